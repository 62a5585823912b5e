import Derived.Test.YtlefdinbbjiabaaProg
import Derived.Test.YtlefdinbbjiabaaS5
set_option linter.unusedVariables false
set_option linter.unusedSimpArgs false
set_option linter.unusedSectionVars false
set_option maxRecDepth 20000
set_option maxHeartbeats 8000000
namespace Go.Proofs.Ytlefdinbbjiabaa.Sx.FX
open Go Go.SX Go.Proofs Go.Proofs.Try FA FB FC FD FE FF FG FH FI FJ FK FL FM FN FO FP FQ FR FS FT
theorem hbd8 : hasBody prog 8 = true := by kernel_rfl
theorem fo37_3 : fo prog 37 3 = some 3 := by kernel_rfl
theorem hbd12 : hasBody prog 12 = true := by kernel_rfl
end Go.Proofs.Ytlefdinbbjiabaa.Sx.FX
namespace Go.Proofs.Ytlefdinbbjiabaa.Sx
open Go Go.SX Go.Proofs Go.Proofs.Try FA FB FC FD FE FF FG FH FI FJ FK FL FM FN FO FP FQ FR FS FT FX
theorem liftLinksF (n : Int) (A : Option Addr) (c : Nat) (l : List AR) (S : Nat → Prop) (wf : World) (hA : Fr eAR S wf A l) (hR : RoadOk n l) :
  TR0 prog 3 [.agg #[.int .i64 n, .slice A l.length c], .bool false] [] S wf (fun v_ C_ => v_ = .bool true ∧ C_ = []) := by
 have hla := hA.len
 have hlen := hR.len
 have hnp := hR.pl
 have hto := tab_ok (d := false) hR
 have htl := hto.len
 have hsq := sq_le hnp
 refine TR.mk func3 G ntmps3 G G (fun w_ => ?_)
 refine .seq (.region (.cons (st_boxa G G G G G (fun b1 => (.a G G G (.go idQ (.seq (.seq (.region ?_)))))))))
 refine .cons (st_callk G G G G hbd8 G .n (awake7_ _ _) ?_)
 refine .v (ev_not G G) G (.go idQ (.cond_f G (.skipgo idQ (.seq (.region ?_)))))
 refine .d 0 ty24 G G G G (.m G G G (.cons (st_call0 G G G G hbd9 G .n (graphF n A c l _ _ hA hR) (fun v_q10 C_q10 q10 => ?_))))
 obtain ⟨b2, u3, v4, fi5, ed6, x7, y8, W9, p11, p12, p13, rfl, rfl⟩ := q10
 show SP _ _ _ _ _ _ ⟨_, _ :: _ :: _ :: _ :: _ :: _, _, _⟩
 have hgl := p11.len
 have hgn := p11.ne
 refine .m G G G (.x G G G G (.x G G G G (.x G G G G ?_)))
 refine .x G G G G (.cons (st_alloc G G G G zf29 (fun b14 => (.cons (st_alloc G G G G zf29 (fun b15 => (.a G G G ?_)))))))
 refine .know (row_len 5 G) (fun hv18 => ?_)
 obtain ⟨A16, c17, rfl, hv18_1, hv18_2⟩ := hv18
 unfold maxLen at hv18_2
 refine .cons (st_storea (l' := [.int .i64 n, .slice A16 ((tabF n false l).length) c17]) G G G ty29 G G G (.t .h) G G ?_)
 refine .know (row_len 6 G) (fun hv21 => ?_)
 obtain ⟨A19, c20, rfl, hv21_1, hv21_2⟩ := hv21
 unfold maxLen at hv21_2
 refine .cons (st_storea (l' := [.int .i64 n, .slice A19 W9.length c20]) G G G ty29 G G G (.t .h) G G ?_)
 refine .a G G G (.go idQ (.seq (.seq (.region (.m G G G (.v (ev_not G G) G ?_))))))
 refine .go idQ (.cond_f G (.skipgo idQ (.seq (.region (.m G G G ?_)))))
 refine .know (row_len 3 G) (fun hv24 => ?_)
 obtain ⟨A22, c23, rfl, hv24_1, hv24_2⟩ := hv24
 unfold maxLen at hv24_2
 refine .know (row_len 4 G) (fun hv27 => ?_)
 obtain ⟨A25, c26, rfl, hv27_1, hv27_2⟩ := hv27
 unfold maxLen at hv27_2
 refine .cons (st_lend0 G G G G hbd10 G (.c (.t2 .h) .n) (.c (.t2 .h) (.c (.t2 .h) .n)) (fun w_ hw => build_ n (tabF n false l) b2 A22 c23 fi5 A25 c26 ed6 _ _ (Fr.lend hw 0 G lO) (Fr.lend hw 1 G lO) hto p11 lO) (fun v_q37 C_q37 q37 => ?_))
 obtain ⟨lb28, v129, v230, v331, v432, R33, K34, U35, D36, p38, rfl, rfl⟩ := q37
 show SP _ _ _ _ _ _ ⟨_, _ :: _ :: _ :: _ :: _ :: _ :: _ :: _ :: _ :: _ :: _, _, _⟩
 have hlo := lok hto p11 p38
 have hRn := hlo.2
 have hL := hlo.1
 have hkl := hL.kl
 refine .a G G G (.go idQ (.seq (.know (row_len 2 G) (fun hv41 => ?_))))
 obtain ⟨A39, c40, rfl, hv41_1, hv41_2⟩ := hv41
 unfold maxLen at hv41_2
 refine .know (row_len 3 G) (fun hv44 => ?_)
 obtain ⟨A42, c43, rfl, hv44_1, hv44_2⟩ := hv44
 unfold maxLen at hv44_2
 refine .know (row_len 4 G) (fun hv47 => ?_)
 obtain ⟨A45, c46, rfl, hv47_1, hv47_2⟩ := hv47
 unfold maxLen at hv47_2
 refine .know (row_len 5 G) (fun hv50 => ?_)
 obtain ⟨A48, c49, rfl, hv50_1, hv50_2⟩ := hv50
 unfold maxLen at hv50_2
 have hrgk := lk_rg hto p11 p38
 refine .region (.m G G G (.cons (st_call0 G G G G hbd11 G (.c (.t .h) (.c (.t .h) (.c (.t .h) (.c (.t .h) (.c (.t .h) (.c (.t .h) (.c (.t .h) .n))))))) (lks_ lb28 A39 c40 R33 A42 c43 K34 A45 c46 U35 A48 c49 D36 _ _ oO) (fun v_q52 C_q52 q52 => ?_))))
 obtain ⟨u51, rfl, rfl⟩ := q52
 show SP _ _ _ _ _ _ ⟨_, _ :: _ :: _ :: _ :: _ :: _ :: _ :: _ :: _, _, _⟩
 refine .a G G G (.go idQ (.seq (.region (.f fo29_0 0 G G G G (.l ty3 11 G G G G G ?_)))))
 refine .v (ev_any (v := .agg #[.int .i64 n, .slice none 0 0]) G kR (fun _ => by kernel_rfl)) G (.cons (st_alloc G G G G zf29 (fun b53 => (.cons (st_storea (l' := [.int .i64 n, .slice none 0 0]) G G G ty29 G G G .h G G (.go idQ (.seq (.seq (.region ?_)))))))))
 refine .a G G G (.go idQ (.block ?_))
 refine SC.nilrow eZ 3 ?_
 refine .loop (X := Int × (List Int) × Value) (fun ⟨k, X, u_X⟩ => 0 ≤ k ∧ k ≤ (n * n) ∧ X = List.replicate k.toNat (-1 : Int)) (fun ⟨k, X, u_X⟩ => [(4, .bool false), (6, .pointer (some ⟨b14, 0, none⟩)), (7, .pointer (some ⟨b15, 0, none⟩)), (9, .pointer (some ⟨lb28, 0, none⟩)), (10, v_q52), (11, .pointer (some ⟨b53, 0, none⟩)), (12, .int .i64 k)]) (fun ⟨k, X, u_X⟩ => [rw_ eZ 3 (u_X) X, cel b53 [.int .i64 n, u_X] 29, cel lb28 [.slice A39 R33.length c40, .slice A42 K34.length c43, .slice A45 U35.length c46, .slice A48 D36.length c49] 68, rw_ eZ 3 (.slice A39 R33.length c40) R33, rw_ eLK 37 (.slice A42 K34.length c43) K34, rw_ eIL 27 (.slice A45 U35.length c46) U35, rw_ eIL 27 (.slice A48 D36.length c49) D36, nestIL 3 U35, nestIL 3 D36, rw_ eLK 37 (v_q52) K34, cel b2 [.slice A22 fi5.length c23, .slice A25 ed6.length c26] 83, rw_ eZ 3 (.slice A22 fi5.length c23) fi5, rw_ eEG 64 (.slice A25 ed6.length c26) ed6, cel b15 [.int .i64 n, .slice A19 W9.length c20] 29, cel b14 [.int .i64 n, .slice A16 ((tabF n false l).length) c17] 29, rw_ eZ 3 (.slice A16 ((tabF n false l).length) c17) (tabF n false l), rw_ eZ 3 (.slice A19 W9.length c20) W9, cel b1 [.int .i64 n, .slice A l.length c] 24]) (fun _ => S) (fun _ => wf) (fun ⟨k, X, u_X⟩ => ((n * n) - k).toNat) (fun a_ w_ hs_ hw_ => ⟨⟨0, ([] : List Int), .slice none 0 0⟩, (by (try dsimp only); exact ⟨oO, oO, (by rfl)⟩), hs_.mono (Sub.get (.c4 G G G G (.c G (.c G (.c G .n))))), hw_.keep (.d (.d (.d (.d (.d (.d (.d (.d (.d .n)))))))))⟩) (fun ⟨k, X, u_X⟩ ⟨q_0, q_1, q_2⟩ => ?_)
 try dsimp only
 have hxl : X.length = k.toNat := by rw [q_2, List.length_replicate]
 refine .seq (.seq (.region (.m G G G (.f fo29_0 0 G G G G (.l ty3 13 G G G G G ?_)))))
 refine .f fo29_0 0 G G G G (.l ty3 13 G G G G G (.v (ev_mul G G G (r := (n * n)) G oO oO) G (.e G G G G G ?_)))
 refine .go idQ (.condI G bD (fun h54 => ?_) (fun h54 => ?_))
 ·
  refine .skipgo idQ (.seq (.block (.region (.f fo29_1 1 G G G G (.l ty27 1 G G G G G (.cons (st_lit eZ (e := 3) (l := [(-1)]) G G G G kR G G kW (fun b55 => ?_))))))))
  refine .cons (st_app (E := eZ) (m := [(-1)]) G G G G underlying27 ai3 G G G (.t .h) rO (row_src 0 G) lO G (fun v56 => ?_))
  refine .f fo29_1 1 G G G G (.know (row_len 0 G) (fun hv59 => ?_))
  obtain ⟨A57, c58, rfl, hv59_1, hv59_2⟩ := hv59
  unfold maxLen at hv59_2
  refine .cons (st_store1 G G G ty27 G G G (.t2 .h) (.t .h) ?_)
  refine .go idQ (.region (.m G G G (.p ((k + 1)) oO oO G G G G G (.a G G G ?_))))
  exact SP.nil (SQ.roundb (X := Int × (List Int) × Value) (x := (k, X, u_X)) ⟨(k + 1), (X ++ [(-1)]), .slice A57 ((X ++ [(-1)]).length) c58⟩ (by (try dsimp only); exact ⟨oO, oO, (by rw [q_2]; exact (rep_snoc q_0).symm)⟩) dO (Sub.get (.c4 G G G G (.c G (.c G (.c G .n))))) (kp (.c (.t .h) (.c .h (.c (.t .h) (.c (.t .h) (.c (.t .h) (.c (.t .h) (.c (.t .h) (.c (.t .h) (.c (.t .h) (.c (.t .h) (.c (.t .h) (.c (.t .h) (.c (.t .h) (.c (.t .h) (.c (.t .h) (.c (.t .h) (.c (.t .h) (.c (.t .h) .n))))))))))))))))))))
 refine .exit idQ ?_
 refine .seq (.seq (.know (row_len 0 G) (fun hv62 => ?_)))
 obtain ⟨A60, c61, rfl, hv62_1, hv62_2⟩ := hv62
 unfold maxLen at hv62_2
 obtain rfl : k = n * n := by omega
 refine .region (.m G G G (.know (row_len 9 G) (fun hv65 => ?_)))
 obtain ⟨A63, c64, rfl, hv65_1, hv65_2⟩ := hv65
 unfold maxLen at hv65_2
 refine .g underlying34 G G G (.m G G G (.go idQ (.block (.loop (X := Int × (List Int) × Value) (fun ⟨i, Y, u_Y⟩ => 0 ≤ i ∧ i ≤ (K34.length : Int) ∧ Y = (K34.take i.toNat).foldl (minSt n) (List.replicate (n * n).toNat (-1 : Int)) ∧ Y.length = (n * n).toNat) (fun ⟨i, Y, u_Y⟩ => [(6, .pointer (some ⟨b14, 0, none⟩)), (7, .pointer (some ⟨b15, 0, none⟩)), (9, .pointer (some ⟨lb28, 0, none⟩)), (10, .slice A63 K34.length c64), (11, .pointer (some ⟨b53, 0, none⟩)), (12, .int .i64 (n * n)), (54, .slice A63 K34.length c64), (55, .int .i64 (K34.length : Int)), (56, .int .i64 i)]) (fun ⟨i, Y, u_Y⟩ => [rw_ eZ 3 (u_Y) Y, cel b53 [.int .i64 n, u_Y] 29, cel lb28 [.slice A39 R33.length c40, .slice A42 K34.length c43, .slice A45 U35.length c46, .slice A48 D36.length c49] 68, rw_ eZ 3 (.slice A39 R33.length c40) R33, rw_ eLK 37 (.slice A42 K34.length c43) K34, rw_ eIL 27 (.slice A45 U35.length c46) U35, rw_ eIL 27 (.slice A48 D36.length c49) D36, nestIL 3 U35, nestIL 3 D36, rw_ eLK 37 (.slice A63 K34.length c64) K34, cel b2 [.slice A22 fi5.length c23, .slice A25 ed6.length c26] 83, rw_ eZ 3 (.slice A22 fi5.length c23) fi5, rw_ eEG 64 (.slice A25 ed6.length c26) ed6, cel b15 [.int .i64 n, .slice A19 W9.length c20] 29, cel b14 [.int .i64 n, .slice A16 ((tabF n false l).length) c17] 29, rw_ eZ 3 (.slice A16 ((tabF n false l).length) c17) (tabF n false l), rw_ eZ 3 (.slice A19 W9.length c20) W9, cel b1 [.int .i64 n, .slice A l.length c] 24]) (fun _ => S) (fun _ => wf) (fun ⟨i, Y, u_Y⟩ => ((K34.length : Int) - i).toNat) (fun a_ w_ hs_ hw_ => ⟨⟨0, X, .slice A60 X.length c61⟩, (by (try dsimp only); exact ⟨oO, oO, (by assumption), oO⟩), hs_.mono (Sub.get (.c4 G G G G (.c4 G G G G (.c G .n)))), hw_.keep (.d (.d (.d (.d (.d (.d (.d (.d (.d .n)))))))))⟩) (fun ⟨i, Y, u_Y⟩ ⟨r_0, r_1, r_2, r_3⟩ => ?_)))))
 try dsimp only
 refine .seq (.region (.e G G G G G (.go idQ (.seq (.condI G bD (fun h66 => ?_) (fun h66 => ?_))))))
 ·
  refine .skipgo idQ (.seq (.block (.seq (.region (.v (ev_ix G underlying34 ty37 G G oO oO (row_adr (i := i) 9 G oO oO)) G (.v (ev_lda G G (row_el (E := eLK) (l := K34) (i := i) 9 G oO oO) ty37) G (.cons (st_alloc G G G G zf37 (fun b67 => ?_)))))))))
  refine .cons (st_storea (l' := [.int .i64 ((gt K34 i).lf), .int .i64 ((gt K34 i).lt), .int .i64 ((gt K34 i).lw), .int .i64 ((gt K34 i).lm)]) G G G ty37 G G G .h G G ?_)
  refine .go idQ (.seq (.seq ?_))
  have hxr := hrgk i oO oO
  have hix := idx_rng (n := n) (a := (gt K34 i).lf) (b := (gt K34 i).lt) ⟨by omega, by omega⟩ ⟨by omega, by omega⟩
  refine .region (.f fo37_0 0 G G G G (.l ty3 0 G G G G G (.e G G G G G ?_)))
  refine .m G G G (.w (fun _ => ev_fa G fo37_1 G (r := 1) G) G (.w (fun hb => ev_ld1 G ty3 (lkg G hb) (At.own1 0 G G)) G (.w (fun hb => ev_cmp G (lkg G hb) G G) G ?_)))
  refine .r G G G G G (.m G G G (.w (fun _ => ev_fa G fo37_0 G (r := 0) G) G (.w (fun hb => ev_ld1 G ty3 (lkg G hb) (At.own1 0 G G)) G ?_)))
  refine .w (fun _ => ev_fa G fo29_0 G (r := 0) G) G (.w (fun hb => ev_ld1 G ty3 (lkg G hb) (At.own1 14 G G)) G (.w (fun hb => ev_cmp G (lkg G hb) (lkg G hb) G) G (.r G G G G G ?_)))
  refine .m G G G (.w (fun _ => ev_fa G fo37_1 G (r := 1) G) G (.w (fun hb => ev_ld1 G ty3 (lkg G hb) (At.own1 0 G G)) G (.w (fun _ => ev_fa G fo29_0 G (r := 0) G) G ?_)))
  refine .w (fun hb => ev_ld1 G ty3 (lkg G hb) (At.own1 14 G G)) G (.w (fun hb => ev_cmp G (lkg G hb) (lkg G hb) G) G (.r G G G G G (.m G G G ?_)))
  refine .w (fun _ => ev_fa G fo37_0 G (r := 0) G) G (.w (fun hb => ev_ld1 G ty3 (lkg G hb) (At.own1 0 G G)) G (.w (fun _ => ev_fa G fo37_1 G (r := 1) G) G (.w (fun hb => ev_ld1 G ty3 (lkg G hb) (At.own1 0 G G)) G ?_)))
  refine .w (fun hb => ev_cmp G (lkg G hb) (lkg G hb) G) G (.r G G G G G (.go idQ (.condI G (bO (bO (bO (bO bD bD) bD) bD) bE) (fun h68 => ?_) (fun h68 => ?_))))
  ·
   exfalso; omega
  refine .skipgo idQ (.seq (.region (.f fo29_1 1 G G G G (.l ty27 2 G G G G G (.f fo37_0 0 G G G G ?_)))))
  refine .l ty3 0 G G G G G (.f fo29_0 0 G G G G (.l ty3 14 G G G G G (.v (ev_mul G G G (r := (((gt K34 i).lf) * n)) G oO oO) G ?_)))
  refine .f fo37_1 1 G G G G (.l ty3 0 G G G G G (.v (ev_add G G G (r := ((((gt K34 i).lf) * n) + ((gt K34 i).lt))) G oO oO) G (.know (row_len 1 G) (fun hv71 => ?_))))
  obtain ⟨A69, c70, rfl, hv71_1, hv71_2⟩ := hv71
  unfold maxLen at hv71_2
  refine .v (ev_ix G underlying27 ty3 G G oO oO (row_adr (i := ((((gt K34 i).lf) * n) + ((gt K34 i).lt))) 1 G oO oO)) G (.a G G G (.go idQ (.seq ?_)))
  refine SC.draw mo [] [] .n (fun _ _ _ => sc0) (fun wf_72 hl_72 hx_72 hR_72 => ?_)
  refine SR.m 0 G G G G ?_
  refine SR.z 1 G G (ev_nil G G) ?_
  refine SR.z 2 G G (ev_ld1 G ty3 G (At.elem1 (At.d (Fr.el (i := ((((gt K34 i).lf) * n) + ((gt K34 i).lt))) (Fr.lent (S := S) hR_72 1 G lO) oO oO)) 0 G)) ?_
  refine SR.z 3 G G (ev_cmp G G G G) ?_
  refine SR.m 4 G G G G ?_
  refine SR.y 5 G G (fun _ => ev_fa G fo37_2 G (r := 2) G) ?_
  refine SR.y 6 G G (fun hb => ev_ld1 G ty3 (lkg G hb) (At.d (At.lent hR_72 0 G G))) ?_
  refine SR.y 7 G G (fun _ => ev_mv G G) ?_
  refine SR.y 8 G G (fun hb => ev_nil G (lkg G hb)) ?_
  refine SR.y 9 G G (fun hb => have hp := bF bD hb; ev_ld1 G ty3 (lkg G hb) (At.elem1 (At.d (Fr.el (i := ((((gt K34 i).lf) * n) + ((gt K34 i).lt))) (Fr.lent (S := S) hR_72 1 G lO) (by have _h := hp; omega) (by have _h := hp; omega))) 0 G)) ?_
  refine SR.y 10 G G (fun hb => ev_cmp G (lkg G hb) (lkg G hb) G) ?_
  refine SR.z 11 G G (ev_or G G G G) ?_
  refine SR.fin kR hl_72 hx_72 hR_72 .n ?_
  refine SQ.go idQ ?_
  refine .condI G (bO bD bD) (fun h73 => ?_) (fun h73 => ?_)
  ·
   refine .region (.m G G G (.f fo37_2 2 G G G G (.l ty3 0 G G G G G ?_)))
   refine .v (ev_nil G G) G (.cons (st_setel (E := eZ) (i := ((((gt K34 i).lf) * n) + ((gt K34 i).lt))) (cs := [.int .i64 ((gt K34 i).lw)]) (off := 0) ((gt K34 i).lw) G G G ty3 G G G G G (.t .h) lO lO (Nat.le_of_ble_eq_true G) G (.go idQ (.region (.p ((i + 1)) oO oO G G G G G ?_)))))
   refine .m G G G ?_
   exact SP.nil (SQ.roundb (X := Int × (List Int) × Value) (x := (i, Y, (.slice A69 Y.length c70))) ⟨(i + 1), (Y.set (((((gt K34 i).lf) * n) + ((gt K34 i).lt))).toNat ((gt K34 i).lw)), .slice A69 Y.length c70⟩ (by (try dsimp only); exact ⟨oO, oO, (ls_yes r_2 oO oO h73), (by (try rw [List.length_set]); exact r_3)⟩) dO (Sub.get (.c4 G G G G (.c4 G G G G (.c G .n)))) (kp (.c .h (.c (.t .h) (.c (.t .h) (.c (.t .h) (.c (.t .h) (.c (.t .h) (.c (.t .h) (.c (.t .h) (.c (.t .h) (.c (.t .h) (.c (.t .h) (.c (.t .h) (.c (.t .h) (.c (.t .h) (.c (.t .h) (.c (.t .h) (.c (.t .h) (.c (.t .h) .n))))))))))))))))))))
  refine .skipgo idQ (.region (.p ((i + 1)) oO oO G G G G G (.m G G G ?_)))
  exact SP.nil (SQ.roundb (X := Int × (List Int) × Value) (x := (i, Y, (.slice A69 Y.length c70))) ⟨(i + 1), Y, .slice A69 Y.length c70⟩ (by (try dsimp only); exact ⟨oO, oO, (ls_no r_2 oO oO h73), (by (try rw [List.length_set]); exact r_3)⟩) dO (Sub.get (.c4 G G G G (.c4 G G G G (.c G .n)))) (kp (.c (.t .h) (.c (.t .h) (.c (.t .h) (.c (.t .h) (.c (.t .h) (.c (.t .h) (.c (.t .h) (.c (.t .h) (.c (.t .h) (.c (.t .h) (.c (.t .h) (.c (.t .h) (.c (.t .h) (.c (.t .h) (.c (.t .h) (.c (.t .h) (.c (.t .h) (.c (.t .h) .n))))))))))))))))))))
 refine .exit idQ ?_
 refine .seq (.seq ?_)
 have hF := lkf (Y := Y) hto p11 p38 (by rw [r_2, List.take_of_length_le oO])
 refine .region (.m G G G (.g underlying34 G G G (.m G G G ?_)))
 refine .go idQ (.block (.loop (X := Int) (fun j => 0 ≤ j ∧ j ≤ (K34.length : Int)) (fun j => [(6, .pointer (some ⟨b14, 0, none⟩)), (7, .pointer (some ⟨b15, 0, none⟩)), (9, .pointer (some ⟨lb28, 0, none⟩)), (10, .slice A63 K34.length c64), (11, .pointer (some ⟨b53, 0, none⟩)), (12, .int .i64 (n * n)), (54, .slice A63 K34.length c64), (55, .int .i64 (K34.length : Int)), (56, .int .i64 i), (117, .slice A63 K34.length c64), (118, .int .i64 (K34.length : Int)), (119, .int .i64 j)]) (fun j => [rw_ eZ 3 (u_Y) Y, cel b53 [.int .i64 n, u_Y] 29, cel lb28 [.slice A39 R33.length c40, .slice A42 K34.length c43, .slice A45 U35.length c46, .slice A48 D36.length c49] 68, rw_ eZ 3 (.slice A39 R33.length c40) R33, rw_ eLK 37 (.slice A42 K34.length c43) K34, rw_ eIL 27 (.slice A45 U35.length c46) U35, rw_ eIL 27 (.slice A48 D36.length c49) D36, nestIL 3 U35, nestIL 3 D36, rw_ eLK 37 (.slice A63 K34.length c64) K34, cel b2 [.slice A22 fi5.length c23, .slice A25 ed6.length c26] 83, rw_ eZ 3 (.slice A22 fi5.length c23) fi5, rw_ eEG 64 (.slice A25 ed6.length c26) ed6, cel b15 [.int .i64 n, .slice A19 W9.length c20] 29, cel b14 [.int .i64 n, .slice A16 ((tabF n false l).length) c17] 29, rw_ eZ 3 (.slice A16 ((tabF n false l).length) c17) (tabF n false l), rw_ eZ 3 (.slice A19 W9.length c20) W9, cel b1 [.int .i64 n, .slice A l.length c] 24]) (fun _ => S) (fun _ => wf) (fun j => ((K34.length : Int) - j).toNat) (fun a_ w_ hs_ hw_ => ⟨0, (by (try dsimp only); exact ⟨oO, oO⟩), hs_.mono (Sub.get (.c4 G G G G (.c4 G G G G (.c4 G G G G .n)))), hw_.keep (.d (.d (.d (.d (.d (.d (.d (.d (.d .n)))))))))⟩) (fun j ⟨s_0, s_1⟩ => ?_)))
 try dsimp only
 refine .seq (.region (.e G G G G G (.go idQ (.seq (.condI G bD (fun h74 => ?_) (fun h74 => ?_))))))
 ·
  refine .skipgo idQ (.seq (.block (.seq (.region (.v (ev_ix G underlying34 ty37 G G oO oO (row_adr (i := j) 9 G oO oO)) G (.v (ev_lda G G (row_el (E := eLK) (l := K34) (i := j) 9 G oO oO) ty37) G (.cons (st_alloc G G G G zf37 (fun b75 => ?_)))))))))
  refine .cons (st_storea (l' := [.int .i64 ((gt K34 j).lf), .int .i64 ((gt K34 j).lt), .int .i64 ((gt K34 j).lw), .int .i64 ((gt K34 j).lm)]) G G G ty37 G G G .h G G ?_)
  refine .go idQ (.seq (.seq ?_))
  have hxr := hrgk j oO oO
  have hmd := hF.md j oO oO
  have hsc := hF.sc j oO oO
  have hix := idx_rng (n := n) (a := (gt K34 j).lf) (b := (gt K34 j).lt) ⟨by omega, by omega⟩ ⟨by omega, by omega⟩
  refine .region (.f fo37_3 3 G G G G (.l ty3 0 G G G G G (.e G G G G G ?_)))
  refine .go idQ (.condI G bE (fun h76 => ?_) (fun h76 => ?_))
  ·
   refine .seq (.seq ?_)
   have hmd1 := hmd h76
   refine SC.draw mo [] [] .n (fun _ _ _ => sc0) (fun wf_77 hl_77 hx_77 hR_77 => ?_)
   refine SR.z 0 G G (ev_fa G fo29_1 G (r := 1) G) ?_
   refine SR.z 1 G G (ev_ld1 G ty27 G (At.d (At.lent hR_77 15 G G))) ?_
   refine SR.z 2 G G (ev_fa G fo37_0 G (r := 0) G) ?_
   refine SR.z 3 G G (ev_ld1 G ty3 G (At.d (At.lent hR_77 0 G G))) ?_
   refine SR.z 4 G G (ev_fa G fo29_0 G (r := 0) G) ?_
   refine SR.z 5 G G (ev_ld1 G ty3 G (At.d (At.lent hR_77 14 G G))) ?_
   refine SR.z 6 G G (ev_mul G G G (r := (((gt K34 j).lf) * n)) G oO oO) ?_
   refine SR.z 7 G G (ev_fa G fo37_1 G (r := 1) G) ?_
   refine SR.z 8 G G (ev_ld1 G ty3 G (At.d (At.lent hR_77 0 G G))) ?_
   refine SR.z 9 G G (ev_add G G G (r := ((((gt K34 j).lf) * n) + ((gt K34 j).lt))) G oO oO) ?_
   refine SR.z 10 G G (ev_ix G underlying27 ty3 G G oO oO (fun _ _ => Fr.adr (i := ((((gt K34 j).lf) * n) + ((gt K34 j).lt))) (Fr.lent (S := S) hR_77 16 G lO) oO oO)) ?_
   refine SR.z 11 G G (ev_ld1 G ty3 G (At.elem1 (At.d (Fr.el (i := ((((gt K34 j).lf) * n) + ((gt K34 j).lt))) (Fr.lent (S := S) hR_77 16 G lO) oO oO)) 0 G)) ?_
   refine SR.z 12 G G (ev_fa G fo37_2 G (r := 2) G) ?_
   refine SR.z 13 G G (ev_ld1 G ty3 G (At.d (At.lent hR_77 0 G G))) ?_
   refine SR.z 14 G G (ev_cmp G G G G) ?_
   refine SR.fin kR hl_77 hx_77 hR_77 .n ?_
   refine SQ.go idQ ?_
   refine .condI G bNE (fun h78 => ?_) (fun h78 => ?_)
   ·
    exfalso; omega
   refine .skipgo idQ (.exit idQ (.region (.p ((j + 1)) oO oO G G G G G ?_)))
   refine .m G G G ?_
   exact SP.nil (SQ.roundb (X := Int) (x := (j)) (j + 1) (by (try dsimp only); exact ⟨oO, oO⟩) (by show (_ : Nat) < _; omega) (Sub.get (.c4 G G G G (.c4 G G G G (.c4 G G G G .n)))) (kp (.c (.t .h) (.c (.t .h) (.c (.t .h) (.c (.t .h) (.c (.t .h) (.c (.t .h) (.c (.t .h) (.c (.t .h) (.c (.t .h) (.c (.t .h) (.c (.t .h) (.c (.t .h) (.c (.t .h) (.c (.t .h) (.c (.t .h) (.c (.t .h) (.c (.t .h) (.c (.t .h) .n))))))))))))))))))))
  refine .skipgo idQ (.seq (.seq ?_))
  have hsc1 := hsc h76
  have hi1 := idx_rng (n := n) (a := (gt K34 j).lf) (b := (gt K34 j).lm) ⟨by omega, by omega⟩ ⟨by omega, by omega⟩
  have hi2 := idx_rng (n := n) (a := (gt K34 j).lm) (b := (gt K34 j).lt) ⟨by omega, by omega⟩ ⟨by omega, by omega⟩
  refine SC.draw mo [cel lb28 [.slice A39 R33.length c40, .slice A42 K34.length c43, .slice A45 U35.length c46, .slice A48 D36.length c49] 68, rw_ eZ 3 (.slice A39 R33.length c40) R33, rw_ eLK 37 (.slice A42 K34.length c43) K34, rw_ eIL 27 (.slice A45 U35.length c46) U35, rw_ eIL 27 (.slice A48 D36.length c49) D36, nestIL 3 U35, nestIL 3 D36] [] (.c (.t2 (.t .h)) (.c (.t2 (.t .h)) (.c (.t2 (.t .h)) (.c (.t2 (.t .h)) (.c (.t2 (.t .h)) (.c (.t2 (.t .h)) (.c (.t2 (.t .h)) .n))))))) (fun _ _ _ => sc0) (fun wf_79 hl_79 hx_79 hR_79 => ?_)
  refine SR.z 0 G G (ev_fa G fo37_3 G (r := 3) G) ?_
  refine SR.z 1 G G (ev_ld1 G ty3 G (At.d (At.lent hR_79 0 G G))) ?_
  refine SR.z 2 G G (ev_cmp G G G G) ?_
  refine SR.m 3 G G G G ?_
  refine SR.y 4 G G (fun _ => ev_fa G fo37_3 G (r := 3) G) ?_
  refine SR.y 5 G G (fun hb => ev_ld1 G ty3 (lkg G hb) (At.d (At.lent hR_79 0 G G))) ?_
  refine SR.y 6 G G (fun _ => ev_fa G fo29_0 G (r := 0) G) ?_
  refine SR.y 7 G G (fun hb => ev_ld1 G ty3 (lkg G hb) (At.d (At.lent hR_79 7 G G))) ?_
  refine SR.y 8 G G (fun hb => ev_cmp G (lkg G hb) (lkg G hb) G) ?_
  refine SR.z 9 G G (ev_or G G G G) ?_
  refine SR.m 10 G G G G ?_
  refine SR.y 11 G G (fun _ => ev_mv G G) ?_
  refine SR.y 12 G G (fun _ => ev_fa G fo37_3 G (r := 3) G) ?_
  refine SR.y 13 G G (fun hb => ev_ld1 G ty3 (lkg G hb) (At.d (At.lent hR_79 0 G G))) ?_
  refine SR.y 15 G G (fun _ => ev_mv G G) ?_
  refine SR.y 16 G G (fun _ => ev_fa G fo37_0 G (r := 0) G) ?_
  refine SR.y 17 G G (fun hb => ev_ld1 G ty3 (lkg G hb) (At.d (At.lent hR_79 0 G G))) ?_
  refine SR.o 14 G (st_gcallk G G G G G G hbd12 (fun hb => (lkA1 (lkg G hb) (lkA1 (lkg G hb) lkA0))) (.d (.d (.d (.c .h .n)))) (fun hb => have hp := bF (bO bD bD) hb; lrk_ lb28 A39 c40 R33 A42 c43 K34 A45 c46 U35 A48 c49 D36 ((gt K34 j).lm) _ _) ⟨tt0, ?_⟩)
  refine SR.o 18 G (st_gcallk G G G G G G hbd12 (fun hb => (lkA1 (lkg G hb) (lkA1 (lkg G hb) lkA0))) (.d (.d (.d (.c .h .n)))) (fun hb => have hp := bF (bO bD bD) hb; lrk_ lb28 A39 c40 R33 A42 c43 K34 A45 c46 U35 A48 c49 D36 ((gt K34 j).lf) _ _) ⟨tt0, ?_⟩)
  refine SR.y 19 G G (fun hb => ev_cmp G (lkg G hb) (lkg G hb) G) ?_
  refine SR.z 20 G G (ev_or G G G G) ?_
  refine SR.m 21 G G G G ?_
  refine SR.y 22 G G (fun _ => ev_mv G G) ?_
  refine SR.y 23 G G (fun _ => ev_fa G fo37_3 G (r := 3) G) ?_
  refine SR.y 24 G G (fun hb => ev_ld1 G ty3 (lkg G hb) (At.d (At.lent hR_79 0 G G))) ?_
  refine SR.y 26 G G (fun _ => ev_mv G G) ?_
  refine SR.y 27 G G (fun _ => ev_fa G fo37_1 G (r := 1) G) ?_
  refine SR.y 28 G G (fun hb => ev_ld1 G ty3 (lkg G hb) (At.d (At.lent hR_79 0 G G))) ?_
  refine SR.o 25 G (st_gcallk G G G G G G hbd12 (fun hb => (lkA1 (lkg G hb) (lkA1 (lkg G hb) lkA0))) (.d (.d (.d (.c .h .n)))) (fun hb => have hp := bF (bO (bO bD bD) bD) hb; lrk_ lb28 A39 c40 R33 A42 c43 K34 A45 c46 U35 A48 c49 D36 ((gt K34 j).lm) _ _) ⟨tt0, ?_⟩)
  refine SR.o 29 G (st_gcallk G G G G G G hbd12 (fun hb => (lkA1 (lkg G hb) (lkA1 (lkg G hb) lkA0))) (.d (.d (.d (.c .h .n)))) (fun hb => have hp := bF (bO (bO bD bD) bD) hb; lrk_ lb28 A39 c40 R33 A42 c43 K34 A45 c46 U35 A48 c49 D36 ((gt K34 j).lt) _ _) ⟨tt0, ?_⟩)
  refine SR.y 30 G G (fun hb => ev_cmp G (lkg G hb) (lkg G hb) G) ?_
  refine SR.z 31 G G (ev_or G G G G) ?_
  refine SR.fin kR hl_79 hx_79 hR_79 (.c (.c (.c (.c (.c (.c (.c .n))))))) ?_
  refine SQ.go idQ ?_
  refine .condI G (bO (bO (bO bD bD) bD) bD) (fun h80 => ?_) (fun h80 => ?_)
  ·
   exfalso; omega
  refine .skipgo idQ (.seq (.know (row_len 8 G) (fun hv83 => ?_)))
  obtain ⟨A81, c82, rfl, hv83_1, hv83_2⟩ := hv83
  unfold maxLen at hv83_2
  refine SC.draw mo [] [] .n (fun _ _ _ => sc0) (fun wf_84 hl_84 hx_84 hR_84 => ?_)
  refine SR.z 0 G G (ev_fa G fo29_1 G (r := 1) G) ?_
  refine SR.z 1 G G (ev_ld1 G ty27 G (At.d (At.lent hR_84 9 G G))) ?_
  refine SR.z 2 G G (ev_fa G fo37_0 G (r := 0) G) ?_
  refine SR.z 3 G G (ev_ld1 G ty3 G (At.d (At.lent hR_84 7 G G))) ?_
  refine SR.z 4 G G (ev_fa G fo29_0 G (r := 0) G) ?_
  refine SR.z 5 G G (ev_ld1 G ty3 G (At.d (At.lent hR_84 14 G G))) ?_
  refine SR.z 6 G G (ev_mul G G G (r := (((gt K34 j).lf) * n)) G oO oO) ?_
  refine SR.z 7 G G (ev_fa G fo37_3 G (r := 3) G) ?_
  refine SR.z 8 G G (ev_ld1 G ty3 G (At.d (At.lent hR_84 7 G G))) ?_
  refine SR.z 9 G G (ev_add G G G (r := ((((gt K34 j).lf) * n) + ((gt K34 j).lm))) G oO oO) ?_
  refine SR.z 10 G G (ev_ix G underlying27 ty3 G G oO oO (fun _ _ => Fr.adr (i := ((((gt K34 j).lf) * n) + ((gt K34 j).lm))) (Fr.lent (S := S) hR_84 8 G lO) oO oO)) ?_
  refine SR.z 11 G G (ev_ld1 G ty3 G (At.elem1 (At.d (Fr.el (i := ((((gt K34 j).lf) * n) + ((gt K34 j).lm))) (Fr.lent (S := S) hR_84 8 G lO) oO oO)) 0 G)) ?_
  refine SR.z 12 G G (ev_fa G fo29_1 G (r := 1) G) ?_
  refine SR.z 13 G G (ev_ld1 G ty27 G (At.d (At.lent hR_84 9 G G))) ?_
  refine SR.z 14 G G (ev_fa G fo37_3 G (r := 3) G) ?_
  refine SR.z 15 G G (ev_ld1 G ty3 G (At.d (At.lent hR_84 7 G G))) ?_
  refine SR.z 16 G G (ev_fa G fo29_0 G (r := 0) G) ?_
  refine SR.z 17 G G (ev_ld1 G ty3 G (At.d (At.lent hR_84 14 G G))) ?_
  refine SR.z 18 G G (ev_mul G G G (r := (((gt K34 j).lm) * n)) G oO oO) ?_
  refine SR.z 19 G G (ev_fa G fo37_1 G (r := 1) G) ?_
  refine SR.z 20 G G (ev_ld1 G ty3 G (At.d (At.lent hR_84 7 G G))) ?_
  refine SR.z 21 G G (ev_add G G G (r := ((((gt K34 j).lm) * n) + ((gt K34 j).lt))) G oO oO) ?_
  refine SR.z 22 G G (ev_ix G underlying27 ty3 G G oO oO (fun _ _ => Fr.adr (i := ((((gt K34 j).lm) * n) + ((gt K34 j).lt))) (Fr.lent (S := S) hR_84 8 G lO) oO oO)) ?_
  refine SR.z 23 G G (ev_ld1 G ty3 G (At.elem1 (At.d (Fr.el (i := ((((gt K34 j).lm) * n) + ((gt K34 j).lt))) (Fr.lent (S := S) hR_84 8 G lO) oO oO)) 0 G)) ?_
  refine SR.z 24 G G (ev_as G G) ?_
  refine SR.z 25 G G (ev_as G G) ?_
  refine SR.fin kR hl_84 hx_84 hR_84 .n ?_
  refine SQ.go idQ ?_
  refine .seq (.region (.m G G G (.e G G G G G (.m G G G ?_))))
  refine .w (fun _ => ev_mv G G) G (.w (fun hb => ev_cmp G (lkg G hb) G G) G (.r G G G G G (.m G G G ?_)))
  refine .w (fun _ => ev_mv G G) G (.w (fun _ => ev_mv G G) G (.w (fun hb => have hp := bF (bO bD bD) hb; ev_add G (lkg G hb) (lkg G hb) (r := ((gt Y ((((gt K34 j).lf) * n) + ((gt K34 j).lm))) + (gt Y ((((gt K34 j).lm) * n) + ((gt K34 j).lt))))) G (by have _h := hp; omega) (by have _h := hp; omega)) G (.w (fun _ => ev_fa G fo37_2 G (r := 2) G) G ?_)))
  refine .w (fun hb => ev_ld1 G ty3 (lkg G hb) (At.own1 7 G G)) G (.w (fun hb => ev_cmp G (lkg G hb) (lkg G hb) G) G (.r G G G G G (.go idQ ?_)))
  refine .condI G (bO (bO bD bD) bNE) (fun h85 => ?_) (fun h85 => ?_)
  ·
   exfalso; omega
  refine .skipgo idQ (.region (.p ((j + 1)) oO oO G G G G G (.m G G G ?_)))
  exact SP.nil (SQ.roundb (X := Int) (x := (j)) (j + 1) (by (try dsimp only); exact ⟨oO, oO⟩) (by show (_ : Nat) < _; omega) (Sub.get (.c4 G G G G (.c4 G G G G (.c4 G G G G .n)))) (kp (.c (.t4 (.t4 .h)) (.c (.t4 (.t4 .h)) (.d (.d (.d (.c .h (.c (.t .h) (.c (.t .h) (.c (.t .h) (.c (.t .h) (.c (.t .h) (.c (.t .h) (.c (.t .h) (.c (.t .h) (.c (.t .h) .n)))))))))))))))))
 refine .exit idQ ?_
 refine .seq (.seq (.region (.f fo29_1 1 G G G G (.l ty27 14 G G G G G (.g underlying27 G G G ?_)))))
 refine .m G G G (.go idQ (.block (.loop (X := Int) (fun e => 0 ≤ e ∧ e ≤ ((tabF n false l).length : Int)) (fun e => [(6, .pointer (some ⟨b14, 0, none⟩)), (7, .pointer (some ⟨b15, 0, none⟩)), (9, .pointer (some ⟨lb28, 0, none⟩)), (10, .slice A63 K34.length c64), (11, .pointer (some ⟨b53, 0, none⟩)), (12, .int .i64 (n * n)), (54, .slice A63 K34.length c64), (55, .int .i64 (K34.length : Int)), (56, .int .i64 i), (117, .slice A63 K34.length c64), (118, .int .i64 (K34.length : Int)), (119, .int .i64 j), (214, .int .i64 (((tabF n false l).length : Nat) : Int)), (215, .int .i64 e)]) (fun e => [rw_ eZ 3 (u_Y) Y, cel b53 [.int .i64 n, u_Y] 29, cel lb28 [.slice A39 R33.length c40, .slice A42 K34.length c43, .slice A45 U35.length c46, .slice A48 D36.length c49] 68, rw_ eZ 3 (.slice A39 R33.length c40) R33, rw_ eLK 37 (.slice A42 K34.length c43) K34, rw_ eIL 27 (.slice A45 U35.length c46) U35, rw_ eIL 27 (.slice A48 D36.length c49) D36, nestIL 3 U35, nestIL 3 D36, rw_ eLK 37 (.slice A63 K34.length c64) K34, cel b2 [.slice A22 fi5.length c23, .slice A25 ed6.length c26] 83, rw_ eZ 3 (.slice A22 fi5.length c23) fi5, rw_ eEG 64 (.slice A25 ed6.length c26) ed6, cel b15 [.int .i64 n, .slice A19 W9.length c20] 29, cel b14 [.int .i64 n, .slice A16 ((tabF n false l).length) c17] 29, rw_ eZ 3 (.slice A16 ((tabF n false l).length) c17) (tabF n false l), rw_ eZ 3 (.slice A19 W9.length c20) W9, cel b1 [.int .i64 n, .slice A l.length c] 24]) (fun _ => S) (fun _ => wf) (fun e => (((tabF n false l).length : Int) - e).toNat) (fun a_ w_ hs_ hw_ => ⟨0, (by (try dsimp only); exact ⟨oO, oO⟩), hs_.mono (Sub.get (.c4 G G G G (.c4 G G G G (.c4 G G G G (.c G (.c G .n)))))), hw_.keep (.d (.d (.d (.d (.d (.d (.d (.d (.d .n)))))))))⟩) (fun e ⟨t_0, t_1⟩ => ?_))))
 try dsimp only
 refine .seq (.region (.e G G G G G (.go idQ (.seq (.condI G bD (fun h86 => ?_) (fun h86 => ?_))))))
 ·
  refine .skipgo idQ (.seq (.block (.seq (.region (.m G G G (.a G G G (.go idQ (.seq ?_))))))))
  have htb := hF.tb e oO oO
  refine .know (row_len 0 G) (fun hv89 => ?_)
  obtain ⟨A87, c88, rfl, hv89_1, hv89_2⟩ := hv89
  unfold maxLen at hv89_2
  refine SC.draw mo [] [] .n (fun _ _ _ => sc0) (fun wf_90 hl_90 hx_90 hR_90 => ?_)
  refine SR.z 0 G G (ev_fa G fo29_1 G (r := 1) G) ?_
  refine SR.z 1 G G (ev_ld1 G ty27 G (At.d (At.lent hR_90 14 G G))) ?_
  refine SR.m 2 G G G G ?_
  refine SR.z 3 G G (ev_ix G underlying27 ty3 G G oO oO (fun _ _ => Fr.adr (i := e) (Fr.lent (S := S) hR_90 15 G lO) oO oO)) ?_
  refine SR.z 4 G G (ev_ld1 G ty3 G (At.elem1 (At.d (Fr.el (i := e) (Fr.lent (S := S) hR_90 15 G lO) oO oO)) 0 G)) ?_
  refine SR.z 5 G G (ev_cmp G G G G) ?_
  refine SR.m 6 G G G G ?_
  refine SR.y 7 G G (fun _ => ev_fa G fo29_1 G (r := 1) G) ?_
  refine SR.y 8 G G (fun hb => ev_ld1 G ty27 (lkg G hb) (At.d (At.lent hR_90 1 G G))) ?_
  refine SR.y 9 G G (fun _ => ev_mv G G) ?_
  refine SR.y 10 G G (fun hb => have hp := bT bD hb; ev_ix G underlying27 ty3 (lkg G hb) (lkg G hb) (by have _h := hp; omega) (by have _h := hp; omega) (fun _ _ => Fr.adr (i := e) (Fr.lent (S := S) hR_90 0 G lO) (by have _h := hp; omega) (by have _h := hp; omega))) ?_
  refine SR.y 11 G G (fun hb => have hp := bT bD hb; ev_ld1 G ty3 (lkg G hb) (At.elem1 (At.d (Fr.el (i := e) (Fr.lent (S := S) hR_90 0 G lO) (by have _h := hp; omega) (by have _h := hp; omega))) 0 G)) ?_
  refine SR.y 12 G G (fun hb => ev_cmp G (lkg G hb) G G) ?_
  refine SR.y 13 G G (fun hb => ev_mv G (lkg G hb)) ?_
  refine SR.ggtake (b1 := (decide ((gt (tabF n false l) e) ≥ 0))) (b := (decide ((gt Y e) < 0))) 14 cb_tf G kR kR kR G (fun _ _ _ _ h => h) G G G G G (fun hb1 _ => ev_fa G fo29_1 G (r := 1) G) ?_
  refine SR.ggtake (b1 := (decide ((gt (tabF n false l) e) ≥ 0))) (b := (decide ((gt Y e) < 0))) 15 cb_tf G kR kR kR G (fun _ _ _ _ h => h) G G G G G (fun hb1 hb => ev_ld1 G ty27 (lkg G hb) (At.d (At.lent hR_90 1 G G))) ?_
  refine SR.ggtake (b1 := (decide ((gt (tabF n false l) e) ≥ 0))) (b := (decide ((gt Y e) < 0))) 16 cb_tf G kR kR kR G (fun _ _ _ _ h => h) G G G G G (fun hb1 _ => ev_mv G G) ?_
  refine SR.ggtake (b1 := (decide ((gt (tabF n false l) e) ≥ 0))) (b := (decide ((gt Y e) < 0))) 17 cb_tf G kR kR kR G (fun _ _ _ _ h => h) G G G G G (fun hb1 hb => have hp := bT (bA bD (bN bD)) hb; ev_ix G underlying27 ty3 (lkg G hb) (lkg G hb) (by have _h := hp; omega) (by have _h := hp; omega) (fun _ _ => Fr.adr (i := e) (Fr.lent (S := S) hR_90 0 G lO) (by have _h := hp; omega) (by have _h := hp; omega))) ?_
  refine SR.ggtake (b1 := (decide ((gt (tabF n false l) e) ≥ 0))) (b := (decide ((gt Y e) < 0))) 18 cb_tf G kR kR kR G (fun _ _ _ _ h => h) G G G G G (fun hb1 hb => have hp := bT (bA bD (bN bD)) hb; ev_ld1 G ty3 (lkg G hb) (At.elem1 (At.d (Fr.el (i := e) (Fr.lent (S := S) hR_90 0 G lO) (by have _h := hp; omega) (by have _h := hp; omega))) 0 G)) ?_
  refine SR.ggtake (b1 := (decide ((gt (tabF n false l) e) ≥ 0))) (b := (decide ((gt Y e) < 0))) 19 cb_tf G kR kR kR G (fun _ _ _ _ h => h) G G G G G (fun hb1 _ => ev_fa G fo29_1 G (r := 1) G) ?_
  refine SR.ggtake (b1 := (decide ((gt (tabF n false l) e) ≥ 0))) (b := (decide ((gt Y e) < 0))) 20 cb_tf G kR kR kR G (fun _ _ _ _ h => h) G G G G G (fun hb1 hb => ev_ld1 G ty27 (lkg G hb) (At.d (At.lent hR_90 14 G G))) ?_
  refine SR.ggtake (b1 := (decide ((gt (tabF n false l) e) ≥ 0))) (b := (decide ((gt Y e) < 0))) 21 cb_tf G kR kR kR G (fun _ _ _ _ h => h) G G G G G (fun hb1 _ => ev_mv G G) ?_
  refine SR.ggtake (b1 := (decide ((gt (tabF n false l) e) ≥ 0))) (b := (decide ((gt Y e) < 0))) 22 cb_tf G kR kR kR G (fun _ _ _ _ h => h) G G G G G (fun hb1 hb => have hp := bT (bA bD (bN bD)) hb; ev_ix G underlying27 ty3 (lkg G hb) (lkg G hb) (by have _h := hp; omega) (by have _h := hp; omega) (fun _ _ => Fr.adr (i := e) (Fr.lent (S := S) hR_90 15 G lO) (by have _h := hp; omega) (by have _h := hp; omega))) ?_
  refine SR.ggtake (b1 := (decide ((gt (tabF n false l) e) ≥ 0))) (b := (decide ((gt Y e) < 0))) 23 cb_tf G kR kR kR G (fun _ _ _ _ h => h) G G G G G (fun hb1 hb => have hp := bT (bA bD (bN bD)) hb; ev_ld1 G ty3 (lkg G hb) (At.elem1 (At.d (Fr.el (i := e) (Fr.lent (S := S) hR_90 15 G lO) (by have _h := hp; omega) (by have _h := hp; omega))) 0 G)) ?_
  refine SR.ggtake (b1 := (decide ((gt (tabF n false l) e) ≥ 0))) (b := (decide ((gt Y e) < 0))) 24 cb_tf G kR kR kR G (fun _ _ _ _ h => h) G G G G G (fun hb1 hb => ev_cmp G (lkg G hb) (lkg G hb) G) ?_
  refine SR.y 25 G G (fun hb => ev_or G (lkg G hb) G (lkgn G cb_tf hb)) ?_
  refine SR.z 26 G G (ev_and G G G G) ?_
  refine SR.fin kR hl_90 hx_90 hR_90 .n ?_
  refine SQ.go idQ ?_
  refine .condI G (bA bD (bO bD bD)) (fun h91 => ?_) (fun h91 => ?_)
  ·
   exfalso; omega
  refine .skipgo idQ (.region (.p ((e + 1)) oO oO G G G G G (.m G G G ?_)))
  exact SP.nil (SQ.roundb (X := Int) (x := (e)) (e + 1) (by (try dsimp only); exact ⟨oO, oO⟩) (by show (_ : Nat) < _; omega) (Sub.get (.c4 G G G G (.c4 G G G G (.c4 G G G G (.c G (.c G .n)))))) (kp (.d (.d (.d (.d (.d (.d (.d (.d (.d .n)))))))))))
 refine .exit idQ ?_
 refine .seq (.region (.a G G G (.go idQ (.ret idQ (ret1 results3 G .n ⟨G, G⟩)))))
theorem liftLinksBadF (n : Int) (A : Option Addr) (c : Nat) (l : List AR) (S : Nat → Prop) (wf : World) (hA : Fr eAR S wf A l) (hR : ¬ RoadOk n l) :
  TR0 prog 3 [.agg #[.int .i64 n, .slice A l.length c], .bool false] [] S wf (fun v_ C_ => v_ = .bool true ∧ C_ = []) := by
 have hla := hA.len
 refine TR.mk func3 G ntmps3 G G (fun w_ => ?_)
 refine .seq (.region (.cons (st_boxa G G G G G (fun b1 => (.a G G G (.go idQ (.seq (.seq (.region ?_)))))))))
 refine .cons (st_callk G G G G hbd8 G .n (awake7_ _ _) ?_)
 refine .v (ev_not G G) G (.go idQ (.cond_f G (.skipgo idQ (.seq (.region ?_)))))
 refine .d 0 ty24 G G G G (.m G G G (.cons (st_callk G G G G hbd9 G .n (graphbadF n A c l _ _ hA hR) (.m G G G ?_))))
 refine .x G G G G (.x G G G G (.x G G G G (.x G G G G ?_)))
 refine .cons (st_alloc G G G G zf29 (fun b2 => ?_))
 refine .cons (st_alloc G G G G zf29 (fun b3 => ?_))
 refine .a G G G (.cons (st_storea (l' := [.int .i64 0, .slice none 0 0]) G G G ty29 G G G (.t .h) G G (.cons (st_storea (l' := [.int .i64 0, .slice none 0 0]) G G G ty29 G G G (.t .h) G G (.a G G G ?_)))))
 refine .go idQ (.seq (.seq (.region (.m G G G (.v (ev_not G G) G (.go idQ ?_))))))
 refine .cond_t G ?_
 refine .seq (.region (.a G G G (.go idQ (.ret idQ (ret1 results3 G .n ⟨G, G⟩)))))
theorem liftLinksT (n : Int) (A : Option Addr) (c : Nat) (l : List AR) (S : Nat → Prop) (wf : World) (hA : Fr eAR S wf A l) (hR : RoadOk n l) :
  TR0 prog 3 [.agg #[.int .i64 n, .slice A l.length c], .bool true] [] S wf (fun v_ C_ => v_ = .bool true ∧ C_ = []) := by
 have hla := hA.len
 have hlen := hR.len
 have hnp := hR.pl
 have hto := tab_ok (d := true) hR
 have htl := hto.len
 have hsq := sq_le hnp
 refine TR.mk func3 G ntmps3 G G (fun w_ => ?_)
 refine .seq (.region (.cons (st_boxa G G G G G (fun b1 => (.a G G G (.go idQ (.seq (.seq (.region ?_)))))))))
 refine .cons (st_callk G G G G hbd8 G .n (awake7_ _ _) ?_)
 refine .v (ev_not G G) G (.go idQ (.cond_f G (.skipgo idQ (.seq (.region ?_)))))
 refine .d 0 ty24 G G G G (.m G G G (.cons (st_call0 G G G G hbd9 G .n (graphT n A c l _ _ hA hR) (fun v_q10 C_q10 q10 => ?_))))
 obtain ⟨b2, u3, v4, fi5, ed6, x7, y8, W9, p11, p12, p13, rfl, rfl⟩ := q10
 show SP _ _ _ _ _ _ ⟨_, _ :: _ :: _ :: _ :: _ :: _, _, _⟩
 have hgl := p11.len
 have hgn := p11.ne
 refine .m G G G (.x G G G G (.x G G G G (.x G G G G ?_)))
 refine .x G G G G (.cons (st_alloc G G G G zf29 (fun b14 => (.cons (st_alloc G G G G zf29 (fun b15 => (.a G G G ?_)))))))
 refine .know (row_len 5 G) (fun hv18 => ?_)
 obtain ⟨A16, c17, rfl, hv18_1, hv18_2⟩ := hv18
 unfold maxLen at hv18_2
 refine .cons (st_storea (l' := [.int .i64 n, .slice A16 ((tabF n true l).length) c17]) G G G ty29 G G G (.t .h) G G ?_)
 refine .know (row_len 6 G) (fun hv21 => ?_)
 obtain ⟨A19, c20, rfl, hv21_1, hv21_2⟩ := hv21
 unfold maxLen at hv21_2
 refine .cons (st_storea (l' := [.int .i64 n, .slice A19 W9.length c20]) G G G ty29 G G G (.t .h) G G ?_)
 refine .a G G G (.go idQ (.seq (.seq (.region (.m G G G (.v (ev_not G G) G ?_))))))
 refine .go idQ (.cond_f G (.skipgo idQ (.seq (.region (.m G G G ?_)))))
 refine .know (row_len 3 G) (fun hv24 => ?_)
 obtain ⟨A22, c23, rfl, hv24_1, hv24_2⟩ := hv24
 unfold maxLen at hv24_2
 refine .know (row_len 4 G) (fun hv27 => ?_)
 obtain ⟨A25, c26, rfl, hv27_1, hv27_2⟩ := hv27
 unfold maxLen at hv27_2
 refine .cons (st_lend0 G G G G hbd10 G (.c (.t2 .h) .n) (.c (.t2 .h) (.c (.t2 .h) .n)) (fun w_ hw => build_ n (tabF n true l) b2 A22 c23 fi5 A25 c26 ed6 _ _ (Fr.lend hw 0 G lO) (Fr.lend hw 1 G lO) hto p11 lO) (fun v_q37 C_q37 q37 => ?_))
 obtain ⟨lb28, v129, v230, v331, v432, R33, K34, U35, D36, p38, rfl, rfl⟩ := q37
 show SP _ _ _ _ _ _ ⟨_, _ :: _ :: _ :: _ :: _ :: _ :: _ :: _ :: _ :: _ :: _, _, _⟩
 have hlo := lok hto p11 p38
 have hRn := hlo.2
 have hL := hlo.1
 have hkl := hL.kl
 refine .a G G G (.go idQ (.seq (.know (row_len 2 G) (fun hv41 => ?_))))
 obtain ⟨A39, c40, rfl, hv41_1, hv41_2⟩ := hv41
 unfold maxLen at hv41_2
 refine .know (row_len 3 G) (fun hv44 => ?_)
 obtain ⟨A42, c43, rfl, hv44_1, hv44_2⟩ := hv44
 unfold maxLen at hv44_2
 refine .know (row_len 4 G) (fun hv47 => ?_)
 obtain ⟨A45, c46, rfl, hv47_1, hv47_2⟩ := hv47
 unfold maxLen at hv47_2
 refine .know (row_len 5 G) (fun hv50 => ?_)
 obtain ⟨A48, c49, rfl, hv50_1, hv50_2⟩ := hv50
 unfold maxLen at hv50_2
 have hrgk := lk_rg hto p11 p38
 refine .region (.m G G G (.cons (st_call0 G G G G hbd11 G (.c (.t .h) (.c (.t .h) (.c (.t .h) (.c (.t .h) (.c (.t .h) (.c (.t .h) (.c (.t .h) .n))))))) (lks_ lb28 A39 c40 R33 A42 c43 K34 A45 c46 U35 A48 c49 D36 _ _ oO) (fun v_q52 C_q52 q52 => ?_))))
 obtain ⟨u51, rfl, rfl⟩ := q52
 show SP _ _ _ _ _ _ ⟨_, _ :: _ :: _ :: _ :: _ :: _ :: _ :: _ :: _, _, _⟩
 refine .a G G G (.go idQ (.seq (.region (.f fo29_0 0 G G G G (.l ty3 11 G G G G G ?_)))))
 refine .v (ev_any (v := .agg #[.int .i64 n, .slice none 0 0]) G kR (fun _ => by kernel_rfl)) G (.cons (st_alloc G G G G zf29 (fun b53 => (.cons (st_storea (l' := [.int .i64 n, .slice none 0 0]) G G G ty29 G G G .h G G (.go idQ (.seq (.seq (.region ?_)))))))))
 refine .a G G G (.go idQ (.block ?_))
 refine SC.nilrow eZ 3 ?_
 refine .loop (X := Int × (List Int) × Value) (fun ⟨k, X, u_X⟩ => 0 ≤ k ∧ k ≤ (n * n) ∧ X = List.replicate k.toNat (-1 : Int)) (fun ⟨k, X, u_X⟩ => [(4, .bool false), (6, .pointer (some ⟨b14, 0, none⟩)), (7, .pointer (some ⟨b15, 0, none⟩)), (9, .pointer (some ⟨lb28, 0, none⟩)), (10, v_q52), (11, .pointer (some ⟨b53, 0, none⟩)), (12, .int .i64 k)]) (fun ⟨k, X, u_X⟩ => [rw_ eZ 3 (u_X) X, cel b53 [.int .i64 n, u_X] 29, cel lb28 [.slice A39 R33.length c40, .slice A42 K34.length c43, .slice A45 U35.length c46, .slice A48 D36.length c49] 68, rw_ eZ 3 (.slice A39 R33.length c40) R33, rw_ eLK 37 (.slice A42 K34.length c43) K34, rw_ eIL 27 (.slice A45 U35.length c46) U35, rw_ eIL 27 (.slice A48 D36.length c49) D36, nestIL 3 U35, nestIL 3 D36, rw_ eLK 37 (v_q52) K34, cel b2 [.slice A22 fi5.length c23, .slice A25 ed6.length c26] 83, rw_ eZ 3 (.slice A22 fi5.length c23) fi5, rw_ eEG 64 (.slice A25 ed6.length c26) ed6, cel b15 [.int .i64 n, .slice A19 W9.length c20] 29, cel b14 [.int .i64 n, .slice A16 ((tabF n true l).length) c17] 29, rw_ eZ 3 (.slice A16 ((tabF n true l).length) c17) (tabF n true l), rw_ eZ 3 (.slice A19 W9.length c20) W9, cel b1 [.int .i64 n, .slice A l.length c] 24]) (fun _ => S) (fun _ => wf) (fun ⟨k, X, u_X⟩ => ((n * n) - k).toNat) (fun a_ w_ hs_ hw_ => ⟨⟨0, ([] : List Int), .slice none 0 0⟩, (by (try dsimp only); exact ⟨oO, oO, (by rfl)⟩), hs_.mono (Sub.get (.c4 G G G G (.c G (.c G (.c G .n))))), hw_.keep (.d (.d (.d (.d (.d (.d (.d (.d (.d .n)))))))))⟩) (fun ⟨k, X, u_X⟩ ⟨q_0, q_1, q_2⟩ => ?_)
 try dsimp only
 have hxl : X.length = k.toNat := by rw [q_2, List.length_replicate]
 refine .seq (.seq (.region (.m G G G (.f fo29_0 0 G G G G (.l ty3 13 G G G G G ?_)))))
 refine .f fo29_0 0 G G G G (.l ty3 13 G G G G G (.v (ev_mul G G G (r := (n * n)) G oO oO) G (.e G G G G G ?_)))
 refine .go idQ (.condI G bD (fun h54 => ?_) (fun h54 => ?_))
 ·
  refine .skipgo idQ (.seq (.block (.region (.f fo29_1 1 G G G G (.l ty27 1 G G G G G (.cons (st_lit eZ (e := 3) (l := [(-1)]) G G G G kR G G kW (fun b55 => ?_))))))))
  refine .cons (st_app (E := eZ) (m := [(-1)]) G G G G underlying27 ai3 G G G (.t .h) rO (row_src 0 G) lO G (fun v56 => ?_))
  refine .f fo29_1 1 G G G G (.know (row_len 0 G) (fun hv59 => ?_))
  obtain ⟨A57, c58, rfl, hv59_1, hv59_2⟩ := hv59
  unfold maxLen at hv59_2
  refine .cons (st_store1 G G G ty27 G G G (.t2 .h) (.t .h) ?_)
  refine .go idQ (.region (.m G G G (.p ((k + 1)) oO oO G G G G G (.a G G G ?_))))
  exact SP.nil (SQ.roundb (X := Int × (List Int) × Value) (x := (k, X, u_X)) ⟨(k + 1), (X ++ [(-1)]), .slice A57 ((X ++ [(-1)]).length) c58⟩ (by (try dsimp only); exact ⟨oO, oO, (by rw [q_2]; exact (rep_snoc q_0).symm)⟩) dO (Sub.get (.c4 G G G G (.c G (.c G (.c G .n))))) (kp (.c (.t .h) (.c .h (.c (.t .h) (.c (.t .h) (.c (.t .h) (.c (.t .h) (.c (.t .h) (.c (.t .h) (.c (.t .h) (.c (.t .h) (.c (.t .h) (.c (.t .h) (.c (.t .h) (.c (.t .h) (.c (.t .h) (.c (.t .h) (.c (.t .h) (.c (.t .h) .n))))))))))))))))))))
 refine .exit idQ ?_
 refine .seq (.seq (.know (row_len 0 G) (fun hv62 => ?_)))
 obtain ⟨A60, c61, rfl, hv62_1, hv62_2⟩ := hv62
 unfold maxLen at hv62_2
 obtain rfl : k = n * n := by omega
 refine .region (.m G G G (.know (row_len 9 G) (fun hv65 => ?_)))
 obtain ⟨A63, c64, rfl, hv65_1, hv65_2⟩ := hv65
 unfold maxLen at hv65_2
 refine .g underlying34 G G G (.m G G G (.go idQ (.block (.loop (X := Int × (List Int) × Value) (fun ⟨i, Y, u_Y⟩ => 0 ≤ i ∧ i ≤ (K34.length : Int) ∧ Y = (K34.take i.toNat).foldl (minSt n) (List.replicate (n * n).toNat (-1 : Int)) ∧ Y.length = (n * n).toNat) (fun ⟨i, Y, u_Y⟩ => [(6, .pointer (some ⟨b14, 0, none⟩)), (7, .pointer (some ⟨b15, 0, none⟩)), (9, .pointer (some ⟨lb28, 0, none⟩)), (10, .slice A63 K34.length c64), (11, .pointer (some ⟨b53, 0, none⟩)), (12, .int .i64 (n * n)), (54, .slice A63 K34.length c64), (55, .int .i64 (K34.length : Int)), (56, .int .i64 i)]) (fun ⟨i, Y, u_Y⟩ => [rw_ eZ 3 (u_Y) Y, cel b53 [.int .i64 n, u_Y] 29, cel lb28 [.slice A39 R33.length c40, .slice A42 K34.length c43, .slice A45 U35.length c46, .slice A48 D36.length c49] 68, rw_ eZ 3 (.slice A39 R33.length c40) R33, rw_ eLK 37 (.slice A42 K34.length c43) K34, rw_ eIL 27 (.slice A45 U35.length c46) U35, rw_ eIL 27 (.slice A48 D36.length c49) D36, nestIL 3 U35, nestIL 3 D36, rw_ eLK 37 (.slice A63 K34.length c64) K34, cel b2 [.slice A22 fi5.length c23, .slice A25 ed6.length c26] 83, rw_ eZ 3 (.slice A22 fi5.length c23) fi5, rw_ eEG 64 (.slice A25 ed6.length c26) ed6, cel b15 [.int .i64 n, .slice A19 W9.length c20] 29, cel b14 [.int .i64 n, .slice A16 ((tabF n true l).length) c17] 29, rw_ eZ 3 (.slice A16 ((tabF n true l).length) c17) (tabF n true l), rw_ eZ 3 (.slice A19 W9.length c20) W9, cel b1 [.int .i64 n, .slice A l.length c] 24]) (fun _ => S) (fun _ => wf) (fun ⟨i, Y, u_Y⟩ => ((K34.length : Int) - i).toNat) (fun a_ w_ hs_ hw_ => ⟨⟨0, X, .slice A60 X.length c61⟩, (by (try dsimp only); exact ⟨oO, oO, (by assumption), oO⟩), hs_.mono (Sub.get (.c4 G G G G (.c4 G G G G (.c G .n)))), hw_.keep (.d (.d (.d (.d (.d (.d (.d (.d (.d .n)))))))))⟩) (fun ⟨i, Y, u_Y⟩ ⟨r_0, r_1, r_2, r_3⟩ => ?_)))))
 try dsimp only
 refine .seq (.region (.e G G G G G (.go idQ (.seq (.condI G bD (fun h66 => ?_) (fun h66 => ?_))))))
 ·
  refine .skipgo idQ (.seq (.block (.seq (.region (.v (ev_ix G underlying34 ty37 G G oO oO (row_adr (i := i) 9 G oO oO)) G (.v (ev_lda G G (row_el (E := eLK) (l := K34) (i := i) 9 G oO oO) ty37) G (.cons (st_alloc G G G G zf37 (fun b67 => ?_)))))))))
  refine .cons (st_storea (l' := [.int .i64 ((gt K34 i).lf), .int .i64 ((gt K34 i).lt), .int .i64 ((gt K34 i).lw), .int .i64 ((gt K34 i).lm)]) G G G ty37 G G G .h G G ?_)
  refine .go idQ (.seq (.seq ?_))
  have hxr := hrgk i oO oO
  have hix := idx_rng (n := n) (a := (gt K34 i).lf) (b := (gt K34 i).lt) ⟨by omega, by omega⟩ ⟨by omega, by omega⟩
  refine .region (.f fo37_0 0 G G G G (.l ty3 0 G G G G G (.e G G G G G ?_)))
  refine .m G G G (.w (fun _ => ev_fa G fo37_1 G (r := 1) G) G (.w (fun hb => ev_ld1 G ty3 (lkg G hb) (At.own1 0 G G)) G (.w (fun hb => ev_cmp G (lkg G hb) G G) G ?_)))
  refine .r G G G G G (.m G G G (.w (fun _ => ev_fa G fo37_0 G (r := 0) G) G (.w (fun hb => ev_ld1 G ty3 (lkg G hb) (At.own1 0 G G)) G ?_)))
  refine .w (fun _ => ev_fa G fo29_0 G (r := 0) G) G (.w (fun hb => ev_ld1 G ty3 (lkg G hb) (At.own1 14 G G)) G (.w (fun hb => ev_cmp G (lkg G hb) (lkg G hb) G) G (.r G G G G G ?_)))
  refine .m G G G (.w (fun _ => ev_fa G fo37_1 G (r := 1) G) G (.w (fun hb => ev_ld1 G ty3 (lkg G hb) (At.own1 0 G G)) G (.w (fun _ => ev_fa G fo29_0 G (r := 0) G) G ?_)))
  refine .w (fun hb => ev_ld1 G ty3 (lkg G hb) (At.own1 14 G G)) G (.w (fun hb => ev_cmp G (lkg G hb) (lkg G hb) G) G (.r G G G G G (.m G G G ?_)))
  refine .w (fun _ => ev_fa G fo37_0 G (r := 0) G) G (.w (fun hb => ev_ld1 G ty3 (lkg G hb) (At.own1 0 G G)) G (.w (fun _ => ev_fa G fo37_1 G (r := 1) G) G (.w (fun hb => ev_ld1 G ty3 (lkg G hb) (At.own1 0 G G)) G ?_)))
  refine .w (fun hb => ev_cmp G (lkg G hb) (lkg G hb) G) G (.r G G G G G (.go idQ (.condI G (bO (bO (bO (bO bD bD) bD) bD) bE) (fun h68 => ?_) (fun h68 => ?_))))
  ·
   exfalso; omega
  refine .skipgo idQ (.seq (.region (.f fo29_1 1 G G G G (.l ty27 2 G G G G G (.f fo37_0 0 G G G G ?_)))))
  refine .l ty3 0 G G G G G (.f fo29_0 0 G G G G (.l ty3 14 G G G G G (.v (ev_mul G G G (r := (((gt K34 i).lf) * n)) G oO oO) G ?_)))
  refine .f fo37_1 1 G G G G (.l ty3 0 G G G G G (.v (ev_add G G G (r := ((((gt K34 i).lf) * n) + ((gt K34 i).lt))) G oO oO) G (.know (row_len 1 G) (fun hv71 => ?_))))
  obtain ⟨A69, c70, rfl, hv71_1, hv71_2⟩ := hv71
  unfold maxLen at hv71_2
  refine .v (ev_ix G underlying27 ty3 G G oO oO (row_adr (i := ((((gt K34 i).lf) * n) + ((gt K34 i).lt))) 1 G oO oO)) G (.a G G G (.go idQ (.seq ?_)))
  refine SC.draw mo [] [] .n (fun _ _ _ => sc0) (fun wf_72 hl_72 hx_72 hR_72 => ?_)
  refine SR.m 0 G G G G ?_
  refine SR.z 1 G G (ev_nil G G) ?_
  refine SR.z 2 G G (ev_ld1 G ty3 G (At.elem1 (At.d (Fr.el (i := ((((gt K34 i).lf) * n) + ((gt K34 i).lt))) (Fr.lent (S := S) hR_72 1 G lO) oO oO)) 0 G)) ?_
  refine SR.z 3 G G (ev_cmp G G G G) ?_
  refine SR.m 4 G G G G ?_
  refine SR.y 5 G G (fun _ => ev_fa G fo37_2 G (r := 2) G) ?_
  refine SR.y 6 G G (fun hb => ev_ld1 G ty3 (lkg G hb) (At.d (At.lent hR_72 0 G G))) ?_
  refine SR.y 7 G G (fun _ => ev_mv G G) ?_
  refine SR.y 8 G G (fun hb => ev_nil G (lkg G hb)) ?_
  refine SR.y 9 G G (fun hb => have hp := bF bD hb; ev_ld1 G ty3 (lkg G hb) (At.elem1 (At.d (Fr.el (i := ((((gt K34 i).lf) * n) + ((gt K34 i).lt))) (Fr.lent (S := S) hR_72 1 G lO) (by have _h := hp; omega) (by have _h := hp; omega))) 0 G)) ?_
  refine SR.y 10 G G (fun hb => ev_cmp G (lkg G hb) (lkg G hb) G) ?_
  refine SR.z 11 G G (ev_or G G G G) ?_
  refine SR.fin kR hl_72 hx_72 hR_72 .n ?_
  refine SQ.go idQ ?_
  refine .condI G (bO bD bD) (fun h73 => ?_) (fun h73 => ?_)
  ·
   refine .region (.m G G G (.f fo37_2 2 G G G G (.l ty3 0 G G G G G ?_)))
   refine .v (ev_nil G G) G (.cons (st_setel (E := eZ) (i := ((((gt K34 i).lf) * n) + ((gt K34 i).lt))) (cs := [.int .i64 ((gt K34 i).lw)]) (off := 0) ((gt K34 i).lw) G G G ty3 G G G G G (.t .h) lO lO (Nat.le_of_ble_eq_true G) G (.go idQ (.region (.p ((i + 1)) oO oO G G G G G ?_)))))
   refine .m G G G ?_
   exact SP.nil (SQ.roundb (X := Int × (List Int) × Value) (x := (i, Y, (.slice A69 Y.length c70))) ⟨(i + 1), (Y.set (((((gt K34 i).lf) * n) + ((gt K34 i).lt))).toNat ((gt K34 i).lw)), .slice A69 Y.length c70⟩ (by (try dsimp only); exact ⟨oO, oO, (ls_yes r_2 oO oO h73), (by (try rw [List.length_set]); exact r_3)⟩) dO (Sub.get (.c4 G G G G (.c4 G G G G (.c G .n)))) (kp (.c .h (.c (.t .h) (.c (.t .h) (.c (.t .h) (.c (.t .h) (.c (.t .h) (.c (.t .h) (.c (.t .h) (.c (.t .h) (.c (.t .h) (.c (.t .h) (.c (.t .h) (.c (.t .h) (.c (.t .h) (.c (.t .h) (.c (.t .h) (.c (.t .h) (.c (.t .h) .n))))))))))))))))))))
  refine .skipgo idQ (.region (.p ((i + 1)) oO oO G G G G G (.m G G G ?_)))
  exact SP.nil (SQ.roundb (X := Int × (List Int) × Value) (x := (i, Y, (.slice A69 Y.length c70))) ⟨(i + 1), Y, .slice A69 Y.length c70⟩ (by (try dsimp only); exact ⟨oO, oO, (ls_no r_2 oO oO h73), (by (try rw [List.length_set]); exact r_3)⟩) dO (Sub.get (.c4 G G G G (.c4 G G G G (.c G .n)))) (kp (.c (.t .h) (.c (.t .h) (.c (.t .h) (.c (.t .h) (.c (.t .h) (.c (.t .h) (.c (.t .h) (.c (.t .h) (.c (.t .h) (.c (.t .h) (.c (.t .h) (.c (.t .h) (.c (.t .h) (.c (.t .h) (.c (.t .h) (.c (.t .h) (.c (.t .h) (.c (.t .h) .n))))))))))))))))))))
 refine .exit idQ ?_
 refine .seq (.seq ?_)
 have hF := lkf (Y := Y) hto p11 p38 (by rw [r_2, List.take_of_length_le oO])
 refine .region (.m G G G (.g underlying34 G G G (.m G G G ?_)))
 refine .go idQ (.block (.loop (X := Int) (fun j => 0 ≤ j ∧ j ≤ (K34.length : Int)) (fun j => [(6, .pointer (some ⟨b14, 0, none⟩)), (7, .pointer (some ⟨b15, 0, none⟩)), (9, .pointer (some ⟨lb28, 0, none⟩)), (10, .slice A63 K34.length c64), (11, .pointer (some ⟨b53, 0, none⟩)), (12, .int .i64 (n * n)), (54, .slice A63 K34.length c64), (55, .int .i64 (K34.length : Int)), (56, .int .i64 i), (117, .slice A63 K34.length c64), (118, .int .i64 (K34.length : Int)), (119, .int .i64 j)]) (fun j => [rw_ eZ 3 (u_Y) Y, cel b53 [.int .i64 n, u_Y] 29, cel lb28 [.slice A39 R33.length c40, .slice A42 K34.length c43, .slice A45 U35.length c46, .slice A48 D36.length c49] 68, rw_ eZ 3 (.slice A39 R33.length c40) R33, rw_ eLK 37 (.slice A42 K34.length c43) K34, rw_ eIL 27 (.slice A45 U35.length c46) U35, rw_ eIL 27 (.slice A48 D36.length c49) D36, nestIL 3 U35, nestIL 3 D36, rw_ eLK 37 (.slice A63 K34.length c64) K34, cel b2 [.slice A22 fi5.length c23, .slice A25 ed6.length c26] 83, rw_ eZ 3 (.slice A22 fi5.length c23) fi5, rw_ eEG 64 (.slice A25 ed6.length c26) ed6, cel b15 [.int .i64 n, .slice A19 W9.length c20] 29, cel b14 [.int .i64 n, .slice A16 ((tabF n true l).length) c17] 29, rw_ eZ 3 (.slice A16 ((tabF n true l).length) c17) (tabF n true l), rw_ eZ 3 (.slice A19 W9.length c20) W9, cel b1 [.int .i64 n, .slice A l.length c] 24]) (fun _ => S) (fun _ => wf) (fun j => ((K34.length : Int) - j).toNat) (fun a_ w_ hs_ hw_ => ⟨0, (by (try dsimp only); exact ⟨oO, oO⟩), hs_.mono (Sub.get (.c4 G G G G (.c4 G G G G (.c4 G G G G .n)))), hw_.keep (.d (.d (.d (.d (.d (.d (.d (.d (.d .n)))))))))⟩) (fun j ⟨s_0, s_1⟩ => ?_)))
 try dsimp only
 refine .seq (.region (.e G G G G G (.go idQ (.seq (.condI G bD (fun h74 => ?_) (fun h74 => ?_))))))
 ·
  refine .skipgo idQ (.seq (.block (.seq (.region (.v (ev_ix G underlying34 ty37 G G oO oO (row_adr (i := j) 9 G oO oO)) G (.v (ev_lda G G (row_el (E := eLK) (l := K34) (i := j) 9 G oO oO) ty37) G (.cons (st_alloc G G G G zf37 (fun b75 => ?_)))))))))
  refine .cons (st_storea (l' := [.int .i64 ((gt K34 j).lf), .int .i64 ((gt K34 j).lt), .int .i64 ((gt K34 j).lw), .int .i64 ((gt K34 j).lm)]) G G G ty37 G G G .h G G ?_)
  refine .go idQ (.seq (.seq ?_))
  have hxr := hrgk j oO oO
  have hmd := hF.md j oO oO
  have hsc := hF.sc j oO oO
  have hix := idx_rng (n := n) (a := (gt K34 j).lf) (b := (gt K34 j).lt) ⟨by omega, by omega⟩ ⟨by omega, by omega⟩
  refine .region (.f fo37_3 3 G G G G (.l ty3 0 G G G G G (.e G G G G G ?_)))
  refine .go idQ (.condI G bE (fun h76 => ?_) (fun h76 => ?_))
  ·
   refine .seq (.seq ?_)
   have hmd1 := hmd h76
   refine SC.draw mo [] [] .n (fun _ _ _ => sc0) (fun wf_77 hl_77 hx_77 hR_77 => ?_)
   refine SR.z 0 G G (ev_fa G fo29_1 G (r := 1) G) ?_
   refine SR.z 1 G G (ev_ld1 G ty27 G (At.d (At.lent hR_77 15 G G))) ?_
   refine SR.z 2 G G (ev_fa G fo37_0 G (r := 0) G) ?_
   refine SR.z 3 G G (ev_ld1 G ty3 G (At.d (At.lent hR_77 0 G G))) ?_
   refine SR.z 4 G G (ev_fa G fo29_0 G (r := 0) G) ?_
   refine SR.z 5 G G (ev_ld1 G ty3 G (At.d (At.lent hR_77 14 G G))) ?_
   refine SR.z 6 G G (ev_mul G G G (r := (((gt K34 j).lf) * n)) G oO oO) ?_
   refine SR.z 7 G G (ev_fa G fo37_1 G (r := 1) G) ?_
   refine SR.z 8 G G (ev_ld1 G ty3 G (At.d (At.lent hR_77 0 G G))) ?_
   refine SR.z 9 G G (ev_add G G G (r := ((((gt K34 j).lf) * n) + ((gt K34 j).lt))) G oO oO) ?_
   refine SR.z 10 G G (ev_ix G underlying27 ty3 G G oO oO (fun _ _ => Fr.adr (i := ((((gt K34 j).lf) * n) + ((gt K34 j).lt))) (Fr.lent (S := S) hR_77 16 G lO) oO oO)) ?_
   refine SR.z 11 G G (ev_ld1 G ty3 G (At.elem1 (At.d (Fr.el (i := ((((gt K34 j).lf) * n) + ((gt K34 j).lt))) (Fr.lent (S := S) hR_77 16 G lO) oO oO)) 0 G)) ?_
   refine SR.z 12 G G (ev_fa G fo37_2 G (r := 2) G) ?_
   refine SR.z 13 G G (ev_ld1 G ty3 G (At.d (At.lent hR_77 0 G G))) ?_
   refine SR.z 14 G G (ev_cmp G G G G) ?_
   refine SR.fin kR hl_77 hx_77 hR_77 .n ?_
   refine SQ.go idQ ?_
   refine .condI G bNE (fun h78 => ?_) (fun h78 => ?_)
   ·
    exfalso; omega
   refine .skipgo idQ (.exit idQ (.region (.p ((j + 1)) oO oO G G G G G ?_)))
   refine .m G G G ?_
   exact SP.nil (SQ.roundb (X := Int) (x := (j)) (j + 1) (by (try dsimp only); exact ⟨oO, oO⟩) (by show (_ : Nat) < _; omega) (Sub.get (.c4 G G G G (.c4 G G G G (.c4 G G G G .n)))) (kp (.c (.t .h) (.c (.t .h) (.c (.t .h) (.c (.t .h) (.c (.t .h) (.c (.t .h) (.c (.t .h) (.c (.t .h) (.c (.t .h) (.c (.t .h) (.c (.t .h) (.c (.t .h) (.c (.t .h) (.c (.t .h) (.c (.t .h) (.c (.t .h) (.c (.t .h) (.c (.t .h) .n))))))))))))))))))))
  refine .skipgo idQ (.seq (.seq ?_))
  have hsc1 := hsc h76
  have hi1 := idx_rng (n := n) (a := (gt K34 j).lf) (b := (gt K34 j).lm) ⟨by omega, by omega⟩ ⟨by omega, by omega⟩
  have hi2 := idx_rng (n := n) (a := (gt K34 j).lm) (b := (gt K34 j).lt) ⟨by omega, by omega⟩ ⟨by omega, by omega⟩
  refine SC.draw mo [cel lb28 [.slice A39 R33.length c40, .slice A42 K34.length c43, .slice A45 U35.length c46, .slice A48 D36.length c49] 68, rw_ eZ 3 (.slice A39 R33.length c40) R33, rw_ eLK 37 (.slice A42 K34.length c43) K34, rw_ eIL 27 (.slice A45 U35.length c46) U35, rw_ eIL 27 (.slice A48 D36.length c49) D36, nestIL 3 U35, nestIL 3 D36] [] (.c (.t2 (.t .h)) (.c (.t2 (.t .h)) (.c (.t2 (.t .h)) (.c (.t2 (.t .h)) (.c (.t2 (.t .h)) (.c (.t2 (.t .h)) (.c (.t2 (.t .h)) .n))))))) (fun _ _ _ => sc0) (fun wf_79 hl_79 hx_79 hR_79 => ?_)
  refine SR.z 0 G G (ev_fa G fo37_3 G (r := 3) G) ?_
  refine SR.z 1 G G (ev_ld1 G ty3 G (At.d (At.lent hR_79 0 G G))) ?_
  refine SR.z 2 G G (ev_cmp G G G G) ?_
  refine SR.m 3 G G G G ?_
  refine SR.y 4 G G (fun _ => ev_fa G fo37_3 G (r := 3) G) ?_
  refine SR.y 5 G G (fun hb => ev_ld1 G ty3 (lkg G hb) (At.d (At.lent hR_79 0 G G))) ?_
  refine SR.y 6 G G (fun _ => ev_fa G fo29_0 G (r := 0) G) ?_
  refine SR.y 7 G G (fun hb => ev_ld1 G ty3 (lkg G hb) (At.d (At.lent hR_79 7 G G))) ?_
  refine SR.y 8 G G (fun hb => ev_cmp G (lkg G hb) (lkg G hb) G) ?_
  refine SR.z 9 G G (ev_or G G G G) ?_
  refine SR.m 10 G G G G ?_
  refine SR.y 11 G G (fun _ => ev_mv G G) ?_
  refine SR.y 12 G G (fun _ => ev_fa G fo37_3 G (r := 3) G) ?_
  refine SR.y 13 G G (fun hb => ev_ld1 G ty3 (lkg G hb) (At.d (At.lent hR_79 0 G G))) ?_
  refine SR.y 15 G G (fun _ => ev_mv G G) ?_
  refine SR.y 16 G G (fun _ => ev_fa G fo37_0 G (r := 0) G) ?_
  refine SR.y 17 G G (fun hb => ev_ld1 G ty3 (lkg G hb) (At.d (At.lent hR_79 0 G G))) ?_
  refine SR.o 14 G (st_gcallk G G G G G G hbd12 (fun hb => (lkA1 (lkg G hb) (lkA1 (lkg G hb) lkA0))) (.d (.d (.d (.c .h .n)))) (fun hb => have hp := bF (bO bD bD) hb; lrk_ lb28 A39 c40 R33 A42 c43 K34 A45 c46 U35 A48 c49 D36 ((gt K34 j).lm) _ _) ⟨tt0, ?_⟩)
  refine SR.o 18 G (st_gcallk G G G G G G hbd12 (fun hb => (lkA1 (lkg G hb) (lkA1 (lkg G hb) lkA0))) (.d (.d (.d (.c .h .n)))) (fun hb => have hp := bF (bO bD bD) hb; lrk_ lb28 A39 c40 R33 A42 c43 K34 A45 c46 U35 A48 c49 D36 ((gt K34 j).lf) _ _) ⟨tt0, ?_⟩)
  refine SR.y 19 G G (fun hb => ev_cmp G (lkg G hb) (lkg G hb) G) ?_
  refine SR.z 20 G G (ev_or G G G G) ?_
  refine SR.m 21 G G G G ?_
  refine SR.y 22 G G (fun _ => ev_mv G G) ?_
  refine SR.y 23 G G (fun _ => ev_fa G fo37_3 G (r := 3) G) ?_
  refine SR.y 24 G G (fun hb => ev_ld1 G ty3 (lkg G hb) (At.d (At.lent hR_79 0 G G))) ?_
  refine SR.y 26 G G (fun _ => ev_mv G G) ?_
  refine SR.y 27 G G (fun _ => ev_fa G fo37_1 G (r := 1) G) ?_
  refine SR.y 28 G G (fun hb => ev_ld1 G ty3 (lkg G hb) (At.d (At.lent hR_79 0 G G))) ?_
  refine SR.o 25 G (st_gcallk G G G G G G hbd12 (fun hb => (lkA1 (lkg G hb) (lkA1 (lkg G hb) lkA0))) (.d (.d (.d (.c .h .n)))) (fun hb => have hp := bF (bO (bO bD bD) bD) hb; lrk_ lb28 A39 c40 R33 A42 c43 K34 A45 c46 U35 A48 c49 D36 ((gt K34 j).lm) _ _) ⟨tt0, ?_⟩)
  refine SR.o 29 G (st_gcallk G G G G G G hbd12 (fun hb => (lkA1 (lkg G hb) (lkA1 (lkg G hb) lkA0))) (.d (.d (.d (.c .h .n)))) (fun hb => have hp := bF (bO (bO bD bD) bD) hb; lrk_ lb28 A39 c40 R33 A42 c43 K34 A45 c46 U35 A48 c49 D36 ((gt K34 j).lt) _ _) ⟨tt0, ?_⟩)
  refine SR.y 30 G G (fun hb => ev_cmp G (lkg G hb) (lkg G hb) G) ?_
  refine SR.z 31 G G (ev_or G G G G) ?_
  refine SR.fin kR hl_79 hx_79 hR_79 (.c (.c (.c (.c (.c (.c (.c .n))))))) ?_
  refine SQ.go idQ ?_
  refine .condI G (bO (bO (bO bD bD) bD) bD) (fun h80 => ?_) (fun h80 => ?_)
  ·
   exfalso; omega
  refine .skipgo idQ (.seq (.know (row_len 8 G) (fun hv83 => ?_)))
  obtain ⟨A81, c82, rfl, hv83_1, hv83_2⟩ := hv83
  unfold maxLen at hv83_2
  refine SC.draw mo [] [] .n (fun _ _ _ => sc0) (fun wf_84 hl_84 hx_84 hR_84 => ?_)
  refine SR.z 0 G G (ev_fa G fo29_1 G (r := 1) G) ?_
  refine SR.z 1 G G (ev_ld1 G ty27 G (At.d (At.lent hR_84 9 G G))) ?_
  refine SR.z 2 G G (ev_fa G fo37_0 G (r := 0) G) ?_
  refine SR.z 3 G G (ev_ld1 G ty3 G (At.d (At.lent hR_84 7 G G))) ?_
  refine SR.z 4 G G (ev_fa G fo29_0 G (r := 0) G) ?_
  refine SR.z 5 G G (ev_ld1 G ty3 G (At.d (At.lent hR_84 14 G G))) ?_
  refine SR.z 6 G G (ev_mul G G G (r := (((gt K34 j).lf) * n)) G oO oO) ?_
  refine SR.z 7 G G (ev_fa G fo37_3 G (r := 3) G) ?_
  refine SR.z 8 G G (ev_ld1 G ty3 G (At.d (At.lent hR_84 7 G G))) ?_
  refine SR.z 9 G G (ev_add G G G (r := ((((gt K34 j).lf) * n) + ((gt K34 j).lm))) G oO oO) ?_
  refine SR.z 10 G G (ev_ix G underlying27 ty3 G G oO oO (fun _ _ => Fr.adr (i := ((((gt K34 j).lf) * n) + ((gt K34 j).lm))) (Fr.lent (S := S) hR_84 8 G lO) oO oO)) ?_
  refine SR.z 11 G G (ev_ld1 G ty3 G (At.elem1 (At.d (Fr.el (i := ((((gt K34 j).lf) * n) + ((gt K34 j).lm))) (Fr.lent (S := S) hR_84 8 G lO) oO oO)) 0 G)) ?_
  refine SR.z 12 G G (ev_fa G fo29_1 G (r := 1) G) ?_
  refine SR.z 13 G G (ev_ld1 G ty27 G (At.d (At.lent hR_84 9 G G))) ?_
  refine SR.z 14 G G (ev_fa G fo37_3 G (r := 3) G) ?_
  refine SR.z 15 G G (ev_ld1 G ty3 G (At.d (At.lent hR_84 7 G G))) ?_
  refine SR.z 16 G G (ev_fa G fo29_0 G (r := 0) G) ?_
  refine SR.z 17 G G (ev_ld1 G ty3 G (At.d (At.lent hR_84 14 G G))) ?_
  refine SR.z 18 G G (ev_mul G G G (r := (((gt K34 j).lm) * n)) G oO oO) ?_
  refine SR.z 19 G G (ev_fa G fo37_1 G (r := 1) G) ?_
  refine SR.z 20 G G (ev_ld1 G ty3 G (At.d (At.lent hR_84 7 G G))) ?_
  refine SR.z 21 G G (ev_add G G G (r := ((((gt K34 j).lm) * n) + ((gt K34 j).lt))) G oO oO) ?_
  refine SR.z 22 G G (ev_ix G underlying27 ty3 G G oO oO (fun _ _ => Fr.adr (i := ((((gt K34 j).lm) * n) + ((gt K34 j).lt))) (Fr.lent (S := S) hR_84 8 G lO) oO oO)) ?_
  refine SR.z 23 G G (ev_ld1 G ty3 G (At.elem1 (At.d (Fr.el (i := ((((gt K34 j).lm) * n) + ((gt K34 j).lt))) (Fr.lent (S := S) hR_84 8 G lO) oO oO)) 0 G)) ?_
  refine SR.z 24 G G (ev_as G G) ?_
  refine SR.z 25 G G (ev_as G G) ?_
  refine SR.fin kR hl_84 hx_84 hR_84 .n ?_
  refine SQ.go idQ ?_
  refine .seq (.region (.m G G G (.e G G G G G (.m G G G ?_))))
  refine .w (fun _ => ev_mv G G) G (.w (fun hb => ev_cmp G (lkg G hb) G G) G (.r G G G G G (.m G G G ?_)))
  refine .w (fun _ => ev_mv G G) G (.w (fun _ => ev_mv G G) G (.w (fun hb => have hp := bF (bO bD bD) hb; ev_add G (lkg G hb) (lkg G hb) (r := ((gt Y ((((gt K34 j).lf) * n) + ((gt K34 j).lm))) + (gt Y ((((gt K34 j).lm) * n) + ((gt K34 j).lt))))) G (by have _h := hp; omega) (by have _h := hp; omega)) G (.w (fun _ => ev_fa G fo37_2 G (r := 2) G) G ?_)))
  refine .w (fun hb => ev_ld1 G ty3 (lkg G hb) (At.own1 7 G G)) G (.w (fun hb => ev_cmp G (lkg G hb) (lkg G hb) G) G (.r G G G G G (.go idQ ?_)))
  refine .condI G (bO (bO bD bD) bNE) (fun h85 => ?_) (fun h85 => ?_)
  ·
   exfalso; omega
  refine .skipgo idQ (.region (.p ((j + 1)) oO oO G G G G G (.m G G G ?_)))
  exact SP.nil (SQ.roundb (X := Int) (x := (j)) (j + 1) (by (try dsimp only); exact ⟨oO, oO⟩) (by show (_ : Nat) < _; omega) (Sub.get (.c4 G G G G (.c4 G G G G (.c4 G G G G .n)))) (kp (.c (.t4 (.t4 .h)) (.c (.t4 (.t4 .h)) (.d (.d (.d (.c .h (.c (.t .h) (.c (.t .h) (.c (.t .h) (.c (.t .h) (.c (.t .h) (.c (.t .h) (.c (.t .h) (.c (.t .h) (.c (.t .h) .n)))))))))))))))))
 refine .exit idQ ?_
 refine .seq (.seq (.region (.f fo29_1 1 G G G G (.l ty27 14 G G G G G (.g underlying27 G G G ?_)))))
 refine .m G G G (.go idQ (.block (.loop (X := Int) (fun e => 0 ≤ e ∧ e ≤ ((tabF n true l).length : Int)) (fun e => [(6, .pointer (some ⟨b14, 0, none⟩)), (7, .pointer (some ⟨b15, 0, none⟩)), (9, .pointer (some ⟨lb28, 0, none⟩)), (10, .slice A63 K34.length c64), (11, .pointer (some ⟨b53, 0, none⟩)), (12, .int .i64 (n * n)), (54, .slice A63 K34.length c64), (55, .int .i64 (K34.length : Int)), (56, .int .i64 i), (117, .slice A63 K34.length c64), (118, .int .i64 (K34.length : Int)), (119, .int .i64 j), (214, .int .i64 (((tabF n true l).length : Nat) : Int)), (215, .int .i64 e)]) (fun e => [rw_ eZ 3 (u_Y) Y, cel b53 [.int .i64 n, u_Y] 29, cel lb28 [.slice A39 R33.length c40, .slice A42 K34.length c43, .slice A45 U35.length c46, .slice A48 D36.length c49] 68, rw_ eZ 3 (.slice A39 R33.length c40) R33, rw_ eLK 37 (.slice A42 K34.length c43) K34, rw_ eIL 27 (.slice A45 U35.length c46) U35, rw_ eIL 27 (.slice A48 D36.length c49) D36, nestIL 3 U35, nestIL 3 D36, rw_ eLK 37 (.slice A63 K34.length c64) K34, cel b2 [.slice A22 fi5.length c23, .slice A25 ed6.length c26] 83, rw_ eZ 3 (.slice A22 fi5.length c23) fi5, rw_ eEG 64 (.slice A25 ed6.length c26) ed6, cel b15 [.int .i64 n, .slice A19 W9.length c20] 29, cel b14 [.int .i64 n, .slice A16 ((tabF n true l).length) c17] 29, rw_ eZ 3 (.slice A16 ((tabF n true l).length) c17) (tabF n true l), rw_ eZ 3 (.slice A19 W9.length c20) W9, cel b1 [.int .i64 n, .slice A l.length c] 24]) (fun _ => S) (fun _ => wf) (fun e => (((tabF n true l).length : Int) - e).toNat) (fun a_ w_ hs_ hw_ => ⟨0, (by (try dsimp only); exact ⟨oO, oO⟩), hs_.mono (Sub.get (.c4 G G G G (.c4 G G G G (.c4 G G G G (.c G (.c G .n)))))), hw_.keep (.d (.d (.d (.d (.d (.d (.d (.d (.d .n)))))))))⟩) (fun e ⟨t_0, t_1⟩ => ?_))))
 try dsimp only
 refine .seq (.region (.e G G G G G (.go idQ (.seq (.condI G bD (fun h86 => ?_) (fun h86 => ?_))))))
 ·
  refine .skipgo idQ (.seq (.block (.seq (.region (.m G G G (.a G G G (.go idQ (.seq ?_))))))))
  have htb := hF.tb e oO oO
  refine .know (row_len 0 G) (fun hv89 => ?_)
  obtain ⟨A87, c88, rfl, hv89_1, hv89_2⟩ := hv89
  unfold maxLen at hv89_2
  refine SC.draw mo [] [] .n (fun _ _ _ => sc0) (fun wf_90 hl_90 hx_90 hR_90 => ?_)
  refine SR.z 0 G G (ev_fa G fo29_1 G (r := 1) G) ?_
  refine SR.z 1 G G (ev_ld1 G ty27 G (At.d (At.lent hR_90 14 G G))) ?_
  refine SR.m 2 G G G G ?_
  refine SR.z 3 G G (ev_ix G underlying27 ty3 G G oO oO (fun _ _ => Fr.adr (i := e) (Fr.lent (S := S) hR_90 15 G lO) oO oO)) ?_
  refine SR.z 4 G G (ev_ld1 G ty3 G (At.elem1 (At.d (Fr.el (i := e) (Fr.lent (S := S) hR_90 15 G lO) oO oO)) 0 G)) ?_
  refine SR.z 5 G G (ev_cmp G G G G) ?_
  refine SR.m 6 G G G G ?_
  refine SR.y 7 G G (fun _ => ev_fa G fo29_1 G (r := 1) G) ?_
  refine SR.y 8 G G (fun hb => ev_ld1 G ty27 (lkg G hb) (At.d (At.lent hR_90 1 G G))) ?_
  refine SR.y 9 G G (fun _ => ev_mv G G) ?_
  refine SR.y 10 G G (fun hb => have hp := bT bD hb; ev_ix G underlying27 ty3 (lkg G hb) (lkg G hb) (by have _h := hp; omega) (by have _h := hp; omega) (fun _ _ => Fr.adr (i := e) (Fr.lent (S := S) hR_90 0 G lO) (by have _h := hp; omega) (by have _h := hp; omega))) ?_
  refine SR.y 11 G G (fun hb => have hp := bT bD hb; ev_ld1 G ty3 (lkg G hb) (At.elem1 (At.d (Fr.el (i := e) (Fr.lent (S := S) hR_90 0 G lO) (by have _h := hp; omega) (by have _h := hp; omega))) 0 G)) ?_
  refine SR.y 12 G G (fun hb => ev_cmp G (lkg G hb) G G) ?_
  refine SR.y 13 G G (fun hb => ev_mv G (lkg G hb)) ?_
  refine SR.ggtake (b1 := (decide ((gt (tabF n true l) e) ≥ 0))) (b := (decide ((gt Y e) < 0))) 14 cb_tf G kR kR kR G (fun _ _ _ _ h => h) G G G G G (fun hb1 _ => ev_fa G fo29_1 G (r := 1) G) ?_
  refine SR.ggtake (b1 := (decide ((gt (tabF n true l) e) ≥ 0))) (b := (decide ((gt Y e) < 0))) 15 cb_tf G kR kR kR G (fun _ _ _ _ h => h) G G G G G (fun hb1 hb => ev_ld1 G ty27 (lkg G hb) (At.d (At.lent hR_90 1 G G))) ?_
  refine SR.ggtake (b1 := (decide ((gt (tabF n true l) e) ≥ 0))) (b := (decide ((gt Y e) < 0))) 16 cb_tf G kR kR kR G (fun _ _ _ _ h => h) G G G G G (fun hb1 _ => ev_mv G G) ?_
  refine SR.ggtake (b1 := (decide ((gt (tabF n true l) e) ≥ 0))) (b := (decide ((gt Y e) < 0))) 17 cb_tf G kR kR kR G (fun _ _ _ _ h => h) G G G G G (fun hb1 hb => have hp := bT (bA bD (bN bD)) hb; ev_ix G underlying27 ty3 (lkg G hb) (lkg G hb) (by have _h := hp; omega) (by have _h := hp; omega) (fun _ _ => Fr.adr (i := e) (Fr.lent (S := S) hR_90 0 G lO) (by have _h := hp; omega) (by have _h := hp; omega))) ?_
  refine SR.ggtake (b1 := (decide ((gt (tabF n true l) e) ≥ 0))) (b := (decide ((gt Y e) < 0))) 18 cb_tf G kR kR kR G (fun _ _ _ _ h => h) G G G G G (fun hb1 hb => have hp := bT (bA bD (bN bD)) hb; ev_ld1 G ty3 (lkg G hb) (At.elem1 (At.d (Fr.el (i := e) (Fr.lent (S := S) hR_90 0 G lO) (by have _h := hp; omega) (by have _h := hp; omega))) 0 G)) ?_
  refine SR.ggtake (b1 := (decide ((gt (tabF n true l) e) ≥ 0))) (b := (decide ((gt Y e) < 0))) 19 cb_tf G kR kR kR G (fun _ _ _ _ h => h) G G G G G (fun hb1 _ => ev_fa G fo29_1 G (r := 1) G) ?_
  refine SR.ggtake (b1 := (decide ((gt (tabF n true l) e) ≥ 0))) (b := (decide ((gt Y e) < 0))) 20 cb_tf G kR kR kR G (fun _ _ _ _ h => h) G G G G G (fun hb1 hb => ev_ld1 G ty27 (lkg G hb) (At.d (At.lent hR_90 14 G G))) ?_
  refine SR.ggtake (b1 := (decide ((gt (tabF n true l) e) ≥ 0))) (b := (decide ((gt Y e) < 0))) 21 cb_tf G kR kR kR G (fun _ _ _ _ h => h) G G G G G (fun hb1 _ => ev_mv G G) ?_
  refine SR.ggtake (b1 := (decide ((gt (tabF n true l) e) ≥ 0))) (b := (decide ((gt Y e) < 0))) 22 cb_tf G kR kR kR G (fun _ _ _ _ h => h) G G G G G (fun hb1 hb => have hp := bT (bA bD (bN bD)) hb; ev_ix G underlying27 ty3 (lkg G hb) (lkg G hb) (by have _h := hp; omega) (by have _h := hp; omega) (fun _ _ => Fr.adr (i := e) (Fr.lent (S := S) hR_90 15 G lO) (by have _h := hp; omega) (by have _h := hp; omega))) ?_
  refine SR.ggtake (b1 := (decide ((gt (tabF n true l) e) ≥ 0))) (b := (decide ((gt Y e) < 0))) 23 cb_tf G kR kR kR G (fun _ _ _ _ h => h) G G G G G (fun hb1 hb => have hp := bT (bA bD (bN bD)) hb; ev_ld1 G ty3 (lkg G hb) (At.elem1 (At.d (Fr.el (i := e) (Fr.lent (S := S) hR_90 15 G lO) (by have _h := hp; omega) (by have _h := hp; omega))) 0 G)) ?_
  refine SR.ggtake (b1 := (decide ((gt (tabF n true l) e) ≥ 0))) (b := (decide ((gt Y e) < 0))) 24 cb_tf G kR kR kR G (fun _ _ _ _ h => h) G G G G G (fun hb1 hb => ev_cmp G (lkg G hb) (lkg G hb) G) ?_
  refine SR.y 25 G G (fun hb => ev_or G (lkg G hb) G (lkgn G cb_tf hb)) ?_
  refine SR.z 26 G G (ev_and G G G G) ?_
  refine SR.fin kR hl_90 hx_90 hR_90 .n ?_
  refine SQ.go idQ ?_
  refine .condI G (bA bD (bO bD bD)) (fun h91 => ?_) (fun h91 => ?_)
  ·
   exfalso; omega
  refine .skipgo idQ (.region (.p ((e + 1)) oO oO G G G G G (.m G G G ?_)))
  exact SP.nil (SQ.roundb (X := Int) (x := (e)) (e + 1) (by (try dsimp only); exact ⟨oO, oO⟩) (by show (_ : Nat) < _; omega) (Sub.get (.c4 G G G G (.c4 G G G G (.c4 G G G G (.c G (.c G .n)))))) (kp (.d (.d (.d (.d (.d (.d (.d (.d (.d .n)))))))))))
 refine .exit idQ ?_
 refine .seq (.region (.a G G G (.go idQ (.ret idQ (ret1 results3 G .n ⟨G, G⟩)))))
theorem liftLinksBadT (n : Int) (A : Option Addr) (c : Nat) (l : List AR) (S : Nat → Prop) (wf : World) (hA : Fr eAR S wf A l) (hR : ¬ RoadOk n l) :
  TR0 prog 3 [.agg #[.int .i64 n, .slice A l.length c], .bool true] [] S wf (fun v_ C_ => v_ = .bool true ∧ C_ = []) := by
 have hla := hA.len
 refine TR.mk func3 G ntmps3 G G (fun w_ => ?_)
 refine .seq (.region (.cons (st_boxa G G G G G (fun b1 => (.a G G G (.go idQ (.seq (.seq (.region ?_)))))))))
 refine .cons (st_callk G G G G hbd8 G .n (awake7_ _ _) ?_)
 refine .v (ev_not G G) G (.go idQ (.cond_f G (.skipgo idQ (.seq (.region ?_)))))
 refine .d 0 ty24 G G G G (.m G G G (.cons (st_callk G G G G hbd9 G .n (graphbadT n A c l _ _ hA hR) (.m G G G ?_))))
 refine .x G G G G (.x G G G G (.x G G G G (.x G G G G ?_)))
 refine .cons (st_alloc G G G G zf29 (fun b2 => ?_))
 refine .cons (st_alloc G G G G zf29 (fun b3 => ?_))
 refine .a G G G (.cons (st_storea (l' := [.int .i64 0, .slice none 0 0]) G G G ty29 G G G (.t .h) G G (.cons (st_storea (l' := [.int .i64 0, .slice none 0 0]) G G G ty29 G G G (.t .h) G G (.a G G G ?_)))))
 refine .go idQ (.seq (.seq (.region (.m G G G (.v (ev_not G G) G (.go idQ ?_))))))
 refine .cond_t G ?_
 refine .seq (.region (.a G G G (.go idQ (.ret idQ (ret1 results3 G .n ⟨G, G⟩)))))
end Go.Proofs.Ytlefdinbbjiabaa.Sx
namespace Go.Proofs.Ytlefdinbbjiabaa.Sx
open Go Go.SX Go.Proofs Go.Proofs.Try
theorem liftLinks_ (n : Int) (A : Option Addr) (c : Nat) (l : List AR) (d : Bool) (S : Nat → Prop) (wf : World) (hA : Fr eAR S wf A l) : TR0 prog 3 [.agg #[.int .i64 n, .slice A l.length c], .bool d] [] S wf (fun v C => v = .bool true ∧ C = []) :=
 (Classical.em (RoadOk n l)).elim (fun h => match d with | false => liftLinksF n A c l S wf hA h | true => liftLinksT n A c l S wf hA h) (fun h => match d with | false => liftLinksBadF n A c l S wf hA h | true => liftLinksBadT n A c l S wf hA h)
end Go.Proofs.Ytlefdinbbjiabaa.Sx
namespace Go.SX
open Go Go.RowKit
def TellsW (P : Program) (w : World) (e : TypeId) {α : Type} (E : Enc α) (good : α → Prop) : Prop :=
  ∀ {H : Type} (enc : TypeId × Value → H) (base : Nat) (spare : Nat → Bool) (held : Bool) (n : Nat) (cs : List Value) (y : DataW H × List MemPlace), DataW.trod enc P w base spare held n e cs = some y → (∀ b ∈ y.1.weights P e, b ≤ reachBytes) → ∃ a, cs = E.enc a ∧ good a
section
variable {H : Type} {enc : TypeId × Value → H} {P : Program} {w : World} {base : Nat} {spare : Nat → Bool} {held : Bool}
theorem weightsAll_mem {e : TypeId} {d : DataW H} {b : Nat} : ∀ {l : List (DataW H)}, d ∈ l → b ∈ d.weights P e → b ∈ DataW.weightsAll P e l
  | [], h, _ => by cases h
  | x :: r, h, hb => by
    unfold DataW.weightsAll
    rcases List.mem_cons.1 h with rfl | h
    · exact List.mem_append_left _ hb
    · exact List.mem_append_right _ (weightsAll_mem h hb)
theorem rows_w {α : Type} [Inhabited α] {E : Enc α} {good : α → Prop} {t e : TypeId} {fuel : Nat} {cs : List Value} {x : DataW H × List MemPlace} (ht : P.underlying t = some (.slice e)) (he : P.cellsOf e = E.sz) (hT : TellsW P w e E good) (hbo : 1 ≤ P.bytesOf e)
    (h : DataW.trod enc P w base spare held fuel t cs = some x) (hw : ∀ b ∈ x.1.weights P t, b ≤ reachBytes) :
    ∃ A l cap, cs = [.slice A l.length cap] ∧ Fr E (fun b => b < w.heap.size) w A l ∧ ∀ y ∈ l, good y := by
  rcases DataW.trod_slice ht h with h0 | ⟨a, len, cap, elems, rest, n, hx1, rfl, rfl, hb, hl, hm, hlen, hel, hsp, hns⟩
  · exact ⟨none, [], 0, h0.1, Fr.nil _ _ _ _, by simp⟩
  have hw2 : ∀ b ∈ DataW.weights P t (.slice (elems.map (·.1)) (rest.map (·.1))), b ≤ reachBytes := hw
  have each : ∀ i, i < len → ∃ x : α, good x ∧ w.cells? base (a.add (i * E.sz)) E.sz = some (E.enc x) := by
    intro i hi
    have h1 := hel i hi
    have h2 : elems[i]? = some (elems[i]'(by omega)) := List.getElem?_eq_getElem (by omega)
    rw [h2, he, Option.bind_eq_some_iff] at h1
    obtain ⟨cs', h3, h4⟩ := h1
    obtain ⟨x, rfl, hg⟩ := hT enc base spare held n cs' _ h4 (fun b hb => hw2 b (by
      unfold DataW.weights
      rw [ht]
      exact List.mem_cons_of_mem _ (List.mem_append_left _ (weightsAll_mem (List.mem_map_of_mem (List.getElem_mem (by omega))) hb))))
    exact ⟨x, hg, h3⟩
  let f : Nat → α := fun i => if hi : i < len then (each i hi).choose else default
  have hf : ∀ i (hi : i < len), f i = (each i hi).choose := fun i hi => dif_pos hi
  have hbig : len ≤ 140737488355328 := by
    have h1 := hw2 ((elems.map (·.1)).length + (rest.map (·.1)).length |>.mul (P.bytesOf e)) (by unfold DataW.weights; rw [ht]; exact List.mem_cons_self ..)
    have h11 : elems.length * 1 ≤ ((elems.map (·.1)).length + (rest.map (·.1)).length) * P.bytesOf e := Nat.mul_le_mul (by simp) hbo
    have h12 : reachBytes < 2 ^ 47 := reachBytes_lt
    have h13 : ((elems.map (·.1)).length + (rest.map (·.1)).length) * P.bytesOf e ≤ reachBytes := h1
    omega
  have hgood : ∀ x ∈ (List.range len).map f, good x := by
    intro x hx
    obtain ⟨i, hi, rfl⟩ := List.mem_map.1 hx
    have hlt : i < len := by simpa using hi
    rw [hf i hlt]
    exact (each i hlt).choose_spec.1
  refine ⟨some a, (List.range len).map f, cap, by simp, ⟨by simpa using hbig, ?_⟩, hgood⟩
  rcases Nat.eq_zero_or_pos len with h0 | h0
  · subst h0; exact .inl (by simp)
  have hat : ∀ i, i < len → ∀ j u, (E.enc (f i))[j]? = some u → w.cell? (a.add (i * E.sz + j)) = some u := by
    intro i hi j u hj
    obtain ⟨_, h1, h2⟩ := World.cells?_some (each i hi).choose_spec.2
    rw [← hf i hi] at h1 h2
    have hjs : j < E.sz := by have := (List.getElem?_eq_some_iff.1 hj).1; omega
    rw [← add_zero_add, h2 j hjs, hj]
  have hpos := E.pos
  have hspot : a.spot = none := by
    have h1 : (E.enc (f 0)).length = E.sz := E.len _
    have h2 := hat 0 h0 0 ((E.enc (f 0))[0]'(by omega)) (List.getElem?_eq_getElem (by omega))
    have h3 := World.cell?_spot h2
    simpa [Addr.add] using h3
  obtain ⟨b, off, spot⟩ := a
  simp only at hspot
  subst hspot
  have hall : ∀ i x, ((List.range len).map f)[i]? = some x → At w b (off + i * E.sz) (E.enc x) := fun i x hx j u hu => by
    simp only [List.getElem?_map, Option.map_eq_some_iff] at hx
    obtain ⟨i', hi', rfl⟩ := hx
    have hi2 := List.getElem?_eq_some_iff.1 hi'
    obtain ⟨hlt, heq⟩ := hi2
    simp at heq hlt
    subst heq
    have := hat i hlt j u hu
    rw [show off + i * E.sz + j = off + (i * E.sz + j) from by omega]
    have e1 : (⟨b, off, none⟩ : Addr).add (i * E.sz + j) = ⟨b, off + (i * E.sz + j), none⟩ := by
      unfold Addr.add
      split
      · rename_i h0; rw [h0]; rfl
      · rfl
    rwa [e1] at this
  refine .inr ⟨b, off, rfl, ?_, hall⟩
  have hx := hall 0 (f 0) (by simp [h0])
  have hl1 := E.len (f 0)
  have := hx 0 ((E.enc (f 0))[0]'(by omega)) (List.getElem?_eq_getElem (by omega))
  unfold World.cell? at this
  cases hb1 : w.heap[b]? with
  | none => simp only [hb1] at this; cases this
  | some o => exact lt_of_some hb1
theorem struct_w {t : TypeId} {fuel : Nat} {cs : List Value} {x : DataW H × List MemPlace} {fs : Array Field} (ht : P.underlying t = some (.struct fs)) (h : DataW.trod enc P w base spare held fuel t cs = some x) (hw : ∀ b ∈ x.1.weights P t, b ≤ reachBytes) :
    ∃ n, cs.length = P.cellsOf t ∧ ∀ (i : Nat) (f : Field), fs[i]? = some f → ∃ y : DataW H × List MemPlace, DataW.trod enc P w base spare held n f.type ((cs.drop f.offset).take (P.cellsOf f.type)) = some y ∧ ∀ b ∈ y.1.weights P f.type, b ≤ reachBytes := by
  obtain ⟨xs, n, _, rfl, hl, hx, hf⟩ := DataW.trod_struct ht h
  refine ⟨n, hl, fun i f hi => ?_⟩
  have h1 := hf i f hi
  have hlt : i < fs.size := (Array.getElem?_eq_some_iff.1 hi).1
  rw [List.getElem?_eq_getElem (by omega)] at h1
  refine ⟨xs[i]'(by omega), h1, fun b hb => hw b ?_⟩
  show b ∈ DataW.weights P t (.agg (xs.map (·.1)))
  unfold DataW.weights
  rw [ht]
  exact DataW.weights_mem_each (j := i) (d := (xs[i]'(by omega)).1) (by simp [hi]) (by simp [List.getElem?_eq_getElem (show i < xs.length by omega)]) b hb
end
end Go.SX
set_option maxRecDepth 20000
namespace Go.Proofs.Ytlefdinbbjiabaa.Sx
open Go Go.SX Go.Proofs Go.Proofs.Try
theorem cO24 : prog.cellsOf 24 = 2 := by kernel_rfl
theorem cO47 : prog.cellsOf 47 = 4 := by kernel_rfl
theorem cO22 : prog.cellsOf 22 = 1 := by kernel_rfl
theorem cO3 : prog.cellsOf 3 = 1 := by kernel_rfl
structure RDA where
 n : Int
 A : Option Addr
 c : Nat
 l : List AR
def eRDA : Enc RDA where
 sz := 2
 enc x := [.int .i64 x.n, .slice x.A x.l.length x.c]
 len _ := rfl
 one x u hu := by simp at hu; rcases hu with rfl | rfl <;> rfl
 pos := by decide
section
variable {w : World}
theorem tw47 : TellsW prog w 47 eAR (fun _ => True) := by
 intro H enc base spare held n cs y h hw
 obtain ⟨k, hl, hf⟩ := struct_w underlying47 h hw
 rw [cO47] at hl
 match cs, hl with
 | [v0, v1, v2, v3], _ =>
  obtain ⟨y0, h0, w0⟩ := hf 0 _ rfl
  replace h0 : DataW.trod enc prog w base spare held k 3 (([v0, v1, v2, v3].drop 0).take (prog.cellsOf 3)) = some y0 := h0
  rw [cO3] at h0
  replace h0 : DataW.trod enc prog w base spare held k 3 [v0] = some y0 := h0
  obtain ⟨y1, h1, w1⟩ := hf 1 _ rfl
  replace h1 : DataW.trod enc prog w base spare held k 3 (([v0, v1, v2, v3].drop 1).take (prog.cellsOf 3)) = some y1 := h1
  rw [cO3] at h1
  replace h1 : DataW.trod enc prog w base spare held k 3 [v1] = some y1 := h1
  obtain ⟨y2, h2, w2⟩ := hf 2 _ rfl
  replace h2 : DataW.trod enc prog w base spare held k 3 (([v0, v1, v2, v3].drop 2).take (prog.cellsOf 3)) = some y2 := h2
  rw [cO3] at h2
  replace h2 : DataW.trod enc prog w base spare held k 3 [v2] = some y2 := h2
  obtain ⟨y3, h3, w3⟩ := hf 3 _ rfl
  replace h3 : DataW.trod enc prog w base spare held k 3 (([v0, v1, v2, v3].drop 3).take (prog.cellsOf 3)) = some y3 := h3
  rw [cO3] at h3
  replace h3 : DataW.trod enc prog w base spare held k 3 [v3] = some y3 := h3
  obtain ⟨m0, e0, _, _⟩ := DataW.trod_int underlying3 h0
  simp only [List.cons.injEq, and_true] at e0
  subst e0
  obtain ⟨m1, e1, _, _⟩ := DataW.trod_int underlying3 h1
  simp only [List.cons.injEq, and_true] at e1
  subst e1
  obtain ⟨m2, e2, _, _⟩ := DataW.trod_int underlying3 h2
  simp only [List.cons.injEq, and_true] at e2
  subst e2
  obtain ⟨m3, e3, _, _⟩ := DataW.trod_int underlying3 h3
  simp only [List.cons.injEq, and_true] at e3
  subst e3
  exact ⟨⟨m0, m1, m2, m3⟩, G, trivial⟩
theorem tw24 : TellsW prog w 24 eRDA (fun x => Fr eAR (fun b => b < w.heap.size) w x.A x.l) := by
 intro H enc base spare held n cs y h hw
 obtain ⟨k, hl, hf⟩ := struct_w underlying24 h hw
 rw [cO24] at hl
 match cs, hl with
 | [v0, v1], _ =>
  obtain ⟨y0, h0, w0⟩ := hf 0 _ rfl
  replace h0 : DataW.trod enc prog w base spare held k 3 (([v0, v1].drop 0).take (prog.cellsOf 3)) = some y0 := h0
  rw [cO3] at h0
  replace h0 : DataW.trod enc prog w base spare held k 3 [v0] = some y0 := h0
  obtain ⟨y1, h1, w1⟩ := hf 1 _ rfl
  replace h1 : DataW.trod enc prog w base spare held k 22 (([v0, v1].drop 1).take (prog.cellsOf 22)) = some y1 := h1
  rw [cO22] at h1
  replace h1 : DataW.trod enc prog w base spare held k 22 [v1] = some y1 := h1
  obtain ⟨m0, e0, _, _⟩ := DataW.trod_int underlying3 h0
  simp only [List.cons.injEq, and_true] at e0
  subst e0
  obtain ⟨LA, ll, lc, el, fr, _⟩ := rows_w (E := eAR) underlying22 cO47 tw47 (by decide +kernel) h1 w1
  simp only [List.cons.injEq, and_true] at el
  subst el
  exact ⟨⟨m0, LA, lc, ll⟩, G, fr⟩
end
end Go.Proofs.Ytlefdinbbjiabaa.Sx
