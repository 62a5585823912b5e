import Derived.Test.YtlefdinbbjiabaaProg
import Derived.Test.YtlefdinbbjiabaaS5
set_option linter.unusedVariables false
set_option linter.unusedSimpArgs false
set_option linter.unusedSectionVars false
set_option maxRecDepth 20000
set_option maxHeartbeats 8000000
namespace Go.Proofs.Ytlefdinbbjiabaa.Sx.FU
open Go Go.SX Go.Proofs Go.Proofs.Try FA FB FC FD FE FF FG FH FI FJ FK FL FM FN FO FP FQ FR FS FT
theorem hbd8 : hasBody prog 8 = true := by kernel_rfl
theorem hbd14 : hasBody prog 14 = true := by kernel_rfl
theorem hbd15 : hasBody prog 15 = true := by kernel_rfl
theorem ev37_neq (x y : Operand) (x0 y0 : Int) (x1 y1 : Int) (x2 y2 : Int) (x3 y3 : Int) (w : World) : (do eqGuard .neq 37 x y (.agg #[(.int .i64 x0), (.int .i64 x1), (.int .i64 x2), (.int .i64 x3)]) (.agg #[(.int .i64 y0), (.int .i64 y1), (.int .i64 y2), (.int .i64 y3)]); binOp .neq 37 (.agg #[(.int .i64 x0), (.int .i64 x1), (.int .i64 x2), (.int .i64 x3)]) (.agg #[(.int .i64 y0), (.int .i64 y1), (.int .i64 y2), (.int .i64 y3)]) : Sem Value).run prog w = .ok (.bool (!((x0 == y0) && ((x1 == y1) && ((x2 == y2) && (x3 == y3)))))) w := by
 have h1 : (Op.equal 37 (.agg #[(.int .i64 x0), (.int .i64 x1), (.int .i64 x2), (.int .i64 x3)]) (.agg #[(.int .i64 y0), (.int .i64 y1), (.int .i64 y2), (.int .i64 y3)])).run prog w = .ok ((x0 == y0) && ((x1 == y1) && ((x2 == y2) && (x3 == y3)))) w := eqIn37 9997 x0 y0 x1 y1 x2 y2 x3 y3 w
 have h2 : (eqGuard .neq 37 x y (.agg #[(.int .i64 x0), (.int .i64 x1), (.int .i64 x2), (.int .i64 x3)]) (.agg #[(.int .i64 y0), (.int .i64 y1), (.int .i64 y2), (.int .i64 y3)])).run prog w = .ok () w := by kernel_rfl
 simp only [Sem.run_bind, h2, Result.andThen_ok, binOp, h1]
 rfl
end Go.Proofs.Ytlefdinbbjiabaa.Sx.FU
namespace Go.Proofs.Ytlefdinbbjiabaa.Sx
open Go Go.SX Go.Proofs Go.Proofs.Try FA FB FC FD FE FF FG FH FI FJ FK FL FM FN FO FP FQ FR FS FT FU
theorem liftAgainF (n : Int) (A : Option Addr) (c : Nat) (l : List AR) (S : Nat → Prop) (wf : World) (hA : Fr eAR S wf A l) (hR : RoadOk n l) :
  TR0 prog 7 [.agg #[.int .i64 n, .slice A l.length c], .bool false] [] S wf (fun v_ C_ => v_ = .bool true ∧ C_ = []) := by
 have hla := hA.len
 have hlen := hR.len
 have hnp := hR.pl
 have hto := tab_ok (d := false) hR
 have htl := hto.len
 have hsq := sq_le hnp
 refine TR.mk func7 G ntmps7 G G (fun w_ => ?_)
 refine .seq (.region (.cons (st_boxa G G G G G (fun b1 => (.a G G G (.go idQ (.seq (.seq (.region ?_)))))))))
 refine .cons (st_callk G G G G hbd8 G .n (awake7_ _ _) ?_)
 refine .v (ev_not G G) G (.go idQ (.cond_f G (.skipgo idQ (.seq (.region ?_)))))
 refine .d 0 ty24 G G G G (.m G G G (.cons (st_call0 G G G G hbd9 G .n (graphF n A c l _ _ hA hR) (fun v_q10 C_q10 q10 => ?_))))
 obtain ⟨b2, u3, v4, fi5, ed6, x7, y8, W9, p11, p12, p13, rfl, rfl⟩ := q10
 show SP _ _ _ _ _ _ ⟨_, _ :: _ :: _ :: _ :: _ :: _, _, _⟩
 have hgl := p11.len
 have hgn := p11.ne
 refine .m G G G (.x G G G G (.x G G G G (.x G G G G ?_)))
 refine .x G G G G (.cons (st_alloc G G G G zf29 (fun b14 => (.cons (st_alloc G G G G zf29 (fun b15 => (.a G G G ?_)))))))
 refine .know (row_len 5 G) (fun hv18 => ?_)
 obtain ⟨A16, c17, rfl, hv18_1, hv18_2⟩ := hv18
 unfold maxLen at hv18_2
 refine .cons (st_storea (l' := [.int .i64 n, .slice A16 ((tabF n false l).length) c17]) G G G ty29 G G G (.t .h) G G ?_)
 refine .know (row_len 6 G) (fun hv21 => ?_)
 obtain ⟨A19, c20, rfl, hv21_1, hv21_2⟩ := hv21
 unfold maxLen at hv21_2
 refine .cons (st_storea (l' := [.int .i64 n, .slice A19 W9.length c20]) G G G ty29 G G G (.t .h) G G ?_)
 refine .a G G G (.go idQ (.seq (.seq (.region (.m G G G (.v (ev_not G G) G ?_))))))
 refine .go idQ (.cond_f G (.skipgo idQ (.seq (.region (.m G G G ?_)))))
 refine .know (row_len 3 G) (fun hv24 => ?_)
 obtain ⟨A22, c23, rfl, hv24_1, hv24_2⟩ := hv24
 unfold maxLen at hv24_2
 refine .know (row_len 4 G) (fun hv27 => ?_)
 obtain ⟨A25, c26, rfl, hv27_1, hv27_2⟩ := hv27
 unfold maxLen at hv27_2
 refine .cons (st_lend0 G G G G hbd10 G (.c (.t2 .h) .n) (.c (.t2 .h) (.c (.t2 .h) .n)) (fun w_ hw => build_ n (tabF n false l) b2 A22 c23 fi5 A25 c26 ed6 _ _ (Fr.lend hw 0 G lO) (Fr.lend hw 1 G lO) hto p11 lO) (fun v_q37 C_q37 q37 => ?_))
 obtain ⟨lb28, v129, v230, v331, v432, R33, K34, U35, D36, p38, rfl, rfl⟩ := q37
 show SP _ _ _ _ _ _ ⟨_, _ :: _ :: _ :: _ :: _ :: _ :: _ :: _ :: _ :: _ :: _, _, _⟩
 have hlo := lok hto p11 p38
 have hRn := hlo.2
 have hL := hlo.1
 have hkl := hL.kl
 refine .m G G G (.cons (st_lend0 G G G G hbd10 G (.c .h .n) (.c (.t4 (.t2 (.t .h))) (.c (.t4 (.t2 (.t .h))) .n)) (fun w_ hw => build_ n (tabF n false l) b2 A22 c23 fi5 A25 c26 ed6 _ _ (Fr.lend hw 0 G lO) (Fr.lend hw 1 G lO) hto p11 lO) (fun v_q48 C_q48 q48 => ?_)))
 obtain ⟨lb39, v140, v241, v342, v443, R44, K45, U46, D47, p49, rfl, rfl⟩ := q48
 show SP _ _ _ _ _ _ ⟨_, _ :: _ :: _ :: _ :: _ :: _ :: _ :: _ :: _ :: _ :: _, _, _⟩
 obtain ⟨eR, eK, hud⟩ := lft_det p38 p49
 have hL2 := (lok hto p11 p49).1
 subst eR eK
 refine .a G G G (.a G G G (.go idQ (.seq (.seq (.know (row_len 2 G) (fun hv52 => ?_))))))
 obtain ⟨A50, c51, rfl, hv52_1, hv52_2⟩ := hv52
 unfold maxLen at hv52_2
 refine .know (row_len 3 G) (fun hv55 => ?_)
 obtain ⟨A53, c54, rfl, hv55_1, hv55_2⟩ := hv55
 unfold maxLen at hv55_2
 refine .know (row_len 4 G) (fun hv58 => ?_)
 obtain ⟨A56, c57, rfl, hv58_1, hv58_2⟩ := hv58
 unfold maxLen at hv58_2
 refine .know (row_len 5 G) (fun hv61 => ?_)
 obtain ⟨A59, c60, rfl, hv61_1, hv61_2⟩ := hv61
 unfold maxLen at hv61_2
 refine .know (row_len 11 G) (fun hv64 => ?_)
 obtain ⟨A62, c63, rfl, hv64_1, hv64_2⟩ := hv64
 unfold maxLen at hv64_2
 refine .know (row_len 12 G) (fun hv67 => ?_)
 obtain ⟨A65, c66, rfl, hv67_1, hv67_2⟩ := hv67
 unfold maxLen at hv67_2
 refine .know (row_len 13 G) (fun hv70 => ?_)
 obtain ⟨A68, c69, rfl, hv70_1, hv70_2⟩ := hv70
 unfold maxLen at hv70_2
 refine .know (row_len 14 G) (fun hv73 => ?_)
 obtain ⟨A71, c72, rfl, hv73_1, hv73_2⟩ := hv73
 unfold maxLen at hv73_2
 refine .region (.a G G G (.go idQ (.block (.loop (X := Int) (fun p => 0 ≤ p ∧ p ≤ n) (fun p => [(7, .pointer (some ⟨b15, 0, none⟩)), (9, .pointer (some ⟨lb28, 0, none⟩)), (10, .pointer (some ⟨lb39, 0, none⟩)), (11, .int .i64 p)]) (fun p => [cel b2 [.slice A22 fi5.length c23, .slice A25 ed6.length c26] 83, cel lb39 [.slice A50 R44.length c51, .slice A53 K45.length c54, .slice A56 U46.length c57, .slice A59 D47.length c60] 68, rw_ eZ 3 (.slice A50 R44.length c51) R44, rw_ eLK 37 (.slice A53 K45.length c54) K45, rw_ eIL 27 (.slice A56 U46.length c57) U46, rw_ eIL 27 (.slice A59 D47.length c60) D47, nestIL 3 U46, nestIL 3 D47, rw_ eZ 3 (.slice A22 fi5.length c23) fi5, rw_ eEG 64 (.slice A25 ed6.length c26) ed6, cel lb28 [.slice A62 R44.length c63, .slice A65 K45.length c66, .slice A68 U35.length c69, .slice A71 D36.length c72] 68, rw_ eZ 3 (.slice A62 R44.length c63) R44, rw_ eLK 37 (.slice A65 K45.length c66) K45, rw_ eIL 27 (.slice A68 U35.length c69) U35, rw_ eIL 27 (.slice A71 D36.length c72) D36, nestIL 3 U35, nestIL 3 D36, cel b15 [.int .i64 n, .slice A19 W9.length c20] 29, cel b14 [.int .i64 n, .slice A16 ((tabF n false l).length) c17] 29, rw_ eZ 3 (.slice A16 ((tabF n false l).length) c17) (tabF n false l), rw_ eZ 3 (.slice A19 W9.length c20) W9, cel b1 [.int .i64 n, .slice A l.length c] 24]) (fun _ => S) (fun _ => wf) (fun p => (n - p).toNat) (fun a_ w_ hs_ hw_ => ⟨0, (by (try dsimp only); exact ⟨oO, oO⟩), hs_.mono (Sub.get (.c4 G G G G .n)), hw_.keep (.d (.d (.d (.d (.d (.d (.d (.d (.d (.d (.d .n)))))))))))⟩) (fun p ⟨q_0, q_1⟩ => ?_)))))
 try dsimp only
 refine .seq (.seq (.region (.m G G G (.f fo29_0 0 G G G G (.l ty3 17 G G G G G ?_)))))
 refine .e G G G G G (.go idQ (.condI G bD (fun h74 => ?_) (fun h74 => ?_)))
 ·
  refine .skipgo idQ (.seq (.block (.seq ?_)))
  have hpe := hud p oO oO
  have hup : (pkL R44 K45 U46 p).length = (pkL R44 K45 U35 p).length := by unfold pkL; rw [hpe.1]
  have hdn : (pkL R44 K45 D47 p).length = (pkL R44 K45 D36 p).length := by unfold pkL; rw [hpe.2]
  refine .region (.m G G G (.m G G G (.cons (st_callk G G G G hbd12 G (.c (.t4 (.t4 (.t2 .h))) (.c (.t4 (.t4 (.t2 .h))) (.c (.t4 (.t4 (.t2 .h))) (.c (.t4 (.t4 (.t2 .h))) (.c (.t4 (.t4 (.t2 .h))) (.c (.t4 (.t4 (.t2 .h))) (.c (.t4 (.t4 (.t2 .h))) .n))))))) (lrk_ lb28 A62 c63 R44 A65 c66 K45 A68 c69 U35 A71 c72 D36 p _ _) ?_))))
  refine .m G G G (.m G G G (.cons (st_callk G G G G hbd12 G (.c (.t .h) (.c (.t .h) (.c (.t .h) (.c (.t .h) (.c (.t .h) (.c (.t .h) (.c (.t .h) .n))))))) (lrk_ lb39 A50 c51 R44 A53 c54 K45 A56 c57 U46 A59 c60 D47 p _ _) (.e G G G G G ?_))))
  refine .m G G G (.w (fun _ => ev_mv G G) G (.w (fun _ => ev_mv G G) G ?_))
  rcases Bool.eq_false_or_eq_true ((rkAt R44 p) != (rkAt R44 p)) with hb75 | hb75
  ·
   refine SP.reslot (t := 44) G hb75 ?_
   have hb75_ := bT bNE hb75
   clear hb75; exfalso; omega
  refine SP.reslot (t := 44) G hb75 ?_
  have hb75_ := bF bNE hb75
  refine .cons (.on G G G (st_call0 G G G G hbd14 (lkA1 (lkg G hb75) (lkA1 (lkg G hb75) lkA0)) (.c (.t4 (.t4 (.t2 .h))) (.c (.t4 (.t4 (.t2 .h))) (.c (.t4 (.t4 (.t2 .h))) (.c (.t4 (.t4 (.t2 .h))) (.c (.t4 (.t4 (.t2 .h))) (.c (.t4 (.t4 (.t2 .h))) (.c (.t4 (.t4 (.t2 .h))) .n))))))) (lup_ lb28 A62 c63 R44 A65 c66 K45 A68 c69 U35 A71 c72 D36 p _ _ hL) (fun v_q77 C_q77 q77 => ?_)))
  obtain ⟨u76, rfl, rfl⟩ := q77
  show SP _ _ _ _ _ _ ⟨_, _ :: _ :: _ :: _ :: _ :: _ :: _ :: _ :: _, _, _⟩
  refine .know (row_len 7 G) (fun hv80 => ?_)
  obtain ⟨A78, c79, rfl, hv80_1, hv80_2⟩ := hv80
  unfold maxLen at hv80_2
  refine .cons (.on G G G (Ev.step (ev_len G underlying34 G) G G G ?_))
  refine .cons (.on G G G (Ev.step (ev_mv G G) G G G ?_))
  refine .cons (.on G G G (Ev.step (ev_mv G G) G G G ?_))
  refine .cons (.on G G G (st_call0 G G G G hbd14 G (.c (.t4 (.t4 (.t .h))) (.c (.t4 (.t4 (.t .h))) (.c (.t4 (.t4 (.t .h))) (.c (.t4 (.t4 (.t .h))) (.c (.t4 (.t4 (.t .h))) (.c (.t4 (.t4 (.t .h))) (.c (.t4 (.t4 (.t .h))) .n))))))) (lup_ lb39 A50 c51 R44 A53 c54 K45 A56 c57 U46 A59 c60 D47 p _ _ hL2) (fun v_q82 C_q82 q82 => ?_)))
  obtain ⟨u81, rfl, rfl⟩ := q82
  show SP _ _ _ _ _ _ ⟨_, _ :: _ :: _ :: _ :: _ :: _ :: _ :: _ :: _, _, _⟩
  refine .know (row_len 7 G) (fun hv85 => ?_)
  obtain ⟨A83, c84, rfl, hv85_1, hv85_2⟩ := hv85
  unfold maxLen at hv85_2
  refine .cons (.on G G G (Ev.step (ev_len G underlying34 G) G G G ?_))
  refine .cons (.on G G G (Ev.step (ev_cmp G G G G) G G G ?_))
  refine .v (ev_pickf G G G G) G (.m G G G (.w (fun _ => ev_mv G G) G (.w (fun _ => ev_mv G G) G ?_)))
  rcases Bool.eq_false_or_eq_true ((((pkL R44 K45 U35 p).length : Nat) : Int) != (((pkL R44 K45 U46 p).length : Nat) : Int)) with hb86 | hb86
  ·
   refine SP.reslot (t := 55) G hb86 ?_
   have hb86_ := bT bNE hb86
   clear hb86; exfalso; omega
  refine SP.reslot (t := 55) G hb86 ?_
  have hb86_ := bF bNE hb86
  refine .cons (.on G G G (st_call0 G G G G hbd15 (lkA1 (lkg G hb86) (lkA1 (lkg G hb86) lkA0)) (.c (.t4 (.t4 .h)) (.c (.t4 (.t4 .h)) (.c (.t4 (.t4 .h)) (.c (.t4 (.t4 .h)) (.c (.t4 (.t4 .h)) (.c (.t4 (.t4 .h)) (.c (.t4 (.t4 .h)) .n))))))) (ldown_ lb28 A62 c63 R44 A65 c66 K45 A68 c69 U35 A71 c72 D36 p _ _ hL) (fun v_q88 C_q88 q88 => ?_)))
  obtain ⟨u87, rfl, rfl⟩ := q88
  show SP _ _ _ _ _ _ ⟨_, _ :: _ :: _ :: _ :: _ :: _ :: _ :: _ :: _, _, _⟩
  refine .know (row_len 7 G) (fun hv91 => ?_)
  obtain ⟨A89, c90, rfl, hv91_1, hv91_2⟩ := hv91
  unfold maxLen at hv91_2
  refine .cons (.on G G G (Ev.step (ev_len G underlying34 G) G G G ?_))
  refine .cons (.on G G G (Ev.step (ev_mv G G) G G G ?_))
  refine .cons (.on G G G (Ev.step (ev_mv G G) G G G ?_))
  refine .cons (.on G G G (st_call0 G G G G hbd15 G (.c (.t4 (.t4 .h)) (.c (.t4 (.t4 .h)) (.c (.t4 (.t4 .h)) (.c (.t4 (.t4 .h)) (.c (.t4 (.t4 .h)) (.c (.t4 (.t4 .h)) (.c (.t4 (.t4 .h)) .n))))))) (ldown_ lb39 A50 c51 R44 A53 c54 K45 A56 c57 U46 A59 c60 D47 p _ _ hL2) (fun v_q93 C_q93 q93 => ?_)))
  obtain ⟨u92, rfl, rfl⟩ := q93
  show SP _ _ _ _ _ _ ⟨_, _ :: _ :: _ :: _ :: _ :: _ :: _ :: _ :: _, _, _⟩
  refine .know (row_len 7 G) (fun hv96 => ?_)
  obtain ⟨A94, c95, rfl, hv96_1, hv96_2⟩ := hv96
  unfold maxLen at hv96_2
  refine .cons (.on G G G (Ev.step (ev_len G underlying34 G) G G G ?_))
  refine .cons (.on G G G (Ev.step (ev_cmp G G G G) G G G ?_))
  refine .v (ev_pickf G G G G) G (.go idQ (.condI G bNE (fun h97 => ?_) (fun h97 => ?_)))
  ·
   exfalso; omega
  refine .skipgo idQ (.region (.m G G G (.p ((p + 1)) oO oO G G G G G (.a G G G ?_))))
  exact SP.nil (SQ.roundb (X := Int) (x := (p)) (p + 1) (by (try dsimp only); exact ⟨oO, oO⟩) (by show (_ : Nat) < _; omega) (Sub.get (.c4 G G G G .n)) (kp (.c (.t4 (.t4 (.t4 (.t4 (.t2 .h))))) (.d (.d (.d (.c .h (.c (.t4 (.t4 (.t2 (.t .h)))) (.c (.t4 (.t4 (.t2 (.t .h)))) (.c (.t .h) (.c (.t .h) (.c (.t .h) (.c (.t .h) (.c (.t .h) (.c (.t .h) (.c (.t .h) (.c (.t4 .h) (.c (.t4 .h) (.c (.t4 .h) (.c (.t4 .h) (.c (.t4 .h) .n)))))))))))))))))))))
 refine .exit idQ ?_
 refine .seq (.region (.m G G G (.cons (st_call0 G G G G hbd11 G (.c (.t4 (.t4 (.t2 .h))) (.c (.t4 (.t4 (.t2 .h))) (.c (.t4 (.t4 (.t2 .h))) (.c (.t4 (.t4 (.t2 .h))) (.c (.t4 (.t4 (.t2 .h))) (.c (.t4 (.t4 (.t2 .h))) (.c (.t4 (.t4 (.t2 .h))) .n))))))) (lks_ lb28 A62 c63 R44 A65 c66 K45 A68 c69 U35 A71 c72 D36 _ _ oO) (fun v_q99 C_q99 q99 => ?_)))))
 obtain ⟨u98, rfl, rfl⟩ := q99
 show SP _ _ _ _ _ _ ⟨_, _ :: _ :: _ :: _ :: _ :: _ :: _ :: _ :: _, _, _⟩
 refine .m G G G (.cons (st_call0 G G G G hbd11 G (.c (.t4 (.t4 (.t .h))) (.c (.t4 (.t4 (.t .h))) (.c (.t4 (.t4 (.t .h))) (.c (.t4 (.t4 (.t .h))) (.c (.t4 (.t4 (.t .h))) (.c (.t4 (.t4 (.t .h))) (.c (.t4 (.t4 (.t .h))) .n))))))) (lks_ lb39 A50 c51 R44 A53 c54 K45 A56 c57 U46 A59 c60 D47 _ _ oO) (fun v_q101 C_q101 q101 => ?_)))
 obtain ⟨u100, rfl, rfl⟩ := q101
 show SP _ _ _ _ _ _ ⟨_, _ :: _ :: _ :: _ :: _ :: _ :: _ :: _ :: _, _, _⟩
 refine .a G G G (.a G G G (.go idQ (.seq (.seq (.region (.m G G G ?_))))))
 refine .know (row_len 15 G) (fun hv104 => ?_)
 obtain ⟨A102, c103, rfl, hv104_1, hv104_2⟩ := hv104
 unfold maxLen at hv104_2
 refine .g underlying34 G G G (.m G G G (.go idQ (.block (.loop (X := Int) (fun i => 0 ≤ i ∧ i ≤ (K45.length : Int)) (fun i => [(7, .pointer (some ⟨b15, 0, none⟩)), (9, .pointer (some ⟨lb28, 0, none⟩)), (10, .pointer (some ⟨lb39, 0, none⟩)), (11, .int .i64 p), (12, .slice A102 K45.length c103), (13, v_q101), (71, .int .i64 (K45.length : Int)), (72, .int .i64 i)]) (fun i => [cel lb39 [.slice A50 R44.length c51, .slice A53 K45.length c54, .slice A56 U46.length c57, .slice A59 D47.length c60] 68, rw_ eZ 3 (.slice A50 R44.length c51) R44, rw_ eLK 37 (.slice A53 K45.length c54) K45, rw_ eIL 27 (.slice A56 U46.length c57) U46, rw_ eIL 27 (.slice A59 D47.length c60) D47, nestIL 3 U46, nestIL 3 D47, rw_ eLK 37 (v_q101) K45, cel lb28 [.slice A62 R44.length c63, .slice A65 K45.length c66, .slice A68 U35.length c69, .slice A71 D36.length c72] 68, rw_ eZ 3 (.slice A62 R44.length c63) R44, rw_ eLK 37 (.slice A65 K45.length c66) K45, rw_ eIL 27 (.slice A68 U35.length c69) U35, rw_ eIL 27 (.slice A71 D36.length c72) D36, nestIL 3 U35, nestIL 3 D36, rw_ eLK 37 (.slice A102 K45.length c103) K45, cel b2 [.slice A22 fi5.length c23, .slice A25 ed6.length c26] 83, rw_ eZ 3 (.slice A22 fi5.length c23) fi5, rw_ eEG 64 (.slice A25 ed6.length c26) ed6, cel b15 [.int .i64 n, .slice A19 W9.length c20] 29, cel b14 [.int .i64 n, .slice A16 ((tabF n false l).length) c17] 29, rw_ eZ 3 (.slice A16 ((tabF n false l).length) c17) (tabF n false l), rw_ eZ 3 (.slice A19 W9.length c20) W9, cel b1 [.int .i64 n, .slice A l.length c] 24]) (fun _ => S) (fun _ => wf) (fun i => ((K45.length : Int) - i).toNat) (fun a_ w_ hs_ hw_ => ⟨0, (by (try dsimp only); exact ⟨oO, oO⟩), hs_.mono (Sub.get (.c4 G G G G (.c4 G G G G .n))), hw_.keep (.d (.d (.d (.d (.d (.d (.d (.d (.d (.d (.d (.d .n))))))))))))⟩) (fun i ⟨r_0, r_1⟩ => ?_)))))
 try dsimp only
 refine .seq (.region (.e G G G G G (.go idQ (.seq (.condI G bD (fun h105 => ?_) (fun h105 => ?_))))))
 ·
  refine .skipgo idQ (.seq (.block (.seq (.region (.m G G G (.a G G G (.go idQ (.seq ?_))))))))
  refine .know (row_len 7 G) (fun hv108 => ?_)
  obtain ⟨A106, c107, rfl, hv108_1, hv108_2⟩ := hv108
  unfold maxLen at hv108_2
  refine SC.draw mo [] [] .n (fun _ _ _ => sc0) (fun wf_109 hl_109 hx_109 hR_109 => ?_)
  refine SR.m 0 G G G G ?_
  refine SR.m 1 G G G G ?_
  refine SR.z 2 G G (ev_ix G underlying34 ty37 G G oO oO (fun _ _ => Fr.adr (i := i) (Fr.lent (S := S) hR_109 15 G lO) oO oO)) ?_
  refine SR.z 3 G G (ev_lda G G (At.d (Fr.el (i := i) (Fr.lent (S := S) hR_109 15 G lO) oO oO)) ty37) ?_
  refine SR.m 4 G G G G ?_
  refine SR.m 5 G G G G ?_
  refine SR.z 6 G G (ev_ix G underlying34 ty37 G G oO oO (fun _ _ => Fr.adr (i := i) (Fr.lent (S := S) hR_109 7 G lO) oO oO)) ?_
  refine SR.z 7 G G (ev_lda G G (At.d (Fr.el (i := i) (Fr.lent (S := S) hR_109 7 G lO) oO oO)) ty37) ?_
  refine SR.z 8 G G (ev_bin G G G (r := .bool (!((((gt K45 i).lf) == ((gt K45 i).lf)) && ((((gt K45 i).lt) == ((gt K45 i).lt)) && ((((gt K45 i).lw) == ((gt K45 i).lw)) && (((gt K45 i).lm) == ((gt K45 i).lm))))))) (ev37_neq _ _ _ _ _ _ _ _ _ _)) ?_
  refine SR.fin kR hl_109 hx_109 hR_109 .n ?_
  refine SQ.go idQ ?_
  refine .condI G (bN (bA bE (bA bE (bA bE bE)))) (fun h110 => ?_) (fun h110 => ?_)
  ·
   exfalso; simp_all
  refine .skipgo idQ (.region (.p ((i + 1)) oO oO G G G G G (.m G G G ?_)))
  exact SP.nil (SQ.roundb (X := Int) (x := (i)) (i + 1) (by (try dsimp only); exact ⟨oO, oO⟩) (by show (_ : Nat) < _; omega) (Sub.get (.c4 G G G G (.c4 G G G G .n))) (kp (.d (.d (.d (.d (.d (.d (.d (.d (.d (.d (.d (.d .n))))))))))))))
 refine .exit idQ ?_
 refine .seq (.region (.m G G G (.g underlying34 G G G (.m G G G ?_))))
 refine .know (row_len 7 G) (fun hv113 => ?_)
 obtain ⟨A111, c112, rfl, hv113_1, hv113_2⟩ := hv113
 unfold maxLen at hv113_2
 refine .g underlying34 G G G (.e G G G G G (.a G G G (.go idQ ?_)))
 exact .ret idQ (ret1 results7 G .n ⟨(congrArg Value.bool (by simp)), G⟩)
theorem liftAgainBadF (n : Int) (A : Option Addr) (c : Nat) (l : List AR) (S : Nat → Prop) (wf : World) (hA : Fr eAR S wf A l) (hR : ¬ RoadOk n l) :
  TR0 prog 7 [.agg #[.int .i64 n, .slice A l.length c], .bool false] [] S wf (fun v_ C_ => v_ = .bool true ∧ C_ = []) := by
 have hla := hA.len
 refine TR.mk func7 G ntmps7 G G (fun w_ => ?_)
 refine .seq (.region (.cons (st_boxa G G G G G (fun b1 => (.a G G G (.go idQ (.seq (.seq (.region ?_)))))))))
 refine .cons (st_callk G G G G hbd8 G .n (awake7_ _ _) ?_)
 refine .v (ev_not G G) G (.go idQ (.cond_f G (.skipgo idQ (.seq (.region ?_)))))
 refine .d 0 ty24 G G G G (.m G G G (.cons (st_callk G G G G hbd9 G .n (graphbadF n A c l _ _ hA hR) (.m G G G ?_))))
 refine .x G G G G (.x G G G G (.x G G G G (.x G G G G ?_)))
 refine .cons (st_alloc G G G G zf29 (fun b2 => ?_))
 refine .cons (st_alloc G G G G zf29 (fun b3 => ?_))
 refine .a G G G (.cons (st_storea (l' := [.int .i64 0, .slice none 0 0]) G G G ty29 G G G (.t .h) G G (.cons (st_storea (l' := [.int .i64 0, .slice none 0 0]) G G G ty29 G G G (.t .h) G G (.a G G G ?_)))))
 refine .go idQ (.seq (.seq (.region (.m G G G (.v (ev_not G G) G (.go idQ ?_))))))
 refine .cond_t G ?_
 refine .seq (.region (.a G G G (.go idQ (.ret idQ (ret1 results7 G .n ⟨G, G⟩)))))
theorem liftAgainT (n : Int) (A : Option Addr) (c : Nat) (l : List AR) (S : Nat → Prop) (wf : World) (hA : Fr eAR S wf A l) (hR : RoadOk n l) :
  TR0 prog 7 [.agg #[.int .i64 n, .slice A l.length c], .bool true] [] S wf (fun v_ C_ => v_ = .bool true ∧ C_ = []) := by
 have hla := hA.len
 have hlen := hR.len
 have hnp := hR.pl
 have hto := tab_ok (d := true) hR
 have htl := hto.len
 have hsq := sq_le hnp
 refine TR.mk func7 G ntmps7 G G (fun w_ => ?_)
 refine .seq (.region (.cons (st_boxa G G G G G (fun b1 => (.a G G G (.go idQ (.seq (.seq (.region ?_)))))))))
 refine .cons (st_callk G G G G hbd8 G .n (awake7_ _ _) ?_)
 refine .v (ev_not G G) G (.go idQ (.cond_f G (.skipgo idQ (.seq (.region ?_)))))
 refine .d 0 ty24 G G G G (.m G G G (.cons (st_call0 G G G G hbd9 G .n (graphT n A c l _ _ hA hR) (fun v_q10 C_q10 q10 => ?_))))
 obtain ⟨b2, u3, v4, fi5, ed6, x7, y8, W9, p11, p12, p13, rfl, rfl⟩ := q10
 show SP _ _ _ _ _ _ ⟨_, _ :: _ :: _ :: _ :: _ :: _, _, _⟩
 have hgl := p11.len
 have hgn := p11.ne
 refine .m G G G (.x G G G G (.x G G G G (.x G G G G ?_)))
 refine .x G G G G (.cons (st_alloc G G G G zf29 (fun b14 => (.cons (st_alloc G G G G zf29 (fun b15 => (.a G G G ?_)))))))
 refine .know (row_len 5 G) (fun hv18 => ?_)
 obtain ⟨A16, c17, rfl, hv18_1, hv18_2⟩ := hv18
 unfold maxLen at hv18_2
 refine .cons (st_storea (l' := [.int .i64 n, .slice A16 ((tabF n true l).length) c17]) G G G ty29 G G G (.t .h) G G ?_)
 refine .know (row_len 6 G) (fun hv21 => ?_)
 obtain ⟨A19, c20, rfl, hv21_1, hv21_2⟩ := hv21
 unfold maxLen at hv21_2
 refine .cons (st_storea (l' := [.int .i64 n, .slice A19 W9.length c20]) G G G ty29 G G G (.t .h) G G ?_)
 refine .a G G G (.go idQ (.seq (.seq (.region (.m G G G (.v (ev_not G G) G ?_))))))
 refine .go idQ (.cond_f G (.skipgo idQ (.seq (.region (.m G G G ?_)))))
 refine .know (row_len 3 G) (fun hv24 => ?_)
 obtain ⟨A22, c23, rfl, hv24_1, hv24_2⟩ := hv24
 unfold maxLen at hv24_2
 refine .know (row_len 4 G) (fun hv27 => ?_)
 obtain ⟨A25, c26, rfl, hv27_1, hv27_2⟩ := hv27
 unfold maxLen at hv27_2
 refine .cons (st_lend0 G G G G hbd10 G (.c (.t2 .h) .n) (.c (.t2 .h) (.c (.t2 .h) .n)) (fun w_ hw => build_ n (tabF n true l) b2 A22 c23 fi5 A25 c26 ed6 _ _ (Fr.lend hw 0 G lO) (Fr.lend hw 1 G lO) hto p11 lO) (fun v_q37 C_q37 q37 => ?_))
 obtain ⟨lb28, v129, v230, v331, v432, R33, K34, U35, D36, p38, rfl, rfl⟩ := q37
 show SP _ _ _ _ _ _ ⟨_, _ :: _ :: _ :: _ :: _ :: _ :: _ :: _ :: _ :: _ :: _, _, _⟩
 have hlo := lok hto p11 p38
 have hRn := hlo.2
 have hL := hlo.1
 have hkl := hL.kl
 refine .m G G G (.cons (st_lend0 G G G G hbd10 G (.c .h .n) (.c (.t4 (.t2 (.t .h))) (.c (.t4 (.t2 (.t .h))) .n)) (fun w_ hw => build_ n (tabF n true l) b2 A22 c23 fi5 A25 c26 ed6 _ _ (Fr.lend hw 0 G lO) (Fr.lend hw 1 G lO) hto p11 lO) (fun v_q48 C_q48 q48 => ?_)))
 obtain ⟨lb39, v140, v241, v342, v443, R44, K45, U46, D47, p49, rfl, rfl⟩ := q48
 show SP _ _ _ _ _ _ ⟨_, _ :: _ :: _ :: _ :: _ :: _ :: _ :: _ :: _ :: _ :: _, _, _⟩
 obtain ⟨eR, eK, hud⟩ := lft_det p38 p49
 have hL2 := (lok hto p11 p49).1
 subst eR eK
 refine .a G G G (.a G G G (.go idQ (.seq (.seq (.know (row_len 2 G) (fun hv52 => ?_))))))
 obtain ⟨A50, c51, rfl, hv52_1, hv52_2⟩ := hv52
 unfold maxLen at hv52_2
 refine .know (row_len 3 G) (fun hv55 => ?_)
 obtain ⟨A53, c54, rfl, hv55_1, hv55_2⟩ := hv55
 unfold maxLen at hv55_2
 refine .know (row_len 4 G) (fun hv58 => ?_)
 obtain ⟨A56, c57, rfl, hv58_1, hv58_2⟩ := hv58
 unfold maxLen at hv58_2
 refine .know (row_len 5 G) (fun hv61 => ?_)
 obtain ⟨A59, c60, rfl, hv61_1, hv61_2⟩ := hv61
 unfold maxLen at hv61_2
 refine .know (row_len 11 G) (fun hv64 => ?_)
 obtain ⟨A62, c63, rfl, hv64_1, hv64_2⟩ := hv64
 unfold maxLen at hv64_2
 refine .know (row_len 12 G) (fun hv67 => ?_)
 obtain ⟨A65, c66, rfl, hv67_1, hv67_2⟩ := hv67
 unfold maxLen at hv67_2
 refine .know (row_len 13 G) (fun hv70 => ?_)
 obtain ⟨A68, c69, rfl, hv70_1, hv70_2⟩ := hv70
 unfold maxLen at hv70_2
 refine .know (row_len 14 G) (fun hv73 => ?_)
 obtain ⟨A71, c72, rfl, hv73_1, hv73_2⟩ := hv73
 unfold maxLen at hv73_2
 refine .region (.a G G G (.go idQ (.block (.loop (X := Int) (fun p => 0 ≤ p ∧ p ≤ n) (fun p => [(7, .pointer (some ⟨b15, 0, none⟩)), (9, .pointer (some ⟨lb28, 0, none⟩)), (10, .pointer (some ⟨lb39, 0, none⟩)), (11, .int .i64 p)]) (fun p => [cel b2 [.slice A22 fi5.length c23, .slice A25 ed6.length c26] 83, cel lb39 [.slice A50 R44.length c51, .slice A53 K45.length c54, .slice A56 U46.length c57, .slice A59 D47.length c60] 68, rw_ eZ 3 (.slice A50 R44.length c51) R44, rw_ eLK 37 (.slice A53 K45.length c54) K45, rw_ eIL 27 (.slice A56 U46.length c57) U46, rw_ eIL 27 (.slice A59 D47.length c60) D47, nestIL 3 U46, nestIL 3 D47, rw_ eZ 3 (.slice A22 fi5.length c23) fi5, rw_ eEG 64 (.slice A25 ed6.length c26) ed6, cel lb28 [.slice A62 R44.length c63, .slice A65 K45.length c66, .slice A68 U35.length c69, .slice A71 D36.length c72] 68, rw_ eZ 3 (.slice A62 R44.length c63) R44, rw_ eLK 37 (.slice A65 K45.length c66) K45, rw_ eIL 27 (.slice A68 U35.length c69) U35, rw_ eIL 27 (.slice A71 D36.length c72) D36, nestIL 3 U35, nestIL 3 D36, cel b15 [.int .i64 n, .slice A19 W9.length c20] 29, cel b14 [.int .i64 n, .slice A16 ((tabF n true l).length) c17] 29, rw_ eZ 3 (.slice A16 ((tabF n true l).length) c17) (tabF n true l), rw_ eZ 3 (.slice A19 W9.length c20) W9, cel b1 [.int .i64 n, .slice A l.length c] 24]) (fun _ => S) (fun _ => wf) (fun p => (n - p).toNat) (fun a_ w_ hs_ hw_ => ⟨0, (by (try dsimp only); exact ⟨oO, oO⟩), hs_.mono (Sub.get (.c4 G G G G .n)), hw_.keep (.d (.d (.d (.d (.d (.d (.d (.d (.d (.d (.d .n)))))))))))⟩) (fun p ⟨q_0, q_1⟩ => ?_)))))
 try dsimp only
 refine .seq (.seq (.region (.m G G G (.f fo29_0 0 G G G G (.l ty3 17 G G G G G ?_)))))
 refine .e G G G G G (.go idQ (.condI G bD (fun h74 => ?_) (fun h74 => ?_)))
 ·
  refine .skipgo idQ (.seq (.block (.seq ?_)))
  have hpe := hud p oO oO
  have hup : (pkL R44 K45 U46 p).length = (pkL R44 K45 U35 p).length := by unfold pkL; rw [hpe.1]
  have hdn : (pkL R44 K45 D47 p).length = (pkL R44 K45 D36 p).length := by unfold pkL; rw [hpe.2]
  refine .region (.m G G G (.m G G G (.cons (st_callk G G G G hbd12 G (.c (.t4 (.t4 (.t2 .h))) (.c (.t4 (.t4 (.t2 .h))) (.c (.t4 (.t4 (.t2 .h))) (.c (.t4 (.t4 (.t2 .h))) (.c (.t4 (.t4 (.t2 .h))) (.c (.t4 (.t4 (.t2 .h))) (.c (.t4 (.t4 (.t2 .h))) .n))))))) (lrk_ lb28 A62 c63 R44 A65 c66 K45 A68 c69 U35 A71 c72 D36 p _ _) ?_))))
  refine .m G G G (.m G G G (.cons (st_callk G G G G hbd12 G (.c (.t .h) (.c (.t .h) (.c (.t .h) (.c (.t .h) (.c (.t .h) (.c (.t .h) (.c (.t .h) .n))))))) (lrk_ lb39 A50 c51 R44 A53 c54 K45 A56 c57 U46 A59 c60 D47 p _ _) (.e G G G G G ?_))))
  refine .m G G G (.w (fun _ => ev_mv G G) G (.w (fun _ => ev_mv G G) G ?_))
  rcases Bool.eq_false_or_eq_true ((rkAt R44 p) != (rkAt R44 p)) with hb75 | hb75
  ·
   refine SP.reslot (t := 44) G hb75 ?_
   have hb75_ := bT bNE hb75
   clear hb75; exfalso; omega
  refine SP.reslot (t := 44) G hb75 ?_
  have hb75_ := bF bNE hb75
  refine .cons (.on G G G (st_call0 G G G G hbd14 (lkA1 (lkg G hb75) (lkA1 (lkg G hb75) lkA0)) (.c (.t4 (.t4 (.t2 .h))) (.c (.t4 (.t4 (.t2 .h))) (.c (.t4 (.t4 (.t2 .h))) (.c (.t4 (.t4 (.t2 .h))) (.c (.t4 (.t4 (.t2 .h))) (.c (.t4 (.t4 (.t2 .h))) (.c (.t4 (.t4 (.t2 .h))) .n))))))) (lup_ lb28 A62 c63 R44 A65 c66 K45 A68 c69 U35 A71 c72 D36 p _ _ hL) (fun v_q77 C_q77 q77 => ?_)))
  obtain ⟨u76, rfl, rfl⟩ := q77
  show SP _ _ _ _ _ _ ⟨_, _ :: _ :: _ :: _ :: _ :: _ :: _ :: _ :: _, _, _⟩
  refine .know (row_len 7 G) (fun hv80 => ?_)
  obtain ⟨A78, c79, rfl, hv80_1, hv80_2⟩ := hv80
  unfold maxLen at hv80_2
  refine .cons (.on G G G (Ev.step (ev_len G underlying34 G) G G G ?_))
  refine .cons (.on G G G (Ev.step (ev_mv G G) G G G ?_))
  refine .cons (.on G G G (Ev.step (ev_mv G G) G G G ?_))
  refine .cons (.on G G G (st_call0 G G G G hbd14 G (.c (.t4 (.t4 (.t .h))) (.c (.t4 (.t4 (.t .h))) (.c (.t4 (.t4 (.t .h))) (.c (.t4 (.t4 (.t .h))) (.c (.t4 (.t4 (.t .h))) (.c (.t4 (.t4 (.t .h))) (.c (.t4 (.t4 (.t .h))) .n))))))) (lup_ lb39 A50 c51 R44 A53 c54 K45 A56 c57 U46 A59 c60 D47 p _ _ hL2) (fun v_q82 C_q82 q82 => ?_)))
  obtain ⟨u81, rfl, rfl⟩ := q82
  show SP _ _ _ _ _ _ ⟨_, _ :: _ :: _ :: _ :: _ :: _ :: _ :: _ :: _, _, _⟩
  refine .know (row_len 7 G) (fun hv85 => ?_)
  obtain ⟨A83, c84, rfl, hv85_1, hv85_2⟩ := hv85
  unfold maxLen at hv85_2
  refine .cons (.on G G G (Ev.step (ev_len G underlying34 G) G G G ?_))
  refine .cons (.on G G G (Ev.step (ev_cmp G G G G) G G G ?_))
  refine .v (ev_pickf G G G G) G (.m G G G (.w (fun _ => ev_mv G G) G (.w (fun _ => ev_mv G G) G ?_)))
  rcases Bool.eq_false_or_eq_true ((((pkL R44 K45 U35 p).length : Nat) : Int) != (((pkL R44 K45 U46 p).length : Nat) : Int)) with hb86 | hb86
  ·
   refine SP.reslot (t := 55) G hb86 ?_
   have hb86_ := bT bNE hb86
   clear hb86; exfalso; omega
  refine SP.reslot (t := 55) G hb86 ?_
  have hb86_ := bF bNE hb86
  refine .cons (.on G G G (st_call0 G G G G hbd15 (lkA1 (lkg G hb86) (lkA1 (lkg G hb86) lkA0)) (.c (.t4 (.t4 .h)) (.c (.t4 (.t4 .h)) (.c (.t4 (.t4 .h)) (.c (.t4 (.t4 .h)) (.c (.t4 (.t4 .h)) (.c (.t4 (.t4 .h)) (.c (.t4 (.t4 .h)) .n))))))) (ldown_ lb28 A62 c63 R44 A65 c66 K45 A68 c69 U35 A71 c72 D36 p _ _ hL) (fun v_q88 C_q88 q88 => ?_)))
  obtain ⟨u87, rfl, rfl⟩ := q88
  show SP _ _ _ _ _ _ ⟨_, _ :: _ :: _ :: _ :: _ :: _ :: _ :: _ :: _, _, _⟩
  refine .know (row_len 7 G) (fun hv91 => ?_)
  obtain ⟨A89, c90, rfl, hv91_1, hv91_2⟩ := hv91
  unfold maxLen at hv91_2
  refine .cons (.on G G G (Ev.step (ev_len G underlying34 G) G G G ?_))
  refine .cons (.on G G G (Ev.step (ev_mv G G) G G G ?_))
  refine .cons (.on G G G (Ev.step (ev_mv G G) G G G ?_))
  refine .cons (.on G G G (st_call0 G G G G hbd15 G (.c (.t4 (.t4 .h)) (.c (.t4 (.t4 .h)) (.c (.t4 (.t4 .h)) (.c (.t4 (.t4 .h)) (.c (.t4 (.t4 .h)) (.c (.t4 (.t4 .h)) (.c (.t4 (.t4 .h)) .n))))))) (ldown_ lb39 A50 c51 R44 A53 c54 K45 A56 c57 U46 A59 c60 D47 p _ _ hL2) (fun v_q93 C_q93 q93 => ?_)))
  obtain ⟨u92, rfl, rfl⟩ := q93
  show SP _ _ _ _ _ _ ⟨_, _ :: _ :: _ :: _ :: _ :: _ :: _ :: _ :: _, _, _⟩
  refine .know (row_len 7 G) (fun hv96 => ?_)
  obtain ⟨A94, c95, rfl, hv96_1, hv96_2⟩ := hv96
  unfold maxLen at hv96_2
  refine .cons (.on G G G (Ev.step (ev_len G underlying34 G) G G G ?_))
  refine .cons (.on G G G (Ev.step (ev_cmp G G G G) G G G ?_))
  refine .v (ev_pickf G G G G) G (.go idQ (.condI G bNE (fun h97 => ?_) (fun h97 => ?_)))
  ·
   exfalso; omega
  refine .skipgo idQ (.region (.m G G G (.p ((p + 1)) oO oO G G G G G (.a G G G ?_))))
  exact SP.nil (SQ.roundb (X := Int) (x := (p)) (p + 1) (by (try dsimp only); exact ⟨oO, oO⟩) (by show (_ : Nat) < _; omega) (Sub.get (.c4 G G G G .n)) (kp (.c (.t4 (.t4 (.t4 (.t4 (.t2 .h))))) (.d (.d (.d (.c .h (.c (.t4 (.t4 (.t2 (.t .h)))) (.c (.t4 (.t4 (.t2 (.t .h)))) (.c (.t .h) (.c (.t .h) (.c (.t .h) (.c (.t .h) (.c (.t .h) (.c (.t .h) (.c (.t .h) (.c (.t4 .h) (.c (.t4 .h) (.c (.t4 .h) (.c (.t4 .h) (.c (.t4 .h) .n)))))))))))))))))))))
 refine .exit idQ ?_
 refine .seq (.region (.m G G G (.cons (st_call0 G G G G hbd11 G (.c (.t4 (.t4 (.t2 .h))) (.c (.t4 (.t4 (.t2 .h))) (.c (.t4 (.t4 (.t2 .h))) (.c (.t4 (.t4 (.t2 .h))) (.c (.t4 (.t4 (.t2 .h))) (.c (.t4 (.t4 (.t2 .h))) (.c (.t4 (.t4 (.t2 .h))) .n))))))) (lks_ lb28 A62 c63 R44 A65 c66 K45 A68 c69 U35 A71 c72 D36 _ _ oO) (fun v_q99 C_q99 q99 => ?_)))))
 obtain ⟨u98, rfl, rfl⟩ := q99
 show SP _ _ _ _ _ _ ⟨_, _ :: _ :: _ :: _ :: _ :: _ :: _ :: _ :: _, _, _⟩
 refine .m G G G (.cons (st_call0 G G G G hbd11 G (.c (.t4 (.t4 (.t .h))) (.c (.t4 (.t4 (.t .h))) (.c (.t4 (.t4 (.t .h))) (.c (.t4 (.t4 (.t .h))) (.c (.t4 (.t4 (.t .h))) (.c (.t4 (.t4 (.t .h))) (.c (.t4 (.t4 (.t .h))) .n))))))) (lks_ lb39 A50 c51 R44 A53 c54 K45 A56 c57 U46 A59 c60 D47 _ _ oO) (fun v_q101 C_q101 q101 => ?_)))
 obtain ⟨u100, rfl, rfl⟩ := q101
 show SP _ _ _ _ _ _ ⟨_, _ :: _ :: _ :: _ :: _ :: _ :: _ :: _ :: _, _, _⟩
 refine .a G G G (.a G G G (.go idQ (.seq (.seq (.region (.m G G G ?_))))))
 refine .know (row_len 15 G) (fun hv104 => ?_)
 obtain ⟨A102, c103, rfl, hv104_1, hv104_2⟩ := hv104
 unfold maxLen at hv104_2
 refine .g underlying34 G G G (.m G G G (.go idQ (.block (.loop (X := Int) (fun i => 0 ≤ i ∧ i ≤ (K45.length : Int)) (fun i => [(7, .pointer (some ⟨b15, 0, none⟩)), (9, .pointer (some ⟨lb28, 0, none⟩)), (10, .pointer (some ⟨lb39, 0, none⟩)), (11, .int .i64 p), (12, .slice A102 K45.length c103), (13, v_q101), (71, .int .i64 (K45.length : Int)), (72, .int .i64 i)]) (fun i => [cel lb39 [.slice A50 R44.length c51, .slice A53 K45.length c54, .slice A56 U46.length c57, .slice A59 D47.length c60] 68, rw_ eZ 3 (.slice A50 R44.length c51) R44, rw_ eLK 37 (.slice A53 K45.length c54) K45, rw_ eIL 27 (.slice A56 U46.length c57) U46, rw_ eIL 27 (.slice A59 D47.length c60) D47, nestIL 3 U46, nestIL 3 D47, rw_ eLK 37 (v_q101) K45, cel lb28 [.slice A62 R44.length c63, .slice A65 K45.length c66, .slice A68 U35.length c69, .slice A71 D36.length c72] 68, rw_ eZ 3 (.slice A62 R44.length c63) R44, rw_ eLK 37 (.slice A65 K45.length c66) K45, rw_ eIL 27 (.slice A68 U35.length c69) U35, rw_ eIL 27 (.slice A71 D36.length c72) D36, nestIL 3 U35, nestIL 3 D36, rw_ eLK 37 (.slice A102 K45.length c103) K45, cel b2 [.slice A22 fi5.length c23, .slice A25 ed6.length c26] 83, rw_ eZ 3 (.slice A22 fi5.length c23) fi5, rw_ eEG 64 (.slice A25 ed6.length c26) ed6, cel b15 [.int .i64 n, .slice A19 W9.length c20] 29, cel b14 [.int .i64 n, .slice A16 ((tabF n true l).length) c17] 29, rw_ eZ 3 (.slice A16 ((tabF n true l).length) c17) (tabF n true l), rw_ eZ 3 (.slice A19 W9.length c20) W9, cel b1 [.int .i64 n, .slice A l.length c] 24]) (fun _ => S) (fun _ => wf) (fun i => ((K45.length : Int) - i).toNat) (fun a_ w_ hs_ hw_ => ⟨0, (by (try dsimp only); exact ⟨oO, oO⟩), hs_.mono (Sub.get (.c4 G G G G (.c4 G G G G .n))), hw_.keep (.d (.d (.d (.d (.d (.d (.d (.d (.d (.d (.d (.d .n))))))))))))⟩) (fun i ⟨r_0, r_1⟩ => ?_)))))
 try dsimp only
 refine .seq (.region (.e G G G G G (.go idQ (.seq (.condI G bD (fun h105 => ?_) (fun h105 => ?_))))))
 ·
  refine .skipgo idQ (.seq (.block (.seq (.region (.m G G G (.a G G G (.go idQ (.seq ?_))))))))
  refine .know (row_len 7 G) (fun hv108 => ?_)
  obtain ⟨A106, c107, rfl, hv108_1, hv108_2⟩ := hv108
  unfold maxLen at hv108_2
  refine SC.draw mo [] [] .n (fun _ _ _ => sc0) (fun wf_109 hl_109 hx_109 hR_109 => ?_)
  refine SR.m 0 G G G G ?_
  refine SR.m 1 G G G G ?_
  refine SR.z 2 G G (ev_ix G underlying34 ty37 G G oO oO (fun _ _ => Fr.adr (i := i) (Fr.lent (S := S) hR_109 15 G lO) oO oO)) ?_
  refine SR.z 3 G G (ev_lda G G (At.d (Fr.el (i := i) (Fr.lent (S := S) hR_109 15 G lO) oO oO)) ty37) ?_
  refine SR.m 4 G G G G ?_
  refine SR.m 5 G G G G ?_
  refine SR.z 6 G G (ev_ix G underlying34 ty37 G G oO oO (fun _ _ => Fr.adr (i := i) (Fr.lent (S := S) hR_109 7 G lO) oO oO)) ?_
  refine SR.z 7 G G (ev_lda G G (At.d (Fr.el (i := i) (Fr.lent (S := S) hR_109 7 G lO) oO oO)) ty37) ?_
  refine SR.z 8 G G (ev_bin G G G (r := .bool (!((((gt K45 i).lf) == ((gt K45 i).lf)) && ((((gt K45 i).lt) == ((gt K45 i).lt)) && ((((gt K45 i).lw) == ((gt K45 i).lw)) && (((gt K45 i).lm) == ((gt K45 i).lm))))))) (ev37_neq _ _ _ _ _ _ _ _ _ _)) ?_
  refine SR.fin kR hl_109 hx_109 hR_109 .n ?_
  refine SQ.go idQ ?_
  refine .condI G (bN (bA bE (bA bE (bA bE bE)))) (fun h110 => ?_) (fun h110 => ?_)
  ·
   exfalso; simp_all
  refine .skipgo idQ (.region (.p ((i + 1)) oO oO G G G G G (.m G G G ?_)))
  exact SP.nil (SQ.roundb (X := Int) (x := (i)) (i + 1) (by (try dsimp only); exact ⟨oO, oO⟩) (by show (_ : Nat) < _; omega) (Sub.get (.c4 G G G G (.c4 G G G G .n))) (kp (.d (.d (.d (.d (.d (.d (.d (.d (.d (.d (.d (.d .n))))))))))))))
 refine .exit idQ ?_
 refine .seq (.region (.m G G G (.g underlying34 G G G (.m G G G ?_))))
 refine .know (row_len 7 G) (fun hv113 => ?_)
 obtain ⟨A111, c112, rfl, hv113_1, hv113_2⟩ := hv113
 unfold maxLen at hv113_2
 refine .g underlying34 G G G (.e G G G G G (.a G G G (.go idQ ?_)))
 exact .ret idQ (ret1 results7 G .n ⟨(congrArg Value.bool (by simp)), G⟩)
theorem liftAgainBadT (n : Int) (A : Option Addr) (c : Nat) (l : List AR) (S : Nat → Prop) (wf : World) (hA : Fr eAR S wf A l) (hR : ¬ RoadOk n l) :
  TR0 prog 7 [.agg #[.int .i64 n, .slice A l.length c], .bool true] [] S wf (fun v_ C_ => v_ = .bool true ∧ C_ = []) := by
 have hla := hA.len
 refine TR.mk func7 G ntmps7 G G (fun w_ => ?_)
 refine .seq (.region (.cons (st_boxa G G G G G (fun b1 => (.a G G G (.go idQ (.seq (.seq (.region ?_)))))))))
 refine .cons (st_callk G G G G hbd8 G .n (awake7_ _ _) ?_)
 refine .v (ev_not G G) G (.go idQ (.cond_f G (.skipgo idQ (.seq (.region ?_)))))
 refine .d 0 ty24 G G G G (.m G G G (.cons (st_callk G G G G hbd9 G .n (graphbadT n A c l _ _ hA hR) (.m G G G ?_))))
 refine .x G G G G (.x G G G G (.x G G G G (.x G G G G ?_)))
 refine .cons (st_alloc G G G G zf29 (fun b2 => ?_))
 refine .cons (st_alloc G G G G zf29 (fun b3 => ?_))
 refine .a G G G (.cons (st_storea (l' := [.int .i64 0, .slice none 0 0]) G G G ty29 G G G (.t .h) G G (.cons (st_storea (l' := [.int .i64 0, .slice none 0 0]) G G G ty29 G G G (.t .h) G G (.a G G G ?_)))))
 refine .go idQ (.seq (.seq (.region (.m G G G (.v (ev_not G G) G (.go idQ ?_))))))
 refine .cond_t G ?_
 refine .seq (.region (.a G G G (.go idQ (.ret idQ (ret1 results7 G .n ⟨G, G⟩)))))
end Go.Proofs.Ytlefdinbbjiabaa.Sx
namespace Go.Proofs.Ytlefdinbbjiabaa.Sx
open Go Go.SX Go.Proofs Go.Proofs.Try
theorem liftAgain_ (n : Int) (A : Option Addr) (c : Nat) (l : List AR) (d : Bool) (S : Nat → Prop) (wf : World) (hA : Fr eAR S wf A l) : TR0 prog 7 [.agg #[.int .i64 n, .slice A l.length c], .bool d] [] S wf (fun v C => v = .bool true ∧ C = []) :=
 (Classical.em (RoadOk n l)).elim (fun h => match d with | false => liftAgainF n A c l S wf hA h | true => liftAgainT n A c l S wf hA h) (fun h => match d with | false => liftAgainBadF n A c l S wf hA h | true => liftAgainBadT n A c l S wf hA h)
end Go.Proofs.Ytlefdinbbjiabaa.Sx
namespace Go.SX
open Go Go.RowKit
def TellsW (P : Program) (w : World) (e : TypeId) {α : Type} (E : Enc α) (good : α → Prop) : Prop :=
  ∀ {H : Type} (enc : TypeId × Value → H) (base : Nat) (spare : Nat → Bool) (held : Bool) (n : Nat) (cs : List Value) (y : DataW H × List MemPlace), DataW.trod enc P w base spare held n e cs = some y → (∀ b ∈ y.1.weights P e, b ≤ reachBytes) → ∃ a, cs = E.enc a ∧ good a
section
variable {H : Type} {enc : TypeId × Value → H} {P : Program} {w : World} {base : Nat} {spare : Nat → Bool} {held : Bool}
theorem weightsAll_mem {e : TypeId} {d : DataW H} {b : Nat} : ∀ {l : List (DataW H)}, d ∈ l → b ∈ d.weights P e → b ∈ DataW.weightsAll P e l
  | [], h, _ => by cases h
  | x :: r, h, hb => by
    unfold DataW.weightsAll
    rcases List.mem_cons.1 h with rfl | h
    · exact List.mem_append_left _ hb
    · exact List.mem_append_right _ (weightsAll_mem h hb)
theorem rows_w {α : Type} [Inhabited α] {E : Enc α} {good : α → Prop} {t e : TypeId} {fuel : Nat} {cs : List Value} {x : DataW H × List MemPlace} (ht : P.underlying t = some (.slice e)) (he : P.cellsOf e = E.sz) (hT : TellsW P w e E good) (hbo : 1 ≤ P.bytesOf e)
    (h : DataW.trod enc P w base spare held fuel t cs = some x) (hw : ∀ b ∈ x.1.weights P t, b ≤ reachBytes) :
    ∃ A l cap, cs = [.slice A l.length cap] ∧ Fr E (fun b => b < w.heap.size) w A l ∧ ∀ y ∈ l, good y := by
  rcases DataW.trod_slice ht h with h0 | ⟨a, len, cap, elems, rest, n, hx1, rfl, rfl, hb, hl, hm, hlen, hel, hsp, hns⟩
  · exact ⟨none, [], 0, h0.1, Fr.nil _ _ _ _, by simp⟩
  have hw2 : ∀ b ∈ DataW.weights P t (.slice (elems.map (·.1)) (rest.map (·.1))), b ≤ reachBytes := hw
  have each : ∀ i, i < len → ∃ x : α, good x ∧ w.cells? base (a.add (i * E.sz)) E.sz = some (E.enc x) := by
    intro i hi
    have h1 := hel i hi
    have h2 : elems[i]? = some (elems[i]'(by omega)) := List.getElem?_eq_getElem (by omega)
    rw [h2, he, Option.bind_eq_some_iff] at h1
    obtain ⟨cs', h3, h4⟩ := h1
    obtain ⟨x, rfl, hg⟩ := hT enc base spare held n cs' _ h4 (fun b hb => hw2 b (by
      unfold DataW.weights
      rw [ht]
      exact List.mem_cons_of_mem _ (List.mem_append_left _ (weightsAll_mem (List.mem_map_of_mem (List.getElem_mem (by omega))) hb))))
    exact ⟨x, hg, h3⟩
  let f : Nat → α := fun i => if hi : i < len then (each i hi).choose else default
  have hf : ∀ i (hi : i < len), f i = (each i hi).choose := fun i hi => dif_pos hi
  have hbig : len ≤ 140737488355328 := by
    have h1 := hw2 ((elems.map (·.1)).length + (rest.map (·.1)).length |>.mul (P.bytesOf e)) (by unfold DataW.weights; rw [ht]; exact List.mem_cons_self ..)
    have h11 : elems.length * 1 ≤ ((elems.map (·.1)).length + (rest.map (·.1)).length) * P.bytesOf e := Nat.mul_le_mul (by simp) hbo
    have h12 : reachBytes < 2 ^ 47 := reachBytes_lt
    have h13 : ((elems.map (·.1)).length + (rest.map (·.1)).length) * P.bytesOf e ≤ reachBytes := h1
    omega
  have hgood : ∀ x ∈ (List.range len).map f, good x := by
    intro x hx
    obtain ⟨i, hi, rfl⟩ := List.mem_map.1 hx
    have hlt : i < len := by simpa using hi
    rw [hf i hlt]
    exact (each i hlt).choose_spec.1
  refine ⟨some a, (List.range len).map f, cap, by simp, ⟨by simpa using hbig, ?_⟩, hgood⟩
  rcases Nat.eq_zero_or_pos len with h0 | h0
  · subst h0; exact .inl (by simp)
  have hat : ∀ i, i < len → ∀ j u, (E.enc (f i))[j]? = some u → w.cell? (a.add (i * E.sz + j)) = some u := by
    intro i hi j u hj
    obtain ⟨_, h1, h2⟩ := World.cells?_some (each i hi).choose_spec.2
    rw [← hf i hi] at h1 h2
    have hjs : j < E.sz := by have := (List.getElem?_eq_some_iff.1 hj).1; omega
    rw [← add_zero_add, h2 j hjs, hj]
  have hpos := E.pos
  have hspot : a.spot = none := by
    have h1 : (E.enc (f 0)).length = E.sz := E.len _
    have h2 := hat 0 h0 0 ((E.enc (f 0))[0]'(by omega)) (List.getElem?_eq_getElem (by omega))
    have h3 := World.cell?_spot h2
    simpa [Addr.add] using h3
  obtain ⟨b, off, spot⟩ := a
  simp only at hspot
  subst hspot
  have hall : ∀ i x, ((List.range len).map f)[i]? = some x → At w b (off + i * E.sz) (E.enc x) := fun i x hx j u hu => by
    simp only [List.getElem?_map, Option.map_eq_some_iff] at hx
    obtain ⟨i', hi', rfl⟩ := hx
    have hi2 := List.getElem?_eq_some_iff.1 hi'
    obtain ⟨hlt, heq⟩ := hi2
    simp at heq hlt
    subst heq
    have := hat i hlt j u hu
    rw [show off + i * E.sz + j = off + (i * E.sz + j) from by omega]
    have e1 : (⟨b, off, none⟩ : Addr).add (i * E.sz + j) = ⟨b, off + (i * E.sz + j), none⟩ := by
      unfold Addr.add
      split
      · rename_i h0; rw [h0]; rfl
      · rfl
    rwa [e1] at this
  refine .inr ⟨b, off, rfl, ?_, hall⟩
  have hx := hall 0 (f 0) (by simp [h0])
  have hl1 := E.len (f 0)
  have := hx 0 ((E.enc (f 0))[0]'(by omega)) (List.getElem?_eq_getElem (by omega))
  unfold World.cell? at this
  cases hb1 : w.heap[b]? with
  | none => simp only [hb1] at this; cases this
  | some o => exact lt_of_some hb1
theorem struct_w {t : TypeId} {fuel : Nat} {cs : List Value} {x : DataW H × List MemPlace} {fs : Array Field} (ht : P.underlying t = some (.struct fs)) (h : DataW.trod enc P w base spare held fuel t cs = some x) (hw : ∀ b ∈ x.1.weights P t, b ≤ reachBytes) :
    ∃ n, cs.length = P.cellsOf t ∧ ∀ (i : Nat) (f : Field), fs[i]? = some f → ∃ y : DataW H × List MemPlace, DataW.trod enc P w base spare held n f.type ((cs.drop f.offset).take (P.cellsOf f.type)) = some y ∧ ∀ b ∈ y.1.weights P f.type, b ≤ reachBytes := by
  obtain ⟨xs, n, _, rfl, hl, hx, hf⟩ := DataW.trod_struct ht h
  refine ⟨n, hl, fun i f hi => ?_⟩
  have h1 := hf i f hi
  have hlt : i < fs.size := (Array.getElem?_eq_some_iff.1 hi).1
  rw [List.getElem?_eq_getElem (by omega)] at h1
  refine ⟨xs[i]'(by omega), h1, fun b hb => hw b ?_⟩
  show b ∈ DataW.weights P t (.agg (xs.map (·.1)))
  unfold DataW.weights
  rw [ht]
  exact DataW.weights_mem_each (j := i) (d := (xs[i]'(by omega)).1) (by simp [hi]) (by simp [List.getElem?_eq_getElem (show i < xs.length by omega)]) b hb
end
end Go.SX
set_option maxRecDepth 20000
namespace Go.Proofs.Ytlefdinbbjiabaa.Sx
open Go Go.SX Go.Proofs Go.Proofs.Try
theorem cO24 : prog.cellsOf 24 = 2 := by kernel_rfl
theorem cO47 : prog.cellsOf 47 = 4 := by kernel_rfl
theorem cO22 : prog.cellsOf 22 = 1 := by kernel_rfl
theorem cO3 : prog.cellsOf 3 = 1 := by kernel_rfl
structure RDA where
 n : Int
 A : Option Addr
 c : Nat
 l : List AR
def eRDA : Enc RDA where
 sz := 2
 enc x := [.int .i64 x.n, .slice x.A x.l.length x.c]
 len _ := rfl
 one x u hu := by simp at hu; rcases hu with rfl | rfl <;> rfl
 pos := by decide
section
variable {w : World}
theorem tw47 : TellsW prog w 47 eAR (fun _ => True) := by
 intro H enc base spare held n cs y h hw
 obtain ⟨k, hl, hf⟩ := struct_w underlying47 h hw
 rw [cO47] at hl
 match cs, hl with
 | [v0, v1, v2, v3], _ =>
  obtain ⟨y0, h0, w0⟩ := hf 0 _ rfl
  replace h0 : DataW.trod enc prog w base spare held k 3 (([v0, v1, v2, v3].drop 0).take (prog.cellsOf 3)) = some y0 := h0
  rw [cO3] at h0
  replace h0 : DataW.trod enc prog w base spare held k 3 [v0] = some y0 := h0
  obtain ⟨y1, h1, w1⟩ := hf 1 _ rfl
  replace h1 : DataW.trod enc prog w base spare held k 3 (([v0, v1, v2, v3].drop 1).take (prog.cellsOf 3)) = some y1 := h1
  rw [cO3] at h1
  replace h1 : DataW.trod enc prog w base spare held k 3 [v1] = some y1 := h1
  obtain ⟨y2, h2, w2⟩ := hf 2 _ rfl
  replace h2 : DataW.trod enc prog w base spare held k 3 (([v0, v1, v2, v3].drop 2).take (prog.cellsOf 3)) = some y2 := h2
  rw [cO3] at h2
  replace h2 : DataW.trod enc prog w base spare held k 3 [v2] = some y2 := h2
  obtain ⟨y3, h3, w3⟩ := hf 3 _ rfl
  replace h3 : DataW.trod enc prog w base spare held k 3 (([v0, v1, v2, v3].drop 3).take (prog.cellsOf 3)) = some y3 := h3
  rw [cO3] at h3
  replace h3 : DataW.trod enc prog w base spare held k 3 [v3] = some y3 := h3
  obtain ⟨m0, e0, _, _⟩ := DataW.trod_int underlying3 h0
  simp only [List.cons.injEq, and_true] at e0
  subst e0
  obtain ⟨m1, e1, _, _⟩ := DataW.trod_int underlying3 h1
  simp only [List.cons.injEq, and_true] at e1
  subst e1
  obtain ⟨m2, e2, _, _⟩ := DataW.trod_int underlying3 h2
  simp only [List.cons.injEq, and_true] at e2
  subst e2
  obtain ⟨m3, e3, _, _⟩ := DataW.trod_int underlying3 h3
  simp only [List.cons.injEq, and_true] at e3
  subst e3
  exact ⟨⟨m0, m1, m2, m3⟩, G, trivial⟩
theorem tw24 : TellsW prog w 24 eRDA (fun x => Fr eAR (fun b => b < w.heap.size) w x.A x.l) := by
 intro H enc base spare held n cs y h hw
 obtain ⟨k, hl, hf⟩ := struct_w underlying24 h hw
 rw [cO24] at hl
 match cs, hl with
 | [v0, v1], _ =>
  obtain ⟨y0, h0, w0⟩ := hf 0 _ rfl
  replace h0 : DataW.trod enc prog w base spare held k 3 (([v0, v1].drop 0).take (prog.cellsOf 3)) = some y0 := h0
  rw [cO3] at h0
  replace h0 : DataW.trod enc prog w base spare held k 3 [v0] = some y0 := h0
  obtain ⟨y1, h1, w1⟩ := hf 1 _ rfl
  replace h1 : DataW.trod enc prog w base spare held k 22 (([v0, v1].drop 1).take (prog.cellsOf 22)) = some y1 := h1
  rw [cO22] at h1
  replace h1 : DataW.trod enc prog w base spare held k 22 [v1] = some y1 := h1
  obtain ⟨m0, e0, _, _⟩ := DataW.trod_int underlying3 h0
  simp only [List.cons.injEq, and_true] at e0
  subst e0
  obtain ⟨LA, ll, lc, el, fr, _⟩ := rows_w (E := eAR) underlying22 cO47 tw47 (by decide +kernel) h1 w1
  simp only [List.cons.injEq, and_true] at el
  subst el
  exact ⟨⟨m0, LA, lc, ll⟩, G, fr⟩
end
end Go.Proofs.Ytlefdinbbjiabaa.Sx
