import Derived.Test.YtlefdinbbjiabaaProg
import Derived.Test.YtlefdinbbjiabaaS5
set_option linter.unusedVariables false
set_option linter.unusedSimpArgs false
set_option linter.unusedSectionVars false
set_option maxRecDepth 20000
set_option maxHeartbeats 8000000
namespace Go.Proofs.Ytlefdinbbjiabaa.Sx.FW
open Go Go.SX Go.Proofs Go.Proofs.Try FA FB FC FD FE FF FG FH FI FJ FK FL FM FN FO FP FQ FR FS FT
theorem hbd8 : hasBody prog 8 = true := by kernel_rfl
theorem hbd14 : hasBody prog 14 = true := by kernel_rfl
theorem hbd15 : hasBody prog 15 = true := by kernel_rfl
end Go.Proofs.Ytlefdinbbjiabaa.Sx.FW
namespace Go.Proofs.Ytlefdinbbjiabaa.Sx
open Go Go.SX Go.Proofs Go.Proofs.Try FA FB FC FD FE FF FG FH FI FJ FK FL FM FN FO FP FQ FR FS FT FW
theorem liftRanksF (n : Int) (A : Option Addr) (c : Nat) (l : List AR) (S : Nat → Prop) (wf : World) (hA : Fr eAR S wf A l) (hR : RoadOk n l) :
  TR0 prog 4 [.agg #[.int .i64 n, .slice A l.length c], .bool false] [] S wf (fun v_ C_ => v_ = .bool true ∧ C_ = []) := by
 have hla := hA.len
 have hlen := hR.len
 have hnp := hR.pl
 have hto := tab_ok (d := false) hR
 have htl := hto.len
 have hsq := sq_le hnp
 refine TR.mk func4 G ntmps4 G G (fun w_ => ?_)
 refine .seq (.region (.cons (st_boxa G G G G G (fun b1 => (.a G G G (.go idQ (.seq (.seq (.region ?_)))))))))
 refine .cons (st_callk G G G G hbd8 G .n (awake7_ _ _) ?_)
 refine .v (ev_not G G) G (.go idQ (.cond_f G (.skipgo idQ (.seq (.region ?_)))))
 refine .d 0 ty24 G G G G (.m G G G (.cons (st_call0 G G G G hbd9 G .n (graphF n A c l _ _ hA hR) (fun v_q10 C_q10 q10 => ?_))))
 obtain ⟨b2, u3, v4, fi5, ed6, x7, y8, W9, p11, p12, p13, rfl, rfl⟩ := q10
 show SP _ _ _ _ _ _ ⟨_, _ :: _ :: _ :: _ :: _ :: _, _, _⟩
 have hgl := p11.len
 have hgn := p11.ne
 refine .m G G G (.x G G G G (.x G G G G (.x G G G G ?_)))
 refine .x G G G G (.cons (st_alloc G G G G zf29 (fun b14 => (.cons (st_alloc G G G G zf29 (fun b15 => (.a G G G ?_)))))))
 refine .know (row_len 5 G) (fun hv18 => ?_)
 obtain ⟨A16, c17, rfl, hv18_1, hv18_2⟩ := hv18
 unfold maxLen at hv18_2
 refine .cons (st_storea (l' := [.int .i64 n, .slice A16 ((tabF n false l).length) c17]) G G G ty29 G G G (.t .h) G G ?_)
 refine .know (row_len 6 G) (fun hv21 => ?_)
 obtain ⟨A19, c20, rfl, hv21_1, hv21_2⟩ := hv21
 unfold maxLen at hv21_2
 refine .cons (st_storea (l' := [.int .i64 n, .slice A19 W9.length c20]) G G G ty29 G G G (.t .h) G G ?_)
 refine .a G G G (.go idQ (.seq (.seq (.region (.m G G G (.v (ev_not G G) G ?_))))))
 refine .go idQ (.cond_f G (.skipgo idQ (.seq (.region (.m G G G ?_)))))
 refine .know (row_len 3 G) (fun hv24 => ?_)
 obtain ⟨A22, c23, rfl, hv24_1, hv24_2⟩ := hv24
 unfold maxLen at hv24_2
 refine .know (row_len 4 G) (fun hv27 => ?_)
 obtain ⟨A25, c26, rfl, hv27_1, hv27_2⟩ := hv27
 unfold maxLen at hv27_2
 refine .cons (st_lend0 G G G G hbd10 G (.c (.t2 .h) .n) (.c (.t2 .h) (.c (.t2 .h) .n)) (fun w_ hw => build_ n (tabF n false l) b2 A22 c23 fi5 A25 c26 ed6 _ _ (Fr.lend hw 0 G lO) (Fr.lend hw 1 G lO) hto p11 lO) (fun v_q37 C_q37 q37 => ?_))
 obtain ⟨lb28, v129, v230, v331, v432, R33, K34, U35, D36, p38, rfl, rfl⟩ := q37
 show SP _ _ _ _ _ _ ⟨_, _ :: _ :: _ :: _ :: _ :: _ :: _ :: _ :: _ :: _ :: _, _, _⟩
 have hlo := lok hto p11 p38
 have hRn := hlo.2
 have hL := hlo.1
 have hkl := hL.kl
 have hF := rkf hto p11 p38
 refine .a G G G (.go idQ (.seq (.seq (.know (row_len 2 G) (fun hv41 => ?_)))))
 obtain ⟨A39, c40, rfl, hv41_1, hv41_2⟩ := hv41
 unfold maxLen at hv41_2
 refine .know (row_len 3 G) (fun hv44 => ?_)
 obtain ⟨A42, c43, rfl, hv44_1, hv44_2⟩ := hv44
 unfold maxLen at hv44_2
 refine .know (row_len 4 G) (fun hv47 => ?_)
 obtain ⟨A45, c46, rfl, hv47_1, hv47_2⟩ := hv47
 unfold maxLen at hv47_2
 refine .know (row_len 5 G) (fun hv50 => ?_)
 obtain ⟨A48, c49, rfl, hv50_1, hv50_2⟩ := hv50
 unfold maxLen at hv50_2
 have hr1 := rkAt_out (R := R33) (p := -1) (.inl (by decide))
 have hr2 := rkAt_out (R := R33) (p := n) (.inr oO)
 have hr3 := pkL_out (R := R33) (K := K34) (U := U35) (p := -1) (.inl (by decide))
 have hr4 := pkL_out (R := R33) (K := K34) (U := D36) (p := n) (.inr oO)
 refine SC.draw mo [cel lb28 [.slice A39 R33.length c40, .slice A42 K34.length c43, .slice A45 U35.length c46, .slice A48 D36.length c49] 68, rw_ eZ 3 (.slice A39 R33.length c40) R33, rw_ eLK 37 (.slice A42 K34.length c43) K34, rw_ eIL 27 (.slice A45 U35.length c46) U35, rw_ eIL 27 (.slice A48 D36.length c49) D36, nestIL 3 U35, nestIL 3 D36] [] (.c (.t .h) (.c (.t .h) (.c (.t .h) (.c (.t .h) (.c (.t .h) (.c (.t .h) (.c (.t .h) .n))))))) (fun _ _ _ => sc0) (fun wf_51 hl_51 hx_51 hR_51 => ?_)
 refine SR.m 0 G G G G ?_
 refine SR.z 2 G G (ev_fa G fo29_0 G (r := 0) G) ?_
 refine SR.z 3 G G (ev_ld1 G ty3 G (At.d (At.lent hR_51 3 G G))) ?_
 refine SR.o 1 G (st_callk G G G G hbd13 G (.d (.d (.d (.c .h .n)))) (lpl_ lb28 A39 c40 R33 A42 c43 K34 A45 c46 U35 A48 c49 D36 _ _) ⟨tt0, ?_⟩)
 refine SR.z 4 G G (ev_cmp G G G G) ?_
 refine SR.reslotv (t := 36) G (congrArg Value.bool (bne_eq_false_iff_eq.2 oO)) ?_
 refine SR.m 5 G G G G ?_
 refine SR.y 6 G G (fun _ => ev_mv G G) ?_
 refine SR.o 7 G (.on G G G (st_callk G G G G hbd12 G (.d (.d (.d (.c .h .n)))) (lrk_ lb28 A39 c40 R33 A42 c43 K34 A45 c46 U35 A48 c49 D36 (-1) _ _) ⟨tt0, ?_⟩))
 refine SR.y 8 G G (fun _ => ev_cmp G G G G) ?_
 refine SR.reslotv (t := 40) G (congrArg Value.bool (bne_eq_false_iff_eq.2 oO)) ?_
 refine SR.z 9 G G (ev_pickf G G G G) ?_
 refine SR.m 10 G G G G ?_
 refine SR.y 11 G G (fun _ => ev_mv G G) ?_
 refine SR.y 12 G G (fun _ => ev_fa G fo29_0 G (r := 0) G) ?_
 refine SR.y 13 G G (fun _ => ev_ld1 G ty3 G (At.d (At.lent hR_51 3 G G))) ?_
 refine SR.o 14 G (.on G G G (st_callk G G G G hbd12 G (.d (.d (.d (.c .h .n)))) (lrk_ lb28 A39 c40 R33 A42 c43 K34 A45 c46 U35 A48 c49 D36 n _ _) ⟨tt0, ?_⟩))
 refine SR.y 15 G G (fun _ => ev_cmp G G G G) ?_
 refine SR.reslotv (t := 47) G (congrArg Value.bool (bne_eq_false_iff_eq.2 oO)) ?_
 refine SR.z 16 G G (ev_pickf G G G G) ?_
 refine SR.m 17 G G G G ?_
 refine SR.y 18 G G (fun _ => ev_mv G G) ?_
 refine SR.o 19 G (.on G G G (st_call0 G G G G hbd14 G (.d (.d (.d (.c .h .n)))) (lup_ lb28 A39 c40 R33 A42 c43 K34 A45 c46 U35 A48 c49 D36 (-1) _ _ hL) (fun v_q53 C_q53 q53 => ⟨tt0, ?_⟩)))
 obtain ⟨u52, rfl, rfl⟩ := q53
 show SR _ _ _ _ _ _ _ _ _ ⟨_, _ :: _ :: _ :: _ :: _ :: _ :: _ :: _ :: _, _, _⟩
 refine .know (row_len 7 G) (fun hv56 => ?_)
 obtain ⟨A54, c55, rfl, hv56_1, hv56_2⟩ := hv56
 unfold maxLen at hv56_2
 refine SR.y 20 G G (fun _ => ev_len G underlying34 G) ?_
 refine SR.y 21 G G (fun _ => ev_cmp G G G G) ?_
 refine SR.reslotv (t := 53) G (congrArg Value.bool (bne_eq_false_iff_eq.2 oO)) ?_
 refine SR.z 22 G G (ev_pickf G G G G) ?_
 refine SR.m 23 G G G G ?_
 refine SR.y 24 G G (fun _ => ev_mv G G) ?_
 refine SR.y 25 G G (fun _ => ev_fa G fo29_0 G (r := 0) G) ?_
 refine SR.y 26 G G (fun _ => ev_ld1 G ty3 G (At.d (At.lent hR_51 3 G G))) ?_
 refine SR.o 27 G (.on G G G (st_call0 G G G G hbd15 G (.d (.d (.d (.c .h .n)))) (ldown_ lb28 A39 c40 R33 A42 c43 K34 A45 c46 U35 A48 c49 D36 n _ _ hL) (fun v_q58 C_q58 q58 => ⟨tt0, ?_⟩)))
 obtain ⟨u57, rfl, rfl⟩ := q58
 show SR _ _ _ _ _ _ _ _ _ ⟨_, _ :: _ :: _ :: _ :: _ :: _ :: _ :: _ :: _, _, _⟩
 refine .know (row_len 7 G) (fun hv61 => ?_)
 obtain ⟨A59, c60, rfl, hv61_1, hv61_2⟩ := hv61
 unfold maxLen at hv61_2
 refine SR.y 28 G G (fun _ => ev_len G underlying34 G) ?_
 refine SR.y 29 G G (fun _ => ev_cmp G G G G) ?_
 refine SR.reslotv (t := 61) G (congrArg Value.bool (bne_eq_false_iff_eq.2 oO)) ?_
 refine SR.z 30 G G (ev_pickf G G G G) ?_
 refine SR.fin kR hl_51 hx_51 hR_51 (.c (.c (.c (.c (.c (.c (.c (.c (.c .n))))))))) ?_
 refine SQ.go idQ ?_
 refine .cond_f G ?_
 refine .skipgo idQ (.seq (.region (.f fo29_0 0 G G G G (.l ty3 12 G G G G G (.cons (st_mkbools (n := (n).toNat) G G G G underlying43 ai4 G G oO oO G (fun b62 => ?_)))))))
 refine .a G G G (.go idQ (.seq (.region (.a G G G (.go idQ (.seq (.seq (.region ?_))))))))
 refine .a G G G (.go idQ (.block (.loop (X := Int × Int × (List Bool)) (fun ⟨p, ct, s⟩ => 0 ≤ p ∧ p ≤ n ∧ ct = sumP (fun p_ => ((pkL R33 K34 U35 p_).length : Int) + (pkL R33 K34 D36 p_).length) p.toNat ∧ (s.length : Int) = n ∧ (∀ k_ : Int, 0 ≤ k_ → gt s k_ = true → ∃ q : Int, 0 ≤ q ∧ q < p ∧ gt R33 q = k_)) (fun ⟨p, ct, s⟩ => [(7, .pointer (some ⟨b15, 0, none⟩)), (9, .pointer (some ⟨lb28, 0, none⟩)), (10, .slice (some ⟨b62, 0, none⟩) ((n).toNat) ((n).toNat)), (12, .int .i64 p), (11, .int .i64 ct)]) (fun ⟨p, ct, s⟩ => [rw_ eB 4 (.slice (some ⟨b62, 0, none⟩) ((n).toNat) ((n).toNat)) s, cel lb28 [.slice A39 R33.length c40, .slice A42 K34.length c43, .slice A45 U35.length c46, .slice A48 D36.length c49] 68, rw_ eZ 3 (.slice A39 R33.length c40) R33, rw_ eLK 37 (.slice A42 K34.length c43) K34, rw_ eIL 27 (.slice A45 U35.length c46) U35, rw_ eIL 27 (.slice A48 D36.length c49) D36, nestIL 3 U35, nestIL 3 D36, rw_ eLK 37 (.slice A59 ((pkL R33 K34 D36 n).length) c60) (pkL R33 K34 D36 n), rw_ eLK 37 (.slice A54 ((pkL R33 K34 U35 (-1)).length) c55) (pkL R33 K34 U35 (-1)), cel b2 [.slice A22 fi5.length c23, .slice A25 ed6.length c26] 83, rw_ eZ 3 (.slice A22 fi5.length c23) fi5, rw_ eEG 64 (.slice A25 ed6.length c26) ed6, cel b15 [.int .i64 n, .slice A19 W9.length c20] 29, cel b14 [.int .i64 n, .slice A16 ((tabF n false l).length) c17] 29, rw_ eZ 3 (.slice A16 ((tabF n false l).length) c17) (tabF n false l), rw_ eZ 3 (.slice A19 W9.length c20) W9, cel b1 [.int .i64 n, .slice A l.length c] 24]) (fun _ => S) (fun _ => wf) (fun ⟨p, ct, s⟩ => (n - p).toNat) (fun a_ w_ hs_ hw_ => ⟨⟨0, 0, (List.replicate ((n).toNat) false)⟩, (by (try dsimp only); exact ⟨oO, oO, G, (by rw [List.length_replicate]; omega), (fun k_ _ => seen_0 k_)⟩), hs_.mono (Sub.get (.c4 G G G G (.c G .n))), hw_.keep (.d (.d (.d (.d (.d (.d (.d (.d (.d .n)))))))))⟩) (fun ⟨p, ct, s⟩ ⟨q_0, q_1, q_2, q_3, q_4⟩ => ?_))))
 try dsimp only
 have hcb := cnt_bd hL q_2 oO
 refine .seq (.seq (.region (.m G G G (.f fo29_0 0 G G G G (.l ty3 13 G G G G G ?_)))))
 refine .e G G G G G (.go idQ (.condI G bD (fun h63 => ?_) (fun h63 => ?_)))
 ·
  refine .skipgo idQ (.seq (.block (.seq ?_)))
  have hpu := pk_len hL p
  refine .region (.m G G G (.m G G G (.cons (st_callk G G G G hbd12 G (.c (.t .h) (.c (.t .h) (.c (.t .h) (.c (.t .h) (.c (.t .h) (.c (.t .h) (.c (.t .h) .n))))))) (lrk_ lb28 A39 c40 R33 A42 c43 K34 A45 c46 U35 A48 c49 D36 p _ _) ?_))))
  refine .a G G G (.go idQ (.seq (.seq ?_)))
  have hrk := rkAt_in (R := R33) (p := p) oO oO
  have hrg := hF.rng p oO oO
  have hsn : ¬ gt s (rkAt R33 p) = true := fun h_ => by obtain ⟨q_, a_, b_, c_⟩ := q_4 _ oO h_; have e_ := hF.inj q_ p a_ oO oO oO oO; omega
  refine .region (.m G G G (.e G G G G G (.m G G G ?_)))
  refine .w (fun _ => ev_mv G G) G (.w (fun _ => ev_fa G fo29_0 G (r := 0) G) G (.w (fun hb => ev_ld1 G ty3 (lkg G hb) (At.own1 13 G G)) G (.w (fun hb => ev_cmp G (lkg G hb) (lkg G hb) G) G ?_)))
  refine .r G G G G G (.m G G G (.w (fun _ => ev_mv G G) G (.w (fun _ => ev_mv G G) G ?_)))
  refine .w (fun hb => have hp := bF (bO bD bD) hb; ev_ix G underlying43 ty4 (lkg G hb) (lkg G hb) (by have _h := hp; omega) (by have _h := hp; omega) (fun _ _ => G)) G (.w (fun hb => have hp := bF (bO bD bD) hb; ev_ld1 G ty4 (lkg G hb) (At.elem1 (row_el (E := eB) (l := s) (i := (rkAt R33 p)) 0 G (by have _h := hp; omega) (by have _h := hp; omega)) 0 G)) G (.r G G G G G (.go idQ ?_)))
  refine .condI G (bO (bO bD bD) bV) (fun h64 => ?_) (fun h64 => ?_)
  ·
   exfalso; first | omega | exact Or.elim (by assumption) (fun h_ => by omega) hsn
  refine .skipgo idQ (.seq (.region (.m G G G (.m G G G (.v (ev_ix G underlying43 ty4 G G oO oO (fun _ _ => G)) G ?_)))))
  refine .cons (st_setel (E := eB) (i := (rkAt R33 p)) (cs := [.bool true]) (off := 0) true G G G ty4 G G G G G .h lO lO (Nat.le_of_ble_eq_true G) G ?_)
  refine .go idQ (.seq (.seq (.region (.m G G G (.m G G G (.cons (st_call0 G G G G hbd14 G (.c (.t .h) (.c (.t .h) (.c (.t .h) (.c (.t .h) (.c (.t .h) (.c (.t .h) (.c (.t .h) .n))))))) (lup_ lb28 A39 c40 R33 A42 c43 K34 A45 c46 U35 A48 c49 D36 p _ _ hL) (fun v_q66 C_q66 q66 => ?_))))))))
  obtain ⟨u65, rfl, rfl⟩ := q66
  show SP _ _ _ _ _ _ ⟨_, _ :: _ :: _ :: _ :: _ :: _ :: _ :: _ :: _, _, _⟩
  refine .know (row_len 7 G) (fun hv69 => ?_)
  obtain ⟨A67, c68, rfl, hv69_1, hv69_2⟩ := hv69
  unfold maxLen at hv69_2
  refine .g underlying34 G G G (.m G G G (.go idQ (.block (.loop (X := Int × Int) (fun ⟨i, ct1⟩ => 0 ≤ i ∧ i ≤ ((pkL R33 K34 U35 p).length : Int) ∧ ct1 = ct + i) (fun ⟨i, ct1⟩ => [(7, .pointer (some ⟨b15, 0, none⟩)), (9, .pointer (some ⟨lb28, 0, none⟩)), (10, .slice (some ⟨b62, 0, none⟩) ((n).toNat) ((n).toNat)), (12, .int .i64 p), (13, .int .i64 (rkAt R33 p)), (94, .slice A67 ((pkL R33 K34 U35 p).length) c68), (95, .int .i64 (((pkL R33 K34 U35 p).length : Nat) : Int)), (96, .int .i64 i), (11, .int .i64 ct1)]) (fun ⟨i, ct1⟩ => [cel lb28 [.slice A39 R33.length c40, .slice A42 K34.length c43, .slice A45 U35.length c46, .slice A48 D36.length c49] 68, rw_ eZ 3 (.slice A39 R33.length c40) R33, rw_ eLK 37 (.slice A42 K34.length c43) K34, rw_ eIL 27 (.slice A45 U35.length c46) U35, rw_ eIL 27 (.slice A48 D36.length c49) D36, nestIL 3 U35, nestIL 3 D36, rw_ eLK 37 (.slice A67 ((pkL R33 K34 U35 p).length) c68) (pkL R33 K34 U35 p), rw_ eB 4 (.slice (some ⟨b62, 0, none⟩) ((n).toNat) ((n).toNat)) (s.set ((rkAt R33 p)).toNat true), rw_ eLK 37 (.slice A59 ((pkL R33 K34 D36 n).length) c60) (pkL R33 K34 D36 n), rw_ eLK 37 (.slice A54 ((pkL R33 K34 U35 (-1)).length) c55) (pkL R33 K34 U35 (-1)), cel b2 [.slice A22 fi5.length c23, .slice A25 ed6.length c26] 83, rw_ eZ 3 (.slice A22 fi5.length c23) fi5, rw_ eEG 64 (.slice A25 ed6.length c26) ed6, cel b15 [.int .i64 n, .slice A19 W9.length c20] 29, cel b14 [.int .i64 n, .slice A16 ((tabF n false l).length) c17] 29, rw_ eZ 3 (.slice A16 ((tabF n false l).length) c17) (tabF n false l), rw_ eZ 3 (.slice A19 W9.length c20) W9, cel b1 [.int .i64 n, .slice A l.length c] 24]) (fun _ => S) (fun _ => wf) (fun ⟨i, ct1⟩ => (((pkL R33 K34 U35 p).length : Int) - i).toNat) (fun a_ w_ hs_ hw_ => ⟨⟨0, ct⟩, (by (try dsimp only); exact ⟨oO, oO, oO⟩), hs_.mono (Sub.get (.c4 G G G G (.c4 G G G G (.c G .n)))), hw_.keep (.d (.d (.d (.d (.d (.d (.d (.d (.d (.c .h .n))))))))))⟩) (fun ⟨i, ct1⟩ ⟨r_0, r_1, r_2⟩ => ?_)))))
  try dsimp only
  refine .seq (.region (.e G G G G G (.go idQ (.seq (.condI G bD (fun h70 => ?_) (fun h70 => ?_))))))
  ·
   refine .skipgo idQ (.seq (.block (.seq (.region (.v (ev_ix G underlying34 ty37 G G oO oO (row_adr (i := i) 7 G oO lO)) G (.v (ev_lda G G (row_el (E := eLK) (l := (pkL R33 K34 U35 p)) (i := i) 7 G oO lO) ty37) G (.cons (st_alloc G G G G zf37 (fun b71 => ?_)))))))))
   refine .cons (st_storea (l' := [.int .i64 ((gt (pkL R33 K34 U35 p) i).lf), .int .i64 ((gt (pkL R33 K34 U35 p) i).lt), .int .i64 ((gt (pkL R33 K34 U35 p) i).lw), .int .i64 ((gt (pkL R33 K34 U35 p) i).lm)]) G G G ty37 G G G .h G G ?_)
   refine .go idQ (.seq (.seq ?_))
   have hux := hF.up p oO oO _ (gtM (l := pkL R33 K34 U35 p) (i := i) oO oO)
   refine .region (.f fo37_0 0 G G G G (.l ty3 0 G G G G G (.m G G G ?_)))
   refine .e G G G G G (.m G G G (.w (fun _ => ev_mv G G) G (.w (fun _ => ev_fa G fo37_1 G (r := 1) G) G ?_)))
   refine .w (fun hb => ev_ld1 G ty3 (lkg G hb) (At.own1 0 G G)) G (.cons (st_gcallk G G G G G G hbd12 (fun hb => (lkA1 (lkg G hb) (lkA1 (lkg G hb) lkA0))) (.c (.t .h) (.c (.t .h) (.c (.t .h) (.c (.t .h) (.c (.t .h) (.c (.t .h) (.c (.t .h) .n))))))) (fun hb => have hp := bF bNE hb; lrk_ lb28 A39 c40 R33 A42 c43 K34 A45 c46 U35 A48 c49 D36 ((gt (pkL R33 K34 U35 p) i).lt) _ _) (.w (fun _ => ev_mv G G) G (.w (fun hb => ev_cmp G (lkg G hb) (lkg G hb) G) G ?_))))
   refine .r G G G G G (.go idQ (.condI G (bO bNE bD) (fun h72 => ?_) (fun h72 => ?_)))
   ·
    exfalso; first | omega | exact Or.elim (by assumption) (fun h_ => by omega) hsn
   refine .skipgo idQ (.region (.m G G G (.p ((ct1 + 1)) oO oO G G G G G (.a G G G ?_))))
   refine .go idQ (.region (.p ((i + 1)) oO oO G G G G G (.m G G G ?_)))
   exact SP.nil (SQ.roundb (X := Int × Int) (x := (i, ct1)) ⟨(i + 1), (ct1 + 1)⟩ (by (try dsimp only); exact ⟨oO, oO, oO⟩) dO (Sub.get (.c4 G G G G (.c4 G G G G (.c G .n)))) (kp (.c (.t .h) (.c (.t .h) (.c (.t .h) (.c (.t .h) (.c (.t .h) (.c (.t .h) (.c (.t .h) (.c (.t .h) (.c (.t .h) (.c (.t .h) (.c (.t .h) (.c (.t .h) (.c (.t .h) (.c (.t .h) (.c (.t .h) (.c (.t .h) (.c (.t .h) (.c (.t .h) (.c (.t .h) .n)))))))))))))))))))))
  refine .exit idQ ?_
  refine .seq (.region (.m G G G (.m G G G (.cons (st_call0 G G G G hbd15 G (.d (.d (.d (.c .h .n)))) (ldown_ lb28 A39 c40 R33 A42 c43 K34 A45 c46 U35 A48 c49 D36 p _ _ hL) (fun v_q74 C_q74 q74 => ?_))))))
  obtain ⟨u73, rfl, rfl⟩ := q74
  show SP _ _ _ _ _ _ ⟨_, _ :: _ :: _ :: _ :: _ :: _ :: _ :: _ :: _, _, _⟩
  refine .know (row_len 7 G) (fun hv77 => ?_)
  obtain ⟨A75, c76, rfl, hv77_1, hv77_2⟩ := hv77
  unfold maxLen at hv77_2
  refine .g underlying34 G G G (.m G G G (.go idQ (.block (.loop (X := Int × Int) (fun ⟨j, ct2⟩ => 0 ≤ j ∧ j ≤ ((pkL R33 K34 D36 p).length : Int) ∧ ct2 = ct1 + j) (fun ⟨j, ct2⟩ => [(7, .pointer (some ⟨b15, 0, none⟩)), (9, .pointer (some ⟨lb28, 0, none⟩)), (10, .slice (some ⟨b62, 0, none⟩) ((n).toNat) ((n).toNat)), (12, .int .i64 p), (13, .int .i64 (rkAt R33 p)), (94, .slice A67 ((pkL R33 K34 U35 p).length) c68), (95, .int .i64 (((pkL R33 K34 U35 p).length : Nat) : Int)), (96, .int .i64 i), (117, .slice A75 ((pkL R33 K34 D36 p).length) c76), (118, .int .i64 (((pkL R33 K34 D36 p).length : Nat) : Int)), (119, .int .i64 j), (11, .int .i64 ct2)]) (fun ⟨j, ct2⟩ => [cel lb28 [.slice A39 R33.length c40, .slice A42 K34.length c43, .slice A45 U35.length c46, .slice A48 D36.length c49] 68, rw_ eZ 3 (.slice A39 R33.length c40) R33, rw_ eLK 37 (.slice A42 K34.length c43) K34, rw_ eIL 27 (.slice A45 U35.length c46) U35, rw_ eIL 27 (.slice A48 D36.length c49) D36, nestIL 3 U35, nestIL 3 D36, rw_ eLK 37 (.slice A75 ((pkL R33 K34 D36 p).length) c76) (pkL R33 K34 D36 p), rw_ eLK 37 (.slice A67 ((pkL R33 K34 U35 p).length) c68) (pkL R33 K34 U35 p), rw_ eB 4 (.slice (some ⟨b62, 0, none⟩) ((n).toNat) ((n).toNat)) (s.set ((rkAt R33 p)).toNat true), rw_ eLK 37 (.slice A59 ((pkL R33 K34 D36 n).length) c60) (pkL R33 K34 D36 n), rw_ eLK 37 (.slice A54 ((pkL R33 K34 U35 (-1)).length) c55) (pkL R33 K34 U35 (-1)), cel b2 [.slice A22 fi5.length c23, .slice A25 ed6.length c26] 83, rw_ eZ 3 (.slice A22 fi5.length c23) fi5, rw_ eEG 64 (.slice A25 ed6.length c26) ed6, cel b15 [.int .i64 n, .slice A19 W9.length c20] 29, cel b14 [.int .i64 n, .slice A16 ((tabF n false l).length) c17] 29, rw_ eZ 3 (.slice A16 ((tabF n false l).length) c17) (tabF n false l), rw_ eZ 3 (.slice A19 W9.length c20) W9, cel b1 [.int .i64 n, .slice A l.length c] 24]) (fun _ => S) (fun _ => wf) (fun ⟨j, ct2⟩ => (((pkL R33 K34 D36 p).length : Int) - j).toNat) (fun a_ w_ hs_ hw_ => ⟨⟨0, ct1⟩, (by (try dsimp only); exact ⟨oO, oO, oO⟩), hs_.mono (Sub.get (.c4 G G G G (.c4 G G G G (.c4 G G G G .n)))), hw_.keep (.d (.d (.d (.d (.d (.d (.d (.d (.d (.d .n))))))))))⟩) (fun ⟨j, ct2⟩ ⟨s_0, s_1, s_2⟩ => ?_)))))
  try dsimp only
  refine .seq (.region (.e G G G G G (.go idQ (.seq (.condI G bD (fun h78 => ?_) (fun h78 => ?_))))))
  ·
   refine .skipgo idQ (.seq (.block (.seq (.region (.v (ev_ix G underlying34 ty37 G G oO oO (row_adr (i := j) 7 G oO lO)) G (.v (ev_lda G G (row_el (E := eLK) (l := (pkL R33 K34 D36 p)) (i := j) 7 G oO lO) ty37) G (.cons (st_alloc G G G G zf37 (fun b79 => ?_)))))))))
   refine .cons (st_storea (l' := [.int .i64 ((gt (pkL R33 K34 D36 p) j).lf), .int .i64 ((gt (pkL R33 K34 D36 p) j).lt), .int .i64 ((gt (pkL R33 K34 D36 p) j).lw), .int .i64 ((gt (pkL R33 K34 D36 p) j).lm)]) G G G ty37 G G G .h G G ?_)
   refine .go idQ (.seq (.seq ?_))
   have hux := hF.dn p oO oO _ (gtM (l := pkL R33 K34 D36 p) (i := j) oO oO)
   refine .region (.f fo37_1 1 G G G G (.l ty3 0 G G G G G (.m G G G ?_)))
   refine .e G G G G G (.m G G G (.w (fun _ => ev_mv G G) G (.w (fun _ => ev_fa G fo37_0 G (r := 0) G) G ?_)))
   refine .w (fun hb => ev_ld1 G ty3 (lkg G hb) (At.own1 0 G G)) G (.cons (st_gcallk G G G G G G hbd12 (fun hb => (lkA1 (lkg G hb) (lkA1 (lkg G hb) lkA0))) (.c (.t .h) (.c (.t .h) (.c (.t .h) (.c (.t .h) (.c (.t .h) (.c (.t .h) (.c (.t .h) .n))))))) (fun hb => have hp := bF bNE hb; lrk_ lb28 A39 c40 R33 A42 c43 K34 A45 c46 U35 A48 c49 D36 ((gt (pkL R33 K34 D36 p) j).lf) _ _) (.w (fun _ => ev_mv G G) G (.w (fun hb => ev_cmp G (lkg G hb) (lkg G hb) G) G ?_))))
   refine .r G G G G G (.go idQ (.condI G (bO bNE bD) (fun h80 => ?_) (fun h80 => ?_)))
   ·
    exfalso; first | omega | exact Or.elim (by assumption) (fun h_ => by omega) hsn
   refine .skipgo idQ (.region (.m G G G (.p ((ct2 + 1)) oO oO G G G G G (.a G G G ?_))))
   refine .go idQ (.region (.p ((j + 1)) oO oO G G G G G (.m G G G ?_)))
   exact SP.nil (SQ.roundb (X := Int × Int) (x := (j, ct2)) ⟨(j + 1), (ct2 + 1)⟩ (by (try dsimp only); exact ⟨oO, oO, oO⟩) dO (Sub.get (.c4 G G G G (.c4 G G G G (.c4 G G G G .n)))) (kp (.c (.t .h) (.c (.t .h) (.c (.t .h) (.c (.t .h) (.c (.t .h) (.c (.t .h) (.c (.t .h) (.c (.t .h) (.c (.t .h) (.c (.t .h) (.c (.t .h) (.c (.t .h) (.c (.t .h) (.c (.t .h) (.c (.t .h) (.c (.t .h) (.c (.t .h) (.c (.t .h) (.c (.t .h) (.c (.t .h) .n))))))))))))))))))))))
  refine .exit idQ ?_
  refine .region (.m G G G (.p ((p + 1)) oO oO G G G G G (.a G G G ?_)))
  exact SP.nil (SQ.roundb (X := Int × Int × (List Bool)) (x := (p, ct, s)) ⟨(p + 1), ct2, (s.set ((rkAt R33 p)).toNat true)⟩ (by (try dsimp only); exact ⟨oO, oO, (by have h_ := sumP_next (f := (fun p_ => ((pkL R33 K34 U35 p_).length : Int) + (pkL R33 K34 D36 p_).length)) q_2 q_0; rw [← h_]; show _ = ct + (_ + _); omega), (by rw [List.length_set]; exact q_3), (seen_next q_4 q_0 hrk oO)⟩) dO (Sub.get (.c4 G G G G (.c G .n))) (kp (.c (.t4 (.t4 (.t .h))) (.d (.d (.d (.c .h (.c (.t2 .h) (.c (.t2 .h) (.c (.t2 .h) (.c (.t2 .h) (.c (.t2 .h) (.c (.t2 .h) (.c (.t2 .h) (.c (.t2 .h) (.c (.t2 .h) (.c (.t2 .h) .n)))))))))))))))))
 refine .exit idQ ?_
 refine .seq (.region (.m G G G (.m G G G (.cons (st_call0 G G G G hbd11 G (.c (.t .h) (.c (.t .h) (.c (.t .h) (.c (.t .h) (.c (.t .h) (.c (.t .h) (.c (.t .h) .n))))))) (lks_ lb28 A39 c40 R33 A42 c43 K34 A45 c46 U35 A48 c49 D36 _ _ oO) (fun v_q82 C_q82 q82 => ?_))))))
 obtain ⟨u81, rfl, rfl⟩ := q82
 show SP _ _ _ _ _ _ ⟨_, _ :: _ :: _ :: _ :: _ :: _ :: _ :: _ :: _, _, _⟩
 refine .know (row_len 7 G) (fun hv85 => ?_)
 obtain ⟨A83, c84, rfl, hv85_1, hv85_2⟩ := hv85
 unfold maxLen at hv85_2
 refine .g underlying34 G G G (.e G G G G G (.a G G G (.go idQ ?_)))
 exact .ret idQ (ret1 results4 G .n ⟨(congrArg Value.bool (beq_iff_eq.2 (by have h_ := hF.cnt; rw [q_2, show p = n from by omega]; exact h_))), G⟩)
theorem liftRanksBadF (n : Int) (A : Option Addr) (c : Nat) (l : List AR) (S : Nat → Prop) (wf : World) (hA : Fr eAR S wf A l) (hR : ¬ RoadOk n l) :
  TR0 prog 4 [.agg #[.int .i64 n, .slice A l.length c], .bool false] [] S wf (fun v_ C_ => v_ = .bool true ∧ C_ = []) := by
 have hla := hA.len
 refine TR.mk func4 G ntmps4 G G (fun w_ => ?_)
 refine .seq (.region (.cons (st_boxa G G G G G (fun b1 => (.a G G G (.go idQ (.seq (.seq (.region ?_)))))))))
 refine .cons (st_callk G G G G hbd8 G .n (awake7_ _ _) ?_)
 refine .v (ev_not G G) G (.go idQ (.cond_f G (.skipgo idQ (.seq (.region ?_)))))
 refine .d 0 ty24 G G G G (.m G G G (.cons (st_callk G G G G hbd9 G .n (graphbadF n A c l _ _ hA hR) (.m G G G ?_))))
 refine .x G G G G (.x G G G G (.x G G G G (.x G G G G ?_)))
 refine .cons (st_alloc G G G G zf29 (fun b2 => ?_))
 refine .cons (st_alloc G G G G zf29 (fun b3 => ?_))
 refine .a G G G (.cons (st_storea (l' := [.int .i64 0, .slice none 0 0]) G G G ty29 G G G (.t .h) G G (.cons (st_storea (l' := [.int .i64 0, .slice none 0 0]) G G G ty29 G G G (.t .h) G G (.a G G G ?_)))))
 refine .go idQ (.seq (.seq (.region (.m G G G (.v (ev_not G G) G (.go idQ ?_))))))
 refine .cond_t G ?_
 refine .seq (.region (.a G G G (.go idQ (.ret idQ (ret1 results4 G .n ⟨G, G⟩)))))
theorem liftRanksT (n : Int) (A : Option Addr) (c : Nat) (l : List AR) (S : Nat → Prop) (wf : World) (hA : Fr eAR S wf A l) (hR : RoadOk n l) :
  TR0 prog 4 [.agg #[.int .i64 n, .slice A l.length c], .bool true] [] S wf (fun v_ C_ => v_ = .bool true ∧ C_ = []) := by
 have hla := hA.len
 have hlen := hR.len
 have hnp := hR.pl
 have hto := tab_ok (d := true) hR
 have htl := hto.len
 have hsq := sq_le hnp
 refine TR.mk func4 G ntmps4 G G (fun w_ => ?_)
 refine .seq (.region (.cons (st_boxa G G G G G (fun b1 => (.a G G G (.go idQ (.seq (.seq (.region ?_)))))))))
 refine .cons (st_callk G G G G hbd8 G .n (awake7_ _ _) ?_)
 refine .v (ev_not G G) G (.go idQ (.cond_f G (.skipgo idQ (.seq (.region ?_)))))
 refine .d 0 ty24 G G G G (.m G G G (.cons (st_call0 G G G G hbd9 G .n (graphT n A c l _ _ hA hR) (fun v_q10 C_q10 q10 => ?_))))
 obtain ⟨b2, u3, v4, fi5, ed6, x7, y8, W9, p11, p12, p13, rfl, rfl⟩ := q10
 show SP _ _ _ _ _ _ ⟨_, _ :: _ :: _ :: _ :: _ :: _, _, _⟩
 have hgl := p11.len
 have hgn := p11.ne
 refine .m G G G (.x G G G G (.x G G G G (.x G G G G ?_)))
 refine .x G G G G (.cons (st_alloc G G G G zf29 (fun b14 => (.cons (st_alloc G G G G zf29 (fun b15 => (.a G G G ?_)))))))
 refine .know (row_len 5 G) (fun hv18 => ?_)
 obtain ⟨A16, c17, rfl, hv18_1, hv18_2⟩ := hv18
 unfold maxLen at hv18_2
 refine .cons (st_storea (l' := [.int .i64 n, .slice A16 ((tabF n true l).length) c17]) G G G ty29 G G G (.t .h) G G ?_)
 refine .know (row_len 6 G) (fun hv21 => ?_)
 obtain ⟨A19, c20, rfl, hv21_1, hv21_2⟩ := hv21
 unfold maxLen at hv21_2
 refine .cons (st_storea (l' := [.int .i64 n, .slice A19 W9.length c20]) G G G ty29 G G G (.t .h) G G ?_)
 refine .a G G G (.go idQ (.seq (.seq (.region (.m G G G (.v (ev_not G G) G ?_))))))
 refine .go idQ (.cond_f G (.skipgo idQ (.seq (.region (.m G G G ?_)))))
 refine .know (row_len 3 G) (fun hv24 => ?_)
 obtain ⟨A22, c23, rfl, hv24_1, hv24_2⟩ := hv24
 unfold maxLen at hv24_2
 refine .know (row_len 4 G) (fun hv27 => ?_)
 obtain ⟨A25, c26, rfl, hv27_1, hv27_2⟩ := hv27
 unfold maxLen at hv27_2
 refine .cons (st_lend0 G G G G hbd10 G (.c (.t2 .h) .n) (.c (.t2 .h) (.c (.t2 .h) .n)) (fun w_ hw => build_ n (tabF n true l) b2 A22 c23 fi5 A25 c26 ed6 _ _ (Fr.lend hw 0 G lO) (Fr.lend hw 1 G lO) hto p11 lO) (fun v_q37 C_q37 q37 => ?_))
 obtain ⟨lb28, v129, v230, v331, v432, R33, K34, U35, D36, p38, rfl, rfl⟩ := q37
 show SP _ _ _ _ _ _ ⟨_, _ :: _ :: _ :: _ :: _ :: _ :: _ :: _ :: _ :: _ :: _, _, _⟩
 have hlo := lok hto p11 p38
 have hRn := hlo.2
 have hL := hlo.1
 have hkl := hL.kl
 have hF := rkf hto p11 p38
 refine .a G G G (.go idQ (.seq (.seq (.know (row_len 2 G) (fun hv41 => ?_)))))
 obtain ⟨A39, c40, rfl, hv41_1, hv41_2⟩ := hv41
 unfold maxLen at hv41_2
 refine .know (row_len 3 G) (fun hv44 => ?_)
 obtain ⟨A42, c43, rfl, hv44_1, hv44_2⟩ := hv44
 unfold maxLen at hv44_2
 refine .know (row_len 4 G) (fun hv47 => ?_)
 obtain ⟨A45, c46, rfl, hv47_1, hv47_2⟩ := hv47
 unfold maxLen at hv47_2
 refine .know (row_len 5 G) (fun hv50 => ?_)
 obtain ⟨A48, c49, rfl, hv50_1, hv50_2⟩ := hv50
 unfold maxLen at hv50_2
 have hr1 := rkAt_out (R := R33) (p := -1) (.inl (by decide))
 have hr2 := rkAt_out (R := R33) (p := n) (.inr oO)
 have hr3 := pkL_out (R := R33) (K := K34) (U := U35) (p := -1) (.inl (by decide))
 have hr4 := pkL_out (R := R33) (K := K34) (U := D36) (p := n) (.inr oO)
 refine SC.draw mo [cel lb28 [.slice A39 R33.length c40, .slice A42 K34.length c43, .slice A45 U35.length c46, .slice A48 D36.length c49] 68, rw_ eZ 3 (.slice A39 R33.length c40) R33, rw_ eLK 37 (.slice A42 K34.length c43) K34, rw_ eIL 27 (.slice A45 U35.length c46) U35, rw_ eIL 27 (.slice A48 D36.length c49) D36, nestIL 3 U35, nestIL 3 D36] [] (.c (.t .h) (.c (.t .h) (.c (.t .h) (.c (.t .h) (.c (.t .h) (.c (.t .h) (.c (.t .h) .n))))))) (fun _ _ _ => sc0) (fun wf_51 hl_51 hx_51 hR_51 => ?_)
 refine SR.m 0 G G G G ?_
 refine SR.z 2 G G (ev_fa G fo29_0 G (r := 0) G) ?_
 refine SR.z 3 G G (ev_ld1 G ty3 G (At.d (At.lent hR_51 3 G G))) ?_
 refine SR.o 1 G (st_callk G G G G hbd13 G (.d (.d (.d (.c .h .n)))) (lpl_ lb28 A39 c40 R33 A42 c43 K34 A45 c46 U35 A48 c49 D36 _ _) ⟨tt0, ?_⟩)
 refine SR.z 4 G G (ev_cmp G G G G) ?_
 refine SR.reslotv (t := 36) G (congrArg Value.bool (bne_eq_false_iff_eq.2 oO)) ?_
 refine SR.m 5 G G G G ?_
 refine SR.y 6 G G (fun _ => ev_mv G G) ?_
 refine SR.o 7 G (.on G G G (st_callk G G G G hbd12 G (.d (.d (.d (.c .h .n)))) (lrk_ lb28 A39 c40 R33 A42 c43 K34 A45 c46 U35 A48 c49 D36 (-1) _ _) ⟨tt0, ?_⟩))
 refine SR.y 8 G G (fun _ => ev_cmp G G G G) ?_
 refine SR.reslotv (t := 40) G (congrArg Value.bool (bne_eq_false_iff_eq.2 oO)) ?_
 refine SR.z 9 G G (ev_pickf G G G G) ?_
 refine SR.m 10 G G G G ?_
 refine SR.y 11 G G (fun _ => ev_mv G G) ?_
 refine SR.y 12 G G (fun _ => ev_fa G fo29_0 G (r := 0) G) ?_
 refine SR.y 13 G G (fun _ => ev_ld1 G ty3 G (At.d (At.lent hR_51 3 G G))) ?_
 refine SR.o 14 G (.on G G G (st_callk G G G G hbd12 G (.d (.d (.d (.c .h .n)))) (lrk_ lb28 A39 c40 R33 A42 c43 K34 A45 c46 U35 A48 c49 D36 n _ _) ⟨tt0, ?_⟩))
 refine SR.y 15 G G (fun _ => ev_cmp G G G G) ?_
 refine SR.reslotv (t := 47) G (congrArg Value.bool (bne_eq_false_iff_eq.2 oO)) ?_
 refine SR.z 16 G G (ev_pickf G G G G) ?_
 refine SR.m 17 G G G G ?_
 refine SR.y 18 G G (fun _ => ev_mv G G) ?_
 refine SR.o 19 G (.on G G G (st_call0 G G G G hbd14 G (.d (.d (.d (.c .h .n)))) (lup_ lb28 A39 c40 R33 A42 c43 K34 A45 c46 U35 A48 c49 D36 (-1) _ _ hL) (fun v_q53 C_q53 q53 => ⟨tt0, ?_⟩)))
 obtain ⟨u52, rfl, rfl⟩ := q53
 show SR _ _ _ _ _ _ _ _ _ ⟨_, _ :: _ :: _ :: _ :: _ :: _ :: _ :: _ :: _, _, _⟩
 refine .know (row_len 7 G) (fun hv56 => ?_)
 obtain ⟨A54, c55, rfl, hv56_1, hv56_2⟩ := hv56
 unfold maxLen at hv56_2
 refine SR.y 20 G G (fun _ => ev_len G underlying34 G) ?_
 refine SR.y 21 G G (fun _ => ev_cmp G G G G) ?_
 refine SR.reslotv (t := 53) G (congrArg Value.bool (bne_eq_false_iff_eq.2 oO)) ?_
 refine SR.z 22 G G (ev_pickf G G G G) ?_
 refine SR.m 23 G G G G ?_
 refine SR.y 24 G G (fun _ => ev_mv G G) ?_
 refine SR.y 25 G G (fun _ => ev_fa G fo29_0 G (r := 0) G) ?_
 refine SR.y 26 G G (fun _ => ev_ld1 G ty3 G (At.d (At.lent hR_51 3 G G))) ?_
 refine SR.o 27 G (.on G G G (st_call0 G G G G hbd15 G (.d (.d (.d (.c .h .n)))) (ldown_ lb28 A39 c40 R33 A42 c43 K34 A45 c46 U35 A48 c49 D36 n _ _ hL) (fun v_q58 C_q58 q58 => ⟨tt0, ?_⟩)))
 obtain ⟨u57, rfl, rfl⟩ := q58
 show SR _ _ _ _ _ _ _ _ _ ⟨_, _ :: _ :: _ :: _ :: _ :: _ :: _ :: _ :: _, _, _⟩
 refine .know (row_len 7 G) (fun hv61 => ?_)
 obtain ⟨A59, c60, rfl, hv61_1, hv61_2⟩ := hv61
 unfold maxLen at hv61_2
 refine SR.y 28 G G (fun _ => ev_len G underlying34 G) ?_
 refine SR.y 29 G G (fun _ => ev_cmp G G G G) ?_
 refine SR.reslotv (t := 61) G (congrArg Value.bool (bne_eq_false_iff_eq.2 oO)) ?_
 refine SR.z 30 G G (ev_pickf G G G G) ?_
 refine SR.fin kR hl_51 hx_51 hR_51 (.c (.c (.c (.c (.c (.c (.c (.c (.c .n))))))))) ?_
 refine SQ.go idQ ?_
 refine .cond_f G ?_
 refine .skipgo idQ (.seq (.region (.f fo29_0 0 G G G G (.l ty3 12 G G G G G (.cons (st_mkbools (n := (n).toNat) G G G G underlying43 ai4 G G oO oO G (fun b62 => ?_)))))))
 refine .a G G G (.go idQ (.seq (.region (.a G G G (.go idQ (.seq (.seq (.region ?_))))))))
 refine .a G G G (.go idQ (.block (.loop (X := Int × Int × (List Bool)) (fun ⟨p, ct, s⟩ => 0 ≤ p ∧ p ≤ n ∧ ct = sumP (fun p_ => ((pkL R33 K34 U35 p_).length : Int) + (pkL R33 K34 D36 p_).length) p.toNat ∧ (s.length : Int) = n ∧ (∀ k_ : Int, 0 ≤ k_ → gt s k_ = true → ∃ q : Int, 0 ≤ q ∧ q < p ∧ gt R33 q = k_)) (fun ⟨p, ct, s⟩ => [(7, .pointer (some ⟨b15, 0, none⟩)), (9, .pointer (some ⟨lb28, 0, none⟩)), (10, .slice (some ⟨b62, 0, none⟩) ((n).toNat) ((n).toNat)), (12, .int .i64 p), (11, .int .i64 ct)]) (fun ⟨p, ct, s⟩ => [rw_ eB 4 (.slice (some ⟨b62, 0, none⟩) ((n).toNat) ((n).toNat)) s, cel lb28 [.slice A39 R33.length c40, .slice A42 K34.length c43, .slice A45 U35.length c46, .slice A48 D36.length c49] 68, rw_ eZ 3 (.slice A39 R33.length c40) R33, rw_ eLK 37 (.slice A42 K34.length c43) K34, rw_ eIL 27 (.slice A45 U35.length c46) U35, rw_ eIL 27 (.slice A48 D36.length c49) D36, nestIL 3 U35, nestIL 3 D36, rw_ eLK 37 (.slice A59 ((pkL R33 K34 D36 n).length) c60) (pkL R33 K34 D36 n), rw_ eLK 37 (.slice A54 ((pkL R33 K34 U35 (-1)).length) c55) (pkL R33 K34 U35 (-1)), cel b2 [.slice A22 fi5.length c23, .slice A25 ed6.length c26] 83, rw_ eZ 3 (.slice A22 fi5.length c23) fi5, rw_ eEG 64 (.slice A25 ed6.length c26) ed6, cel b15 [.int .i64 n, .slice A19 W9.length c20] 29, cel b14 [.int .i64 n, .slice A16 ((tabF n true l).length) c17] 29, rw_ eZ 3 (.slice A16 ((tabF n true l).length) c17) (tabF n true l), rw_ eZ 3 (.slice A19 W9.length c20) W9, cel b1 [.int .i64 n, .slice A l.length c] 24]) (fun _ => S) (fun _ => wf) (fun ⟨p, ct, s⟩ => (n - p).toNat) (fun a_ w_ hs_ hw_ => ⟨⟨0, 0, (List.replicate ((n).toNat) false)⟩, (by (try dsimp only); exact ⟨oO, oO, G, (by rw [List.length_replicate]; omega), (fun k_ _ => seen_0 k_)⟩), hs_.mono (Sub.get (.c4 G G G G (.c G .n))), hw_.keep (.d (.d (.d (.d (.d (.d (.d (.d (.d .n)))))))))⟩) (fun ⟨p, ct, s⟩ ⟨q_0, q_1, q_2, q_3, q_4⟩ => ?_))))
 try dsimp only
 have hcb := cnt_bd hL q_2 oO
 refine .seq (.seq (.region (.m G G G (.f fo29_0 0 G G G G (.l ty3 13 G G G G G ?_)))))
 refine .e G G G G G (.go idQ (.condI G bD (fun h63 => ?_) (fun h63 => ?_)))
 ·
  refine .skipgo idQ (.seq (.block (.seq ?_)))
  have hpu := pk_len hL p
  refine .region (.m G G G (.m G G G (.cons (st_callk G G G G hbd12 G (.c (.t .h) (.c (.t .h) (.c (.t .h) (.c (.t .h) (.c (.t .h) (.c (.t .h) (.c (.t .h) .n))))))) (lrk_ lb28 A39 c40 R33 A42 c43 K34 A45 c46 U35 A48 c49 D36 p _ _) ?_))))
  refine .a G G G (.go idQ (.seq (.seq ?_)))
  have hrk := rkAt_in (R := R33) (p := p) oO oO
  have hrg := hF.rng p oO oO
  have hsn : ¬ gt s (rkAt R33 p) = true := fun h_ => by obtain ⟨q_, a_, b_, c_⟩ := q_4 _ oO h_; have e_ := hF.inj q_ p a_ oO oO oO oO; omega
  refine .region (.m G G G (.e G G G G G (.m G G G ?_)))
  refine .w (fun _ => ev_mv G G) G (.w (fun _ => ev_fa G fo29_0 G (r := 0) G) G (.w (fun hb => ev_ld1 G ty3 (lkg G hb) (At.own1 13 G G)) G (.w (fun hb => ev_cmp G (lkg G hb) (lkg G hb) G) G ?_)))
  refine .r G G G G G (.m G G G (.w (fun _ => ev_mv G G) G (.w (fun _ => ev_mv G G) G ?_)))
  refine .w (fun hb => have hp := bF (bO bD bD) hb; ev_ix G underlying43 ty4 (lkg G hb) (lkg G hb) (by have _h := hp; omega) (by have _h := hp; omega) (fun _ _ => G)) G (.w (fun hb => have hp := bF (bO bD bD) hb; ev_ld1 G ty4 (lkg G hb) (At.elem1 (row_el (E := eB) (l := s) (i := (rkAt R33 p)) 0 G (by have _h := hp; omega) (by have _h := hp; omega)) 0 G)) G (.r G G G G G (.go idQ ?_)))
  refine .condI G (bO (bO bD bD) bV) (fun h64 => ?_) (fun h64 => ?_)
  ·
   exfalso; first | omega | exact Or.elim (by assumption) (fun h_ => by omega) hsn
  refine .skipgo idQ (.seq (.region (.m G G G (.m G G G (.v (ev_ix G underlying43 ty4 G G oO oO (fun _ _ => G)) G ?_)))))
  refine .cons (st_setel (E := eB) (i := (rkAt R33 p)) (cs := [.bool true]) (off := 0) true G G G ty4 G G G G G .h lO lO (Nat.le_of_ble_eq_true G) G ?_)
  refine .go idQ (.seq (.seq (.region (.m G G G (.m G G G (.cons (st_call0 G G G G hbd14 G (.c (.t .h) (.c (.t .h) (.c (.t .h) (.c (.t .h) (.c (.t .h) (.c (.t .h) (.c (.t .h) .n))))))) (lup_ lb28 A39 c40 R33 A42 c43 K34 A45 c46 U35 A48 c49 D36 p _ _ hL) (fun v_q66 C_q66 q66 => ?_))))))))
  obtain ⟨u65, rfl, rfl⟩ := q66
  show SP _ _ _ _ _ _ ⟨_, _ :: _ :: _ :: _ :: _ :: _ :: _ :: _ :: _, _, _⟩
  refine .know (row_len 7 G) (fun hv69 => ?_)
  obtain ⟨A67, c68, rfl, hv69_1, hv69_2⟩ := hv69
  unfold maxLen at hv69_2
  refine .g underlying34 G G G (.m G G G (.go idQ (.block (.loop (X := Int × Int) (fun ⟨i, ct1⟩ => 0 ≤ i ∧ i ≤ ((pkL R33 K34 U35 p).length : Int) ∧ ct1 = ct + i) (fun ⟨i, ct1⟩ => [(7, .pointer (some ⟨b15, 0, none⟩)), (9, .pointer (some ⟨lb28, 0, none⟩)), (10, .slice (some ⟨b62, 0, none⟩) ((n).toNat) ((n).toNat)), (12, .int .i64 p), (13, .int .i64 (rkAt R33 p)), (94, .slice A67 ((pkL R33 K34 U35 p).length) c68), (95, .int .i64 (((pkL R33 K34 U35 p).length : Nat) : Int)), (96, .int .i64 i), (11, .int .i64 ct1)]) (fun ⟨i, ct1⟩ => [cel lb28 [.slice A39 R33.length c40, .slice A42 K34.length c43, .slice A45 U35.length c46, .slice A48 D36.length c49] 68, rw_ eZ 3 (.slice A39 R33.length c40) R33, rw_ eLK 37 (.slice A42 K34.length c43) K34, rw_ eIL 27 (.slice A45 U35.length c46) U35, rw_ eIL 27 (.slice A48 D36.length c49) D36, nestIL 3 U35, nestIL 3 D36, rw_ eLK 37 (.slice A67 ((pkL R33 K34 U35 p).length) c68) (pkL R33 K34 U35 p), rw_ eB 4 (.slice (some ⟨b62, 0, none⟩) ((n).toNat) ((n).toNat)) (s.set ((rkAt R33 p)).toNat true), rw_ eLK 37 (.slice A59 ((pkL R33 K34 D36 n).length) c60) (pkL R33 K34 D36 n), rw_ eLK 37 (.slice A54 ((pkL R33 K34 U35 (-1)).length) c55) (pkL R33 K34 U35 (-1)), cel b2 [.slice A22 fi5.length c23, .slice A25 ed6.length c26] 83, rw_ eZ 3 (.slice A22 fi5.length c23) fi5, rw_ eEG 64 (.slice A25 ed6.length c26) ed6, cel b15 [.int .i64 n, .slice A19 W9.length c20] 29, cel b14 [.int .i64 n, .slice A16 ((tabF n true l).length) c17] 29, rw_ eZ 3 (.slice A16 ((tabF n true l).length) c17) (tabF n true l), rw_ eZ 3 (.slice A19 W9.length c20) W9, cel b1 [.int .i64 n, .slice A l.length c] 24]) (fun _ => S) (fun _ => wf) (fun ⟨i, ct1⟩ => (((pkL R33 K34 U35 p).length : Int) - i).toNat) (fun a_ w_ hs_ hw_ => ⟨⟨0, ct⟩, (by (try dsimp only); exact ⟨oO, oO, oO⟩), hs_.mono (Sub.get (.c4 G G G G (.c4 G G G G (.c G .n)))), hw_.keep (.d (.d (.d (.d (.d (.d (.d (.d (.d (.c .h .n))))))))))⟩) (fun ⟨i, ct1⟩ ⟨r_0, r_1, r_2⟩ => ?_)))))
  try dsimp only
  refine .seq (.region (.e G G G G G (.go idQ (.seq (.condI G bD (fun h70 => ?_) (fun h70 => ?_))))))
  ·
   refine .skipgo idQ (.seq (.block (.seq (.region (.v (ev_ix G underlying34 ty37 G G oO oO (row_adr (i := i) 7 G oO lO)) G (.v (ev_lda G G (row_el (E := eLK) (l := (pkL R33 K34 U35 p)) (i := i) 7 G oO lO) ty37) G (.cons (st_alloc G G G G zf37 (fun b71 => ?_)))))))))
   refine .cons (st_storea (l' := [.int .i64 ((gt (pkL R33 K34 U35 p) i).lf), .int .i64 ((gt (pkL R33 K34 U35 p) i).lt), .int .i64 ((gt (pkL R33 K34 U35 p) i).lw), .int .i64 ((gt (pkL R33 K34 U35 p) i).lm)]) G G G ty37 G G G .h G G ?_)
   refine .go idQ (.seq (.seq ?_))
   have hux := hF.up p oO oO _ (gtM (l := pkL R33 K34 U35 p) (i := i) oO oO)
   refine .region (.f fo37_0 0 G G G G (.l ty3 0 G G G G G (.m G G G ?_)))
   refine .e G G G G G (.m G G G (.w (fun _ => ev_mv G G) G (.w (fun _ => ev_fa G fo37_1 G (r := 1) G) G ?_)))
   refine .w (fun hb => ev_ld1 G ty3 (lkg G hb) (At.own1 0 G G)) G (.cons (st_gcallk G G G G G G hbd12 (fun hb => (lkA1 (lkg G hb) (lkA1 (lkg G hb) lkA0))) (.c (.t .h) (.c (.t .h) (.c (.t .h) (.c (.t .h) (.c (.t .h) (.c (.t .h) (.c (.t .h) .n))))))) (fun hb => have hp := bF bNE hb; lrk_ lb28 A39 c40 R33 A42 c43 K34 A45 c46 U35 A48 c49 D36 ((gt (pkL R33 K34 U35 p) i).lt) _ _) (.w (fun _ => ev_mv G G) G (.w (fun hb => ev_cmp G (lkg G hb) (lkg G hb) G) G ?_))))
   refine .r G G G G G (.go idQ (.condI G (bO bNE bD) (fun h72 => ?_) (fun h72 => ?_)))
   ·
    exfalso; first | omega | exact Or.elim (by assumption) (fun h_ => by omega) hsn
   refine .skipgo idQ (.region (.m G G G (.p ((ct1 + 1)) oO oO G G G G G (.a G G G ?_))))
   refine .go idQ (.region (.p ((i + 1)) oO oO G G G G G (.m G G G ?_)))
   exact SP.nil (SQ.roundb (X := Int × Int) (x := (i, ct1)) ⟨(i + 1), (ct1 + 1)⟩ (by (try dsimp only); exact ⟨oO, oO, oO⟩) dO (Sub.get (.c4 G G G G (.c4 G G G G (.c G .n)))) (kp (.c (.t .h) (.c (.t .h) (.c (.t .h) (.c (.t .h) (.c (.t .h) (.c (.t .h) (.c (.t .h) (.c (.t .h) (.c (.t .h) (.c (.t .h) (.c (.t .h) (.c (.t .h) (.c (.t .h) (.c (.t .h) (.c (.t .h) (.c (.t .h) (.c (.t .h) (.c (.t .h) (.c (.t .h) .n)))))))))))))))))))))
  refine .exit idQ ?_
  refine .seq (.region (.m G G G (.m G G G (.cons (st_call0 G G G G hbd15 G (.d (.d (.d (.c .h .n)))) (ldown_ lb28 A39 c40 R33 A42 c43 K34 A45 c46 U35 A48 c49 D36 p _ _ hL) (fun v_q74 C_q74 q74 => ?_))))))
  obtain ⟨u73, rfl, rfl⟩ := q74
  show SP _ _ _ _ _ _ ⟨_, _ :: _ :: _ :: _ :: _ :: _ :: _ :: _ :: _, _, _⟩
  refine .know (row_len 7 G) (fun hv77 => ?_)
  obtain ⟨A75, c76, rfl, hv77_1, hv77_2⟩ := hv77
  unfold maxLen at hv77_2
  refine .g underlying34 G G G (.m G G G (.go idQ (.block (.loop (X := Int × Int) (fun ⟨j, ct2⟩ => 0 ≤ j ∧ j ≤ ((pkL R33 K34 D36 p).length : Int) ∧ ct2 = ct1 + j) (fun ⟨j, ct2⟩ => [(7, .pointer (some ⟨b15, 0, none⟩)), (9, .pointer (some ⟨lb28, 0, none⟩)), (10, .slice (some ⟨b62, 0, none⟩) ((n).toNat) ((n).toNat)), (12, .int .i64 p), (13, .int .i64 (rkAt R33 p)), (94, .slice A67 ((pkL R33 K34 U35 p).length) c68), (95, .int .i64 (((pkL R33 K34 U35 p).length : Nat) : Int)), (96, .int .i64 i), (117, .slice A75 ((pkL R33 K34 D36 p).length) c76), (118, .int .i64 (((pkL R33 K34 D36 p).length : Nat) : Int)), (119, .int .i64 j), (11, .int .i64 ct2)]) (fun ⟨j, ct2⟩ => [cel lb28 [.slice A39 R33.length c40, .slice A42 K34.length c43, .slice A45 U35.length c46, .slice A48 D36.length c49] 68, rw_ eZ 3 (.slice A39 R33.length c40) R33, rw_ eLK 37 (.slice A42 K34.length c43) K34, rw_ eIL 27 (.slice A45 U35.length c46) U35, rw_ eIL 27 (.slice A48 D36.length c49) D36, nestIL 3 U35, nestIL 3 D36, rw_ eLK 37 (.slice A75 ((pkL R33 K34 D36 p).length) c76) (pkL R33 K34 D36 p), rw_ eLK 37 (.slice A67 ((pkL R33 K34 U35 p).length) c68) (pkL R33 K34 U35 p), rw_ eB 4 (.slice (some ⟨b62, 0, none⟩) ((n).toNat) ((n).toNat)) (s.set ((rkAt R33 p)).toNat true), rw_ eLK 37 (.slice A59 ((pkL R33 K34 D36 n).length) c60) (pkL R33 K34 D36 n), rw_ eLK 37 (.slice A54 ((pkL R33 K34 U35 (-1)).length) c55) (pkL R33 K34 U35 (-1)), cel b2 [.slice A22 fi5.length c23, .slice A25 ed6.length c26] 83, rw_ eZ 3 (.slice A22 fi5.length c23) fi5, rw_ eEG 64 (.slice A25 ed6.length c26) ed6, cel b15 [.int .i64 n, .slice A19 W9.length c20] 29, cel b14 [.int .i64 n, .slice A16 ((tabF n true l).length) c17] 29, rw_ eZ 3 (.slice A16 ((tabF n true l).length) c17) (tabF n true l), rw_ eZ 3 (.slice A19 W9.length c20) W9, cel b1 [.int .i64 n, .slice A l.length c] 24]) (fun _ => S) (fun _ => wf) (fun ⟨j, ct2⟩ => (((pkL R33 K34 D36 p).length : Int) - j).toNat) (fun a_ w_ hs_ hw_ => ⟨⟨0, ct1⟩, (by (try dsimp only); exact ⟨oO, oO, oO⟩), hs_.mono (Sub.get (.c4 G G G G (.c4 G G G G (.c4 G G G G .n)))), hw_.keep (.d (.d (.d (.d (.d (.d (.d (.d (.d (.d .n))))))))))⟩) (fun ⟨j, ct2⟩ ⟨s_0, s_1, s_2⟩ => ?_)))))
  try dsimp only
  refine .seq (.region (.e G G G G G (.go idQ (.seq (.condI G bD (fun h78 => ?_) (fun h78 => ?_))))))
  ·
   refine .skipgo idQ (.seq (.block (.seq (.region (.v (ev_ix G underlying34 ty37 G G oO oO (row_adr (i := j) 7 G oO lO)) G (.v (ev_lda G G (row_el (E := eLK) (l := (pkL R33 K34 D36 p)) (i := j) 7 G oO lO) ty37) G (.cons (st_alloc G G G G zf37 (fun b79 => ?_)))))))))
   refine .cons (st_storea (l' := [.int .i64 ((gt (pkL R33 K34 D36 p) j).lf), .int .i64 ((gt (pkL R33 K34 D36 p) j).lt), .int .i64 ((gt (pkL R33 K34 D36 p) j).lw), .int .i64 ((gt (pkL R33 K34 D36 p) j).lm)]) G G G ty37 G G G .h G G ?_)
   refine .go idQ (.seq (.seq ?_))
   have hux := hF.dn p oO oO _ (gtM (l := pkL R33 K34 D36 p) (i := j) oO oO)
   refine .region (.f fo37_1 1 G G G G (.l ty3 0 G G G G G (.m G G G ?_)))
   refine .e G G G G G (.m G G G (.w (fun _ => ev_mv G G) G (.w (fun _ => ev_fa G fo37_0 G (r := 0) G) G ?_)))
   refine .w (fun hb => ev_ld1 G ty3 (lkg G hb) (At.own1 0 G G)) G (.cons (st_gcallk G G G G G G hbd12 (fun hb => (lkA1 (lkg G hb) (lkA1 (lkg G hb) lkA0))) (.c (.t .h) (.c (.t .h) (.c (.t .h) (.c (.t .h) (.c (.t .h) (.c (.t .h) (.c (.t .h) .n))))))) (fun hb => have hp := bF bNE hb; lrk_ lb28 A39 c40 R33 A42 c43 K34 A45 c46 U35 A48 c49 D36 ((gt (pkL R33 K34 D36 p) j).lf) _ _) (.w (fun _ => ev_mv G G) G (.w (fun hb => ev_cmp G (lkg G hb) (lkg G hb) G) G ?_))))
   refine .r G G G G G (.go idQ (.condI G (bO bNE bD) (fun h80 => ?_) (fun h80 => ?_)))
   ·
    exfalso; first | omega | exact Or.elim (by assumption) (fun h_ => by omega) hsn
   refine .skipgo idQ (.region (.m G G G (.p ((ct2 + 1)) oO oO G G G G G (.a G G G ?_))))
   refine .go idQ (.region (.p ((j + 1)) oO oO G G G G G (.m G G G ?_)))
   exact SP.nil (SQ.roundb (X := Int × Int) (x := (j, ct2)) ⟨(j + 1), (ct2 + 1)⟩ (by (try dsimp only); exact ⟨oO, oO, oO⟩) dO (Sub.get (.c4 G G G G (.c4 G G G G (.c4 G G G G .n)))) (kp (.c (.t .h) (.c (.t .h) (.c (.t .h) (.c (.t .h) (.c (.t .h) (.c (.t .h) (.c (.t .h) (.c (.t .h) (.c (.t .h) (.c (.t .h) (.c (.t .h) (.c (.t .h) (.c (.t .h) (.c (.t .h) (.c (.t .h) (.c (.t .h) (.c (.t .h) (.c (.t .h) (.c (.t .h) (.c (.t .h) .n))))))))))))))))))))))
  refine .exit idQ ?_
  refine .region (.m G G G (.p ((p + 1)) oO oO G G G G G (.a G G G ?_)))
  exact SP.nil (SQ.roundb (X := Int × Int × (List Bool)) (x := (p, ct, s)) ⟨(p + 1), ct2, (s.set ((rkAt R33 p)).toNat true)⟩ (by (try dsimp only); exact ⟨oO, oO, (by have h_ := sumP_next (f := (fun p_ => ((pkL R33 K34 U35 p_).length : Int) + (pkL R33 K34 D36 p_).length)) q_2 q_0; rw [← h_]; show _ = ct + (_ + _); omega), (by rw [List.length_set]; exact q_3), (seen_next q_4 q_0 hrk oO)⟩) dO (Sub.get (.c4 G G G G (.c G .n))) (kp (.c (.t4 (.t4 (.t .h))) (.d (.d (.d (.c .h (.c (.t2 .h) (.c (.t2 .h) (.c (.t2 .h) (.c (.t2 .h) (.c (.t2 .h) (.c (.t2 .h) (.c (.t2 .h) (.c (.t2 .h) (.c (.t2 .h) (.c (.t2 .h) .n)))))))))))))))))
 refine .exit idQ ?_
 refine .seq (.region (.m G G G (.m G G G (.cons (st_call0 G G G G hbd11 G (.c (.t .h) (.c (.t .h) (.c (.t .h) (.c (.t .h) (.c (.t .h) (.c (.t .h) (.c (.t .h) .n))))))) (lks_ lb28 A39 c40 R33 A42 c43 K34 A45 c46 U35 A48 c49 D36 _ _ oO) (fun v_q82 C_q82 q82 => ?_))))))
 obtain ⟨u81, rfl, rfl⟩ := q82
 show SP _ _ _ _ _ _ ⟨_, _ :: _ :: _ :: _ :: _ :: _ :: _ :: _ :: _, _, _⟩
 refine .know (row_len 7 G) (fun hv85 => ?_)
 obtain ⟨A83, c84, rfl, hv85_1, hv85_2⟩ := hv85
 unfold maxLen at hv85_2
 refine .g underlying34 G G G (.e G G G G G (.a G G G (.go idQ ?_)))
 exact .ret idQ (ret1 results4 G .n ⟨(congrArg Value.bool (beq_iff_eq.2 (by have h_ := hF.cnt; rw [q_2, show p = n from by omega]; exact h_))), G⟩)
theorem liftRanksBadT (n : Int) (A : Option Addr) (c : Nat) (l : List AR) (S : Nat → Prop) (wf : World) (hA : Fr eAR S wf A l) (hR : ¬ RoadOk n l) :
  TR0 prog 4 [.agg #[.int .i64 n, .slice A l.length c], .bool true] [] S wf (fun v_ C_ => v_ = .bool true ∧ C_ = []) := by
 have hla := hA.len
 refine TR.mk func4 G ntmps4 G G (fun w_ => ?_)
 refine .seq (.region (.cons (st_boxa G G G G G (fun b1 => (.a G G G (.go idQ (.seq (.seq (.region ?_)))))))))
 refine .cons (st_callk G G G G hbd8 G .n (awake7_ _ _) ?_)
 refine .v (ev_not G G) G (.go idQ (.cond_f G (.skipgo idQ (.seq (.region ?_)))))
 refine .d 0 ty24 G G G G (.m G G G (.cons (st_callk G G G G hbd9 G .n (graphbadT n A c l _ _ hA hR) (.m G G G ?_))))
 refine .x G G G G (.x G G G G (.x G G G G (.x G G G G ?_)))
 refine .cons (st_alloc G G G G zf29 (fun b2 => ?_))
 refine .cons (st_alloc G G G G zf29 (fun b3 => ?_))
 refine .a G G G (.cons (st_storea (l' := [.int .i64 0, .slice none 0 0]) G G G ty29 G G G (.t .h) G G (.cons (st_storea (l' := [.int .i64 0, .slice none 0 0]) G G G ty29 G G G (.t .h) G G (.a G G G ?_)))))
 refine .go idQ (.seq (.seq (.region (.m G G G (.v (ev_not G G) G (.go idQ ?_))))))
 refine .cond_t G ?_
 refine .seq (.region (.a G G G (.go idQ (.ret idQ (ret1 results4 G .n ⟨G, G⟩)))))
end Go.Proofs.Ytlefdinbbjiabaa.Sx
namespace Go.Proofs.Ytlefdinbbjiabaa.Sx
open Go Go.SX Go.Proofs Go.Proofs.Try
theorem liftRanks_ (n : Int) (A : Option Addr) (c : Nat) (l : List AR) (d : Bool) (S : Nat → Prop) (wf : World) (hA : Fr eAR S wf A l) : TR0 prog 4 [.agg #[.int .i64 n, .slice A l.length c], .bool d] [] S wf (fun v C => v = .bool true ∧ C = []) :=
 (Classical.em (RoadOk n l)).elim (fun h => match d with | false => liftRanksF n A c l S wf hA h | true => liftRanksT n A c l S wf hA h) (fun h => match d with | false => liftRanksBadF n A c l S wf hA h | true => liftRanksBadT n A c l S wf hA h)
end Go.Proofs.Ytlefdinbbjiabaa.Sx
namespace Go.SX
open Go Go.RowKit
def TellsW (P : Program) (w : World) (e : TypeId) {α : Type} (E : Enc α) (good : α → Prop) : Prop :=
  ∀ {H : Type} (enc : TypeId × Value → H) (base : Nat) (spare : Nat → Bool) (held : Bool) (n : Nat) (cs : List Value) (y : DataW H × List MemPlace), DataW.trod enc P w base spare held n e cs = some y → (∀ b ∈ y.1.weights P e, b ≤ reachBytes) → ∃ a, cs = E.enc a ∧ good a
section
variable {H : Type} {enc : TypeId × Value → H} {P : Program} {w : World} {base : Nat} {spare : Nat → Bool} {held : Bool}
theorem weightsAll_mem {e : TypeId} {d : DataW H} {b : Nat} : ∀ {l : List (DataW H)}, d ∈ l → b ∈ d.weights P e → b ∈ DataW.weightsAll P e l
  | [], h, _ => by cases h
  | x :: r, h, hb => by
    unfold DataW.weightsAll
    rcases List.mem_cons.1 h with rfl | h
    · exact List.mem_append_left _ hb
    · exact List.mem_append_right _ (weightsAll_mem h hb)
theorem rows_w {α : Type} [Inhabited α] {E : Enc α} {good : α → Prop} {t e : TypeId} {fuel : Nat} {cs : List Value} {x : DataW H × List MemPlace} (ht : P.underlying t = some (.slice e)) (he : P.cellsOf e = E.sz) (hT : TellsW P w e E good) (hbo : 1 ≤ P.bytesOf e)
    (h : DataW.trod enc P w base spare held fuel t cs = some x) (hw : ∀ b ∈ x.1.weights P t, b ≤ reachBytes) :
    ∃ A l cap, cs = [.slice A l.length cap] ∧ Fr E (fun b => b < w.heap.size) w A l ∧ ∀ y ∈ l, good y := by
  rcases DataW.trod_slice ht h with h0 | ⟨a, len, cap, elems, rest, n, hx1, rfl, rfl, hb, hl, hm, hlen, hel, hsp, hns⟩
  · exact ⟨none, [], 0, h0.1, Fr.nil _ _ _ _, by simp⟩
  have hw2 : ∀ b ∈ DataW.weights P t (.slice (elems.map (·.1)) (rest.map (·.1))), b ≤ reachBytes := hw
  have each : ∀ i, i < len → ∃ x : α, good x ∧ w.cells? base (a.add (i * E.sz)) E.sz = some (E.enc x) := by
    intro i hi
    have h1 := hel i hi
    have h2 : elems[i]? = some (elems[i]'(by omega)) := List.getElem?_eq_getElem (by omega)
    rw [h2, he, Option.bind_eq_some_iff] at h1
    obtain ⟨cs', h3, h4⟩ := h1
    obtain ⟨x, rfl, hg⟩ := hT enc base spare held n cs' _ h4 (fun b hb => hw2 b (by
      unfold DataW.weights
      rw [ht]
      exact List.mem_cons_of_mem _ (List.mem_append_left _ (weightsAll_mem (List.mem_map_of_mem (List.getElem_mem (by omega))) hb))))
    exact ⟨x, hg, h3⟩
  let f : Nat → α := fun i => if hi : i < len then (each i hi).choose else default
  have hf : ∀ i (hi : i < len), f i = (each i hi).choose := fun i hi => dif_pos hi
  have hbig : len ≤ 140737488355328 := by
    have h1 := hw2 ((elems.map (·.1)).length + (rest.map (·.1)).length |>.mul (P.bytesOf e)) (by unfold DataW.weights; rw [ht]; exact List.mem_cons_self ..)
    have h11 : elems.length * 1 ≤ ((elems.map (·.1)).length + (rest.map (·.1)).length) * P.bytesOf e := Nat.mul_le_mul (by simp) hbo
    have h12 : reachBytes < 2 ^ 47 := reachBytes_lt
    have h13 : ((elems.map (·.1)).length + (rest.map (·.1)).length) * P.bytesOf e ≤ reachBytes := h1
    omega
  have hgood : ∀ x ∈ (List.range len).map f, good x := by
    intro x hx
    obtain ⟨i, hi, rfl⟩ := List.mem_map.1 hx
    have hlt : i < len := by simpa using hi
    rw [hf i hlt]
    exact (each i hlt).choose_spec.1
  refine ⟨some a, (List.range len).map f, cap, by simp, ⟨by simpa using hbig, ?_⟩, hgood⟩
  rcases Nat.eq_zero_or_pos len with h0 | h0
  · subst h0; exact .inl (by simp)
  have hat : ∀ i, i < len → ∀ j u, (E.enc (f i))[j]? = some u → w.cell? (a.add (i * E.sz + j)) = some u := by
    intro i hi j u hj
    obtain ⟨_, h1, h2⟩ := World.cells?_some (each i hi).choose_spec.2
    rw [← hf i hi] at h1 h2
    have hjs : j < E.sz := by have := (List.getElem?_eq_some_iff.1 hj).1; omega
    rw [← add_zero_add, h2 j hjs, hj]
  have hpos := E.pos
  have hspot : a.spot = none := by
    have h1 : (E.enc (f 0)).length = E.sz := E.len _
    have h2 := hat 0 h0 0 ((E.enc (f 0))[0]'(by omega)) (List.getElem?_eq_getElem (by omega))
    have h3 := World.cell?_spot h2
    simpa [Addr.add] using h3
  obtain ⟨b, off, spot⟩ := a
  simp only at hspot
  subst hspot
  have hall : ∀ i x, ((List.range len).map f)[i]? = some x → At w b (off + i * E.sz) (E.enc x) := fun i x hx j u hu => by
    simp only [List.getElem?_map, Option.map_eq_some_iff] at hx
    obtain ⟨i', hi', rfl⟩ := hx
    have hi2 := List.getElem?_eq_some_iff.1 hi'
    obtain ⟨hlt, heq⟩ := hi2
    simp at heq hlt
    subst heq
    have := hat i hlt j u hu
    rw [show off + i * E.sz + j = off + (i * E.sz + j) from by omega]
    have e1 : (⟨b, off, none⟩ : Addr).add (i * E.sz + j) = ⟨b, off + (i * E.sz + j), none⟩ := by
      unfold Addr.add
      split
      · rename_i h0; rw [h0]; rfl
      · rfl
    rwa [e1] at this
  refine .inr ⟨b, off, rfl, ?_, hall⟩
  have hx := hall 0 (f 0) (by simp [h0])
  have hl1 := E.len (f 0)
  have := hx 0 ((E.enc (f 0))[0]'(by omega)) (List.getElem?_eq_getElem (by omega))
  unfold World.cell? at this
  cases hb1 : w.heap[b]? with
  | none => simp only [hb1] at this; cases this
  | some o => exact lt_of_some hb1
theorem struct_w {t : TypeId} {fuel : Nat} {cs : List Value} {x : DataW H × List MemPlace} {fs : Array Field} (ht : P.underlying t = some (.struct fs)) (h : DataW.trod enc P w base spare held fuel t cs = some x) (hw : ∀ b ∈ x.1.weights P t, b ≤ reachBytes) :
    ∃ n, cs.length = P.cellsOf t ∧ ∀ (i : Nat) (f : Field), fs[i]? = some f → ∃ y : DataW H × List MemPlace, DataW.trod enc P w base spare held n f.type ((cs.drop f.offset).take (P.cellsOf f.type)) = some y ∧ ∀ b ∈ y.1.weights P f.type, b ≤ reachBytes := by
  obtain ⟨xs, n, _, rfl, hl, hx, hf⟩ := DataW.trod_struct ht h
  refine ⟨n, hl, fun i f hi => ?_⟩
  have h1 := hf i f hi
  have hlt : i < fs.size := (Array.getElem?_eq_some_iff.1 hi).1
  rw [List.getElem?_eq_getElem (by omega)] at h1
  refine ⟨xs[i]'(by omega), h1, fun b hb => hw b ?_⟩
  show b ∈ DataW.weights P t (.agg (xs.map (·.1)))
  unfold DataW.weights
  rw [ht]
  exact DataW.weights_mem_each (j := i) (d := (xs[i]'(by omega)).1) (by simp [hi]) (by simp [List.getElem?_eq_getElem (show i < xs.length by omega)]) b hb
end
end Go.SX
set_option maxRecDepth 20000
namespace Go.Proofs.Ytlefdinbbjiabaa.Sx
open Go Go.SX Go.Proofs Go.Proofs.Try
theorem cO24 : prog.cellsOf 24 = 2 := by kernel_rfl
theorem cO47 : prog.cellsOf 47 = 4 := by kernel_rfl
theorem cO22 : prog.cellsOf 22 = 1 := by kernel_rfl
theorem cO3 : prog.cellsOf 3 = 1 := by kernel_rfl
structure RDA where
 n : Int
 A : Option Addr
 c : Nat
 l : List AR
def eRDA : Enc RDA where
 sz := 2
 enc x := [.int .i64 x.n, .slice x.A x.l.length x.c]
 len _ := rfl
 one x u hu := by simp at hu; rcases hu with rfl | rfl <;> rfl
 pos := by decide
section
variable {w : World}
theorem tw47 : TellsW prog w 47 eAR (fun _ => True) := by
 intro H enc base spare held n cs y h hw
 obtain ⟨k, hl, hf⟩ := struct_w underlying47 h hw
 rw [cO47] at hl
 match cs, hl with
 | [v0, v1, v2, v3], _ =>
  obtain ⟨y0, h0, w0⟩ := hf 0 _ rfl
  replace h0 : DataW.trod enc prog w base spare held k 3 (([v0, v1, v2, v3].drop 0).take (prog.cellsOf 3)) = some y0 := h0
  rw [cO3] at h0
  replace h0 : DataW.trod enc prog w base spare held k 3 [v0] = some y0 := h0
  obtain ⟨y1, h1, w1⟩ := hf 1 _ rfl
  replace h1 : DataW.trod enc prog w base spare held k 3 (([v0, v1, v2, v3].drop 1).take (prog.cellsOf 3)) = some y1 := h1
  rw [cO3] at h1
  replace h1 : DataW.trod enc prog w base spare held k 3 [v1] = some y1 := h1
  obtain ⟨y2, h2, w2⟩ := hf 2 _ rfl
  replace h2 : DataW.trod enc prog w base spare held k 3 (([v0, v1, v2, v3].drop 2).take (prog.cellsOf 3)) = some y2 := h2
  rw [cO3] at h2
  replace h2 : DataW.trod enc prog w base spare held k 3 [v2] = some y2 := h2
  obtain ⟨y3, h3, w3⟩ := hf 3 _ rfl
  replace h3 : DataW.trod enc prog w base spare held k 3 (([v0, v1, v2, v3].drop 3).take (prog.cellsOf 3)) = some y3 := h3
  rw [cO3] at h3
  replace h3 : DataW.trod enc prog w base spare held k 3 [v3] = some y3 := h3
  obtain ⟨m0, e0, _, _⟩ := DataW.trod_int underlying3 h0
  simp only [List.cons.injEq, and_true] at e0
  subst e0
  obtain ⟨m1, e1, _, _⟩ := DataW.trod_int underlying3 h1
  simp only [List.cons.injEq, and_true] at e1
  subst e1
  obtain ⟨m2, e2, _, _⟩ := DataW.trod_int underlying3 h2
  simp only [List.cons.injEq, and_true] at e2
  subst e2
  obtain ⟨m3, e3, _, _⟩ := DataW.trod_int underlying3 h3
  simp only [List.cons.injEq, and_true] at e3
  subst e3
  exact ⟨⟨m0, m1, m2, m3⟩, G, trivial⟩
theorem tw24 : TellsW prog w 24 eRDA (fun x => Fr eAR (fun b => b < w.heap.size) w x.A x.l) := by
 intro H enc base spare held n cs y h hw
 obtain ⟨k, hl, hf⟩ := struct_w underlying24 h hw
 rw [cO24] at hl
 match cs, hl with
 | [v0, v1], _ =>
  obtain ⟨y0, h0, w0⟩ := hf 0 _ rfl
  replace h0 : DataW.trod enc prog w base spare held k 3 (([v0, v1].drop 0).take (prog.cellsOf 3)) = some y0 := h0
  rw [cO3] at h0
  replace h0 : DataW.trod enc prog w base spare held k 3 [v0] = some y0 := h0
  obtain ⟨y1, h1, w1⟩ := hf 1 _ rfl
  replace h1 : DataW.trod enc prog w base spare held k 22 (([v0, v1].drop 1).take (prog.cellsOf 22)) = some y1 := h1
  rw [cO22] at h1
  replace h1 : DataW.trod enc prog w base spare held k 22 [v1] = some y1 := h1
  obtain ⟨m0, e0, _, _⟩ := DataW.trod_int underlying3 h0
  simp only [List.cons.injEq, and_true] at e0
  subst e0
  obtain ⟨LA, ll, lc, el, fr, _⟩ := rows_w (E := eAR) underlying22 cO47 tw47 (by decide +kernel) h1 w1
  simp only [List.cons.injEq, and_true] at el
  subst el
  exact ⟨⟨m0, LA, lc, ll⟩, G, fr⟩
end
end Go.Proofs.Ytlefdinbbjiabaa.Sx
