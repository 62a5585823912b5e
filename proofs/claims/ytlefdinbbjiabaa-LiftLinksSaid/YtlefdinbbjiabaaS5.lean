import Derived.Test.YtlefdinbbjiabaaProg
import Derived.Test.YtlefdinbbjiabaaS4
set_option linter.unusedVariables false
set_option linter.unusedSimpArgs false
set_option linter.unusedSectionVars false
set_option maxRecDepth 20000
set_option maxHeartbeats 1000000
namespace Go.Proofs.Ytlefdinbbjiabaa.Sx.FN
open Go Go.SX Go.Proofs Go.Proofs.Try FA FB FC FD FE FF FG FH FI FJ FK FL FM
theorem fo59_1 : fo prog 59 1 = some 1 := by kernel_rfl
theorem hbd53 : hasBody prog 53 = true := by kernel_rfl
theorem hbd54 : hasBody prog 54 = true := by kernel_rfl
theorem hbd45 : hasBody prog 45 = true := by kernel_rfl
end Go.Proofs.Ytlefdinbbjiabaa.Sx.FN
namespace Go.Proofs.Ytlefdinbbjiabaa.Sx
open Go Go.SX Go.Proofs Go.Proofs.Try FA FB FC FD FE FF FG FH FI FJ FK FL FM FN
theorem shct_ (n : Int) (wb : Nat) (oA : Option Addr) (on : Nat) (oc : Nat) (MO : List MB) (iA : Option Addr) (ik : Nat) (ic : Nat) (MI : List MB) (kA : Option Addr) (kn : Nat) (kc : Nat) (K : List LK) (gA : Option Addr) (gn : Nat) (gc : Nat) (g : List Bool) (p : Int) (S : Nat → Prop) (wf : World) (hO : Fr eMB S wf oA MO) (hI : Fr eMB S wf iA MI) (hK : Fr eLK S wf kA K) (hg : Fr eB S wf gA g) (hMO : MPF S wf MO) (hMI : MPF S wf MI) (hG : GOK n (GS.mk (mmL MO) (mmL MI) K g)) (hls : MO.length = on ∧ MI.length = ik ∧ K.length = kn ∧ g.length = gn) (hp : 0 ≤ p ∧ p < n) :
  TR0 prog 45 [.pointer (some ⟨wb, 0, none⟩), .int .i64 p] [cel wb [.slice oA on oc, .slice iA ik ic, .slice kA kn kc, .slice gA gn gc] 59] S wf (fun v_ C_ => ∃ (u : Value), v_ = u ∧ C_ = [cel wb [.slice oA on oc, .slice iA ik ic, .slice kA kn kc, .slice gA gn gc] 59, rw_ eLK 37 (u) (scG (GS.mk (mmL MO) (mmL MI) K g) p)]) := by
 have hGn := hG.n1
 have hGo : (MO.length : Int) = n := by rw [← mmL_len (l := MO)]; exact hG.lo
 have hGi : (MI.length : Int) = n := by rw [← mmL_len (l := MI)]; exact hG.li
 have hGg : (g.length : Int) = n := hG.lg
 have hKl := hK.len
 have hon := om_nd (p := p) hG
 have hin := im_nd (p := p) hG
 refine TR.mk func45 G ntmps45 G G (fun w_ => ?_)
 refine .seq (.region (.a G G G (.go idQ (.seq (.region (.a G G G ?_))))))
 refine .go idQ (.seq (.seq (.region (.m G G G (.v (ev_nil G G) G (.f fo59_1 1 G G G G ?_))))))
 refine .l ty57 0 G G G G G (.m G G G (.v (ev_ix G underlying57 ty60 G G oO oO (fun _ _ => Fr.adr (i := p) hI oO oO)) G (.v (ev_ld1 G ty60 G (At.elem1 (At.w (Fr.el (i := p) hI oO oO)) 0 G)) G ?_)))
 refine .cons (st_call0 G G G G hbd53 G .n (sorted_ ((gt MI p).mb) ((gt MI p).mm) _ _ (hMI p oO oO) hin.1 oO) (fun v_q2 C_q2 q2 => ?_))
 obtain ⟨u1, rfl, rfl⟩ := q2
 show SP _ _ _ _ _ _ ⟨_, _ :: _, _, _⟩
 refine .know (row_len 0 G) (fun hv5 => ?_)
 obtain ⟨A3, c4, rfl, hv5_1, hv5_2⟩ := hv5
 unfold maxLen at hv5_2
 refine .g underlying27 G G G (.m G G G (.go idQ (.block ?_)))
 refine SC.nilrow eLK 37 ?_
 refine .loop (X := Int × (List LK) × Value) (fun ⟨i, X, u_X⟩ => 0 ≤ i ∧ i ≤ ((srtK ((gt MI p).mm)).length : Int) ∧ X = ((srtK ((gt MI p).mm)).take i.toNat).flatMap (scF (GS.mk (mmL MO) (mmL MI) K g) p)) (fun ⟨i, X, u_X⟩ => [(0, .pointer (some ⟨wb, 0, none⟩)), (1, .int .i64 p), (4, .slice none 0 0), (21, .slice A3 ((srtK ((gt MI p).mm)).length) c4), (22, .int .i64 (((srtK ((gt MI p).mm)).length : Nat) : Int)), (23, .int .i64 i), (5, u_X)]) (fun ⟨i, X, u_X⟩ => [rw_ eLK 37 (u_X) X, rw_ eZ 3 (.slice A3 ((srtK ((gt MI p).mm)).length) c4) (srtK ((gt MI p).mm)), cel wb [.slice oA on oc, .slice iA ik ic, .slice kA kn kc, .slice gA gn gc] 59]) (fun _ => S) (fun _ => wf) (fun ⟨i, X, u_X⟩ => (((srtK ((gt MI p).mm)).length : Int) - i).toNat) (fun a_ w_ hs_ hw_ => ⟨⟨0, ([] : List LK), .slice none 0 0⟩, (by (try dsimp only); exact ⟨oO, oO, (by rfl)⟩), hs_.mono (Sub.get (.c4 G G G G (.c G (.c G (.c G .n))))), hw_.keep (.d (.c .h .n))⟩) (fun ⟨i, X, u_X⟩ ⟨q_0, q_1, q_2⟩ => ?_)
 try dsimp only
 refine .seq (.region (.e G G G G G (.go idQ (.seq (.condI G bD (fun h6 => ?_) (fun h6 => ?_))))))
 ·
  refine .skipgo idQ (.seq (.block (.seq (.region (.v (ev_ix G underlying27 ty3 G G oO oO (row_adr (i := i) 1 G oO lO)) G (.v (ev_ld1 G ty3 G (At.elem1 (row_el (E := eZ) (l := (srtK ((gt MI p).mm))) (i := i) 1 G oO lO) 0 G)) G (.a G G G ?_)))))))
  refine .go idQ (.seq (.seq ?_))
  obtain ⟨fr, hfr⟩ : ∃ x_, x_ = (gt (srtK ((gt MI p).mm)) i) := ⟨_, rfl⟩
  rw [← hfr]
  have hfo := im_srt hG hfr oO oO
  have hfl := hG.lk (mget (gt MI p).mm fr 0) hfo.2.2.2.1 hfo.2.2.2.2
  refine .region (.m G G G (.v (ev_nil G G) G (.f fo59_3 3 G G G G ?_)))
  refine .l ty43 2 G G G G G (.m G G G (.v (ev_ix G underlying43 ty4 G G oO oO (fun _ _ => Fr.adr (i := fr) hg oO oO)) G (.v (ev_ld1 G ty4 G (At.elem1 (At.w (Fr.el (i := fr) hg oO oO)) 0 G)) G ?_)))
  refine .go idQ (.condI G bV (fun h7 => ?_) (fun h7 => ?_))
  ·
   refine .exit idQ ?_
   refine .region (.p ((i + 1)) oO oO G G G G G (.m G G G ?_))
   exact SP.nil (SQ.roundb (X := Int × (List LK) × Value) (x := (i, X, u_X)) ⟨(i + 1), X, u_X⟩ (by (try dsimp only); exact ⟨oO, oO, (flat_next q_2 oO oO (by rw [← hfr, scF_go h7]; simp))⟩) dO (Sub.get (.c4 G G G G (.c G (.c G (.c G .n))))) (kp (.d (.c .h .n))))
  refine .skipgo idQ (.seq (.region (.m G G G (.m G G G (.m G G G ?_)))))
  refine .cons (st_call0 G G G G hbd54 G (.c (.t2 .h) .n) (arnd_ n wb oA on oc MO iA ik ic MI kA kn kc K gA gn gc g fr p _ _ hO hI hK hg hMO hMI hG hls oO) (fun v_q10 C_q10 q10 => ?_))
  obtain ⟨b8, M9, p11, rfl, rfl⟩ := q10
  show SP _ _ _ _ _ _ ⟨_, _ :: _ :: _, _, _⟩
  refine .a G G G (.go idQ (.seq (.region (.m G G G (.v (ev_nil G G) G ?_)))))
  refine .f fo59_0 0 G G G G (.l ty57 0 G G G G G (.m G G G (.v (ev_ix G underlying57 ty60 G G oO oO (fun _ _ => Fr.adr (i := p) hO oO oO)) G ?_)))
  refine .v (ev_ld1 G ty60 G (At.elem1 (At.w (Fr.el (i := p) hO oO oO)) 0 G)) G (.cons (st_call0 G G G G hbd53 G .n (sorted_ ((gt MO p).mb) ((gt MO p).mm) _ _ (hMO p oO oO) hon.1 oO) (fun v_q13 C_q13 q13 => ?_)))
  obtain ⟨u12, rfl, rfl⟩ := q13
  show SP _ _ _ _ _ _ ⟨_, _ :: _, _, _⟩
  refine .know (row_len 0 G) (fun hv16 => ?_)
  obtain ⟨A14, c15, rfl, hv16_1, hv16_2⟩ := hv16
  unfold maxLen at hv16_2
  refine .g underlying27 G G G (.m G G G (.go idQ (.block (.loop (X := Int × (List LK) × Value) (fun ⟨j, Y, u_Y⟩ => 0 ≤ j ∧ j ≤ ((srtK ((gt MO p).mm)).length : Int) ∧ Y = X ++ ((srtK ((gt MO p).mm)).take j.toNat).flatMap (scE (GS.mk (mmL MO) (mmL MI) K g) p fr)) (fun ⟨j, Y, u_Y⟩ => [(0, .pointer (some ⟨wb, 0, none⟩)), (1, .int .i64 p), (4, .slice none 0 0), (21, .slice A3 ((srtK ((gt MI p).mm)).length) c4), (22, .int .i64 (((srtK ((gt MI p).mm)).length : Nat) : Int)), (23, .int .i64 i), (7, .int .i64 fr), (8, .map (some b8)), (45, .slice A14 ((srtK ((gt MO p).mm)).length) c15), (46, .int .i64 (((srtK ((gt MO p).mm)).length : Nat) : Int)), (47, .int .i64 j), (5, u_Y)]) (fun ⟨j, Y, u_Y⟩ => [rw_ eZ 3 (.slice A14 ((srtK ((gt MO p).mm)).length) c15) (srtK ((gt MO p).mm)), cel wb [.slice oA on oc, .slice iA ik ic, .slice kA kn kc, .slice gA gn gc] 59, mp keZ.f (.int .i64) b8 M9, rw_ eLK 37 (u_Y) Y, rw_ eZ 3 (.slice A3 ((srtK ((gt MI p).mm)).length) c4) (srtK ((gt MI p).mm))]) (fun _ => S) (fun _ => wf) (fun ⟨j, Y, u_Y⟩ => (((srtK ((gt MO p).mm)).length : Int) - j).toNat) (fun a_ w_ hs_ hw_ => ⟨⟨0, X, u_X⟩, (by (try dsimp only); exact ⟨oO, oO, (by simp)⟩), hs_.mono (Sub.get (.c4 G G G G (.c4 G G G G (.c4 G G G G .n)))), hw_.keep (.d (.d (.c .h .n)))⟩) (fun ⟨j, Y, u_Y⟩ ⟨r_0, r_1, r_2⟩ => ?_)))))
  try dsimp only
  refine .seq (.region (.e G G G G G (.go idQ (.seq (.condI G bD (fun h17 => ?_) (fun h17 => ?_))))))
  ·
   refine .skipgo idQ (.seq (.block (.seq (.region (.v (ev_ix G underlying27 ty3 G G oO oO (row_adr (i := j) 0 G oO lO)) G (.v (ev_ld1 G ty3 G (At.elem1 (row_el (E := eZ) (l := (srtK ((gt MO p).mm))) (i := j) 0 G oO lO) 0 G)) G (.a G G G ?_)))))))
   refine .go idQ (.seq (.seq ?_))
   obtain ⟨to, hto⟩ : ∃ x_, x_ = (gt (srtK ((gt MO p).mm)) j) := ⟨_, rfl⟩
   rw [← hto]
   have hto2 := om_srt hG hto oO oO
   have htl := hG.lk (mget (gt MO p).mm to 0) hto2.2.2.2.1 hto2.2.2.2.2
   refine .region (.m G G G (.v (ev_nil G G) G (.f fo59_3 3 G G G G ?_)))
   refine .l ty43 1 G G G G G (.m G G G (.v (ev_ix G underlying43 ty4 G G oO oO (fun _ _ => Fr.adr (i := to) hg oO oO)) G (.v (ev_ld1 G ty4 G (At.elem1 (At.w (Fr.el (i := to) hg oO oO)) 0 G)) G ?_)))
   refine .m G G G (.w (fun _ => ev_mv G G) G (.w (fun _ => ev_mv G G) G (.w (fun hb => ev_cmp G (lkg G hb) (lkg G hb) G) G ?_)))
   refine .r G G G G G (.go idQ (.condI G (bO bV bE) (fun h18 => ?_) (fun h18 => ?_)))
   ·
    refine .exit idQ ?_
    refine .region (.p ((j + 1)) oO oO G G G G G (.m G G G ?_))
    exact SP.nil (SQ.roundb (X := Int × (List LK) × Value) (x := (j, Y, u_Y)) ⟨(j + 1), Y, u_Y⟩ (by (try dsimp only); exact ⟨oO, oO, (sc_next r_2 oO oO (by rw [← hto, scE_go h18]; simp))⟩) dO (Sub.get (.c4 G G G G (.c4 G G G G (.c4 G G G G .n)))) (kp (.d (.d (.c .h .n)))))
   refine .skipgo idQ (.seq ?_)
   have hfw : 0 ≤ (gt K (mget (gt MI p).mm fr 0)).lw ∧ (gt K (mget (gt MI p).mm fr 0)).lw ≤ 10000000000000000 := ⟨hfl.2.2.2.2.1, hfl.2.2.2.2.2⟩
   have htw : 0 ≤ (gt K (mget (gt MO p).mm to 0)).lw ∧ (gt K (mget (gt MO p).mm to 0)).lw ≤ 10000000000000000 := ⟨htl.2.2.2.2.1, htl.2.2.2.2.2⟩
   refine SC.draw mo [] [] .n (fun _ _ _ => sc0) (fun wf_19 hl_19 hx_19 hR_19 => ?_)
   refine SR.m 0 G G G G ?_
   refine SR.z 1 G G (ev_nil G G) ?_
   refine SR.z 2 G G (ev_fa G fo59_2 G (r := 2) G) ?_
   refine SR.z 3 G G (ev_ld1 G ty34 G (At.d (At.lent hR_19 1 G G))) ?_
   refine SR.m 4 G G G G ?_
   refine SR.z 5 G G (ev_nil G G) ?_
   refine SR.z 6 G G (ev_fa G fo59_1 G (r := 1) G) ?_
   refine SR.z 7 G G (ev_ld1 G ty57 G (At.d (At.lent hR_19 1 G G))) ?_
   refine SR.m 8 G G G G ?_
   refine SR.z 9 G G (ev_ix G underlying57 ty60 G G oO oO (fun _ _ => Fr.adr (i := p) (Fr.ext hI hx_19) oO oO)) ?_
   refine SR.z 10 G G (ev_ld1 G ty60 G (At.elem1 (At.d (Fr.el (i := p) (Fr.ext hI hx_19) oO oO)) 0 G)) ?_
   refine SR.m 11 G G G G ?_
   refine SR.z 12 G G (ev_lkpF keZ G G underlying60 zv3 G G (MapAt.d (FzM.at (((hMI).ext hx_19) p oO oO)))) ?_
   refine SR.z 13 G G (ev_ix G underlying34 ty37 G G oO oO (fun _ _ => Fr.adr (i := (mget ((gt MI p).mm) fr 0)) (Fr.ext hK hx_19) oO oO)) ?_
   refine SR.z 14 G G (ev_fa G fo37_2 G (r := ao kA + ((mget ((gt MI p).mm) fr 0)).toNat * 4 + 2) G) ?_
   refine SR.z 15 G G (ev_ld1 G ty3 G (At.elem1 (At.d (Fr.el (i := (mget ((gt MI p).mm) fr 0)) (Fr.ext hK hx_19) oO oO)) 2 G)) ?_
   refine SR.m 16 G G G G ?_
   refine SR.z 17 G G (ev_nil G G) ?_
   refine SR.z 18 G G (ev_fa G fo59_2 G (r := 2) G) ?_
   refine SR.z 19 G G (ev_ld1 G ty34 G (At.d (At.lent hR_19 1 G G))) ?_
   refine SR.m 20 G G G G ?_
   refine SR.z 21 G G (ev_nil G G) ?_
   refine SR.z 22 G G (ev_fa G fo59_0 G (r := 0) G) ?_
   refine SR.z 23 G G (ev_ld1 G ty57 G (At.d (At.lent hR_19 1 G G))) ?_
   refine SR.m 24 G G G G ?_
   refine SR.z 25 G G (ev_ix G underlying57 ty60 G G oO oO (fun _ _ => Fr.adr (i := p) (Fr.ext hO hx_19) oO oO)) ?_
   refine SR.z 26 G G (ev_ld1 G ty60 G (At.elem1 (At.d (Fr.el (i := p) (Fr.ext hO hx_19) oO oO)) 0 G)) ?_
   refine SR.m 27 G G G G ?_
   refine SR.z 28 G G (ev_lkpF keZ G G underlying60 zv3 G G (MapAt.d (FzM.at (((hMO).ext hx_19) p oO oO)))) ?_
   refine SR.z 29 G G (ev_ix G underlying34 ty37 G G oO oO (fun _ _ => Fr.adr (i := (mget ((gt MO p).mm) to 0)) (Fr.ext hK hx_19) oO oO)) ?_
   refine SR.z 30 G G (ev_fa G fo37_2 G (r := ao kA + ((mget ((gt MO p).mm) to 0)).toNat * 4 + 2) G) ?_
   refine SR.z 31 G G (ev_ld1 G ty3 G (At.elem1 (At.d (Fr.el (i := (mget ((gt MO p).mm) to 0)) (Fr.ext hK hx_19) oO oO)) 2 G)) ?_
   refine SR.z 32 G G (ev_add G G G (r := (((gt K (mget ((gt MI p).mm) fr 0)).lw) + ((gt K (mget ((gt MO p).mm) to 0)).lw))) G oO oO) ?_
   refine SR.z 33 G G (ev_as G G) ?_
   refine SR.fin kR hl_19 hx_19 hR_19 .n ?_
   refine SQ.go idQ ?_
   refine .seq (.region (.m G G G (.m G G G (.v (ev_lkpok keZ (m := M9) (x := to) (z := 0) G underlying60 zv3 G G 2 G) G ?_))))
   refine .m G G G (.x G G G G (.x G G G G (.a G G G ?_)))
   refine .a G G G (.go idQ (.seq (.region (.m G G G (.v (ev_not G G) G ?_)))))
   refine .m G G G (.w (fun _ => ev_mv G G) G (.w (fun _ => ev_mv G G) G (.w (fun hb => ev_cmp G (lkg G hb) (lkg G hb) G) G ?_)))
   refine .r G G G G G (.go idQ (.condI G (bO (bN bV) bD) (fun h20 => ?_) (fun h20 => ?_)))
   ·
    have hxl := scX_len (p := p) hG (i := i.toNat)
    rw [← q_2] at hxl
    have hyl := scY_len (p := p) hG (i := j.toNat) (fr := fr)
    have hyq := congrArg List.length r_2
    rw [List.length_append] at hyq
    refine .region (.m G G G (.m G G G (.m G G G ?_)))
    refine .m G G G (.m G G G (.v (ev_any (v := .agg #[.int .i64 fr, .int .i64 to, .int .i64 (((gt K (mget ((gt MI p).mm) fr 0)).lw) + ((gt K (mget ((gt MO p).mm) to 0)).lw)), .int .i64 p]) G kR (fun _ => by kernel_rfl)) G (.cons (st_lit eLK (e := 37) (l := [(LK.mk fr to (((gt K (mget ((gt MI p).mm) fr 0)).lw) + ((gt K (mget ((gt MO p).mm) to 0)).lw)) p)]) G G G G kR G G kW (fun b21 => ?_)))))
    refine .cons (st_app (E := eLK) (m := [(LK.mk fr to (((gt K (mget ((gt MI p).mm) fr 0)).lw) + ((gt K (mget ((gt MO p).mm) to 0)).lw)) p)]) G G G G underlying34 ai37 G G G (.t4 .h) rO (row_src 0 G) lO G (fun v22 => ?_))
    refine .a G G G (.go idQ (.region (.p ((j + 1)) oO oO G G G G G (.m G G G ?_))))
    exact SP.nil (SQ.roundb (X := Int × (List LK) × Value) (x := (j, Y, u_Y)) ⟨(j + 1), (Y ++ [(LK.mk fr to (((gt K (mget ((gt MI p).mm) fr 0)).lw) + ((gt K (mget ((gt MO p).mm) to 0)).lw)) p)]), v22⟩ (by (try dsimp only); exact ⟨oO, oO, (sc_next r_2 oO oO (by rw [← hto, scE_yes p11 h18 scD_mb h20]))⟩) dO (Sub.get (.c4 G G G G (.c4 G G G G (.c4 G G G G .n)))) (kp (.c (.t2 .h) (.c (.t2 .h) (.c (.t2 .h) (.c .h (.c (.t .h) .n)))))))
   refine .skipgo idQ (.region (.p ((j + 1)) oO oO G G G G G (.m G G G ?_)))
   exact SP.nil (SQ.roundb (X := Int × (List LK) × Value) (x := (j, Y, u_Y)) ⟨(j + 1), Y, u_Y⟩ (by (try dsimp only); exact ⟨oO, oO, (sc_next r_2 oO oO (by rw [← hto, scE_no p11 h18 scD_mb h20]; simp))⟩) dO (Sub.get (.c4 G G G G (.c4 G G G G (.c4 G G G G .n)))) (kp (.d (.d (.c .h .n)))))
  refine .exit idQ ?_
  refine .region (.p ((i + 1)) oO oO G G G G G (.m G G G ?_))
  exact SP.nil (SQ.roundb (X := Int × (List LK) × Value) (x := (i, X, u_X)) ⟨(i + 1), Y, u_Y⟩ (by (try dsimp only); exact ⟨oO, oO, (flat_next q_2 oO oO (by rw [← hfr, scF_do h7, r_2, List.take_of_length_le oO]; show _ = X ++ (srtK (gt (mmL MO) p)).flatMap _; rw [gt_mmL]))⟩) dO (Sub.get (.c4 G G G G (.c G (.c G (.c G .n))))) (kp (.c (.t2 (.t .h)) (.c (.t2 (.t .h)) (.c (.t .h) .n)))))
 refine .exit idQ ?_
 refine .seq (.region (.m G G G (.a G G G (.go idQ ?_))))
 exact .ret idQ (ret1 results45 G (.c (.t2 .h) (.c .h .n)) ⟨u_X, G, (by rw [q_2, List.take_of_length_le oO]; show _ = [_, rw_ eLK 37 _ ((srtK (gt (mmL MI) p)).flatMap _)]; rw [gt_mmL])⟩)
theorem price_ (n : Int) (wb : Nat) (oA : Option Addr) (on : Nat) (oc : Nat) (MO : List MB) (iA : Option Addr) (ik : Nat) (ic : Nat) (MI : List MB) (kA : Option Addr) (kn : Nat) (kc : Nat) (K : List LK) (gA : Option Addr) (gn : Nat) (gc : Nat) (g : List Bool) (p : Int) (S : Nat → Prop) (wf : World) (hO : Fr eMB S wf oA MO) (hI : Fr eMB S wf iA MI) (hK : Fr eLK S wf kA K) (hg : Fr eB S wf gA g) (hMO : MPF S wf MO) (hMI : MPF S wf MI) (hG : GOK n (GS.mk (mmL MO) (mmL MI) K g)) (hls : MO.length = on ∧ MI.length = ik ∧ K.length = kn ∧ g.length = gn) (hp : 0 ≤ p ∧ p < n) :
  TR0 prog 29 [.pointer (some ⟨wb, 0, none⟩), .int .i64 p] [cel wb [.slice oA on oc, .slice iA ik ic, .slice kA kn kc, .slice gA gn gc] 59] S wf (fun v_ C_ => v_ = .int .i64 (prG (GS.mk (mmL MO) (mmL MI) K g) p) ∧ C_ = [cel wb [.slice oA on oc, .slice iA ik ic, .slice kA kn kc, .slice gA gn gc] 59]) := by
 have hGn := hG.n1
 have hGo : (MO.length : Int) = n := by rw [← mmL_len (l := MO)]; exact hG.lo
 have hGi : (MI.length : Int) = n := by rw [← mmL_len (l := MI)]; exact hG.li
 have hGg : (g.length : Int) = n := hG.lg
 have hKl := hK.len
 have hon := om_nd (p := p) hG
 have hin := im_nd (p := p) hG
 have hsl := scG_len hG p
 have hno := nOf_le (gt MO p).mm g
 have hni := nOf_le (gt MI p).mm g
 refine TR.mk func29 G ntmps29 G G (fun w_ => ?_)
 refine .seq (.region (.a G G G (.go idQ (.seq (.region (.m G G G ?_))))))
 refine .m G G G (.cons (st_call0 G G G G hbd45 G (.c .h .n) (shct_ n wb oA on oc MO iA ik ic MI kA kn kc K gA gn gc g p _ _ hO hI hK hg hMO hMI hG hls oO) (fun v_q2 C_q2 q2 => ?_)))
 obtain ⟨u1, rfl, rfl⟩ := q2
 show SP _ _ _ _ _ _ ⟨_, _ :: _ :: _, _, _⟩
 refine .know (row_len 1 G) (fun hv5 => ?_)
 obtain ⟨A3, c4, rfl, hv5_1, hv5_2⟩ := hv5
 unfold maxLen at hv5_2
 refine .g underlying34 G G G (.v (ev_mul G G G (r := (2 * (((scG (GS.mk (mmL MO) (mmL MI) K g) p).length : Nat) : Int))) G oO oO) G (.a G G G (.go idQ (.seq (.seq (.region ?_))))))
 refine .m G G G (.v (ev_nil G G) G (.f fo59_0 0 G G G G (.l ty57 0 G G G G G ?_)))
 refine .m G G G (.v (ev_ix G underlying57 ty60 G G oO oO (fun _ _ => Fr.adr (i := p) hO oO oO)) G (.v (ev_ld1 G ty60 G (At.elem1 (At.w (Fr.el (i := p) hO oO oO)) 0 G)) G (.cons (st_rangeF (hMO p oO oO) G G G G underlying60 G (fun r6 => ?_)))))
 refine .go idQ (.block (.loop (X := Int × (List (Int × Int)) × (Option (Int × Int))) (fun ⟨c, Lf, cu_Lf⟩ => c = 2 * ((scG (GS.mk (mmL MO) (mmL MI) K g) p).length : Int) - (nOf (gt MO p).mm g - nOf Lf g) ∧ (Lf.map Prod.fst).Nodup ∧ (Lf.length : Int) ≤ 32) (fun ⟨c, Lf, cu_Lf⟩ => [(0, .pointer (some ⟨wb, 0, none⟩)), (1, .int .i64 p), (4, .int .i64 0), (20, .pointer (some ⟨r6, 0, none⟩)), (5, .int .i64 c)]) (fun ⟨c, Lf, cu_Lf⟩ => [itM r6 ((gt MO p).mb) wf ((gt MO p).mm) Lf cu_Lf, cel wb [.slice oA on oc, .slice iA ik ic, .slice kA kn kc, .slice gA gn gc] 59, rw_ eLK 37 (.slice A3 ((scG (GS.mk (mmL MO) (mmL MI) K g) p).length) c4) (scG (GS.mk (mmL MO) (mmL MI) K g) p)]) (fun _ => S) (fun _ => wf) (fun ⟨c, Lf, cu_Lf⟩ => Lf.length) (fun a_ w_ hs_ hw_ => ⟨⟨(2 * (((scG (GS.mk (mmL MO) (mmL MI) K g) p).length : Nat) : Int)), (gt MO p).mm, none⟩, (by (try dsimp only); exact ⟨oO, hon.1, oO⟩), hs_.mono (Sub.get (.c4 G G G G (.c G .n))), hw_.keep (.d (.c .h .n))⟩) (fun ⟨c, Lf, cu_Lf⟩ ⟨q_0, q_1, q_2⟩ => ?_)))
 try dsimp only
 have hnl := nOf_le Lf g
 have hnk : (Lf.length : Int) ≤ 32 ∨ True := .inr trivial
 refine .seq (.region (.cons (st_nextF (hMO p oO oO) G G G G G .h (fun hz7 => ?_) (fun x8 v9 hl10 hm11 => ?_))))
 ·
  refine .x G G G G (.go idQ (.seq (.cond_f G (.exit idQ ?_))))
  refine .seq (.seq (.region (.m G G G (.v (ev_nil G G) G (.f fo59_1 1 G G G G ?_)))))
  refine .l ty57 1 G G G G G (.m G G G (.v (ev_ix G underlying57 ty60 G G oO oO (fun _ _ => Fr.adr (i := p) hI oO oO)) G (.v (ev_ld1 G ty60 G (At.elem1 (At.w (Fr.el (i := p) hI oO oO)) 0 G)) G ?_)))
  refine .cons (st_rangeF (hMI p oO oO) G G G G underlying60 G (fun r12 => ?_))
  refine .go idQ (.block (.loop (X := Int × (List (Int × Int)) × (Option (Int × Int))) (fun ⟨c2, Lf2, cu_Lf2⟩ => c2 = (2 * ((scG (GS.mk (mmL MO) (mmL MI) K g) p).length : Int) - nOf (gt MO p).mm g) - (nOf (gt MI p).mm g - nOf Lf2 g) ∧ (Lf2.map Prod.fst).Nodup ∧ (Lf2.length : Int) ≤ 32) (fun ⟨c2, Lf2, cu_Lf2⟩ => [(0, .pointer (some ⟨wb, 0, none⟩)), (1, .int .i64 p), (4, .int .i64 0), (20, .pointer (some ⟨r6, 0, none⟩)), (42, .pointer (some ⟨r12, 0, none⟩)), (5, .int .i64 c2)]) (fun ⟨c2, Lf2, cu_Lf2⟩ => [itM r12 ((gt MI p).mb) wf ((gt MI p).mm) Lf2 cu_Lf2, itM r6 ((gt MO p).mb) wf ((gt MO p).mm) Lf cu_Lf, cel wb [.slice oA on oc, .slice iA ik ic, .slice kA kn kc, .slice gA gn gc] 59, rw_ eLK 37 (.slice A3 ((scG (GS.mk (mmL MO) (mmL MI) K g) p).length) c4) (scG (GS.mk (mmL MO) (mmL MI) K g) p)]) (fun _ => S) (fun _ => wf) (fun ⟨c2, Lf2, cu_Lf2⟩ => Lf2.length) (fun a_ w_ hs_ hw_ => ⟨⟨c, (gt MI p).mm, none⟩, (by (try dsimp only); exact ⟨(by rw [hz7] at q_0; have h_ : nOf [] g = 0 := G; omega), hin.1, oO⟩), hs_.mono (Sub.get (.c4 G G G G (.c G (.c G .n)))), hw_.keep (.d (.d .n))⟩) (fun ⟨c2, Lf2, cu_Lf2⟩ ⟨r_0, r_1, r_2⟩ => ?_)))
  try dsimp only
  have hnl2 := nOf_le Lf2 g
  refine .seq (.region (.cons (st_nextF (hMI p oO oO) G G G G G .h (fun hz13 => ?_) (fun x14 v15 hl16 hm17 => ?_))))
  ·
   refine .x G G G G (.go idQ (.seq (.cond_f G (.exit idQ ?_))))
   refine .seq (.region (.m G G G (.a G G G (.go idQ ?_))))
   exact .ret idQ (ret1 results29 G (.c (.t2 .h) .n) ⟨(congrArg (Value.int .i64) (by rw [pr_eq]; rw [hz13] at r_0; have h_ : nOf [] g = 0 := G; omega)), G⟩)
  refine .x G G G G (.go idQ (.seq (.cond_t G (.skipgo idQ (.block (.seq (.region ?_)))))))
  refine .v (ev_entryF (x := x14) (v := v15) (hMI p oO oO) G G 0 G) G (.x G G G G (.a G G G (.go idQ (.seq ?_))))
  have hxo := im_mb hG hm17
  refine .region (.m G G G (.v (ev_nil G G) G (.f fo59_3 3 G G G G ?_)))
  refine .l ty43 2 G G G G G (.m G G G (.v (ev_ix G underlying43 ty4 G G oO oO (fun _ _ => Fr.adr (i := x14) hg oO oO)) G (.v (ev_ld1 G ty4 G (At.elem1 (At.w (Fr.el (i := x14) hg oO oO)) 0 G)) G ?_)))
  refine .v (ev_not G G) G (.go idQ (.condI G (bN bV) (fun h18 => ?_) (fun h18 => ?_)))
  ·
   refine .region (.m G G G (.v (ev_sub G G G (r := (c2 - 1)) G oO oO) G (.a G G G ?_)))
   exact SP.nil (SQ.roundb (X := Int × (List (Int × Int)) × (Option (Int × Int))) (x := (c2, Lf2, cu_Lf2)) ⟨(c2 - 1), (Lf2.filter (fun p => decide (p.1 ≠ x14))), (some (x14, v15))⟩ (by (try dsimp only); exact ⟨((nOf_rng r_1 hl16 r_0).2 h18), (rng_nd r_1), (by have h_ := List.length_filter_le (fun p_ : Int × Int => decide (p_.1 ≠ x14)) Lf2; omega)⟩) (mfilter_lt hl16) (Sub.get (.c4 G G G G (.c G (.c G .n)))) (kp (.d (.d .n))))
  exact .skip (SQ.roundb (X := Int × (List (Int × Int)) × (Option (Int × Int))) (x := (c2, Lf2, cu_Lf2)) ⟨c2, (Lf2.filter (fun p => decide (p.1 ≠ x14))), (some (x14, v15))⟩ (by (try dsimp only); exact ⟨((nOf_rng r_1 hl16 r_0).1 (Classical.not_not.1 h18)), (rng_nd r_1), (by have h_ := List.length_filter_le (fun p_ : Int × Int => decide (p_.1 ≠ x14)) Lf2; omega)⟩) (mfilter_lt hl16) (Sub.get (.c4 G G G G (.c G (.c G .n)))) (kp (.d (.d .n))))
 refine .x G G G G (.go idQ (.seq (.cond_t G (.skipgo idQ (.block (.seq (.region ?_)))))))
 refine .v (ev_entryF (x := x8) (v := v9) (hMO p oO oO) G G 0 G) G (.x G G G G (.a G G G (.go idQ (.seq ?_))))
 have hxo := om_mb hG hm11
 refine .region (.m G G G (.v (ev_nil G G) G (.f fo59_3 3 G G G G ?_)))
 refine .l ty43 1 G G G G G (.m G G G (.v (ev_ix G underlying43 ty4 G G oO oO (fun _ _ => Fr.adr (i := x8) hg oO oO)) G (.v (ev_ld1 G ty4 G (At.elem1 (At.w (Fr.el (i := x8) hg oO oO)) 0 G)) G ?_)))
 refine .v (ev_not G G) G (.go idQ (.condI G (bN bV) (fun h19 => ?_) (fun h19 => ?_)))
 ·
  refine .region (.m G G G (.v (ev_sub G G G (r := (c - 1)) G oO oO) G (.a G G G ?_)))
  exact SP.nil (SQ.roundb (X := Int × (List (Int × Int)) × (Option (Int × Int))) (x := (c, Lf, cu_Lf)) ⟨(c - 1), (Lf.filter (fun p => decide (p.1 ≠ x8))), (some (x8, v9))⟩ (by (try dsimp only); exact ⟨((nOf_rng q_1 hl10 q_0).2 h19), (rng_nd q_1), (by have h_ := List.length_filter_le (fun p_ : Int × Int => decide (p_.1 ≠ x8)) Lf; omega)⟩) (mfilter_lt hl10) (Sub.get (.c4 G G G G (.c G .n))) (kp (.d (.c .h .n))))
 exact .skip (SQ.roundb (X := Int × (List (Int × Int)) × (Option (Int × Int))) (x := (c, Lf, cu_Lf)) ⟨c, (Lf.filter (fun p => decide (p.1 ≠ x8))), (some (x8, v9))⟩ (by (try dsimp only); exact ⟨((nOf_rng q_1 hl10 q_0).1 (Classical.not_not.1 h19)), (rng_nd q_1), (by have h_ := List.length_filter_le (fun p_ : Int × Int => decide (p_.1 ≠ x8)) Lf; omega)⟩) (mfilter_lt hl10) (Sub.get (.c4 G G G G (.c G .n))) (kp (.d (.c .h .n))))
end Go.Proofs.Ytlefdinbbjiabaa.Sx
set_option maxRecDepth 20000
set_option maxHeartbeats 1000000
namespace Go.Proofs.Ytlefdinbbjiabaa.Sx.FO
open Go Go.SX Go.Proofs Go.Proofs.Try FA FB FC FD FE FF FG FH FI FJ FK FL FM FN
theorem fo37_0 : fo prog 37 0 = some 0 := by kernel_rfl
theorem fo37_1 : fo prog 37 1 = some 1 := by kernel_rfl
end Go.Proofs.Ytlefdinbbjiabaa.Sx.FO
namespace Go.Proofs.Ytlefdinbbjiabaa.Sx
open Go Go.SX Go.Proofs Go.Proofs.Try FA FB FC FD FE FF FG FH FI FJ FK FL FM FN FO
theorem link_ (n : Int) (wb : Nat) (oA : Option Addr) (on : Nat) (oc : Nat) (MO : List MB) (iA : Option Addr) (ik : Nat) (ic : Nat) (MI : List MB) (kA : Option Addr) (kn : Nat) (kc : Nat) (K : List LK) (gA : Option Addr) (gn : Nat) (gc : Nat) (g : List Bool) (k : LK) (S : Nat → Prop) (wf : World) (hG : GOK n (GS.mk (mmL MO) (mmL MI) K g)) (hls : MO.length = on ∧ MI.length = ik ∧ K.length = kn) (hk : 0 ≤ k.lf ∧ k.lf < n ∧ 0 ≤ k.lt ∧ k.lt < n) (hkb : kn ≤ 100000) :
  TR0 prog 26 [.pointer (some ⟨wb, 0, none⟩), .agg #[.int .i64 k.lf, .int .i64 k.lt, .int .i64 k.lw, .int .i64 k.lm]] [cel wb [.slice oA on oc, .slice iA ik ic, .slice kA kn kc, .slice gA gn gc] 59, rw_ eMB 60 (.slice oA on oc) MO, rw_ eMB 60 (.slice iA ik ic) MI, rw_ eLK 37 (.slice kA kn kc) K, nestM MO, nestM MI] S wf (fun v_ C_ => ∃ (u : Value) (MO2 : List MB) (MI2 : List MB) (K2 : List LK), (GS.mk (mmL MO2) (mmL MI2) K2 g = linkG (GS.mk (mmL MO) (mmL MI) K g) k) ∧ (MO2.length = MO.length) ∧ (MI2.length = MI.length) ∧ v_ = .tuple #[] ∧ C_ = [cel wb [.slice oA on oc, .slice iA ik ic, u, .slice gA gn gc] 59, rw_ eMB 60 (.slice oA on oc) MO2, rw_ eMB 60 (.slice iA ik ic) MI2, rw_ eLK 37 (u) K2, nestM MO2, nestM MI2]) := by
 have hGn := hG.n1
 have hGo : (MO.length : Int) = n := by rw [← mmL_len (l := MO)]; exact hG.lo
 have hGi : (MI.length : Int) = n := by rw [← mmL_len (l := MI)]; exact hG.li
 have hGg : (g.length : Int) = n := hG.lg
 refine TR.mk func26 G ntmps26 G G (fun w_ => ?_)
 refine .seq (.region (.cons (st_boxa G G G G G (fun b1 => (.go idQ (.seq (.seq ?_)))))))
 refine SC.draw mo [] [] .n (fun _ _ _ => sc0) (fun wf_2 hl_2 hx_2 hR_2 => ?_)
 refine SR.m 0 G G G G ?_
 refine SR.z 1 G G (ev_nil G G) ?_
 refine SR.z 2 G G (ev_fa G fo59_0 G (r := 0) G) ?_
 refine SR.z 3 G G (ev_ld1 G ty57 G (At.d (At.lent hR_2 1 G G))) ?_
 refine SR.z 4 G G (ev_fa G fo37_0 G (r := 0) G) ?_
 refine SR.z 5 G G (ev_ld1 G ty3 G (At.d (At.lent hR_2 0 G G))) ?_
 refine SR.z 6 G G (ev_ix G underlying57 ty60 G G oO oO (fun _ _ => Fr.adr (i := k.lf) (Fr.lent (S := S) hR_2 2 G lO) oO oO)) ?_
 refine SR.z 7 G G (ev_ld1 G ty60 G (At.elem1 (At.d (Fr.el (i := k.lf) (Fr.lent (S := S) hR_2 2 G lO) oO oO)) 0 G)) ?_
 refine SR.z 8 G G (ev_fa G fo37_1 G (r := 1) G) ?_
 refine SR.z 9 G G (ev_ld1 G ty3 G (At.d (At.lent hR_2 0 G G))) ?_
 refine SR.z 10 G G (ev_lkpokF keZ G G underlying60 zv3 G G (MapAt.d (FzM.at ((MPF.lent (S := S) hR_2 5 G) k.lf oO oO)))) ?_
 refine SR.m 11 G G G G ?_
 refine SR.z 12 G G (ev_ext G G G) ?_
 refine SR.z 13 G G (ev_ext G G G) ?_
 refine SR.z 14 G G (ev_as G G) ?_
 refine SR.z 15 G G (ev_as G G) ?_
 refine SR.fin kR hl_2 hx_2 hR_2 .n ?_
 refine SQ.go idQ ?_
 refine .seq ?_
 rcases Bool.eq_false_or_eq_true (mhas (gt MO k.lf).mm k.lt) with hm | hm
 ·
  rw [hm]
  have hof := om_has hG hm
  refine SC.draw mo [] [] .n (fun _ _ _ => sc0) (fun wf_3 hl_3 hx_3 hR_3 => ?_)
  refine SR.m 0 G G G G ?_
  refine SR.m 1 G G G G ?_
  refine SR.y 2 G G (fun _ => ev_mv G G) ?_
  refine SR.y 3 G G (fun _ => ev_nil G G) ?_
  refine SR.y 4 G G (fun _ => ev_fa G fo59_2 G (r := 2) G) ?_
  refine SR.y 5 G G (fun _ => ev_ld1 G ty34 G (At.d (At.lent hR_3 1 G G))) ?_
  refine SR.y 6 G G (fun _ => ev_mv G G) ?_
  refine SR.y 7 G G (fun _ => ev_ix G underlying34 ty37 G G oO oO (fun _ _ => Fr.adr (i := (mget ((gt MO k.lf).mm) k.lt 0)) (Fr.lent (S := S) hR_3 4 G lO) oO oO)) ?_
  refine SR.y 8 G G (fun _ => ev_fa G fo37_2 G (r := ao kA + ((mget ((gt MO k.lf).mm) k.lt 0)).toNat * 4 + 2) G) ?_
  refine SR.y 9 G G (fun _ => ev_ld1 G ty3 G (At.elem1 (At.d (Fr.el (i := (mget ((gt MO k.lf).mm) k.lt 0)) (Fr.lent (S := S) hR_3 4 G lO) oO oO)) 2 G)) ?_
  refine SR.y 10 G G (fun _ => ev_fa G fo37_2 G (r := 2) G) ?_
  refine SR.y 11 G G (fun _ => ev_ld1 G ty3 G (At.d (At.lent hR_3 0 G G))) ?_
  refine SR.y 12 G G (fun _ => ev_cmp G G G G) ?_
  refine SR.z 13 G G (ev_pickt G G G G) ?_
  refine SR.fin kR hl_3 hx_3 hR_3 .n ?_
  refine SQ.go idQ ?_
  refine .condI G bD (fun h4 => ?_) (fun h4 => ?_)
  ·
   exact .ret idQ (ret0 results26 (.c (.t .h) (.c (.t .h) (.c (.t .h) (.c (.t .h) (.c (.t .h) (.c (.t .h) .n)))))) ⟨.slice kA kn kc, MO, MI, K, (link_same hm h4), G, G, G, G⟩)
  refine .skipgo idQ (.seq ?_)
  refine SC.draw mo [cel wb [.slice oA on oc, .slice iA ik ic, .slice kA kn kc, .slice gA gn gc] 59, rw_ eLK 37 (.slice kA kn kc) K] [(10, fun w => At w wb 0 [.slice oA on oc, .slice iA ik ic, .slice kA kn kc, .slice gA gn gc])] (.c (.t .h) (.c (.t2 (.t .h)) .n)) (fun w_ _ hw_ => (sc1 (At.whole 0 G w_ hw_) sc0)) (fun wf_5 hl_5 hx_5 hR_5 => ?_)
  refine SR.m 0 G G G G ?_
  refine SR.m 1 G G G G ?_
  refine SR.z 2 G G (ev_nil G G) ?_
  refine SR.z 3 G G (ev_fa G fo59_2 G (r := 2) G) ?_
  refine SR.z 4 G G (ev_ld1 G ty34 G (At.elem1 (v := .slice kA kn kc) (At.ofcs 0 G kR) 2 G)) ?_
  refine SR.z 5 G G (ev_lda (cs := [.int .i64 k.lf, .int .i64 k.lt, .int .i64 k.lw, .int .i64 k.lm]) G G (At.d (At.lent hR_5 0 G G)) ty37) ?_
  refine SR.o 6 G (st_lit eLK (e := 37) (l := [k]) G G G G kR G G kW (fun b6 => ⟨ttw 1 G, ?_⟩))
  refine SR.o 7 G (st_app (E := eLK) (m := [k]) G G G G underlying34 ai37 G G G (.t2 .h) rO (row_src 0 G) lO G (fun v7 => ⟨ttw 2 G, ?_⟩))
  refine SR.z 8 G G (ev_nil G G) ?_
  refine SR.z 9 G G (ev_fa G fo59_2 G (r := 2) G) ?_
  refine .know (row_len 0 G) (fun hv10 => ?_)
  obtain ⟨A8, c9, rfl, hv10_1, hv10_2⟩ := hv10
  unfold maxLen at hv10_2
  refine SR.o 10 G (st_store1 G G G ty34 G G G (.t2 .h) (.t2 .h) ⟨ttc (fun w_ hw_ => (tc2 kR tc0)), ?_⟩)
  refine SR.fin kR hl_5 hx_5 hR_5 (.c (.c (.c .n))) ?_
  refine SQ.go idQ ?_
  refine SC.outM k.lf oO oO (.t4 (.t2 .h)) ?_
  refine SC.outM k.lt oO oO (.t4 (.t4 .h)) ?_
  refine SC.draw mo [mp keZ.f (.int .i64) ((gt MI k.lt).mb) ((gt MI k.lt).mm), mp keZ.f (.int .i64) ((gt MO k.lf).mb) ((gt MO k.lf).mm)] [] (.c .h (.c (.t .h) .n)) (fun _ _ _ => sc0) (fun wf_11 hl_11 hx_11 hR_11 => ?_)
  refine SR.m 0 G G G G ?_
  refine SR.z 1 G G (ev_nil G G) ?_
  refine SR.z 2 G G (ev_fa G fo59_0 G (r := 0) G) ?_
  refine SR.z 3 G G (ev_ld1 G ty57 G (At.d (At.lent hR_11 2 G G))) ?_
  refine SR.z 4 G G (ev_fa G fo37_0 G (r := 0) G) ?_
  refine SR.z 5 G G (ev_ld1 G ty3 G (At.d (At.lent hR_11 5 G G))) ?_
  refine SR.z 6 G G (ev_ix G underlying57 ty60 G G oO oO (fun _ _ => Fr.adr (i := k.lf) (Fr.lent (S := S) hR_11 6 G lO) oO oO)) ?_
  refine SR.z 7 G G (ev_ld1 G ty60 G (At.elem1 (At.d (Fr.el (i := k.lf) (Fr.lent (S := S) hR_11 6 G lO) oO oO)) 0 G)) ?_
  refine SR.z 8 G G (ev_fa G fo37_1 G (r := 1) G) ?_
  refine SR.z 9 G G (ev_ld1 G ty3 G (At.d (At.lent hR_11 5 G G))) ?_
  refine SR.m 10 G G G G ?_
  refine SR.z 11 G G (ev_nil G G) ?_
  refine SR.z 12 G G (ev_fa G fo59_1 G (r := 1) G) ?_
  refine SR.z 13 G G (ev_ld1 G ty57 G (At.d (At.lent hR_11 2 G G))) ?_
  refine SR.z 14 G G (ev_fa G fo37_1 G (r := 1) G) ?_
  refine SR.z 15 G G (ev_ld1 G ty3 G (At.d (At.lent hR_11 5 G G))) ?_
  refine SR.z 16 G G (ev_ix G underlying57 ty60 G G oO oO (fun _ _ => Fr.adr (i := k.lt) (Fr.lent (S := S) hR_11 7 G lO) oO oO)) ?_
  refine SR.z 17 G G (ev_ld1 G ty60 G (At.elem1 (At.d (Fr.el (i := k.lt) (Fr.lent (S := S) hR_11 7 G lO) oO oO)) 0 G)) ?_
  refine SR.z 18 G G (ev_fa G fo37_0 G (r := 0) G) ?_
  refine SR.z 19 G G (ev_ld1 G ty3 G (At.d (At.lent hR_11 5 G G))) ?_
  refine SR.m 20 G G G G ?_
  refine SR.z 21 G G (ev_nil G G) ?_
  refine SR.z 22 G G (ev_fa G fo59_2 G (r := 2) G) ?_
  refine SR.z 23 G G (ev_ld1 G ty34 G (At.d (At.lent hR_11 2 G G))) ?_
  refine SR.z 24 G G (ev_len G underlying34 G) ?_
  refine SR.z 25 G G (ev_sub G G G (r := ((((K ++ [k]).length : Nat) : Int) - 1)) G oO oO) ?_
  refine SR.m 26 G G G G ?_
  refine SR.z 27 G G (ev_nil G G) ?_
  refine SR.z 28 G G (ev_fa G fo59_2 G (r := 2) G) ?_
  refine SR.z 29 G G (ev_ld1 G ty34 G (At.d (At.lent hR_11 2 G G))) ?_
  refine SR.z 30 G G (ev_len G underlying34 G) ?_
  refine SR.z 31 G G (ev_sub G G G (r := ((((K ++ [k]).length : Nat) : Int) - 1)) G oO oO) ?_
  refine SR.o 32 G (st_mapEntry keZ (x := k.lt) (z := 0) G G G G underlying60 zv3 G G (.t .h) (fun u12 n13 => ⟨tt0, ?_⟩))
  refine SR.z 33 G G (ev_ext G G G) ?_
  refine SR.o 34 G (st_entryStore keZ (u := undef) (x := k.lt) (v := ((((K ++ [k]).length : Nat) : Int) - 1)) G G G G G G .h ⟨tt0, ?_⟩)
  refine SR.o 35 G (st_mapEntry keZ (x := k.lf) (z := 0) G G G G underlying60 zv3 G G (.t .h) (fun u14 n15 => ⟨tt0, ?_⟩))
  refine SR.z 36 G G (ev_ext G G G) ?_
  refine SR.o 37 G (st_entryStore keZ (u := undef) (x := k.lf) (v := ((((K ++ [k]).length : Nat) : Int) - 1)) G G G G G G .h ⟨tt0, ?_⟩)
  refine SR.fin kR hl_11 hx_11 hR_11 (.c (.c .n)) ?_
  exact SQ.inM k.lf oO oO (.c (.t .h) (.c (.t2 .h) (.c (.t4 (.t2 .h)) .n))) <| SQ.inM k.lt oO oO (.c (.t2 .h) (.c (.t2 .h) (.c (.t4 (.t2 .h)) .n))) <| (end0 results26 (.c (.t4 .h) (.c (.t2 (.t .h)) (.c (.t .h) (.c (.t2 .h) (.c (.t .h) (.c .h .n)))))) ⟨.slice A8 ((K ++ [k]).length) c9, (MO.set (k.lf).toNat (MB.mk (gt MO k.lf).mb (mset (mins ((gt MO k.lf).mm) k.lt 0) k.lt ((((K ++ [k]).length : Nat) : Int) - 1)))), (MI.set (k.lt).toNat (MB.mk (gt MI k.lt).mb (mset (mins ((gt MI k.lt).mm) k.lf 0) k.lf ((((K ++ [k]).length : Nat) : Int) - 1)))), (K ++ [k]), (by rw [mset_mins, mset_mins]; exact link_new (fun h_ => h4 h_.2) (by rw [List.length_append, List.length_singleton]; omega)), (List.length_set ..), (List.length_set ..), G, G⟩)
 rw [hm]
 refine SC.draw mo [] [] .n (fun _ _ _ => sc0) (fun wf_16 hl_16 hx_16 hR_16 => ?_)
 refine SR.m 0 G G G G ?_
 refine SR.m 1 G G G G ?_
 refine SR.gtake (v := undef) 2 G kR kR kR G (fun _ _ _ _ h => h) G G G G G (fun hb => by cases hb) ?_
 refine SR.gtake (v := undef) 3 G kR kR kR G (fun _ _ _ _ h => h) G G G G G (fun hb => by cases hb) ?_
 refine SR.gtake (v := undef) 4 G kR kR kR G (fun _ _ _ _ h => h) G G G G G (fun hb => by cases hb) ?_
 refine SR.gtake (v := undef) 5 G kR kR kR G (fun _ _ _ _ h => h) G G G G G (fun hb => by cases hb) ?_
 refine SR.gtake (v := undef) 6 G kR kR kR G (fun _ _ _ _ h => h) G G G G G (fun hb => by cases hb) ?_
 refine SR.gtake (v := undef) 7 G kR kR kR G (fun _ _ _ _ h => h) G G G G G (fun hb => by cases hb) ?_
 refine SR.gtake (v := undef) 8 G kR kR kR G (fun _ _ _ _ h => h) G G G G G (fun hb => by cases hb) ?_
 refine SR.gtake (v := undef) 9 G kR kR kR G (fun _ _ _ _ h => h) G G G G G (fun hb => by cases hb) ?_
 refine SR.gtake (v := undef) 10 G kR kR kR G (fun _ _ _ _ h => h) G G G G G (fun hb => by cases hb) ?_
 refine SR.gtake (v := undef) 11 G kR kR kR G (fun _ _ _ _ h => h) G G G G G (fun hb => by cases hb) ?_
 refine SR.gtake (v := undef) 12 G kR kR kR G (fun _ _ _ _ h => h) G G G G G (fun hb => by cases hb) ?_
 refine SR.z 13 G G (ev_pickf G G G G) ?_
 refine SR.fin kR hl_16 hx_16 hR_16 .n ?_
 refine SQ.go idQ ?_
 refine .cond_f G ?_
 refine .skipgo idQ (.seq ?_)
 refine SC.draw mo [cel wb [.slice oA on oc, .slice iA ik ic, .slice kA kn kc, .slice gA gn gc] 59, rw_ eLK 37 (.slice kA kn kc) K] [(10, fun w => At w wb 0 [.slice oA on oc, .slice iA ik ic, .slice kA kn kc, .slice gA gn gc])] (.c (.t .h) (.c (.t2 (.t .h)) .n)) (fun w_ _ hw_ => (sc1 (At.whole 0 G w_ hw_) sc0)) (fun wf_17 hl_17 hx_17 hR_17 => ?_)
 refine SR.m 0 G G G G ?_
 refine SR.m 1 G G G G ?_
 refine SR.z 2 G G (ev_nil G G) ?_
 refine SR.z 3 G G (ev_fa G fo59_2 G (r := 2) G) ?_
 refine SR.z 4 G G (ev_ld1 G ty34 G (At.elem1 (v := .slice kA kn kc) (At.ofcs 0 G kR) 2 G)) ?_
 refine SR.z 5 G G (ev_lda (cs := [.int .i64 k.lf, .int .i64 k.lt, .int .i64 k.lw, .int .i64 k.lm]) G G (At.d (At.lent hR_17 0 G G)) ty37) ?_
 refine SR.o 6 G (st_lit eLK (e := 37) (l := [k]) G G G G kR G G kW (fun b18 => ⟨ttw 1 G, ?_⟩))
 refine SR.o 7 G (st_app (E := eLK) (m := [k]) G G G G underlying34 ai37 G G G (.t2 .h) rO (row_src 0 G) lO G (fun v19 => ⟨ttw 2 G, ?_⟩))
 refine SR.z 8 G G (ev_nil G G) ?_
 refine SR.z 9 G G (ev_fa G fo59_2 G (r := 2) G) ?_
 refine .know (row_len 0 G) (fun hv22 => ?_)
 obtain ⟨A20, c21, rfl, hv22_1, hv22_2⟩ := hv22
 unfold maxLen at hv22_2
 refine SR.o 10 G (st_store1 G G G ty34 G G G (.t2 .h) (.t2 .h) ⟨ttc (fun w_ hw_ => (tc2 kR tc0)), ?_⟩)
 refine SR.fin kR hl_17 hx_17 hR_17 (.c (.c (.c .n))) ?_
 refine SQ.go idQ ?_
 refine SC.outM k.lf oO oO (.t4 (.t2 .h)) ?_
 refine SC.outM k.lt oO oO (.t4 (.t4 .h)) ?_
 refine SC.draw mo [mp keZ.f (.int .i64) ((gt MI k.lt).mb) ((gt MI k.lt).mm), mp keZ.f (.int .i64) ((gt MO k.lf).mb) ((gt MO k.lf).mm)] [] (.c .h (.c (.t .h) .n)) (fun _ _ _ => sc0) (fun wf_23 hl_23 hx_23 hR_23 => ?_)
 refine SR.m 0 G G G G ?_
 refine SR.z 1 G G (ev_nil G G) ?_
 refine SR.z 2 G G (ev_fa G fo59_0 G (r := 0) G) ?_
 refine SR.z 3 G G (ev_ld1 G ty57 G (At.d (At.lent hR_23 2 G G))) ?_
 refine SR.z 4 G G (ev_fa G fo37_0 G (r := 0) G) ?_
 refine SR.z 5 G G (ev_ld1 G ty3 G (At.d (At.lent hR_23 5 G G))) ?_
 refine SR.z 6 G G (ev_ix G underlying57 ty60 G G oO oO (fun _ _ => Fr.adr (i := k.lf) (Fr.lent (S := S) hR_23 6 G lO) oO oO)) ?_
 refine SR.z 7 G G (ev_ld1 G ty60 G (At.elem1 (At.d (Fr.el (i := k.lf) (Fr.lent (S := S) hR_23 6 G lO) oO oO)) 0 G)) ?_
 refine SR.z 8 G G (ev_fa G fo37_1 G (r := 1) G) ?_
 refine SR.z 9 G G (ev_ld1 G ty3 G (At.d (At.lent hR_23 5 G G))) ?_
 refine SR.m 10 G G G G ?_
 refine SR.z 11 G G (ev_nil G G) ?_
 refine SR.z 12 G G (ev_fa G fo59_1 G (r := 1) G) ?_
 refine SR.z 13 G G (ev_ld1 G ty57 G (At.d (At.lent hR_23 2 G G))) ?_
 refine SR.z 14 G G (ev_fa G fo37_1 G (r := 1) G) ?_
 refine SR.z 15 G G (ev_ld1 G ty3 G (At.d (At.lent hR_23 5 G G))) ?_
 refine SR.z 16 G G (ev_ix G underlying57 ty60 G G oO oO (fun _ _ => Fr.adr (i := k.lt) (Fr.lent (S := S) hR_23 7 G lO) oO oO)) ?_
 refine SR.z 17 G G (ev_ld1 G ty60 G (At.elem1 (At.d (Fr.el (i := k.lt) (Fr.lent (S := S) hR_23 7 G lO) oO oO)) 0 G)) ?_
 refine SR.z 18 G G (ev_fa G fo37_0 G (r := 0) G) ?_
 refine SR.z 19 G G (ev_ld1 G ty3 G (At.d (At.lent hR_23 5 G G))) ?_
 refine SR.m 20 G G G G ?_
 refine SR.z 21 G G (ev_nil G G) ?_
 refine SR.z 22 G G (ev_fa G fo59_2 G (r := 2) G) ?_
 refine SR.z 23 G G (ev_ld1 G ty34 G (At.d (At.lent hR_23 2 G G))) ?_
 refine SR.z 24 G G (ev_len G underlying34 G) ?_
 refine SR.z 25 G G (ev_sub G G G (r := ((((K ++ [k]).length : Nat) : Int) - 1)) G oO oO) ?_
 refine SR.m 26 G G G G ?_
 refine SR.z 27 G G (ev_nil G G) ?_
 refine SR.z 28 G G (ev_fa G fo59_2 G (r := 2) G) ?_
 refine SR.z 29 G G (ev_ld1 G ty34 G (At.d (At.lent hR_23 2 G G))) ?_
 refine SR.z 30 G G (ev_len G underlying34 G) ?_
 refine SR.z 31 G G (ev_sub G G G (r := ((((K ++ [k]).length : Nat) : Int) - 1)) G oO oO) ?_
 refine SR.o 32 G (st_mapEntry keZ (x := k.lt) (z := 0) G G G G underlying60 zv3 G G (.t .h) (fun u24 n25 => ⟨tt0, ?_⟩))
 refine SR.z 33 G G (ev_ext G G G) ?_
 refine SR.o 34 G (st_entryStore keZ (u := undef) (x := k.lt) (v := ((((K ++ [k]).length : Nat) : Int) - 1)) G G G G G G .h ⟨tt0, ?_⟩)
 refine SR.o 35 G (st_mapEntry keZ (x := k.lf) (z := 0) G G G G underlying60 zv3 G G (.t .h) (fun u26 n27 => ⟨tt0, ?_⟩))
 refine SR.z 36 G G (ev_ext G G G) ?_
 refine SR.o 37 G (st_entryStore keZ (u := undef) (x := k.lf) (v := ((((K ++ [k]).length : Nat) : Int) - 1)) G G G G G G .h ⟨tt0, ?_⟩)
 refine SR.fin kR hl_23 hx_23 hR_23 (.c (.c .n)) ?_
 exact SQ.inM k.lf oO oO (.c (.t .h) (.c (.t2 .h) (.c (.t4 (.t2 .h)) .n))) <| SQ.inM k.lt oO oO (.c (.t2 .h) (.c (.t2 .h) (.c (.t4 (.t2 .h)) .n))) <| (end0 results26 (.c (.t4 .h) (.c (.t2 (.t .h)) (.c (.t .h) (.c (.t2 .h) (.c (.t .h) (.c .h .n)))))) ⟨.slice A20 ((K ++ [k]).length) c21, (MO.set (k.lf).toNat (MB.mk (gt MO k.lf).mb (mset (mins ((gt MO k.lf).mm) k.lt 0) k.lt ((((K ++ [k]).length : Nat) : Int) - 1)))), (MI.set (k.lt).toNat (MB.mk (gt MI k.lt).mb (mset (mins ((gt MI k.lt).mm) k.lf 0) k.lf ((((K ++ [k]).length : Nat) : Int) - 1)))), (K ++ [k]), (by rw [mset_mins, mset_mins]; exact link_new (fun h_ => by rw [hm] at h_; cases h_.1) (by rw [List.length_append, List.length_singleton]; omega)), (List.length_set ..), (List.length_set ..), G, G⟩)
end Go.Proofs.Ytlefdinbbjiabaa.Sx
set_option maxRecDepth 20000
set_option maxHeartbeats 1000000
namespace Go.Proofs.Ytlefdinbbjiabaa.Sx.FP
open Go Go.SX Go.Proofs Go.Proofs.Try FA FB FC FD FE FF FG FH FI FJ FK FL FM FN FO
theorem hbd29 : hasBody prog 29 = true := by kernel_rfl
theorem zf37 : (prog.info? 37).bind (fun i => i.zero.map Value.cells) = some (List.toArray [.int .i64 0, .int .i64 0, .int .i64 0, .int .i64 0]) := by kernel_rfl
theorem hbd26 : hasBody prog 26 = true := by kernel_rfl
end Go.Proofs.Ytlefdinbbjiabaa.Sx.FP
namespace Go.Proofs.Ytlefdinbbjiabaa.Sx
open Go Go.SX Go.Proofs Go.Proofs.Try FA FB FC FD FE FF FG FH FI FJ FK FL FM FN FO FP
theorem next_ (n : Int) (W : Int) (wb : Nat) (oA : Option Addr) (on : Nat) (oc : Nat) (MO : List MB) (iA : Option Addr) (ik : Nat) (ic : Nat) (MI : List MB) (kA : Option Addr) (kn : Nat) (kc : Nat) (K : List LK) (gA : Option Addr) (gn : Nat) (gc : Nat) (g : List Bool) (qb : Nat) (qA : Option Addr) (qn : Nat) (qc : Nat) (l : List EN) (pb : Nat) (m : List (Int × Int)) (S : Nat → Prop) (wf : World) (hG : GOK n (GS.mk (mmL MO) (mmL MI) K g)) (hls : MO.length = on ∧ MI.length = ik ∧ K.length = kn ∧ g.length = gn) (hW : WB (GS.mk (mmL MO) (mmL MI) K g) W) (hW2 : 0 ≤ W ∧ 2 * W ≤ 10000000000000000) (hkb : kn ≤ 50000) (hqn : l.length = qn) (hq0 : 0 < qn) (hqq : QQ l m) (hqd : ∀ x k, kq l x = some k → (0 ≤ x ∧ x < n) ∧ -10000 ≤ k ∧ k ≤ 10000) :
  TR0 prog 30 [.pointer (some ⟨wb, 0, none⟩), .pointer (some ⟨qb, 0, none⟩)] [cel wb [.slice oA on oc, .slice iA ik ic, .slice kA kn kc, .slice gA gn gc] 59, rw_ eMB 60 (.slice oA on oc) MO, rw_ eMB 60 (.slice iA ik ic) MI, rw_ eLK 37 (.slice kA kn kc) K, nestM MO, nestM MI, rw_ eB 4 (.slice gA gn gc) g, cel qb [.slice qA qn qc, .map (some pb)] 90, rw_ eEN 92 (.slice qA qn qc) l, mp keZ.f (.int .i64) pb m] S wf (fun v_ C_ => ∃ (u : Value) (MO2 : List MB) (MI2 : List MB) (K2 : List LK) (r : Int) (v : Value) (l2 : List EN) (m2 : List (Int × Int)), (NX (kq l) (GS.mk (mmL MO) (mmL MI) K g) r (kq l2) (GS.mk (mmL MO2) (mmL MI2) K2 (g.set r.toNat true))) ∧ (QQ l2 m2) ∧ (0 ≤ r ∧ r < n) ∧ v_ = .int .i64 r ∧ C_ = [cel wb [.slice oA on oc, .slice iA ik ic, u, .slice gA gn gc] 59, rw_ eMB 60 (.slice oA on oc) MO2, rw_ eMB 60 (.slice iA ik ic) MI2, rw_ eLK 37 (u) K2, nestM MO2, nestM MI2, rw_ eB 4 (.slice gA gn gc) (g.set (r).toNat true), cel qb [v, .map (some pb)] 90, rw_ eEN 92 (v) l2, mp keZ.f (.int .i64) pb m2]) := by
 have hGn := hG.n1
 have hGo : (MO.length : Int) = n := by rw [← mmL_len (l := MO)]; exact hG.lo
 have hGi : (MI.length : Int) = n := by rw [← mmL_len (l := MI)]; exact hG.li
 have hGg : (g.length : Int) = n := hG.lg
 refine TR.mk func30 G ntmps30 G G (fun w_ => ?_)
 refine .seq (.region (.a G G G (.go idQ (.block (.loop (X := (List EN) × Value × (List (Int × Int))) (fun ⟨Y, u_Y, ym⟩ => (∀ r f2 G2, NX (kq Y) (GS.mk (mmL MO) (mmL MI) K g) r f2 G2 → NX (kq l) (GS.mk (mmL MO) (mmL MI) K g) r f2 G2) ∧ QQ Y ym ∧ 0 < Y.length ∧ (∀ x k, kq Y x = some k → (0 ≤ x ∧ x < n) ∧ -10000 ≤ k ∧ k ≤ 10000)) (fun ⟨Y, u_Y, ym⟩ => [(0, .pointer (some ⟨wb, 0, none⟩)), (1, .pointer (some ⟨qb, 0, none⟩))]) (fun ⟨Y, u_Y, ym⟩ => [cel wb [.slice oA on oc, .slice iA ik ic, .slice kA kn kc, .slice gA gn gc] 59, rw_ eMB 60 (.slice oA on oc) MO, rw_ eMB 60 (.slice iA ik ic) MI, rw_ eLK 37 (.slice kA kn kc) K, nestM MO, nestM MI, rw_ eB 4 (.slice gA gn gc) g, cel qb [u_Y, .map (some pb)] 90, rw_ eEN 92 (u_Y) Y, mp keZ.f (.int .i64) pb ym]) (fun _ => S) (fun _ => wf) (fun ⟨Y, u_Y, ym⟩ => stl (GS.mk (mmL MO) (mmL MI) K g) (kq Y)) (fun a_ w_ hs_ hw_ => ⟨⟨l, .slice qA qn qc, m⟩, (by (try dsimp only); exact ⟨(fun _ _ _ h_ => h_), hqq, oO, hqd⟩), hs_.mono (Sub.get (.c G (.c G .n))), hw_.keep (.d (.d (.d (.d (.d .n)))))⟩) (fun ⟨Y, u_Y, ym⟩ ⟨q_0, q_1, q_2, q_3⟩ => ?_))))))
 try dsimp only
 have hyl := kq_len q_1.qi (fun x_ k_ hk_ => (q_3 x_ k_ hk_).1) oO
 refine .block (.seq (.region (.m G G G (.know (row_len 8 G) (fun hv3 => ?_)))))
 obtain ⟨A1, c2, rfl, hv3_1, hv3_2⟩ := hv3
 unfold maxLen at hv3_2
 refine .cons (st_call0 G G G G hbd46 G (.c (.t4 (.t2 (.t .h))) (.c (.t4 (.t2 (.t .h))) (.c (.t4 (.t2 (.t .h))) .n))) (qtake_ qb A1 Y.length c2 Y pb ym _ _ lO G lO q_1) (fun v_q8 C_q8 q8 => ?_))
 obtain ⟨x4, d5, l26, m27, p9, p10, p11, p12, rfl, rfl⟩ := q8
 show SP _ _ _ _ _ _ ⟨_, _ :: _ :: _ :: _, _, _⟩
 obtain ⟨p, hp_⟩ : ∃ p, p = x4 := ⟨_, rfl⟩
 subst hp_
 obtain ⟨key, hd_⟩ : ∃ d, d = d5 := ⟨_, rfl⟩
 subst hd_
 have hpr := q_3 p key p9.1
 refine .m G G G (.x G G G G (.x G G G G (.x G G G G ?_)))
 refine .a G G G (.a G G G (.a G G G (.go idQ (.seq (.seq (.region ?_))))))
 refine .m G G G (.m G G G (.cons (st_lendk G G G G hbd29 G (.c (.t2 (.t .h)) .n) (.c (.t2 (.t .h)) (.c (.t2 (.t .h)) (.c (.t2 (.t .h)) (.c (.t4 (.t .h)) (.c (.t2 (.t .h)) (.c (.t2 (.t .h)) .n)))))) (fun w_ hw => price_ n wb oA on oc MO iA ik ic MI kA kn kc K gA gn gc g p _ _ (Fr.lend hw 0 G lO) (Fr.lend hw 1 G lO) (Fr.lend hw 2 G lO) (Fr.lend hw 3 G lO) (MPF.lend hw 4 G) (MPF.lend hw 5 G) hG oO oO) (.a G G G ?_))))
 refine .go idQ (.seq ?_)
 have hpb := pr_bd (p := p) hG
 refine .region (.m G G G (.m G G G (.e G G G G G ?_)))
 refine .m G G G (.w (fun _ => ev_mv G G) G (.cons (st_gcallk G G G G G G hbd42 (fun hb => (lkA1 (lkg G hb) lkA0)) (.d (.c .h .n)) (fun hb => have hp := bT bD hb; qlen_ qb A1 (Y.length - 1) c2 l26 pb m27 _ _ p12) (.w (fun hb => ev_cmp G (lkg G hb) G G) G ?_))))
 refine .v (ev_and G G G G) G (.go idQ (.condI G (bA bD bD) (fun h13 => ?_) (fun h13 => ?_)))
 ·
  refine .seq (.region (.m G G G (.m G G G (.m G G G ?_))))
  refine .cons (st_call0 G G G G hbd28 G (.d (.c .h .n)) (qput_ qb A1 (Y.length - 1) c2 l26 pb m27 p (prG (GS.mk (mmL MO) (mmL MI) K g) p) _ _ p12 lO p11) (fun v_q18 C_q18 q18 => ?_))
  obtain ⟨u14, r15, l216, m217, p19, p20, p21, rfl, rfl⟩ := q18
  show SP _ _ _ _ _ _ ⟨_, _ :: _ :: _ :: _, _, _⟩
  refine .go idQ (.exitq idQ (SQ.roundb (X := (List EN) × Value × (List (Int × Int))) (x := (Y, (.slice A1 Y.length c2), ym)) ⟨l216, u14, m217⟩ (by (try dsimp only); exact ⟨(fun r_ f_ g_ h_ => q_0 r_ f_ g_ (.again p9 h13.1 (by obtain ⟨x_, k_, hx_⟩ := kq_some p11.qi oO; exact ⟨x_, by rw [← p10, hx_]; simp⟩) (by rw [p20, p10] at h_; exact h_))), p19, (nx_pos p19.qi p20), (nx_dom q_3 p10 p20 hpr.1 hpb)⟩) (stl_lt p9 oO h13.1 (by rw [p20, p10])) (Sub.get (.c rfl (.c rfl .n))) (kp (.c (.t2 (.t .h)) (.c (.t2 (.t .h)) (.c (.t2 (.t .h)) (.c (.t2 (.t .h)) (.c (.t2 (.t .h)) (.c (.t2 (.t .h)) (.c (.t2 (.t .h)) (.d (.c .h .n))))))))))))
 refine .skipgo idQ (.seq (.seq (.region (.m G G G (.m G G G (.cons (st_lend0 G G G G hbd45 G (.c (.t2 (.t .h)) .n) (.c (.t2 (.t .h)) (.c (.t2 (.t .h)) (.c (.t2 (.t .h)) (.c (.t4 (.t .h)) (.c (.t2 (.t .h)) (.c (.t2 (.t .h)) .n)))))) (fun w_ hw => shct_ n wb oA on oc MO iA ik ic MI kA kn kc K gA gn gc g p _ _ (Fr.lend hw 0 G lO) (Fr.lend hw 1 G lO) (Fr.lend hw 2 G lO) (Fr.lend hw 3 G lO) (MPF.lend hw 4 G) (MPF.lend hw 5 G) hG oO oO) (fun v_q23 C_q23 q23 => ?_))))))))
 obtain ⟨u22, rfl, rfl⟩ := q23
 show SP _ _ _ _ _ _ ⟨_, _ :: _ :: _ :: _ :: _ :: _ :: _ :: _ :: _, _, _⟩
 refine .know (row_len 1 G) (fun hv26 => ?_)
 obtain ⟨A24, c25, rfl, hv26_1, hv26_2⟩ := hv26
 unfold maxLen at hv26_2
 refine .g underlying34 G G G (.m G G G (.go idQ (.block (.loop (X := Int × (List LK) × Value × (List MB) × (List MB)) (fun ⟨i, KK, u_KK, M1, M2⟩ => 0 ≤ i ∧ i ≤ ((scG (GS.mk (mmL MO) (mmL MI) K g) p).length : Int) ∧ GS.mk (mmL M1) (mmL M2) KK g = linksG (GS.mk (mmL MO) (mmL MI) K g) ((scG (GS.mk (mmL MO) (mmL MI) K g) p).take i.toNat) ∧ M1.length = on ∧ M2.length = ik) (fun ⟨i, KK, u_KK, M1, M2⟩ => [(0, .pointer (some ⟨wb, 0, none⟩)), (1, .pointer (some ⟨qb, 0, none⟩)), (5, .int .i64 p), (34, .slice A24 ((scG (GS.mk (mmL MO) (mmL MI) K g) p).length) c25), (35, .int .i64 (((scG (GS.mk (mmL MO) (mmL MI) K g) p).length : Nat) : Int)), (36, .int .i64 i)]) (fun ⟨i, KK, u_KK, M1, M2⟩ => [cel wb [.slice oA on oc, .slice iA ik ic, u_KK, .slice gA gn gc] 59, rw_ eLK 37 (.slice A24 ((scG (GS.mk (mmL MO) (mmL MI) K g) p).length) c25) (scG (GS.mk (mmL MO) (mmL MI) K g) p), rw_ eMB 60 (.slice oA on oc) M1, rw_ eMB 60 (.slice iA ik ic) M2, rw_ eLK 37 (u_KK) KK, rw_ eB 4 (.slice gA gn gc) g, nestM M1, nestM M2, cel qb [.slice A1 (Y.length - 1) c2, .map (some pb)] 90, rw_ eEN 92 (.slice A1 (Y.length - 1) c2) l26, mp keZ.f (.int .i64) pb m27]) (fun _ => S) (fun _ => wf) (fun ⟨i, KK, u_KK, M1, M2⟩ => (((scG (GS.mk (mmL MO) (mmL MI) K g) p).length : Int) - i).toNat) (fun a_ w_ hs_ hw_ => ⟨⟨0, K, .slice kA kn kc, MO, MI⟩, (by (try dsimp only); exact ⟨oO, oO, (by rfl), oO, oO⟩), hs_.mono (Sub.get (.c4 G G G G (.c G (.c G .n)))), hw_.keep (.d (.d (.d (.d (.d (.c .h .n))))))⟩) (fun ⟨i, KK, u_KK, M1, M2⟩ ⟨r_0, r_1, r_2, r_3, r_4⟩ => ?_)))))
 try dsimp only
 have hsk := sc_kok hG hW hW2.1 (p := p)
 have hsl := scG_len hG p
 have hlo := links_ok (n := n) (W := 2 * W) (l := (scG (GS.mk (mmL MO) (mmL MI) K g) p).take i.toNat) hG (fun k_ hk_ => Int.le_trans (hW k_ hk_) oO) oO (fun k_ hk_ => hsk k_ (List.mem_of_mem_take hk_))
 have hGi := hlo.1
 rw [← r_2] at hGi
 have hkk := hlo.2.2.1
 rw [← r_2, List.length_take] at hkk
 have hkk2 : KK.length ≤ K.length + 1024 := by have h_ : KK.length ≤ K.length + min i.toNat ((scG (GS.mk (mmL MO) (mmL MI) K g) p).length) := hkk; omega
 refine .seq (.region (.e G G G G G (.go idQ (.seq (.condI G bD (fun h27 => ?_) (fun h27 => ?_))))))
 ·
  refine .skipgo idQ (.seq (.block (.seq (.region (.v (ev_ix G underlying34 ty37 G G oO oO (row_adr (i := i) 1 G oO lO)) G (.v (ev_lda G G (row_el (E := eLK) (l := (scG (GS.mk (mmL MO) (mmL MI) K g) p)) (i := i) 1 G oO lO) ty37) G (.cons (st_alloc G G G G zf37 (fun b28 => ?_)))))))))
  refine .cons (st_storea (l' := [.int .i64 ((gt (scG (GS.mk (mmL MO) (mmL MI) K g) p) i).lf), .int .i64 ((gt (scG (GS.mk (mmL MO) (mmL MI) K g) p) i).lt), .int .i64 ((gt (scG (GS.mk (mmL MO) (mmL MI) K g) p) i).lw), .int .i64 ((gt (scG (GS.mk (mmL MO) (mmL MI) K g) p) i).lm)]) G G G ty37 G G G .h G G ?_)
  refine .go idQ (.region (.m G G G (.d 0 ty37 G G G G (.know (row_len 5 G) (fun hv31 => ?_)))))
  obtain ⟨A29, c30, rfl, hv31_1, hv31_2⟩ := hv31
  unfold maxLen at hv31_2
  refine .cons (st_call0 G G G G hbd26 G (.c (.t .h) (.c (.t2 .h) (.c (.t2 .h) (.c (.t2 .h) (.c (.t2 (.t .h)) (.c (.t2 (.t .h)) .n)))))) (link_ n wb oA on oc M1 iA ik ic M2 A29 KK.length c30 KK gA gn gc g (gt (scG (GS.mk (mmL MO) (mmL MI) K g) p) i) _ _ hGi oO (hsk _ (gtM oO oO)).1 oO) (fun v_q36 C_q36 q36 => ?_))
  obtain ⟨u32, MO233, MI234, K235, p37, p38, p39, rfl, rfl⟩ := q36
  show SP _ _ _ _ _ _ ⟨_, _ :: _ :: _ :: _ :: _ :: _ :: _, _, _⟩
  refine .go idQ (.region (.p ((i + 1)) oO oO G G G G G (.m G G G ?_)))
  exact SP.nil (SQ.roundb (X := Int × (List LK) × Value × (List MB) × (List MB)) (x := (i, KK, (.slice A29 KK.length c30), M1, M2)) ⟨(i + 1), K235, u32, MO233, MI234⟩ (by (try dsimp only); exact ⟨oO, oO, (links_next r_2 oO oO p37), (p38.trans r_3), (p39.trans r_4)⟩) dO (Sub.get (.c4 G G G G (.c G (.c G .n)))) (kp (.c .h (.c (.t4 (.t2 .h)) (.d (.c .h (.c (.t2 (.t .h)) (.d (.c (.t .h) (.c (.t .h) (.c (.t .h) .n)))))))))))
 refine .exit idQ ?_
 refine .seq (.region (.m G G G (.v (ev_nil G G) G (.f fo59_3 3 G G G G ?_))))
 refine .l ty43 0 G G G G G (.m G G G (.v (ev_ix G underlying43 ty4 G G oO oO (row_adr (i := p) 5 G oO oO)) G (.cons (st_setel (E := eB) (i := p) (cs := [.bool true]) (off := 0) true G G G ty4 G G G G G (.t4 (.t .h)) lO lO (Nat.le_of_ble_eq_true G) G ?_))))
 refine .go idQ (.seq (.region (.m G G G (.a G G G (.go idQ ?_)))))
 exact .ret idQ (ret1 results30 rfl (.c (.t .h) (.c (.t2 .h) (.c (.t2 .h) (.c (.t2 .h) (.c (.t2 .h) (.c (.t2 .h) (.c .h (.c (.t .h) (.c (.t .h) (.c (.t .h) .n)))))))))) ⟨u_KK, M1, M2, KK, p, .slice A1 (Y.length - 1) c2, l26, m27, (q_0 _ _ _ (nx_take p9 (fun h_ => h13 ⟨h_.1, by obtain ⟨x_, hx_⟩ := h_.2; rw [← p10] at hx_; exact nx_some hx_ p12⟩) p10 (by rw [← List.take_of_length_le (l := (scG (GS.mk (mmL MO) (mmL MI) K g) p)) (i := i.toNat) oO, ← r_2]; rfl))), p11, hpr.1, rfl, rfl⟩)
end Go.Proofs.Ytlefdinbbjiabaa.Sx
set_option maxRecDepth 20000
set_option maxHeartbeats 8000000
namespace Go.Proofs.Ytlefdinbbjiabaa.Sx.FQ
open Go Go.SX Go.Proofs Go.Proofs.Try FA FB FC FD FE FF FG FH FI FJ FK FL FM FN FO FP
theorem ai4 : (prog.info? 4).map (fun i => (i.zero, i.size, i.bytes)) = some (some (.bool false), 1, 1) := by kernel_rfl
theorem ai60 : (prog.info? 60).map (fun i => (i.zero, i.size, i.bytes)) = some (some (.map none), 1, 8) := by kernel_rfl
theorem ai27 : (prog.info? 27).map (fun i => (i.zero, i.size, i.bytes)) = some (some (.slice none 0 0), 1, 24) := by kernel_rfl
theorem fo68_1 : fo prog 68 1 = some 1 := by kernel_rfl
theorem fo68_0 : fo prog 68 0 = some 0 := by kernel_rfl
theorem fo68_2 : fo prog 68 2 = some 2 := by kernel_rfl
theorem ty66 : ty prog 66 = some (false, 1) := by kernel_rfl
theorem fo68_3 : fo prog 68 3 = some 3 := by kernel_rfl
theorem hbd30 : hasBody prog 30 = true := by kernel_rfl
theorem hbd25 : hasBody prog 25 = true := by kernel_rfl
theorem zf64 : (prog.info? 64).bind (fun i => i.zero.map Value.cells) = some (List.toArray [.int .i64 0, .int .i64 0]) := by kernel_rfl
theorem fo64_0 : fo prog 64 0 = some 0 := by kernel_rfl
theorem fo64_1 : fo prog 64 1 = some 1 := by kernel_rfl
end Go.Proofs.Ytlefdinbbjiabaa.Sx.FQ
namespace Go.Proofs.Ytlefdinbbjiabaa.Sx
open Go Go.SX Go.Proofs Go.Proofs.Try FA FB FC FD FE FF FG FH FI FJ FK FL FM FN FO FP FQ
theorem build__s30 (n : Int) (t : List Int) (b : Nat) (fA : Option Addr) (fc : Nat) (fi : List Int) (eA : Option Addr) (ec : Nat) (ed : List EG) (S : Nat → Prop) (wf : World) (hF : Fr eZ S wf fA fi) (hE : Fr eEG S wf eA ed) (hT : TabOk n t) (hGr : GOk n t fi ed) (hec : ed.length ≤ ec) (lb : Nat) (wb : Nat) (rb : Nat) (xb : Nat) (yb : Nat) (wo : Value) (wi : Value) (wk : Value) (wg : Value) (R : List Int) (KK : List LK) (ps : List Int) (j_0 : ∃ f_ G_, NXS ps (pqF (G1 n fi ed) n) (G1 n fi ed) f_ G_ ∧ KK = G_.gl) (j_1 : (ps.length : Int) = n) (j_2 : R = rkL n ps) (V : Env) :
  SC V prog (bodyPost prog Try.f10 (TRp V S wf (fun v_ C_ S_ wf_ => (fun v_ C_ => ∃ (lb : Nat) (v1 : Value) (v2 : Value) (v3 : Value) (v4 : Value) (R : List Int) (K : List LK) (U : List IL) (D : List IL), (LftP n fi ed R K U D) ∧ v_ = .pointer (some ⟨lb, 0, none⟩) ∧ C_ = [cel b [.slice fA fi.length fc, .slice eA ed.length ec] 83, cel lb [v1, v2, v3, v4] 68, rw_ eZ 3 (v1) R, rw_ eLK 37 (v2) K, rw_ eIL 27 (v3) U, rw_ eIL 27 (v4) D, nestIL 3 U, nestIL 3 D]) v_ C_ ∧ S_ = S ∧ wf_ = wf))) 174 (sqR (sqR (sqR (sqR (sqR (sqR (sqR (sqR (sqR (sqR (bodyC Try.f10))))))))))) ⟨[(0, .pointer (some ⟨b, 0, none⟩)), (3, .int .i64 n), (4, .pointer (some ⟨wb, 0, none⟩)), (8, .pointer (some ⟨lb, 0, none⟩))], [cel lb [.slice (some ⟨rb, 0, none⟩) n.toNat n.toNat, .slice none 0 0, .slice (some ⟨xb, 0, none⟩) n.toNat n.toNat, .slice (some ⟨yb, 0, none⟩) n.toNat n.toNat] 68, cel wb [wo, wi, wk, wg] 59, rw_ eZ 3 (.slice (some ⟨rb, 0, none⟩) n.toNat n.toNat) R, rw_ eIL 27 (.slice (some ⟨xb, 0, none⟩) n.toNat n.toNat) (List.replicate n.toNat dIL), rw_ eIL 27 (.slice (some ⟨yb, 0, none⟩) n.toNat n.toNat) (List.replicate n.toNat dIL), rw_ eLK 37 (wk) KK, cel b [.slice fA fi.length fc, .slice eA ed.length ec] 83], S, wf⟩ := by
 have hn1 := hT.pl
 have hfl := hGr.len
 have hne := hGr.ne
 show SC _ _ _ _ (.seq _ _) _
 refine .seq (.region (.m G G G (.m G G G (.v (ev_nil G G) G ?_))))
 refine .f fo59_2 2 G G G G (.l ty34 1 G G G G G (.v (ev_nil G G) G (.f fo68_1 1 G G G G ?_)))
 refine .know (row_len 5 G) (fun hv96 => ?_)
 obtain ⟨A94, c95, rfl, hv96_1, hv96_2⟩ := hv96
 unfold maxLen at hv96_2
 refine .cons (st_store1 G G G ty34 G G G .h (.t .h) ?_)
 refine .go idQ (.seq (.seq ?_))
 refine SC.ILs 3 n.toNat ?_
 refine SC.ILs 3 n.toNat ?_
 obtain ⟨f_, G_, hnx, hKK⟩ := j_0
 have hfin := hnx.at hT hGr
 have hGf := hfin.1
 have hRl : (R.length : Int) = n := by rw [j_2, rkL_len]; omega
 have hkl2 : (KK.length : Int) ≤ 8448 + 1024 * ps.length := by rw [hKK]; exact hfin.2.2.2.2.2
 refine .region (.m G G G (.v (ev_nil G G) G (.f fo68_1 1 G G G G ?_)))
 refine .l ty34 2 G G G G G (.g underlying34 G G G (.m G G G (.go idQ (.block ?_))))
 refine .loop (X := Int × (List IL) × (List IL)) (fun ⟨i5, U, D⟩ => 0 ≤ i5 ∧ i5 ≤ (KK.length : Int) ∧ UD n R KK U D i5) (fun ⟨i5, U, D⟩ => [(0, .pointer (some ⟨b, 0, none⟩)), (3, .int .i64 n), (4, .pointer (some ⟨wb, 0, none⟩)), (8, .pointer (some ⟨lb, 0, none⟩)), (112, .slice A94 KK.length c95), (113, .int .i64 (KK.length : Int)), (114, .int .i64 i5)]) (fun ⟨i5, U, D⟩ => [nestIL 3 U, nestIL 3 D, cel lb [.slice (some ⟨rb, 0, none⟩) n.toNat n.toNat, .slice A94 KK.length c95, .slice (some ⟨xb, 0, none⟩) n.toNat n.toNat, .slice (some ⟨yb, 0, none⟩) n.toNat n.toNat] 68, cel wb [wo, wi, .slice A94 KK.length c95, wg] 59, rw_ eZ 3 (.slice (some ⟨rb, 0, none⟩) n.toNat n.toNat) R, rw_ eIL 27 (.slice (some ⟨xb, 0, none⟩) n.toNat n.toNat) U, rw_ eIL 27 (.slice (some ⟨yb, 0, none⟩) n.toNat n.toNat) D, rw_ eLK 37 (.slice A94 KK.length c95) KK, cel b [.slice fA fi.length fc, .slice eA ed.length ec] 83]) (fun _ => S) (fun _ => wf) (fun ⟨i5, U, D⟩ => ((KK.length : Int) - i5).toNat) (fun a_ w_ hs_ hw_ => ⟨⟨0, (List.replicate n.toNat dIL), (List.replicate n.toNat dIL)⟩, (by (try dsimp only); exact ⟨oO, oO, (ud_0 oO)⟩), hs_.mono (Sub.get (.c4 G G G G (.c G (.c G (.c G .n))))), hw_.keep (.d (.d (.d (.d (.c .h .n)))))⟩) (fun ⟨i5, U, D⟩ ⟨v_0, v_1, v_2⟩ => ?_)
 try dsimp only
 have hul0 := v_2.lu
 have hdl0 := v_2.ld
 refine .seq (.region (.e G G G G G (.go idQ (.seq (.condI G bD (fun h97 => ?_) (fun h97 => ?_))))))
 ·
  refine .skipgo idQ (.seq (.block (.seq (.region (.m G G G (.v (ev_ix G underlying34 ty37 G G oO oO (row_adr (i := i5) 7 G oO oO)) G (.v (ev_lda G G (row_el (E := eLK) (l := KK) (i := i5) 7 G oO oO) ty37) G ?_)))))))
  refine .cons (st_alloc G G G G zf37 (fun b98 => ?_))
  refine .a G G G (.cons (st_storea (l' := [.int .i64 ((gt KK i5).lf), .int .i64 ((gt KK i5).lt), .int .i64 ((gt KK i5).lw), .int .i64 ((gt KK i5).lm)]) G G G ty37 G G G .h G G (.go idQ (.seq ?_))))
  have hki : (0 ≤ ((gt KK i5).lf) ∧ ((gt KK i5).lf) < n) ∧ (0 ≤ ((gt KK i5).lt) ∧ ((gt KK i5).lt) < n) := by have h_ := hGf.lk i5 oO (by rw [← hKK]; omega); rw [← hKK] at h_; exact ⟨⟨h_.1, h_.2.1⟩, h_.2.2.1, h_.2.2.2.1⟩
  refine SC.draw mo [] [] .n (fun _ _ _ => sc0) (fun wf_99 hl_99 hx_99 hR_99 => ?_)
  refine SR.m 0 G G G G ?_
  refine SR.z 1 G G (ev_nil G G) ?_
  refine SR.z 2 G G (ev_fa G fo68_0 G (r := 0) G) ?_
  refine SR.z 3 G G (ev_ld1 G ty27 G (At.d (At.lent hR_99 3 G G))) ?_
  refine SR.z 4 G G (ev_fa G fo37_0 G (r := 0) G) ?_
  refine SR.z 5 G G (ev_ld1 G ty3 G (At.d (At.lent hR_99 0 G G))) ?_
  refine SR.z 6 G G (ev_ix G underlying27 ty3 G G oO oO (fun _ _ => Fr.adr (i := (gt KK i5).lf) (Fr.lent (S := S) hR_99 5 G lO) oO oO)) ?_
  refine SR.z 7 G G (ev_ld1 G ty3 G (At.elem1 (At.d (Fr.el (i := (gt KK i5).lf) (Fr.lent (S := S) hR_99 5 G lO) oO oO)) 0 G)) ?_
  refine SR.m 8 G G G G ?_
  refine SR.z 9 G G (ev_nil G G) ?_
  refine SR.z 10 G G (ev_fa G fo68_0 G (r := 0) G) ?_
  refine SR.z 11 G G (ev_ld1 G ty27 G (At.d (At.lent hR_99 3 G G))) ?_
  refine SR.z 12 G G (ev_fa G fo37_1 G (r := 1) G) ?_
  refine SR.z 13 G G (ev_ld1 G ty3 G (At.d (At.lent hR_99 0 G G))) ?_
  refine SR.z 14 G G (ev_ix G underlying27 ty3 G G oO oO (fun _ _ => Fr.adr (i := (gt KK i5).lt) (Fr.lent (S := S) hR_99 5 G lO) oO oO)) ?_
  refine SR.z 15 G G (ev_ld1 G ty3 G (At.elem1 (At.d (Fr.el (i := (gt KK i5).lt) (Fr.lent (S := S) hR_99 5 G lO) oO oO)) 0 G)) ?_
  refine SR.z 16 G G (ev_cmp G G G G) ?_
  refine SR.fin kR hl_99 hx_99 hR_99 .n ?_
  refine SQ.go idQ ?_
  refine .condI G bD (fun h100 => ?_) (fun h100 => ?_)
  ·
   have hul := v_2.u ((gt KK i5).lf) oO oO
   have hun := upJ_len R KK ((gt KK i5).lf) i5.toNat
   rw [← hul] at hun
   refine SC.outIL ((gt KK i5).lf) oO oO (.t .h) (fun hol => ?_)
   refine SC.draw mo [rw_ eZ 3 (.slice ((gt U ((gt KK i5).lf)).ilA) ((gt U ((gt KK i5).lf)).il.length) ((gt U ((gt KK i5).lf)).ilc)) ((gt U ((gt KK i5).lf)).il), rw_ eIL 27 (.slice (some ⟨xb, 0, none⟩) n.toNat n.toNat) U] [(18, fun w => At w (ab (some ⟨xb, 0, none⟩)) (ao (some ⟨xb, 0, none⟩) + ((gt KK i5).lf).toNat * eIL.sz) (eIL.enc (gt U ((gt KK i5).lf))))] (.c .h (.c (.t4 (.t2 .h)) .n)) (fun w_ _ hw_ => (sc1 (row_el (E := eIL) (l := U) (i := (gt KK i5).lf) 1 G oO lO w_ hw_) sc0)) (fun wf_101 hl_101 hx_101 hR_101 => ?_)
   refine SR.m 0 G G G G ?_
   refine SR.z 1 G G (ev_nil G G) ?_
   refine SR.z 2 G G (ev_fa G fo68_2 G (r := 2) G) ?_
   refine SR.z 3 G G (ev_ld1 G ty66 G (At.d (At.lent hR_101 3 G G))) ?_
   refine SR.z 4 G G (ev_fa G fo37_0 G (r := 0) G) ?_
   refine SR.z 5 G G (ev_ld1 G ty3 G (At.d (At.lent hR_101 1 G G))) ?_
   refine SR.m 6 G G G G ?_
   refine SR.z 7 G G (ev_nil G G) ?_
   refine SR.z 8 G G (ev_fa G fo68_2 G (r := 2) G) ?_
   refine SR.z 9 G G (ev_ld1 G ty66 G (At.d (At.lent hR_101 3 G G))) ?_
   refine SR.z 10 G G (ev_fa G fo37_0 G (r := 0) G) ?_
   refine SR.z 11 G G (ev_ld1 G ty3 G (At.d (At.lent hR_101 1 G G))) ?_
   refine SR.z 12 G G (ev_ix G underlying66 ty27 G G oO oO (fun _ _ => G)) ?_
   refine SR.z 13 G G (ev_ld1 G ty27 G (At.elem1 (At.ofcs 0 G kR) 0 G)) ?_
   refine SR.m 14 G G G G ?_
   refine SR.o 15 G (st_lit eZ (e := 3) (l := [i5]) G G G G kR G G kW (fun b102 => ⟨ttc (fun w_ hw_ => (tc1 (row_el (i := (gt KK i5).lf) 2 G oO oO w_ hw_) tc0)), ?_⟩))
   refine SR.o 16 G (st_app (E := eZ) (m := [i5]) G G G G underlying27 ai3 G G G (.t .h) rO (row_src 0 G) lO G (fun v103 => ⟨ttc (fun w_ hw_ => (tc1 (row_el (i := (gt KK i5).lf) 2 G oO oO w_ hw_) tc0)), ?_⟩))
   refine SR.z 17 G G (ev_ix G underlying66 ty27 G G oO oO (fun _ _ => G)) ?_
   refine .know (row_len 0 G) (fun hv106 => ?_)
   obtain ⟨A104, c105, rfl, hv106_1, hv106_2⟩ := hv106
   unfold maxLen at hv106_2
   refine SR.o 18 G (st_setel (E := eIL) (i := (gt KK i5).lf) (cs := [.slice A104 ((((gt U ((gt KK i5).lf)).il) ++ [i5]).length) c105]) (off := 0) (IL.mk (((gt U ((gt KK i5).lf)).il) ++ [i5]) A104 c105) G G G ty27 G G G G G (.t2 .h) lO lO (Nat.le_of_ble_eq_true G) G ⟨ttc (fun w_ hw_ => (tc2 kR tc0)), ?_⟩)
   refine SR.fin kR hl_101 hx_101 hR_101 (.c (.c (.c .n))) ?_
   refine SQ.go idQ ?_
   refine .region (.p ((i5 + 1)) oO oO G G G G G (.m G G G ?_))
   exact SP.nil (SQ.inIL ((gt KK i5).lf) (IL.mk (((gt U ((gt KK i5).lf)).il) ++ [i5]) A104 c105) oO oO (.c (.t .h) (.c (.t2 .h) .n)) (by rfl) (by rw [List.length_append, List.length_singleton]; omega) <| (SQ.roundb (X := Int × (List IL) × (List IL)) (x := (i5, U, D)) ⟨(i5 + 1), (U.set ((gt KK i5).lf).toNat (IL.mk (((gt U ((gt KK i5).lf)).il) ++ [i5]) A104 c105)), D⟩ (by (try dsimp only); exact ⟨oO, oO, (ud_up v_2 oO h100 oO)⟩) dO (Sub.get (.c4 G G G G (.c G (.c G (.c G .n))))) (kp (.c .h (.c (.t2 (.t .h)) (.c (.t2 (.t .h)) (.c (.t2 (.t .h)) (.c (.t2 (.t .h)) (.c .h (.c (.t2 .h) (.c (.t2 .h) (.c (.t2 .h) .n))))))))))))
  have hul := v_2.d ((gt KK i5).lt) oO oO
  have hun := dnJ_len R KK ((gt KK i5).lt) i5.toNat
  rw [← hul] at hun
  refine SC.outIL ((gt KK i5).lt) oO oO (.t2 .h) (fun hol => ?_)
  refine SC.draw mo [rw_ eZ 3 (.slice ((gt D ((gt KK i5).lt)).ilA) ((gt D ((gt KK i5).lt)).il.length) ((gt D ((gt KK i5).lt)).ilc)) ((gt D ((gt KK i5).lt)).il), rw_ eIL 27 (.slice (some ⟨yb, 0, none⟩) n.toNat n.toNat) D] [(18, fun w => At w (ab (some ⟨yb, 0, none⟩)) (ao (some ⟨yb, 0, none⟩) + ((gt KK i5).lt).toNat * eIL.sz) (eIL.enc (gt D ((gt KK i5).lt))))] (.c .h (.c (.t4 (.t2 (.t .h))) .n)) (fun w_ _ hw_ => (sc1 (row_el (E := eIL) (l := D) (i := (gt KK i5).lt) 1 G oO lO w_ hw_) sc0)) (fun wf_107 hl_107 hx_107 hR_107 => ?_)
  refine SR.m 0 G G G G ?_
  refine SR.z 1 G G (ev_nil G G) ?_
  refine SR.z 2 G G (ev_fa G fo68_3 G (r := 3) G) ?_
  refine SR.z 3 G G (ev_ld1 G ty66 G (At.d (At.lent hR_107 3 G G))) ?_
  refine SR.z 4 G G (ev_fa G fo37_1 G (r := 1) G) ?_
  refine SR.z 5 G G (ev_ld1 G ty3 G (At.d (At.lent hR_107 1 G G))) ?_
  refine SR.m 6 G G G G ?_
  refine SR.z 7 G G (ev_nil G G) ?_
  refine SR.z 8 G G (ev_fa G fo68_3 G (r := 3) G) ?_
  refine SR.z 9 G G (ev_ld1 G ty66 G (At.d (At.lent hR_107 3 G G))) ?_
  refine SR.z 10 G G (ev_fa G fo37_1 G (r := 1) G) ?_
  refine SR.z 11 G G (ev_ld1 G ty3 G (At.d (At.lent hR_107 1 G G))) ?_
  refine SR.z 12 G G (ev_ix G underlying66 ty27 G G oO oO (fun _ _ => G)) ?_
  refine SR.z 13 G G (ev_ld1 G ty27 G (At.elem1 (At.ofcs 0 G kR) 0 G)) ?_
  refine SR.m 14 G G G G ?_
  refine SR.o 15 G (st_lit eZ (e := 3) (l := [i5]) G G G G kR G G kW (fun b108 => ⟨ttc (fun w_ hw_ => (tc1 (row_el (i := (gt KK i5).lt) 2 G oO oO w_ hw_) tc0)), ?_⟩))
  refine SR.o 16 G (st_app (E := eZ) (m := [i5]) G G G G underlying27 ai3 G G G (.t .h) rO (row_src 0 G) lO G (fun v109 => ⟨ttc (fun w_ hw_ => (tc1 (row_el (i := (gt KK i5).lt) 2 G oO oO w_ hw_) tc0)), ?_⟩))
  refine SR.z 17 G G (ev_ix G underlying66 ty27 G G oO oO (fun _ _ => G)) ?_
  refine .know (row_len 0 G) (fun hv112 => ?_)
  obtain ⟨A110, c111, rfl, hv112_1, hv112_2⟩ := hv112
  unfold maxLen at hv112_2
  refine SR.o 18 G (st_setel (E := eIL) (i := (gt KK i5).lt) (cs := [.slice A110 ((((gt D ((gt KK i5).lt)).il) ++ [i5]).length) c111]) (off := 0) (IL.mk (((gt D ((gt KK i5).lt)).il) ++ [i5]) A110 c111) G G G ty27 G G G G G (.t2 .h) lO lO (Nat.le_of_ble_eq_true G) G ⟨ttc (fun w_ hw_ => (tc2 kR tc0)), ?_⟩)
  refine SR.fin kR hl_107 hx_107 hR_107 (.c (.c (.c .n))) ?_
  refine SQ.go idQ ?_
  refine .region (.p ((i5 + 1)) oO oO G G G G G (.m G G G ?_))
  exact SP.nil (SQ.inIL ((gt KK i5).lt) (IL.mk (((gt D ((gt KK i5).lt)).il) ++ [i5]) A110 c111) oO oO (.c (.t .h) (.c (.t2 .h) .n)) (by rfl) (by rw [List.length_append, List.length_singleton]; omega) <| (SQ.roundb (X := Int × (List IL) × (List IL)) (x := (i5, U, D)) ⟨(i5 + 1), U, (D.set ((gt KK i5).lt).toNat (IL.mk (((gt D ((gt KK i5).lt)).il) ++ [i5]) A110 c111))⟩ (by (try dsimp only); exact ⟨oO, oO, (ud_dn v_2 oO h100 oO)⟩) dO (Sub.get (.c4 G G G G (.c G (.c G (.c G .n))))) (kp (.c (.t4 .h) (.c .h (.c (.t2 (.t .h)) (.c (.t2 (.t .h)) (.c (.t2 (.t .h)) (.c (.t2 (.t .h)) (.c .h (.c (.t2 .h) (.c (.t2 .h) .n))))))))))))
 refine .exit idQ ?_
 refine .seq (.region (.m G G G (.a G G G (.go idQ ?_))))
 exact .ret idQ (ret1 results10 G (.c (.t4 (.t4 .h)) (.c (.t2 .h) (.c (.t2 (.t .h)) (.c (.t4 (.t .h)) (.c (.t2 (.t .h)) (.c (.t2 (.t .h)) (.d .n))))))) ⟨lb, .slice (some ⟨rb, 0, none⟩) n.toNat n.toNat, .slice A94 KK.length c95, .slice (some ⟨xb, 0, none⟩) n.toNat n.toNat, .slice (some ⟨yb, 0, none⟩) n.toNat n.toNat, R, KK, U, D, ⟨⟨ps, f_, G_, hnx, by omega, j_2, hKK⟩, by have h_ := v_2; rw [show i5 = (KK.length : Int) from by omega] at h_; exact h_⟩, G, G⟩)
theorem build__s18 (n : Int) (t : List Int) (b : Nat) (fA : Option Addr) (fc : Nat) (fi : List Int) (eA : Option Addr) (ec : Nat) (ed : List EG) (S : Nat → Prop) (wf : World) (hF : Fr eZ S wf fA fi) (hE : Fr eEG S wf eA ed) (hT : TabOk n t) (hGr : GOk n t fi ed) (hec : ed.length ≤ ec) (wb : Nat) (zb : Nat) (oA : Option Addr) (on : Nat) (oc : Nat) (iA : Option Addr) (ik : Nat) (ic : Nat) (u : Value) (K : List LK) (M1 : List MB) (M2 : List MB) (j_0 : (GS.mk (mmL M1) (mmL M2) K (List.replicate n.toNat false)) = (G1 n fi ed)) (j_1 : M1.length = on) (j_2 : M2.length = ik) (j_3 : (on : Int) = n) (j_4 : (ik : Int) = n) (V : Env) :
  SC V prog (bodyPost prog Try.f10 (TRp V S wf (fun v_ C_ S_ wf_ => (fun v_ C_ => ∃ (lb : Nat) (v1 : Value) (v2 : Value) (v3 : Value) (v4 : Value) (R : List Int) (K : List LK) (U : List IL) (D : List IL), (LftP n fi ed R K U D) ∧ v_ = .pointer (some ⟨lb, 0, none⟩) ∧ C_ = [cel b [.slice fA fi.length fc, .slice eA ed.length ec] 83, cel lb [v1, v2, v3, v4] 68, rw_ eZ 3 (v1) R, rw_ eLK 37 (v2) K, rw_ eIL 27 (v3) U, rw_ eIL 27 (v4) D, nestIL 3 U, nestIL 3 D]) v_ C_ ∧ S_ = S ∧ wf_ = wf))) 174 (sqR (sqR (sqR (sqR (sqR (sqR (bodyC Try.f10))))))) ⟨[(0, .pointer (some ⟨b, 0, none⟩)), (3, .int .i64 n), (4, .pointer (some ⟨wb, 0, none⟩))], [rw_ eLK 37 (u) K, rw_ eMB 60 (.slice oA on oc) M1, rw_ eMB 60 (.slice iA ik ic) M2, nestM M1, nestM M2, cel wb [.slice oA on oc, .slice iA ik ic, u, .slice (some ⟨zb, 0, none⟩) n.toNat n.toNat] 59, rw_ eB 4 (.slice (some ⟨zb, 0, none⟩) n.toNat n.toNat) (List.replicate n.toNat false), cel b [.slice fA fi.length fc, .slice eA ed.length ec] 83], S, wf⟩ := by
 have hn1 := hT.pl
 have hfl := hGr.len
 have hne := hGr.ne
 show SC _ _ _ _ (.seq _ _) _
 refine .seq ?_
 have hrl : (List.replicate n.toNat false).length = n.toNat := List.length_replicate
 have hG1 : (GS.mk (mmL M1) (mmL M2) K (List.replicate n.toNat false)) = (G1 n fi ed) := j_0
 have hok := pre_ok0 hT hGr (p := n) oO oO
 have hGG : GOK n (GS.mk (mmL M1) (mmL M2) K (List.replicate n.toNat false)) := by rw [hG1]; exact hok.1
 have hKb : (K.length : Int) ≤ 8448 := by have h_ := hok.2.2; rw [show linksG (G0 n) (bL fi ed n) = (G1 n fi ed) from rfl, ← hG1] at h_; exact h_
 refine SC.draw mo [] [] .n (fun _ _ _ => sc0) (fun wf_70 hl_70 hx_70 hR_70 => ?_)
 refine SR.cutx (X := Nat × Nat × Nat × Nat) (fun (yb71, yb72, yb73, yb74) => ([(0, .pointer (some ⟨b, 0, none⟩)), (3, .int .i64 n), (4, .pointer (some ⟨wb, 0, none⟩)), (8, .pointer (some ⟨yb71, 0, none⟩))], [cel yb71 [.slice (some ⟨yb72, 0, none⟩) ((n).toNat) ((n).toNat), .slice none 0 0, .slice (some ⟨yb73, 0, none⟩) ((n).toNat) ((n).toNat), .slice (some ⟨yb74, 0, none⟩) ((n).toNat) ((n).toNat)] 68, rw_ eIL 27 (.slice (some ⟨yb74, 0, none⟩) ((n).toNat) ((n).toNat)) (List.replicate ((n).toNat) dIL), rw_ eIL 27 (.slice (some ⟨yb73, 0, none⟩) ((n).toNat) ((n).toNat)) (List.replicate ((n).toNat) dIL), rw_ eZ 3 (.slice (some ⟨yb72, 0, none⟩) ((n).toNat) ((n).toNat)) (List.replicate ((n).toNat) 0), rw_ eLK 37 (u) K, rw_ eMB 60 (.slice oA on oc) M1, rw_ eMB 60 (.slice iA ik ic) M2, nestM M1, nestM M2, cel wb [.slice oA on oc, .slice iA ik ic, u, .slice (some ⟨zb, 0, none⟩) n.toNat n.toNat] 59, rw_ eB 4 (.slice (some ⟨zb, 0, none⟩) n.toNat n.toNat) (List.replicate n.toNat false), cel b [.slice fA fi.length fc, .slice eA ed.length ec] 83])) S wf (fun ⟨yb71, yb72, yb73, yb74⟩ => ?_) (fun key75 => ?_)
 ·
  try dsimp only
  refine SQ.go idQ ?_
  refine .seq (.region (.cons (st_call0 G G G G hbd27 G .n (qnew_ _ _) (fun v_q78 C_q78 q78 => ?_))))
  obtain ⟨b76, pb77, rfl, rfl⟩ := q78
  show SP _ _ _ _ _ _ ⟨_, _ :: _ :: _, _, _⟩
  refine .a G G G (.go idQ (.seq (.seq (.region (.m G G G (.m G G G ?_))))))
  refine .go idQ (.block ?_)
  refine SC.nilrow eEN 92 ?_
  refine .loop (X := Int × (List EN) × Value × (List (Int × Int))) (fun ⟨p3, Y, u_Y, ym⟩ => 0 ≤ p3 ∧ p3 ≤ n ∧ QQ Y ym ∧ kq Y = pqF (G1 n fi ed) p3) (fun ⟨p3, Y, u_Y, ym⟩ => [(0, .pointer (some ⟨b, 0, none⟩)), (3, .int .i64 n), (4, .pointer (some ⟨wb, 0, none⟩)), (8, .pointer (some ⟨yb71, 0, none⟩)), (9, .pointer (some ⟨b76, 0, none⟩)), (77, .int .i64 n), (78, .int .i64 p3)]) (fun ⟨p3, Y, u_Y, ym⟩ => [rw_ eEN 92 (u_Y) Y, cel b76 [u_Y, .map (some pb77)] 90, mp keZ.f (.int .i64) pb77 ym, cel yb71 [.slice (some ⟨yb72, 0, none⟩) ((n).toNat) ((n).toNat), .slice none 0 0, .slice (some ⟨yb73, 0, none⟩) ((n).toNat) ((n).toNat), .slice (some ⟨yb74, 0, none⟩) ((n).toNat) ((n).toNat)] 68, rw_ eIL 27 (.slice (some ⟨yb74, 0, none⟩) ((n).toNat) ((n).toNat)) (List.replicate ((n).toNat) dIL), rw_ eIL 27 (.slice (some ⟨yb73, 0, none⟩) ((n).toNat) ((n).toNat)) (List.replicate ((n).toNat) dIL), rw_ eZ 3 (.slice (some ⟨yb72, 0, none⟩) ((n).toNat) ((n).toNat)) (List.replicate ((n).toNat) 0), rw_ eLK 37 (u) K, rw_ eMB 60 (.slice oA on oc) M1, rw_ eMB 60 (.slice iA ik ic) M2, nestM M1, nestM M2, cel wb [.slice oA on oc, .slice iA ik ic, u, .slice (some ⟨zb, 0, none⟩) n.toNat n.toNat] 59, rw_ eB 4 (.slice (some ⟨zb, 0, none⟩) n.toNat n.toNat) (List.replicate n.toNat false), cel b [.slice fA fi.length fc, .slice eA ed.length ec] 83]) (fun _ => S) (fun _ => wf) (fun ⟨p3, Y, u_Y, ym⟩ => (n - p3).toNat) (fun a_ w_ hs_ hw_ => ⟨⟨0, ([] : List EN), .slice none 0 0, []⟩, (by (try dsimp only); exact ⟨oO, oO, QQ.nil, pq_0.symm⟩), hs_.mono (Sub.get (.c4 G G G G (.c G (.c G (.c G .n))))), hw_.keep (.d (.d (.d (.d (.d (.d (.d (.c .h .n))))))))⟩) (fun ⟨p3, Y, u_Y, ym⟩ ⟨s_0, s_1, s_2, s_3⟩ => ?_)
  try dsimp only
  have hyl := kq_len s_2.qi (fun x_ k_ hk_ => by rw [s_3] at hk_; exact pq_dom oO x_ k_ hk_) oO
  have hpb := pr_bd (p := p3) hGG
  refine .seq (.region (.e G G G G G (.go idQ (.seq (.condI G bD (fun h79 => ?_) (fun h79 => ?_))))))
  ·
   refine .skipgo idQ (.seq (.block (.seq (.region (.m G G G (.a G G G (.go idQ (.region ?_))))))))
   refine .m G G G (.m G G G (.m G G G (.m G G G ?_)))
   refine .know (row_len 7 G) (fun hv82 => ?_)
   obtain ⟨A80, c81, rfl, hv82_1, hv82_2⟩ := hv82
   unfold maxLen at hv82_2
   refine .cons (st_lendk G G G G hbd29 G (.c (.t4 (.t4 (.t4 .h))) .n) (.c (.t4 (.t4 .h)) (.c (.t4 (.t4 .h)) (.c (.t4 (.t2 (.t .h))) (.c (.t4 (.t4 (.t .h))) (.c (.t4 (.t2 (.t .h))) (.c (.t4 (.t2 (.t .h))) .n)))))) (fun w_ hw => price_ n wb oA on oc M1 iA ik ic M2 A80 K.length c81 K (some ⟨zb, 0, none⟩) n.toNat n.toNat (List.replicate n.toNat false) p3 _ _ (Fr.lend hw 0 G lO) (Fr.lend hw 1 G lO) (Fr.lend hw 2 G lO) (Fr.lend hw 3 G lO) (MPF.lend hw 4 G) (MPF.lend hw 5 G) hGG (by rw [List.length_replicate]; omega) oO) ?_)
   refine .know (row_len 0 G) (fun hv85 => ?_)
   obtain ⟨A83, c84, rfl, hv85_1, hv85_2⟩ := hv85
   unfold maxLen at hv85_2
   refine .cons (st_call0 G G G G hbd28 G (.c (.t .h) (.d .n)) (qput_ b76 A83 Y.length c84 Y pb77 ym p3 (prG (GS.mk (mmL M1) (mmL M2) K (List.replicate n.toNat false)) p3) _ _ G lO s_2) (fun v_q90 C_q90 q90 => ?_))
   obtain ⟨u86, r87, l288, m289, p91, p92, p93, rfl, rfl⟩ := q90
   show SP _ _ _ _ _ _ ⟨_, _ :: _ :: _ :: _, _, _⟩
   refine .go idQ (.region (.p ((p3 + 1)) oO oO G G G G G (.m G G G ?_)))
   exact SP.nil (SQ.roundb (X := Int × (List EN) × Value × (List (Int × Int))) (x := (p3, Y, (.slice A83 Y.length c84), ym)) ⟨(p3 + 1), l288, u86, m289⟩ (by (try dsimp only); exact ⟨oO, oO, p91, (by rw [p92, s_3, hG1]; exact pq_s G oO)⟩) dO (Sub.get (.c4 G G G G (.c G (.c G (.c G .n))))) (kp (.c (.t .h) (.d (.d (.d (.d (.d (.d (.d .n))))))))))
  refine .exit idQ ?_
  refine SC.seqx (X := Nat × Nat × Nat × Nat × Nat × Value × Value × Value × Value × (List Int) × (List LK) × (List Int)) (fun ⟨lb, wb, rb, xb, yb, wo, wi, wk, wg, R, KK, ps⟩ => (∃ f_ G_, NXS ps (pqF (G1 n fi ed) n) (G1 n fi ed) f_ G_ ∧ KK = G_.gl) ∧ ((ps.length : Int) = n) ∧ (R = rkL n ps)) (fun ⟨lb, wb, rb, xb, yb, wo, wi, wk, wg, R, KK, ps⟩ => ([(0, .pointer (some ⟨b, 0, none⟩)), (3, .int .i64 n), (4, .pointer (some ⟨wb, 0, none⟩)), (8, .pointer (some ⟨lb, 0, none⟩))], [cel lb [.slice (some ⟨rb, 0, none⟩) n.toNat n.toNat, .slice none 0 0, .slice (some ⟨xb, 0, none⟩) n.toNat n.toNat, .slice (some ⟨yb, 0, none⟩) n.toNat n.toNat] 68, cel wb [wo, wi, wk, wg] 59, rw_ eZ 3 (.slice (some ⟨rb, 0, none⟩) n.toNat n.toNat) R, rw_ eIL 27 (.slice (some ⟨xb, 0, none⟩) n.toNat n.toNat) (List.replicate n.toNat dIL), rw_ eIL 27 (.slice (some ⟨yb, 0, none⟩) n.toNat n.toNat) (List.replicate n.toNat dIL), rw_ eLK 37 (wk) KK, cel b [.slice fA fi.length fc, .slice eA ed.length ec] 83])) S wf (fun ⟨lb, wb, rb, xb, yb, wo, wi, wk, wg, R, KK, ps⟩ hk114 => ?_) (fun key113 => ?_)
  ·
   obtain ⟨j_0, j_1, j_2⟩ := hk114
   exact build__s30 n t b fA fc fi eA ec ed _ _ hF hE hT hGr hec lb wb rb xb yb wo wi wk wg R KK ps j_0 j_1 j_2 _
  refine .seq (.region (.m G G G (.m G G G (.go idQ (.block ?_)))))
  refine .loop (X := Int × (List EN) × Value × (List (Int × Int)) × (List LK) × Value × (List MB) × (List MB) × (List Bool) × (List Int) × (List Int)) (fun ⟨rk, Y2, u_Y2, ym2, KK, u_KK, M5, M6, gg, R, ps⟩ => NXS ps (pqF (G1 n fi ed) n) (G1 n fi ed) (kq Y2) (GS.mk (mmL M5) (mmL M6) KK gg) ∧ QQ Y2 ym2 ∧ ((ps.length : Int) = rk ∧ 0 ≤ rk ∧ rk ≤ n) ∧ R = rkL n ps ∧ (M5.length : Int) = n ∧ (M6.length : Int) = n ∧ (gg.length : Int) = n ∧ (∀ x k, kq Y2 x = some k → -10000 ≤ k ∧ k ≤ 10000)) (fun ⟨rk, Y2, u_Y2, ym2, KK, u_KK, M5, M6, gg, R, ps⟩ => [(0, .pointer (some ⟨b, 0, none⟩)), (3, .int .i64 n), (4, .pointer (some ⟨wb, 0, none⟩)), (8, .pointer (some ⟨yb71, 0, none⟩)), (9, .pointer (some ⟨b76, 0, none⟩)), (77, .int .i64 n), (78, .int .i64 p3), (88, .int .i64 n), (89, .int .i64 rk)]) (fun ⟨rk, Y2, u_Y2, ym2, KK, u_KK, M5, M6, gg, R, ps⟩ => [rw_ eEN 92 (u_Y2) Y2, cel b76 [u_Y2, .map (some pb77)] 90, mp keZ.f (.int .i64) pb77 ym2, cel yb71 [.slice (some ⟨yb72, 0, none⟩) ((n).toNat) ((n).toNat), .slice none 0 0, .slice (some ⟨yb73, 0, none⟩) ((n).toNat) ((n).toNat), .slice (some ⟨yb74, 0, none⟩) ((n).toNat) ((n).toNat)] 68, rw_ eIL 27 (.slice (some ⟨yb74, 0, none⟩) ((n).toNat) ((n).toNat)) (List.replicate ((n).toNat) dIL), rw_ eIL 27 (.slice (some ⟨yb73, 0, none⟩) ((n).toNat) ((n).toNat)) (List.replicate ((n).toNat) dIL), rw_ eZ 3 (.slice (some ⟨yb72, 0, none⟩) ((n).toNat) ((n).toNat)) R, rw_ eLK 37 (u_KK) KK, rw_ eMB 60 (.slice oA on oc) M5, rw_ eMB 60 (.slice iA ik ic) M6, nestM M5, nestM M6, cel wb [.slice oA on oc, .slice iA ik ic, u_KK, .slice (some ⟨zb, 0, none⟩) n.toNat n.toNat] 59, rw_ eB 4 (.slice (some ⟨zb, 0, none⟩) n.toNat n.toNat) gg, cel b [.slice fA fi.length fc, .slice eA ed.length ec] 83]) (fun _ => S) (fun _ => wf) (fun ⟨rk, Y2, u_Y2, ym2, KK, u_KK, M5, M6, gg, R, ps⟩ => (n - rk).toNat) (fun a_ w_ hs_ hw_ => ⟨⟨0, Y, u_Y, ym, K, u, M1, M2, (List.replicate n.toNat false), (List.replicate ((n).toNat) 0), ([] : List Int)⟩, (by (try dsimp only); exact ⟨(by have h_ := s_3; rw [show p3 = n from by omega] at h_; rw [h_, hG1]; exact .nil), s_2, ⟨G, by omega, by omega⟩, G, oO, oO, (by rw [List.length_replicate]; omega), (by have h_ := s_3; rw [show p3 = n from by omega] at h_; rw [h_]; exact pq_bd hok.1)⟩), hs_.mono (Sub.get (.c4 G G G G (.c4 G G G G (.c G .n)))), hw_.keep (.d (.d (.d (.d (.d (.d (.d (.c .h .n))))))))⟩) (fun ⟨rk, Y2, u_Y2, ym2, KK, u_KK, M5, M6, gg, R, ps⟩ ⟨t_0, t_1, t_2, t_3, t_4, t_5, t_6, t_7⟩ => ?_)
  try dsimp only
  have hat := t_0.at hT hGr
  have hkl : (KK.length : Int) ≤ 8448 + 1024 * ps.length := hat.2.2.2.2.2
  have hRl0 : (R.length : Int) = n := by rw [t_3, rkL_len]; omega
  refine .seq (.region (.e G G G G G (.go idQ (.seq (.condI G bD (fun h115 => ?_) (fun h115 => ?_))))))
  ·
   refine .skipgo idQ (.seq (.block (.seq (.region (.m G G G (.a G G G (.go idQ ?_)))))))
   refine .know (row_len 7 G) (fun hv118 => ?_)
   obtain ⟨A116, c117, rfl, hv118_1, hv118_2⟩ := hv118
   unfold maxLen at hv118_2
   refine .know (row_len 0 G) (fun hv121 => ?_)
   obtain ⟨A119, c120, rfl, hv121_1, hv121_2⟩ := hv121
   unfold maxLen at hv121_2
   refine SC.draw mo [rw_ eEN 92 (.slice A119 Y2.length c120) Y2, cel b76 [.slice A119 Y2.length c120, .map (some pb77)] 90, mp keZ.f (.int .i64) pb77 ym2, rw_ eZ 3 (.slice (some ⟨yb72, 0, none⟩) ((n).toNat) ((n).toNat)) R, rw_ eLK 37 (.slice A116 KK.length c117) KK, rw_ eMB 60 (.slice oA on oc) M5, rw_ eMB 60 (.slice iA ik ic) M6, nestM M5, nestM M6, cel wb [.slice oA on oc, .slice iA ik ic, .slice A116 KK.length c117, .slice (some ⟨zb, 0, none⟩) n.toNat n.toNat] 59, rw_ eB 4 (.slice (some ⟨zb, 0, none⟩) n.toNat n.toNat) gg] [] (.d (.c .h (.c (.t2 (.t .h)) (.c (.t2 (.t .h)) (.c (.t2 (.t .h)) (.c (.t2 (.t .h)) (.c (.t2 (.t .h)) (.c (.t2 (.t .h)) (.c (.t2 (.t .h)) (.c (.t2 (.t .h)) .n)))))))))) (fun _ _ _ => sc0) (fun wf_122 hl_122 hx_122 hR_122 => ?_)
   refine SR.m 0 G G G G ?_
   refine SR.z 1 G G (ev_nil G G) ?_
   refine SR.z 2 G G (ev_fa G fo68_0 G (r := 0) G) ?_
   refine SR.z 3 G G (ev_ld1 G ty27 G (At.d (At.lent hR_122 0 G G))) ?_
   refine SR.m 4 G G G G ?_
   refine SR.m 5 G G G G ?_
   refine SR.m 7 G G G G ?_
   refine SR.o 6 G (st_call0 G G G G hbd30 G (.c (.t4 (.t4 (.t .h))) (.c (.t4 (.t .h)) (.c (.t4 (.t .h)) (.c (.t4 .h) (.c (.t4 .h) (.c (.t4 .h) (.c (.t4 .h) (.c (.t .h) (.d .n))))))))) (next_ n (wBd ps.length) wb oA on oc M5 iA ik ic M6 A116 KK.length c117 KK (some ⟨zb, 0, none⟩) n.toNat n.toNat gg b76 A119 Y2.length c120 Y2 pb77 ym2 _ _ hat.1 oO hat.2.1 (by have h_ := wBd_le (k := ps.length) oO; omega) oO G (more_len (NXS.more hat.2.2.1 hat.2.2.2.1 oO)) t_1 (dom_kq hat.2.2.1 t_7)) (fun v_q131 C_q131 q131 => ⟨tt0, ?_⟩))
   obtain ⟨u123, MO2124, MI2125, K2126, r127, v128, l2129, m2130, p132, p133, p134, rfl, rfl⟩ := q131
   show SR _ _ _ _ _ _ _ _ _ ⟨_, _ :: _ :: _ :: _ :: _ :: _ :: _ :: _ :: _ :: _ :: _, _, _⟩
   refine SR.z 8 G G (ev_ix G underlying27 ty3 G G oO oO (fun _ _ => G)) ?_
   refine SR.o 9 G (st_setel (E := eZ) (i := r127) (cs := [.int .i64 rk]) (off := 0) rk G G G ty3 G G G G G (.t4 (.t4 (.t2 .h))) lO lO (Nat.le_of_ble_eq_true G) G ⟨tt0, ?_⟩)
   refine SR.fin kR hl_122 hx_122 hR_122 (.c (.c (.c (.c (.c (.c (.c (.c (.c (.c (.c .n))))))))))) ?_
   refine SQ.go idQ ?_
   refine .region (.p ((rk + 1)) oO oO G G G G G (.m G G G ?_))
   exact SP.nil (SQ.roundb (X := Int × (List EN) × Value × (List (Int × Int)) × (List LK) × Value × (List MB) × (List MB) × (List Bool) × (List Int) × (List Int)) (x := (rk, Y2, (.slice A119 Y2.length c120), ym2, KK, (.slice A116 KK.length c117), M5, M6, gg, R, ps)) ⟨(rk + 1), l2129, v128, m2130, K2126, u123, MO2124, MI2125, (gg.set (r127).toNat true), (R.set (r127).toNat rk), (ps ++ [r127])⟩ (by (try dsimp only); exact ⟨(.snoc t_0 p132), p133, ⟨by rw [List.length_append, List.length_singleton]; omega, by omega, by omega⟩, (by rw [rkL_snoc, ← t_3, t_2.1]), (by have h_ := (p132.inv hat.1 hat.2.1 (by have h_ := wBd_le (k := ps.length) oO; omega) (by have h_ := wBd_le (k := ps.length) oO; omega)).2.2.1.lo; rw [show (_ : Nat) = _ from mmL_len] at h_; exact h_), (by have h_ := (p132.inv hat.1 hat.2.1 (by have h_ := wBd_le (k := ps.length) oO; omega) (by have h_ := wBd_le (k := ps.length) oO; omega)).2.2.1.li; rw [show (_ : Nat) = _ from mmL_len] at h_; exact h_), (by rw [List.length_set]; exact t_6), (p132.bd hat.1 t_7)⟩) dO (Sub.get (.c4 G G G G (.c4 G G G G (.c G .n)))) (kp (.c (.t4 (.t4 (.t .h))) (.c (.t4 (.t4 .h)) (.c (.t4 (.t4 .h)) (.c (.t4 (.t4 .h)) (.c (.t4 (.t4 .h)) (.c (.t4 (.t4 .h)) (.c .h (.c (.t2 (.t .h)) (.c (.t .h) (.c (.t .h) (.c (.t .h) (.c (.t .h) (.d (.c .h .n))))))))))))))))
  refine .exit idQ ?_
  exact SC.weak (key113 ⟨yb71, wb, yb72, yb73, yb74, .slice oA on oc, .slice iA ik ic, u_KK, .slice (some ⟨zb, 0, none⟩) n.toNat n.toNat, R, KK, ps⟩ ⟨⟨_, _, t_0, G⟩, oO, t_3⟩) (Sub.get (.c4 G G G G .n)) (kp (.c (.t2 (.t .h)) (.c (.t4 (.t4 (.t2 (.t .h)))) (.c (.t4 (.t .h)) (.c (.t4 .h) (.c (.t2 (.t .h)) (.c (.t2 (.t .h)) (.c (.t4 (.t4 .h)) .n))))))))
 refine SR.m 0 G G G G ?_
 refine SR.m 2 G G G G ?_
 refine SR.m 4 G G G G ?_
 refine SR.three (i := 1) (j := 3) (l := 5) kR ⟨_, G, ?_⟩ ⟨_, G, ?_⟩ ⟨_, G, ?_⟩
 ·
  refine st_mkints (q := .i64) (n := (n).toNat) G G G G underlying27 ai3 G G oO oO G (fun b135 => ⟨tt0, ?_⟩)
  refine SR.two (i := 3) (j := 5) kR ⟨_, G, ?_⟩ ⟨_, G, ?_⟩
  ·
   refine st_mkslices (n := (n).toNat) G G G G underlying66 ai27 G G oO oO G (fun b136 => ⟨tt0, ?_⟩)
   refine SR.o 5 G (st_mkslices (n := (n).toNat) G G G G underlying66 ai27 G G oO oO G (fun b137 => ⟨tt0, ?_⟩))
   refine SR.z 6 G G (ev_any (v := .agg #[.slice (some ⟨b135, 0, none⟩) ((n).toNat) ((n).toNat), .slice none 0 0, .slice (some ⟨b136, 0, none⟩) ((n).toNat) ((n).toNat), .slice (some ⟨b137, 0, none⟩) ((n).toNat) ((n).toNat)]) G kR (fun _ => by kernel_rfl)) ?_
   refine SR.o 7 G (st_boxa G G G G G (fun b138 => ⟨tt0, ?_⟩))
   refine SR.z 8 G G (ev_as G G) ?_
   refine SR.fin kR hl_70 hx_70 hR_70 (.c (.c (.c (.c .n)))) ?_
   exact SQ.weak (key75 (b138, b135, b136, b137)) (Sub.get (.c4 G G G G .n)) (kp (.d (.d (.d (.d (.d (.d .n)))))))
  refine st_mkslices (n := (n).toNat) G G G G underlying66 ai27 G G oO oO G (fun b139 => ⟨tt0, ?_⟩)
  refine SR.o 3 G (st_mkslices (n := (n).toNat) G G G G underlying66 ai27 G G oO oO G (fun b140 => ⟨tt0, ?_⟩))
  refine SR.z 6 G G (ev_any (v := .agg #[.slice (some ⟨b135, 0, none⟩) ((n).toNat) ((n).toNat), .slice none 0 0, .slice (some ⟨b140, 0, none⟩) ((n).toNat) ((n).toNat), .slice (some ⟨b139, 0, none⟩) ((n).toNat) ((n).toNat)]) G kR (fun _ => by kernel_rfl)) ?_
  refine SR.o 7 G (st_boxa G G G G G (fun b141 => ⟨tt0, ?_⟩))
  refine SR.z 8 G G (ev_as G G) ?_
  refine SR.fin kR hl_70 hx_70 hR_70 (.c (.c (.c (.c .n)))) ?_
  exact SQ.weak (key75 (b141, b135, b140, b139)) (Sub.get (.c4 G G G G .n)) (kp (.c .h (.c (.t .h) (.d (.d (.d (.d (.d .n))))))))
 ·
  refine st_mkslices (n := (n).toNat) G G G G underlying66 ai27 G G oO oO G (fun b142 => ⟨tt0, ?_⟩)
  refine SR.two (i := 1) (j := 5) kR ⟨_, G, ?_⟩ ⟨_, G, ?_⟩
  ·
   refine st_mkints (q := .i64) (n := (n).toNat) G G G G underlying27 ai3 G G oO oO G (fun b143 => ⟨tt0, ?_⟩)
   refine SR.o 5 G (st_mkslices (n := (n).toNat) G G G G underlying66 ai27 G G oO oO G (fun b144 => ⟨tt0, ?_⟩))
   refine SR.z 6 G G (ev_any (v := .agg #[.slice (some ⟨b143, 0, none⟩) ((n).toNat) ((n).toNat), .slice none 0 0, .slice (some ⟨b142, 0, none⟩) ((n).toNat) ((n).toNat), .slice (some ⟨b144, 0, none⟩) ((n).toNat) ((n).toNat)]) G kR (fun _ => by kernel_rfl)) ?_
   refine SR.o 7 G (st_boxa G G G G G (fun b145 => ⟨tt0, ?_⟩))
   refine SR.z 8 G G (ev_as G G) ?_
   refine SR.fin kR hl_70 hx_70 hR_70 (.c (.c (.c (.c .n)))) ?_
   exact SQ.weak (key75 (b145, b143, b142, b144)) (Sub.get (.c4 G G G G .n)) (kp (.d (.c (.t .h) (.d (.d (.d (.d (.c .h .n))))))))
  refine st_mkslices (n := (n).toNat) G G G G underlying66 ai27 G G oO oO G (fun b146 => ⟨tt0, ?_⟩)
  refine SR.o 1 G (st_mkints (q := .i64) (n := (n).toNat) G G G G underlying27 ai3 G G oO oO G (fun b147 => ⟨tt0, ?_⟩))
  refine SR.z 6 G G (ev_any (v := .agg #[.slice (some ⟨b147, 0, none⟩) ((n).toNat) ((n).toNat), .slice none 0 0, .slice (some ⟨b142, 0, none⟩) ((n).toNat) ((n).toNat), .slice (some ⟨b146, 0, none⟩) ((n).toNat) ((n).toNat)]) G kR (fun _ => by kernel_rfl)) ?_
  refine SR.o 7 G (st_boxa G G G G G (fun b148 => ⟨tt0, ?_⟩))
  refine SR.z 8 G G (ev_as G G) ?_
  refine SR.fin kR hl_70 hx_70 hR_70 (.c (.c (.c (.c .n)))) ?_
  exact SQ.weak (key75 (b148, b147, b142, b146)) (Sub.get (.c4 G G G G .n)) (kp (.c .h (.c (.t .h) (.c (.t .h) (.d (.d (.d (.d (.c .h .n)))))))))
 refine st_mkslices (n := (n).toNat) G G G G underlying66 ai27 G G oO oO G (fun b149 => ⟨tt0, ?_⟩)
 refine SR.two (i := 1) (j := 3) kR ⟨_, G, ?_⟩ ⟨_, G, ?_⟩
 ·
  refine st_mkints (q := .i64) (n := (n).toNat) G G G G underlying27 ai3 G G oO oO G (fun b150 => ⟨tt0, ?_⟩)
  refine SR.o 3 G (st_mkslices (n := (n).toNat) G G G G underlying66 ai27 G G oO oO G (fun b151 => ⟨tt0, ?_⟩))
  refine SR.z 6 G G (ev_any (v := .agg #[.slice (some ⟨b150, 0, none⟩) ((n).toNat) ((n).toNat), .slice none 0 0, .slice (some ⟨b151, 0, none⟩) ((n).toNat) ((n).toNat), .slice (some ⟨b149, 0, none⟩) ((n).toNat) ((n).toNat)]) G kR (fun _ => by kernel_rfl)) ?_
  refine SR.o 7 G (st_boxa G G G G G (fun b152 => ⟨tt0, ?_⟩))
  refine SR.z 8 G G (ev_as G G) ?_
  refine SR.fin kR hl_70 hx_70 hR_70 (.c (.c (.c (.c .n)))) ?_
  exact SQ.weak (key75 (b152, b150, b151, b149)) (Sub.get (.c4 G G G G .n)) (kp (.c .h (.c (.t2 .h) (.d (.d (.d (.d (.d .n))))))))
 refine st_mkslices (n := (n).toNat) G G G G underlying66 ai27 G G oO oO G (fun b153 => ⟨tt0, ?_⟩)
 refine SR.o 1 G (st_mkints (q := .i64) (n := (n).toNat) G G G G underlying27 ai3 G G oO oO G (fun b154 => ⟨tt0, ?_⟩))
 refine SR.z 6 G G (ev_any (v := .agg #[.slice (some ⟨b154, 0, none⟩) ((n).toNat) ((n).toNat), .slice none 0 0, .slice (some ⟨b153, 0, none⟩) ((n).toNat) ((n).toNat), .slice (some ⟨b149, 0, none⟩) ((n).toNat) ((n).toNat)]) G kR (fun _ => by kernel_rfl)) ?_
 refine SR.o 7 G (st_boxa G G G G G (fun b155 => ⟨tt0, ?_⟩))
 refine SR.z 8 G G (ev_as G G) ?_
 refine SR.fin kR hl_70 hx_70 hR_70 (.c (.c (.c (.c .n)))) ?_
 exact SQ.weak (key75 (b155, b154, b153, b149)) (Sub.get (.c4 G G G G .n)) (kp (.c .h (.c (.t2 .h) (.c (.t .h) (.d (.d (.d (.d (.c .h .n)))))))))
theorem build_ (n : Int) (t : List Int) (b : Nat) (fA : Option Addr) (fc : Nat) (fi : List Int) (eA : Option Addr) (ec : Nat) (ed : List EG) (S : Nat → Prop) (wf : World) (hF : Fr eZ S wf fA fi) (hE : Fr eEG S wf eA ed) (hT : TabOk n t) (hGr : GOk n t fi ed) (hec : ed.length ≤ ec) :
  TR0 prog 10 [.pointer (some ⟨b, 0, none⟩)] [cel b [.slice fA fi.length fc, .slice eA ed.length ec] 83] S wf (fun v_ C_ => ∃ (lb : Nat) (v1 : Value) (v2 : Value) (v3 : Value) (v4 : Value) (R : List Int) (K : List LK) (U : List IL) (D : List IL), (LftP n fi ed R K U D) ∧ v_ = .pointer (some ⟨lb, 0, none⟩) ∧ C_ = [cel b [.slice fA fi.length fc, .slice eA ed.length ec] 83, cel lb [v1, v2, v3, v4] 68, rw_ eZ 3 (v1) R, rw_ eLK 37 (v2) K, rw_ eIL 27 (v3) U, rw_ eIL 27 (v4) D, nestIL 3 U, nestIL 3 D]) := by
 have hn1 := hT.pl
 have hfl := hGr.len
 have hne := hGr.ne
 refine TR.mk func10 G ntmps10 G G (fun w_ => ?_)
 refine .seq (.region (.a G G G (.go idQ (.seq (.seq (.region (.m G G G ?_)))))))
 refine .v (ev_bin G G G (r := .bool false) (fun _ => by kernel_rfl)) G (.go idQ (.cond_f G (.skipgo idQ (.seq (.region ?_)))))
 refine .m G G G (.cons (st_callk G G G G hbd24 G (.c .h .n) (gpl_ b fA fc fi eA ec ed _ _ hF hE) (.a G G G (.go idQ (.seq ?_)))))
 rw [show ((fi.length : Int) - 1) = n from by have h_ := hGr.len; omega]
 refine .region (.m G G G (.cons (st_mkbools (n := (n).toNat) G G G G underlying43 ai4 G G oO oO G (fun b1 => (.v (ev_any (v := .agg #[.slice none 0 0, .slice none 0 0, .slice none 0 0, .slice (some ⟨b1, 0, none⟩) ((n).toNat) ((n).toNat)]) G kR (fun _ => by kernel_rfl)) G ?_)))))
 refine .cons (st_boxa G G G G G (fun b2 => ?_))
 refine .a G G G (.go idQ (.seq (.seq ?_)))
 refine SC.nestM0 ?_
 refine SC.nestM0 ?_
 refine .region (.m G G G (.m G G G (.go idQ (.block ?_))))
 refine SC.nilrow eMB 60 ?_
 refine SC.nilrow eMB 60 ?_
 refine .loop (X := Int × (List MB) × Value × (List MB) × Value) (fun ⟨i, MO, u_MO, MI, u_MI⟩ => 0 ≤ i ∧ i ≤ n ∧ mmL MO = List.replicate i.toNat [] ∧ mmL MI = List.replicate i.toNat []) (fun ⟨i, MO, u_MO, MI, u_MI⟩ => [(0, .pointer (some ⟨b, 0, none⟩)), (2, .pointer none), (3, .int .i64 n), (4, .pointer (some ⟨b2, 0, none⟩)), (22, .int .i64 n), (23, .int .i64 i)]) (fun ⟨i, MO, u_MO, MI, u_MI⟩ => [rw_ eMB 60 (u_MO) MO, rw_ eMB 60 (u_MI) MI, nestM MO, nestM MI, cel b2 [u_MO, u_MI, .slice none 0 0, .slice (some ⟨b1, 0, none⟩) ((n).toNat) ((n).toNat)] 59, rw_ eB 4 (.slice (some ⟨b1, 0, none⟩) ((n).toNat) ((n).toNat)) (List.replicate ((n).toNat) false), cel b [.slice fA fi.length fc, .slice eA ed.length ec] 83]) (fun _ => S) (fun _ => wf) (fun ⟨i, MO, u_MO, MI, u_MI⟩ => (n - i).toNat) (fun a_ w_ hs_ hw_ => ⟨⟨0, ([] : List MB), .slice none 0 0, ([] : List MB), .slice none 0 0⟩, (by (try dsimp only); exact ⟨oO, oO, G, G⟩), hs_.mono (Sub.get (.c4 G G G G (.c G (.c G .n)))), hw_.keep (.d (.d (.d (.c .h .n))))⟩) (fun ⟨i, MO, u_MO, MI, u_MI⟩ ⟨q_0, q_1, q_2, q_3⟩ => ?_)
 try dsimp only
 have hmo := congrArg List.length q_2
 have hmi := congrArg List.length q_3
 rw [mmL_len, List.length_replicate] at hmo hmi
 refine .seq (.region (.e G G G G G (.go idQ (.seq (.condI G bD (fun h3 => ?_) (fun h3 => ?_))))))
 ·
  refine .skipgo idQ (.seq (.block ?_))
  refine SC.draw mo [rw_ eMB 60 (u_MO) MO, rw_ eMB 60 (u_MI) MI, cel b2 [u_MO, u_MI, .slice none 0 0, .slice (some ⟨b1, 0, none⟩) ((n).toNat) ((n).toNat)] 59] [(18, fun w => At w b2 0 [u_MO, u_MI, .slice none 0 0, .slice (some ⟨b1, 0, none⟩) ((n).toNat) ((n).toNat)])] (.d (.c (.t2 .h) .n)) (fun w_ _ hw_ => (sc1 (At.whole 2 G w_ hw_) sc0)) (fun wf_4 hl_4 hx_4 hR_4 => ?_)
  refine SR.cutx (X := (Option Addr) × Nat × Nat × (Option Addr) × Nat × Nat × Nat × Nat) (fun (yA5, yb6, yc7, yA8, yb9, yc10, yb11, yb12) => ([(0, .pointer (some ⟨b, 0, none⟩)), (2, .pointer none), (3, .int .i64 n), (4, .pointer (some ⟨b2, 0, none⟩)), (22, .int .i64 n), (23, .int .i64 i), (24, .bool (decide (i < n)))], [cel b2 [.slice yA5 ((MO ++ [(MB.mk yb6 [])]).length) yc7, .slice yA8 ((MI ++ [(MB.mk yb9 [])]).length) yc10, .slice none 0 0, .slice (some ⟨b1, 0, none⟩) ((n).toNat) ((n).toNat)] 59, rw_ eMB 60 (.slice yA8 ((MI ++ [(MB.mk yb9 [])]).length) yc10) (MI ++ [(MB.mk yb9 [])]), rw_ eMB 60 (.slice (some ⟨yb11, 0, none⟩) 1 1) [(MB.mk yb9 [])], mp keZ.f (.int .i64) yb9 ([] : List (Int × Int)), rw_ eMB 60 (.slice yA5 ((MO ++ [(MB.mk yb6 [])]).length) yc7) (MO ++ [(MB.mk yb6 [])]), rw_ eMB 60 (.slice (some ⟨yb12, 0, none⟩) 1 1) [(MB.mk yb6 [])], mp keZ.f (.int .i64) yb6 ([] : List (Int × Int)), nestM MO, nestM MI, rw_ eB 4 (.slice (some ⟨b1, 0, none⟩) ((n).toNat) ((n).toNat)) (List.replicate ((n).toNat) false), cel b [.slice fA fi.length fc, .slice eA ed.length ec] 83])) S wf (fun ⟨yA5, yb6, yc7, yA8, yb9, yc10, yb11, yb12⟩ => ?_) (fun key13 => ?_)
  ·
   try dsimp only
   refine SQ.go idQ ?_
   refine .region (.p ((i + 1)) oO oO G G G G G (.m G G G ?_))
   exact SP.nil (SQ.snocM (.c (.t4 (.t2 .h)) (.c (.t4 (.t2 .h)) .n)) <| SQ.snocM (.c (.t4 .h) (.c (.t4 (.t2 .h)) .n)) <| (SQ.roundb (X := Int × (List MB) × Value × (List MB) × Value) (x := (i, MO, u_MO, MI, u_MI)) ⟨(i + 1), (MO ++ [(MB.mk yb6 [])]), .slice yA5 ((MO ++ [(MB.mk yb6 [])]).length) yc7, (MI ++ [(MB.mk yb9 [])]), .slice yA8 ((MI ++ [(MB.mk yb9 [])]).length) yc10⟩ (by (try dsimp only); exact ⟨oO, oO, (by unfold mmL at *; rw [List.map_append, q_2]; exact (rep_snoc q_0).symm), (by unfold mmL at *; rw [List.map_append, q_3]; exact (rep_snoc q_0).symm)⟩) dO (Sub.get (.c4 G G G G (.c G (.c G .n)))) (kp (.c (.t4 (.t .h)) (.c (.t2 (.t .h)) (.c (.t .h) (.d (.c (.t2 .h) (.c (.t2 .h) .n)))))))))
  refine SR.join (X := Value × Nat × Nat × Value × Nat × Nat) (fun (zv14, zb15, zb16, zv17, zb18, zb19) => ([(0, .pointer (some ⟨b, 0, none⟩)), (2, .pointer none), (3, .int .i64 n), (4, .pointer (some ⟨b2, 0, none⟩)), (22, .int .i64 n), (23, .int .i64 i), (24, .bool (decide (i < n))), (26, .pointer (some ⟨b2, 0, none⟩)), (33, zv17), (40, zv14), (42, .pointer (some ⟨b2, 0, none⟩))], [rw_ eMB 60 (zv14) (MI ++ [(MB.mk zb15 [])]), rw_ eMB 60 (.slice (some ⟨zb16, 0, none⟩) 1 1) [(MB.mk zb15 [])], mp keZ.f (.int .i64) zb15 ([] : List (Int × Int)), rw_ eMB 60 (zv17) (MO ++ [(MB.mk zb18 [])]), rw_ eMB 60 (.slice (some ⟨zb19, 0, none⟩) 1 1) [(MB.mk zb18 [])], mp keZ.f (.int .i64) zb18 ([] : List (Int × Int)), cel b2 [u_MO, u_MI, .slice none 0 0, .slice (some ⟨b1, 0, none⟩) ((n).toNat) ((n).toNat)] 59])) 4 #[true, true, true, true, true, true, true, true, true, true, true, true, true, true, true, true, true, true, false, false, false, false] (fun ⟨zv14, zb15, zb16, zv17, zb18, zb19⟩ => ?_) (fun key20 => ?_)
  ·
   show SR _ _ _ _ _ _ _ _ _ ⟨[(0, .pointer (some ⟨b, 0, none⟩)), (2, .pointer none), (3, .int .i64 n), (4, .pointer (some ⟨b2, 0, none⟩)), (22, .int .i64 n), (23, .int .i64 i), (24, .bool (decide (i < n))), (26, .pointer (some ⟨b2, 0, none⟩)), (33, zv17), (40, zv14), (42, .pointer (some ⟨b2, 0, none⟩))], [rw_ eMB 60 (zv14) (MI ++ [(MB.mk zb15 [])]), rw_ eMB 60 (.slice (some ⟨zb16, 0, none⟩) 1 1) [(MB.mk zb15 [])], mp keZ.f (.int .i64) zb15 ([] : List (Int × Int)), rw_ eMB 60 (zv17) (MO ++ [(MB.mk zb18 [])]), rw_ eMB 60 (.slice (some ⟨zb19, 0, none⟩) 1 1) [(MB.mk zb18 [])], mp keZ.f (.int .i64) zb18 ([] : List (Int × Int)), cel b2 [u_MO, u_MI, .slice none 0 0, .slice (some ⟨b1, 0, none⟩) ((n).toNat) ((n).toNat)] 59], _, _⟩
   refine .know (row_len 3 G) (fun hv23 => ?_)
   obtain ⟨A21, c22, rfl, hv23_1, hv23_2⟩ := hv23
   unfold maxLen at hv23_2
   refine SR.o 18 G (st_store1 G G G ty57 G G G (.t4 (.t2 .h)) .h ⟨ttc (fun w_ hw_ => (tc2 kR tc0)), ?_⟩)
   refine SR.z 19 G G (ev_nil G G) ?_
   refine SR.z 20 G G (ev_fa G fo59_1 G (r := 1) G) ?_
   refine .know (row_len 1 G) (fun hv26 => ?_)
   obtain ⟨A24, c25, rfl, hv26_1, hv26_2⟩ := hv26
   unfold maxLen at hv26_2
   refine SR.o 21 G (st_store1 G G G ty57 G G G .h (.t .h) ⟨ttc (fun w_ hw_ => (tc2 kR tc0)), ?_⟩)
   refine SR.fin kR hl_4 hx_4 hR_4 (.c (.c (.c (.c (.c (.c (.c .n))))))) ?_
   exact SQ.weak (key13 (A21, zb18, c22, A24, zb15, c25, zb16, zb19)) (Sub.get (.c4 G G G G (.c G (.c G (.c G .n))))) (kp (.d (.d (.d (.d (.d (.c .h .n)))))))
  refine SR.m 0 G G G G ?_
  refine SR.m 1 G G G G ?_
  refine SR.m 2 G G G G ?_
  refine SR.z 3 G G (ev_nil G G) ?_
  refine SR.z 4 G G (ev_fa G fo59_0 G (r := 0) G) ?_
  refine SR.z 5 G G (ev_ld1 G ty57 G (At.elem1 (v := u_MO) (At.ofcs 0 G kR) 0 G)) ?_
  refine SR.m 9 G G G G ?_
  refine SR.z 10 G G (ev_nil G G) ?_
  refine SR.z 11 G G (ev_fa G fo59_1 G (r := 1) G) ?_
  refine SR.z 12 G G (ev_ld1 G ty57 G (At.elem1 (v := u_MI) (At.ofcs 0 G kR) 1 G)) ?_
  refine SR.two (i := 6) (j := 13) kR ⟨_, G, ?_⟩ ⟨_, G, ?_⟩
  ·
   refine st_mkmap (α := Int) (β := Int) keZ.f (.int .i64) G G G G (fun b27 => ⟨ttw 3 G, ?_⟩)
   refine SR.two (i := 7) (j := 13) kR ⟨_, G, ?_⟩ ⟨_, G, ?_⟩
   ·
    refine st_lit eMB (e := 60) (l := [(MB.mk b27 [])]) G G G G kR G G kW (fun b28 => ⟨ttw 4 G, ?_⟩)
    refine SR.two (i := 8) (j := 13) kR ⟨_, G, ?_⟩ ⟨_, G, ?_⟩
    ·
     refine st_app (E := eMB) (m := [(MB.mk b27 [])]) G G G G underlying57 ai60 G G G (.t2 .h) rO (row_src 0 G) lO G (fun v29 => ⟨ttw 4 G, ?_⟩)
     refine SR.o 13 G (st_mkmap (α := Int) (β := Int) keZ.f (.int .i64) G G G G (fun b30 => ⟨ttw 5 G, ?_⟩))
     refine SR.o 14 G (st_lit eMB (e := 60) (l := [(MB.mk b30 [])]) G G G G kR G G kW (fun b31 => ⟨ttw 6 G, ?_⟩))
     refine SR.o 15 G (st_app (E := eMB) (m := [(MB.mk b30 [])]) G G G G underlying57 ai60 G G G (.t4 (.t .h)) rO (row_src 0 G) lO G (fun v32 => ⟨ttw 6 G, ?_⟩))
     refine SR.z 16 G G (ev_nil G G) ?_
     refine SR.z 17 G G (ev_fa G fo59_0 G (r := 0) G) ?_
     exact SR.weakj (key20 (v32, b30, b31, v29, b27, b28)) kR (Sub.get (.c4 G G G G (.c4 G G G G (.c G (.c G (.c G .n)))))) (kp (.d (.d (.d (.c .h .n)))))
    refine st_mkmap (α := Int) (β := Int) keZ.f (.int .i64) G G G G (fun b33 => ⟨ttw 5 G, ?_⟩)
    refine SR.two (i := 8) (j := 14) kR ⟨_, G, ?_⟩ ⟨_, G, ?_⟩
    ·
     refine st_app (E := eMB) (m := [(MB.mk b27 [])]) G G G G underlying57 ai60 G G G (.t2 (.t .h)) rO (row_src 1 G) lO G (fun v34 => ⟨ttw 5 G, ?_⟩)
     refine SR.o 14 G (st_lit eMB (e := 60) (l := [(MB.mk b33 [])]) G G G G kR G G kW (fun b35 => ⟨ttw 6 G, ?_⟩))
     refine SR.o 15 G (st_app (E := eMB) (m := [(MB.mk b33 [])]) G G G G underlying57 ai60 G G G (.t4 (.t .h)) rO (row_src 0 G) lO G (fun v36 => ⟨ttw 6 G, ?_⟩))
     refine SR.z 16 G G (ev_nil G G) ?_
     refine SR.z 17 G G (ev_fa G fo59_0 G (r := 0) G) ?_
     exact SR.weakj (key20 (v36, b33, b35, v34, b27, b28)) kR (Sub.get (.c4 G G G G (.c4 G G G G (.c G (.c G (.c G .n)))))) (kp (.d (.c (.t .h) (.d (.d .n)))))
    refine st_lit eMB (e := 60) (l := [(MB.mk b33 [])]) G G G G kR G G kW (fun b37 => ⟨ttw 6 G, ?_⟩)
    refine SR.o 8 G (st_app (E := eMB) (m := [(MB.mk b27 [])]) G G G G underlying57 ai60 G G G (.t4 .h) rO (row_src 2 G) lO G (fun v38 => ⟨ttw 6 G, ?_⟩))
    refine SR.o 15 G (st_app (E := eMB) (m := [(MB.mk b33 [])]) G G G G underlying57 ai60 G G G (.t4 (.t .h)) rO (row_src 1 G) lO G (fun v39 => ⟨ttw 6 G, ?_⟩))
    refine SR.z 16 G G (ev_nil G G) ?_
    refine SR.z 17 G G (ev_fa G fo59_0 G (r := 0) G) ?_
    exact SR.weakj (key20 (v39, b33, b37, v38, b27, b28)) kR (Sub.get (.c4 G G G G (.c4 G G G G (.c G (.c G (.c G .n)))))) (kp (.c .h (.c (.t .h) (.c (.t .h) (.d (.d .n))))))
   refine st_mkmap (α := Int) (β := Int) keZ.f (.int .i64) G G G G (fun b40 => ⟨ttw 4 G, ?_⟩)
   refine SR.two (i := 7) (j := 14) kR ⟨_, G, ?_⟩ ⟨_, G, ?_⟩
   ·
    refine st_lit eMB (e := 60) (l := [(MB.mk b27 [])]) G G G G kR G G kW (fun b41 => ⟨ttw 5 G, ?_⟩)
    refine SR.two (i := 8) (j := 14) kR ⟨_, G, ?_⟩ ⟨_, G, ?_⟩
    ·
     refine st_app (E := eMB) (m := [(MB.mk b27 [])]) G G G G underlying57 ai60 G G G (.t2 (.t .h)) rO (row_src 0 G) lO G (fun v42 => ⟨ttw 5 G, ?_⟩)
     refine SR.o 14 G (st_lit eMB (e := 60) (l := [(MB.mk b40 [])]) G G G G kR G G kW (fun b43 => ⟨ttw 6 G, ?_⟩))
     refine SR.o 15 G (st_app (E := eMB) (m := [(MB.mk b40 [])]) G G G G underlying57 ai60 G G G (.t4 (.t .h)) rO (row_src 0 G) lO G (fun v44 => ⟨ttw 6 G, ?_⟩))
     refine SR.z 16 G G (ev_nil G G) ?_
     refine SR.z 17 G G (ev_fa G fo59_0 G (r := 0) G) ?_
     exact SR.weakj (key20 (v44, b40, b43, v42, b27, b41)) kR (Sub.get (.c4 G G G G (.c4 G G G G (.c G (.c G (.c G .n)))))) (kp (.d (.c (.t2 .h) (.d (.d .n)))))
    refine st_lit eMB (e := 60) (l := [(MB.mk b40 [])]) G G G G kR G G kW (fun b45 => ⟨ttw 6 G, ?_⟩)
    refine SR.o 8 G (st_app (E := eMB) (m := [(MB.mk b27 [])]) G G G G underlying57 ai60 G G G (.t4 .h) rO (row_src 1 G) lO G (fun v46 => ⟨ttw 6 G, ?_⟩))
    refine SR.o 15 G (st_app (E := eMB) (m := [(MB.mk b40 [])]) G G G G underlying57 ai60 G G G (.t4 (.t .h)) rO (row_src 1 G) lO G (fun v47 => ⟨ttw 6 G, ?_⟩))
    refine SR.z 16 G G (ev_nil G G) ?_
    refine SR.z 17 G G (ev_fa G fo59_0 G (r := 0) G) ?_
    exact SR.weakj (key20 (v47, b40, b45, v46, b27, b41)) kR (Sub.get (.c4 G G G G (.c4 G G G G (.c G (.c G (.c G .n)))))) (kp (.c .h (.c (.t .h) (.c (.t2 .h) (.d (.d .n))))))
   refine st_lit eMB (e := 60) (l := [(MB.mk b40 [])]) G G G G kR G G kW (fun b48 => ⟨ttw 5 G, ?_⟩)
   refine SR.o 7 G (st_lit eMB (e := 60) (l := [(MB.mk b27 [])]) G G G G kR G G kW (fun b49 => ⟨ttw 6 G, ?_⟩))
   refine SR.o 8 G (st_app (E := eMB) (m := [(MB.mk b27 [])]) G G G G underlying57 ai60 G G G (.t4 .h) rO (row_src 0 G) lO G (fun v50 => ⟨ttw 6 G, ?_⟩))
   refine SR.o 15 G (st_app (E := eMB) (m := [(MB.mk b40 [])]) G G G G underlying57 ai60 G G G (.t4 (.t .h)) rO (row_src 2 G) lO G (fun v51 => ⟨ttw 6 G, ?_⟩))
   refine SR.z 16 G G (ev_nil G G) ?_
   refine SR.z 17 G G (ev_fa G fo59_0 G (r := 0) G) ?_
   exact SR.weakj (key20 (v51, b40, b48, v50, b27, b49)) kR (Sub.get (.c4 G G G G (.c4 G G G G (.c G (.c G (.c G .n)))))) (kp (.c .h (.c (.t2 .h) (.c (.t2 .h) (.d (.d .n))))))
  refine st_mkmap (α := Int) (β := Int) keZ.f (.int .i64) G G G G (fun b52 => ⟨ttw 3 G, ?_⟩)
  refine SR.two (i := 6) (j := 14) kR ⟨_, G, ?_⟩ ⟨_, G, ?_⟩
  ·
   refine st_mkmap (α := Int) (β := Int) keZ.f (.int .i64) G G G G (fun b53 => ⟨ttw 4 G, ?_⟩)
   refine SR.two (i := 7) (j := 14) kR ⟨_, G, ?_⟩ ⟨_, G, ?_⟩
   ·
    refine st_lit eMB (e := 60) (l := [(MB.mk b53 [])]) G G G G kR G G kW (fun b54 => ⟨ttw 5 G, ?_⟩)
    refine SR.two (i := 8) (j := 14) kR ⟨_, G, ?_⟩ ⟨_, G, ?_⟩
    ·
     refine st_app (E := eMB) (m := [(MB.mk b53 [])]) G G G G underlying57 ai60 G G G (.t2 (.t .h)) rO (row_src 0 G) lO G (fun v55 => ⟨ttw 5 G, ?_⟩)
     refine SR.o 14 G (st_lit eMB (e := 60) (l := [(MB.mk b52 [])]) G G G G kR G G kW (fun b56 => ⟨ttw 6 G, ?_⟩))
     refine SR.o 15 G (st_app (E := eMB) (m := [(MB.mk b52 [])]) G G G G underlying57 ai60 G G G (.t4 (.t .h)) rO (row_src 0 G) lO G (fun v57 => ⟨ttw 6 G, ?_⟩))
     refine SR.z 16 G G (ev_nil G G) ?_
     refine SR.z 17 G G (ev_fa G fo59_0 G (r := 0) G) ?_
     exact SR.weakj (key20 (v57, b52, b56, v55, b53, b54)) kR (Sub.get (.c4 G G G G (.c4 G G G G (.c G (.c G (.c G .n)))))) (kp (.d (.c (.t2 (.t .h)) (.d (.d .n)))))
    refine st_lit eMB (e := 60) (l := [(MB.mk b52 [])]) G G G G kR G G kW (fun b58 => ⟨ttw 6 G, ?_⟩)
    refine SR.o 8 G (st_app (E := eMB) (m := [(MB.mk b53 [])]) G G G G underlying57 ai60 G G G (.t4 .h) rO (row_src 1 G) lO G (fun v59 => ⟨ttw 6 G, ?_⟩))
    refine SR.o 15 G (st_app (E := eMB) (m := [(MB.mk b52 [])]) G G G G underlying57 ai60 G G G (.t4 (.t .h)) rO (row_src 1 G) lO G (fun v60 => ⟨ttw 6 G, ?_⟩))
    refine SR.z 16 G G (ev_nil G G) ?_
    refine SR.z 17 G G (ev_fa G fo59_0 G (r := 0) G) ?_
    exact SR.weakj (key20 (v60, b52, b58, v59, b53, b54)) kR (Sub.get (.c4 G G G G (.c4 G G G G (.c G (.c G (.c G .n)))))) (kp (.c .h (.c (.t .h) (.c (.t2 (.t .h)) (.d (.d .n))))))
   refine st_lit eMB (e := 60) (l := [(MB.mk b52 [])]) G G G G kR G G kW (fun b61 => ⟨ttw 5 G, ?_⟩)
   refine SR.o 7 G (st_lit eMB (e := 60) (l := [(MB.mk b53 [])]) G G G G kR G G kW (fun b62 => ⟨ttw 6 G, ?_⟩))
   refine SR.o 8 G (st_app (E := eMB) (m := [(MB.mk b53 [])]) G G G G underlying57 ai60 G G G (.t4 .h) rO (row_src 0 G) lO G (fun v63 => ⟨ttw 6 G, ?_⟩))
   refine SR.o 15 G (st_app (E := eMB) (m := [(MB.mk b52 [])]) G G G G underlying57 ai60 G G G (.t4 (.t .h)) rO (row_src 2 G) lO G (fun v64 => ⟨ttw 6 G, ?_⟩))
   refine SR.z 16 G G (ev_nil G G) ?_
   refine SR.z 17 G G (ev_fa G fo59_0 G (r := 0) G) ?_
   exact SR.weakj (key20 (v64, b52, b61, v63, b53, b62)) kR (Sub.get (.c4 G G G G (.c4 G G G G (.c G (.c G (.c G .n)))))) (kp (.c .h (.c (.t2 .h) (.c (.t2 (.t .h)) (.d (.d .n))))))
  refine st_lit eMB (e := 60) (l := [(MB.mk b52 [])]) G G G G kR G G kW (fun b65 => ⟨ttw 4 G, ?_⟩)
  refine SR.o 6 G (st_mkmap (α := Int) (β := Int) keZ.f (.int .i64) G G G G (fun b66 => ⟨ttw 5 G, ?_⟩))
  refine SR.o 7 G (st_lit eMB (e := 60) (l := [(MB.mk b66 [])]) G G G G kR G G kW (fun b67 => ⟨ttw 6 G, ?_⟩))
  refine SR.o 8 G (st_app (E := eMB) (m := [(MB.mk b66 [])]) G G G G underlying57 ai60 G G G (.t4 .h) rO (row_src 0 G) lO G (fun v68 => ⟨ttw 6 G, ?_⟩))
  refine SR.o 15 G (st_app (E := eMB) (m := [(MB.mk b52 [])]) G G G G underlying57 ai60 G G G (.t4 (.t .h)) rO (row_src 3 G) lO G (fun v69 => ⟨ttw 6 G, ?_⟩))
  refine SR.z 16 G G (ev_nil G G) ?_
  refine SR.z 17 G G (ev_fa G fo59_0 G (r := 0) G) ?_
  exact SR.weakj (key20 (v69, b52, b65, v68, b66, b67)) kR (Sub.get (.c4 G G G G (.c4 G G G G (.c G (.c G (.c G .n)))))) (kp (.c .h (.c (.t2 (.t .h)) (.c (.t2 (.t .h)) (.d (.d .n))))))
 refine .exit idQ ?_
 refine SC.seqx (X := Nat × Nat × (Option Addr) × Nat × Nat × (Option Addr) × Nat × Nat × Value × (List LK) × (List MB) × (List MB)) (fun ⟨wb, zb, oA, on, oc, iA, ik, ic, u, K, M1, M2⟩ => ((GS.mk (mmL M1) (mmL M2) K (List.replicate n.toNat false)) = (G1 n fi ed)) ∧ (M1.length = on) ∧ (M2.length = ik) ∧ ((on : Int) = n) ∧ ((ik : Int) = n)) (fun ⟨wb, zb, oA, on, oc, iA, ik, ic, u, K, M1, M2⟩ => ([(0, .pointer (some ⟨b, 0, none⟩)), (3, .int .i64 n), (4, .pointer (some ⟨wb, 0, none⟩))], [rw_ eLK 37 (u) K, rw_ eMB 60 (.slice oA on oc) M1, rw_ eMB 60 (.slice iA ik ic) M2, nestM M1, nestM M2, cel wb [.slice oA on oc, .slice iA ik ic, u, .slice (some ⟨zb, 0, none⟩) n.toNat n.toNat] 59, rw_ eB 4 (.slice (some ⟨zb, 0, none⟩) n.toNat n.toNat) (List.replicate n.toNat false), cel b [.slice fA fi.length fc, .slice eA ed.length ec] 83])) S wf (fun ⟨wb, zb, oA, on, oc, iA, ik, ic, u, K, M1, M2⟩ hk157 => ?_) (fun key156 => ?_)
 ·
  obtain ⟨j_0, j_1, j_2, j_3, j_4⟩ := hk157
  exact build__s18 n t b fA fc fi eA ec ed _ _ hF hE hT hGr hec wb zb oA on oc iA ik ic u K M1 M2 j_0 j_1 j_2 j_3 j_4 _
 refine .seq (.know (row_len 0 G) (fun hv160 => ?_))
 obtain ⟨A158, c159, rfl, hv160_1, hv160_2⟩ := hv160
 unfold maxLen at hv160_2
 refine .know (row_len 1 G) (fun hv163 => ?_)
 obtain ⟨A161, c162, rfl, hv163_1, hv163_2⟩ := hv163
 unfold maxLen at hv163_2
 refine .region (.m G G G (.m G G G (.go idQ (.block ?_))))
 refine SC.nilrow eLK 37 ?_
 refine .loop (X := Int × (List LK) × Value × (List MB) × (List MB)) (fun ⟨p, K, u_K, M1, M2⟩ => 0 ≤ p ∧ p ≤ n ∧ (GS.mk (mmL M1) (mmL M2) K (List.replicate n.toNat false)) = linksG (G0 n) (bL fi ed p) ∧ (M1.length : Int) = n ∧ (M2.length : Int) = n) (fun ⟨p, K, u_K, M1, M2⟩ => [(0, .pointer (some ⟨b, 0, none⟩)), (2, .pointer none), (3, .int .i64 n), (4, .pointer (some ⟨b2, 0, none⟩)), (22, .int .i64 n), (23, .int .i64 i), (46, .int .i64 n), (47, .int .i64 p)]) (fun ⟨p, K, u_K, M1, M2⟩ => [rw_ eLK 37 (u_K) K, rw_ eMB 60 (.slice A158 MO.length c159) M1, rw_ eMB 60 (.slice A161 MI.length c162) M2, nestM M1, nestM M2, cel b2 [.slice A158 MO.length c159, .slice A161 MI.length c162, u_K, .slice (some ⟨b1, 0, none⟩) ((n).toNat) ((n).toNat)] 59, rw_ eB 4 (.slice (some ⟨b1, 0, none⟩) ((n).toNat) ((n).toNat)) (List.replicate ((n).toNat) false), cel b [.slice fA fi.length fc, .slice eA ed.length ec] 83]) (fun _ => S) (fun _ => wf) (fun ⟨p, K, u_K, M1, M2⟩ => (n - p).toNat) (fun a_ w_ hs_ hw_ => ⟨⟨0, ([] : List LK), .slice none 0 0, MO, MI⟩, (by (try dsimp only); exact ⟨oO, oO, (by rw [q_2, q_3, show i = n from by omega]; rfl), (by have h_ := congrArg List.length q_2; rw [mmL_len, List.length_replicate] at h_; omega), (by have h_ := congrArg List.length q_3; rw [mmL_len, List.length_replicate] at h_; omega)⟩), hs_.mono (Sub.get (.c4 G G G G (.c4 G G G G .n))), hw_.keep (.d (.d (.d (.d .n))))⟩) (fun ⟨p, K, u_K, M1, M2⟩ ⟨r_0, r_1, r_2, r_3, r_4⟩ => ?_)
 try dsimp only
 refine .seq (.region (.e G G G G G (.go idQ (.seq (.condI G bD (fun h164 => ?_) (fun h164 => ?_))))))
 ·
  refine .skipgo idQ (.seq (.block (.seq (.region (.m G G G (.a G G G (.go idQ (.seq (.region ?_)))))))))
  refine .m G G G (.m G G G (.cons (st_call0 G G G G hbd25 G (.c (.t4 (.t2 (.t .h))) .n) (gout_ b fA fc fi eA ec ed p _ _ hF hE lO (hGr.rng p oO oO) oO) (fun v_q166 C_q166 q166 => ?_))))
  obtain ⟨u165, rfl, rfl⟩ := q166
  show SP _ _ _ _ _ _ ⟨_, _ :: _ :: _, _, _⟩
  refine .know (row_len 1 G) (fun hv169 => ?_)
  obtain ⟨A167, c168, rfl, hv169_1, hv169_2⟩ := hv169
  unfold maxLen at hv169_2
  refine .g underlying61 G G G (.m G G G (.go idQ (.block (.loop (X := Int × (List LK) × Value × (List MB) × (List MB)) (fun ⟨j, K2, u_K2, M3, M4⟩ => 0 ≤ j ∧ j ≤ ((outL fi ed p).length : Int) ∧ (GS.mk (mmL M3) (mmL M4) K2 (List.replicate n.toNat false)) = linksG (G0 n) (bL fi ed p ++ (bEp fi ed p).take j.toNat) ∧ (M3.length : Int) = n ∧ (M4.length : Int) = n) (fun ⟨j, K2, u_K2, M3, M4⟩ => [(0, .pointer (some ⟨b, 0, none⟩)), (2, .pointer none), (3, .int .i64 n), (4, .pointer (some ⟨b2, 0, none⟩)), (22, .int .i64 n), (23, .int .i64 i), (46, .int .i64 n), (47, .int .i64 p), (5, .int .i64 p), (52, .slice A167 ((outL fi ed p).length) c168), (53, .int .i64 (((outL fi ed p).length : Nat) : Int)), (54, .int .i64 j)]) (fun ⟨j, K2, u_K2, M3, M4⟩ => [cel b [.slice fA fi.length fc, .slice eA ed.length ec] 83, rw_ eEG 64 (.slice A167 ((outL fi ed p).length) c168) (outL fi ed p), rw_ eLK 37 (u_K2) K2, rw_ eMB 60 (.slice A158 MO.length c159) M3, rw_ eMB 60 (.slice A161 MI.length c162) M4, nestM M3, nestM M4, cel b2 [.slice A158 MO.length c159, .slice A161 MI.length c162, u_K2, .slice (some ⟨b1, 0, none⟩) ((n).toNat) ((n).toNat)] 59, rw_ eB 4 (.slice (some ⟨b1, 0, none⟩) ((n).toNat) ((n).toNat)) (List.replicate ((n).toNat) false)]) (fun _ => S) (fun _ => wf) (fun ⟨j, K2, u_K2, M3, M4⟩ => (((outL fi ed p).length : Int) - j).toNat) (fun a_ w_ hs_ hw_ => ⟨⟨0, K, u_K, M1, M2⟩, (by (try dsimp only); exact ⟨oO, oO, (by rw [r_2]; simp), r_3, r_4⟩), hs_.mono (Sub.get (.c4 G G G G (.c4 G G G G (.c4 G G G G .n)))), hw_.keep (.d (.d (.d (.d (.c .h .n)))))⟩) (fun ⟨j, K2, u_K2, M3, M4⟩ ⟨s_0, s_1, s_2, s_3, s_4⟩ => ?_)))))
  try dsimp only
  have hpk := pre_ok hT hGr (p := p) (j := j.toNat) oO oO (.inl oO)
  rw [← s_2] at hpk
  have hkb2 : (K2.length : Int) ≤ 8448 := hpk.2.2
  refine .seq (.region (.e G G G G G (.go idQ (.seq (.condI G bD (fun h170 => ?_) (fun h170 => ?_))))))
  ·
   refine .skipgo idQ (.seq (.block (.seq (.region (.v (ev_ix G underlying61 ty64 G G oO oO (row_adr (i := j) 1 G oO lO)) G (.v (ev_lda G G (row_el (E := eEG) (l := (outL fi ed p)) (i := j) 1 G oO lO) ty64) G (.cons (st_alloc G G G G zf64 (fun b171 => ?_)))))))))
   refine .cons (st_storea (l' := [.int .i64 ((gt (outL fi ed p) j).et), .int .i64 ((gt (outL fi ed p) j).ew)]) G G G ty64 G G G .h G G ?_)
   refine .go idQ ?_
   have hge := hGr.ok p oO oO _ (gtM (l := outL fi ed p) (i := j) oO oO)
   refine .region (.m G G G (.m G G G (.f fo64_0 0 G G G G ?_)))
   refine .l ty3 0 G G G G G (.f fo64_1 1 G G G G (.l ty3 0 G G G G G (.v (ev_any (v := .agg #[.int .i64 p, .int .i64 ((gt (outL fi ed p) j).et), .int .i64 ((gt (outL fi ed p) j).ew), .int .i64 (-1)]) G kR (fun _ => by kernel_rfl)) G ?_)))
   refine .know (row_len 3 G) (fun hv174 => ?_)
   obtain ⟨A172, c173, rfl, hv174_1, hv174_2⟩ := hv174
   unfold maxLen at hv174_2
   refine .cons (st_call0 G G G G hbd26 G (.c (.t4 (.t4 .h)) (.c (.t4 .h) (.c (.t4 .h) (.c (.t2 (.t .h)) (.c (.t2 (.t .h)) (.c (.t2 (.t .h)) .n)))))) (link_ n b2 A158 MO.length c159 M3 A161 MI.length c162 M4 A172 K2.length c173 K2 (some ⟨b1, 0, none⟩) ((n).toNat) ((n).toNat) (List.replicate ((n).toNat) false) (LK.mk p ((gt (outL fi ed p) j).et) ((gt (outL fi ed p) j).ew) (-1)) _ _ hpk.1 oO ⟨by omega, by omega, hge.1, hge.2.1⟩ oO) (fun v_q179 C_q179 q179 => ?_))
   obtain ⟨u175, MO2176, MI2177, K2178, p180, p181, p182, rfl, rfl⟩ := q179
   show SP _ _ _ _ _ _ ⟨_, _ :: _ :: _ :: _ :: _ :: _ :: _, _, _⟩
   refine .go idQ (.region (.p ((j + 1)) oO oO G G G G G (.m G G G ?_)))
   exact SP.nil (SQ.roundb (X := Int × (List LK) × Value × (List MB) × (List MB)) (x := (j, K2, (.slice A172 K2.length c173), M3, M4)) ⟨(j + 1), K2178, u175, MO2176, MI2177⟩ (by (try dsimp only); exact ⟨oO, oO, (pre_step s_2 oO oO p180), (by rw [p181]; exact s_3), (by rw [p182]; exact s_4)⟩) dO (Sub.get (.c4 G G G G (.c4 G G G G (.c4 G G G G .n)))) (kp (.c (.t4 (.t2 (.t .h))) (.c (.t4 (.t2 (.t .h))) (.c (.t2 (.t .h)) (.c (.t .h) (.c (.t .h) (.c (.t .h) (.c (.t .h) (.c .h (.c (.t .h) .n)))))))))))
  refine .exit idQ ?_
  refine .region (.p ((p + 1)) oO oO G G G G G (.m G G G ?_))
  exact SP.nil (SQ.roundb (X := Int × (List LK) × Value × (List MB) × (List MB)) (x := (p, K, u_K, M1, M2)) ⟨(p + 1), K2, u_K2, M3, M4⟩ (by (try dsimp only); exact ⟨oO, oO, (pre_end s_2 oO oO), s_3, s_4⟩) dO (Sub.get (.c4 G G G G (.c4 G G G G .n))) (kp (.c (.t2 .h) (.c (.t2 .h) (.c (.t2 .h) (.c (.t2 .h) (.c (.t2 .h) (.c (.t2 .h) (.c (.t2 .h) (.c .h .n))))))))))
 refine .exit idQ ?_
 exact SC.weak (key156 ⟨b2, b1, A158, MO.length, c159, A161, MI.length, c162, u_K, K, M1, M2⟩ ⟨(by have h_ := r_2; rw [show p = n from by omega] at h_; exact h_), oO, oO, oO, oO⟩) (Sub.get (.c G (.c G (.c G .n)))) (kp (.d (.d (.d (.d .n)))))
end Go.Proofs.Ytlefdinbbjiabaa.Sx
set_option maxRecDepth 20000
set_option maxHeartbeats 8000000
namespace Go.Proofs.Ytlefdinbbjiabaa.Sx.FR
open Go Go.SX Go.Proofs Go.Proofs.Try FA FB FC FD FE FF FG FH FI FJ FK FL FM FN FO FP FQ
theorem hbd13 : hasBody prog 13 = true := by kernel_rfl
theorem hbd31 : hasBody prog 31 = true := by kernel_rfl
end Go.Proofs.Ytlefdinbbjiabaa.Sx.FR
namespace Go.Proofs.Ytlefdinbbjiabaa.Sx
open Go Go.SX Go.Proofs Go.Proofs.Try FA FB FC FD FE FF FG FH FI FJ FK FL FM FN FO FP FQ FR
theorem lpl_ (lb : Nat) (rA : Option Addr) (rc : Nat) (R : List Int) (kA : Option Addr) (kc : Nat) (K : List LK) (uA : Option Addr) (uc : Nat) (U : List IL) (dA : Option Addr) (dc : Nat) (D : List IL) (S : Nat → Prop) (wf : World) :
  TR0 prog 13 [.pointer (some ⟨lb, 0, none⟩)] [cel lb [.slice rA R.length rc, .slice kA K.length kc, .slice uA U.length uc, .slice dA D.length dc] 68, rw_ eZ 3 (.slice rA R.length rc) R, rw_ eLK 37 (.slice kA K.length kc) K, rw_ eIL 27 (.slice uA U.length uc) U, rw_ eIL 27 (.slice dA D.length dc) D, nestIL 3 U, nestIL 3 D] S wf (fun v_ C_ => v_ = .int .i64 (R.length : Int) ∧ C_ = [cel lb [.slice rA R.length rc, .slice kA K.length kc, .slice uA U.length uc, .slice dA D.length dc] 68, rw_ eZ 3 (.slice rA R.length rc) R, rw_ eLK 37 (.slice kA K.length kc) K, rw_ eIL 27 (.slice uA U.length uc) U, rw_ eIL 27 (.slice dA D.length dc) D, nestIL 3 U, nestIL 3 D]) := by
 refine TR.mk func13 G ntmps13 G G (fun w_ => ?_)
 refine .seq (.region (.a G G G (.go idQ (.seq (.seq (.region (.m G G G ?_)))))))
 refine .v (ev_bin G G G (r := .bool false) (fun _ => by kernel_rfl)) G (.go idQ (.cond_f G (.skipgo idQ (.seq (.region ?_)))))
 refine .m G G G (.v (ev_nil G G) G (.f fo68_0 0 G G G G (.l ty27 0 G G G G G ?_)))
 refine .g underlying27 G G G (.a G G G (.go idQ (.ret idQ (ret1 results13 G (.d (.d (.d (.c .h .n)))) ⟨G, G⟩))))
theorem lrk_ (lb : Nat) (rA : Option Addr) (rc : Nat) (R : List Int) (kA : Option Addr) (kc : Nat) (K : List LK) (uA : Option Addr) (uc : Nat) (U : List IL) (dA : Option Addr) (dc : Nat) (D : List IL) (p : Int) (S : Nat → Prop) (wf : World) :
  TR0 prog 12 [.pointer (some ⟨lb, 0, none⟩), .int .i64 p] [cel lb [.slice rA R.length rc, .slice kA K.length kc, .slice uA U.length uc, .slice dA D.length dc] 68, rw_ eZ 3 (.slice rA R.length rc) R, rw_ eLK 37 (.slice kA K.length kc) K, rw_ eIL 27 (.slice uA U.length uc) U, rw_ eIL 27 (.slice dA D.length dc) D, nestIL 3 U, nestIL 3 D] S wf (fun v_ C_ => v_ = .int .i64 (rkAt R p) ∧ C_ = [cel lb [.slice rA R.length rc, .slice kA K.length kc, .slice uA U.length uc, .slice dA D.length dc] 68, rw_ eZ 3 (.slice rA R.length rc) R, rw_ eLK 37 (.slice kA K.length kc) K, rw_ eIL 27 (.slice uA U.length uc) U, rw_ eIL 27 (.slice dA D.length dc) D, nestIL 3 U, nestIL 3 D]) := by
 refine TR.mk func12 G ntmps12 G G (fun w_ => ?_)
 refine .seq (.region (.a G G G (.go idQ (.seq (.seq (.region (.m G G G ?_)))))))
 refine .e G G G G G (.m G G G (.w (fun _ => ev_mv G G) G (.w (fun _ => ev_mv G G) G ?_)))
 refine .cons (st_gcallk G G G G G G hbd13 (fun hb => (lkA1 (lkg G hb) lkA0)) (.d (.d (.d (.c .h .n)))) (fun hb => have hp := bF bD hb; lpl_ lb rA rc R kA kc K uA uc U dA dc D _ _) ?_)
 refine .w (fun hb => ev_cmp G (lkg G hb) (lkg G hb) G) G (.r G G G G G (.go idQ (.condI G (bO bD bD) (fun h1 => ?_) (fun h1 => ?_))))
 ·
  refine .seq (.region (.a G G G (.go idQ (.ret idQ (ret1 results12 G (.d (.d (.d (.c .h .n)))) ⟨(congrArg (Value.int .i64) (by unfold rkAt; repeat (first | rw [if_pos oO] | rw [if_neg oO]))), G⟩)))))
 refine .skipgo idQ (.seq (.region (.m G G G (.v (ev_nil G G) G (.f fo68_0 0 G G G G ?_)))))
 refine .l ty27 0 G G G G G (.m G G G (.v (ev_ix G underlying27 ty3 G G oO oO (row_adr (i := p) 1 G oO oO)) G (.v (ev_ld1 G ty3 G (At.elem1 (row_el (E := eZ) (l := R) (i := p) 1 G oO oO) 0 G)) G ?_)))
 refine .a G G G (.go idQ (.ret idQ (ret1 results12 G (.d (.d (.d (.c .h .n)))) ⟨(congrArg (Value.int .i64) (by unfold rkAt; repeat (first | rw [if_pos oO] | rw [if_neg oO]))), G⟩)))
theorem lks_ (lb : Nat) (rA : Option Addr) (rc : Nat) (R : List Int) (kA : Option Addr) (kc : Nat) (K : List LK) (uA : Option Addr) (uc : Nat) (U : List IL) (dA : Option Addr) (dc : Nat) (D : List IL) (S : Nat → Prop) (wf : World) (hkl : K.length ≤ 100000) :
  TR0 prog 11 [.pointer (some ⟨lb, 0, none⟩)] [cel lb [.slice rA R.length rc, .slice kA K.length kc, .slice uA U.length uc, .slice dA D.length dc] 68, rw_ eZ 3 (.slice rA R.length rc) R, rw_ eLK 37 (.slice kA K.length kc) K, rw_ eIL 27 (.slice uA U.length uc) U, rw_ eIL 27 (.slice dA D.length dc) D, nestIL 3 U, nestIL 3 D] S wf (fun v_ C_ => ∃ (u : Value), v_ = u ∧ C_ = [cel lb [.slice rA R.length rc, .slice kA K.length kc, .slice uA U.length uc, .slice dA D.length dc] 68, rw_ eZ 3 (.slice rA R.length rc) R, rw_ eLK 37 (.slice kA K.length kc) K, rw_ eIL 27 (.slice uA U.length uc) U, rw_ eIL 27 (.slice dA D.length dc) D, nestIL 3 U, nestIL 3 D, rw_ eLK 37 (u) K]) := by
 refine TR.mk func11 G ntmps11 G G (fun w_ => ?_)
 refine .seq (.region (.a G G G (.go idQ (.seq (.seq (.region (.m G G G ?_)))))))
 refine .v (ev_bin G G G (r := .bool false) (fun _ => by kernel_rfl)) G (.go idQ (.cond_f G (.skipgo idQ (.seq (.region ?_)))))
 refine .m G G G (.v (ev_nil G G) G (.f fo68_1 1 G G G G (.l ty34 0 G G G G G ?_)))
 refine .cons (st_lend0 G G G G hbd31 G .n (.c (.t2 .h) .n) (fun w_ hw => cloneL kA K.length kc K _ _ (Fr.lend hw 0 G lO) lO lO) (fun v_q2 C_q2 q2 => ?_))
 obtain ⟨v1, rfl, rfl⟩ := q2
 show SP _ _ _ _ _ _ ⟨_, _ :: _ :: _, _, _⟩
 refine .a G G G (.go idQ (.ret idQ (ret1 results11 G (.c (.t2 .h) (.c (.t2 .h) (.c (.t .h) (.c (.t .h) (.c (.t .h) (.c (.t .h) (.c (.t .h) (.c .h .n)))))))) ⟨v_q2, G, G⟩)))
end Go.Proofs.Ytlefdinbbjiabaa.Sx
set_option maxRecDepth 20000
set_option maxHeartbeats 8000000
namespace Go.Proofs.Ytlefdinbbjiabaa.Sx.FS
open Go Go.SX Go.Proofs Go.Proofs.Try FA FB FC FD FE FF FG FH FI FJ FK FL FM FN FO FP FQ FR
theorem hbd20 : hasBody prog 20 = true := by kernel_rfl
theorem hbd33 : hasBody prog 33 = true := by kernel_rfl
theorem hbd34 : hasBody prog 34 = true := by kernel_rfl
theorem hbd17 : hasBody prog 17 = true := by kernel_rfl
theorem hbd21 : hasBody prog 21 = true := by kernel_rfl
theorem hbd22 : hasBody prog 22 = true := by kernel_rfl
theorem hbd23 : hasBody prog 23 = true := by kernel_rfl
end Go.Proofs.Ytlefdinbbjiabaa.Sx.FS
namespace Go.Proofs.Ytlefdinbbjiabaa.Sx
open Go Go.SX Go.Proofs Go.Proofs.Try FA FB FC FD FE FF FG FH FI FJ FK FL FM FN FO FP FQ FR FS
theorem gwt_ (n : Int) (t : List Int) (b : Nat) (fA : Option Addr) (fc : Nat) (fi : List Int) (eA : Option Addr) (ec : Nat) (ed : List EG) (p : Int) (q : Int) (S : Nat → Prop) (wf : World) (hF : Fr eZ S wf fA fi) (hE : Fr eEG S wf eA ed) (hT : TabOk n t) (hGr : GOk n t fi ed) (hec : ed.length ≤ ec) (hp : 0 ≤ p ∧ p < n) (hq : 0 ≤ q ∧ q < n) :
  TR0 prog 34 [.pointer (some ⟨b, 0, none⟩), .int .i64 p, .int .i64 q] [cel b [.slice fA fi.length fc, .slice eA ed.length ec] 83] S wf (fun v_ C_ => v_ = .int .i64 (gt t (p * n + q)) ∧ C_ = [cel b [.slice fA fi.length fc, .slice eA ed.length ec] 83]) := by
 have hn1 := hT.pl
 have hfl := hGr.len
 have hne := hGr.ne
 refine TR.mk func34 G ntmps34 G G (fun w_ => ?_)
 refine .seq (.region (.a G G G (.go idQ (.seq (.seq (.region (.m G G G ?_)))))))
 refine .m G G G (.cons (st_call0 G G G G hbd25 G (.c .h .n) (gout_ b fA fc fi eA ec ed p _ _ hF hE lO (hGr.rng p oO oO) oO) (fun v_q2 C_q2 q2 => ?_)))
 obtain ⟨u1, rfl, rfl⟩ := q2
 show SP _ _ _ _ _ _ ⟨_, _ :: _ :: _, _, _⟩
 refine .know (row_len 1 G) (fun hv5 => ?_)
 obtain ⟨A3, c4, rfl, hv5_1, hv5_2⟩ := hv5
 unfold maxLen at hv5_2
 refine .g underlying61 G G G (.m G G G (.go idQ (.block (.loop (X := Int) (fun i => 0 ≤ i ∧ i ≤ ((outL fi ed p).length : Int) ∧ (∀ j : Int, 0 ≤ j → j < i → (gt (outL fi ed p) j).et ≠ q)) (fun i => [(2, .int .i64 q), (11, .slice A3 ((outL fi ed p).length) c4), (12, .int .i64 (((outL fi ed p).length : Nat) : Int)), (13, .int .i64 i)]) (fun i => [cel b [.slice fA fi.length fc, .slice eA ed.length ec] 83, rw_ eEG 64 (.slice A3 ((outL fi ed p).length) c4) (outL fi ed p)]) (fun _ => S) (fun _ => wf) (fun i => (((outL fi ed p).length : Int) - i).toNat) (fun a_ w_ hs_ hw_ => ⟨0, (by (try dsimp only); exact ⟨oO, oO, (fun j j0 j1 => absurd j1 oO)⟩), hs_.mono (Sub.get (.c4 G G G G .n)), hw_.keep (.d .n)⟩) (fun i ⟨q_0, q_1, q_2⟩ => ?_)))))
 try dsimp only
 refine .seq (.region (.e G G G G G (.go idQ (.seq (.condI G bD (fun h6 => ?_) (fun h6 => ?_))))))
 ·
  refine .skipgo idQ (.seq (.block (.seq (.region (.v (ev_ix G underlying61 ty64 G G oO oO (row_adr (i := i) 1 G oO lO)) G (.v (ev_lda G G (row_el (E := eEG) (l := (outL fi ed p)) (i := i) 1 G oO lO) ty64) G (.cons (st_alloc G G G G zf64 (fun b7 => ?_)))))))))
  refine .cons (st_storea (l' := [.int .i64 ((gt (outL fi ed p) i).et), .int .i64 ((gt (outL fi ed p) i).ew)]) G G G ty64 G G G .h G G ?_)
  refine .go idQ (.seq (.region (.f fo64_0 0 G G G G (.l ty3 0 G G G G G (.m G G G ?_)))))
  refine .e G G G G G (.go idQ (.condI G bE (fun h8 => ?_) (fun h8 => ?_)))
  ·
   refine .seq (.region (.f fo64_1 1 G G G G (.l ty3 0 G G G G G (.a G G G ?_))))
   refine .go idQ (.ret idQ (ret1 results34 G (.c (.t .h) .n) ⟨(congrArg (Value.int .i64) (wt_some hGr hp (gtM oO oO) h8)), G⟩))
  refine .skipgo idQ (.region (.p ((i + 1)) oO oO G G G G G (.m G G G ?_)))
  exact SP.nil (SQ.roundb (X := Int) (x := (i)) (i + 1) (by (try dsimp only); exact ⟨oO, oO, (upN q_2 h8)⟩) (by show (_ : Nat) < _; omega) (Sub.get (.c4 G G G G .n)) (kp (.c (.t .h) (.c (.t .h) .n))))
 refine .exit idQ ?_
 refine .seq (.region (.a G G G (.go idQ (.ret idQ (ret1 results34 G (.c .h .n) ⟨(congrArg (Value.int .i64) (wt_none hT hGr hp hq (by have h_ := q_2; rw [show i = ((outL fi ed p).length : Int) from by omega] at h_; exact h_))), G⟩)))))
theorem awake5_ (S : Nat → Prop) (wf : World) :
  TR0 prog 17 [] [] S wf (fun v_ C_ => v_ = .bool true ∧ C_ = []) := by
 refine TR.mk func17 G ntmps17 G G (fun w_ => ?_)
 refine .seq (.region (.a G G G (.go idQ (.seq (.region (.v (ev_any (v := .agg #[.int .i64 0, .int .i64 1, .int .i64 5, .int .i64 9]) G kR (fun _ => by kernel_rfl)) G ?_))))))
 refine .v (ev_any (v := .agg #[.int .i64 0, .int .i64 1, .int .i64 4, .int .i64 12]) G kR (fun _ => by kernel_rfl)) G (.v (ev_any (v := .agg #[.int .i64 1, .int .i64 1, .int .i64 1, .int .i64 0]) G kR (fun _ => by kernel_rfl)) G (.v (ev_any (v := .agg #[.int .i64 1, .int .i64 2, .int .i64 0, .int .i64 0]) G kR (fun _ => by kernel_rfl)) G (.cons (st_lit eAR (e := 47) (l := [(AR.mk 0 1 5 9), (AR.mk 0 1 4 12), (AR.mk 1 1 1 0), (AR.mk 1 2 0 0)]) G G G G kR G G kW (fun b1 => ?_)))))
 refine .v (ev_any (v := .agg #[.int .i64 3, .slice (some ⟨b1, 0, none⟩) 4 4]) G kR (fun _ => by kernel_rfl)) G (.cons (st_lend0 G G G G hbd20 G .n (.c .h .n) (fun w_ hw => new_ 3 (some ⟨b1, 0, none⟩) 4 [(AR.mk 0 1 5 9), (AR.mk 0 1 4 12), (AR.mk 1 1 1 0), (AR.mk 1 2 0 0)] false _ _ (Fr.lend hw 0 G lO) ra5) (fun v_q7 C_q7 q7 => ?_)))
 obtain ⟨b2, u3, v4, fi5, ed6, p8, p9, rfl, rfl⟩ := q7
 show SP _ _ _ _ _ _ ⟨_, _ :: _ :: _ :: _ :: _, _, _⟩
 have hgl := p8.len
 have hgn := p8.ne
 refine .m G G G (.x G G G G (.x G G G G (.a G G G ?_)))
 refine .a G G G (.go idQ (.seq (.region (.m G G G (.v (ev_cmp (r := true) G G G G) G ?_)))))
 refine .m G G G (.cons (.on G G G (Ev.step (ev_mv G G) G G G (.know (row_len 1 G) (fun hv12 => ?_)))))
 obtain ⟨A10, c11, rfl, hv12_1, hv12_2⟩ := hv12
 unfold maxLen at hv12_2
 refine .know (row_len 2 G) (fun hv15 => ?_)
 obtain ⟨A13, c14, rfl, hv15_1, hv15_2⟩ := hv15
 unfold maxLen at hv15_2
 refine .cons (.on G G G (st_lendk G G G G hbd33 G (.c .h .n) (.d .n) (fun w_ hw => glen_ b2 A10 c11 fi5 A13 c14 ed6 _ _ (Fr.lend hw 0 G lO) (Fr.lend hw 1 G lO)) ?_))
 refine .cons (.on G G G (Ev.step (ev_cmp G G G G) G G G ?_))
 refine .v (ev_pickt G G G G) G (.m G G G (.w (fun _ => ev_mv G G) G (.cons (st_glendk G G G G G G hbd34 (fun hb => (lkA1 (lkg G hb) (lkA1 G (lkA1 G lkA0)))) (.c .h .n) (.d .n) (fun hb w_ hw => have hp := bT bE hb; gwt_ 3 (tabF 3 false [(AR.mk 0 1 5 9), (AR.mk 0 1 4 12), (AR.mk 1 1 1 0), (AR.mk 1 2 0 0)]) b2 A10 c11 fi5 A13 c14 ed6 0 1 _ _ (Fr.lend hw 0 G lO) (Fr.lend hw 1 G lO) (tab_ok ra5) p8 lO oO oO) ?_))))
 refine .w (fun hb => ev_cmp G (lkg G hb) G G) G (.v (ev_and G G G G) G (.m G G G (.w (fun _ => ev_mv G G) G ?_)))
 refine .cons (st_glendk G G G G G G hbd34 (fun hb => (lkA1 (lkg G hb) (lkA1 G (lkA1 G lkA0)))) (.c .h .n) (.d .n) (fun hb w_ hw => have hp := bT (bA bE bE) hb; gwt_ 3 (tabF 3 false [(AR.mk 0 1 5 9), (AR.mk 0 1 4 12), (AR.mk 1 1 1 0), (AR.mk 1 2 0 0)]) b2 A10 c11 fi5 A13 c14 ed6 1 1 _ _ (Fr.lend hw 0 G lO) (Fr.lend hw 1 G lO) (tab_ok ra5) p8 lO oO oO) ?_)
 refine .w (fun hb => ev_cmp G (lkg G hb) G G) G (.v (ev_and G G G G) G (.m G G G (.w (fun _ => ev_mv G G) G ?_)))
 refine .cons (st_glendk G G G G G G hbd34 (fun hb => (lkA1 (lkg G hb) (lkA1 G (lkA1 G lkA0)))) (.c .h .n) (.d .n) (fun hb w_ hw => have hp := bT (bA (bA bE bE) bE) hb; gwt_ 3 (tabF 3 false [(AR.mk 0 1 5 9), (AR.mk 0 1 4 12), (AR.mk 1 1 1 0), (AR.mk 1 2 0 0)]) b2 A10 c11 fi5 A13 c14 ed6 1 2 _ _ (Fr.lend hw 0 G lO) (Fr.lend hw 1 G lO) (tab_ok ra5) p8 lO oO oO) ?_)
 refine .w (fun hb => ev_cmp G (lkg G hb) G G) G (.v (ev_and G G G G) G (.a G G G (.go idQ ?_)))
 exact .ret idQ (ret1 results17 G .n ⟨(congrArg Value.bool (aw5 p9)), G⟩)
theorem graphF (n : Int) (A : Option Addr) (c : Nat) (l : List AR) (S : Nat → Prop) (wf : World) (hA : Fr eAR S wf A l) (hR : RoadOk n l) :
  TR0 prog 9 [.agg #[.int .i64 n, .slice A l.length c], .bool false] [] S wf (fun v_ C_ => ∃ (b : Nat) (u : Value) (v : Value) (fi : List Int) (ed : List EG) (x : Value) (y : Value) (W : List Int), (GOk n (tabF n false l) fi ed) ∧ (∃ X : List AR, X.Perm l ∧ Srd (ltA false) X 0 (l.length : Int) ∧ ed = (kpA X (l.length : Int)).map (egF false)) ∧ (MF n W (fw (tf n (tabF n false l)) n.toNat)) ∧ v_ = .tuple #[.pointer (some ⟨b, 0, none⟩), .agg #[.int .i64 n, x], .agg #[.int .i64 n, y], .bool true] ∧ C_ = [cel b [u, v] 83, rw_ eZ 3 (u) fi, rw_ eEG 64 (v) ed, rw_ eZ 3 (x) (tabF n false l), rw_ eZ 3 (y) W]) := by
 have hla := hA.len
 have hlen := hR.len
 have hnp := hR.pl
 have hto := tab_ok (d := false) hR
 have htl := hto.len
 have hsq := sq_le hnp
 refine TR.mk func9 G ntmps9 G G (fun w_ => ?_)
 refine .seq (.region (.cons (st_boxa G G G G G (fun b1 => (.a G G G (.cons (st_alloc G G G G zf29 (fun b2 => ?_))))))))
 refine .cons (st_alloc G G G G zf29 (fun b3 => ?_))
 refine .a G G G (.go idQ (.seq (.seq (.region (.f fo24_1 1 G G G G (.l ty22 2 G G G G G ?_))))))
 refine .g underlying22 G G G (.e G G G G G (.m G G G (.cons (st_gcallk G G G G G G hbd17 (fun hb => G) .n (fun hb => have hp := bF bD hb; awake5_ _ _) ?_))))
 refine .w (fun hb => ev_not G (lkg G hb)) G (.r G G G G G (.go idQ (.condI G (bO bD bV) (fun h4 => ?_) (fun h4 => ?_))))
 ·
  exfalso; rcases (by assumption : (l.length : Int) > 300 ∨ false = true) with h_ | h_ <;> first | omega | cases h_
 refine .skipgo idQ (.seq (.region (.a G G G (.go idQ (.seq (.seq (.region (.m G G G ?_))))))))
 refine .go idQ (.cond_f G (.skipgo idQ (.seq (.region (.d 2 ty24 G G G G ?_)))))
 refine .cons (st_call0 G G G G hbd21 G .n (rdcop_ n A c l _ _ hA lO) (fun v_q6 C_q6 q6 => ?_))
 obtain ⟨u5, rfl, rfl⟩ := q6
 show SP _ _ _ _ _ _ ⟨_, _ :: _, _, _⟩
 refine .m G G G (.know (row_len 0 G) (fun hv9 => ?_))
 obtain ⟨A7, c8, rfl, hv9_1, hv9_2⟩ := hv9
 unfold maxLen at hv9_2
 refine .cons (st_lend0 G G G G hbd20 G .n (.c .h .n) (fun w_ hw => new_ n A7 c8 l false _ _ (Fr.lend hw 0 G lO) hR) (fun v_q15 C_q15 q15 => ?_))
 obtain ⟨b10, u11, v12, fi13, ed14, p16, p17, rfl, rfl⟩ := q15
 show SP _ _ _ _ _ _ ⟨_, _ :: _ :: _ :: _ :: _, _, _⟩
 have hgl := p16.len
 have hgn := p16.ne
 refine .m G G G (.x G G G G (.x G G G G (.a G G G ?_)))
 refine .a G G G (.go idQ (.seq (.seq (.region (.m G G G (.v (ev_cmp (r := false) G G G G) G ?_))))))
 refine .go idQ (.cond_f G (.skipgo idQ (.seq (.region (.d 6 ty24 G G G G ?_)))))
 refine .m G G G (.cons (st_call0 G G G G hbd22 G .n (tab_ n A c l false _ _ hA hR) (fun v_q19 C_q19 q19 => ?_)))
 obtain ⟨u18, rfl, rfl⟩ := q19
 show SP _ _ _ _ _ _ ⟨_, _ :: _, _, _⟩
 refine .cons (st_alloc G G G G zf29 (fun b20 => ?_))
 refine .know (row_len 1 G) (fun hv23 => ?_)
 obtain ⟨A21, c22, rfl, hv23_1, hv23_2⟩ := hv23
 unfold maxLen at hv23_2
 refine .cons (st_storea (l' := [.int .i64 n, .slice A21 ((tabF n false l).length) c22]) G G G ty29 G G G .h G G ?_)
 refine .go idQ (.seq ?_)
 refine SC.draw mo [cel b3 [.int .i64 0, .slice none 0 0] 29, cel b2 [.int .i64 0, .slice none 0 0] 29] [] (.c (.t4 (.t2 .h)) (.c (.t4 (.t2 .h)) .n)) (fun _ _ _ => sc0) (fun wf_24 hl_24 hx_24 hR_24 => ?_)
 refine SR.m 0 G G G G ?_
 refine SR.z 1 G G (ev_lda (cs := [.int .i64 n, .slice A21 ((tabF n false l).length) c22]) G G (At.d (At.lent hR_24 0 G G)) ty29) ?_
 refine SR.z 2 G G (ev_lda (cs := [.int .i64 n, .slice A21 ((tabF n false l).length) c22]) G G (At.d (At.lent hR_24 0 G G)) ty29) ?_
 refine SR.o 3 G (st_call0 G G G G hbd23 G .n (least_ n A21 c22 (tabF n false l) _ _ (Fr.lent (S := S) hR_24 1 G lO) hnp hto.len hto.rng) (fun v_q27 C_q27 q27 => ⟨tt0, ?_⟩))
 obtain ⟨u25, W26, p28, rfl, rfl⟩ := q27
 show SR _ _ _ _ _ _ _ _ _ ⟨_, _ :: _, _, _⟩
 refine SR.z 4 G G (ev_as G G) ?_
 refine SR.o 5 G (st_storea (l' := [.int .i64 n, .slice A21 ((tabF n false l).length) c22]) G G G ty29 G G G (.t2 .h) G G ⟨tt0, ?_⟩)
 refine .know (row_len 1 G) (fun hv31 => ?_)
 obtain ⟨A29, c30, rfl, hv31_1, hv31_2⟩ := hv31
 unfold maxLen at hv31_2
 refine SR.o 6 G (st_storea (l' := [.int .i64 n, .slice A29 W26.length c30]) G G G ty29 G G G (.t2 .h) G G ⟨tt0, ?_⟩)
 refine SR.z 7 G G (ev_as G G) ?_
 refine SR.fin kR hl_24 hx_24 hR_24 (.c (.c (.c .n))) ?_
 refine SQ.go idQ ?_
 exact .ret idQ (retv4 results9 (.t G) (.c 1 G G ty29) (.c 0 G G ty29) (.t G) (.c (.t4 (.t .h)) (.c (.t4 (.t .h)) (.c (.t4 (.t .h)) (.c (.t4 .h) (.c (.t2 .h) .n))))) ⟨b10, u11, v12, fi13, ed14, .slice A21 ((tabF n false l).length) c22, .slice A29 W26.length c30, W26, p16, p17, p28, G, G⟩)
theorem graphbadF (n : Int) (A : Option Addr) (c : Nat) (l : List AR) (S : Nat → Prop) (wf : World) (hA : Fr eAR S wf A l) (hR : ¬ RoadOk n l) :
  TR0 prog 9 [.agg #[.int .i64 n, .slice A l.length c], .bool false] [] S wf (fun v_ C_ => v_ = .tuple #[.pointer none, .agg #[.int .i64 0, .slice none 0 0], .agg #[.int .i64 0, .slice none 0 0], .bool false] ∧ C_ = []) := by
 have hla := hA.len
 refine TR.mk func9 G ntmps9 G G (fun w_ => ?_)
 refine .seq (.region (.cons (st_boxa G G G G G (fun b1 => (.a G G G (.cons (st_alloc G G G G zf29 (fun b2 => ?_))))))))
 refine .cons (st_alloc G G G G zf29 (fun b3 => ?_))
 refine .a G G G (.go idQ (.seq (.seq (.region (.f fo24_1 1 G G G G (.l ty22 2 G G G G G ?_))))))
 refine .g underlying22 G G G (.e G G G G G (.m G G G (.cons (st_gcallk G G G G G G hbd17 (fun hb => G) .n (fun hb => have hp := bF bD hb; awake5_ _ _) ?_))))
 refine .w (fun hb => ev_not G (lkg G hb)) G (.r G G G G G (.go idQ (.condI G (bO bD bV) (fun h4 => ?_) (fun h4 => ?_))))
 ·
  refine .seq (.region (.v (ev_any (v := .agg #[.int .i64 0, .slice none 0 0]) G kR (fun _ => by kernel_rfl)) G (.v (ev_any (v := .agg #[.int .i64 0, .slice none 0 0]) G kR (fun _ => by kernel_rfl)) G (.a G G G ?_))))
  refine .cons (st_storea (l' := [.int .i64 0, .slice none 0 0]) G G G ty29 G G G (.t .h) G G ?_)
  refine .cons (st_storea (l' := [.int .i64 0, .slice none 0 0]) G G G ty29 G G G (.t .h) G G ?_)
  refine .a G G G (.go idQ (.ret idQ (retv4 results9 (.t G) (.c 1 G G ty29) (.c 0 G G ty29) (.t G) .n ⟨G, G⟩)))
 refine .skipgo idQ (.seq (.region (.a G G G (.go idQ (.seq (.seq (.region (.m G G G ?_))))))))
 refine .go idQ (.cond_f G (.skipgo idQ (.seq (.region (.d 2 ty24 G G G G ?_)))))
 refine .cons (st_call0 G G G G hbd21 G .n (rdcop_ n A c l _ _ hA lO) (fun v_q6 C_q6 q6 => ?_))
 obtain ⟨u5, rfl, rfl⟩ := q6
 show SP _ _ _ _ _ _ ⟨_, _ :: _, _, _⟩
 refine .m G G G (.know (row_len 0 G) (fun hv9 => ?_))
 obtain ⟨A7, c8, rfl, hv9_1, hv9_2⟩ := hv9
 unfold maxLen at hv9_2
 refine .cons (st_lend0 G G G G hbd20 G .n (.c .h .n) (fun w_ hw => newbad_ n A7 c8 l false _ _ (Fr.lend hw 0 G lO) hR) (fun v_q11 C_q11 q11 => ?_))
 obtain ⟨e10, p12, rfl, rfl⟩ := q11
 show SP _ _ _ _ _ _ ⟨_, _ :: _, _, _⟩
 refine .m G G G (.x G G G G (.x G G G G (.a G G G ?_)))
 refine .a G G G (.go idQ (.seq (.seq (.region (.m G G G (.e G G G G G ?_))))))
 refine .go idQ (.condI G bNE (fun h13 => ?_) (fun h13 => ?_))
 ·
  refine .seq (.region (.v (ev_any (v := .agg #[.int .i64 0, .slice none 0 0]) G kR (fun _ => by kernel_rfl)) G (.v (ev_any (v := .agg #[.int .i64 0, .slice none 0 0]) G kR (fun _ => by kernel_rfl)) G (.a G G G ?_))))
  refine .cons (st_storea (l' := [.int .i64 0, .slice none 0 0]) G G G ty29 G G G (.t2 .h) G G ?_)
  refine .cons (st_storea (l' := [.int .i64 0, .slice none 0 0]) G G G ty29 G G G (.t2 .h) G G ?_)
  refine .a G G G (.go idQ (.ret idQ (retv4 results9 (.t G) (.c 1 G G ty29) (.c 0 G G ty29) (.t G) .n ⟨G, G⟩)))
 exfalso; omega
theorem graphT (n : Int) (A : Option Addr) (c : Nat) (l : List AR) (S : Nat → Prop) (wf : World) (hA : Fr eAR S wf A l) (hR : RoadOk n l) :
  TR0 prog 9 [.agg #[.int .i64 n, .slice A l.length c], .bool true] [] S wf (fun v_ C_ => ∃ (b : Nat) (u : Value) (v : Value) (fi : List Int) (ed : List EG) (x : Value) (y : Value) (W : List Int), (GOk n (tabF n true l) fi ed) ∧ (∃ X : List AR, X.Perm l ∧ Srd (ltA true) X 0 (l.length : Int) ∧ ed = (kpA X (l.length : Int)).map (egF true)) ∧ (MF n W (fw (tf n (tabF n true l)) n.toNat)) ∧ v_ = .tuple #[.pointer (some ⟨b, 0, none⟩), .agg #[.int .i64 n, x], .agg #[.int .i64 n, y], .bool true] ∧ C_ = [cel b [u, v] 83, rw_ eZ 3 (u) fi, rw_ eEG 64 (v) ed, rw_ eZ 3 (x) (tabF n true l), rw_ eZ 3 (y) W]) := by
 have hla := hA.len
 have hlen := hR.len
 have hnp := hR.pl
 have hto := tab_ok (d := true) hR
 have htl := hto.len
 have hsq := sq_le hnp
 refine TR.mk func9 G ntmps9 G G (fun w_ => ?_)
 refine .seq (.region (.cons (st_boxa G G G G G (fun b1 => (.a G G G (.cons (st_alloc G G G G zf29 (fun b2 => ?_))))))))
 refine .cons (st_alloc G G G G zf29 (fun b3 => ?_))
 refine .a G G G (.go idQ (.seq (.seq (.region (.f fo24_1 1 G G G G (.l ty22 2 G G G G G ?_))))))
 refine .g underlying22 G G G (.e G G G G G (.m G G G (.cons (st_gcallk G G G G G G hbd17 (fun hb => G) .n (fun hb => have hp := bF bD hb; awake5_ _ _) ?_))))
 refine .w (fun hb => ev_not G (lkg G hb)) G (.r G G G G G (.go idQ (.condI G (bO bD bV) (fun h4 => ?_) (fun h4 => ?_))))
 ·
  exfalso; rcases (by assumption : (l.length : Int) > 300 ∨ false = true) with h_ | h_ <;> first | omega | cases h_
 refine .skipgo idQ (.seq (.region (.a G G G (.go idQ (.seq (.seq (.region (.m G G G ?_))))))))
 refine .go idQ (.cond_t G (.region (.a G G G ?_)))
 refine .go idQ (.seq (.region (.d 2 ty24 G G G G (.cons (st_call0 G G G G hbd21 G .n (rdcop_ n A c l _ _ hA lO) (fun v_q6 C_q6 q6 => ?_))))))
 obtain ⟨u5, rfl, rfl⟩ := q6
 show SP _ _ _ _ _ _ ⟨_, _ :: _, _, _⟩
 refine .m G G G (.know (row_len 0 G) (fun hv9 => ?_))
 obtain ⟨A7, c8, rfl, hv9_1, hv9_2⟩ := hv9
 unfold maxLen at hv9_2
 refine .cons (st_lend0 G G G G hbd20 G .n (.c .h .n) (fun w_ hw => new_ n A7 c8 l true _ _ (Fr.lend hw 0 G lO) hR) (fun v_q15 C_q15 q15 => ?_))
 obtain ⟨b10, u11, v12, fi13, ed14, p16, p17, rfl, rfl⟩ := q15
 show SP _ _ _ _ _ _ ⟨_, _ :: _ :: _ :: _ :: _, _, _⟩
 have hgl := p16.len
 have hgn := p16.ne
 refine .m G G G (.x G G G G (.x G G G G (.a G G G ?_)))
 refine .a G G G (.go idQ (.seq (.seq (.region (.m G G G (.v (ev_cmp (r := false) G G G G) G ?_))))))
 refine .go idQ (.cond_f G (.skipgo idQ (.seq (.region (.d 6 ty24 G G G G ?_)))))
 refine .m G G G (.cons (st_call0 G G G G hbd22 G .n (tab_ n A c l true _ _ hA hR) (fun v_q19 C_q19 q19 => ?_)))
 obtain ⟨u18, rfl, rfl⟩ := q19
 show SP _ _ _ _ _ _ ⟨_, _ :: _, _, _⟩
 refine .cons (st_alloc G G G G zf29 (fun b20 => ?_))
 refine .know (row_len 1 G) (fun hv23 => ?_)
 obtain ⟨A21, c22, rfl, hv23_1, hv23_2⟩ := hv23
 unfold maxLen at hv23_2
 refine .cons (st_storea (l' := [.int .i64 n, .slice A21 ((tabF n true l).length) c22]) G G G ty29 G G G .h G G ?_)
 refine .go idQ (.seq ?_)
 refine SC.draw mo [cel b3 [.int .i64 0, .slice none 0 0] 29, cel b2 [.int .i64 0, .slice none 0 0] 29] [] (.c (.t4 (.t2 .h)) (.c (.t4 (.t2 .h)) .n)) (fun _ _ _ => sc0) (fun wf_24 hl_24 hx_24 hR_24 => ?_)
 refine SR.m 0 G G G G ?_
 refine SR.z 1 G G (ev_lda (cs := [.int .i64 n, .slice A21 ((tabF n true l).length) c22]) G G (At.d (At.lent hR_24 0 G G)) ty29) ?_
 refine SR.z 2 G G (ev_lda (cs := [.int .i64 n, .slice A21 ((tabF n true l).length) c22]) G G (At.d (At.lent hR_24 0 G G)) ty29) ?_
 refine SR.o 3 G (st_call0 G G G G hbd23 G .n (least_ n A21 c22 (tabF n true l) _ _ (Fr.lent (S := S) hR_24 1 G lO) hnp hto.len hto.rng) (fun v_q27 C_q27 q27 => ⟨tt0, ?_⟩))
 obtain ⟨u25, W26, p28, rfl, rfl⟩ := q27
 show SR _ _ _ _ _ _ _ _ _ ⟨_, _ :: _, _, _⟩
 refine SR.z 4 G G (ev_as G G) ?_
 refine SR.o 5 G (st_storea (l' := [.int .i64 n, .slice A21 ((tabF n true l).length) c22]) G G G ty29 G G G (.t2 .h) G G ⟨tt0, ?_⟩)
 refine .know (row_len 1 G) (fun hv31 => ?_)
 obtain ⟨A29, c30, rfl, hv31_1, hv31_2⟩ := hv31
 unfold maxLen at hv31_2
 refine SR.o 6 G (st_storea (l' := [.int .i64 n, .slice A29 W26.length c30]) G G G ty29 G G G (.t2 .h) G G ⟨tt0, ?_⟩)
 refine SR.z 7 G G (ev_as G G) ?_
 refine SR.fin kR hl_24 hx_24 hR_24 (.c (.c (.c .n))) ?_
 refine SQ.go idQ ?_
 exact .ret idQ (retv4 results9 (.t G) (.c 1 G G ty29) (.c 0 G G ty29) (.t G) (.c (.t4 (.t .h)) (.c (.t4 (.t .h)) (.c (.t4 (.t .h)) (.c (.t4 .h) (.c (.t2 .h) .n))))) ⟨b10, u11, v12, fi13, ed14, .slice A21 ((tabF n true l).length) c22, .slice A29 W26.length c30, W26, p16, p17, p28, G, G⟩)
theorem graphbadT (n : Int) (A : Option Addr) (c : Nat) (l : List AR) (S : Nat → Prop) (wf : World) (hA : Fr eAR S wf A l) (hR : ¬ RoadOk n l) :
  TR0 prog 9 [.agg #[.int .i64 n, .slice A l.length c], .bool true] [] S wf (fun v_ C_ => v_ = .tuple #[.pointer none, .agg #[.int .i64 0, .slice none 0 0], .agg #[.int .i64 0, .slice none 0 0], .bool false] ∧ C_ = []) := by
 have hla := hA.len
 refine TR.mk func9 G ntmps9 G G (fun w_ => ?_)
 refine .seq (.region (.cons (st_boxa G G G G G (fun b1 => (.a G G G (.cons (st_alloc G G G G zf29 (fun b2 => ?_))))))))
 refine .cons (st_alloc G G G G zf29 (fun b3 => ?_))
 refine .a G G G (.go idQ (.seq (.seq (.region (.f fo24_1 1 G G G G (.l ty22 2 G G G G G ?_))))))
 refine .g underlying22 G G G (.e G G G G G (.m G G G (.cons (st_gcallk G G G G G G hbd17 (fun hb => G) .n (fun hb => have hp := bF bD hb; awake5_ _ _) ?_))))
 refine .w (fun hb => ev_not G (lkg G hb)) G (.r G G G G G (.go idQ (.condI G (bO bD bV) (fun h4 => ?_) (fun h4 => ?_))))
 ·
  refine .seq (.region (.v (ev_any (v := .agg #[.int .i64 0, .slice none 0 0]) G kR (fun _ => by kernel_rfl)) G (.v (ev_any (v := .agg #[.int .i64 0, .slice none 0 0]) G kR (fun _ => by kernel_rfl)) G (.a G G G ?_))))
  refine .cons (st_storea (l' := [.int .i64 0, .slice none 0 0]) G G G ty29 G G G (.t .h) G G ?_)
  refine .cons (st_storea (l' := [.int .i64 0, .slice none 0 0]) G G G ty29 G G G (.t .h) G G ?_)
  refine .a G G G (.go idQ (.ret idQ (retv4 results9 (.t G) (.c 1 G G ty29) (.c 0 G G ty29) (.t G) .n ⟨G, G⟩)))
 refine .skipgo idQ (.seq (.region (.a G G G (.go idQ (.seq (.seq (.region (.m G G G ?_))))))))
 refine .go idQ (.cond_t G (.region (.a G G G ?_)))
 refine .go idQ (.seq (.region (.d 2 ty24 G G G G (.cons (st_call0 G G G G hbd21 G .n (rdcop_ n A c l _ _ hA lO) (fun v_q6 C_q6 q6 => ?_))))))
 obtain ⟨u5, rfl, rfl⟩ := q6
 show SP _ _ _ _ _ _ ⟨_, _ :: _, _, _⟩
 refine .m G G G (.know (row_len 0 G) (fun hv9 => ?_))
 obtain ⟨A7, c8, rfl, hv9_1, hv9_2⟩ := hv9
 unfold maxLen at hv9_2
 refine .cons (st_lend0 G G G G hbd20 G .n (.c .h .n) (fun w_ hw => newbad_ n A7 c8 l true _ _ (Fr.lend hw 0 G lO) hR) (fun v_q11 C_q11 q11 => ?_))
 obtain ⟨e10, p12, rfl, rfl⟩ := q11
 show SP _ _ _ _ _ _ ⟨_, _ :: _, _, _⟩
 refine .m G G G (.x G G G G (.x G G G G (.a G G G ?_)))
 refine .a G G G (.go idQ (.seq (.seq (.region (.m G G G (.e G G G G G ?_))))))
 refine .go idQ (.condI G bNE (fun h13 => ?_) (fun h13 => ?_))
 ·
  refine .seq (.region (.v (ev_any (v := .agg #[.int .i64 0, .slice none 0 0]) G kR (fun _ => by kernel_rfl)) G (.v (ev_any (v := .agg #[.int .i64 0, .slice none 0 0]) G kR (fun _ => by kernel_rfl)) G (.a G G G ?_))))
  refine .cons (st_storea (l' := [.int .i64 0, .slice none 0 0]) G G G ty29 G G G (.t2 .h) G G ?_)
  refine .cons (st_storea (l' := [.int .i64 0, .slice none 0 0]) G G G ty29 G G G (.t2 .h) G G ?_)
  refine .a G G G (.go idQ (.ret idQ (retv4 results9 (.t G) (.c 1 G G ty29) (.c 0 G G ty29) (.t G) .n ⟨G, G⟩)))
 exfalso; omega
end Go.Proofs.Ytlefdinbbjiabaa.Sx
set_option maxRecDepth 20000
set_option maxHeartbeats 8000000
namespace Go.Proofs.Ytlefdinbbjiabaa.Sx.FT
open Go Go.SX Go.Proofs Go.Proofs.Try FA FB FC FD FE FF FG FH FI FJ FK FL FM FN FO FP FQ FR FS
theorem hbd9 : hasBody prog 9 = true := by kernel_rfl
theorem hbd10 : hasBody prog 10 = true := by kernel_rfl
theorem hbd11 : hasBody prog 11 = true := by kernel_rfl
theorem eqIn37 (d : Nat) (x0 y0 : Int) (x1 y1 : Int) (x2 y2 : Int) (x3 y3 : Int) (w : World) : (Op.equalIn (d + 3) 37 (.agg #[(.int .i64 x0), (.int .i64 x1), (.int .i64 x2), (.int .i64 x3)]) (.agg #[(.int .i64 y0), (.int .i64 y1), (.int .i64 y2), (.int .i64 y3)])).run prog w = .ok ((x0 == y0) && ((x1 == y1) && ((x2 == y2) && (x3 == y3)))) w := by
 rw [run_equalIn_struct w (d + 2) 37 _ _ kR kR]
 have hf : (prog.fieldsOf 37).toList = [{ name := "From", type := 3, offset := 0, embedded := false, tag := "", pkgPath := "", byteOffset := 0 }, { name := "To", type := 3, offset := 1, embedded := false, tag := "", pkgPath := "", byteOffset := 8 }, { name := "Weight", type := 3, offset := 2, embedded := false, tag := "", pkgPath := "", byteOffset := 16 }, { name := "Mid", type := 3, offset := 3, embedded := false, tag := "", pkgPath := "", byteOffset := 24 }] := by kernel_rfl
 rw [hf]
 have h3 : ∀ (x y : Int) (w : World), (Op.equalIn (d + 2) 3 (.int .i64 x) (.int .i64 y)).run prog w = .ok (x == y) w := fun x y w => by
  simp [Op.equalIn, run_underlying underlying3]
 have p0 : ∀ (x0 : Int) (x1 : Int) (x2 : Int) (x3 : Int) (w : World), (part 3 #[(.int .i64 x0), (.int .i64 x1), (.int .i64 x2), (.int .i64 x3)] 0).run prog w = .ok (.int .i64 x0) w := fun _ _ _ _ _ => by kernel_rfl
 have p1 : ∀ (x0 : Int) (x1 : Int) (x2 : Int) (x3 : Int) (w : World), (part 3 #[(.int .i64 x0), (.int .i64 x1), (.int .i64 x2), (.int .i64 x3)] 1).run prog w = .ok (.int .i64 x1) w := fun _ _ _ _ _ => by kernel_rfl
 have p2 : ∀ (x0 : Int) (x1 : Int) (x2 : Int) (x3 : Int) (w : World), (part 3 #[(.int .i64 x0), (.int .i64 x1), (.int .i64 x2), (.int .i64 x3)] 2).run prog w = .ok (.int .i64 x2) w := fun _ _ _ _ _ => by kernel_rfl
 have p3 : ∀ (x0 : Int) (x1 : Int) (x2 : Int) (x3 : Int) (w : World), (part 3 #[(.int .i64 x0), (.int .i64 x1), (.int .i64 x2), (.int .i64 x3)] 3).run prog w = .ok (.int .i64 x3) w := fun _ _ _ _ _ => by kernel_rfl
 simp only [Op.eqFields, Sem.run_bind, h3, p0, p1, p2, p3, Result.andThen_ok, Sem.run_ite, ne_eq]
 cases g0 : (x0 == y0) <;> cases g1 : (x1 == y1) <;> cases g2 : (x2 == y2) <;> cases g3 : (x3 == y3) <;> simp [g0, g1, g2, g3]
theorem ev37_eql (x y : Operand) (x0 y0 : Int) (x1 y1 : Int) (x2 y2 : Int) (x3 y3 : Int) (w : World) : (do eqGuard .eql 37 x y (.agg #[(.int .i64 x0), (.int .i64 x1), (.int .i64 x2), (.int .i64 x3)]) (.agg #[(.int .i64 y0), (.int .i64 y1), (.int .i64 y2), (.int .i64 y3)]); binOp .eql 37 (.agg #[(.int .i64 x0), (.int .i64 x1), (.int .i64 x2), (.int .i64 x3)]) (.agg #[(.int .i64 y0), (.int .i64 y1), (.int .i64 y2), (.int .i64 y3)]) : Sem Value).run prog w = .ok (.bool (((x0 == y0) && ((x1 == y1) && ((x2 == y2) && (x3 == y3)))))) w := by
 have h1 : (Op.equal 37 (.agg #[(.int .i64 x0), (.int .i64 x1), (.int .i64 x2), (.int .i64 x3)]) (.agg #[(.int .i64 y0), (.int .i64 y1), (.int .i64 y2), (.int .i64 y3)])).run prog w = .ok ((x0 == y0) && ((x1 == y1) && ((x2 == y2) && (x3 == y3)))) w := eqIn37 9997 x0 y0 x1 y1 x2 y2 x3 y3 w
 have h2 : (eqGuard .eql 37 x y (.agg #[(.int .i64 x0), (.int .i64 x1), (.int .i64 x2), (.int .i64 x3)]) (.agg #[(.int .i64 y0), (.int .i64 y1), (.int .i64 y2), (.int .i64 y3)])).run prog w = .ok () w := by kernel_rfl
 simp only [Sem.run_bind, h2, Result.andThen_ok, binOp, h1]
 rfl
end Go.Proofs.Ytlefdinbbjiabaa.Sx.FT
namespace Go.Proofs.Ytlefdinbbjiabaa.Sx
open Go Go.SX Go.Proofs Go.Proofs.Try FA FB FC FD FE FF FG FH FI FJ FK FL FM FN FO FP FQ FR FS FT
theorem awake7_ (S : Nat → Prop) (wf : World) :
  TR0 prog 8 [] [] S wf (fun v_ C_ => v_ = .bool true ∧ C_ = []) := by
 refine TR.mk func8 G ntmps8 G G (fun w_ => ?_)
 refine .seq (.region (.a G G G (.go idQ (.seq (.region (.v (ev_any (v := .agg #[.int .i64 0, .int .i64 1, .int .i64 7, .int .i64 0]) G kR (fun _ => by kernel_rfl)) G ?_))))))
 refine .cons (st_lit eAR (e := 47) (l := [(AR.mk 0 1 7 0)]) G G G G kR G G kW (fun b1 => ?_))
 refine .v (ev_any (v := .agg #[.int .i64 2, .slice (some ⟨b1, 0, none⟩) 1 1]) G kR (fun _ => by kernel_rfl)) G (.cons (st_lend0 G G G G hbd9 G .n (.c .h .n) (fun w_ hw => graphF 2 (some ⟨b1, 0, none⟩) 1 [(AR.mk 0 1 7 0)] _ _ (Fr.lend hw 0 G lO) ra7) (fun v_q10 C_q10 q10 => ?_)))
 obtain ⟨b2, u3, v4, fi5, ed6, x7, y8, W9, p11, p12, p13, rfl, rfl⟩ := q10
 show SP _ _ _ _ _ _ ⟨_, _ :: _ :: _ :: _ :: _ :: _ :: _, _, _⟩
 have hgl := p11.len
 have hgn := p11.ne
 refine .m G G G (.x G G G G (.x G G G G (.x G G G G ?_)))
 refine .x G G G G (.cons (st_alloc G G G G zf29 (fun b14 => (.cons (st_alloc G G G G zf29 (fun b15 => (.a G G G ?_)))))))
 refine .know (row_len 5 G) (fun hv18 => ?_)
 obtain ⟨A16, c17, rfl, hv18_1, hv18_2⟩ := hv18
 unfold maxLen at hv18_2
 refine .cons (st_storea (l' := [.int .i64 2, .slice A16 ((tabF 2 false [(AR.mk 0 1 7 0)]).length) c17]) G G G ty29 G G G (.t .h) G G ?_)
 refine .know (row_len 6 G) (fun hv21 => ?_)
 obtain ⟨A19, c20, rfl, hv21_1, hv21_2⟩ := hv21
 unfold maxLen at hv21_2
 refine .cons (st_storea (l' := [.int .i64 2, .slice A19 W9.length c20]) G G G ty29 G G G (.t .h) G G ?_)
 refine .a G G G (.go idQ (.seq (.region (.m G G G (.know (row_len 3 G) (fun hv24 => ?_))))))
 obtain ⟨A22, c23, rfl, hv24_1, hv24_2⟩ := hv24
 unfold maxLen at hv24_2
 refine .know (row_len 4 G) (fun hv27 => ?_)
 obtain ⟨A25, c26, rfl, hv27_1, hv27_2⟩ := hv27
 unfold maxLen at hv27_2
 refine .cons (st_lend0 G G G G hbd10 G (.c (.t2 .h) .n) (.c (.t2 .h) (.c (.t2 .h) .n)) (fun w_ hw => build_ 2 (tabF 2 false [(AR.mk 0 1 7 0)]) b2 A22 c23 fi5 A25 c26 ed6 _ _ (Fr.lend hw 0 G lO) (Fr.lend hw 1 G lO) (tab_ok ra7) p11 lO) (fun v_q37 C_q37 q37 => ?_))
 obtain ⟨lb28, v129, v230, v331, v432, R33, K34, U35, D36, p38, rfl, rfl⟩ := q37
 show SP _ _ _ _ _ _ ⟨_, _ :: _ :: _ :: _ :: _ :: _ :: _ :: _ :: _ :: _ :: _, _, _⟩
 obtain ⟨hk7, hr7⟩ := k7 p11 p12 p38
 subst hk7
 refine .a G G G (.go idQ (.seq (.region (.m G G G (.m G G G ?_)))))
 refine .cons (.on G G G (Ev.step (ev_mv G G) G G G ?_))
 refine .know (row_len 2 G) (fun hv41 => ?_)
 obtain ⟨A39, c40, rfl, hv41_1, hv41_2⟩ := hv41
 unfold maxLen at hv41_2
 refine .know (row_len 3 G) (fun hv44 => ?_)
 obtain ⟨A42, c43, rfl, hv44_1, hv44_2⟩ := hv44
 unfold maxLen at hv44_2
 refine .know (row_len 4 G) (fun hv47 => ?_)
 obtain ⟨A45, c46, rfl, hv47_1, hv47_2⟩ := hv47
 unfold maxLen at hv47_2
 refine .know (row_len 5 G) (fun hv50 => ?_)
 obtain ⟨A48, c49, rfl, hv50_1, hv50_2⟩ := hv50
 unfold maxLen at hv50_2
 refine .cons (.on G G G (st_callk G G G G hbd13 G (.c (.t .h) (.c (.t .h) (.c (.t .h) (.c (.t .h) (.c (.t .h) (.c (.t .h) (.c (.t .h) .n))))))) (lpl_ lb28 A39 c40 R33 A42 c43 [(LK.mk 0 1 7 (-1))] A45 c46 U35 A48 c49 D36 _ _) ?_))
 refine .cons (.on G G G (Ev.step (ev_cmp G G G G) G G G ?_))
 refine .v (ev_pickt G G G G) G (.m G G G (.w (fun _ => ev_mv G G) G ?_))
 rcases Bool.eq_false_or_eq_true ((R33.length : Int) == 2) with hb51 | hb51
 ·
  refine SP.reslot (t := 23) G hb51 ?_
  have hb51_ := bT bE hb51
  refine .cons (.on G G G (st_call0 G G G G hbd11 (lkA1 (lkg G hb51) lkA0) (.c (.t .h) (.c (.t .h) (.c (.t .h) (.c (.t .h) (.c (.t .h) (.c (.t .h) (.c (.t .h) .n))))))) (lks_ lb28 A39 c40 R33 A42 c43 [(LK.mk 0 1 7 (-1))] A45 c46 U35 A48 c49 D36 _ _ (by decide)) (fun v_q53 C_q53 q53 => ?_)))
  obtain ⟨u52, rfl, rfl⟩ := q53
  show SP _ _ _ _ _ _ ⟨_, _ :: _ :: _ :: _ :: _ :: _ :: _ :: _ :: _, _, _⟩
  refine .know (row_len 7 G) (fun hv56 => ?_)
  obtain ⟨A54, c55, rfl, hv56_1, hv56_2⟩ := hv56
  unfold maxLen at hv56_2
  refine .cons (.on G G G (Ev.step (ev_len G underlying34 G) G G G ?_))
  refine .cons (.on G G G (Ev.step (ev_cmp G G G G) G G G ?_))
  refine .v (ev_pickt G G G G) G (.m G G G (.w (fun _ => ev_mv G G) G ?_))
  rcases Bool.eq_false_or_eq_true ((([(LK.mk 0 1 7 (-1))].length : Nat) : Int) == 1) with hb57 | hb57
  ·
   refine SP.reslot (t := 29) G hb57 ?_
   have hb57_ := bT bE hb57
   refine .cons (.on G G G (st_call0 G G G G hbd11 (lkA1 (lkg G hb57) lkA0) (.d (.d (.d (.c .h .n)))) (lks_ lb28 A39 c40 R33 A42 c43 [(LK.mk 0 1 7 (-1))] A45 c46 U35 A48 c49 D36 _ _ (by decide)) (fun v_q59 C_q59 q59 => ?_)))
   obtain ⟨u58, rfl, rfl⟩ := q59
   show SP _ _ _ _ _ _ ⟨_, _ :: _ :: _ :: _ :: _ :: _ :: _ :: _ :: _, _, _⟩
   refine .know (row_len 7 G) (fun hv62 => ?_)
   obtain ⟨A60, c61, rfl, hv62_1, hv62_2⟩ := hv62
   unfold maxLen at hv62_2
   refine .cons (.on G G G (Ev.step (ev_ix G underlying34 ty37 G G oO oO (row_adr (i := 0) 7 G oO lO)) G G G ?_))
   refine .cons (.on G G G (Ev.step (ev_lda G G (row_el (E := eLK) (l := [(LK.mk 0 1 7 (-1))]) (i := 0) 7 G oO lO) ty37) G G G ?_))
   refine .cons (.on G G G (Ev.step (ev_any (v := .agg #[.int .i64 0, .int .i64 1, .int .i64 7, .int .i64 (-1)]) G kR (fun _ => by kernel_rfl)) G G G ?_))
   refine .cons (.on G G G (Ev.step (ev_bin G G G (r := .bool ((((gt [(LK.mk 0 1 7 (-1))] 0).lf) == 0) && ((((gt [(LK.mk 0 1 7 (-1))] 0).lt) == 1) && ((((gt [(LK.mk 0 1 7 (-1))] 0).lw) == 7) && (((gt [(LK.mk 0 1 7 (-1))] 0).lm) == (-1)))))) (ev37_eql _ _ _ _ _ _ _ _ _ _)) G G G ?_))
   refine .v (ev_pickt G G G G) G (.a G G G (.go idQ (.ret idQ (ret1 results8 G .n ⟨(congrArg Value.bool (by first | decide | (rw [hr7]; decide) | (exfalso; simp_all))), G⟩))))
  refine SP.reslot (t := 29) G hb57 ?_
  have hb57_ := bF bE hb57
  refine .cons (.off G G G G G G ?_)
  refine .cons (.off G G G G G G ?_)
  refine .cons (.off G G G G G G ?_)
  refine .cons (.off G G G G G G ?_)
  refine .cons (.off G G G G G G ?_)
  refine .v (ev_pickf G G G G) G (.a G G G (.go idQ (.ret idQ (ret1 results8 G .n ⟨(congrArg Value.bool (by first | decide | (rw [hr7]; decide) | (exfalso; simp_all))), G⟩))))
 refine SP.reslot (t := 23) G hb51 ?_
 have hb51_ := bF bE hb51
 refine .cons (.off G G G G G G ?_)
 refine .cons (.off G G G G G G ?_)
 refine .cons (.off G G G G G G ?_)
 refine .v (ev_pickf G G G G) G (.m G G G (.cons (.off G G G G G G (.cons (.off G G G G G G ?_)))))
 refine .cons (.off G G G G G G ?_)
 refine .cons (.off G G G G G G ?_)
 refine .cons (.off G G G G G G ?_)
 refine .cons (.off G G G G G G ?_)
 refine .v (ev_pickf G G G G) G (.a G G G (.go idQ (.ret idQ (ret1 results8 G .n ⟨(congrArg Value.bool (by first | decide | (rw [hr7]; decide) | (exfalso; simp_all))), G⟩))))
end Go.Proofs.Ytlefdinbbjiabaa.Sx
set_option maxRecDepth 20000
set_option maxHeartbeats 8000000
set_option maxRecDepth 20000
set_option maxHeartbeats 8000000
set_option maxRecDepth 20000
set_option maxHeartbeats 8000000
