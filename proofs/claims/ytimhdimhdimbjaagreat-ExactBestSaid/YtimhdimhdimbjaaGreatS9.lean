import Derived.Test.YtimhdimhdimbjaaGreatProg
import Derived.Test.YtimhdimhdimbjaaGreatS8
set_option linter.unusedVariables false
set_option linter.unusedSimpArgs false
set_option linter.unusedSectionVars false
set_option maxRecDepth 20000
set_option maxHeartbeats 1000000
namespace Go.Proofs.YtimhdimhdimbjaaGreat.Sx.FEF
open Go Go.SX Go.Proofs Go.Proofs.Tryz FA FB FC FD FE FF FG FH FJ FK FL FM FP FQ FU FW FEA FEB FEC FED FEE
theorem ai72 : (prog.info? 72).map (fun i => (i.zero, i.size, i.bytes)) = some (some (.agg #[.int .i64 0, .int .i64 0, .slice none 0 0, .int .u64 0, .int .i64 0, .int .i64 0, .int .i64 0, .int .i64 0, .int .i64 0, .int .i64 0, .slice none 0 0]), 11, 120) := by kernel_rfl
theorem ai80 : (prog.info? 80).map (fun i => (i.zero, i.size, i.bytes)) = some (some (.agg #[.int .i64 0, .int .i64 0, .slice none 0 0, .slice none 0 0, .slice none 0 0, .int .u64 0, .int .i64 0]), 7, 104) := by kernel_rfl
theorem ai83 : (prog.info? 83).map (fun i => (i.zero, i.size, i.bytes)) = some (some (.agg #[.int .i64 0, .int .i64 0, .slice none 0 0, .int .i64 0, .int .i64 0, .slice none 0 0, .slice none 0 0, .int .u64 0, .int .i64 0]), 9, 120) := by kernel_rfl
theorem ai75 : (prog.info? 75).map (fun i => (i.zero, i.size, i.bytes)) = some (some (.agg #[.slice none 0 0, .int .i64 0]), 2, 32) := by kernel_rfl
end Go.Proofs.YtimhdimhdimbjaaGreat.Sx.FEF
namespace Go.Proofs.YtimhdimhdimbjaaGreat.Sx
open Go Go.SX Go.Proofs Go.Proofs.Tryz FA FB FC FD FE FF FG FH FJ FK FL FM FP FQ FU FW FEA FEB FEC FED FEE FEF
theorem copied2_ (p : PB) (S : Nat → Prop) (wf : World) (hPB : PBF S wf p) (hL : LawP p) :
  TR prog 9 [.agg (cPB p).toArray] [] S wf (fun v_ C_ S_ wf_ => ∃ (q : PB), (NPF S_ wf_ q) ∧ (era q = era p) ∧ v_ = .agg (cPB q).toArray ∧ C_ = [rw_ eVH 72 (.slice q.pvA q.vehs.length q.pvc) q.vehs, rw_ eJB 80 (.slice q.pjA q.jobs.length q.pjc) q.jobs, rw_ eSH 83 (.slice q.psA q.ships.length q.psc) q.ships]) := by
 have hl1 := hPB.1.len
 have hl2 := hPB.2.1.len
 have hl3 := hPB.2.2.1.1.len
 have hl4 := hPB.2.2.2.1.1.len
 have hl5 := hPB.2.2.2.2.1.len
 have hkk := ij_rng (i := 0) (j := 0) (k := p.tn) oO hL.tn.1 oO hL.tn.1 hL.tn.2
 have ht1 := hL.tlen
 have ht2 := hL.dlen
 have hn1 := hL.nv
 have hn2 := hL.nj
 have hdm := hL.dims
 refine TR.mk func9 G ntmps9 G G (fun w_ => ?_)
 refine .seq (.region (.cons (st_boxa G G G G G (fun b1 => (.cons (st_alloc G G G G zf29 (fun b2 => (.go idQ (.seq ?_)))))))))
 refine SC.draw mo [cel b1 (cPB p) 29] [(12, fun w => At w b1 0 (cPB p))] (.c (.t .h) .n) (fun w_ _ hw_ => (sc1 (At.whole 0 G w_ hw_) sc0)) (fun wf_3 hl_3 hx_3 hR_3 => ?_)
 refine SR.cutx (X := (Option Addr) × Nat × (Option Addr) × Nat) (fun (yA4, yc5, yA6, yc7) => ([(1, .pointer (some ⟨b1, 0, none⟩)), (2, .pointer (some ⟨b2, 0, none⟩))], [cel b1 [.int .i64 p.dims, .int .i64 p.tn, .slice yA4 p.time.length yc5, .int .i64 p.dn, .slice yA6 p.dist.length yc7, .slice p.pvA p.vehs.length p.pvc, .slice p.pjA p.jobs.length p.pjc, .slice p.psA p.ships.length p.psc] 29, rw_ eZ 3 (.slice yA6 p.dist.length yc7) p.dist, rw_ eZ 3 (.slice yA4 p.time.length yc5) p.time, cel b2 [.int .i64 0, .int .i64 0, .slice none 0 0, .int .i64 0, .slice none 0 0, .slice none 0 0, .slice none 0 0, .slice none 0 0] 29])) S wf (fun ⟨yA4, yc5, yA6, yc7⟩ => ?_) (fun key8 => ?_)
 ·
  try dsimp only
  refine SQ.go idQ ?_
  refine .seq ?_
  refine SC.draw mo [cel b1 [.int .i64 p.dims, .int .i64 p.tn, .slice yA4 p.time.length yc5, .int .i64 p.dn, .slice yA6 p.dist.length yc7, .slice p.pvA p.vehs.length p.pvc, .slice p.pjA p.jobs.length p.pjc, .slice p.psA p.ships.length p.psc] 29] [(13, fun w => At w b1 0 [.int .i64 p.dims, .int .i64 p.tn, .slice yA4 p.time.length yc5, .int .i64 p.dn, .slice yA6 p.dist.length yc7, .slice p.pvA p.vehs.length p.pvc, .slice p.pjA p.jobs.length p.pjc, .slice p.psA p.ships.length p.psc])] (.c .h .n) (fun w_ _ hw_ => (sc1 (At.whole 0 G w_ hw_) sc0)) (fun wf_9 hl_9 hx_9 hR_9 => ?_)
  refine SR.cutx (X := (Option Addr) × Nat × (Option Addr) × Nat × (Option Addr) × Nat) (fun (yA10, yc11, yA12, yc13, yA14, yc15) => ([(1, .pointer (some ⟨b1, 0, none⟩)), (2, .pointer (some ⟨b2, 0, none⟩))], [cel b1 [.int .i64 p.dims, .int .i64 p.tn, .slice yA4 p.time.length yc5, .int .i64 p.dn, .slice yA6 p.dist.length yc7, .slice yA10 p.vehs.length yc11, .slice yA12 p.jobs.length yc13, .slice yA14 p.ships.length yc15] 29, rw_ eSH 83 (.slice yA14 p.ships.length yc15) p.ships, rw_ eJB 80 (.slice yA12 p.jobs.length yc13) p.jobs, rw_ eVH 72 (.slice yA10 p.vehs.length yc11) p.vehs, rw_ eZ 3 (.slice yA6 p.dist.length yc7) p.dist, rw_ eZ 3 (.slice yA4 p.time.length yc5) p.time, cel b2 [.int .i64 0, .int .i64 0, .slice none 0 0, .int .i64 0, .slice none 0 0, .slice none 0 0, .slice none 0 0, .slice none 0 0] 29])) S wf (fun ⟨yA10, yc11, yA12, yc13, yA14, yc15⟩ => ?_) (fun key16 => ?_)
  ·
   try dsimp only
   refine SQ.go idQ ?_
   refine .seq (.seq (.region (.f fo29_3 5 G G G G (.l ty25 0 G G G G G (.g underlying25 G G G ?_)))))
   refine .m G G G (.go idQ (.block ?_))
   refine SC.nestV0 3 75 69 ?_
   refine .loop (X := Int × (List VH) × (List VH)) (fun ⟨i, X, D⟩ => 0 ≤ i ∧ i ≤ (p.vehs.length : Int) ∧ CpI eraV p.vehs X D i) (fun ⟨i, X, D⟩ => [(1, .pointer (some ⟨b1, 0, none⟩)), (2, .pointer (some ⟨b2, 0, none⟩)), (41, .int .i64 (p.vehs.length : Int)), (42, .int .i64 i)]) (fun ⟨i, X, D⟩ => [nestV 3 75 69 D, cel b1 [.int .i64 p.dims, .int .i64 p.tn, .slice yA4 p.time.length yc5, .int .i64 p.dn, .slice yA6 p.dist.length yc7, .slice yA10 p.vehs.length yc11, .slice yA12 p.jobs.length yc13, .slice yA14 p.ships.length yc15] 29, rw_ eSH 83 (.slice yA14 p.ships.length yc15) p.ships, rw_ eJB 80 (.slice yA12 p.jobs.length yc13) p.jobs, rw_ eVH 72 (.slice yA10 p.vehs.length yc11) X, rw_ eZ 3 (.slice yA6 p.dist.length yc7) p.dist, rw_ eZ 3 (.slice yA4 p.time.length yc5) p.time, cel b2 [.int .i64 0, .int .i64 0, .slice none 0 0, .int .i64 0, .slice none 0 0, .slice none 0 0, .slice none 0 0, .slice none 0 0] 29]) (fun _ => S) (fun _ => wf) (fun ⟨i, X, D⟩ => ((p.vehs.length : Int) - i).toNat) (fun a_ w_ hs_ hw_ => ⟨⟨0, p.vehs, ([] : List VH)⟩, (by (try dsimp only); exact ⟨oO, oO, cp_init⟩), hs_.mono (Sub.get (.c4 G G G G .n)), hw_.keep (.d (.d (.d (.d .n))))⟩) (fun ⟨i, X, D⟩ ⟨q_0, q_1, q_2⟩ => ?_)
   try dsimp only
   refine .seq (.region (.e G G G G G (.go idQ (.seq (.condI G bD (fun h17 => ?_) (fun h17 => ?_))))))
   ·
    refine .skipgo idQ (.seq (.block (.seq (.region (.m G G G (.a G G G (.go idQ (.seq ?_))))))))
    have hxl := q_2.len
    have hxi : gt X i = gt p.vehs i := q_2.rest i (Int.le_refl _)
    have hxF : VHF S wf (gt X i) := by rw [hxi]; exact hPB.2.2.1.2 i
    have hxb0 : ((gt X i).vcap).length ≤ 12 := by rw [hxi]; have := (hL.veh i oO oO).cap.1; omega
    have hxb1 : ((gt X i).brs).length ≤ 12 := by rw [hxi]; have := (hL.veh i oO oO).brs; omega
    refine .region (.f fo29_3 5 G G G G (.l ty25 1 G G G G G (.m G G G ?_)))
    refine .v (ev_ix G underlying25 ty72 G G oO oO (row_adr (i := i) 4 G oO oO)) G (.a G G G (.go idQ (.seq ?_)))
    refine SC.draw mo [rw_ eVH 72 (.slice yA10 p.vehs.length yc11) X] [(16, fun w => At w (ab yA10) (ao yA10 + (i).toNat * eVH.sz) (eVH.enc (gt X i)))] (.c (.t4 .h) .n) (fun w_ _ hw_ => (sc1 (row_el (E := eVH) (l := X) (i := i) 0 G oO lO w_ hw_) sc0)) (fun wf_18 hl_18 hx_18 hR_18 => ?_)
    refine SR.cutx (X := (Option Addr) × Nat × (Option Addr) × Nat) (fun (yA19, yc20, yA21, yc22) => ([(1, .pointer (some ⟨b1, 0, none⟩)), (2, .pointer (some ⟨b2, 0, none⟩)), (41, .int .i64 (p.vehs.length : Int)), (42, .int .i64 i), (43, .bool (decide (i < (p.vehs.length : Int)))), (3, .int .i64 i), (4, .pointer (some ⟨(ab yA10), ao yA10 + (i).toNat * 11, none⟩))], [rw_ eVH 72 (.slice yA10 p.vehs.length yc11) (X.set (i).toNat (VH.mk ((gt X i).st) ((gt X i).en) ((gt X i).vcap) ((gt X i).vsk) ((gt X i).lo) ((gt X i).hi) ((gt X i).fix) ((gt X i).pt) ((gt X i).pd) ((gt X i).mt) ((gt X i).brs) yA19 yc20 yA21 yc22)), rw_ eBK 75 (.slice yA21 (((gt X i).brs).length) yc22) ((gt X i).brs), rw_ eZ 3 (.slice yA19 (((gt X i).vcap).length) yc20) ((gt X i).vcap), nestV 3 75 69 D, cel b1 [.int .i64 p.dims, .int .i64 p.tn, .slice yA4 p.time.length yc5, .int .i64 p.dn, .slice yA6 p.dist.length yc7, .slice yA10 p.vehs.length yc11, .slice yA12 p.jobs.length yc13, .slice yA14 p.ships.length yc15] 29, rw_ eSH 83 (.slice yA14 p.ships.length yc15) p.ships, rw_ eJB 80 (.slice yA12 p.jobs.length yc13) p.jobs, rw_ eZ 3 (.slice yA6 p.dist.length yc7) p.dist, rw_ eZ 3 (.slice yA4 p.time.length yc5) p.time, cel b2 [.int .i64 0, .int .i64 0, .slice none 0 0, .int .i64 0, .slice none 0 0, .slice none 0 0, .slice none 0 0, .slice none 0 0] 29])) S wf (fun ⟨yA19, yc20, yA21, yc22⟩ => ?_) (fun key23 => ?_)
    ·
     try dsimp only
     refine SQ.go idQ ?_
     refine .seq (.region (.m G G G (.v (ev_nil G G) G (.f fo72_9 (ao yA10 + (i).toNat * 11 + 10) G G G G ?_))))
     refine .v (ev_ld1 G ty70 G (At.elem1 (AtE (gt_sets oO lO) (row_el (E := eVH) (l := (X.set (i).toNat (VH.mk ((gt X i).st) ((gt X i).en) ((gt X i).vcap) ((gt X i).vsk) ((gt X i).lo) ((gt X i).hi) ((gt X i).fix) ((gt X i).pt) ((gt X i).pd) ((gt X i).mt) ((gt X i).brs) yA19 yc20 yA21 yc22))) (i := i) 0 G oO lO)) 10 G)) G (.g underlying70 G G G (.m G G G (.go idQ (.block ?_))))
     refine SC.nestB0 69 ?_
     refine .loop (X := Int × (List BK) × (List BK)) (fun ⟨j, W, C⟩ => 0 ≤ j ∧ j ≤ ((gt X i).brs.length : Int) ∧ CpI eraB (gt X i).brs W C j) (fun ⟨j, W, C⟩ => [(1, .pointer (some ⟨b1, 0, none⟩)), (2, .pointer (some ⟨b2, 0, none⟩)), (41, .int .i64 (p.vehs.length : Int)), (42, .int .i64 i), (4, .pointer (some ⟨(ab yA10), ao yA10 + (i).toNat * 11, none⟩)), (71, .int .i64 ((((gt X i).brs).length : Nat) : Int)), (72, .int .i64 j)]) (fun ⟨j, W, C⟩ => [nestB 69 C, rw_ eVH 72 (.slice yA10 p.vehs.length yc11) (X.set (i).toNat (VH.mk ((gt X i).st) ((gt X i).en) ((gt X i).vcap) ((gt X i).vsk) ((gt X i).lo) ((gt X i).hi) ((gt X i).fix) ((gt X i).pt) ((gt X i).pd) ((gt X i).mt) ((gt X i).brs) yA19 yc20 yA21 yc22)), rw_ eBK 75 (.slice yA21 (((gt X i).brs).length) yc22) W, rw_ eZ 3 (.slice yA19 (((gt X i).vcap).length) yc20) ((gt X i).vcap), nestV 3 75 69 D, cel b1 [.int .i64 p.dims, .int .i64 p.tn, .slice yA4 p.time.length yc5, .int .i64 p.dn, .slice yA6 p.dist.length yc7, .slice yA10 p.vehs.length yc11, .slice yA12 p.jobs.length yc13, .slice yA14 p.ships.length yc15] 29, rw_ eSH 83 (.slice yA14 p.ships.length yc15) p.ships, rw_ eJB 80 (.slice yA12 p.jobs.length yc13) p.jobs, rw_ eZ 3 (.slice yA6 p.dist.length yc7) p.dist, rw_ eZ 3 (.slice yA4 p.time.length yc5) p.time, cel b2 [.int .i64 0, .int .i64 0, .slice none 0 0, .int .i64 0, .slice none 0 0, .slice none 0 0, .slice none 0 0, .slice none 0 0] 29]) (fun _ => S) (fun _ => wf) (fun ⟨j, W, C⟩ => (((gt X i).brs.length : Int) - j).toNat) (fun a_ w_ hs_ hw_ => ⟨⟨0, (gt X i).brs, ([] : List BK)⟩, (by (try dsimp only); exact ⟨oO, oO, cp_init⟩), hs_.mono (Sub.get (.c4 G G G G (.c G (.c G (.c G .n))))), hw_.keep (.d (.d (.d (.d (.d (.c .h .n))))))⟩) (fun ⟨j, W, C⟩ ⟨r_0, r_1, r_2⟩ => ?_)
     try dsimp only
     refine .seq (.region (.e G G G G G (.go idQ (.seq (.condI G bD (fun h24 => ?_) (fun h24 => ?_))))))
     ·
      refine .skipgo idQ (.seq (.block (.seq (.region (.m G G G (.a G G G (.go idQ ?_)))))))
      have hwl := r_2.len
      have hwi : gt W j = gt (gt X i).brs j := r_2.rest j (Int.le_refl _)
      have hwF : BKF S wf (gt W j) := by rw [hwi]; exact hxF.2.2 j
      have hwb0 : ((gt W j).bws).length ≤ 12 := by rw [hwi, hxi]; have h_ := ((hL.veh i oO oO).brk j oO (by rw [← hxi]; omega)).1.len; omega
      refine SC.draw mo [rw_ eBK 75 (.slice yA21 (((gt X i).brs).length) yc22) W] [(17, fun w => At w (ab yA21) (ao yA21 + (j).toNat * eBK.sz) (eBK.enc (gt W j)))] (.c (.t2 .h) .n) (fun w_ _ hw_ => (sc1 (row_el (E := eBK) (l := W) (i := j) 0 G oO lO w_ hw_) sc0)) (fun wf_25 hl_25 hx_25 hR_25 => ?_)
      refine SR.m 0 G G G G ?_
      refine SR.z 1 G G (ev_nil G G) ?_
      refine SR.z 2 G G (ev_fa G fo72_9 G (r := ao yA10 + (i).toNat * 11 + 10) G) ?_
      refine SR.z 3 G G (ev_ld1 G ty70 G (At.elem1 (AtE (gt_sets oO lO) (At.d (Fr.el (i := i) (Fr.lent (S := S) hR_25 1 G lO) oO lO))) 10 G)) ?_
      refine SR.m 4 G G G G ?_
      refine SR.m 6 G G G G ?_
      refine SR.z 7 G G (ev_nil G G) ?_
      refine SR.z 8 G G (ev_fa G fo72_9 G (r := ao yA10 + (i).toNat * 11 + 10) G) ?_
      refine SR.z 9 G G (ev_ld1 G ty70 G (At.elem1 (AtE (gt_sets oO lO) (At.d (Fr.el (i := i) (Fr.lent (S := S) hR_25 1 G lO) oO lO))) 10 G)) ?_
      refine SR.m 10 G G G G ?_
      refine SR.two (i := 5) (j := 11) kR ⟨_, G, ?_⟩ ⟨_, G, ?_⟩
      ·
       refine st_lit eWN (e := 69) (l := []) G G G G kR G G kW (fun b26 => ⟨ttr (i := j) 1 G oO oO, ?_⟩)
       refine SR.o 11 G (Ev.step (ev_ix G underlying70 ty75 G G oO oO (row_adr (i := j) 1 G oO oO)) G G G ⟨ttr (i := j) 1 G oO oO, ?_⟩)
       refine SR.z 12 G G (ev_fa G fo75_0 G (r := ao yA21 + (j).toNat * 2) G) ?_
       refine SR.z 13 G G (ev_ld1 G ty73 G (At.elem1 (At.ofcs 0 G kR) 0 G)) ?_
       refine SR.o 14 G (st_app0 (E := eWN) (m := (gt W j).bws) G G G G underlying73 ai69 G G G .h rO (Src.w (Fr.flat ((hwF).ext hx_25))) lO G (fun v27 => ⟨ttr (i := j) 1 G oO oO, ?_⟩))
       refine SR.o 15 G (Ev.step (ev_ix G underlying70 ty75 G G oO oO (row_adr (i := j) 1 G oO oO)) G G G ⟨ttr (i := j) 1 G oO oO, ?_⟩)
       refine SR.z 16 G G (ev_fa G fo75_0 G (r := ao yA21 + (j).toNat * 2) G) ?_
       refine .know (row_len 0 G) (fun hv30 => ?_)
       obtain ⟨A28, c29, rfl, hv30_1, hv30_2⟩ := hv30
       unfold maxLen at hv30_2
       refine SR.o 17 G (st_setel2 (E := eBK) (i := j) (cs := [.slice A28 (((gt W j).bws).length) c29]) (off := 0) (l2 := (W.set (j).toNat (BK.mk ((gt W j).bws) ((gt W j).bsrv) A28 c29))) (BK.mk ((gt W j).bws) ((gt W j).bsrv) A28 c29) G G G ty73 G G G G G (.t .h) lO lO (Nat.le_of_ble_eq_true G) G G ⟨ttc (fun w_ hw_ => (tc2 kR tc0)), ?_⟩)
       refine SR.fin kR hl_25 hx_25 hR_25 (.c (.c .n)) ?_
       refine SQ.go idQ ?_
       refine SC.packB (BK.mk ((gt W j).bws) ((gt W j).bsrv) A28 c29) (.c (.t2 .h) (.c (.t .h) .n)) G oO ?_
       refine .region (.p ((j + 1)) oO oO G G G G G (.m G G G ?_))
       exact SP.nil (SQ.roundb (X := Int × (List BK) × (List BK)) (x := (j, W, C)) ⟨(j + 1), (W.set (j).toNat (BK.mk ((gt W j).bws) ((gt W j).bsrv) A28 c29)), (C ++ [(BK.mk ((gt W j).bws) ((gt W j).bsrv) A28 c29)])⟩ (by (try dsimp only); exact ⟨oO, oO, (cp_next r_2 oO oO G)⟩) dO (Sub.get (.c4 G G G G (.c G (.c G (.c G .n))))) (kp (.c .h (.c (.t .h) (.d (.d (.d (.d (.c .h .n)))))))))
      refine Ev.step (ev_ix G underlying70 ty75 G G oO oO (row_adr (i := j) 0 G oO oO)) G G G ⟨ttr (i := j) 0 G oO oO, ?_⟩
      refine SR.z 12 G G (ev_fa G fo75_0 G (r := ao yA21 + (j).toNat * 2) G) ?_
      refine SR.z 13 G G (ev_ld1 G ty73 G (At.elem1 (At.ofcs 0 G kR) 0 G)) ?_
      refine SR.o 5 G (st_lit eWN (e := 69) (l := []) G G G G kR G G kW (fun b31 => ⟨ttr (i := j) 1 G oO oO, ?_⟩))
      refine SR.o 14 G (st_app0 (E := eWN) (m := (gt W j).bws) G G G G underlying73 ai69 G G G .h rO (Src.w (Fr.flat ((hwF).ext hx_25))) lO G (fun v32 => ⟨ttr (i := j) 1 G oO oO, ?_⟩))
      refine SR.o 15 G (Ev.step (ev_ix G underlying70 ty75 G G oO oO (row_adr (i := j) 1 G oO oO)) G G G ⟨ttr (i := j) 1 G oO oO, ?_⟩)
      refine SR.z 16 G G (ev_fa G fo75_0 G (r := ao yA21 + (j).toNat * 2) G) ?_
      refine .know (row_len 0 G) (fun hv35 => ?_)
      obtain ⟨A33, c34, rfl, hv35_1, hv35_2⟩ := hv35
      unfold maxLen at hv35_2
      refine SR.o 17 G (st_setel2 (E := eBK) (i := j) (cs := [.slice A33 (((gt W j).bws).length) c34]) (off := 0) (l2 := (W.set (j).toNat (BK.mk ((gt W j).bws) ((gt W j).bsrv) A33 c34))) (BK.mk ((gt W j).bws) ((gt W j).bsrv) A33 c34) G G G ty73 G G G G G (.t .h) lO lO (Nat.le_of_ble_eq_true G) G G ⟨ttc (fun w_ hw_ => (tc2 kR tc0)), ?_⟩)
      refine SR.fin kR hl_25 hx_25 hR_25 (.c (.c .n)) ?_
      refine SQ.go idQ ?_
      refine SC.packB (BK.mk ((gt W j).bws) ((gt W j).bsrv) A33 c34) (.c (.t2 .h) (.c (.t .h) .n)) G oO ?_
      refine .region (.p ((j + 1)) oO oO G G G G G (.m G G G ?_))
      exact SP.nil (SQ.roundb (X := Int × (List BK) × (List BK)) (x := (j, W, C)) ⟨(j + 1), (W.set (j).toNat (BK.mk ((gt W j).bws) ((gt W j).bsrv) A33 c34)), (C ++ [(BK.mk ((gt W j).bws) ((gt W j).bsrv) A33 c34)])⟩ (by (try dsimp only); exact ⟨oO, oO, (cp_next r_2 oO oO G)⟩) dO (Sub.get (.c4 G G G G (.c G (.c G (.c G .n))))) (kp (.c .h (.c (.t .h) (.d (.d (.d (.d (.c .h .n)))))))))
     refine .exit idQ ?_
     obtain ⟨hCW, hCE⟩ := cp_end r_2 oO
     have hWl := r_2.len
     subst hCW
     refine SC.rerow (X.set (i).toNat (VH.mk ((gt X i).st) ((gt X i).en) ((gt X i).vcap) ((gt X i).vsk) ((gt X i).lo) ((gt X i).hi) ((gt X i).fix) ((gt X i).pt) ((gt X i).pd) ((gt X i).mt) C yA19 yc20 yA21 yc22)) (.c (.t .h) .n) (flat_set (by simp only [eVH, hWl])) set_len2 ?_
     refine SC.packV (VH.mk ((gt X i).st) ((gt X i).en) ((gt X i).vcap) ((gt X i).vsk) ((gt X i).lo) ((gt X i).hi) ((gt X i).fix) ((gt X i).pt) ((gt X i).pd) ((gt X i).mt) C yA19 yc20 yA21 yc22) (.c (.t4 .h) (.c (.t2 (.t .h)) (.c (.t2 .h) (.c (.t .h) .n)))) G dO oO oO ?_
     refine .region (.p ((i + 1)) oO oO G G G G G (.m G G G ?_))
     exact SP.nil (SQ.roundb (X := Int × (List VH) × (List VH)) (x := (i, X, D)) ⟨(i + 1), (X.set (i).toNat (VH.mk ((gt X i).st) ((gt X i).en) ((gt X i).vcap) ((gt X i).vsk) ((gt X i).lo) ((gt X i).hi) ((gt X i).fix) ((gt X i).pt) ((gt X i).pd) ((gt X i).mt) C yA19 yc20 yA21 yc22)), (D ++ [(VH.mk ((gt X i).st) ((gt X i).en) ((gt X i).vcap) ((gt X i).vsk) ((gt X i).lo) ((gt X i).hi) ((gt X i).fix) ((gt X i).pt) ((gt X i).pd) ((gt X i).mt) C yA19 yc20 yA21 yc22)])⟩ (by (try dsimp only); exact ⟨oO, oO, (cp_next q_2 oO oO (by unfold eraV; dsimp only; rw [hCE]))⟩) dO (Sub.get (.c4 G G G G .n)) (kp (.c .h (.c (.t .h) (.c (.t .h) (.c (.t .h) (.d (.d .n))))))))
    refine SR.join (X := Value × Value) (fun (zv36, zv37) => ([(1, .pointer (some ⟨b1, 0, none⟩)), (2, .pointer (some ⟨b2, 0, none⟩)), (41, .int .i64 (p.vehs.length : Int)), (42, .int .i64 i), (43, .bool (decide (i < (p.vehs.length : Int)))), (3, .int .i64 i), (4, .pointer (some ⟨(ab yA10), ao yA10 + (i).toNat * 11, none⟩)), (50, .pointer (some ⟨(ab yA10), ao yA10 + (i).toNat * 11, none⟩)), (56, zv37), (62, zv36), (64, .pointer (some ⟨(ab yA10), ao yA10 + (i).toNat * 11 + 2, none⟩))], [rw_ eBK 75 (zv36) ((gt X i).brs), rw_ eZ 3 (zv37) ((gt X i).vcap), rw_ eVH 72 (.slice yA10 p.vehs.length yc11) X])) 4 #[true, true, true, true, true, true, true, true, true, true, true, true, true, true, true, true, false, false, false, false] (fun ⟨zv36, zv37⟩ => ?_) (fun key38 => ?_)
    ·
     show SR _ _ _ _ _ _ _ _ _ ⟨[(1, .pointer (some ⟨b1, 0, none⟩)), (2, .pointer (some ⟨b2, 0, none⟩)), (41, .int .i64 (p.vehs.length : Int)), (42, .int .i64 i), (43, .bool (decide (i < (p.vehs.length : Int)))), (3, .int .i64 i), (4, .pointer (some ⟨(ab yA10), ao yA10 + (i).toNat * 11, none⟩)), (50, .pointer (some ⟨(ab yA10), ao yA10 + (i).toNat * 11, none⟩)), (56, zv37), (62, zv36), (64, .pointer (some ⟨(ab yA10), ao yA10 + (i).toNat * 11 + 2, none⟩))], [rw_ eBK 75 (zv36) ((gt X i).brs), rw_ eZ 3 (zv37) ((gt X i).vcap), rw_ eVH 72 (.slice yA10 p.vehs.length yc11) X], _, _⟩
     refine .know (row_len 1 G) (fun hv41 => ?_)
     obtain ⟨A39, c40, rfl, hv41_1, hv41_2⟩ := hv41
     unfold maxLen at hv41_2
     refine SR.o 16 G (st_setel2 (E := eVH) (i := i) (cs := [.slice A39 (((gt X i).vcap).length) c40]) (off := 2) (l2 := (X.set (i).toNat (VH.mk ((gt X i).st) ((gt X i).en) ((gt X i).vcap) ((gt X i).vsk) ((gt X i).lo) ((gt X i).hi) ((gt X i).fix) ((gt X i).pt) ((gt X i).pd) ((gt X i).mt) ((gt X i).brs) A39 c40 ((gt X i).vbA) ((gt X i).vbc)))) (VH.mk ((gt X i).st) ((gt X i).en) ((gt X i).vcap) ((gt X i).vsk) ((gt X i).lo) ((gt X i).hi) ((gt X i).fix) ((gt X i).pt) ((gt X i).pd) ((gt X i).mt) ((gt X i).brs) A39 c40 ((gt X i).vbA) ((gt X i).vbc)) G G G ty22 G G G G G (.t2 .h) lO lO (Nat.le_of_ble_eq_true G) G G ⟨ttc (fun w_ hw_ => (tc2 kR tc0)), ?_⟩)
     refine SR.z 17 G G (ev_nil G G) ?_
     refine SR.z 18 G G (ev_fa G fo72_9 G (r := ao yA10 + (i).toNat * 11 + 10) G) ?_
     refine .know (row_len 1 G) (fun hv44 => ?_)
     obtain ⟨A42, c43, rfl, hv44_1, hv44_2⟩ := hv44
     unfold maxLen at hv44_2
     refine SR.o 19 G (st_setel2 (E := eVH) (i := i) (cs := [.slice A42 (((gt X i).brs).length) c43]) (off := 10) (l2 := (X.set (i).toNat (VH.mk ((gt X i).st) ((gt X i).en) ((gt X i).vcap) ((gt X i).vsk) ((gt X i).lo) ((gt X i).hi) ((gt X i).fix) ((gt X i).pt) ((gt X i).pd) ((gt X i).mt) ((gt X i).brs) A39 c40 A42 c43))) (VH.mk ((gt X i).st) ((gt X i).en) ((gt X i).vcap) ((gt X i).vsk) ((gt X i).lo) ((gt X i).hi) ((gt X i).fix) ((gt X i).pt) ((gt X i).pd) ((gt X i).mt) ((gt X i).brs) A39 c40 A42 c43) G G G ty70 G G G G G .h lO lO (Nat.le_of_ble_eq_true G) (by rw [gt_sets oO lO]; rfl) (set_set_ _ _ _ _) ⟨ttc (fun w_ hw_ => (tc2 kR tc0)), ?_⟩)
     refine SR.fin kR hl_18 hx_18 hR_18 (.c (.c (.c .n))) ?_
     exact SQ.weak (key23 (A39, c40, A42, c43)) (Sub.get (.c4 G G G G (.c G (.c G (.c G .n))))) (kp (.d (.d (.d (.d (.d .n))))))
    refine SR.m 0 G G G G ?_
    refine SR.m 1 G G G G ?_
    refine SR.m 3 G G G G ?_
    refine SR.z 4 G G (ev_nil G G) ?_
    refine SR.z 5 G G (ev_fa G fo72_2 G (r := ao yA10 + (i).toNat * 11 + 2) G) ?_
    refine SR.z 6 G G (ev_ld1 G ty22 G (At.elem1 (At.ofcs 0 G kR) 2 G)) ?_
    refine SR.m 9 G G G G ?_
    refine SR.z 10 G G (ev_nil G G) ?_
    refine SR.z 11 G G (ev_fa G fo72_9 G (r := ao yA10 + (i).toNat * 11 + 10) G) ?_
    refine SR.z 12 G G (ev_ld1 G ty70 G (At.elem1 (At.ofcs 0 G kR) 10 G)) ?_
    refine SR.two (i := 2) (j := 8) kR ⟨_, G, ?_⟩ ⟨_, G, ?_⟩
    ·
     refine st_lit eZ (e := 3) (l := []) G G G G kR G G kW (fun b45 => ⟨ttr (i := i) 1 G oO oO, ?_⟩)
     refine SR.two (i := 7) (j := 8) kR ⟨_, G, ?_⟩ ⟨_, G, ?_⟩
     ·
      refine st_app0 (E := eZ) (m := (gt X i).vcap) G G G G underlying22 ai3 G G G .h rO (Src.w (Fr.flat ((hxF).ext hx_18).1)) lO G (fun v46 => ⟨ttr (i := i) 1 G oO oO, ?_⟩)
      refine SR.o 8 G (st_lit eBK (e := 75) (l := []) G G G G kR G G kW (fun b47 => ⟨ttr (i := i) 2 G oO oO, ?_⟩))
      refine SR.o 13 G (st_app0 (E := eBK) (m := (gt X i).brs) G G G G underlying70 ai75 G G G .h rO (Src.w (Fr.flat ((hxF).ext hx_18).2.1)) lO G (fun v48 => ⟨ttr (i := i) 2 G oO oO, ?_⟩))
      refine SR.z 14 G G (ev_nil G G) ?_
      refine SR.z 15 G G (ev_fa G fo72_2 G (r := ao yA10 + (i).toNat * 11 + 2) G) ?_
      exact SR.weakj (key38 (v48, v46)) kR (Sub.get (.c4 G G G G (.c4 G G G G (.c G (.c G (.c G .n)))))) (kp (.d (.c .h .n)))
     refine st_lit eBK (e := 75) (l := []) G G G G kR G G kW (fun b49 => ⟨ttr (i := i) 2 G oO oO, ?_⟩)
     refine SR.o 7 G (st_app0 (E := eZ) (m := (gt X i).vcap) G G G G underlying22 ai3 G G G (.t .h) rO (Src.w (Fr.flat ((hxF).ext hx_18).1)) lO G (fun v50 => ⟨ttr (i := i) 2 G oO oO, ?_⟩))
     refine SR.o 13 G (st_app0 (E := eBK) (m := (gt X i).brs) G G G G underlying70 ai75 G G G (.t .h) rO (Src.w (Fr.flat ((hxF).ext hx_18).2.1)) lO G (fun v51 => ⟨ttr (i := i) 2 G oO oO, ?_⟩))
     refine SR.z 14 G G (ev_nil G G) ?_
     refine SR.z 15 G G (ev_fa G fo72_2 G (r := ao yA10 + (i).toNat * 11 + 2) G) ?_
     exact SR.weakj (key38 (v51, v50)) kR (Sub.get (.c4 G G G G (.c4 G G G G (.c G (.c G (.c G .n)))))) (kp (.d (.c .h .n)))
    refine st_lit eBK (e := 75) (l := []) G G G G kR G G kW (fun b52 => ⟨ttr (i := i) 1 G oO oO, ?_⟩)
    refine SR.o 2 G (st_lit eZ (e := 3) (l := []) G G G G kR G G kW (fun b53 => ⟨ttr (i := i) 2 G oO oO, ?_⟩))
    refine SR.o 7 G (st_app0 (E := eZ) (m := (gt X i).vcap) G G G G underlying22 ai3 G G G .h rO (Src.w (Fr.flat ((hxF).ext hx_18).1)) lO G (fun v54 => ⟨ttr (i := i) 2 G oO oO, ?_⟩))
    refine SR.o 13 G (st_app0 (E := eBK) (m := (gt X i).brs) G G G G underlying70 ai75 G G G (.t .h) rO (Src.w (Fr.flat ((hxF).ext hx_18).2.1)) lO G (fun v55 => ⟨ttr (i := i) 2 G oO oO, ?_⟩))
    refine SR.z 14 G G (ev_nil G G) ?_
    refine SR.z 15 G G (ev_fa G fo72_2 G (r := ao yA10 + (i).toNat * 11 + 2) G) ?_
    exact SR.weakj (key38 (v55, v54)) kR (Sub.get (.c4 G G G G (.c4 G G G G (.c G (.c G (.c G .n)))))) (kp (.d (.c .h .n)))
   refine .exit idQ ?_
   refine .seq (.seq (.region (.f fo29_4 6 G G G G (.l ty26 1 G G G G G (.g underlying26 G G G ?_)))))
   refine .m G G G (.go idQ (.block ?_))
   refine SC.nestJ0 3 69 ?_
   refine .loop (X := Int × (List JB) × (List JB)) (fun ⟨k, XJ, DJ⟩ => 0 ≤ k ∧ k ≤ (p.jobs.length : Int) ∧ CpI eraJ p.jobs XJ DJ k) (fun ⟨k, XJ, DJ⟩ => [(1, .pointer (some ⟨b1, 0, none⟩)), (2, .pointer (some ⟨b2, 0, none⟩)), (41, .int .i64 (p.vehs.length : Int)), (42, .int .i64 i), (96, .int .i64 (p.jobs.length : Int)), (97, .int .i64 k)]) (fun ⟨k, XJ, DJ⟩ => [nestJ 3 69 DJ, nestV 3 75 69 D, cel b1 [.int .i64 p.dims, .int .i64 p.tn, .slice yA4 p.time.length yc5, .int .i64 p.dn, .slice yA6 p.dist.length yc7, .slice yA10 p.vehs.length yc11, .slice yA12 p.jobs.length yc13, .slice yA14 p.ships.length yc15] 29, rw_ eSH 83 (.slice yA14 p.ships.length yc15) p.ships, rw_ eJB 80 (.slice yA12 p.jobs.length yc13) XJ, rw_ eVH 72 (.slice yA10 p.vehs.length yc11) X, rw_ eZ 3 (.slice yA6 p.dist.length yc7) p.dist, rw_ eZ 3 (.slice yA4 p.time.length yc5) p.time, cel b2 [.int .i64 0, .int .i64 0, .slice none 0 0, .int .i64 0, .slice none 0 0, .slice none 0 0, .slice none 0 0, .slice none 0 0] 29]) (fun _ => S) (fun _ => wf) (fun ⟨k, XJ, DJ⟩ => ((p.jobs.length : Int) - k).toNat) (fun a_ w_ hs_ hw_ => ⟨⟨0, p.jobs, ([] : List JB)⟩, (by (try dsimp only); exact ⟨oO, oO, cp_init⟩), hs_.mono (Sub.get (.c4 G G G G (.c G (.c G .n)))), hw_.keep (.d (.d (.d (.d (.c .h .n)))))⟩) (fun ⟨k, XJ, DJ⟩ ⟨s_0, s_1, s_2⟩ => ?_)
   try dsimp only
   refine .seq (.region (.e G G G G G (.go idQ (.seq (.condI G bD (fun h56 => ?_) (fun h56 => ?_))))))
   ·
    refine .skipgo idQ (.seq (.block (.seq (.region (.m G G G (.a G G G (.go idQ (.seq ?_))))))))
    have hjl := s_2.len
    have hji : gt XJ k = gt p.jobs k := s_2.rest k (Int.le_refl _)
    have hjF : JBF S wf (gt XJ k) := by rw [hji]; exact hPB.2.2.2.1.2 k
    have hjb0 : ((gt XJ k).drop).length ≤ 12 := by rw [hji]; have := (hL.job k oO oO).drop.1; omega
    have hjb1 : ((gt XJ k).pick).length ≤ 12 := by rw [hji]; have := (hL.job k oO oO).pick.1; omega
    have hjb2 : ((gt XJ k).so.sws).length ≤ 12 := by rw [hji]; have := (hL.job k oO oO).so.win.len; omega
    refine .region (.f fo29_4 6 G G G G (.l ty26 2 G G G G G (.m G G G ?_)))
    refine .v (ev_ix G underlying26 ty80 G G oO oO (row_adr (i := k) 4 G oO oO)) G (.a G G G (.go idQ ?_))
    refine SC.draw mo [rw_ eJB 80 (.slice yA12 p.jobs.length yc13) XJ] [(24, fun w => At w (ab yA12) (ao yA12 + (k).toNat * eJB.sz) (eJB.enc (gt XJ k)))] (.c (.t4 .h) .n) (fun w_ _ hw_ => (sc1 (row_el (E := eJB) (l := XJ) (i := k) 0 G oO lO w_ hw_) sc0)) (fun wf_57 hl_57 hx_57 hR_57 => ?_)
    refine SR.cutx (X := (Option Addr) × Nat × (Option Addr) × Nat × (Option Addr) × Nat) (fun (yA58, yc59, yA60, yc61, yA62, yc63) => ([(1, .pointer (some ⟨b1, 0, none⟩)), (2, .pointer (some ⟨b2, 0, none⟩)), (41, .int .i64 (p.vehs.length : Int)), (42, .int .i64 i), (96, .int .i64 (p.jobs.length : Int)), (97, .int .i64 k), (98, .bool (decide (k < (p.jobs.length : Int)))), (6, .int .i64 k), (7, .pointer (some ⟨(ab yA12), ao yA12 + (k).toNat * 7, none⟩))], [rw_ eJB 80 (.slice yA12 p.jobs.length yc13) (XJ.set (k).toNat (JB.mk (SO.mk (((gt XJ k).so).pl) (((gt XJ k).so).srv) (((gt XJ k).so).sws) yA58 yc59) ((gt XJ k).drop) ((gt XJ k).pick) ((gt XJ k).jsk) ((gt XJ k).jpr) yA60 yc61 yA62 yc63)), rw_ eWN 69 (.slice yA58 ((((gt XJ k).so).sws).length) yc59) (((gt XJ k).so).sws), rw_ eZ 3 (.slice yA62 (((gt XJ k).pick).length) yc63) ((gt XJ k).pick), rw_ eZ 3 (.slice yA60 (((gt XJ k).drop).length) yc61) ((gt XJ k).drop), nestJ 3 69 DJ, nestV 3 75 69 D, cel b1 [.int .i64 p.dims, .int .i64 p.tn, .slice yA4 p.time.length yc5, .int .i64 p.dn, .slice yA6 p.dist.length yc7, .slice yA10 p.vehs.length yc11, .slice yA12 p.jobs.length yc13, .slice yA14 p.ships.length yc15] 29, rw_ eSH 83 (.slice yA14 p.ships.length yc15) p.ships, rw_ eVH 72 (.slice yA10 p.vehs.length yc11) X, rw_ eZ 3 (.slice yA6 p.dist.length yc7) p.dist, rw_ eZ 3 (.slice yA4 p.time.length yc5) p.time, cel b2 [.int .i64 0, .int .i64 0, .slice none 0 0, .int .i64 0, .slice none 0 0, .slice none 0 0, .slice none 0 0, .slice none 0 0] 29])) S wf (fun ⟨yA58, yc59, yA60, yc61, yA62, yc63⟩ => ?_) (fun key64 => ?_)
    ·
     try dsimp only
     refine SQ.go idQ ?_
     refine SC.packJ (JB.mk (SO.mk (((gt XJ k).so).pl) (((gt XJ k).so).srv) (((gt XJ k).so).sws) yA58 yc59) ((gt XJ k).drop) ((gt XJ k).pick) ((gt XJ k).jsk) ((gt XJ k).jpr) yA60 yc61 yA62 yc63) (.c (.t4 .h) (.c (.t2 (.t .h)) (.c (.t2 .h) (.c (.t .h) .n)))) G G G oO oO oO ?_
     refine .region (.p ((k + 1)) oO oO G G G G G (.m G G G ?_))
     exact SP.nil (SQ.roundb (X := Int × (List JB) × (List JB)) (x := (k, XJ, DJ)) ⟨(k + 1), (XJ.set (k).toNat (JB.mk (SO.mk (((gt XJ k).so).pl) (((gt XJ k).so).srv) (((gt XJ k).so).sws) yA58 yc59) ((gt XJ k).drop) ((gt XJ k).pick) ((gt XJ k).jsk) ((gt XJ k).jpr) yA60 yc61 yA62 yc63)), (DJ ++ [(JB.mk (SO.mk (((gt XJ k).so).pl) (((gt XJ k).so).srv) (((gt XJ k).so).sws) yA58 yc59) ((gt XJ k).drop) ((gt XJ k).pick) ((gt XJ k).jsk) ((gt XJ k).jpr) yA60 yc61 yA62 yc63)])⟩ (by (try dsimp only); exact ⟨oO, oO, (cp_next s_2 oO oO G)⟩) dO (Sub.get (.c4 G G G G (.c G (.c G .n)))) (kp (.c .h (.c (.t .h) (.c (.t .h) (.c (.t .h) (.d (.d (.c .h .n)))))))))
    refine SR.join (X := Value × Value × Value) (fun (zv65, zv66, zv67) => ([(1, .pointer (some ⟨b1, 0, none⟩)), (2, .pointer (some ⟨b2, 0, none⟩)), (41, .int .i64 (p.vehs.length : Int)), (42, .int .i64 i), (96, .int .i64 (p.jobs.length : Int)), (97, .int .i64 k), (98, .bool (decide (k < (p.jobs.length : Int)))), (6, .int .i64 k), (7, .pointer (some ⟨(ab yA12), ao yA12 + (k).toNat * 7, none⟩)), (105, .pointer (some ⟨(ab yA12), ao yA12 + (k).toNat * 7, none⟩)), (106, .pointer (some ⟨(ab yA12), ao yA12 + (k).toNat * 7, none⟩)), (112, zv67), (118, zv66), (125, zv65), (127, .pointer (some ⟨(ab yA12), ao yA12 + (k).toNat * 7 + 3, none⟩))], [rw_ eWN 69 (zv65) (((gt XJ k).so).sws), rw_ eZ 3 (zv66) ((gt XJ k).pick), rw_ eZ 3 (zv67) ((gt XJ k).drop), rw_ eJB 80 (.slice yA12 p.jobs.length yc13) XJ])) 8 #[true, true, true, true, true, true, true, true, true, true, true, true, true, true, true, true, true, true, true, true, true, true, true, true, false, false, false, false, false, false, false, false] (fun ⟨zv65, zv66, zv67⟩ => ?_) (fun key68 => ?_)
    ·
     show SR _ _ _ _ _ _ _ _ _ ⟨[(1, .pointer (some ⟨b1, 0, none⟩)), (2, .pointer (some ⟨b2, 0, none⟩)), (41, .int .i64 (p.vehs.length : Int)), (42, .int .i64 i), (96, .int .i64 (p.jobs.length : Int)), (97, .int .i64 k), (98, .bool (decide (k < (p.jobs.length : Int)))), (6, .int .i64 k), (7, .pointer (some ⟨(ab yA12), ao yA12 + (k).toNat * 7, none⟩)), (105, .pointer (some ⟨(ab yA12), ao yA12 + (k).toNat * 7, none⟩)), (106, .pointer (some ⟨(ab yA12), ao yA12 + (k).toNat * 7, none⟩)), (112, zv67), (118, zv66), (125, zv65), (127, .pointer (some ⟨(ab yA12), ao yA12 + (k).toNat * 7 + 3, none⟩))], [rw_ eWN 69 (zv65) (((gt XJ k).so).sws), rw_ eZ 3 (zv66) ((gt XJ k).pick), rw_ eZ 3 (zv67) ((gt XJ k).drop), rw_ eJB 80 (.slice yA12 p.jobs.length yc13) XJ], _, _⟩
     refine .know (row_len 2 G) (fun hv71 => ?_)
     obtain ⟨A69, c70, rfl, hv71_1, hv71_2⟩ := hv71
     unfold maxLen at hv71_2
     refine SR.o 24 G (st_setel2 (E := eJB) (i := k) (cs := [.slice A69 (((gt XJ k).drop).length) c70]) (off := 3) (l2 := (XJ.set (k).toNat (JB.mk ((gt XJ k).so) ((gt XJ k).drop) ((gt XJ k).pick) ((gt XJ k).jsk) ((gt XJ k).jpr) A69 c70 ((gt XJ k).jkA) ((gt XJ k).jkc)))) (JB.mk ((gt XJ k).so) ((gt XJ k).drop) ((gt XJ k).pick) ((gt XJ k).jsk) ((gt XJ k).jpr) A69 c70 ((gt XJ k).jkA) ((gt XJ k).jkc)) G G G ty22 G G G G G (.t2 (.t .h)) lO lO (Nat.le_of_ble_eq_true G) G G ⟨ttc (fun w_ hw_ => (tc2 kR tc0)), ?_⟩)
     refine SR.z 25 G G (ev_nil G G) ?_
     refine SR.z 26 G G (ev_fa G fo80_2 G (r := ao yA12 + (k).toNat * 7 + 4) G) ?_
     refine .know (row_len 2 G) (fun hv74 => ?_)
     obtain ⟨A72, c73, rfl, hv74_1, hv74_2⟩ := hv74
     unfold maxLen at hv74_2
     refine SR.o 27 G (st_setel2 (E := eJB) (i := k) (cs := [.slice A72 (((gt XJ k).pick).length) c73]) (off := 4) (l2 := (XJ.set (k).toNat (JB.mk ((gt XJ k).so) ((gt XJ k).drop) ((gt XJ k).pick) ((gt XJ k).jsk) ((gt XJ k).jpr) A69 c70 A72 c73))) (JB.mk ((gt XJ k).so) ((gt XJ k).drop) ((gt XJ k).pick) ((gt XJ k).jsk) ((gt XJ k).jpr) A69 c70 A72 c73) G G G ty22 G G G G G .h lO lO (Nat.le_of_ble_eq_true G) (by rw [gt_sets oO lO]; rfl) (set_set_ _ _ _ _) ⟨ttc (fun w_ hw_ => (tc2 kR tc0)), ?_⟩)
     refine SR.z 28 G G (ev_nil G G) ?_
     refine SR.z 29 G G (ev_fa G fo80_0 G (r := ao yA12 + (k).toNat * 7) G) ?_
     refine SR.z 30 G G (ev_fa G fo78_2 G (r := ao yA12 + (k).toNat * 7 + 2) G) ?_
     refine .know (row_len 1 G) (fun hv77 => ?_)
     obtain ⟨A75, c76, rfl, hv77_1, hv77_2⟩ := hv77
     unfold maxLen at hv77_2
     refine SR.o 31 G (st_setel2 (E := eJB) (i := k) (cs := [.slice A75 ((((gt XJ k).so).sws).length) c76]) (off := 2) (l2 := (XJ.set (k).toNat (JB.mk (SO.mk (((gt XJ k).so).pl) (((gt XJ k).so).srv) (((gt XJ k).so).sws) A75 c76) ((gt XJ k).drop) ((gt XJ k).pick) ((gt XJ k).jsk) ((gt XJ k).jpr) A69 c70 A72 c73))) (JB.mk (SO.mk (((gt XJ k).so).pl) (((gt XJ k).so).srv) (((gt XJ k).so).sws) A75 c76) ((gt XJ k).drop) ((gt XJ k).pick) ((gt XJ k).jsk) ((gt XJ k).jpr) A69 c70 A72 c73) G G G ty73 G G G G G .h lO lO (Nat.le_of_ble_eq_true G) (by rw [gt_sets oO lO]; rfl) (set_set_ _ _ _ _) ⟨ttc (fun w_ hw_ => (tc2 kR tc0)), ?_⟩)
     refine SR.fin kR hl_57 hx_57 hR_57 (.c (.c (.c (.c .n)))) ?_
     exact SQ.weak (key64 (A75, c76, A69, c70, A72, c73)) (Sub.get (.c4 G G G G (.c4 G G G G (.c G .n)))) (kp (.d (.d (.d (.d (.d (.d .n)))))))
    refine SR.m 0 G G G G ?_
    refine SR.m 1 G G G G ?_
    refine SR.m 2 G G G G ?_
    refine SR.m 4 G G G G ?_
    refine SR.z 5 G G (ev_nil G G) ?_
    refine SR.z 6 G G (ev_fa G fo80_1 G (r := ao yA12 + (k).toNat * 7 + 3) G) ?_
    refine SR.z 7 G G (ev_ld1 G ty22 G (At.elem1 (At.ofcs 0 G kR) 3 G)) ?_
    refine SR.m 10 G G G G ?_
    refine SR.z 11 G G (ev_nil G G) ?_
    refine SR.z 12 G G (ev_fa G fo80_2 G (r := ao yA12 + (k).toNat * 7 + 4) G) ?_
    refine SR.z 13 G G (ev_ld1 G ty22 G (At.elem1 (At.ofcs 0 G kR) 4 G)) ?_
    refine SR.m 16 G G G G ?_
    refine SR.z 17 G G (ev_nil G G) ?_
    refine SR.z 18 G G (ev_fa G fo80_0 G (r := ao yA12 + (k).toNat * 7) G) ?_
    refine SR.z 19 G G (ev_fa G fo78_2 G (r := ao yA12 + (k).toNat * 7 + 2) G) ?_
    refine SR.z 20 G G (ev_ld1 G ty73 G (At.elem1 (At.ofcs 0 G kR) 2 G)) ?_
    refine SR.three (i := 3) (j := 9) (l := 15) kR ⟨_, G, ?_⟩ ⟨_, G, ?_⟩ ⟨_, G, ?_⟩
    ·
     refine st_lit eZ (e := 3) (l := []) G G G G kR G G kW (fun b78 => ⟨ttr (i := k) 1 G oO oO, ?_⟩)
     refine SR.three (i := 8) (j := 9) (l := 15) kR ⟨_, G, ?_⟩ ⟨_, G, ?_⟩ ⟨_, G, ?_⟩
     ·
      refine st_app0 (E := eZ) (m := (gt XJ k).drop) G G G G underlying22 ai3 G G G .h rO (Src.w (Fr.flat ((hjF).ext hx_57).1)) lO G (fun v79 => ⟨ttr (i := k) 1 G oO oO, ?_⟩)
      refine SR.two (i := 9) (j := 15) kR ⟨_, G, ?_⟩ ⟨_, G, ?_⟩
      ·
       refine st_lit eZ (e := 3) (l := []) G G G G kR G G kW (fun b80 => ⟨ttr (i := k) 2 G oO oO, ?_⟩)
       refine SR.two (i := 14) (j := 15) kR ⟨_, G, ?_⟩ ⟨_, G, ?_⟩
       ·
        refine st_app0 (E := eZ) (m := (gt XJ k).pick) G G G G underlying22 ai3 G G G .h rO (Src.w (Fr.flat ((hjF).ext hx_57).2.1)) lO G (fun v81 => ⟨ttr (i := k) 2 G oO oO, ?_⟩)
        refine SR.o 15 G (st_lit eWN (e := 69) (l := []) G G G G kR G G kW (fun b82 => ⟨ttr (i := k) 3 G oO oO, ?_⟩))
        refine SR.o 21 G (st_app0 (E := eWN) (m := ((gt XJ k).so).sws) G G G G underlying73 ai69 G G G .h rO (Src.w (Fr.flat ((hjF).ext hx_57).2.2)) lO G (fun v83 => ⟨ttr (i := k) 3 G oO oO, ?_⟩))
        refine SR.z 22 G G (ev_nil G G) ?_
        refine SR.z 23 G G (ev_fa G fo80_1 G (r := ao yA12 + (k).toNat * 7 + 3) G) ?_
        exact SR.weakj (key68 (v83, v81, v79)) kR (Sub.get (.c4 G G G G (.c4 G G G G (.c4 G G G G (.c G (.c G (.c G .n))))))) (kp (.d (.d .n)))
       refine st_lit eWN (e := 69) (l := []) G G G G kR G G kW (fun b84 => ⟨ttr (i := k) 3 G oO oO, ?_⟩)
       refine SR.o 14 G (st_app0 (E := eZ) (m := (gt XJ k).pick) G G G G underlying22 ai3 G G G (.t .h) rO (Src.w (Fr.flat ((hjF).ext hx_57).2.1)) lO G (fun v85 => ⟨ttr (i := k) 3 G oO oO, ?_⟩))
       refine SR.o 21 G (st_app0 (E := eWN) (m := ((gt XJ k).so).sws) G G G G underlying73 ai69 G G G (.t .h) rO (Src.w (Fr.flat ((hjF).ext hx_57).2.2)) lO G (fun v86 => ⟨ttr (i := k) 3 G oO oO, ?_⟩))
       refine SR.z 22 G G (ev_nil G G) ?_
       refine SR.z 23 G G (ev_fa G fo80_1 G (r := ao yA12 + (k).toNat * 7 + 3) G) ?_
       exact SR.weakj (key68 (v86, v85, v79)) kR (Sub.get (.c4 G G G G (.c4 G G G G (.c4 G G G G (.c G (.c G (.c G .n))))))) (kp (.d (.d .n)))
      refine st_lit eWN (e := 69) (l := []) G G G G kR G G kW (fun b87 => ⟨ttr (i := k) 2 G oO oO, ?_⟩)
      refine SR.o 9 G (st_lit eZ (e := 3) (l := []) G G G G kR G G kW (fun b88 => ⟨ttr (i := k) 3 G oO oO, ?_⟩))
      refine SR.o 14 G (st_app0 (E := eZ) (m := (gt XJ k).pick) G G G G underlying22 ai3 G G G .h rO (Src.w (Fr.flat ((hjF).ext hx_57).2.1)) lO G (fun v89 => ⟨ttr (i := k) 3 G oO oO, ?_⟩))
      refine SR.o 21 G (st_app0 (E := eWN) (m := ((gt XJ k).so).sws) G G G G underlying73 ai69 G G G (.t .h) rO (Src.w (Fr.flat ((hjF).ext hx_57).2.2)) lO G (fun v90 => ⟨ttr (i := k) 3 G oO oO, ?_⟩))
      refine SR.z 22 G G (ev_nil G G) ?_
      refine SR.z 23 G G (ev_fa G fo80_1 G (r := ao yA12 + (k).toNat * 7 + 3) G) ?_
      exact SR.weakj (key68 (v90, v89, v79)) kR (Sub.get (.c4 G G G G (.c4 G G G G (.c4 G G G G (.c G (.c G (.c G .n))))))) (kp (.d (.d .n)))
     ·
      refine st_lit eZ (e := 3) (l := []) G G G G kR G G kW (fun b91 => ⟨ttr (i := k) 2 G oO oO, ?_⟩)
      refine SR.two (i := 8) (j := 15) kR ⟨_, G, ?_⟩ ⟨_, G, ?_⟩
      ·
       refine st_app0 (E := eZ) (m := (gt XJ k).drop) G G G G underlying22 ai3 G G G (.t .h) rO (Src.w (Fr.flat ((hjF).ext hx_57).1)) lO G (fun v92 => ⟨ttr (i := k) 2 G oO oO, ?_⟩)
       refine SR.two (i := 14) (j := 15) kR ⟨_, G, ?_⟩ ⟨_, G, ?_⟩
       ·
        refine st_app0 (E := eZ) (m := (gt XJ k).pick) G G G G underlying22 ai3 G G G (.t .h) rO (Src.w (Fr.flat ((hjF).ext hx_57).2.1)) lO G (fun v93 => ⟨ttr (i := k) 2 G oO oO, ?_⟩)
        refine SR.o 15 G (st_lit eWN (e := 69) (l := []) G G G G kR G G kW (fun b94 => ⟨ttr (i := k) 3 G oO oO, ?_⟩))
        refine SR.o 21 G (st_app0 (E := eWN) (m := ((gt XJ k).so).sws) G G G G underlying73 ai69 G G G .h rO (Src.w (Fr.flat ((hjF).ext hx_57).2.2)) lO G (fun v95 => ⟨ttr (i := k) 3 G oO oO, ?_⟩))
        refine SR.z 22 G G (ev_nil G G) ?_
        refine SR.z 23 G G (ev_fa G fo80_1 G (r := ao yA12 + (k).toNat * 7 + 3) G) ?_
        exact SR.weakj (key68 (v95, v93, v92)) kR (Sub.get (.c4 G G G G (.c4 G G G G (.c4 G G G G (.c G (.c G (.c G .n))))))) (kp (.d (.d .n)))
       refine st_lit eWN (e := 69) (l := []) G G G G kR G G kW (fun b96 => ⟨ttr (i := k) 3 G oO oO, ?_⟩)
       refine SR.o 14 G (st_app0 (E := eZ) (m := (gt XJ k).pick) G G G G underlying22 ai3 G G G (.t2 .h) rO (Src.w (Fr.flat ((hjF).ext hx_57).2.1)) lO G (fun v97 => ⟨ttr (i := k) 3 G oO oO, ?_⟩))
       refine SR.o 21 G (st_app0 (E := eWN) (m := ((gt XJ k).so).sws) G G G G underlying73 ai69 G G G (.t .h) rO (Src.w (Fr.flat ((hjF).ext hx_57).2.2)) lO G (fun v98 => ⟨ttr (i := k) 3 G oO oO, ?_⟩))
       refine SR.z 22 G G (ev_nil G G) ?_
       refine SR.z 23 G G (ev_fa G fo80_1 G (r := ao yA12 + (k).toNat * 7 + 3) G) ?_
       exact SR.weakj (key68 (v98, v97, v92)) kR (Sub.get (.c4 G G G G (.c4 G G G G (.c4 G G G G (.c G (.c G (.c G .n))))))) (kp (.d (.d .n)))
      refine st_lit eWN (e := 69) (l := []) G G G G kR G G kW (fun b99 => ⟨ttr (i := k) 3 G oO oO, ?_⟩)
      refine SR.o 8 G (st_app0 (E := eZ) (m := (gt XJ k).drop) G G G G underlying22 ai3 G G G (.t2 .h) rO (Src.w (Fr.flat ((hjF).ext hx_57).1)) lO G (fun v100 => ⟨ttr (i := k) 3 G oO oO, ?_⟩))
      refine SR.o 14 G (st_app0 (E := eZ) (m := (gt XJ k).pick) G G G G underlying22 ai3 G G G (.t2 .h) rO (Src.w (Fr.flat ((hjF).ext hx_57).2.1)) lO G (fun v101 => ⟨ttr (i := k) 3 G oO oO, ?_⟩))
      refine SR.o 21 G (st_app0 (E := eWN) (m := ((gt XJ k).so).sws) G G G G underlying73 ai69 G G G (.t2 .h) rO (Src.w (Fr.flat ((hjF).ext hx_57).2.2)) lO G (fun v102 => ⟨ttr (i := k) 3 G oO oO, ?_⟩))
      refine SR.z 22 G G (ev_nil G G) ?_
      refine SR.z 23 G G (ev_fa G fo80_1 G (r := ao yA12 + (k).toNat * 7 + 3) G) ?_
      exact SR.weakj (key68 (v102, v101, v100)) kR (Sub.get (.c4 G G G G (.c4 G G G G (.c4 G G G G (.c G (.c G (.c G .n))))))) (kp (.d (.d .n)))
     refine st_lit eWN (e := 69) (l := []) G G G G kR G G kW (fun b103 => ⟨ttr (i := k) 2 G oO oO, ?_⟩)
     refine SR.two (i := 8) (j := 9) kR ⟨_, G, ?_⟩ ⟨_, G, ?_⟩
     ·
      refine st_app0 (E := eZ) (m := (gt XJ k).drop) G G G G underlying22 ai3 G G G (.t .h) rO (Src.w (Fr.flat ((hjF).ext hx_57).1)) lO G (fun v104 => ⟨ttr (i := k) 2 G oO oO, ?_⟩)
      refine SR.o 9 G (st_lit eZ (e := 3) (l := []) G G G G kR G G kW (fun b105 => ⟨ttr (i := k) 3 G oO oO, ?_⟩))
      refine SR.o 14 G (st_app0 (E := eZ) (m := (gt XJ k).pick) G G G G underlying22 ai3 G G G .h rO (Src.w (Fr.flat ((hjF).ext hx_57).2.1)) lO G (fun v106 => ⟨ttr (i := k) 3 G oO oO, ?_⟩))
      refine SR.o 21 G (st_app0 (E := eWN) (m := ((gt XJ k).so).sws) G G G G underlying73 ai69 G G G (.t2 .h) rO (Src.w (Fr.flat ((hjF).ext hx_57).2.2)) lO G (fun v107 => ⟨ttr (i := k) 3 G oO oO, ?_⟩))
      refine SR.z 22 G G (ev_nil G G) ?_
      refine SR.z 23 G G (ev_fa G fo80_1 G (r := ao yA12 + (k).toNat * 7 + 3) G) ?_
      exact SR.weakj (key68 (v107, v106, v104)) kR (Sub.get (.c4 G G G G (.c4 G G G G (.c4 G G G G (.c G (.c G (.c G .n))))))) (kp (.d (.d .n)))
     refine st_lit eZ (e := 3) (l := []) G G G G kR G G kW (fun b108 => ⟨ttr (i := k) 3 G oO oO, ?_⟩)
     refine SR.o 8 G (st_app0 (E := eZ) (m := (gt XJ k).drop) G G G G underlying22 ai3 G G G (.t2 .h) rO (Src.w (Fr.flat ((hjF).ext hx_57).1)) lO G (fun v109 => ⟨ttr (i := k) 3 G oO oO, ?_⟩))
     refine SR.o 14 G (st_app0 (E := eZ) (m := (gt XJ k).pick) G G G G underlying22 ai3 G G G (.t .h) rO (Src.w (Fr.flat ((hjF).ext hx_57).2.1)) lO G (fun v110 => ⟨ttr (i := k) 3 G oO oO, ?_⟩))
     refine SR.o 21 G (st_app0 (E := eWN) (m := ((gt XJ k).so).sws) G G G G underlying73 ai69 G G G (.t2 .h) rO (Src.w (Fr.flat ((hjF).ext hx_57).2.2)) lO G (fun v111 => ⟨ttr (i := k) 3 G oO oO, ?_⟩))
     refine SR.z 22 G G (ev_nil G G) ?_
     refine SR.z 23 G G (ev_fa G fo80_1 G (r := ao yA12 + (k).toNat * 7 + 3) G) ?_
     exact SR.weakj (key68 (v111, v110, v109)) kR (Sub.get (.c4 G G G G (.c4 G G G G (.c4 G G G G (.c G (.c G (.c G .n))))))) (kp (.d (.d .n)))
    ·
     refine st_lit eZ (e := 3) (l := []) G G G G kR G G kW (fun b112 => ⟨ttr (i := k) 1 G oO oO, ?_⟩)
     refine SR.two (i := 3) (j := 15) kR ⟨_, G, ?_⟩ ⟨_, G, ?_⟩
     ·
      refine st_lit eZ (e := 3) (l := []) G G G G kR G G kW (fun b113 => ⟨ttr (i := k) 2 G oO oO, ?_⟩)
      refine SR.two (i := 8) (j := 15) kR ⟨_, G, ?_⟩ ⟨_, G, ?_⟩
      ·
       refine st_app0 (E := eZ) (m := (gt XJ k).drop) G G G G underlying22 ai3 G G G .h rO (Src.w (Fr.flat ((hjF).ext hx_57).1)) lO G (fun v114 => ⟨ttr (i := k) 2 G oO oO, ?_⟩)
       refine SR.two (i := 14) (j := 15) kR ⟨_, G, ?_⟩ ⟨_, G, ?_⟩
       ·
        refine st_app0 (E := eZ) (m := (gt XJ k).pick) G G G G underlying22 ai3 G G G (.t .h) rO (Src.w (Fr.flat ((hjF).ext hx_57).2.1)) lO G (fun v115 => ⟨ttr (i := k) 2 G oO oO, ?_⟩)
        refine SR.o 15 G (st_lit eWN (e := 69) (l := []) G G G G kR G G kW (fun b116 => ⟨ttr (i := k) 3 G oO oO, ?_⟩))
        refine SR.o 21 G (st_app0 (E := eWN) (m := ((gt XJ k).so).sws) G G G G underlying73 ai69 G G G .h rO (Src.w (Fr.flat ((hjF).ext hx_57).2.2)) lO G (fun v117 => ⟨ttr (i := k) 3 G oO oO, ?_⟩))
        refine SR.z 22 G G (ev_nil G G) ?_
        refine SR.z 23 G G (ev_fa G fo80_1 G (r := ao yA12 + (k).toNat * 7 + 3) G) ?_
        exact SR.weakj (key68 (v117, v115, v114)) kR (Sub.get (.c4 G G G G (.c4 G G G G (.c4 G G G G (.c G (.c G (.c G .n))))))) (kp (.d (.d .n)))
       refine st_lit eWN (e := 69) (l := []) G G G G kR G G kW (fun b118 => ⟨ttr (i := k) 3 G oO oO, ?_⟩)
       refine SR.o 14 G (st_app0 (E := eZ) (m := (gt XJ k).pick) G G G G underlying22 ai3 G G G (.t2 .h) rO (Src.w (Fr.flat ((hjF).ext hx_57).2.1)) lO G (fun v119 => ⟨ttr (i := k) 3 G oO oO, ?_⟩))
       refine SR.o 21 G (st_app0 (E := eWN) (m := ((gt XJ k).so).sws) G G G G underlying73 ai69 G G G (.t .h) rO (Src.w (Fr.flat ((hjF).ext hx_57).2.2)) lO G (fun v120 => ⟨ttr (i := k) 3 G oO oO, ?_⟩))
       refine SR.z 22 G G (ev_nil G G) ?_
       refine SR.z 23 G G (ev_fa G fo80_1 G (r := ao yA12 + (k).toNat * 7 + 3) G) ?_
       exact SR.weakj (key68 (v120, v119, v114)) kR (Sub.get (.c4 G G G G (.c4 G G G G (.c4 G G G G (.c G (.c G (.c G .n))))))) (kp (.d (.d .n)))
      refine st_lit eWN (e := 69) (l := []) G G G G kR G G kW (fun b121 => ⟨ttr (i := k) 3 G oO oO, ?_⟩)
      refine SR.o 8 G (st_app0 (E := eZ) (m := (gt XJ k).drop) G G G G underlying22 ai3 G G G (.t .h) rO (Src.w (Fr.flat ((hjF).ext hx_57).1)) lO G (fun v122 => ⟨ttr (i := k) 3 G oO oO, ?_⟩))
      refine SR.o 14 G (st_app0 (E := eZ) (m := (gt XJ k).pick) G G G G underlying22 ai3 G G G (.t2 .h) rO (Src.w (Fr.flat ((hjF).ext hx_57).2.1)) lO G (fun v123 => ⟨ttr (i := k) 3 G oO oO, ?_⟩))
      refine SR.o 21 G (st_app0 (E := eWN) (m := ((gt XJ k).so).sws) G G G G underlying73 ai69 G G G (.t2 .h) rO (Src.w (Fr.flat ((hjF).ext hx_57).2.2)) lO G (fun v124 => ⟨ttr (i := k) 3 G oO oO, ?_⟩))
      refine SR.z 22 G G (ev_nil G G) ?_
      refine SR.z 23 G G (ev_fa G fo80_1 G (r := ao yA12 + (k).toNat * 7 + 3) G) ?_
      exact SR.weakj (key68 (v124, v123, v122)) kR (Sub.get (.c4 G G G G (.c4 G G G G (.c4 G G G G (.c G (.c G (.c G .n))))))) (kp (.d (.d .n)))
     refine st_lit eWN (e := 69) (l := []) G G G G kR G G kW (fun b125 => ⟨ttr (i := k) 2 G oO oO, ?_⟩)
     refine SR.o 3 G (st_lit eZ (e := 3) (l := []) G G G G kR G G kW (fun b126 => ⟨ttr (i := k) 3 G oO oO, ?_⟩))
     refine SR.o 8 G (st_app0 (E := eZ) (m := (gt XJ k).drop) G G G G underlying22 ai3 G G G .h rO (Src.w (Fr.flat ((hjF).ext hx_57).1)) lO G (fun v127 => ⟨ttr (i := k) 3 G oO oO, ?_⟩))
     refine SR.o 14 G (st_app0 (E := eZ) (m := (gt XJ k).pick) G G G G underlying22 ai3 G G G (.t2 .h) rO (Src.w (Fr.flat ((hjF).ext hx_57).2.1)) lO G (fun v128 => ⟨ttr (i := k) 3 G oO oO, ?_⟩))
     refine SR.o 21 G (st_app0 (E := eWN) (m := ((gt XJ k).so).sws) G G G G underlying73 ai69 G G G (.t2 .h) rO (Src.w (Fr.flat ((hjF).ext hx_57).2.2)) lO G (fun v129 => ⟨ttr (i := k) 3 G oO oO, ?_⟩))
     refine SR.z 22 G G (ev_nil G G) ?_
     refine SR.z 23 G G (ev_fa G fo80_1 G (r := ao yA12 + (k).toNat * 7 + 3) G) ?_
     exact SR.weakj (key68 (v129, v128, v127)) kR (Sub.get (.c4 G G G G (.c4 G G G G (.c4 G G G G (.c G (.c G (.c G .n))))))) (kp (.d (.d .n)))
    refine st_lit eWN (e := 69) (l := []) G G G G kR G G kW (fun b130 => ⟨ttr (i := k) 1 G oO oO, ?_⟩)
    refine SR.two (i := 3) (j := 9) kR ⟨_, G, ?_⟩ ⟨_, G, ?_⟩
    ·
     refine st_lit eZ (e := 3) (l := []) G G G G kR G G kW (fun b131 => ⟨ttr (i := k) 2 G oO oO, ?_⟩)
     refine SR.two (i := 8) (j := 9) kR ⟨_, G, ?_⟩ ⟨_, G, ?_⟩
     ·
      refine st_app0 (E := eZ) (m := (gt XJ k).drop) G G G G underlying22 ai3 G G G .h rO (Src.w (Fr.flat ((hjF).ext hx_57).1)) lO G (fun v132 => ⟨ttr (i := k) 2 G oO oO, ?_⟩)
      refine SR.o 9 G (st_lit eZ (e := 3) (l := []) G G G G kR G G kW (fun b133 => ⟨ttr (i := k) 3 G oO oO, ?_⟩))
      refine SR.o 14 G (st_app0 (E := eZ) (m := (gt XJ k).pick) G G G G underlying22 ai3 G G G .h rO (Src.w (Fr.flat ((hjF).ext hx_57).2.1)) lO G (fun v134 => ⟨ttr (i := k) 3 G oO oO, ?_⟩))
      refine SR.o 21 G (st_app0 (E := eWN) (m := ((gt XJ k).so).sws) G G G G underlying73 ai69 G G G (.t2 .h) rO (Src.w (Fr.flat ((hjF).ext hx_57).2.2)) lO G (fun v135 => ⟨ttr (i := k) 3 G oO oO, ?_⟩))
      refine SR.z 22 G G (ev_nil G G) ?_
      refine SR.z 23 G G (ev_fa G fo80_1 G (r := ao yA12 + (k).toNat * 7 + 3) G) ?_
      exact SR.weakj (key68 (v135, v134, v132)) kR (Sub.get (.c4 G G G G (.c4 G G G G (.c4 G G G G (.c G (.c G (.c G .n))))))) (kp (.d (.d .n)))
     refine st_lit eZ (e := 3) (l := []) G G G G kR G G kW (fun b136 => ⟨ttr (i := k) 3 G oO oO, ?_⟩)
     refine SR.o 8 G (st_app0 (E := eZ) (m := (gt XJ k).drop) G G G G underlying22 ai3 G G G (.t .h) rO (Src.w (Fr.flat ((hjF).ext hx_57).1)) lO G (fun v137 => ⟨ttr (i := k) 3 G oO oO, ?_⟩))
     refine SR.o 14 G (st_app0 (E := eZ) (m := (gt XJ k).pick) G G G G underlying22 ai3 G G G (.t .h) rO (Src.w (Fr.flat ((hjF).ext hx_57).2.1)) lO G (fun v138 => ⟨ttr (i := k) 3 G oO oO, ?_⟩))
     refine SR.o 21 G (st_app0 (E := eWN) (m := ((gt XJ k).so).sws) G G G G underlying73 ai69 G G G (.t2 .h) rO (Src.w (Fr.flat ((hjF).ext hx_57).2.2)) lO G (fun v139 => ⟨ttr (i := k) 3 G oO oO, ?_⟩))
     refine SR.z 22 G G (ev_nil G G) ?_
     refine SR.z 23 G G (ev_fa G fo80_1 G (r := ao yA12 + (k).toNat * 7 + 3) G) ?_
     exact SR.weakj (key68 (v139, v138, v137)) kR (Sub.get (.c4 G G G G (.c4 G G G G (.c4 G G G G (.c G (.c G (.c G .n))))))) (kp (.d (.d .n)))
    refine st_lit eZ (e := 3) (l := []) G G G G kR G G kW (fun b140 => ⟨ttr (i := k) 2 G oO oO, ?_⟩)
    refine SR.o 3 G (st_lit eZ (e := 3) (l := []) G G G G kR G G kW (fun b141 => ⟨ttr (i := k) 3 G oO oO, ?_⟩))
    refine SR.o 8 G (st_app0 (E := eZ) (m := (gt XJ k).drop) G G G G underlying22 ai3 G G G .h rO (Src.w (Fr.flat ((hjF).ext hx_57).1)) lO G (fun v142 => ⟨ttr (i := k) 3 G oO oO, ?_⟩))
    refine SR.o 14 G (st_app0 (E := eZ) (m := (gt XJ k).pick) G G G G underlying22 ai3 G G G (.t .h) rO (Src.w (Fr.flat ((hjF).ext hx_57).2.1)) lO G (fun v143 => ⟨ttr (i := k) 3 G oO oO, ?_⟩))
    refine SR.o 21 G (st_app0 (E := eWN) (m := ((gt XJ k).so).sws) G G G G underlying73 ai69 G G G (.t2 .h) rO (Src.w (Fr.flat ((hjF).ext hx_57).2.2)) lO G (fun v144 => ⟨ttr (i := k) 3 G oO oO, ?_⟩))
    refine SR.z 22 G G (ev_nil G G) ?_
    refine SR.z 23 G G (ev_fa G fo80_1 G (r := ao yA12 + (k).toNat * 7 + 3) G) ?_
    exact SR.weakj (key68 (v144, v143, v142)) kR (Sub.get (.c4 G G G G (.c4 G G G G (.c4 G G G G (.c G (.c G (.c G .n))))))) (kp (.d (.d .n)))
   refine .exit idQ ?_
   refine .seq (.seq (.region (.f fo29_5 7 G G G G (.l ty27 2 G G G G G (.g underlying27 G G G ?_)))))
   refine .m G G G (.go idQ (.block ?_))
   refine SC.nestZ0 3 69 ?_
   refine .loop (X := Int × (List SH) × (List SH)) (fun ⟨m, XS, DS⟩ => 0 ≤ m ∧ m ≤ (p.ships.length : Int) ∧ CpI eraS p.ships XS DS m) (fun ⟨m, XS, DS⟩ => [(1, .pointer (some ⟨b1, 0, none⟩)), (2, .pointer (some ⟨b2, 0, none⟩)), (41, .int .i64 (p.vehs.length : Int)), (42, .int .i64 i), (96, .int .i64 (p.jobs.length : Int)), (97, .int .i64 k), (136, .int .i64 (p.ships.length : Int)), (137, .int .i64 m)]) (fun ⟨m, XS, DS⟩ => [nestZ 3 69 DS, nestJ 3 69 DJ, nestV 3 75 69 D, cel b1 [.int .i64 p.dims, .int .i64 p.tn, .slice yA4 p.time.length yc5, .int .i64 p.dn, .slice yA6 p.dist.length yc7, .slice yA10 p.vehs.length yc11, .slice yA12 p.jobs.length yc13, .slice yA14 p.ships.length yc15] 29, rw_ eSH 83 (.slice yA14 p.ships.length yc15) XS, rw_ eJB 80 (.slice yA12 p.jobs.length yc13) XJ, rw_ eVH 72 (.slice yA10 p.vehs.length yc11) X, rw_ eZ 3 (.slice yA6 p.dist.length yc7) p.dist, rw_ eZ 3 (.slice yA4 p.time.length yc5) p.time, cel b2 [.int .i64 0, .int .i64 0, .slice none 0 0, .int .i64 0, .slice none 0 0, .slice none 0 0, .slice none 0 0, .slice none 0 0] 29]) (fun _ => S) (fun _ => wf) (fun ⟨m, XS, DS⟩ => ((p.ships.length : Int) - m).toNat) (fun a_ w_ hs_ hw_ => ⟨⟨0, p.ships, ([] : List SH)⟩, (by (try dsimp only); exact ⟨oO, oO, cp_init⟩), hs_.mono (Sub.get (.c4 G G G G (.c4 G G G G .n))), hw_.keep (.d (.d (.d (.d (.d .n)))))⟩) (fun ⟨m, XS, DS⟩ ⟨t_0, t_1, t_2⟩ => ?_)
   try dsimp only
   refine .seq (.region (.e G G G G G (.go idQ (.seq (.condI G bD (fun h145 => ?_) (fun h145 => ?_))))))
   ·
    refine .skipgo idQ (.seq (.block (.seq (.region (.m G G G (.a G G G (.go idQ (.seq ?_))))))))
    have hsl := t_2.len
    have hsi : gt XS m = gt p.ships m := t_2.rest m (Int.le_refl _)
    have hsF : SHF S wf (gt XS m) := by rw [hsi]; exact hPB.2.2.2.2.2 m
    have hsb0 : ((gt XS m).am).length ≤ 12 := by rw [hsi]; have := (hL.ship m oO oO).am.1; omega
    have hsb1 : ((gt XS m).sp.sws).length ≤ 12 := by rw [hsi]; have := (hL.ship m oO oO).sp.win.len; omega
    have hsb2 : ((gt XS m).sd.sws).length ≤ 12 := by rw [hsi]; have := (hL.ship m oO oO).sd.win.len; omega
    refine .region (.f fo29_5 7 G G G G (.l ty27 3 G G G G G (.m G G G ?_)))
    refine .v (ev_ix G underlying27 ty83 G G oO oO (row_adr (i := m) 4 G oO oO)) G (.a G G G (.go idQ ?_))
    refine SC.draw mo [rw_ eSH 83 (.slice yA14 p.ships.length yc15) XS] [(25, fun w => At w (ab yA14) (ao yA14 + (m).toNat * eSH.sz) (eSH.enc (gt XS m)))] (.c (.t4 .h) .n) (fun w_ _ hw_ => (sc1 (row_el (E := eSH) (l := XS) (i := m) 0 G oO lO w_ hw_) sc0)) (fun wf_146 hl_146 hx_146 hR_146 => ?_)
    refine SR.cutx (X := (Option Addr) × Nat × (Option Addr) × Nat × (Option Addr) × Nat) (fun (yA147, yc148, yA149, yc150, yA151, yc152) => ([(1, .pointer (some ⟨b1, 0, none⟩)), (2, .pointer (some ⟨b2, 0, none⟩)), (41, .int .i64 (p.vehs.length : Int)), (42, .int .i64 i), (96, .int .i64 (p.jobs.length : Int)), (97, .int .i64 k), (136, .int .i64 (p.ships.length : Int)), (137, .int .i64 m), (138, .bool (decide (m < (p.ships.length : Int)))), (8, .int .i64 m), (9, .pointer (some ⟨(ab yA14), ao yA14 + (m).toNat * 9, none⟩))], [rw_ eSH 83 (.slice yA14 p.ships.length yc15) (XS.set (m).toNat (SH.mk (SO.mk (((gt XS m).sp).pl) (((gt XS m).sp).srv) (((gt XS m).sp).sws) yA147 yc148) (SO.mk (((gt XS m).sd).pl) (((gt XS m).sd).srv) (((gt XS m).sd).sws) yA149 yc150) ((gt XS m).am) ((gt XS m).ssk) ((gt XS m).spr) yA151 yc152)), rw_ eWN 69 (.slice yA149 ((((gt XS m).sd).sws).length) yc150) (((gt XS m).sd).sws), rw_ eWN 69 (.slice yA147 ((((gt XS m).sp).sws).length) yc148) (((gt XS m).sp).sws), rw_ eZ 3 (.slice yA151 (((gt XS m).am).length) yc152) ((gt XS m).am), nestZ 3 69 DS, nestJ 3 69 DJ, nestV 3 75 69 D, cel b1 [.int .i64 p.dims, .int .i64 p.tn, .slice yA4 p.time.length yc5, .int .i64 p.dn, .slice yA6 p.dist.length yc7, .slice yA10 p.vehs.length yc11, .slice yA12 p.jobs.length yc13, .slice yA14 p.ships.length yc15] 29, rw_ eJB 80 (.slice yA12 p.jobs.length yc13) XJ, rw_ eVH 72 (.slice yA10 p.vehs.length yc11) X, rw_ eZ 3 (.slice yA6 p.dist.length yc7) p.dist, rw_ eZ 3 (.slice yA4 p.time.length yc5) p.time, cel b2 [.int .i64 0, .int .i64 0, .slice none 0 0, .int .i64 0, .slice none 0 0, .slice none 0 0, .slice none 0 0, .slice none 0 0] 29])) S wf (fun ⟨yA147, yc148, yA149, yc150, yA151, yc152⟩ => ?_) (fun key153 => ?_)
    ·
     try dsimp only
     refine SQ.go idQ ?_
     refine SC.packZ (SH.mk (SO.mk (((gt XS m).sp).pl) (((gt XS m).sp).srv) (((gt XS m).sp).sws) yA147 yc148) (SO.mk (((gt XS m).sd).pl) (((gt XS m).sd).srv) (((gt XS m).sd).sws) yA149 yc150) ((gt XS m).am) ((gt XS m).ssk) ((gt XS m).spr) yA151 yc152) (.c (.t4 .h) (.c (.t2 (.t .h)) (.c (.t2 .h) (.c (.t .h) .n)))) G G G oO oO oO ?_
     refine .region (.p ((m + 1)) oO oO G G G G G (.m G G G ?_))
     exact SP.nil (SQ.roundb (X := Int × (List SH) × (List SH)) (x := (m, XS, DS)) ⟨(m + 1), (XS.set (m).toNat (SH.mk (SO.mk (((gt XS m).sp).pl) (((gt XS m).sp).srv) (((gt XS m).sp).sws) yA147 yc148) (SO.mk (((gt XS m).sd).pl) (((gt XS m).sd).srv) (((gt XS m).sd).sws) yA149 yc150) ((gt XS m).am) ((gt XS m).ssk) ((gt XS m).spr) yA151 yc152)), (DS ++ [(SH.mk (SO.mk (((gt XS m).sp).pl) (((gt XS m).sp).srv) (((gt XS m).sp).sws) yA147 yc148) (SO.mk (((gt XS m).sd).pl) (((gt XS m).sd).srv) (((gt XS m).sd).sws) yA149 yc150) ((gt XS m).am) ((gt XS m).ssk) ((gt XS m).spr) yA151 yc152)])⟩ (by (try dsimp only); exact ⟨oO, oO, (cp_next t_2 oO oO G)⟩) dO (Sub.get (.c4 G G G G (.c4 G G G G .n))) (kp (.c .h (.c (.t .h) (.c (.t .h) (.c (.t .h) (.d (.d (.d .n)))))))))
    refine SR.join (X := Value × Value × Value) (fun (zv154, zv155, zv156) => ([(1, .pointer (some ⟨b1, 0, none⟩)), (2, .pointer (some ⟨b2, 0, none⟩)), (41, .int .i64 (p.vehs.length : Int)), (42, .int .i64 i), (96, .int .i64 (p.jobs.length : Int)), (97, .int .i64 k), (136, .int .i64 (p.ships.length : Int)), (137, .int .i64 m), (138, .bool (decide (m < (p.ships.length : Int)))), (8, .int .i64 m), (9, .pointer (some ⟨(ab yA14), ao yA14 + (m).toNat * 9, none⟩)), (145, .pointer (some ⟨(ab yA14), ao yA14 + (m).toNat * 9, none⟩)), (146, .pointer (some ⟨(ab yA14), ao yA14 + (m).toNat * 9, none⟩)), (152, zv156), (159, zv155), (166, zv154), (168, .pointer (some ⟨(ab yA14), ao yA14 + (m).toNat * 9 + 6, none⟩))], [rw_ eWN 69 (zv154) (((gt XS m).sd).sws), rw_ eWN 69 (zv155) (((gt XS m).sp).sws), rw_ eZ 3 (zv156) ((gt XS m).am), rw_ eSH 83 (.slice yA14 p.ships.length yc15) XS])) 9 #[true, true, true, true, true, true, true, true, true, true, true, true, true, true, true, true, true, true, true, true, true, true, true, true, true, false, false, false, false, false, false, false, false, false] (fun ⟨zv154, zv155, zv156⟩ => ?_) (fun key157 => ?_)
    ·
     show SR _ _ _ _ _ _ _ _ _ ⟨[(1, .pointer (some ⟨b1, 0, none⟩)), (2, .pointer (some ⟨b2, 0, none⟩)), (41, .int .i64 (p.vehs.length : Int)), (42, .int .i64 i), (96, .int .i64 (p.jobs.length : Int)), (97, .int .i64 k), (136, .int .i64 (p.ships.length : Int)), (137, .int .i64 m), (138, .bool (decide (m < (p.ships.length : Int)))), (8, .int .i64 m), (9, .pointer (some ⟨(ab yA14), ao yA14 + (m).toNat * 9, none⟩)), (145, .pointer (some ⟨(ab yA14), ao yA14 + (m).toNat * 9, none⟩)), (146, .pointer (some ⟨(ab yA14), ao yA14 + (m).toNat * 9, none⟩)), (152, zv156), (159, zv155), (166, zv154), (168, .pointer (some ⟨(ab yA14), ao yA14 + (m).toNat * 9 + 6, none⟩))], [rw_ eWN 69 (zv154) (((gt XS m).sd).sws), rw_ eWN 69 (zv155) (((gt XS m).sp).sws), rw_ eZ 3 (zv156) ((gt XS m).am), rw_ eSH 83 (.slice yA14 p.ships.length yc15) XS], _, _⟩
     refine .know (row_len 2 G) (fun hv160 => ?_)
     obtain ⟨A158, c159, rfl, hv160_1, hv160_2⟩ := hv160
     unfold maxLen at hv160_2
     refine SR.o 25 G (st_setel2 (E := eSH) (i := m) (cs := [.slice A158 (((gt XS m).am).length) c159]) (off := 6) (l2 := (XS.set (m).toNat (SH.mk ((gt XS m).sp) ((gt XS m).sd) ((gt XS m).am) ((gt XS m).ssk) ((gt XS m).spr) A158 c159))) (SH.mk ((gt XS m).sp) ((gt XS m).sd) ((gt XS m).am) ((gt XS m).ssk) ((gt XS m).spr) A158 c159) G G G ty22 G G G G G (.t2 (.t .h)) lO lO (Nat.le_of_ble_eq_true G) G G ⟨ttc (fun w_ hw_ => (tc2 kR tc0)), ?_⟩)
     refine SR.z 26 G G (ev_nil G G) ?_
     refine SR.z 27 G G (ev_fa G fo83_0 G (r := ao yA14 + (m).toNat * 9) G) ?_
     refine SR.z 28 G G (ev_fa G fo78_2 G (r := ao yA14 + (m).toNat * 9 + 2) G) ?_
     refine .know (row_len 2 G) (fun hv163 => ?_)
     obtain ⟨A161, c162, rfl, hv163_1, hv163_2⟩ := hv163
     unfold maxLen at hv163_2
     refine SR.o 29 G (st_setel2 (E := eSH) (i := m) (cs := [.slice A161 ((((gt XS m).sp).sws).length) c162]) (off := 2) (l2 := (XS.set (m).toNat (SH.mk (SO.mk (((gt XS m).sp).pl) (((gt XS m).sp).srv) (((gt XS m).sp).sws) A161 c162) ((gt XS m).sd) ((gt XS m).am) ((gt XS m).ssk) ((gt XS m).spr) A158 c159))) (SH.mk (SO.mk (((gt XS m).sp).pl) (((gt XS m).sp).srv) (((gt XS m).sp).sws) A161 c162) ((gt XS m).sd) ((gt XS m).am) ((gt XS m).ssk) ((gt XS m).spr) A158 c159) G G G ty73 G G G G G .h lO lO (Nat.le_of_ble_eq_true G) (by rw [gt_sets oO lO]; rfl) (set_set_ _ _ _ _) ⟨ttc (fun w_ hw_ => (tc2 kR tc0)), ?_⟩)
     refine SR.z 30 G G (ev_nil G G) ?_
     refine SR.z 31 G G (ev_fa G fo83_1 G (r := ao yA14 + (m).toNat * 9 + 3) G) ?_
     refine SR.z 32 G G (ev_fa G fo78_2 G (r := ao yA14 + (m).toNat * 9 + 3 + 2) G) ?_
     refine .know (row_len 1 G) (fun hv166 => ?_)
     obtain ⟨A164, c165, rfl, hv166_1, hv166_2⟩ := hv166
     unfold maxLen at hv166_2
     refine SR.o 33 G (st_setel2 (E := eSH) (i := m) (cs := [.slice A164 ((((gt XS m).sd).sws).length) c165]) (off := 5) (l2 := (XS.set (m).toNat (SH.mk (SO.mk (((gt XS m).sp).pl) (((gt XS m).sp).srv) (((gt XS m).sp).sws) A161 c162) (SO.mk (((gt XS m).sd).pl) (((gt XS m).sd).srv) (((gt XS m).sd).sws) A164 c165) ((gt XS m).am) ((gt XS m).ssk) ((gt XS m).spr) A158 c159))) (SH.mk (SO.mk (((gt XS m).sp).pl) (((gt XS m).sp).srv) (((gt XS m).sp).sws) A161 c162) (SO.mk (((gt XS m).sd).pl) (((gt XS m).sd).srv) (((gt XS m).sd).sws) A164 c165) ((gt XS m).am) ((gt XS m).ssk) ((gt XS m).spr) A158 c159) G G G ty73 G G G G G .h lO lO (Nat.le_of_ble_eq_true G) (by rw [gt_sets oO lO]; rfl) (set_set_ _ _ _ _) ⟨ttc (fun w_ hw_ => (tc2 kR tc0)), ?_⟩)
     refine SR.fin kR hl_146 hx_146 hR_146 (.c (.c (.c (.c .n)))) ?_
     exact SQ.weak (key153 (A161, c162, A164, c165, A158, c159)) (Sub.get (.c4 G G G G (.c4 G G G G (.c G (.c G (.c G .n)))))) (kp (.d (.d (.d (.d (.d (.d (.c .h .n))))))))
    refine SR.m 0 G G G G ?_
    refine SR.m 1 G G G G ?_
    refine SR.m 2 G G G G ?_
    refine SR.m 4 G G G G ?_
    refine SR.z 5 G G (ev_nil G G) ?_
    refine SR.z 6 G G (ev_fa G fo83_2 G (r := ao yA14 + (m).toNat * 9 + 6) G) ?_
    refine SR.z 7 G G (ev_ld1 G ty22 G (At.elem1 (At.ofcs 0 G kR) 6 G)) ?_
    refine SR.m 10 G G G G ?_
    refine SR.z 11 G G (ev_nil G G) ?_
    refine SR.z 12 G G (ev_fa G fo83_0 G (r := ao yA14 + (m).toNat * 9) G) ?_
    refine SR.z 13 G G (ev_fa G fo78_2 G (r := ao yA14 + (m).toNat * 9 + 2) G) ?_
    refine SR.z 14 G G (ev_ld1 G ty73 G (At.elem1 (At.ofcs 0 G kR) 2 G)) ?_
    refine SR.m 17 G G G G ?_
    refine SR.z 18 G G (ev_nil G G) ?_
    refine SR.z 19 G G (ev_fa G fo83_1 G (r := ao yA14 + (m).toNat * 9 + 3) G) ?_
    refine SR.z 20 G G (ev_fa G fo78_2 G (r := ao yA14 + (m).toNat * 9 + 3 + 2) G) ?_
    refine SR.z 21 G G (ev_ld1 G ty73 G (At.elem1 (At.ofcs 0 G kR) 5 G)) ?_
    refine SR.three (i := 3) (j := 9) (l := 16) kR ⟨_, G, ?_⟩ ⟨_, G, ?_⟩ ⟨_, G, ?_⟩
    ·
     refine st_lit eZ (e := 3) (l := []) G G G G kR G G kW (fun b167 => ⟨ttr (i := m) 1 G oO oO, ?_⟩)
     refine SR.three (i := 8) (j := 9) (l := 16) kR ⟨_, G, ?_⟩ ⟨_, G, ?_⟩ ⟨_, G, ?_⟩
     ·
      refine st_app0 (E := eZ) (m := (gt XS m).am) G G G G underlying22 ai3 G G G .h rO (Src.w (Fr.flat ((hsF).ext hx_146).1)) lO G (fun v168 => ⟨ttr (i := m) 1 G oO oO, ?_⟩)
      refine SR.two (i := 9) (j := 16) kR ⟨_, G, ?_⟩ ⟨_, G, ?_⟩
      ·
       refine st_lit eWN (e := 69) (l := []) G G G G kR G G kW (fun b169 => ⟨ttr (i := m) 2 G oO oO, ?_⟩)
       refine SR.two (i := 15) (j := 16) kR ⟨_, G, ?_⟩ ⟨_, G, ?_⟩
       ·
        refine st_app0 (E := eWN) (m := ((gt XS m).sp).sws) G G G G underlying73 ai69 G G G .h rO (Src.w (Fr.flat ((hsF).ext hx_146).2.1)) lO G (fun v170 => ⟨ttr (i := m) 2 G oO oO, ?_⟩)
        refine SR.o 16 G (st_lit eWN (e := 69) (l := []) G G G G kR G G kW (fun b171 => ⟨ttr (i := m) 3 G oO oO, ?_⟩))
        refine SR.o 22 G (st_app0 (E := eWN) (m := ((gt XS m).sd).sws) G G G G underlying73 ai69 G G G .h rO (Src.w (Fr.flat ((hsF).ext hx_146).2.2)) lO G (fun v172 => ⟨ttr (i := m) 3 G oO oO, ?_⟩))
        refine SR.z 23 G G (ev_nil G G) ?_
        refine SR.z 24 G G (ev_fa G fo83_2 G (r := ao yA14 + (m).toNat * 9 + 6) G) ?_
        exact SR.weakj (key157 (v172, v170, v168)) kR (Sub.get (.c4 G G G G (.c4 G G G G (.c4 G G G G (.c4 G G G G (.c G .n)))))) (kp (.d (.d .n)))
       refine st_lit eWN (e := 69) (l := []) G G G G kR G G kW (fun b173 => ⟨ttr (i := m) 3 G oO oO, ?_⟩)
       refine SR.o 15 G (st_app0 (E := eWN) (m := ((gt XS m).sp).sws) G G G G underlying73 ai69 G G G (.t .h) rO (Src.w (Fr.flat ((hsF).ext hx_146).2.1)) lO G (fun v174 => ⟨ttr (i := m) 3 G oO oO, ?_⟩))
       refine SR.o 22 G (st_app0 (E := eWN) (m := ((gt XS m).sd).sws) G G G G underlying73 ai69 G G G (.t .h) rO (Src.w (Fr.flat ((hsF).ext hx_146).2.2)) lO G (fun v175 => ⟨ttr (i := m) 3 G oO oO, ?_⟩))
       refine SR.z 23 G G (ev_nil G G) ?_
       refine SR.z 24 G G (ev_fa G fo83_2 G (r := ao yA14 + (m).toNat * 9 + 6) G) ?_
       exact SR.weakj (key157 (v175, v174, v168)) kR (Sub.get (.c4 G G G G (.c4 G G G G (.c4 G G G G (.c4 G G G G (.c G .n)))))) (kp (.d (.d .n)))
      refine st_lit eWN (e := 69) (l := []) G G G G kR G G kW (fun b176 => ⟨ttr (i := m) 2 G oO oO, ?_⟩)
      refine SR.o 9 G (st_lit eWN (e := 69) (l := []) G G G G kR G G kW (fun b177 => ⟨ttr (i := m) 3 G oO oO, ?_⟩))
      refine SR.o 15 G (st_app0 (E := eWN) (m := ((gt XS m).sp).sws) G G G G underlying73 ai69 G G G .h rO (Src.w (Fr.flat ((hsF).ext hx_146).2.1)) lO G (fun v178 => ⟨ttr (i := m) 3 G oO oO, ?_⟩))
      refine SR.o 22 G (st_app0 (E := eWN) (m := ((gt XS m).sd).sws) G G G G underlying73 ai69 G G G (.t .h) rO (Src.w (Fr.flat ((hsF).ext hx_146).2.2)) lO G (fun v179 => ⟨ttr (i := m) 3 G oO oO, ?_⟩))
      refine SR.z 23 G G (ev_nil G G) ?_
      refine SR.z 24 G G (ev_fa G fo83_2 G (r := ao yA14 + (m).toNat * 9 + 6) G) ?_
      exact SR.weakj (key157 (v179, v178, v168)) kR (Sub.get (.c4 G G G G (.c4 G G G G (.c4 G G G G (.c4 G G G G (.c G .n)))))) (kp (.d (.d .n)))
     ·
      refine st_lit eWN (e := 69) (l := []) G G G G kR G G kW (fun b180 => ⟨ttr (i := m) 2 G oO oO, ?_⟩)
      refine SR.two (i := 8) (j := 16) kR ⟨_, G, ?_⟩ ⟨_, G, ?_⟩
      ·
       refine st_app0 (E := eZ) (m := (gt XS m).am) G G G G underlying22 ai3 G G G (.t .h) rO (Src.w (Fr.flat ((hsF).ext hx_146).1)) lO G (fun v181 => ⟨ttr (i := m) 2 G oO oO, ?_⟩)
       refine SR.two (i := 15) (j := 16) kR ⟨_, G, ?_⟩ ⟨_, G, ?_⟩
       ·
        refine st_app0 (E := eWN) (m := ((gt XS m).sp).sws) G G G G underlying73 ai69 G G G (.t .h) rO (Src.w (Fr.flat ((hsF).ext hx_146).2.1)) lO G (fun v182 => ⟨ttr (i := m) 2 G oO oO, ?_⟩)
        refine SR.o 16 G (st_lit eWN (e := 69) (l := []) G G G G kR G G kW (fun b183 => ⟨ttr (i := m) 3 G oO oO, ?_⟩))
        refine SR.o 22 G (st_app0 (E := eWN) (m := ((gt XS m).sd).sws) G G G G underlying73 ai69 G G G .h rO (Src.w (Fr.flat ((hsF).ext hx_146).2.2)) lO G (fun v184 => ⟨ttr (i := m) 3 G oO oO, ?_⟩))
        refine SR.z 23 G G (ev_nil G G) ?_
        refine SR.z 24 G G (ev_fa G fo83_2 G (r := ao yA14 + (m).toNat * 9 + 6) G) ?_
        exact SR.weakj (key157 (v184, v182, v181)) kR (Sub.get (.c4 G G G G (.c4 G G G G (.c4 G G G G (.c4 G G G G (.c G .n)))))) (kp (.d (.d .n)))
       refine st_lit eWN (e := 69) (l := []) G G G G kR G G kW (fun b185 => ⟨ttr (i := m) 3 G oO oO, ?_⟩)
       refine SR.o 15 G (st_app0 (E := eWN) (m := ((gt XS m).sp).sws) G G G G underlying73 ai69 G G G (.t2 .h) rO (Src.w (Fr.flat ((hsF).ext hx_146).2.1)) lO G (fun v186 => ⟨ttr (i := m) 3 G oO oO, ?_⟩))
       refine SR.o 22 G (st_app0 (E := eWN) (m := ((gt XS m).sd).sws) G G G G underlying73 ai69 G G G (.t .h) rO (Src.w (Fr.flat ((hsF).ext hx_146).2.2)) lO G (fun v187 => ⟨ttr (i := m) 3 G oO oO, ?_⟩))
       refine SR.z 23 G G (ev_nil G G) ?_
       refine SR.z 24 G G (ev_fa G fo83_2 G (r := ao yA14 + (m).toNat * 9 + 6) G) ?_
       exact SR.weakj (key157 (v187, v186, v181)) kR (Sub.get (.c4 G G G G (.c4 G G G G (.c4 G G G G (.c4 G G G G (.c G .n)))))) (kp (.d (.d .n)))
      refine st_lit eWN (e := 69) (l := []) G G G G kR G G kW (fun b188 => ⟨ttr (i := m) 3 G oO oO, ?_⟩)
      refine SR.o 8 G (st_app0 (E := eZ) (m := (gt XS m).am) G G G G underlying22 ai3 G G G (.t2 .h) rO (Src.w (Fr.flat ((hsF).ext hx_146).1)) lO G (fun v189 => ⟨ttr (i := m) 3 G oO oO, ?_⟩))
      refine SR.o 15 G (st_app0 (E := eWN) (m := ((gt XS m).sp).sws) G G G G underlying73 ai69 G G G (.t2 .h) rO (Src.w (Fr.flat ((hsF).ext hx_146).2.1)) lO G (fun v190 => ⟨ttr (i := m) 3 G oO oO, ?_⟩))
      refine SR.o 22 G (st_app0 (E := eWN) (m := ((gt XS m).sd).sws) G G G G underlying73 ai69 G G G (.t2 .h) rO (Src.w (Fr.flat ((hsF).ext hx_146).2.2)) lO G (fun v191 => ⟨ttr (i := m) 3 G oO oO, ?_⟩))
      refine SR.z 23 G G (ev_nil G G) ?_
      refine SR.z 24 G G (ev_fa G fo83_2 G (r := ao yA14 + (m).toNat * 9 + 6) G) ?_
      exact SR.weakj (key157 (v191, v190, v189)) kR (Sub.get (.c4 G G G G (.c4 G G G G (.c4 G G G G (.c4 G G G G (.c G .n)))))) (kp (.d (.d .n)))
     refine st_lit eWN (e := 69) (l := []) G G G G kR G G kW (fun b192 => ⟨ttr (i := m) 2 G oO oO, ?_⟩)
     refine SR.two (i := 8) (j := 9) kR ⟨_, G, ?_⟩ ⟨_, G, ?_⟩
     ·
      refine st_app0 (E := eZ) (m := (gt XS m).am) G G G G underlying22 ai3 G G G (.t .h) rO (Src.w (Fr.flat ((hsF).ext hx_146).1)) lO G (fun v193 => ⟨ttr (i := m) 2 G oO oO, ?_⟩)
      refine SR.o 9 G (st_lit eWN (e := 69) (l := []) G G G G kR G G kW (fun b194 => ⟨ttr (i := m) 3 G oO oO, ?_⟩))
      refine SR.o 15 G (st_app0 (E := eWN) (m := ((gt XS m).sp).sws) G G G G underlying73 ai69 G G G .h rO (Src.w (Fr.flat ((hsF).ext hx_146).2.1)) lO G (fun v195 => ⟨ttr (i := m) 3 G oO oO, ?_⟩))
      refine SR.o 22 G (st_app0 (E := eWN) (m := ((gt XS m).sd).sws) G G G G underlying73 ai69 G G G (.t2 .h) rO (Src.w (Fr.flat ((hsF).ext hx_146).2.2)) lO G (fun v196 => ⟨ttr (i := m) 3 G oO oO, ?_⟩))
      refine SR.z 23 G G (ev_nil G G) ?_
      refine SR.z 24 G G (ev_fa G fo83_2 G (r := ao yA14 + (m).toNat * 9 + 6) G) ?_
      exact SR.weakj (key157 (v196, v195, v193)) kR (Sub.get (.c4 G G G G (.c4 G G G G (.c4 G G G G (.c4 G G G G (.c G .n)))))) (kp (.d (.d .n)))
     refine st_lit eWN (e := 69) (l := []) G G G G kR G G kW (fun b197 => ⟨ttr (i := m) 3 G oO oO, ?_⟩)
     refine SR.o 8 G (st_app0 (E := eZ) (m := (gt XS m).am) G G G G underlying22 ai3 G G G (.t2 .h) rO (Src.w (Fr.flat ((hsF).ext hx_146).1)) lO G (fun v198 => ⟨ttr (i := m) 3 G oO oO, ?_⟩))
     refine SR.o 15 G (st_app0 (E := eWN) (m := ((gt XS m).sp).sws) G G G G underlying73 ai69 G G G (.t .h) rO (Src.w (Fr.flat ((hsF).ext hx_146).2.1)) lO G (fun v199 => ⟨ttr (i := m) 3 G oO oO, ?_⟩))
     refine SR.o 22 G (st_app0 (E := eWN) (m := ((gt XS m).sd).sws) G G G G underlying73 ai69 G G G (.t2 .h) rO (Src.w (Fr.flat ((hsF).ext hx_146).2.2)) lO G (fun v200 => ⟨ttr (i := m) 3 G oO oO, ?_⟩))
     refine SR.z 23 G G (ev_nil G G) ?_
     refine SR.z 24 G G (ev_fa G fo83_2 G (r := ao yA14 + (m).toNat * 9 + 6) G) ?_
     exact SR.weakj (key157 (v200, v199, v198)) kR (Sub.get (.c4 G G G G (.c4 G G G G (.c4 G G G G (.c4 G G G G (.c G .n)))))) (kp (.d (.d .n)))
    ·
     refine st_lit eWN (e := 69) (l := []) G G G G kR G G kW (fun b201 => ⟨ttr (i := m) 1 G oO oO, ?_⟩)
     refine SR.two (i := 3) (j := 16) kR ⟨_, G, ?_⟩ ⟨_, G, ?_⟩
     ·
      refine st_lit eZ (e := 3) (l := []) G G G G kR G G kW (fun b202 => ⟨ttr (i := m) 2 G oO oO, ?_⟩)
      refine SR.two (i := 8) (j := 16) kR ⟨_, G, ?_⟩ ⟨_, G, ?_⟩
      ·
       refine st_app0 (E := eZ) (m := (gt XS m).am) G G G G underlying22 ai3 G G G .h rO (Src.w (Fr.flat ((hsF).ext hx_146).1)) lO G (fun v203 => ⟨ttr (i := m) 2 G oO oO, ?_⟩)
       refine SR.two (i := 15) (j := 16) kR ⟨_, G, ?_⟩ ⟨_, G, ?_⟩
       ·
        refine st_app0 (E := eWN) (m := ((gt XS m).sp).sws) G G G G underlying73 ai69 G G G (.t .h) rO (Src.w (Fr.flat ((hsF).ext hx_146).2.1)) lO G (fun v204 => ⟨ttr (i := m) 2 G oO oO, ?_⟩)
        refine SR.o 16 G (st_lit eWN (e := 69) (l := []) G G G G kR G G kW (fun b205 => ⟨ttr (i := m) 3 G oO oO, ?_⟩))
        refine SR.o 22 G (st_app0 (E := eWN) (m := ((gt XS m).sd).sws) G G G G underlying73 ai69 G G G .h rO (Src.w (Fr.flat ((hsF).ext hx_146).2.2)) lO G (fun v206 => ⟨ttr (i := m) 3 G oO oO, ?_⟩))
        refine SR.z 23 G G (ev_nil G G) ?_
        refine SR.z 24 G G (ev_fa G fo83_2 G (r := ao yA14 + (m).toNat * 9 + 6) G) ?_
        exact SR.weakj (key157 (v206, v204, v203)) kR (Sub.get (.c4 G G G G (.c4 G G G G (.c4 G G G G (.c4 G G G G (.c G .n)))))) (kp (.d (.d .n)))
       refine st_lit eWN (e := 69) (l := []) G G G G kR G G kW (fun b207 => ⟨ttr (i := m) 3 G oO oO, ?_⟩)
       refine SR.o 15 G (st_app0 (E := eWN) (m := ((gt XS m).sp).sws) G G G G underlying73 ai69 G G G (.t2 .h) rO (Src.w (Fr.flat ((hsF).ext hx_146).2.1)) lO G (fun v208 => ⟨ttr (i := m) 3 G oO oO, ?_⟩))
       refine SR.o 22 G (st_app0 (E := eWN) (m := ((gt XS m).sd).sws) G G G G underlying73 ai69 G G G (.t .h) rO (Src.w (Fr.flat ((hsF).ext hx_146).2.2)) lO G (fun v209 => ⟨ttr (i := m) 3 G oO oO, ?_⟩))
       refine SR.z 23 G G (ev_nil G G) ?_
       refine SR.z 24 G G (ev_fa G fo83_2 G (r := ao yA14 + (m).toNat * 9 + 6) G) ?_
       exact SR.weakj (key157 (v209, v208, v203)) kR (Sub.get (.c4 G G G G (.c4 G G G G (.c4 G G G G (.c4 G G G G (.c G .n)))))) (kp (.d (.d .n)))
      refine st_lit eWN (e := 69) (l := []) G G G G kR G G kW (fun b210 => ⟨ttr (i := m) 3 G oO oO, ?_⟩)
      refine SR.o 8 G (st_app0 (E := eZ) (m := (gt XS m).am) G G G G underlying22 ai3 G G G (.t .h) rO (Src.w (Fr.flat ((hsF).ext hx_146).1)) lO G (fun v211 => ⟨ttr (i := m) 3 G oO oO, ?_⟩))
      refine SR.o 15 G (st_app0 (E := eWN) (m := ((gt XS m).sp).sws) G G G G underlying73 ai69 G G G (.t2 .h) rO (Src.w (Fr.flat ((hsF).ext hx_146).2.1)) lO G (fun v212 => ⟨ttr (i := m) 3 G oO oO, ?_⟩))
      refine SR.o 22 G (st_app0 (E := eWN) (m := ((gt XS m).sd).sws) G G G G underlying73 ai69 G G G (.t2 .h) rO (Src.w (Fr.flat ((hsF).ext hx_146).2.2)) lO G (fun v213 => ⟨ttr (i := m) 3 G oO oO, ?_⟩))
      refine SR.z 23 G G (ev_nil G G) ?_
      refine SR.z 24 G G (ev_fa G fo83_2 G (r := ao yA14 + (m).toNat * 9 + 6) G) ?_
      exact SR.weakj (key157 (v213, v212, v211)) kR (Sub.get (.c4 G G G G (.c4 G G G G (.c4 G G G G (.c4 G G G G (.c G .n)))))) (kp (.d (.d .n)))
     refine st_lit eWN (e := 69) (l := []) G G G G kR G G kW (fun b214 => ⟨ttr (i := m) 2 G oO oO, ?_⟩)
     refine SR.o 3 G (st_lit eZ (e := 3) (l := []) G G G G kR G G kW (fun b215 => ⟨ttr (i := m) 3 G oO oO, ?_⟩))
     refine SR.o 8 G (st_app0 (E := eZ) (m := (gt XS m).am) G G G G underlying22 ai3 G G G .h rO (Src.w (Fr.flat ((hsF).ext hx_146).1)) lO G (fun v216 => ⟨ttr (i := m) 3 G oO oO, ?_⟩))
     refine SR.o 15 G (st_app0 (E := eWN) (m := ((gt XS m).sp).sws) G G G G underlying73 ai69 G G G (.t2 .h) rO (Src.w (Fr.flat ((hsF).ext hx_146).2.1)) lO G (fun v217 => ⟨ttr (i := m) 3 G oO oO, ?_⟩))
     refine SR.o 22 G (st_app0 (E := eWN) (m := ((gt XS m).sd).sws) G G G G underlying73 ai69 G G G (.t2 .h) rO (Src.w (Fr.flat ((hsF).ext hx_146).2.2)) lO G (fun v218 => ⟨ttr (i := m) 3 G oO oO, ?_⟩))
     refine SR.z 23 G G (ev_nil G G) ?_
     refine SR.z 24 G G (ev_fa G fo83_2 G (r := ao yA14 + (m).toNat * 9 + 6) G) ?_
     exact SR.weakj (key157 (v218, v217, v216)) kR (Sub.get (.c4 G G G G (.c4 G G G G (.c4 G G G G (.c4 G G G G (.c G .n)))))) (kp (.d (.d .n)))
    refine st_lit eWN (e := 69) (l := []) G G G G kR G G kW (fun b219 => ⟨ttr (i := m) 1 G oO oO, ?_⟩)
    refine SR.two (i := 3) (j := 9) kR ⟨_, G, ?_⟩ ⟨_, G, ?_⟩
    ·
     refine st_lit eZ (e := 3) (l := []) G G G G kR G G kW (fun b220 => ⟨ttr (i := m) 2 G oO oO, ?_⟩)
     refine SR.two (i := 8) (j := 9) kR ⟨_, G, ?_⟩ ⟨_, G, ?_⟩
     ·
      refine st_app0 (E := eZ) (m := (gt XS m).am) G G G G underlying22 ai3 G G G .h rO (Src.w (Fr.flat ((hsF).ext hx_146).1)) lO G (fun v221 => ⟨ttr (i := m) 2 G oO oO, ?_⟩)
      refine SR.o 9 G (st_lit eWN (e := 69) (l := []) G G G G kR G G kW (fun b222 => ⟨ttr (i := m) 3 G oO oO, ?_⟩))
      refine SR.o 15 G (st_app0 (E := eWN) (m := ((gt XS m).sp).sws) G G G G underlying73 ai69 G G G .h rO (Src.w (Fr.flat ((hsF).ext hx_146).2.1)) lO G (fun v223 => ⟨ttr (i := m) 3 G oO oO, ?_⟩))
      refine SR.o 22 G (st_app0 (E := eWN) (m := ((gt XS m).sd).sws) G G G G underlying73 ai69 G G G (.t2 .h) rO (Src.w (Fr.flat ((hsF).ext hx_146).2.2)) lO G (fun v224 => ⟨ttr (i := m) 3 G oO oO, ?_⟩))
      refine SR.z 23 G G (ev_nil G G) ?_
      refine SR.z 24 G G (ev_fa G fo83_2 G (r := ao yA14 + (m).toNat * 9 + 6) G) ?_
      exact SR.weakj (key157 (v224, v223, v221)) kR (Sub.get (.c4 G G G G (.c4 G G G G (.c4 G G G G (.c4 G G G G (.c G .n)))))) (kp (.d (.d .n)))
     refine st_lit eWN (e := 69) (l := []) G G G G kR G G kW (fun b225 => ⟨ttr (i := m) 3 G oO oO, ?_⟩)
     refine SR.o 8 G (st_app0 (E := eZ) (m := (gt XS m).am) G G G G underlying22 ai3 G G G (.t .h) rO (Src.w (Fr.flat ((hsF).ext hx_146).1)) lO G (fun v226 => ⟨ttr (i := m) 3 G oO oO, ?_⟩))
     refine SR.o 15 G (st_app0 (E := eWN) (m := ((gt XS m).sp).sws) G G G G underlying73 ai69 G G G (.t .h) rO (Src.w (Fr.flat ((hsF).ext hx_146).2.1)) lO G (fun v227 => ⟨ttr (i := m) 3 G oO oO, ?_⟩))
     refine SR.o 22 G (st_app0 (E := eWN) (m := ((gt XS m).sd).sws) G G G G underlying73 ai69 G G G (.t2 .h) rO (Src.w (Fr.flat ((hsF).ext hx_146).2.2)) lO G (fun v228 => ⟨ttr (i := m) 3 G oO oO, ?_⟩))
     refine SR.z 23 G G (ev_nil G G) ?_
     refine SR.z 24 G G (ev_fa G fo83_2 G (r := ao yA14 + (m).toNat * 9 + 6) G) ?_
     exact SR.weakj (key157 (v228, v227, v226)) kR (Sub.get (.c4 G G G G (.c4 G G G G (.c4 G G G G (.c4 G G G G (.c G .n)))))) (kp (.d (.d .n)))
    refine st_lit eWN (e := 69) (l := []) G G G G kR G G kW (fun b229 => ⟨ttr (i := m) 2 G oO oO, ?_⟩)
    refine SR.o 3 G (st_lit eZ (e := 3) (l := []) G G G G kR G G kW (fun b230 => ⟨ttr (i := m) 3 G oO oO, ?_⟩))
    refine SR.o 8 G (st_app0 (E := eZ) (m := (gt XS m).am) G G G G underlying22 ai3 G G G .h rO (Src.w (Fr.flat ((hsF).ext hx_146).1)) lO G (fun v231 => ⟨ttr (i := m) 3 G oO oO, ?_⟩))
    refine SR.o 15 G (st_app0 (E := eWN) (m := ((gt XS m).sp).sws) G G G G underlying73 ai69 G G G (.t .h) rO (Src.w (Fr.flat ((hsF).ext hx_146).2.1)) lO G (fun v232 => ⟨ttr (i := m) 3 G oO oO, ?_⟩))
    refine SR.o 22 G (st_app0 (E := eWN) (m := ((gt XS m).sd).sws) G G G G underlying73 ai69 G G G (.t2 .h) rO (Src.w (Fr.flat ((hsF).ext hx_146).2.2)) lO G (fun v233 => ⟨ttr (i := m) 3 G oO oO, ?_⟩))
    refine SR.z 23 G G (ev_nil G G) ?_
    refine SR.z 24 G G (ev_fa G fo83_2 G (r := ao yA14 + (m).toNat * 9 + 6) G) ?_
    exact SR.weakj (key157 (v233, v232, v231)) kR (Sub.get (.c4 G G G G (.c4 G G G G (.c4 G G G G (.c4 G G G G (.c G .n)))))) (kp (.d (.d .n)))
   refine .exit idQ ?_
   refine .seq (.region (.d 3 ty29 G G G G (.cons (st_storea (l' := [.int .i64 p.dims, .int .i64 p.tn, .slice yA4 p.time.length yc5, .int .i64 p.dn, .slice yA6 p.dist.length yc7, .slice yA10 p.vehs.length yc11, .slice yA12 p.jobs.length yc13, .slice yA14 p.ships.length yc15]) G G G ty29 G G G (.t4 (.t4 (.t .h))) G G (.go idQ ?_)))))
   have hL1 := q_2.len
   obtain ⟨hD1, hE1⟩ := cp_end q_2 oO
   subst hD1
   have hL2 := s_2.len
   obtain ⟨hD2, hE2⟩ := cp_end s_2 oO
   subst hD2
   have hL3 := t_2.len
   obtain ⟨hD3, hE3⟩ := cp_end t_2 oO
   subst hD3
   refine SC.freeze (R := [nestZ 3 69 DS, nestJ 3 69 DJ, nestV 3 75 69 D, rw_ eZ 3 (.slice yA6 p.dist.length yc7) p.dist, rw_ eZ 3 (.slice yA4 p.time.length yc5) p.time]) (.c (.t .h) (.c (.t .h) (.c (.t .h) (.c (.t4 (.t .h)) (.c (.t4 (.t .h)) .n))))) (fun Sz234 wfz234 hxz234 hhz234 hsz234 => ?_)
   have hfz234_0 := SHF.of (hhz234 _ (by simp)) (fun b hb => hsz234 b (feet_of 0 rfl hb))
   have hfz234_1 := JBF.of (hhz234 _ (by simp)) (fun b hb => hsz234 b (feet_of 1 rfl hb))
   have hfz234_2 := VHF.of (hhz234 _ (by simp)) (fun b hb => hsz234 b (feet_of 2 rfl hb))
   have hfz234_3 := Fr.of_row (hhz234 _ (by simp)) (fun b hb => hsz234 b (feet_of 3 rfl hb)) lO
   have hfz234_4 := Fr.of_row (hhz234 _ (by simp)) (fun b hb => hsz234 b (feet_of 4 rfl hb)) lO
   exact .ret idQ (retzC results9 (.c 0 G G ty29) (.c (.t4 .h) (.c (.t2 (.t .h)) (.c (.t2 .h) .n))) hxz234 ⟨(PB.mk p.dims p.tn p.time p.dn p.dist D DJ DS yA4 yc5 yA6 yc7 yA10 yc11 yA12 yc13 yA14 yc15), ⟨hfz234_4, hfz234_3, hfz234_2, hfz234_1, hfz234_0⟩, (by unfold era; (try dsimp only); rw [hE1, hE2, hE3]), (by (try dsimp only [cPB]); rw [hL1, hL2, hL3]), (by (try dsimp only [cPB]); rw [hL1, hL2, hL3])⟩)
  refine SR.join (X := Value × Value × Value) (fun (zv235, zv236, zv237) => ([(1, .pointer (some ⟨b1, 0, none⟩)), (2, .pointer (some ⟨b2, 0, none⟩)), (27, zv237), (36, .pointer (some ⟨b1, 5, none⟩)), (31, zv236), (35, zv235)], [rw_ eSH 83 (zv235) p.ships, rw_ eJB 80 (zv236) p.jobs, rw_ eVH 72 (zv237) p.vehs, cel b1 [.int .i64 p.dims, .int .i64 p.tn, .slice yA4 p.time.length yc5, .int .i64 p.dn, .slice yA6 p.dist.length yc7, .slice p.pvA p.vehs.length p.pvc, .slice p.pjA p.jobs.length p.pjc, .slice p.psA p.ships.length p.psc] 29])) 5 #[true, true, true, true, true, true, true, true, true, true, true, true, true, false, false, false, false, false] (fun ⟨zv235, zv236, zv237⟩ => ?_) (fun key238 => ?_)
  ·
   show SR _ _ _ _ _ _ _ _ _ ⟨[(1, .pointer (some ⟨b1, 0, none⟩)), (2, .pointer (some ⟨b2, 0, none⟩)), (27, zv237), (36, .pointer (some ⟨b1, 5, none⟩)), (31, zv236), (35, zv235)], [rw_ eSH 83 (zv235) p.ships, rw_ eJB 80 (zv236) p.jobs, rw_ eVH 72 (zv237) p.vehs, cel b1 [.int .i64 p.dims, .int .i64 p.tn, .slice yA4 p.time.length yc5, .int .i64 p.dn, .slice yA6 p.dist.length yc7, .slice p.pvA p.vehs.length p.pvc, .slice p.pjA p.jobs.length p.pjc, .slice p.psA p.ships.length p.psc] 29], _, _⟩
   refine .know (row_len 2 G) (fun hv241 => ?_)
   obtain ⟨A239, c240, rfl, hv241_1, hv241_2⟩ := hv241
   unfold maxLen at hv241_2
   refine SR.o 13 G (st_store1 G G G ty25 G G G (.t2 (.t .h)) (.t4 (.t .h)) ⟨ttc (fun w_ hw_ => (tc2 kR tc0)), ?_⟩)
   refine SR.z 14 G G (ev_fa G fo29_4 G (r := 6) G) ?_
   refine .know (row_len 2 G) (fun hv244 => ?_)
   obtain ⟨A242, c243, rfl, hv244_1, hv244_2⟩ := hv244
   unfold maxLen at hv244_2
   refine SR.o 15 G (st_store1 G G G ty26 G G G .h (.t4 (.t2 .h)) ⟨ttc (fun w_ hw_ => (tc2 kR tc0)), ?_⟩)
   refine SR.z 16 G G (ev_fa G fo29_5 G (r := 7) G) ?_
   refine .know (row_len 1 G) (fun hv247 => ?_)
   obtain ⟨A245, c246, rfl, hv247_1, hv247_2⟩ := hv247
   unfold maxLen at hv247_2
   refine SR.o 17 G (st_store1 G G G ty27 G G G .h (.t4 (.t2 (.t .h))) ⟨ttc (fun w_ hw_ => (tc2 kR tc0)), ?_⟩)
   refine SR.fin kR hl_9 hx_9 hR_9 (.c (.c (.c (.c .n)))) ?_
   exact SQ.weak (key16 (A239, c240, A242, c243, A245, c246)) (Sub.get (.c G (.c G .n))) (kp (.d (.d (.d (.c .h .n)))))
  refine SR.z 1 G G (ev_fa G fo29_3 G (r := 5) G) ?_
  refine SR.z 2 G G (ev_ld1 G ty25 G (At.elem1 (v := .slice p.pvA p.vehs.length p.pvc) (At.ofcs 0 G kR) 5 G)) ?_
  refine SR.z 5 G G (ev_fa G fo29_4 G (r := 6) G) ?_
  refine SR.z 6 G G (ev_ld1 G ty26 G (At.elem1 (v := .slice p.pjA p.jobs.length p.pjc) (At.ofcs 0 G kR) 6 G)) ?_
  refine SR.z 9 G G (ev_fa G fo29_5 G (r := 7) G) ?_
  refine SR.z 10 G G (ev_ld1 G ty27 G (At.elem1 (v := .slice p.psA p.ships.length p.psc) (At.ofcs 0 G kR) 7 G)) ?_
  refine SR.three (i := 0) (j := 4) (l := 8) kR ⟨_, G, ?_⟩ ⟨_, G, ?_⟩ ⟨_, G, ?_⟩
  ·
   refine st_lit eVH (e := 72) (l := []) G G G G kR G G kW (fun b248 => ⟨ttw 1 G, ?_⟩)
   refine SR.three (i := 3) (j := 4) (l := 8) kR ⟨_, G, ?_⟩ ⟨_, G, ?_⟩ ⟨_, G, ?_⟩
   ·
    refine st_app0 (E := eVH) (m := p.vehs) G G G G underlying25 ai72 G G G .h rO (Src.w (Fr.flat ((hPB).ext hx_9).2.2.1.1)) lO G (fun v249 => ⟨ttw 1 G, ?_⟩)
    refine SR.z 12 G G (ev_fa G fo29_3 G (r := 5) G) ?_
    refine SR.two (i := 4) (j := 8) kR ⟨_, G, ?_⟩ ⟨_, G, ?_⟩
    ·
     refine st_lit eJB (e := 80) (l := []) G G G G kR G G kW (fun b250 => ⟨ttw 2 G, ?_⟩)
     refine SR.two (i := 7) (j := 8) kR ⟨_, G, ?_⟩ ⟨_, G, ?_⟩
     ·
      refine st_app0 (E := eJB) (m := p.jobs) G G G G underlying26 ai80 G G G .h rO (Src.w (Fr.flat ((hPB).ext hx_9).2.2.2.1.1)) lO G (fun v251 => ⟨ttw 2 G, ?_⟩)
      refine SR.o 8 G (st_lit eSH (e := 83) (l := []) G G G G kR G G kW (fun b252 => ⟨ttw 3 G, ?_⟩))
      refine SR.o 11 G (st_app0 (E := eSH) (m := p.ships) G G G G underlying27 ai83 G G G .h rO (Src.w (Fr.flat ((hPB).ext hx_9).2.2.2.2.1)) lO G (fun v253 => ⟨ttw 3 G, ?_⟩))
      exact SR.weakj (key238 (v253, v251, v249)) kR (Sub.get (.c4 G G G G (.c G (.c G .n)))) (kp (.d (.d .n)))
     refine st_lit eSH (e := 83) (l := []) G G G G kR G G kW (fun b254 => ⟨ttw 3 G, ?_⟩)
     refine SR.o 7 G (st_app0 (E := eJB) (m := p.jobs) G G G G underlying26 ai80 G G G (.t .h) rO (Src.w (Fr.flat ((hPB).ext hx_9).2.2.2.1.1)) lO G (fun v255 => ⟨ttw 3 G, ?_⟩))
     refine SR.o 11 G (st_app0 (E := eSH) (m := p.ships) G G G G underlying27 ai83 G G G (.t .h) rO (Src.w (Fr.flat ((hPB).ext hx_9).2.2.2.2.1)) lO G (fun v256 => ⟨ttw 3 G, ?_⟩))
     exact SR.weakj (key238 (v256, v255, v249)) kR (Sub.get (.c4 G G G G (.c G (.c G .n)))) (kp (.d (.d .n)))
    refine st_lit eSH (e := 83) (l := []) G G G G kR G G kW (fun b257 => ⟨ttw 2 G, ?_⟩)
    refine SR.o 4 G (st_lit eJB (e := 80) (l := []) G G G G kR G G kW (fun b258 => ⟨ttw 3 G, ?_⟩))
    refine SR.o 7 G (st_app0 (E := eJB) (m := p.jobs) G G G G underlying26 ai80 G G G .h rO (Src.w (Fr.flat ((hPB).ext hx_9).2.2.2.1.1)) lO G (fun v259 => ⟨ttw 3 G, ?_⟩))
    refine SR.o 11 G (st_app0 (E := eSH) (m := p.ships) G G G G underlying27 ai83 G G G (.t .h) rO (Src.w (Fr.flat ((hPB).ext hx_9).2.2.2.2.1)) lO G (fun v260 => ⟨ttw 3 G, ?_⟩))
    exact SR.weakj (key238 (v260, v259, v249)) kR (Sub.get (.c4 G G G G (.c G (.c G .n)))) (kp (.d (.d .n)))
   ·
    refine st_lit eJB (e := 80) (l := []) G G G G kR G G kW (fun b261 => ⟨ttw 2 G, ?_⟩)
    refine SR.two (i := 3) (j := 8) kR ⟨_, G, ?_⟩ ⟨_, G, ?_⟩
    ·
     refine st_app0 (E := eVH) (m := p.vehs) G G G G underlying25 ai72 G G G (.t .h) rO (Src.w (Fr.flat ((hPB).ext hx_9).2.2.1.1)) lO G (fun v262 => ⟨ttw 2 G, ?_⟩)
     refine SR.z 12 G G (ev_fa G fo29_3 G (r := 5) G) ?_
     refine SR.two (i := 7) (j := 8) kR ⟨_, G, ?_⟩ ⟨_, G, ?_⟩
     ·
      refine st_app0 (E := eJB) (m := p.jobs) G G G G underlying26 ai80 G G G (.t .h) rO (Src.w (Fr.flat ((hPB).ext hx_9).2.2.2.1.1)) lO G (fun v263 => ⟨ttw 2 G, ?_⟩)
      refine SR.o 8 G (st_lit eSH (e := 83) (l := []) G G G G kR G G kW (fun b264 => ⟨ttw 3 G, ?_⟩))
      refine SR.o 11 G (st_app0 (E := eSH) (m := p.ships) G G G G underlying27 ai83 G G G .h rO (Src.w (Fr.flat ((hPB).ext hx_9).2.2.2.2.1)) lO G (fun v265 => ⟨ttw 3 G, ?_⟩))
      exact SR.weakj (key238 (v265, v263, v262)) kR (Sub.get (.c4 G G G G (.c G (.c G .n)))) (kp (.d (.d .n)))
     refine st_lit eSH (e := 83) (l := []) G G G G kR G G kW (fun b266 => ⟨ttw 3 G, ?_⟩)
     refine SR.o 7 G (st_app0 (E := eJB) (m := p.jobs) G G G G underlying26 ai80 G G G (.t2 .h) rO (Src.w (Fr.flat ((hPB).ext hx_9).2.2.2.1.1)) lO G (fun v267 => ⟨ttw 3 G, ?_⟩))
     refine SR.o 11 G (st_app0 (E := eSH) (m := p.ships) G G G G underlying27 ai83 G G G (.t .h) rO (Src.w (Fr.flat ((hPB).ext hx_9).2.2.2.2.1)) lO G (fun v268 => ⟨ttw 3 G, ?_⟩))
     exact SR.weakj (key238 (v268, v267, v262)) kR (Sub.get (.c4 G G G G (.c G (.c G .n)))) (kp (.d (.d .n)))
    refine st_lit eSH (e := 83) (l := []) G G G G kR G G kW (fun b269 => ⟨ttw 3 G, ?_⟩)
    refine SR.o 3 G (st_app0 (E := eVH) (m := p.vehs) G G G G underlying25 ai72 G G G (.t2 .h) rO (Src.w (Fr.flat ((hPB).ext hx_9).2.2.1.1)) lO G (fun v270 => ⟨ttw 3 G, ?_⟩))
    refine SR.z 12 G G (ev_fa G fo29_3 G (r := 5) G) ?_
    refine SR.o 7 G (st_app0 (E := eJB) (m := p.jobs) G G G G underlying26 ai80 G G G (.t2 .h) rO (Src.w (Fr.flat ((hPB).ext hx_9).2.2.2.1.1)) lO G (fun v271 => ⟨ttw 3 G, ?_⟩))
    refine SR.o 11 G (st_app0 (E := eSH) (m := p.ships) G G G G underlying27 ai83 G G G (.t2 .h) rO (Src.w (Fr.flat ((hPB).ext hx_9).2.2.2.2.1)) lO G (fun v272 => ⟨ttw 3 G, ?_⟩))
    exact SR.weakj (key238 (v272, v271, v270)) kR (Sub.get (.c4 G G G G (.c G (.c G .n)))) (kp (.d (.d .n)))
   refine st_lit eSH (e := 83) (l := []) G G G G kR G G kW (fun b273 => ⟨ttw 2 G, ?_⟩)
   refine SR.two (i := 3) (j := 4) kR ⟨_, G, ?_⟩ ⟨_, G, ?_⟩
   ·
    refine st_app0 (E := eVH) (m := p.vehs) G G G G underlying25 ai72 G G G (.t .h) rO (Src.w (Fr.flat ((hPB).ext hx_9).2.2.1.1)) lO G (fun v274 => ⟨ttw 2 G, ?_⟩)
    refine SR.z 12 G G (ev_fa G fo29_3 G (r := 5) G) ?_
    refine SR.o 4 G (st_lit eJB (e := 80) (l := []) G G G G kR G G kW (fun b275 => ⟨ttw 3 G, ?_⟩))
    refine SR.o 7 G (st_app0 (E := eJB) (m := p.jobs) G G G G underlying26 ai80 G G G .h rO (Src.w (Fr.flat ((hPB).ext hx_9).2.2.2.1.1)) lO G (fun v276 => ⟨ttw 3 G, ?_⟩))
    refine SR.o 11 G (st_app0 (E := eSH) (m := p.ships) G G G G underlying27 ai83 G G G (.t2 .h) rO (Src.w (Fr.flat ((hPB).ext hx_9).2.2.2.2.1)) lO G (fun v277 => ⟨ttw 3 G, ?_⟩))
    exact SR.weakj (key238 (v277, v276, v274)) kR (Sub.get (.c4 G G G G (.c G (.c G .n)))) (kp (.d (.d .n)))
   refine st_lit eJB (e := 80) (l := []) G G G G kR G G kW (fun b278 => ⟨ttw 3 G, ?_⟩)
   refine SR.o 3 G (st_app0 (E := eVH) (m := p.vehs) G G G G underlying25 ai72 G G G (.t2 .h) rO (Src.w (Fr.flat ((hPB).ext hx_9).2.2.1.1)) lO G (fun v279 => ⟨ttw 3 G, ?_⟩))
   refine SR.z 12 G G (ev_fa G fo29_3 G (r := 5) G) ?_
   refine SR.o 7 G (st_app0 (E := eJB) (m := p.jobs) G G G G underlying26 ai80 G G G (.t .h) rO (Src.w (Fr.flat ((hPB).ext hx_9).2.2.2.1.1)) lO G (fun v280 => ⟨ttw 3 G, ?_⟩))
   refine SR.o 11 G (st_app0 (E := eSH) (m := p.ships) G G G G underlying27 ai83 G G G (.t2 .h) rO (Src.w (Fr.flat ((hPB).ext hx_9).2.2.2.2.1)) lO G (fun v281 => ⟨ttw 3 G, ?_⟩))
   exact SR.weakj (key238 (v281, v280, v279)) kR (Sub.get (.c4 G G G G (.c G (.c G .n)))) (kp (.d (.d .n)))
  ·
   refine st_lit eJB (e := 80) (l := []) G G G G kR G G kW (fun b282 => ⟨ttw 1 G, ?_⟩)
   refine SR.two (i := 0) (j := 8) kR ⟨_, G, ?_⟩ ⟨_, G, ?_⟩
   ·
    refine st_lit eVH (e := 72) (l := []) G G G G kR G G kW (fun b283 => ⟨ttw 2 G, ?_⟩)
    refine SR.two (i := 3) (j := 8) kR ⟨_, G, ?_⟩ ⟨_, G, ?_⟩
    ·
     refine st_app0 (E := eVH) (m := p.vehs) G G G G underlying25 ai72 G G G .h rO (Src.w (Fr.flat ((hPB).ext hx_9).2.2.1.1)) lO G (fun v284 => ⟨ttw 2 G, ?_⟩)
     refine SR.z 12 G G (ev_fa G fo29_3 G (r := 5) G) ?_
     refine SR.two (i := 7) (j := 8) kR ⟨_, G, ?_⟩ ⟨_, G, ?_⟩
     ·
      refine st_app0 (E := eJB) (m := p.jobs) G G G G underlying26 ai80 G G G (.t .h) rO (Src.w (Fr.flat ((hPB).ext hx_9).2.2.2.1.1)) lO G (fun v285 => ⟨ttw 2 G, ?_⟩)
      refine SR.o 8 G (st_lit eSH (e := 83) (l := []) G G G G kR G G kW (fun b286 => ⟨ttw 3 G, ?_⟩))
      refine SR.o 11 G (st_app0 (E := eSH) (m := p.ships) G G G G underlying27 ai83 G G G .h rO (Src.w (Fr.flat ((hPB).ext hx_9).2.2.2.2.1)) lO G (fun v287 => ⟨ttw 3 G, ?_⟩))
      exact SR.weakj (key238 (v287, v285, v284)) kR (Sub.get (.c4 G G G G (.c G (.c G .n)))) (kp (.d (.d .n)))
     refine st_lit eSH (e := 83) (l := []) G G G G kR G G kW (fun b288 => ⟨ttw 3 G, ?_⟩)
     refine SR.o 7 G (st_app0 (E := eJB) (m := p.jobs) G G G G underlying26 ai80 G G G (.t2 .h) rO (Src.w (Fr.flat ((hPB).ext hx_9).2.2.2.1.1)) lO G (fun v289 => ⟨ttw 3 G, ?_⟩))
     refine SR.o 11 G (st_app0 (E := eSH) (m := p.ships) G G G G underlying27 ai83 G G G (.t .h) rO (Src.w (Fr.flat ((hPB).ext hx_9).2.2.2.2.1)) lO G (fun v290 => ⟨ttw 3 G, ?_⟩))
     exact SR.weakj (key238 (v290, v289, v284)) kR (Sub.get (.c4 G G G G (.c G (.c G .n)))) (kp (.d (.d .n)))
    refine st_lit eSH (e := 83) (l := []) G G G G kR G G kW (fun b291 => ⟨ttw 3 G, ?_⟩)
    refine SR.o 3 G (st_app0 (E := eVH) (m := p.vehs) G G G G underlying25 ai72 G G G (.t .h) rO (Src.w (Fr.flat ((hPB).ext hx_9).2.2.1.1)) lO G (fun v292 => ⟨ttw 3 G, ?_⟩))
    refine SR.z 12 G G (ev_fa G fo29_3 G (r := 5) G) ?_
    refine SR.o 7 G (st_app0 (E := eJB) (m := p.jobs) G G G G underlying26 ai80 G G G (.t2 .h) rO (Src.w (Fr.flat ((hPB).ext hx_9).2.2.2.1.1)) lO G (fun v293 => ⟨ttw 3 G, ?_⟩))
    refine SR.o 11 G (st_app0 (E := eSH) (m := p.ships) G G G G underlying27 ai83 G G G (.t2 .h) rO (Src.w (Fr.flat ((hPB).ext hx_9).2.2.2.2.1)) lO G (fun v294 => ⟨ttw 3 G, ?_⟩))
    exact SR.weakj (key238 (v294, v293, v292)) kR (Sub.get (.c4 G G G G (.c G (.c G .n)))) (kp (.d (.d .n)))
   refine st_lit eSH (e := 83) (l := []) G G G G kR G G kW (fun b295 => ⟨ttw 2 G, ?_⟩)
   refine SR.o 0 G (st_lit eVH (e := 72) (l := []) G G G G kR G G kW (fun b296 => ⟨ttw 3 G, ?_⟩))
   refine SR.o 3 G (st_app0 (E := eVH) (m := p.vehs) G G G G underlying25 ai72 G G G .h rO (Src.w (Fr.flat ((hPB).ext hx_9).2.2.1.1)) lO G (fun v297 => ⟨ttw 3 G, ?_⟩))
   refine SR.z 12 G G (ev_fa G fo29_3 G (r := 5) G) ?_
   refine SR.o 7 G (st_app0 (E := eJB) (m := p.jobs) G G G G underlying26 ai80 G G G (.t2 .h) rO (Src.w (Fr.flat ((hPB).ext hx_9).2.2.2.1.1)) lO G (fun v298 => ⟨ttw 3 G, ?_⟩))
   refine SR.o 11 G (st_app0 (E := eSH) (m := p.ships) G G G G underlying27 ai83 G G G (.t2 .h) rO (Src.w (Fr.flat ((hPB).ext hx_9).2.2.2.2.1)) lO G (fun v299 => ⟨ttw 3 G, ?_⟩))
   exact SR.weakj (key238 (v299, v298, v297)) kR (Sub.get (.c4 G G G G (.c G (.c G .n)))) (kp (.d (.d .n)))
  refine st_lit eSH (e := 83) (l := []) G G G G kR G G kW (fun b300 => ⟨ttw 1 G, ?_⟩)
  refine SR.two (i := 0) (j := 4) kR ⟨_, G, ?_⟩ ⟨_, G, ?_⟩
  ·
   refine st_lit eVH (e := 72) (l := []) G G G G kR G G kW (fun b301 => ⟨ttw 2 G, ?_⟩)
   refine SR.two (i := 3) (j := 4) kR ⟨_, G, ?_⟩ ⟨_, G, ?_⟩
   ·
    refine st_app0 (E := eVH) (m := p.vehs) G G G G underlying25 ai72 G G G .h rO (Src.w (Fr.flat ((hPB).ext hx_9).2.2.1.1)) lO G (fun v302 => ⟨ttw 2 G, ?_⟩)
    refine SR.z 12 G G (ev_fa G fo29_3 G (r := 5) G) ?_
    refine SR.o 4 G (st_lit eJB (e := 80) (l := []) G G G G kR G G kW (fun b303 => ⟨ttw 3 G, ?_⟩))
    refine SR.o 7 G (st_app0 (E := eJB) (m := p.jobs) G G G G underlying26 ai80 G G G .h rO (Src.w (Fr.flat ((hPB).ext hx_9).2.2.2.1.1)) lO G (fun v304 => ⟨ttw 3 G, ?_⟩))
    refine SR.o 11 G (st_app0 (E := eSH) (m := p.ships) G G G G underlying27 ai83 G G G (.t2 .h) rO (Src.w (Fr.flat ((hPB).ext hx_9).2.2.2.2.1)) lO G (fun v305 => ⟨ttw 3 G, ?_⟩))
    exact SR.weakj (key238 (v305, v304, v302)) kR (Sub.get (.c4 G G G G (.c G (.c G .n)))) (kp (.d (.d .n)))
   refine st_lit eJB (e := 80) (l := []) G G G G kR G G kW (fun b306 => ⟨ttw 3 G, ?_⟩)
   refine SR.o 3 G (st_app0 (E := eVH) (m := p.vehs) G G G G underlying25 ai72 G G G (.t .h) rO (Src.w (Fr.flat ((hPB).ext hx_9).2.2.1.1)) lO G (fun v307 => ⟨ttw 3 G, ?_⟩))
   refine SR.z 12 G G (ev_fa G fo29_3 G (r := 5) G) ?_
   refine SR.o 7 G (st_app0 (E := eJB) (m := p.jobs) G G G G underlying26 ai80 G G G (.t .h) rO (Src.w (Fr.flat ((hPB).ext hx_9).2.2.2.1.1)) lO G (fun v308 => ⟨ttw 3 G, ?_⟩))
   refine SR.o 11 G (st_app0 (E := eSH) (m := p.ships) G G G G underlying27 ai83 G G G (.t2 .h) rO (Src.w (Fr.flat ((hPB).ext hx_9).2.2.2.2.1)) lO G (fun v309 => ⟨ttw 3 G, ?_⟩))
   exact SR.weakj (key238 (v309, v308, v307)) kR (Sub.get (.c4 G G G G (.c G (.c G .n)))) (kp (.d (.d .n)))
  refine st_lit eJB (e := 80) (l := []) G G G G kR G G kW (fun b310 => ⟨ttw 2 G, ?_⟩)
  refine SR.o 0 G (st_lit eVH (e := 72) (l := []) G G G G kR G G kW (fun b311 => ⟨ttw 3 G, ?_⟩))
  refine SR.o 3 G (st_app0 (E := eVH) (m := p.vehs) G G G G underlying25 ai72 G G G .h rO (Src.w (Fr.flat ((hPB).ext hx_9).2.2.1.1)) lO G (fun v312 => ⟨ttw 3 G, ?_⟩))
  refine SR.z 12 G G (ev_fa G fo29_3 G (r := 5) G) ?_
  refine SR.o 7 G (st_app0 (E := eJB) (m := p.jobs) G G G G underlying26 ai80 G G G (.t .h) rO (Src.w (Fr.flat ((hPB).ext hx_9).2.2.2.1.1)) lO G (fun v313 => ⟨ttw 3 G, ?_⟩))
  refine SR.o 11 G (st_app0 (E := eSH) (m := p.ships) G G G G underlying27 ai83 G G G (.t2 .h) rO (Src.w (Fr.flat ((hPB).ext hx_9).2.2.2.2.1)) lO G (fun v314 => ⟨ttw 3 G, ?_⟩))
  exact SR.weakj (key238 (v314, v313, v312)) kR (Sub.get (.c4 G G G G (.c G (.c G .n)))) (kp (.d (.d .n)))
 refine SR.join (X := Value × Value) (fun (zv315, zv316) => ([(1, .pointer (some ⟨b1, 0, none⟩)), (2, .pointer (some ⟨b2, 0, none⟩)), (14, zv316), (21, .pointer (some ⟨b1, 2, none⟩)), (19, zv315)], [rw_ eZ 3 (zv315) p.dist, rw_ eZ 3 (zv316) p.time, cel b1 (cPB p) 29])) 4 #[true, true, true, true, true, true, true, true, true, true, true, true, false, false, false, false] (fun ⟨zv315, zv316⟩ => ?_) (fun key317 => ?_)
 ·
  show SR _ _ _ _ _ _ _ _ _ ⟨[(1, .pointer (some ⟨b1, 0, none⟩)), (2, .pointer (some ⟨b2, 0, none⟩)), (14, zv316), (21, .pointer (some ⟨b1, 2, none⟩)), (19, zv315)], [rw_ eZ 3 (zv315) p.dist, rw_ eZ 3 (zv316) p.time, cel b1 (cPB p) 29], _, _⟩
  refine .know (row_len 1 G) (fun hv320 => ?_)
  obtain ⟨A318, c319, rfl, hv320_1, hv320_2⟩ := hv320
  unfold maxLen at hv320_2
  refine SR.o 12 G (st_store1 G G G ty22 G G G (.t2 .h) (.t2 .h) ⟨ttc (fun w_ hw_ => (tc2 kR tc0)), ?_⟩)
  refine SR.z 13 G G (ev_fa G fo29_2 G (r := 3) G) ?_
  refine SR.z 14 G G (ev_fa G fo24_1 G (r := 4) G) ?_
  refine .know (row_len 1 G) (fun hv323 => ?_)
  obtain ⟨A321, c322, rfl, hv323_1, hv323_2⟩ := hv323
  unfold maxLen at hv323_2
  refine SR.o 15 G (st_store1 G G G ty22 G G G .h (.t4 .h) ⟨ttc (fun w_ hw_ => (tc2 kR tc0)), ?_⟩)
  refine SR.fin kR hl_3 hx_3 hR_3 (.c (.c (.c .n))) ?_
  exact SQ.weak (key8 (A318, c319, A321, c322)) (Sub.get (.c G (.c G .n))) (kp (.d (.d .n)))
 refine SR.z 1 G G (ev_fa G fo29_1 G (r := 1) G) ?_
 refine SR.z 2 G G (ev_fa G fo24_1 G (r := 2) G) ?_
 refine SR.z 3 G G (ev_ld1 G ty22 G (At.elem1 (v := .slice p.ptA p.time.length p.ptc) (At.ofcs 0 G kR) 2 G)) ?_
 refine SR.z 6 G G (ev_fa G fo29_2 G (r := 3) G) ?_
 refine SR.z 7 G G (ev_fa G fo24_1 G (r := 4) G) ?_
 refine SR.z 8 G G (ev_ld1 G ty22 G (At.elem1 (v := .slice p.pdA p.dist.length p.pdc) (At.ofcs 0 G kR) 4 G)) ?_
 refine SR.two (i := 0) (j := 5) kR ⟨_, G, ?_⟩ ⟨_, G, ?_⟩
 ·
  refine st_lit eZ (e := 3) (l := []) G G G G kR G G kW (fun b324 => ⟨ttw 1 G, ?_⟩)
  refine SR.two (i := 4) (j := 5) kR ⟨_, G, ?_⟩ ⟨_, G, ?_⟩
  ·
   refine st_app0 (E := eZ) (m := p.time) G G G G underlying22 ai3 G G G .h rO (Src.w (Fr.flat ((hPB).ext hx_3).1)) lO G (fun v325 => ⟨ttw 1 G, ?_⟩)
   refine SR.z 10 G G (ev_fa G fo29_1 G (r := 1) G) ?_
   refine SR.z 11 G G (ev_fa G fo24_1 G (r := 2) G) ?_
   refine SR.o 5 G (st_lit eZ (e := 3) (l := []) G G G G kR G G kW (fun b326 => ⟨ttw 2 G, ?_⟩))
   refine SR.o 9 G (st_app0 (E := eZ) (m := p.dist) G G G G underlying22 ai3 G G G .h rO (Src.w (Fr.flat ((hPB).ext hx_3).2.1)) lO G (fun v327 => ⟨ttw 2 G, ?_⟩))
   exact SR.weakj (key317 (v327, v325)) kR (Sub.get (.c4 G G G G (.c G .n))) (kp (.d (.c .h .n)))
  refine st_lit eZ (e := 3) (l := []) G G G G kR G G kW (fun b328 => ⟨ttw 2 G, ?_⟩)
  refine SR.o 4 G (st_app0 (E := eZ) (m := p.time) G G G G underlying22 ai3 G G G (.t .h) rO (Src.w (Fr.flat ((hPB).ext hx_3).1)) lO G (fun v329 => ⟨ttw 2 G, ?_⟩))
  refine SR.z 10 G G (ev_fa G fo29_1 G (r := 1) G) ?_
  refine SR.z 11 G G (ev_fa G fo24_1 G (r := 2) G) ?_
  refine SR.o 9 G (st_app0 (E := eZ) (m := p.dist) G G G G underlying22 ai3 G G G (.t .h) rO (Src.w (Fr.flat ((hPB).ext hx_3).2.1)) lO G (fun v330 => ⟨ttw 2 G, ?_⟩))
  exact SR.weakj (key317 (v330, v329)) kR (Sub.get (.c4 G G G G (.c G .n))) (kp (.d (.c .h .n)))
 refine st_lit eZ (e := 3) (l := []) G G G G kR G G kW (fun b331 => ⟨ttw 1 G, ?_⟩)
 refine SR.o 0 G (st_lit eZ (e := 3) (l := []) G G G G kR G G kW (fun b332 => ⟨ttw 2 G, ?_⟩))
 refine SR.o 4 G (st_app0 (E := eZ) (m := p.time) G G G G underlying22 ai3 G G G .h rO (Src.w (Fr.flat ((hPB).ext hx_3).1)) lO G (fun v333 => ⟨ttw 2 G, ?_⟩))
 refine SR.z 10 G G (ev_fa G fo29_1 G (r := 1) G) ?_
 refine SR.z 11 G G (ev_fa G fo24_1 G (r := 2) G) ?_
 refine SR.o 9 G (st_app0 (E := eZ) (m := p.dist) G G G G underlying22 ai3 G G G (.t .h) rO (Src.w (Fr.flat ((hPB).ext hx_3).2.1)) lO G (fun v334 => ⟨ttw 2 G, ?_⟩))
 exact SR.weakj (key317 (v334, v333)) kR (Sub.get (.c4 G G G G (.c G .n))) (kp (.d (.c .h .n)))
end Go.Proofs.YtimhdimhdimbjaaGreat.Sx
set_option maxRecDepth 20000
set_option maxHeartbeats 1000000
namespace Go.Proofs.YtimhdimhdimbjaaGreat.Sx.FEH
open Go Go.SX Go.Proofs Go.Proofs.Tryz FA FB FC FD FE FF FG FH FJ FK FL FM FP FQ FU FW FEA FEB FEC FED FEE FEF
theorem fo100_4 : fo prog 100 4 = some 12 := by kernel_rfl
theorem fo100_1 : fo prog 100 1 = some 8 := by kernel_rfl
theorem fo100_2 : fo prog 100 2 = some 9 := by kernel_rfl
theorem ty98 : ty prog 98 = some (false, 1) := by kernel_rfl
theorem hbd31 : hasBody prog 31 = true := by kernel_rfl
theorem fo100_0 : fo prog 100 0 = some 0 := by kernel_rfl
theorem hbd11 : hasBody prog 11 = true := by kernel_rfl
theorem fo100_3 : fo prog 100 3 = some 10 := by kernel_rfl
theorem hbd13 : hasBody prog 13 = true := by kernel_rfl
end Go.Proofs.YtimhdimhdimbjaaGreat.Sx.FEH
namespace Go.Proofs.YtimhdimhdimbjaaGreat.Sx
open Go Go.SX Go.Proofs Go.Proofs.Tryz FA FB FC FD FE FF FG FH FJ FK FL FM FP FQ FU FW FEA FEB FEC FED FEE FEF FEH
theorem rgrow19_ : ∀ (f : Nat) (p : PB) (b : Nat) (aA : Option Addr) (ac : Nat) (uA : Option Addr) (uc : Nat) (U : List Bool) (lA : Option Addr) (lc : Nat) (l : List Vis) (F : Int) (bv : Int) (bc : Int) (s : Int) (S : Nat → Prop) (wf : World) (hA : Fr eVis S wf aA (visL (taskL p))) (hl : Fr eVis S wf lA l) (hPB : PBF S wf p) (hL : LawP p) (h8 : (visL (taskL p)).length ≤ 8) (hv : 0 < p.vehs.length) (hU : UOk (visL (taskL p)) U l) (hF0 : 0 ≤ F) (hF : F = ((visL (taskL p)).length : Int) - (l.length : Int)) (hf : F < f) (hs : -1000000000000 ≤ s - tp F ∧ s ≤ 1000000) (hG : GoodS p (bv, bc)),
  TR0 prog 31 [.pointer (some ⟨b, 0, none⟩), .slice lA l.length lc] [cel b [.int .i64 p.dims, .int .i64 p.tn, .slice p.ptA p.time.length p.ptc, .int .i64 p.dn, .slice p.pdA p.dist.length p.pdc, .slice p.pvA p.vehs.length p.pvc, .slice p.pjA p.jobs.length p.pjc, .slice p.psA p.ships.length p.psc, .slice aA ((visL (taskL p)).length) ac, .slice uA ((visL (taskL p)).length) uc, .int .i64 bv, .int .i64 bc, .int .i64 s] 100, rw_ eB 4 (.slice uA ((visL (taskL p)).length) uc) U] S wf (fun v_ C_ => ∃ (bv2 : Int) (bc2 : Int) (s2 : Int), (GoodS p (bv2, bc2)) ∧ (¬ BetS (bv, bc) (bv2, bc2)) ∧ (s - tp F ≤ s2 ∧ s2 ≤ s - 1) ∧ (0 < s2 → NoB p l (bv2, bc2)) ∧ v_ = .tuple #[] ∧ C_ = [cel b [.int .i64 p.dims, .int .i64 p.tn, .slice p.ptA p.time.length p.ptc, .int .i64 p.dn, .slice p.pdA p.dist.length p.pdc, .slice p.pvA p.vehs.length p.pvc, .slice p.pjA p.jobs.length p.pjc, .slice p.psA p.ships.length p.psc, .slice aA ((visL (taskL p)).length) ac, .slice uA ((visL (taskL p)).length) uc, .int .i64 bv2, .int .i64 bc2, .int .i64 s2] 100, rw_ eB 4 (.slice uA ((visL (taskL p)).length) uc) U]) := by
 refine nat_ind ?_ (fun f ih => ?_)
 · intro p b aA ac uA uc U lA lc l F bv bc s S wf hA hl hPB hL h8 hv hU hF0 hF hf hs hG; exfalso; omega
 intro p b aA ac uA uc U lA lc l F bv bc s S wf hA hl hPB hL h8 hv hU hF0 hF hf hs hG
 have hal := hA.len
 have hll := hU.llen
 have hul2 := hU.len
 have htp0 : 0 ≤ tp F := tp_0
 refine TR.mk func31 G ntmps31 G G (fun w_ => ?_)
 refine .seq (.region (.m G G G (.m G G G (.v (ev_nil G G) G ?_))))
 refine .f fo100_4 12 G G G G (.l ty3 0 G G G G G (.v (ev_sub G G G (r := (s - 1)) G oO oO) G (.v (ev_nil G G) G ?_)))
 refine .f fo100_4 12 G G G G (.cons (st_store1 G G G ty3 G G G .h (.t4 (.t4 (.t4 .h))) (.go idQ (.seq (.seq (.region (.m G G G ?_)))))))
 refine .v (ev_nil G G) G (.f fo100_4 12 G G G G (.l ty3 0 G G G G G (.e G G G G G ?_)))
 refine .go idQ (.condI G bD (fun h1 => ?_) (fun h1 => ?_))
 ·
  exact .ret idQ (ret0 results31 (.d .n) ⟨bv, bc, (s - 1), hG, betS_irr, (by have := tp_one (f := F) hF0; omega), (fun h_ => by omega), G, G⟩)
 refine .skipgo idQ ?_
 refine SC.seqx (X := Int × Int) (fun ⟨jv, jc⟩ => GoodS p (jv, jc) ∧ ¬ BetS (bv, bc) (jv, jc) ∧ (l ≠ [] → (fitV p 0 l).e = 0 → ¬ BetS (scL p l) (jv, jc))) (fun ⟨jv, jc⟩ => ([(0, .pointer (some ⟨b, 0, none⟩)), (1, .slice lA l.length lc)], [cel b [.int .i64 p.dims, .int .i64 p.tn, .slice p.ptA p.time.length p.ptc, .int .i64 p.dn, .slice p.pdA p.dist.length p.pdc, .slice p.pvA p.vehs.length p.pvc, .slice p.pjA p.jobs.length p.pjc, .slice p.psA p.ships.length p.psc, .slice aA ((visL (taskL p)).length) ac, .slice uA ((visL (taskL p)).length) uc, .int .i64 jv, .int .i64 jc, .int .i64 (s - 1)] 100, rw_ eB 4 (.slice uA ((visL (taskL p)).length) uc) U])) S wf (fun ⟨jv, jc⟩ hk3 => ?_) (fun key2 => ?_)
 ·
  show SC _ _ _ _ _ ⟨[(0, .pointer (some ⟨b, 0, none⟩)), (1, .slice lA l.length lc)], [cel b [.int .i64 p.dims, .int .i64 p.tn, .slice p.ptA p.time.length p.ptc, .int .i64 p.dn, .slice p.pdA p.dist.length p.pdc, .slice p.pvA p.vehs.length p.pvc, .slice p.pjA p.jobs.length p.pjc, .slice p.psA p.ships.length p.psc, .slice aA ((visL (taskL p)).length) ac, .slice uA ((visL (taskL p)).length) uc, .int .i64 jv, .int .i64 jc, .int .i64 (s - 1)] 100, rw_ eB 4 (.slice uA ((visL (taskL p)).length) uc) U], S, wf⟩
  obtain ⟨j_0, j_1, j_2⟩ := hk3
  refine .seq (.region (.a G G G (.go idQ (.block (.loop (X := Int × Int × Int × Int) (fun ⟨i, bv1, bc1, s1⟩ => 0 ≤ i ∧ i ≤ ((visL (taskL p)).length : Int) ∧ GoodS p (bv1, bc1) ∧ ¬ BetS (bv, bc) (bv1, bc1) ∧ (l ≠ [] → (fitV p 0 l).e = 0 → ¬ BetS (scL p l) (bv1, bc1)) ∧ (s - 1 - i * tp (F - 1) ≤ s1 ∧ s1 ≤ s - 1) ∧ (∀ j : Int, 0 ≤ j → j < i → 0 < s1 → NoB p (l ++ [gt (visL (taskL p)) j]) (bv1, bc1))) (fun ⟨i, bv1, bc1, s1⟩ => [(0, .pointer (some ⟨b, 0, none⟩)), (1, .slice lA l.length lc), (8, .int .i64 i)]) (fun ⟨i, bv1, bc1, s1⟩ => [cel b [.int .i64 p.dims, .int .i64 p.tn, .slice p.ptA p.time.length p.ptc, .int .i64 p.dn, .slice p.pdA p.dist.length p.pdc, .slice p.pvA p.vehs.length p.pvc, .slice p.pjA p.jobs.length p.pjc, .slice p.psA p.ships.length p.psc, .slice aA ((visL (taskL p)).length) ac, .slice uA ((visL (taskL p)).length) uc, .int .i64 bv1, .int .i64 bc1, .int .i64 s1] 100, rw_ eB 4 (.slice uA ((visL (taskL p)).length) uc) U]) (fun _ => S) (fun _ => wf) (fun ⟨i, bv1, bc1, s1⟩ => (((visL (taskL p)).length : Int) - i).toNat) (fun a_ w_ hs_ hw_ => ⟨⟨0, jv, jc, (s - 1)⟩, (by (try dsimp only); exact ⟨oO, oO, j_0, j_1, j_2, oO, (fun j j0 j1 => absurd j1 oO)⟩), hs_.mono (Sub.get (.c G (.c G (.c G .n)))), hw_.keep (.d .n)⟩) (fun ⟨i, bv1, bc1, s1⟩ ⟨q_0, q_1, q_2, q_3, q_4, q_5, q_6⟩ => ?_))))))
  try dsimp only
  refine .seq (.seq (.region (.m G G G (.m G G G (.v (ev_nil G G) G ?_)))))
  refine .f fo100_1 8 G G G G (.l ty52 0 G G G G G (.g underlying52 G G G (.e G G G G G ?_)))
  refine .go idQ (.condI G bD (fun h4 => ?_) (fun h4 => ?_))
  ·
   refine .skipgo idQ (.seq (.block (.seq (.seq ?_))))
   have hdl : (gt (visL (taskL p)) i).kind = 3 → 1 ≤ i := fun h_ => (visL_del (ts := taskL p) (i := i) oO oO h_).1
   refine .region (.m G G G (.v (ev_nil G G) G (.f fo100_2 9 G G G G ?_)))
   refine .l ty98 0 G G G G G (.m G G G (.v (ev_ix G underlying98 ty4 G G oO oO (row_adr (i := i) 1 G oO oO)) G (.v (ev_ld1 G ty4 G (At.elem1 (row_el (E := eB) (l := U) (i := i) 1 G oO oO) 0 G)) G ?_)))
   refine .m G G G (.w (fun _ => ev_mv G G) G (.w (fun hb => ev_nil G (lkg G hb)) G (.w (fun hb => ev_fa G fo100_1 (lkg G hb) (r := 8) G) G ?_)))
   refine .w (fun hb => ev_ld1 G ty52 (lkg G hb) (At.own1 0 G G)) G (.w (fun _ => ev_mv G G) G (.w (fun hb => have hp := bF bV hb; ev_ix G underlying52 ty92 (lkg G hb) (lkg G hb) (by have _h := hp; omega) (by have _h := hp; omega) (fun _ _ => Fr.adr (i := i) hA (by have _h := hp; omega) (by have _h := hp; omega))) G (.w (fun hb => ev_fa G fo92_0 (lkg G hb) (r := ao aA + (i).toNat * 2) G) G ?_)))
   refine .w (fun hb => have hp := bF bV hb; ev_ld1 G ty90 (lkg G hb) (At.elem1 (At.w (Fr.el (i := i) hA (by have _h := hp; omega) (by have _h := hp; omega))) 0 G)) G (.w (fun hb => ev_cmp G (lkg G hb) G G) G (.w (fun hb => ev_mv G (lkg G hb)) G (.cons (Ev.ggstep (b1 := (gt U i)) (b := (((gt (visL (taskL p)) i).kind) == 3)) cb_ft (fun hb1 _ => ev_mv G G) G G G G G ?_))))
   refine .cons (Ev.ggstep (b1 := (gt U i)) (b := (((gt (visL (taskL p)) i).kind) == 3)) cb_ft (fun hb1 hb => ev_nil G (lkg G hb)) G G G G G ?_)
   refine .cons (Ev.ggstep (b1 := (gt U i)) (b := (((gt (visL (taskL p)) i).kind) == 3)) cb_ft (fun hb1 hb => ev_fa G fo100_2 (lkg G hb) (r := 9) G) G G G G G ?_)
   refine .cons (Ev.ggstep (b1 := (gt U i)) (b := (((gt (visL (taskL p)) i).kind) == 3)) cb_ft (fun hb1 hb => ev_ld1 G ty98 (lkg G hb) (At.own1 0 G G)) G G G G G ?_)
   refine .cons (Ev.ggstep (b1 := (gt U i)) (b := (((gt (visL (taskL p)) i).kind) == 3)) cb_ft (fun hb1 _ => ev_mv G G) G G G G G ?_)
   refine .cons (Ev.ggstep (b1 := (gt U i)) (b := (((gt (visL (taskL p)) i).kind) == 3)) cb_ft (fun hb1 hb => have hp := bT (bA (bN bV) bE) hb; ev_sub G (lkg G hb) G (r := (i - 1)) G (by have _h := hp; omega) (by have _h := hp; omega)) G G G G G ?_)
   refine .cons (Ev.ggstep (b1 := (gt U i)) (b := (((gt (visL (taskL p)) i).kind) == 3)) cb_ft (fun hb1 hb => have hp := bT (bA (bN bV) bE) hb; ev_ix G underlying98 ty4 (lkg G hb) (lkg G hb) (by have _h := hp; omega) (by have _h := hp; omega) (row_adr (i := (i - 1)) 1 G (by have _h := hp; omega) (by have _h := hp; omega))) G G G G G ?_)
   refine .cons (Ev.ggstep (b1 := (gt U i)) (b := (((gt (visL (taskL p)) i).kind) == 3)) cb_ft (fun hb1 hb => have hp := bT (bA (bN bV) bE) hb; ev_ld1 G ty4 (lkg G hb) (At.elem1 (row_el (E := eB) (l := U) (i := (i - 1)) 1 G (by have _h := hp; omega) (by have _h := hp; omega)) 0 G)) G G G G G ?_)
   refine .cons (Ev.ggstep (b1 := (gt U i)) (b := (((gt (visL (taskL p)) i).kind) == 3)) cb_ft (fun hb1 hb => ev_not G (lkg G hb)) G G G G G ?_)
   refine .w (fun hb => ev_and G (lkg G hb) (lkgn G cb_ft hb) G) G (.r G G G G G (.go idQ (.condI G (bO bV (bA bE (bN bV))) (fun h5 => ?_) (fun h5 => ?_))))
   ·
    refine .exit idQ ?_
    refine .region (.m G G G (.p ((i + 1)) oO oO G G G G G (.a G G G ?_)))
    exact SP.nil (SQ.roundb (X := Int × Int × Int × Int) (x := (i, bv1, bc1, s1)) ⟨(i + 1), bv1, bc1, s1⟩ (by (try dsimp only); exact ⟨by omega, by omega, q_2, q_3, q_4, by have hT0 : 0 ≤ tp (F - 1) := tp_0; have hT3 := t_next2 (T := tp (F - 1)) (i := i); omega, upto_nx q_6 (fun _ => nob_skip hL hU oO oO h5)⟩) dO (Sub.get (.c G (.c G (.c G .n)))) (kp (.d .n)))
   refine .skipgo idQ (.seq ?_)
   have hnu := h5
   have hu1 : ¬ gt U i = true := fun q_ => hnu (by first | exact .inl q_ | exact q_)
   have hun := hU.next oO oO hu1
   have hul := hun.llen
   rw [List.length_append, List.length_singleton] at hul
   have hT0 : 0 ≤ tp (F - 1) := tp_0
   have hT1 := tp_step (f := F) (n := (visL (taskL p)).length) oO oO oO
   have hT2 := tmul_le (T := tp (F - 1)) (i := i + 1) (n := (visL (taskL p)).length) hT0 oO
   have hT3 := t_next2 (T := tp (F - 1)) (i := i)
   refine .region (.m G G G (.v (ev_nil G G) G (.f fo100_2 9 G G G G ?_)))
   refine .l ty98 0 G G G G G (.m G G G (.v (ev_ix G underlying98 ty4 G G oO oO (row_adr (i := i) 1 G oO oO)) G (.cons (st_setel (E := eB) (i := i) (cs := [.bool true]) (off := 0) true G G G ty4 G G G G G (.t .h) lO lO (Nat.le_of_ble_eq_true G) G ?_))))
   refine .go idQ (.seq ?_)
   refine SC.draw mo [rw_ eB 4 (.slice uA ((visL (taskL p)).length) uc) (U.set (i).toNat true), cel b [.int .i64 p.dims, .int .i64 p.tn, .slice p.ptA p.time.length p.ptc, .int .i64 p.dn, .slice p.pdA p.dist.length p.pdc, .slice p.pvA p.vehs.length p.pvc, .slice p.pjA p.jobs.length p.pjc, .slice p.psA p.ships.length p.psc, .slice aA ((visL (taskL p)).length) ac, .slice uA ((visL (taskL p)).length) uc, .int .i64 bv1, .int .i64 bc1, .int .i64 s1] 100] [] (.d .n) (fun _ _ _ => sc0) (fun wf_6 hl_6 hx_6 hR_6 => ?_)
   refine SR.join (X := Value × Nat) (fun (zv7, zb8) => ([(0, .pointer (some ⟨b, 0, none⟩)), (1, .slice lA l.length lc), (8, .int .i64 i), (64, .bool (decide (i < (((visL (taskL p)).length : Nat) : Int)))), (95, .bool ((gt U i) || ((((gt (visL (taskL p)) i).kind) == 3) && (!(gt U (i - 1)))))), (102, .pointer (some ⟨b, 0, none⟩)), (114, zv7)], [rw_ eVis 92 (zv7) (l ++ [(gt (visL (taskL p)) i)]), rw_ eVis 92 (.slice (some ⟨zb8, 0, none⟩) 1 1) [(gt (visL (taskL p)) i)], rw_ eB 4 (.slice uA ((visL (taskL p)).length) uc) (U.set (i).toNat true), cel b [.int .i64 p.dims, .int .i64 p.tn, .slice p.ptA p.time.length p.ptc, .int .i64 p.dn, .slice p.pdA p.dist.length p.pdc, .slice p.pvA p.vehs.length p.pvc, .slice p.pjA p.jobs.length p.pjc, .slice p.psA p.ships.length p.psc, .slice aA ((visL (taskL p)).length) ac, .slice uA ((visL (taskL p)).length) uc, .int .i64 bv1, .int .i64 bc1, .int .i64 s1] 100])) 1 #[true, true, true, true, true, true, true, true, true, true, true, true, true, false] (fun ⟨zv7, zb8⟩ => ?_) (fun key9 => ?_)
   ·
    show SR _ _ _ _ _ _ _ _ _ ⟨[(0, .pointer (some ⟨b, 0, none⟩)), (1, .slice lA l.length lc), (8, .int .i64 i), (64, .bool (decide (i < (((visL (taskL p)).length : Nat) : Int)))), (95, .bool ((gt U i) || ((((gt (visL (taskL p)) i).kind) == 3) && (!(gt U (i - 1)))))), (102, .pointer (some ⟨b, 0, none⟩)), (114, zv7)], [rw_ eVis 92 (zv7) (l ++ [(gt (visL (taskL p)) i)]), rw_ eVis 92 (.slice (some ⟨zb8, 0, none⟩) 1 1) [(gt (visL (taskL p)) i)], rw_ eB 4 (.slice uA ((visL (taskL p)).length) uc) (U.set (i).toNat true), cel b [.int .i64 p.dims, .int .i64 p.tn, .slice p.ptA p.time.length p.ptc, .int .i64 p.dn, .slice p.pdA p.dist.length p.pdc, .slice p.pvA p.vehs.length p.pvc, .slice p.pjA p.jobs.length p.pjc, .slice p.psA p.ships.length p.psc, .slice aA ((visL (taskL p)).length) ac, .slice uA ((visL (taskL p)).length) uc, .int .i64 bv1, .int .i64 bc1, .int .i64 s1] 100], _, _⟩
    refine .know (row_len 0 G) (fun hv12 => ?_)
    obtain ⟨A10, c11, rfl, hv12_1, hv12_2⟩ := hv12
    unfold maxLen at hv12_2
    refine SR.o 13 G (st_lend0 G G G G hbd31 G (.c (.t2 (.t .h)) (.c (.t2 .h) .n)) (.c .h .n) (fun w_ hw => ih p b aA ac uA uc (U.set (i).toNat true) A10 c11 (l ++ [(gt (visL (taskL p)) i)]) (F - 1) bv1 bc1 s1 _ _ (Fr.ext (Fr.ext hA hx_6) hw.lendx) (Fr.lend hw 0 G lO) ((((hPB).ext hx_6)).ext hw.lendx) hL h8 hv hun oO (by rw [List.length_append, List.length_singleton]; omega) oO oO q_2) (fun v_q16 C_q16 q16 => ⟨tt0, ?_⟩))
    obtain ⟨bv213, bc214, s215, p17, p18, p19, p20, rfl, rfl⟩ := q16
    show SR _ _ _ _ _ _ _ _ _ ⟨_, _ :: _ :: _ :: _, _, _⟩
    refine SR.fin kR hl_6 hx_6 hR_6 (.c (.c (.c (.c .n)))) ?_
    refine SQ.go idQ ?_
    refine .region (.m G G G (.v (ev_nil G G) G (.f fo100_2 9 G G G G ?_)))
    refine .l ty98 0 G G G G G (.m G G G (.v (ev_ix G underlying98 ty4 G G oO oO (row_adr (i := i) 1 G oO lO)) G (.cons (st_setel (E := eB) (i := i) (cs := [.bool false]) (off := 0) false G G G ty4 G G G G G (.t .h) lO lO (Nat.le_of_ble_eq_true G) G ?_))))
    refine .go idQ ?_
    rw [set_back (U := U) (i := i) oO oO hu1]
    refine .region (.m G G G (.p ((i + 1)) oO oO G G G G G (.a G G G ?_)))
    exact SP.nil (SQ.roundb (X := Int × Int × Int × Int) (x := (i, bv1, bc1, s1)) ⟨(i + 1), bv213, bc214, s215⟩ (by (try dsimp only); exact ⟨by omega, by omega, p17, betS_chain q_3 p18, fun h1_ h2_ => betS_chain (q_4 h1_ h2_) p18, by omega, upto_nx (fun j j0 j1 h0_ => (q_6 j j0 j1 oO).mono p18) p20⟩) dO (Sub.get (.c G (.c G (.c G .n)))) (kp (.c (.t .h) (.c .h .n))))
   refine SR.m 0 G G G G ?_
   refine SR.m 2 G G G G ?_
   refine SR.m 4 G G G G ?_
   refine SR.z 5 G G (ev_nil G G) ?_
   refine SR.z 6 G G (ev_fa G fo100_1 G (r := 8) G) ?_
   refine SR.m 8 G G G G ?_
   refine SR.two (i := 1) (j := 7) kR ⟨_, G, ?_⟩ ⟨_, G, ?_⟩
   ·
    refine st_lit eVis (e := 92) (l := []) G G G G kR G G kW (fun b21 => ⟨tt0, ?_⟩)
    refine SR.two (i := 3) (j := 7) kR ⟨_, G, ?_⟩ ⟨_, G, ?_⟩
    ·
     refine st_app0 (E := eVis) (m := l) G G G G underlying52 ai92 G G G .h rO (Src.w (Fr.flat (Fr.ext hl hx_6))) lO G (fun v22 => ⟨tt0, ?_⟩)
     refine SR.o 7 G (Ev.step (ev_ld1 G ty52 G (At.own1 2 G G)) G G G ⟨tt0, ?_⟩)
     refine SR.z 9 G G (ev_ix G underlying52 ty92 G G oO oO (fun _ _ => Fr.adr (i := i) (Fr.ext hA hx_6) oO oO)) ?_
     refine SR.z 10 G G (ev_lda G G (At.d (Fr.el (i := i) (Fr.ext hA hx_6) oO oO)) ty92) ?_
     refine SR.o 11 G (st_lit eVis (e := 92) (l := [(gt (visL (taskL p)) i)]) G G G G kR G G kW (fun b23 => ⟨tt0, ?_⟩))
     refine SR.o 12 G (st_app (E := eVis) (m := [(gt (visL (taskL p)) i)]) G G G G underlying52 ai92 G G G (.t .h) rO (row_src 0 G) lO G (fun v24 => ⟨tt0, ?_⟩))
     exact SR.weakj (key9 (v24, b23)) kR (Sub.get (.c4 G G G G (.c G (.c G (.c G .n))))) (kp (.d (.d .n)))
    refine Ev.step (ev_ld1 G ty52 G (At.own1 2 G G)) G G G ⟨tt0, ?_⟩
    refine SR.z 9 G G (ev_ix G underlying52 ty92 G G oO oO (fun _ _ => Fr.adr (i := i) (Fr.ext hA hx_6) oO oO)) ?_
    refine SR.z 10 G G (ev_lda G G (At.d (Fr.el (i := i) (Fr.ext hA hx_6) oO oO)) ty92) ?_
    refine SR.two (i := 3) (j := 11) kR ⟨_, G, ?_⟩ ⟨_, G, ?_⟩
    ·
     refine st_app0 (E := eVis) (m := l) G G G G underlying52 ai92 G G G .h rO (Src.w (Fr.flat (Fr.ext hl hx_6))) lO G (fun v25 => ⟨tt0, ?_⟩)
     refine SR.o 11 G (st_lit eVis (e := 92) (l := [(gt (visL (taskL p)) i)]) G G G G kR G G kW (fun b26 => ⟨tt0, ?_⟩))
     refine SR.o 12 G (st_app (E := eVis) (m := [(gt (visL (taskL p)) i)]) G G G G underlying52 ai92 G G G (.t .h) rO (row_src 0 G) lO G (fun v27 => ⟨tt0, ?_⟩))
     exact SR.weakj (key9 (v27, b26)) kR (Sub.get (.c4 G G G G (.c G (.c G (.c G .n))))) (kp (.d (.d .n)))
    refine st_lit eVis (e := 92) (l := [(gt (visL (taskL p)) i)]) G G G G kR G G kW (fun b28 => ⟨tt0, ?_⟩)
    refine SR.o 3 G (st_app0 (E := eVis) (m := l) G G G G underlying52 ai92 G G G (.t .h) rO (Src.w (Fr.flat (Fr.ext hl hx_6))) lO G (fun v29 => ⟨tt0, ?_⟩))
    refine SR.o 12 G (st_app (E := eVis) (m := [(gt (visL (taskL p)) i)]) G G G G underlying52 ai92 G G G .h rO (row_src 1 G) lO G (fun v30 => ⟨tt0, ?_⟩))
    exact SR.weakj (key9 (v30, b28)) kR (Sub.get (.c4 G G G G (.c G (.c G (.c G .n))))) (kp (.d (.d .n)))
   refine Ev.step (ev_ld1 G ty52 G (At.own1 1 G G)) G G G ⟨tt0, ?_⟩
   refine SR.z 9 G G (ev_ix G underlying52 ty92 G G oO oO (fun _ _ => Fr.adr (i := i) (Fr.ext hA hx_6) oO oO)) ?_
   refine SR.z 10 G G (ev_lda G G (At.d (Fr.el (i := i) (Fr.ext hA hx_6) oO oO)) ty92) ?_
   refine SR.two (i := 1) (j := 11) kR ⟨_, G, ?_⟩ ⟨_, G, ?_⟩
   ·
    refine st_lit eVis (e := 92) (l := []) G G G G kR G G kW (fun b31 => ⟨tt0, ?_⟩)
    refine SR.two (i := 3) (j := 11) kR ⟨_, G, ?_⟩ ⟨_, G, ?_⟩
    ·
     refine st_app0 (E := eVis) (m := l) G G G G underlying52 ai92 G G G .h rO (Src.w (Fr.flat (Fr.ext hl hx_6))) lO G (fun v32 => ⟨tt0, ?_⟩)
     refine SR.o 11 G (st_lit eVis (e := 92) (l := [(gt (visL (taskL p)) i)]) G G G G kR G G kW (fun b33 => ⟨tt0, ?_⟩))
     refine SR.o 12 G (st_app (E := eVis) (m := [(gt (visL (taskL p)) i)]) G G G G underlying52 ai92 G G G (.t .h) rO (row_src 0 G) lO G (fun v34 => ⟨tt0, ?_⟩))
     exact SR.weakj (key9 (v34, b33)) kR (Sub.get (.c4 G G G G (.c G (.c G (.c G .n))))) (kp (.d (.d .n)))
    refine st_lit eVis (e := 92) (l := [(gt (visL (taskL p)) i)]) G G G G kR G G kW (fun b35 => ⟨tt0, ?_⟩)
    refine SR.o 3 G (st_app0 (E := eVis) (m := l) G G G G underlying52 ai92 G G G (.t .h) rO (Src.w (Fr.flat (Fr.ext hl hx_6))) lO G (fun v36 => ⟨tt0, ?_⟩))
    refine SR.o 12 G (st_app (E := eVis) (m := [(gt (visL (taskL p)) i)]) G G G G underlying52 ai92 G G G .h rO (row_src 1 G) lO G (fun v37 => ⟨tt0, ?_⟩))
    exact SR.weakj (key9 (v37, b35)) kR (Sub.get (.c4 G G G G (.c G (.c G (.c G .n))))) (kp (.d (.d .n)))
   refine st_lit eVis (e := 92) (l := [(gt (visL (taskL p)) i)]) G G G G kR G G kW (fun b38 => ⟨tt0, ?_⟩)
   refine SR.o 1 G (st_lit eVis (e := 92) (l := []) G G G G kR G G kW (fun b39 => ⟨tt0, ?_⟩))
   refine SR.o 3 G (st_app0 (E := eVis) (m := l) G G G G underlying52 ai92 G G G .h rO (Src.w (Fr.flat (Fr.ext hl hx_6))) lO G (fun v40 => ⟨tt0, ?_⟩))
   refine SR.o 12 G (st_app (E := eVis) (m := [(gt (visL (taskL p)) i)]) G G G G underlying52 ai92 G G G .h rO (row_src 1 G) lO G (fun v41 => ⟨tt0, ?_⟩))
   exact SR.weakj (key9 (v41, b38)) kR (Sub.get (.c4 G G G G (.c G (.c G (.c G .n))))) (kp (.d (.d .n)))
  exact .exitq idQ (end0 results31 (.d .n) ⟨bv1, bc1, s1, q_2, q_3, (by have hT0 : 0 ≤ tp (F - 1) := tp_0; have hT1 := tp_step (f := F) (n := (visL (taskL p)).length) oO oO oO; have hT2 := tmul_le (T := tp (F - 1)) (i := i) (n := (visL (taskL p)).length) hT0 oO; omega), (fun h_ => nob_all hL q_4 (fun j j0 j1 => q_6 j j0 oO h_)), G, G⟩)
 refine .seq (.region (.m G G G (.g underlying52 G G G (.e G G G G G ?_))))
 refine .go idQ (.condI G bD (fun h42 => ?_) (fun h42 => ?_))
 ·
  refine .seq (.region (.m G G G (.v (ev_nil G G) G (.f fo100_0 0 G G G G ?_))))
  refine .v (ev_lda (cs := (cPB p)) rfl rfl (At.own 0 rfl rfl) ty29) rfl (.m rfl rfl rfl (.cons (st_call00 rfl rfl rfl rfl hbd25 rfl .n (rfit_ p 0 lA lc l _ _ hl hPB hL lO) (by intro v C h; obtain ⟨_, _, _, _, rfl, rfl⟩ := h; rfl) (fun v_q47 q47 => ?_))))
  obtain ⟨vh43, sA44, sn45, sc46, rfl, -⟩ := q47
  refine .m G G G (.x G G G G (.x G G G G (.cons (st_alloc G G G G zf86 (fun b48 => ?_)))))
  refine .cons (st_storea (l' := [.int .i64 vh43, .slice sA44 sn45 sc46, .int .i64 ((fitV p 0 l).time), .int .i64 ((fitV p 0 l).dist), .int .i64 ((fitV p 0 l).wait), .int .i64 ((fitV p 0 l).serv), .int .i64 ((fitV p 0 l).cost)]) G G G ty86 G G G .h G G ?_)
  refine .a G G G (.go idQ (.seq (.region (.m G G G (.e G G G G G ?_)))))
  refine .go idQ (.condI G bE (fun h49 => ?_) (fun h49 => ?_))
  ·
   refine .seq ?_
   have hne : l ≠ [] := fun e_ => by have h_ := congrArg List.length e_; simp only [List.length_nil] at h_; omega
   have hfe : (fitV p 0 l).e = 0 := h49
   have hone := (one_sol hL hne hfe).1
   have hrt : RTF S wf [(RT.mk 0 l lA lc)] := RTF.nil.snoc hl
   refine .region (.m G G G (.v (ev_nil G G) G (.f fo100_0 0 G G G G ?_)))
   refine .v (ev_lda (cs := (cPB p)) G G (At.own 1 G G) ty29) G (.m G G G (.v (ev_any (v := .agg #[.int .i64 0, .slice lA l.length lc]) G kR (fun _ => by kernel_rfl)) G (.cons (st_lit eRT (e := 54) (l := [(RT.mk 0 l lA lc)]) G G G G kR G G kW (fun b50 => ?_)))))
   refine .v (ev_any (v := .agg #[.slice (some ⟨b50, 0, none⟩) 1 1]) rfl kR (fun _ => by kernel_rfl)) rfl (.cons (st_lend0 rfl rfl rfl rfl hbd11 rfl .n (.c .h .n) (fun w_ hw => rscore_ p (some ⟨b50, 0, none⟩) 1 [(RT.mk 0 l lA lc)] _ _ (Fr.lend hw 0 rfl lO) ((hPB).ext hw.lendx) ((hrt).ext hw.lendx) hL lO (fun i_ => by have h_ := RBd_gt (b := 8) (l := [(RT.mk 0 l lA lc)]) (by intro r_ hr_; simp only [List.map_cons, List.map_nil, List.mem_singleton] at hr_; subst hr_; show (l.length : Int) ≤ 8; omega) (by decide) i_; omega) hone) (fun v_q53 C_q53 q53 => ?_)))
   obtain ⟨va51, ca52, p54, p55, p56, p57, rfl, rfl⟩ := q53
   show SP _ _ _ _ _ _ ⟨_, _ :: _, _, _⟩
   have hsc : ((va51, ca52) : Int × Int) = scL p l := by rw [← scR_one]; exact Prod.ext p54 p55
   refine .m G G G (.x G G G G (.x G G G G (.cons (st_alloc G G G G zf41 (fun b58 => ?_)))))
   refine .cons (st_storea (l' := [.int .i64 va51, .int .i64 ca52]) G G G ty41 G G G .h G G ?_)
   refine .a G G G (.go idQ (.seq ?_))
   refine SC.draw mo [] [] .n (fun _ _ _ => sc0) (fun wf_59 hl_59 hx_59 hR_59 => ?_)
   refine SR.z 0 G G (ev_lda (cs := [.int .i64 va51, .int .i64 ca52]) G G (At.d (At.lent hR_59 0 G G)) ty41) ?_
   refine SR.m 1 G G G G ?_
   refine SR.z 2 G G (ev_nil G G) ?_
   refine SR.z 3 G G (ev_fa G fo100_3 G (r := 10) G) ?_
   refine SR.z 4 G G (ev_lda (cs := [.int .i64 bv, .int .i64 bc]) G G (At.d (At.lent hR_59 3 G G)) ty41) ?_
   refine SR.o 5 rfl (st_call00 rfl rfl rfl rfl hbd13 rfl .n (rbetter_ va51 ca52 bv bc _ _) (by intro v C h; obtain ⟨_, _, rfl, rfl⟩ := h; rfl) (fun v_q61 q61 => ⟨tt0, ?_⟩))
   obtain ⟨r60, p62, rfl, -⟩ := q61
   refine SR.fin kR hl_59 hx_59 hR_59 .n ?_
   refine SQ.go idQ ?_
   refine .condI G bV (fun h63 => ?_) (fun h63 => ?_)
   ·
    refine .region (.m G G G (.d 0 ty41 G G G G (.v (ev_nil G G) G ?_)))
    refine .f fo100_3 10 G G G G (.cons (st_storea (l' := [.int .i64 p.dims, .int .i64 p.tn, .slice p.ptA p.time.length p.ptc, .int .i64 p.dn, .slice p.pdA p.dist.length p.pdc, .slice p.pvA p.vehs.length p.pvc, .slice p.pjA p.jobs.length p.pjc, .slice p.psA p.ships.length p.psc, .slice aA ((visL (taskL p)).length) ac, .slice uA ((visL (taskL p)).length) uc, .int .i64 va51, .int .i64 ca52, .int .i64 (s - 1)]) G G G ty41 G G G (.t2 (.t .h)) G G (.go idQ ?_)))
    exact SC.weak (key2 ⟨va51, ca52⟩ ⟨(by rw [hsc]; exact .inr ⟨l, hne, hfe, G⟩), (by rw [hsc]; exact fun q_ => by have h_ := p62.1 h63; rw [hsc] at h_; unfold BetS at q_ h_; omega), (by rw [hsc]; exact fun _ _ => betS_irr)⟩) (Sub.get (.c G (.c G .n))) (kp (.c .h (.c (.t2 (.t .h)) .n)))
   refine .skipgo idQ ?_
   exact SC.weak (key2 ⟨bv, bc⟩ ⟨hG, betS_irr, (fun _ _ q_ => h63 (p62.2 (by rw [hsc]; exact q_)))⟩) (Sub.get (.c G (.c G .n))) (kp (.c (.t2 (.t .h)) (.c (.t2 (.t .h)) .n)))
  refine .skipgo idQ ?_
  exact SC.weak (key2 ⟨bv, bc⟩ ⟨hG, betS_irr, (fun h1_ h2_ => absurd h2_ h49)⟩) (Sub.get (.c G (.c G .n))) (kp (.c (.t .h) (.c (.t .h) .n)))
 refine .skipgo idQ ?_
 exact SC.weak (key2 ⟨bv, bc⟩ ⟨hG, betS_irr, (fun h1_ h2_ => absurd (List.length_eq_zero_iff.1 oO) h1_)⟩) (Sub.get (.c G (.c G .n))) (kp (.d .n))
end Go.Proofs.YtimhdimhdimbjaaGreat.Sx
set_option maxRecDepth 20000
set_option maxHeartbeats 1000000
namespace Go.Proofs.YtimhdimhdimbjaaGreat.Sx.FEI
open Go Go.SX Go.Proofs Go.Proofs.Tryz FA FB FC FD FE FF FG FH FJ FK FL FM FP FQ FU FW FEA FEB FEC FED FEE FEF FEH
theorem hbd29 : hasBody prog 29 = true := by kernel_rfl
theorem hbd30 : hasBody prog 30 = true := by kernel_rfl
end Go.Proofs.YtimhdimhdimbjaaGreat.Sx.FEI
namespace Go.Proofs.YtimhdimhdimbjaaGreat.Sx
open Go Go.SX Go.Proofs Go.Proofs.Tryz FA FB FC FD FE FF FG FH FJ FK FL FM FP FQ FU FW FEA FEB FEC FED FEE FEF FEH FEI
theorem rbest19_ (p : PB) (m : Int) (S : Nat → Prop) (wf : World) (hPB : PBF S wf p) (hL : LawP p) (hs : p.vehs.length ≤ 1 ∧ p.jobs.length + 2 * p.ships.length ≤ 8) (hm : 0 ≤ m ∧ m ≤ 1000000) :
  TR0 prog 12 [.agg (cPB p).toArray, .int .i64 m] [] S wf (fun v_ C_ => ∃ (bv : Int) (bc : Int) (fl : Bool), (GoodS p (bv, bc)) ∧ (¬ BetS (0, 0) (bv, bc)) ∧ (fl = true → ∀ l, l ≠ [] → (fitV p 0 l).e = 0 → ¬ BetS (scL p l) (bv, bc)) ∧ v_ = .tuple #[.agg #[.int .i64 bv, .int .i64 bc], .bool fl] ∧ C_ = []) := by
 have hlv := hPB.2.2.1.1.len
 have hlj := hPB.2.2.2.1.1.len
 have hls := hPB.2.2.2.2.1.len
 have htl := taskL_len hL
 refine TR.mk func12 G ntmps12 G G (fun w_ => ?_)
 refine .seq (.region (.cons (st_boxa G G G G G (fun b1 => (.cons (st_alloc G G G G zf41 (fun b2 => (.a G G G ?_))))))))
 refine .go idQ (.seq (.region (.d 1 ty29 G G G G (.m G G G (.v (ev_any (v := .agg #[.int .i64 p.dims, .int .i64 p.tn, .slice p.ptA p.time.length p.ptc, .int .i64 p.dn, .slice p.pdA p.dist.length p.pdc, .slice p.pvA p.vehs.length p.pvc, .slice p.pjA p.jobs.length p.pjc, .slice p.psA p.ships.length p.psc, .slice none 0 0, .slice none 0 0, .int .i64 0, .int .i64 0, .int .i64 m]) G kR (fun _ => by kernel_rfl)) G ?_)))))
 refine .cons (st_boxa G G G G G (fun b3 => ?_))
 refine .a G G G (.go idQ (.seq (.region (.d 2 ty29 G G G G (.cons (st_call0 G G G G hbd29 G .n (rtasks_ p _ _ hPB hL) (fun v_q5 C_q5 q5 => ?_)))))))
 obtain ⟨u4, rfl, rfl⟩ := q5
 show SP _ _ _ _ _ _ ⟨_, _ :: _, _, _⟩
 refine .a G G G (.go idQ (.seq (.seq (.region (.a G G G (.go idQ (.block ?_)))))))
 refine SC.nilrow eVis 92 ?_
 refine .loop (X := Int × (List Vis) × Value) (fun ⟨i, Xa, u_Xa⟩ => 0 ≤ i ∧ i ≤ ((taskL p).length : Int) ∧ Xa = visL ((taskL p).take i.toNat)) (fun ⟨i, Xa, u_Xa⟩ => [(2, .pointer (some ⟨b1, 0, none⟩)), (4, .pointer (some ⟨b2, 0, none⟩)), (5, .bool false), (6, .pointer (some ⟨b3, 0, none⟩)), (7, v_q5), (8, .int .i64 i)]) (fun ⟨i, Xa, u_Xa⟩ => [rw_ eVis 92 (u_Xa) Xa, rw_ eTK 61 (v_q5) (taskL p), cel b3 [.int .i64 p.dims, .int .i64 p.tn, .slice p.ptA p.time.length p.ptc, .int .i64 p.dn, .slice p.pdA p.dist.length p.pdc, .slice p.pvA p.vehs.length p.pvc, .slice p.pjA p.jobs.length p.pjc, .slice p.psA p.ships.length p.psc, u_Xa, .slice none 0 0, .int .i64 0, .int .i64 0, .int .i64 m] 100, cel b2 [.int .i64 0, .int .i64 0] 41, cel b1 (cPB p) 29]) (fun _ => S) (fun _ => wf) (fun ⟨i, Xa, u_Xa⟩ => (((taskL p).length : Int) - i).toNat) (fun a_ w_ hs_ hw_ => ⟨⟨0, ([] : List Vis), .slice none 0 0⟩, (by (try dsimp only); exact ⟨oO, oO, G⟩), hs_.mono (Sub.get (.c4 G G G G (.c G (.c G .n)))), hw_.keep (.d (.d (.c .h .n)))⟩) (fun ⟨i, Xa, u_Xa⟩ ⟨q_0, q_1, q_2⟩ => ?_)
 try dsimp only
 have hxl : Xa.length ≤ 8 := by rw [q_2]; exact Nat.le_trans (visL_takele _) (by rw [visL_all]; exact hs.2)
 have hvt := visT_len (gt (taskL p) i)
 refine .seq (.seq (.region (.m G G G (.m G G G (.know (row_len 1 G) (fun hv8 => ?_))))))
 obtain ⟨A6, c7, rfl, hv8_1, hv8_2⟩ := hv8
 unfold maxLen at hv8_2
 refine .g underlying58 G G G (.e G G G G G (.go idQ (.condI G bD (fun h9 => ?_) (fun h9 => ?_))))
 ·
  refine .skipgo idQ (.seq (.block ?_))
  refine SC.draw mo [rw_ eVis 92 (u_Xa) Xa, cel b3 [.int .i64 p.dims, .int .i64 p.tn, .slice p.ptA p.time.length p.ptc, .int .i64 p.dn, .slice p.pdA p.dist.length p.pdc, .slice p.pvA p.vehs.length p.pvc, .slice p.pjA p.jobs.length p.pjc, .slice p.psA p.ships.length p.psc, u_Xa, .slice none 0 0, .int .i64 0, .int .i64 0, .int .i64 m] 100] [(13, fun w => At w b3 0 [.int .i64 p.dims, .int .i64 p.tn, .slice p.ptA p.time.length p.ptc, .int .i64 p.dn, .slice p.pdA p.dist.length p.pdc, .slice p.pvA p.vehs.length p.pvc, .slice p.pjA p.jobs.length p.pjc, .slice p.psA p.ships.length p.psc, u_Xa, .slice none 0 0, .int .i64 0, .int .i64 0, .int .i64 m])] (.c .h (.c (.t .h) .n)) (fun w_ _ hw_ => (sc1 (At.whole 1 G w_ hw_) sc0)) (fun wf_10 hl_10 hx_10 hR_10 => ?_)
  refine SR.cutx (X := (Option Addr) × Nat × (Option Addr) × Nat) (fun (yA11, yc12, yA13, yc14) => ([(2, .pointer (some ⟨b1, 0, none⟩)), (4, .pointer (some ⟨b2, 0, none⟩)), (5, .bool false), (6, .pointer (some ⟨b3, 0, none⟩)), (7, .slice A6 ((taskL p).length) c7), (8, .int .i64 i), (18, .bool (decide (i < (((taskL p).length : Nat) : Int))))], [cel b3 [.int .i64 p.dims, .int .i64 p.tn, .slice p.ptA p.time.length p.ptc, .int .i64 p.dn, .slice p.pdA p.dist.length p.pdc, .slice p.pvA p.vehs.length p.pvc, .slice p.pjA p.jobs.length p.pjc, .slice p.psA p.ships.length p.psc, .slice yA11 ((Xa ++ (visT (gt (taskL p) i))).length) yc12, .slice none 0 0, .int .i64 0, .int .i64 0, .int .i64 m] 100, rw_ eVis 92 (.slice yA11 ((Xa ++ (visT (gt (taskL p) i))).length) yc12) (Xa ++ (visT (gt (taskL p) i))), rw_ eVis 92 (.slice yA13 ((visT (gt (taskL p) i)).length) yc14) (visT (gt (taskL p) i)), rw_ eTK 61 (.slice A6 ((taskL p).length) c7) (taskL p), cel b2 [.int .i64 0, .int .i64 0] 41, cel b1 (cPB p) 29])) S wf (fun ⟨yA11, yc12, yA13, yc14⟩ => ?_) (fun key15 => ?_)
  ·
   try dsimp only
   refine SQ.go idQ ?_
   refine .region (.m G G G (.p ((i + 1)) oO oO G G G G G (.a G G G ?_)))
   exact SP.nil (SQ.roundb (X := Int × (List Vis) × Value) (x := (i, Xa, u_Xa)) ⟨(i + 1), (Xa ++ (visT (gt (taskL p) i))), .slice yA11 ((Xa ++ (visT (gt (taskL p) i))).length) yc12⟩ (by (try dsimp only); exact ⟨oO, oO, (by rw [visL_take oO oO, ← q_2])⟩) dO (Sub.get (.c4 G G G G (.c G (.c G .n)))) (kp (.c (.t .h) (.c (.t2 .h) (.c .h (.c (.t .h) (.c (.t .h) .n)))))))
  refine SR.join (X := Value × (Option Addr) × Nat) (fun (zv16, zA17, zc18) => ([(2, .pointer (some ⟨b1, 0, none⟩)), (4, .pointer (some ⟨b2, 0, none⟩)), (5, .bool false), (6, .pointer (some ⟨b3, 0, none⟩)), (7, .slice A6 ((taskL p).length) c7), (8, .int .i64 i), (18, .bool (decide (i < (((taskL p).length : Nat) : Int)))), (31, zv16), (33, .pointer (some ⟨b3, 8, none⟩))], [rw_ eVis 92 (zv16) (Xa ++ (visT (gt (taskL p) i))), rw_ eVis 92 (.slice zA17 ((visT (gt (taskL p) i)).length) zc18) (visT (gt (taskL p) i)), cel b3 [.int .i64 p.dims, .int .i64 p.tn, .slice p.ptA p.time.length p.ptc, .int .i64 p.dn, .slice p.pdA p.dist.length p.pdc, .slice p.pvA p.vehs.length p.pvc, .slice p.pjA p.jobs.length p.pjc, .slice p.psA p.ships.length p.psc, u_Xa, .slice none 0 0, .int .i64 0, .int .i64 0, .int .i64 m] 100])) 1 #[true, true, true, true, true, true, true, true, true, true, true, true, true, false] (fun ⟨zv16, zA17, zc18⟩ => ?_) (fun key19 => ?_)
  ·
   show SR _ _ _ _ _ _ _ _ _ ⟨[(2, .pointer (some ⟨b1, 0, none⟩)), (4, .pointer (some ⟨b2, 0, none⟩)), (5, .bool false), (6, .pointer (some ⟨b3, 0, none⟩)), (7, .slice A6 ((taskL p).length) c7), (8, .int .i64 i), (18, .bool (decide (i < (((taskL p).length : Nat) : Int)))), (31, zv16), (33, .pointer (some ⟨b3, 8, none⟩))], [rw_ eVis 92 (zv16) (Xa ++ (visT (gt (taskL p) i))), rw_ eVis 92 (.slice zA17 ((visT (gt (taskL p) i)).length) zc18) (visT (gt (taskL p) i)), cel b3 [.int .i64 p.dims, .int .i64 p.tn, .slice p.ptA p.time.length p.ptc, .int .i64 p.dn, .slice p.pdA p.dist.length p.pdc, .slice p.pvA p.vehs.length p.pvc, .slice p.pjA p.jobs.length p.pjc, .slice p.psA p.ships.length p.psc, u_Xa, .slice none 0 0, .int .i64 0, .int .i64 0, .int .i64 m] 100], _, _⟩
   refine .know (row_len 0 G) (fun hv22 => ?_)
   obtain ⟨A20, c21, rfl, hv22_1, hv22_2⟩ := hv22
   unfold maxLen at hv22_2
   refine SR.o 13 G (st_store1 G G G ty52 G G G (.t2 .h) (.t4 (.t4 .h)) ⟨ttc (fun w_ hw_ => (tc2 kR tc0)), ?_⟩)
   refine SR.fin kR hl_10 hx_10 hR_10 (.c (.c (.c .n))) ?_
   exact SQ.weak (key15 (A20, c21, zA17, zc18)) (Sub.get (.c4 G G G G (.c G (.c G (.c G .n))))) (kp (.d (.d (.d .n))))
  refine SR.m 0 G G G G ?_
  refine SR.m 1 G G G G ?_
  refine SR.z 2 G G (ev_nil G G) ?_
  refine SR.z 3 G G (ev_fa G fo100_1 G (r := 8) G) ?_
  refine SR.z 4 G G (ev_ld1 G ty52 G (At.elem1 (v := u_Xa) (At.ofcs 0 G kR) 8 G)) ?_
  refine SR.m 5 G G G G ?_
  refine SR.m 6 G G G G ?_
  refine SR.z 7 G G (ev_ix G underlying58 ty61 G G oO oO (fun _ _ => Fr.adr (i := i) (Fr.lent (S := S) hR_10 0 G (by first | ((try simp only [List.length_nil, List.length_cons, List.length_append, List.length_set, List.length_singleton, List.length_take, List.length_drop, List.length_reverse, addL_len]) <;> omega) | omega)) oO oO)) ?_
  refine SR.z 8 G G (ev_lda G G (At.d (Fr.el (i := i) (Fr.lent (S := S) hR_10 0 G (by first | ((try simp only [List.length_nil, List.length_cons, List.length_append, List.length_set, List.length_singleton, List.length_take, List.length_drop, List.length_reverse, addL_len]) <;> omega) | omega)) oO oO)) ty61) ?_
  refine SR.o 9 rfl (st_call0 rfl rfl rfl rfl hbd30 rfl .n (rvis_ (gt (taskL p) i) _ _) (fun v_q24 C_q24 q24 => ⟨ttc (fun w_ hw_ => (tc1 (by obtain ⟨_, rfl, rfl⟩ := q24; exact At.whole 2 rfl w_ hw_) tc0)), ?_⟩))
  obtain ⟨u23, rfl, rfl⟩ := q24
  show SR _ _ _ _ _ _ _ _ _ ⟨_, _ :: _, _, _⟩
  refine .know (row_len 0 G) (fun hv27 => ?_)
  obtain ⟨A25, c26, rfl, hv27_1, hv27_2⟩ := hv27
  unfold maxLen at hv27_2
  refine SR.o 10 G (st_app (E := eVis) (m := (visT (gt (taskL p) i))) G G G G underlying52 ai92 G G G (.t .h) rO (row_src 0 G) (by first | ((try simp only [List.length_nil, List.length_cons, List.length_append, List.length_set, List.length_singleton, List.length_take, List.length_drop, List.length_reverse, addL_len]) <;> omega) | omega) G (fun v28 => ⟨ttw 2 G, ?_⟩))
  refine SR.z 11 G G (ev_nil G G) ?_
  refine SR.z 12 G G (ev_fa G fo100_1 G (r := 8) G) ?_
  exact SR.weakj (key19 (v28, A25, c26)) kR (Sub.get (.c4 G G G G (.c4 G G G G (.c G .n)))) (kp (.d (.c .h .n)))
 refine .exit idQ ?_
 refine .seq (.know (row_len 0 G) (fun hv31 => ?_))
 obtain ⟨A29, c30, rfl, hv31_1, hv31_2⟩ := hv31
 unfold maxLen at hv31_2
 obtain rfl : Xa = (visL (taskL p)) := by rw [q_2, List.take_of_length_le oO]
 have hx8 : (visL (taskL p)).length ≤ 8 := by rw [visL_all]; exact hs.2
 have htp := tp_le (f := ((visL (taskL p)).length : Int)) oO
 refine .region (.m G G G (.m G G G (.v (ev_nil G G) G ?_)))
 refine .f fo100_1 8 G G G G (.l ty52 2 G G G G G (.g underlying52 G G G (.cons (st_mkbools (n := (visL (taskL p)).length) G G G G underlying98 ai4 G G G oO G (fun b32 => ?_)))))
 refine .v (ev_nil G G) G (.f fo100_2 9 G G G G (.cons (st_store1 G G G ty98 G G G (.t2 (.t .h)) (.t4 (.t4 (.t .h))) (.go idQ (.seq (.seq (.region ?_)))))))
 refine .f fo29_3 5 G G G G (.l ty25 5 G G G G G (.g underlying25 G G G (.e G G G G G ?_)))
 refine .go idQ (.condI G bE (fun h33 => ?_) (fun h33 => ?_))
 ·
  refine .region (.m G G G (.cons (st_lend0 G G G G hbd31 G (.d .n) (.c .h .n) (fun w_ hw => rgrow19_ 9 p b3 A29 c30 (some ⟨b32, 0, none⟩) ((visL (taskL p)).length) (List.replicate ((visL (taskL p)).length) false) none 0 ([] : List Vis) ((visL (taskL p)).length : Int) 0 0 m _ _ (Fr.lend hw 0 G (by first | ((try simp only [List.length_nil, List.length_cons, List.length_append, List.length_set, List.length_singleton, List.length_take, List.length_drop, List.length_reverse, addL_len]) <;> omega) | omega)) (Fr.nil _ _ _ _) ((hPB).ext hw.lendx) hL hx8 oO (UOk.start G) oO (by show _ = _ - ((0 : Nat) : Int); omega) oO oO (.inl G)) (fun v_q37 C_q37 q37 => ?_))))
  obtain ⟨bv234, bc235, s236, p38, p39, p40, p41, rfl, rfl⟩ := q37
  show SP _ _ _ _ _ _ ⟨_, _ :: _ :: _ :: _, _, _⟩
  refine .go idQ (.seq ?_)
  refine SC.draw mo [cel b2 [.int .i64 0, .int .i64 0] 41] [] (.c (.t4 .h) .n) (fun _ _ _ => sc0) (fun wf_42 hl_42 hx_42 hR_42 => ?_)
  refine SR.m 0 G G G G ?_
  refine SR.z 1 G G (ev_nil G G) ?_
  refine SR.z 2 G G (ev_fa G fo100_3 G (r := 10) G) ?_
  refine SR.z 3 G G (ev_lda (cs := [.int .i64 bv234, .int .i64 bc235]) G G (At.d (At.lent hR_42 0 G G)) ty41) ?_
  refine SR.m 4 G G G G ?_
  refine SR.z 5 G G (ev_nil G G) ?_
  refine SR.z 6 G G (ev_fa G fo100_4 G (r := 12) G) ?_
  refine SR.z 7 G G (ev_ld1 G ty3 G (At.d (At.lent hR_42 0 G G))) ?_
  refine SR.z 8 G G (ev_cmp G G G G) ?_
  refine SR.o 9 G (st_storea (l' := [.int .i64 bv234, .int .i64 bc235]) G G G ty41 G G G .h G G ⟨tt0, ?_⟩)
  refine SR.z 10 G G (ev_as G G) ?_
  refine SR.fin kR hl_42 hx_42 hR_42 (.c .n) ?_
  refine SQ.go idQ ?_
  exact .ret idQ (retv2 results12 (.c 0 G G ty41) (.t G) .n ⟨bv234, bc235, decide (s236 > 0), p38, p39, (fun h_ l_ hl_ hf_ => p41 (by have h2_ := of_decide_eq_true h_; omega) l_ hl_ hf_), G, G⟩)
 refine .skipgo idQ (.seq ?_)
 refine SC.draw mo [cel b2 [.int .i64 0, .int .i64 0] 41] [] (.c (.t4 .h) .n) (fun _ _ _ => sc0) (fun wf_43 hl_43 hx_43 hR_43 => ?_)
 refine SR.m 0 G G G G ?_
 refine SR.z 1 G G (ev_nil G G) ?_
 refine SR.z 2 G G (ev_fa G fo100_3 G (r := 10) G) ?_
 refine SR.z 3 G G (ev_lda (cs := [.int .i64 0, .int .i64 0]) G G (At.d (At.lent hR_43 0 G G)) ty41) ?_
 refine SR.m 4 G G G G ?_
 refine SR.z 5 G G (ev_nil G G) ?_
 refine SR.z 6 G G (ev_fa G fo100_4 G (r := 12) G) ?_
 refine SR.z 7 G G (ev_ld1 G ty3 G (At.d (At.lent hR_43 0 G G))) ?_
 refine SR.z 8 G G (ev_cmp G G G G) ?_
 refine SR.o 9 G (st_storea (l' := [.int .i64 0, .int .i64 0]) G G G ty41 G G G .h G G ⟨tt0, ?_⟩)
 refine SR.z 10 G G (ev_as G G) ?_
 refine SR.fin kR hl_43 hx_43 hR_43 (.c .n) ?_
 refine SQ.go idQ ?_
 exact .ret idQ (retv2 results12 (.c 0 G G ty41) (.t G) .n ⟨0, 0, decide (m > 0), (.inl G), betS_irr, (fun _ l_ hl_ hf_ => absurd (fit_veh hL hf_) oO), G, G⟩)
end Go.Proofs.YtimhdimhdimbjaaGreat.Sx
set_option maxRecDepth 20000
set_option maxHeartbeats 1000000
namespace Go.Proofs.YtimhdimhdimbjaaGreat.Sx.FEG
open Go Go.SX Go.Proofs Go.Proofs.Tryz FA FB FC FD FE FF FG FH FJ FK FL FM FP FQ FU FW FEA FEB FEC FED FEE FEF FEH FEI
theorem hbd16 : hasBody prog 16 = true := by kernel_rfl
theorem hbd8 : hasBody prog 8 = true := by kernel_rfl
theorem hbd5 : hasBody prog 5 = true := by kernel_rfl
theorem hbd6 : hasBody prog 6 = true := by kernel_rfl
theorem hbd7 : hasBody prog 7 = true := by kernel_rfl
theorem hbd9 : hasBody prog 9 = true := by kernel_rfl
theorem hbd10 : hasBody prog 10 = true := by kernel_rfl
theorem hbd12 : hasBody prog 12 = true := by kernel_rfl
theorem eqIn41 (d : Nat) (x0 y0 : Int) (x1 y1 : Int) (w : World) : (Op.equalIn (d + 3) 41 (.agg #[(.int .i64 x0), (.int .i64 x1)]) (.agg #[(.int .i64 y0), (.int .i64 y1)])).run prog w = .ok ((x0 == y0) && (x1 == y1)) w := by
 rw [run_equalIn_struct w (d + 2) 41 _ _ kR kR]
 have hf : (prog.fieldsOf 41).toList = [{ name := "Value", type := 3, offset := 0, embedded := false, tag := "", pkgPath := "", byteOffset := 0 }, { name := "Cost", type := 3, offset := 1, embedded := false, tag := "", pkgPath := "", byteOffset := 8 }] := by kernel_rfl
 rw [hf]
 have h3 : ∀ (x y : Int) (w : World), (Op.equalIn (d + 2) 3 (.int .i64 x) (.int .i64 y)).run prog w = .ok (x == y) w := fun x y w => by
  simp [Op.equalIn, run_underlying underlying3]
 have p0 : ∀ (x0 : Int) (x1 : Int) (w : World), (part 3 #[(.int .i64 x0), (.int .i64 x1)] 0).run prog w = .ok (.int .i64 x0) w := fun _ _ _ => by kernel_rfl
 have p1 : ∀ (x0 : Int) (x1 : Int) (w : World), (part 3 #[(.int .i64 x0), (.int .i64 x1)] 1).run prog w = .ok (.int .i64 x1) w := fun _ _ _ => by kernel_rfl
 simp only [Op.eqFields, Sem.run_bind, h3, p0, p1, Result.andThen_ok, Sem.run_ite, ne_eq]
 cases g0 : (x0 == y0) <;> cases g1 : (x1 == y1) <;> simp [g0, g1]
theorem ev41_eql (x y : Operand) (x0 y0 : Int) (x1 y1 : Int) (w : World) : (do eqGuard .eql 41 x y (.agg #[(.int .i64 x0), (.int .i64 x1)]) (.agg #[(.int .i64 y0), (.int .i64 y1)]); binOp .eql 41 (.agg #[(.int .i64 x0), (.int .i64 x1)]) (.agg #[(.int .i64 y0), (.int .i64 y1)]) : Sem Value).run prog w = .ok (.bool (((x0 == y0) && (x1 == y1)))) w := by
 have h1 : (Op.equal 41 (.agg #[(.int .i64 x0), (.int .i64 x1)]) (.agg #[(.int .i64 y0), (.int .i64 y1)])).run prog w = .ok ((x0 == y0) && (x1 == y1)) w := eqIn41 9997 x0 y0 x1 y1 w
 have h2 : (eqGuard .eql 41 x y (.agg #[(.int .i64 x0), (.int .i64 x1)]) (.agg #[(.int .i64 y0), (.int .i64 y1)])).run prog w = .ok () w := by kernel_rfl
 simp only [Sem.run_bind, h2, Result.andThen_ok, binOp, h1]
 rfl
end Go.Proofs.YtimhdimhdimbjaaGreat.Sx.FEG
namespace Go.Proofs.YtimhdimhdimbjaaGreat.Sx
open Go Go.SX Go.Proofs Go.Proofs.Tryz FA FB FC FD FE FF FG FH FJ FK FL FM FP FQ FU FW FEA FEB FEC FED FEE FEF FEH FEI FEG
theorem awake19_ (S : Nat → Prop) (wf : World) :
  TR0 prog 5 [] [] S wf (fun v_ C_ => v_ = .bool true ∧ C_ = []) := by
 refine TR.mk func5 G ntmps5 G G (fun w_ => ?_)
 refine .seq (.region (.a G G G (.go idQ (.seq (.region (.cons (st_call G G G G hbd16 G .n (line_ _ _) (fun v_q2 C_q2 S_q2 wf_q2 q2 hx_q2 => ?_))))))))
 obtain ⟨⟨q1, p3, p4, rfl⟩, rfl⟩ := q2
 show SP _ _ _ _ _ _ ⟨_, [], _, _⟩
 have hLq : LawP q1 := law_era (p := lineP) p4 line_law
 refine .cons (st_call0 G G G G hbd8 G .n (xbest_ q1 _ _ p3 hLq (line_small p4)) (fun v_q7 C_q7 q7 => ?_))
 obtain ⟨rv5, R6, p8, rfl, rfl⟩ := q7
 show SP _ _ _ _ _ _ ⟨_, _ :: _ :: _, _, _⟩
 refine .know (row_len 0 G) (fun hv11 => ?_)
 obtain ⟨A9, c10, rfl, hv11_1, hv11_2⟩ := hv11
 unfold maxLen at hv11_2
 have hB := p8
 obtain ⟨hR1, hR2⟩ := line_best p4 hB
 refine .m G G G (.x G G G G (.x G G G G (.cons (st_alloc G G G G zf34 (fun b12 => ?_)))))
 refine .cons (st_storea (l' := [.slice A9 R6.length c10]) G G G ty34 G G G .h G G ?_)
 refine .a G G G (.go idQ (.seq (.region (.m G G G (.m G G G ?_)))))
 refine .cons (.on G G G (Ev.step (ev_fa G fo34_0 G (r := 0) G) G G G ?_))
 refine .cons (.on G G G (Ev.step (ev_ld1 G ty32 G (At.own1 0 G G)) G G G ?_))
 refine .cons (.on G G G (Ev.step (ev_len G underlying32 G) G G G ?_))
 refine .cons (.on G G G (Ev.step (ev_cmp G G G G) G G G ?_))
 refine .v (ev_pickt G G G G) G (.m G G G (.w (fun _ => ev_fa G fo34_0 G (r := 0) G) G (.w (fun hb => ev_ld1 G ty32 (lkg G hb) (At.own1 0 G G)) G ?_)))
 refine .w (fun hb => have hp := bT bE hb; ev_ix G underlying32 ty54 (lkg G hb) G (by have _h := hp; omega) (by have _h := hp; omega) (row_adr (i := 0) 1 G (by have _h := hp; omega) (by have _h := hp; omega))) G (.w (fun hb => ev_fa G fo54_1 (lkg G hb) (r := ao A9 + ((0 : Int)).toNat * 2 + 1) G) G (.w (fun hb => have hp := bT bE hb; ev_ld1 G ty52 (lkg G hb) (At.elem1 (row_el (E := eRT) (l := R6) (i := 0) 1 G (by have _h := hp; omega) (by have _h := hp; omega)) 1 G)) G (.w (fun hb => ev_len G underlying52 (lkg G hb)) G ?_)))
 refine .w (fun hb => ev_cmp G (lkg G hb) G G) G (.v (ev_and G G G G) G (.a G G G (.go idQ ?_)))
 refine SC.thaw hx_q2 ?_
 exact .ret idQ (ret1 results5 G .n ⟨(by rw [hR1, hR2]; rfl), G⟩)
theorem exactBest_ (p : PB) (S : Nat → Prop) (wf : World) (hPB : PBF S wf p) (hU : SkU p) :
  TR0 prog 3 [.agg (cPB p).toArray] [] S wf (fun v_ C_ => v_ = .bool true ∧ C_ = []) := by
 have hlv := hPB.2.2.1.1.len
 have hlj := hPB.2.2.2.1.1.len
 have hls := hPB.2.2.2.2.1.len
 refine TR.mk func3 G ntmps3 G G (fun w_ => ?_)
 refine .seq (.region (.cons (st_boxa G G G G G (fun b1 => (.a G G G (.go idQ (.seq (.seq (.region ?_)))))))))
 refine .cons (st_callk G G G G hbd5 G .n (awake19_ _ _) ?_)
 refine .v (ev_not G G) G (.go idQ (.cond_f G (.skipgo idQ (.seq (.seq (.region ?_))))))
 refine .v (ev_lda rfl rfl (At.whole 0 rfl) ty29) rfl (.cons (st_call00 rfl rfl rfl rfl hbd6 rfl .n (lawful_ p _ _ hPB hU) (by intro v C h; obtain ⟨_, _, rfl, rfl⟩ := h; rfl) (fun v_q3 q3 => ?_)))
 obtain ⟨b2, p4, rfl, -⟩ := q3
 refine .v (ev_not G G) G (.m G G G (.w (fun _ => ev_lda G G (At.whole 0 G) ty29) G (.cons (st_gcallk G G G G G G hbd7 (fun hb => (lkA1 (lkg G hb) lkA0)) .n (fun hb => have hp := bF (bN bV) hb; rsmall19_ p _ _ hPB) ?_))))
 refine .w (fun hb => ev_not G (lkg G hb)) G (.r G G G G G (.m G G G (.w (fun _ => ev_fa G fo29_4 G (r := 6) G) G ?_)))
 refine .w (fun hb => ev_ld1 G ty26 (lkg G hb) (At.own1 0 G G)) G (.w (fun hb => ev_len G underlying26 (lkg G hb)) G (.w (fun _ => ev_fa G fo29_5 G (r := 7) G) G (.w (fun hb => ev_ld1 G ty27 (lkg G hb) (At.own1 0 G G)) G ?_)))
 refine .w (fun hb => ev_len G underlying27 (lkg G hb)) G (.w (fun hb => have hp := bF (bO (bN bV) (bN (bA bD bD))) hb; ev_mul G G (lkg G hb) (r := (2 * (p.ships.length : Int))) G (by have _h := hp; omega) (by have _h := hp; omega)) G (.w (fun hb => have hp := bF (bO (bN bV) (bN (bA bD bD))) hb; ev_add G (lkg G hb) (lkg G hb) (r := ((p.jobs.length : Int) + (2 * (p.ships.length : Int)))) G (by have _h := hp; omega) (by have _h := hp; omega)) G (.w (fun hb => ev_cmp G (lkg G hb) G G) G ?_)))
 refine .r G G G G G (.go idQ (.condI G (bO (bO (bN bV) (bN (bA bD bD))) bD) (fun h5 => ?_) (fun h5 => ?_)))
 ·
  refine .seq (.region (.a G G G (.go idQ (.ret idQ (ret1 results3 G .n ⟨G, G⟩)))))
 refine .skipgo idQ (.seq ?_)
 have hlt : b2 = true := Classical.byContradiction fun q_ => h5 (by repeat (first | exact q_ | refine .inl ?_))
 have hLp : LawP p := p4 hlt
 have hsz : p.vehs.length ≤ 1 ∧ p.jobs.length + 2 * p.ships.length ≤ 6 := by have h_ := h5; simp only [not_or, Classical.not_not] at h_; omega
 refine .region (.d 0 ty29 G G G G (.cons (st_call G G G G hbd9 G .n (copied2_ p _ _ hPB hLp) (fun v_q7 C_q7 S_q7 wf_q7 q7 hx_q7 => ?_))))
 obtain ⟨q6, p8, p9, rfl, rfl⟩ := q7
 show SP _ _ _ _ _ _ ⟨_, [rw_ eVH 72 (.slice q6.pvA q6.vehs.length q6.pvc) q6.vehs, rw_ eJB 80 (.slice q6.pjA q6.jobs.length q6.pjc) q6.jobs, rw_ eSH 83 (.slice q6.psA q6.ships.length q6.psc) q6.ships, cel b1 (cPB p) 29], _, _⟩
 have hLq_q6 : LawP q6 := law_era p9 hLp
 have hel_q6 := era_len p9
 refine SP.freeze (R := [rw_ eVH 72 (.slice q6.pvA q6.vehs.length q6.pvc) q6.vehs, rw_ eJB 80 (.slice q6.pjA q6.jobs.length q6.pjc) q6.jobs, rw_ eSH 83 (.slice q6.psA q6.ships.length q6.psc) q6.ships]) (.d (.c .h .n)) (fun Sz10 wfz10 hxz10 hhz10 hsz10 => ?_)
 have hfz10_0 := Fr.of_row (hhz10 _ (by simp)) (fun b hb => hsz10 b (feet_of 0 rfl hb)) lO
 have hfz10_1 := Fr.of_row (hhz10 _ (by simp)) (fun b hb => hsz10 b (feet_of 1 rfl hb)) lO
 have hfz10_2 := Fr.of_row (hhz10 _ (by simp)) (fun b hb => hsz10 b (feet_of 2 rfl hb)) lO
 have hP_q6 := NPF.pbf ((p8).ext hxz10) hfz10_0 hfz10_1 hfz10_2
 refine .cons (st_call0 G G G G hbd8 G .n (xbest_ q6 _ _ hP_q6 hLq_q6 oO) (fun v_q13 C_q13 q13 => ?_))
 obtain ⟨rv11, R12, p14, rfl, rfl⟩ := q13
 show SP _ _ _ _ _ _ ⟨_, _ :: _ :: _, _, _⟩
 refine .know (row_len 0 G) (fun hv17 => ?_)
 obtain ⟨A15, c16, rfl, hv17_1, hv17_2⟩ := hv17
 unfold maxLen at hv17_2
 have hB1 : BestR p (R12.map rc) := best_era p9 p14
 have hB1r := best_right hLp hB1
 have hB1l : R12.length ≤ 15 := by have h_ := hB1r.2.2.1; rw [List.length_map] at h_; omega
 have hB1v : ∀ i_ : Int, (gt R12 i_).vis.length ≤ 50 := fun i_ => by have h_ := RBd_gt (b := 24) (l := R12) (fun r_ hr_ => by have := hB1r.2.2.2 r_ hr_; omega) (by decide) i_; omega
 refine .m G G G (.x G G G G (.x G G G G (.cons (st_alloc G G G G zf34 (fun b18 => ?_)))))
 refine .cons (st_storea (l' := [.slice A15 R12.length c16]) G G G ty34 G G G .h G G ?_)
 refine .a G G G (.go idQ (.seq (.region (.d 3 ty29 G G G G (.d 0 ty34 G G G G ?_)))))
 refine .cons (st_lendk G G G G hbd10 G .n (.c (.t .h) (.c (.t .h) .n)) (fun w_ hw => rcheck15_ p A15 c16 R12 _ _ (Fr.lend hw 0 G lO) ((((((hPB).ext hx_q7)).ext hxz10)).ext hw.lendx) (RTF.lend hw 1 G) hLp hB1l lO hB1v hB1r.1 hB1r.2.1) ?_)
 refine .m G G G (.x G G G G (.x G G G G (.a G G G ?_)))
 refine .a G G G (.go idQ (.seq (.seq (.region (.m G G G (.v (ev_not G G) G ?_))))))
 refine .m G G G (.cons (.on G G G (Ev.step (ev_mv G G) G G G (.cons (.on G G G (Ev.step (ev_cmp (r := false) G G G G) G G G (.v (ev_pickf G G G G) G ?_)))))))
 refine .go idQ (.cond_f G (.skipgo idQ (.seq (.region (.d 3 ty29 G G G G ?_)))))
 refine .d 0 ty34 G G G G (.cons (st_lend0 G G G G hbd11 G .n (.c (.t .h) (.c (.t .h) .n)) (fun w_ hw => rscore_ p A15 c16 R12 _ _ (Fr.lend hw 0 G lO) ((((((hPB).ext hx_q7)).ext hxz10)).ext hw.lendx) (RTF.lend hw 1 G) hLp hB1l hB1v hB1r.1) (fun v_q21 C_q21 q21 => ?_)))
 obtain ⟨va19, ca20, p22, p23, p24, p25, rfl, rfl⟩ := q21
 show SP _ _ _ _ _ _ ⟨_, _ :: _ :: _, _, _⟩
 refine .m G G G (.x G G G G (.x G G G G (.cons (st_alloc G G G G zf41 (fun b26 => ?_)))))
 refine .cons (st_storea (l' := [.int .i64 va19, .int .i64 ca20]) G G G ty41 G G G .h G G ?_)
 refine .a rfl rfl rfl (.go idQ (.seq (.region (.v (ev_lda rfl rfl (At.whole 4 rfl) ty29) rfl (.cons (st_call00 rfl rfl rfl rfl hbd12 rfl .n (rbest19_ p 3000 _ _ ((((hPB).ext hx_q7)).ext hxz10) hLp oO oO) (by intro v C h; obtain ⟨_, _, _, _, _, _, rfl, rfl⟩ := h; rfl) (fun v_q30 q30 => ?_)))))))
 obtain ⟨bv27, bc28, fl29, p31, p32, p33, rfl, -⟩ := q30
 refine .m G G G (.x G G G G (.x G G G G (.cons (st_alloc G G G G zf41 (fun b34 => ?_)))))
 refine .cons (st_storea (l' := [.int .i64 bv27, .int .i64 bc28]) G G G ty41 G G G .h G G ?_)
 refine .a G G G (.go idQ (.seq (.seq (.region (.d 0 ty41 G G G G (.d 1 ty41 G G G G ?_))))))
 refine .cons (st_call00 rfl rfl rfl rfl hbd13 rfl .n (rbetter_ bv27 bc28 va19 ca20 _ _) (by intro v C h; obtain ⟨_, _, rfl, rfl⟩ := h; rfl) (fun v_q36 q36 => ?_))
 obtain ⟨r35, p37, rfl, -⟩ := q36
 have hsx : ((va19, ca20) : Int × Int) = scR p (R12.map rc) := Prod.ext p22 p23
 have hbr38 : r35 = false := not_bet p37 (by rw [hsx]; exact good_not p31 hB1)
 subst hbr38
 refine .go idQ (.cond_f G (.skipgo idQ (.seq (.region (.m G G G ?_)))))
 refine .v (ev_not G G) G (.m G G G (.w (fun _ => ev_lda G G (At.whole 1 G) ty41) G (.w (fun _ => ev_lda G G (At.whole 0 G) ty41) G ?_)))
 refine .w (fun hb => ev_bin G (lkg G hb) (lkg G hb) (r := .bool ((va19 == bv27) && (ca20 == bc28))) (ev41_eql _ _ _ _ _ _)) G (.r G G G G G (.a G G G (.go idQ ?_)))
 refine SC.thaw hxz10 ?_
 refine SC.thaw hx_q7 ?_
 exact .ret idQ (ret1 results3 rfl .n ⟨(congrArg Value.bool (by cases hfl_ : fl29 with | false => rfl | true => (have h_ := full_eq hLp p31 p32 hB1 (p33 hfl_); rw [← hsx] at h_; injection h_ with h1_ h2_; subst h1_ h2_; simp))), rfl⟩)
end Go.Proofs.YtimhdimhdimbjaaGreat.Sx
namespace Go.SX
open Go Go.RowKit
def TellsW (P : Program) (w : World) (e : TypeId) {α : Type} (E : Enc α) (good : α → Prop) : Prop :=
  ∀ {H : Type} (enc : TypeId × Value → H) (base : Nat) (spare : Nat → Bool) (held : Bool) (n : Nat) (cs : List Value) (y : DataW H × List MemPlace), DataW.trod enc P w base spare held n e cs = some y → (∀ b ∈ y.1.weights P e, b ≤ reachBytes) → ∃ a, cs = E.enc a ∧ good a
section
variable {H : Type} {enc : TypeId × Value → H} {P : Program} {w : World} {base : Nat} {spare : Nat → Bool} {held : Bool}
theorem weightsAll_mem {e : TypeId} {d : DataW H} {b : Nat} : ∀ {l : List (DataW H)}, d ∈ l → b ∈ d.weights P e → b ∈ DataW.weightsAll P e l
  | [], h, _ => by cases h
  | x :: r, h, hb => by
    unfold DataW.weightsAll
    rcases List.mem_cons.1 h with rfl | h
    · exact List.mem_append_left _ hb
    · exact List.mem_append_right _ (weightsAll_mem h hb)
theorem rows_w {α : Type} [Inhabited α] {E : Enc α} {good : α → Prop} {t e : TypeId} {fuel : Nat} {cs : List Value} {x : DataW H × List MemPlace} (ht : P.underlying t = some (.slice e)) (he : P.cellsOf e = E.sz) (hT : TellsW P w e E good) (hbo : 1 ≤ P.bytesOf e)
    (h : DataW.trod enc P w base spare held fuel t cs = some x) (hw : ∀ b ∈ x.1.weights P t, b ≤ reachBytes) :
    ∃ A l cap, cs = [.slice A l.length cap] ∧ Fr E (fun b => b < w.heap.size) w A l ∧ ∀ y ∈ l, good y := by
  rcases DataW.trod_slice ht h with h0 | ⟨a, len, cap, elems, rest, n, hx1, rfl, rfl, hb, hl, hm, hlen, hel, hsp, hns⟩
  · exact ⟨none, [], 0, h0.1, Fr.nil _ _ _ _, by simp⟩
  have hw2 : ∀ b ∈ DataW.weights P t (.slice (elems.map (·.1)) (rest.map (·.1))), b ≤ reachBytes := hw
  have each : ∀ i, i < len → ∃ x : α, good x ∧ w.cells? base (a.add (i * E.sz)) E.sz = some (E.enc x) := by
    intro i hi
    have h1 := hel i hi
    have h2 : elems[i]? = some (elems[i]'(by omega)) := List.getElem?_eq_getElem (by omega)
    rw [h2, he, Option.bind_eq_some_iff] at h1
    obtain ⟨cs', h3, h4⟩ := h1
    obtain ⟨x, rfl, hg⟩ := hT enc base spare held n cs' _ h4 (fun b hb => hw2 b (by
      unfold DataW.weights
      rw [ht]
      exact List.mem_cons_of_mem _ (List.mem_append_left _ (weightsAll_mem (List.mem_map_of_mem (List.getElem_mem (by omega))) hb))))
    exact ⟨x, hg, h3⟩
  let f : Nat → α := fun i => if hi : i < len then (each i hi).choose else default
  have hf : ∀ i (hi : i < len), f i = (each i hi).choose := fun i hi => dif_pos hi
  have hbig : len ≤ 140737488355328 := by
    have h1 := hw2 ((elems.map (·.1)).length + (rest.map (·.1)).length |>.mul (P.bytesOf e)) (by unfold DataW.weights; rw [ht]; exact List.mem_cons_self ..)
    have h11 : elems.length * 1 ≤ ((elems.map (·.1)).length + (rest.map (·.1)).length) * P.bytesOf e := Nat.mul_le_mul (by simp) hbo
    have h12 : reachBytes < 2 ^ 47 := reachBytes_lt
    have h13 : ((elems.map (·.1)).length + (rest.map (·.1)).length) * P.bytesOf e ≤ reachBytes := h1
    omega
  have hgood : ∀ x ∈ (List.range len).map f, good x := by
    intro x hx
    obtain ⟨i, hi, rfl⟩ := List.mem_map.1 hx
    have hlt : i < len := by simpa using hi
    rw [hf i hlt]
    exact (each i hlt).choose_spec.1
  refine ⟨some a, (List.range len).map f, cap, by simp, ⟨by simpa using hbig, ?_⟩, hgood⟩
  rcases Nat.eq_zero_or_pos len with h0 | h0
  · subst h0; exact .inl (by simp)
  have hat : ∀ i, i < len → ∀ j u, (E.enc (f i))[j]? = some u → w.cell? (a.add (i * E.sz + j)) = some u := by
    intro i hi j u hj
    obtain ⟨_, h1, h2⟩ := World.cells?_some (each i hi).choose_spec.2
    rw [← hf i hi] at h1 h2
    have hjs : j < E.sz := by have := (List.getElem?_eq_some_iff.1 hj).1; omega
    rw [← add_zero_add, h2 j hjs, hj]
  have hpos := E.pos
  have hspot : a.spot = none := by
    have h1 : (E.enc (f 0)).length = E.sz := E.len _
    have h2 := hat 0 h0 0 ((E.enc (f 0))[0]'(by omega)) (List.getElem?_eq_getElem (by omega))
    have h3 := World.cell?_spot h2
    simpa [Addr.add] using h3
  obtain ⟨b, off, spot⟩ := a
  simp only at hspot
  subst hspot
  have hall : ∀ i x, ((List.range len).map f)[i]? = some x → At w b (off + i * E.sz) (E.enc x) := fun i x hx j u hu => by
    simp only [List.getElem?_map, Option.map_eq_some_iff] at hx
    obtain ⟨i', hi', rfl⟩ := hx
    have hi2 := List.getElem?_eq_some_iff.1 hi'
    obtain ⟨hlt, heq⟩ := hi2
    simp at heq hlt
    subst heq
    have := hat i hlt j u hu
    rw [show off + i * E.sz + j = off + (i * E.sz + j) from by omega]
    have e1 : (⟨b, off, none⟩ : Addr).add (i * E.sz + j) = ⟨b, off + (i * E.sz + j), none⟩ := by
      unfold Addr.add
      split
      · rename_i h0; rw [h0]; rfl
      · rfl
    rwa [e1] at this
  refine .inr ⟨b, off, rfl, ?_, hall⟩
  have hx := hall 0 (f 0) (by simp [h0])
  have hl1 := E.len (f 0)
  have := hx 0 ((E.enc (f 0))[0]'(by omega)) (List.getElem?_eq_getElem (by omega))
  unfold World.cell? at this
  cases hb1 : w.heap[b]? with
  | none => simp only [hb1] at this; cases this
  | some o => exact lt_of_some hb1
theorem struct_w {t : TypeId} {fuel : Nat} {cs : List Value} {x : DataW H × List MemPlace} {fs : Array Field} (ht : P.underlying t = some (.struct fs)) (h : DataW.trod enc P w base spare held fuel t cs = some x) (hw : ∀ b ∈ x.1.weights P t, b ≤ reachBytes) :
    ∃ n, cs.length = P.cellsOf t ∧ ∀ (i : Nat) (f : Field), fs[i]? = some f → ∃ y : DataW H × List MemPlace, DataW.trod enc P w base spare held n f.type ((cs.drop f.offset).take (P.cellsOf f.type)) = some y ∧ ∀ b ∈ y.1.weights P f.type, b ≤ reachBytes := by
  obtain ⟨xs, n, _, rfl, hl, hx, hf⟩ := DataW.trod_struct ht h
  refine ⟨n, hl, fun i f hi => ?_⟩
  have h1 := hf i f hi
  have hlt : i < fs.size := (Array.getElem?_eq_some_iff.1 hi).1
  rw [List.getElem?_eq_getElem (by omega)] at h1
  refine ⟨xs[i]'(by omega), h1, fun b hb => hw b ?_⟩
  show b ∈ DataW.weights P t (.agg (xs.map (·.1)))
  unfold DataW.weights
  rw [ht]
  exact DataW.weights_mem_each (j := i) (d := (xs[i]'(by omega)).1) (by simp [hi]) (by simp [List.getElem?_eq_getElem (show i < xs.length by omega)]) b hb
theorem int_w {e : TypeId} (he : P.underlying e = some (.int .i64)) : TellsW P w e eZ (fun _ => True) := fun enc base spare held n cs y hy _ => by
  obtain ⟨m, rfl, _, _⟩ := DataW.trod_int he hy
  exact ⟨m, rfl, trivial⟩
end
end Go.SX
