import Derived.Test.YtimhdimhdimbjaaProg
import Derived.Test.YtimhdimhdimbjaaS8
set_option linter.unusedVariables false
set_option linter.unusedSimpArgs false
set_option linter.unusedSectionVars false
set_option maxRecDepth 20000
set_option maxHeartbeats 1000000
namespace Go.Proofs.Ytimhdimhdimbjaa.Sx.FEF
open Go Go.SX Go.Proofs FA FB FC FD FE FF FG FH FJ FK FL FP FQ FW FEA FEB FEC FED FEE
theorem ai37 : (Try.prog.info? 37).map (fun i => (i.zero, i.size, i.bytes)) = some (some (.agg #[.int .i64 0, .int .i64 0, .slice none 0 0, .int .u64 0, .int .i64 0, .int .i64 0, .int .i64 0, .int .i64 0, .int .i64 0, .int .i64 0, .slice none 0 0]), 11, 120) := by kernel_rfl
theorem ai53 : (Try.prog.info? 53).map (fun i => (i.zero, i.size, i.bytes)) = some (some (.agg #[.int .i64 0, .int .i64 0, .slice none 0 0, .slice none 0 0, .slice none 0 0, .int .u64 0, .int .i64 0]), 7, 104) := by kernel_rfl
theorem ai55 : (Try.prog.info? 55).map (fun i => (i.zero, i.size, i.bytes)) = some (some (.agg #[.int .i64 0, .int .i64 0, .slice none 0 0, .int .i64 0, .int .i64 0, .slice none 0 0, .slice none 0 0, .int .u64 0, .int .i64 0]), 9, 120) := by kernel_rfl
theorem ai73 : (Try.prog.info? 73).map (fun i => (i.zero, i.size, i.bytes)) = some (some (.agg #[.slice none 0 0, .int .i64 0]), 2, 32) := by kernel_rfl
end Go.Proofs.Ytimhdimhdimbjaa.Sx.FEF
namespace Go.Proofs.Ytimhdimhdimbjaa.Sx
open Go Go.SX Go.Proofs FA FB FC FD FE FF FG FH FJ FK FL FP FQ FW FEA FEB FEC FED FEE FEF
theorem copied2_ (p : PB) (S : Nat → Prop) (wf : World) (hPB : PBF S wf p) (hL : LawP p) :
  TR Try.prog 10 [.agg (cPB p).toArray] [] S wf (fun v_ C_ S_ wf_ => ∃ (q : PB), (NPF S_ wf_ q) ∧ (era q = era p) ∧ v_ = .agg (cPB q).toArray ∧ C_ = [rw_ eVH 37 (.slice q.pvA q.vehs.length q.pvc) q.vehs, rw_ eJB 53 (.slice q.pjA q.jobs.length q.pjc) q.jobs, rw_ eSH 55 (.slice q.psA q.ships.length q.psc) q.ships]) := by
 have hl1 := hPB.1.len
 have hl2 := hPB.2.1.len
 have hl3 := hPB.2.2.1.1.len
 have hl4 := hPB.2.2.2.1.1.len
 have hl5 := hPB.2.2.2.2.1.len
 have hkk := ij_rng (i := 0) (j := 0) (k := p.tn) oO hL.tn.1 oO hL.tn.1 hL.tn.2
 have ht1 := hL.tlen
 have ht2 := hL.dlen
 have hn1 := hL.nv
 have hn2 := hL.nj
 have hdm := hL.dims
 refine TR.mk Try.func10 U Try.ntmps10 U U (fun w_ => ?_)
 refine .seq (.region (.cons (st_boxa U U U U U (fun b1 => (.cons (st_alloc U U U U zf29 (fun b2 => (.go idQ (.seq ?_)))))))))
 refine SC.draw mo [cel b1 (cPB p) 29] [(12, fun w => At w b1 0 (cPB p))] (.c (.t .h) .n) (fun w_ _ hw_ => (sc1 (At.whole 0 U w_ hw_) sc0)) (fun wf_3 hl_3 hx_3 hR_3 => ?_)
 refine SR.cutx (X := (Option Addr) × Nat × (Option Addr) × Nat) (fun (yA4, yc5, yA6, yc7) => ([(1, .pointer (some ⟨b1, 0, none⟩)), (2, .pointer (some ⟨b2, 0, none⟩))], [cel b1 [.int .i64 p.dims, .int .i64 p.tn, .slice yA4 p.time.length yc5, .int .i64 p.dn, .slice yA6 p.dist.length yc7, .slice p.pvA p.vehs.length p.pvc, .slice p.pjA p.jobs.length p.pjc, .slice p.psA p.ships.length p.psc] 29, rw_ eZ 3 (.slice yA6 p.dist.length yc7) p.dist, rw_ eZ 3 (.slice yA4 p.time.length yc5) p.time, cel b2 [.int .i64 0, .int .i64 0, .slice none 0 0, .int .i64 0, .slice none 0 0, .slice none 0 0, .slice none 0 0, .slice none 0 0] 29])) S wf (fun ⟨yA4, yc5, yA6, yc7⟩ => ?_) (fun key8 => ?_)
 ·
  try dsimp only
  refine SQ.go idQ ?_
  refine .seq ?_
  refine SC.draw mo [cel b1 [.int .i64 p.dims, .int .i64 p.tn, .slice yA4 p.time.length yc5, .int .i64 p.dn, .slice yA6 p.dist.length yc7, .slice p.pvA p.vehs.length p.pvc, .slice p.pjA p.jobs.length p.pjc, .slice p.psA p.ships.length p.psc] 29] [(13, fun w => At w b1 0 [.int .i64 p.dims, .int .i64 p.tn, .slice yA4 p.time.length yc5, .int .i64 p.dn, .slice yA6 p.dist.length yc7, .slice p.pvA p.vehs.length p.pvc, .slice p.pjA p.jobs.length p.pjc, .slice p.psA p.ships.length p.psc])] (.c .h .n) (fun w_ _ hw_ => (sc1 (At.whole 0 U w_ hw_) sc0)) (fun wf_9 hl_9 hx_9 hR_9 => ?_)
  refine SR.cutx (X := (Option Addr) × Nat × (Option Addr) × Nat × (Option Addr) × Nat) (fun (yA10, yc11, yA12, yc13, yA14, yc15) => ([(1, .pointer (some ⟨b1, 0, none⟩)), (2, .pointer (some ⟨b2, 0, none⟩))], [cel b1 [.int .i64 p.dims, .int .i64 p.tn, .slice yA4 p.time.length yc5, .int .i64 p.dn, .slice yA6 p.dist.length yc7, .slice yA10 p.vehs.length yc11, .slice yA12 p.jobs.length yc13, .slice yA14 p.ships.length yc15] 29, rw_ eSH 55 (.slice yA14 p.ships.length yc15) p.ships, rw_ eJB 53 (.slice yA12 p.jobs.length yc13) p.jobs, rw_ eVH 37 (.slice yA10 p.vehs.length yc11) p.vehs, rw_ eZ 3 (.slice yA6 p.dist.length yc7) p.dist, rw_ eZ 3 (.slice yA4 p.time.length yc5) p.time, cel b2 [.int .i64 0, .int .i64 0, .slice none 0 0, .int .i64 0, .slice none 0 0, .slice none 0 0, .slice none 0 0, .slice none 0 0] 29])) S wf (fun ⟨yA10, yc11, yA12, yc13, yA14, yc15⟩ => ?_) (fun key16 => ?_)
  ·
   try dsimp only
   refine SQ.go idQ ?_
   refine .seq (.seq (.region (.v (ev_fa U fo29_3 U (r := 5) U) U (.v (ev_ld1 U ty25 U (At.own1 0 U U)) U (.v (ev_len U Try.underlying25 U) U ?_)))))
   refine .m U U U (.go idQ (.block ?_))
   refine SC.nestV0 3 73 34 ?_
   refine .loop (X := Int × (List VH) × (List VH)) (fun ⟨i, X, D⟩ => 0 ≤ i ∧ i ≤ (p.vehs.length : Int) ∧ CpI eraV p.vehs X D i) (fun ⟨i, X, D⟩ => [(1, .pointer (some ⟨b1, 0, none⟩)), (2, .pointer (some ⟨b2, 0, none⟩)), (41, .int .i64 (p.vehs.length : Int)), (42, .int .i64 i)]) (fun ⟨i, X, D⟩ => [nestV 3 73 34 D, cel b1 [.int .i64 p.dims, .int .i64 p.tn, .slice yA4 p.time.length yc5, .int .i64 p.dn, .slice yA6 p.dist.length yc7, .slice yA10 p.vehs.length yc11, .slice yA12 p.jobs.length yc13, .slice yA14 p.ships.length yc15] 29, rw_ eSH 55 (.slice yA14 p.ships.length yc15) p.ships, rw_ eJB 53 (.slice yA12 p.jobs.length yc13) p.jobs, rw_ eVH 37 (.slice yA10 p.vehs.length yc11) X, rw_ eZ 3 (.slice yA6 p.dist.length yc7) p.dist, rw_ eZ 3 (.slice yA4 p.time.length yc5) p.time, cel b2 [.int .i64 0, .int .i64 0, .slice none 0 0, .int .i64 0, .slice none 0 0, .slice none 0 0, .slice none 0 0, .slice none 0 0] 29]) (fun _ => S) (fun _ => wf) (fun ⟨i, X, D⟩ => ((p.vehs.length : Int) - i).toNat) (fun a_ w_ hs_ hw_ => ⟨⟨0, p.vehs, ([] : List VH)⟩, (by (try dsimp only); exact ⟨oO, oO, cp_init⟩), hs_.mono (Sub.get (.c4 U U U U .n)), hw_.keep (.c .h (.c .h (.c .h (.c .h (.c .h (.c .h (.c .h (.c .h .n))))))))⟩) (fun ⟨i, X, D⟩ ⟨q_0, q_1, q_2⟩ => ?_)
   show SC _ _ _ _ _ ⟨[(1, .pointer (some ⟨b1, 0, none⟩)), (2, .pointer (some ⟨b2, 0, none⟩)), (41, .int .i64 (p.vehs.length : Int)), (42, .int .i64 i)], [nestV 3 73 34 D, cel b1 [.int .i64 p.dims, .int .i64 p.tn, .slice yA4 p.time.length yc5, .int .i64 p.dn, .slice yA6 p.dist.length yc7, .slice yA10 p.vehs.length yc11, .slice yA12 p.jobs.length yc13, .slice yA14 p.ships.length yc15] 29, rw_ eSH 55 (.slice yA14 p.ships.length yc15) p.ships, rw_ eJB 53 (.slice yA12 p.jobs.length yc13) p.jobs, rw_ eVH 37 (.slice yA10 p.vehs.length yc11) X, rw_ eZ 3 (.slice yA6 p.dist.length yc7) p.dist, rw_ eZ 3 (.slice yA4 p.time.length yc5) p.time, cel b2 [.int .i64 0, .int .i64 0, .slice none 0 0, .int .i64 0, .slice none 0 0, .slice none 0 0, .slice none 0 0, .slice none 0 0] 29], S, wf⟩
   refine .seq (.region (.v (ev_cmp U U U U) U (.go idQ (.seq (.condI U bD (fun h17 => ?_) (fun h17 => ?_))))))
   ·
    refine .skipgo idQ (.seq (.block (.seq (.region (.m U U U (.a U U U (.go idQ (.seq ?_))))))))
    have hxl := q_2.len
    have hxi : gt X i = gt p.vehs i := q_2.rest i (Int.le_refl _)
    have hxF : VHF S wf (gt X i) := by rw [hxi]; exact hPB.2.2.1.2 i
    have hxb0 : ((gt X i).vcap).length ≤ 12 := by rw [hxi]; have := (hL.veh i oO oO).cap.1; omega
    have hxb1 : ((gt X i).brs).length ≤ 12 := by rw [hxi]; have := (hL.veh i oO oO).brs; omega
    refine .region (.v (ev_fa U fo29_3 U (r := 5) U) U (.v (ev_ld1 U ty25 U (At.own1 1 U U)) U (.m U U U ?_)))
    refine .v (ev_ix U Try.underlying25 ty37 U U oO oO (row_adr (i := i) 4 U oO oO)) U (.a U U U (.go idQ (.seq ?_)))
    refine SC.draw mo [rw_ eVH 37 (.slice yA10 p.vehs.length yc11) X] [(16, fun w => At w (ab yA10) (ao yA10 + (i).toNat * eVH.sz) (eVH.enc (gt X i)))] (.c (.t (.t (.t (.t .h)))) .n) (fun w_ _ hw_ => (sc1 (row_el (E := eVH) (l := X) (i := i) 0 U oO lO w_ hw_) sc0)) (fun wf_18 hl_18 hx_18 hR_18 => ?_)
    refine SR.cutx (X := (Option Addr) × Nat × (Option Addr) × Nat) (fun (yA19, yc20, yA21, yc22) => ([(1, .pointer (some ⟨b1, 0, none⟩)), (2, .pointer (some ⟨b2, 0, none⟩)), (41, .int .i64 (p.vehs.length : Int)), (42, .int .i64 i), (43, .bool (decide (i < (p.vehs.length : Int)))), (3, .int .i64 i), (4, .pointer (some ⟨(ab yA10), ao yA10 + (i).toNat * 11, none⟩))], [rw_ eVH 37 (.slice yA10 p.vehs.length yc11) (X.set (i).toNat (VH.mk ((gt X i).st) ((gt X i).en) ((gt X i).vcap) ((gt X i).vsk) ((gt X i).lo) ((gt X i).hi) ((gt X i).fix) ((gt X i).pt) ((gt X i).pd) ((gt X i).mt) ((gt X i).brs) yA19 yc20 yA21 yc22)), rw_ eBK 73 (.slice yA21 (((gt X i).brs).length) yc22) ((gt X i).brs), rw_ eZ 3 (.slice yA19 (((gt X i).vcap).length) yc20) ((gt X i).vcap), nestV 3 73 34 D, cel b1 [.int .i64 p.dims, .int .i64 p.tn, .slice yA4 p.time.length yc5, .int .i64 p.dn, .slice yA6 p.dist.length yc7, .slice yA10 p.vehs.length yc11, .slice yA12 p.jobs.length yc13, .slice yA14 p.ships.length yc15] 29, rw_ eSH 55 (.slice yA14 p.ships.length yc15) p.ships, rw_ eJB 53 (.slice yA12 p.jobs.length yc13) p.jobs, rw_ eZ 3 (.slice yA6 p.dist.length yc7) p.dist, rw_ eZ 3 (.slice yA4 p.time.length yc5) p.time, cel b2 [.int .i64 0, .int .i64 0, .slice none 0 0, .int .i64 0, .slice none 0 0, .slice none 0 0, .slice none 0 0, .slice none 0 0] 29])) S wf (fun ⟨yA19, yc20, yA21, yc22⟩ => ?_) (fun key23 => ?_)
    ·
     try dsimp only
     refine SQ.go idQ ?_
     refine .seq (.region (.m U U U (.v (ev_nil U U) U (.v (ev_fa U fo37_9 U (r := ao yA10 + (i).toNat * 11 + 10) U) U ?_))))
     refine .v (ev_ld1 U ty35 U (At.elem1 (AtE (gt_sets oO lO) (row_el (E := eVH) (l := (X.set (i).toNat (VH.mk ((gt X i).st) ((gt X i).en) ((gt X i).vcap) ((gt X i).vsk) ((gt X i).lo) ((gt X i).hi) ((gt X i).fix) ((gt X i).pt) ((gt X i).pd) ((gt X i).mt) ((gt X i).brs) yA19 yc20 yA21 yc22))) (i := i) 0 U oO lO)) 10 U)) U (.v (ev_len U Try.underlying35 U) U (.m U U U (.go idQ (.block ?_))))
     refine SC.nestB0 34 ?_
     refine .loop (X := Int × (List BK) × (List BK)) (fun ⟨j, W, C⟩ => 0 ≤ j ∧ j ≤ ((gt X i).brs.length : Int) ∧ CpI eraB (gt X i).brs W C j) (fun ⟨j, W, C⟩ => [(1, .pointer (some ⟨b1, 0, none⟩)), (2, .pointer (some ⟨b2, 0, none⟩)), (41, .int .i64 (p.vehs.length : Int)), (42, .int .i64 i), (4, .pointer (some ⟨(ab yA10), ao yA10 + (i).toNat * 11, none⟩)), (71, .int .i64 ((((gt X i).brs).length : Nat) : Int)), (72, .int .i64 j)]) (fun ⟨j, W, C⟩ => [nestB 34 C, rw_ eVH 37 (.slice yA10 p.vehs.length yc11) (X.set (i).toNat (VH.mk ((gt X i).st) ((gt X i).en) ((gt X i).vcap) ((gt X i).vsk) ((gt X i).lo) ((gt X i).hi) ((gt X i).fix) ((gt X i).pt) ((gt X i).pd) ((gt X i).mt) ((gt X i).brs) yA19 yc20 yA21 yc22)), rw_ eBK 73 (.slice yA21 (((gt X i).brs).length) yc22) W, rw_ eZ 3 (.slice yA19 (((gt X i).vcap).length) yc20) ((gt X i).vcap), nestV 3 73 34 D, cel b1 [.int .i64 p.dims, .int .i64 p.tn, .slice yA4 p.time.length yc5, .int .i64 p.dn, .slice yA6 p.dist.length yc7, .slice yA10 p.vehs.length yc11, .slice yA12 p.jobs.length yc13, .slice yA14 p.ships.length yc15] 29, rw_ eSH 55 (.slice yA14 p.ships.length yc15) p.ships, rw_ eJB 53 (.slice yA12 p.jobs.length yc13) p.jobs, rw_ eZ 3 (.slice yA6 p.dist.length yc7) p.dist, rw_ eZ 3 (.slice yA4 p.time.length yc5) p.time, cel b2 [.int .i64 0, .int .i64 0, .slice none 0 0, .int .i64 0, .slice none 0 0, .slice none 0 0, .slice none 0 0, .slice none 0 0] 29]) (fun _ => S) (fun _ => wf) (fun ⟨j, W, C⟩ => (((gt X i).brs.length : Int) - j).toNat) (fun a_ w_ hs_ hw_ => ⟨⟨0, (gt X i).brs, ([] : List BK)⟩, (by (try dsimp only); exact ⟨oO, oO, cp_init⟩), hs_.mono (Sub.get (.c4 U U U U (.c U (.c U (.c U .n))))), hw_.keep (.c .h (.c .h (.c .h (.c .h (.c .h (.c .h (.c .h (.c .h (.c .h (.c .h (.c .h .n)))))))))))⟩) (fun ⟨j, W, C⟩ ⟨r_0, r_1, r_2⟩ => ?_)
     show SC _ _ _ _ _ ⟨[(1, .pointer (some ⟨b1, 0, none⟩)), (2, .pointer (some ⟨b2, 0, none⟩)), (41, .int .i64 (p.vehs.length : Int)), (42, .int .i64 i), (4, .pointer (some ⟨(ab yA10), ao yA10 + (i).toNat * 11, none⟩)), (71, .int .i64 ((((gt X i).brs).length : Nat) : Int)), (72, .int .i64 j)], [nestB 34 C, rw_ eVH 37 (.slice yA10 p.vehs.length yc11) (X.set (i).toNat (VH.mk ((gt X i).st) ((gt X i).en) ((gt X i).vcap) ((gt X i).vsk) ((gt X i).lo) ((gt X i).hi) ((gt X i).fix) ((gt X i).pt) ((gt X i).pd) ((gt X i).mt) ((gt X i).brs) yA19 yc20 yA21 yc22)), rw_ eBK 73 (.slice yA21 (((gt X i).brs).length) yc22) W, rw_ eZ 3 (.slice yA19 (((gt X i).vcap).length) yc20) ((gt X i).vcap), nestV 3 73 34 D, cel b1 [.int .i64 p.dims, .int .i64 p.tn, .slice yA4 p.time.length yc5, .int .i64 p.dn, .slice yA6 p.dist.length yc7, .slice yA10 p.vehs.length yc11, .slice yA12 p.jobs.length yc13, .slice yA14 p.ships.length yc15] 29, rw_ eSH 55 (.slice yA14 p.ships.length yc15) p.ships, rw_ eJB 53 (.slice yA12 p.jobs.length yc13) p.jobs, rw_ eZ 3 (.slice yA6 p.dist.length yc7) p.dist, rw_ eZ 3 (.slice yA4 p.time.length yc5) p.time, cel b2 [.int .i64 0, .int .i64 0, .slice none 0 0, .int .i64 0, .slice none 0 0, .slice none 0 0, .slice none 0 0, .slice none 0 0] 29], S, wf⟩
     refine .seq (.region (.v (ev_cmp U U U U) U (.go idQ (.seq (.condI U bD (fun h24 => ?_) (fun h24 => ?_))))))
     ·
      refine .skipgo idQ (.seq (.block (.seq (.region (.m U U U (.a U U U (.go idQ ?_)))))))
      have hwl := r_2.len
      have hwi : gt W j = gt (gt X i).brs j := r_2.rest j (Int.le_refl _)
      have hwF : BKF S wf (gt W j) := by rw [hwi]; exact hxF.2.2 j
      have hwb0 : ((gt W j).bws).length ≤ 12 := by rw [hwi, hxi]; have h_ := ((hL.veh i oO oO).brk j oO (by rw [← hxi]; omega)).1.len; omega
      refine SC.draw mo [rw_ eBK 73 (.slice yA21 (((gt X i).brs).length) yc22) W] [(17, fun w => At w (ab yA21) (ao yA21 + (j).toNat * eBK.sz) (eBK.enc (gt W j)))] (.c (.t (.t .h)) .n) (fun w_ _ hw_ => (sc1 (row_el (E := eBK) (l := W) (i := j) 0 U oO lO w_ hw_) sc0)) (fun wf_25 hl_25 hx_25 hR_25 => ?_)
      refine SR.m 0 U U U U ?_
      refine SR.z 1 U U (ev_nil U U) ?_
      refine SR.z 2 U U (ev_fa U fo37_9 U (r := ao yA10 + (i).toNat * 11 + 10) U) ?_
      refine SR.z 3 U U (ev_ld1 U ty35 U (At.elem1 (AtE (gt_sets oO lO) (At.d (Fr.el (i := i) (Fr.lent (S := S) hR_25 1 U lO) oO lO))) 10 U)) ?_
      refine SR.m 4 U U U U ?_
      refine SR.m 6 U U U U ?_
      refine SR.z 7 U U (ev_nil U U) ?_
      refine SR.z 8 U U (ev_fa U fo37_9 U (r := ao yA10 + (i).toNat * 11 + 10) U) ?_
      refine SR.z 9 U U (ev_ld1 U ty35 U (At.elem1 (AtE (gt_sets oO lO) (At.d (Fr.el (i := i) (Fr.lent (S := S) hR_25 1 U lO) oO lO))) 10 U)) ?_
      refine SR.m 10 U U U U ?_
      refine SR.two (i := 5) (j := 11) kR ⟨_, U, ?_⟩ ⟨_, U, ?_⟩
      ·
       refine st_lit eWN (e := 34) (l := []) U U U U kR U U kW (fun b26 => ⟨ttr (i := j) 1 U oO oO, ?_⟩)
       refine SR.o 11 U (Ev.step (ev_ix U Try.underlying35 ty73 U U oO oO (row_adr (i := j) 1 U oO oO)) U U U ⟨ttr (i := j) 1 U oO oO, ?_⟩)
       refine SR.z 12 U U (ev_fa U fo73_0 U (r := ao yA21 + (j).toNat * 2) U) ?_
       refine SR.z 13 U U (ev_ld1 U ty49 U (At.elem1 (At.ofcs 0 U kR) 0 U)) ?_
       refine SR.o 14 U (st_app0 (E := eWN) (m := (gt W j).bws) U U U U Try.underlying49 ai34 U U U .h rO (Src.w (Fr.flat ((hwF).ext hx_25))) lO U (fun v27 => ⟨ttr (i := j) 1 U oO oO, ?_⟩))
       refine SR.o 15 U (Ev.step (ev_ix U Try.underlying35 ty73 U U oO oO (row_adr (i := j) 1 U oO oO)) U U U ⟨ttr (i := j) 1 U oO oO, ?_⟩)
       refine SR.z 16 U U (ev_fa U fo73_0 U (r := ao yA21 + (j).toNat * 2) U) ?_
       refine .know (row_len 0 U) (fun hv30 => ?_)
       obtain ⟨A28, c29, rfl, hv30_1, hv30_2⟩ := hv30
       unfold maxLen at hv30_2
       refine SR.o 17 U (st_setel2 (E := eBK) (i := j) (cs := [.slice A28 (((gt W j).bws).length) c29]) (off := 0) (l2 := (W.set (j).toNat (BK.mk ((gt W j).bws) ((gt W j).bsrv) A28 c29))) (BK.mk ((gt W j).bws) ((gt W j).bsrv) A28 c29) U U U ty49 U U U U U (.t .h) lO lO (Nat.le_of_ble_eq_true U) U U ⟨ttc (fun w_ hw_ => (tc2 kR tc0)), ?_⟩)
       refine SR.fin kR hl_25 hx_25 hR_25 (.c (.c .n)) ?_
       refine SQ.go idQ ?_
       refine SC.packB (BK.mk ((gt W j).bws) ((gt W j).bsrv) A28 c29) (.c (.t (.t .h)) (.c (.t .h) .n)) U oO ?_
       refine .region (.v (ev_add U U U (r := (j + 1)) U oO oO) U (.m U U U ?_))
       exact SP.nil (SQ.roundb (X := Int × (List BK) × (List BK)) (x := (j, W, C)) ⟨(j + 1), (W.set (j).toNat (BK.mk ((gt W j).bws) ((gt W j).bsrv) A28 c29)), (C ++ [(BK.mk ((gt W j).bws) ((gt W j).bsrv) A28 c29)])⟩ (by (try dsimp only); exact ⟨oO, oO, (cp_next r_2 oO oO U)⟩) dO (Sub.get (.c4 U U U U (.c U (.c U (.c U .n))))) (fun w hw => hw.keep (.c .h (.c (.t .h) (.c .h (.c .h (.c .h (.c .h (.c .h (.c .h (.c .h (.c .h (.c .h .n)))))))))))))
      refine Ev.step (ev_ix U Try.underlying35 ty73 U U oO oO (row_adr (i := j) 0 U oO oO)) U U U ⟨ttr (i := j) 0 U oO oO, ?_⟩
      refine SR.z 12 U U (ev_fa U fo73_0 U (r := ao yA21 + (j).toNat * 2) U) ?_
      refine SR.z 13 U U (ev_ld1 U ty49 U (At.elem1 (At.ofcs 0 U kR) 0 U)) ?_
      refine SR.o 5 U (st_lit eWN (e := 34) (l := []) U U U U kR U U kW (fun b31 => ⟨ttr (i := j) 1 U oO oO, ?_⟩))
      refine SR.o 14 U (st_app0 (E := eWN) (m := (gt W j).bws) U U U U Try.underlying49 ai34 U U U .h rO (Src.w (Fr.flat ((hwF).ext hx_25))) lO U (fun v32 => ⟨ttr (i := j) 1 U oO oO, ?_⟩))
      refine SR.o 15 U (Ev.step (ev_ix U Try.underlying35 ty73 U U oO oO (row_adr (i := j) 1 U oO oO)) U U U ⟨ttr (i := j) 1 U oO oO, ?_⟩)
      refine SR.z 16 U U (ev_fa U fo73_0 U (r := ao yA21 + (j).toNat * 2) U) ?_
      refine .know (row_len 0 U) (fun hv35 => ?_)
      obtain ⟨A33, c34, rfl, hv35_1, hv35_2⟩ := hv35
      unfold maxLen at hv35_2
      refine SR.o 17 U (st_setel2 (E := eBK) (i := j) (cs := [.slice A33 (((gt W j).bws).length) c34]) (off := 0) (l2 := (W.set (j).toNat (BK.mk ((gt W j).bws) ((gt W j).bsrv) A33 c34))) (BK.mk ((gt W j).bws) ((gt W j).bsrv) A33 c34) U U U ty49 U U U U U (.t .h) lO lO (Nat.le_of_ble_eq_true U) U U ⟨ttc (fun w_ hw_ => (tc2 kR tc0)), ?_⟩)
      refine SR.fin kR hl_25 hx_25 hR_25 (.c (.c .n)) ?_
      refine SQ.go idQ ?_
      refine SC.packB (BK.mk ((gt W j).bws) ((gt W j).bsrv) A33 c34) (.c (.t (.t .h)) (.c (.t .h) .n)) U oO ?_
      refine .region (.v (ev_add U U U (r := (j + 1)) U oO oO) U (.m U U U ?_))
      exact SP.nil (SQ.roundb (X := Int × (List BK) × (List BK)) (x := (j, W, C)) ⟨(j + 1), (W.set (j).toNat (BK.mk ((gt W j).bws) ((gt W j).bsrv) A33 c34)), (C ++ [(BK.mk ((gt W j).bws) ((gt W j).bsrv) A33 c34)])⟩ (by (try dsimp only); exact ⟨oO, oO, (cp_next r_2 oO oO U)⟩) dO (Sub.get (.c4 U U U U (.c U (.c U (.c U .n))))) (fun w hw => hw.keep (.c .h (.c (.t .h) (.c .h (.c .h (.c .h (.c .h (.c .h (.c .h (.c .h (.c .h (.c .h .n)))))))))))))
     refine .exit idQ ?_
     obtain ⟨hCW, hCE⟩ := cp_end r_2 oO
     have hWl := r_2.len
     subst hCW
     refine SC.rerow (X.set (i).toNat (VH.mk ((gt X i).st) ((gt X i).en) ((gt X i).vcap) ((gt X i).vsk) ((gt X i).lo) ((gt X i).hi) ((gt X i).fix) ((gt X i).pt) ((gt X i).pd) ((gt X i).mt) C yA19 yc20 yA21 yc22)) (.c (.t .h) .n) (flat_set (by simp only [eVH, hWl])) set_len2 ?_
     refine SC.packV (VH.mk ((gt X i).st) ((gt X i).en) ((gt X i).vcap) ((gt X i).vsk) ((gt X i).lo) ((gt X i).hi) ((gt X i).fix) ((gt X i).pt) ((gt X i).pd) ((gt X i).mt) C yA19 yc20 yA21 yc22) (.c (.t (.t (.t (.t .h)))) (.c (.t (.t (.t .h))) (.c (.t (.t .h)) (.c (.t .h) .n)))) U dO oO oO ?_
     refine .region (.v (ev_add U U U (r := (i + 1)) U oO oO) U (.m U U U ?_))
     exact SP.nil (SQ.roundb (X := Int × (List VH) × (List VH)) (x := (i, X, D)) ⟨(i + 1), (X.set (i).toNat (VH.mk ((gt X i).st) ((gt X i).en) ((gt X i).vcap) ((gt X i).vsk) ((gt X i).lo) ((gt X i).hi) ((gt X i).fix) ((gt X i).pt) ((gt X i).pd) ((gt X i).mt) C yA19 yc20 yA21 yc22)), (D ++ [(VH.mk ((gt X i).st) ((gt X i).en) ((gt X i).vcap) ((gt X i).vsk) ((gt X i).lo) ((gt X i).hi) ((gt X i).fix) ((gt X i).pt) ((gt X i).pd) ((gt X i).mt) C yA19 yc20 yA21 yc22)])⟩ (by (try dsimp only); exact ⟨oO, oO, (cp_next q_2 oO oO (by unfold eraV; dsimp only; rw [hCE]))⟩) dO (Sub.get (.c4 U U U U .n)) (fun w hw => hw.keep (.c .h (.c (.t .h) (.c (.t .h) (.c (.t .h) (.c .h (.c .h (.c .h (.c .h .n))))))))))
    refine SR.join (X := Value × Value) (fun (zv36, zv37) => ([(1, .pointer (some ⟨b1, 0, none⟩)), (2, .pointer (some ⟨b2, 0, none⟩)), (41, .int .i64 (p.vehs.length : Int)), (42, .int .i64 i), (43, .bool (decide (i < (p.vehs.length : Int)))), (3, .int .i64 i), (4, .pointer (some ⟨(ab yA10), ao yA10 + (i).toNat * 11, none⟩)), (50, .pointer (some ⟨(ab yA10), ao yA10 + (i).toNat * 11, none⟩)), (56, zv37), (62, zv36), (64, .pointer (some ⟨(ab yA10), ao yA10 + (i).toNat * 11 + 2, none⟩))], [rw_ eBK 73 (zv36) ((gt X i).brs), rw_ eZ 3 (zv37) ((gt X i).vcap), rw_ eVH 37 (.slice yA10 p.vehs.length yc11) X])) 4 #[true, true, true, true, true, true, true, true, true, true, true, true, true, true, true, true, false, false, false, false] (fun ⟨zv36, zv37⟩ => ?_) (fun key38 => ?_)
    ·
     show SR _ _ _ _ _ _ _ _ _ ⟨[(1, .pointer (some ⟨b1, 0, none⟩)), (2, .pointer (some ⟨b2, 0, none⟩)), (41, .int .i64 (p.vehs.length : Int)), (42, .int .i64 i), (43, .bool (decide (i < (p.vehs.length : Int)))), (3, .int .i64 i), (4, .pointer (some ⟨(ab yA10), ao yA10 + (i).toNat * 11, none⟩)), (50, .pointer (some ⟨(ab yA10), ao yA10 + (i).toNat * 11, none⟩)), (56, zv37), (62, zv36), (64, .pointer (some ⟨(ab yA10), ao yA10 + (i).toNat * 11 + 2, none⟩))], [rw_ eBK 73 (zv36) ((gt X i).brs), rw_ eZ 3 (zv37) ((gt X i).vcap), rw_ eVH 37 (.slice yA10 p.vehs.length yc11) X], _, _⟩
     refine .know (row_len 1 U) (fun hv41 => ?_)
     obtain ⟨A39, c40, rfl, hv41_1, hv41_2⟩ := hv41
     unfold maxLen at hv41_2
     refine SR.o 16 U (st_setel2 (E := eVH) (i := i) (cs := [.slice A39 (((gt X i).vcap).length) c40]) (off := 2) (l2 := (X.set (i).toNat (VH.mk ((gt X i).st) ((gt X i).en) ((gt X i).vcap) ((gt X i).vsk) ((gt X i).lo) ((gt X i).hi) ((gt X i).fix) ((gt X i).pt) ((gt X i).pd) ((gt X i).mt) ((gt X i).brs) A39 c40 ((gt X i).vbA) ((gt X i).vbc)))) (VH.mk ((gt X i).st) ((gt X i).en) ((gt X i).vcap) ((gt X i).vsk) ((gt X i).lo) ((gt X i).hi) ((gt X i).fix) ((gt X i).pt) ((gt X i).pd) ((gt X i).mt) ((gt X i).brs) A39 c40 ((gt X i).vbA) ((gt X i).vbc)) U U U ty22 U U U U U (.t (.t .h)) lO lO (Nat.le_of_ble_eq_true U) U U ⟨ttc (fun w_ hw_ => (tc2 kR tc0)), ?_⟩)
     refine SR.z 17 U U (ev_nil U U) ?_
     refine SR.z 18 U U (ev_fa U fo37_9 U (r := ao yA10 + (i).toNat * 11 + 10) U) ?_
     refine .know (row_len 1 U) (fun hv44 => ?_)
     obtain ⟨A42, c43, rfl, hv44_1, hv44_2⟩ := hv44
     unfold maxLen at hv44_2
     refine SR.o 19 U (st_setel2 (E := eVH) (i := i) (cs := [.slice A42 (((gt X i).brs).length) c43]) (off := 10) (l2 := (X.set (i).toNat (VH.mk ((gt X i).st) ((gt X i).en) ((gt X i).vcap) ((gt X i).vsk) ((gt X i).lo) ((gt X i).hi) ((gt X i).fix) ((gt X i).pt) ((gt X i).pd) ((gt X i).mt) ((gt X i).brs) A39 c40 A42 c43))) (VH.mk ((gt X i).st) ((gt X i).en) ((gt X i).vcap) ((gt X i).vsk) ((gt X i).lo) ((gt X i).hi) ((gt X i).fix) ((gt X i).pt) ((gt X i).pd) ((gt X i).mt) ((gt X i).brs) A39 c40 A42 c43) U U U ty35 U U U U U .h lO lO (Nat.le_of_ble_eq_true U) (by rw [gt_sets oO lO]; rfl) (set_set_ _ _ _ _) ⟨ttc (fun w_ hw_ => (tc2 kR tc0)), ?_⟩)
     refine SR.fin kR hl_18 hx_18 hR_18 (.c (.c (.c .n))) ?_
     exact SQ.weak (key23 (A39, c40, A42, c43)) (Sub.get (.c4 U U U U (.c U (.c U (.c U .n))))) (fun w hw => hw.keep (.c .h (.c .h (.c .h (.c .h (.c .h (.c .h (.c .h (.c .h (.c .h (.c .h .n)))))))))))
    refine SR.m 0 U U U U ?_
    refine SR.m 1 U U U U ?_
    refine SR.m 3 U U U U ?_
    refine SR.z 4 U U (ev_nil U U) ?_
    refine SR.z 5 U U (ev_fa U fo37_2 U (r := ao yA10 + (i).toNat * 11 + 2) U) ?_
    refine SR.z 6 U U (ev_ld1 U ty22 U (At.elem1 (At.ofcs 0 U kR) 2 U)) ?_
    refine SR.m 9 U U U U ?_
    refine SR.z 10 U U (ev_nil U U) ?_
    refine SR.z 11 U U (ev_fa U fo37_9 U (r := ao yA10 + (i).toNat * 11 + 10) U) ?_
    refine SR.z 12 U U (ev_ld1 U ty35 U (At.elem1 (At.ofcs 0 U kR) 10 U)) ?_
    refine SR.two (i := 2) (j := 8) kR ⟨_, U, ?_⟩ ⟨_, U, ?_⟩
    ·
     refine st_lit eZ (e := 3) (l := []) U U U U kR U U kW (fun b45 => ⟨ttr (i := i) 1 U oO oO, ?_⟩)
     refine SR.two (i := 7) (j := 8) kR ⟨_, U, ?_⟩ ⟨_, U, ?_⟩
     ·
      refine st_app0 (E := eZ) (m := (gt X i).vcap) U U U U Try.underlying22 ai3 U U U .h rO (Src.w (Fr.flat ((hxF).ext hx_18).1)) lO U (fun v46 => ⟨ttr (i := i) 1 U oO oO, ?_⟩)
      refine SR.o 8 U (st_lit eBK (e := 73) (l := []) U U U U kR U U kW (fun b47 => ⟨ttr (i := i) 2 U oO oO, ?_⟩))
      refine SR.o 13 U (st_app0 (E := eBK) (m := (gt X i).brs) U U U U Try.underlying35 ai73 U U U .h rO (Src.w (Fr.flat ((hxF).ext hx_18).2.1)) lO U (fun v48 => ⟨ttr (i := i) 2 U oO oO, ?_⟩))
      refine SR.z 14 U U (ev_nil U U) ?_
      refine SR.z 15 U U (ev_fa U fo37_2 U (r := ao yA10 + (i).toNat * 11 + 2) U) ?_
      exact SR.weakj (key38 (v48, v46)) kR (Sub.get (.c4 U U U U (.c4 U U U U (.c U (.c U (.c U .n)))))) (fun w hw => hw.keep (.c .h (.c .h (.c .h .n))))
     refine st_lit eBK (e := 73) (l := []) U U U U kR U U kW (fun b49 => ⟨ttr (i := i) 2 U oO oO, ?_⟩)
     refine SR.o 7 U (st_app0 (E := eZ) (m := (gt X i).vcap) U U U U Try.underlying22 ai3 U U U (.t .h) rO (Src.w (Fr.flat ((hxF).ext hx_18).1)) lO U (fun v50 => ⟨ttr (i := i) 2 U oO oO, ?_⟩))
     refine SR.o 13 U (st_app0 (E := eBK) (m := (gt X i).brs) U U U U Try.underlying35 ai73 U U U (.t .h) rO (Src.w (Fr.flat ((hxF).ext hx_18).2.1)) lO U (fun v51 => ⟨ttr (i := i) 2 U oO oO, ?_⟩))
     refine SR.z 14 U U (ev_nil U U) ?_
     refine SR.z 15 U U (ev_fa U fo37_2 U (r := ao yA10 + (i).toNat * 11 + 2) U) ?_
     exact SR.weakj (key38 (v51, v50)) kR (Sub.get (.c4 U U U U (.c4 U U U U (.c U (.c U (.c U .n)))))) (fun w hw => hw.keep (.c .h (.c .h (.c .h .n))))
    refine st_lit eBK (e := 73) (l := []) U U U U kR U U kW (fun b52 => ⟨ttr (i := i) 1 U oO oO, ?_⟩)
    refine SR.o 2 U (st_lit eZ (e := 3) (l := []) U U U U kR U U kW (fun b53 => ⟨ttr (i := i) 2 U oO oO, ?_⟩))
    refine SR.o 7 U (st_app0 (E := eZ) (m := (gt X i).vcap) U U U U Try.underlying22 ai3 U U U .h rO (Src.w (Fr.flat ((hxF).ext hx_18).1)) lO U (fun v54 => ⟨ttr (i := i) 2 U oO oO, ?_⟩))
    refine SR.o 13 U (st_app0 (E := eBK) (m := (gt X i).brs) U U U U Try.underlying35 ai73 U U U (.t .h) rO (Src.w (Fr.flat ((hxF).ext hx_18).2.1)) lO U (fun v55 => ⟨ttr (i := i) 2 U oO oO, ?_⟩))
    refine SR.z 14 U U (ev_nil U U) ?_
    refine SR.z 15 U U (ev_fa U fo37_2 U (r := ao yA10 + (i).toNat * 11 + 2) U) ?_
    exact SR.weakj (key38 (v55, v54)) kR (Sub.get (.c4 U U U U (.c4 U U U U (.c U (.c U (.c U .n)))))) (fun w hw => hw.keep (.c .h (.c .h (.c .h .n))))
   refine .exit idQ ?_
   refine .seq (.seq (.region (.v (ev_fa U fo29_4 U (r := 6) U) U (.v (ev_ld1 U ty26 U (At.own1 1 U U)) U (.v (ev_len U Try.underlying26 U) U ?_)))))
   refine .m U U U (.go idQ (.block ?_))
   refine SC.nestJ0 3 34 ?_
   refine .loop (X := Int × (List JB) × (List JB)) (fun ⟨k, XJ, DJ⟩ => 0 ≤ k ∧ k ≤ (p.jobs.length : Int) ∧ CpI eraJ p.jobs XJ DJ k) (fun ⟨k, XJ, DJ⟩ => [(1, .pointer (some ⟨b1, 0, none⟩)), (2, .pointer (some ⟨b2, 0, none⟩)), (41, .int .i64 (p.vehs.length : Int)), (42, .int .i64 i), (96, .int .i64 (p.jobs.length : Int)), (97, .int .i64 k)]) (fun ⟨k, XJ, DJ⟩ => [nestJ 3 34 DJ, nestV 3 73 34 D, cel b1 [.int .i64 p.dims, .int .i64 p.tn, .slice yA4 p.time.length yc5, .int .i64 p.dn, .slice yA6 p.dist.length yc7, .slice yA10 p.vehs.length yc11, .slice yA12 p.jobs.length yc13, .slice yA14 p.ships.length yc15] 29, rw_ eSH 55 (.slice yA14 p.ships.length yc15) p.ships, rw_ eJB 53 (.slice yA12 p.jobs.length yc13) XJ, rw_ eVH 37 (.slice yA10 p.vehs.length yc11) X, rw_ eZ 3 (.slice yA6 p.dist.length yc7) p.dist, rw_ eZ 3 (.slice yA4 p.time.length yc5) p.time, cel b2 [.int .i64 0, .int .i64 0, .slice none 0 0, .int .i64 0, .slice none 0 0, .slice none 0 0, .slice none 0 0, .slice none 0 0] 29]) (fun _ => S) (fun _ => wf) (fun ⟨k, XJ, DJ⟩ => ((p.jobs.length : Int) - k).toNat) (fun a_ w_ hs_ hw_ => ⟨⟨0, p.jobs, ([] : List JB)⟩, (by (try dsimp only); exact ⟨oO, oO, cp_init⟩), hs_.mono (Sub.get (.c4 U U U U (.c U (.c U .n)))), hw_.keep (.c .h (.c .h (.c .h (.c .h (.c .h (.c .h (.c .h (.c .h (.c .h .n)))))))))⟩) (fun ⟨k, XJ, DJ⟩ ⟨s_0, s_1, s_2⟩ => ?_)
   show SC _ _ _ _ _ ⟨[(1, .pointer (some ⟨b1, 0, none⟩)), (2, .pointer (some ⟨b2, 0, none⟩)), (41, .int .i64 (p.vehs.length : Int)), (42, .int .i64 i), (96, .int .i64 (p.jobs.length : Int)), (97, .int .i64 k)], [nestJ 3 34 DJ, nestV 3 73 34 D, cel b1 [.int .i64 p.dims, .int .i64 p.tn, .slice yA4 p.time.length yc5, .int .i64 p.dn, .slice yA6 p.dist.length yc7, .slice yA10 p.vehs.length yc11, .slice yA12 p.jobs.length yc13, .slice yA14 p.ships.length yc15] 29, rw_ eSH 55 (.slice yA14 p.ships.length yc15) p.ships, rw_ eJB 53 (.slice yA12 p.jobs.length yc13) XJ, rw_ eVH 37 (.slice yA10 p.vehs.length yc11) X, rw_ eZ 3 (.slice yA6 p.dist.length yc7) p.dist, rw_ eZ 3 (.slice yA4 p.time.length yc5) p.time, cel b2 [.int .i64 0, .int .i64 0, .slice none 0 0, .int .i64 0, .slice none 0 0, .slice none 0 0, .slice none 0 0, .slice none 0 0] 29], S, wf⟩
   refine .seq (.region (.v (ev_cmp U U U U) U (.go idQ (.seq (.condI U bD (fun h56 => ?_) (fun h56 => ?_))))))
   ·
    refine .skipgo idQ (.seq (.block (.seq (.region (.m U U U (.a U U U (.go idQ (.seq ?_))))))))
    have hjl := s_2.len
    have hji : gt XJ k = gt p.jobs k := s_2.rest k (Int.le_refl _)
    have hjF : JBF S wf (gt XJ k) := by rw [hji]; exact hPB.2.2.2.1.2 k
    have hjb0 : ((gt XJ k).drop).length ≤ 12 := by rw [hji]; have := (hL.job k oO oO).drop.1; omega
    have hjb1 : ((gt XJ k).pick).length ≤ 12 := by rw [hji]; have := (hL.job k oO oO).pick.1; omega
    have hjb2 : ((gt XJ k).so.sws).length ≤ 12 := by rw [hji]; have := (hL.job k oO oO).so.win.len; omega
    refine .region (.v (ev_fa U fo29_4 U (r := 6) U) U (.v (ev_ld1 U ty26 U (At.own1 2 U U)) U (.m U U U ?_)))
    refine .v (ev_ix U Try.underlying26 ty53 U U oO oO (row_adr (i := k) 4 U oO oO)) U (.a U U U (.go idQ ?_))
    refine SC.draw mo [rw_ eJB 53 (.slice yA12 p.jobs.length yc13) XJ] [(24, fun w => At w (ab yA12) (ao yA12 + (k).toNat * eJB.sz) (eJB.enc (gt XJ k)))] (.c (.t (.t (.t (.t .h)))) .n) (fun w_ _ hw_ => (sc1 (row_el (E := eJB) (l := XJ) (i := k) 0 U oO lO w_ hw_) sc0)) (fun wf_57 hl_57 hx_57 hR_57 => ?_)
    refine SR.cutx (X := (Option Addr) × Nat × (Option Addr) × Nat × (Option Addr) × Nat) (fun (yA58, yc59, yA60, yc61, yA62, yc63) => ([(1, .pointer (some ⟨b1, 0, none⟩)), (2, .pointer (some ⟨b2, 0, none⟩)), (41, .int .i64 (p.vehs.length : Int)), (42, .int .i64 i), (96, .int .i64 (p.jobs.length : Int)), (97, .int .i64 k), (98, .bool (decide (k < (p.jobs.length : Int)))), (6, .int .i64 k), (7, .pointer (some ⟨(ab yA12), ao yA12 + (k).toNat * 7, none⟩))], [rw_ eJB 53 (.slice yA12 p.jobs.length yc13) (XJ.set (k).toNat (JB.mk (SO.mk (((gt XJ k).so).pl) (((gt XJ k).so).srv) (((gt XJ k).so).sws) yA58 yc59) ((gt XJ k).drop) ((gt XJ k).pick) ((gt XJ k).jsk) ((gt XJ k).jpr) yA60 yc61 yA62 yc63)), rw_ eWN 34 (.slice yA58 ((((gt XJ k).so).sws).length) yc59) (((gt XJ k).so).sws), rw_ eZ 3 (.slice yA62 (((gt XJ k).pick).length) yc63) ((gt XJ k).pick), rw_ eZ 3 (.slice yA60 (((gt XJ k).drop).length) yc61) ((gt XJ k).drop), nestJ 3 34 DJ, nestV 3 73 34 D, cel b1 [.int .i64 p.dims, .int .i64 p.tn, .slice yA4 p.time.length yc5, .int .i64 p.dn, .slice yA6 p.dist.length yc7, .slice yA10 p.vehs.length yc11, .slice yA12 p.jobs.length yc13, .slice yA14 p.ships.length yc15] 29, rw_ eSH 55 (.slice yA14 p.ships.length yc15) p.ships, rw_ eVH 37 (.slice yA10 p.vehs.length yc11) X, rw_ eZ 3 (.slice yA6 p.dist.length yc7) p.dist, rw_ eZ 3 (.slice yA4 p.time.length yc5) p.time, cel b2 [.int .i64 0, .int .i64 0, .slice none 0 0, .int .i64 0, .slice none 0 0, .slice none 0 0, .slice none 0 0, .slice none 0 0] 29])) S wf (fun ⟨yA58, yc59, yA60, yc61, yA62, yc63⟩ => ?_) (fun key64 => ?_)
    ·
     try dsimp only
     refine SQ.go idQ ?_
     refine SC.packJ (JB.mk (SO.mk (((gt XJ k).so).pl) (((gt XJ k).so).srv) (((gt XJ k).so).sws) yA58 yc59) ((gt XJ k).drop) ((gt XJ k).pick) ((gt XJ k).jsk) ((gt XJ k).jpr) yA60 yc61 yA62 yc63) (.c (.t (.t (.t (.t .h)))) (.c (.t (.t (.t .h))) (.c (.t (.t .h)) (.c (.t .h) .n)))) U U U oO oO oO ?_
     refine .region (.v (ev_add U U U (r := (k + 1)) U oO oO) U (.m U U U ?_))
     exact SP.nil (SQ.roundb (X := Int × (List JB) × (List JB)) (x := (k, XJ, DJ)) ⟨(k + 1), (XJ.set (k).toNat (JB.mk (SO.mk (((gt XJ k).so).pl) (((gt XJ k).so).srv) (((gt XJ k).so).sws) yA58 yc59) ((gt XJ k).drop) ((gt XJ k).pick) ((gt XJ k).jsk) ((gt XJ k).jpr) yA60 yc61 yA62 yc63)), (DJ ++ [(JB.mk (SO.mk (((gt XJ k).so).pl) (((gt XJ k).so).srv) (((gt XJ k).so).sws) yA58 yc59) ((gt XJ k).drop) ((gt XJ k).pick) ((gt XJ k).jsk) ((gt XJ k).jpr) yA60 yc61 yA62 yc63)])⟩ (by (try dsimp only); exact ⟨oO, oO, (cp_next s_2 oO oO U)⟩) dO (Sub.get (.c4 U U U U (.c U (.c U .n)))) (fun w hw => hw.keep (.c .h (.c (.t .h) (.c (.t .h) (.c (.t .h) (.c .h (.c .h (.c .h (.c .h (.c .h .n)))))))))))
    refine SR.join (X := Value × Value × Value) (fun (zv65, zv66, zv67) => ([(1, .pointer (some ⟨b1, 0, none⟩)), (2, .pointer (some ⟨b2, 0, none⟩)), (41, .int .i64 (p.vehs.length : Int)), (42, .int .i64 i), (96, .int .i64 (p.jobs.length : Int)), (97, .int .i64 k), (98, .bool (decide (k < (p.jobs.length : Int)))), (6, .int .i64 k), (7, .pointer (some ⟨(ab yA12), ao yA12 + (k).toNat * 7, none⟩)), (105, .pointer (some ⟨(ab yA12), ao yA12 + (k).toNat * 7, none⟩)), (106, .pointer (some ⟨(ab yA12), ao yA12 + (k).toNat * 7, none⟩)), (112, zv67), (118, zv66), (125, zv65), (127, .pointer (some ⟨(ab yA12), ao yA12 + (k).toNat * 7 + 3, none⟩))], [rw_ eWN 34 (zv65) (((gt XJ k).so).sws), rw_ eZ 3 (zv66) ((gt XJ k).pick), rw_ eZ 3 (zv67) ((gt XJ k).drop), rw_ eJB 53 (.slice yA12 p.jobs.length yc13) XJ])) 8 #[true, true, true, true, true, true, true, true, true, true, true, true, true, true, true, true, true, true, true, true, true, true, true, true, false, false, false, false, false, false, false, false] (fun ⟨zv65, zv66, zv67⟩ => ?_) (fun key68 => ?_)
    ·
     show SR _ _ _ _ _ _ _ _ _ ⟨[(1, .pointer (some ⟨b1, 0, none⟩)), (2, .pointer (some ⟨b2, 0, none⟩)), (41, .int .i64 (p.vehs.length : Int)), (42, .int .i64 i), (96, .int .i64 (p.jobs.length : Int)), (97, .int .i64 k), (98, .bool (decide (k < (p.jobs.length : Int)))), (6, .int .i64 k), (7, .pointer (some ⟨(ab yA12), ao yA12 + (k).toNat * 7, none⟩)), (105, .pointer (some ⟨(ab yA12), ao yA12 + (k).toNat * 7, none⟩)), (106, .pointer (some ⟨(ab yA12), ao yA12 + (k).toNat * 7, none⟩)), (112, zv67), (118, zv66), (125, zv65), (127, .pointer (some ⟨(ab yA12), ao yA12 + (k).toNat * 7 + 3, none⟩))], [rw_ eWN 34 (zv65) (((gt XJ k).so).sws), rw_ eZ 3 (zv66) ((gt XJ k).pick), rw_ eZ 3 (zv67) ((gt XJ k).drop), rw_ eJB 53 (.slice yA12 p.jobs.length yc13) XJ], _, _⟩
     refine .know (row_len 2 U) (fun hv71 => ?_)
     obtain ⟨A69, c70, rfl, hv71_1, hv71_2⟩ := hv71
     unfold maxLen at hv71_2
     refine SR.o 24 U (st_setel2 (E := eJB) (i := k) (cs := [.slice A69 (((gt XJ k).drop).length) c70]) (off := 3) (l2 := (XJ.set (k).toNat (JB.mk ((gt XJ k).so) ((gt XJ k).drop) ((gt XJ k).pick) ((gt XJ k).jsk) ((gt XJ k).jpr) A69 c70 ((gt XJ k).jkA) ((gt XJ k).jkc)))) (JB.mk ((gt XJ k).so) ((gt XJ k).drop) ((gt XJ k).pick) ((gt XJ k).jsk) ((gt XJ k).jpr) A69 c70 ((gt XJ k).jkA) ((gt XJ k).jkc)) U U U ty22 U U U U U (.t (.t (.t .h))) lO lO (Nat.le_of_ble_eq_true U) U U ⟨ttc (fun w_ hw_ => (tc2 kR tc0)), ?_⟩)
     refine SR.z 25 U U (ev_nil U U) ?_
     refine SR.z 26 U U (ev_fa U fo53_2 U (r := ao yA12 + (k).toNat * 7 + 4) U) ?_
     refine .know (row_len 2 U) (fun hv74 => ?_)
     obtain ⟨A72, c73, rfl, hv74_1, hv74_2⟩ := hv74
     unfold maxLen at hv74_2
     refine SR.o 27 U (st_setel2 (E := eJB) (i := k) (cs := [.slice A72 (((gt XJ k).pick).length) c73]) (off := 4) (l2 := (XJ.set (k).toNat (JB.mk ((gt XJ k).so) ((gt XJ k).drop) ((gt XJ k).pick) ((gt XJ k).jsk) ((gt XJ k).jpr) A69 c70 A72 c73))) (JB.mk ((gt XJ k).so) ((gt XJ k).drop) ((gt XJ k).pick) ((gt XJ k).jsk) ((gt XJ k).jpr) A69 c70 A72 c73) U U U ty22 U U U U U .h lO lO (Nat.le_of_ble_eq_true U) (by rw [gt_sets oO lO]; rfl) (set_set_ _ _ _ _) ⟨ttc (fun w_ hw_ => (tc2 kR tc0)), ?_⟩)
     refine SR.z 28 U U (ev_nil U U) ?_
     refine SR.z 29 U U (ev_fa U fo53_0 U (r := ao yA12 + (k).toNat * 7) U) ?_
     refine SR.z 30 U U (ev_fa U fo51_2 U (r := ao yA12 + (k).toNat * 7 + 2) U) ?_
     refine .know (row_len 1 U) (fun hv77 => ?_)
     obtain ⟨A75, c76, rfl, hv77_1, hv77_2⟩ := hv77
     unfold maxLen at hv77_2
     refine SR.o 31 U (st_setel2 (E := eJB) (i := k) (cs := [.slice A75 ((((gt XJ k).so).sws).length) c76]) (off := 2) (l2 := (XJ.set (k).toNat (JB.mk (SO.mk (((gt XJ k).so).pl) (((gt XJ k).so).srv) (((gt XJ k).so).sws) A75 c76) ((gt XJ k).drop) ((gt XJ k).pick) ((gt XJ k).jsk) ((gt XJ k).jpr) A69 c70 A72 c73))) (JB.mk (SO.mk (((gt XJ k).so).pl) (((gt XJ k).so).srv) (((gt XJ k).so).sws) A75 c76) ((gt XJ k).drop) ((gt XJ k).pick) ((gt XJ k).jsk) ((gt XJ k).jpr) A69 c70 A72 c73) U U U ty49 U U U U U .h lO lO (Nat.le_of_ble_eq_true U) (by rw [gt_sets oO lO]; rfl) (set_set_ _ _ _ _) ⟨ttc (fun w_ hw_ => (tc2 kR tc0)), ?_⟩)
     refine SR.fin kR hl_57 hx_57 hR_57 (.c (.c (.c (.c .n)))) ?_
     exact SQ.weak (key64 (A75, c76, A69, c70, A72, c73)) (Sub.get (.c4 U U U U (.c4 U U U U (.c U .n)))) (fun w hw => hw.keep (.c .h (.c .h (.c .h (.c .h (.c .h (.c .h (.c .h (.c .h (.c .h (.c .h (.c .h (.c .h .n)))))))))))))
    refine SR.m 0 U U U U ?_
    refine SR.m 1 U U U U ?_
    refine SR.m 2 U U U U ?_
    refine SR.m 4 U U U U ?_
    refine SR.z 5 U U (ev_nil U U) ?_
    refine SR.z 6 U U (ev_fa U fo53_1 U (r := ao yA12 + (k).toNat * 7 + 3) U) ?_
    refine SR.z 7 U U (ev_ld1 U ty22 U (At.elem1 (At.ofcs 0 U kR) 3 U)) ?_
    refine SR.m 10 U U U U ?_
    refine SR.z 11 U U (ev_nil U U) ?_
    refine SR.z 12 U U (ev_fa U fo53_2 U (r := ao yA12 + (k).toNat * 7 + 4) U) ?_
    refine SR.z 13 U U (ev_ld1 U ty22 U (At.elem1 (At.ofcs 0 U kR) 4 U)) ?_
    refine SR.m 16 U U U U ?_
    refine SR.z 17 U U (ev_nil U U) ?_
    refine SR.z 18 U U (ev_fa U fo53_0 U (r := ao yA12 + (k).toNat * 7) U) ?_
    refine SR.z 19 U U (ev_fa U fo51_2 U (r := ao yA12 + (k).toNat * 7 + 2) U) ?_
    refine SR.z 20 U U (ev_ld1 U ty49 U (At.elem1 (At.ofcs 0 U kR) 2 U)) ?_
    refine SR.three (i := 3) (j := 9) (l := 15) kR ⟨_, U, ?_⟩ ⟨_, U, ?_⟩ ⟨_, U, ?_⟩
    ·
     refine st_lit eZ (e := 3) (l := []) U U U U kR U U kW (fun b78 => ⟨ttr (i := k) 1 U oO oO, ?_⟩)
     refine SR.three (i := 8) (j := 9) (l := 15) kR ⟨_, U, ?_⟩ ⟨_, U, ?_⟩ ⟨_, U, ?_⟩
     ·
      refine st_app0 (E := eZ) (m := (gt XJ k).drop) U U U U Try.underlying22 ai3 U U U .h rO (Src.w (Fr.flat ((hjF).ext hx_57).1)) lO U (fun v79 => ⟨ttr (i := k) 1 U oO oO, ?_⟩)
      refine SR.two (i := 9) (j := 15) kR ⟨_, U, ?_⟩ ⟨_, U, ?_⟩
      ·
       refine st_lit eZ (e := 3) (l := []) U U U U kR U U kW (fun b80 => ⟨ttr (i := k) 2 U oO oO, ?_⟩)
       refine SR.two (i := 14) (j := 15) kR ⟨_, U, ?_⟩ ⟨_, U, ?_⟩
       ·
        refine st_app0 (E := eZ) (m := (gt XJ k).pick) U U U U Try.underlying22 ai3 U U U .h rO (Src.w (Fr.flat ((hjF).ext hx_57).2.1)) lO U (fun v81 => ⟨ttr (i := k) 2 U oO oO, ?_⟩)
        refine SR.o 15 U (st_lit eWN (e := 34) (l := []) U U U U kR U U kW (fun b82 => ⟨ttr (i := k) 3 U oO oO, ?_⟩))
        refine SR.o 21 U (st_app0 (E := eWN) (m := ((gt XJ k).so).sws) U U U U Try.underlying49 ai34 U U U .h rO (Src.w (Fr.flat ((hjF).ext hx_57).2.2)) lO U (fun v83 => ⟨ttr (i := k) 3 U oO oO, ?_⟩))
        refine SR.z 22 U U (ev_nil U U) ?_
        refine SR.z 23 U U (ev_fa U fo53_1 U (r := ao yA12 + (k).toNat * 7 + 3) U) ?_
        exact SR.weakj (key68 (v83, v81, v79)) kR (Sub.get (.c4 U U U U (.c4 U U U U (.c4 U U U U (.c U (.c U (.c U .n))))))) (fun w hw => hw.keep (.c .h (.c .h (.c .h (.c .h .n)))))
       refine st_lit eWN (e := 34) (l := []) U U U U kR U U kW (fun b84 => ⟨ttr (i := k) 3 U oO oO, ?_⟩)
       refine SR.o 14 U (st_app0 (E := eZ) (m := (gt XJ k).pick) U U U U Try.underlying22 ai3 U U U (.t .h) rO (Src.w (Fr.flat ((hjF).ext hx_57).2.1)) lO U (fun v85 => ⟨ttr (i := k) 3 U oO oO, ?_⟩))
       refine SR.o 21 U (st_app0 (E := eWN) (m := ((gt XJ k).so).sws) U U U U Try.underlying49 ai34 U U U (.t .h) rO (Src.w (Fr.flat ((hjF).ext hx_57).2.2)) lO U (fun v86 => ⟨ttr (i := k) 3 U oO oO, ?_⟩))
       refine SR.z 22 U U (ev_nil U U) ?_
       refine SR.z 23 U U (ev_fa U fo53_1 U (r := ao yA12 + (k).toNat * 7 + 3) U) ?_
       exact SR.weakj (key68 (v86, v85, v79)) kR (Sub.get (.c4 U U U U (.c4 U U U U (.c4 U U U U (.c U (.c U (.c U .n))))))) (fun w hw => hw.keep (.c .h (.c .h (.c .h (.c .h .n)))))
      refine st_lit eWN (e := 34) (l := []) U U U U kR U U kW (fun b87 => ⟨ttr (i := k) 2 U oO oO, ?_⟩)
      refine SR.o 9 U (st_lit eZ (e := 3) (l := []) U U U U kR U U kW (fun b88 => ⟨ttr (i := k) 3 U oO oO, ?_⟩))
      refine SR.o 14 U (st_app0 (E := eZ) (m := (gt XJ k).pick) U U U U Try.underlying22 ai3 U U U .h rO (Src.w (Fr.flat ((hjF).ext hx_57).2.1)) lO U (fun v89 => ⟨ttr (i := k) 3 U oO oO, ?_⟩))
      refine SR.o 21 U (st_app0 (E := eWN) (m := ((gt XJ k).so).sws) U U U U Try.underlying49 ai34 U U U (.t .h) rO (Src.w (Fr.flat ((hjF).ext hx_57).2.2)) lO U (fun v90 => ⟨ttr (i := k) 3 U oO oO, ?_⟩))
      refine SR.z 22 U U (ev_nil U U) ?_
      refine SR.z 23 U U (ev_fa U fo53_1 U (r := ao yA12 + (k).toNat * 7 + 3) U) ?_
      exact SR.weakj (key68 (v90, v89, v79)) kR (Sub.get (.c4 U U U U (.c4 U U U U (.c4 U U U U (.c U (.c U (.c U .n))))))) (fun w hw => hw.keep (.c .h (.c .h (.c .h (.c .h .n)))))
     ·
      refine st_lit eZ (e := 3) (l := []) U U U U kR U U kW (fun b91 => ⟨ttr (i := k) 2 U oO oO, ?_⟩)
      refine SR.two (i := 8) (j := 15) kR ⟨_, U, ?_⟩ ⟨_, U, ?_⟩
      ·
       refine st_app0 (E := eZ) (m := (gt XJ k).drop) U U U U Try.underlying22 ai3 U U U (.t .h) rO (Src.w (Fr.flat ((hjF).ext hx_57).1)) lO U (fun v92 => ⟨ttr (i := k) 2 U oO oO, ?_⟩)
       refine SR.two (i := 14) (j := 15) kR ⟨_, U, ?_⟩ ⟨_, U, ?_⟩
       ·
        refine st_app0 (E := eZ) (m := (gt XJ k).pick) U U U U Try.underlying22 ai3 U U U (.t .h) rO (Src.w (Fr.flat ((hjF).ext hx_57).2.1)) lO U (fun v93 => ⟨ttr (i := k) 2 U oO oO, ?_⟩)
        refine SR.o 15 U (st_lit eWN (e := 34) (l := []) U U U U kR U U kW (fun b94 => ⟨ttr (i := k) 3 U oO oO, ?_⟩))
        refine SR.o 21 U (st_app0 (E := eWN) (m := ((gt XJ k).so).sws) U U U U Try.underlying49 ai34 U U U .h rO (Src.w (Fr.flat ((hjF).ext hx_57).2.2)) lO U (fun v95 => ⟨ttr (i := k) 3 U oO oO, ?_⟩))
        refine SR.z 22 U U (ev_nil U U) ?_
        refine SR.z 23 U U (ev_fa U fo53_1 U (r := ao yA12 + (k).toNat * 7 + 3) U) ?_
        exact SR.weakj (key68 (v95, v93, v92)) kR (Sub.get (.c4 U U U U (.c4 U U U U (.c4 U U U U (.c U (.c U (.c U .n))))))) (fun w hw => hw.keep (.c .h (.c .h (.c .h (.c .h .n)))))
       refine st_lit eWN (e := 34) (l := []) U U U U kR U U kW (fun b96 => ⟨ttr (i := k) 3 U oO oO, ?_⟩)
       refine SR.o 14 U (st_app0 (E := eZ) (m := (gt XJ k).pick) U U U U Try.underlying22 ai3 U U U (.t (.t .h)) rO (Src.w (Fr.flat ((hjF).ext hx_57).2.1)) lO U (fun v97 => ⟨ttr (i := k) 3 U oO oO, ?_⟩))
       refine SR.o 21 U (st_app0 (E := eWN) (m := ((gt XJ k).so).sws) U U U U Try.underlying49 ai34 U U U (.t .h) rO (Src.w (Fr.flat ((hjF).ext hx_57).2.2)) lO U (fun v98 => ⟨ttr (i := k) 3 U oO oO, ?_⟩))
       refine SR.z 22 U U (ev_nil U U) ?_
       refine SR.z 23 U U (ev_fa U fo53_1 U (r := ao yA12 + (k).toNat * 7 + 3) U) ?_
       exact SR.weakj (key68 (v98, v97, v92)) kR (Sub.get (.c4 U U U U (.c4 U U U U (.c4 U U U U (.c U (.c U (.c U .n))))))) (fun w hw => hw.keep (.c .h (.c .h (.c .h (.c .h .n)))))
      refine st_lit eWN (e := 34) (l := []) U U U U kR U U kW (fun b99 => ⟨ttr (i := k) 3 U oO oO, ?_⟩)
      refine SR.o 8 U (st_app0 (E := eZ) (m := (gt XJ k).drop) U U U U Try.underlying22 ai3 U U U (.t (.t .h)) rO (Src.w (Fr.flat ((hjF).ext hx_57).1)) lO U (fun v100 => ⟨ttr (i := k) 3 U oO oO, ?_⟩))
      refine SR.o 14 U (st_app0 (E := eZ) (m := (gt XJ k).pick) U U U U Try.underlying22 ai3 U U U (.t (.t .h)) rO (Src.w (Fr.flat ((hjF).ext hx_57).2.1)) lO U (fun v101 => ⟨ttr (i := k) 3 U oO oO, ?_⟩))
      refine SR.o 21 U (st_app0 (E := eWN) (m := ((gt XJ k).so).sws) U U U U Try.underlying49 ai34 U U U (.t (.t .h)) rO (Src.w (Fr.flat ((hjF).ext hx_57).2.2)) lO U (fun v102 => ⟨ttr (i := k) 3 U oO oO, ?_⟩))
      refine SR.z 22 U U (ev_nil U U) ?_
      refine SR.z 23 U U (ev_fa U fo53_1 U (r := ao yA12 + (k).toNat * 7 + 3) U) ?_
      exact SR.weakj (key68 (v102, v101, v100)) kR (Sub.get (.c4 U U U U (.c4 U U U U (.c4 U U U U (.c U (.c U (.c U .n))))))) (fun w hw => hw.keep (.c .h (.c .h (.c .h (.c .h .n)))))
     refine st_lit eWN (e := 34) (l := []) U U U U kR U U kW (fun b103 => ⟨ttr (i := k) 2 U oO oO, ?_⟩)
     refine SR.two (i := 8) (j := 9) kR ⟨_, U, ?_⟩ ⟨_, U, ?_⟩
     ·
      refine st_app0 (E := eZ) (m := (gt XJ k).drop) U U U U Try.underlying22 ai3 U U U (.t .h) rO (Src.w (Fr.flat ((hjF).ext hx_57).1)) lO U (fun v104 => ⟨ttr (i := k) 2 U oO oO, ?_⟩)
      refine SR.o 9 U (st_lit eZ (e := 3) (l := []) U U U U kR U U kW (fun b105 => ⟨ttr (i := k) 3 U oO oO, ?_⟩))
      refine SR.o 14 U (st_app0 (E := eZ) (m := (gt XJ k).pick) U U U U Try.underlying22 ai3 U U U .h rO (Src.w (Fr.flat ((hjF).ext hx_57).2.1)) lO U (fun v106 => ⟨ttr (i := k) 3 U oO oO, ?_⟩))
      refine SR.o 21 U (st_app0 (E := eWN) (m := ((gt XJ k).so).sws) U U U U Try.underlying49 ai34 U U U (.t (.t .h)) rO (Src.w (Fr.flat ((hjF).ext hx_57).2.2)) lO U (fun v107 => ⟨ttr (i := k) 3 U oO oO, ?_⟩))
      refine SR.z 22 U U (ev_nil U U) ?_
      refine SR.z 23 U U (ev_fa U fo53_1 U (r := ao yA12 + (k).toNat * 7 + 3) U) ?_
      exact SR.weakj (key68 (v107, v106, v104)) kR (Sub.get (.c4 U U U U (.c4 U U U U (.c4 U U U U (.c U (.c U (.c U .n))))))) (fun w hw => hw.keep (.c .h (.c .h (.c .h (.c .h .n)))))
     refine st_lit eZ (e := 3) (l := []) U U U U kR U U kW (fun b108 => ⟨ttr (i := k) 3 U oO oO, ?_⟩)
     refine SR.o 8 U (st_app0 (E := eZ) (m := (gt XJ k).drop) U U U U Try.underlying22 ai3 U U U (.t (.t .h)) rO (Src.w (Fr.flat ((hjF).ext hx_57).1)) lO U (fun v109 => ⟨ttr (i := k) 3 U oO oO, ?_⟩))
     refine SR.o 14 U (st_app0 (E := eZ) (m := (gt XJ k).pick) U U U U Try.underlying22 ai3 U U U (.t .h) rO (Src.w (Fr.flat ((hjF).ext hx_57).2.1)) lO U (fun v110 => ⟨ttr (i := k) 3 U oO oO, ?_⟩))
     refine SR.o 21 U (st_app0 (E := eWN) (m := ((gt XJ k).so).sws) U U U U Try.underlying49 ai34 U U U (.t (.t .h)) rO (Src.w (Fr.flat ((hjF).ext hx_57).2.2)) lO U (fun v111 => ⟨ttr (i := k) 3 U oO oO, ?_⟩))
     refine SR.z 22 U U (ev_nil U U) ?_
     refine SR.z 23 U U (ev_fa U fo53_1 U (r := ao yA12 + (k).toNat * 7 + 3) U) ?_
     exact SR.weakj (key68 (v111, v110, v109)) kR (Sub.get (.c4 U U U U (.c4 U U U U (.c4 U U U U (.c U (.c U (.c U .n))))))) (fun w hw => hw.keep (.c .h (.c .h (.c .h (.c .h .n)))))
    ·
     refine st_lit eZ (e := 3) (l := []) U U U U kR U U kW (fun b112 => ⟨ttr (i := k) 1 U oO oO, ?_⟩)
     refine SR.two (i := 3) (j := 15) kR ⟨_, U, ?_⟩ ⟨_, U, ?_⟩
     ·
      refine st_lit eZ (e := 3) (l := []) U U U U kR U U kW (fun b113 => ⟨ttr (i := k) 2 U oO oO, ?_⟩)
      refine SR.two (i := 8) (j := 15) kR ⟨_, U, ?_⟩ ⟨_, U, ?_⟩
      ·
       refine st_app0 (E := eZ) (m := (gt XJ k).drop) U U U U Try.underlying22 ai3 U U U .h rO (Src.w (Fr.flat ((hjF).ext hx_57).1)) lO U (fun v114 => ⟨ttr (i := k) 2 U oO oO, ?_⟩)
       refine SR.two (i := 14) (j := 15) kR ⟨_, U, ?_⟩ ⟨_, U, ?_⟩
       ·
        refine st_app0 (E := eZ) (m := (gt XJ k).pick) U U U U Try.underlying22 ai3 U U U (.t .h) rO (Src.w (Fr.flat ((hjF).ext hx_57).2.1)) lO U (fun v115 => ⟨ttr (i := k) 2 U oO oO, ?_⟩)
        refine SR.o 15 U (st_lit eWN (e := 34) (l := []) U U U U kR U U kW (fun b116 => ⟨ttr (i := k) 3 U oO oO, ?_⟩))
        refine SR.o 21 U (st_app0 (E := eWN) (m := ((gt XJ k).so).sws) U U U U Try.underlying49 ai34 U U U .h rO (Src.w (Fr.flat ((hjF).ext hx_57).2.2)) lO U (fun v117 => ⟨ttr (i := k) 3 U oO oO, ?_⟩))
        refine SR.z 22 U U (ev_nil U U) ?_
        refine SR.z 23 U U (ev_fa U fo53_1 U (r := ao yA12 + (k).toNat * 7 + 3) U) ?_
        exact SR.weakj (key68 (v117, v115, v114)) kR (Sub.get (.c4 U U U U (.c4 U U U U (.c4 U U U U (.c U (.c U (.c U .n))))))) (fun w hw => hw.keep (.c .h (.c .h (.c .h (.c .h .n)))))
       refine st_lit eWN (e := 34) (l := []) U U U U kR U U kW (fun b118 => ⟨ttr (i := k) 3 U oO oO, ?_⟩)
       refine SR.o 14 U (st_app0 (E := eZ) (m := (gt XJ k).pick) U U U U Try.underlying22 ai3 U U U (.t (.t .h)) rO (Src.w (Fr.flat ((hjF).ext hx_57).2.1)) lO U (fun v119 => ⟨ttr (i := k) 3 U oO oO, ?_⟩))
       refine SR.o 21 U (st_app0 (E := eWN) (m := ((gt XJ k).so).sws) U U U U Try.underlying49 ai34 U U U (.t .h) rO (Src.w (Fr.flat ((hjF).ext hx_57).2.2)) lO U (fun v120 => ⟨ttr (i := k) 3 U oO oO, ?_⟩))
       refine SR.z 22 U U (ev_nil U U) ?_
       refine SR.z 23 U U (ev_fa U fo53_1 U (r := ao yA12 + (k).toNat * 7 + 3) U) ?_
       exact SR.weakj (key68 (v120, v119, v114)) kR (Sub.get (.c4 U U U U (.c4 U U U U (.c4 U U U U (.c U (.c U (.c U .n))))))) (fun w hw => hw.keep (.c .h (.c .h (.c .h (.c .h .n)))))
      refine st_lit eWN (e := 34) (l := []) U U U U kR U U kW (fun b121 => ⟨ttr (i := k) 3 U oO oO, ?_⟩)
      refine SR.o 8 U (st_app0 (E := eZ) (m := (gt XJ k).drop) U U U U Try.underlying22 ai3 U U U (.t .h) rO (Src.w (Fr.flat ((hjF).ext hx_57).1)) lO U (fun v122 => ⟨ttr (i := k) 3 U oO oO, ?_⟩))
      refine SR.o 14 U (st_app0 (E := eZ) (m := (gt XJ k).pick) U U U U Try.underlying22 ai3 U U U (.t (.t .h)) rO (Src.w (Fr.flat ((hjF).ext hx_57).2.1)) lO U (fun v123 => ⟨ttr (i := k) 3 U oO oO, ?_⟩))
      refine SR.o 21 U (st_app0 (E := eWN) (m := ((gt XJ k).so).sws) U U U U Try.underlying49 ai34 U U U (.t (.t .h)) rO (Src.w (Fr.flat ((hjF).ext hx_57).2.2)) lO U (fun v124 => ⟨ttr (i := k) 3 U oO oO, ?_⟩))
      refine SR.z 22 U U (ev_nil U U) ?_
      refine SR.z 23 U U (ev_fa U fo53_1 U (r := ao yA12 + (k).toNat * 7 + 3) U) ?_
      exact SR.weakj (key68 (v124, v123, v122)) kR (Sub.get (.c4 U U U U (.c4 U U U U (.c4 U U U U (.c U (.c U (.c U .n))))))) (fun w hw => hw.keep (.c .h (.c .h (.c .h (.c .h .n)))))
     refine st_lit eWN (e := 34) (l := []) U U U U kR U U kW (fun b125 => ⟨ttr (i := k) 2 U oO oO, ?_⟩)
     refine SR.o 3 U (st_lit eZ (e := 3) (l := []) U U U U kR U U kW (fun b126 => ⟨ttr (i := k) 3 U oO oO, ?_⟩))
     refine SR.o 8 U (st_app0 (E := eZ) (m := (gt XJ k).drop) U U U U Try.underlying22 ai3 U U U .h rO (Src.w (Fr.flat ((hjF).ext hx_57).1)) lO U (fun v127 => ⟨ttr (i := k) 3 U oO oO, ?_⟩))
     refine SR.o 14 U (st_app0 (E := eZ) (m := (gt XJ k).pick) U U U U Try.underlying22 ai3 U U U (.t (.t .h)) rO (Src.w (Fr.flat ((hjF).ext hx_57).2.1)) lO U (fun v128 => ⟨ttr (i := k) 3 U oO oO, ?_⟩))
     refine SR.o 21 U (st_app0 (E := eWN) (m := ((gt XJ k).so).sws) U U U U Try.underlying49 ai34 U U U (.t (.t .h)) rO (Src.w (Fr.flat ((hjF).ext hx_57).2.2)) lO U (fun v129 => ⟨ttr (i := k) 3 U oO oO, ?_⟩))
     refine SR.z 22 U U (ev_nil U U) ?_
     refine SR.z 23 U U (ev_fa U fo53_1 U (r := ao yA12 + (k).toNat * 7 + 3) U) ?_
     exact SR.weakj (key68 (v129, v128, v127)) kR (Sub.get (.c4 U U U U (.c4 U U U U (.c4 U U U U (.c U (.c U (.c U .n))))))) (fun w hw => hw.keep (.c .h (.c .h (.c .h (.c .h .n)))))
    refine st_lit eWN (e := 34) (l := []) U U U U kR U U kW (fun b130 => ⟨ttr (i := k) 1 U oO oO, ?_⟩)
    refine SR.two (i := 3) (j := 9) kR ⟨_, U, ?_⟩ ⟨_, U, ?_⟩
    ·
     refine st_lit eZ (e := 3) (l := []) U U U U kR U U kW (fun b131 => ⟨ttr (i := k) 2 U oO oO, ?_⟩)
     refine SR.two (i := 8) (j := 9) kR ⟨_, U, ?_⟩ ⟨_, U, ?_⟩
     ·
      refine st_app0 (E := eZ) (m := (gt XJ k).drop) U U U U Try.underlying22 ai3 U U U .h rO (Src.w (Fr.flat ((hjF).ext hx_57).1)) lO U (fun v132 => ⟨ttr (i := k) 2 U oO oO, ?_⟩)
      refine SR.o 9 U (st_lit eZ (e := 3) (l := []) U U U U kR U U kW (fun b133 => ⟨ttr (i := k) 3 U oO oO, ?_⟩))
      refine SR.o 14 U (st_app0 (E := eZ) (m := (gt XJ k).pick) U U U U Try.underlying22 ai3 U U U .h rO (Src.w (Fr.flat ((hjF).ext hx_57).2.1)) lO U (fun v134 => ⟨ttr (i := k) 3 U oO oO, ?_⟩))
      refine SR.o 21 U (st_app0 (E := eWN) (m := ((gt XJ k).so).sws) U U U U Try.underlying49 ai34 U U U (.t (.t .h)) rO (Src.w (Fr.flat ((hjF).ext hx_57).2.2)) lO U (fun v135 => ⟨ttr (i := k) 3 U oO oO, ?_⟩))
      refine SR.z 22 U U (ev_nil U U) ?_
      refine SR.z 23 U U (ev_fa U fo53_1 U (r := ao yA12 + (k).toNat * 7 + 3) U) ?_
      exact SR.weakj (key68 (v135, v134, v132)) kR (Sub.get (.c4 U U U U (.c4 U U U U (.c4 U U U U (.c U (.c U (.c U .n))))))) (fun w hw => hw.keep (.c .h (.c .h (.c .h (.c .h .n)))))
     refine st_lit eZ (e := 3) (l := []) U U U U kR U U kW (fun b136 => ⟨ttr (i := k) 3 U oO oO, ?_⟩)
     refine SR.o 8 U (st_app0 (E := eZ) (m := (gt XJ k).drop) U U U U Try.underlying22 ai3 U U U (.t .h) rO (Src.w (Fr.flat ((hjF).ext hx_57).1)) lO U (fun v137 => ⟨ttr (i := k) 3 U oO oO, ?_⟩))
     refine SR.o 14 U (st_app0 (E := eZ) (m := (gt XJ k).pick) U U U U Try.underlying22 ai3 U U U (.t .h) rO (Src.w (Fr.flat ((hjF).ext hx_57).2.1)) lO U (fun v138 => ⟨ttr (i := k) 3 U oO oO, ?_⟩))
     refine SR.o 21 U (st_app0 (E := eWN) (m := ((gt XJ k).so).sws) U U U U Try.underlying49 ai34 U U U (.t (.t .h)) rO (Src.w (Fr.flat ((hjF).ext hx_57).2.2)) lO U (fun v139 => ⟨ttr (i := k) 3 U oO oO, ?_⟩))
     refine SR.z 22 U U (ev_nil U U) ?_
     refine SR.z 23 U U (ev_fa U fo53_1 U (r := ao yA12 + (k).toNat * 7 + 3) U) ?_
     exact SR.weakj (key68 (v139, v138, v137)) kR (Sub.get (.c4 U U U U (.c4 U U U U (.c4 U U U U (.c U (.c U (.c U .n))))))) (fun w hw => hw.keep (.c .h (.c .h (.c .h (.c .h .n)))))
    refine st_lit eZ (e := 3) (l := []) U U U U kR U U kW (fun b140 => ⟨ttr (i := k) 2 U oO oO, ?_⟩)
    refine SR.o 3 U (st_lit eZ (e := 3) (l := []) U U U U kR U U kW (fun b141 => ⟨ttr (i := k) 3 U oO oO, ?_⟩))
    refine SR.o 8 U (st_app0 (E := eZ) (m := (gt XJ k).drop) U U U U Try.underlying22 ai3 U U U .h rO (Src.w (Fr.flat ((hjF).ext hx_57).1)) lO U (fun v142 => ⟨ttr (i := k) 3 U oO oO, ?_⟩))
    refine SR.o 14 U (st_app0 (E := eZ) (m := (gt XJ k).pick) U U U U Try.underlying22 ai3 U U U (.t .h) rO (Src.w (Fr.flat ((hjF).ext hx_57).2.1)) lO U (fun v143 => ⟨ttr (i := k) 3 U oO oO, ?_⟩))
    refine SR.o 21 U (st_app0 (E := eWN) (m := ((gt XJ k).so).sws) U U U U Try.underlying49 ai34 U U U (.t (.t .h)) rO (Src.w (Fr.flat ((hjF).ext hx_57).2.2)) lO U (fun v144 => ⟨ttr (i := k) 3 U oO oO, ?_⟩))
    refine SR.z 22 U U (ev_nil U U) ?_
    refine SR.z 23 U U (ev_fa U fo53_1 U (r := ao yA12 + (k).toNat * 7 + 3) U) ?_
    exact SR.weakj (key68 (v144, v143, v142)) kR (Sub.get (.c4 U U U U (.c4 U U U U (.c4 U U U U (.c U (.c U (.c U .n))))))) (fun w hw => hw.keep (.c .h (.c .h (.c .h (.c .h .n)))))
   refine .exit idQ ?_
   refine .seq (.seq (.region (.v (ev_fa U fo29_5 U (r := 7) U) U (.v (ev_ld1 U ty27 U (At.own1 2 U U)) U (.v (ev_len U Try.underlying27 U) U ?_)))))
   refine .m U U U (.go idQ (.block ?_))
   refine SC.nestZ0 3 34 ?_
   refine .loop (X := Int × (List SH) × (List SH)) (fun ⟨m, XS, DS⟩ => 0 ≤ m ∧ m ≤ (p.ships.length : Int) ∧ CpI eraS p.ships XS DS m) (fun ⟨m, XS, DS⟩ => [(1, .pointer (some ⟨b1, 0, none⟩)), (2, .pointer (some ⟨b2, 0, none⟩)), (41, .int .i64 (p.vehs.length : Int)), (42, .int .i64 i), (96, .int .i64 (p.jobs.length : Int)), (97, .int .i64 k), (136, .int .i64 (p.ships.length : Int)), (137, .int .i64 m)]) (fun ⟨m, XS, DS⟩ => [nestZ 3 34 DS, nestJ 3 34 DJ, nestV 3 73 34 D, cel b1 [.int .i64 p.dims, .int .i64 p.tn, .slice yA4 p.time.length yc5, .int .i64 p.dn, .slice yA6 p.dist.length yc7, .slice yA10 p.vehs.length yc11, .slice yA12 p.jobs.length yc13, .slice yA14 p.ships.length yc15] 29, rw_ eSH 55 (.slice yA14 p.ships.length yc15) XS, rw_ eJB 53 (.slice yA12 p.jobs.length yc13) XJ, rw_ eVH 37 (.slice yA10 p.vehs.length yc11) X, rw_ eZ 3 (.slice yA6 p.dist.length yc7) p.dist, rw_ eZ 3 (.slice yA4 p.time.length yc5) p.time, cel b2 [.int .i64 0, .int .i64 0, .slice none 0 0, .int .i64 0, .slice none 0 0, .slice none 0 0, .slice none 0 0, .slice none 0 0] 29]) (fun _ => S) (fun _ => wf) (fun ⟨m, XS, DS⟩ => ((p.ships.length : Int) - m).toNat) (fun a_ w_ hs_ hw_ => ⟨⟨0, p.ships, ([] : List SH)⟩, (by (try dsimp only); exact ⟨oO, oO, cp_init⟩), hs_.mono (Sub.get (.c4 U U U U (.c4 U U U U .n))), hw_.keep (.c .h (.c .h (.c .h (.c .h (.c .h (.c .h (.c .h (.c .h (.c .h (.c .h .n))))))))))⟩) (fun ⟨m, XS, DS⟩ ⟨t_0, t_1, t_2⟩ => ?_)
   show SC _ _ _ _ _ ⟨[(1, .pointer (some ⟨b1, 0, none⟩)), (2, .pointer (some ⟨b2, 0, none⟩)), (41, .int .i64 (p.vehs.length : Int)), (42, .int .i64 i), (96, .int .i64 (p.jobs.length : Int)), (97, .int .i64 k), (136, .int .i64 (p.ships.length : Int)), (137, .int .i64 m)], [nestZ 3 34 DS, nestJ 3 34 DJ, nestV 3 73 34 D, cel b1 [.int .i64 p.dims, .int .i64 p.tn, .slice yA4 p.time.length yc5, .int .i64 p.dn, .slice yA6 p.dist.length yc7, .slice yA10 p.vehs.length yc11, .slice yA12 p.jobs.length yc13, .slice yA14 p.ships.length yc15] 29, rw_ eSH 55 (.slice yA14 p.ships.length yc15) XS, rw_ eJB 53 (.slice yA12 p.jobs.length yc13) XJ, rw_ eVH 37 (.slice yA10 p.vehs.length yc11) X, rw_ eZ 3 (.slice yA6 p.dist.length yc7) p.dist, rw_ eZ 3 (.slice yA4 p.time.length yc5) p.time, cel b2 [.int .i64 0, .int .i64 0, .slice none 0 0, .int .i64 0, .slice none 0 0, .slice none 0 0, .slice none 0 0, .slice none 0 0] 29], S, wf⟩
   refine .seq (.region (.v (ev_cmp U U U U) U (.go idQ (.seq (.condI U bD (fun h145 => ?_) (fun h145 => ?_))))))
   ·
    refine .skipgo idQ (.seq (.block (.seq (.region (.m U U U (.a U U U (.go idQ (.seq ?_))))))))
    have hsl := t_2.len
    have hsi : gt XS m = gt p.ships m := t_2.rest m (Int.le_refl _)
    have hsF : SHF S wf (gt XS m) := by rw [hsi]; exact hPB.2.2.2.2.2 m
    have hsb0 : ((gt XS m).am).length ≤ 12 := by rw [hsi]; have := (hL.ship m oO oO).am.1; omega
    have hsb1 : ((gt XS m).sp.sws).length ≤ 12 := by rw [hsi]; have := (hL.ship m oO oO).sp.win.len; omega
    have hsb2 : ((gt XS m).sd.sws).length ≤ 12 := by rw [hsi]; have := (hL.ship m oO oO).sd.win.len; omega
    refine .region (.v (ev_fa U fo29_5 U (r := 7) U) U (.v (ev_ld1 U ty27 U (At.own1 3 U U)) U (.m U U U ?_)))
    refine .v (ev_ix U Try.underlying27 ty55 U U oO oO (row_adr (i := m) 4 U oO oO)) U (.a U U U (.go idQ ?_))
    refine SC.draw mo [rw_ eSH 55 (.slice yA14 p.ships.length yc15) XS] [(25, fun w => At w (ab yA14) (ao yA14 + (m).toNat * eSH.sz) (eSH.enc (gt XS m)))] (.c (.t (.t (.t (.t .h)))) .n) (fun w_ _ hw_ => (sc1 (row_el (E := eSH) (l := XS) (i := m) 0 U oO lO w_ hw_) sc0)) (fun wf_146 hl_146 hx_146 hR_146 => ?_)
    refine SR.cutx (X := (Option Addr) × Nat × (Option Addr) × Nat × (Option Addr) × Nat) (fun (yA147, yc148, yA149, yc150, yA151, yc152) => ([(1, .pointer (some ⟨b1, 0, none⟩)), (2, .pointer (some ⟨b2, 0, none⟩)), (41, .int .i64 (p.vehs.length : Int)), (42, .int .i64 i), (96, .int .i64 (p.jobs.length : Int)), (97, .int .i64 k), (136, .int .i64 (p.ships.length : Int)), (137, .int .i64 m), (138, .bool (decide (m < (p.ships.length : Int)))), (8, .int .i64 m), (9, .pointer (some ⟨(ab yA14), ao yA14 + (m).toNat * 9, none⟩))], [rw_ eSH 55 (.slice yA14 p.ships.length yc15) (XS.set (m).toNat (SH.mk (SO.mk (((gt XS m).sp).pl) (((gt XS m).sp).srv) (((gt XS m).sp).sws) yA147 yc148) (SO.mk (((gt XS m).sd).pl) (((gt XS m).sd).srv) (((gt XS m).sd).sws) yA149 yc150) ((gt XS m).am) ((gt XS m).ssk) ((gt XS m).spr) yA151 yc152)), rw_ eWN 34 (.slice yA149 ((((gt XS m).sd).sws).length) yc150) (((gt XS m).sd).sws), rw_ eWN 34 (.slice yA147 ((((gt XS m).sp).sws).length) yc148) (((gt XS m).sp).sws), rw_ eZ 3 (.slice yA151 (((gt XS m).am).length) yc152) ((gt XS m).am), nestZ 3 34 DS, nestJ 3 34 DJ, nestV 3 73 34 D, cel b1 [.int .i64 p.dims, .int .i64 p.tn, .slice yA4 p.time.length yc5, .int .i64 p.dn, .slice yA6 p.dist.length yc7, .slice yA10 p.vehs.length yc11, .slice yA12 p.jobs.length yc13, .slice yA14 p.ships.length yc15] 29, rw_ eJB 53 (.slice yA12 p.jobs.length yc13) XJ, rw_ eVH 37 (.slice yA10 p.vehs.length yc11) X, rw_ eZ 3 (.slice yA6 p.dist.length yc7) p.dist, rw_ eZ 3 (.slice yA4 p.time.length yc5) p.time, cel b2 [.int .i64 0, .int .i64 0, .slice none 0 0, .int .i64 0, .slice none 0 0, .slice none 0 0, .slice none 0 0, .slice none 0 0] 29])) S wf (fun ⟨yA147, yc148, yA149, yc150, yA151, yc152⟩ => ?_) (fun key153 => ?_)
    ·
     try dsimp only
     refine SQ.go idQ ?_
     refine SC.packZ (SH.mk (SO.mk (((gt XS m).sp).pl) (((gt XS m).sp).srv) (((gt XS m).sp).sws) yA147 yc148) (SO.mk (((gt XS m).sd).pl) (((gt XS m).sd).srv) (((gt XS m).sd).sws) yA149 yc150) ((gt XS m).am) ((gt XS m).ssk) ((gt XS m).spr) yA151 yc152) (.c (.t (.t (.t (.t .h)))) (.c (.t (.t (.t .h))) (.c (.t (.t .h)) (.c (.t .h) .n)))) U U U oO oO oO ?_
     refine .region (.v (ev_add U U U (r := (m + 1)) U oO oO) U (.m U U U ?_))
     exact SP.nil (SQ.roundb (X := Int × (List SH) × (List SH)) (x := (m, XS, DS)) ⟨(m + 1), (XS.set (m).toNat (SH.mk (SO.mk (((gt XS m).sp).pl) (((gt XS m).sp).srv) (((gt XS m).sp).sws) yA147 yc148) (SO.mk (((gt XS m).sd).pl) (((gt XS m).sd).srv) (((gt XS m).sd).sws) yA149 yc150) ((gt XS m).am) ((gt XS m).ssk) ((gt XS m).spr) yA151 yc152)), (DS ++ [(SH.mk (SO.mk (((gt XS m).sp).pl) (((gt XS m).sp).srv) (((gt XS m).sp).sws) yA147 yc148) (SO.mk (((gt XS m).sd).pl) (((gt XS m).sd).srv) (((gt XS m).sd).sws) yA149 yc150) ((gt XS m).am) ((gt XS m).ssk) ((gt XS m).spr) yA151 yc152)])⟩ (by (try dsimp only); exact ⟨oO, oO, (cp_next t_2 oO oO U)⟩) dO (Sub.get (.c4 U U U U (.c4 U U U U .n))) (fun w hw => hw.keep (.c .h (.c (.t .h) (.c (.t .h) (.c (.t .h) (.c .h (.c .h (.c .h (.c .h (.c .h (.c .h .n))))))))))))
    refine SR.join (X := Value × Value × Value) (fun (zv154, zv155, zv156) => ([(1, .pointer (some ⟨b1, 0, none⟩)), (2, .pointer (some ⟨b2, 0, none⟩)), (41, .int .i64 (p.vehs.length : Int)), (42, .int .i64 i), (96, .int .i64 (p.jobs.length : Int)), (97, .int .i64 k), (136, .int .i64 (p.ships.length : Int)), (137, .int .i64 m), (138, .bool (decide (m < (p.ships.length : Int)))), (8, .int .i64 m), (9, .pointer (some ⟨(ab yA14), ao yA14 + (m).toNat * 9, none⟩)), (145, .pointer (some ⟨(ab yA14), ao yA14 + (m).toNat * 9, none⟩)), (146, .pointer (some ⟨(ab yA14), ao yA14 + (m).toNat * 9, none⟩)), (152, zv156), (159, zv155), (166, zv154), (168, .pointer (some ⟨(ab yA14), ao yA14 + (m).toNat * 9 + 6, none⟩))], [rw_ eWN 34 (zv154) (((gt XS m).sd).sws), rw_ eWN 34 (zv155) (((gt XS m).sp).sws), rw_ eZ 3 (zv156) ((gt XS m).am), rw_ eSH 55 (.slice yA14 p.ships.length yc15) XS])) 9 #[true, true, true, true, true, true, true, true, true, true, true, true, true, true, true, true, true, true, true, true, true, true, true, true, true, false, false, false, false, false, false, false, false, false] (fun ⟨zv154, zv155, zv156⟩ => ?_) (fun key157 => ?_)
    ·
     show SR _ _ _ _ _ _ _ _ _ ⟨[(1, .pointer (some ⟨b1, 0, none⟩)), (2, .pointer (some ⟨b2, 0, none⟩)), (41, .int .i64 (p.vehs.length : Int)), (42, .int .i64 i), (96, .int .i64 (p.jobs.length : Int)), (97, .int .i64 k), (136, .int .i64 (p.ships.length : Int)), (137, .int .i64 m), (138, .bool (decide (m < (p.ships.length : Int)))), (8, .int .i64 m), (9, .pointer (some ⟨(ab yA14), ao yA14 + (m).toNat * 9, none⟩)), (145, .pointer (some ⟨(ab yA14), ao yA14 + (m).toNat * 9, none⟩)), (146, .pointer (some ⟨(ab yA14), ao yA14 + (m).toNat * 9, none⟩)), (152, zv156), (159, zv155), (166, zv154), (168, .pointer (some ⟨(ab yA14), ao yA14 + (m).toNat * 9 + 6, none⟩))], [rw_ eWN 34 (zv154) (((gt XS m).sd).sws), rw_ eWN 34 (zv155) (((gt XS m).sp).sws), rw_ eZ 3 (zv156) ((gt XS m).am), rw_ eSH 55 (.slice yA14 p.ships.length yc15) XS], _, _⟩
     refine .know (row_len 2 U) (fun hv160 => ?_)
     obtain ⟨A158, c159, rfl, hv160_1, hv160_2⟩ := hv160
     unfold maxLen at hv160_2
     refine SR.o 25 U (st_setel2 (E := eSH) (i := m) (cs := [.slice A158 (((gt XS m).am).length) c159]) (off := 6) (l2 := (XS.set (m).toNat (SH.mk ((gt XS m).sp) ((gt XS m).sd) ((gt XS m).am) ((gt XS m).ssk) ((gt XS m).spr) A158 c159))) (SH.mk ((gt XS m).sp) ((gt XS m).sd) ((gt XS m).am) ((gt XS m).ssk) ((gt XS m).spr) A158 c159) U U U ty22 U U U U U (.t (.t (.t .h))) lO lO (Nat.le_of_ble_eq_true U) U U ⟨ttc (fun w_ hw_ => (tc2 kR tc0)), ?_⟩)
     refine SR.z 26 U U (ev_nil U U) ?_
     refine SR.z 27 U U (ev_fa U fo55_0 U (r := ao yA14 + (m).toNat * 9) U) ?_
     refine SR.z 28 U U (ev_fa U fo51_2 U (r := ao yA14 + (m).toNat * 9 + 2) U) ?_
     refine .know (row_len 2 U) (fun hv163 => ?_)
     obtain ⟨A161, c162, rfl, hv163_1, hv163_2⟩ := hv163
     unfold maxLen at hv163_2
     refine SR.o 29 U (st_setel2 (E := eSH) (i := m) (cs := [.slice A161 ((((gt XS m).sp).sws).length) c162]) (off := 2) (l2 := (XS.set (m).toNat (SH.mk (SO.mk (((gt XS m).sp).pl) (((gt XS m).sp).srv) (((gt XS m).sp).sws) A161 c162) ((gt XS m).sd) ((gt XS m).am) ((gt XS m).ssk) ((gt XS m).spr) A158 c159))) (SH.mk (SO.mk (((gt XS m).sp).pl) (((gt XS m).sp).srv) (((gt XS m).sp).sws) A161 c162) ((gt XS m).sd) ((gt XS m).am) ((gt XS m).ssk) ((gt XS m).spr) A158 c159) U U U ty49 U U U U U .h lO lO (Nat.le_of_ble_eq_true U) (by rw [gt_sets oO lO]; rfl) (set_set_ _ _ _ _) ⟨ttc (fun w_ hw_ => (tc2 kR tc0)), ?_⟩)
     refine SR.z 30 U U (ev_nil U U) ?_
     refine SR.z 31 U U (ev_fa U fo55_1 U (r := ao yA14 + (m).toNat * 9 + 3) U) ?_
     refine SR.z 32 U U (ev_fa U fo51_2 U (r := ao yA14 + (m).toNat * 9 + 3 + 2) U) ?_
     refine .know (row_len 1 U) (fun hv166 => ?_)
     obtain ⟨A164, c165, rfl, hv166_1, hv166_2⟩ := hv166
     unfold maxLen at hv166_2
     refine SR.o 33 U (st_setel2 (E := eSH) (i := m) (cs := [.slice A164 ((((gt XS m).sd).sws).length) c165]) (off := 5) (l2 := (XS.set (m).toNat (SH.mk (SO.mk (((gt XS m).sp).pl) (((gt XS m).sp).srv) (((gt XS m).sp).sws) A161 c162) (SO.mk (((gt XS m).sd).pl) (((gt XS m).sd).srv) (((gt XS m).sd).sws) A164 c165) ((gt XS m).am) ((gt XS m).ssk) ((gt XS m).spr) A158 c159))) (SH.mk (SO.mk (((gt XS m).sp).pl) (((gt XS m).sp).srv) (((gt XS m).sp).sws) A161 c162) (SO.mk (((gt XS m).sd).pl) (((gt XS m).sd).srv) (((gt XS m).sd).sws) A164 c165) ((gt XS m).am) ((gt XS m).ssk) ((gt XS m).spr) A158 c159) U U U ty49 U U U U U .h lO lO (Nat.le_of_ble_eq_true U) (by rw [gt_sets oO lO]; rfl) (set_set_ _ _ _ _) ⟨ttc (fun w_ hw_ => (tc2 kR tc0)), ?_⟩)
     refine SR.fin kR hl_146 hx_146 hR_146 (.c (.c (.c (.c .n)))) ?_
     exact SQ.weak (key153 (A161, c162, A164, c165, A158, c159)) (Sub.get (.c4 U U U U (.c4 U U U U (.c U (.c U (.c U .n)))))) (fun w hw => hw.keep (.c .h (.c .h (.c .h (.c .h (.c .h (.c .h (.c .h (.c .h (.c .h (.c .h (.c .h (.c .h (.c .h .n))))))))))))))
    refine SR.m 0 U U U U ?_
    refine SR.m 1 U U U U ?_
    refine SR.m 2 U U U U ?_
    refine SR.m 4 U U U U ?_
    refine SR.z 5 U U (ev_nil U U) ?_
    refine SR.z 6 U U (ev_fa U fo55_2 U (r := ao yA14 + (m).toNat * 9 + 6) U) ?_
    refine SR.z 7 U U (ev_ld1 U ty22 U (At.elem1 (At.ofcs 0 U kR) 6 U)) ?_
    refine SR.m 10 U U U U ?_
    refine SR.z 11 U U (ev_nil U U) ?_
    refine SR.z 12 U U (ev_fa U fo55_0 U (r := ao yA14 + (m).toNat * 9) U) ?_
    refine SR.z 13 U U (ev_fa U fo51_2 U (r := ao yA14 + (m).toNat * 9 + 2) U) ?_
    refine SR.z 14 U U (ev_ld1 U ty49 U (At.elem1 (At.ofcs 0 U kR) 2 U)) ?_
    refine SR.m 17 U U U U ?_
    refine SR.z 18 U U (ev_nil U U) ?_
    refine SR.z 19 U U (ev_fa U fo55_1 U (r := ao yA14 + (m).toNat * 9 + 3) U) ?_
    refine SR.z 20 U U (ev_fa U fo51_2 U (r := ao yA14 + (m).toNat * 9 + 3 + 2) U) ?_
    refine SR.z 21 U U (ev_ld1 U ty49 U (At.elem1 (At.ofcs 0 U kR) 5 U)) ?_
    refine SR.three (i := 3) (j := 9) (l := 16) kR ⟨_, U, ?_⟩ ⟨_, U, ?_⟩ ⟨_, U, ?_⟩
    ·
     refine st_lit eZ (e := 3) (l := []) U U U U kR U U kW (fun b167 => ⟨ttr (i := m) 1 U oO oO, ?_⟩)
     refine SR.three (i := 8) (j := 9) (l := 16) kR ⟨_, U, ?_⟩ ⟨_, U, ?_⟩ ⟨_, U, ?_⟩
     ·
      refine st_app0 (E := eZ) (m := (gt XS m).am) U U U U Try.underlying22 ai3 U U U .h rO (Src.w (Fr.flat ((hsF).ext hx_146).1)) lO U (fun v168 => ⟨ttr (i := m) 1 U oO oO, ?_⟩)
      refine SR.two (i := 9) (j := 16) kR ⟨_, U, ?_⟩ ⟨_, U, ?_⟩
      ·
       refine st_lit eWN (e := 34) (l := []) U U U U kR U U kW (fun b169 => ⟨ttr (i := m) 2 U oO oO, ?_⟩)
       refine SR.two (i := 15) (j := 16) kR ⟨_, U, ?_⟩ ⟨_, U, ?_⟩
       ·
        refine st_app0 (E := eWN) (m := ((gt XS m).sp).sws) U U U U Try.underlying49 ai34 U U U .h rO (Src.w (Fr.flat ((hsF).ext hx_146).2.1)) lO U (fun v170 => ⟨ttr (i := m) 2 U oO oO, ?_⟩)
        refine SR.o 16 U (st_lit eWN (e := 34) (l := []) U U U U kR U U kW (fun b171 => ⟨ttr (i := m) 3 U oO oO, ?_⟩))
        refine SR.o 22 U (st_app0 (E := eWN) (m := ((gt XS m).sd).sws) U U U U Try.underlying49 ai34 U U U .h rO (Src.w (Fr.flat ((hsF).ext hx_146).2.2)) lO U (fun v172 => ⟨ttr (i := m) 3 U oO oO, ?_⟩))
        refine SR.z 23 U U (ev_nil U U) ?_
        refine SR.z 24 U U (ev_fa U fo55_2 U (r := ao yA14 + (m).toNat * 9 + 6) U) ?_
        exact SR.weakj (key157 (v172, v170, v168)) kR (Sub.get (.c4 U U U U (.c4 U U U U (.c4 U U U U (.c4 U U U U (.c U .n)))))) (fun w hw => hw.keep (.c .h (.c .h (.c .h (.c .h .n)))))
       refine st_lit eWN (e := 34) (l := []) U U U U kR U U kW (fun b173 => ⟨ttr (i := m) 3 U oO oO, ?_⟩)
       refine SR.o 15 U (st_app0 (E := eWN) (m := ((gt XS m).sp).sws) U U U U Try.underlying49 ai34 U U U (.t .h) rO (Src.w (Fr.flat ((hsF).ext hx_146).2.1)) lO U (fun v174 => ⟨ttr (i := m) 3 U oO oO, ?_⟩))
       refine SR.o 22 U (st_app0 (E := eWN) (m := ((gt XS m).sd).sws) U U U U Try.underlying49 ai34 U U U (.t .h) rO (Src.w (Fr.flat ((hsF).ext hx_146).2.2)) lO U (fun v175 => ⟨ttr (i := m) 3 U oO oO, ?_⟩))
       refine SR.z 23 U U (ev_nil U U) ?_
       refine SR.z 24 U U (ev_fa U fo55_2 U (r := ao yA14 + (m).toNat * 9 + 6) U) ?_
       exact SR.weakj (key157 (v175, v174, v168)) kR (Sub.get (.c4 U U U U (.c4 U U U U (.c4 U U U U (.c4 U U U U (.c U .n)))))) (fun w hw => hw.keep (.c .h (.c .h (.c .h (.c .h .n)))))
      refine st_lit eWN (e := 34) (l := []) U U U U kR U U kW (fun b176 => ⟨ttr (i := m) 2 U oO oO, ?_⟩)
      refine SR.o 9 U (st_lit eWN (e := 34) (l := []) U U U U kR U U kW (fun b177 => ⟨ttr (i := m) 3 U oO oO, ?_⟩))
      refine SR.o 15 U (st_app0 (E := eWN) (m := ((gt XS m).sp).sws) U U U U Try.underlying49 ai34 U U U .h rO (Src.w (Fr.flat ((hsF).ext hx_146).2.1)) lO U (fun v178 => ⟨ttr (i := m) 3 U oO oO, ?_⟩))
      refine SR.o 22 U (st_app0 (E := eWN) (m := ((gt XS m).sd).sws) U U U U Try.underlying49 ai34 U U U (.t .h) rO (Src.w (Fr.flat ((hsF).ext hx_146).2.2)) lO U (fun v179 => ⟨ttr (i := m) 3 U oO oO, ?_⟩))
      refine SR.z 23 U U (ev_nil U U) ?_
      refine SR.z 24 U U (ev_fa U fo55_2 U (r := ao yA14 + (m).toNat * 9 + 6) U) ?_
      exact SR.weakj (key157 (v179, v178, v168)) kR (Sub.get (.c4 U U U U (.c4 U U U U (.c4 U U U U (.c4 U U U U (.c U .n)))))) (fun w hw => hw.keep (.c .h (.c .h (.c .h (.c .h .n)))))
     ·
      refine st_lit eWN (e := 34) (l := []) U U U U kR U U kW (fun b180 => ⟨ttr (i := m) 2 U oO oO, ?_⟩)
      refine SR.two (i := 8) (j := 16) kR ⟨_, U, ?_⟩ ⟨_, U, ?_⟩
      ·
       refine st_app0 (E := eZ) (m := (gt XS m).am) U U U U Try.underlying22 ai3 U U U (.t .h) rO (Src.w (Fr.flat ((hsF).ext hx_146).1)) lO U (fun v181 => ⟨ttr (i := m) 2 U oO oO, ?_⟩)
       refine SR.two (i := 15) (j := 16) kR ⟨_, U, ?_⟩ ⟨_, U, ?_⟩
       ·
        refine st_app0 (E := eWN) (m := ((gt XS m).sp).sws) U U U U Try.underlying49 ai34 U U U (.t .h) rO (Src.w (Fr.flat ((hsF).ext hx_146).2.1)) lO U (fun v182 => ⟨ttr (i := m) 2 U oO oO, ?_⟩)
        refine SR.o 16 U (st_lit eWN (e := 34) (l := []) U U U U kR U U kW (fun b183 => ⟨ttr (i := m) 3 U oO oO, ?_⟩))
        refine SR.o 22 U (st_app0 (E := eWN) (m := ((gt XS m).sd).sws) U U U U Try.underlying49 ai34 U U U .h rO (Src.w (Fr.flat ((hsF).ext hx_146).2.2)) lO U (fun v184 => ⟨ttr (i := m) 3 U oO oO, ?_⟩))
        refine SR.z 23 U U (ev_nil U U) ?_
        refine SR.z 24 U U (ev_fa U fo55_2 U (r := ao yA14 + (m).toNat * 9 + 6) U) ?_
        exact SR.weakj (key157 (v184, v182, v181)) kR (Sub.get (.c4 U U U U (.c4 U U U U (.c4 U U U U (.c4 U U U U (.c U .n)))))) (fun w hw => hw.keep (.c .h (.c .h (.c .h (.c .h .n)))))
       refine st_lit eWN (e := 34) (l := []) U U U U kR U U kW (fun b185 => ⟨ttr (i := m) 3 U oO oO, ?_⟩)
       refine SR.o 15 U (st_app0 (E := eWN) (m := ((gt XS m).sp).sws) U U U U Try.underlying49 ai34 U U U (.t (.t .h)) rO (Src.w (Fr.flat ((hsF).ext hx_146).2.1)) lO U (fun v186 => ⟨ttr (i := m) 3 U oO oO, ?_⟩))
       refine SR.o 22 U (st_app0 (E := eWN) (m := ((gt XS m).sd).sws) U U U U Try.underlying49 ai34 U U U (.t .h) rO (Src.w (Fr.flat ((hsF).ext hx_146).2.2)) lO U (fun v187 => ⟨ttr (i := m) 3 U oO oO, ?_⟩))
       refine SR.z 23 U U (ev_nil U U) ?_
       refine SR.z 24 U U (ev_fa U fo55_2 U (r := ao yA14 + (m).toNat * 9 + 6) U) ?_
       exact SR.weakj (key157 (v187, v186, v181)) kR (Sub.get (.c4 U U U U (.c4 U U U U (.c4 U U U U (.c4 U U U U (.c U .n)))))) (fun w hw => hw.keep (.c .h (.c .h (.c .h (.c .h .n)))))
      refine st_lit eWN (e := 34) (l := []) U U U U kR U U kW (fun b188 => ⟨ttr (i := m) 3 U oO oO, ?_⟩)
      refine SR.o 8 U (st_app0 (E := eZ) (m := (gt XS m).am) U U U U Try.underlying22 ai3 U U U (.t (.t .h)) rO (Src.w (Fr.flat ((hsF).ext hx_146).1)) lO U (fun v189 => ⟨ttr (i := m) 3 U oO oO, ?_⟩))
      refine SR.o 15 U (st_app0 (E := eWN) (m := ((gt XS m).sp).sws) U U U U Try.underlying49 ai34 U U U (.t (.t .h)) rO (Src.w (Fr.flat ((hsF).ext hx_146).2.1)) lO U (fun v190 => ⟨ttr (i := m) 3 U oO oO, ?_⟩))
      refine SR.o 22 U (st_app0 (E := eWN) (m := ((gt XS m).sd).sws) U U U U Try.underlying49 ai34 U U U (.t (.t .h)) rO (Src.w (Fr.flat ((hsF).ext hx_146).2.2)) lO U (fun v191 => ⟨ttr (i := m) 3 U oO oO, ?_⟩))
      refine SR.z 23 U U (ev_nil U U) ?_
      refine SR.z 24 U U (ev_fa U fo55_2 U (r := ao yA14 + (m).toNat * 9 + 6) U) ?_
      exact SR.weakj (key157 (v191, v190, v189)) kR (Sub.get (.c4 U U U U (.c4 U U U U (.c4 U U U U (.c4 U U U U (.c U .n)))))) (fun w hw => hw.keep (.c .h (.c .h (.c .h (.c .h .n)))))
     refine st_lit eWN (e := 34) (l := []) U U U U kR U U kW (fun b192 => ⟨ttr (i := m) 2 U oO oO, ?_⟩)
     refine SR.two (i := 8) (j := 9) kR ⟨_, U, ?_⟩ ⟨_, U, ?_⟩
     ·
      refine st_app0 (E := eZ) (m := (gt XS m).am) U U U U Try.underlying22 ai3 U U U (.t .h) rO (Src.w (Fr.flat ((hsF).ext hx_146).1)) lO U (fun v193 => ⟨ttr (i := m) 2 U oO oO, ?_⟩)
      refine SR.o 9 U (st_lit eWN (e := 34) (l := []) U U U U kR U U kW (fun b194 => ⟨ttr (i := m) 3 U oO oO, ?_⟩))
      refine SR.o 15 U (st_app0 (E := eWN) (m := ((gt XS m).sp).sws) U U U U Try.underlying49 ai34 U U U .h rO (Src.w (Fr.flat ((hsF).ext hx_146).2.1)) lO U (fun v195 => ⟨ttr (i := m) 3 U oO oO, ?_⟩))
      refine SR.o 22 U (st_app0 (E := eWN) (m := ((gt XS m).sd).sws) U U U U Try.underlying49 ai34 U U U (.t (.t .h)) rO (Src.w (Fr.flat ((hsF).ext hx_146).2.2)) lO U (fun v196 => ⟨ttr (i := m) 3 U oO oO, ?_⟩))
      refine SR.z 23 U U (ev_nil U U) ?_
      refine SR.z 24 U U (ev_fa U fo55_2 U (r := ao yA14 + (m).toNat * 9 + 6) U) ?_
      exact SR.weakj (key157 (v196, v195, v193)) kR (Sub.get (.c4 U U U U (.c4 U U U U (.c4 U U U U (.c4 U U U U (.c U .n)))))) (fun w hw => hw.keep (.c .h (.c .h (.c .h (.c .h .n)))))
     refine st_lit eWN (e := 34) (l := []) U U U U kR U U kW (fun b197 => ⟨ttr (i := m) 3 U oO oO, ?_⟩)
     refine SR.o 8 U (st_app0 (E := eZ) (m := (gt XS m).am) U U U U Try.underlying22 ai3 U U U (.t (.t .h)) rO (Src.w (Fr.flat ((hsF).ext hx_146).1)) lO U (fun v198 => ⟨ttr (i := m) 3 U oO oO, ?_⟩))
     refine SR.o 15 U (st_app0 (E := eWN) (m := ((gt XS m).sp).sws) U U U U Try.underlying49 ai34 U U U (.t .h) rO (Src.w (Fr.flat ((hsF).ext hx_146).2.1)) lO U (fun v199 => ⟨ttr (i := m) 3 U oO oO, ?_⟩))
     refine SR.o 22 U (st_app0 (E := eWN) (m := ((gt XS m).sd).sws) U U U U Try.underlying49 ai34 U U U (.t (.t .h)) rO (Src.w (Fr.flat ((hsF).ext hx_146).2.2)) lO U (fun v200 => ⟨ttr (i := m) 3 U oO oO, ?_⟩))
     refine SR.z 23 U U (ev_nil U U) ?_
     refine SR.z 24 U U (ev_fa U fo55_2 U (r := ao yA14 + (m).toNat * 9 + 6) U) ?_
     exact SR.weakj (key157 (v200, v199, v198)) kR (Sub.get (.c4 U U U U (.c4 U U U U (.c4 U U U U (.c4 U U U U (.c U .n)))))) (fun w hw => hw.keep (.c .h (.c .h (.c .h (.c .h .n)))))
    ·
     refine st_lit eWN (e := 34) (l := []) U U U U kR U U kW (fun b201 => ⟨ttr (i := m) 1 U oO oO, ?_⟩)
     refine SR.two (i := 3) (j := 16) kR ⟨_, U, ?_⟩ ⟨_, U, ?_⟩
     ·
      refine st_lit eZ (e := 3) (l := []) U U U U kR U U kW (fun b202 => ⟨ttr (i := m) 2 U oO oO, ?_⟩)
      refine SR.two (i := 8) (j := 16) kR ⟨_, U, ?_⟩ ⟨_, U, ?_⟩
      ·
       refine st_app0 (E := eZ) (m := (gt XS m).am) U U U U Try.underlying22 ai3 U U U .h rO (Src.w (Fr.flat ((hsF).ext hx_146).1)) lO U (fun v203 => ⟨ttr (i := m) 2 U oO oO, ?_⟩)
       refine SR.two (i := 15) (j := 16) kR ⟨_, U, ?_⟩ ⟨_, U, ?_⟩
       ·
        refine st_app0 (E := eWN) (m := ((gt XS m).sp).sws) U U U U Try.underlying49 ai34 U U U (.t .h) rO (Src.w (Fr.flat ((hsF).ext hx_146).2.1)) lO U (fun v204 => ⟨ttr (i := m) 2 U oO oO, ?_⟩)
        refine SR.o 16 U (st_lit eWN (e := 34) (l := []) U U U U kR U U kW (fun b205 => ⟨ttr (i := m) 3 U oO oO, ?_⟩))
        refine SR.o 22 U (st_app0 (E := eWN) (m := ((gt XS m).sd).sws) U U U U Try.underlying49 ai34 U U U .h rO (Src.w (Fr.flat ((hsF).ext hx_146).2.2)) lO U (fun v206 => ⟨ttr (i := m) 3 U oO oO, ?_⟩))
        refine SR.z 23 U U (ev_nil U U) ?_
        refine SR.z 24 U U (ev_fa U fo55_2 U (r := ao yA14 + (m).toNat * 9 + 6) U) ?_
        exact SR.weakj (key157 (v206, v204, v203)) kR (Sub.get (.c4 U U U U (.c4 U U U U (.c4 U U U U (.c4 U U U U (.c U .n)))))) (fun w hw => hw.keep (.c .h (.c .h (.c .h (.c .h .n)))))
       refine st_lit eWN (e := 34) (l := []) U U U U kR U U kW (fun b207 => ⟨ttr (i := m) 3 U oO oO, ?_⟩)
       refine SR.o 15 U (st_app0 (E := eWN) (m := ((gt XS m).sp).sws) U U U U Try.underlying49 ai34 U U U (.t (.t .h)) rO (Src.w (Fr.flat ((hsF).ext hx_146).2.1)) lO U (fun v208 => ⟨ttr (i := m) 3 U oO oO, ?_⟩))
       refine SR.o 22 U (st_app0 (E := eWN) (m := ((gt XS m).sd).sws) U U U U Try.underlying49 ai34 U U U (.t .h) rO (Src.w (Fr.flat ((hsF).ext hx_146).2.2)) lO U (fun v209 => ⟨ttr (i := m) 3 U oO oO, ?_⟩))
       refine SR.z 23 U U (ev_nil U U) ?_
       refine SR.z 24 U U (ev_fa U fo55_2 U (r := ao yA14 + (m).toNat * 9 + 6) U) ?_
       exact SR.weakj (key157 (v209, v208, v203)) kR (Sub.get (.c4 U U U U (.c4 U U U U (.c4 U U U U (.c4 U U U U (.c U .n)))))) (fun w hw => hw.keep (.c .h (.c .h (.c .h (.c .h .n)))))
      refine st_lit eWN (e := 34) (l := []) U U U U kR U U kW (fun b210 => ⟨ttr (i := m) 3 U oO oO, ?_⟩)
      refine SR.o 8 U (st_app0 (E := eZ) (m := (gt XS m).am) U U U U Try.underlying22 ai3 U U U (.t .h) rO (Src.w (Fr.flat ((hsF).ext hx_146).1)) lO U (fun v211 => ⟨ttr (i := m) 3 U oO oO, ?_⟩))
      refine SR.o 15 U (st_app0 (E := eWN) (m := ((gt XS m).sp).sws) U U U U Try.underlying49 ai34 U U U (.t (.t .h)) rO (Src.w (Fr.flat ((hsF).ext hx_146).2.1)) lO U (fun v212 => ⟨ttr (i := m) 3 U oO oO, ?_⟩))
      refine SR.o 22 U (st_app0 (E := eWN) (m := ((gt XS m).sd).sws) U U U U Try.underlying49 ai34 U U U (.t (.t .h)) rO (Src.w (Fr.flat ((hsF).ext hx_146).2.2)) lO U (fun v213 => ⟨ttr (i := m) 3 U oO oO, ?_⟩))
      refine SR.z 23 U U (ev_nil U U) ?_
      refine SR.z 24 U U (ev_fa U fo55_2 U (r := ao yA14 + (m).toNat * 9 + 6) U) ?_
      exact SR.weakj (key157 (v213, v212, v211)) kR (Sub.get (.c4 U U U U (.c4 U U U U (.c4 U U U U (.c4 U U U U (.c U .n)))))) (fun w hw => hw.keep (.c .h (.c .h (.c .h (.c .h .n)))))
     refine st_lit eWN (e := 34) (l := []) U U U U kR U U kW (fun b214 => ⟨ttr (i := m) 2 U oO oO, ?_⟩)
     refine SR.o 3 U (st_lit eZ (e := 3) (l := []) U U U U kR U U kW (fun b215 => ⟨ttr (i := m) 3 U oO oO, ?_⟩))
     refine SR.o 8 U (st_app0 (E := eZ) (m := (gt XS m).am) U U U U Try.underlying22 ai3 U U U .h rO (Src.w (Fr.flat ((hsF).ext hx_146).1)) lO U (fun v216 => ⟨ttr (i := m) 3 U oO oO, ?_⟩))
     refine SR.o 15 U (st_app0 (E := eWN) (m := ((gt XS m).sp).sws) U U U U Try.underlying49 ai34 U U U (.t (.t .h)) rO (Src.w (Fr.flat ((hsF).ext hx_146).2.1)) lO U (fun v217 => ⟨ttr (i := m) 3 U oO oO, ?_⟩))
     refine SR.o 22 U (st_app0 (E := eWN) (m := ((gt XS m).sd).sws) U U U U Try.underlying49 ai34 U U U (.t (.t .h)) rO (Src.w (Fr.flat ((hsF).ext hx_146).2.2)) lO U (fun v218 => ⟨ttr (i := m) 3 U oO oO, ?_⟩))
     refine SR.z 23 U U (ev_nil U U) ?_
     refine SR.z 24 U U (ev_fa U fo55_2 U (r := ao yA14 + (m).toNat * 9 + 6) U) ?_
     exact SR.weakj (key157 (v218, v217, v216)) kR (Sub.get (.c4 U U U U (.c4 U U U U (.c4 U U U U (.c4 U U U U (.c U .n)))))) (fun w hw => hw.keep (.c .h (.c .h (.c .h (.c .h .n)))))
    refine st_lit eWN (e := 34) (l := []) U U U U kR U U kW (fun b219 => ⟨ttr (i := m) 1 U oO oO, ?_⟩)
    refine SR.two (i := 3) (j := 9) kR ⟨_, U, ?_⟩ ⟨_, U, ?_⟩
    ·
     refine st_lit eZ (e := 3) (l := []) U U U U kR U U kW (fun b220 => ⟨ttr (i := m) 2 U oO oO, ?_⟩)
     refine SR.two (i := 8) (j := 9) kR ⟨_, U, ?_⟩ ⟨_, U, ?_⟩
     ·
      refine st_app0 (E := eZ) (m := (gt XS m).am) U U U U Try.underlying22 ai3 U U U .h rO (Src.w (Fr.flat ((hsF).ext hx_146).1)) lO U (fun v221 => ⟨ttr (i := m) 2 U oO oO, ?_⟩)
      refine SR.o 9 U (st_lit eWN (e := 34) (l := []) U U U U kR U U kW (fun b222 => ⟨ttr (i := m) 3 U oO oO, ?_⟩))
      refine SR.o 15 U (st_app0 (E := eWN) (m := ((gt XS m).sp).sws) U U U U Try.underlying49 ai34 U U U .h rO (Src.w (Fr.flat ((hsF).ext hx_146).2.1)) lO U (fun v223 => ⟨ttr (i := m) 3 U oO oO, ?_⟩))
      refine SR.o 22 U (st_app0 (E := eWN) (m := ((gt XS m).sd).sws) U U U U Try.underlying49 ai34 U U U (.t (.t .h)) rO (Src.w (Fr.flat ((hsF).ext hx_146).2.2)) lO U (fun v224 => ⟨ttr (i := m) 3 U oO oO, ?_⟩))
      refine SR.z 23 U U (ev_nil U U) ?_
      refine SR.z 24 U U (ev_fa U fo55_2 U (r := ao yA14 + (m).toNat * 9 + 6) U) ?_
      exact SR.weakj (key157 (v224, v223, v221)) kR (Sub.get (.c4 U U U U (.c4 U U U U (.c4 U U U U (.c4 U U U U (.c U .n)))))) (fun w hw => hw.keep (.c .h (.c .h (.c .h (.c .h .n)))))
     refine st_lit eWN (e := 34) (l := []) U U U U kR U U kW (fun b225 => ⟨ttr (i := m) 3 U oO oO, ?_⟩)
     refine SR.o 8 U (st_app0 (E := eZ) (m := (gt XS m).am) U U U U Try.underlying22 ai3 U U U (.t .h) rO (Src.w (Fr.flat ((hsF).ext hx_146).1)) lO U (fun v226 => ⟨ttr (i := m) 3 U oO oO, ?_⟩))
     refine SR.o 15 U (st_app0 (E := eWN) (m := ((gt XS m).sp).sws) U U U U Try.underlying49 ai34 U U U (.t .h) rO (Src.w (Fr.flat ((hsF).ext hx_146).2.1)) lO U (fun v227 => ⟨ttr (i := m) 3 U oO oO, ?_⟩))
     refine SR.o 22 U (st_app0 (E := eWN) (m := ((gt XS m).sd).sws) U U U U Try.underlying49 ai34 U U U (.t (.t .h)) rO (Src.w (Fr.flat ((hsF).ext hx_146).2.2)) lO U (fun v228 => ⟨ttr (i := m) 3 U oO oO, ?_⟩))
     refine SR.z 23 U U (ev_nil U U) ?_
     refine SR.z 24 U U (ev_fa U fo55_2 U (r := ao yA14 + (m).toNat * 9 + 6) U) ?_
     exact SR.weakj (key157 (v228, v227, v226)) kR (Sub.get (.c4 U U U U (.c4 U U U U (.c4 U U U U (.c4 U U U U (.c U .n)))))) (fun w hw => hw.keep (.c .h (.c .h (.c .h (.c .h .n)))))
    refine st_lit eWN (e := 34) (l := []) U U U U kR U U kW (fun b229 => ⟨ttr (i := m) 2 U oO oO, ?_⟩)
    refine SR.o 3 U (st_lit eZ (e := 3) (l := []) U U U U kR U U kW (fun b230 => ⟨ttr (i := m) 3 U oO oO, ?_⟩))
    refine SR.o 8 U (st_app0 (E := eZ) (m := (gt XS m).am) U U U U Try.underlying22 ai3 U U U .h rO (Src.w (Fr.flat ((hsF).ext hx_146).1)) lO U (fun v231 => ⟨ttr (i := m) 3 U oO oO, ?_⟩))
    refine SR.o 15 U (st_app0 (E := eWN) (m := ((gt XS m).sp).sws) U U U U Try.underlying49 ai34 U U U (.t .h) rO (Src.w (Fr.flat ((hsF).ext hx_146).2.1)) lO U (fun v232 => ⟨ttr (i := m) 3 U oO oO, ?_⟩))
    refine SR.o 22 U (st_app0 (E := eWN) (m := ((gt XS m).sd).sws) U U U U Try.underlying49 ai34 U U U (.t (.t .h)) rO (Src.w (Fr.flat ((hsF).ext hx_146).2.2)) lO U (fun v233 => ⟨ttr (i := m) 3 U oO oO, ?_⟩))
    refine SR.z 23 U U (ev_nil U U) ?_
    refine SR.z 24 U U (ev_fa U fo55_2 U (r := ao yA14 + (m).toNat * 9 + 6) U) ?_
    exact SR.weakj (key157 (v233, v232, v231)) kR (Sub.get (.c4 U U U U (.c4 U U U U (.c4 U U U U (.c4 U U U U (.c U .n)))))) (fun w hw => hw.keep (.c .h (.c .h (.c .h (.c .h .n)))))
   refine .exit idQ ?_
   refine .seq (.region (.v (ev_lda U U (At.whole 3 U) ty29) U (.cons (st_storea (l' := [.int .i64 p.dims, .int .i64 p.tn, .slice yA4 p.time.length yc5, .int .i64 p.dn, .slice yA6 p.dist.length yc7, .slice yA10 p.vehs.length yc11, .slice yA12 p.jobs.length yc13, .slice yA14 p.ships.length yc15]) U U U ty29 U U U (.t (.t (.t (.t (.t (.t (.t (.t (.t .h))))))))) U U (.go idQ ?_)))))
   have hL1 := q_2.len
   obtain ⟨hD1, hE1⟩ := cp_end q_2 oO
   subst hD1
   have hL2 := s_2.len
   obtain ⟨hD2, hE2⟩ := cp_end s_2 oO
   subst hD2
   have hL3 := t_2.len
   obtain ⟨hD3, hE3⟩ := cp_end t_2 oO
   subst hD3
   refine SC.freeze (R := [nestZ 3 34 DS, nestJ 3 34 DJ, nestV 3 73 34 D, rw_ eZ 3 (.slice yA6 p.dist.length yc7) p.dist, rw_ eZ 3 (.slice yA4 p.time.length yc5) p.time]) (.c (.t .h) (.c (.t .h) (.c (.t .h) (.c (.t (.t (.t (.t (.t .h))))) (.c (.t (.t (.t (.t (.t .h))))) .n))))) (fun Sz234 wfz234 hxz234 hhz234 hsz234 => ?_)
   have hfz234_0 := SHF.of (hhz234 _ (by simp)) (fun b hb => hsz234 b (feet_of 0 rfl hb))
   have hfz234_1 := JBF.of (hhz234 _ (by simp)) (fun b hb => hsz234 b (feet_of 1 rfl hb))
   have hfz234_2 := VHF.of (hhz234 _ (by simp)) (fun b hb => hsz234 b (feet_of 2 rfl hb))
   have hfz234_3 := Fr.of_row (hhz234 _ (by simp)) (fun b hb => hsz234 b (feet_of 3 rfl hb)) lO
   have hfz234_4 := Fr.of_row (hhz234 _ (by simp)) (fun b hb => hsz234 b (feet_of 4 rfl hb)) lO
   exact .ret idQ (retzC Try.results10 (.c 0 U U ty29) (.c (.t (.t (.t (.t .h)))) (.c (.t (.t (.t .h))) (.c (.t (.t .h)) .n))) hxz234 ⟨(PB.mk p.dims p.tn p.time p.dn p.dist D DJ DS yA4 yc5 yA6 yc7 yA10 yc11 yA12 yc13 yA14 yc15), ⟨hfz234_4, hfz234_3, hfz234_2, hfz234_1, hfz234_0⟩, (by unfold era; (try dsimp only); rw [hE1, hE2, hE3]), (by (try dsimp only [cPB]); rw [hL1, hL2, hL3]), (by (try dsimp only [cPB]); rw [hL1, hL2, hL3])⟩)
  refine SR.join (X := Value × Value × Value) (fun (zv235, zv236, zv237) => ([(1, .pointer (some ⟨b1, 0, none⟩)), (2, .pointer (some ⟨b2, 0, none⟩)), (27, zv237), (36, .pointer (some ⟨b1, 5, none⟩)), (31, zv236), (35, zv235)], [rw_ eSH 55 (zv235) p.ships, rw_ eJB 53 (zv236) p.jobs, rw_ eVH 37 (zv237) p.vehs, cel b1 [.int .i64 p.dims, .int .i64 p.tn, .slice yA4 p.time.length yc5, .int .i64 p.dn, .slice yA6 p.dist.length yc7, .slice p.pvA p.vehs.length p.pvc, .slice p.pjA p.jobs.length p.pjc, .slice p.psA p.ships.length p.psc] 29])) 5 #[true, true, true, true, true, true, true, true, true, true, true, true, true, false, false, false, false, false] (fun ⟨zv235, zv236, zv237⟩ => ?_) (fun key238 => ?_)
  ·
   show SR _ _ _ _ _ _ _ _ _ ⟨[(1, .pointer (some ⟨b1, 0, none⟩)), (2, .pointer (some ⟨b2, 0, none⟩)), (27, zv237), (36, .pointer (some ⟨b1, 5, none⟩)), (31, zv236), (35, zv235)], [rw_ eSH 55 (zv235) p.ships, rw_ eJB 53 (zv236) p.jobs, rw_ eVH 37 (zv237) p.vehs, cel b1 [.int .i64 p.dims, .int .i64 p.tn, .slice yA4 p.time.length yc5, .int .i64 p.dn, .slice yA6 p.dist.length yc7, .slice p.pvA p.vehs.length p.pvc, .slice p.pjA p.jobs.length p.pjc, .slice p.psA p.ships.length p.psc] 29], _, _⟩
   refine .know (row_len 2 U) (fun hv241 => ?_)
   obtain ⟨A239, c240, rfl, hv241_1, hv241_2⟩ := hv241
   unfold maxLen at hv241_2
   refine SR.o 13 U (st_store1 U U U ty25 U U U (.t (.t (.t .h))) (.t (.t (.t (.t (.t .h))))) ⟨ttc (fun w_ hw_ => (tc2 kR tc0)), ?_⟩)
   refine SR.z 14 U U (ev_fa U fo29_4 U (r := 6) U) ?_
   refine .know (row_len 2 U) (fun hv244 => ?_)
   obtain ⟨A242, c243, rfl, hv244_1, hv244_2⟩ := hv244
   unfold maxLen at hv244_2
   refine SR.o 15 U (st_store1 U U U ty26 U U U .h (.t (.t (.t (.t (.t (.t .h)))))) ⟨ttc (fun w_ hw_ => (tc2 kR tc0)), ?_⟩)
   refine SR.z 16 U U (ev_fa U fo29_5 U (r := 7) U) ?_
   refine .know (row_len 1 U) (fun hv247 => ?_)
   obtain ⟨A245, c246, rfl, hv247_1, hv247_2⟩ := hv247
   unfold maxLen at hv247_2
   refine SR.o 17 U (st_store1 U U U ty27 U U U .h (.t (.t (.t (.t (.t (.t (.t .h))))))) ⟨ttc (fun w_ hw_ => (tc2 kR tc0)), ?_⟩)
   refine SR.fin kR hl_9 hx_9 hR_9 (.c (.c (.c (.c .n)))) ?_
   exact SQ.weak (key16 (A239, c240, A242, c243, A245, c246)) (Sub.get (.c U (.c U .n))) (fun w hw => hw.keep (.c .h (.c .h (.c .h (.c .h (.c .h (.c .h (.c .h .n))))))))
  refine SR.z 1 U U (ev_fa U fo29_3 U (r := 5) U) ?_
  refine SR.z 2 U U (ev_ld1 U ty25 U (At.elem1 (v := .slice p.pvA p.vehs.length p.pvc) (At.ofcs 0 U kR) 5 U)) ?_
  refine SR.z 5 U U (ev_fa U fo29_4 U (r := 6) U) ?_
  refine SR.z 6 U U (ev_ld1 U ty26 U (At.elem1 (v := .slice p.pjA p.jobs.length p.pjc) (At.ofcs 0 U kR) 6 U)) ?_
  refine SR.z 9 U U (ev_fa U fo29_5 U (r := 7) U) ?_
  refine SR.z 10 U U (ev_ld1 U ty27 U (At.elem1 (v := .slice p.psA p.ships.length p.psc) (At.ofcs 0 U kR) 7 U)) ?_
  refine SR.three (i := 0) (j := 4) (l := 8) kR ⟨_, U, ?_⟩ ⟨_, U, ?_⟩ ⟨_, U, ?_⟩
  ·
   refine st_lit eVH (e := 37) (l := []) U U U U kR U U kW (fun b248 => ⟨ttc (fun w_ hw_ => (tc1 (At.whole 1 U w_ hw_) tc0)), ?_⟩)
   refine SR.three (i := 3) (j := 4) (l := 8) kR ⟨_, U, ?_⟩ ⟨_, U, ?_⟩ ⟨_, U, ?_⟩
   ·
    refine st_app0 (E := eVH) (m := p.vehs) U U U U Try.underlying25 ai37 U U U .h rO (Src.w (Fr.flat ((hPB).ext hx_9).2.2.1.1)) lO U (fun v249 => ⟨ttc (fun w_ hw_ => (tc1 (At.whole 1 U w_ hw_) tc0)), ?_⟩)
    refine SR.z 12 U U (ev_fa U fo29_3 U (r := 5) U) ?_
    refine SR.two (i := 4) (j := 8) kR ⟨_, U, ?_⟩ ⟨_, U, ?_⟩
    ·
     refine st_lit eJB (e := 53) (l := []) U U U U kR U U kW (fun b250 => ⟨ttc (fun w_ hw_ => (tc1 (At.whole 2 U w_ hw_) tc0)), ?_⟩)
     refine SR.two (i := 7) (j := 8) kR ⟨_, U, ?_⟩ ⟨_, U, ?_⟩
     ·
      refine st_app0 (E := eJB) (m := p.jobs) U U U U Try.underlying26 ai53 U U U .h rO (Src.w (Fr.flat ((hPB).ext hx_9).2.2.2.1.1)) lO U (fun v251 => ⟨ttc (fun w_ hw_ => (tc1 (At.whole 2 U w_ hw_) tc0)), ?_⟩)
      refine SR.o 8 U (st_lit eSH (e := 55) (l := []) U U U U kR U U kW (fun b252 => ⟨ttc (fun w_ hw_ => (tc1 (At.whole 3 U w_ hw_) tc0)), ?_⟩))
      refine SR.o 11 U (st_app0 (E := eSH) (m := p.ships) U U U U Try.underlying27 ai55 U U U .h rO (Src.w (Fr.flat ((hPB).ext hx_9).2.2.2.2.1)) lO U (fun v253 => ⟨ttc (fun w_ hw_ => (tc1 (At.whole 3 U w_ hw_) tc0)), ?_⟩))
      exact SR.weakj (key238 (v253, v251, v249)) kR (Sub.get (.c4 U U U U (.c U (.c U .n)))) (fun w hw => hw.keep (.c .h (.c .h (.c .h (.c .h .n)))))
     refine st_lit eSH (e := 55) (l := []) U U U U kR U U kW (fun b254 => ⟨ttc (fun w_ hw_ => (tc1 (At.whole 3 U w_ hw_) tc0)), ?_⟩)
     refine SR.o 7 U (st_app0 (E := eJB) (m := p.jobs) U U U U Try.underlying26 ai53 U U U (.t .h) rO (Src.w (Fr.flat ((hPB).ext hx_9).2.2.2.1.1)) lO U (fun v255 => ⟨ttc (fun w_ hw_ => (tc1 (At.whole 3 U w_ hw_) tc0)), ?_⟩))
     refine SR.o 11 U (st_app0 (E := eSH) (m := p.ships) U U U U Try.underlying27 ai55 U U U (.t .h) rO (Src.w (Fr.flat ((hPB).ext hx_9).2.2.2.2.1)) lO U (fun v256 => ⟨ttc (fun w_ hw_ => (tc1 (At.whole 3 U w_ hw_) tc0)), ?_⟩))
     exact SR.weakj (key238 (v256, v255, v249)) kR (Sub.get (.c4 U U U U (.c U (.c U .n)))) (fun w hw => hw.keep (.c .h (.c .h (.c .h (.c .h .n)))))
    refine st_lit eSH (e := 55) (l := []) U U U U kR U U kW (fun b257 => ⟨ttc (fun w_ hw_ => (tc1 (At.whole 2 U w_ hw_) tc0)), ?_⟩)
    refine SR.o 4 U (st_lit eJB (e := 53) (l := []) U U U U kR U U kW (fun b258 => ⟨ttc (fun w_ hw_ => (tc1 (At.whole 3 U w_ hw_) tc0)), ?_⟩))
    refine SR.o 7 U (st_app0 (E := eJB) (m := p.jobs) U U U U Try.underlying26 ai53 U U U .h rO (Src.w (Fr.flat ((hPB).ext hx_9).2.2.2.1.1)) lO U (fun v259 => ⟨ttc (fun w_ hw_ => (tc1 (At.whole 3 U w_ hw_) tc0)), ?_⟩))
    refine SR.o 11 U (st_app0 (E := eSH) (m := p.ships) U U U U Try.underlying27 ai55 U U U (.t .h) rO (Src.w (Fr.flat ((hPB).ext hx_9).2.2.2.2.1)) lO U (fun v260 => ⟨ttc (fun w_ hw_ => (tc1 (At.whole 3 U w_ hw_) tc0)), ?_⟩))
    exact SR.weakj (key238 (v260, v259, v249)) kR (Sub.get (.c4 U U U U (.c U (.c U .n)))) (fun w hw => hw.keep (.c .h (.c .h (.c .h (.c .h .n)))))
   ·
    refine st_lit eJB (e := 53) (l := []) U U U U kR U U kW (fun b261 => ⟨ttc (fun w_ hw_ => (tc1 (At.whole 2 U w_ hw_) tc0)), ?_⟩)
    refine SR.two (i := 3) (j := 8) kR ⟨_, U, ?_⟩ ⟨_, U, ?_⟩
    ·
     refine st_app0 (E := eVH) (m := p.vehs) U U U U Try.underlying25 ai37 U U U (.t .h) rO (Src.w (Fr.flat ((hPB).ext hx_9).2.2.1.1)) lO U (fun v262 => ⟨ttc (fun w_ hw_ => (tc1 (At.whole 2 U w_ hw_) tc0)), ?_⟩)
     refine SR.z 12 U U (ev_fa U fo29_3 U (r := 5) U) ?_
     refine SR.two (i := 7) (j := 8) kR ⟨_, U, ?_⟩ ⟨_, U, ?_⟩
     ·
      refine st_app0 (E := eJB) (m := p.jobs) U U U U Try.underlying26 ai53 U U U (.t .h) rO (Src.w (Fr.flat ((hPB).ext hx_9).2.2.2.1.1)) lO U (fun v263 => ⟨ttc (fun w_ hw_ => (tc1 (At.whole 2 U w_ hw_) tc0)), ?_⟩)
      refine SR.o 8 U (st_lit eSH (e := 55) (l := []) U U U U kR U U kW (fun b264 => ⟨ttc (fun w_ hw_ => (tc1 (At.whole 3 U w_ hw_) tc0)), ?_⟩))
      refine SR.o 11 U (st_app0 (E := eSH) (m := p.ships) U U U U Try.underlying27 ai55 U U U .h rO (Src.w (Fr.flat ((hPB).ext hx_9).2.2.2.2.1)) lO U (fun v265 => ⟨ttc (fun w_ hw_ => (tc1 (At.whole 3 U w_ hw_) tc0)), ?_⟩))
      exact SR.weakj (key238 (v265, v263, v262)) kR (Sub.get (.c4 U U U U (.c U (.c U .n)))) (fun w hw => hw.keep (.c .h (.c .h (.c .h (.c .h .n)))))
     refine st_lit eSH (e := 55) (l := []) U U U U kR U U kW (fun b266 => ⟨ttc (fun w_ hw_ => (tc1 (At.whole 3 U w_ hw_) tc0)), ?_⟩)
     refine SR.o 7 U (st_app0 (E := eJB) (m := p.jobs) U U U U Try.underlying26 ai53 U U U (.t (.t .h)) rO (Src.w (Fr.flat ((hPB).ext hx_9).2.2.2.1.1)) lO U (fun v267 => ⟨ttc (fun w_ hw_ => (tc1 (At.whole 3 U w_ hw_) tc0)), ?_⟩))
     refine SR.o 11 U (st_app0 (E := eSH) (m := p.ships) U U U U Try.underlying27 ai55 U U U (.t .h) rO (Src.w (Fr.flat ((hPB).ext hx_9).2.2.2.2.1)) lO U (fun v268 => ⟨ttc (fun w_ hw_ => (tc1 (At.whole 3 U w_ hw_) tc0)), ?_⟩))
     exact SR.weakj (key238 (v268, v267, v262)) kR (Sub.get (.c4 U U U U (.c U (.c U .n)))) (fun w hw => hw.keep (.c .h (.c .h (.c .h (.c .h .n)))))
    refine st_lit eSH (e := 55) (l := []) U U U U kR U U kW (fun b269 => ⟨ttc (fun w_ hw_ => (tc1 (At.whole 3 U w_ hw_) tc0)), ?_⟩)
    refine SR.o 3 U (st_app0 (E := eVH) (m := p.vehs) U U U U Try.underlying25 ai37 U U U (.t (.t .h)) rO (Src.w (Fr.flat ((hPB).ext hx_9).2.2.1.1)) lO U (fun v270 => ⟨ttc (fun w_ hw_ => (tc1 (At.whole 3 U w_ hw_) tc0)), ?_⟩))
    refine SR.z 12 U U (ev_fa U fo29_3 U (r := 5) U) ?_
    refine SR.o 7 U (st_app0 (E := eJB) (m := p.jobs) U U U U Try.underlying26 ai53 U U U (.t (.t .h)) rO (Src.w (Fr.flat ((hPB).ext hx_9).2.2.2.1.1)) lO U (fun v271 => ⟨ttc (fun w_ hw_ => (tc1 (At.whole 3 U w_ hw_) tc0)), ?_⟩))
    refine SR.o 11 U (st_app0 (E := eSH) (m := p.ships) U U U U Try.underlying27 ai55 U U U (.t (.t .h)) rO (Src.w (Fr.flat ((hPB).ext hx_9).2.2.2.2.1)) lO U (fun v272 => ⟨ttc (fun w_ hw_ => (tc1 (At.whole 3 U w_ hw_) tc0)), ?_⟩))
    exact SR.weakj (key238 (v272, v271, v270)) kR (Sub.get (.c4 U U U U (.c U (.c U .n)))) (fun w hw => hw.keep (.c .h (.c .h (.c .h (.c .h .n)))))
   refine st_lit eSH (e := 55) (l := []) U U U U kR U U kW (fun b273 => ⟨ttc (fun w_ hw_ => (tc1 (At.whole 2 U w_ hw_) tc0)), ?_⟩)
   refine SR.two (i := 3) (j := 4) kR ⟨_, U, ?_⟩ ⟨_, U, ?_⟩
   ·
    refine st_app0 (E := eVH) (m := p.vehs) U U U U Try.underlying25 ai37 U U U (.t .h) rO (Src.w (Fr.flat ((hPB).ext hx_9).2.2.1.1)) lO U (fun v274 => ⟨ttc (fun w_ hw_ => (tc1 (At.whole 2 U w_ hw_) tc0)), ?_⟩)
    refine SR.z 12 U U (ev_fa U fo29_3 U (r := 5) U) ?_
    refine SR.o 4 U (st_lit eJB (e := 53) (l := []) U U U U kR U U kW (fun b275 => ⟨ttc (fun w_ hw_ => (tc1 (At.whole 3 U w_ hw_) tc0)), ?_⟩))
    refine SR.o 7 U (st_app0 (E := eJB) (m := p.jobs) U U U U Try.underlying26 ai53 U U U .h rO (Src.w (Fr.flat ((hPB).ext hx_9).2.2.2.1.1)) lO U (fun v276 => ⟨ttc (fun w_ hw_ => (tc1 (At.whole 3 U w_ hw_) tc0)), ?_⟩))
    refine SR.o 11 U (st_app0 (E := eSH) (m := p.ships) U U U U Try.underlying27 ai55 U U U (.t (.t .h)) rO (Src.w (Fr.flat ((hPB).ext hx_9).2.2.2.2.1)) lO U (fun v277 => ⟨ttc (fun w_ hw_ => (tc1 (At.whole 3 U w_ hw_) tc0)), ?_⟩))
    exact SR.weakj (key238 (v277, v276, v274)) kR (Sub.get (.c4 U U U U (.c U (.c U .n)))) (fun w hw => hw.keep (.c .h (.c .h (.c .h (.c .h .n)))))
   refine st_lit eJB (e := 53) (l := []) U U U U kR U U kW (fun b278 => ⟨ttc (fun w_ hw_ => (tc1 (At.whole 3 U w_ hw_) tc0)), ?_⟩)
   refine SR.o 3 U (st_app0 (E := eVH) (m := p.vehs) U U U U Try.underlying25 ai37 U U U (.t (.t .h)) rO (Src.w (Fr.flat ((hPB).ext hx_9).2.2.1.1)) lO U (fun v279 => ⟨ttc (fun w_ hw_ => (tc1 (At.whole 3 U w_ hw_) tc0)), ?_⟩))
   refine SR.z 12 U U (ev_fa U fo29_3 U (r := 5) U) ?_
   refine SR.o 7 U (st_app0 (E := eJB) (m := p.jobs) U U U U Try.underlying26 ai53 U U U (.t .h) rO (Src.w (Fr.flat ((hPB).ext hx_9).2.2.2.1.1)) lO U (fun v280 => ⟨ttc (fun w_ hw_ => (tc1 (At.whole 3 U w_ hw_) tc0)), ?_⟩))
   refine SR.o 11 U (st_app0 (E := eSH) (m := p.ships) U U U U Try.underlying27 ai55 U U U (.t (.t .h)) rO (Src.w (Fr.flat ((hPB).ext hx_9).2.2.2.2.1)) lO U (fun v281 => ⟨ttc (fun w_ hw_ => (tc1 (At.whole 3 U w_ hw_) tc0)), ?_⟩))
   exact SR.weakj (key238 (v281, v280, v279)) kR (Sub.get (.c4 U U U U (.c U (.c U .n)))) (fun w hw => hw.keep (.c .h (.c .h (.c .h (.c .h .n)))))
  ·
   refine st_lit eJB (e := 53) (l := []) U U U U kR U U kW (fun b282 => ⟨ttc (fun w_ hw_ => (tc1 (At.whole 1 U w_ hw_) tc0)), ?_⟩)
   refine SR.two (i := 0) (j := 8) kR ⟨_, U, ?_⟩ ⟨_, U, ?_⟩
   ·
    refine st_lit eVH (e := 37) (l := []) U U U U kR U U kW (fun b283 => ⟨ttc (fun w_ hw_ => (tc1 (At.whole 2 U w_ hw_) tc0)), ?_⟩)
    refine SR.two (i := 3) (j := 8) kR ⟨_, U, ?_⟩ ⟨_, U, ?_⟩
    ·
     refine st_app0 (E := eVH) (m := p.vehs) U U U U Try.underlying25 ai37 U U U .h rO (Src.w (Fr.flat ((hPB).ext hx_9).2.2.1.1)) lO U (fun v284 => ⟨ttc (fun w_ hw_ => (tc1 (At.whole 2 U w_ hw_) tc0)), ?_⟩)
     refine SR.z 12 U U (ev_fa U fo29_3 U (r := 5) U) ?_
     refine SR.two (i := 7) (j := 8) kR ⟨_, U, ?_⟩ ⟨_, U, ?_⟩
     ·
      refine st_app0 (E := eJB) (m := p.jobs) U U U U Try.underlying26 ai53 U U U (.t .h) rO (Src.w (Fr.flat ((hPB).ext hx_9).2.2.2.1.1)) lO U (fun v285 => ⟨ttc (fun w_ hw_ => (tc1 (At.whole 2 U w_ hw_) tc0)), ?_⟩)
      refine SR.o 8 U (st_lit eSH (e := 55) (l := []) U U U U kR U U kW (fun b286 => ⟨ttc (fun w_ hw_ => (tc1 (At.whole 3 U w_ hw_) tc0)), ?_⟩))
      refine SR.o 11 U (st_app0 (E := eSH) (m := p.ships) U U U U Try.underlying27 ai55 U U U .h rO (Src.w (Fr.flat ((hPB).ext hx_9).2.2.2.2.1)) lO U (fun v287 => ⟨ttc (fun w_ hw_ => (tc1 (At.whole 3 U w_ hw_) tc0)), ?_⟩))
      exact SR.weakj (key238 (v287, v285, v284)) kR (Sub.get (.c4 U U U U (.c U (.c U .n)))) (fun w hw => hw.keep (.c .h (.c .h (.c .h (.c .h .n)))))
     refine st_lit eSH (e := 55) (l := []) U U U U kR U U kW (fun b288 => ⟨ttc (fun w_ hw_ => (tc1 (At.whole 3 U w_ hw_) tc0)), ?_⟩)
     refine SR.o 7 U (st_app0 (E := eJB) (m := p.jobs) U U U U Try.underlying26 ai53 U U U (.t (.t .h)) rO (Src.w (Fr.flat ((hPB).ext hx_9).2.2.2.1.1)) lO U (fun v289 => ⟨ttc (fun w_ hw_ => (tc1 (At.whole 3 U w_ hw_) tc0)), ?_⟩))
     refine SR.o 11 U (st_app0 (E := eSH) (m := p.ships) U U U U Try.underlying27 ai55 U U U (.t .h) rO (Src.w (Fr.flat ((hPB).ext hx_9).2.2.2.2.1)) lO U (fun v290 => ⟨ttc (fun w_ hw_ => (tc1 (At.whole 3 U w_ hw_) tc0)), ?_⟩))
     exact SR.weakj (key238 (v290, v289, v284)) kR (Sub.get (.c4 U U U U (.c U (.c U .n)))) (fun w hw => hw.keep (.c .h (.c .h (.c .h (.c .h .n)))))
    refine st_lit eSH (e := 55) (l := []) U U U U kR U U kW (fun b291 => ⟨ttc (fun w_ hw_ => (tc1 (At.whole 3 U w_ hw_) tc0)), ?_⟩)
    refine SR.o 3 U (st_app0 (E := eVH) (m := p.vehs) U U U U Try.underlying25 ai37 U U U (.t .h) rO (Src.w (Fr.flat ((hPB).ext hx_9).2.2.1.1)) lO U (fun v292 => ⟨ttc (fun w_ hw_ => (tc1 (At.whole 3 U w_ hw_) tc0)), ?_⟩))
    refine SR.z 12 U U (ev_fa U fo29_3 U (r := 5) U) ?_
    refine SR.o 7 U (st_app0 (E := eJB) (m := p.jobs) U U U U Try.underlying26 ai53 U U U (.t (.t .h)) rO (Src.w (Fr.flat ((hPB).ext hx_9).2.2.2.1.1)) lO U (fun v293 => ⟨ttc (fun w_ hw_ => (tc1 (At.whole 3 U w_ hw_) tc0)), ?_⟩))
    refine SR.o 11 U (st_app0 (E := eSH) (m := p.ships) U U U U Try.underlying27 ai55 U U U (.t (.t .h)) rO (Src.w (Fr.flat ((hPB).ext hx_9).2.2.2.2.1)) lO U (fun v294 => ⟨ttc (fun w_ hw_ => (tc1 (At.whole 3 U w_ hw_) tc0)), ?_⟩))
    exact SR.weakj (key238 (v294, v293, v292)) kR (Sub.get (.c4 U U U U (.c U (.c U .n)))) (fun w hw => hw.keep (.c .h (.c .h (.c .h (.c .h .n)))))
   refine st_lit eSH (e := 55) (l := []) U U U U kR U U kW (fun b295 => ⟨ttc (fun w_ hw_ => (tc1 (At.whole 2 U w_ hw_) tc0)), ?_⟩)
   refine SR.o 0 U (st_lit eVH (e := 37) (l := []) U U U U kR U U kW (fun b296 => ⟨ttc (fun w_ hw_ => (tc1 (At.whole 3 U w_ hw_) tc0)), ?_⟩))
   refine SR.o 3 U (st_app0 (E := eVH) (m := p.vehs) U U U U Try.underlying25 ai37 U U U .h rO (Src.w (Fr.flat ((hPB).ext hx_9).2.2.1.1)) lO U (fun v297 => ⟨ttc (fun w_ hw_ => (tc1 (At.whole 3 U w_ hw_) tc0)), ?_⟩))
   refine SR.z 12 U U (ev_fa U fo29_3 U (r := 5) U) ?_
   refine SR.o 7 U (st_app0 (E := eJB) (m := p.jobs) U U U U Try.underlying26 ai53 U U U (.t (.t .h)) rO (Src.w (Fr.flat ((hPB).ext hx_9).2.2.2.1.1)) lO U (fun v298 => ⟨ttc (fun w_ hw_ => (tc1 (At.whole 3 U w_ hw_) tc0)), ?_⟩))
   refine SR.o 11 U (st_app0 (E := eSH) (m := p.ships) U U U U Try.underlying27 ai55 U U U (.t (.t .h)) rO (Src.w (Fr.flat ((hPB).ext hx_9).2.2.2.2.1)) lO U (fun v299 => ⟨ttc (fun w_ hw_ => (tc1 (At.whole 3 U w_ hw_) tc0)), ?_⟩))
   exact SR.weakj (key238 (v299, v298, v297)) kR (Sub.get (.c4 U U U U (.c U (.c U .n)))) (fun w hw => hw.keep (.c .h (.c .h (.c .h (.c .h .n)))))
  refine st_lit eSH (e := 55) (l := []) U U U U kR U U kW (fun b300 => ⟨ttc (fun w_ hw_ => (tc1 (At.whole 1 U w_ hw_) tc0)), ?_⟩)
  refine SR.two (i := 0) (j := 4) kR ⟨_, U, ?_⟩ ⟨_, U, ?_⟩
  ·
   refine st_lit eVH (e := 37) (l := []) U U U U kR U U kW (fun b301 => ⟨ttc (fun w_ hw_ => (tc1 (At.whole 2 U w_ hw_) tc0)), ?_⟩)
   refine SR.two (i := 3) (j := 4) kR ⟨_, U, ?_⟩ ⟨_, U, ?_⟩
   ·
    refine st_app0 (E := eVH) (m := p.vehs) U U U U Try.underlying25 ai37 U U U .h rO (Src.w (Fr.flat ((hPB).ext hx_9).2.2.1.1)) lO U (fun v302 => ⟨ttc (fun w_ hw_ => (tc1 (At.whole 2 U w_ hw_) tc0)), ?_⟩)
    refine SR.z 12 U U (ev_fa U fo29_3 U (r := 5) U) ?_
    refine SR.o 4 U (st_lit eJB (e := 53) (l := []) U U U U kR U U kW (fun b303 => ⟨ttc (fun w_ hw_ => (tc1 (At.whole 3 U w_ hw_) tc0)), ?_⟩))
    refine SR.o 7 U (st_app0 (E := eJB) (m := p.jobs) U U U U Try.underlying26 ai53 U U U .h rO (Src.w (Fr.flat ((hPB).ext hx_9).2.2.2.1.1)) lO U (fun v304 => ⟨ttc (fun w_ hw_ => (tc1 (At.whole 3 U w_ hw_) tc0)), ?_⟩))
    refine SR.o 11 U (st_app0 (E := eSH) (m := p.ships) U U U U Try.underlying27 ai55 U U U (.t (.t .h)) rO (Src.w (Fr.flat ((hPB).ext hx_9).2.2.2.2.1)) lO U (fun v305 => ⟨ttc (fun w_ hw_ => (tc1 (At.whole 3 U w_ hw_) tc0)), ?_⟩))
    exact SR.weakj (key238 (v305, v304, v302)) kR (Sub.get (.c4 U U U U (.c U (.c U .n)))) (fun w hw => hw.keep (.c .h (.c .h (.c .h (.c .h .n)))))
   refine st_lit eJB (e := 53) (l := []) U U U U kR U U kW (fun b306 => ⟨ttc (fun w_ hw_ => (tc1 (At.whole 3 U w_ hw_) tc0)), ?_⟩)
   refine SR.o 3 U (st_app0 (E := eVH) (m := p.vehs) U U U U Try.underlying25 ai37 U U U (.t .h) rO (Src.w (Fr.flat ((hPB).ext hx_9).2.2.1.1)) lO U (fun v307 => ⟨ttc (fun w_ hw_ => (tc1 (At.whole 3 U w_ hw_) tc0)), ?_⟩))
   refine SR.z 12 U U (ev_fa U fo29_3 U (r := 5) U) ?_
   refine SR.o 7 U (st_app0 (E := eJB) (m := p.jobs) U U U U Try.underlying26 ai53 U U U (.t .h) rO (Src.w (Fr.flat ((hPB).ext hx_9).2.2.2.1.1)) lO U (fun v308 => ⟨ttc (fun w_ hw_ => (tc1 (At.whole 3 U w_ hw_) tc0)), ?_⟩))
   refine SR.o 11 U (st_app0 (E := eSH) (m := p.ships) U U U U Try.underlying27 ai55 U U U (.t (.t .h)) rO (Src.w (Fr.flat ((hPB).ext hx_9).2.2.2.2.1)) lO U (fun v309 => ⟨ttc (fun w_ hw_ => (tc1 (At.whole 3 U w_ hw_) tc0)), ?_⟩))
   exact SR.weakj (key238 (v309, v308, v307)) kR (Sub.get (.c4 U U U U (.c U (.c U .n)))) (fun w hw => hw.keep (.c .h (.c .h (.c .h (.c .h .n)))))
  refine st_lit eJB (e := 53) (l := []) U U U U kR U U kW (fun b310 => ⟨ttc (fun w_ hw_ => (tc1 (At.whole 2 U w_ hw_) tc0)), ?_⟩)
  refine SR.o 0 U (st_lit eVH (e := 37) (l := []) U U U U kR U U kW (fun b311 => ⟨ttc (fun w_ hw_ => (tc1 (At.whole 3 U w_ hw_) tc0)), ?_⟩))
  refine SR.o 3 U (st_app0 (E := eVH) (m := p.vehs) U U U U Try.underlying25 ai37 U U U .h rO (Src.w (Fr.flat ((hPB).ext hx_9).2.2.1.1)) lO U (fun v312 => ⟨ttc (fun w_ hw_ => (tc1 (At.whole 3 U w_ hw_) tc0)), ?_⟩))
  refine SR.z 12 U U (ev_fa U fo29_3 U (r := 5) U) ?_
  refine SR.o 7 U (st_app0 (E := eJB) (m := p.jobs) U U U U Try.underlying26 ai53 U U U (.t .h) rO (Src.w (Fr.flat ((hPB).ext hx_9).2.2.2.1.1)) lO U (fun v313 => ⟨ttc (fun w_ hw_ => (tc1 (At.whole 3 U w_ hw_) tc0)), ?_⟩))
  refine SR.o 11 U (st_app0 (E := eSH) (m := p.ships) U U U U Try.underlying27 ai55 U U U (.t (.t .h)) rO (Src.w (Fr.flat ((hPB).ext hx_9).2.2.2.2.1)) lO U (fun v314 => ⟨ttc (fun w_ hw_ => (tc1 (At.whole 3 U w_ hw_) tc0)), ?_⟩))
  exact SR.weakj (key238 (v314, v313, v312)) kR (Sub.get (.c4 U U U U (.c U (.c U .n)))) (fun w hw => hw.keep (.c .h (.c .h (.c .h (.c .h .n)))))
 refine SR.join (X := Value × Value) (fun (zv315, zv316) => ([(1, .pointer (some ⟨b1, 0, none⟩)), (2, .pointer (some ⟨b2, 0, none⟩)), (14, zv316), (21, .pointer (some ⟨b1, 2, none⟩)), (19, zv315)], [rw_ eZ 3 (zv315) p.dist, rw_ eZ 3 (zv316) p.time, cel b1 (cPB p) 29])) 4 #[true, true, true, true, true, true, true, true, true, true, true, true, false, false, false, false] (fun ⟨zv315, zv316⟩ => ?_) (fun key317 => ?_)
 ·
  show SR _ _ _ _ _ _ _ _ _ ⟨[(1, .pointer (some ⟨b1, 0, none⟩)), (2, .pointer (some ⟨b2, 0, none⟩)), (14, zv316), (21, .pointer (some ⟨b1, 2, none⟩)), (19, zv315)], [rw_ eZ 3 (zv315) p.dist, rw_ eZ 3 (zv316) p.time, cel b1 (cPB p) 29], _, _⟩
  refine .know (row_len 1 U) (fun hv320 => ?_)
  obtain ⟨A318, c319, rfl, hv320_1, hv320_2⟩ := hv320
  unfold maxLen at hv320_2
  refine SR.o 12 U (st_store1 U U U ty22 U U U (.t (.t .h)) (.t (.t .h)) ⟨ttc (fun w_ hw_ => (tc2 kR tc0)), ?_⟩)
  refine SR.z 13 U U (ev_fa U fo29_2 U (r := 3) U) ?_
  refine SR.z 14 U U (ev_fa U fo24_1 U (r := 4) U) ?_
  refine .know (row_len 1 U) (fun hv323 => ?_)
  obtain ⟨A321, c322, rfl, hv323_1, hv323_2⟩ := hv323
  unfold maxLen at hv323_2
  refine SR.o 15 U (st_store1 U U U ty22 U U U .h (.t (.t (.t (.t .h)))) ⟨ttc (fun w_ hw_ => (tc2 kR tc0)), ?_⟩)
  refine SR.fin kR hl_3 hx_3 hR_3 (.c (.c (.c .n))) ?_
  exact SQ.weak (key8 (A318, c319, A321, c322)) (Sub.get (.c U (.c U .n))) (fun w hw => hw.keep (.c .h (.c .h (.c .h (.c .h .n)))))
 refine SR.z 1 U U (ev_fa U fo29_1 U (r := 1) U) ?_
 refine SR.z 2 U U (ev_fa U fo24_1 U (r := 2) U) ?_
 refine SR.z 3 U U (ev_ld1 U ty22 U (At.elem1 (v := .slice p.ptA p.time.length p.ptc) (At.ofcs 0 U kR) 2 U)) ?_
 refine SR.z 6 U U (ev_fa U fo29_2 U (r := 3) U) ?_
 refine SR.z 7 U U (ev_fa U fo24_1 U (r := 4) U) ?_
 refine SR.z 8 U U (ev_ld1 U ty22 U (At.elem1 (v := .slice p.pdA p.dist.length p.pdc) (At.ofcs 0 U kR) 4 U)) ?_
 refine SR.two (i := 0) (j := 5) kR ⟨_, U, ?_⟩ ⟨_, U, ?_⟩
 ·
  refine st_lit eZ (e := 3) (l := []) U U U U kR U U kW (fun b324 => ⟨ttc (fun w_ hw_ => (tc1 (At.whole 1 U w_ hw_) tc0)), ?_⟩)
  refine SR.two (i := 4) (j := 5) kR ⟨_, U, ?_⟩ ⟨_, U, ?_⟩
  ·
   refine st_app0 (E := eZ) (m := p.time) U U U U Try.underlying22 ai3 U U U .h rO (Src.w (Fr.flat ((hPB).ext hx_3).1)) lO U (fun v325 => ⟨ttc (fun w_ hw_ => (tc1 (At.whole 1 U w_ hw_) tc0)), ?_⟩)
   refine SR.z 10 U U (ev_fa U fo29_1 U (r := 1) U) ?_
   refine SR.z 11 U U (ev_fa U fo24_1 U (r := 2) U) ?_
   refine SR.o 5 U (st_lit eZ (e := 3) (l := []) U U U U kR U U kW (fun b326 => ⟨ttc (fun w_ hw_ => (tc1 (At.whole 2 U w_ hw_) tc0)), ?_⟩))
   refine SR.o 9 U (st_app0 (E := eZ) (m := p.dist) U U U U Try.underlying22 ai3 U U U .h rO (Src.w (Fr.flat ((hPB).ext hx_3).2.1)) lO U (fun v327 => ⟨ttc (fun w_ hw_ => (tc1 (At.whole 2 U w_ hw_) tc0)), ?_⟩))
   exact SR.weakj (key317 (v327, v325)) kR (Sub.get (.c4 U U U U (.c U .n))) (fun w hw => hw.keep (.c .h (.c .h (.c .h .n))))
  refine st_lit eZ (e := 3) (l := []) U U U U kR U U kW (fun b328 => ⟨ttc (fun w_ hw_ => (tc1 (At.whole 2 U w_ hw_) tc0)), ?_⟩)
  refine SR.o 4 U (st_app0 (E := eZ) (m := p.time) U U U U Try.underlying22 ai3 U U U (.t .h) rO (Src.w (Fr.flat ((hPB).ext hx_3).1)) lO U (fun v329 => ⟨ttc (fun w_ hw_ => (tc1 (At.whole 2 U w_ hw_) tc0)), ?_⟩))
  refine SR.z 10 U U (ev_fa U fo29_1 U (r := 1) U) ?_
  refine SR.z 11 U U (ev_fa U fo24_1 U (r := 2) U) ?_
  refine SR.o 9 U (st_app0 (E := eZ) (m := p.dist) U U U U Try.underlying22 ai3 U U U (.t .h) rO (Src.w (Fr.flat ((hPB).ext hx_3).2.1)) lO U (fun v330 => ⟨ttc (fun w_ hw_ => (tc1 (At.whole 2 U w_ hw_) tc0)), ?_⟩))
  exact SR.weakj (key317 (v330, v329)) kR (Sub.get (.c4 U U U U (.c U .n))) (fun w hw => hw.keep (.c .h (.c .h (.c .h .n))))
 refine st_lit eZ (e := 3) (l := []) U U U U kR U U kW (fun b331 => ⟨ttc (fun w_ hw_ => (tc1 (At.whole 1 U w_ hw_) tc0)), ?_⟩)
 refine SR.o 0 U (st_lit eZ (e := 3) (l := []) U U U U kR U U kW (fun b332 => ⟨ttc (fun w_ hw_ => (tc1 (At.whole 2 U w_ hw_) tc0)), ?_⟩))
 refine SR.o 4 U (st_app0 (E := eZ) (m := p.time) U U U U Try.underlying22 ai3 U U U .h rO (Src.w (Fr.flat ((hPB).ext hx_3).1)) lO U (fun v333 => ⟨ttc (fun w_ hw_ => (tc1 (At.whole 2 U w_ hw_) tc0)), ?_⟩))
 refine SR.z 10 U U (ev_fa U fo29_1 U (r := 1) U) ?_
 refine SR.z 11 U U (ev_fa U fo24_1 U (r := 2) U) ?_
 refine SR.o 9 U (st_app0 (E := eZ) (m := p.dist) U U U U Try.underlying22 ai3 U U U (.t .h) rO (Src.w (Fr.flat ((hPB).ext hx_3).2.1)) lO U (fun v334 => ⟨ttc (fun w_ hw_ => (tc1 (At.whole 2 U w_ hw_) tc0)), ?_⟩))
 exact SR.weakj (key317 (v334, v333)) kR (Sub.get (.c4 U U U U (.c U .n))) (fun w hw => hw.keep (.c .h (.c .h (.c .h .n))))
end Go.Proofs.Ytimhdimhdimbjaa.Sx
set_option maxRecDepth 20000
set_option maxHeartbeats 1000000
namespace Go.Proofs.Ytimhdimhdimbjaa.Sx.FEG
open Go Go.SX Go.Proofs FA FB FC FD FE FF FG FH FJ FK FL FP FQ FW FEA FEB FEC FED FEE FEF
theorem hbd13 : hasBody Try.prog 13 = true := by kernel_rfl
theorem hbd9 : hasBody Try.prog 9 = true := by kernel_rfl
theorem hbd6 : hasBody Try.prog 6 = true := by kernel_rfl
theorem hbd7 : hasBody Try.prog 7 = true := by kernel_rfl
theorem hbd8 : hasBody Try.prog 8 = true := by kernel_rfl
theorem hbd10 : hasBody Try.prog 10 = true := by kernel_rfl
theorem hbd11 : hasBody Try.prog 11 = true := by kernel_rfl
end Go.Proofs.Ytimhdimhdimbjaa.Sx.FEG
namespace Go.Proofs.Ytimhdimhdimbjaa.Sx
open Go Go.SX Go.Proofs FA FB FC FD FE FF FG FH FJ FK FL FP FQ FW FEA FEB FEC FED FEE FEF FEG
theorem awake19_ (S : Nat → Prop) (wf : World) :
  TR0 Try.prog 6 [] [] S wf (fun v_ C_ => v_ = .bool true ∧ C_ = []) := by
 refine TR.mk Try.func6 U Try.ntmps6 U U (fun w_ => ?_)
 refine .seq (.region (.a U U U (.go idQ (.seq (.region (.cons (st_call U U U U hbd13 U .n (line_ _ _) (fun v_q2 C_q2 S_q2 wf_q2 q2 hx_q2 => ?_))))))))
 obtain ⟨⟨q1, p3, p4, rfl⟩, rfl⟩ := q2
 show SP _ _ _ _ _ _ ⟨_, [], _, _⟩
 have hLq : LawP q1 := law_era (p := lineP) p4 line_law
 refine .cons (st_call0 U U U U hbd9 U .n (xbest_ q1 _ _ p3 hLq (line_small p4)) (fun v_q7 C_q7 q7 => ?_))
 obtain ⟨rv5, R6, p8, rfl, rfl⟩ := q7
 show SP _ _ _ _ _ _ ⟨_, _ :: _ :: _, _, _⟩
 refine .know (row_len 0 U) (fun hv11 => ?_)
 obtain ⟨A9, c10, rfl, hv11_1, hv11_2⟩ := hv11
 unfold maxLen at hv11_2
 have hB := p8
 obtain ⟨hR1, hR2⟩ := line_best p4 hB
 refine .m U U U (.v (ev_ext U U U) U (.v (ev_ext U U U) U (.cons (st_alloc U U U U zf40 (fun b12 => ?_)))))
 refine .cons (st_storea (l' := [.slice A9 R6.length c10]) U U U ty40 U U U .h U U ?_)
 refine .a U U U (.go idQ (.seq (.region (.m U U U (.m U U U ?_)))))
 refine .cons (.on U U U (Ev.step (ev_fa U fo40_0 U (r := 0) U) U U U ?_))
 refine .cons (.on U U U (Ev.step (ev_ld1 U ty38 U (At.own1 0 U U)) U U U ?_))
 refine .cons (.on U U U (Ev.step (ev_len U Try.underlying38 U) U U U ?_))
 refine .cons (.on U U U (Ev.step (ev_cmp U U U U) U U U ?_))
 refine .v (ev_pickt U U U U) U (.m U U U (.w (fun _ => ev_fa U fo40_0 U (r := 0) U) U (.w (fun hb => ev_ld1 U ty38 (lkg U hb) (At.own1 0 U U)) U ?_)))
 refine .w (fun hb => have hp := bT bE hb; ev_ix U Try.underlying38 ty60 (lkg U hb) U (by have _h := hp; omega) (by have _h := hp; omega) (row_adr (i := 0) 1 U (by have _h := hp; omega) (by have _h := hp; omega))) U (.w (fun hb => ev_fa U fo60_1 (lkg U hb) (r := ao A9 + ((0 : Int)).toNat * 2 + 1) U) U (.w (fun hb => have hp := bT bE hb; ev_ld1 U ty58 (lkg U hb) (At.elem1 (row_el (E := eRT) (l := R6) (i := 0) 1 U (by have _h := hp; omega) (by have _h := hp; omega)) 1 U)) U (.w (fun hb => ev_len U Try.underlying58 (lkg U hb)) U ?_)))
 refine .w (fun hb => ev_cmp U (lkg U hb) U U) U (.v (ev_and U U U U) U (.a U U U (.go idQ ?_)))
 refine SC.thaw hx_q2 ?_
 exact .ret idQ (ret1 Try.results6 U .n ⟨(by rw [hR1, hR2]; rfl), U⟩)
theorem exactScaled_ (p : PB) (S : Nat → Prop) (wf : World) (hPB : PBF S wf p) (hU : SkU p) :
  TR0 Try.prog 5 [.agg (cPB p).toArray] [] S wf (fun v_ C_ => v_ = .bool true ∧ C_ = []) := by
 have hlv := hPB.2.2.1.1.len
 have hlj := hPB.2.2.2.1.1.len
 have hls := hPB.2.2.2.2.1.len
 refine TR.mk Try.func5 U Try.ntmps5 U U (fun w_ => ?_)
 refine .seq (.region (.cons (st_boxa U U U U U (fun b1 => (.a U U U (.go idQ (.seq (.seq (.region ?_)))))))))
 refine .cons (st_callk U U U U hbd6 U .n (awake19_ _ _) ?_)
 refine .v (ev_not U U) U (.go idQ (.cond_f U (.skipgo idQ (.seq (.seq (.region ?_))))))
 refine .v (ev_lda rfl rfl (At.whole 0 rfl) ty29) rfl (.cons (st_call00 rfl rfl rfl rfl hbd7 rfl .n (lawful_ p _ _ hPB hU) (by intro v C h; obtain ⟨_, _, rfl, rfl⟩ := h; rfl) (fun v_q3 q3 => ?_)))
 obtain ⟨b2, p4, rfl, -⟩ := q3
 refine .v (ev_not U U) U (.m U U U (.w (fun _ => ev_lda U U (At.whole 0 U) ty29) U (.cons (st_gcallk U U U U U U hbd8 (fun hb => (lkA1 (lkg U hb) lkA0)) .n (fun hb => have hp := bF (bN bV) hb; rsmall19_ p _ _ hPB) ?_))))
 refine .w (fun hb => ev_not U (lkg U hb)) U (.v (ev_or U U U U) U (.m U U U (.w (fun _ => ev_fa U fo29_3 U (r := 5) U) U ?_)))
 refine .w (fun hb => ev_ld1 U ty25 (lkg U hb) (At.own1 0 U U)) U (.w (fun hb => ev_len U Try.underlying25 (lkg U hb)) U (.w (fun hb => ev_cmp U (lkg U hb) U U) U (.v (ev_or U U U U) U ?_)))
 refine .m U U U (.w (fun _ => ev_fa U fo29_4 U (r := 6) U) U (.w (fun hb => ev_ld1 U ty26 (lkg U hb) (At.own1 0 U U)) U (.w (fun hb => ev_len U Try.underlying26 (lkg U hb)) U ?_)))
 refine .w (fun _ => ev_fa U fo29_5 U (r := 7) U) U (.w (fun hb => ev_ld1 U ty27 (lkg U hb) (At.own1 0 U U)) U (.w (fun hb => ev_len U Try.underlying27 (lkg U hb)) U (.w (fun hb => have hp := bF (bO (bO (bN bV) (bN (bA bD bD))) bNE) hb; ev_mul U U (lkg U hb) (r := (2 * (p.ships.length : Int))) U (by have _h := hp; omega) (by have _h := hp; omega)) U ?_)))
 refine .w (fun hb => have hp := bF (bO (bO (bN bV) (bN (bA bD bD))) bNE) hb; ev_add U (lkg U hb) (lkg U hb) (r := ((p.jobs.length : Int) + (2 * (p.ships.length : Int)))) U (by have _h := hp; omega) (by have _h := hp; omega)) U (.w (fun hb => ev_cmp U (lkg U hb) U U) U (.v (ev_or U U U U) U (.go idQ ?_)))
 refine .condI U (bO (bO (bO (bN bV) (bN (bA bD bD))) bNE) bD) (fun h5 => ?_) (fun h5 => ?_)
 ·
  refine .seq (.region (.a U U U (.go idQ (.ret idQ (ret1 Try.results5 U .n ⟨U, U⟩)))))
 refine .skipgo idQ (.seq ?_)
 have hlt : b2 = true := Classical.byContradiction fun q_ => h5 (by repeat (first | exact q_ | refine .inl ?_))
 have hLp : LawP p := p4 hlt
 have hsz : p.vehs.length ≤ 1 ∧ p.jobs.length + 2 * p.ships.length ≤ 6 := by have h_ := h5; simp only [not_or, Classical.not_not] at h_; omega
 have hsz2 : p.vehs.length = 1 := by have h_ := h5; simp only [not_or, Classical.not_not] at h_; omega
 refine .region (.v (ev_lda U U (At.whole 0 U) ty29) U (.cons (st_call U U U U hbd10 U .n (copied2_ p _ _ hPB hLp) (fun v_q7 C_q7 S_q7 wf_q7 q7 hx_q7 => ?_))))
 obtain ⟨q6, p8, p9, rfl, rfl⟩ := q7
 show SP _ _ _ _ _ _ ⟨_, [rw_ eVH 37 (.slice q6.pvA q6.vehs.length q6.pvc) q6.vehs, rw_ eJB 53 (.slice q6.pjA q6.jobs.length q6.pjc) q6.jobs, rw_ eSH 55 (.slice q6.psA q6.ships.length q6.psc) q6.ships, cel b1 (cPB p) 29], _, _⟩
 have hLq_q6 : LawP q6 := law_era p9 hLp
 have hel_q6 := era_len p9
 refine .cons (st_alloc U U U U zf29 (fun b10 => ?_))
 refine .cons (st_storea (l' := (cPB q6)) U U U ty29 U U U .h U U ?_)
 refine .go idQ (.seq (.region (.v (ev_fa U fo29_3 U (r := 5) U) U (.v (ev_ld1 U ty25 U (At.own1 0 U U)) U (.v (ev_ix U Try.underlying25 ty37 U U oO oO (row_adr (i := 0) 1 U oO lO)) U ?_)))))
 refine .a U U U (.go idQ (.seq ?_))
 have hV0 := hLq_q6.veh 0 oO oO
 have hfx := hV0.fix
 have hpt := hV0.pt
 have hpd := hV0.pd
 refine SC.draw mo [rw_ eVH 37 (.slice q6.pvA q6.vehs.length q6.pvc) q6.vehs] [(20, fun w => At w (ab q6.pvA) (ao q6.pvA + ((0 : Int)).toNat * eVH.sz) (eVH.enc (gt q6.vehs (0 : Int))))] (.c (.t .h) .n) (fun w_ _ hw_ => (sc1 (row_el (E := eVH) (l := q6.vehs) (i := (0 : Int)) 0 U oO lO w_ hw_) sc0)) (fun wf_11 hl_11 hx_11 hR_11 => ?_)
 refine SR.m 0 U U U U ?_
 refine SR.m 1 U U U U ?_
 refine SR.m 2 U U U U ?_
 refine SR.m 3 U U U U ?_
 refine SR.z 4 U U (ev_nil U U) ?_
 refine SR.z 5 U U (ev_fa U fo37_5 U (r := ao q6.pvA + ((0 : Int)).toNat * 11 + 6) U) ?_
 refine SR.z 6 U U (ev_ld1 U ty3 U (At.elem1 (At.ofcs 0 U kR) 6 U)) ?_
 refine SR.z 7 U U (ev_mul U U U (r := (3 * ((gt q6.vehs 0).fix))) U oO oO) ?_
 refine SR.m 8 U U U U ?_
 refine SR.z 9 U U (ev_nil U U) ?_
 refine SR.z 10 U U (ev_fa U fo37_6 U (r := ao q6.pvA + ((0 : Int)).toNat * 11 + 7) U) ?_
 refine SR.z 11 U U (ev_ld1 U ty3 U (At.elem1 (At.ofcs 0 U kR) 7 U)) ?_
 refine SR.z 12 U U (ev_mul U U U (r := (3 * ((gt q6.vehs 0).pt))) U oO oO) ?_
 refine SR.m 13 U U U U ?_
 refine SR.z 14 U U (ev_nil U U) ?_
 refine SR.z 15 U U (ev_fa U fo37_7 U (r := ao q6.pvA + ((0 : Int)).toNat * 11 + 8) U) ?_
 refine SR.z 16 U U (ev_ld1 U ty3 U (At.elem1 (At.ofcs 0 U kR) 8 U)) ?_
 refine SR.z 17 U U (ev_mul U U U (r := (3 * ((gt q6.vehs 0).pd))) U oO oO) ?_
 refine SR.z 18 U U (ev_nil U U) ?_
 refine SR.z 19 U U (ev_fa U fo37_5 U (r := ao q6.pvA + ((0 : Int)).toNat * 11 + 6) U) ?_
 refine SR.o 20 U (st_setel2 (E := eVH) (i := 0) (cs := [.int .i64 (3 * ((gt q6.vehs 0).fix))]) (off := 6) (l2 := (q6.vehs.set ((0 : Int)).toNat (VH.mk ((gt q6.vehs 0).st) ((gt q6.vehs 0).en) ((gt q6.vehs 0).vcap) ((gt q6.vehs 0).vsk) ((gt q6.vehs 0).lo) ((gt q6.vehs 0).hi) (3 * ((gt q6.vehs 0).fix)) ((gt q6.vehs 0).pt) ((gt q6.vehs 0).pd) ((gt q6.vehs 0).mt) ((gt q6.vehs 0).brs) ((gt q6.vehs 0).vcA) ((gt q6.vehs 0).vcc) ((gt q6.vehs 0).vbA) ((gt q6.vehs 0).vbc)))) (VH.mk ((gt q6.vehs 0).st) ((gt q6.vehs 0).en) ((gt q6.vehs 0).vcap) ((gt q6.vehs 0).vsk) ((gt q6.vehs 0).lo) ((gt q6.vehs 0).hi) (3 * ((gt q6.vehs 0).fix)) ((gt q6.vehs 0).pt) ((gt q6.vehs 0).pd) ((gt q6.vehs 0).mt) ((gt q6.vehs 0).brs) ((gt q6.vehs 0).vcA) ((gt q6.vehs 0).vcc) ((gt q6.vehs 0).vbA) ((gt q6.vehs 0).vbc)) U U U ty3 U U U U U .h lO lO (Nat.le_of_ble_eq_true U) U U ⟨ttc (fun w_ hw_ => (tc2 kR tc0)), ?_⟩)
 refine SR.z 21 U U (ev_nil U U) ?_
 refine SR.z 22 U U (ev_fa U fo37_6 U (r := ao q6.pvA + ((0 : Int)).toNat * 11 + 7) U) ?_
 refine SR.o 23 U (st_setel2 (E := eVH) (i := 0) (cs := [.int .i64 (3 * ((gt q6.vehs 0).pt))]) (off := 7) (l2 := (q6.vehs.set ((0 : Int)).toNat (VH.mk ((gt q6.vehs 0).st) ((gt q6.vehs 0).en) ((gt q6.vehs 0).vcap) ((gt q6.vehs 0).vsk) ((gt q6.vehs 0).lo) ((gt q6.vehs 0).hi) (3 * ((gt q6.vehs 0).fix)) (3 * ((gt q6.vehs 0).pt)) ((gt q6.vehs 0).pd) ((gt q6.vehs 0).mt) ((gt q6.vehs 0).brs) ((gt q6.vehs 0).vcA) ((gt q6.vehs 0).vcc) ((gt q6.vehs 0).vbA) ((gt q6.vehs 0).vbc)))) (VH.mk ((gt q6.vehs 0).st) ((gt q6.vehs 0).en) ((gt q6.vehs 0).vcap) ((gt q6.vehs 0).vsk) ((gt q6.vehs 0).lo) ((gt q6.vehs 0).hi) (3 * ((gt q6.vehs 0).fix)) (3 * ((gt q6.vehs 0).pt)) ((gt q6.vehs 0).pd) ((gt q6.vehs 0).mt) ((gt q6.vehs 0).brs) ((gt q6.vehs 0).vcA) ((gt q6.vehs 0).vcc) ((gt q6.vehs 0).vbA) ((gt q6.vehs 0).vbc)) U U U ty3 U U U U U .h lO lO (Nat.le_of_ble_eq_true U) (by rw [gt_sets oO lO]; rfl) (set_set_ _ _ _ _) ⟨ttc (fun w_ hw_ => (tc2 kR tc0)), ?_⟩)
 refine SR.z 24 U U (ev_nil U U) ?_
 refine SR.z 25 U U (ev_fa U fo37_7 U (r := ao q6.pvA + ((0 : Int)).toNat * 11 + 8) U) ?_
 refine SR.o 26 U (st_setel2 (E := eVH) (i := 0) (cs := [.int .i64 (3 * ((gt q6.vehs 0).pd))]) (off := 8) (l2 := (q6.vehs.set ((0 : Int)).toNat (VH.mk ((gt q6.vehs 0).st) ((gt q6.vehs 0).en) ((gt q6.vehs 0).vcap) ((gt q6.vehs 0).vsk) ((gt q6.vehs 0).lo) ((gt q6.vehs 0).hi) (3 * ((gt q6.vehs 0).fix)) (3 * ((gt q6.vehs 0).pt)) (3 * ((gt q6.vehs 0).pd)) ((gt q6.vehs 0).mt) ((gt q6.vehs 0).brs) ((gt q6.vehs 0).vcA) ((gt q6.vehs 0).vcc) ((gt q6.vehs 0).vbA) ((gt q6.vehs 0).vbc)))) (VH.mk ((gt q6.vehs 0).st) ((gt q6.vehs 0).en) ((gt q6.vehs 0).vcap) ((gt q6.vehs 0).vsk) ((gt q6.vehs 0).lo) ((gt q6.vehs 0).hi) (3 * ((gt q6.vehs 0).fix)) (3 * ((gt q6.vehs 0).pt)) (3 * ((gt q6.vehs 0).pd)) ((gt q6.vehs 0).mt) ((gt q6.vehs 0).brs) ((gt q6.vehs 0).vcA) ((gt q6.vehs 0).vcc) ((gt q6.vehs 0).vbA) ((gt q6.vehs 0).vbc)) U U U ty3 U U U U U .h lO lO (Nat.le_of_ble_eq_true U) (by rw [gt_sets oO lO]; rfl) (set_set_ _ _ _ _) ⟨ttc (fun w_ hw_ => (tc2 kR tc0)), ?_⟩)
 refine SR.fin kR hl_11 hx_11 hR_11 (.c .n) ?_
 refine SQ.go idQ ?_
 refine .seq (.seq ?_)
 obtain ⟨Vd, hVd⟩ : ∃ Vd : List VH, Vd = (q6.vehs.set ((0 : Int)).toNat (VH.mk ((gt q6.vehs 0).st) ((gt q6.vehs 0).en) ((gt q6.vehs 0).vcap) ((gt q6.vehs 0).vsk) ((gt q6.vehs 0).lo) ((gt q6.vehs 0).hi) (3 * ((gt q6.vehs 0).fix)) (3 * ((gt q6.vehs 0).pt)) (3 * ((gt q6.vehs 0).pd)) ((gt q6.vehs 0).mt) ((gt q6.vehs 0).brs) ((gt q6.vehs 0).vcA) ((gt q6.vehs 0).vcc) ((gt q6.vehs 0).vbA) ((gt q6.vehs 0).vbc))) := ⟨_, rfl⟩
 rw [← hVd]
 have hVx := one_at hVd oO
 have hVl : Vd.length = q6.vehs.length := by rw [hVx]; show 1 = _; omega
 have hg0 : gt Vd 0 = gt [_] 0 := congrArg (fun l_ : List VH => gt l_ 0) hVx
 refine SC.freeze (R := [rw_ eVH 37 (.slice q6.pvA q6.vehs.length q6.pvc) Vd, rw_ eJB 53 (.slice q6.pjA q6.jobs.length q6.pjc) q6.jobs, rw_ eSH 55 (.slice q6.psA q6.ships.length q6.psc) q6.ships]) (.c .h (.c (.t .h) (.c (.t .h) .n))) (fun Sz12 wfz12 hxz12 hhz12 hsz12 => ?_)
 have hfz12_0 := Fr.of_row (hhz12 _ (by simp)) (fun b hb => hsz12 b (feet_of 0 rfl hb)) lO
 have hfz12_1 := Fr.of_row (hhz12 _ (by simp)) (fun b hb => hsz12 b (feet_of 1 rfl hb)) lO
 have hfz12_2 := Fr.of_row (hhz12 _ (by simp)) (fun b hb => hsz12 b (feet_of 2 rfl hb)) lO
 have hPd : PBF Sz12 wfz12 ({ q6 with vehs := Vd } : PB) := NPF.pbf (p := ({ q6 with vehs := Vd } : PB)) (NPF.veh (p := q6) ((p8).ext hxz12) (veh_all hVx (((p8).ext hxz12).2.2.1 0))) hfz12_0 hfz12_1 hfz12_2
 refine SC.recel .h (show [(.int .i64 q6.dims : Value), .int .i64 q6.tn, .slice q6.ptA q6.time.length q6.ptc, .int .i64 q6.dn, .slice q6.pdA q6.dist.length q6.pdc, .slice q6.pvA q6.vehs.length q6.pvc, .slice q6.pjA q6.jobs.length q6.pjc, .slice q6.psA q6.ships.length q6.psc] = [.int .i64 (({ q6 with vehs := Vd } : PB).dims), .int .i64 (({ q6 with vehs := Vd } : PB).tn), .slice (({ q6 with vehs := Vd } : PB).ptA) (({ q6 with vehs := Vd } : PB).time.length) (({ q6 with vehs := Vd } : PB).ptc), .int .i64 (({ q6 with vehs := Vd } : PB).dn), .slice (({ q6 with vehs := Vd } : PB).pdA) (({ q6 with vehs := Vd } : PB).dist.length) (({ q6 with vehs := Vd } : PB).pdc), .slice (({ q6 with vehs := Vd } : PB).pvA) (({ q6 with vehs := Vd } : PB).vehs.length) (({ q6 with vehs := Vd } : PB).pvc), .slice (({ q6 with vehs := Vd } : PB).pjA) (({ q6 with vehs := Vd } : PB).jobs.length) (({ q6 with vehs := Vd } : PB).pjc), .slice (({ q6 with vehs := Vd } : PB).psA) (({ q6 with vehs := Vd } : PB).ships.length) (({ q6 with vehs := Vd } : PB).psc)] from (by simp only [cPB, hVl])) ?_
 have hUd : SkU ({ q6 with vehs := Vd } : PB) := sku_veh (era_sku p9 hU) hVx hV0.sk.1
 refine .region (.v (ev_lda rfl rfl (At.whole 0 rfl) ty29) rfl (.cons (st_call00 rfl rfl rfl rfl hbd7 rfl .n (lawful_ ({ q6 with vehs := Vd } : PB) _ _ hPd hUd) (by intro v C h; obtain ⟨_, _, rfl, rfl⟩ := h; rfl) (fun v_q14 q14 => ?_))))
 obtain ⟨b13, p15, rfl, -⟩ := q14
 refine .v (ev_not U U) U (.go idQ (.condI U (bN bV) (fun h16 => ?_) (fun h16 => ?_)))
 ·
  refine .seq (.region (.a U U U (.go idQ ?_)))
  refine SC.thaw hxz12 ?_
  refine SC.thaw hx_q7 ?_
  exact .ret idQ (ret1 Try.results5 U .n ⟨U, U⟩)
 refine .skipgo idQ (.seq ?_)
 have hLs : LawP ({ q6 with vehs := Vd } : PB) := p15 (Classical.not_not.1 h16)
 refine .region (.v (ev_lda U U (At.whole 1 U) ty29) U (.cons (st_call U U U U hbd10 U .n (copied2_ p _ _ ((((hPB).ext hx_q7)).ext hxz12) hLp) (fun v_q18 C_q18 S_q18 wf_q18 q18 hx_q18 => ?_))))
 obtain ⟨q17, p19, p20, rfl, rfl⟩ := q18
 show SP _ _ _ _ _ _ ⟨_, [rw_ eVH 37 (.slice q17.pvA q17.vehs.length q17.pvc) q17.vehs, rw_ eJB 53 (.slice q17.pjA q17.jobs.length q17.pjc) q17.jobs, rw_ eSH 55 (.slice q17.psA q17.ships.length q17.psc) q17.ships, cel b10 [.int .i64 (({ q6 with vehs := Vd } : PB).dims), .int .i64 (({ q6 with vehs := Vd } : PB).tn), .slice (({ q6 with vehs := Vd } : PB).ptA) (({ q6 with vehs := Vd } : PB).time.length) (({ q6 with vehs := Vd } : PB).ptc), .int .i64 (({ q6 with vehs := Vd } : PB).dn), .slice (({ q6 with vehs := Vd } : PB).pdA) (({ q6 with vehs := Vd } : PB).dist.length) (({ q6 with vehs := Vd } : PB).pdc), .slice (({ q6 with vehs := Vd } : PB).pvA) (({ q6 with vehs := Vd } : PB).vehs.length) (({ q6 with vehs := Vd } : PB).pvc), .slice (({ q6 with vehs := Vd } : PB).pjA) (({ q6 with vehs := Vd } : PB).jobs.length) (({ q6 with vehs := Vd } : PB).pjc), .slice (({ q6 with vehs := Vd } : PB).psA) (({ q6 with vehs := Vd } : PB).ships.length) (({ q6 with vehs := Vd } : PB).psc)] 29, cel b1 (cPB p) 29], _, _⟩
 have hLq_q17 : LawP q17 := law_era p20 hLp
 have hel_q17 := era_len p20
 refine SP.freeze (R := [rw_ eVH 37 (.slice q17.pvA q17.vehs.length q17.pvc) q17.vehs, rw_ eJB 53 (.slice q17.pjA q17.jobs.length q17.pjc) q17.jobs, rw_ eSH 55 (.slice q17.psA q17.ships.length q17.psc) q17.ships]) (.c .h (.c .h (.c .h .n))) (fun Sz21 wfz21 hxz21 hhz21 hsz21 => ?_)
 have hfz21_0 := Fr.of_row (hhz21 _ (by simp)) (fun b hb => hsz21 b (feet_of 0 rfl hb)) lO
 have hfz21_1 := Fr.of_row (hhz21 _ (by simp)) (fun b hb => hsz21 b (feet_of 1 rfl hb)) lO
 have hfz21_2 := Fr.of_row (hhz21 _ (by simp)) (fun b hb => hsz21 b (feet_of 2 rfl hb)) lO
 have hP_q17 := NPF.pbf ((p19).ext hxz21) hfz21_0 hfz21_1 hfz21_2
 refine .cons (st_call0 U U U U hbd9 U .n (xbest_ q17 _ _ hP_q17 hLq_q17 oO) (fun v_q24 C_q24 q24 => ?_))
 obtain ⟨rv22, R23, p25, rfl, rfl⟩ := q24
 show SP _ _ _ _ _ _ ⟨_, _ :: _ :: _, _, _⟩
 refine .know (row_len 0 U) (fun hv28 => ?_)
 obtain ⟨A26, c27, rfl, hv28_1, hv28_2⟩ := hv28
 unfold maxLen at hv28_2
 have hB1 : BestR p (R23.map rc) := best_era p20 p25
 have hB1r := best_right hLp hB1
 have hB1l : R23.length ≤ 15 := by have h_ := hB1r.2.2.1; rw [List.length_map] at h_; omega
 have hB1v : ∀ i_ : Int, (gt R23 i_).vis.length ≤ 50 := fun i_ => by have h_ := RBd_gt (b := 24) (l := R23) (fun r_ hr_ => by have := hB1r.2.2.2 r_ hr_; omega) (by decide) i_; omega
 refine .m U U U (.v (ev_ext U U U) U (.v (ev_ext U U U) U (.cons (st_alloc U U U U zf40 (fun b29 => ?_)))))
 refine .cons (st_storea (l' := [.slice A26 R23.length c27]) U U U ty40 U U U .h U U ?_)
 refine .a U U U (.go idQ (.seq (.region (.v (ev_lda U U (At.whole 3 U) ty29) U (.cons (st_call U U U U hbd10 U .n (copied2_ ({ q6 with vehs := Vd } : PB) _ _ ((((hPd).ext hx_q18)).ext hxz21) hLs) (fun v_q31 C_q31 S_q31 wf_q31 q31 hx_q31 => ?_)))))))
 obtain ⟨q30, p32, p33, rfl, rfl⟩ := q31
 show SP _ _ _ _ _ _ ⟨_, [rw_ eVH 37 (.slice q30.pvA q30.vehs.length q30.pvc) q30.vehs, rw_ eJB 53 (.slice q30.pjA q30.jobs.length q30.pjc) q30.jobs, rw_ eSH 55 (.slice q30.psA q30.ships.length q30.psc) q30.ships, cel b29 [.slice A26 R23.length c27] 40, rw_ eRT 60 (.slice A26 R23.length c27) R23, nestR 83 R23, cel b10 [.int .i64 (({ q6 with vehs := Vd } : PB).dims), .int .i64 (({ q6 with vehs := Vd } : PB).tn), .slice (({ q6 with vehs := Vd } : PB).ptA) (({ q6 with vehs := Vd } : PB).time.length) (({ q6 with vehs := Vd } : PB).ptc), .int .i64 (({ q6 with vehs := Vd } : PB).dn), .slice (({ q6 with vehs := Vd } : PB).pdA) (({ q6 with vehs := Vd } : PB).dist.length) (({ q6 with vehs := Vd } : PB).pdc), .slice (({ q6 with vehs := Vd } : PB).pvA) (({ q6 with vehs := Vd } : PB).vehs.length) (({ q6 with vehs := Vd } : PB).pvc), .slice (({ q6 with vehs := Vd } : PB).pjA) (({ q6 with vehs := Vd } : PB).jobs.length) (({ q6 with vehs := Vd } : PB).pjc), .slice (({ q6 with vehs := Vd } : PB).psA) (({ q6 with vehs := Vd } : PB).ships.length) (({ q6 with vehs := Vd } : PB).psc)] 29, cel b1 (cPB p) 29], _, _⟩
 have hLq_q30 : LawP q30 := law_era p33 hLs
 have hel_q30 := era_len p33
 have hel3 : q30.vehs.length = Vd.length ∧ q30.jobs.length = q6.jobs.length ∧ q30.ships.length = q6.ships.length := hel_q30
 refine SP.freeze (R := [rw_ eVH 37 (.slice q30.pvA q30.vehs.length q30.pvc) q30.vehs, rw_ eJB 53 (.slice q30.pjA q30.jobs.length q30.pjc) q30.jobs, rw_ eSH 55 (.slice q30.psA q30.ships.length q30.psc) q30.ships]) (.c .h (.c .h (.c .h .n))) (fun Sz34 wfz34 hxz34 hhz34 hsz34 => ?_)
 have hfz34_0 := Fr.of_row (hhz34 _ (by simp)) (fun b hb => hsz34 b (feet_of 0 rfl hb)) lO
 have hfz34_1 := Fr.of_row (hhz34 _ (by simp)) (fun b hb => hsz34 b (feet_of 1 rfl hb)) lO
 have hfz34_2 := Fr.of_row (hhz34 _ (by simp)) (fun b hb => hsz34 b (feet_of 2 rfl hb)) lO
 have hP_q30 := NPF.pbf ((p32).ext hxz34) hfz34_0 hfz34_1 hfz34_2
 refine .cons (st_call0 U U U U hbd9 U .n (xbest_ q30 _ _ hP_q30 hLq_q30 (by have h_ : q30.vehs.length = Vd.length ∧ q30.jobs.length = q6.jobs.length ∧ q30.ships.length = q6.ships.length := hel_q30; omega)) (fun v_q37 C_q37 q37 => ?_))
 obtain ⟨rv35, R36, p38, rfl, rfl⟩ := q37
 show SP _ _ _ _ _ _ ⟨_, _ :: _ :: _, _, _⟩
 refine .know (row_len 0 U) (fun hv41 => ?_)
 obtain ⟨A39, c40, rfl, hv41_1, hv41_2⟩ := hv41
 unfold maxLen at hv41_2
 have hB2 : BestR ({ q6 with vehs := Vd } : PB) (R36.map rc) := best_era p33 p38
 have hB2r := best_right hLs hB2
 have hB2l : R36.length ≤ 15 := by have h_ := hB2r.2.2.1; rw [List.length_map] at h_; omega
 have hB2v : ∀ i_ : Int, (gt R36 i_).vis.length ≤ 50 := fun i_ => by have h_ := RBd_gt (b := 24) (l := R36) (fun r_ hr_ => by have := hB2r.2.2.2 r_ hr_; omega) (by decide) i_; omega
 refine .m U U U (.v (ev_ext U U U) U (.v (ev_ext U U U) U (.cons (st_alloc U U U U zf40 (fun b42 => ?_)))))
 refine .cons (st_storea (l' := [.slice A39 R36.length c40]) U U U ty40 U U U .h U U ?_)
 refine .a U U U (.go idQ (.seq (.region (.v (ev_lda U U (At.whole 7 U) ty29) U (.v (ev_lda U U (At.whole 3 U) ty40) U ?_)))))
 refine .cons (st_lend0 U U U U hbd11 U .n (.c (.t (.t (.t (.t .h)))) (.c (.t (.t (.t (.t .h)))) .n)) (fun w_ hw => rscore_ p A26 c27 R23 _ _ (Fr.lend hw 0 U lO) ((((((((((((((hPB).ext hx_q7)).ext hxz12)).ext hx_q18)).ext hxz21)).ext hx_q31)).ext hxz34)).ext hw.lendx) (RTF.lend hw 1 U) hLp hB1l hB1v hB1r.1) (fun v_q45 C_q45 q45 => ?_))
 obtain ⟨va43, ca44, p46, p47, p48, p49, rfl, rfl⟩ := q45
 show SP _ _ _ _ _ _ ⟨_, _ :: _ :: _, _, _⟩
 refine .m U U U (.v (ev_ext U U U) U (.v (ev_ext U U U) U (.cons (st_alloc U U U U zf45 (fun b50 => ?_)))))
 refine .cons (st_storea (l' := [.int .i64 va43, .int .i64 ca44]) U U U ty45 U U U .h U U ?_)
 refine .a U U U (.go idQ (.seq (.region (.v (ev_lda U U (At.whole 7 U) ty29) U (.v (ev_lda U U (At.whole 3 U) ty40) U ?_)))))
 refine .cons (st_lend0 U U U U hbd11 U .n (.c (.t (.t (.t (.t .h)))) (.c (.t (.t (.t (.t .h)))) .n)) (fun w_ hw => rscore_ ({ q6 with vehs := Vd } : PB) A39 c40 R36 _ _ (Fr.lend hw 0 U lO) ((((((((((hPd).ext hx_q18)).ext hxz21)).ext hx_q31)).ext hxz34)).ext hw.lendx) (RTF.lend hw 1 U) hLs hB2l hB2v hB2r.1) (fun v_q53 C_q53 q53 => ?_))
 obtain ⟨va51, ca52, p54, p55, p56, p57, rfl, rfl⟩ := q53
 show SP _ _ _ _ _ _ ⟨_, _ :: _ :: _, _, _⟩
 refine .m U U U (.v (ev_ext U U U) U (.v (ev_ext U U U) U (.cons (st_alloc U U U U zf45 (fun b58 => ?_)))))
 refine .cons (st_storea (l' := [.int .i64 va51, .int .i64 ca52]) U U U ty45 U U U .h U U ?_)
 refine .a U U U (.go idQ (.seq (.region (.m U U U (.m U U U ?_)))))
 refine .cons (.on U U U (Ev.step (ev_mv U U) U U U ?_))
 refine .v (ev_pickt U U U U) U (.m U U U (.cons (.on U U U (Ev.step (ev_fa U fo45_0 U (r := 0) U) U U U (.cons (.on U U U (Ev.step (ev_ld1 U ty3 U (At.own1 3 U U)) U U U ?_)))))))
 refine .cons (.on U U U (Ev.step (ev_fa U fo45_0 U (r := 0) U) U U U ?_))
 refine .cons (.on U U U (Ev.step (ev_ld1 U ty3 U (At.own1 0 U U)) U U U ?_))
 refine .cons (.on U U U (Ev.step (ev_cmp U U U U) U U U ?_))
 refine .v (ev_pickt U U U U) U (.m U U U (.w (fun _ => ev_fa U fo45_1 U (r := 1) U) U (.w (fun hb => ev_ld1 U ty3 (lkg U hb) (At.own1 3 U U)) U ?_)))
 refine .w (fun hb => have hp := bT bE hb; ev_mul U U (lkg U hb) (r := (3 * ca44)) U (by have _h := hp; omega) (by have _h := hp; omega)) U (.w (fun _ => ev_fa U fo45_1 U (r := 1) U) U (.w (fun hb => ev_ld1 U ty3 (lkg U hb) (At.own1 0 U U)) U (.w (fun hb => ev_cmp U (lkg U hb) (lkg U hb) U) U ?_)))
 refine .v (ev_and U U U U) U (.a U U U (.go idQ ?_))
 refine SC.thaw hxz34 ?_
 refine SC.thaw hx_q31 ?_
 refine SC.thaw hxz21 ?_
 refine SC.thaw hx_q18 ?_
 refine SC.thaw hxz12 ?_
 refine SC.thaw hx_q7 ?_
 exact .ret idQ (ret1 Try.results5 rfl .n ⟨(congrArg Value.bool (by obtain ⟨h1_, h2_⟩ := scaled_eq hLq_q6 hLs oO (by rw [hVx]; rfl) (by rw [hg0]; exact ⟨rfl, rfl, rfl, rfl, rfl, rfl, rfl, rfl⟩) (by rw [hg0]; rfl) (by rw [hg0]; rfl) (by rw [hg0]; rfl) (best_era (p := q6) (q := p) p9.symm hB1) hB2; rw [scR_era p9] at h1_ h2_; have e1_ : va43 = (scR p (R23.map rc)).1 := p46; have e2_ : ca44 = (scR p (R23.map rc)).2 := p47; have e3_ : va51 = (scR ({ q6 with vehs := Vd } : PB) (R36.map rc)).1 := p54; have e4_ : ca52 = (scR ({ q6 with vehs := Vd } : PB) (R36.map rc)).2 := p55; simp only [Bool.and_eq_true, beq_iff_eq, true_and]; omega)), rfl⟩)
end Go.Proofs.Ytimhdimhdimbjaa.Sx
namespace Go.SX
open Go Go.RowKit
def TellsW (P : Program) (w : World) (e : TypeId) {α : Type} (E : Enc α) (good : α → Prop) : Prop :=
  ∀ {H : Type} (enc : TypeId × Value → H) (base : Nat) (spare : Nat → Bool) (held : Bool) (n : Nat) (cs : List Value) (y : DataW H × List MemPlace), DataW.trod enc P w base spare held n e cs = some y → (∀ b ∈ y.1.weights P e, b ≤ reachBytes) → ∃ a, cs = E.enc a ∧ good a
section
variable {H : Type} {enc : TypeId × Value → H} {P : Program} {w : World} {base : Nat} {spare : Nat → Bool} {held : Bool}
theorem weightsAll_mem {e : TypeId} {d : DataW H} {b : Nat} : ∀ {l : List (DataW H)}, d ∈ l → b ∈ d.weights P e → b ∈ DataW.weightsAll P e l
  | [], h, _ => by cases h
  | x :: r, h, hb => by
    unfold DataW.weightsAll
    rcases List.mem_cons.1 h with rfl | h
    · exact List.mem_append_left _ hb
    · exact List.mem_append_right _ (weightsAll_mem h hb)
theorem rows_w {α : Type} [Inhabited α] {E : Enc α} {good : α → Prop} {t e : TypeId} {fuel : Nat} {cs : List Value} {x : DataW H × List MemPlace} (ht : P.underlying t = some (.slice e)) (he : P.cellsOf e = E.sz) (hT : TellsW P w e E good) (hbo : 1 ≤ P.bytesOf e)
    (h : DataW.trod enc P w base spare held fuel t cs = some x) (hw : ∀ b ∈ x.1.weights P t, b ≤ reachBytes) :
    ∃ A l cap, cs = [.slice A l.length cap] ∧ Fr E (fun b => b < w.heap.size) w A l ∧ ∀ y ∈ l, good y := by
  rcases DataW.trod_slice ht h with h0 | ⟨a, len, cap, elems, rest, n, hx1, rfl, rfl, hb, hl, hm, hlen, hel, hsp, hns⟩
  · exact ⟨none, [], 0, h0.1, Fr.nil _ _ _ _, by simp⟩
  have hw2 : ∀ b ∈ DataW.weights P t (.slice (elems.map (·.1)) (rest.map (·.1))), b ≤ reachBytes := hw
  have each : ∀ i, i < len → ∃ x : α, good x ∧ w.cells? base (a.add (i * E.sz)) E.sz = some (E.enc x) := by
    intro i hi
    have h1 := hel i hi
    have h2 : elems[i]? = some (elems[i]'(by omega)) := List.getElem?_eq_getElem (by omega)
    rw [h2, he, Option.bind_eq_some_iff] at h1
    obtain ⟨cs', h3, h4⟩ := h1
    obtain ⟨x, rfl, hg⟩ := hT enc base spare held n cs' _ h4 (fun b hb => hw2 b (by
      unfold DataW.weights
      rw [ht]
      exact List.mem_cons_of_mem _ (List.mem_append_left _ (weightsAll_mem (List.mem_map_of_mem (List.getElem_mem (by omega))) hb))))
    exact ⟨x, hg, h3⟩
  let f : Nat → α := fun i => if hi : i < len then (each i hi).choose else default
  have hf : ∀ i (hi : i < len), f i = (each i hi).choose := fun i hi => dif_pos hi
  have hbig : len ≤ 140737488355328 := by
    have h1 := hw2 ((elems.map (·.1)).length + (rest.map (·.1)).length |>.mul (P.bytesOf e)) (by unfold DataW.weights; rw [ht]; exact List.mem_cons_self ..)
    have h11 : elems.length * 1 ≤ ((elems.map (·.1)).length + (rest.map (·.1)).length) * P.bytesOf e := Nat.mul_le_mul (by simp) hbo
    have h12 : reachBytes < 2 ^ 47 := reachBytes_lt
    have h13 : ((elems.map (·.1)).length + (rest.map (·.1)).length) * P.bytesOf e ≤ reachBytes := h1
    omega
  have hgood : ∀ x ∈ (List.range len).map f, good x := by
    intro x hx
    obtain ⟨i, hi, rfl⟩ := List.mem_map.1 hx
    have hlt : i < len := by simpa using hi
    rw [hf i hlt]
    exact (each i hlt).choose_spec.1
  refine ⟨some a, (List.range len).map f, cap, by simp, ⟨by simpa using hbig, ?_⟩, hgood⟩
  rcases Nat.eq_zero_or_pos len with h0 | h0
  · subst h0; exact .inl (by simp)
  have hat : ∀ i, i < len → ∀ j u, (E.enc (f i))[j]? = some u → w.cell? (a.add (i * E.sz + j)) = some u := by
    intro i hi j u hj
    obtain ⟨_, h1, h2⟩ := World.cells?_some (each i hi).choose_spec.2
    rw [← hf i hi] at h1 h2
    have hjs : j < E.sz := by have := (List.getElem?_eq_some_iff.1 hj).1; omega
    rw [← add_zero_add, h2 j hjs, hj]
  have hpos := E.pos
  have hspot : a.spot = none := by
    have h1 : (E.enc (f 0)).length = E.sz := E.len _
    have h2 := hat 0 h0 0 ((E.enc (f 0))[0]'(by omega)) (List.getElem?_eq_getElem (by omega))
    have h3 := World.cell?_spot h2
    simpa [Addr.add] using h3
  obtain ⟨b, off, spot⟩ := a
  simp only at hspot
  subst hspot
  have hall : ∀ i x, ((List.range len).map f)[i]? = some x → At w b (off + i * E.sz) (E.enc x) := fun i x hx j u hu => by
    simp only [List.getElem?_map, Option.map_eq_some_iff] at hx
    obtain ⟨i', hi', rfl⟩ := hx
    have hi2 := List.getElem?_eq_some_iff.1 hi'
    obtain ⟨hlt, heq⟩ := hi2
    simp at heq hlt
    subst heq
    have := hat i hlt j u hu
    rw [show off + i * E.sz + j = off + (i * E.sz + j) from by omega]
    have e1 : (⟨b, off, none⟩ : Addr).add (i * E.sz + j) = ⟨b, off + (i * E.sz + j), none⟩ := by
      unfold Addr.add
      split
      · rename_i h0; rw [h0]; rfl
      · rfl
    rwa [e1] at this
  refine .inr ⟨b, off, rfl, ?_, hall⟩
  have hx := hall 0 (f 0) (by simp [h0])
  have hl1 := E.len (f 0)
  have := hx 0 ((E.enc (f 0))[0]'(by omega)) (List.getElem?_eq_getElem (by omega))
  unfold World.cell? at this
  cases hb1 : w.heap[b]? with
  | none => simp only [hb1] at this; cases this
  | some o => exact lt_of_some hb1
theorem struct_w {t : TypeId} {fuel : Nat} {cs : List Value} {x : DataW H × List MemPlace} {fs : Array Field} (ht : P.underlying t = some (.struct fs)) (h : DataW.trod enc P w base spare held fuel t cs = some x) (hw : ∀ b ∈ x.1.weights P t, b ≤ reachBytes) :
    ∃ n, cs.length = P.cellsOf t ∧ ∀ (i : Nat) (f : Field), fs[i]? = some f → ∃ y : DataW H × List MemPlace, DataW.trod enc P w base spare held n f.type ((cs.drop f.offset).take (P.cellsOf f.type)) = some y ∧ ∀ b ∈ y.1.weights P f.type, b ≤ reachBytes := by
  obtain ⟨xs, n, _, rfl, hl, hx, hf⟩ := DataW.trod_struct ht h
  refine ⟨n, hl, fun i f hi => ?_⟩
  have h1 := hf i f hi
  have hlt : i < fs.size := (Array.getElem?_eq_some_iff.1 hi).1
  rw [List.getElem?_eq_getElem (by omega)] at h1
  refine ⟨xs[i]'(by omega), h1, fun b hb => hw b ?_⟩
  show b ∈ DataW.weights P t (.agg (xs.map (·.1)))
  unfold DataW.weights
  rw [ht]
  exact DataW.weights_mem_each (j := i) (d := (xs[i]'(by omega)).1) (by simp [hi]) (by simp [List.getElem?_eq_getElem (show i < xs.length by omega)]) b hb
theorem int_w {e : TypeId} (he : P.underlying e = some (.int .i64)) : TellsW P w e eZ (fun _ => True) := fun enc base spare held n cs y hy _ => by
  obtain ⟨m, rfl, _, _⟩ := DataW.trod_int he hy
  exact ⟨m, rfl, trivial⟩
end
end Go.SX
set_option maxRecDepth 20000
namespace Go.Proofs.Ytimhdimhdimbjaa.Sx
open Go Go.SX Go.Proofs
theorem cO3 : Try.prog.cellsOf 3 = 1 := by kernel_rfl
theorem cO22 : Try.prog.cellsOf 22 = 1 := by kernel_rfl
theorem cO24 : Try.prog.cellsOf 24 = 2 := by kernel_rfl
theorem cO25 : Try.prog.cellsOf 25 = 1 := by kernel_rfl
theorem cO26 : Try.prog.cellsOf 26 = 1 := by kernel_rfl
theorem cO27 : Try.prog.cellsOf 27 = 1 := by kernel_rfl
theorem cO29 : Try.prog.cellsOf 29 = 8 := by kernel_rfl
theorem cO32 : Try.prog.cellsOf 32 = 1 := by kernel_rfl
theorem cO34 : Try.prog.cellsOf 34 = 2 := by kernel_rfl
theorem cO35 : Try.prog.cellsOf 35 = 1 := by kernel_rfl
theorem cO37 : Try.prog.cellsOf 37 = 11 := by kernel_rfl
theorem cO49 : Try.prog.cellsOf 49 = 1 := by kernel_rfl
theorem cO51 : Try.prog.cellsOf 51 = 3 := by kernel_rfl
theorem cO53 : Try.prog.cellsOf 53 = 7 := by kernel_rfl
theorem cO55 : Try.prog.cellsOf 55 = 9 := by kernel_rfl
theorem cO73 : Try.prog.cellsOf 73 = 2 := by kernel_rfl
theorem wf_u64 {n : Int} (h : (Lit.int .u64 n).wf = true) : 0 ≤ n := by simp [Lit.wf, IntKind.min, IntKind.max, IntKind.signed, IntKind.bits] at h; omega
def eSO : Enc SO where
 sz := 5 - 2
 enc x := [.int .i64 x.pl, .int .i64 x.srv, .slice x.soA x.sws.length x.soc]
 len _ := rfl
 one x u hu := by simp at hu; rcases hu with rfl | rfl | rfl <;> rfl
 pos := by decide
structure MX where
 n : Int
 l : List Int
 A : Option Addr
 c : Nat
def eMX : Enc MX where
 sz := 2
 enc x := [.int .i64 x.n, .slice x.A x.l.length x.c]
 len _ := rfl
 one x u hu := by simp at hu; rcases hu with rfl | rfl <;> rfl
 pos := by decide
def ePB : Enc PB where
 sz := 8
 enc p := (cPB p)
 len _ := rfl
 one x u hu := by simp at hu; rcases hu with rfl | rfl | rfl | rfl | rfl | rfl | rfl | rfl <;> rfl
 pos := by decide
section
variable {w : World}
abbrev HS (w : World) : Nat → Prop := fun b => b < w.heap.size
theorem tw34 : TellsW Try.prog w 34 eWN (fun _ => True) := by
 intro H enc base spare held n cs y h hw
 obtain ⟨k, hl, hf⟩ := struct_w Try.underlying34 h hw
 rw [cO34] at hl
 match cs, hl with
 | [v0, v1], _ =>
  obtain ⟨y0, h0, w0⟩ := hf 0 _ rfl
  replace h0 : DataW.trod enc Try.prog w base spare held k 3 (([v0, v1].drop 0).take (Try.prog.cellsOf 3)) = some y0 := h0
  rw [cO3] at h0
  replace h0 : DataW.trod enc Try.prog w base spare held k 3 [v0] = some y0 := h0
  obtain ⟨y1, h1, w1⟩ := hf 1 _ rfl
  replace h1 : DataW.trod enc Try.prog w base spare held k 3 (([v0, v1].drop 1).take (Try.prog.cellsOf 3)) = some y1 := h1
  rw [cO3] at h1
  replace h1 : DataW.trod enc Try.prog w base spare held k 3 [v1] = some y1 := h1
  obtain ⟨m0, e0, _, wf0⟩ := DataW.trod_int Try.underlying3 h0
  simp only [List.cons.injEq, and_true] at e0
  subst e0
  obtain ⟨m1, e1, _, wf1⟩ := DataW.trod_int Try.underlying3 h1
  simp only [List.cons.injEq, and_true] at e1
  subst e1
  exact ⟨⟨m0, m1⟩, U, trivial⟩
theorem tw73 : TellsW Try.prog w 73 eBK (fun b => BKF (HS w) w b) := by
 intro H enc base spare held n cs y h hw
 obtain ⟨k, hl, hf⟩ := struct_w Try.underlying73 h hw
 rw [cO73] at hl
 match cs, hl with
 | [v0, v1], _ =>
  obtain ⟨y0, h0, w0⟩ := hf 0 _ rfl
  replace h0 : DataW.trod enc Try.prog w base spare held k 49 (([v0, v1].drop 0).take (Try.prog.cellsOf 49)) = some y0 := h0
  rw [cO49] at h0
  replace h0 : DataW.trod enc Try.prog w base spare held k 49 [v0] = some y0 := h0
  obtain ⟨y1, h1, w1⟩ := hf 1 _ rfl
  replace h1 : DataW.trod enc Try.prog w base spare held k 3 (([v0, v1].drop 1).take (Try.prog.cellsOf 3)) = some y1 := h1
  rw [cO3] at h1
  replace h1 : DataW.trod enc Try.prog w base spare held k 3 [v1] = some y1 := h1
  obtain ⟨m1, e1, _, wf1⟩ := DataW.trod_int Try.underlying3 h1
  simp only [List.cons.injEq, and_true] at e1
  subst e1
  obtain ⟨AW, lW, cW, elW, frW, gdW⟩ := rows_w (E := eWN) Try.underlying49 cO34 tw34 (by decide +kernel) h0 w0
  simp only [List.cons.injEq, and_true] at elW
  subst elW
  exact ⟨⟨lW, m1, AW, cW⟩, U, frW⟩
theorem tw37 : TellsW Try.prog w 37 eVH (fun v => VHF (HS w) w v ∧ 0 ≤ v.vsk) := by
 intro H enc base spare held n cs y h hw
 obtain ⟨k, hl, hf⟩ := struct_w Try.underlying37 h hw
 rw [cO37] at hl
 match cs, hl with
 | [v0, v1, v2, v3, v4, v5, v6, v7, v8, v9, v10], _ =>
  obtain ⟨y0, h0, w0⟩ := hf 0 _ rfl
  replace h0 : DataW.trod enc Try.prog w base spare held k 3 (([v0, v1, v2, v3, v4, v5, v6, v7, v8, v9, v10].drop 0).take (Try.prog.cellsOf 3)) = some y0 := h0
  rw [cO3] at h0
  replace h0 : DataW.trod enc Try.prog w base spare held k 3 [v0] = some y0 := h0
  obtain ⟨y1, h1, w1⟩ := hf 1 _ rfl
  replace h1 : DataW.trod enc Try.prog w base spare held k 3 (([v0, v1, v2, v3, v4, v5, v6, v7, v8, v9, v10].drop 1).take (Try.prog.cellsOf 3)) = some y1 := h1
  rw [cO3] at h1
  replace h1 : DataW.trod enc Try.prog w base spare held k 3 [v1] = some y1 := h1
  obtain ⟨y2, h2, w2⟩ := hf 2 _ rfl
  replace h2 : DataW.trod enc Try.prog w base spare held k 22 (([v0, v1, v2, v3, v4, v5, v6, v7, v8, v9, v10].drop 2).take (Try.prog.cellsOf 22)) = some y2 := h2
  rw [cO22] at h2
  replace h2 : DataW.trod enc Try.prog w base spare held k 22 [v2] = some y2 := h2
  obtain ⟨y3, h3, w3⟩ := hf 3 _ rfl
  replace h3 : DataW.trod enc Try.prog w base spare held k 32 (([v0, v1, v2, v3, v4, v5, v6, v7, v8, v9, v10].drop 3).take (Try.prog.cellsOf 32)) = some y3 := h3
  rw [cO32] at h3
  replace h3 : DataW.trod enc Try.prog w base spare held k 32 [v3] = some y3 := h3
  obtain ⟨y4, h4, w4⟩ := hf 4 _ rfl
  replace h4 : DataW.trod enc Try.prog w base spare held k 34 (([v0, v1, v2, v3, v4, v5, v6, v7, v8, v9, v10].drop 4).take (Try.prog.cellsOf 34)) = some y4 := h4
  rw [cO34] at h4
  replace h4 : DataW.trod enc Try.prog w base spare held k 34 [v4, v5] = some y4 := h4
  obtain ⟨y5, h5, w5⟩ := hf 5 _ rfl
  replace h5 : DataW.trod enc Try.prog w base spare held k 3 (([v0, v1, v2, v3, v4, v5, v6, v7, v8, v9, v10].drop 6).take (Try.prog.cellsOf 3)) = some y5 := h5
  rw [cO3] at h5
  replace h5 : DataW.trod enc Try.prog w base spare held k 3 [v6] = some y5 := h5
  obtain ⟨y6, h6, w6⟩ := hf 6 _ rfl
  replace h6 : DataW.trod enc Try.prog w base spare held k 3 (([v0, v1, v2, v3, v4, v5, v6, v7, v8, v9, v10].drop 7).take (Try.prog.cellsOf 3)) = some y6 := h6
  rw [cO3] at h6
  replace h6 : DataW.trod enc Try.prog w base spare held k 3 [v7] = some y6 := h6
  obtain ⟨y7, h7, w7⟩ := hf 7 _ rfl
  replace h7 : DataW.trod enc Try.prog w base spare held k 3 (([v0, v1, v2, v3, v4, v5, v6, v7, v8, v9, v10].drop 8).take (Try.prog.cellsOf 3)) = some y7 := h7
  rw [cO3] at h7
  replace h7 : DataW.trod enc Try.prog w base spare held k 3 [v8] = some y7 := h7
  obtain ⟨y8, h8, w8⟩ := hf 8 _ rfl
  replace h8 : DataW.trod enc Try.prog w base spare held k 3 (([v0, v1, v2, v3, v4, v5, v6, v7, v8, v9, v10].drop 9).take (Try.prog.cellsOf 3)) = some y8 := h8
  rw [cO3] at h8
  replace h8 : DataW.trod enc Try.prog w base spare held k 3 [v9] = some y8 := h8
  obtain ⟨y9, h9, w9⟩ := hf 9 _ rfl
  replace h9 : DataW.trod enc Try.prog w base spare held k 35 (([v0, v1, v2, v3, v4, v5, v6, v7, v8, v9, v10].drop 10).take (Try.prog.cellsOf 35)) = some y9 := h9
  rw [cO35] at h9
  replace h9 : DataW.trod enc Try.prog w base spare held k 35 [v10] = some y9 := h9
  obtain ⟨m0, e0, _, wf0⟩ := DataW.trod_int Try.underlying3 h0
  simp only [List.cons.injEq, and_true] at e0
  subst e0
  obtain ⟨m1, e1, _, wf1⟩ := DataW.trod_int Try.underlying3 h1
  simp only [List.cons.injEq, and_true] at e1
  subst e1
  obtain ⟨m3, e3, _, wf3⟩ := DataW.trod_int Try.underlying32 h3
  simp only [List.cons.injEq, and_true] at e3
  subst e3
  obtain ⟨m5, e5, _, wf5⟩ := DataW.trod_int Try.underlying3 h5
  simp only [List.cons.injEq, and_true] at e5
  subst e5
  obtain ⟨m6, e6, _, wf6⟩ := DataW.trod_int Try.underlying3 h6
  simp only [List.cons.injEq, and_true] at e6
  subst e6
  obtain ⟨m7, e7, _, wf7⟩ := DataW.trod_int Try.underlying3 h7
  simp only [List.cons.injEq, and_true] at e7
  subst e7
  obtain ⟨m8, e8, _, wf8⟩ := DataW.trod_int Try.underlying3 h8
  simp only [List.cons.injEq, and_true] at e8
  subst e8
  obtain ⟨aS, eaS, gaS⟩ := tw34 enc base spare held k _ _ h4 w4
  simp only [eWN, List.cons.injEq, and_true] at eaS
  obtain ⟨rfl, rfl⟩ := eaS
  obtain ⟨AC, lC, cC, elC, frC, gdC⟩ := rows_w (E := eZ) Try.underlying22 cO3 (int_w Try.underlying3) (by decide +kernel) h2 w2
  simp only [List.cons.injEq, and_true] at elC
  subst elC
  obtain ⟨AB, lB, cB, elB, frB, gdB⟩ := rows_w (E := eBK) Try.underlying35 cO73 tw73 (by decide +kernel) h9 w9
  simp only [List.cons.injEq, and_true] at elB
  subst elB
  exact ⟨⟨m0, m1, lC, m3, aS.lo, aS.hi, m5, m6, m7, m8, lB, AC, cC, AB, cB⟩, U, ⟨frC, frB, gt_all (Φ := BKF (HS w) w) gdB (Fr.nil _ _ _ _)⟩, wf_u64 wf3⟩
theorem tw51 : TellsW Try.prog w 51 eSO (fun s => SOF (HS w) w s) := by
 intro H enc base spare held n cs y h hw
 obtain ⟨k, hl, hf⟩ := struct_w Try.underlying51 h hw
 rw [cO51] at hl
 match cs, hl with
 | [v0, v1, v2], _ =>
  obtain ⟨y0, h0, w0⟩ := hf 0 _ rfl
  replace h0 : DataW.trod enc Try.prog w base spare held k 3 (([v0, v1, v2].drop 0).take (Try.prog.cellsOf 3)) = some y0 := h0
  rw [cO3] at h0
  replace h0 : DataW.trod enc Try.prog w base spare held k 3 [v0] = some y0 := h0
  obtain ⟨y1, h1, w1⟩ := hf 1 _ rfl
  replace h1 : DataW.trod enc Try.prog w base spare held k 3 (([v0, v1, v2].drop 1).take (Try.prog.cellsOf 3)) = some y1 := h1
  rw [cO3] at h1
  replace h1 : DataW.trod enc Try.prog w base spare held k 3 [v1] = some y1 := h1
  obtain ⟨y2, h2, w2⟩ := hf 2 _ rfl
  replace h2 : DataW.trod enc Try.prog w base spare held k 49 (([v0, v1, v2].drop 2).take (Try.prog.cellsOf 49)) = some y2 := h2
  rw [cO49] at h2
  replace h2 : DataW.trod enc Try.prog w base spare held k 49 [v2] = some y2 := h2
  obtain ⟨m0, e0, _, wf0⟩ := DataW.trod_int Try.underlying3 h0
  simp only [List.cons.injEq, and_true] at e0
  subst e0
  obtain ⟨m1, e1, _, wf1⟩ := DataW.trod_int Try.underlying3 h1
  simp only [List.cons.injEq, and_true] at e1
  subst e1
  obtain ⟨AW, lW, cW, elW, frW, gdW⟩ := rows_w (E := eWN) Try.underlying49 cO34 tw34 (by decide +kernel) h2 w2
  simp only [List.cons.injEq, and_true] at elW
  subst elW
  exact ⟨⟨m0, m1, lW, AW, cW⟩, U, frW⟩
theorem tw53 : TellsW Try.prog w 53 eJB (fun v => JBF (HS w) w v ∧ 0 ≤ v.jsk) := by
 intro H enc base spare held n cs y h hw
 obtain ⟨k, hl, hf⟩ := struct_w Try.underlying53 h hw
 rw [cO53] at hl
 match cs, hl with
 | [v0, v1, v2, v3, v4, v5, v6], _ =>
  obtain ⟨y0, h0, w0⟩ := hf 0 _ rfl
  replace h0 : DataW.trod enc Try.prog w base spare held k 51 (([v0, v1, v2, v3, v4, v5, v6].drop 0).take (Try.prog.cellsOf 51)) = some y0 := h0
  rw [cO51] at h0
  replace h0 : DataW.trod enc Try.prog w base spare held k 51 [v0, v1, v2] = some y0 := h0
  obtain ⟨y1, h1, w1⟩ := hf 1 _ rfl
  replace h1 : DataW.trod enc Try.prog w base spare held k 22 (([v0, v1, v2, v3, v4, v5, v6].drop 3).take (Try.prog.cellsOf 22)) = some y1 := h1
  rw [cO22] at h1
  replace h1 : DataW.trod enc Try.prog w base spare held k 22 [v3] = some y1 := h1
  obtain ⟨y2, h2, w2⟩ := hf 2 _ rfl
  replace h2 : DataW.trod enc Try.prog w base spare held k 22 (([v0, v1, v2, v3, v4, v5, v6].drop 4).take (Try.prog.cellsOf 22)) = some y2 := h2
  rw [cO22] at h2
  replace h2 : DataW.trod enc Try.prog w base spare held k 22 [v4] = some y2 := h2
  obtain ⟨y3, h3, w3⟩ := hf 3 _ rfl
  replace h3 : DataW.trod enc Try.prog w base spare held k 32 (([v0, v1, v2, v3, v4, v5, v6].drop 5).take (Try.prog.cellsOf 32)) = some y3 := h3
  rw [cO32] at h3
  replace h3 : DataW.trod enc Try.prog w base spare held k 32 [v5] = some y3 := h3
  obtain ⟨y4, h4, w4⟩ := hf 4 _ rfl
  replace h4 : DataW.trod enc Try.prog w base spare held k 3 (([v0, v1, v2, v3, v4, v5, v6].drop 6).take (Try.prog.cellsOf 3)) = some y4 := h4
  rw [cO3] at h4
  replace h4 : DataW.trod enc Try.prog w base spare held k 3 [v6] = some y4 := h4
  obtain ⟨m3, e3, _, wf3⟩ := DataW.trod_int Try.underlying32 h3
  simp only [List.cons.injEq, and_true] at e3
  subst e3
  obtain ⟨m4, e4, _, wf4⟩ := DataW.trod_int Try.underlying3 h4
  simp only [List.cons.injEq, and_true] at e4
  subst e4
  obtain ⟨aS, eaS, gaS⟩ := tw51 enc base spare held k _ _ h0 w0
  simp only [eSO, List.cons.injEq, and_true] at eaS
  obtain ⟨rfl, rfl, rfl⟩ := eaS
  obtain ⟨AD, lD, cD, elD, frD, gdD⟩ := rows_w (E := eZ) Try.underlying22 cO3 (int_w Try.underlying3) (by decide +kernel) h1 w1
  simp only [List.cons.injEq, and_true] at elD
  subst elD
  obtain ⟨AK, lK, cK, elK, frK, gdK⟩ := rows_w (E := eZ) Try.underlying22 cO3 (int_w Try.underlying3) (by decide +kernel) h2 w2
  simp only [List.cons.injEq, and_true] at elK
  subst elK
  exact ⟨⟨aS, lD, lK, m3, m4, AD, cD, AK, cK⟩, U, ⟨frD, frK, gaS⟩, wf_u64 wf3⟩
theorem tw55 : TellsW Try.prog w 55 eSH (fun v => SHF (HS w) w v ∧ 0 ≤ v.ssk) := by
 intro H enc base spare held n cs y h hw
 obtain ⟨k, hl, hf⟩ := struct_w Try.underlying55 h hw
 rw [cO55] at hl
 match cs, hl with
 | [v0, v1, v2, v3, v4, v5, v6, v7, v8], _ =>
  obtain ⟨y0, h0, w0⟩ := hf 0 _ rfl
  replace h0 : DataW.trod enc Try.prog w base spare held k 51 (([v0, v1, v2, v3, v4, v5, v6, v7, v8].drop 0).take (Try.prog.cellsOf 51)) = some y0 := h0
  rw [cO51] at h0
  replace h0 : DataW.trod enc Try.prog w base spare held k 51 [v0, v1, v2] = some y0 := h0
  obtain ⟨y1, h1, w1⟩ := hf 1 _ rfl
  replace h1 : DataW.trod enc Try.prog w base spare held k 51 (([v0, v1, v2, v3, v4, v5, v6, v7, v8].drop 3).take (Try.prog.cellsOf 51)) = some y1 := h1
  rw [cO51] at h1
  replace h1 : DataW.trod enc Try.prog w base spare held k 51 [v3, v4, v5] = some y1 := h1
  obtain ⟨y2, h2, w2⟩ := hf 2 _ rfl
  replace h2 : DataW.trod enc Try.prog w base spare held k 22 (([v0, v1, v2, v3, v4, v5, v6, v7, v8].drop 6).take (Try.prog.cellsOf 22)) = some y2 := h2
  rw [cO22] at h2
  replace h2 : DataW.trod enc Try.prog w base spare held k 22 [v6] = some y2 := h2
  obtain ⟨y3, h3, w3⟩ := hf 3 _ rfl
  replace h3 : DataW.trod enc Try.prog w base spare held k 32 (([v0, v1, v2, v3, v4, v5, v6, v7, v8].drop 7).take (Try.prog.cellsOf 32)) = some y3 := h3
  rw [cO32] at h3
  replace h3 : DataW.trod enc Try.prog w base spare held k 32 [v7] = some y3 := h3
  obtain ⟨y4, h4, w4⟩ := hf 4 _ rfl
  replace h4 : DataW.trod enc Try.prog w base spare held k 3 (([v0, v1, v2, v3, v4, v5, v6, v7, v8].drop 8).take (Try.prog.cellsOf 3)) = some y4 := h4
  rw [cO3] at h4
  replace h4 : DataW.trod enc Try.prog w base spare held k 3 [v8] = some y4 := h4
  obtain ⟨m3, e3, _, wf3⟩ := DataW.trod_int Try.underlying32 h3
  simp only [List.cons.injEq, and_true] at e3
  subst e3
  obtain ⟨m4, e4, _, wf4⟩ := DataW.trod_int Try.underlying3 h4
  simp only [List.cons.injEq, and_true] at e4
  subst e4
  obtain ⟨aP, eaP, gaP⟩ := tw51 enc base spare held k _ _ h0 w0
  simp only [eSO, List.cons.injEq, and_true] at eaP
  obtain ⟨rfl, rfl, rfl⟩ := eaP
  obtain ⟨aD, eaD, gaD⟩ := tw51 enc base spare held k _ _ h1 w1
  simp only [eSO, List.cons.injEq, and_true] at eaD
  obtain ⟨rfl, rfl, rfl⟩ := eaD
  obtain ⟨AM, lM, cM, elM, frM, gdM⟩ := rows_w (E := eZ) Try.underlying22 cO3 (int_w Try.underlying3) (by decide +kernel) h2 w2
  simp only [List.cons.injEq, and_true] at elM
  subst elM
  exact ⟨⟨aP, aD, lM, m3, m4, AM, cM⟩, U, ⟨frM, gaP, gaD⟩, wf_u64 wf3⟩
theorem tw24 : TellsW Try.prog w 24 eMX (fun v => Fr eZ (HS w) w v.A v.l) := by
 intro H enc base spare held n cs y h hw
 obtain ⟨k, hl, hf⟩ := struct_w Try.underlying24 h hw
 rw [cO24] at hl
 match cs, hl with
 | [v0, v1], _ =>
  obtain ⟨y0, h0, w0⟩ := hf 0 _ rfl
  replace h0 : DataW.trod enc Try.prog w base spare held k 3 (([v0, v1].drop 0).take (Try.prog.cellsOf 3)) = some y0 := h0
  rw [cO3] at h0
  replace h0 : DataW.trod enc Try.prog w base spare held k 3 [v0] = some y0 := h0
  obtain ⟨y1, h1, w1⟩ := hf 1 _ rfl
  replace h1 : DataW.trod enc Try.prog w base spare held k 22 (([v0, v1].drop 1).take (Try.prog.cellsOf 22)) = some y1 := h1
  rw [cO22] at h1
  replace h1 : DataW.trod enc Try.prog w base spare held k 22 [v1] = some y1 := h1
  obtain ⟨m0, e0, _, wf0⟩ := DataW.trod_int Try.underlying3 h0
  simp only [List.cons.injEq, and_true] at e0
  subst e0
  obtain ⟨AC, lC, cC, elC, frC, gdC⟩ := rows_w (E := eZ) Try.underlying22 cO3 (int_w Try.underlying3) (by decide +kernel) h1 w1
  simp only [List.cons.injEq, and_true] at elC
  subst elC
  exact ⟨⟨m0, lC, AC, cC⟩, U, frC⟩
theorem tw29 : TellsW Try.prog w 29 ePB (fun p => PBF (HS w) w p ∧ SkU p) := by
 intro H enc base spare held n cs y h hw
 obtain ⟨k, hl, hf⟩ := struct_w Try.underlying29 h hw
 rw [cO29] at hl
 match cs, hl with
 | [v0, v1, v2, v3, v4, v5, v6, v7], _ =>
  obtain ⟨y0, h0, w0⟩ := hf 0 _ rfl
  replace h0 : DataW.trod enc Try.prog w base spare held k 3 (([v0, v1, v2, v3, v4, v5, v6, v7].drop 0).take (Try.prog.cellsOf 3)) = some y0 := h0
  rw [cO3] at h0
  replace h0 : DataW.trod enc Try.prog w base spare held k 3 [v0] = some y0 := h0
  obtain ⟨y1, h1, w1⟩ := hf 1 _ rfl
  replace h1 : DataW.trod enc Try.prog w base spare held k 24 (([v0, v1, v2, v3, v4, v5, v6, v7].drop 1).take (Try.prog.cellsOf 24)) = some y1 := h1
  rw [cO24] at h1
  replace h1 : DataW.trod enc Try.prog w base spare held k 24 [v1, v2] = some y1 := h1
  obtain ⟨y2, h2, w2⟩ := hf 2 _ rfl
  replace h2 : DataW.trod enc Try.prog w base spare held k 24 (([v0, v1, v2, v3, v4, v5, v6, v7].drop 3).take (Try.prog.cellsOf 24)) = some y2 := h2
  rw [cO24] at h2
  replace h2 : DataW.trod enc Try.prog w base spare held k 24 [v3, v4] = some y2 := h2
  obtain ⟨y3, h3, w3⟩ := hf 3 _ rfl
  replace h3 : DataW.trod enc Try.prog w base spare held k 25 (([v0, v1, v2, v3, v4, v5, v6, v7].drop 5).take (Try.prog.cellsOf 25)) = some y3 := h3
  rw [cO25] at h3
  replace h3 : DataW.trod enc Try.prog w base spare held k 25 [v5] = some y3 := h3
  obtain ⟨y4, h4, w4⟩ := hf 4 _ rfl
  replace h4 : DataW.trod enc Try.prog w base spare held k 26 (([v0, v1, v2, v3, v4, v5, v6, v7].drop 6).take (Try.prog.cellsOf 26)) = some y4 := h4
  rw [cO26] at h4
  replace h4 : DataW.trod enc Try.prog w base spare held k 26 [v6] = some y4 := h4
  obtain ⟨y5, h5, w5⟩ := hf 5 _ rfl
  replace h5 : DataW.trod enc Try.prog w base spare held k 27 (([v0, v1, v2, v3, v4, v5, v6, v7].drop 7).take (Try.prog.cellsOf 27)) = some y5 := h5
  rw [cO27] at h5
  replace h5 : DataW.trod enc Try.prog w base spare held k 27 [v7] = some y5 := h5
  obtain ⟨m0, e0, _, wf0⟩ := DataW.trod_int Try.underlying3 h0
  simp only [List.cons.injEq, and_true] at e0
  subst e0
  obtain ⟨aT, eaT, gaT⟩ := tw24 enc base spare held k _ _ h1 w1
  simp only [eMX, List.cons.injEq, and_true] at eaT
  obtain ⟨rfl, rfl⟩ := eaT
  obtain ⟨aD, eaD, gaD⟩ := tw24 enc base spare held k _ _ h2 w2
  simp only [eMX, List.cons.injEq, and_true] at eaD
  obtain ⟨rfl, rfl⟩ := eaD
  obtain ⟨AV, lV, cV, elV, frV, gdV⟩ := rows_w (E := eVH) Try.underlying25 cO37 tw37 (by decide +kernel) h3 w3
  simp only [List.cons.injEq, and_true] at elV
  subst elV
  obtain ⟨AJ, lJ, cJ, elJ, frJ, gdJ⟩ := rows_w (E := eJB) Try.underlying26 cO53 tw53 (by decide +kernel) h4 w4
  simp only [List.cons.injEq, and_true] at elJ
  subst elJ
  obtain ⟨AZ, lZ, cZ, elZ, frZ, gdZ⟩ := rows_w (E := eSH) Try.underlying27 cO55 tw55 (by decide +kernel) h5 w5
  simp only [List.cons.injEq, and_true] at elZ
  subst elZ
  exact ⟨⟨m0, aT.n, aT.l, aD.n, aD.l, lV, lJ, lZ, aT.A, aT.c, aD.A, aD.c, AV, cV, AJ, cJ, AZ, cZ⟩, U, ⟨gaT, gaD, ⟨frV, gt_all (Φ := VHF (HS w) w) (fun x hx => (gdV x hx).1) VHF.dflt⟩, ⟨frJ, gt_all (Φ := JBF (HS w) w) (fun x hx => (gdJ x hx).1) JBF.dflt⟩, ⟨frZ, gt_all (Φ := SHF (HS w) w) (fun x hx => (gdZ x hx).1) SHF.dflt⟩⟩, ⟨gt_all (Φ := fun v : VH => 0 ≤ v.vsk) (fun x hx => (gdV x hx).2) (Int.le_refl _), gt_all (Φ := fun v : JB => 0 ≤ v.jsk) (fun x hx => (gdJ x hx).2) (Int.le_refl _), gt_all (Φ := fun v : SH => 0 ≤ v.ssk) (fun x hx => (gdZ x hx).2) (Int.le_refl _)⟩⟩
end
end Go.Proofs.Ytimhdimhdimbjaa.Sx
