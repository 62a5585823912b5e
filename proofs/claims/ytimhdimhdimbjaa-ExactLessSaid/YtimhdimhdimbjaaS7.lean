import Derived.Test.YtimhdimhdimbjaaProg
import Derived.Test.YtimhdimhdimbjaaS6
set_option linter.unusedVariables false
set_option linter.unusedSimpArgs false
set_option linter.unusedSectionVars false
set_option maxRecDepth 20000
set_option maxHeartbeats 1000000
namespace Go.Proofs.Ytimhdimhdimbjaa.Sx.FW
open Go Go.SX Go.Proofs FA FB FC FD FE FF FG FH FJ FK FL FP FQ
theorem zf45 : (Try.prog.info? 45).bind (fun i => i.zero.map Value.cells) = some (List.toArray [.int .i64 0, .int .i64 0]) := by kernel_rfl
theorem ty45 : ty Try.prog 45 = some (true, 2) := by kernel_rfl
theorem hbd22 : hasBody Try.prog 22 = true := by kernel_rfl
theorem fo45_1 : fo Try.prog 45 1 = some 1 := by kernel_rfl
theorem fo45_0 : fo Try.prog 45 0 = some 0 := by kernel_rfl
end Go.Proofs.Ytimhdimhdimbjaa.Sx.FW
namespace Go.Proofs.Ytimhdimhdimbjaa.Sx
open Go Go.SX Go.Proofs FA FB FC FD FE FF FG FH FJ FK FL FP FQ FW
theorem rscore_ (p : PB) (A : Option Addr) (c : Nat) (l : List RT) (S : Nat → Prop) (wf : World) (hA : Fr eRT S wf A l) (hPB : PBF S wf p) (hRT : RTF S wf l) (hL : LawP p) (hls : l.length ≤ 15) (hvs : ∀ i : Int, (gt l i).vis.length ≤ 50) (hS : SolI p (l.map rc)) :
  TR0 Try.prog 11 [.agg (cPB p).toArray, .agg #[.slice A l.length c]] [] S wf (fun v_ C_ => ∃ (va : Int) (ca : Int), (va = (valR p (l.map rc))) ∧ (ca = (cstR p (l.map rc))) ∧ (0 ≤ va ∧ va ≤ 100000) ∧ (-100000000000000000 ≤ ca ∧ ca ≤ 100000000000000000) ∧ v_ = .tuple #[.agg #[.int .i64 va, .int .i64 ca], .int .i64 0] ∧ C_ = []) := by
 have hla := hA.len
 have hlv := hPB.2.2.1.1.len
 refine TR.mk Try.func11 U Try.ntmps11 U U (fun w_ => ?_)
 refine .seq (.region (.cons (st_boxa U U U U U (fun b1 => (.cons (st_boxa U U U U U (fun b2 => (.cons (st_alloc U U U U zf45 (fun b3 => ?_))))))))))
 refine .a U U U (.go idQ (.seq (.region (.v (ev_any (v := .agg #[.int .i64 0, .int .i64 0]) U kR (fun _ => by kernel_rfl)) U (.cons (st_alloc U U U U zf45 (fun b4 => ?_)))))))
 refine .cons (st_storea (l' := [.int .i64 0, .int .i64 0]) U U U ty45 U U U .h U U ?_)
 refine .go idQ (.seq (.seq (.region (.a U U U (.go idQ (.block (.loop (X := Int × Int × Int) (fun ⟨i, va0, ca0⟩ => 0 ≤ i ∧ i ≤ (l.length : Int) ∧ va0 = valR p ((l.take i.toNat).map rc) ∧ ca0 = cstR p ((l.take i.toNat).map rc) ∧ (0 ≤ va0 ∧ va0 ≤ 5000 * i) ∧ (-(4100000000000000 * i) ≤ ca0 ∧ ca0 ≤ 4100000000000000 * i)) (fun ⟨i, va0, ca0⟩ => [(2, .pointer (some ⟨b1, 0, none⟩)), (3, .pointer (some ⟨b2, 0, none⟩)), (4, .pointer (some ⟨b3, 0, none⟩)), (6, .pointer (some ⟨b4, 0, none⟩)), (7, .int .i64 i)]) (fun ⟨i, va0, ca0⟩ => [cel b4 [.int .i64 va0, .int .i64 ca0] 45, cel b3 [.int .i64 0, .int .i64 0] 45, cel b2 [.slice A l.length c] 40, cel b1 (cPB p) 29]) (fun _ => S) (fun _ => wf) (fun ⟨i, va0, ca0⟩ => ((l.length : Int) - i).toNat) (fun a_ w_ hs_ hw_ => ⟨⟨0, 0, 0⟩, (by (try dsimp only); exact ⟨oO, oO, U, U, oO, oO⟩), hs_.mono (Sub.get (.c4 U U U U (.c U .n))), hw_.keep (.c .h (.c .h (.c .h (.c .h .n))))⟩) (fun ⟨i, va0, ca0⟩ ⟨q_0, q_1, q_2, q_3, q_4, q_5⟩ => ?_))))))))
 show SC _ _ _ _ _ ⟨[(2, .pointer (some ⟨b1, 0, none⟩)), (3, .pointer (some ⟨b2, 0, none⟩)), (4, .pointer (some ⟨b3, 0, none⟩)), (6, .pointer (some ⟨b4, 0, none⟩)), (7, .int .i64 i)], [cel b4 [.int .i64 va0, .int .i64 ca0] 45, cel b3 [.int .i64 0, .int .i64 0] 45, cel b2 [.slice A l.length c] 40, cel b1 (cPB p) 29], S, wf⟩
 refine .seq (.seq (.region (.m U U U (.v (ev_fa U fo40_0 U (r := 0) U) U (.v (ev_ld1 U ty38 U (At.own1 2 U U)) U ?_)))))
 refine .v (ev_len U Try.underlying38 U) U (.v (ev_cmp U U U U) U (.go idQ (.condI U bD (fun h5 => ?_) (fun h5 => ?_))))
 ·
  refine .skipgo idQ (.seq (.block (.seq ?_)))
  obtain ⟨hv1, hv2, hv3, hv4⟩ := sol_at hS (i := i) oO oO
  have hvi := hvs i
  have hfc := fit_cost5 hL (k := (gt l i).veh) (l := (gt l i).vis) oO
  refine SC.draw mo [] [] .n (fun _ _ _ => sc0) (fun wf_6 hl_6 hx_6 hR_6 => ?_)
  refine SR.cutx (X := Nat × Int × (Option Addr) × Nat × Nat) (fun (yb7, yv8, ys9, ys10, ys11) => ([(2, .pointer (some ⟨b1, 0, none⟩)), (3, .pointer (some ⟨b2, 0, none⟩)), (4, .pointer (some ⟨b3, 0, none⟩)), (6, .pointer (some ⟨b4, 0, none⟩)), (7, .int .i64 i), (21, .bool (decide (i < (l.length : Int)))), (8, .pointer (some ⟨yb7, 0, none⟩)), (9, .int .i64 ((fitV p ((gt l i).veh) ((gt l i).vis)).e))], [cel yb7 [.int .i64 yv8, .slice ys9 ys10 ys11, .int .i64 ((fitV p ((gt l i).veh) ((gt l i).vis)).time), .int .i64 ((fitV p ((gt l i).veh) ((gt l i).vis)).dist), .int .i64 ((fitV p ((gt l i).veh) ((gt l i).vis)).wait), .int .i64 ((fitV p ((gt l i).veh) ((gt l i).vis)).serv), .int .i64 ((fitV p ((gt l i).veh) ((gt l i).vis)).cost)] 78, cel b4 [.int .i64 va0, .int .i64 ca0] 45, cel b3 [.int .i64 0, .int .i64 0] 45, cel b2 [.slice A l.length c] 40, cel b1 (cPB p) 29])) S wf (fun ⟨yb7, yv8, ys9, ys10, ys11⟩ => ?_) (fun key12 => ?_)
  ·
   try dsimp only
   refine SQ.go idQ ?_
   refine .seq (.seq (.region (.m U U U (.v (ev_cmp U U U U) U (.go idQ ?_)))))
   refine .condI U bNE (fun h13 => ?_) (fun h13 => ?_)
   ·
    exfalso; omega
   refine .skipgo idQ (.seq (.region (.v (ev_fa U fo45_1 U (r := 1) U) U (.v (ev_ld1 U ty3 U (At.own1 1 U U)) U (.v (ev_fa U fo78_6 U (r := 6) U) U ?_)))))
   refine .v (ev_ld1 U ty3 U (At.own1 0 U U)) U (.v (ev_add U U U (r := (ca0 + ((fitV p ((gt l i).veh) ((gt l i).vis)).cost))) U oO oO) U (.v (ev_fa U fo45_1 U (r := 1) U) U (.cons (st_store1 U U U ty3 U U U (.t .h) (.t .h) ?_))))
   refine .go idQ (.seq (.region (.a U U U (.go idQ (.block (.loop (X := Int × Int) (fun ⟨j, va2⟩ => 0 ≤ j ∧ j ≤ ((gt l i).vis.length : Int) ∧ va2 = va0 + isum (valV p) ((gt l i).vis.take j.toNat) ∧ (0 ≤ va2 ∧ va2 ≤ 5000 * i + 100 * j)) (fun ⟨j, va2⟩ => [(2, .pointer (some ⟨b1, 0, none⟩)), (3, .pointer (some ⟨b2, 0, none⟩)), (4, .pointer (some ⟨b3, 0, none⟩)), (6, .pointer (some ⟨b4, 0, none⟩)), (7, .int .i64 i), (10, .int .i64 j)]) (fun ⟨j, va2⟩ => [cel b4 [.int .i64 va2, .int .i64 (ca0 + ((fitV p ((gt l i).veh) ((gt l i).vis)).cost))] 45, cel yb7 [.int .i64 yv8, .slice ys9 ys10 ys11, .int .i64 ((fitV p ((gt l i).veh) ((gt l i).vis)).time), .int .i64 ((fitV p ((gt l i).veh) ((gt l i).vis)).dist), .int .i64 ((fitV p ((gt l i).veh) ((gt l i).vis)).wait), .int .i64 ((fitV p ((gt l i).veh) ((gt l i).vis)).serv), .int .i64 ((fitV p ((gt l i).veh) ((gt l i).vis)).cost)] 78, cel b3 [.int .i64 0, .int .i64 0] 45, cel b2 [.slice A l.length c] 40, cel b1 (cPB p) 29]) (fun _ => S) (fun _ => wf) (fun ⟨j, va2⟩ => (((gt l i).vis.length : Int) - j).toNat) (fun a_ w_ hs_ hw_ => ⟨⟨0, va0⟩, (by (try dsimp only); exact ⟨oO, oO, (by simp [isum]), oO⟩), hs_.mono (Sub.get (.c4 U U U U (.c U (.c U .n)))), hw_.keep (.c .h (.c .h (.c .h (.c .h (.c .h .n)))))⟩) (fun ⟨j, va2⟩ ⟨r_0, r_1, r_2, r_3⟩ => ?_)))))))
   show SC _ _ _ _ _ ⟨[(2, .pointer (some ⟨b1, 0, none⟩)), (3, .pointer (some ⟨b2, 0, none⟩)), (4, .pointer (some ⟨b3, 0, none⟩)), (6, .pointer (some ⟨b4, 0, none⟩)), (7, .int .i64 i), (10, .int .i64 j)], [cel b4 [.int .i64 va2, .int .i64 (ca0 + ((fitV p ((gt l i).veh) ((gt l i).vis)).cost))] 45, cel yb7 [.int .i64 yv8, .slice ys9 ys10 ys11, .int .i64 ((fitV p ((gt l i).veh) ((gt l i).vis)).time), .int .i64 ((fitV p ((gt l i).veh) ((gt l i).vis)).dist), .int .i64 ((fitV p ((gt l i).veh) ((gt l i).vis)).wait), .int .i64 ((fitV p ((gt l i).veh) ((gt l i).vis)).serv), .int .i64 ((fitV p ((gt l i).veh) ((gt l i).vis)).cost)] 78, cel b3 [.int .i64 0, .int .i64 0] 45, cel b2 [.slice A l.length c] 40, cel b1 (cPB p) 29], S, wf⟩
   refine .seq (.seq (.region (.m U U U (.v (ev_fa U fo40_0 U (r := 0) U) U (.v (ev_ld1 U ty38 U (At.own1 3 U U)) U ?_)))))
   refine .m U U U (.v (ev_ix U Try.underlying38 ty60 U U oO oO (fun _ _ => Fr.adr (i := i) hA oO oO)) U (.v (ev_fa U fo60_1 U (r := ao A + (i).toNat * 2 + 1) U) U (.v (ev_ld1 U ty58 U (At.elem1 (At.w (Fr.el (i := i) hA oO oO)) 1 U)) U ?_)))
   refine .v (ev_len U Try.underlying58 U) U (.v (ev_cmp U U U U) U (.go idQ (.condI U bD (fun h14 => ?_) (fun h14 => ?_))))
   ·
    refine .skipgo idQ (.seq (.block (.seq (.region (.v (ev_fa U fo40_0 U (r := 0) U) U (.v (ev_ld1 U ty38 U (At.own1 3 U U)) U (.m U U U ?_)))))))
    refine .v (ev_ix U Try.underlying38 ty60 U U oO oO (fun _ _ => Fr.adr (i := i) hA oO oO)) U (.v (ev_fa U fo60_1 U (r := ao A + (i).toNat * 2 + 1) U) U (.v (ev_ld1 U ty58 U (At.elem1 (At.w (Fr.el (i := i) hA oO oO)) 1 U)) U (.m U U U ?_)))
    refine .v (ev_ix U Try.underlying58 ty83 U U oO oO (fun _ _ => Fr.adr (i := j) (hRT i) oO oO)) U (.v (ev_lda U U (At.w (Fr.el (i := j) (hRT i) oO oO)) ty83) U (.cons (st_alloc U U U U zf83 (fun b15 => (.cons (st_storea (l' := [.int .i64 ((gt ((gt l i).vis) j).kind), .int .i64 ((gt ((gt l i).vis) j).item)]) U U U ty83 U U U .h U U ?_))))))
    refine .go idQ (.seq (.region (.v (ev_lda U U (At.whole 0 U) ty83) U (.cons (st_callk U U U U hbd23 U .n (rof_ (gt ((gt l i).vis) j) _ _) (.m U U U ?_))))))
    refine .v (ev_ext U U U) U (.v (ev_ext U U U) U (.cons (st_alloc U U U U zf67 (fun b16 => (.cons (st_storea (l' := [.bool ((taskV (gt ((gt l i).vis) j)).ship), .int .i64 ((taskV (gt ((gt l i).vis) j)).item)]) U U U ty67 U U U .h U U ?_))))))
    refine .a U U U (.go idQ (.seq (.region (.v (ev_fa U fo83_0 U (r := 0) U) U (.v (ev_ld1 U ty81 U (At.own1 1 U U)) U ?_)))))
    refine .v (ev_cmp U U U U) U (.go idQ (.condI U bNE (fun h17 => ?_) (fun h17 => ?_)))
    ·
     refine .seq (.region (.v (ev_lda U U (At.whole 6 U) ty29) U (.v (ev_lda U U (At.whole 0 U) ty67) U (.cons (st_callk U U U U hbd24 U .n (facts_ p (taskV (gt ((gt l i).vis) j)) _ _ hPB) ?_)))))
     refine .m U U U (.v (ev_ext U U U) U (.v (ev_ext U U U) U (.a U U U ?_)))
     refine .a U U U (.go idQ ?_)
     have hpr := prio_rng hL (taskV (gt (gt l i).vis j))
     refine .region (.v (ev_fa U fo45_0 U (r := 0) U) U (.v (ev_ld1 U ty3 U (At.own1 2 U U)) U (.m U U U ?_)))
     refine .v (ev_add U U U (r := (va2 + (prioF p (taskV (gt ((gt l i).vis) j))))) U oO oO) U (.v (ev_fa U fo45_0 U (r := 0) U) U (.cons (st_store1 U U U ty3 U U U (.t (.t .h)) .h (.go idQ (.region ?_)))))
     refine .m U U U (.v (ev_add U U U (r := (j + 1)) U oO oO) U (.a U U U ?_))
     exact SP.nil (SQ.roundb (X := Int × Int) (x := (j, va2)) ⟨(j + 1), (va2 + (prioF p (taskV (gt ((gt l i).vis) j))))⟩ (by (try dsimp only); exact ⟨oO, oO, (by rw [val_in oO oO, valV_ok (by assumption)]; omega), oO⟩) dO (Sub.get (.c4 U U U U (.c U (.c U .n)))) (fun w hw => hw.keep (.c .h (.c (.t (.t .h)) (.c (.t (.t .h)) (.c (.t (.t .h)) (.c (.t (.t .h)) .n)))))))
    refine .skipgo idQ (.region (.m U U U (.v (ev_add U U U (r := (j + 1)) U oO oO) U (.a U U U ?_))))
    exact SP.nil (SQ.roundb (X := Int × Int) (x := (j, va2)) ⟨(j + 1), va2⟩ (by (try dsimp only); exact ⟨oO, oO, (by rw [val_in oO oO, valV_no (by assumption)]; omega), oO⟩) dO (Sub.get (.c4 U U U U (.c U (.c U .n)))) (fun w hw => hw.keep (.c (.t (.t .h)) (.c (.t (.t .h)) (.c (.t (.t .h)) (.c (.t (.t .h)) (.c (.t (.t .h)) .n)))))))
   refine .exit idQ ?_
   refine .region (.m U U U (.v (ev_add U U U (r := (i + 1)) U oO oO) U (.a U U U ?_)))
   exact SP.nil (SQ.roundb (X := Int × Int × Int) (x := (i, va0, ca0)) ⟨(i + 1), va2, (ca0 + ((fitV p ((gt l i).veh) ((gt l i).vis)).cost))⟩ (by (try dsimp only); exact ⟨oO, oO, (by rw [val_take oO oO, ← q_2, show (gt l i).vis = (gt l i).vis.take j.toNat from (List.take_of_length_le oO).symm]; omega), (by rw [cst_take oO oO]; omega), oO, oO⟩) dO (Sub.get (.c4 U U U U (.c U .n))) (fun w hw => hw.keep (.c .h (.c (.t .h) (.c (.t .h) (.c (.t .h) .n))))))
  refine SR.join (X := Nat × Int × (Option Addr) × Nat × Nat) (fun (zb18, zv19, zs20, zs21, zs22) => ([(2, .pointer (some ⟨b1, 0, none⟩)), (3, .pointer (some ⟨b2, 0, none⟩)), (4, .pointer (some ⟨b3, 0, none⟩)), (6, .pointer (some ⟨b4, 0, none⟩)), (7, .int .i64 i), (21, .bool (decide (i < (l.length : Int)))), (39, .agg #[.int .i64 zv19, .slice zs20 zs21 zs22, .int .i64 ((fitV p ((gt l i).veh) ((gt l i).vis)).time), .int .i64 ((fitV p ((gt l i).veh) ((gt l i).vis)).dist), .int .i64 ((fitV p ((gt l i).veh) ((gt l i).vis)).wait), .int .i64 ((fitV p ((gt l i).veh) ((gt l i).vis)).serv), .int .i64 ((fitV p ((gt l i).veh) ((gt l i).vis)).cost)]), (40, .int .i64 ((fitV p ((gt l i).veh) ((gt l i).vis)).e)), (8, .pointer (some ⟨zb18, 0, none⟩))], [cel zb18 [.int .i64 0, .slice none 0 0, .int .i64 0, .int .i64 0, .int .i64 0, .int .i64 0, .int .i64 0] 78])) 2 #[true, true, true, true, true, true, true, true, true, true, true, true, true, true, true, true, true, true, false, false] (fun ⟨zb18, zv19, zs20, zs21, zs22⟩ => ?_) (fun key23 => ?_)
  ·
   show SR _ _ _ _ _ _ _ _ _ ⟨[(2, .pointer (some ⟨b1, 0, none⟩)), (3, .pointer (some ⟨b2, 0, none⟩)), (4, .pointer (some ⟨b3, 0, none⟩)), (6, .pointer (some ⟨b4, 0, none⟩)), (7, .int .i64 i), (21, .bool (decide (i < (l.length : Int)))), (39, .agg #[.int .i64 zv19, .slice zs20 zs21 zs22, .int .i64 ((fitV p ((gt l i).veh) ((gt l i).vis)).time), .int .i64 ((fitV p ((gt l i).veh) ((gt l i).vis)).dist), .int .i64 ((fitV p ((gt l i).veh) ((gt l i).vis)).wait), .int .i64 ((fitV p ((gt l i).veh) ((gt l i).vis)).serv), .int .i64 ((fitV p ((gt l i).veh) ((gt l i).vis)).cost)]), (40, .int .i64 ((fitV p ((gt l i).veh) ((gt l i).vis)).e)), (8, .pointer (some ⟨zb18, 0, none⟩))], [cel zb18 [.int .i64 0, .slice none 0 0, .int .i64 0, .int .i64 0, .int .i64 0, .int .i64 0, .int .i64 0] 78], _, _⟩
   refine SR.o 18 U (st_storea (l' := [.int .i64 zv19, .slice zs20 zs21 zs22, .int .i64 ((fitV p ((gt l i).veh) ((gt l i).vis)).time), .int .i64 ((fitV p ((gt l i).veh) ((gt l i).vis)).dist), .int .i64 ((fitV p ((gt l i).veh) ((gt l i).vis)).wait), .int .i64 ((fitV p ((gt l i).veh) ((gt l i).vis)).serv), .int .i64 ((fitV p ((gt l i).veh) ((gt l i).vis)).cost)]) U U U ty78 U U U .h U U ⟨tt0, ?_⟩)
   refine SR.z 19 U U (ev_as U U) ?_
   refine SR.fin kR hl_6 hx_6 hR_6 (.c .n) ?_
   exact SQ.weak (key12 (zb18, zv19, zs20, zs21, zs22)) (Sub.get (.c4 U U U U (.c4 U U U U .n))) (fun w hw => hw.keep (.c .h (.c .h (.c .h (.c .h (.c .h .n))))))
  refine SR.z 0 U U (ev_lda (cs := (cPB p)) U U (At.d (At.lent hR_6 3 U U)) ty29) ?_
  refine SR.z 1 U U (ev_fa U fo40_0 U (r := 0) U) ?_
  refine SR.z 2 U U (ev_ld1 U ty38 U (At.d (At.lent hR_6 2 U U))) ?_
  refine SR.m 3 U U U U ?_
  refine SR.z 4 U U (ev_ix U Try.underlying38 ty60 U U oO oO (fun _ _ => Fr.adr (i := i) (Fr.ext hA hx_6) oO oO)) ?_
  refine SR.z 5 U U (ev_fa U fo60_0 U (r := ao A + (i).toNat * 2) U) ?_
  refine SR.z 6 U U (ev_ld1 U ty3 U (At.elem1 (At.d (Fr.el (i := i) (Fr.ext hA hx_6) oO oO)) 0 U)) ?_
  refine SR.z 7 U U (ev_fa U fo40_0 U (r := 0) U) ?_
  refine SR.z 8 U U (ev_ld1 U ty38 U (At.d (At.lent hR_6 2 U U))) ?_
  refine SR.m 9 U U U U ?_
  refine SR.z 10 U U (ev_ix U Try.underlying38 ty60 U U oO oO (fun _ _ => Fr.adr (i := i) (Fr.ext hA hx_6) oO oO)) ?_
  refine SR.z 11 U U (ev_fa U fo60_1 U (r := ao A + (i).toNat * 2 + 1) U) ?_
  refine SR.z 12 U U (ev_ld1 U ty58 U (At.elem1 (At.d (Fr.el (i := i) (Fr.ext hA hx_6) oO oO)) 1 U)) ?_
  refine SR.two (i := 13) (j := 17) kR ⟨_, U, ?_⟩ ⟨_, U, ?_⟩
  ·
   refine st_call00 rfl rfl rfl rfl hbd22 rfl .n (rfit_ p ((gt l i).veh) ((gt l i).rA) ((gt l i).rc) ((gt l i).vis) _ _ (((hRT).ext hx_6) i) ((hPB).ext hx_6) oO lO) (by intro v C h; obtain ⟨_, _, _, _, rfl, rfl⟩ := h; rfl) (fun v_q28 q28 => ⟨tt0, ?_⟩)
   obtain ⟨vh24, sA25, sn26, sc27, rfl, -⟩ := q28
   refine SR.m 14 U U U U ?_
   refine SR.z 15 U U (ev_ext U U U) ?_
   refine SR.z 16 U U (ev_ext U U U) ?_
   refine SR.o 17 U (st_alloc U U U U zf78 (fun b29 => ⟨tt0, ?_⟩))
   exact SR.weakj (key23 (b29, vh24, sA25, sn26, sc27)) kR (Sub.get (.c4 U U U U (.c4 U U U U (.c U .n)))) (fun w hw => hw.keep (.c .h .n))
  refine st_alloc U U U U zf78 (fun b30 => ⟨tt0, ?_⟩)
  refine SR.o 13 rfl (st_call00 rfl rfl rfl rfl hbd22 rfl .n (rfit_ p ((gt l i).veh) ((gt l i).rA) ((gt l i).rc) ((gt l i).vis) _ _ (((hRT).ext hx_6) i) ((hPB).ext hx_6) oO lO) (by intro v C h; obtain ⟨_, _, _, _, rfl, rfl⟩ := h; rfl) (fun v_q35 q35 => ⟨tt0, ?_⟩))
  obtain ⟨vh31, sA32, sn33, sc34, rfl, -⟩ := q35
  refine SR.m 14 U U U U ?_
  refine SR.z 15 U U (ev_ext U U U) ?_
  refine SR.z 16 U U (ev_ext U U U) ?_
  exact SR.weakj (key23 (b30, vh31, sA32, sn33, sc34)) kR (Sub.get (.c4 U U U U (.c4 U U U U (.c U .n)))) (fun w hw => hw.keep (.c .h .n))
 refine .exit idQ ?_
 refine .seq (.region (.v (ev_lda U U (At.whole 0 U) ty45) U (.cons (st_storea (l' := [.int .i64 va0, .int .i64 ca0]) U U U ty45 U U U (.t .h) U U (.a U U U ?_)))))
 refine .go idQ (.ret idQ (retv2 Try.results11 (.c 0 U U ty45) (.t U) .n ⟨va0, ca0, (by rw [q_2, List.take_of_length_le oO]), (by rw [q_3, List.take_of_length_le oO]), oO, oO, U, U⟩))
end Go.Proofs.Ytimhdimhdimbjaa.Sx
set_option maxRecDepth 20000
set_option maxHeartbeats 1000000
namespace Go.Proofs.Ytimhdimhdimbjaa.Sx.FEA
open Go Go.SX Go.Proofs FA FB FC FD FE FF FG FH FJ FK FL FP FQ FW
theorem fo102_3 : fo Try.prog 102 3 = some 20 := by kernel_rfl
theorem fo102_2 : fo Try.prog 102 2 = some 19 := by kernel_rfl
theorem fo102_0 : fo Try.prog 102 0 = some 0 := by kernel_rfl
theorem fo112_0 : fo Try.prog 112 0 = some 0 := by kernel_rfl
theorem fo110_2 : fo Try.prog 110 2 = some 2 := by kernel_rfl
theorem fo102_1 : fo Try.prog 102 1 = some 8 := by kernel_rfl
theorem fo110_0 : fo Try.prog 110 0 = some 0 := by kernel_rfl
theorem fo110_1 : fo Try.prog 110 1 = some 1 := by kernel_rfl
theorem fo112_1 : fo Try.prog 112 1 = some 3 := by kernel_rfl
theorem fo112_2 : fo Try.prog 112 2 = some 4 := by kernel_rfl
theorem fo102_5 : fo Try.prog 102 5 = some 22 := by kernel_rfl
theorem fo102_6 : fo Try.prog 102 6 = some 23 := by kernel_rfl
theorem fo112_3 : fo Try.prog 112 3 = some 5 := by kernel_rfl
end Go.Proofs.Ytimhdimhdimbjaa.Sx.FEA
namespace Go.Proofs.Ytimhdimhdimbjaa.Sx
open Go Go.SX Go.Proofs FA FB FC FD FE FF FG FH FJ FK FL FP FQ FW FEA
theorem aboard_ (p : PB) (v : VH) (b : Nat) (aA : Option Addr) (ac : Nat) (all : List Vis) (fA : Option Addr) (fc : Nat) (fst : List Int) (mb_ : Nat) (B : VL) (c : Int) (dn : Int) (S : Nat → Prop) (wf : World) (hA : Fr eVis S wf aA all) (hF : Fr eZ S wf fA fst) (hPB : PBF S wf p) (hVH : VHF S wf v) (hO : (CX.mk p v all fst).Ok) (hdn : 0 ≤ dn ∧ dn < 4096) (hfo : lOk p 100000000 fst) :
  TR0 Try.prog 61 [.pointer (some ⟨b, 0, none⟩), .int .i64 dn] [cel b [.int .i64 p.dims, .int .i64 p.tn, .slice p.ptA p.time.length p.ptc, .int .i64 p.dn, .slice p.pdA p.dist.length p.pdc, .slice p.pvA p.vehs.length p.pvc, .slice p.pjA p.jobs.length p.pjc, .slice p.psA p.ships.length p.psc, .int .i64 v.st, .int .i64 v.en, .slice v.vcA v.vcap.length v.vcc, .int .u64 v.vsk, .int .i64 v.lo, .int .i64 v.hi, .int .i64 v.fix, .int .i64 v.pt, .int .i64 v.pd, .int .i64 v.mt, .slice v.vbA v.brs.length v.vbc, .slice aA all.length ac, .slice fA fst.length fc, .map (some mb_), .slice B.wlA B.vl.length B.wlc, .int .i64 c] 102] S wf (fun v_ C_ => ∃ (ow : Bool) (A2 : Option Addr) (c2 : Nat), (ow = false → Fr eZ S wf A2 (abF p dn all 0 fst)) ∧ (((abF p dn all 0 fst).length : Int) = p.dims) ∧ v_ = .slice A2 ((abF p dn all 0 fst).length) c2 ∧ C_ = [cel b [.int .i64 p.dims, .int .i64 p.tn, .slice p.ptA p.time.length p.ptc, .int .i64 p.dn, .slice p.pdA p.dist.length p.pdc, .slice p.pvA p.vehs.length p.pvc, .slice p.pjA p.jobs.length p.pjc, .slice p.psA p.ships.length p.psc, .int .i64 v.st, .int .i64 v.en, .slice v.vcA v.vcap.length v.vcc, .int .u64 v.vsk, .int .i64 v.lo, .int .i64 v.hi, .int .i64 v.fix, .int .i64 v.pt, .int .i64 v.pd, .int .i64 v.mt, .slice v.vbA v.brs.length v.vbc, .slice aA all.length ac, .slice fA fst.length fc, .map (some mb_), .slice B.wlA B.vl.length B.wlc, .int .i64 c] 102, mb ow (rw_ eZ 3 (.slice A2 ((abF p dn all 0 fst).length) c2) (abF p dn all 0 fst))]) := by
 have hla := hA.len
 have hL : LawP p := hO.law
 have hn12 : all.length ≤ 12 := hO.len
 have hlj := hPB.2.2.2.1.1.len
 have hls := hPB.2.2.2.2.1.len
 have hdn0 := hdn.1
 have hdn1 : dn < 4611686018427387904 := by omega
 refine TR.mk Try.func61 U Try.ntmps61 U U (fun w_ => ?_)
 refine .seq (.region (.a U U U (.go idQ (.seq (.region (.m U U U ?_))))))
 refine .v (ev_nil U U) U (.v (ev_fa U fo102_3 U (r := 20) U) U (.v (ev_ld1 U ty22 U (At.own1 0 U U)) U (.a U U U ?_)))
 refine .go idQ (.seq (.seq ?_))
 refine SC.mbF (rw_ eZ 3 (.slice fA fst.length fc) fst) ?_
 refine .region (.m U U U (.v (ev_nil U U) U (.v (ev_fa U fo102_2 U (r := 19) U) U ?_)))
 refine .v (ev_ld1 U ty58 U (At.own1 1 U U)) U (.v (ev_len U Try.underlying58 U) U (.m U U U (.go idQ (.block ?_))))
 refine .loop (X := Int × Bool × (Option Addr) × Nat × (List Int)) (fun ⟨i, own, nA, nc, a⟩ => 0 ≤ i ∧ i ≤ (all.length : Int) ∧ (abF p dn (all.drop i.toNat) i a = (abF p dn all 0 fst)) ∧ (lOk p (100000000 + 2000000 * i) a) ∧ (own = false → Fr eZ S wf nA a)) (fun ⟨i, own, nA, nc, a⟩ => [(0, .pointer (some ⟨b, 0, none⟩)), (1, .int .i64 dn), (4, .slice none 0 0), (15, .slice aA all.length ac), (16, .int .i64 (all.length : Int)), (17, .int .i64 i), (5, .slice nA a.length nc)]) (fun ⟨i, own, nA, nc, a⟩ => [mb own (rw_ eZ 3 (.slice nA a.length nc) a), cel b [.int .i64 p.dims, .int .i64 p.tn, .slice p.ptA p.time.length p.ptc, .int .i64 p.dn, .slice p.pdA p.dist.length p.pdc, .slice p.pvA p.vehs.length p.pvc, .slice p.pjA p.jobs.length p.pjc, .slice p.psA p.ships.length p.psc, .int .i64 v.st, .int .i64 v.en, .slice v.vcA v.vcap.length v.vcc, .int .u64 v.vsk, .int .i64 v.lo, .int .i64 v.hi, .int .i64 v.fix, .int .i64 v.pt, .int .i64 v.pd, .int .i64 v.mt, .slice v.vbA v.brs.length v.vbc, .slice aA all.length ac, .slice fA fst.length fc, .map (some mb_), .slice B.wlA B.vl.length B.wlc, .int .i64 c] 102]) (fun _ => S) (fun _ => wf) (fun ⟨i, own, nA, nc, a⟩ => ((all.length : Int) - i).toNat) (fun a_ w_ hs_ hw_ => ⟨⟨0, false, fA, fc, fst⟩, (by exact ⟨by omega, by omega, U, lOk_mono hfo oO, fun _ => hF⟩), hs_.mono (Sub.get (.c4 U U U U (.c U (.c U (.c U .n))))), hw_.keep (.c .h (.c .h .n))⟩) (fun ⟨i, own, nA, nc, a⟩ ⟨q_0, q_1, q_2, q_3, q_4⟩ => ?_)
 show SC _ _ _ _ _ ⟨[(0, .pointer (some ⟨b, 0, none⟩)), (1, .int .i64 dn), (4, .slice none 0 0), (15, .slice aA all.length ac), (16, .int .i64 (all.length : Int)), (17, .int .i64 i), (5, .slice nA a.length nc)], [mb own (rw_ eZ 3 (.slice nA a.length nc) a), cel b [.int .i64 p.dims, .int .i64 p.tn, .slice p.ptA p.time.length p.ptc, .int .i64 p.dn, .slice p.pdA p.dist.length p.pdc, .slice p.pvA p.vehs.length p.pvc, .slice p.pjA p.jobs.length p.pjc, .slice p.psA p.ships.length p.psc, .int .i64 v.st, .int .i64 v.en, .slice v.vcA v.vcap.length v.vcc, .int .u64 v.vsk, .int .i64 v.lo, .int .i64 v.hi, .int .i64 v.fix, .int .i64 v.pt, .int .i64 v.pd, .int .i64 v.mt, .slice v.vbA v.brs.length v.vbc, .slice aA all.length ac, .slice fA fst.length fc, .map (some mb_), .slice B.wlA B.vl.length B.wlc, .int .i64 c] 102], S, wf⟩
 have hal := q_3.1
 have hdm := hL.dims
 refine .seq (.region (.v (ev_cmp U U U U) U (.go idQ (.seq (.condI U bD (fun h1 => ?_) (fun h1 => ?_))))))
 ·
  refine .skipgo idQ (.seq (.block (.seq (.region (.m U U U (.v (ev_ix U Try.underlying58 ty83 U U oO oO (fun _ _ => Fr.adr (i := i) hA oO oO)) U (.v (ev_lda U U (At.w (Fr.el (i := i) hA oO oO)) ty83) U ?_)))))))
  refine .cons (st_alloc U U U U zf83 (fun b2 => ?_))
  refine .a U U U (.cons (st_storea (l' := [.int .i64 ((gt all i).kind), .int .i64 ((gt all i).item)]) U U U ty83 U U U .h U U (.go idQ (.seq (.seq (.region (.m U U U ?_)))))))
  refine .m U U U (.v (ev_shr (r := (shrI dn i)) U U U oO U) U (.v (ev_band U U U) U (.v (ev_cmp U U U U) U ?_)))
  refine .go idQ (.condI U bE (fun h3 => ?_) (fun h3 => ?_))
  ·
   refine .exit idQ ?_
   have hbf : bt dn i = false := (bit_0 hdn0 hdn1 oO oO).1 (by assumption)
   refine .region (.v (ev_add U U U (r := (i + 1)) U oO oO) U (.m U U U ?_))
   exact SP.nil (SQ.roundb (X := Int × Bool × (Option Addr) × Nat × (List Int)) (x := (i, own, nA, nc, a)) ⟨(i + 1), own, nA, nc, a⟩ (by exact ⟨by omega, by omega, (by have hq := q_2; rw [drop_gt (x := i) oO oO, abF_cons, if_neg (by rw [hbf]; decide)] at hq; exact hq), lOk_mono q_3 oO, q_4⟩) dO (Sub.get (.c4 U U U U (.c U (.c U (.c U .n))))) (fun w hw => hw.keep (.c (.t .h) (.c (.t .h) .n))))
  refine .skipgo idQ (.seq ?_)
  have hbt : bt dn i = true := by rcases Bool.eq_false_or_eq_true (bt dn i) with h_ | h_ <;> first | exact h_ | exact absurd ((bit_0 hdn0 hdn1 (i := i) oO oO).2 h_) (by assumption)
  have hgi : gt all i ∈ all := gt_in oO oO
  have hsp : isStop p (gt all i) = true := hO.mem _ hgi
  have hkd := is_kind hsp
  refine .region (.v (ev_fa U fo83_0 U (r := 0) U) U (.v (ev_ld1 U ty81 U (At.own1 0 U U)) U (.go idQ (.block (.seq (.region ?_))))))
  refine .v (ev_cmp U U U U) U (.a U U U (.go idQ (.condI U bE (fun h4 => ?_) (fun h4 => ?_))))
  ·
   refine .seq ?_
   have hin := is_i1 hsp oO
   have hjb := hL.job _ hin.1 hin.2
   refine SC.draw mo [] [] .n (fun _ _ _ => sc0) (fun wf_5 hl_5 hx_5 hR_5 => ?_)
   refine SR.m 0 U U U U ?_
   refine SR.m 1 U U U U ?_
   refine SR.z 2 U U (ev_nil U U) ?_
   refine SR.z 3 U U (ev_fa U fo102_0 U (r := 0) U) ?_
   refine SR.z 4 U U (ev_fa U fo29_4 U (r := 6) U) ?_
   refine SR.z 5 U U (ev_ld1 U ty26 U (At.d (At.lent hR_5 2 U U))) ?_
   refine SR.z 6 U U (ev_fa U fo83_1 U (r := 1) U) ?_
   refine SR.z 7 U U (ev_ld1 U ty3 U (At.d (At.lent hR_5 0 U U))) ?_
   refine SR.z 8 U U (ev_ix U Try.underlying26 ty53 U U oO oO (fun _ _ => Fr.adr (i := (gt all i).item) ((hPB).ext hx_5).2.2.2.1.1 oO oO)) ?_
   refine SR.z 9 U U (ev_fa U fo53_1 U (r := ao p.pjA + ((gt all i).item).toNat * 7 + 3) U) ?_
   refine SR.z 10 U U (ev_ld1 U ty22 U (At.elem1 (At.d (Fr.el (i := (gt all i).item) ((hPB).ext hx_5).2.2.2.1.1 oO oO)) 3 U)) ?_
   refine SR.o 11 U (st_call0 U U U U hbd79 U .n (lsubL nA nc a ((gt p.jobs ((gt all i).item)).jdA) ((gt p.jobs ((gt all i).item)).jdc) ((gt p.jobs ((gt all i).item)).drop) _ _ (Fr.lentm hx_5 hR_5 1 U (by have h_ := q_3.1; have hd_ := hL.dims; omega) q_4) ((((hPB).ext hx_5).2.2.2.1.2 ((gt all i).item)).1) (by have h_ := q_3.1; have := hjb.drop.1; first | omega | (have := hjb.pick.1; rw [subL_len]; omega)) (by have h_ := q_3.1; have hd_ := hL.dims; first | omega | (rw [subL_len]; omega)) (by first | exact bdd_mono q_3.2 oO | exact bdd_mono (lOk_sub q_3 hjb.drop (Int.le_refl _)).2 oO) (by first | exact rng_bdd hjb.drop.2 oO oO | exact rng_bdd hjb.pick.2 oO oO | exact rng_bdd hjb.am.2 oO oO)) (fun v_q7 C_q7 q7 => ⟨tt0, ?_⟩))
   obtain ⟨u6, rfl, rfl⟩ := q7
   show SR _ _ _ _ _ _ _ _ _ ⟨_, _ :: _, _, _⟩
   refine SR.m 12 U U U U ?_
   refine SR.z 13 U U (ev_ext U U U) ?_
   refine SR.z 14 U U (ev_ext U U U) ?_
   refine SR.z 15 U U (ev_as U U) ?_
   refine SR.fin kR hl_5 hx_5 hR_5 (.c .n) ?_
   refine SQ.go idQ ?_
   refine .know (row_len 0 U) (fun hv10 => ?_)
   obtain ⟨A8, c9, rfl, hv10_1, hv10_2⟩ := hv10
   unfold maxLen at hv10_2
   refine SC.draw mo [] [] .n (fun _ _ _ => sc0) (fun wf_11 hl_11 hx_11 hR_11 => ?_)
   refine SR.m 0 U U U U ?_
   refine SR.m 1 U U U U ?_
   refine SR.z 2 U U (ev_nil U U) ?_
   refine SR.z 3 U U (ev_fa U fo102_0 U (r := 0) U) ?_
   refine SR.z 4 U U (ev_fa U fo29_4 U (r := 6) U) ?_
   refine SR.z 5 U U (ev_ld1 U ty26 U (At.d (At.lent hR_11 3 U U))) ?_
   refine SR.z 6 U U (ev_fa U fo83_1 U (r := 1) U) ?_
   refine SR.z 7 U U (ev_ld1 U ty3 U (At.d (At.lent hR_11 1 U U))) ?_
   refine SR.z 8 U U (ev_ix U Try.underlying26 ty53 U U oO oO (fun _ _ => Fr.adr (i := (gt all i).item) ((hPB).ext hx_11).2.2.2.1.1 oO oO)) ?_
   refine SR.z 9 U U (ev_fa U fo53_2 U (r := ao p.pjA + ((gt all i).item).toNat * 7 + 4) U) ?_
   refine SR.z 10 U U (ev_ld1 U ty22 U (At.elem1 (At.d (Fr.el (i := (gt all i).item) ((hPB).ext hx_11).2.2.2.1.1 oO oO)) 4 U)) ?_
   refine SR.o 11 U (st_call0 U U U U hbd43 U .n (laddL A8 c9 (subL a ((gt p.jobs ((gt all i).item)).drop)) ((gt p.jobs ((gt all i).item)).jkA) ((gt p.jobs ((gt all i).item)).jkc) ((gt p.jobs ((gt all i).item)).pick) _ _ (Fr.lent (S := S) hR_11 0 U (by first | ((try simp only [List.length_nil, List.length_cons, List.length_append, List.length_set, List.length_singleton, List.length_take, List.length_drop, List.length_reverse, addL_len, subL_len]) <;> omega) | omega)) ((((hPB).ext hx_11).2.2.2.1.2 ((gt all i).item)).2.1) (by have h_ := q_3.1; have := hjb.drop.1; first | omega | (have := hjb.pick.1; rw [subL_len]; omega)) (by have h_ := q_3.1; have hd_ := hL.dims; first | omega | (rw [subL_len]; omega)) (by first | exact bdd_mono q_3.2 oO | exact bdd_mono (lOk_sub q_3 hjb.drop (Int.le_refl _)).2 oO) (by first | exact rng_bdd hjb.drop.2 oO oO | exact rng_bdd hjb.pick.2 oO oO | exact rng_bdd hjb.am.2 oO oO)) (fun v_q13 C_q13 q13 => ⟨tt0, ?_⟩))
   obtain ⟨u12, rfl, rfl⟩ := q13
   show SR _ _ _ _ _ _ _ _ _ ⟨_, _ :: _, _, _⟩
   refine SR.m 12 U U U U ?_
   refine SR.z 13 U U (ev_ext U U U) ?_
   refine SR.z 14 U U (ev_ext U U U) ?_
   refine SR.z 15 U U (ev_as U U) ?_
   refine SR.fin kR hl_11 hx_11 hR_11 (.c .n) ?_
   refine SQ.go idQ ?_
   refine .know (row_len 0 U) (fun hv16 => ?_)
   obtain ⟨A14, c15, rfl, hv16_1, hv16_2⟩ := hv16
   unfold maxLen at hv16_2
   refine SC.mbT .h ?_
   have hSt := lOk_St (x := gt all i) hL q_3 (k := 100000000 + 2000000 * (i + 1)) oO
   rw [loadSt_1 hsp oO] at hSt
   simp only [dropV, pickV, amV] at hSt
   refine .region (.v (ev_add U U U (r := (i + 1)) U oO oO) U (.m U U U ?_))
   exact SP.nil (SQ.roundb (X := Int × Bool × (Option Addr) × Nat × (List Int)) (x := (i, own, nA, nc, a)) ⟨(i + 1), true, A14, c15, (addL (subL a ((gt p.jobs ((gt all i).item)).drop)) ((gt p.jobs ((gt all i).item)).pick))⟩ (by exact ⟨by omega, by omega, (by have hq := q_2; rw [drop_gt (x := i) oO oO, abF_cons, if_pos hbt, loadSt_1 (hO.mem _ hgi) oO] at hq; exact hq), hSt, (fun h_ => by cases h_)⟩) dO (Sub.get (.c4 U U U U (.c U (.c U (.c U .n))))) (fun w hw => hw.keep (.c .h (.c (.t (.t (.t .h))) .n))))
  refine .seq (.region (.v (ev_cmp U U U U) U (.a U U U (.go idQ ?_))))
  refine .condI U bE (fun h17 => ?_) (fun h17 => ?_)
  ·
   have hin := is_i2 hsp oO
   have hjb := hL.ship _ hin.1 hin.2
   refine SC.draw mo [] [] .n (fun _ _ _ => sc0) (fun wf_18 hl_18 hx_18 hR_18 => ?_)
   refine SR.m 0 U U U U ?_
   refine SR.m 1 U U U U ?_
   refine SR.z 2 U U (ev_nil U U) ?_
   refine SR.z 3 U U (ev_fa U fo102_0 U (r := 0) U) ?_
   refine SR.z 4 U U (ev_fa U fo29_5 U (r := 7) U) ?_
   refine SR.z 5 U U (ev_ld1 U ty27 U (At.d (At.lent hR_18 2 U U))) ?_
   refine SR.z 6 U U (ev_fa U fo83_1 U (r := 1) U) ?_
   refine SR.z 7 U U (ev_ld1 U ty3 U (At.d (At.lent hR_18 0 U U))) ?_
   refine SR.z 8 U U (ev_ix U Try.underlying27 ty55 U U oO oO (fun _ _ => Fr.adr (i := (gt all i).item) ((hPB).ext hx_18).2.2.2.2.1 oO oO)) ?_
   refine SR.z 9 U U (ev_fa U fo55_2 U (r := ao p.psA + ((gt all i).item).toNat * 9 + 6) U) ?_
   refine SR.z 10 U U (ev_ld1 U ty22 U (At.elem1 (At.d (Fr.el (i := (gt all i).item) ((hPB).ext hx_18).2.2.2.2.1 oO oO)) 6 U)) ?_
   refine SR.o 11 U (st_call0 U U U U hbd43 U .n (laddL nA nc a ((gt p.ships ((gt all i).item)).saA) ((gt p.ships ((gt all i).item)).sac) ((gt p.ships ((gt all i).item)).am) _ _ (Fr.lentm hx_18 hR_18 1 U (by have h_ := q_3.1; have hd_ := hL.dims; omega) q_4) ((((hPB).ext hx_18).2.2.2.2.2 ((gt all i).item)).1) (by have h_ := q_3.1; have := hjb.am.1; omega) (by have h_ := q_3.1; have hd_ := hL.dims; first | omega | (rw [subL_len]; omega)) (by first | exact bdd_mono q_3.2 oO | exact bdd_mono (lOk_sub q_3 hjb.drop (Int.le_refl _)).2 oO) (by first | exact rng_bdd hjb.drop.2 oO oO | exact rng_bdd hjb.pick.2 oO oO | exact rng_bdd hjb.am.2 oO oO)) (fun v_q20 C_q20 q20 => ⟨tt0, ?_⟩))
   obtain ⟨u19, rfl, rfl⟩ := q20
   show SR _ _ _ _ _ _ _ _ _ ⟨_, _ :: _, _, _⟩
   refine SR.m 12 U U U U ?_
   refine SR.z 13 U U (ev_ext U U U) ?_
   refine SR.z 14 U U (ev_ext U U U) ?_
   refine SR.z 15 U U (ev_as U U) ?_
   refine SR.fin kR hl_18 hx_18 hR_18 (.c .n) ?_
   refine SQ.go idQ ?_
   refine .know (row_len 0 U) (fun hv23 => ?_)
   obtain ⟨A21, c22, rfl, hv23_1, hv23_2⟩ := hv23
   unfold maxLen at hv23_2
   refine SC.mbT .h ?_
   have hSt := lOk_St (x := gt all i) hL q_3 (k := 100000000 + 2000000 * (i + 1)) oO
   rw [loadSt_2 hsp oO] at hSt
   simp only [dropV, pickV, amV] at hSt
   refine .region (.v (ev_add U U U (r := (i + 1)) U oO oO) U (.m U U U ?_))
   exact SP.nil (SQ.roundb (X := Int × Bool × (Option Addr) × Nat × (List Int)) (x := (i, own, nA, nc, a)) ⟨(i + 1), true, A21, c22, (addL a ((gt p.ships ((gt all i).item)).am))⟩ (by exact ⟨by omega, by omega, (by have hq := q_2; rw [drop_gt (x := i) oO oO, abF_cons, if_pos hbt, loadSt_2 (hO.mem _ hgi) oO] at hq; exact hq), hSt, (fun h_ => by cases h_)⟩) dO (Sub.get (.c4 U U U U (.c U (.c U (.c U .n))))) (fun w hw => hw.keep (.c .h (.c (.t (.t .h)) .n))))
  refine .seq (.region (.v (ev_cmp U U U U) U (.a U U U (.go idQ ?_))))
  refine .condI U bE (fun h24 => ?_) (fun h24 => ?_)
  ·
   have hin := is_i2 hsp oO
   have hjb := hL.ship _ hin.1 hin.2
   refine SC.draw mo [] [] .n (fun _ _ _ => sc0) (fun wf_25 hl_25 hx_25 hR_25 => ?_)
   refine SR.m 0 U U U U ?_
   refine SR.m 1 U U U U ?_
   refine SR.z 2 U U (ev_nil U U) ?_
   refine SR.z 3 U U (ev_fa U fo102_0 U (r := 0) U) ?_
   refine SR.z 4 U U (ev_fa U fo29_5 U (r := 7) U) ?_
   refine SR.z 5 U U (ev_ld1 U ty27 U (At.d (At.lent hR_25 2 U U))) ?_
   refine SR.z 6 U U (ev_fa U fo83_1 U (r := 1) U) ?_
   refine SR.z 7 U U (ev_ld1 U ty3 U (At.d (At.lent hR_25 0 U U))) ?_
   refine SR.z 8 U U (ev_ix U Try.underlying27 ty55 U U oO oO (fun _ _ => Fr.adr (i := (gt all i).item) ((hPB).ext hx_25).2.2.2.2.1 oO oO)) ?_
   refine SR.z 9 U U (ev_fa U fo55_2 U (r := ao p.psA + ((gt all i).item).toNat * 9 + 6) U) ?_
   refine SR.z 10 U U (ev_ld1 U ty22 U (At.elem1 (At.d (Fr.el (i := (gt all i).item) ((hPB).ext hx_25).2.2.2.2.1 oO oO)) 6 U)) ?_
   refine SR.o 11 U (st_call0 U U U U hbd79 U .n (lsubL nA nc a ((gt p.ships ((gt all i).item)).saA) ((gt p.ships ((gt all i).item)).sac) ((gt p.ships ((gt all i).item)).am) _ _ (Fr.lentm hx_25 hR_25 1 U (by have h_ := q_3.1; have hd_ := hL.dims; omega) q_4) ((((hPB).ext hx_25).2.2.2.2.2 ((gt all i).item)).1) (by have h_ := q_3.1; have := hjb.am.1; omega) (by have h_ := q_3.1; have hd_ := hL.dims; first | omega | (rw [subL_len]; omega)) (by first | exact bdd_mono q_3.2 oO | exact bdd_mono (lOk_sub q_3 hjb.drop (Int.le_refl _)).2 oO) (by first | exact rng_bdd hjb.drop.2 oO oO | exact rng_bdd hjb.pick.2 oO oO | exact rng_bdd hjb.am.2 oO oO)) (fun v_q27 C_q27 q27 => ⟨tt0, ?_⟩))
   obtain ⟨u26, rfl, rfl⟩ := q27
   show SR _ _ _ _ _ _ _ _ _ ⟨_, _ :: _, _, _⟩
   refine SR.m 12 U U U U ?_
   refine SR.z 13 U U (ev_ext U U U) ?_
   refine SR.z 14 U U (ev_ext U U U) ?_
   refine SR.z 15 U U (ev_as U U) ?_
   refine SR.fin kR hl_25 hx_25 hR_25 (.c .n) ?_
   refine SQ.go idQ ?_
   refine .know (row_len 0 U) (fun hv30 => ?_)
   obtain ⟨A28, c29, rfl, hv30_1, hv30_2⟩ := hv30
   unfold maxLen at hv30_2
   refine SC.mbT .h ?_
   have hSt := lOk_St (x := gt all i) hL q_3 (k := 100000000 + 2000000 * (i + 1)) oO
   rw [loadSt_3 hsp oO] at hSt
   simp only [dropV, pickV, amV] at hSt
   refine .region (.v (ev_add U U U (r := (i + 1)) U oO oO) U (.m U U U ?_))
   exact SP.nil (SQ.roundb (X := Int × Bool × (Option Addr) × Nat × (List Int)) (x := (i, own, nA, nc, a)) ⟨(i + 1), true, A28, c29, (subL a ((gt p.ships ((gt all i).item)).am))⟩ (by exact ⟨by omega, by omega, (by have hq := q_2; rw [drop_gt (x := i) oO oO, abF_cons, if_pos hbt, loadSt_3 (hO.mem _ hgi) oO] at hq; exact hq), hSt, (fun h_ => by cases h_)⟩) dO (Sub.get (.c4 U U U U (.c U (.c U (.c U .n))))) (fun w hw => hw.keep (.c .h (.c (.t (.t .h)) .n))))
  refine .skipgo idQ ?_
  exfalso; omega
 refine .exit idQ ?_
 refine .seq ?_
 obtain rfl : a = (abF p dn all 0 fst) := by have hq := q_2; rw [drop_end oO] at hq; exact hq
 refine .region (.m U U U (.a U U U (.go idQ ?_)))
 exact .ret idQ (ret1 Try.results61 U (.c (.t .h) (.c .h .n)) ⟨own, nA, nc, q_4, (by have h_ := q_3.1; have hd_ := hL.dims; omega), U, U⟩)
theorem end_ (p : PB) (v : VH) (b : Nat) (aA : Option Addr) (ac : Nat) (all : List Vis) (fA : Option Addr) (fc : Nat) (fst : List Int) (mb_ : Nat) (B : VL) (c : Int) (dn : Int) (bk : Int) (pl : Int) (nw : Int) (cs : Int) (xv : VL) (S : Nat → Prop) (wf : World) (hA : Fr eVis S wf aA all) (hF : Fr eZ S wf fA fst) (hPB : PBF S wf p) (hVH : VHF S wf v) (hO : (CX.mk p v all fst).Ok) (hund : (CX.mk p v all fst).und dn) (hcs : 0 ≤ cs ∧ cs ≤ 1000000000000000) (hnw : 0 ≤ nw ∧ nw ≤ 2000000) (hwl : dn ≠ 0 → xv.wlA.isNone = false) (hn0 : 0 < all.length) :
  TR0 Try.prog 62 [.pointer (some ⟨b, 0, none⟩), .agg #[.int .i64 dn, .int .i64 bk, .int .i64 pl, .int .i64 nw, .int .i64 cs, .slice xv.wlA xv.vl.length xv.wlc]] [cel b [.int .i64 p.dims, .int .i64 p.tn, .slice p.ptA p.time.length p.ptc, .int .i64 p.dn, .slice p.pdA p.dist.length p.pdc, .slice p.pvA p.vehs.length p.pvc, .slice p.pjA p.jobs.length p.pjc, .slice p.psA p.ships.length p.psc, .int .i64 v.st, .int .i64 v.en, .slice v.vcA v.vcap.length v.vcc, .int .u64 v.vsk, .int .i64 v.lo, .int .i64 v.hi, .int .i64 v.fix, .int .i64 v.pt, .int .i64 v.pd, .int .i64 v.mt, .slice v.vbA v.brs.length v.vbc, .slice aA all.length ac, .slice fA fst.length fc, .map (some mb_), .slice B.wlA B.vl.length B.wlc, .int .i64 c] 102] S wf (fun v_ C_ => ∃ (B2 : VL) (c2 : Int), (∀ k, BLe B c k → BLe B2 c2 k) ∧ ((CX.mk p v all fst).EndK (RS.mk dn bk pl nw cs) → BLe B2 c2 ((CX.mk p v all fst).endc (RS.mk dn bk pl nw cs))) ∧ ((B2 = B ∧ c2 = c) ∨ ((CX.mk p v all fst).EndK (RS.mk dn bk pl nw cs) ∧ B2 = xv ∧ c2 = ((CX.mk p v all fst).endc (RS.mk dn bk pl nw cs)))) ∧ v_ = .tuple #[] ∧ C_ = [cel b [.int .i64 p.dims, .int .i64 p.tn, .slice p.ptA p.time.length p.ptc, .int .i64 p.dn, .slice p.pdA p.dist.length p.pdc, .slice p.pvA p.vehs.length p.pvc, .slice p.pjA p.jobs.length p.pjc, .slice p.psA p.ships.length p.psc, .int .i64 v.st, .int .i64 v.en, .slice v.vcA v.vcap.length v.vcc, .int .u64 v.vsk, .int .i64 v.lo, .int .i64 v.hi, .int .i64 v.fix, .int .i64 v.pt, .int .i64 v.pd, .int .i64 v.mt, .slice v.vbA v.brs.length v.vbc, .slice aA all.length ac, .slice fA fst.length fc, .map (some mb_), .slice B2.wlA B2.vl.length B2.wlc, .int .i64 c2] 102]) := by
 have hla := hA.len
 have hL : LawP p := hO.law
 have hV : VehOk p.dims p.tn v := hO.veh
 have hn12 : all.length ≤ 12 := hO.len
 have hpt := hV.pt
 have hpd := hV.pd
 have hlb := hVH.2.1.len
 have hct := cellF_rng (n := p.tn) (l := p.time) (f := pl) (t := v.en) hL.tc
 have hcd := cellF_rng (n := p.dn) (l := p.dist) (f := pl) (t := v.en) hL.dc
 have hfu := full_is hn12
 have hfr := full_rng hn12
 have hxw : (CX.mk p v all fst).EndK (RS.mk dn bk pl nw cs) → xv.wlA.isNone = false := fun e => hwl (by have := e.dn; have h2 := full_0 hn0; simp only at this; rw [this]; exact h2)
 refine TR.mk Try.func62 U Try.ntmps62 U U (fun w_ => ?_)
 refine .seq (.region (.cons (st_boxa U U U U U (fun b1 => (.go idQ (.seq ?_))))))
 refine SC.draw mo [] [] .n (fun _ _ _ => sc0) (fun wf_2 hl_2 hx_2 hR_2 => ?_)
 refine SR.m 0 U U U U ?_
 refine SR.z 1 U U (ev_nil U U) ?_
 refine SR.z 2 U U (ev_fa U fo102_0 U (r := 0) U) ?_
 refine SR.z 3 U U (ev_fa U fo29_1 U (r := 1) U) ?_
 refine SR.z 4 U U (ev_lda (cs := [.int .i64 p.tn, .slice p.ptA p.time.length p.ptc]) U U (At.d (At.lent hR_2 1 U U)) ty24) ?_
 refine SR.z 5 U U (ev_fa U fo112_0 U (r := 0) U) ?_
 refine SR.z 6 U U (ev_fa U fo110_2 U (r := 2) U) ?_
 refine SR.z 7 U U (ev_ld1 U ty3 U (At.d (At.lent hR_2 0 U U))) ?_
 refine SR.m 8 U U U U ?_
 refine SR.z 9 U U (ev_nil U U) ?_
 refine SR.z 10 U U (ev_fa U fo102_1 U (r := 8) U) ?_
 refine SR.z 11 U U (ev_fa U fo37_1 U (r := 9) U) ?_
 refine SR.z 12 U U (ev_ld1 U ty3 U (At.d (At.lent hR_2 1 U U))) ?_
 refine SR.m 14 U U U U ?_
 refine SR.z 15 U U (ev_nil U U) ?_
 refine SR.z 16 U U (ev_fa U fo102_0 U (r := 0) U) ?_
 refine SR.z 17 U U (ev_fa U fo29_2 U (r := 3) U) ?_
 refine SR.z 18 U U (ev_lda (cs := [.int .i64 p.dn, .slice p.pdA p.dist.length p.pdc]) U U (At.d (At.lent hR_2 1 U U)) ty24) ?_
 refine SR.z 19 U U (ev_fa U fo112_0 U (r := 0) U) ?_
 refine SR.z 20 U U (ev_fa U fo110_2 U (r := 2) U) ?_
 refine SR.z 21 U U (ev_ld1 U ty3 U (At.d (At.lent hR_2 0 U U))) ?_
 refine SR.m 22 U U U U ?_
 refine SR.z 23 U U (ev_nil U U) ?_
 refine SR.z 24 U U (ev_fa U fo102_1 U (r := 8) U) ?_
 refine SR.z 25 U U (ev_fa U fo37_1 U (r := 9) U) ?_
 refine SR.z 26 U U (ev_ld1 U ty3 U (At.d (At.lent hR_2 1 U U))) ?_
 refine SR.o 13 U (st_callk U U U U hbd80 U .n (cell_ p.tn p.ptA p.ptc p.time pl v.en _ _ (((hPB).ext hx_2).1) (by have := hL.tn; have := hL.dn; omega) (by first | exact hL.tlen | (rw [hL.dn]; exact hL.dlen))) ⟨tt0, ?_⟩)
 refine SR.o 27 U (st_callk U U U U hbd80 U .n (cell_ p.dn p.pdA p.pdc p.dist pl v.en _ _ (((hPB).ext hx_2).2.1) (by have := hL.tn; have := hL.dn; omega) (by first | exact hL.tlen | (rw [hL.dn]; exact hL.dlen))) ⟨tt0, ?_⟩)
 refine SR.z 28 U U (ev_as U U) ?_
 refine SR.z 29 U U (ev_as U U) ?_
 refine SR.fin kR hl_2 hx_2 hR_2 .n ?_
 refine SQ.go idQ ?_
 refine .seq (.seq ?_)
 refine SC.draw mo [] [] .n (fun _ _ _ => sc0) (fun wf_3 hl_3 hx_3 hR_3 => ?_)
 refine SR.z 0 U U (ev_fa U fo112_0 U (r := 0) U) ?_
 refine SR.z 1 U U (ev_fa U fo110_0 U (r := 0) U) ?_
 refine SR.z 2 U U (ev_ld1 U ty3 U (At.d (At.lent hR_3 0 U U))) ?_
 refine SR.m 3 U U U U ?_
 refine SR.z 4 U U (ev_nil U U) ?_
 refine SR.z 5 U U (ev_fa U fo102_2 U (r := 19) U) ?_
 refine SR.z 6 U U (ev_ld1 U ty58 U (At.d (At.lent hR_3 1 U U))) ?_
 refine SR.z 7 U U (ev_len U Try.underlying58 U) ?_
 refine SR.z 8 U U (ev_shl (r := (shlI 1 (all.length : Int))) U U U oO U) ?_
 refine SR.z 9 U U (ev_sub U U U (r := ((shlI 1 (all.length : Int)) - 1)) U oO oO) ?_
 refine SR.z 10 U U (ev_cmp U U U U) ?_
 refine SR.m 11 U U U U ?_
 refine SR.y 12 U U (fun _ => ev_fa U fo112_0 U (r := 0) U) ?_
 refine SR.y 13 U U (fun hb => ev_fa U fo110_1 (lkg U hb) (r := 1) U) ?_
 refine SR.y 14 U U (fun hb => ev_ld1 U ty3 (lkg U hb) (At.d (At.lent hR_3 0 U U))) ?_
 refine SR.y 15 U U (fun _ => ev_mv U U) ?_
 refine SR.y 16 U U (fun hb => ev_nil U (lkg U hb)) ?_
 refine SR.y 17 U U (fun hb => ev_fa U fo102_1 (lkg U hb) (r := 8) U) ?_
 refine SR.y 18 U U (fun hb => ev_fa U fo37_9 (lkg U hb) (r := 18) U) ?_
 refine SR.y 19 U U (fun hb => ev_ld1 U ty35 (lkg U hb) (At.d (At.lent hR_3 1 U U))) ?_
 refine SR.y 20 U U (fun hb => ev_len U Try.underlying35 (lkg U hb)) ?_
 refine SR.y 21 U U (fun hb => ev_cmp U (lkg U hb) (lkg U hb) U) ?_
 refine SR.z 22 U U (ev_or U U U U) ?_
 refine SR.m 23 U U U U ?_
 refine SR.y 24 U U (fun _ => ev_mv U U) ?_
 refine SR.y 25 U U (fun hb => ev_cmp U (lkg U hb) U U) ?_
 refine SR.z 26 U U (ev_or U U U U) ?_
 refine SR.m 27 U U U U ?_
 refine SR.y 28 U U (fun _ => ev_mv U U) ?_
 refine SR.y 29 U U (fun hb => ev_cmp U (lkg U hb) U U) ?_
 refine SR.z 30 U U (ev_or U U U U) ?_
 refine SR.m 31 U U U U ?_
 refine SR.y 32 U U (fun _ => ev_fa U fo112_1 U (r := 3) U) ?_
 refine SR.y 33 U U (fun hb => ev_ld1 U ty3 (lkg U hb) (At.d (At.lent hR_3 0 U U))) ?_
 refine SR.y 34 U U (fun _ => ev_mv U U) ?_
 refine SR.y 35 U U (fun hb => have hp := bF (bO (bO (bO bNE bNE) bD) bD) hb; ev_add U (lkg U hb) (lkg U hb) (r := (nw + (cellF p.tn p.time pl v.en))) U (by have _h := hp; omega) (by have _h := hp; omega)) ?_
 refine SR.y 36 U U (fun _ => ev_mv U U) ?_
 refine SR.y 37 U U (fun hb => ev_nil U (lkg U hb)) ?_
 refine SR.y 38 U U (fun hb => ev_fa U fo102_1 (lkg U hb) (r := 8) U) ?_
 refine SR.y 39 U U (fun hb => ev_fa U fo37_4 (lkg U hb) (r := 12) U) ?_
 refine SR.y 40 U U (fun hb => ev_fa U fo34_1 (lkg U hb) (r := 13) U) ?_
 refine SR.y 41 U U (fun hb => ev_ld1 U ty3 (lkg U hb) (At.d (At.lent hR_3 1 U U))) ?_
 refine SR.y 42 U U (fun hb => ev_cmp U (lkg U hb) (lkg U hb) U) ?_
 refine SR.z 43 U U (ev_or U U U U) ?_
 refine SR.fin kR hl_3 hx_3 hR_3 .n ?_
 refine SQ.go idQ ?_
 refine .condI U (bO (bO (bO (bO bNE bNE) bD) bD) bD) (fun h4 => ?_) (fun h4 => ?_)
 ·
  exact .ret idQ (ret0 Try.results62 (.c (.t .h) .n) ⟨B, c, (fun k h => h), (fun e => absurd e (endk_no hn12 h4)), (.inl ⟨U, U⟩), U, U⟩)
 refine .skipgo idQ (.seq ?_)
 have hE : (CX.mk p v all fst).EndK (RS.mk dn bk pl nw cs) := endk_of hn12 hund h4
 have hE2 : 0 ≤ cellF p.tn p.time pl v.en ∧ 0 ≤ cellF p.dn p.dist pl v.en := ⟨hE.tc, hE.dc⟩
 have hm1 := mulb (a := cellF p.tn p.time pl v.en) (b := v.pt) oO oO oO oO
 have hm2 := mulb (a := cellF p.dn p.dist pl v.en) (b := v.pd) oO oO oO oO
 refine SC.draw mo [] [] .n (fun _ _ _ => sc0) (fun wf_5 hl_5 hx_5 hR_5 => ?_)
 refine SR.z 0 U U (ev_fa U fo112_2 U (r := 4) U) ?_
 refine SR.z 1 U U (ev_ld1 U ty3 U (At.d (At.lent hR_5 0 U U))) ?_
 refine SR.m 2 U U U U ?_
 refine SR.m 3 U U U U ?_
 refine SR.z 4 U U (ev_nil U U) ?_
 refine SR.z 5 U U (ev_fa U fo102_1 U (r := 8) U) ?_
 refine SR.z 6 U U (ev_fa U fo37_6 U (r := 15) U) ?_
 refine SR.z 7 U U (ev_ld1 U ty3 U (At.d (At.lent hR_5 1 U U))) ?_
 refine SR.z 8 U U (ev_mul U U U (r := ((cellF p.tn p.time pl v.en) * v.pt)) U oO oO) ?_
 refine SR.z 9 U U (ev_add U U U (r := (cs + ((cellF p.tn p.time pl v.en) * v.pt))) U oO oO) ?_
 refine SR.m 10 U U U U ?_
 refine SR.m 11 U U U U ?_
 refine SR.z 12 U U (ev_nil U U) ?_
 refine SR.z 13 U U (ev_fa U fo102_1 U (r := 8) U) ?_
 refine SR.z 14 U U (ev_fa U fo37_7 U (r := 16) U) ?_
 refine SR.z 15 U U (ev_ld1 U ty3 U (At.d (At.lent hR_5 1 U U))) ?_
 refine SR.z 16 U U (ev_mul U U U (r := ((cellF p.dn p.dist pl v.en) * v.pd)) U oO oO) ?_
 refine SR.z 17 U U (ev_add U U U (r := ((cs + ((cellF p.tn p.time pl v.en) * v.pt)) + ((cellF p.dn p.dist pl v.en) * v.pd))) U oO oO) ?_
 refine SR.z 18 U U (ev_as U U) ?_
 refine SR.fin kR hl_5 hx_5 hR_5 .n ?_
 refine SQ.go idQ ?_
 refine .seq (.region (.m U U U (.v (ev_nil U U) U (.v (ev_fa U fo102_5 U (r := 22) U) U ?_))))
 refine .v (ev_ld1 U ty58 U (At.own1 1 U U)) U (.v (ev_nils U Try.underlying58 U U (by rfl)) U (.m U U U (.w (fun _ => ev_mv U U) U ?_)))
 refine .w (fun _ => ev_mv U U) U (.w (fun hb => ev_nil U (lkg U hb)) U (.w (fun hb => ev_fa U fo102_6 (lkg U hb) (r := 23) U) U (.w (fun hb => ev_ld1 U ty3 (lkg U hb) (At.own1 1 U U)) U ?_)))
 refine .w (fun hb => ev_cmp U (lkg U hb) (lkg U hb) U) U (.v (ev_or U U U U) U (.go idQ (.condI U (bO bV bD) (fun h6 => ?_) (fun h6 => ?_))))
 ·
  refine .region (.m U U U (.m U U U (.v (ev_fa U fo112_3 U (r := 5) U) U ?_)))
  refine .v (ev_ld1 U ty58 U (At.own1 0 U U)) U (.m U U U (.v (ev_nil U U) U (.v (ev_fa U fo102_5 U (r := 22) U) U ?_)))
  refine .cons (st_store1 U U U ty58 U U U (.t .h) (.t (.t (.t (.t (.t (.t (.t (.t (.t (.t (.t (.t (.t (.t (.t (.t (.t (.t (.t (.t (.t (.t .h)))))))))))))))))))))) ?_)
  refine .v (ev_nil U U) U (.v (ev_fa U fo102_6 U (r := 23) U) U (.cons (st_store1 U U U ty3 U U U .h (.t (.t (.t (.t (.t (.t (.t (.t (.t (.t (.t (.t (.t (.t (.t (.t (.t (.t (.t (.t (.t (.t (.t .h))))))))))))))))))))))) ?_)))
  exact SP.nil (end0 Try.results62 (.c .h .n) ⟨xv, ((CX.mk p v all fst).endc (RS.mk dn bk pl nw cs)), (end_take (hxw hE) h6), (fun e => ⟨hxw hE, Int.le_refl _⟩), (.inr ⟨hE, U, U⟩), U, U⟩)
 exact .skipq idQ (end0 Try.results62 (.c (.t .h) .n) ⟨B, c, (fun k h => h), (fun e => end_keep h6), (.inl ⟨U, U⟩), U, U⟩)
end Go.Proofs.Ytimhdimhdimbjaa.Sx
set_option maxRecDepth 20000
set_option maxHeartbeats 1000000
namespace Go.Proofs.Ytimhdimhdimbjaa.Sx.FEB
open Go Go.SX Go.Proofs FA FB FC FD FE FF FG FH FJ FK FL FP FQ FW FEA
theorem zf112 : (Try.prog.info? 112).bind (fun i => i.zero.map Value.cells) = some (List.toArray [.int .i64 0, .int .i64 0, .int .i64 0, .int .i64 0, .int .i64 0, .slice none 0 0]) := by kernel_rfl
theorem ty112 : ty Try.prog 112 = some (true, 6) := by kernel_rfl
theorem hbd44 : hasBody Try.prog 44 = true := by kernel_rfl
theorem eqIn110 (d : Nat) (x0 y0 : Int) (x1 y1 : Int) (x2 y2 : Int) (w : World) : (Op.equalIn (d + 3) 110 (.agg #[(.int .i64 x0), (.int .i64 x1), (.int .i64 x2)]) (.agg #[(.int .i64 y0), (.int .i64 y1), (.int .i64 y2)])).run Try.prog w = .ok ((x0 == y0) && ((x1 == y1) && (x2 == y2))) w := by
 rw [run_equalIn_struct w (d + 2) 110 _ _ kR kR]
 have hf : (Try.prog.fieldsOf 110).toList = [{ name := "done", type := 3, offset := 0, embedded := false, tag := "", pkgPath := "haulier/exact", byteOffset := 0 }, { name := "breaks", type := 3, offset := 1, embedded := false, tag := "", pkgPath := "haulier/exact", byteOffset := 8 }, { name := "place", type := 3, offset := 2, embedded := false, tag := "", pkgPath := "haulier/exact", byteOffset := 16 }] := by kernel_rfl
 rw [hf]
 have h3 : ∀ (x y : Int) (w : World), (Op.equalIn (d + 2) 3 (.int .i64 x) (.int .i64 y)).run Try.prog w = .ok (x == y) w := fun x y w => by
  simp [Op.equalIn, run_underlying Try.underlying3]
 have p0 : ∀ (x0 : Int) (x1 : Int) (x2 : Int) (w : World), (part 3 #[(.int .i64 x0), (.int .i64 x1), (.int .i64 x2)] 0).run Try.prog w = .ok (.int .i64 x0) w := fun _ _ _ _ => by kernel_rfl
 have p1 : ∀ (x0 : Int) (x1 : Int) (x2 : Int) (w : World), (part 3 #[(.int .i64 x0), (.int .i64 x1), (.int .i64 x2)] 1).run Try.prog w = .ok (.int .i64 x1) w := fun _ _ _ _ => by kernel_rfl
 have p2 : ∀ (x0 : Int) (x1 : Int) (x2 : Int) (w : World), (part 3 #[(.int .i64 x0), (.int .i64 x1), (.int .i64 x2)] 2).run Try.prog w = .ok (.int .i64 x2) w := fun _ _ _ _ => by kernel_rfl
 simp only [Op.eqFields, Sem.run_bind, h3, p0, p1, p2, Result.andThen_ok, Sem.run_ite, ne_eq]
 cases g0 : (x0 == y0) <;> cases g1 : (x1 == y1) <;> cases g2 : (x2 == y2) <;> simp [g0, g1, g2]
end Go.Proofs.Ytimhdimhdimbjaa.Sx.FEB
namespace Go.Proofs.Ytimhdimhdimbjaa.Sx
open Go Go.SX Go.Proofs FA FB FC FD FE FF FG FH FJ FK FL FP FQ FW FEA FEB
def keKY : KE Try.prog 110 KY := KE.ofStruct kyV kyV_inj Try.underlying110 (fun x y w => by
  have h : (Op.equal 110 (kyV x) (kyV y)).run Try.prog w = .ok ((x.kd == y.kd) && ((x.kb == y.kb) && (x.kp == y.kp))) w := eqIn110 9997 _ _ _ _ _ _ w
  rw [h]; congr 1; rw [Bool.eq_iff_iff]; simp only [Bool.and_eq_true, beq_iff_eq, decide_eq_true_eq]; exact ⟨fun e => by cases x; cases y; simp only at e; rw [e.1, e.2.1, e.2.2], fun e => by rw [e]; exact ⟨rfl, rfl, rfl⟩⟩)
 (fun w b x => by kernel_rfl) kyV_bits
theorem step_ (f : Nat) (p : PB) (v : VH) (b : Nat) (aA : Option Addr) (ac : Nat) (all : List Vis) (fA : Option Addr) (fc : Nat) (fst : List Int) (mb_ : Nat) (B : VL) (c : Int) (dn : Int) (bk : Int) (pl : Int) (nw : Int) (cs : Int) (xv : VL) (P : List VL) (M : List (KY × LB)) (F : Int) (t : Int) (i : Int) (S : Nat → Prop) (wf : World) (hA : Fr eVis S wf aA all) (hF : Fr eZ S wf fA fst) (hPB : PBF S wf p) (hVH : VHF S wf v) (hO : (CX.mk p v all fst).Ok) (hf : F < (f : Int) + 1) (hI : SrI (CX.mk p v all fst) (F - 1) M B c P) (hx : XI (CX.mk p v all fst) F (RS.mk dn bk pl nw cs) xv) (hund : (CX.mk p v all fst).und dn) (hm : xv ∈ P) (hbd : ∀ κ, ((lbs M κ).length : Int) ≤ t) (ht : t + tp (F - 1) ≤ 1000000000000) (hn0 : 0 < all.length ∧ all.length ≤ 8) (hfo : lOk p 100000000 fst) (hi : 0 ≤ i ∧ i < (all.length : Int)) (hb1 : bt dn i = false) (hb2 : (gt all i).kind = 3 → bt dn (i - 1) = true) (hG : ∀ (p : PB) (v : VH) (b : Nat) (aA : Option Addr) (ac : Nat) (all : List Vis) (fA : Option Addr) (fc : Nat) (fst : List Int) (mb_ : Nat) (B : VL) (c : Int) (dn : Int) (bk : Int) (pl : Int) (nw : Int) (cs : Int) (xv : VL) (P : List VL) (M : List (KY × LB)) (F : Int) (t : Int) (S : Nat → Prop) (wf : World) (hA : Fr eVis S wf aA all) (hF : Fr eZ S wf fA fst) (hPB : PBF S wf p) (hVH : VHF S wf v) (hO : (CX.mk p v all fst).Ok) (hF0 : 0 ≤ F) (hf : F < f) (hI : SrI (CX.mk p v all fst) F M B c P) (hx : XI (CX.mk p v all fst) F (RS.mk dn bk pl nw cs) xv) (hm : xv ∈ P) (hbd : ∀ κ, ((lbs M κ).length : Int) ≤ t) (ht : t + tp F ≤ 1000000000000) (hn0 : 0 < all.length ∧ all.length ≤ 8) (hfo : lOk p 100000000 fst),
  TR0 Try.prog 44 [.pointer (some ⟨b, 0, none⟩), .agg #[.int .i64 dn, .int .i64 bk, .int .i64 pl, .int .i64 nw, .int .i64 cs, .slice xv.wlA xv.vl.length xv.wlc]] [cel b [.int .i64 p.dims, .int .i64 p.tn, .slice p.ptA p.time.length p.ptc, .int .i64 p.dn, .slice p.pdA p.dist.length p.pdc, .slice p.pvA p.vehs.length p.pvc, .slice p.pjA p.jobs.length p.pjc, .slice p.psA p.ships.length p.psc, .int .i64 v.st, .int .i64 v.en, .slice v.vcA v.vcap.length v.vcc, .int .u64 v.vsk, .int .i64 v.lo, .int .i64 v.hi, .int .i64 v.fix, .int .i64 v.pt, .int .i64 v.pd, .int .i64 v.mt, .slice v.vbA v.brs.length v.vbc, .slice aA all.length ac, .slice fA fst.length fc, .map (some mb_), .slice B.wlA B.vl.length B.wlc, .int .i64 c] 102, mp keKY.f lbV mb_ M, nestLB 112 M, nestVL 83 P] S wf (fun v_ C_ => ∃ (M2 : List (KY × LB)) (B2 : VL) (c2 : Int) (P2 : List VL), (SrI (CX.mk p v all fst) F M2 B2 c2 P2) ∧ (SrS (CX.mk p v all fst) F M B c P M2 B2 c2 P2 (tp F)) ∧ (∀ k, CX.Fin (CX.mk p v all fst) (RS.mk dn bk pl nw cs) k → BLe B2 c2 k) ∧ v_ = .tuple #[] ∧ C_ = [cel b [.int .i64 p.dims, .int .i64 p.tn, .slice p.ptA p.time.length p.ptc, .int .i64 p.dn, .slice p.pdA p.dist.length p.pdc, .slice p.pvA p.vehs.length p.pvc, .slice p.pjA p.jobs.length p.pjc, .slice p.psA p.ships.length p.psc, .int .i64 v.st, .int .i64 v.en, .slice v.vcA v.vcap.length v.vcc, .int .u64 v.vsk, .int .i64 v.lo, .int .i64 v.hi, .int .i64 v.fix, .int .i64 v.pt, .int .i64 v.pd, .int .i64 v.mt, .slice v.vbA v.brs.length v.vbc, .slice aA all.length ac, .slice fA fst.length fc, .map (some mb_), .slice B2.wlA B2.vl.length B2.wlc, .int .i64 c2] 102, mp keKY.f lbV mb_ M2, nestLB 112 M2, nestVL 83 P2])) :
  TR0 Try.prog 64 [.pointer (some ⟨b, 0, none⟩), .agg #[.int .i64 dn, .int .i64 bk, .int .i64 pl, .int .i64 nw, .int .i64 cs, .slice xv.wlA xv.vl.length xv.wlc], .int .i64 i, .agg #[.int .i64 ((gt all i).kind), .int .i64 ((gt all i).item)]] [cel b [.int .i64 p.dims, .int .i64 p.tn, .slice p.ptA p.time.length p.ptc, .int .i64 p.dn, .slice p.pdA p.dist.length p.pdc, .slice p.pvA p.vehs.length p.pvc, .slice p.pjA p.jobs.length p.pjc, .slice p.psA p.ships.length p.psc, .int .i64 v.st, .int .i64 v.en, .slice v.vcA v.vcap.length v.vcc, .int .u64 v.vsk, .int .i64 v.lo, .int .i64 v.hi, .int .i64 v.fix, .int .i64 v.pt, .int .i64 v.pd, .int .i64 v.mt, .slice v.vbA v.brs.length v.vbc, .slice aA all.length ac, .slice fA fst.length fc, .map (some mb_), .slice B.wlA B.vl.length B.wlc, .int .i64 c] 102, mp keKY.f lbV mb_ M, nestLB 112 M, nestVL 83 P] S wf (fun v_ C_ => ∃ (M2 : List (KY × LB)) (B2 : VL) (c2 : Int) (P2 : List VL), (SrI (CX.mk p v all fst) (F - 1) M2 B2 c2 P2) ∧ (SrS (CX.mk p v all fst) (F - 1) M B c P M2 B2 c2 P2 (tp (F - 1))) ∧ ((CX.mk p v all fst).visOk (RS.mk dn bk pl nw cs) i → ∀ k, CX.Fin (CX.mk p v all fst) ((CX.mk p v all fst).vis (RS.mk dn bk pl nw cs) i) k → BLe B2 c2 k) ∧ v_ = .tuple #[] ∧ C_ = [cel b [.int .i64 p.dims, .int .i64 p.tn, .slice p.ptA p.time.length p.ptc, .int .i64 p.dn, .slice p.pdA p.dist.length p.pdc, .slice p.pvA p.vehs.length p.pvc, .slice p.pjA p.jobs.length p.pjc, .slice p.psA p.ships.length p.psc, .int .i64 v.st, .int .i64 v.en, .slice v.vcA v.vcap.length v.vcc, .int .u64 v.vsk, .int .i64 v.lo, .int .i64 v.hi, .int .i64 v.fix, .int .i64 v.pt, .int .i64 v.pd, .int .i64 v.mt, .slice v.vbA v.brs.length v.vbc, .slice aA all.length ac, .slice fA fst.length fc, .map (some mb_), .slice B2.wlA B2.vl.length B2.wlc, .int .i64 c2] 102, mp keKY.f lbV mb_ M2, nestLB 112 M2, nestVL 83 P2]) := by
 have hla := hA.len
 have hL : LawP p := hO.law
 have hV : VehOk p.dims p.tn v := hO.veh
 have hn12 : all.length ≤ 12 := hO.len
 have hpt := hV.pt
 have hpd := hV.pd
 have hlb := hVH.2.1.len
 have hcs : 0 ≤ cs ∧ cs ≤ 64000000000000 * (12 - F) := hx.cs
 have hnw : 0 ≤ nw ∧ nw ≤ 2000000 := hx.nw
 have hbk : 0 ≤ bk ∧ bk ≤ (v.brs.length : Int) := hx.bk
 have hdn : 0 ≤ dn ∧ dn < 4096 := ⟨hx.dn.1, by have h_ := hx.dn.2; have h2_ := pow_le8 hn12; have h3_ : dn < ((2 ^ all.length : Nat) : Int) := h_; omega⟩
 have hvl := hx.vl
 have hf0 := hx.f0
 refine TR.mk Try.func64 U Try.ntmps64 U U (fun w_ => ?_)
 refine .seq (.region (.cons (st_boxa U U U U U (fun b1 => (.cons (st_boxa U U U U U (fun b2 => (.go idQ (.seq ?_)))))))))
 refine SC.draw mo [] [] .n (fun _ _ _ => sc0) (fun wf_3 hl_3 hx_3 hR_3 => ?_)
 refine SR.cutx (X := Nat × (Option Addr) × Nat) (fun (yb4, yA5, yc6) => ([(0, .pointer (some ⟨b, 0, none⟩)), (2, .int .i64 i), (5, .pointer (some ⟨b1, 0, none⟩)), (7, .pointer (some ⟨b2, 0, none⟩)), (8, .pointer (some ⟨yb4, 0, none⟩))], [cel yb4 [.int .i64 ((stopD p (gt all i)).pl), .int .i64 ((stopD p (gt all i)).srv), .slice yA5 (((stopD p (gt all i)).sws).length) yc6] 51, rw_ eWN 34 (.slice yA5 (((stopD p (gt all i)).sws).length) yc6) ((stopD p (gt all i)).sws), cel b2 [.int .i64 ((gt all i).kind), .int .i64 ((gt all i).item)] 83, cel b1 [.int .i64 dn, .int .i64 bk, .int .i64 pl, .int .i64 nw, .int .i64 cs, .slice xv.wlA xv.vl.length xv.wlc] 112, cel b [.int .i64 p.dims, .int .i64 p.tn, .slice p.ptA p.time.length p.ptc, .int .i64 p.dn, .slice p.pdA p.dist.length p.pdc, .slice p.pvA p.vehs.length p.pvc, .slice p.pjA p.jobs.length p.pjc, .slice p.psA p.ships.length p.psc, .int .i64 v.st, .int .i64 v.en, .slice v.vcA v.vcap.length v.vcc, .int .u64 v.vsk, .int .i64 v.lo, .int .i64 v.hi, .int .i64 v.fix, .int .i64 v.pt, .int .i64 v.pd, .int .i64 v.mt, .slice v.vbA v.brs.length v.vbc, .slice aA all.length ac, .slice fA fst.length fc, .map (some mb_), .slice B.wlA B.vl.length B.wlc, .int .i64 c] 102, mp keKY.f lbV mb_ M, nestLB 112 M, nestVL 83 P])) S wf (fun ⟨yb4, yA5, yc6⟩ => ?_) (fun key7 => ?_)
 ·
  try dsimp only
  refine SQ.go idQ ?_
  refine .seq ?_
  have hct := cellF_rng (n := p.tn) (l := p.time) (f := pl) (t := (stopD p (gt all i)).pl) hL.tc
  have hcd := cellF_rng (n := p.dn) (l := p.dist) (f := pl) (t := (stopD p (gt all i)).pl) hL.dc
  have hsr := stopD_rng hL (gt all i)
  have hws := stop_ws hL (gt all i)
  refine SC.draw mo [] [] .n (fun _ _ _ => sc0) (fun wf_8 hl_8 hx_8 hR_8 => ?_)
  refine SR.m 0 U U U U ?_
  refine SR.z 1 U U (ev_nil U U) ?_
  refine SR.z 2 U U (ev_fa U fo102_0 U (r := 0) U) ?_
  refine SR.z 3 U U (ev_fa U fo29_1 U (r := 1) U) ?_
  refine SR.z 4 U U (ev_lda (cs := [.int .i64 p.tn, .slice p.ptA p.time.length p.ptc]) U U (At.d (At.lent hR_8 4 U U)) ty24) ?_
  refine SR.z 5 U U (ev_fa U fo112_0 U (r := 0) U) ?_
  refine SR.z 6 U U (ev_fa U fo110_2 U (r := 2) U) ?_
  refine SR.z 7 U U (ev_ld1 U ty3 U (At.d (At.lent hR_8 3 U U))) ?_
  refine SR.z 8 U U (ev_fa U fo51_0 U (r := 0) U) ?_
  refine SR.z 9 U U (ev_ld1 U ty3 U (At.d (At.lent hR_8 0 U U))) ?_
  refine SR.m 11 U U U U ?_
  refine SR.z 12 U U (ev_nil U U) ?_
  refine SR.z 13 U U (ev_fa U fo102_0 U (r := 0) U) ?_
  refine SR.z 14 U U (ev_fa U fo29_2 U (r := 3) U) ?_
  refine SR.z 15 U U (ev_lda (cs := [.int .i64 p.dn, .slice p.pdA p.dist.length p.pdc]) U U (At.d (At.lent hR_8 4 U U)) ty24) ?_
  refine SR.z 16 U U (ev_fa U fo112_0 U (r := 0) U) ?_
  refine SR.z 17 U U (ev_fa U fo110_2 U (r := 2) U) ?_
  refine SR.z 18 U U (ev_ld1 U ty3 U (At.d (At.lent hR_8 3 U U))) ?_
  refine SR.z 19 U U (ev_fa U fo51_0 U (r := 0) U) ?_
  refine SR.z 20 U U (ev_ld1 U ty3 U (At.d (At.lent hR_8 0 U U))) ?_
  refine SR.o 10 U (st_callk U U U U hbd80 U .n (cell_ p.tn p.ptA p.ptc p.time pl ((stopD p (gt all i)).pl) _ _ (((hPB).ext hx_8).1) (by have := hL.tn; have := hL.dn; omega) (by first | exact hL.tlen | (rw [hL.dn]; exact hL.dlen))) ⟨tt0, ?_⟩)
  refine SR.o 21 U (st_callk U U U U hbd80 U .n (cell_ p.dn p.pdA p.pdc p.dist pl ((stopD p (gt all i)).pl) _ _ (((hPB).ext hx_8).2.1) (by have := hL.tn; have := hL.dn; omega) (by first | exact hL.tlen | (rw [hL.dn]; exact hL.dlen))) ⟨tt0, ?_⟩)
  refine SR.z 22 U U (ev_as U U) ?_
  refine SR.z 23 U U (ev_as U U) ?_
  refine SR.fin kR hl_8 hx_8 hR_8 .n ?_
  refine SQ.go idQ ?_
  refine .seq (.region (.v (ev_fa U fo51_2 U (r := 2) U) U (.v (ev_ld1 U ty49 U (At.own1 0 U U)) U (.v (ev_fa U fo112_1 U (r := 3) U) U ?_))))
  refine .v (ev_ld1 U ty3 U (At.own1 3 U U)) U (.m U U U (.v (ev_add U U U (r := (nw + (cellF p.tn p.time pl ((stopD p (gt all i)).pl)))) U oO oO) U (.cons (st_lendk U U U U hbd63 U .n (.c (.t .h) .n) (fun w_ hw => hstart yA5 yc6 ((stopD p (gt all i)).sws) (nw + (cellF p.tn p.time pl ((stopD p (gt all i)).pl))) _ _ (Fr.lend hw 0 U lO)) ?_))))
  refine .m U U U (.v (ev_ext U U U) U (.v (ev_ext U U U) U (.a U U U ?_)))
  refine .a U U U (.go idQ (.seq (.seq (.region (.m U U U (.v (ev_cmp U U U U) U ?_))))))
  refine .m U U U (.w (fun _ => ev_mv U U) U (.w (fun hb => ev_cmp U (lkg U hb) U U) U (.v (ev_or U U U U) U ?_)))
  refine .m U U U (.w (fun _ => ev_mv U U) U (.w (fun hb => ev_not U (lkg U hb)) U (.v (ev_or U U U U) U ?_)))
  refine .go idQ (.condI U (bO (bO bD bD) (bN bV)) (fun h9 => ?_) (fun h9 => ?_))
  ·
   exact .ret idQ (ret0 Try.results64 (.c (.t (.t (.t (.t .h)))) (.c (.t (.t (.t (.t .h)))) (.c (.t (.t (.t (.t .h)))) (.c (.t (.t (.t (.t .h)))) .n)))) ⟨M, B, c, P, hI, (SrS.refl.wk (Int.le_refl _) tp_0), (fun o => absurd o (visO_no h9)), U, U⟩)
  refine .skipgo idQ (.seq ?_)
  have hvo : (CX.mk p v all fst).visOk (RS.mk dn bk pl nw cs) i := visO_yes hb1 hb2 h9
  have hvo2 : 0 ≤ cellF p.tn p.time pl (stopD p (gt all i)).pl ∧ 0 ≤ cellF p.dn p.dist pl (stopD p (gt all i)).pl := ⟨hvo.2.2.1, hvo.2.2.2.1⟩
  have hst_ := startF_rng (stop_ok hL (hO.mem _ (gt_in hi.1 hi.2))).win.each hvo.2.2.2.2
  have hst : 0 ≤ (startF (stopD p (gt all i)).sws (nw + cellF p.tn p.time pl (stopD p (gt all i)).pl)).1 ∧ (startF (stopD p (gt all i)).sws (nw + cellF p.tn p.time pl (stopD p (gt all i)).pl)).1 ≤ 1000000 := ⟨hst_.1, hst_.2.1⟩
  have hm1 := mulb (a := cellF p.tn p.time pl (stopD p (gt all i)).pl) (b := v.pt) oO oO oO oO
  have hm2 := mulb (a := cellF p.dn p.dist pl (stopD p (gt all i)).pl) (b := v.pd) oO oO oO oO
  have hset : bor .i64 dn (shlI 1 i) = setb dn i := or_set hdn.1 oO hi.1 oO
  refine SC.draw mo [] [] .n (fun _ _ _ => sc0) (fun wf_10 hl_10 hx_10 hR_10 => ?_)
  refine SR.z 0 U U (ev_fa U fo112_0 U (r := 0) U) ?_
  refine SR.z 1 U U (ev_fa U fo110_0 U (r := 0) U) ?_
  refine SR.z 2 U U (ev_ld1 U ty3 U (At.d (At.lent hR_10 3 U U))) ?_
  refine SR.m 3 U U U U ?_
  refine SR.z 4 U U (ev_shl (r := (shlI 1 i)) U U U oO U) ?_
  refine SR.z 5 U U (ev_bor U U U) ?_
  refine SR.z 6 U U (ev_fa U fo112_0 U (r := 0) U) ?_
  refine SR.z 7 U U (ev_fa U fo110_1 U (r := 1) U) ?_
  refine SR.z 8 U U (ev_ld1 U ty3 U (At.d (At.lent hR_10 3 U U))) ?_
  refine SR.z 9 U U (ev_fa U fo51_0 U (r := 0) U) ?_
  refine SR.z 10 U U (ev_ld1 U ty3 U (At.d (At.lent hR_10 0 U U))) ?_
  refine SR.z 11 U U (ev_any (v := .agg #[.int .i64 (bor .i64 dn (shlI 1 i)), .int .i64 bk, .int .i64 ((stopD p (gt all i)).pl)]) U kR (fun _ => by kernel_rfl)) ?_
  refine SR.m 12 U U U U ?_
  refine SR.z 13 U U (ev_fa U fo51_1 U (r := 1) U) ?_
  refine SR.z 14 U U (ev_ld1 U ty3 U (At.d (At.lent hR_10 0 U U))) ?_
  refine SR.z 15 U U (ev_add U U U (r := (((startF ((stopD p (gt all i)).sws) (nw + (cellF p.tn p.time pl ((stopD p (gt all i)).pl)))).1) + ((stopD p (gt all i)).srv))) U oO oO) ?_
  refine SR.z 16 U U (ev_any (v := .agg #[.int .i64 (bor .i64 dn (shlI 1 i)), .int .i64 bk, .int .i64 ((stopD p (gt all i)).pl), .int .i64 (((startF ((stopD p (gt all i)).sws) (nw + (cellF p.tn p.time pl ((stopD p (gt all i)).pl)))).1) + ((stopD p (gt all i)).srv)), .int .i64 0, .slice none 0 0]) U kR (fun _ => by kernel_rfl)) ?_
  refine SR.o 17 U (st_alloc U U U U zf112 (fun b11 => ⟨tt0, ?_⟩))
  refine SR.o 18 U (st_storea (l' := [.int .i64 (bor .i64 dn (shlI 1 i)), .int .i64 bk, .int .i64 ((stopD p (gt all i)).pl), .int .i64 (((startF ((stopD p (gt all i)).sws) (nw + (cellF p.tn p.time pl ((stopD p (gt all i)).pl)))).1) + ((stopD p (gt all i)).srv)), .int .i64 0, .slice none 0 0]) U U U ty112 U U U .h U U ⟨tt0, ?_⟩)
  refine SR.fin kR hl_10 hx_10 hR_10 (.c .n) ?_
  refine SQ.go idQ ?_
  refine .seq ?_
  refine SC.draw mo [cel b11 [.int .i64 (bor .i64 dn (shlI 1 i)), .int .i64 bk, .int .i64 ((stopD p (gt all i)).pl), .int .i64 (((startF ((stopD p (gt all i)).sws) (nw + (cellF p.tn p.time pl ((stopD p (gt all i)).pl)))).1) + ((stopD p (gt all i)).srv)), .int .i64 0, .slice none 0 0] 112] [] (.c .h .n) (fun _ _ _ => sc0) (fun wf_12 hl_12 hx_12 hR_12 => ?_)
  refine SR.z 0 U U (ev_fa U fo112_2 U (r := 4) U) ?_
  refine SR.z 1 U U (ev_ld1 U ty3 U (At.d (At.lent hR_12 3 U U))) ?_
  refine SR.m 2 U U U U ?_
  refine SR.m 3 U U U U ?_
  refine SR.z 4 U U (ev_nil U U) ?_
  refine SR.z 5 U U (ev_fa U fo102_1 U (r := 8) U) ?_
  refine SR.z 6 U U (ev_fa U fo37_6 U (r := 15) U) ?_
  refine SR.z 7 U U (ev_ld1 U ty3 U (At.d (At.lent hR_12 4 U U))) ?_
  refine SR.z 8 U U (ev_mul U U U (r := ((cellF p.tn p.time pl ((stopD p (gt all i)).pl)) * v.pt)) U (by have hm_ := mulb (a := (cellF p.tn p.time pl ((stopD p (gt all i)).pl))) (b := v.pt) oO oO oO oO; omega) (by have hm_ := mulb (a := (cellF p.tn p.time pl ((stopD p (gt all i)).pl))) (b := v.pt) oO oO oO oO; omega)) ?_
  refine SR.z 9 U U (ev_add U U U (r := (cs + ((cellF p.tn p.time pl ((stopD p (gt all i)).pl)) * v.pt))) U oO oO) ?_
  refine SR.m 10 U U U U ?_
  refine SR.m 11 U U U U ?_
  refine SR.z 12 U U (ev_nil U U) ?_
  refine SR.z 13 U U (ev_fa U fo102_1 U (r := 8) U) ?_
  refine SR.z 14 U U (ev_fa U fo37_7 U (r := 16) U) ?_
  refine SR.z 15 U U (ev_ld1 U ty3 U (At.d (At.lent hR_12 4 U U))) ?_
  refine SR.z 16 U U (ev_mul U U U (r := ((cellF p.dn p.dist pl ((stopD p (gt all i)).pl)) * v.pd)) U (by have hm_ := mulb (a := (cellF p.dn p.dist pl ((stopD p (gt all i)).pl))) (b := v.pd) oO oO oO oO; omega) (by have hm_ := mulb (a := (cellF p.dn p.dist pl ((stopD p (gt all i)).pl))) (b := v.pd) oO oO oO oO; omega)) ?_
  refine SR.z 17 U U (ev_add U U U (r := ((cs + ((cellF p.tn p.time pl ((stopD p (gt all i)).pl)) * v.pt)) + ((cellF p.dn p.dist pl ((stopD p (gt all i)).pl)) * v.pd))) U oO oO) ?_
  refine SR.z 18 U U (ev_fa U fo112_2 U (r := 4) U) ?_
  refine SR.o 19 U (st_store1 U U U ty3 U U U .h (.t (.t (.t (.t .h)))) ⟨tt0, ?_⟩)
  refine SR.fin kR hl_12 hx_12 hR_12 (.c .n) ?_
  refine SQ.go idQ ?_
  refine .seq ?_
  refine SC.draw mo [cel b11 [.int .i64 (bor .i64 dn (shlI 1 i)), .int .i64 bk, .int .i64 ((stopD p (gt all i)).pl), .int .i64 (((startF ((stopD p (gt all i)).sws) (nw + (cellF p.tn p.time pl ((stopD p (gt all i)).pl)))).1) + ((stopD p (gt all i)).srv)), .int .i64 ((cs + ((cellF p.tn p.time pl ((stopD p (gt all i)).pl)) * v.pt)) + ((cellF p.dn p.dist pl ((stopD p (gt all i)).pl)) * v.pd)), .slice none 0 0] 112] [] (.c .h .n) (fun _ _ _ => sc0) (fun wf_13 hl_13 hx_13 hR_13 => ?_)
  refine SR.z 1 U U (ev_fa U fo112_3 U (r := 5) U) ?_
  refine SR.z 2 U U (ev_ld1 U ty58 U (At.d (At.lent hR_13 3 U U))) ?_
  refine SR.z 4 U U (ev_lda (cs := [.int .i64 ((gt all i).kind), .int .i64 ((gt all i).item)]) U U (At.d (At.lent hR_13 2 U U)) ty83) ?_
  refine SR.two (i := 0) (j := 5) kR ⟨_, U, ?_⟩ ⟨_, U, ?_⟩
  ·
   refine st_lit eVis (e := 83) (l := []) U U U U kR U U kW (fun b14 => ⟨tt0, ?_⟩)
   refine SR.two (i := 3) (j := 5) kR ⟨_, U, ?_⟩ ⟨_, U, ?_⟩
   ·
    refine st_app0 (E := eVis) (m := xv.vl) U U U U Try.underlying58 ai83 U U U .h rO (Src.w (Fr.flat (VLF.mem (VLF.lent (S := S) hR_13 7 U) hm))) lO U (fun v15 => ⟨tt0, ?_⟩)
    refine SR.o 5 U (st_lit eVis (e := 83) (l := [(gt all i)]) U U U U kR U U kW (fun b16 => ⟨tt0, ?_⟩))
    refine SR.o 6 U (st_app (E := eVis) (m := [(gt all i)]) U U U U Try.underlying58 ai83 U U U (.t .h) rO (row_src 0 U) lO U (fun v17 => ⟨tt0, ?_⟩))
    refine SR.z 7 U U (ev_fa U fo112_3 U (r := 5) U) ?_
    refine .know (row_len 0 U) (fun hv20 => ?_)
    obtain ⟨A18, c19, rfl, hv20_1, hv20_2⟩ := hv20
    unfold maxLen at hv20_2
    refine SR.o 8 U (st_store1 U U U ty58 U U U (.t (.t .h)) (.t (.t (.t (.t (.t .h))))) ⟨tt0, ?_⟩)
    refine SR.fin kR hl_13 hx_13 hR_13 (.c (.c (.c .n))) ?_
    refine SQ.go idQ ?_
    refine .know (row_form 1 U (by simp)) (fun hv23 => ?_)
    obtain ⟨g21, c22, hv23, hv23_1, hv23_2⟩ := hv23
    injection hv23 with eA _ _; subst eA
    refine SC.packVL (VL.mk (xv.vl ++ [(gt all i)]) (some ⟨g21, 0, none⟩) c19) (.c (.t (.t (.t (.t (.t (.t (.t (.t (.t (.t .h)))))))))) (.c (.t .h) .n)) (by (try simp only [List.length_append, List.length_singleton]); omega) ?_
    have hxw : XI (CX.mk p v all fst) (F - 1) (RS.mk (bor .i64 dn (shlI 1 i)) bk (stopD p (gt all i)).pl ((startF (stopD p (gt all i)).sws (nw + cellF p.tn p.time pl (stopD p (gt all i)).pl)).1 + (stopD p (gt all i)).srv) (cs + cellF p.tn p.time pl (stopD p (gt all i)).pl * v.pt + cellF p.dn p.dist pl (stopD p (gt all i)).pl * v.pd)) (VL.mk (xv.vl ++ [(gt all i)]) (some ⟨g21, 0, none⟩) c19) := by rw [hset]; exact XI.vis hO hx hund hi.1 hi.2 hvo rfl rfl
    have hf1 := hxw.f0
    refine .region (.m U U U (.v (ev_lda U U (At.whole 1 U) ty112) U (.cons (st_call0 U U U U hbd44 U (.c (.t (.t (.t (.t (.t (.t (.t .h))))))) (.c (.t (.t (.t (.t (.t (.t (.t .h))))))) (.c (.t (.t (.t (.t (.t (.t (.t .h))))))) (.c .h .n)))) (hG p v b aA ac all fA fc fst mb_ B c (bor .i64 dn (shlI 1 i)) bk ((stopD p (gt all i)).pl) (((startF ((stopD p (gt all i)).sws) (nw + (cellF p.tn p.time pl ((stopD p (gt all i)).pl)))).1) + ((stopD p (gt all i)).srv)) ((cs + ((cellF p.tn p.time pl ((stopD p (gt all i)).pl)) * v.pt)) + ((cellF p.dn p.dist pl ((stopD p (gt all i)).pl)) * v.pd)) (VL.mk (xv.vl ++ [(gt all i)]) (some ⟨g21, 0, none⟩) c19) (P ++ [(VL.mk (xv.vl ++ [(gt all i)]) (some ⟨g21, 0, none⟩) c19)]) M (F - 1) t _ _ hA hF hPB hVH hO hf1 oO (hI.pool (fun _ hv_ => List.mem_append_left _ hv_)) hxw (List.mem_append_right _ (List.mem_singleton.2 U)) hbd ht hn0 hfo) (fun v_q28 C_q28 q28 => ?_)))))
    obtain ⟨M224, B225, c226, P227, p29, p30, p31, rfl, rfl⟩ := q28
    show SP _ _ _ _ _ _ ⟨_, _ :: _ :: _ :: _ :: _, _, _⟩
    exact SP.nil (end0 Try.results64 (.c .h (.c .h (.c .h (.c .h .n)))) ⟨M224, B225, c226, P227, p29, (SrS.pool p30 (fun _ hv_ => List.mem_append_left _ hv_)), (fun _ => by have h_ := p31; rw [hset] at h_; exact h_), U, U⟩)
   refine st_lit eVis (e := 83) (l := [(gt all i)]) U U U U kR U U kW (fun b32 => ⟨tt0, ?_⟩)
   refine SR.o 3 U (st_app0 (E := eVis) (m := xv.vl) U U U U Try.underlying58 ai83 U U U (.t .h) rO (Src.w (Fr.flat (VLF.mem (VLF.lent (S := S) hR_13 7 U) hm))) lO U (fun v33 => ⟨tt0, ?_⟩))
   refine SR.o 6 U (st_app (E := eVis) (m := [(gt all i)]) U U U U Try.underlying58 ai83 U U U .h rO (row_src 1 U) lO U (fun v34 => ⟨tt0, ?_⟩))
   refine SR.z 7 U U (ev_fa U fo112_3 U (r := 5) U) ?_
   refine .know (row_len 0 U) (fun hv37 => ?_)
   obtain ⟨A35, c36, rfl, hv37_1, hv37_2⟩ := hv37
   unfold maxLen at hv37_2
   refine SR.o 8 U (st_store1 U U U ty58 U U U (.t (.t .h)) (.t (.t (.t (.t (.t .h))))) ⟨tt0, ?_⟩)
   refine SR.fin kR hl_13 hx_13 hR_13 (.c (.c (.c .n))) ?_
   refine SQ.go idQ ?_
   refine .know (row_form 1 U (by simp)) (fun hv40 => ?_)
   obtain ⟨g38, c39, hv40, hv40_1, hv40_2⟩ := hv40
   injection hv40 with eA _ _; subst eA
   refine SC.packVL (VL.mk (xv.vl ++ [(gt all i)]) (some ⟨g38, 0, none⟩) c36) (.c (.t (.t (.t (.t (.t (.t (.t (.t (.t (.t .h)))))))))) (.c (.t .h) .n)) (by (try simp only [List.length_append, List.length_singleton]); omega) ?_
   have hxw : XI (CX.mk p v all fst) (F - 1) (RS.mk (bor .i64 dn (shlI 1 i)) bk (stopD p (gt all i)).pl ((startF (stopD p (gt all i)).sws (nw + cellF p.tn p.time pl (stopD p (gt all i)).pl)).1 + (stopD p (gt all i)).srv) (cs + cellF p.tn p.time pl (stopD p (gt all i)).pl * v.pt + cellF p.dn p.dist pl (stopD p (gt all i)).pl * v.pd)) (VL.mk (xv.vl ++ [(gt all i)]) (some ⟨g38, 0, none⟩) c36) := by rw [hset]; exact XI.vis hO hx hund hi.1 hi.2 hvo rfl rfl
   have hf1 := hxw.f0
   refine .region (.m U U U (.v (ev_lda U U (At.whole 1 U) ty112) U (.cons (st_call0 U U U U hbd44 U (.c (.t (.t (.t (.t (.t (.t (.t .h))))))) (.c (.t (.t (.t (.t (.t (.t (.t .h))))))) (.c (.t (.t (.t (.t (.t (.t (.t .h))))))) (.c .h .n)))) (hG p v b aA ac all fA fc fst mb_ B c (bor .i64 dn (shlI 1 i)) bk ((stopD p (gt all i)).pl) (((startF ((stopD p (gt all i)).sws) (nw + (cellF p.tn p.time pl ((stopD p (gt all i)).pl)))).1) + ((stopD p (gt all i)).srv)) ((cs + ((cellF p.tn p.time pl ((stopD p (gt all i)).pl)) * v.pt)) + ((cellF p.dn p.dist pl ((stopD p (gt all i)).pl)) * v.pd)) (VL.mk (xv.vl ++ [(gt all i)]) (some ⟨g38, 0, none⟩) c36) (P ++ [(VL.mk (xv.vl ++ [(gt all i)]) (some ⟨g38, 0, none⟩) c36)]) M (F - 1) t _ _ hA hF hPB hVH hO hf1 oO (hI.pool (fun _ hv_ => List.mem_append_left _ hv_)) hxw (List.mem_append_right _ (List.mem_singleton.2 U)) hbd ht hn0 hfo) (fun v_q45 C_q45 q45 => ?_)))))
   obtain ⟨M241, B242, c243, P244, p46, p47, p48, rfl, rfl⟩ := q45
   show SP _ _ _ _ _ _ ⟨_, _ :: _ :: _ :: _ :: _, _, _⟩
   exact SP.nil (end0 Try.results64 (.c .h (.c .h (.c .h (.c .h .n)))) ⟨M241, B242, c243, P244, p46, (SrS.pool p47 (fun _ hv_ => List.mem_append_left _ hv_)), (fun _ => by have h_ := p48; rw [hset] at h_; exact h_), U, U⟩)
  refine st_lit eVis (e := 83) (l := [(gt all i)]) U U U U kR U U kW (fun b49 => ⟨tt0, ?_⟩)
  refine SR.o 0 U (st_lit eVis (e := 83) (l := []) U U U U kR U U kW (fun b50 => ⟨tt0, ?_⟩))
  refine SR.o 3 U (st_app0 (E := eVis) (m := xv.vl) U U U U Try.underlying58 ai83 U U U .h rO (Src.w (Fr.flat (VLF.mem (VLF.lent (S := S) hR_13 7 U) hm))) lO U (fun v51 => ⟨tt0, ?_⟩))
  refine SR.o 6 U (st_app (E := eVis) (m := [(gt all i)]) U U U U Try.underlying58 ai83 U U U .h rO (row_src 1 U) lO U (fun v52 => ⟨tt0, ?_⟩))
  refine SR.z 7 U U (ev_fa U fo112_3 U (r := 5) U) ?_
  refine .know (row_len 0 U) (fun hv55 => ?_)
  obtain ⟨A53, c54, rfl, hv55_1, hv55_2⟩ := hv55
  unfold maxLen at hv55_2
  refine SR.o 8 U (st_store1 U U U ty58 U U U (.t (.t .h)) (.t (.t (.t (.t (.t .h))))) ⟨tt0, ?_⟩)
  refine SR.fin kR hl_13 hx_13 hR_13 (.c (.c (.c .n))) ?_
  refine SQ.go idQ ?_
  refine .know (row_form 1 U (by simp)) (fun hv58 => ?_)
  obtain ⟨g56, c57, hv58, hv58_1, hv58_2⟩ := hv58
  injection hv58 with eA _ _; subst eA
  refine SC.packVL (VL.mk (xv.vl ++ [(gt all i)]) (some ⟨g56, 0, none⟩) c54) (.c (.t (.t (.t (.t (.t (.t (.t (.t (.t (.t .h)))))))))) (.c (.t .h) .n)) (by (try simp only [List.length_append, List.length_singleton]); omega) ?_
  have hxw : XI (CX.mk p v all fst) (F - 1) (RS.mk (bor .i64 dn (shlI 1 i)) bk (stopD p (gt all i)).pl ((startF (stopD p (gt all i)).sws (nw + cellF p.tn p.time pl (stopD p (gt all i)).pl)).1 + (stopD p (gt all i)).srv) (cs + cellF p.tn p.time pl (stopD p (gt all i)).pl * v.pt + cellF p.dn p.dist pl (stopD p (gt all i)).pl * v.pd)) (VL.mk (xv.vl ++ [(gt all i)]) (some ⟨g56, 0, none⟩) c54) := by rw [hset]; exact XI.vis hO hx hund hi.1 hi.2 hvo rfl rfl
  have hf1 := hxw.f0
  refine .region (.m U U U (.v (ev_lda U U (At.whole 1 U) ty112) U (.cons (st_call0 U U U U hbd44 U (.c (.t (.t (.t (.t (.t (.t (.t .h))))))) (.c (.t (.t (.t (.t (.t (.t (.t .h))))))) (.c (.t (.t (.t (.t (.t (.t (.t .h))))))) (.c .h .n)))) (hG p v b aA ac all fA fc fst mb_ B c (bor .i64 dn (shlI 1 i)) bk ((stopD p (gt all i)).pl) (((startF ((stopD p (gt all i)).sws) (nw + (cellF p.tn p.time pl ((stopD p (gt all i)).pl)))).1) + ((stopD p (gt all i)).srv)) ((cs + ((cellF p.tn p.time pl ((stopD p (gt all i)).pl)) * v.pt)) + ((cellF p.dn p.dist pl ((stopD p (gt all i)).pl)) * v.pd)) (VL.mk (xv.vl ++ [(gt all i)]) (some ⟨g56, 0, none⟩) c54) (P ++ [(VL.mk (xv.vl ++ [(gt all i)]) (some ⟨g56, 0, none⟩) c54)]) M (F - 1) t _ _ hA hF hPB hVH hO hf1 oO (hI.pool (fun _ hv_ => List.mem_append_left _ hv_)) hxw (List.mem_append_right _ (List.mem_singleton.2 U)) hbd ht hn0 hfo) (fun v_q63 C_q63 q63 => ?_)))))
  obtain ⟨M259, B260, c261, P262, p64, p65, p66, rfl, rfl⟩ := q63
  show SP _ _ _ _ _ _ ⟨_, _ :: _ :: _ :: _ :: _, _, _⟩
  exact SP.nil (end0 Try.results64 (.c .h (.c .h (.c .h (.c .h .n)))) ⟨M259, B260, c261, P262, p64, (SrS.pool p65 (fun _ hv_ => List.mem_append_left _ hv_)), (fun _ => by have h_ := p66; rw [hset] at h_; exact h_), U, U⟩)
 refine SR.join (X := Nat × (Option Addr) × Nat) (fun (zb67, zA68, zc69) => ([(0, .pointer (some ⟨b, 0, none⟩)), (2, .int .i64 i), (5, .pointer (some ⟨b1, 0, none⟩)), (7, .pointer (some ⟨b2, 0, none⟩)), (22, .agg #[.int .i64 ((stopD p (gt all i)).pl), .int .i64 ((stopD p (gt all i)).srv), .slice zA68 (((stopD p (gt all i)).sws).length) zc69]), (23, .bool (isStop p (gt all i))), (8, .pointer (some ⟨zb67, 0, none⟩))], [cel zb67 [.int .i64 0, .int .i64 0, .slice none 0 0] 51, rw_ eWN 34 (.slice zA68 (((stopD p (gt all i)).sws).length) zc69) ((stopD p (gt all i)).sws)])) 2 #[true, true, true, true, true, true, true, true, true, true, false, false] (fun ⟨zb67, zA68, zc69⟩ => ?_) (fun key70 => ?_)
 ·
  show SR _ _ _ _ _ _ _ _ _ ⟨[(0, .pointer (some ⟨b, 0, none⟩)), (2, .int .i64 i), (5, .pointer (some ⟨b1, 0, none⟩)), (7, .pointer (some ⟨b2, 0, none⟩)), (22, .agg #[.int .i64 ((stopD p (gt all i)).pl), .int .i64 ((stopD p (gt all i)).srv), .slice zA68 (((stopD p (gt all i)).sws).length) zc69]), (23, .bool (isStop p (gt all i))), (8, .pointer (some ⟨zb67, 0, none⟩))], [cel zb67 [.int .i64 0, .int .i64 0, .slice none 0 0] 51, rw_ eWN 34 (.slice zA68 (((stopD p (gt all i)).sws).length) zc69) ((stopD p (gt all i)).sws)], _, _⟩
  refine SR.o 10 U (st_storea (l' := [.int .i64 ((stopD p (gt all i)).pl), .int .i64 ((stopD p (gt all i)).srv), .slice zA68 (((stopD p (gt all i)).sws).length) zc69]) U U U ty51 U U U .h U U ⟨tt0, ?_⟩)
  refine SR.z 11 U U (ev_as U U) ?_
  refine SR.fin kR hl_3 hx_3 hR_3 (.c (.c .n)) ?_
  exact SQ.weak (key7 (zb67, zA68, zc69)) (Sub.get (.c4 U U U U (.c U .n))) (fun w hw => hw.keep (.c .h (.c .h (.c .h (.c .h (.c .h (.c .h (.c .h (.c .h .n)))))))))
 refine SR.m 0 U U U U ?_
 refine SR.z 1 U U (ev_nil U U) ?_
 refine SR.z 2 U U (ev_fa U fo102_0 U (r := 0) U) ?_
 refine SR.z 3 U U (ev_lda (cs := (cPB p)) U U (At.d (At.lent hR_3 2 U U)) ty29) ?_
 refine SR.z 4 U U (ev_lda (cs := [.int .i64 ((gt all i).kind), .int .i64 ((gt all i).item)]) U U (At.d (At.lent hR_3 0 U U)) ty83) ?_
 refine SR.two (i := 5) (j := 9) kR ⟨_, U, ?_⟩ ⟨_, U, ?_⟩
 ·
  refine st_call0 U U U U hbd81 U .n (stop_ p (gt all i) _ _ ((hPB).ext hx_3) (stop_ws hL)) (fun v_q72 C_q72 q72 => ⟨tt0, ?_⟩)
  obtain ⟨u71, rfl, rfl⟩ := q72
  show SR _ _ _ _ _ _ _ _ _ ⟨_, _ :: _, _, _⟩
  refine .know (row_len 0 U) (fun hv75 => ?_)
  obtain ⟨A73, c74, rfl, hv75_1, hv75_2⟩ := hv75
  unfold maxLen at hv75_2
  refine SR.m 6 U U U U ?_
  refine SR.z 7 U U (ev_ext U U U) ?_
  refine SR.z 8 U U (ev_ext U U U) ?_
  refine SR.o 9 U (st_alloc U U U U zf51 (fun b76 => ⟨tt0, ?_⟩))
  exact SR.weakj (key70 (b76, A73, c74)) kR (Sub.get (.c4 U U U U (.c U (.c U (.c U .n))))) (fun w hw => hw.keep (.c .h (.c .h .n)))
 refine st_alloc U U U U zf51 (fun b77 => ⟨tt0, ?_⟩)
 refine SR.o 5 U (st_call0 U U U U hbd81 U .n (stop_ p (gt all i) _ _ ((hPB).ext hx_3) (stop_ws hL)) (fun v_q79 C_q79 q79 => ⟨tt0, ?_⟩))
 obtain ⟨u78, rfl, rfl⟩ := q79
 show SR _ _ _ _ _ _ _ _ _ ⟨_, _ :: _, _, _⟩
 refine .know (row_len 0 U) (fun hv82 => ?_)
 obtain ⟨A80, c81, rfl, hv82_1, hv82_2⟩ := hv82
 unfold maxLen at hv82_2
 refine SR.m 6 U U U U ?_
 refine SR.z 7 U U (ev_ext U U U) ?_
 refine SR.z 8 U U (ev_ext U U U) ?_
 exact SR.weakj (key70 (b77, A80, c81)) kR (Sub.get (.c4 U U U U (.c U (.c U (.c U .n))))) (fun w hw => hw.keep (.c (.t .h) (.c .h .n)))
end Go.Proofs.Ytimhdimhdimbjaa.Sx
set_option maxRecDepth 20000
set_option maxHeartbeats 1000000
namespace Go.Proofs.Ytimhdimhdimbjaa.Sx.FEC
open Go Go.SX Go.Proofs FA FB FC FD FE FF FG FH FJ FK FL FP FQ FW FEA FEB
theorem fo102_4 : fo Try.prog 102 4 = some 21 := by kernel_rfl
theorem ty100 : ty Try.prog 100 = some (false, 1) := by kernel_rfl
theorem ty110 : ty Try.prog 110 = some (true, 3) := by kernel_rfl
theorem zv128 : (Try.prog.info? 128).bind (fun i => i.zero) = some (.slice none 0 0) := by kernel_rfl
theorem ai112 : (Try.prog.info? 112).map (fun i => (i.zero, i.size, i.bytes)) = some (some (.agg #[.int .i64 0, .int .i64 0, .int .i64 0, .int .i64 0, .int .i64 0, .slice none 0 0]), 6, 64) := by kernel_rfl
theorem hbd61 : hasBody Try.prog 61 = true := by kernel_rfl
theorem hbd62 : hasBody Try.prog 62 = true := by kernel_rfl
theorem zf73 : (Try.prog.info? 73).bind (fun i => i.zero.map Value.cells) = some (List.toArray [.slice none 0 0, .int .i64 0]) := by kernel_rfl
theorem hbd64 : hasBody Try.prog 64 = true := by kernel_rfl
end Go.Proofs.Ytimhdimhdimbjaa.Sx.FEC
namespace Go.Proofs.Ytimhdimhdimbjaa.Sx
open Go Go.SX Go.Proofs FA FB FC FD FE FF FG FH FJ FK FL FP FQ FW FEA FEB FEC
theorem grow_ : ∀ (f : Nat) (p : PB) (v : VH) (b : Nat) (aA : Option Addr) (ac : Nat) (all : List Vis) (fA : Option Addr) (fc : Nat) (fst : List Int) (mb_ : Nat) (B : VL) (c : Int) (dn : Int) (bk : Int) (pl : Int) (nw : Int) (cs : Int) (xv : VL) (P : List VL) (M : List (KY × LB)) (F : Int) (t : Int) (S : Nat → Prop) (wf : World) (hA : Fr eVis S wf aA all) (hF : Fr eZ S wf fA fst) (hPB : PBF S wf p) (hVH : VHF S wf v) (hO : (CX.mk p v all fst).Ok) (hF0 : 0 ≤ F) (hf : F < f) (hI : SrI (CX.mk p v all fst) F M B c P) (hx : XI (CX.mk p v all fst) F (RS.mk dn bk pl nw cs) xv) (hm : xv ∈ P) (hbd : ∀ κ, ((lbs M κ).length : Int) ≤ t) (ht : t + tp F ≤ 1000000000000) (hn0 : 0 < all.length ∧ all.length ≤ 8) (hfo : lOk p 100000000 fst),
  TR0 Try.prog 44 [.pointer (some ⟨b, 0, none⟩), .agg #[.int .i64 dn, .int .i64 bk, .int .i64 pl, .int .i64 nw, .int .i64 cs, .slice xv.wlA xv.vl.length xv.wlc]] [cel b [.int .i64 p.dims, .int .i64 p.tn, .slice p.ptA p.time.length p.ptc, .int .i64 p.dn, .slice p.pdA p.dist.length p.pdc, .slice p.pvA p.vehs.length p.pvc, .slice p.pjA p.jobs.length p.pjc, .slice p.psA p.ships.length p.psc, .int .i64 v.st, .int .i64 v.en, .slice v.vcA v.vcap.length v.vcc, .int .u64 v.vsk, .int .i64 v.lo, .int .i64 v.hi, .int .i64 v.fix, .int .i64 v.pt, .int .i64 v.pd, .int .i64 v.mt, .slice v.vbA v.brs.length v.vbc, .slice aA all.length ac, .slice fA fst.length fc, .map (some mb_), .slice B.wlA B.vl.length B.wlc, .int .i64 c] 102, mp keKY.f lbV mb_ M, nestLB 112 M, nestVL 83 P] S wf (fun v_ C_ => ∃ (M2 : List (KY × LB)) (B2 : VL) (c2 : Int) (P2 : List VL), (SrI (CX.mk p v all fst) F M2 B2 c2 P2) ∧ (SrS (CX.mk p v all fst) F M B c P M2 B2 c2 P2 (tp F)) ∧ (∀ k, CX.Fin (CX.mk p v all fst) (RS.mk dn bk pl nw cs) k → BLe B2 c2 k) ∧ v_ = .tuple #[] ∧ C_ = [cel b [.int .i64 p.dims, .int .i64 p.tn, .slice p.ptA p.time.length p.ptc, .int .i64 p.dn, .slice p.pdA p.dist.length p.pdc, .slice p.pvA p.vehs.length p.pvc, .slice p.pjA p.jobs.length p.pjc, .slice p.psA p.ships.length p.psc, .int .i64 v.st, .int .i64 v.en, .slice v.vcA v.vcap.length v.vcc, .int .u64 v.vsk, .int .i64 v.lo, .int .i64 v.hi, .int .i64 v.fix, .int .i64 v.pt, .int .i64 v.pd, .int .i64 v.mt, .slice v.vbA v.brs.length v.vbc, .slice aA all.length ac, .slice fA fst.length fc, .map (some mb_), .slice B2.wlA B2.vl.length B2.wlc, .int .i64 c2] 102, mp keKY.f lbV mb_ M2, nestLB 112 M2, nestVL 83 P2]) := by
 refine nat_ind ?_ (fun f ih => ?_)
 · intro p v b aA ac all fA fc fst mb_ B c dn bk pl nw cs xv P M F t S wf hA hF hPB hVH hO hF0 hf hI hx hm hbd ht hn0 hfo; exfalso; omega
 intro p v b aA ac all fA fc fst mb_ B c dn bk pl nw cs xv P M F t S wf hA hF hPB hVH hO hF0 hf hI hx hm hbd ht hn0 hfo
 have hla := hA.len
 have hL : LawP p := hO.law
 have hV : VehOk p.dims p.tn v := hO.veh
 have hn12 : all.length ≤ 12 := hO.len
 have hpt := hV.pt
 have hpd := hV.pd
 have hlb := hVH.2.1.len
 have hcs : 0 ≤ cs ∧ cs ≤ 64000000000000 * (12 - F) := hx.cs
 have hnw : 0 ≤ nw ∧ nw ≤ 2000000 := hx.nw
 have hbk : 0 ≤ bk ∧ bk ≤ (v.brs.length : Int) := hx.bk
 have hdn : 0 ≤ dn ∧ dn < 4096 := ⟨hx.dn.1, by have h_ := hx.dn.2; have h2_ := pow_le8 hn12; have h3_ : dn < ((2 ^ all.length : Nat) : Int) := h_; omega⟩
 have hvl := hx.vl
 have hf0 := hx.f0
 have hdel0 : ∀ i : Int, 0 ≤ i → i < (all.length : Int) → (gt all i).kind = 3 → 1 ≤ i := fun i h0_ h1_ h2_ => (hO.del i h0_ h1_ h2_).1
 have hlv := hA.len
 refine TR.mk Try.func44 U Try.ntmps44 U U (fun w_ => ?_)
 refine .seq (.region (.cons (st_boxa U U U U U (fun b1 => (.go idQ (.seq (.seq ?_)))))))
 refine SC.outLB (KY.mk dn bk pl) hI.nd (.c (.t (.t (.t .h))) .n) (fun hll => ?_)
 have hbk2 : (((mget M (KY.mk dn bk pl) dLB).ll.length : Nat) : Int) ≤ t := hbd _
 have htp := tp_0 (f := F)
 refine SC.draw mo [mp keKY.f lbV mb_ M] [] (.c (.t (.t (.t (.t .h)))) .n) (fun _ _ _ => sc0) (fun wf_2 hl_2 hx_2 hR_2 => ?_)
 refine SR.m 0 U U U U ?_
 refine SR.z 1 U U (ev_nil U U) ?_
 refine SR.z 2 U U (ev_fa U fo102_4 U (r := 21) U) ?_
 refine SR.z 3 U U (ev_ld1 U ty100 U (At.d (At.lent hR_2 3 U U))) ?_
 refine SR.z 4 U U (ev_fa U fo112_0 U (r := 0) U) ?_
 refine SR.z 5 U U (ev_lda (cs := [.int .i64 dn, .int .i64 bk, .int .i64 pl]) U U (At.d (At.lent hR_2 2 U U)) ty110) ?_
 refine SR.m 8 U U U U ?_
 refine SR.o 6 U (Ev.step (ev_lkp keKY (m := M) (x := (KY.mk dn bk pl)) (z := dLB) U Try.underlying100 zv128 U U 0 U) U U U ⟨tt0, ?_⟩)
 refine SR.z 7 U U (ev_len U Try.underlying128 U) ?_
 refine SR.fin kR hl_2 hx_2 hR_2 (.c .n) ?_
 refine SQ.go idQ ?_
 refine .block (.loop (X := Int) (fun j => 0 ≤ j ∧ j ≤ (((mget M (KY.mk dn bk pl) dLB).ll.length : Nat) : Int)) (fun j => [(0, .pointer (some ⟨b, 0, none⟩)), (3, .pointer (some ⟨b1, 0, none⟩)), (18, .slice ((mget M (KY.mk dn bk pl) dLB).bA) ((mget M (KY.mk dn bk pl) dLB).ll.length) ((mget M (KY.mk dn bk pl) dLB).bc)), (19, .int .i64 (((mget M (KY.mk dn bk pl) dLB).ll.length : Nat) : Int)), (20, .int .i64 j)]) (fun j => [mp keKY.f lbV mb_ M, rw_ eXS 112 (.slice ((mget M (KY.mk dn bk pl) dLB).bA) ((mget M (KY.mk dn bk pl) dLB).ll.length) ((mget M (KY.mk dn bk pl) dLB).bc)) ((mget M (KY.mk dn bk pl) dLB).ll), restLB 112 M (KY.mk dn bk pl), cel b1 [.int .i64 dn, .int .i64 bk, .int .i64 pl, .int .i64 nw, .int .i64 cs, .slice xv.wlA xv.vl.length xv.wlc] 112, cel b [.int .i64 p.dims, .int .i64 p.tn, .slice p.ptA p.time.length p.ptc, .int .i64 p.dn, .slice p.pdA p.dist.length p.pdc, .slice p.pvA p.vehs.length p.pvc, .slice p.pjA p.jobs.length p.pjc, .slice p.psA p.ships.length p.psc, .int .i64 v.st, .int .i64 v.en, .slice v.vcA v.vcap.length v.vcc, .int .u64 v.vsk, .int .i64 v.lo, .int .i64 v.hi, .int .i64 v.fix, .int .i64 v.pt, .int .i64 v.pd, .int .i64 v.mt, .slice v.vbA v.brs.length v.vbc, .slice aA all.length ac, .slice fA fst.length fc, .map (some mb_), .slice B.wlA B.vl.length B.wlc, .int .i64 c] 102, nestVL 83 P]) (fun _ => S) (fun _ => wf) (fun j => ((((mget M (KY.mk dn bk pl) dLB).ll.length : Nat) : Int) - j).toNat) (fun a_ w_ hs_ hw_ => ⟨0, (by (try dsimp only); exact ⟨oO, oO⟩), hs_.mono (Sub.get (.c4 U U U U (.c U .n))), hw_.keep (.c .h (.c .h (.c .h (.c .h (.c .h (.c .h .n))))))⟩) (fun j ⟨q_0, q_1⟩ => ?_))
 try dsimp only
 refine .seq (.region (.v (ev_cmp U U U U) U (.go idQ (.seq (.condI U bD (fun h3 => ?_) (fun h3 => ?_))))))
 ·
  refine .skipgo idQ (.seq (.block (.seq (.region (.v (ev_ix U Try.underlying128 ty112 U U oO oO (row_adr (i := j) 1 U oO lO)) U (.v (ev_lda U U (row_el (E := eXS) (l := (mget M (KY.mk dn bk pl) dLB).ll) (i := j) 1 U oO lO) ty112) U (.cons (st_alloc U U U U zf112 (fun b4 => ?_)))))))))
  refine .cons (st_storea (l' := [.int .i64 ((gt ((mget M (KY.mk dn bk pl) dLB).ll) j).dn), .int .i64 ((gt ((mget M (KY.mk dn bk pl) dLB).ll) j).bk), .int .i64 ((gt ((mget M (KY.mk dn bk pl) dLB).ll) j).pl), .int .i64 ((gt ((mget M (KY.mk dn bk pl) dLB).ll) j).nw), .int .i64 ((gt ((mget M (KY.mk dn bk pl) dLB).ll) j).cs), .slice ((gt ((mget M (KY.mk dn bk pl) dLB).ll) j).xA) ((gt ((mget M (KY.mk dn bk pl) dLB).ll) j).xn) ((gt ((mget M (KY.mk dn bk pl) dLB).ll) j).xc)]) U U U ty112 U U U .h U U ?_)
  refine .go idQ (.seq (.region (.v (ev_fa U fo112_1 U (r := 3) U) U (.v (ev_ld1 U ty3 U (At.own1 0 U U)) U (.v (ev_fa U fo112_1 U (r := 3) U) U ?_)))))
  refine .v (ev_ld1 U ty3 U (At.own1 4 U U)) U (.v (ev_cmp U U U U) U (.m U U U (.w (fun _ => ev_fa U fo112_2 U (r := 4) U) U ?_)))
  refine .w (fun hb => ev_ld1 U ty3 (lkg U hb) (At.own1 0 U U)) U (.w (fun _ => ev_fa U fo112_2 U (r := 4) U) U (.w (fun hb => ev_ld1 U ty3 (lkg U hb) (At.own1 4 U U)) U (.w (fun hb => ev_cmp U (lkg U hb) (lkg U hb) U) U ?_)))
  refine .v (ev_and U U U U) U (.go idQ (.condI U (bA bD bD) (fun h5 => ?_) (fun h5 => ?_)))
  ·
   refine SC.inLB0 (KY.mk dn bk pl) hI.nd hll (.c (.t (.t .h)) (.c (.t (.t .h)) .n)) ?_
   exact .ret idQ (ret0 Try.results44 (.c (.t (.t (.t (.t .h)))) (.c (.t (.t .h)) (.c .h (.c (.t (.t .h)) .n)))) ⟨M, B, c, P, hI, (SrS.refl.wk (Int.le_refl _) tp_0), (prune hO hI hx (y := gt (mget M (KY.mk dn bk pl) dLB).ll j) (gt_in oO oO) h5.1 h5.2), U, U⟩)
  refine .skipgo idQ (.region (.v (ev_add U U U (r := (j + 1)) U oO oO) U (.m U U U ?_)))
  exact SP.nil (SQ.roundb (X := Int) (x := (j)) (j + 1) (by (try dsimp only); exact ⟨oO, oO⟩) (by show (_ : Nat) < _; omega) (Sub.get (.c4 U U U U (.c U .n))) (fun w hw => hw.keep (.c (.t .h) (.c (.t .h) (.c (.t .h) (.c (.t .h) (.c (.t .h) (.c (.t .h) .n))))))))
 refine .exit idQ ?_
 refine .seq ?_
 refine SC.draw mo [mp keKY.f lbV mb_ M, rw_ eXS 112 (.slice ((mget M (KY.mk dn bk pl) dLB).bA) ((mget M (KY.mk dn bk pl) dLB).ll.length) ((mget M (KY.mk dn bk pl) dLB).bc)) ((mget M (KY.mk dn bk pl) dLB).ll)] [] (.c .h (.c .h .n)) (fun _ _ _ => sc0) (fun wf_6 hl_6 hx_6 hR_6 => ?_)
 refine SR.m 0 U U U U ?_
 refine SR.z 1 U U (ev_nil U U) ?_
 refine SR.z 2 U U (ev_fa U fo102_4 U (r := 21) U) ?_
 refine SR.z 3 U U (ev_ld1 U ty100 U (At.d (At.lent hR_6 2 U U))) ?_
 refine SR.z 4 U U (ev_fa U fo112_0 U (r := 0) U) ?_
 refine SR.z 5 U U (ev_lda (cs := [.int .i64 dn, .int .i64 bk, .int .i64 pl]) U U (At.d (At.lent hR_6 1 U U)) ty110) ?_
 refine SR.z 6 U U (ev_lda (cs := [.int .i64 dn, .int .i64 bk, .int .i64 pl, .int .i64 nw, .int .i64 cs, .slice xv.wlA xv.vl.length xv.wlc]) U U (At.d (At.lent hR_6 1 U U)) ty112) ?_
 refine SR.o 7 U (st_lit eXS (e := 112) (l := [(XS.mk dn bk pl nw cs xv.wlA xv.vl.length xv.wlc)]) U U U U kR U U kW (fun b7 => ⟨tt0, ?_⟩))
 refine SR.o 8 U (st_mapEntryv keKY (x := (KY.mk dn bk pl)) (z := dLB) U U U U Try.underlying100 zv128 U U (.t .h) (fun n8 => ⟨tt0, ?_⟩))
 refine SR.z 9 U U (ev_ext U U U) ?_
 refine SR.z 11 U U (ev_ext U U U) ?_
 refine SR.o 10 U (st_app (E := eXS) (m := [(XS.mk dn bk pl nw cs xv.wlA xv.vl.length xv.wlc)]) U U U U Try.underlying128 ai112 U U U (.t (.t .h)) rO (row_src 1 U) lO U (fun v9 => ⟨tt0, ?_⟩))
 refine .know (row_len 0 U) (fun hv12 => ?_)
 obtain ⟨A10, c11, rfl, hv12_1, hv12_2⟩ := hv12
 unfold maxLen at hv12_2
 refine SR.o 12 U (st_entryStore keKY (u := undef) (x := (KY.mk dn bk pl)) (v := (LB.mk (((mget M (KY.mk dn bk pl) dLB).ll) ++ [(XS.mk dn bk pl nw cs xv.wlA xv.vl.length xv.wlc)]) A10 c11)) U U U U U U (.t .h) ⟨tt0, ?_⟩)
 refine SR.fin kR hl_6 hx_6 hR_6 (.c (.c (.c .n))) ?_
 refine SQ.go idQ ?_
 refine .seq (.seq ?_)
 refine SC.inLB (KY.mk dn bk pl) (LB.mk (((mget M (KY.mk dn bk pl) dLB).ll) ++ [(XS.mk dn bk pl nw cs xv.wlA xv.vl.length xv.wlc)]) A10 c11) hI.nd (.c (.t .h) (.c (.t (.t .h)) .n)) U (by simp only [List.length_append, List.length_singleton]; omega) ?_
 have hI1 := sri_add (y := (XS.mk dn bk pl nw cs xv.wlA xv.vl.length xv.wlc)) (A := A10) (cc := c11) hI hx rfl
 have hS1 : SrS (CX.mk p v all fst) (F - 1) (mset (mins M (KY.mk dn bk pl) dLB) (KY.mk dn bk pl) (LB.mk (((mget M (KY.mk dn bk pl) dLB).ll) ++ [(XS.mk dn bk pl nw cs xv.wlA xv.vl.length xv.wlc)]) A10 c11)) B c P (mset (mins M (KY.mk dn bk pl) dLB) (KY.mk dn bk pl) (LB.mk (((mget M (KY.mk dn bk pl) dLB).ll) ++ [(XS.mk dn bk pl nw cs xv.wlA xv.vl.length xv.wlc)]) A10 c11)) B c P 0 := SrS.refl
 refine SC.draw mo [cel b [.int .i64 p.dims, .int .i64 p.tn, .slice p.ptA p.time.length p.ptc, .int .i64 p.dn, .slice p.pdA p.dist.length p.pdc, .slice p.pvA p.vehs.length p.pvc, .slice p.pjA p.jobs.length p.pjc, .slice p.psA p.ships.length p.psc, .int .i64 v.st, .int .i64 v.en, .slice v.vcA v.vcap.length v.vcc, .int .u64 v.vsk, .int .i64 v.lo, .int .i64 v.hi, .int .i64 v.fix, .int .i64 v.pt, .int .i64 v.pd, .int .i64 v.mt, .slice v.vbA v.brs.length v.vbc, .slice aA all.length ac, .slice fA fst.length fc, .map (some mb_), .slice B.wlA B.vl.length B.wlc, .int .i64 c] 102] [] (.c (.t (.t (.t (.t .h)))) .n) (fun _ _ _ => sc0) (fun wf_13 hl_13 hx_13 hR_13 => ?_)
 refine SR.cutx (X := Bool × (Option Addr) × Nat) (fun (yo14, yA15, yc16) => ([(0, .pointer (some ⟨b, 0, none⟩)), (3, .pointer (some ⟨b1, 0, none⟩)), (18, .slice ((mget M (KY.mk dn bk pl) dLB).bA) ((mget M (KY.mk dn bk pl) dLB).ll.length) ((mget M (KY.mk dn bk pl) dLB).bc)), (19, .int .i64 (((mget M (KY.mk dn bk pl) dLB).ll.length : Nat) : Int)), (20, .int .i64 j), (21, .bool (decide (j < (((mget M (KY.mk dn bk pl) dLB).ll.length : Nat) : Int)))), (60, .bool (!(underF (abF p dn all 0 fst) v.vcap)))], [cel b [.int .i64 p.dims, .int .i64 p.tn, .slice p.ptA p.time.length p.ptc, .int .i64 p.dn, .slice p.pdA p.dist.length p.pdc, .slice p.pvA p.vehs.length p.pvc, .slice p.pjA p.jobs.length p.pjc, .slice p.psA p.ships.length p.psc, .int .i64 v.st, .int .i64 v.en, .slice v.vcA v.vcap.length v.vcc, .int .u64 v.vsk, .int .i64 v.lo, .int .i64 v.hi, .int .i64 v.fix, .int .i64 v.pt, .int .i64 v.pd, .int .i64 v.mt, .slice v.vbA v.brs.length v.vbc, .slice aA all.length ac, .slice fA fst.length fc, .map (some mb_), .slice B.wlA B.vl.length B.wlc, .int .i64 c] 102, mb yo14 (rw_ eZ 3 (.slice yA15 ((abF p dn all 0 fst).length) yc16) (abF p dn all 0 fst)), nestLB 112 (mset (mins M (KY.mk dn bk pl) dLB) (KY.mk dn bk pl) (LB.mk (((mget M (KY.mk dn bk pl) dLB).ll) ++ [(XS.mk dn bk pl nw cs xv.wlA xv.vl.length xv.wlc)]) A10 c11)), mp keKY.f lbV mb_ (mset (mins M (KY.mk dn bk pl) dLB) (KY.mk dn bk pl) (LB.mk (((mget M (KY.mk dn bk pl) dLB).ll) ++ [(XS.mk dn bk pl nw cs xv.wlA xv.vl.length xv.wlc)]) A10 c11)), rw_ eXS 112 (.slice (some ⟨b7, 0, none⟩) 1 1) [(XS.mk dn bk pl nw cs xv.wlA xv.vl.length xv.wlc)], cel b1 [.int .i64 dn, .int .i64 bk, .int .i64 pl, .int .i64 nw, .int .i64 cs, .slice xv.wlA xv.vl.length xv.wlc] 112, nestVL 83 P])) S wf (fun ⟨yo14, yA15, yc16⟩ => ?_) (fun key17 => ?_)
 ·
  try dsimp only
  refine SQ.go idQ ?_
  refine .condI U (bN bV) (fun h18 => ?_) (fun h18 => ?_)
  ·
   exact .ret idQ (ret0 Try.results44 (.c .h (.c (.t (.t .h)) (.c (.t .h) (.c (.t (.t (.t .h))) .n)))) ⟨(mset (mins M (KY.mk dn bk pl) dLB) (KY.mk dn bk pl) (LB.mk (((mget M (KY.mk dn bk pl) dLB).ll) ++ [(XS.mk dn bk pl nw cs xv.wlA xv.vl.length xv.wlc)]) A10 c11)), B, c, P, (sri_done (y := (XS.mk dn bk pl nw cs xv.wlA xv.vl.length xv.wlc)) (A := A10) (cc := c11) hI hx U hI1 hS1 (fin_und (X := (CX.mk p v all fst)) (s := (RS.mk dn bk pl nw cs)) h18)), (srs_done (y := (XS.mk dn bk pl nw cs xv.wlA xv.vl.length xv.wlc)) (A := A10) (cc := c11) hx hS1 (by have := tp_step (f := F) (n := 0) hF0 (by decide) (by decide); have := tp_0 (f := F - 1); omega)), (fin_und (X := (CX.mk p v all fst)) (s := (RS.mk dn bk pl nw cs)) h18), U, U⟩)
  refine .skipgo idQ (.seq ?_)
  have hund : (CX.mk p v all fst).und dn := Classical.not_not.1 h18
  refine .region (.m U U U (.v (ev_lda U U (At.whole 5 U) ty112) U (.cons (st_call0 U U U U hbd62 U (.c .h .n) (end_ p v b aA ac all fA fc fst mb_ B c dn bk pl nw cs xv _ _ hA hF hPB hVH hO hund oO oO hx.wl hn0.1) (fun v_q21 C_q21 q21 => ?_)))))
  obtain ⟨B219, c220, p22, p23, p24, rfl, rfl⟩ := q21
  show SP _ _ _ _ _ _ ⟨_, _ :: _, _, _⟩
  refine .go idQ (.seq (.seq ?_))
  have hI2 : SrI (CX.mk p v all fst) (F - 1) (mset (mins M (KY.mk dn bk pl) dLB) (KY.mk dn bk pl) (LB.mk (((mget M (KY.mk dn bk pl) dLB).ll) ++ [(XS.mk dn bk pl nw cs xv.wlA xv.vl.length xv.wlc)]) A10 c11)) B219 c220 P := hI1.best (fun _ hv_ => hv_) p22 (end_bok (f := F) hI hx hm hn0.1 p24)
  have hS2 : SrS (CX.mk p v all fst) (F - 1) (mset (mins M (KY.mk dn bk pl) dLB) (KY.mk dn bk pl) (LB.mk (((mget M (KY.mk dn bk pl) dLB).ll) ++ [(XS.mk dn bk pl nw cs xv.wlA xv.vl.length xv.wlc)]) A10 c11)) B c P (mset (mins M (KY.mk dn bk pl) dLB) (KY.mk dn bk pl) (LB.mk (((mget M (KY.mk dn bk pl) dLB).ll) ++ [(XS.mk dn bk pl nw cs xv.wlA xv.vl.length xv.wlc)]) A10 c11)) B219 c220 P 0 := ⟨fun _ hv_ => hv_, fun _ _ hy_ => .inr hy_, p22, fun _ => by omega⟩
  refine SC.draw mo [] [] .n (fun _ _ _ => sc0) (fun wf_25 hl_25 hx_25 hR_25 => ?_)
  refine SR.z 0 U U (ev_fa U fo112_0 U (r := 0) U) ?_
  refine SR.z 1 U U (ev_fa U fo110_1 U (r := 1) U) ?_
  refine SR.z 2 U U (ev_ld1 U ty3 U (At.d (At.lent hR_25 5 U U))) ?_
  refine SR.m 3 U U U U ?_
  refine SR.z 4 U U (ev_nil U U) ?_
  refine SR.z 5 U U (ev_fa U fo102_1 U (r := 8) U) ?_
  refine SR.z 6 U U (ev_fa U fo37_9 U (r := 18) U) ?_
  refine SR.z 7 U U (ev_ld1 U ty35 U (At.d (At.lent hR_25 0 U U))) ?_
  refine SR.z 8 U U (ev_len U Try.underlying35 U) ?_
  refine SR.z 9 U U (ev_cmp U U U U) ?_
  refine SR.fin kR hl_25 hx_25 hR_25 .n ?_
  refine SQ.go idQ ?_
  refine .condI U bD (fun h26 => ?_) (fun h26 => ?_)
  ·
   refine .seq ?_
   have hbb := hV.brk bk hbk.1 oO
   refine SC.draw mo [] [] .n (fun _ _ _ => sc0) (fun wf_27 hl_27 hx_27 hR_27 => ?_)
   refine SR.m 0 U U U U ?_
   refine SR.z 1 U U (ev_nil U U) ?_
   refine SR.z 2 U U (ev_fa U fo102_1 U (r := 8) U) ?_
   refine SR.z 3 U U (ev_fa U fo37_9 U (r := 18) U) ?_
   refine SR.z 4 U U (ev_ld1 U ty35 U (At.d (At.lent hR_27 0 U U))) ?_
   refine SR.z 5 U U (ev_fa U fo112_0 U (r := 0) U) ?_
   refine SR.z 6 U U (ev_fa U fo110_1 U (r := 1) U) ?_
   refine SR.z 7 U U (ev_ld1 U ty3 U (At.d (At.lent hR_27 5 U U))) ?_
   refine SR.z 8 U U (ev_ix U Try.underlying35 ty73 U U oO oO (fun _ _ => Fr.adr (i := bk) ((hVH).ext hx_27).2.1 oO oO)) ?_
   refine SR.z 9 U U (ev_lda U U (At.d (Fr.el (i := bk) ((hVH).ext hx_27).2.1 oO oO)) ty73) ?_
   refine SR.o 10 U (st_alloc U U U U zf73 (fun b28 => ⟨tt0, ?_⟩))
   refine SR.o 11 U (st_storea (l' := [.slice ((gt v.brs bk).bwA) ((gt v.brs bk).bws.length) ((gt v.brs bk).bwc), .int .i64 ((gt v.brs bk).bsrv)]) U U U ty73 U U U .h U U ⟨tt0, ?_⟩)
   refine SR.fin kR hl_27 hx_27 hR_27 (.c .n) ?_
   refine SQ.go idQ ?_
   refine .seq (.region (.v (ev_fa U fo73_0 U (r := 0) U) U (.v (ev_ld1 U ty49 U (At.own1 0 U U)) U (.v (ev_fa U fo112_1 U (r := 3) U) U ?_))))
   refine .v (ev_ld1 U ty3 U (At.own1 6 U U)) U (.cons (st_callk U U U U hbd63 U .n (hstart ((gt v.brs bk).bwA) ((gt v.brs bk).bwc) ((gt v.brs bk).bws) nw _ _ (hVH.2.2 bk)) (.m U U U (.v (ev_ext U U U) U ?_))))
   refine .v (ev_ext U U U) U (.a U U U (.a U U U (.go idQ (.seq (.region ?_)))))
   refine .m U U U (.go idQ (.condI U bV (fun h29 => ?_) (fun h29 => ?_)))
   ·
    refine .seq ?_
    have hbo : (CX.mk p v all fst).brkOk (RS.mk dn bk pl nw cs) := ⟨by show bk < _; omega, h29⟩
    have hxb := XI.brk hO hx hund hbo
    have hst_ := startF_rng hbb.1.each hbo.2
    have hst : 0 ≤ (startF (gt v.brs bk).bws nw).1 ∧ (startF (gt v.brs bk).bws nw).1 ≤ 1000000 := ⟨hst_.1, hst_.2.1⟩
    have hfb := hxb.f0
    have hts := tp_step (f := F) (n := 0) hF0 (by decide) (by decide)
    refine .region (.v (ev_lda U U (At.whole 6 U) ty112) U (.cons (st_alloc U U U U zf112 (fun b30 => (.cons (st_storea (l' := [.int .i64 dn, .int .i64 bk, .int .i64 pl, .int .i64 nw, .int .i64 cs, .slice xv.wlA xv.vl.length xv.wlc]) U U U ty112 U U U .h U U ?_))))))
    refine .go idQ (.seq ?_)
    refine SC.draw mo [cel b30 [.int .i64 dn, .int .i64 bk, .int .i64 pl, .int .i64 nw, .int .i64 cs, .slice xv.wlA xv.vl.length xv.wlc] 112] [] (.c .h .n) (fun _ _ _ => sc0) (fun wf_31 hl_31 hx_31 hR_31 => ?_)
    refine SR.z 0 U U (ev_fa U fo112_0 U (r := 0) U) ?_
    refine SR.z 1 U U (ev_fa U fo110_1 U (r := 1) U) ?_
    refine SR.z 2 U U (ev_ld1 U ty3 U (At.d (At.lent hR_31 6 U U))) ?_
    refine SR.z 3 U U (ev_add U U U (r := (bk + 1)) U oO oO) ?_
    refine SR.m 4 U U U U ?_
    refine SR.z 5 U U (ev_fa U fo73_1 U (r := 1) U) ?_
    refine SR.z 6 U U (ev_ld1 U ty3 U (At.d (At.lent hR_31 0 U U))) ?_
    refine SR.z 7 U U (ev_add U U U (r := (((startF ((gt v.brs bk).bws) nw).1) + ((gt v.brs bk).bsrv))) U oO oO) ?_
    refine SR.z 8 U U (ev_fa U fo112_0 U (r := 0) U) ?_
    refine SR.z 9 U U (ev_fa U fo110_1 U (r := 1) U) ?_
    refine SR.o 10 U (st_store1 U U U ty3 U U U .h (.t .h) ⟨tt0, ?_⟩)
    refine SR.z 11 U U (ev_fa U fo112_1 U (r := 3) U) ?_
    refine SR.o 12 U (st_store1 U U U ty3 U U U .h (.t (.t (.t .h))) ⟨tt0, ?_⟩)
    refine SR.fin kR hl_31 hx_31 hR_31 (.c .n) ?_
    refine SQ.go idQ ?_
    refine .region (.m U U U (.v (ev_lda U U (At.whole 0 U) ty112) U (.cons (st_call0 U U U U hbd44 U (.c (.t (.t .h)) (.c (.t (.t (.t (.t .h)))) (.c (.t (.t (.t .h))) (.c (.t (.t (.t (.t (.t .h))))) .n)))) (ih p v b aA ac all fA fc fst mb_ B219 c220 dn (bk + 1) pl (((startF ((gt v.brs bk).bws) nw).1) + ((gt v.brs bk).bsrv)) cs xv P (mset (mins M (KY.mk dn bk pl) dLB) (KY.mk dn bk pl) (LB.mk (((mget M (KY.mk dn bk pl) dLB).ll) ++ [(XS.mk dn bk pl nw cs xv.wlA xv.vl.length xv.wlc)]) A10 c11)) (F - 1) (t + 1) _ _ hA hF hPB hVH hO oO oO hI2 hxb hm (fun κ_ => by have h_ := cnt_all (y := (XS.mk dn bk pl nw cs xv.wlA xv.vl.length xv.wlc)) (A := A10) (cc := c11) hx hS2 hbd κ_; omega) oO hn0 hfo) (fun v_q36 C_q36 q36 => ?_)))))
    obtain ⟨M232, B233, c234, P235, p37, p38, p39, rfl, rfl⟩ := q36
    show SP _ _ _ _ _ _ ⟨_, _ :: _ :: _ :: _ :: _, _, _⟩
    refine .go idQ (.seq ?_)
    have hI3 := p37
    have hS3 : SrS (CX.mk p v all fst) (F - 1) (mset (mins M (KY.mk dn bk pl) dLB) (KY.mk dn bk pl) (LB.mk (((mget M (KY.mk dn bk pl) dLB).ll) ++ [(XS.mk dn bk pl nw cs xv.wlA xv.vl.length xv.wlc)]) A10 c11)) B c P M232 B233 c234 P235 (tp (F - 1)) := (hS2.trans p38).wk (Int.le_refl _) oO
    have hE3 : (CX.mk p v all fst).EndK (RS.mk dn bk pl nw cs) → BLe B233 c234 ((CX.mk p v all fst).endc (RS.mk dn bk pl nw cs)) := fun e => p38.le _ (p23 e)
    have hB3 : (CX.mk p v all fst).brkOk (RS.mk dn bk pl nw cs) → ∀ k, CX.Fin (CX.mk p v all fst) ((CX.mk p v all fst).brk (RS.mk dn bk pl nw cs)) k → BLe B233 c234 k := fun _ => p39
    refine .region (.m U U U (.v (ev_nil U U) U (.v (ev_fa U fo102_2 U (r := 19) U) U ?_)))
    refine .v (ev_ld1 U ty58 U (At.own1 0 U U)) U (.v (ev_len U Try.underlying58 U) U (.m U U U (.go idQ (.block ?_))))
    refine .loop (X := Int × (List (KY × LB)) × VL × Int × (List VL)) (fun ⟨i, M1, B1, c1, P1⟩ => 0 ≤ i ∧ i ≤ (all.length : Int) ∧ SrI (CX.mk p v all fst) (F - 1) M1 B1 c1 P1 ∧ SrS (CX.mk p v all fst) (F - 1) (mset (mins M (KY.mk dn bk pl) dLB) (KY.mk dn bk pl) (LB.mk (((mget M (KY.mk dn bk pl) dLB).ll) ++ [(XS.mk dn bk pl nw cs xv.wlA xv.vl.length xv.wlc)]) A10 c11)) B c P M1 B1 c1 P1 (tp (F - 1) + i * tp (F - 1)) ∧ ((CX.mk p v all fst).EndK (RS.mk dn bk pl nw cs) → BLe B1 c1 ((CX.mk p v all fst).endc (RS.mk dn bk pl nw cs))) ∧ ((CX.mk p v all fst).brkOk (RS.mk dn bk pl nw cs) → ∀ k, CX.Fin (CX.mk p v all fst) ((CX.mk p v all fst).brk (RS.mk dn bk pl nw cs)) k → BLe B1 c1 k) ∧ (∀ j : Int, 0 ≤ j → j < i → (CX.mk p v all fst).visOk (RS.mk dn bk pl nw cs) j → ∀ k, CX.Fin (CX.mk p v all fst) ((CX.mk p v all fst).vis (RS.mk dn bk pl nw cs) j) k → BLe B1 c1 k)) (fun ⟨i, M1, B1, c1, P1⟩ => [(0, .pointer (some ⟨b, 0, none⟩)), (3, .pointer (some ⟨b1, 0, none⟩)), (18, .slice ((mget M (KY.mk dn bk pl) dLB).bA) ((mget M (KY.mk dn bk pl) dLB).ll.length) ((mget M (KY.mk dn bk pl) dLB).bc)), (19, .int .i64 (((mget M (KY.mk dn bk pl) dLB).ll.length : Nat) : Int)), (20, .int .i64 j), (111, .slice aA all.length ac), (112, .int .i64 (all.length : Int)), (113, .int .i64 i)]) (fun ⟨i, M1, B1, c1, P1⟩ => [cel b [.int .i64 p.dims, .int .i64 p.tn, .slice p.ptA p.time.length p.ptc, .int .i64 p.dn, .slice p.pdA p.dist.length p.pdc, .slice p.pvA p.vehs.length p.pvc, .slice p.pjA p.jobs.length p.pjc, .slice p.psA p.ships.length p.psc, .int .i64 v.st, .int .i64 v.en, .slice v.vcA v.vcap.length v.vcc, .int .u64 v.vsk, .int .i64 v.lo, .int .i64 v.hi, .int .i64 v.fix, .int .i64 v.pt, .int .i64 v.pd, .int .i64 v.mt, .slice v.vbA v.brs.length v.vbc, .slice aA all.length ac, .slice fA fst.length fc, .map (some mb_), .slice B1.wlA B1.vl.length B1.wlc, .int .i64 c1] 102, mp keKY.f lbV mb_ M1, nestLB 112 M1, nestVL 83 P1, cel b30 [.int .i64 dn, .int .i64 (bk + 1), .int .i64 pl, .int .i64 (((startF ((gt v.brs bk).bws) nw).1) + ((gt v.brs bk).bsrv)), .int .i64 cs, .slice xv.wlA xv.vl.length xv.wlc] 112, cel b28 [.slice ((gt v.brs bk).bwA) ((gt v.brs bk).bws.length) ((gt v.brs bk).bwc), .int .i64 ((gt v.brs bk).bsrv)] 73, mb yo14 (rw_ eZ 3 (.slice yA15 ((abF p dn all 0 fst).length) yc16) (abF p dn all 0 fst)), rw_ eXS 112 (.slice (some ⟨b7, 0, none⟩) 1 1) [(XS.mk dn bk pl nw cs xv.wlA xv.vl.length xv.wlc)], cel b1 [.int .i64 dn, .int .i64 bk, .int .i64 pl, .int .i64 nw, .int .i64 cs, .slice xv.wlA xv.vl.length xv.wlc] 112]) (fun _ => S) (fun _ => wf) (fun ⟨i, M1, B1, c1, P1⟩ => ((all.length : Int) - i).toNat) (fun a_ w_ hs_ hw_ => ⟨⟨0, M232, B233, c234, P235⟩, (by (try dsimp only); exact ⟨by omega, by omega, hI3, hS3.wk (Int.le_refl _) oO, hE3, hB3, fun j j0 j1 => absurd j1 oO⟩), hs_.mono (Sub.get (.c4 U U U U (.c4 U U U U .n))), hw_.keep (.c .h (.c .h (.c .h (.c .h (.c .h (.c .h (.c .h (.c .h (.c .h .n)))))))))⟩) (fun ⟨i, M1, B1, c1, P1⟩ ⟨q_0, q_1, q_2, q_3, q_4, q_5, q_6⟩ => ?_)
    show SC _ _ _ _ _ ⟨[(0, .pointer (some ⟨b, 0, none⟩)), (3, .pointer (some ⟨b1, 0, none⟩)), (18, .slice ((mget M (KY.mk dn bk pl) dLB).bA) ((mget M (KY.mk dn bk pl) dLB).ll.length) ((mget M (KY.mk dn bk pl) dLB).bc)), (19, .int .i64 (((mget M (KY.mk dn bk pl) dLB).ll.length : Nat) : Int)), (20, .int .i64 j), (111, .slice aA all.length ac), (112, .int .i64 (all.length : Int)), (113, .int .i64 i)], [cel b [.int .i64 p.dims, .int .i64 p.tn, .slice p.ptA p.time.length p.ptc, .int .i64 p.dn, .slice p.pdA p.dist.length p.pdc, .slice p.pvA p.vehs.length p.pvc, .slice p.pjA p.jobs.length p.pjc, .slice p.psA p.ships.length p.psc, .int .i64 v.st, .int .i64 v.en, .slice v.vcA v.vcap.length v.vcc, .int .u64 v.vsk, .int .i64 v.lo, .int .i64 v.hi, .int .i64 v.fix, .int .i64 v.pt, .int .i64 v.pd, .int .i64 v.mt, .slice v.vbA v.brs.length v.vbc, .slice aA all.length ac, .slice fA fst.length fc, .map (some mb_), .slice B1.wlA B1.vl.length B1.wlc, .int .i64 c1] 102, mp keKY.f lbV mb_ M1, nestLB 112 M1, nestVL 83 P1, cel b30 [.int .i64 dn, .int .i64 (bk + 1), .int .i64 pl, .int .i64 (((startF ((gt v.brs bk).bws) nw).1) + ((gt v.brs bk).bsrv)), .int .i64 cs, .slice xv.wlA xv.vl.length xv.wlc] 112, cel b28 [.slice ((gt v.brs bk).bwA) ((gt v.brs bk).bws.length) ((gt v.brs bk).bwc), .int .i64 ((gt v.brs bk).bsrv)] 73, mb yo14 (rw_ eZ 3 (.slice yA15 ((abF p dn all 0 fst).length) yc16) (abF p dn all 0 fst)), rw_ eXS 112 (.slice (some ⟨b7, 0, none⟩) 1 1) [(XS.mk dn bk pl nw cs xv.wlA xv.vl.length xv.wlc)], cel b1 [.int .i64 dn, .int .i64 bk, .int .i64 pl, .int .i64 nw, .int .i64 cs, .slice xv.wlA xv.vl.length xv.wlc] 112], S, wf⟩
    have hdel := hdel0 i
    refine .seq (.region (.v (ev_cmp U U U U) U (.go idQ (.seq (.condI U bD (fun h40 => ?_) (fun h40 => ?_))))))
    ·
     refine .skipgo idQ (.seq (.block (.seq ?_)))
     have hdel1 := hdel oO oO
     have hgi : gt all i ∈ all := gt_in oO oO
     refine .region (.m U U U (.v (ev_ix U Try.underlying58 ty83 U U oO oO (fun _ _ => Fr.adr (i := i) hA oO oO)) U (.v (ev_lda U U (At.w (Fr.el (i := i) hA oO oO)) ty83) U ?_)))
     refine .cons (st_alloc U U U U zf83 (fun b41 => ?_))
     refine .a U U U (.cons (st_storea (l' := [.int .i64 ((gt all i).kind), .int .i64 ((gt all i).item)]) U U U ty83 U U U .h U U (.go idQ (.seq (.region (.v (ev_fa U fo112_0 U (r := 0) U) U ?_))))))
     refine .v (ev_fa U fo110_0 U (r := 0) U) U (.v (ev_ld1 U ty3 U (At.own1 9 U U)) U (.m U U U (.v (ev_shr (r := (shrI dn i)) U U U oO U) U ?_)))
     refine .v (ev_band U U U) U (.v (ev_cmp U U U U) U (.m U U U (.w (fun _ => ev_fa U fo83_0 U (r := 0) U) U ?_)))
     refine .w (fun hb => ev_ld1 U ty81 (lkg U hb) (At.own1 0 U U)) U (.w (fun hb => ev_cmp U (lkg U hb) U U) U (.w (fun hb => ev_mv U (lkg U hb)) U (.cons (Ev.ggstep (b1 := ((bnd .i64 (shrI dn i) 1) == 0)) (b := (((gt all i).kind) != 3)) cb_tf (fun hb1 _ => ev_fa U fo112_0 U (r := 0) U) U U U U U ?_))))
     refine .cons (Ev.ggstep (b1 := ((bnd .i64 (shrI dn i) 1) == 0)) (b := (((gt all i).kind) != 3)) cb_tf (fun hb1 hb => ev_fa U fo110_0 (lkg U hb) (r := 0) U) U U U U U ?_)
     refine .cons (Ev.ggstep (b1 := ((bnd .i64 (shrI dn i) 1) == 0)) (b := (((gt all i).kind) != 3)) cb_tf (fun hb1 hb => ev_ld1 U ty3 (lkg U hb) (At.own1 9 U U)) U U U U U ?_)
     refine .cons (Ev.ggstep (b1 := ((bnd .i64 (shrI dn i) 1) == 0)) (b := (((gt all i).kind) != 3)) cb_tf (fun hb1 _ => ev_mv U U) U U U U U ?_)
     refine .cons (Ev.ggstep (b1 := ((bnd .i64 (shrI dn i) 1) == 0)) (b := (((gt all i).kind) != 3)) cb_tf (fun hb1 hb => have hp := bT (bA bE (bN bNE)) hb; ev_sub U (lkg U hb) U (r := (i - 1)) U (by have _h := hp; omega) (by have _h := hp; omega)) U U U U U ?_)
     refine .cons (Ev.ggstep (b1 := ((bnd .i64 (shrI dn i) 1) == 0)) (b := (((gt all i).kind) != 3)) cb_tf (fun hb1 hb => have hp := bT (bA bE (bN bNE)) hb; ev_shr (r := (shrI dn (i - 1))) U (lkg U hb) (lkg U hb) (by have _h := hp; omega) U) U U U U U ?_)
     refine .cons (Ev.ggstep (b1 := ((bnd .i64 (shrI dn i) 1) == 0)) (b := (((gt all i).kind) != 3)) cb_tf (fun hb1 hb => ev_band U (lkg U hb) U) U U U U U ?_)
     refine .cons (Ev.ggstep (b1 := ((bnd .i64 (shrI dn i) 1) == 0)) (b := (((gt all i).kind) != 3)) cb_tf (fun hb1 hb => ev_cmp U (lkg U hb) U U) U U U U U ?_)
     refine .w (fun hb => ev_or U (lkg U hb) U (lkgn U cb_tf hb)) U (.v (ev_and U U U U) U (.go idQ (.condI U (bA bE (bO bNE bNE)) (fun h42 => ?_) (fun h42 => ?_))))
     ·
      have hb1 : bt dn i = false := (bit_0 hdn.1 oO oO oO).1 h42.1
      have hb2 : (gt all i).kind = 3 → bt dn (i - 1) = true := fun h3_ => bit_1 hdn.1 oO (by have := hdel1 h3_; omega) oO (h42.2.resolve_left (fun h4_ => h4_ h3_))
      have hng := nun_get (d := dn) (i := i) oO hb1 (n := all.length) oO
      have hrem : nun dn all.length + ((v.brs.length : Int) - bk) = F := hx.rem
      have htr := t_room ht (tp_step (f := F) (n := 8) hF0 (by decide) (by decide)) (tp_0 (f := F - 1)) (i := i) oO
      refine .region (.m U U U (.v (ev_lda U U (At.whole 9 U) ty112) U (.m U U U ?_)))
      refine .v (ev_lda U U (At.whole 0 U) ty83) U (.cons (st_call0 U U U U hbd64 U (.c (.t .h) (.c (.t .h) (.c (.t .h) (.c (.t .h) .n)))) (step_ f p v b aA ac all fA fc fst mb_ B1 c1 dn bk pl nw cs xv P1 M1 F (t + 1 + (tp (F - 1) + i * tp (F - 1))) i _ _ hA hF hPB hVH hO oO q_2 hx hund (q_3.sub _ hm) (cnt_all (y := (XS.mk dn bk pl nw cs xv.wlA xv.vl.length xv.wlc)) (A := A10) (cc := c11) hx q_3 hbd) htr hn0 hfo oO hb1 hb2 ih) (fun v_q47 C_q47 q47 => ?_)))
      obtain ⟨M243, B244, c245, P246, p48, p49, p50, rfl, rfl⟩ := q47
      show SP _ _ _ _ _ _ ⟨_, _ :: _ :: _ :: _ :: _, _, _⟩
      refine .go idQ (.region (.v (ev_add U U U (r := (i + 1)) U oO oO) U (.m U U U ?_)))
      exact SP.nil (SQ.roundb (X := Int × (List (KY × LB)) × VL × Int × (List VL)) (x := (i, M1, B1, c1, P1)) ⟨(i + 1), M243, B244, c245, P246⟩ (by (try dsimp only); exact ⟨by omega, by omega, p48, (q_3.trans p49).wk (Int.le_refl _) t_next, fun e => p49.le _ (q_4 e), fun o k hk => p49.le k (q_5 o k hk), (upto_nx (Φ := fun j : Int => (CX.mk p v all fst).visOk (RS.mk dn bk pl nw cs) j → ∀ k, CX.Fin (CX.mk p v all fst) ((CX.mk p v all fst).vis (RS.mk dn bk pl nw cs) j) k → BLe B244 c245 k) (fun j j0 j1 o k hk => p49.le k (q_6 j j0 j1 o k hk)) p50)⟩) dO (Sub.get (.c4 U U U U (.c4 U U U U .n))) (fun w hw => hw.keep (.c .h (.c .h (.c .h (.c .h (.c (.t .h) (.c (.t .h) (.c (.t .h) (.c (.t .h) (.c (.t .h) .n)))))))))))
     refine .skipgo idQ (.region (.v (ev_add U U U (r := (i + 1)) U oO oO) U (.m U U U ?_)))
     exact SP.nil (SQ.roundb (X := Int × (List (KY × LB)) × VL × Int × (List VL)) (x := (i, M1, B1, c1, P1)) ⟨(i + 1), M1, B1, c1, P1⟩ (by (try dsimp only); exact ⟨by omega, by omega, q_2, q_3.wk (Int.le_refl _) (by have := tp_0 (f := F - 1); have := t_next (T := tp (F - 1)) (i := i); omega), q_4, q_5, (upto_nx (Φ := fun j : Int => (CX.mk p v all fst).visOk (RS.mk dn bk pl nw cs) j → ∀ k, CX.Fin (CX.mk p v all fst) ((CX.mk p v all fst).vis (RS.mk dn bk pl nw cs) j) k → BLe B1 c1 k) q_6 (fun o => absurd o (visO_not (s := (RS.mk dn bk pl nw cs)) hdn.1 (by show dn < _; omega) oO oO (hdel0 i oO oO) h42)))⟩) dO (Sub.get (.c4 U U U U (.c4 U U U U .n))) (fun w hw => hw.keep (.c (.t .h) (.c (.t .h) (.c (.t .h) (.c (.t .h) (.c (.t .h) (.c (.t .h) (.c (.t .h) (.c (.t .h) (.c (.t .h) .n)))))))))))
    exact .exitq idQ (end0 Try.results44 (.c .h (.c .h (.c .h (.c .h .n)))) ⟨M1, B1, c1, P1, (sri_done (y := (XS.mk dn bk pl nw cs xv.wlA xv.vl.length xv.wlc)) (A := A10) (cc := c11) hI hx U q_2 q_3 (fin_all hund q_4 q_5 (fun j j0 j1 => q_6 j j0 (by have j1 : j < (all.length : Int) := j1; omega)))), (srs_done (y := (XS.mk dn bk pl nw cs xv.wlA xv.vl.length xv.wlc)) (A := A10) (cc := c11) hx q_3 (tp_step hF0 oO oO)), (fin_all hund q_4 q_5 (fun j j0 j1 => q_6 j j0 (by have j1 : j < (all.length : Int) := j1; omega))), U, U⟩)
   refine .skipgo idQ (.seq ?_)
   have hI3 := hI2
   have hS3 : SrS (CX.mk p v all fst) (F - 1) (mset (mins M (KY.mk dn bk pl) dLB) (KY.mk dn bk pl) (LB.mk (((mget M (KY.mk dn bk pl) dLB).ll) ++ [(XS.mk dn bk pl nw cs xv.wlA xv.vl.length xv.wlc)]) A10 c11)) B c P (mset (mins M (KY.mk dn bk pl) dLB) (KY.mk dn bk pl) (LB.mk (((mget M (KY.mk dn bk pl) dLB).ll) ++ [(XS.mk dn bk pl nw cs xv.wlA xv.vl.length xv.wlc)]) A10 c11)) B219 c220 P (tp (F - 1)) := hS2.wk (Int.le_refl _) tp_0
   have hE3 : (CX.mk p v all fst).EndK (RS.mk dn bk pl nw cs) → BLe B219 c220 ((CX.mk p v all fst).endc (RS.mk dn bk pl nw cs)) := p23
   have hB3 : (CX.mk p v all fst).brkOk (RS.mk dn bk pl nw cs) → ∀ k, CX.Fin (CX.mk p v all fst) ((CX.mk p v all fst).brk (RS.mk dn bk pl nw cs)) k → BLe B219 c220 k := fun o => absurd o.2 h29
   refine .region (.m U U U (.v (ev_nil U U) U (.v (ev_fa U fo102_2 U (r := 19) U) U ?_)))
   refine .v (ev_ld1 U ty58 U (At.own1 1 U U)) U (.v (ev_len U Try.underlying58 U) U (.m U U U (.go idQ (.block ?_))))
   refine .loop (X := Int × (List (KY × LB)) × VL × Int × (List VL)) (fun ⟨i, M1, B1, c1, P1⟩ => 0 ≤ i ∧ i ≤ (all.length : Int) ∧ SrI (CX.mk p v all fst) (F - 1) M1 B1 c1 P1 ∧ SrS (CX.mk p v all fst) (F - 1) (mset (mins M (KY.mk dn bk pl) dLB) (KY.mk dn bk pl) (LB.mk (((mget M (KY.mk dn bk pl) dLB).ll) ++ [(XS.mk dn bk pl nw cs xv.wlA xv.vl.length xv.wlc)]) A10 c11)) B c P M1 B1 c1 P1 (tp (F - 1) + i * tp (F - 1)) ∧ ((CX.mk p v all fst).EndK (RS.mk dn bk pl nw cs) → BLe B1 c1 ((CX.mk p v all fst).endc (RS.mk dn bk pl nw cs))) ∧ ((CX.mk p v all fst).brkOk (RS.mk dn bk pl nw cs) → ∀ k, CX.Fin (CX.mk p v all fst) ((CX.mk p v all fst).brk (RS.mk dn bk pl nw cs)) k → BLe B1 c1 k) ∧ (∀ j : Int, 0 ≤ j → j < i → (CX.mk p v all fst).visOk (RS.mk dn bk pl nw cs) j → ∀ k, CX.Fin (CX.mk p v all fst) ((CX.mk p v all fst).vis (RS.mk dn bk pl nw cs) j) k → BLe B1 c1 k)) (fun ⟨i, M1, B1, c1, P1⟩ => [(0, .pointer (some ⟨b, 0, none⟩)), (3, .pointer (some ⟨b1, 0, none⟩)), (18, .slice ((mget M (KY.mk dn bk pl) dLB).bA) ((mget M (KY.mk dn bk pl) dLB).ll.length) ((mget M (KY.mk dn bk pl) dLB).bc)), (19, .int .i64 (((mget M (KY.mk dn bk pl) dLB).ll.length : Nat) : Int)), (20, .int .i64 j), (111, .slice aA all.length ac), (112, .int .i64 (all.length : Int)), (113, .int .i64 i)]) (fun ⟨i, M1, B1, c1, P1⟩ => [cel b28 [.slice ((gt v.brs bk).bwA) ((gt v.brs bk).bws.length) ((gt v.brs bk).bwc), .int .i64 ((gt v.brs bk).bsrv)] 73, cel b [.int .i64 p.dims, .int .i64 p.tn, .slice p.ptA p.time.length p.ptc, .int .i64 p.dn, .slice p.pdA p.dist.length p.pdc, .slice p.pvA p.vehs.length p.pvc, .slice p.pjA p.jobs.length p.pjc, .slice p.psA p.ships.length p.psc, .int .i64 v.st, .int .i64 v.en, .slice v.vcA v.vcap.length v.vcc, .int .u64 v.vsk, .int .i64 v.lo, .int .i64 v.hi, .int .i64 v.fix, .int .i64 v.pt, .int .i64 v.pd, .int .i64 v.mt, .slice v.vbA v.brs.length v.vbc, .slice aA all.length ac, .slice fA fst.length fc, .map (some mb_), .slice B1.wlA B1.vl.length B1.wlc, .int .i64 c1] 102, mb yo14 (rw_ eZ 3 (.slice yA15 ((abF p dn all 0 fst).length) yc16) (abF p dn all 0 fst)), nestLB 112 M1, mp keKY.f lbV mb_ M1, rw_ eXS 112 (.slice (some ⟨b7, 0, none⟩) 1 1) [(XS.mk dn bk pl nw cs xv.wlA xv.vl.length xv.wlc)], cel b1 [.int .i64 dn, .int .i64 bk, .int .i64 pl, .int .i64 nw, .int .i64 cs, .slice xv.wlA xv.vl.length xv.wlc] 112, nestVL 83 P1]) (fun _ => S) (fun _ => wf) (fun ⟨i, M1, B1, c1, P1⟩ => ((all.length : Int) - i).toNat) (fun a_ w_ hs_ hw_ => ⟨⟨0, (mset (mins M (KY.mk dn bk pl) dLB) (KY.mk dn bk pl) (LB.mk (((mget M (KY.mk dn bk pl) dLB).ll) ++ [(XS.mk dn bk pl nw cs xv.wlA xv.vl.length xv.wlc)]) A10 c11)), B219, c220, P⟩, (by (try dsimp only); exact ⟨by omega, by omega, hI3, hS3.wk (Int.le_refl _) oO, hE3, hB3, fun j j0 j1 => absurd j1 oO⟩), hs_.mono (Sub.get (.c4 U U U U (.c4 U U U U .n))), hw_.keep (.c .h (.c .h (.c .h (.c .h (.c .h (.c .h (.c .h (.c .h .n))))))))⟩) (fun ⟨i, M1, B1, c1, P1⟩ ⟨q_0, q_1, q_2, q_3, q_4, q_5, q_6⟩ => ?_)
   show SC _ _ _ _ _ ⟨[(0, .pointer (some ⟨b, 0, none⟩)), (3, .pointer (some ⟨b1, 0, none⟩)), (18, .slice ((mget M (KY.mk dn bk pl) dLB).bA) ((mget M (KY.mk dn bk pl) dLB).ll.length) ((mget M (KY.mk dn bk pl) dLB).bc)), (19, .int .i64 (((mget M (KY.mk dn bk pl) dLB).ll.length : Nat) : Int)), (20, .int .i64 j), (111, .slice aA all.length ac), (112, .int .i64 (all.length : Int)), (113, .int .i64 i)], [cel b28 [.slice ((gt v.brs bk).bwA) ((gt v.brs bk).bws.length) ((gt v.brs bk).bwc), .int .i64 ((gt v.brs bk).bsrv)] 73, cel b [.int .i64 p.dims, .int .i64 p.tn, .slice p.ptA p.time.length p.ptc, .int .i64 p.dn, .slice p.pdA p.dist.length p.pdc, .slice p.pvA p.vehs.length p.pvc, .slice p.pjA p.jobs.length p.pjc, .slice p.psA p.ships.length p.psc, .int .i64 v.st, .int .i64 v.en, .slice v.vcA v.vcap.length v.vcc, .int .u64 v.vsk, .int .i64 v.lo, .int .i64 v.hi, .int .i64 v.fix, .int .i64 v.pt, .int .i64 v.pd, .int .i64 v.mt, .slice v.vbA v.brs.length v.vbc, .slice aA all.length ac, .slice fA fst.length fc, .map (some mb_), .slice B1.wlA B1.vl.length B1.wlc, .int .i64 c1] 102, mb yo14 (rw_ eZ 3 (.slice yA15 ((abF p dn all 0 fst).length) yc16) (abF p dn all 0 fst)), nestLB 112 M1, mp keKY.f lbV mb_ M1, rw_ eXS 112 (.slice (some ⟨b7, 0, none⟩) 1 1) [(XS.mk dn bk pl nw cs xv.wlA xv.vl.length xv.wlc)], cel b1 [.int .i64 dn, .int .i64 bk, .int .i64 pl, .int .i64 nw, .int .i64 cs, .slice xv.wlA xv.vl.length xv.wlc] 112, nestVL 83 P1], S, wf⟩
   have hdel := hdel0 i
   refine .seq (.region (.v (ev_cmp U U U U) U (.go idQ (.seq (.condI U bD (fun h51 => ?_) (fun h51 => ?_))))))
   ·
    refine .skipgo idQ (.seq (.block (.seq ?_)))
    have hdel1 := hdel oO oO
    have hgi : gt all i ∈ all := gt_in oO oO
    refine .region (.m U U U (.v (ev_ix U Try.underlying58 ty83 U U oO oO (fun _ _ => Fr.adr (i := i) hA oO oO)) U (.v (ev_lda U U (At.w (Fr.el (i := i) hA oO oO)) ty83) U ?_)))
    refine .cons (st_alloc U U U U zf83 (fun b52 => ?_))
    refine .a U U U (.cons (st_storea (l' := [.int .i64 ((gt all i).kind), .int .i64 ((gt all i).item)]) U U U ty83 U U U .h U U (.go idQ (.seq (.region (.v (ev_fa U fo112_0 U (r := 0) U) U ?_))))))
    refine .v (ev_fa U fo110_0 U (r := 0) U) U (.v (ev_ld1 U ty3 U (At.own1 7 U U)) U (.m U U U (.v (ev_shr (r := (shrI dn i)) U U U oO U) U ?_)))
    refine .v (ev_band U U U) U (.v (ev_cmp U U U U) U (.m U U U (.w (fun _ => ev_fa U fo83_0 U (r := 0) U) U ?_)))
    refine .w (fun hb => ev_ld1 U ty81 (lkg U hb) (At.own1 0 U U)) U (.w (fun hb => ev_cmp U (lkg U hb) U U) U (.w (fun hb => ev_mv U (lkg U hb)) U (.cons (Ev.ggstep (b1 := ((bnd .i64 (shrI dn i) 1) == 0)) (b := (((gt all i).kind) != 3)) cb_tf (fun hb1 _ => ev_fa U fo112_0 U (r := 0) U) U U U U U ?_))))
    refine .cons (Ev.ggstep (b1 := ((bnd .i64 (shrI dn i) 1) == 0)) (b := (((gt all i).kind) != 3)) cb_tf (fun hb1 hb => ev_fa U fo110_0 (lkg U hb) (r := 0) U) U U U U U ?_)
    refine .cons (Ev.ggstep (b1 := ((bnd .i64 (shrI dn i) 1) == 0)) (b := (((gt all i).kind) != 3)) cb_tf (fun hb1 hb => ev_ld1 U ty3 (lkg U hb) (At.own1 7 U U)) U U U U U ?_)
    refine .cons (Ev.ggstep (b1 := ((bnd .i64 (shrI dn i) 1) == 0)) (b := (((gt all i).kind) != 3)) cb_tf (fun hb1 _ => ev_mv U U) U U U U U ?_)
    refine .cons (Ev.ggstep (b1 := ((bnd .i64 (shrI dn i) 1) == 0)) (b := (((gt all i).kind) != 3)) cb_tf (fun hb1 hb => have hp := bT (bA bE (bN bNE)) hb; ev_sub U (lkg U hb) U (r := (i - 1)) U (by have _h := hp; omega) (by have _h := hp; omega)) U U U U U ?_)
    refine .cons (Ev.ggstep (b1 := ((bnd .i64 (shrI dn i) 1) == 0)) (b := (((gt all i).kind) != 3)) cb_tf (fun hb1 hb => have hp := bT (bA bE (bN bNE)) hb; ev_shr (r := (shrI dn (i - 1))) U (lkg U hb) (lkg U hb) (by have _h := hp; omega) U) U U U U U ?_)
    refine .cons (Ev.ggstep (b1 := ((bnd .i64 (shrI dn i) 1) == 0)) (b := (((gt all i).kind) != 3)) cb_tf (fun hb1 hb => ev_band U (lkg U hb) U) U U U U U ?_)
    refine .cons (Ev.ggstep (b1 := ((bnd .i64 (shrI dn i) 1) == 0)) (b := (((gt all i).kind) != 3)) cb_tf (fun hb1 hb => ev_cmp U (lkg U hb) U U) U U U U U ?_)
    refine .w (fun hb => ev_or U (lkg U hb) U (lkgn U cb_tf hb)) U (.v (ev_and U U U U) U (.go idQ (.condI U (bA bE (bO bNE bNE)) (fun h53 => ?_) (fun h53 => ?_))))
    ·
     have hb1 : bt dn i = false := (bit_0 hdn.1 oO oO oO).1 h53.1
     have hb2 : (gt all i).kind = 3 → bt dn (i - 1) = true := fun h3_ => bit_1 hdn.1 oO (by have := hdel1 h3_; omega) oO (h53.2.resolve_left (fun h4_ => h4_ h3_))
     have hng := nun_get (d := dn) (i := i) oO hb1 (n := all.length) oO
     have hrem : nun dn all.length + ((v.brs.length : Int) - bk) = F := hx.rem
     have htr := t_room ht (tp_step (f := F) (n := 8) hF0 (by decide) (by decide)) (tp_0 (f := F - 1)) (i := i) oO
     refine .region (.m U U U (.v (ev_lda U U (At.whole 7 U) ty112) U (.m U U U ?_)))
     refine .v (ev_lda U U (At.whole 0 U) ty83) U (.cons (st_call0 U U U U hbd64 U (.c (.t (.t .h)) (.c (.t (.t (.t (.t .h)))) (.c (.t (.t (.t .h))) (.c (.t (.t (.t (.t (.t .h))))) .n)))) (step_ f p v b aA ac all fA fc fst mb_ B1 c1 dn bk pl nw cs xv P1 M1 F (t + 1 + (tp (F - 1) + i * tp (F - 1))) i _ _ hA hF hPB hVH hO oO q_2 hx hund (q_3.sub _ hm) (cnt_all (y := (XS.mk dn bk pl nw cs xv.wlA xv.vl.length xv.wlc)) (A := A10) (cc := c11) hx q_3 hbd) htr hn0 hfo oO hb1 hb2 ih) (fun v_q58 C_q58 q58 => ?_)))
     obtain ⟨M254, B255, c256, P257, p59, p60, p61, rfl, rfl⟩ := q58
     show SP _ _ _ _ _ _ ⟨_, _ :: _ :: _ :: _ :: _, _, _⟩
     refine .go idQ (.region (.v (ev_add U U U (r := (i + 1)) U oO oO) U (.m U U U ?_)))
     exact SP.nil (SQ.roundb (X := Int × (List (KY × LB)) × VL × Int × (List VL)) (x := (i, M1, B1, c1, P1)) ⟨(i + 1), M254, B255, c256, P257⟩ (by (try dsimp only); exact ⟨by omega, by omega, p59, (q_3.trans p60).wk (Int.le_refl _) t_next, fun e => p60.le _ (q_4 e), fun o k hk => p60.le k (q_5 o k hk), (upto_nx (Φ := fun j : Int => (CX.mk p v all fst).visOk (RS.mk dn bk pl nw cs) j → ∀ k, CX.Fin (CX.mk p v all fst) ((CX.mk p v all fst).vis (RS.mk dn bk pl nw cs) j) k → BLe B255 c256 k) (fun j j0 j1 o k hk => p60.le k (q_6 j j0 j1 o k hk)) p61)⟩) dO (Sub.get (.c4 U U U U (.c4 U U U U .n))) (fun w hw => hw.keep (.c (.t (.t (.t (.t (.t .h))))) (.c .h (.c (.t (.t (.t (.t .h)))) (.c (.t .h) (.c .h (.c (.t (.t .h)) (.c (.t (.t .h)) (.c .h .n))))))))))
    refine .skipgo idQ (.region (.v (ev_add U U U (r := (i + 1)) U oO oO) U (.m U U U ?_)))
    exact SP.nil (SQ.roundb (X := Int × (List (KY × LB)) × VL × Int × (List VL)) (x := (i, M1, B1, c1, P1)) ⟨(i + 1), M1, B1, c1, P1⟩ (by (try dsimp only); exact ⟨by omega, by omega, q_2, q_3.wk (Int.le_refl _) (by have := tp_0 (f := F - 1); have := t_next (T := tp (F - 1)) (i := i); omega), q_4, q_5, (upto_nx (Φ := fun j : Int => (CX.mk p v all fst).visOk (RS.mk dn bk pl nw cs) j → ∀ k, CX.Fin (CX.mk p v all fst) ((CX.mk p v all fst).vis (RS.mk dn bk pl nw cs) j) k → BLe B1 c1 k) q_6 (fun o => absurd o (visO_not (s := (RS.mk dn bk pl nw cs)) hdn.1 (by show dn < _; omega) oO oO (hdel0 i oO oO) h53)))⟩) dO (Sub.get (.c4 U U U U (.c4 U U U U .n))) (fun w hw => hw.keep (.c (.t .h) (.c (.t .h) (.c (.t .h) (.c (.t .h) (.c (.t .h) (.c (.t .h) (.c (.t .h) (.c (.t .h) .n))))))))))
   exact .exitq idQ (end0 Try.results44 (.c (.t .h) (.c (.t (.t (.t .h))) (.c (.t (.t .h)) (.c (.t (.t (.t (.t .h)))) .n)))) ⟨M1, B1, c1, P1, (sri_done (y := (XS.mk dn bk pl nw cs xv.wlA xv.vl.length xv.wlc)) (A := A10) (cc := c11) hI hx U q_2 q_3 (fin_all hund q_4 q_5 (fun j j0 j1 => q_6 j j0 (by have j1 : j < (all.length : Int) := j1; omega)))), (srs_done (y := (XS.mk dn bk pl nw cs xv.wlA xv.vl.length xv.wlc)) (A := A10) (cc := c11) hx q_3 (tp_step hF0 oO oO)), (fin_all hund q_4 q_5 (fun j j0 j1 => q_6 j j0 (by have j1 : j < (all.length : Int) := j1; omega))), U, U⟩)
  refine .skipgo idQ (.seq ?_)
  have hI3 := hI2
  have hS3 : SrS (CX.mk p v all fst) (F - 1) (mset (mins M (KY.mk dn bk pl) dLB) (KY.mk dn bk pl) (LB.mk (((mget M (KY.mk dn bk pl) dLB).ll) ++ [(XS.mk dn bk pl nw cs xv.wlA xv.vl.length xv.wlc)]) A10 c11)) B c P (mset (mins M (KY.mk dn bk pl) dLB) (KY.mk dn bk pl) (LB.mk (((mget M (KY.mk dn bk pl) dLB).ll) ++ [(XS.mk dn bk pl nw cs xv.wlA xv.vl.length xv.wlc)]) A10 c11)) B219 c220 P (tp (F - 1)) := hS2.wk (Int.le_refl _) tp_0
  have hE3 : (CX.mk p v all fst).EndK (RS.mk dn bk pl nw cs) → BLe B219 c220 ((CX.mk p v all fst).endc (RS.mk dn bk pl nw cs)) := p23
  have hB3 : (CX.mk p v all fst).brkOk (RS.mk dn bk pl nw cs) → ∀ k, CX.Fin (CX.mk p v all fst) ((CX.mk p v all fst).brk (RS.mk dn bk pl nw cs)) k → BLe B219 c220 k := fun o => absurd o.1 (by show ¬ bk < _; omega)
  refine .region (.m U U U (.v (ev_nil U U) U (.v (ev_fa U fo102_2 U (r := 19) U) U ?_)))
  refine .v (ev_ld1 U ty58 U (At.own1 0 U U)) U (.v (ev_len U Try.underlying58 U) U (.m U U U (.go idQ (.block ?_))))
  refine .loop (X := Int × (List (KY × LB)) × VL × Int × (List VL)) (fun ⟨i, M1, B1, c1, P1⟩ => 0 ≤ i ∧ i ≤ (all.length : Int) ∧ SrI (CX.mk p v all fst) (F - 1) M1 B1 c1 P1 ∧ SrS (CX.mk p v all fst) (F - 1) (mset (mins M (KY.mk dn bk pl) dLB) (KY.mk dn bk pl) (LB.mk (((mget M (KY.mk dn bk pl) dLB).ll) ++ [(XS.mk dn bk pl nw cs xv.wlA xv.vl.length xv.wlc)]) A10 c11)) B c P M1 B1 c1 P1 (tp (F - 1) + i * tp (F - 1)) ∧ ((CX.mk p v all fst).EndK (RS.mk dn bk pl nw cs) → BLe B1 c1 ((CX.mk p v all fst).endc (RS.mk dn bk pl nw cs))) ∧ ((CX.mk p v all fst).brkOk (RS.mk dn bk pl nw cs) → ∀ k, CX.Fin (CX.mk p v all fst) ((CX.mk p v all fst).brk (RS.mk dn bk pl nw cs)) k → BLe B1 c1 k) ∧ (∀ j : Int, 0 ≤ j → j < i → (CX.mk p v all fst).visOk (RS.mk dn bk pl nw cs) j → ∀ k, CX.Fin (CX.mk p v all fst) ((CX.mk p v all fst).vis (RS.mk dn bk pl nw cs) j) k → BLe B1 c1 k)) (fun ⟨i, M1, B1, c1, P1⟩ => [(0, .pointer (some ⟨b, 0, none⟩)), (3, .pointer (some ⟨b1, 0, none⟩)), (18, .slice ((mget M (KY.mk dn bk pl) dLB).bA) ((mget M (KY.mk dn bk pl) dLB).ll.length) ((mget M (KY.mk dn bk pl) dLB).bc)), (19, .int .i64 (((mget M (KY.mk dn bk pl) dLB).ll.length : Nat) : Int)), (20, .int .i64 j), (111, .slice aA all.length ac), (112, .int .i64 (all.length : Int)), (113, .int .i64 i)]) (fun ⟨i, M1, B1, c1, P1⟩ => [cel b [.int .i64 p.dims, .int .i64 p.tn, .slice p.ptA p.time.length p.ptc, .int .i64 p.dn, .slice p.pdA p.dist.length p.pdc, .slice p.pvA p.vehs.length p.pvc, .slice p.pjA p.jobs.length p.pjc, .slice p.psA p.ships.length p.psc, .int .i64 v.st, .int .i64 v.en, .slice v.vcA v.vcap.length v.vcc, .int .u64 v.vsk, .int .i64 v.lo, .int .i64 v.hi, .int .i64 v.fix, .int .i64 v.pt, .int .i64 v.pd, .int .i64 v.mt, .slice v.vbA v.brs.length v.vbc, .slice aA all.length ac, .slice fA fst.length fc, .map (some mb_), .slice B1.wlA B1.vl.length B1.wlc, .int .i64 c1] 102, mb yo14 (rw_ eZ 3 (.slice yA15 ((abF p dn all 0 fst).length) yc16) (abF p dn all 0 fst)), nestLB 112 M1, mp keKY.f lbV mb_ M1, rw_ eXS 112 (.slice (some ⟨b7, 0, none⟩) 1 1) [(XS.mk dn bk pl nw cs xv.wlA xv.vl.length xv.wlc)], cel b1 [.int .i64 dn, .int .i64 bk, .int .i64 pl, .int .i64 nw, .int .i64 cs, .slice xv.wlA xv.vl.length xv.wlc] 112, nestVL 83 P1]) (fun _ => S) (fun _ => wf) (fun ⟨i, M1, B1, c1, P1⟩ => ((all.length : Int) - i).toNat) (fun a_ w_ hs_ hw_ => ⟨⟨0, (mset (mins M (KY.mk dn bk pl) dLB) (KY.mk dn bk pl) (LB.mk (((mget M (KY.mk dn bk pl) dLB).ll) ++ [(XS.mk dn bk pl nw cs xv.wlA xv.vl.length xv.wlc)]) A10 c11)), B219, c220, P⟩, (by (try dsimp only); exact ⟨by omega, by omega, hI3, hS3.wk (Int.le_refl _) oO, hE3, hB3, fun j j0 j1 => absurd j1 oO⟩), hs_.mono (Sub.get (.c4 U U U U (.c4 U U U U .n))), hw_.keep (.c .h (.c .h (.c .h (.c .h (.c .h (.c .h (.c .h .n)))))))⟩) (fun ⟨i, M1, B1, c1, P1⟩ ⟨q_0, q_1, q_2, q_3, q_4, q_5, q_6⟩ => ?_)
  show SC _ _ _ _ _ ⟨[(0, .pointer (some ⟨b, 0, none⟩)), (3, .pointer (some ⟨b1, 0, none⟩)), (18, .slice ((mget M (KY.mk dn bk pl) dLB).bA) ((mget M (KY.mk dn bk pl) dLB).ll.length) ((mget M (KY.mk dn bk pl) dLB).bc)), (19, .int .i64 (((mget M (KY.mk dn bk pl) dLB).ll.length : Nat) : Int)), (20, .int .i64 j), (111, .slice aA all.length ac), (112, .int .i64 (all.length : Int)), (113, .int .i64 i)], [cel b [.int .i64 p.dims, .int .i64 p.tn, .slice p.ptA p.time.length p.ptc, .int .i64 p.dn, .slice p.pdA p.dist.length p.pdc, .slice p.pvA p.vehs.length p.pvc, .slice p.pjA p.jobs.length p.pjc, .slice p.psA p.ships.length p.psc, .int .i64 v.st, .int .i64 v.en, .slice v.vcA v.vcap.length v.vcc, .int .u64 v.vsk, .int .i64 v.lo, .int .i64 v.hi, .int .i64 v.fix, .int .i64 v.pt, .int .i64 v.pd, .int .i64 v.mt, .slice v.vbA v.brs.length v.vbc, .slice aA all.length ac, .slice fA fst.length fc, .map (some mb_), .slice B1.wlA B1.vl.length B1.wlc, .int .i64 c1] 102, mb yo14 (rw_ eZ 3 (.slice yA15 ((abF p dn all 0 fst).length) yc16) (abF p dn all 0 fst)), nestLB 112 M1, mp keKY.f lbV mb_ M1, rw_ eXS 112 (.slice (some ⟨b7, 0, none⟩) 1 1) [(XS.mk dn bk pl nw cs xv.wlA xv.vl.length xv.wlc)], cel b1 [.int .i64 dn, .int .i64 bk, .int .i64 pl, .int .i64 nw, .int .i64 cs, .slice xv.wlA xv.vl.length xv.wlc] 112, nestVL 83 P1], S, wf⟩
  have hdel := hdel0 i
  refine .seq (.region (.v (ev_cmp U U U U) U (.go idQ (.seq (.condI U bD (fun h62 => ?_) (fun h62 => ?_))))))
  ·
   refine .skipgo idQ (.seq (.block (.seq ?_)))
   have hdel1 := hdel oO oO
   have hgi : gt all i ∈ all := gt_in oO oO
   refine .region (.m U U U (.v (ev_ix U Try.underlying58 ty83 U U oO oO (fun _ _ => Fr.adr (i := i) hA oO oO)) U (.v (ev_lda U U (At.w (Fr.el (i := i) hA oO oO)) ty83) U ?_)))
   refine .cons (st_alloc U U U U zf83 (fun b63 => ?_))
   refine .a U U U (.cons (st_storea (l' := [.int .i64 ((gt all i).kind), .int .i64 ((gt all i).item)]) U U U ty83 U U U .h U U (.go idQ (.seq (.region (.v (ev_fa U fo112_0 U (r := 0) U) U ?_))))))
   refine .v (ev_fa U fo110_0 U (r := 0) U) U (.v (ev_ld1 U ty3 U (At.own1 6 U U)) U (.m U U U (.v (ev_shr (r := (shrI dn i)) U U U oO U) U ?_)))
   refine .v (ev_band U U U) U (.v (ev_cmp U U U U) U (.m U U U (.w (fun _ => ev_fa U fo83_0 U (r := 0) U) U ?_)))
   refine .w (fun hb => ev_ld1 U ty81 (lkg U hb) (At.own1 0 U U)) U (.w (fun hb => ev_cmp U (lkg U hb) U U) U (.w (fun hb => ev_mv U (lkg U hb)) U (.cons (Ev.ggstep (b1 := ((bnd .i64 (shrI dn i) 1) == 0)) (b := (((gt all i).kind) != 3)) cb_tf (fun hb1 _ => ev_fa U fo112_0 U (r := 0) U) U U U U U ?_))))
   refine .cons (Ev.ggstep (b1 := ((bnd .i64 (shrI dn i) 1) == 0)) (b := (((gt all i).kind) != 3)) cb_tf (fun hb1 hb => ev_fa U fo110_0 (lkg U hb) (r := 0) U) U U U U U ?_)
   refine .cons (Ev.ggstep (b1 := ((bnd .i64 (shrI dn i) 1) == 0)) (b := (((gt all i).kind) != 3)) cb_tf (fun hb1 hb => ev_ld1 U ty3 (lkg U hb) (At.own1 6 U U)) U U U U U ?_)
   refine .cons (Ev.ggstep (b1 := ((bnd .i64 (shrI dn i) 1) == 0)) (b := (((gt all i).kind) != 3)) cb_tf (fun hb1 _ => ev_mv U U) U U U U U ?_)
   refine .cons (Ev.ggstep (b1 := ((bnd .i64 (shrI dn i) 1) == 0)) (b := (((gt all i).kind) != 3)) cb_tf (fun hb1 hb => have hp := bT (bA bE (bN bNE)) hb; ev_sub U (lkg U hb) U (r := (i - 1)) U (by have _h := hp; omega) (by have _h := hp; omega)) U U U U U ?_)
   refine .cons (Ev.ggstep (b1 := ((bnd .i64 (shrI dn i) 1) == 0)) (b := (((gt all i).kind) != 3)) cb_tf (fun hb1 hb => have hp := bT (bA bE (bN bNE)) hb; ev_shr (r := (shrI dn (i - 1))) U (lkg U hb) (lkg U hb) (by have _h := hp; omega) U) U U U U U ?_)
   refine .cons (Ev.ggstep (b1 := ((bnd .i64 (shrI dn i) 1) == 0)) (b := (((gt all i).kind) != 3)) cb_tf (fun hb1 hb => ev_band U (lkg U hb) U) U U U U U ?_)
   refine .cons (Ev.ggstep (b1 := ((bnd .i64 (shrI dn i) 1) == 0)) (b := (((gt all i).kind) != 3)) cb_tf (fun hb1 hb => ev_cmp U (lkg U hb) U U) U U U U U ?_)
   refine .w (fun hb => ev_or U (lkg U hb) U (lkgn U cb_tf hb)) U (.v (ev_and U U U U) U (.go idQ (.condI U (bA bE (bO bNE bNE)) (fun h64 => ?_) (fun h64 => ?_))))
   ·
    have hb1 : bt dn i = false := (bit_0 hdn.1 oO oO oO).1 h64.1
    have hb2 : (gt all i).kind = 3 → bt dn (i - 1) = true := fun h3_ => bit_1 hdn.1 oO (by have := hdel1 h3_; omega) oO (h64.2.resolve_left (fun h4_ => h4_ h3_))
    have hng := nun_get (d := dn) (i := i) oO hb1 (n := all.length) oO
    have hrem : nun dn all.length + ((v.brs.length : Int) - bk) = F := hx.rem
    have htr := t_room ht (tp_step (f := F) (n := 8) hF0 (by decide) (by decide)) (tp_0 (f := F - 1)) (i := i) oO
    refine .region (.m U U U (.v (ev_lda U U (At.whole 6 U) ty112) U (.m U U U ?_)))
    refine .v (ev_lda U U (At.whole 0 U) ty83) U (.cons (st_call0 U U U U hbd64 U (.c (.t .h) (.c (.t (.t (.t .h))) (.c (.t (.t .h)) (.c (.t (.t (.t (.t .h)))) .n)))) (step_ f p v b aA ac all fA fc fst mb_ B1 c1 dn bk pl nw cs xv P1 M1 F (t + 1 + (tp (F - 1) + i * tp (F - 1))) i _ _ hA hF hPB hVH hO oO q_2 hx hund (q_3.sub _ hm) (cnt_all (y := (XS.mk dn bk pl nw cs xv.wlA xv.vl.length xv.wlc)) (A := A10) (cc := c11) hx q_3 hbd) htr hn0 hfo oO hb1 hb2 ih) (fun v_q69 C_q69 q69 => ?_)))
    obtain ⟨M265, B266, c267, P268, p70, p71, p72, rfl, rfl⟩ := q69
    show SP _ _ _ _ _ _ ⟨_, _ :: _ :: _ :: _ :: _, _, _⟩
    refine .go idQ (.region (.v (ev_add U U U (r := (i + 1)) U oO oO) U (.m U U U ?_)))
    exact SP.nil (SQ.roundb (X := Int × (List (KY × LB)) × VL × Int × (List VL)) (x := (i, M1, B1, c1, P1)) ⟨(i + 1), M265, B266, c267, P268⟩ (by (try dsimp only); exact ⟨by omega, by omega, p70, (q_3.trans p71).wk (Int.le_refl _) t_next, fun e => p71.le _ (q_4 e), fun o k hk => p71.le k (q_5 o k hk), (upto_nx (Φ := fun j : Int => (CX.mk p v all fst).visOk (RS.mk dn bk pl nw cs) j → ∀ k, CX.Fin (CX.mk p v all fst) ((CX.mk p v all fst).vis (RS.mk dn bk pl nw cs) j) k → BLe B266 c267 k) (fun j j0 j1 o k hk => p71.le k (q_6 j j0 j1 o k hk)) p72)⟩) dO (Sub.get (.c4 U U U U (.c4 U U U U .n))) (fun w hw => hw.keep (.c .h (.c (.t (.t (.t (.t .h)))) (.c (.t .h) (.c .h (.c (.t (.t .h)) (.c (.t (.t .h)) (.c .h .n)))))))))
   refine .skipgo idQ (.region (.v (ev_add U U U (r := (i + 1)) U oO oO) U (.m U U U ?_)))
   exact SP.nil (SQ.roundb (X := Int × (List (KY × LB)) × VL × Int × (List VL)) (x := (i, M1, B1, c1, P1)) ⟨(i + 1), M1, B1, c1, P1⟩ (by (try dsimp only); exact ⟨by omega, by omega, q_2, q_3.wk (Int.le_refl _) (by have := tp_0 (f := F - 1); have := t_next (T := tp (F - 1)) (i := i); omega), q_4, q_5, (upto_nx (Φ := fun j : Int => (CX.mk p v all fst).visOk (RS.mk dn bk pl nw cs) j → ∀ k, CX.Fin (CX.mk p v all fst) ((CX.mk p v all fst).vis (RS.mk dn bk pl nw cs) j) k → BLe B1 c1 k) q_6 (fun o => absurd o (visO_not (s := (RS.mk dn bk pl nw cs)) hdn.1 (by show dn < _; omega) oO oO (hdel0 i oO oO) h64)))⟩) dO (Sub.get (.c4 U U U U (.c4 U U U U .n))) (fun w hw => hw.keep (.c (.t .h) (.c (.t .h) (.c (.t .h) (.c (.t .h) (.c (.t .h) (.c (.t .h) (.c (.t .h) .n)))))))))
  exact .exitq idQ (end0 Try.results44 (.c .h (.c (.t (.t .h)) (.c (.t .h) (.c (.t (.t (.t .h))) .n)))) ⟨M1, B1, c1, P1, (sri_done (y := (XS.mk dn bk pl nw cs xv.wlA xv.vl.length xv.wlc)) (A := A10) (cc := c11) hI hx U q_2 q_3 (fin_all hund q_4 q_5 (fun j j0 j1 => q_6 j j0 (by have j1 : j < (all.length : Int) := j1; omega)))), (srs_done (y := (XS.mk dn bk pl nw cs xv.wlA xv.vl.length xv.wlc)) (A := A10) (cc := c11) hx q_3 (tp_step hF0 oO oO)), (fin_all hund q_4 q_5 (fun j j0 j1 => q_6 j j0 (by have j1 : j < (all.length : Int) := j1; omega))), U, U⟩)
 refine SR.m 0 U U U U ?_
 refine SR.z 1 U U (ev_fa U fo112_0 U (r := 0) U) ?_
 refine SR.z 2 U U (ev_fa U fo110_0 U (r := 0) U) ?_
 refine SR.z 3 U U (ev_ld1 U ty3 U (At.d (At.lent hR_13 3 U U))) ?_
 refine SR.m 5 U U U U ?_
 refine SR.z 6 U U (ev_nil U U) ?_
 refine SR.z 7 U U (ev_fa U fo102_1 U (r := 8) U) ?_
 refine SR.z 8 U U (ev_fa U fo37_2 U (r := 10) U) ?_
 refine SR.two (i := 4) (j := 9) kR ⟨_, U, ?_⟩ ⟨_, U, ?_⟩
 ·
  refine st_call0 U U U U hbd61 U (.c .h .n) (aboard_ p v b aA ac all fA fc fst mb_ B c dn _ _ (Fr.ext hA hx_13) (Fr.ext hF hx_13) ((hPB).ext hx_13) ((hVH).ext hx_13) hO oO hfo) (fun v_q76 C_q76 q76 => ⟨tt0, ?_⟩)
  obtain ⟨ow73, A274, c275, p77, p78, rfl, rfl⟩ := q76
  show SR _ _ _ _ _ _ _ _ _ ⟨_, _ :: _ :: _, _, _⟩
  refine SR.o 9 U (Ev.step (ev_ld1 U ty22 U (At.own1 0 U U)) U U U ⟨tt0, ?_⟩)
  refine SR.o 10 U (st_lendk U U U U hbd60 U .n (.c (.t .h) .n) (fun w_ hw => lunder A274 c275 (abF p dn all 0 fst) v.vcA v.vcc v.vcap _ _ (Fr.lendm hw 0 U (by have h_ := p78; have hd_ := hL.dims; omega) p77) (Fr.ext ((hVH).ext hx_13).1 hw.lendx)) ⟨tt0, ?_⟩)
  refine SR.z 11 U U (ev_not U U) ?_
  refine SR.fin kR hl_13 hx_13 hR_13 (.c (.c .n)) ?_
  exact SQ.weak (key17 (ow73, A274, c275)) (Sub.get (.c4 U U U U (.c U (.c U (.c U .n))))) (fun w hw => hw.keep (.c .h (.c .h (.c .h (.c .h (.c .h (.c .h (.c .h .n))))))))
 refine Ev.step (ev_ld1 U ty22 U (At.own1 0 U U)) U U U ⟨tt0, ?_⟩
 refine SR.o 4 U (st_call0 U U U U hbd61 U (.c .h .n) (aboard_ p v b aA ac all fA fc fst mb_ B c dn _ _ (Fr.ext hA hx_13) (Fr.ext hF hx_13) ((hPB).ext hx_13) ((hVH).ext hx_13) hO oO hfo) (fun v_q82 C_q82 q82 => ⟨tt0, ?_⟩))
 obtain ⟨ow79, A280, c281, p83, p84, rfl, rfl⟩ := q82
 show SR _ _ _ _ _ _ _ _ _ ⟨_, _ :: _ :: _, _, _⟩
 refine SR.o 10 U (st_lendk U U U U hbd60 U .n (.c (.t .h) .n) (fun w_ hw => lunder A280 c281 (abF p dn all 0 fst) v.vcA v.vcc v.vcap _ _ (Fr.lendm hw 0 U (by have h_ := p84; have hd_ := hL.dims; omega) p83) (Fr.ext ((hVH).ext hx_13).1 hw.lendx)) ⟨tt0, ?_⟩)
 refine SR.z 11 U U (ev_not U U) ?_
 refine SR.fin kR hl_13 hx_13 hR_13 (.c (.c .n)) ?_
 exact SQ.weak (key17 (ow79, A280, c281)) (Sub.get (.c4 U U U U (.c U (.c U (.c U .n))))) (fun w hw => hw.keep (.c .h (.c .h (.c .h (.c .h (.c .h (.c .h (.c .h .n))))))))
end Go.Proofs.Ytimhdimhdimbjaa.Sx
