import Derived.Test.YtimhdimhdimbjaaGreatProg
import Derived.Test.YtimhdimhdimbjaaGreatS3
set_option linter.unusedVariables false
set_option linter.unusedSimpArgs false
set_option linter.unusedSectionVars false
set_option maxRecDepth 20000
set_option maxHeartbeats 1000000
namespace Go.Proofs.YtimhdimhdimbjaaGreat.Sx.FD
open Go Go.SX Go.Proofs Go.Proofs.Tryz FA FB FC
theorem hbd156 : hasBody prog 156 = true := by kernel_rfl
theorem fo72_2 : fo prog 72 2 = some 2 := by kernel_rfl
theorem hbd82 : hasBody prog 82 = true := by kernel_rfl
theorem fo72_0 : fo prog 72 0 = some 0 := by kernel_rfl
theorem fo78_0 : fo prog 78 0 = some 0 := by kernel_rfl
theorem fo72_1 : fo prog 72 1 = some 1 := by kernel_rfl
theorem ty72 : ty prog 72 = some (true, 11) := by kernel_rfl
theorem hbd157 : hasBody prog 157 = true := by kernel_rfl
theorem fo29_1 : fo prog 29 1 = some 1 := by kernel_rfl
theorem ty24 : ty prog 24 = some (true, 2) := by kernel_rfl
theorem hbd122 : hasBody prog 122 = true := by kernel_rfl
theorem fo29_2 : fo prog 29 2 = some 3 := by kernel_rfl
theorem fo86_2 : fo prog 86 2 = some 2 := by kernel_rfl
theorem fo86_3 : fo prog 86 3 = some 3 := by kernel_rfl
end Go.Proofs.YtimhdimhdimbjaaGreat.Sx.FD
namespace Go.Proofs.YtimhdimhdimbjaaGreat.Sx
open Go Go.SX Go.Proofs Go.Proofs.Tryz FA FB FC FD
theorem loadsc_ (p : PB) (v : VH) (A : Option Addr) (c : Nat) (l : List Vis) (S : Nat → Prop) (wf : World) (hA : Fr eVis S wf A l) (hPB : PBF S wf p) (hVH : VHF S wf v) (hL : LawP p) (hll : l.length ≤ 60) :
  TR0 prog 130 [.agg (cPB p).toArray, .agg #[.int .i64 v.st, .int .i64 v.en, .slice v.vcA v.vcap.length v.vcc, .int .u64 v.vsk, .int .i64 v.lo, .int .i64 v.hi, .int .i64 v.fix, .int .i64 v.pt, .int .i64 v.pd, .int .i64 v.mt, .slice v.vbA v.brs.length v.vbc], .slice A l.length c] [] S wf (fun v_ C_ => v_ = .int .i64 (errI (allUnder v.vcap (loadsF p l)) 165) ∧ C_ = []) := by
 have hla := hA.len
 refine TR.mk func130 G ntmps130 G G (fun w_ => ?_)
 refine .seq (.region (.cons (st_boxa G G G G G (fun b1 => (.cons (st_boxa G G G G G (fun b2 => (.a G G G ?_))))))))
 refine .go idQ (.seq (.seq (.region (.d 1 ty29 G G G G (.m G G G (.cons (st_call0 G G G G hbd156 G .n (loads_ p A c l _ _ hA hPB oO lO) (fun v_q5 C_q5 q5 => ?_))))))))
 obtain ⟨u3, Y4, p6, rfl, rfl⟩ := q5
 show SP _ _ _ _ _ _ ⟨_, _ :: _ :: _, _, _⟩
 have hY := p6
 refine .know (row_len 0 G) (fun hv9 => ?_)
 obtain ⟨A7, c8, rfl, hv9_1, hv9_2⟩ := hv9
 unfold maxLen at hv9_2
 refine .g underlying173 G G G (.m G G G (.go idQ (.block (.loop (X := Int) (fun i => 0 ≤ i ∧ i ≤ (Y4.length : Int) ∧ allUnder v.vcap ((Y4.map IL.il).drop i.toNat) = allUnder v.vcap (loadsF p l)) (fun i => [(4, .pointer (some ⟨b2, 0, none⟩)), (11, .slice A7 Y4.length c8), (12, .int .i64 (Y4.length : Int)), (13, .int .i64 i)]) (fun i => [rw_ eIL 22 (.slice A7 Y4.length c8) Y4, nestIL 3 Y4, cel b2 [.int .i64 v.st, .int .i64 v.en, .slice v.vcA v.vcap.length v.vcc, .int .u64 v.vsk, .int .i64 v.lo, .int .i64 v.hi, .int .i64 v.fix, .int .i64 v.pt, .int .i64 v.pd, .int .i64 v.mt, .slice v.vbA v.brs.length v.vbc] 72, cel b1 (cPB p) 29]) (fun _ => S) (fun _ => wf) (fun i => ((Y4.length : Int) - i).toNat) (fun a_ w_ hs_ hw_ => ⟨0, (by (try dsimp only); exact ⟨oO, oO, (by rw [← hY]; rfl)⟩), hs_.mono (Sub.get (.c4 G G G G .n)), hw_.keep (.d (.d .n))⟩) (fun i ⟨q_0, q_1, q_2⟩ => ?_)))))
 try dsimp only
 refine .seq (.region (.e G G G G G (.go idQ (.seq (.condI G bD (fun h10 => ?_) (fun h10 => ?_))))))
 ·
  refine .skipgo idQ (.seq (.block (.seq (.region (.v (ev_ix G underlying173 ty22 G G oO oO (row_adr (i := i) 0 G oO oO)) G (.v (ev_ld1 G ty22 G (At.elem1 (row_el (E := eIL) (l := Y4) (i := i) 0 G oO oO) 0 G)) G (.a G G G ?_)))))))
  refine .go idQ (.seq (.region (.m G G G (.f fo72_2 2 G G G G (.l ty22 2 G G G G G ?_)))))
  refine .cons (st_lendk G G G G hbd82 G .n (.c (.t .h) .n) (fun w_ hw => lunder ((gt Y4 i).ilA) ((gt Y4 i).ilc) ((gt Y4 i).il) v.vcA v.vcc v.vcap _ _ ((ILF.lend hw 0 G) i) (Fr.ext hVH.1 hw.lendx)) ?_)
  refine .v (ev_not G G) G (.go idQ (.condI G (bN bV) (fun h11 => ?_) (fun h11 => ?_)))
  ·
   refine .seq (.region (.a G G G (.go idQ (.ret idQ (ret1 results130 G .n ⟨(congrArg (Value.int .i64) (errI_f (by have hq := q_2; rw [drop_gtm (i := i) oO oO, allUnder_cons] at hq; (repeat' split at hq) <;> first | exact hq.symm | contradiction)).symm), G⟩)))))
  refine .skipgo idQ (.region (.p ((i + 1)) oO oO G G G G G (.m G G G ?_)))
  exact SP.nil (SQ.roundb (X := Int) (x := (i)) (i + 1) (by (try dsimp only); exact ⟨oO, oO, (by have hq := q_2; rw [drop_gtm (i := i) oO oO, allUnder_cons] at hq; (repeat' split at hq) <;> first | exact hq | contradiction)⟩) (by show (_ : Nat) < _; omega) (Sub.get (.c4 G G G G .n)) (kp (.d (.d .n))))
 refine .exit idQ ?_
 refine .seq (.region (.a G G G (.go idQ (.ret idQ (ret1 results130 G .n ⟨(congrArg (Value.int .i64) (errI_t (by have hq := q_2; rw [drop_end (by simp only [List.length_map]; omega)] at hq; rw [← hq]; rfl)).symm), G⟩)))))
theorem places_ (p : PB) (v : VH) (A : Option Addr) (c : Nat) (l : List Vis) (S : Nat → Prop) (wf : World) (hA : Fr eVis S wf A l) (hPB : PBF S wf p) (hVH : VHF S wf v) (hL : LawP p) (hll : l.length ≤ 60) :
  TR0 prog 157 [.agg (cPB p).toArray, .agg #[.int .i64 v.st, .int .i64 v.en, .slice v.vcA v.vcap.length v.vcc, .int .u64 v.vsk, .int .i64 v.lo, .int .i64 v.hi, .int .i64 v.fix, .int .i64 v.pt, .int .i64 v.pd, .int .i64 v.mt, .slice v.vbA v.brs.length v.vbc], .slice A l.length c] [] S wf (fun v_ C_ => ∃ (u : Value), v_ = u ∧ C_ = [rw_ eZ 3 (u) (placesF p v l)]) := by
 have hla := hA.len
 refine TR.mk func157 G ntmps157 G G (fun w_ => ?_)
 refine .seq (.region (.cons (st_boxa G G G G G (fun b1 => (.cons (st_boxa G G G G G (fun b2 => (.a G G G ?_))))))))
 refine .go idQ (.seq (.region (.f fo72_0 0 G G G G (.l ty3 0 G G G G G (.cons (st_lit eZ (e := 3) (l := [v.st]) G G G G kR G G kW (fun b3 => ?_)))))))
 refine .a G G G (.go idQ (.seq (.seq (.region (.m G G G (.g underlying52 G G G ?_))))))
 refine .m G G G (.go idQ (.block (.loop (X := Int × (List Int) × Value) (fun ⟨i, X, u_X⟩ => 0 ≤ i ∧ i ≤ (l.length : Int) ∧ X ++ placesR p (l.drop i.toNat) (gt X i) = v.st :: placesR p l v.st ∧ (X.length : Int) = i + 1) (fun ⟨i, X, u_X⟩ => [(3, .pointer (some ⟨b1, 0, none⟩)), (4, .pointer (some ⟨b2, 0, none⟩)), (6, .slice none 0 0), (16, .slice A l.length c), (17, .int .i64 (l.length : Int)), (18, .int .i64 i), (7, u_X)]) (fun ⟨i, X, u_X⟩ => [rw_ eZ 3 (u_X) X, cel b2 [.int .i64 v.st, .int .i64 v.en, .slice v.vcA v.vcap.length v.vcc, .int .u64 v.vsk, .int .i64 v.lo, .int .i64 v.hi, .int .i64 v.fix, .int .i64 v.pt, .int .i64 v.pd, .int .i64 v.mt, .slice v.vbA v.brs.length v.vbc] 72, cel b1 (cPB p) 29]) (fun _ => S) (fun _ => wf) (fun ⟨i, X, u_X⟩ => ((l.length : Int) - i).toNat) (fun a_ w_ hs_ hw_ => ⟨⟨0, [v.st], .slice (some ⟨b3, 0, none⟩) 1 1⟩, (by (try dsimp only); exact ⟨oO, oO, G, G⟩), hs_.mono (Sub.get (.c4 G G G G (.c G (.c G (.c G .n))))), hw_.keep (.d (.c .h .n))⟩) (fun ⟨i, X, u_X⟩ ⟨q_0, q_1, q_2, q_3⟩ => ?_))))
 try dsimp only
 refine .seq (.region (.e G G G G G (.go idQ (.seq (.condI G bD (fun h4 => ?_) (fun h4 => ?_))))))
 ·
  refine .skipgo idQ (.seq (.block (.seq (.region (.m G G G (.v (ev_ix G underlying52 ty92 G G oO oO (fun _ _ => Fr.adr (i := i) hA oO oO)) G (.v (ev_lda G G (At.w (Fr.el (i := i) hA oO oO)) ty92) G ?_)))))))
  refine .cons (st_alloc G G G G zf92 (fun b5 => ?_))
  refine .a G G G (.cons (st_storea (l' := [.int .i64 ((gt l i).kind), .int .i64 ((gt l i).item)]) G G G ty92 G G G .h G G (.go idQ (.seq (.region (.m G G G ?_))))))
  refine .m G G G (.know (row_len 1 G) (fun hv8 => ?_))
  obtain ⟨A6, c7, rfl, hv8_1, hv8_2⟩ := hv8
  unfold maxLen at hv8_2
  refine .v (ev_ix G underlying22 ty3 G G oO oO (row_adr (i := i) 1 G oO oO)) G (.v (ev_ld1 G ty3 G (At.elem1 (row_el (E := eZ) (l := X) (i := i) 1 G oO oO) 0 G)) G (.a G G G (.go idQ (.seq (.seq (.region ?_))))))
  refine .d 3 ty29 G G G G (.d 0 ty92 G G G G (.cons (st_call0 G G G G hbd123 G .n (stop_ p (gt l i) _ _ hPB (stop_ws hL)) (fun v_q10 C_q10 q10 => ?_))))
  obtain ⟨u9, rfl, rfl⟩ := q10
  show SP _ _ _ _ _ _ ⟨_, _ :: _, _, _⟩
  refine .know (row_len 0 G) (fun hv13 => ?_)
  obtain ⟨A11, c12, rfl, hv13_1, hv13_2⟩ := hv13
  unfold maxLen at hv13_2
  refine .m G G G (.x G G G G (.x G G G G (.cons (st_alloc G G G G zf78 (fun b14 => ?_)))))
  refine .cons (st_storea (l' := [.int .i64 ((stopD p (gt l i)).pl), .int .i64 ((stopD p (gt l i)).srv), .slice A11 (((stopD p (gt l i)).sws).length) c12]) G G G ty78 G G G .h G G ?_)
  refine .a G G G (.go idQ (.seq (.region (.m G G G (.go idQ ?_)))))
  refine .condI G bV (fun h15 => ?_) (fun h15 => ?_)
  ·
   refine .region (.f fo78_0 0 G G G G (.l ty3 0 G G G G G (.a G G G ?_)))
   refine .go idQ (.region (.m G G G (.m G G G (.cons (st_lit eZ (e := 3) (l := [(stopD p (gt l i)).pl]) G G G G kR G G kW (fun b16 => ?_))))))
   refine .cons (st_app (E := eZ) (m := [(stopD p (gt l i)).pl]) G G G G underlying22 ai3 G G G (.t4 .h) rO (row_src 0 G) lO G (fun v17 => ?_))
   refine .a G G G (.go idQ (.region (.p ((i + 1)) oO oO G G G G G (.m G G G ?_))))
   exact SP.nil (SQ.roundb (X := Int × (List Int) × Value) (x := (i, X, (.slice A6 X.length c7))) ⟨(i + 1), (X ++ [(stopD p (gt l i)).pl]), v17⟩ (by (try dsimp only); exact ⟨oO, oO, (by have hq := q_2; rw [drop_gt (x := i) oO oO, placesR_cons, nextPl_y (by assumption)] at hq; rw [gt_last oO, List.append_assoc]; exact hq), (by simp only [List.length_append, List.length_singleton]; omega)⟩) dO (Sub.get (.c4 G G G G (.c G (.c G (.c G .n))))) (kp (.c .h (.c (.t4 .h) (.c (.t4 .h) .n)))))
  refine .skipgo idQ (.region (.m G G G (.m G G G (.cons (st_lit eZ (e := 3) (l := [(gt X i)]) G G G G kR G G kW (fun b18 => ?_))))))
  refine .cons (st_app (E := eZ) (m := [(gt X i)]) G G G G underlying22 ai3 G G G (.t4 .h) rO (row_src 0 G) lO G (fun v19 => ?_))
  refine .a G G G (.go idQ (.region (.p ((i + 1)) oO oO G G G G G (.m G G G ?_))))
  exact SP.nil (SQ.roundb (X := Int × (List Int) × Value) (x := (i, X, (.slice A6 X.length c7))) ⟨(i + 1), (X ++ [(gt X i)]), v19⟩ (by (try dsimp only); exact ⟨oO, oO, (by have hq := q_2; rw [drop_gt (x := i) oO oO, placesR_cons, nextPl_n (by assumption)] at hq; rw [gt_last oO, List.append_assoc]; exact hq), (by simp only [List.length_append, List.length_singleton]; omega)⟩) dO (Sub.get (.c4 G G G G (.c G (.c G (.c G .n))))) (kp (.c .h (.c (.t4 .h) (.c (.t4 .h) .n)))))
 refine .exit idQ ?_
 refine .seq (.region (.m G G G (.f fo72_1 1 G G G G (.l ty3 1 G G G G G ?_))))
 refine .cons (st_lit eZ (e := 3) (l := [v.en]) G G G G kR G G kW (fun b20 => ?_))
 refine .cons (st_app (E := eZ) (m := [v.en]) G G G G underlying22 ai3 G G G (.t .h) rO (row_src 0 G) lO G (fun v21 => ?_))
 refine .a G G G (.go idQ (.ret idQ (ret1 results157 G (.c .h .n) ⟨v21, G, (by have hq := q_2; rw [drop_end oO] at hq; have hq : X ++ [] = _ := hq; rw [List.append_nil] at hq; rw [hq]; rfl)⟩)))
theorem travel_ (p : PB) (v : VH) (A : Option Addr) (c : Nat) (l : List Vis) (S : Nat → Prop) (wf : World) (hA : Fr eVis S wf A l) (hPB : PBF S wf p) (hVH : VHF S wf v) (hL : LawP p) (hll : l.length ≤ 60) :
  TR0 prog 131 [.agg (cPB p).toArray, .agg #[.int .i64 v.st, .int .i64 v.en, .slice v.vcA v.vcap.length v.vcc, .int .u64 v.vsk, .int .i64 v.lo, .int .i64 v.hi, .int .i64 v.fix, .int .i64 v.pt, .int .i64 v.pd, .int .i64 v.mt, .slice v.vbA v.brs.length v.vbc], .slice A l.length c] [] S wf (fun v_ C_ => v_ = .int .i64 (errI (travelR p (placesF p v l)) 166) ∧ C_ = []) := by
 have hla := hA.len
 have hpl := placesF_len (p := p) (v := v) (l := l)
 refine TR.mk func131 G ntmps131 G G (fun w_ => ?_)
 refine .seq (.region (.cons (st_boxa G G G G G (fun b1 => (.cons (st_boxa G G G G G (fun b2 => (.a G G G ?_))))))))
 refine .go idQ (.seq (.region (.d 1 ty29 G G G G (.d 0 ty72 G G G G (.m G G G ?_)))))
 refine .cons (st_call0 G G G G hbd157 G .n (places_ p v A c l _ _ hA hPB hVH oO lO) (fun v_q4 C_q4 q4 => ?_))
 obtain ⟨u3, rfl, rfl⟩ := q4
 show SP _ _ _ _ _ _ ⟨_, _ :: _, _, _⟩
 refine .a G G G (.go idQ (.seq (.seq (.know (row_len 0 G) (fun hv7 => ?_)))))
 obtain ⟨A5, c6, rfl, hv7_1, hv7_2⟩ := hv7
 unfold maxLen at hv7_2
 refine .region (.a G G G (.go idQ (.block (.loop (X := Int) (fun i => 1 ≤ i ∧ i ≤ (((placesF p v l).length : Nat) : Int) ∧ travelR p ((placesF p v l).drop (i - 1).toNat) = travelR p (placesF p v l)) (fun i => [(3, .pointer (some ⟨b1, 0, none⟩)), (7, .slice A5 ((placesF p v l).length) c6), (8, .int .i64 i)]) (fun i => [rw_ eZ 3 (.slice A5 ((placesF p v l).length) c6) (placesF p v l), cel b2 [.int .i64 v.st, .int .i64 v.en, .slice v.vcA v.vcap.length v.vcc, .int .u64 v.vsk, .int .i64 v.lo, .int .i64 v.hi, .int .i64 v.fix, .int .i64 v.pt, .int .i64 v.pd, .int .i64 v.mt, .slice v.vbA v.brs.length v.vbc] 72, cel b1 (cPB p) 29]) (fun _ => S) (fun _ => wf) (fun i => ((((placesF p v l).length : Nat) : Int) - i).toNat) (fun a_ w_ hs_ hw_ => ⟨1, (by (try dsimp only); exact ⟨oO, oO, G⟩), hs_.mono (Sub.get (.c G (.c G (.c G .n)))), hw_.keep (.d (.c .h .n))⟩) (fun i ⟨q_0, q_1, q_2⟩ => ?_)))))
 try dsimp only
 refine .seq (.seq (.region (.m G G G (.m G G G (.g underlying22 G G G ?_)))))
 refine .e G G G G G (.go idQ (.condI G bD (fun h8 => ?_) (fun h8 => ?_)))
 ·
  refine .skipgo idQ (.seq (.block (.seq ?_)))
  refine SC.draw mo [] [] .n (fun _ _ _ => sc0) (fun wf_9 hl_9 hx_9 hR_9 => ?_)
  refine SR.z 0 G G (ev_fa G fo29_1 G (r := 1) G) ?_
  refine SR.z 1 G G (ev_lda (cs := [.int .i64 p.tn, .slice p.ptA p.time.length p.ptc]) G G (At.d (At.lent hR_9 2 G G)) ty24) ?_
  refine SR.m 2 G G G G ?_
  refine SR.m 3 G G G G ?_
  refine SR.z 4 G G (ev_sub G G G (r := (i - 1)) G oO oO) ?_
  refine SR.z 5 G G (ev_ix G underlying22 ty3 G G oO oO (fun _ _ => Fr.adr (i := (i - 1)) (Fr.lent (S := S) hR_9 0 G lO) oO oO)) ?_
  refine SR.z 6 G G (ev_ld1 G ty3 G (At.elem1 (At.d (Fr.el (i := (i - 1)) (Fr.lent (S := S) hR_9 0 G lO) oO oO)) 0 G)) ?_
  refine SR.m 7 G G G G ?_
  refine SR.m 8 G G G G ?_
  refine SR.z 9 G G (ev_ix G underlying22 ty3 G G oO oO (fun _ _ => Fr.adr (i := i) (Fr.lent (S := S) hR_9 0 G lO) oO oO)) ?_
  refine SR.z 10 G G (ev_ld1 G ty3 G (At.elem1 (At.d (Fr.el (i := i) (Fr.lent (S := S) hR_9 0 G lO) oO oO)) 0 G)) ?_
  refine SR.o 11 G (st_callk G G G G hbd122 G .n (cell_ p.tn p.ptA p.ptc p.time (gt (placesF p v l) (i - 1)) (gt (placesF p v l) i) _ _ (((hPB).ext hx_9).1) (by have := hL.tn; have := hL.dn; omega) (by first | exact hL.tlen | (rw [hL.dn]; exact hL.dlen))) ⟨tt0, ?_⟩)
  refine SR.z 12 G G (ev_cmp G G G G) ?_
  refine SR.m 13 G G G G ?_
  refine SR.y 14 G G (fun _ => ev_fa G fo29_2 G (r := 3) G) ?_
  refine SR.y 15 G G (fun hb => ev_lda (cs := [.int .i64 p.dn, .slice p.pdA p.dist.length p.pdc]) G (lkg G hb) (At.d (At.lent hR_9 2 G G)) ty24) ?_
  refine SR.y 16 G G (fun _ => ev_mv G G) ?_
  refine SR.y 17 G G (fun _ => ev_mv G G) ?_
  refine SR.y 18 G G (fun hb => have hp := bF bD hb; ev_sub G (lkg G hb) G (r := (i - 1)) G (by have _h := hp; omega) (by have _h := hp; omega)) ?_
  refine SR.y 19 G G (fun hb => have hp := bF bD hb; ev_ix G underlying22 ty3 (lkg G hb) (lkg G hb) (by have _h := hp; omega) (by have _h := hp; omega) (fun _ _ => Fr.adr (i := (i - 1)) (Fr.lent (S := S) hR_9 0 G lO) (by have _h := hp; omega) (by have _h := hp; omega))) ?_
  refine SR.y 20 G G (fun hb => have hp := bF bD hb; ev_ld1 G ty3 (lkg G hb) (At.elem1 (At.d (Fr.el (i := (i - 1)) (Fr.lent (S := S) hR_9 0 G lO) (by have _h := hp; omega) (by have _h := hp; omega))) 0 G)) ?_
  refine SR.y 21 G G (fun _ => ev_mv G G) ?_
  refine SR.y 22 G G (fun _ => ev_mv G G) ?_
  refine SR.y 23 G G (fun hb => have hp := bF bD hb; ev_ix G underlying22 ty3 (lkg G hb) (lkg G hb) (by have _h := hp; omega) (by have _h := hp; omega) (fun _ _ => Fr.adr (i := i) (Fr.lent (S := S) hR_9 0 G lO) (by have _h := hp; omega) (by have _h := hp; omega))) ?_
  refine SR.y 24 G G (fun hb => have hp := bF bD hb; ev_ld1 G ty3 (lkg G hb) (At.elem1 (At.d (Fr.el (i := i) (Fr.lent (S := S) hR_9 0 G lO) (by have _h := hp; omega) (by have _h := hp; omega))) 0 G)) ?_
  refine SR.o 25 G (st_gcallk G G G G G G hbd122 (fun hb => (lkA1 (lkg G hb) (lkA1 (lkg G hb) (lkA1 (lkg G hb) lkA0)))) .n (fun hb => have hp := bF bD hb; cell_ p.dn p.pdA p.pdc p.dist (gt (placesF p v l) (i - 1)) (gt (placesF p v l) i) _ _ (((hPB).ext hx_9).2.1) (by have := hL.tn; have := hL.dn; omega) (by first | exact hL.tlen | (rw [hL.dn]; exact hL.dlen))) ⟨tt0, ?_⟩)
  refine SR.y 26 G G (fun hb => ev_cmp G (lkg G hb) G G) ?_
  refine SR.z 27 G G (ev_or G G G G) ?_
  refine SR.fin kR hl_9 hx_9 hR_9 .n ?_
  refine SQ.go idQ ?_
  refine .condI G (bO bD bD) (fun h10 => ?_) (fun h10 => ?_)
  ·
   refine .seq (.region (.a G G G (.go idQ (.ret idQ (ret1 results131 G .n ⟨(congrArg (Value.int .i64) (errI_f (by have hq := q_2; rw [travel_step (i := i) oO oO] at hq; (repeat' split at hq) <;> first | exact hq.symm | contradiction | (exfalso; omega))).symm), G⟩)))))
  refine .skipgo idQ (.region (.m G G G (.p ((i + 1)) oO oO G G G G G (.a G G G ?_))))
  exact SP.nil (SQ.roundb (X := Int) (x := (i)) (i + 1) (by (try dsimp only); exact ⟨oO, oO, (by have hq := q_2; rw [travel_step (i := i) oO oO] at hq; rw [show i + 1 - 1 = i from by omega]; (repeat' split at hq) <;> first | exact hq | contradiction | (exfalso; omega))⟩) (by show (_ : Nat) < _; omega) (Sub.get (.c G (.c G (.c G .n)))) (kp (.d (.c .h .n))))
 refine .exit idQ ?_
 refine .seq (.region (.a G G G (.go idQ (.ret idQ (ret1 results131 G .n ⟨(congrArg (Value.int .i64) (errI_t (by rw [← q_2]; exact travel_end oO oO)).symm), G⟩)))))
theorem drive_ (p : PB) (g : Nat) (vh : Int) (sv : Value) (tm : Int) (ds : Int) (wt : Int) (sr : Int) (co : Int) (f : Int) (t : Int) (S : Nat → Prop) (wf : World) (hPB : PBF S wf p) (hL : LawP p) (h_tm : -2000000000000 ≤ tm ∧ tm ≤ 2000000000000) (h_ds : -2000000000000 ≤ ds ∧ ds ≤ 2000000000000) :
  TR0 prog 158 [.agg (cPB p).toArray, .pointer (some ⟨g, 0, none⟩), .int .i64 f, .int .i64 t] [cel g [.int .i64 vh, sv, .int .i64 tm, .int .i64 ds, .int .i64 wt, .int .i64 sr, .int .i64 co] 86] S wf (fun v_ C_ => v_ = .int .i64 (tcell p f t) ∧ C_ = [cel g [.int .i64 vh, sv, .int .i64 (tm + tcell p f t), .int .i64 (ds + dcell p f t), .int .i64 wt, .int .i64 sr, .int .i64 co] 86]) := by
 have hct := cellF_rng (n := p.tn) (l := p.time) (f := f) (t := t) hL.tc
 have hcd := cellF_rng (n := p.dn) (l := p.dist) (f := f) (t := t) hL.dc
 refine TR.mk func158 G ntmps158 G G (fun w_ => ?_)
 refine .seq (.region (.cons (st_boxa G G G G G (fun b1 => (.a G G G (.go idQ (.seq (.region ?_))))))))
 refine .f fo29_1 1 G G G G (.v (ev_lda (cs := [.int .i64 p.tn, .slice p.ptA p.time.length p.ptc]) G G (At.own 0 G G) ty24) G (.m G G G (.m G G G ?_)))
 refine .cons (st_callk G G G G hbd122 G .n (cell_ p.tn p.ptA p.ptc p.time f t _ _ hPB.1 (by have := hL.tn; have := hL.dn; omega) (by first | exact hL.tlen | (rw [hL.dn]; exact hL.dlen))) ?_)
 refine .a G G G (.go idQ (.seq ?_))
 refine SC.draw mo [cel g [.int .i64 vh, sv, .int .i64 tm, .int .i64 ds, .int .i64 wt, .int .i64 sr, .int .i64 co] 86] [(20, fun w => At w g 0 [.int .i64 vh, sv, .int .i64 tm, .int .i64 ds, .int .i64 wt, .int .i64 sr, .int .i64 co])] (.c (.t .h) .n) (fun w_ _ hw_ => (sc1 (At.whole 0 G w_ hw_) sc0)) (fun wf_2 hl_2 hx_2 hR_2 => ?_)
 refine SR.m 0 G G G G ?_
 refine SR.m 1 G G G G ?_
 refine SR.m 2 G G G G ?_
 refine SR.z 3 G G (ev_nil G G) ?_
 refine SR.z 4 G G (ev_fa G fo86_2 G (r := 2) G) ?_
 refine SR.z 5 G G (ev_ld1 G ty3 G (At.elem1 (v := .int .i64 tm) (At.ofcs 0 G kR) 2 G)) ?_
 refine SR.m 6 G G G G ?_
 refine SR.z 7 G G (ev_add G G G (r := (tm + (cellF p.tn p.time f t))) G oO oO) ?_
 refine SR.m 8 G G G G ?_
 refine SR.z 9 G G (ev_nil G G) ?_
 refine SR.z 10 G G (ev_fa G fo86_3 G (r := 3) G) ?_
 refine SR.z 11 G G (ev_ld1 G ty3 G (At.elem1 (v := .int .i64 ds) (At.ofcs 0 G kR) 3 G)) ?_
 refine SR.z 12 G G (ev_fa G fo29_2 G (r := 3) G) ?_
 refine SR.z 13 G G (ev_lda (cs := [.int .i64 p.dn, .slice p.pdA p.dist.length p.pdc]) G G (At.d (At.lent hR_2 0 G G)) ty24) ?_
 refine SR.m 14 G G G G ?_
 refine SR.m 15 G G G G ?_
 refine SR.o 16 G (st_callk G G G G hbd122 G .n (cell_ p.dn p.pdA p.pdc p.dist f t _ _ (((hPB).ext hx_2).2.1) (by have := hL.tn; have := hL.dn; omega) (by first | exact hL.tlen | (rw [hL.dn]; exact hL.dlen))) ⟨ttw 0 G, ?_⟩)
 refine SR.z 17 G G (ev_add G G G (r := (ds + (cellF p.dn p.dist f t))) G oO oO) ?_
 refine SR.z 18 G G (ev_nil G G) ?_
 refine SR.z 19 G G (ev_fa G fo86_2 G (r := 2) G) ?_
 refine SR.o 20 G (st_store1 G G G ty3 G G G .h (.t2 .h) ⟨ttc (fun w_ hw_ => (tc2 kR tc0)), ?_⟩)
 refine SR.z 21 G G (ev_nil G G) ?_
 refine SR.z 22 G G (ev_fa G fo86_3 G (r := 3) G) ?_
 refine SR.o 23 G (st_store1 G G G ty3 G G G .h (.t2 (.t .h)) ⟨ttc (fun w_ hw_ => (tc2 kR tc0)), ?_⟩)
 refine SR.fin kR hl_2 hx_2 hR_2 (.c .n) ?_
 refine SQ.go idQ ?_
 refine .seq (.region (.m G G G (.a G G G (.go idQ ?_))))
 exact .ret idQ (ret1 results158 G (.c .h .n) ⟨G, G⟩)
end Go.Proofs.YtimhdimhdimbjaaGreat.Sx
set_option maxRecDepth 20000
set_option maxHeartbeats 1000000
namespace Go.Proofs.YtimhdimhdimbjaaGreat.Sx.FE
open Go Go.SX Go.Proofs Go.Proofs.Tryz FA FB FC FD
theorem zf86 : (prog.info? 86).bind (fun i => i.zero.map Value.cells) = some (List.toArray [.int .i64 0, .slice none 0 0, .int .i64 0, .int .i64 0, .int .i64 0, .int .i64 0, .int .i64 0]) := by kernel_rfl
theorem fo29_3 : fo prog 29 3 = some 5 := by kernel_rfl
theorem ty25 : ty prog 25 = some (false, 1) := by kernel_rfl
theorem zf72 : (prog.info? 72).bind (fun i => i.zero.map Value.cells) = some (List.toArray [.int .i64 0, .int .i64 0, .slice none 0 0, .int .u64 0, .int .i64 0, .int .i64 0, .int .i64 0, .int .i64 0, .int .i64 0, .int .i64 0, .slice none 0 0]) := by kernel_rfl
theorem ty86 : ty prog 86 = some (true, 7) := by kernel_rfl
theorem fo72_4 : fo prog 72 4 = some 4 := by kernel_rfl
theorem fo86_1 : fo prog 86 1 = some 1 := by kernel_rfl
theorem ty84 : ty prog 84 = some (false, 1) := by kernel_rfl
theorem ai176 : (prog.info? 176).map (fun i => (i.zero, i.size, i.bytes)) = some (some (.agg #[.int .i64 0, .int .i64 0, .int .i64 0, .int .i64 0, .int .i64 0, .int .i64 0, .slice none 0 0, .int .i64 0, .int .i64 0]), 9, 88) := by kernel_rfl
theorem hbd158 : hasBody prog 158 = true := by kernel_rfl
theorem ty75 : ty prog 75 = some (true, 2) := by kernel_rfl
theorem fo75_1 : fo prog 75 1 = some 1 := by kernel_rfl
theorem fo75_0 : fo prog 75 0 = some 0 := by kernel_rfl
theorem hbd85 : hasBody prog 85 = true := by kernel_rfl
theorem fo86_4 : fo prog 86 4 = some 4 := by kernel_rfl
theorem fo86_5 : fo prog 86 5 = some 5 := by kernel_rfl
theorem fo78_1 : fo prog 78 1 = some 1 := by kernel_rfl
theorem fo72_5 : fo prog 72 5 = some 6 := by kernel_rfl
theorem fo72_6 : fo prog 72 6 = some 7 := by kernel_rfl
theorem fo72_7 : fo prog 72 7 = some 8 := by kernel_rfl
theorem fo86_6 : fo prog 86 6 = some 6 := by kernel_rfl
theorem ty194 : ty prog 194 = some (false, 1) := by kernel_rfl
theorem hbd126 : hasBody prog 126 = true := by kernel_rfl
theorem hbd127 : hasBody prog 127 = true := by kernel_rfl
theorem hbd128 : hasBody prog 128 = true := by kernel_rfl
theorem hbd129 : hasBody prog 129 = true := by kernel_rfl
theorem hbd130 : hasBody prog 130 = true := by kernel_rfl
theorem hbd131 : hasBody prog 131 = true := by kernel_rfl
theorem hbd132 : hasBody prog 132 = true := by kernel_rfl
end Go.Proofs.YtimhdimhdimbjaaGreat.Sx.FE
namespace Go.Proofs.YtimhdimhdimbjaaGreat.Sx
open Go Go.SX Go.Proofs Go.Proofs.Tryz FA FB FC FD FE
theorem times_ (p : PB) (k : Int) (A : Option Addr) (c : Nat) (l : List Vis) (S : Nat → Prop) (wf : World) (hA : Fr eVis S wf A l) (hPB : PBF S wf p) (hL : LawP p) (hk : 0 ≤ k ∧ k < (p.vehs.length : Int)) (hll : l.length ≤ 60) (hb : ∀ i : Int, 0 ≤ i → i < (l.length : Int) → (gt l i).kind = 4 → 0 ≤ (gt l i).item ∧ (gt l i).item < ((gt p.vehs k).brs.length : Int)) :
  TR0 prog 132 [.agg (cPB p).toArray, .int .i64 k, .slice A l.length c] [] S wf (fun v_ C_ => ∃ (vh : Int) (sA : Option Addr) (sn : Nat) (sc : Nat), v_ = .tuple #[.agg #[.int .i64 vh, .slice sA sn sc, .int .i64 ((timesF p (gt p.vehs k) l).time), .int .i64 ((timesF p (gt p.vehs k) l).dist), .int .i64 ((timesF p (gt p.vehs k) l).wait), .int .i64 ((timesF p (gt p.vehs k) l).serv), .int .i64 ((timesF p (gt p.vehs k) l).cost)], .int .i64 ((timesF p (gt p.vehs k) l).e)] ∧ C_ = []) := by
 have hla := hA.len
 have hV := hL.veh k hk.1 hk.2
 have hsh := hV.sh
 have hfx := hV.fix
 have hpt := hV.pt
 have hpd := hV.pd
 have hlv := hPB.2.2.1.1.len
 refine TR.mk func132 G ntmps132 G G (fun w_ => ?_)
 refine .seq (.region (.cons (st_boxa G G G G G (fun b1 => (.cons (st_alloc G G G G zf86 (fun b2 => (.a G G G ?_))))))))
 refine .go idQ (.seq (.region (.f fo29_3 5 G G G G (.l ty25 1 G G G G G (.m G G G ?_)))))
 refine .v (ev_ix G underlying25 ty72 G G oO oO (fun _ _ => Fr.adr (i := k) hPB.2.2.1.1 oO oO)) G (.v (ev_lda G G (At.w (Fr.el (i := k) hPB.2.2.1.1 oO oO)) ty72) G (.cons (st_alloc G G G G zf72 (fun b3 => (.cons (st_storea (l' := [.int .i64 ((gt p.vehs k).st), .int .i64 ((gt p.vehs k).en), .slice ((gt p.vehs k).vcA) ((gt p.vehs k).vcap.length) ((gt p.vehs k).vcc), .int .u64 ((gt p.vehs k).vsk), .int .i64 ((gt p.vehs k).lo), .int .i64 ((gt p.vehs k).hi), .int .i64 ((gt p.vehs k).fix), .int .i64 ((gt p.vehs k).pt), .int .i64 ((gt p.vehs k).pd), .int .i64 ((gt p.vehs k).mt), .slice ((gt p.vehs k).vbA) ((gt p.vehs k).brs.length) ((gt p.vehs k).vbc)]) G G G ty72 G G G .h G G ?_))))))
 refine .go idQ (.seq (.region (.m G G G (.v (ev_any (v := .agg #[.int .i64 k, .slice none 0 0, .int .i64 0, .int .i64 0, .int .i64 0, .int .i64 0, .int .i64 0]) G kR (fun _ => by kernel_rfl)) G (.cons (st_alloc G G G G zf86 (fun b4 => ?_)))))))
 refine .cons (st_storea (l' := [.int .i64 k, .slice none 0 0, .int .i64 0, .int .i64 0, .int .i64 0, .int .i64 0, .int .i64 0]) G G G ty86 G G G .h G G ?_)
 refine .go idQ (.seq ?_)
 refine SC.draw mo [] [] .n (fun _ _ _ => sc0) (fun wf_5 hl_5 hx_5 hR_5 => ?_)
 refine SR.z 0 G G (ev_lda (cs := (cPB p)) G G (At.d (At.lent hR_5 3 G G)) ty29) ?_
 refine SR.z 1 G G (ev_lda (cs := [.int .i64 ((gt p.vehs k).st), .int .i64 ((gt p.vehs k).en), .slice ((gt p.vehs k).vcA) ((gt p.vehs k).vcap.length) ((gt p.vehs k).vcc), .int .u64 ((gt p.vehs k).vsk), .int .i64 ((gt p.vehs k).lo), .int .i64 ((gt p.vehs k).hi), .int .i64 ((gt p.vehs k).fix), .int .i64 ((gt p.vehs k).pt), .int .i64 ((gt p.vehs k).pd), .int .i64 ((gt p.vehs k).mt), .slice ((gt p.vehs k).vbA) ((gt p.vehs k).brs.length) ((gt p.vehs k).vbc)]) G G (At.d (At.lent hR_5 1 G G)) ty72) ?_
 refine SR.m 2 G G G G ?_
 refine SR.z 4 G G (ev_lda (cs := (cPB p)) G G (At.d (At.lent hR_5 3 G G)) ty29) ?_
 refine SR.m 5 G G G G ?_
 refine SR.o 3 G (st_call0 G G G G hbd157 G .n (places_ p (gt p.vehs k) A c l _ _ (Fr.ext hA hx_5) ((hPB).ext hx_5) (((hPB).ext hx_5).2.2.1.2 k) oO lO) (fun v_q7 C_q7 q7 => ⟨tt0, ?_⟩))
 obtain ⟨u6, rfl, rfl⟩ := q7
 show SR _ _ _ _ _ _ _ _ _ ⟨_, _ :: _, _, _⟩
 refine SR.o 6 G (st_call0 G G G G hbd156 G .n (loads_ p A c l _ _ (Fr.ext hA hx_5) ((hPB).ext hx_5) oO lO) (fun v_q10 C_q10 q10 => ⟨tt0, ?_⟩))
 obtain ⟨u8, Y9, p11, rfl, rfl⟩ := q10
 show SR _ _ _ _ _ _ _ _ _ ⟨_, _ :: _ :: _, _, _⟩
 have hY := p11
 refine SR.z 7 G G (ev_as G G) ?_
 refine SR.z 8 G G (ev_as G G) ?_
 refine SR.fin kR hl_5 hx_5 hR_5 (.c (.c (.c .n))) ?_
 refine SQ.go idQ ?_
 refine .seq (.know (row_len 2 G) (fun hv14 => ?_))
 obtain ⟨A12, c13, rfl, hv14_1, hv14_2⟩ := hv14
 unfold maxLen at hv14_2
 refine .know (row_len 0 G) (fun hv17 => ?_)
 obtain ⟨A15, c16, rfl, hv17_1, hv17_2⟩ := hv17
 unfold maxLen at hv17_2
 have hYl := loads_len hY
 have hPl := placesF_len (p := p) (v := (gt p.vehs k)) (l := l)
 refine .region (.f fo72_4 4 G G G G (.f fo69_0 4 G G G G (.l ty3 4 G G G G G ?_)))
 refine .a G G G (.go idQ (.seq ?_))
 refine SC.nilrow eST 176 ?_
 refine SC.draw mo [rw_ eST 176 (.slice none 0 0) ([] : List ST), cel b4 [.int .i64 k, .slice none 0 0, .int .i64 0, .int .i64 0, .int .i64 0, .int .i64 0, .int .i64 0] 86] [(13, fun w => At w b4 0 [.int .i64 k, .slice none 0 0, .int .i64 0, .int .i64 0, .int .i64 0, .int .i64 0, .int .i64 0])] (.c .h (.c (.t2 (.t .h)) .n)) (fun w_ _ hw_ => (sc1 (At.whole 1 G w_ hw_) sc0)) (fun wf_18 hl_18 hx_18 hR_18 => ?_)
 refine SR.z 0 G G (ev_fa G fo86_1 G (r := 1) G) ?_
 refine SR.z 1 G G (ev_ld1 G ty84 G (At.elem1 (v := .slice none 0 0) (At.ofcs 0 G kR) 1 G)) ?_
 refine SR.z 2 G G (ev_any (v := .agg #[.int .i64 5, .int .i64 0]) G kR (fun _ => by kernel_rfl)) ?_
 refine SR.z 3 G G (ev_fa G fo72_0 G (r := 0) G) ?_
 refine SR.z 4 G G (ev_ld1 G ty3 G (At.d (At.lent hR_18 3 G G))) ?_
 refine SR.m 5 G G G G ?_
 refine SR.m 6 G G G G ?_
 refine SR.z 7 G G (ev_ix G underlying173 ty22 G G oO oO (fun _ _ => Fr.adr (i := 0) (Fr.lent (S := S) hR_18 0 G lO) oO oO)) ?_
 refine SR.z 8 G G (ev_ld1 G ty22 G (At.elem1 (At.d (Fr.el (i := 0) (Fr.lent (S := S) hR_18 0 G lO) oO oO)) 0 G)) ?_
 refine SR.z 9 G G (ev_any (v := .agg #[.int .i64 5, .int .i64 0, .int .i64 ((gt p.vehs k).st), .int .i64 ((gt p.vehs k).lo), .int .i64 0, .int .i64 0, .slice ((gt Y9 0).ilA) ((gt Y9 0).il.length) ((gt Y9 0).ilc), .int .i64 0, .int .i64 0]) G kR (fun _ => by kernel_rfl)) ?_
 refine SR.o 10 G (st_lit eST (e := 176) (l := [(ST.mk 5 0 ((gt p.vehs k).st) ((gt p.vehs k).lo) 0 0 ((gt Y9 0).il) 0 0 ((gt Y9 0).ilA) ((gt Y9 0).ilc))]) G G G G kR G G kW (fun b19 => ⟨ttw 2 G, ?_⟩))
 refine SR.o 11 G (st_app0 (E := eST) (m := [(ST.mk 5 0 ((gt p.vehs k).st) ((gt p.vehs k).lo) 0 0 ((gt Y9 0).il) 0 0 ((gt Y9 0).ilA) ((gt Y9 0).ilc))]) G G G G underlying84 ai176 G G G (.t .h) rO (row_src 0 G) lO G (fun v20 => ⟨ttw 2 G, ?_⟩))
 refine SR.z 12 G G (ev_fa G fo86_1 G (r := 1) G) ?_
 refine .know (row_len 0 G) (fun hv23 => ?_)
 obtain ⟨A21, c22, rfl, hv23_1, hv23_2⟩ := hv23
 unfold maxLen at hv23_2
 refine SR.o 13 G (st_store1 G G G ty84 G G G (.t2 .h) (.t .h) ⟨ttc (fun w_ hw_ => (tc2 kR tc0)), ?_⟩)
 refine SR.fin kR hl_18 hx_18 hR_18 (.c (.c (.c .n))) ?_
 refine SQ.go idQ ?_
 refine .seq (.seq (.region (.m G G G (.g underlying52 G G G (.m G G G ?_)))))
 refine .go idQ (.block (.loop (X := Int × Int × Int × Int × Int × Int × (List ST) × Value) (fun ⟨i, now, tm, ds, wt, sr, W, u_W⟩ => 0 ≤ i ∧ i ≤ (l.length : Int) ∧ timesR p (gt p.vehs k) (l.drop i.toNat) ⟨now, tm, ds, wt, sr, (gt (placesF p (gt p.vehs k) l) i)⟩ = timesR p (gt p.vehs k) l ⟨(gt p.vehs k).lo, 0, 0, 0, 0, (gt p.vehs k).st⟩ ∧ (0 ≤ now ∧ now ≤ 2000000) ∧ (-i ≤ tm ∧ tm ≤ 32000000 * i) ∧ (-i ≤ ds ∧ ds ≤ 32000000 * i) ∧ (0 ≤ wt ∧ wt ≤ 2000001 * i) ∧ (0 ≤ sr ∧ sr ≤ 1000000 * i) ∧ (W.length : Int) = i + 1) (fun ⟨i, now, tm, ds, wt, sr, W, u_W⟩ => [(2, .slice A l.length c), (3, .pointer (some ⟨b1, 0, none⟩)), (6, .pointer (some ⟨b2, 0, none⟩)), (8, .pointer (some ⟨b3, 0, none⟩)), (9, .pointer (some ⟨b4, 0, none⟩)), (10, .slice A12 ((placesF p (gt p.vehs k) l).length) c13), (11, .slice A15 Y9.length c16), (50, .slice A l.length c), (51, .int .i64 (l.length : Int)), (52, .int .i64 i), (12, .int .i64 now)]) (fun ⟨i, now, tm, ds, wt, sr, W, u_W⟩ => [cel b4 [.int .i64 k, u_W, .int .i64 tm, .int .i64 ds, .int .i64 wt, .int .i64 sr, .int .i64 0] 86, rw_ eST 176 (u_W) W, rw_ eST 176 (.slice (some ⟨b19, 0, none⟩) 1 1) [(ST.mk 5 0 ((gt p.vehs k).st) ((gt p.vehs k).lo) 0 0 ((gt Y9 0).il) 0 0 ((gt Y9 0).ilA) ((gt Y9 0).ilc))], rw_ eIL 22 (.slice A15 Y9.length c16) Y9, nestIL 3 Y9, rw_ eZ 3 (.slice A12 ((placesF p (gt p.vehs k) l).length) c13) (placesF p (gt p.vehs k) l), cel b3 [.int .i64 ((gt p.vehs k).st), .int .i64 ((gt p.vehs k).en), .slice ((gt p.vehs k).vcA) ((gt p.vehs k).vcap.length) ((gt p.vehs k).vcc), .int .u64 ((gt p.vehs k).vsk), .int .i64 ((gt p.vehs k).lo), .int .i64 ((gt p.vehs k).hi), .int .i64 ((gt p.vehs k).fix), .int .i64 ((gt p.vehs k).pt), .int .i64 ((gt p.vehs k).pd), .int .i64 ((gt p.vehs k).mt), .slice ((gt p.vehs k).vbA) ((gt p.vehs k).brs.length) ((gt p.vehs k).vbc)] 72, cel b2 [.int .i64 0, .slice none 0 0, .int .i64 0, .int .i64 0, .int .i64 0, .int .i64 0, .int .i64 0] 86, cel b1 (cPB p) 29]) (fun _ => S) (fun _ => wf) (fun ⟨i, now, tm, ds, wt, sr, W, u_W⟩ => ((l.length : Int) - i).toNat) (fun a_ w_ hs_ hw_ => ⟨⟨0, (gt p.vehs k).lo, 0, 0, 0, 0, [(ST.mk 5 0 ((gt p.vehs k).st) ((gt p.vehs k).lo) 0 0 ((gt Y9 0).il) 0 0 ((gt Y9 0).ilA) ((gt Y9 0).ilc))], .slice A21 ([(ST.mk 5 0 ((gt p.vehs k).st) ((gt p.vehs k).lo) 0 0 ((gt Y9 0).il) 0 0 ((gt Y9 0).ilA) ((gt Y9 0).ilc))].length) c22⟩, (by (try dsimp only); exact ⟨oO, oO, G, oO, oO, oO, oO, oO, G⟩), hs_.mono (Sub.get (.c4 G G G G (.c4 G G G G (.c G (.c G (.c G .n)))))), hw_.keep (.d (.d (.d (.d (.c .h .n)))))⟩) (fun ⟨i, now, tm, ds, wt, sr, W, u_W⟩ ⟨q_0, q_1, q_2, q_3, q_4, q_5, q_6, q_7, q_8⟩ => ?_)))
 try dsimp only
 refine .seq (.region (.e G G G G G (.go idQ (.seq (.condI G bD (fun h24 => ?_) (fun h24 => ?_))))))
 ·
  refine .skipgo idQ (.seq (.block (.seq (.region (.m G G G (.v (ev_ix G underlying52 ty92 G G oO oO (fun _ _ => Fr.adr (i := i) hA oO oO)) G (.v (ev_lda G G (At.w (Fr.el (i := i) hA oO oO)) ty92) G ?_)))))))
  refine .cons (st_alloc G G G G zf92 (fun b25 => ?_))
  refine .a G G G (.cons (st_storea (l' := [.int .i64 ((gt l i).kind), .int .i64 ((gt l i).item)]) G G G ty92 G G G .h G G (.go idQ (.seq ?_))))
  have hct : -1 ≤ tcell p (gt (placesF p (gt p.vehs k) l) i) (gt (placesF p (gt p.vehs k) l) (i + 1)) ∧ tcell p (gt (placesF p (gt p.vehs k) l) i) (gt (placesF p (gt p.vehs k) l) (i + 1)) ≤ 32000000 := cellF_rng hL.tc
  have hcd : -1 ≤ dcell p (gt (placesF p (gt p.vehs k) l) i) (gt (placesF p (gt p.vehs k) l) (i + 1)) ∧ dcell p (gt (placesF p (gt p.vehs k) l) i) (gt (placesF p (gt p.vehs k) l) (i + 1)) ≤ 32000000 := cellF_rng hL.dc
  refine SC.draw mo [cel b4 [.int .i64 k, u_W, .int .i64 tm, .int .i64 ds, .int .i64 wt, .int .i64 sr, .int .i64 0] 86] [] (.c (.t .h) .n) (fun _ _ _ => sc0) (fun wf_26 hl_26 hx_26 hR_26 => ?_)
  refine SR.m 0 G G G G ?_
  refine SR.z 1 G G (ev_lda (cs := (cPB p)) G G (At.d (At.lent hR_26 8 G G)) ty29) ?_
  refine SR.m 2 G G G G ?_
  refine SR.m 3 G G G G ?_
  refine SR.z 4 G G (ev_ix G underlying22 ty3 G G oO oO (fun _ _ => Fr.adr (i := i) (Fr.lent (S := S) hR_26 5 G lO) oO oO)) ?_
  refine SR.z 5 G G (ev_ld1 G ty3 G (At.elem1 (At.d (Fr.el (i := i) (Fr.lent (S := S) hR_26 5 G lO) oO oO)) 0 G)) ?_
  refine SR.m 6 G G G G ?_
  refine SR.m 7 G G G G ?_
  refine SR.z 8 G G (ev_add G G G (r := (i + 1)) G oO oO) ?_
  refine SR.z 9 G G (ev_ix G underlying22 ty3 G G oO oO (fun _ _ => Fr.adr (i := (i + 1)) (Fr.lent (S := S) hR_26 5 G lO) oO oO)) ?_
  refine SR.z 10 G G (ev_ld1 G ty3 G (At.elem1 (At.d (Fr.el (i := (i + 1)) (Fr.lent (S := S) hR_26 5 G lO) oO oO)) 0 G)) ?_
  refine SR.o 11 G (st_call0 G G G G hbd158 G (.c .h .n) (drive_ p b4 k u_W tm ds wt sr 0 (gt (placesF p (gt p.vehs k) l) i) (gt (placesF p (gt p.vehs k) l) (i + 1)) _ _ ((hPB).ext hx_26) oO oO oO) (fun v_q27 C_q27 q27 => ⟨tt0, ?_⟩))
  obtain ⟨rfl, rfl⟩ := q27
  show SR _ _ _ _ _ _ _ _ _ ⟨_, _ :: _, _, _⟩
  refine SR.z 12 G G (ev_add G G G (r := (now + (tcell p (gt (placesF p (gt p.vehs k) l) i) (gt (placesF p (gt p.vehs k) l) (i + 1))))) G oO oO) ?_
  refine SR.z 13 G G (ev_as G G) ?_
  refine SR.fin kR hl_26 hx_26 hR_26 (.c .n) ?_
  refine SQ.go idQ ?_
  refine .seq (.region (.d 9 ty29 G G G G (.d 1 ty92 G G G G (.cons (st_call0 G G G G hbd123 G .n (stop_ p (gt l i) _ _ hPB (stop_ws hL)) (fun v_q29 C_q29 q29 => ?_))))))
  obtain ⟨u28, rfl, rfl⟩ := q29
  show SP _ _ _ _ _ _ ⟨_, _ :: _, _, _⟩
  refine .know (row_len 0 G) (fun hv32 => ?_)
  obtain ⟨A30, c31, rfl, hv32_1, hv32_2⟩ := hv32
  unfold maxLen at hv32_2
  refine .m G G G (.x G G G G (.x G G G G (.cons (st_alloc G G G G zf78 (fun b33 => ?_)))))
  refine .cons (st_storea (l' := [.int .i64 ((stopD p (gt l i)).pl), .int .i64 ((stopD p (gt l i)).srv), .slice A30 (((stopD p (gt l i)).sws).length) c31]) G G G ty78 G G G .h G G ?_)
  refine .a G G G (.go idQ (.seq (.seq (.region (.f fo92_0 0 G G G G (.l ty90 3 G G G G G ?_))))))
  refine .e G G G G G (.go idQ (.condI G bE (fun h34 => ?_) (fun h34 => ?_)))
  ·
   have hbi := hb i oO oO (by assumption)
   refine SC.draw mo [cel b33 [.int .i64 ((stopD p (gt l i)).pl), .int .i64 ((stopD p (gt l i)).srv), .slice A30 (((stopD p (gt l i)).sws).length) c31] 78] [] (.c .h .n) (fun _ _ _ => sc0) (fun wf_35 hl_35 hx_35 hR_35 => ?_)
   refine SR.z 0 G G (ev_fa G fo72_9 G (r := 10) G) ?_
   refine SR.z 1 G G (ev_ld1 G ty70 G (At.d (At.lent hR_35 8 G G))) ?_
   refine SR.z 2 G G (ev_fa G fo92_1 G (r := 1) G) ?_
   refine SR.z 3 G G (ev_ld1 G ty3 G (At.d (At.lent hR_35 2 G G))) ?_
   refine SR.z 4 G G (ev_ix G underlying70 ty75 G G oO oO (fun _ _ => Fr.adr (i := (gt l i).item) (((hPB).ext hx_35).2.2.1.2 k).2.1 oO oO)) ?_
   refine SR.z 5 G G (ev_fa G fo75_1 G (r := ao ((gt p.vehs k).vbA) + ((gt l i).item).toNat * 2 + 1) G) ?_
   refine SR.z 6 G G (ev_ld1 G ty3 G (At.elem1 (At.d (Fr.el (i := (gt l i).item) (((hPB).ext hx_35).2.2.1.2 k).2.1 oO oO)) 1 G)) ?_
   refine SR.z 7 G G (ev_fa G fo72_9 G (r := 10) G) ?_
   refine SR.z 8 G G (ev_ld1 G ty70 G (At.d (At.lent hR_35 8 G G))) ?_
   refine SR.z 9 G G (ev_fa G fo92_1 G (r := 1) G) ?_
   refine SR.z 10 G G (ev_ld1 G ty3 G (At.d (At.lent hR_35 2 G G))) ?_
   refine SR.z 11 G G (ev_ix G underlying70 ty75 G G oO oO (fun _ _ => Fr.adr (i := (gt l i).item) (((hPB).ext hx_35).2.2.1.2 k).2.1 oO oO)) ?_
   refine SR.z 12 G G (ev_fa G fo75_0 G (r := ao ((gt p.vehs k).vbA) + ((gt l i).item).toNat * 2) G) ?_
   refine SR.z 13 G G (ev_ld1 G ty73 G (At.elem1 (At.d (Fr.el (i := (gt l i).item) (((hPB).ext hx_35).2.2.1.2 k).2.1 oO oO)) 0 G)) ?_
   refine SR.z 14 G G (ev_any (v := .agg #[.int .i64 0, .int .i64 ((gt ((gt p.vehs k).brs) ((gt l i).item)).bsrv), .slice ((gt ((gt p.vehs k).brs) ((gt l i).item)).bwA) ((gt ((gt p.vehs k).brs) ((gt l i).item)).bws.length) ((gt ((gt p.vehs k).brs) ((gt l i).item)).bwc)]) G kR (fun _ => by kernel_rfl)) ?_
   refine SR.o 15 G (st_storea (l' := [.int .i64 0, .int .i64 ((gt ((gt p.vehs k).brs) ((gt l i).item)).bsrv), .slice ((gt ((gt p.vehs k).brs) ((gt l i).item)).bwA) ((gt ((gt p.vehs k).brs) ((gt l i).item)).bws.length) ((gt ((gt p.vehs k).brs) ((gt l i).item)).bwc)]) G G G ty78 G G G .h G G ⟨tt0, ?_⟩)
   refine SR.fin kR hl_35 hx_35 hR_35 (.c .n) ?_
   refine SQ.go idQ ?_
   refine .seq ?_
   have hws := stop_ws hL (gt l i)
   refine .region (.f fo78_2 2 G G G G (.l ty73 0 G G G G G (.m G G G ?_)))
   refine .cons (st_callk G G G G hbd85 G .n (hstart ((gt ((gt p.vehs k).brs) ((gt l i).item)).bwA) ((gt ((gt p.vehs k).brs) ((gt l i).item)).bwc) ((gt ((gt p.vehs k).brs) ((gt l i).item)).bws) (now + (tcell p (gt (placesF p (gt p.vehs k) l) i) (gt (placesF p (gt p.vehs k) l) (i + 1)))) _ _ ((hPB.2.2.1.2 k).2.2 ((gt l i).item))) ?_)
   refine .m G G G (.x G G G G (.x G G G G (.a G G G ?_)))
   refine .a G G G (.go idQ (.seq (.seq (.region (.m G G G (.v (ev_not G G) G ?_))))))
   refine .go idQ (.condI G (bN bV) (fun h36 => ?_) (fun h36 => ?_))
   ·
    refine .seq (.region (.v (ev_any (v := .agg #[.int .i64 0, .slice none 0 0, .int .i64 0, .int .i64 0, .int .i64 0, .int .i64 0, .int .i64 0]) G kR (fun _ => by kernel_rfl)) G (.cons (st_storea (l' := [.int .i64 0, .slice none 0 0, .int .i64 0, .int .i64 0, .int .i64 0, .int .i64 0, .int .i64 0]) G G G ty86 G G G (.t4 (.t4 (.t2 .h))) G G (.a G G G ?_)))))
    refine .go idQ (.ret idQ (retv2 results132 (.c 0 G G ty86) (.t G) .n ⟨0, none, 0, 0, (by rw [timesF_none (times_stop q_2 oO oO (stopB_b (by assumption)).1 (by assumption))]; rfl), G⟩))
   refine .skipgo idQ (.seq ?_)
   have hsb := stopB_bd (x := gt l i) (t := now + tcell p (gt (placesF p (gt p.vehs k) l) i) (gt (placesF p (gt p.vehs k) l) (i + 1))) hL hV (hb i oO oO)
   rw [(stopB_b (by assumption)).1, (stopB_b (by assumption)).2] at hsb
   have hok : (startF ((gt ((gt p.vehs k).brs) ((gt l i).item)).bws) (now + (tcell p (gt (placesF p (gt p.vehs k) l) i) (gt (placesF p (gt p.vehs k) l) (i + 1))))).2 = true := Classical.not_not.1 (by assumption)
   have hsb2 := hsb.2.2 hok
   refine SC.draw mo [cel b4 [.int .i64 k, u_W, .int .i64 (tm + tcell p (gt (placesF p (gt p.vehs k) l) i) (gt (placesF p (gt p.vehs k) l) (i + 1))), .int .i64 (ds + dcell p (gt (placesF p (gt p.vehs k) l) i) (gt (placesF p (gt p.vehs k) l) (i + 1))), .int .i64 wt, .int .i64 sr, .int .i64 0] 86] [(12, fun w => At w b4 0 [.int .i64 k, u_W, .int .i64 (tm + tcell p (gt (placesF p (gt p.vehs k) l) i) (gt (placesF p (gt p.vehs k) l) (i + 1))), .int .i64 (ds + dcell p (gt (placesF p (gt p.vehs k) l) i) (gt (placesF p (gt p.vehs k) l) (i + 1))), .int .i64 wt, .int .i64 sr, .int .i64 0])] (.c (.t2 .h) .n) (fun w_ _ hw_ => (sc1 (At.whole 0 G w_ hw_) sc0)) (fun wf_37 hl_37 hx_37 hR_37 => ?_)
   refine SR.z 0 G G (ev_fa G fo86_4 G (r := 4) G) ?_
   refine SR.z 1 G G (ev_ld1 G ty3 G (At.elem1 (v := .int .i64 wt) (At.ofcs 0 G kR) 4 G)) ?_
   refine SR.m 2 G G G G ?_
   refine SR.z 3 G G (ev_add G G G (r := (wt + ((startF ((gt ((gt p.vehs k).brs) ((gt l i).item)).bws) (now + (tcell p (gt (placesF p (gt p.vehs k) l) i) (gt (placesF p (gt p.vehs k) l) (i + 1))))).1))) G oO oO) ?_
   refine SR.m 4 G G G G ?_
   refine SR.z 5 G G (ev_sub G G G (r := ((wt + ((startF ((gt ((gt p.vehs k).brs) ((gt l i).item)).bws) (now + (tcell p (gt (placesF p (gt p.vehs k) l) i) (gt (placesF p (gt p.vehs k) l) (i + 1))))).1)) - (now + (tcell p (gt (placesF p (gt p.vehs k) l) i) (gt (placesF p (gt p.vehs k) l) (i + 1)))))) G oO oO) ?_
   refine SR.z 6 G G (ev_fa G fo86_5 G (r := 5) G) ?_
   refine SR.z 7 G G (ev_ld1 G ty3 G (At.elem1 (v := .int .i64 sr) (At.ofcs 0 G kR) 5 G)) ?_
   refine SR.z 8 G G (ev_fa G fo78_1 G (r := 1) G) ?_
   refine SR.z 9 G G (ev_ld1 G ty3 G (At.d (At.lent hR_37 0 G G))) ?_
   refine SR.z 10 G G (ev_add G G G (r := (sr + ((gt ((gt p.vehs k).brs) ((gt l i).item)).bsrv))) G oO oO) ?_
   refine SR.z 11 G G (ev_fa G fo86_4 G (r := 4) G) ?_
   refine SR.o 12 G (st_store1 G G G ty3 G G G .h (.t4 .h) ⟨ttc (fun w_ hw_ => (tc2 kR tc0)), ?_⟩)
   refine SR.z 13 G G (ev_fa G fo86_5 G (r := 5) G) ?_
   refine SR.o 14 G (st_store1 G G G ty3 G G G .h (.t4 (.t .h)) ⟨ttc (fun w_ hw_ => (tc2 kR tc0)), ?_⟩)
   refine SR.fin kR hl_37 hx_37 hR_37 (.c .n) ?_
   refine SQ.go idQ ?_
   refine .seq ?_
   refine SC.draw mo [cel b4 [.int .i64 k, u_W, .int .i64 (tm + tcell p (gt (placesF p (gt p.vehs k) l) i) (gt (placesF p (gt p.vehs k) l) (i + 1))), .int .i64 (ds + dcell p (gt (placesF p (gt p.vehs k) l) i) (gt (placesF p (gt p.vehs k) l) (i + 1))), .int .i64 ((wt + ((startF ((gt ((gt p.vehs k).brs) ((gt l i).item)).bws) (now + (tcell p (gt (placesF p (gt p.vehs k) l) i) (gt (placesF p (gt p.vehs k) l) (i + 1))))).1)) - (now + (tcell p (gt (placesF p (gt p.vehs k) l) i) (gt (placesF p (gt p.vehs k) l) (i + 1))))), .int .i64 (sr + ((gt ((gt p.vehs k).brs) ((gt l i).item)).bsrv)), .int .i64 0] 86, rw_ eST 176 (u_W) W] [(27, fun w => At w b4 0 [.int .i64 k, u_W, .int .i64 (tm + tcell p (gt (placesF p (gt p.vehs k) l) i) (gt (placesF p (gt p.vehs k) l) (i + 1))), .int .i64 (ds + dcell p (gt (placesF p (gt p.vehs k) l) i) (gt (placesF p (gt p.vehs k) l) (i + 1))), .int .i64 ((wt + ((startF ((gt ((gt p.vehs k).brs) ((gt l i).item)).bws) (now + (tcell p (gt (placesF p (gt p.vehs k) l) i) (gt (placesF p (gt p.vehs k) l) (i + 1))))).1)) - (now + (tcell p (gt (placesF p (gt p.vehs k) l) i) (gt (placesF p (gt p.vehs k) l) (i + 1))))), .int .i64 (sr + ((gt ((gt p.vehs k).brs) ((gt l i).item)).bsrv)), .int .i64 0])] (.c .h (.c (.t2 (.t .h)) .n)) (fun w_ _ hw_ => (sc1 (At.whole 0 G w_ hw_) sc0)) (fun wf_38 hl_38 hx_38 hR_38 => ?_)
   refine SR.z 0 G G (ev_fa G fo86_1 G (r := 1) G) ?_
   refine SR.z 1 G G (ev_ld1 G ty84 G (At.elem1 (v := u_W) (At.ofcs 0 G kR) 1 G)) ?_
   refine SR.z 2 G G (ev_lda (cs := [.int .i64 ((gt l i).kind), .int .i64 ((gt l i).item)]) G G (At.d (At.lent hR_38 2 G G)) ty92) ?_
   refine SR.m 3 G G G G ?_
   refine SR.m 4 G G G G ?_
   refine SR.z 5 G G (ev_add G G G (r := (i + 1)) G oO oO) ?_
   refine SR.z 6 G G (ev_ix G underlying22 ty3 G G oO oO (fun _ _ => Fr.adr (i := (i + 1)) (Fr.lent (S := S) hR_38 6 G lO) oO oO)) ?_
   refine SR.z 7 G G (ev_ld1 G ty3 G (At.elem1 (At.d (Fr.el (i := (i + 1)) (Fr.lent (S := S) hR_38 6 G lO) oO oO)) 0 G)) ?_
   refine SR.m 8 G G G G ?_
   refine SR.m 9 G G G G ?_
   refine SR.m 10 G G G G ?_
   refine SR.z 11 G G (ev_sub G G G (r := (((startF ((gt ((gt p.vehs k).brs) ((gt l i).item)).bws) (now + (tcell p (gt (placesF p (gt p.vehs k) l) i) (gt (placesF p (gt p.vehs k) l) (i + 1))))).1) - (now + (tcell p (gt (placesF p (gt p.vehs k) l) i) (gt (placesF p (gt p.vehs k) l) (i + 1)))))) G oO oO) ?_
   refine SR.z 12 G G (ev_fa G fo78_1 G (r := 1) G) ?_
   refine SR.z 13 G G (ev_ld1 G ty3 G (At.d (At.lent hR_38 0 G G))) ?_
   refine SR.m 14 G G G G ?_
   refine SR.m 15 G G G G ?_
   refine SR.z 16 G G (ev_add G G G (r := (i + 1)) G oO oO) ?_
   refine SR.z 17 G G (ev_ix G underlying173 ty22 G G oO oO (fun _ _ => Fr.adr (i := (i + 1)) (Fr.lent (S := S) hR_38 4 G lO) oO oO)) ?_
   refine SR.z 18 G G (ev_ld1 G ty22 G (At.elem1 (At.d (Fr.el (i := (i + 1)) (Fr.lent (S := S) hR_38 4 G lO) oO oO)) 0 G)) ?_
   refine SR.z 19 G G (ev_fa G fo86_2 G (r := 2) G) ?_
   refine SR.z 20 G G (ev_ld1 G ty3 G (At.elem1 (v := .int .i64 (tm + tcell p (gt (placesF p (gt p.vehs k) l) i) (gt (placesF p (gt p.vehs k) l) (i + 1)))) (At.ofcs 0 G kR) 2 G)) ?_
   refine SR.z 21 G G (ev_fa G fo86_3 G (r := 3) G) ?_
   refine SR.z 22 G G (ev_ld1 G ty3 G (At.elem1 (v := .int .i64 (ds + dcell p (gt (placesF p (gt p.vehs k) l) i) (gt (placesF p (gt p.vehs k) l) (i + 1)))) (At.ofcs 0 G kR) 3 G)) ?_
   refine SR.z 23 G G (ev_any (v := .agg #[.int .i64 ((gt l i).kind), .int .i64 ((gt l i).item), .int .i64 (gt (placesF p (gt p.vehs k) l) (i + 1)), .int .i64 (now + (tcell p (gt (placesF p (gt p.vehs k) l) i) (gt (placesF p (gt p.vehs k) l) (i + 1)))), .int .i64 (((startF ((gt ((gt p.vehs k).brs) ((gt l i).item)).bws) (now + (tcell p (gt (placesF p (gt p.vehs k) l) i) (gt (placesF p (gt p.vehs k) l) (i + 1))))).1) - (now + (tcell p (gt (placesF p (gt p.vehs k) l) i) (gt (placesF p (gt p.vehs k) l) (i + 1))))), .int .i64 ((gt ((gt p.vehs k).brs) ((gt l i).item)).bsrv), .slice ((gt Y9 (i + 1)).ilA) ((gt Y9 (i + 1)).il.length) ((gt Y9 (i + 1)).ilc), .int .i64 (tm + tcell p (gt (placesF p (gt p.vehs k) l) i) (gt (placesF p (gt p.vehs k) l) (i + 1))), .int .i64 (ds + dcell p (gt (placesF p (gt p.vehs k) l) i) (gt (placesF p (gt p.vehs k) l) (i + 1)))]) G kR (fun _ => by kernel_rfl)) ?_
   refine SR.o 24 G (st_lit eST (e := 176) (l := [(ST.mk ((gt l i).kind) ((gt l i).item) (gt (placesF p (gt p.vehs k) l) (i + 1)) (now + (tcell p (gt (placesF p (gt p.vehs k) l) i) (gt (placesF p (gt p.vehs k) l) (i + 1)))) (((startF ((gt ((gt p.vehs k).brs) ((gt l i).item)).bws) (now + (tcell p (gt (placesF p (gt p.vehs k) l) i) (gt (placesF p (gt p.vehs k) l) (i + 1))))).1) - (now + (tcell p (gt (placesF p (gt p.vehs k) l) i) (gt (placesF p (gt p.vehs k) l) (i + 1))))) ((gt ((gt p.vehs k).brs) ((gt l i).item)).bsrv) ((gt Y9 (i + 1)).il) (tm + tcell p (gt (placesF p (gt p.vehs k) l) i) (gt (placesF p (gt p.vehs k) l) (i + 1))) (ds + dcell p (gt (placesF p (gt p.vehs k) l) i) (gt (placesF p (gt p.vehs k) l) (i + 1))) ((gt Y9 (i + 1)).ilA) ((gt Y9 (i + 1)).ilc))]) G G G G kR G G kW (fun b39 => ⟨ttw 1 G, ?_⟩))
   refine SR.o 25 G (st_app (E := eST) (m := [(ST.mk ((gt l i).kind) ((gt l i).item) (gt (placesF p (gt p.vehs k) l) (i + 1)) (now + (tcell p (gt (placesF p (gt p.vehs k) l) i) (gt (placesF p (gt p.vehs k) l) (i + 1)))) (((startF ((gt ((gt p.vehs k).brs) ((gt l i).item)).bws) (now + (tcell p (gt (placesF p (gt p.vehs k) l) i) (gt (placesF p (gt p.vehs k) l) (i + 1))))).1) - (now + (tcell p (gt (placesF p (gt p.vehs k) l) i) (gt (placesF p (gt p.vehs k) l) (i + 1))))) ((gt ((gt p.vehs k).brs) ((gt l i).item)).bsrv) ((gt Y9 (i + 1)).il) (tm + tcell p (gt (placesF p (gt p.vehs k) l) i) (gt (placesF p (gt p.vehs k) l) (i + 1))) (ds + dcell p (gt (placesF p (gt p.vehs k) l) i) (gt (placesF p (gt p.vehs k) l) (i + 1))) ((gt Y9 (i + 1)).ilA) ((gt Y9 (i + 1)).ilc))]) G G G G underlying84 ai176 G G G (.t2 .h) rO (row_src 0 G) lO G (fun v40 => ⟨ttw 2 G, ?_⟩))
   refine SR.z 26 G G (ev_fa G fo86_1 G (r := 1) G) ?_
   refine .know (row_len 0 G) (fun hv43 => ?_)
   obtain ⟨A41, c42, rfl, hv43_1, hv43_2⟩ := hv43
   unfold maxLen at hv43_2
   refine SR.o 27 G (st_store1 G G G ty84 G G G (.t2 .h) (.t .h) ⟨ttc (fun w_ hw_ => (tc2 kR tc0)), ?_⟩)
   refine SR.fin kR hl_38 hx_38 hR_38 (.c (.c (.c .n))) ?_
   refine SQ.go idQ ?_
   refine .region (.m G G G (.f fo78_1 1 G G G G (.l ty3 3 G G G G G ?_)))
   refine .v (ev_add G G G (r := (((startF ((gt ((gt p.vehs k).brs) ((gt l i).item)).bws) (now + (tcell p (gt (placesF p (gt p.vehs k) l) i) (gt (placesF p (gt p.vehs k) l) (i + 1))))).1) + ((gt ((gt p.vehs k).brs) ((gt l i).item)).bsrv))) G oO oO) G (.a G G G (.go idQ (.region (.p ((i + 1)) oO oO G G G G G ?_))))
   refine .m G G G ?_
   exact SP.nil (SQ.roundb (X := Int × Int × Int × Int × Int × Int × (List ST) × Value) (x := (i, now, tm, ds, wt, sr, W, u_W)) ⟨(i + 1), (((startF ((gt ((gt p.vehs k).brs) ((gt l i).item)).bws) (now + (tcell p (gt (placesF p (gt p.vehs k) l) i) (gt (placesF p (gt p.vehs k) l) (i + 1))))).1) + ((gt ((gt p.vehs k).brs) ((gt l i).item)).bsrv)), (tm + tcell p (gt (placesF p (gt p.vehs k) l) i) (gt (placesF p (gt p.vehs k) l) (i + 1))), (ds + dcell p (gt (placesF p (gt p.vehs k) l) i) (gt (placesF p (gt p.vehs k) l) (i + 1))), ((wt + ((startF ((gt ((gt p.vehs k).brs) ((gt l i).item)).bws) (now + (tcell p (gt (placesF p (gt p.vehs k) l) i) (gt (placesF p (gt p.vehs k) l) (i + 1))))).1)) - (now + (tcell p (gt (placesF p (gt p.vehs k) l) i) (gt (placesF p (gt p.vehs k) l) (i + 1))))), (sr + ((gt ((gt p.vehs k).brs) ((gt l i).item)).bsrv)), (W ++ [(ST.mk ((gt l i).kind) ((gt l i).item) (gt (placesF p (gt p.vehs k) l) (i + 1)) (now + (tcell p (gt (placesF p (gt p.vehs k) l) i) (gt (placesF p (gt p.vehs k) l) (i + 1)))) (((startF ((gt ((gt p.vehs k).brs) ((gt l i).item)).bws) (now + (tcell p (gt (placesF p (gt p.vehs k) l) i) (gt (placesF p (gt p.vehs k) l) (i + 1))))).1) - (now + (tcell p (gt (placesF p (gt p.vehs k) l) i) (gt (placesF p (gt p.vehs k) l) (i + 1))))) ((gt ((gt p.vehs k).brs) ((gt l i).item)).bsrv) ((gt Y9 (i + 1)).il) (tm + tcell p (gt (placesF p (gt p.vehs k) l) i) (gt (placesF p (gt p.vehs k) l) (i + 1))) (ds + dcell p (gt (placesF p (gt p.vehs k) l) i) (gt (placesF p (gt p.vehs k) l) (i + 1))) ((gt Y9 (i + 1)).ilA) ((gt Y9 (i + 1)).ilc))]), .slice A41 ((W ++ [(ST.mk ((gt l i).kind) ((gt l i).item) (gt (placesF p (gt p.vehs k) l) (i + 1)) (now + (tcell p (gt (placesF p (gt p.vehs k) l) i) (gt (placesF p (gt p.vehs k) l) (i + 1)))) (((startF ((gt ((gt p.vehs k).brs) ((gt l i).item)).bws) (now + (tcell p (gt (placesF p (gt p.vehs k) l) i) (gt (placesF p (gt p.vehs k) l) (i + 1))))).1) - (now + (tcell p (gt (placesF p (gt p.vehs k) l) i) (gt (placesF p (gt p.vehs k) l) (i + 1))))) ((gt ((gt p.vehs k).brs) ((gt l i).item)).bsrv) ((gt Y9 (i + 1)).il) (tm + tcell p (gt (placesF p (gt p.vehs k) l) i) (gt (placesF p (gt p.vehs k) l) (i + 1))) (ds + dcell p (gt (placesF p (gt p.vehs k) l) i) (gt (placesF p (gt p.vehs k) l) (i + 1))) ((gt Y9 (i + 1)).ilA) ((gt Y9 (i + 1)).ilc))]).length) c42⟩ (by (try dsimp only); exact ⟨oO, oO, (times_next q_2 oO oO (stopB_b (by assumption)).1 (stopB_b (by assumption)).2 hok), oO, oO, oO, oO, oO, (by simp only [List.length_append, List.length_singleton]; omega)⟩) dO (Sub.get (.c4 G G G G (.c4 G G G G (.c G (.c G (.c G .n)))))) (kp (.d (.c (.t4 .h) (.c (.t4 .h) (.c (.t4 .h) (.c (.t4 .h) (.c (.t4 .h) (.c (.t4 .h) (.c (.t4 .h) .n))))))))))
  refine .skipgo idQ (.seq ?_)
  have hws := stop_ws hL (gt l i)
  refine .region (.f fo78_2 2 G G G G (.l ty73 0 G G G G G (.m G G G ?_)))
  refine .cons (st_lendk G G G G hbd85 G .n (.c (.t .h) .n) (fun w_ hw => hstart A30 c31 ((stopD p (gt l i)).sws) (now + (tcell p (gt (placesF p (gt p.vehs k) l) i) (gt (placesF p (gt p.vehs k) l) (i + 1)))) _ _ (Fr.lend hw 0 G lO)) ?_)
  refine .m G G G (.x G G G G (.x G G G G (.a G G G ?_)))
  refine .a G G G (.go idQ (.seq (.seq (.region (.m G G G (.v (ev_not G G) G ?_))))))
  refine .go idQ (.condI G (bN bV) (fun h44 => ?_) (fun h44 => ?_))
  ·
   refine .seq (.region (.v (ev_any (v := .agg #[.int .i64 0, .slice none 0 0, .int .i64 0, .int .i64 0, .int .i64 0, .int .i64 0, .int .i64 0]) G kR (fun _ => by kernel_rfl)) G (.cons (st_storea (l' := [.int .i64 0, .slice none 0 0, .int .i64 0, .int .i64 0, .int .i64 0, .int .i64 0, .int .i64 0]) G G G ty86 G G G (.t4 (.t4 (.t2 .h))) G G (.a G G G ?_)))))
   refine .go idQ (.ret idQ (retv2 results132 (.c 0 G G ty86) (.t G) .n ⟨0, none, 0, 0, (by rw [timesF_none (times_stop q_2 oO oO (stopB_n (by assumption)).1 (by assumption))]; rfl), G⟩))
  refine .skipgo idQ (.seq ?_)
  have hsb := stopB_bd (x := gt l i) (t := now + tcell p (gt (placesF p (gt p.vehs k) l) i) (gt (placesF p (gt p.vehs k) l) (i + 1))) hL hV (hb i oO oO)
  rw [(stopB_n (by assumption)).1, (stopB_n (by assumption)).2] at hsb
  have hok : (startF ((stopD p (gt l i)).sws) (now + (tcell p (gt (placesF p (gt p.vehs k) l) i) (gt (placesF p (gt p.vehs k) l) (i + 1))))).2 = true := Classical.not_not.1 (by assumption)
  have hsb2 := hsb.2.2 hok
  refine SC.draw mo [cel b4 [.int .i64 k, u_W, .int .i64 (tm + tcell p (gt (placesF p (gt p.vehs k) l) i) (gt (placesF p (gt p.vehs k) l) (i + 1))), .int .i64 (ds + dcell p (gt (placesF p (gt p.vehs k) l) i) (gt (placesF p (gt p.vehs k) l) (i + 1))), .int .i64 wt, .int .i64 sr, .int .i64 0] 86] [(12, fun w => At w b4 0 [.int .i64 k, u_W, .int .i64 (tm + tcell p (gt (placesF p (gt p.vehs k) l) i) (gt (placesF p (gt p.vehs k) l) (i + 1))), .int .i64 (ds + dcell p (gt (placesF p (gt p.vehs k) l) i) (gt (placesF p (gt p.vehs k) l) (i + 1))), .int .i64 wt, .int .i64 sr, .int .i64 0])] (.c (.t2 .h) .n) (fun w_ _ hw_ => (sc1 (At.whole 0 G w_ hw_) sc0)) (fun wf_45 hl_45 hx_45 hR_45 => ?_)
  refine SR.z 0 G G (ev_fa G fo86_4 G (r := 4) G) ?_
  refine SR.z 1 G G (ev_ld1 G ty3 G (At.elem1 (v := .int .i64 wt) (At.ofcs 0 G kR) 4 G)) ?_
  refine SR.m 2 G G G G ?_
  refine SR.z 3 G G (ev_add G G G (r := (wt + ((startF ((stopD p (gt l i)).sws) (now + (tcell p (gt (placesF p (gt p.vehs k) l) i) (gt (placesF p (gt p.vehs k) l) (i + 1))))).1))) G oO oO) ?_
  refine SR.m 4 G G G G ?_
  refine SR.z 5 G G (ev_sub G G G (r := ((wt + ((startF ((stopD p (gt l i)).sws) (now + (tcell p (gt (placesF p (gt p.vehs k) l) i) (gt (placesF p (gt p.vehs k) l) (i + 1))))).1)) - (now + (tcell p (gt (placesF p (gt p.vehs k) l) i) (gt (placesF p (gt p.vehs k) l) (i + 1)))))) G oO oO) ?_
  refine SR.z 6 G G (ev_fa G fo86_5 G (r := 5) G) ?_
  refine SR.z 7 G G (ev_ld1 G ty3 G (At.elem1 (v := .int .i64 sr) (At.ofcs 0 G kR) 5 G)) ?_
  refine SR.z 8 G G (ev_fa G fo78_1 G (r := 1) G) ?_
  refine SR.z 9 G G (ev_ld1 G ty3 G (At.d (At.lent hR_45 0 G G))) ?_
  refine SR.z 10 G G (ev_add G G G (r := (sr + ((stopD p (gt l i)).srv))) G oO oO) ?_
  refine SR.z 11 G G (ev_fa G fo86_4 G (r := 4) G) ?_
  refine SR.o 12 G (st_store1 G G G ty3 G G G .h (.t4 .h) ⟨ttc (fun w_ hw_ => (tc2 kR tc0)), ?_⟩)
  refine SR.z 13 G G (ev_fa G fo86_5 G (r := 5) G) ?_
  refine SR.o 14 G (st_store1 G G G ty3 G G G .h (.t4 (.t .h)) ⟨ttc (fun w_ hw_ => (tc2 kR tc0)), ?_⟩)
  refine SR.fin kR hl_45 hx_45 hR_45 (.c .n) ?_
  refine SQ.go idQ ?_
  refine .seq ?_
  refine SC.draw mo [cel b4 [.int .i64 k, u_W, .int .i64 (tm + tcell p (gt (placesF p (gt p.vehs k) l) i) (gt (placesF p (gt p.vehs k) l) (i + 1))), .int .i64 (ds + dcell p (gt (placesF p (gt p.vehs k) l) i) (gt (placesF p (gt p.vehs k) l) (i + 1))), .int .i64 ((wt + ((startF ((stopD p (gt l i)).sws) (now + (tcell p (gt (placesF p (gt p.vehs k) l) i) (gt (placesF p (gt p.vehs k) l) (i + 1))))).1)) - (now + (tcell p (gt (placesF p (gt p.vehs k) l) i) (gt (placesF p (gt p.vehs k) l) (i + 1))))), .int .i64 (sr + ((stopD p (gt l i)).srv)), .int .i64 0] 86, rw_ eST 176 (u_W) W] [(27, fun w => At w b4 0 [.int .i64 k, u_W, .int .i64 (tm + tcell p (gt (placesF p (gt p.vehs k) l) i) (gt (placesF p (gt p.vehs k) l) (i + 1))), .int .i64 (ds + dcell p (gt (placesF p (gt p.vehs k) l) i) (gt (placesF p (gt p.vehs k) l) (i + 1))), .int .i64 ((wt + ((startF ((stopD p (gt l i)).sws) (now + (tcell p (gt (placesF p (gt p.vehs k) l) i) (gt (placesF p (gt p.vehs k) l) (i + 1))))).1)) - (now + (tcell p (gt (placesF p (gt p.vehs k) l) i) (gt (placesF p (gt p.vehs k) l) (i + 1))))), .int .i64 (sr + ((stopD p (gt l i)).srv)), .int .i64 0])] (.c .h (.c (.t2 (.t .h)) .n)) (fun w_ _ hw_ => (sc1 (At.whole 0 G w_ hw_) sc0)) (fun wf_46 hl_46 hx_46 hR_46 => ?_)
  refine SR.z 0 G G (ev_fa G fo86_1 G (r := 1) G) ?_
  refine SR.z 1 G G (ev_ld1 G ty84 G (At.elem1 (v := u_W) (At.ofcs 0 G kR) 1 G)) ?_
  refine SR.z 2 G G (ev_lda (cs := [.int .i64 ((gt l i).kind), .int .i64 ((gt l i).item)]) G G (At.d (At.lent hR_46 2 G G)) ty92) ?_
  refine SR.m 3 G G G G ?_
  refine SR.m 4 G G G G ?_
  refine SR.z 5 G G (ev_add G G G (r := (i + 1)) G oO oO) ?_
  refine SR.z 6 G G (ev_ix G underlying22 ty3 G G oO oO (fun _ _ => Fr.adr (i := (i + 1)) (Fr.lent (S := S) hR_46 6 G lO) oO oO)) ?_
  refine SR.z 7 G G (ev_ld1 G ty3 G (At.elem1 (At.d (Fr.el (i := (i + 1)) (Fr.lent (S := S) hR_46 6 G lO) oO oO)) 0 G)) ?_
  refine SR.m 8 G G G G ?_
  refine SR.m 9 G G G G ?_
  refine SR.m 10 G G G G ?_
  refine SR.z 11 G G (ev_sub G G G (r := (((startF ((stopD p (gt l i)).sws) (now + (tcell p (gt (placesF p (gt p.vehs k) l) i) (gt (placesF p (gt p.vehs k) l) (i + 1))))).1) - (now + (tcell p (gt (placesF p (gt p.vehs k) l) i) (gt (placesF p (gt p.vehs k) l) (i + 1)))))) G oO oO) ?_
  refine SR.z 12 G G (ev_fa G fo78_1 G (r := 1) G) ?_
  refine SR.z 13 G G (ev_ld1 G ty3 G (At.d (At.lent hR_46 0 G G))) ?_
  refine SR.m 14 G G G G ?_
  refine SR.m 15 G G G G ?_
  refine SR.z 16 G G (ev_add G G G (r := (i + 1)) G oO oO) ?_
  refine SR.z 17 G G (ev_ix G underlying173 ty22 G G oO oO (fun _ _ => Fr.adr (i := (i + 1)) (Fr.lent (S := S) hR_46 4 G lO) oO oO)) ?_
  refine SR.z 18 G G (ev_ld1 G ty22 G (At.elem1 (At.d (Fr.el (i := (i + 1)) (Fr.lent (S := S) hR_46 4 G lO) oO oO)) 0 G)) ?_
  refine SR.z 19 G G (ev_fa G fo86_2 G (r := 2) G) ?_
  refine SR.z 20 G G (ev_ld1 G ty3 G (At.elem1 (v := .int .i64 (tm + tcell p (gt (placesF p (gt p.vehs k) l) i) (gt (placesF p (gt p.vehs k) l) (i + 1)))) (At.ofcs 0 G kR) 2 G)) ?_
  refine SR.z 21 G G (ev_fa G fo86_3 G (r := 3) G) ?_
  refine SR.z 22 G G (ev_ld1 G ty3 G (At.elem1 (v := .int .i64 (ds + dcell p (gt (placesF p (gt p.vehs k) l) i) (gt (placesF p (gt p.vehs k) l) (i + 1)))) (At.ofcs 0 G kR) 3 G)) ?_
  refine SR.z 23 G G (ev_any (v := .agg #[.int .i64 ((gt l i).kind), .int .i64 ((gt l i).item), .int .i64 (gt (placesF p (gt p.vehs k) l) (i + 1)), .int .i64 (now + (tcell p (gt (placesF p (gt p.vehs k) l) i) (gt (placesF p (gt p.vehs k) l) (i + 1)))), .int .i64 (((startF ((stopD p (gt l i)).sws) (now + (tcell p (gt (placesF p (gt p.vehs k) l) i) (gt (placesF p (gt p.vehs k) l) (i + 1))))).1) - (now + (tcell p (gt (placesF p (gt p.vehs k) l) i) (gt (placesF p (gt p.vehs k) l) (i + 1))))), .int .i64 ((stopD p (gt l i)).srv), .slice ((gt Y9 (i + 1)).ilA) ((gt Y9 (i + 1)).il.length) ((gt Y9 (i + 1)).ilc), .int .i64 (tm + tcell p (gt (placesF p (gt p.vehs k) l) i) (gt (placesF p (gt p.vehs k) l) (i + 1))), .int .i64 (ds + dcell p (gt (placesF p (gt p.vehs k) l) i) (gt (placesF p (gt p.vehs k) l) (i + 1)))]) G kR (fun _ => by kernel_rfl)) ?_
  refine SR.o 24 G (st_lit eST (e := 176) (l := [(ST.mk ((gt l i).kind) ((gt l i).item) (gt (placesF p (gt p.vehs k) l) (i + 1)) (now + (tcell p (gt (placesF p (gt p.vehs k) l) i) (gt (placesF p (gt p.vehs k) l) (i + 1)))) (((startF ((stopD p (gt l i)).sws) (now + (tcell p (gt (placesF p (gt p.vehs k) l) i) (gt (placesF p (gt p.vehs k) l) (i + 1))))).1) - (now + (tcell p (gt (placesF p (gt p.vehs k) l) i) (gt (placesF p (gt p.vehs k) l) (i + 1))))) ((stopD p (gt l i)).srv) ((gt Y9 (i + 1)).il) (tm + tcell p (gt (placesF p (gt p.vehs k) l) i) (gt (placesF p (gt p.vehs k) l) (i + 1))) (ds + dcell p (gt (placesF p (gt p.vehs k) l) i) (gt (placesF p (gt p.vehs k) l) (i + 1))) ((gt Y9 (i + 1)).ilA) ((gt Y9 (i + 1)).ilc))]) G G G G kR G G kW (fun b47 => ⟨ttw 1 G, ?_⟩))
  refine SR.o 25 G (st_app (E := eST) (m := [(ST.mk ((gt l i).kind) ((gt l i).item) (gt (placesF p (gt p.vehs k) l) (i + 1)) (now + (tcell p (gt (placesF p (gt p.vehs k) l) i) (gt (placesF p (gt p.vehs k) l) (i + 1)))) (((startF ((stopD p (gt l i)).sws) (now + (tcell p (gt (placesF p (gt p.vehs k) l) i) (gt (placesF p (gt p.vehs k) l) (i + 1))))).1) - (now + (tcell p (gt (placesF p (gt p.vehs k) l) i) (gt (placesF p (gt p.vehs k) l) (i + 1))))) ((stopD p (gt l i)).srv) ((gt Y9 (i + 1)).il) (tm + tcell p (gt (placesF p (gt p.vehs k) l) i) (gt (placesF p (gt p.vehs k) l) (i + 1))) (ds + dcell p (gt (placesF p (gt p.vehs k) l) i) (gt (placesF p (gt p.vehs k) l) (i + 1))) ((gt Y9 (i + 1)).ilA) ((gt Y9 (i + 1)).ilc))]) G G G G underlying84 ai176 G G G (.t2 .h) rO (row_src 0 G) lO G (fun v48 => ⟨ttw 2 G, ?_⟩))
  refine SR.z 26 G G (ev_fa G fo86_1 G (r := 1) G) ?_
  refine .know (row_len 0 G) (fun hv51 => ?_)
  obtain ⟨A49, c50, rfl, hv51_1, hv51_2⟩ := hv51
  unfold maxLen at hv51_2
  refine SR.o 27 G (st_store1 G G G ty84 G G G (.t2 .h) (.t .h) ⟨ttc (fun w_ hw_ => (tc2 kR tc0)), ?_⟩)
  refine SR.fin kR hl_46 hx_46 hR_46 (.c (.c (.c .n))) ?_
  refine SQ.go idQ ?_
  refine .region (.m G G G (.f fo78_1 1 G G G G (.l ty3 3 G G G G G ?_)))
  refine .v (ev_add G G G (r := (((startF ((stopD p (gt l i)).sws) (now + (tcell p (gt (placesF p (gt p.vehs k) l) i) (gt (placesF p (gt p.vehs k) l) (i + 1))))).1) + ((stopD p (gt l i)).srv))) G oO oO) G (.a G G G (.go idQ (.region (.p ((i + 1)) oO oO G G G G G ?_))))
  refine .m G G G ?_
  exact SP.nil (SQ.roundb (X := Int × Int × Int × Int × Int × Int × (List ST) × Value) (x := (i, now, tm, ds, wt, sr, W, u_W)) ⟨(i + 1), (((startF ((stopD p (gt l i)).sws) (now + (tcell p (gt (placesF p (gt p.vehs k) l) i) (gt (placesF p (gt p.vehs k) l) (i + 1))))).1) + ((stopD p (gt l i)).srv)), (tm + tcell p (gt (placesF p (gt p.vehs k) l) i) (gt (placesF p (gt p.vehs k) l) (i + 1))), (ds + dcell p (gt (placesF p (gt p.vehs k) l) i) (gt (placesF p (gt p.vehs k) l) (i + 1))), ((wt + ((startF ((stopD p (gt l i)).sws) (now + (tcell p (gt (placesF p (gt p.vehs k) l) i) (gt (placesF p (gt p.vehs k) l) (i + 1))))).1)) - (now + (tcell p (gt (placesF p (gt p.vehs k) l) i) (gt (placesF p (gt p.vehs k) l) (i + 1))))), (sr + ((stopD p (gt l i)).srv)), (W ++ [(ST.mk ((gt l i).kind) ((gt l i).item) (gt (placesF p (gt p.vehs k) l) (i + 1)) (now + (tcell p (gt (placesF p (gt p.vehs k) l) i) (gt (placesF p (gt p.vehs k) l) (i + 1)))) (((startF ((stopD p (gt l i)).sws) (now + (tcell p (gt (placesF p (gt p.vehs k) l) i) (gt (placesF p (gt p.vehs k) l) (i + 1))))).1) - (now + (tcell p (gt (placesF p (gt p.vehs k) l) i) (gt (placesF p (gt p.vehs k) l) (i + 1))))) ((stopD p (gt l i)).srv) ((gt Y9 (i + 1)).il) (tm + tcell p (gt (placesF p (gt p.vehs k) l) i) (gt (placesF p (gt p.vehs k) l) (i + 1))) (ds + dcell p (gt (placesF p (gt p.vehs k) l) i) (gt (placesF p (gt p.vehs k) l) (i + 1))) ((gt Y9 (i + 1)).ilA) ((gt Y9 (i + 1)).ilc))]), .slice A49 ((W ++ [(ST.mk ((gt l i).kind) ((gt l i).item) (gt (placesF p (gt p.vehs k) l) (i + 1)) (now + (tcell p (gt (placesF p (gt p.vehs k) l) i) (gt (placesF p (gt p.vehs k) l) (i + 1)))) (((startF ((stopD p (gt l i)).sws) (now + (tcell p (gt (placesF p (gt p.vehs k) l) i) (gt (placesF p (gt p.vehs k) l) (i + 1))))).1) - (now + (tcell p (gt (placesF p (gt p.vehs k) l) i) (gt (placesF p (gt p.vehs k) l) (i + 1))))) ((stopD p (gt l i)).srv) ((gt Y9 (i + 1)).il) (tm + tcell p (gt (placesF p (gt p.vehs k) l) i) (gt (placesF p (gt p.vehs k) l) (i + 1))) (ds + dcell p (gt (placesF p (gt p.vehs k) l) i) (gt (placesF p (gt p.vehs k) l) (i + 1))) ((gt Y9 (i + 1)).ilA) ((gt Y9 (i + 1)).ilc))]).length) c50⟩ (by (try dsimp only); exact ⟨oO, oO, (times_next q_2 oO oO (stopB_n (by assumption)).1 (stopB_n (by assumption)).2 hok), oO, oO, oO, oO, oO, (by simp only [List.length_append, List.length_singleton]; omega)⟩) dO (Sub.get (.c4 G G G G (.c4 G G G G (.c G (.c G (.c G .n)))))) (kp (.d (.c (.t4 .h) (.c (.t4 .h) (.c (.t4 .h) (.c (.t4 .h) (.c (.t4 .h) (.c (.t4 .h) (.c (.t4 .h) .n))))))))))
 refine .exit idQ ?_
 refine .seq ?_
 obtain rfl : i = (l.length : Int) := by omega
 have hcte : -1 ≤ tcell p (gt (placesF p (gt p.vehs k) l) (l.length : Int)) (gt (placesF p (gt p.vehs k) l) ((l.length : Int) + 1)) ∧ tcell p (gt (placesF p (gt p.vehs k) l) (l.length : Int)) (gt (placesF p (gt p.vehs k) l) ((l.length : Int) + 1)) ≤ 32000000 := cellF_rng hL.tc
 have hcde : -1 ≤ dcell p (gt (placesF p (gt p.vehs k) l) (l.length : Int)) (gt (placesF p (gt p.vehs k) l) ((l.length : Int) + 1)) ∧ dcell p (gt (placesF p (gt p.vehs k) l) (l.length : Int)) (gt (placesF p (gt p.vehs k) l) ((l.length : Int) + 1)) ≤ 32000000 := cellF_rng hL.dc
 refine .region (.m G G G (.g underlying52 G G G (.a G G G ?_)))
 refine .go idQ (.seq ?_)
 refine SC.draw mo [cel b4 [.int .i64 k, u_W, .int .i64 tm, .int .i64 ds, .int .i64 wt, .int .i64 sr, .int .i64 0] 86] [] (.c .h .n) (fun _ _ _ => sc0) (fun wf_52 hl_52 hx_52 hR_52 => ?_)
 refine SR.m 0 G G G G ?_
 refine SR.z 1 G G (ev_lda (cs := (cPB p)) G G (At.d (At.lent hR_52 7 G G)) ty29) ?_
 refine SR.m 2 G G G G ?_
 refine SR.m 3 G G G G ?_
 refine SR.z 4 G G (ev_ix G underlying22 ty3 G G oO oO (fun _ _ => Fr.adr (i := (l.length : Int)) (Fr.lent (S := S) hR_52 4 G lO) oO oO)) ?_
 refine SR.z 5 G G (ev_ld1 G ty3 G (At.elem1 (At.d (Fr.el (i := (l.length : Int)) (Fr.lent (S := S) hR_52 4 G lO) oO oO)) 0 G)) ?_
 refine SR.m 6 G G G G ?_
 refine SR.m 7 G G G G ?_
 refine SR.z 8 G G (ev_add G G G (r := ((l.length : Int) + 1)) G oO oO) ?_
 refine SR.z 9 G G (ev_ix G underlying22 ty3 G G oO oO (fun _ _ => Fr.adr (i := ((l.length : Int) + 1)) (Fr.lent (S := S) hR_52 4 G lO) oO oO)) ?_
 refine SR.z 10 G G (ev_ld1 G ty3 G (At.elem1 (At.d (Fr.el (i := ((l.length : Int) + 1)) (Fr.lent (S := S) hR_52 4 G lO) oO oO)) 0 G)) ?_
 refine SR.o 11 G (st_call0 G G G G hbd158 G (.c .h .n) (drive_ p b4 k u_W tm ds wt sr 0 (gt (placesF p (gt p.vehs k) l) (l.length : Int)) (gt (placesF p (gt p.vehs k) l) ((l.length : Int) + 1)) _ _ ((hPB).ext hx_52) oO oO oO) (fun v_q53 C_q53 q53 => ⟨tt0, ?_⟩))
 obtain ⟨rfl, rfl⟩ := q53
 show SR _ _ _ _ _ _ _ _ _ ⟨_, _ :: _, _, _⟩
 refine SR.z 12 G G (ev_add G G G (r := (now + (tcell p (gt (placesF p (gt p.vehs k) l) (l.length : Int)) (gt (placesF p (gt p.vehs k) l) ((l.length : Int) + 1))))) G oO oO) ?_
 refine SR.z 13 G G (ev_as G G) ?_
 refine SR.fin kR hl_52 hx_52 hR_52 (.c .n) ?_
 refine SQ.go idQ ?_
 refine .seq (.seq (.region (.m G G G (.f fo72_4 4 G G G G (.f fo69_1 5 G G G G ?_)))))
 refine .l ty3 6 G G G G G (.e G G G G G (.go idQ (.condI G bD (fun h54 => ?_) (fun h54 => ?_))))
 ·
  refine .seq (.region (.v (ev_any (v := .agg #[.int .i64 0, .slice none 0 0, .int .i64 0, .int .i64 0, .int .i64 0, .int .i64 0, .int .i64 0]) G kR (fun _ => by kernel_rfl)) G (.cons (st_storea (l' := [.int .i64 0, .slice none 0 0, .int .i64 0, .int .i64 0, .int .i64 0, .int .i64 0, .int .i64 0]) G G G ty86 G G G (.t4 (.t2 (.t .h))) G G (.a G G G ?_)))))
  refine .go idQ (.ret idQ (retv2 results132 (.c 0 G G ty86) (.t G) .n ⟨0, none, 0, 0, (by rw [times_end q_2, if_pos (by assumption)]; rfl), G⟩))
 refine .skipgo idQ (.seq ?_)
 have hYi := loads_il hL hY (i := (l.length : Int)) oO oO
 refine SC.draw mo [cel b4 [.int .i64 k, u_W, .int .i64 (tm + tcell p (gt (placesF p (gt p.vehs k) l) (l.length : Int)) (gt (placesF p (gt p.vehs k) l) ((l.length : Int) + 1))), .int .i64 (ds + dcell p (gt (placesF p (gt p.vehs k) l) (l.length : Int)) (gt (placesF p (gt p.vehs k) l) ((l.length : Int) + 1))), .int .i64 wt, .int .i64 sr, .int .i64 0] 86, rw_ eST 176 (u_W) W] [(19, fun w => At w b4 0 [.int .i64 k, u_W, .int .i64 (tm + tcell p (gt (placesF p (gt p.vehs k) l) (l.length : Int)) (gt (placesF p (gt p.vehs k) l) ((l.length : Int) + 1))), .int .i64 (ds + dcell p (gt (placesF p (gt p.vehs k) l) (l.length : Int)) (gt (placesF p (gt p.vehs k) l) ((l.length : Int) + 1))), .int .i64 wt, .int .i64 sr, .int .i64 0])] (.d .n) (fun w_ _ hw_ => (sc1 (At.whole 0 G w_ hw_) sc0)) (fun wf_55 hl_55 hx_55 hR_55 => ?_)
 refine SR.z 0 G G (ev_fa G fo86_1 G (r := 1) G) ?_
 refine SR.z 1 G G (ev_ld1 G ty84 G (At.elem1 (v := u_W) (At.ofcs 0 G kR) 1 G)) ?_
 refine SR.z 2 G G (ev_any (v := .agg #[.int .i64 6, .int .i64 0]) G kR (fun _ => by kernel_rfl)) ?_
 refine SR.z 3 G G (ev_fa G fo72_1 G (r := 1) G) ?_
 refine SR.z 4 G G (ev_ld1 G ty3 G (At.d (At.lent hR_55 4 G G))) ?_
 refine SR.m 5 G G G G ?_
 refine SR.m 6 G G G G ?_
 refine SR.m 7 G G G G ?_
 refine SR.z 8 G G (ev_ix G underlying173 ty22 G G oO oO (fun _ _ => Fr.adr (i := (l.length : Int)) (Fr.lent (S := S) hR_55 1 G lO) oO oO)) ?_
 refine SR.z 9 G G (ev_ld1 G ty22 G (At.elem1 (At.d (Fr.el (i := (l.length : Int)) (Fr.lent (S := S) hR_55 1 G lO) oO oO)) 0 G)) ?_
 refine SR.z 11 G G (ev_fa G fo86_2 G (r := 2) G) ?_
 refine SR.z 12 G G (ev_ld1 G ty3 G (At.elem1 (v := .int .i64 (tm + tcell p (gt (placesF p (gt p.vehs k) l) (l.length : Int)) (gt (placesF p (gt p.vehs k) l) ((l.length : Int) + 1)))) (At.ofcs 0 G kR) 2 G)) ?_
 refine SR.z 13 G G (ev_fa G fo86_3 G (r := 3) G) ?_
 refine SR.z 14 G G (ev_ld1 G ty3 G (At.elem1 (v := .int .i64 (ds + dcell p (gt (placesF p (gt p.vehs k) l) (l.length : Int)) (gt (placesF p (gt p.vehs k) l) ((l.length : Int) + 1)))) (At.ofcs 0 G kR) 3 G)) ?_
 refine SR.o 10 rfl (st_call0 rfl rfl rfl rfl hbd159 rfl .n (clonez ((gt Y9 (l.length : Int)).ilA) ((gt Y9 (l.length : Int)).il.length) ((gt Y9 (l.length : Int)).ilc) ((gt Y9 (l.length : Int)).il) _ _ ((ILF.lent (S := S) hR_55 2 rfl) (l.length : Int)) lO lO) (fun v_q57 C_q57 q57 => ⟨ttc (fun w_ hw_ => (tc1 (by obtain ⟨_, rfl, rfl⟩ := q57; exact At.whole 1 rfl w_ hw_) tc0)), ?_⟩))
 obtain ⟨v56, rfl, rfl⟩ := q57
 show SR _ _ _ _ _ _ _ _ _ ⟨_, _ :: _, _, _⟩
 refine .know (row_len 0 G) (fun hv60 => ?_)
 obtain ⟨A58, c59, rfl, hv60_1, hv60_2⟩ := hv60
 unfold maxLen at hv60_2
 refine SR.z 15 G G (ev_any (v := .agg #[.int .i64 6, .int .i64 0, .int .i64 ((gt p.vehs k).en), .int .i64 (now + (tcell p (gt (placesF p (gt p.vehs k) l) (l.length : Int)) (gt (placesF p (gt p.vehs k) l) ((l.length : Int) + 1)))), .int .i64 0, .int .i64 0, .slice A58 (((gt Y9 (l.length : Int)).il).length) c59, .int .i64 (tm + tcell p (gt (placesF p (gt p.vehs k) l) (l.length : Int)) (gt (placesF p (gt p.vehs k) l) ((l.length : Int) + 1))), .int .i64 (ds + dcell p (gt (placesF p (gt p.vehs k) l) (l.length : Int)) (gt (placesF p (gt p.vehs k) l) ((l.length : Int) + 1)))]) G kR (fun _ => by kernel_rfl)) ?_
 refine SR.o 16 G (st_lit eST (e := 176) (l := [(ST.mk 6 0 ((gt p.vehs k).en) (now + (tcell p (gt (placesF p (gt p.vehs k) l) (l.length : Int)) (gt (placesF p (gt p.vehs k) l) ((l.length : Int) + 1)))) 0 0 ((gt Y9 (l.length : Int)).il) (tm + tcell p (gt (placesF p (gt p.vehs k) l) (l.length : Int)) (gt (placesF p (gt p.vehs k) l) ((l.length : Int) + 1))) (ds + dcell p (gt (placesF p (gt p.vehs k) l) (l.length : Int)) (gt (placesF p (gt p.vehs k) l) ((l.length : Int) + 1))) A58 c59)]) G G G G kR G G kW (fun b61 => ⟨ttw 2 G, ?_⟩))
 refine SR.o 17 G (st_app (E := eST) (m := [(ST.mk 6 0 ((gt p.vehs k).en) (now + (tcell p (gt (placesF p (gt p.vehs k) l) (l.length : Int)) (gt (placesF p (gt p.vehs k) l) ((l.length : Int) + 1)))) 0 0 ((gt Y9 (l.length : Int)).il) (tm + tcell p (gt (placesF p (gt p.vehs k) l) (l.length : Int)) (gt (placesF p (gt p.vehs k) l) ((l.length : Int) + 1))) (ds + dcell p (gt (placesF p (gt p.vehs k) l) (l.length : Int)) (gt (placesF p (gt p.vehs k) l) ((l.length : Int) + 1))) A58 c59)]) G G G G underlying84 ai176 G G G (.t2 (.t .h)) rO (row_src 0 G) lO G (fun v62 => ⟨ttw 3 G, ?_⟩))
 refine SR.z 18 G G (ev_fa G fo86_1 G (r := 1) G) ?_
 refine .know (row_len 0 G) (fun hv65 => ?_)
 obtain ⟨A63, c64, rfl, hv65_1, hv65_2⟩ := hv65
 unfold maxLen at hv65_2
 refine SR.o 19 G (st_store1 G G G ty84 G G G (.t2 (.t .h)) (.t .h) ⟨ttc (fun w_ hw_ => (tc2 kR tc0)), ?_⟩)
 refine SR.fin kR hl_55 hx_55 hR_55 (.c (.c (.c (.c .n)))) ?_
 refine SQ.go idQ ?_
 refine .seq ?_
 have hm1 := mulb (a := tm + tcell p (gt (placesF p (gt p.vehs k) l) (l.length : Int)) (gt (placesF p (gt p.vehs k) l) ((l.length : Int) + 1))) (b := (gt p.vehs k).pt) oO oO oO oO
 have hm2 := mulb (a := ds + dcell p (gt (placesF p (gt p.vehs k) l) (l.length : Int)) (gt (placesF p (gt p.vehs k) l) ((l.length : Int) + 1))) (b := (gt p.vehs k).pd) oO oO oO oO
 refine .region (.f fo72_5 6 G G G G (.l ty3 8 G G G G G (.f fo86_2 2 G G G G ?_)))
 refine .l ty3 0 G G G G G (.f fo72_6 7 G G G G (.l ty3 8 G G G G G (.v (ev_mul G G G (r := ((tm + tcell p (gt (placesF p (gt p.vehs k) l) (l.length : Int)) (gt (placesF p (gt p.vehs k) l) ((l.length : Int) + 1))) * ((gt p.vehs k).pt))) G (by have hm_ := mulb (a := (tm + tcell p (gt (placesF p (gt p.vehs k) l) (l.length : Int)) (gt (placesF p (gt p.vehs k) l) ((l.length : Int) + 1)))) (b := ((gt p.vehs k).pt)) oO oO oO oO; omega) (by have hm_ := mulb (a := (tm + tcell p (gt (placesF p (gt p.vehs k) l) (l.length : Int)) (gt (placesF p (gt p.vehs k) l) ((l.length : Int) + 1)))) (b := ((gt p.vehs k).pt)) oO oO oO oO; omega)) G ?_)))
 refine .v (ev_add G G G (r := (((gt p.vehs k).fix) + ((tm + tcell p (gt (placesF p (gt p.vehs k) l) (l.length : Int)) (gt (placesF p (gt p.vehs k) l) ((l.length : Int) + 1))) * ((gt p.vehs k).pt)))) G oO oO) G (.f fo86_3 3 G G G G (.l ty3 0 G G G G G (.f fo72_7 8 G G G G ?_)))
 refine .l ty3 8 G G G G G (.v (ev_mul G G G (r := ((ds + dcell p (gt (placesF p (gt p.vehs k) l) (l.length : Int)) (gt (placesF p (gt p.vehs k) l) ((l.length : Int) + 1))) * ((gt p.vehs k).pd))) G (by have hm_ := mulb (a := (ds + dcell p (gt (placesF p (gt p.vehs k) l) (l.length : Int)) (gt (placesF p (gt p.vehs k) l) ((l.length : Int) + 1)))) (b := ((gt p.vehs k).pd)) oO oO oO oO; omega) (by have hm_ := mulb (a := (ds + dcell p (gt (placesF p (gt p.vehs k) l) (l.length : Int)) (gt (placesF p (gt p.vehs k) l) ((l.length : Int) + 1)))) (b := ((gt p.vehs k).pd)) oO oO oO oO; omega)) G (.v (ev_add G G G (r := ((((gt p.vehs k).fix) + ((tm + tcell p (gt (placesF p (gt p.vehs k) l) (l.length : Int)) (gt (placesF p (gt p.vehs k) l) ((l.length : Int) + 1))) * ((gt p.vehs k).pt))) + ((ds + dcell p (gt (placesF p (gt p.vehs k) l) (l.length : Int)) (gt (placesF p (gt p.vehs k) l) ((l.length : Int) + 1))) * ((gt p.vehs k).pd)))) G oO oO) G (.f fo86_6 6 G G G G ?_)))
 refine .cons (st_store1 G G G ty3 G G G .h (.t4 (.t2 .h)) ?_)
 refine .go idQ (.seq (.region (.d 0 ty86 G G G G (.cons (st_storea (l' := [.int .i64 k, .slice A63 ((W ++ [(ST.mk 6 0 ((gt p.vehs k).en) (now + (tcell p (gt (placesF p (gt p.vehs k) l) (l.length : Int)) (gt (placesF p (gt p.vehs k) l) ((l.length : Int) + 1)))) 0 0 ((gt Y9 (l.length : Int)).il) (tm + tcell p (gt (placesF p (gt p.vehs k) l) (l.length : Int)) (gt (placesF p (gt p.vehs k) l) ((l.length : Int) + 1))) (ds + dcell p (gt (placesF p (gt p.vehs k) l) (l.length : Int)) (gt (placesF p (gt p.vehs k) l) ((l.length : Int) + 1))) A58 c59)]).length) c64, .int .i64 (tm + tcell p (gt (placesF p (gt p.vehs k) l) (l.length : Int)) (gt (placesF p (gt p.vehs k) l) ((l.length : Int) + 1))), .int .i64 (ds + dcell p (gt (placesF p (gt p.vehs k) l) (l.length : Int)) (gt (placesF p (gt p.vehs k) l) ((l.length : Int) + 1))), .int .i64 wt, .int .i64 sr, .int .i64 ((((gt p.vehs k).fix) + ((tm + tcell p (gt (placesF p (gt p.vehs k) l) (l.length : Int)) (gt (placesF p (gt p.vehs k) l) ((l.length : Int) + 1))) * ((gt p.vehs k).pt))) + ((ds + dcell p (gt (placesF p (gt p.vehs k) l) (l.length : Int)) (gt (placesF p (gt p.vehs k) l) ((l.length : Int) + 1))) * ((gt p.vehs k).pd)))]) G G G ty86 G G G (.t4 (.t4 (.t .h))) G G (.a G G G ?_))))))
 refine .go idQ (.ret idQ (retv2 results132 (.c 0 G G ty86) (.t G) .n ⟨k, A63, (W ++ [(ST.mk 6 0 ((gt p.vehs k).en) (now + (tcell p (gt (placesF p (gt p.vehs k) l) (l.length : Int)) (gt (placesF p (gt p.vehs k) l) ((l.length : Int) + 1)))) 0 0 ((gt Y9 (l.length : Int)).il) (tm + tcell p (gt (placesF p (gt p.vehs k) l) (l.length : Int)) (gt (placesF p (gt p.vehs k) l) ((l.length : Int) + 1))) (ds + dcell p (gt (placesF p (gt p.vehs k) l) (l.length : Int)) (gt (placesF p (gt p.vehs k) l) ((l.length : Int) + 1))) A58 c59)]).length, c64, (by rw [times_end q_2, if_neg (by assumption)]), G⟩))
theorem planof_ (p : PB) (k : Int) (A : Option Addr) (c : Nat) (l : List Vis) (S : Nat → Prop) (wf : World) (hA : Fr eVis S wf A l) (hPB : PBF S wf p) (hL : LawP p) (hll : l.length ≤ 60) :
  TR0 prog 89 [.agg (cPB p).toArray, .int .i64 k, .slice A l.length c] [] S wf (fun v_ C_ => ∃ (vh : Int) (sA : Option Addr) (sn : Nat) (sc : Nat), v_ = .tuple #[.agg #[.int .i64 vh, .slice sA sn sc, .int .i64 ((planP p k l).time), .int .i64 ((planP p k l).dist), .int .i64 ((planP p k l).wait), .int .i64 ((planP p k l).serv), .int .i64 ((planP p k l).cost)], .int .i64 ((planP p k l).e)] ∧ C_ = []) := by
 have hla := hA.len
 have hlv := hPB.2.2.1.1.len
 refine TR.mk func89 G ntmps89 G G (fun w_ => ?_)
 refine .seq (.region (.cons (st_boxa G G G G G (fun b1 => (.cons (st_alloc G G G G zf86 (fun b2 => (.a G G G ?_))))))))
 refine .go idQ (.seq (.seq (.region (.m G G G (.e G G G G G (.m G G G ?_))))))
 refine .w (fun _ => ev_mv G G) G (.w (fun _ => ev_fa G fo29_3 G (r := 5) G) G (.w (fun hb => ev_ld1 G ty25 (lkg G hb) (At.own1 1 G G)) G (.w (fun hb => ev_len G underlying25 (lkg G hb)) G ?_)))
 refine .w (fun hb => ev_cmp G (lkg G hb) (lkg G hb) G) G (.r G G G G G (.go idQ (.condI G (bO bD bD) (fun h3 => ?_) (fun h3 => ?_))))
 ·
  refine .seq (.region (.v (ev_any (v := .agg #[.int .i64 0, .slice none 0 0, .int .i64 0, .int .i64 0, .int .i64 0, .int .i64 0, .int .i64 0]) G kR (fun _ => by kernel_rfl)) G (.cons (st_storea (l' := [.int .i64 0, .slice none 0 0, .int .i64 0, .int .i64 0, .int .i64 0, .int .i64 0, .int .i64 0]) G G G ty86 G G G .h G G (.a G G G ?_)))))
  refine .go idQ (.ret idQ (retv2 results89 (.c 0 G G ty86) (.t G) .n ⟨0, none, 0, 0, (by rw [plan_out (by assumption)]; rfl), G⟩))
 refine .skipgo idQ (.seq (.region (.f fo29_3 5 G G G G (.l ty25 1 G G G G G (.m G G G ?_)))))
 refine .v (ev_ix G underlying25 ty72 G G oO oO (fun _ _ => Fr.adr (i := k) hPB.2.2.1.1 oO oO)) G (.v (ev_lda G G (At.w (Fr.el (i := k) hPB.2.2.1.1 oO oO)) ty72) G (.cons (st_alloc G G G G zf72 (fun b4 => (.cons (st_storea (l' := [.int .i64 ((gt p.vehs k).st), .int .i64 ((gt p.vehs k).en), .slice ((gt p.vehs k).vcA) ((gt p.vehs k).vcap.length) ((gt p.vehs k).vcc), .int .u64 ((gt p.vehs k).vsk), .int .i64 ((gt p.vehs k).lo), .int .i64 ((gt p.vehs k).hi), .int .i64 ((gt p.vehs k).fix), .int .i64 ((gt p.vehs k).pt), .int .i64 ((gt p.vehs k).pd), .int .i64 ((gt p.vehs k).mt), .slice ((gt p.vehs k).vbA) ((gt p.vehs k).brs.length) ((gt p.vehs k).vbc)]) G G G ty72 G G G .h G G ?_))))))
 refine .go idQ (.seq (.seq (.region (.cons (st_lit eV (e := 194) (l := [⟨.func (.func 126) #[] #[], G⟩, ⟨.func (.func 127) #[] #[], G⟩, ⟨.func (.func 128) #[] #[], G⟩, ⟨.func (.func 129) #[] #[], G⟩, ⟨.func (.func 130) #[] #[], G⟩, ⟨.func (.func 131) #[] #[], G⟩]) G G G G kR G G kW (fun b5 => (.g underlying195 G G G (.m G G G ?_))))))))
 refine .go idQ (.block (.loop (X := Int) (fun i => 0 ≤ i ∧ i ≤ 6 ∧ (∀ j : Int, 0 ≤ j → j < i → checkI p (gt p.vehs k) l j = 0)) (fun i => [(1, .int .i64 k), (2, .slice A l.length c), (3, .pointer (some ⟨b1, 0, none⟩)), (6, .pointer (some ⟨b2, 0, none⟩)), (8, .pointer (some ⟨b4, 0, none⟩)), (27, .slice (some ⟨b5, 0, none⟩) 6 6), (28, .int .i64 6), (29, .int .i64 i)]) (fun i => [rw_ eV 194 (.slice (some ⟨b5, 0, none⟩) 6 6) [⟨.func (.func 126) #[] #[], G⟩, ⟨.func (.func 127) #[] #[], G⟩, ⟨.func (.func 128) #[] #[], G⟩, ⟨.func (.func 129) #[] #[], G⟩, ⟨.func (.func 130) #[] #[], G⟩, ⟨.func (.func 131) #[] #[], G⟩], cel b4 [.int .i64 ((gt p.vehs k).st), .int .i64 ((gt p.vehs k).en), .slice ((gt p.vehs k).vcA) ((gt p.vehs k).vcap.length) ((gt p.vehs k).vcc), .int .u64 ((gt p.vehs k).vsk), .int .i64 ((gt p.vehs k).lo), .int .i64 ((gt p.vehs k).hi), .int .i64 ((gt p.vehs k).fix), .int .i64 ((gt p.vehs k).pt), .int .i64 ((gt p.vehs k).pd), .int .i64 ((gt p.vehs k).mt), .slice ((gt p.vehs k).vbA) ((gt p.vehs k).brs.length) ((gt p.vehs k).vbc)] 72, cel b2 [.int .i64 0, .slice none 0 0, .int .i64 0, .int .i64 0, .int .i64 0, .int .i64 0, .int .i64 0] 86, cel b1 (cPB p) 29]) (fun _ => S) (fun _ => wf) (fun i => (6 - i).toNat) (fun a_ w_ hs_ hw_ => ⟨0, (by (try dsimp only); exact ⟨oO, oO, (fun j h0_ h1_ => by omega)⟩), hs_.mono (Sub.get (.c4 G G G G (.c4 G G G G .n))), hw_.keep (.d (.d .n))⟩) (fun i ⟨q_0, q_1, q_2⟩ => ?_)))
 try dsimp only
 refine .seq (.region (.e G G G G G (.go idQ (.seq (.condI G bD (fun h6 => ?_) (fun h6 => ?_))))))
 ·
  refine .skipgo idQ (.seq (.block (.seq ?_)))
  obtain rfl | rfl | rfl | rfl | rfl | rfl : i = 0 ∨ i = 1 ∨ i = 2 ∨ i = 3 ∨ i = 4 ∨ i = 5 := by omega
  ·
   refine .region (.v (ev_ix G underlying195 ty194 G G oO oO (fun _ _ => G)) G (.v (ev_ld1 G ty194 G (At.elem1 (v := .func (.func 126) #[] #[]) (row_el (E := eV) (l := [⟨.func (.func 126) #[] #[], G⟩, ⟨.func (.func 127) #[] #[], G⟩, ⟨.func (.func 128) #[] #[], G⟩, ⟨.func (.func 129) #[] #[], G⟩, ⟨.func (.func 130) #[] #[], G⟩, ⟨.func (.func 131) #[] #[], G⟩]) (i := 0) 0 G oO lO) 0 G)) G (.a G G G ?_)))
   refine .go idQ (.seq (.region (.m G G G (.d 3 ty29 G G G G (.d 1 ty72 G G G G ?_)))))
   refine .m G G G (.cons (.viafun G G (st_callk G G G G hbd126 G .n (pairs_ p (gt p.vehs k) A c l _ _ hA hPB (hPB.2.2.1.2 k) oO lO) (.a G G G (.go idQ (.seq (.region ?_)))))))
   refine .m G G G (.e G G G G G (.go idQ (.condI G bNE (fun h7 => ?_) (fun h7 => ?_))))
   ·
    refine .seq (.region (.v (ev_any (v := .agg #[.int .i64 0, .slice none 0 0, .int .i64 0, .int .i64 0, .int .i64 0, .int .i64 0, .int .i64 0]) G kR (fun _ => by kernel_rfl)) G (.m G G G (.cons (st_storea (l' := [.int .i64 0, .slice none 0 0, .int .i64 0, .int .i64 0, .int .i64 0, .int .i64 0, .int .i64 0]) G G G ty86 G G G (.t2 .h) G G ?_)))))
    refine .a G G G (.go idQ (.ret idQ (retv2 results89 (.c 0 G G ty86) (.t G) .n ⟨0, none, 0, 0, (by rw [plan_err (by assumption) (checks_at (i := 0) (by decide) (by decide) q_2 (by assumption)) (by assumption)]; rfl), G⟩)))
   refine .skipgo idQ (.region (.p 1 oO oO G G G G G (.m G G G ?_)))
   exact SP.nil (SQ.roundb (X := Int) (x := (0)) 1 (by (try dsimp only); exact ⟨oO, oO, (chk_next (i := 0) q_2 (by have h_ := (by assumption : ¬ (((errI (pairsR p l [] 0) 161) : Int) ≠ 0)); exact Classical.not_not.1 h_))⟩) (by show (_ : Nat) < _; omega) (Sub.get (.c4 G G G G (.c4 G G G G .n))) (kp (.d (.d .n))))
  ·
   refine .region (.v (ev_ix G underlying195 ty194 G G oO oO (fun _ _ => G)) G (.v (ev_ld1 G ty194 G (At.elem1 (v := .func (.func 127) #[] #[]) (row_el (E := eV) (l := [⟨.func (.func 126) #[] #[], G⟩, ⟨.func (.func 127) #[] #[], G⟩, ⟨.func (.func 128) #[] #[], G⟩, ⟨.func (.func 129) #[] #[], G⟩, ⟨.func (.func 130) #[] #[], G⟩, ⟨.func (.func 131) #[] #[], G⟩]) (i := 1) 0 G oO lO) 0 G)) G (.a G G G ?_)))
   refine .go idQ (.seq (.region (.m G G G (.d 3 ty29 G G G G (.d 1 ty72 G G G G ?_)))))
   refine .m G G G (.cons (.viafun G G (st_callk G G G G hbd127 G .n (breaks_ p (gt p.vehs k) A c l _ _ hA hPB (hPB.2.2.1.2 k) lO) (.a G G G (.go idQ (.seq (.region ?_)))))))
   refine .m G G G (.e G G G G G (.go idQ (.condI G bNE (fun h8 => ?_) (fun h8 => ?_))))
   ·
    refine .seq (.region (.v (ev_any (v := .agg #[.int .i64 0, .slice none 0 0, .int .i64 0, .int .i64 0, .int .i64 0, .int .i64 0, .int .i64 0]) G kR (fun _ => by kernel_rfl)) G (.m G G G (.cons (st_storea (l' := [.int .i64 0, .slice none 0 0, .int .i64 0, .int .i64 0, .int .i64 0, .int .i64 0, .int .i64 0]) G G G ty86 G G G (.t2 .h) G G ?_)))))
    refine .a G G G (.go idQ (.ret idQ (retv2 results89 (.c 0 G G ty86) (.t G) .n ⟨0, none, 0, 0, (by rw [plan_err (by assumption) (checks_at (i := 1) (by decide) (by decide) q_2 (by assumption)) (by assumption)]; rfl), G⟩)))
   refine .skipgo idQ (.region (.p 2 oO oO G G G G G (.m G G G ?_)))
   exact SP.nil (SQ.roundb (X := Int) (x := (1)) 2 (by (try dsimp only); exact ⟨oO, oO, (chk_next (i := 1) q_2 (by have h_ := (by assumption : ¬ (((errI (breaksR (gt p.vehs k).brs.length l 0) 162) : Int) ≠ 0)); exact Classical.not_not.1 h_))⟩) (by show (_ : Nat) < _; omega) (Sub.get (.c4 G G G G (.c4 G G G G .n))) (kp (.d (.d .n))))
  ·
   refine .region (.v (ev_ix G underlying195 ty194 G G oO oO (fun _ _ => G)) G (.v (ev_ld1 G ty194 G (At.elem1 (v := .func (.func 128) #[] #[]) (row_el (E := eV) (l := [⟨.func (.func 126) #[] #[], G⟩, ⟨.func (.func 127) #[] #[], G⟩, ⟨.func (.func 128) #[] #[], G⟩, ⟨.func (.func 129) #[] #[], G⟩, ⟨.func (.func 130) #[] #[], G⟩, ⟨.func (.func 131) #[] #[], G⟩]) (i := 2) 0 G oO lO) 0 G)) G (.a G G G ?_)))
   refine .go idQ (.seq (.region (.m G G G (.d 3 ty29 G G G G (.d 1 ty72 G G G G ?_)))))
   refine .m G G G (.cons (.viafun G G (st_callk G G G G hbd128 G .n (skills_ p (gt p.vehs k) A c l _ _ hA hPB (hPB.2.2.1.2 k) lO) (.a G G G (.go idQ (.seq (.region ?_)))))))
   refine .m G G G (.e G G G G G (.go idQ (.condI G bNE (fun h9 => ?_) (fun h9 => ?_))))
   ·
    refine .seq (.region (.v (ev_any (v := .agg #[.int .i64 0, .slice none 0 0, .int .i64 0, .int .i64 0, .int .i64 0, .int .i64 0, .int .i64 0]) G kR (fun _ => by kernel_rfl)) G (.m G G G (.cons (st_storea (l' := [.int .i64 0, .slice none 0 0, .int .i64 0, .int .i64 0, .int .i64 0, .int .i64 0, .int .i64 0]) G G G ty86 G G G (.t2 .h) G G ?_)))))
    refine .a G G G (.go idQ (.ret idQ (retv2 results89 (.c 0 G G ty86) (.t G) .n ⟨0, none, 0, 0, (by rw [plan_err (by assumption) (checks_at (i := 2) (by decide) (by decide) q_2 (by assumption)) (by assumption)]; rfl), G⟩)))
   refine .skipgo idQ (.region (.p 3 oO oO G G G G G (.m G G G ?_)))
   exact SP.nil (SQ.roundb (X := Int) (x := (2)) 3 (by (try dsimp only); exact ⟨oO, oO, (chk_next (i := 2) q_2 (by have h_ := (by assumption : ¬ (((errI (skillsR p (gt p.vehs k) l) 163) : Int) ≠ 0)); exact Classical.not_not.1 h_))⟩) (by show (_ : Nat) < _; omega) (Sub.get (.c4 G G G G (.c4 G G G G .n))) (kp (.d (.d .n))))
  ·
   refine .region (.v (ev_ix G underlying195 ty194 G G oO oO (fun _ _ => G)) G (.v (ev_ld1 G ty194 G (At.elem1 (v := .func (.func 129) #[] #[]) (row_el (E := eV) (l := [⟨.func (.func 126) #[] #[], G⟩, ⟨.func (.func 127) #[] #[], G⟩, ⟨.func (.func 128) #[] #[], G⟩, ⟨.func (.func 129) #[] #[], G⟩, ⟨.func (.func 130) #[] #[], G⟩, ⟨.func (.func 131) #[] #[], G⟩]) (i := 3) 0 G oO lO) 0 G)) G (.a G G G ?_)))
   refine .go idQ (.seq (.region (.m G G G (.d 3 ty29 G G G G (.d 1 ty72 G G G G ?_)))))
   refine .m G G G (.cons (.viafun G G (st_callk G G G G hbd129 G .n (tasks_ p (gt p.vehs k) A c l _ _ hA hPB (hPB.2.2.1.2 k) lO) (.a G G G (.go idQ (.seq (.region ?_)))))))
   refine .m G G G (.e G G G G G (.go idQ (.condI G bNE (fun h10 => ?_) (fun h10 => ?_))))
   ·
    refine .seq (.region (.v (ev_any (v := .agg #[.int .i64 0, .slice none 0 0, .int .i64 0, .int .i64 0, .int .i64 0, .int .i64 0, .int .i64 0]) G kR (fun _ => by kernel_rfl)) G (.m G G G (.cons (st_storea (l' := [.int .i64 0, .slice none 0 0, .int .i64 0, .int .i64 0, .int .i64 0, .int .i64 0, .int .i64 0]) G G G ty86 G G G (.t2 .h) G G ?_)))))
    refine .a G G G (.go idQ (.ret idQ (retv2 results89 (.c 0 G G ty86) (.t G) .n ⟨0, none, 0, 0, (by rw [plan_err (by assumption) (checks_at (i := 3) (by decide) (by decide) q_2 (by assumption)) (by assumption)]; rfl), G⟩)))
   refine .skipgo idQ (.region (.p 4 oO oO G G G G G (.m G G G ?_)))
   exact SP.nil (SQ.roundb (X := Int) (x := (3)) 4 (by (try dsimp only); exact ⟨oO, oO, (chk_next (i := 3) q_2 (by have h_ := (by assumption : ¬ (((if tasksR l 0 > (gt p.vehs k).mt then 164 else 0) : Int) ≠ 0)); exact Classical.not_not.1 h_))⟩) (by show (_ : Nat) < _; omega) (Sub.get (.c4 G G G G (.c4 G G G G .n))) (kp (.d (.d .n))))
  ·
   refine .region (.v (ev_ix G underlying195 ty194 G G oO oO (fun _ _ => G)) G (.v (ev_ld1 G ty194 G (At.elem1 (v := .func (.func 130) #[] #[]) (row_el (E := eV) (l := [⟨.func (.func 126) #[] #[], G⟩, ⟨.func (.func 127) #[] #[], G⟩, ⟨.func (.func 128) #[] #[], G⟩, ⟨.func (.func 129) #[] #[], G⟩, ⟨.func (.func 130) #[] #[], G⟩, ⟨.func (.func 131) #[] #[], G⟩]) (i := 4) 0 G oO lO) 0 G)) G (.a G G G ?_)))
   refine .go idQ (.seq (.region (.m G G G (.d 3 ty29 G G G G (.d 1 ty72 G G G G ?_)))))
   refine .m G G G (.cons (.viafun G G (st_callk G G G G hbd130 G .n (loadsc_ p (gt p.vehs k) A c l _ _ hA hPB (hPB.2.2.1.2 k) oO lO) (.a G G G (.go idQ (.seq (.region ?_)))))))
   refine .m G G G (.e G G G G G (.go idQ (.condI G bNE (fun h11 => ?_) (fun h11 => ?_))))
   ·
    refine .seq (.region (.v (ev_any (v := .agg #[.int .i64 0, .slice none 0 0, .int .i64 0, .int .i64 0, .int .i64 0, .int .i64 0, .int .i64 0]) G kR (fun _ => by kernel_rfl)) G (.m G G G (.cons (st_storea (l' := [.int .i64 0, .slice none 0 0, .int .i64 0, .int .i64 0, .int .i64 0, .int .i64 0, .int .i64 0]) G G G ty86 G G G (.t2 .h) G G ?_)))))
    refine .a G G G (.go idQ (.ret idQ (retv2 results89 (.c 0 G G ty86) (.t G) .n ⟨0, none, 0, 0, (by rw [plan_err (by assumption) (checks_at (i := 4) (by decide) (by decide) q_2 (by assumption)) (by assumption)]; rfl), G⟩)))
   refine .skipgo idQ (.region (.p 5 oO oO G G G G G (.m G G G ?_)))
   exact SP.nil (SQ.roundb (X := Int) (x := (4)) 5 (by (try dsimp only); exact ⟨oO, oO, (chk_next (i := 4) q_2 (by have h_ := (by assumption : ¬ (((errI (allUnder (gt p.vehs k).vcap (loadsF p l)) 165) : Int) ≠ 0)); exact Classical.not_not.1 h_))⟩) (by show (_ : Nat) < _; omega) (Sub.get (.c4 G G G G (.c4 G G G G .n))) (kp (.d (.d .n))))
  refine .region (.v (ev_ix G underlying195 ty194 G G oO oO (fun _ _ => G)) G (.v (ev_ld1 G ty194 G (At.elem1 (v := .func (.func 131) #[] #[]) (row_el (E := eV) (l := [⟨.func (.func 126) #[] #[], G⟩, ⟨.func (.func 127) #[] #[], G⟩, ⟨.func (.func 128) #[] #[], G⟩, ⟨.func (.func 129) #[] #[], G⟩, ⟨.func (.func 130) #[] #[], G⟩, ⟨.func (.func 131) #[] #[], G⟩]) (i := 5) 0 G oO lO) 0 G)) G (.a G G G ?_)))
  refine .go idQ (.seq (.region (.m G G G (.d 3 ty29 G G G G (.d 1 ty72 G G G G ?_)))))
  refine .m G G G (.cons (.viafun G G (st_callk G G G G hbd131 G .n (travel_ p (gt p.vehs k) A c l _ _ hA hPB (hPB.2.2.1.2 k) oO lO) (.a G G G (.go idQ (.seq (.region ?_)))))))
  refine .m G G G (.e G G G G G (.go idQ (.condI G bNE (fun h12 => ?_) (fun h12 => ?_))))
  ·
   refine .seq (.region (.v (ev_any (v := .agg #[.int .i64 0, .slice none 0 0, .int .i64 0, .int .i64 0, .int .i64 0, .int .i64 0, .int .i64 0]) G kR (fun _ => by kernel_rfl)) G (.m G G G (.cons (st_storea (l' := [.int .i64 0, .slice none 0 0, .int .i64 0, .int .i64 0, .int .i64 0, .int .i64 0, .int .i64 0]) G G G ty86 G G G (.t2 .h) G G ?_)))))
   refine .a G G G (.go idQ (.ret idQ (retv2 results89 (.c 0 G G ty86) (.t G) .n ⟨0, none, 0, 0, (by rw [plan_err (by assumption) (checks_at (i := 5) (by decide) (by decide) q_2 (by assumption)) (by assumption)]; rfl), G⟩)))
  refine .skipgo idQ (.region (.p 6 oO oO G G G G G (.m G G G ?_)))
  exact SP.nil (SQ.roundb (X := Int) (x := (5)) 6 (by (try dsimp only); exact ⟨oO, oO, (chk_next (i := 5) q_2 (by have h_ := (by assumption : ¬ (((errI (travelR p (placesF p (gt p.vehs k) l)) 166) : Int) ≠ 0)); exact Classical.not_not.1 h_))⟩) (by show (_ : Nat) < _; omega) (Sub.get (.c4 G G G G (.c4 G G G G .n))) (kp (.d (.d .n))))
 refine .exit idQ ?_
 refine .seq ?_
 have hck := checks_all (fun j h0_ h1_ => q_2 j h0_ oO)
 refine .region (.d 3 ty29 G G G G (.m G G G (.m G G G ?_)))
 refine .cons (st_call00 rfl rfl rfl rfl hbd132 rfl .n (times_ p k A c l _ _ hA hPB oO oO lO (fun i_ h0_ h1_ h4_ => (breaks_item hck.2 (Int.le_refl _)).2 _ (gt_mem h0_ h1_) h4_)) (by intro v C h; obtain ⟨_, _, _, _, rfl, rfl⟩ := h; rfl) (fun v_q17 q17 => ?_))
 obtain ⟨vh13, sA14, sn15, sc16, rfl, -⟩ := q17
 refine .x G G G G (.x G G G G (.cons (st_storea (l' := [.int .i64 vh13, .slice sA14 sn15 sc16, .int .i64 ((timesF p (gt p.vehs k) l).time), .int .i64 ((timesF p (gt p.vehs k) l).dist), .int .i64 ((timesF p (gt p.vehs k) l).wait), .int .i64 ((timesF p (gt p.vehs k) l).serv), .int .i64 ((timesF p (gt p.vehs k) l).cost)]) G G G ty86 G G G (.t2 .h) G G (.a G G G ?_))))
 refine .go idQ (.ret idQ (retv2 results89 (.c 0 G G ty86) (.t G) .n ⟨vh13, sA14, sn15, sc16, (by rw [plan_ok (by assumption) hck.1] <;> rfl), G⟩))
end Go.Proofs.YtimhdimhdimbjaaGreat.Sx
set_option maxRecDepth 20000
set_option maxHeartbeats 1000000
namespace Go.Proofs.YtimhdimhdimbjaaGreat.Sx.FF
open Go Go.SX Go.Proofs Go.Proofs.Tryz FA FB FC FD FE
theorem hbd90 : hasBody prog 90 = true := by kernel_rfl
theorem hbd89 : hasBody prog 89 = true := by kernel_rfl
theorem hbd91 : hasBody prog 91 = true := by kernel_rfl
end Go.Proofs.YtimhdimhdimbjaaGreat.Sx.FF
namespace Go.Proofs.YtimhdimhdimbjaaGreat.Sx
open Go Go.SX Go.Proofs Go.Proofs.Tryz FA FB FC FD FE FF
theorem later_ (v : Value) (a : List Int) (m : Int) (S : Nat → Prop) (wf : World) (hal : a.length ≤ 100) (hab : ∀ i : Int, 0 ≤ i → i < (a.length : Int) → 0 ≤ gt a i) (hm : -1000000000 ≤ m ∧ m ≤ 1000000000) :
  TR0 prog 91 [v, .int .i64 m] [rw_ eZ 3 (v) a] S wf (fun v_ C_ => ∃ (b : Bool) (a2 : List Int), ((b, a2) = laterF m a) ∧ v_ = .bool b ∧ C_ = [rw_ eZ 3 (v) a2]) := by
 refine TR.mk func91 G ntmps91 G G (fun w_ => ?_)
 refine .seq (.region (.a G G G (.go idQ (.seq (.seq (.region (.m G G G ?_)))))))
 refine .know (row_len 0 G) (fun hv3 => ?_)
 obtain ⟨A1, c2, rfl, hv3_1, hv3_2⟩ := hv3
 unfold maxLen at hv3_2
 refine .g underlying22 G G G (.v (ev_sub G G G (r := ((a.length : Int) - 1)) G oO oO) G (.a G G G (.go idQ (.block ?_))))
 refine .loop (X := Int) (fun i => -1 ≤ i ∧ i < (a.length : Int) ∧ laterI m a (i + 1).toNat = laterF m a) (fun i => [(0, .slice A1 a.length c2), (1, .int .i64 m), (5, .int .i64 i)]) (fun i => [rw_ eZ 3 (.slice A1 a.length c2) a]) (fun _ => S) (fun _ => wf) (fun i => (i + 1).toNat) (fun a_ w_ hs_ hw_ => ⟨((a.length : Int) - 1), (by (try dsimp only); exact ⟨oO, oO, (by rw [show ((a.length : Int) - 1 + 1).toNat = a.length from by omega]; rfl)⟩), hs_.mono (Sub.get (.c G (.c G (.c G .n)))), hw_.keep (.c .h .n)⟩) (fun i ⟨q_0, q_1, q_2⟩ => ?_)
 try dsimp only
 refine .seq (.seq (.region (.m G G G (.e G G G G G (.go idQ ?_)))))
 refine .condI G bD (fun h4 => ?_) (fun h4 => ?_)
 ·
  refine .skipgo idQ (.seq (.block (.seq (.region (.m G G G (.m G G G (.v (ev_ix G underlying22 ty3 G G oO oO (row_adr (i := i) 0 G oO oO)) G ?_)))))))
  refine .v (ev_ld1 G ty3 G (At.elem1 (row_el (E := eZ) (l := a) (i := i) 0 G oO oO) 0 G)) G (.m G G G (.e G G G G G (.go idQ ?_)))
  refine .condI G bD (fun h5 => ?_) (fun h5 => ?_)
  ·
   refine .seq ?_
   have hai := hab i oO oO
   refine .region (.m G G G (.m G G G (.v (ev_ix G underlying22 ty3 G G oO oO (row_adr (i := i) 0 G oO oO)) G ?_)))
   refine .v (ev_ld1 G ty3 G (At.elem1 (row_el (E := eZ) (l := a) (i := i) 0 G oO oO) 0 G)) G (.p (((gt a i) + 1)) oO oO G G G G G (.v (ev_ix G underlying22 ty3 G G oO oO (row_adr (i := i) 0 G oO oO)) G (.cons (st_setel (E := eZ) (i := i) (cs := [.int .i64 ((gt a i) + 1)]) (off := 0) ((gt a i) + 1) G G G ty3 G G G G G .h lO lO (Nat.le_of_ble_eq_true G) G ?_))))
   refine .go idQ (.seq (.seq (.region (.m G G G (.p ((i + 1)) oO oO G G G G G (.a G G G ?_))))))
   refine .go idQ (.block (.loop (X := Int × (List Int)) (fun ⟨k, X⟩ => X = a.take i.toNat ++ List.replicate (k - i).toNat (gt a i + 1) ++ a.drop k.toNat ∧ i < k ∧ k ≤ (a.length : Int) ∧ (X.length : Int) = a.length) (fun ⟨k, X⟩ => [(0, .slice A1 a.length c2), (1, .int .i64 m), (5, .int .i64 i), (6, .int .i64 k)]) (fun ⟨k, X⟩ => [rw_ eZ 3 (.slice A1 a.length c2) X]) (fun _ => S) (fun _ => wf) (fun ⟨k, X⟩ => ((a.length : Int) - k).toNat) (fun a_ w_ hs_ hw_ => ⟨⟨(i + 1), (a.set (i).toNat ((gt a i) + 1))⟩, (by (try dsimp only); exact ⟨(lt_set0 oO oO), oO, oO, (by simp only [List.length_set])⟩), hs_.mono (Sub.get (.c4 G G G G .n)), hw_.keep (.c .h .n)⟩) (fun ⟨k, X⟩ ⟨r_0, r_1, r_2, r_3⟩ => ?_)))
   try dsimp only
   refine .seq (.seq (.region (.m G G G (.m G G G (.g underlying22 G G G ?_)))))
   refine .e G G G G G (.go idQ (.condI G bD (fun h6 => ?_) (fun h6 => ?_)))
   ·
    refine .skipgo idQ (.seq (.block (.region (.m G G G (.m G G G (.m G G G ?_))))))
    refine .m G G G (.v (ev_ix G underlying22 ty3 G G oO oO (row_adr (i := i) 0 G oO oO)) G (.v (ev_ld1 G ty3 G (At.elem1 (row_el (E := eZ) (l := X) (i := i) 0 G oO oO) 0 G)) G (.v (ev_ix G underlying22 ty3 G G oO oO (row_adr (i := k) 0 G oO oO)) G ?_)))
    refine .cons (st_setel (E := eZ) (i := k) (cs := [.int .i64 (gt X i)]) (off := 0) (gt X i) G G G ty3 G G G G G .h lO lO (Nat.le_of_ble_eq_true G) G ?_)
    refine .go idQ (.region (.m G G G (.p ((k + 1)) oO oO G G G G G (.a G G G ?_))))
    exact SP.nil (SQ.roundb (X := Int × (List Int)) (x := (k, X)) ⟨(k + 1), (X.set (k).toNat (gt X i))⟩ (by (try dsimp only); exact ⟨(by rw [r_0, gt_mid oO oO oO]; exact lt_set oO oO oO), oO, oO, (by simp only [List.length_set]; omega)⟩) dO (Sub.get (.c4 G G G G .n)) (kp (.c .h .n)))
   refine .exit idQ ?_
   refine .seq (.region (.a G G G (.go idQ (.ret idQ (ret1 results91 G (.c .h .n) ⟨true, X, (by rw [← q_2, laterI_step oO, if_pos oO, r_0, lt_end oO oO oO]), G, G⟩)))))
  refine .skipgo idQ (.region (.m G G G (.v (ev_sub G G G (r := (i - 1)) G oO oO) G (.a G G G ?_))))
  exact SP.nil (SQ.roundb (X := Int) (x := (i)) (i - 1) (by (try dsimp only); exact ⟨oO, oO, (by have hq := q_2; rw [laterI_step oO, if_neg oO] at hq; rw [show (i - 1 + 1).toNat = i.toNat from by omega]; exact hq)⟩) (by show (_ : Nat) < _; omega) (Sub.get (.c G (.c G (.c G .n)))) (kp (.c .h .n)))
 refine .exit idQ ?_
 refine .seq (.region (.a G G G (.go idQ (.ret idQ (ret1 results91 G (.c .h .n) ⟨false, a, (by rw [← q_2, show (i + 1).toNat = 0 from by omega]; rfl), G, G⟩)))))
theorem set_ (A : Option Addr) (c : Nat) (l : List Vis) (B : Option Addr) (n : Nat) (d : Nat) (a : List Int) (S : Nat → Prop) (wf : World) (hA : Fr eVis S wf A l) (hB : Fr eZ S wf B a) (hn : a.length = n) (hll : l.length ≤ 60) (ha : AtOk l.length a) :
  TR0 prog 90 [.slice A l.length c, .slice B n d] [] S wf (fun v_ C_ => ∃ (u : Value), v_ = u ∧ C_ = [rw_ eVis 92 (u) (setR l 0 0 a)]) := by
 have hla := hA.len
 have hal := ha.1
 refine TR.mk func90 G ntmps90 G G (fun w_ => ?_)
 refine .seq (.region (.a G G G (.go idQ (.seq (.region (.a G G G ?_))))))
 refine .go idQ (.seq (.region (.a G G G (.go idQ (.seq (.seq (.region (.a G G G ?_))))))))
 refine .go idQ (.block ?_)
 refine SC.nilrow eVis 92 ?_
 refine .loop (X := Int × (List Vis) × Value × Int) (fun ⟨i, X, u_X, k⟩ => 0 ≤ i ∧ i ≤ (l.length : Int) + 1 ∧ X ++ setR (l.drop i.toNat) i k (a.drop k.toNat) = setR l 0 0 a ∧ (0 ≤ k ∧ k ≤ (a.length : Int)) ∧ (X.length : Int) ≤ i + k ∧ (i ≤ (l.length : Int) ∨ k = (a.length : Int))) (fun ⟨i, X, u_X, k⟩ => [(0, .slice A l.length c), (1, .slice B n d), (4, .slice none 0 0), (7, .int .i64 i), (5, u_X), (6, .int .i64 k)]) (fun ⟨i, X, u_X, k⟩ => [rw_ eVis 92 (u_X) X]) (fun _ => S) (fun _ => wf) (fun ⟨i, X, u_X, k⟩ => ((l.length : Int) + 1 - i).toNat) (fun a_ w_ hs_ hw_ => ⟨⟨0, ([] : List Vis), .slice none 0 0, 0⟩, (by (try dsimp only); exact ⟨oO, oO, G, oO, (by simp), oO⟩), hs_.mono (Sub.get (.c4 G G G G (.c G (.c G .n)))), hw_.keep (.c .h .n)⟩) (fun ⟨i, X, u_X, k⟩ ⟨q_0, q_1, q_2, q_3, q_4, q_5⟩ => ?_)
 try dsimp only
 refine .seq (.seq (.region (.m G G G (.m G G G (.g underlying52 G G G ?_)))))
 refine .e G G G G G (.go idQ (.condI G bD (fun h1 => ?_) (fun h1 => ?_)))
 ·
  refine .skipgo idQ (.seq (.block (.seq (.block (.loop (X := (List Vis) × Value × Int) (fun ⟨Z, u_Z, k2⟩ => Z ++ setR (l.drop i.toNat) i k2 (a.drop k2.toNat) = setR l 0 0 a ∧ (0 ≤ k2 ∧ k2 ≤ (a.length : Int)) ∧ (Z.length : Int) ≤ i + k2) (fun ⟨Z, u_Z, k2⟩ => [(0, .slice A l.length c), (1, .slice B n d), (4, .slice none 0 0), (7, .int .i64 i), (5, u_Z), (6, .int .i64 k2)]) (fun ⟨Z, u_Z, k2⟩ => [rw_ eVis 92 (u_Z) Z]) (fun _ => S) (fun _ => wf) (fun ⟨Z, u_Z, k2⟩ => ((a.length : Int) - k2).toNat) (fun a_ w_ hs_ hw_ => ⟨⟨X, u_X, k⟩, (by (try dsimp only); exact ⟨q_2, oO, oO⟩), hs_.mono (Sub.get (.c4 G G G G (.c G (.c G .n)))), hw_.keep (.c .h .n)⟩) (fun ⟨Z, u_Z, k2⟩ ⟨r_0, r_1, r_2⟩ => ?_))))))
  try dsimp only
  refine .seq (.seq (.region (.m G G G (.m G G G (.g underlying22 G G G ?_)))))
  refine .e G G G G G (.m G G G (.w (fun _ => ev_mv G G) G (.w (fun _ => ev_mv G G) G ?_)))
  refine .w (fun hb => have hp := bT bD hb; ev_ix G underlying22 ty3 (lkg G hb) (lkg G hb) (by have _h := hp; omega) (by have _h := hp; omega) (fun _ _ => Fr.adr (i := k2) hB (by have _h := hp; omega) (by have _h := hp; omega))) G (.w (fun hb => have hp := bT bD hb; ev_ld1 G ty3 (lkg G hb) (At.elem1 (At.w (Fr.el (i := k2) hB (by have _h := hp; omega) (by have _h := hp; omega))) 0 G)) G (.w (fun _ => ev_mv G G) G (.w (fun hb => ev_cmp G (lkg G hb) (lkg G hb) G) G ?_)))
  refine .v (ev_and G G G G) G (.go idQ (.condI G (bA bD bD) (fun h2 => ?_) (fun h2 => ?_)))
  ·
   refine .skipgo idQ (.block (.seq (.region (.m G G G (.m G G G (.v (ev_any (v := .agg #[.int .i64 4, .int .i64 k2]) G kR (fun _ => by kernel_rfl)) G ?_))))))
   refine .cons (st_lit eVis (e := 92) (l := [(Vis.mk 4 k2)]) G G G G kR G G kW (fun b3 => ?_))
   refine .cons (st_app (E := eVis) (m := [(Vis.mk 4 k2)]) G G G G underlying52 ai92 G G G (.t .h) rO (row_src 0 G) lO G (fun v4 => ?_))
   refine .a G G G (.go idQ (.region (.m G G G (.p ((k2 + 1)) oO oO G G G G G ?_))))
   refine .a G G G ?_
   exact SP.nil (SQ.roundb (X := (List Vis) × Value × Int) (x := (Z, u_Z, k2)) ⟨(Z ++ [(Vis.mk 4 k2)]), v4, (k2 + 1)⟩ (by (try dsimp only); exact ⟨(by have hq := r_0; rw [drop_gt (x := k2) oO oO, setR_pop oO] at hq; rw [List.append_assoc]; exact hq), oO, (by simp only [List.length_append, List.length_singleton]; omega)⟩) dO (Sub.get (.c4 G G G G (.c G (.c G .n)))) (kp (.c .h .n)))
  refine .exit idQ ?_
  refine .seq ?_
  have hk2 := ha.2.1 k2 oO
  refine .region (.m G G G (.m G G G (.g underlying52 G G G ?_)))
  refine .e G G G G G (.go idQ (.condI G bD (fun h5 => ?_) (fun h5 => ?_)))
  ·
   refine .region (.m G G G (.m G G G (.m G G G ?_)))
   refine .v (ev_ix G underlying52 ty92 G G oO oO (fun _ _ => Fr.adr (i := i) hA oO oO)) G (.v (ev_lda G G (At.w (Fr.el (i := i) hA oO oO)) ty92) G (.cons (st_lit eVis (e := 92) (l := [(gt l i)]) G G G G kR G G kW (fun b6 => (.cons (st_app (E := eVis) (m := [(gt l i)]) G G G G underlying52 ai92 G G G (.t .h) rO (row_src 0 G) lO G (fun v7 => ?_)))))))
   refine .a G G G (.go idQ (.region (.m G G G (.p ((i + 1)) oO oO G G G G G ?_))))
   refine .a G G G ?_
   exact SP.nil (SQ.roundb (X := Int × (List Vis) × Value × Int) (x := (i, X, u_X, k)) ⟨(i + 1), (Z ++ [(gt l i)]), v7, k2⟩ (by (try dsimp only); exact ⟨oO, oO, (by have hq := r_0; rw [drop_gt (x := i) oO oO, setR_go (fun y hy => by have := head_drop oO hy; omega)] at hq; rw [List.append_assoc]; exact hq), oO, (by (try simp only [List.length_append, List.length_singleton]); omega), oO⟩) dO (Sub.get (.c4 G G G G (.c G (.c G .n)))) (kp (.c .h .n)))
  refine .skipgo idQ (.region (.m G G G (.p ((i + 1)) oO oO G G G G G (.a G G G ?_))))
  exact SP.nil (SQ.roundb (X := Int × (List Vis) × Value × Int) (x := (i, X, u_X, k)) ⟨(i + 1), Z, u_Z, k2⟩ (by (try dsimp only); exact ⟨oO, oO, (by have hq := r_0; rw [drop_end (i := i) oO, drop_end (i := k2) oO] at hq; rw [drop_end (i := i + 1) oO, drop_end (i := k2) oO]; exact hq), oO, (by (try simp only [List.length_append, List.length_singleton]); omega), oO⟩) dO (Sub.get (.c4 G G G G (.c G (.c G .n)))) (kp (.c .h .n)))
 refine .exit idQ ?_
 refine .seq (.region (.m G G G (.a G G G (.go idQ ?_))))
 exact .ret idQ (ret1 results90 G (.c .h .n) ⟨u_X, G, (by have hq := q_2; rw [drop_end (i := i) oO, drop_end (i := k) oO] at hq; have hq : X ++ [] = _ := hq; rw [List.append_nil] at hq; rw [hq])⟩)
theorem fit_ (p : PB) (k : Int) (A : Option Addr) (c : Nat) (l : List Vis) (S : Nat → Prop) (wf : World) (hA : Fr eVis S wf A l) (hPB : PBF S wf p) (hL : LawP p) (hll : l.length ≤ 50) :
  TR0 prog 59 [.agg (cPB p).toArray, .int .i64 k, .slice A l.length c] [] S wf (fun v_ C_ => ∃ (vh : Int) (sA : Option Addr) (sn : Nat) (sc : Nat), v_ = .tuple #[.agg #[.int .i64 vh, .slice sA sn sc, .int .i64 ((fitV p k l).time), .int .i64 ((fitV p k l).dist), .int .i64 ((fitV p k l).wait), .int .i64 ((fitV p k l).serv), .int .i64 ((fitV p k l).cost)], .int .i64 ((fitV p k l).e)] ∧ C_ = []) := by
 have hla := hA.len
 have hlv := hPB.2.2.1.1.len
 refine TR.mk func59 G ntmps59 G G (fun w_ => ?_)
 refine .seq (.region (.cons (st_boxa G G G G G (fun b1 => (.cons (st_alloc G G G G zf86 (fun b2 => (.a G G G ?_))))))))
 refine .go idQ (.seq (.seq (.region (.m G G G (.e G G G G G (.m G G G ?_))))))
 refine .w (fun _ => ev_mv G G) G (.w (fun _ => ev_fa G fo29_3 G (r := 5) G) G (.w (fun hb => ev_ld1 G ty25 (lkg G hb) (At.own1 1 G G)) G (.w (fun hb => ev_len G underlying25 (lkg G hb)) G ?_)))
 refine .w (fun hb => ev_cmp G (lkg G hb) (lkg G hb) G) G (.r G G G G G (.go idQ (.condI G (bO bD bD) (fun h3 => ?_) (fun h3 => ?_))))
 ·
  refine .seq (.region (.v (ev_any (v := .agg #[.int .i64 0, .slice none 0 0, .int .i64 0, .int .i64 0, .int .i64 0, .int .i64 0, .int .i64 0]) G kR (fun _ => by kernel_rfl)) G (.cons (st_storea (l' := [.int .i64 0, .slice none 0 0, .int .i64 0, .int .i64 0, .int .i64 0, .int .i64 0, .int .i64 0]) G G G ty86 G G G .h G G (.a G G G ?_)))))
  refine .go idQ (.ret idQ (retv2 results59 (.c 0 G G ty86) (.t G) .n ⟨0, none, 0, 0, (by rw [fit_out (by assumption)]; rfl), G⟩))
 refine .skipgo idQ (.seq (.seq (.region (.m G G G (.g underlying52 G G G (.m G G G ?_))))))
 refine .go idQ (.block (.loop (X := Int) (fun i => 0 ≤ i ∧ i ≤ (l.length : Int) ∧ noBr (l.drop i.toNat) = noBr l) (fun i => [(1, .int .i64 k), (2, .slice A l.length c), (3, .pointer (some ⟨b1, 0, none⟩)), (6, .pointer (some ⟨b2, 0, none⟩)), (24, .slice A l.length c), (25, .int .i64 (l.length : Int)), (26, .int .i64 i)]) (fun i => [cel b2 [.int .i64 0, .slice none 0 0, .int .i64 0, .int .i64 0, .int .i64 0, .int .i64 0, .int .i64 0] 86, cel b1 (cPB p) 29]) (fun _ => S) (fun _ => wf) (fun i => ((l.length : Int) - i).toNat) (fun a_ w_ hs_ hw_ => ⟨0, (by (try dsimp only); exact ⟨oO, oO, G⟩), hs_.mono (Sub.get (.c4 G G G G (.c G (.c G (.c G .n))))), hw_.keep (.d .n)⟩) (fun i ⟨q_0, q_1, q_2⟩ => ?_)))
 try dsimp only
 refine .seq (.region (.e G G G G G (.go idQ (.seq (.condI G bD (fun h4 => ?_) (fun h4 => ?_))))))
 ·
  refine .skipgo idQ (.seq (.block (.seq (.region (.v (ev_ix G underlying52 ty92 G G oO oO (fun _ _ => Fr.adr (i := i) hA oO oO)) G (.v (ev_lda G G (At.w (Fr.el (i := i) hA oO oO)) ty92) G (.cons (st_alloc G G G G zf92 (fun b5 => ?_)))))))))
  refine .cons (st_storea (l' := [.int .i64 ((gt l i).kind), .int .i64 ((gt l i).item)]) G G G ty92 G G G .h G G ?_)
  refine .go idQ (.seq (.region (.f fo92_0 0 G G G G (.l ty90 0 G G G G G (.e G G G G G ?_)))))
  refine .go idQ (.condI G bE (fun h6 => ?_) (fun h6 => ?_))
  ·
   refine .seq (.region (.v (ev_any (v := .agg #[.int .i64 0, .slice none 0 0, .int .i64 0, .int .i64 0, .int .i64 0, .int .i64 0, .int .i64 0]) G kR (fun _ => by kernel_rfl)) G (.cons (st_storea (l' := [.int .i64 0, .slice none 0 0, .int .i64 0, .int .i64 0, .int .i64 0, .int .i64 0, .int .i64 0]) G G G ty86 G G G (.t .h) G G (.a G G G ?_)))))
   refine .go idQ (.ret idQ (retv2 results59 (.c 0 G G ty86) (.t G) .n ⟨0, none, 0, 0, (by rw [fit_brk (by assumption) (by have hq := q_2; rw [drop_gt (x := i) oO oO, noBr_cons] at hq; (repeat' split at hq) <;> first | exact hq.symm | contradiction | (exfalso; omega))]; rfl), G⟩))
  refine .skipgo idQ (.region (.p ((i + 1)) oO oO G G G G G (.m G G G ?_)))
  exact SP.nil (SQ.roundb (X := Int) (x := (i)) (i + 1) (by (try dsimp only); exact ⟨oO, oO, (by have hq := q_2; rw [drop_gt (x := i) oO oO, noBr_cons] at hq; (repeat' split at hq) <;> first | exact hq | contradiction | (exfalso; omega))⟩) (by show (_ : Nat) < _; omega) (Sub.get (.c4 G G G G (.c G (.c G (.c G .n))))) (kp (.c (.t .h) (.c (.t .h) .n))))
 refine .exit idQ ?_
 refine .seq ?_
 have hnb : noBr l = true := by have hq := q_2; rw [drop_end oO] at hq; exact hq.symm
 have hV := hL.veh k oO oO
 have hbl := hV.brs
 refine .region (.f fo29_3 5 G G G G (.l ty25 1 G G G G G (.m G G G ?_)))
 refine .v (ev_ix G underlying25 ty72 G G oO oO (fun _ _ => Fr.adr (i := k) hPB.2.2.1.1 oO oO)) G (.f fo72_9 (ao p.pvA + (k).toNat * 11 + 10) G G G G (.v (ev_ld1 G ty70 G (At.elem1 (At.w (Fr.el (i := k) hPB.2.2.1.1 oO oO)) 10 G)) G (.g underlying70 G G G ?_)))
 refine .a G G G (.go idQ (.seq (.region (.m G G G (.cons (st_mkints (q := .i64) (n := (gt p.vehs k).brs.length) G G G G underlying22 ai3 G G G oO G (fun b7 => ?_)))))))
 refine .a G G G (.go idQ (.block (.loop (X := (List Int)) (fun a => AtOk l.length a ∧ a.length = (gt p.vehs k).brs.length ∧ firstC (planS p k l)  (candsA l.length a) = firstC (planS p k l) (candsA l.length (zerosB p k))) (fun a => [(1, .int .i64 k), (2, .slice A l.length c), (3, .pointer (some ⟨b1, 0, none⟩)), (6, .pointer (some ⟨b2, 0, none⟩)), (24, .slice A l.length c), (25, .int .i64 (l.length : Int)), (26, .int .i64 i), (11, .slice (some ⟨b7, 0, none⟩) ((gt p.vehs k).brs.length) ((gt p.vehs k).brs.length))]) (fun a => [rw_ eZ 3 (.slice (some ⟨b7, 0, none⟩) ((gt p.vehs k).brs.length) ((gt p.vehs k).brs.length)) a, cel b2 [.int .i64 0, .slice none 0 0, .int .i64 0, .int .i64 0, .int .i64 0, .int .i64 0, .int .i64 0] 86, cel b1 (cPB p) 29]) (fun _ => S) (fun _ => wf) (fun a => (candsA l.length a).length) (fun a_ w_ hs_ hw_ => ⟨(List.replicate ((gt p.vehs k).brs.length) 0), (by (try dsimp only); exact ⟨(zeros_ok hV.brs oO), (by rw [List.length_replicate]), G⟩), hs_.mono (Sub.get (.c4 G G G G (.c4 G G G G .n))), hw_.keep (.d (.c .h .n))⟩) (fun a ⟨r_0, r_1, r_2⟩ => ?_))))
 try dsimp only
 refine .block (.seq ?_)
 have hsl := setR_len (l := l) (i := 0) (k := 0) (r := a)
 have hbl2 := r_0.1
 refine SC.draw mo [] [] .n (fun _ _ _ => sc0) (fun wf_8 hl_8 hx_8 hR_8 => ?_)
 refine SR.z 0 G G (ev_lda (cs := (cPB p)) G G (At.d (At.lent hR_8 2 G G)) ty29) ?_
 refine SR.m 1 G G G G ?_
 refine SR.m 2 G G G G ?_
 refine SR.m 3 G G G G ?_
 refine SR.two (i := 4) (j := 9) kR ⟨_, G, ?_⟩ ⟨_, G, ?_⟩
 ·
  refine st_call0 G G G G hbd90 G .n (set_ A c l (some ⟨b7, 0, none⟩) ((gt p.vehs k).brs.length) ((gt p.vehs k).brs.length) a _ _ (Fr.ext hA hx_8) (Fr.lent (S := S) hR_8 0 G lO) lO oO r_0) (fun v_q10 C_q10 q10 => ⟨tt0, ?_⟩)
  obtain ⟨u9, rfl, rfl⟩ := q10
  show SR _ _ _ _ _ _ _ _ _ ⟨_, _ :: _, _, _⟩
  refine SR.two (i := 5) (j := 9) kR ⟨_, G, ?_⟩ ⟨_, G, ?_⟩
  ·
   refine .know (row_len 0 G) (fun hv13 => ?_)
   obtain ⟨A11, c12, rfl, hv13_1, hv13_2⟩ := hv13
   unfold maxLen at hv13_2
   refine st_lend0 G G G G hbd89 G .n (.c .h .n) (fun w_ hw => planof_ p k A11 c12 (setR l 0 0 a) _ _ (Fr.lend hw 0 G lO) ((((hPB).ext hx_8)).ext hw.lendx) oO lO) (fun v_q18 C_q18 q18 => ⟨tt0, ?_⟩)
   obtain ⟨vh14, sA15, sn16, sc17, rfl, rfl⟩ := q18
   show SR _ _ _ _ _ _ _ _ _ ⟨_, _ :: _, _, _⟩
   refine SR.m 6 G G G G ?_
   refine SR.z 7 G G (ev_ext G G G) ?_
   refine SR.z 8 G G (ev_ext G G G) ?_
   refine SR.o 9 G (st_alloc G G G G zf86 (fun b19 => ⟨tt0, ?_⟩))
   refine SR.o 10 G (st_storea (l' := [.int .i64 vh14, .slice sA15 sn16 sc17, .int .i64 ((planP p k (setR l 0 0 a)).time), .int .i64 ((planP p k (setR l 0 0 a)).dist), .int .i64 ((planP p k (setR l 0 0 a)).wait), .int .i64 ((planP p k (setR l 0 0 a)).serv), .int .i64 ((planP p k (setR l 0 0 a)).cost)]) G G G ty86 G G G .h G G ⟨tt0, ?_⟩)
   refine SR.z 11 G G (ev_as G G) ?_
   refine SR.fin kR hl_8 hx_8 hR_8 (.c (.c .n)) ?_
   refine SQ.go idQ ?_
   refine .seq (.region (.m G G G (.e G G G G G (.m G G G ?_))))
   refine .w (fun _ => ev_mv G G) G (.w (fun _ => ev_mv G G) G (.w (fun hb => ev_len G underlying52 (lkg G hb)) G ?_))
   rcases Bool.eq_false_or_eq_true (((planP p k (setR l 0 0 a)).e) != 167) with hb20 | hb20
   ·
    refine SP.reslot (t := 55) G hb20 ?_
    have hb20_ := bT bNE hb20
    refine .cons (.off G G G G G G ?_)
    refine .cons (.off G G G G G G ?_)
    refine .v (ev_pickt G G G G) G (.go idQ (.cond_t G (.seq (.region ?_))))
    refine .d 0 ty86 G G G G (.m G G G (.cons (st_storea (l' := [.int .i64 vh14, .slice sA15 sn16 sc17, .int .i64 ((planP p k (setR l 0 0 a)).time), .int .i64 ((planP p k (setR l 0 0 a)).dist), .int .i64 ((planP p k (setR l 0 0 a)).wait), .int .i64 ((planP p k (setR l 0 0 a)).serv), .int .i64 ((planP p k (setR l 0 0 a)).cost)]) G G G ty86 G G G (.t2 (.t .h)) G G (.a G G G ?_))))
    refine .go idQ (.ret idQ (retv2 results59 (.c 0 G G ty86) (.t G) .n ⟨vh14, sA15, sn16, sc17, (by rw [fit_in (by assumption) hnb, ← fit_stop r_0 r_2 (.inl (by assumption))] <;> rfl), G⟩))
   refine SP.reslot (t := 55) G hb20 ?_
   have hb20_ := bF bNE hb20
   refine .cons (.on G G G (st_call0 G G G G hbd91 (lkA1 (lkg G hb20) (lkA1 (lkg G hb20) lkA0)) (.c (.t2 .h) .n) (later_ (.slice (some ⟨b7, 0, none⟩) ((gt p.vehs k).brs.length) ((gt p.vehs k).brs.length)) a (l.length : Int) _ _ lO (fun i_ h0_ h1_ => (r_0.2.1 i_ h0_ h1_).1) lO) (fun v_q23 C_q23 q23 => ?_)))
   obtain ⟨b21, a222, p24, rfl, rfl⟩ := q23
   show SP _ _ _ _ _ _ ⟨_, _ :: _, _, _⟩
   have hl1 : b21 = (laterF (l.length : Int) a).1 := congrArg Prod.fst p24
   have hl2 : a222 = (laterF (l.length : Int) a).2 := congrArg Prod.snd p24
   refine .cons (.on G G G (Ev.step (ev_not G G) G G G ?_))
   refine .v (ev_pickf G G G G) G (.go idQ (.condI G (bN bV) (fun h25 => ?_) (fun h25 => ?_)))
   ·
    refine .seq (.region (.d 1 ty86 G G G G (.m G G G (.cons (st_storea (l' := [.int .i64 vh14, .slice sA15 sn16 sc17, .int .i64 ((planP p k (setR l 0 0 a)).time), .int .i64 ((planP p k (setR l 0 0 a)).dist), .int .i64 ((planP p k (setR l 0 0 a)).wait), .int .i64 ((planP p k (setR l 0 0 a)).serv), .int .i64 ((planP p k (setR l 0 0 a)).cost)]) G G G ty86 G G G (.t2 (.t .h)) G G ?_)))))
    refine .a G G G (.go idQ (.ret idQ (retv2 results59 (.c 0 G G ty86) (.t G) .n ⟨vh14, sA15, sn16, sc17, (by rw [fit_in (by assumption) hnb, ← fit_stop r_0 r_2 (.inr (by rw [← hl1]; assumption))] <;> rfl), G⟩)))
   exact .skip (SQ.roundb (X := (List Int)) (x := (a)) a222 (by (try dsimp only); exact ⟨(by rw [hl2]; exact (later_ok r_0).1), (by rw [hl2, (later_ok r_0).2]; exact r_1), (by rw [hl2]; exact fit_step r_0 r_2 (Classical.not_not.1 (by assumption)) (by rw [← hl1]; exact Classical.not_not.1 (by assumption)))⟩) (by show (_ : Nat) < _; rw [hl2]; exact cands_mu r_0 (by rw [← hl1]; exact Classical.not_not.1 (by assumption))) (Sub.get (.c4 G G G G (.c4 G G G G .n))) (kp (.c .h (.c (.t2 .h) (.c (.t2 .h) .n)))))
  refine st_alloc G G G G zf86 (fun b26 => ⟨tt0, ?_⟩)
  refine .know (row_len 1 G) (fun hv29 => ?_)
  obtain ⟨A27, c28, rfl, hv29_1, hv29_2⟩ := hv29
  unfold maxLen at hv29_2
  refine SR.o 5 G (st_lend0 G G G G hbd89 G .n (.c (.t .h) .n) (fun w_ hw => planof_ p k A27 c28 (setR l 0 0 a) _ _ (Fr.lend hw 0 G lO) ((((hPB).ext hx_8)).ext hw.lendx) oO lO) (fun v_q34 C_q34 q34 => ⟨tt0, ?_⟩))
  obtain ⟨vh30, sA31, sn32, sc33, rfl, rfl⟩ := q34
  show SR _ _ _ _ _ _ _ _ _ ⟨_, _ :: _, _, _⟩
  refine SR.m 6 G G G G ?_
  refine SR.z 7 G G (ev_ext G G G) ?_
  refine SR.z 8 G G (ev_ext G G G) ?_
  refine SR.o 10 G (st_storea (l' := [.int .i64 vh30, .slice sA31 sn32 sc33, .int .i64 ((planP p k (setR l 0 0 a)).time), .int .i64 ((planP p k (setR l 0 0 a)).dist), .int .i64 ((planP p k (setR l 0 0 a)).wait), .int .i64 ((planP p k (setR l 0 0 a)).serv), .int .i64 ((planP p k (setR l 0 0 a)).cost)]) G G G ty86 G G G (.t .h) G G ⟨tt0, ?_⟩)
  refine SR.z 11 G G (ev_as G G) ?_
  refine SR.fin kR hl_8 hx_8 hR_8 (.c (.c .n)) ?_
  refine SQ.go idQ ?_
  refine .seq (.region (.m G G G (.e G G G G G (.m G G G ?_))))
  refine .w (fun _ => ev_mv G G) G (.w (fun _ => ev_mv G G) G (.w (fun hb => ev_len G underlying52 (lkg G hb)) G ?_))
  rcases Bool.eq_false_or_eq_true (((planP p k (setR l 0 0 a)).e) != 167) with hb35 | hb35
  ·
   refine SP.reslot (t := 55) G hb35 ?_
   have hb35_ := bT bNE hb35
   refine .cons (.off G G G G G G ?_)
   refine .cons (.off G G G G G G ?_)
   refine .v (ev_pickt G G G G) G (.go idQ (.cond_t G (.seq (.region ?_))))
   refine .d 0 ty86 G G G G (.m G G G (.cons (st_storea (l' := [.int .i64 vh30, .slice sA31 sn32 sc33, .int .i64 ((planP p k (setR l 0 0 a)).time), .int .i64 ((planP p k (setR l 0 0 a)).dist), .int .i64 ((planP p k (setR l 0 0 a)).wait), .int .i64 ((planP p k (setR l 0 0 a)).serv), .int .i64 ((planP p k (setR l 0 0 a)).cost)]) G G G ty86 G G G (.t2 (.t .h)) G G (.a G G G ?_))))
   refine .go idQ (.ret idQ (retv2 results59 (.c 0 G G ty86) (.t G) .n ⟨vh30, sA31, sn32, sc33, (by rw [fit_in (by assumption) hnb, ← fit_stop r_0 r_2 (.inl (by assumption))] <;> rfl), G⟩))
  refine SP.reslot (t := 55) G hb35 ?_
  have hb35_ := bF bNE hb35
  refine .cons (.on G G G (st_call0 G G G G hbd91 (lkA1 (lkg G hb35) (lkA1 (lkg G hb35) lkA0)) (.c (.t2 .h) .n) (later_ (.slice (some ⟨b7, 0, none⟩) ((gt p.vehs k).brs.length) ((gt p.vehs k).brs.length)) a (l.length : Int) _ _ lO (fun i_ h0_ h1_ => (r_0.2.1 i_ h0_ h1_).1) lO) (fun v_q38 C_q38 q38 => ?_)))
  obtain ⟨b36, a237, p39, rfl, rfl⟩ := q38
  show SP _ _ _ _ _ _ ⟨_, _ :: _, _, _⟩
  have hl1 : b36 = (laterF (l.length : Int) a).1 := congrArg Prod.fst p39
  have hl2 : a237 = (laterF (l.length : Int) a).2 := congrArg Prod.snd p39
  refine .cons (.on G G G (Ev.step (ev_not G G) G G G ?_))
  refine .v (ev_pickf G G G G) G (.go idQ (.condI G (bN bV) (fun h40 => ?_) (fun h40 => ?_)))
  ·
   refine .seq (.region (.d 1 ty86 G G G G (.m G G G (.cons (st_storea (l' := [.int .i64 vh30, .slice sA31 sn32 sc33, .int .i64 ((planP p k (setR l 0 0 a)).time), .int .i64 ((planP p k (setR l 0 0 a)).dist), .int .i64 ((planP p k (setR l 0 0 a)).wait), .int .i64 ((planP p k (setR l 0 0 a)).serv), .int .i64 ((planP p k (setR l 0 0 a)).cost)]) G G G ty86 G G G (.t2 (.t .h)) G G ?_)))))
   refine .a G G G (.go idQ (.ret idQ (retv2 results59 (.c 0 G G ty86) (.t G) .n ⟨vh30, sA31, sn32, sc33, (by rw [fit_in (by assumption) hnb, ← fit_stop r_0 r_2 (.inr (by rw [← hl1]; assumption))] <;> rfl), G⟩)))
  exact .skip (SQ.roundb (X := (List Int)) (x := (a)) a237 (by (try dsimp only); exact ⟨(by rw [hl2]; exact (later_ok r_0).1), (by rw [hl2, (later_ok r_0).2]; exact r_1), (by rw [hl2]; exact fit_step r_0 r_2 (Classical.not_not.1 (by assumption)) (by rw [← hl1]; exact Classical.not_not.1 (by assumption)))⟩) (by show (_ : Nat) < _; rw [hl2]; exact cands_mu r_0 (by rw [← hl1]; exact Classical.not_not.1 (by assumption))) (Sub.get (.c4 G G G G (.c4 G G G G .n))) (kp (.c .h (.c (.t2 .h) (.c (.t2 .h) .n)))))
 refine st_alloc G G G G zf86 (fun b41 => ⟨tt0, ?_⟩)
 refine SR.o 4 G (st_call0 G G G G hbd90 G .n (set_ A c l (some ⟨b7, 0, none⟩) ((gt p.vehs k).brs.length) ((gt p.vehs k).brs.length) a _ _ (Fr.ext hA hx_8) (Fr.lent (S := S) hR_8 0 G lO) lO oO r_0) (fun v_q43 C_q43 q43 => ⟨tt0, ?_⟩))
 obtain ⟨u42, rfl, rfl⟩ := q43
 show SR _ _ _ _ _ _ _ _ _ ⟨_, _ :: _, _, _⟩
 refine .know (row_len 0 G) (fun hv46 => ?_)
 obtain ⟨A44, c45, rfl, hv46_1, hv46_2⟩ := hv46
 unfold maxLen at hv46_2
 refine SR.o 5 G (st_lend0 G G G G hbd89 G .n (.c .h .n) (fun w_ hw => planof_ p k A44 c45 (setR l 0 0 a) _ _ (Fr.lend hw 0 G lO) ((((hPB).ext hx_8)).ext hw.lendx) oO lO) (fun v_q51 C_q51 q51 => ⟨tt0, ?_⟩))
 obtain ⟨vh47, sA48, sn49, sc50, rfl, rfl⟩ := q51
 show SR _ _ _ _ _ _ _ _ _ ⟨_, _ :: _, _, _⟩
 refine SR.m 6 G G G G ?_
 refine SR.z 7 G G (ev_ext G G G) ?_
 refine SR.z 8 G G (ev_ext G G G) ?_
 refine SR.o 10 G (st_storea (l' := [.int .i64 vh47, .slice sA48 sn49 sc50, .int .i64 ((planP p k (setR l 0 0 a)).time), .int .i64 ((planP p k (setR l 0 0 a)).dist), .int .i64 ((planP p k (setR l 0 0 a)).wait), .int .i64 ((planP p k (setR l 0 0 a)).serv), .int .i64 ((planP p k (setR l 0 0 a)).cost)]) G G G ty86 G G G (.t .h) G G ⟨tt0, ?_⟩)
 refine SR.z 11 G G (ev_as G G) ?_
 refine SR.fin kR hl_8 hx_8 hR_8 (.c (.c .n)) ?_
 refine SQ.go idQ ?_
 refine .seq (.region (.m G G G (.e G G G G G (.m G G G ?_))))
 refine .w (fun _ => ev_mv G G) G (.w (fun _ => ev_mv G G) G (.w (fun hb => ev_len G underlying52 (lkg G hb)) G ?_))
 rcases Bool.eq_false_or_eq_true (((planP p k (setR l 0 0 a)).e) != 167) with hb52 | hb52
 ·
  refine SP.reslot (t := 55) G hb52 ?_
  have hb52_ := bT bNE hb52
  refine .cons (.off G G G G G G ?_)
  refine .cons (.off G G G G G G ?_)
  refine .v (ev_pickt G G G G) G (.go idQ (.cond_t G (.seq (.region ?_))))
  refine .d 0 ty86 G G G G (.m G G G (.cons (st_storea (l' := [.int .i64 vh47, .slice sA48 sn49 sc50, .int .i64 ((planP p k (setR l 0 0 a)).time), .int .i64 ((planP p k (setR l 0 0 a)).dist), .int .i64 ((planP p k (setR l 0 0 a)).wait), .int .i64 ((planP p k (setR l 0 0 a)).serv), .int .i64 ((planP p k (setR l 0 0 a)).cost)]) G G G ty86 G G G (.t2 (.t .h)) G G (.a G G G ?_))))
  refine .go idQ (.ret idQ (retv2 results59 (.c 0 G G ty86) (.t G) .n ⟨vh47, sA48, sn49, sc50, (by rw [fit_in (by assumption) hnb, ← fit_stop r_0 r_2 (.inl (by assumption))] <;> rfl), G⟩))
 refine SP.reslot (t := 55) G hb52 ?_
 have hb52_ := bF bNE hb52
 refine .cons (.on G G G (st_call0 G G G G hbd91 (lkA1 (lkg G hb52) (lkA1 (lkg G hb52) lkA0)) (.c (.t2 .h) .n) (later_ (.slice (some ⟨b7, 0, none⟩) ((gt p.vehs k).brs.length) ((gt p.vehs k).brs.length)) a (l.length : Int) _ _ lO (fun i_ h0_ h1_ => (r_0.2.1 i_ h0_ h1_).1) lO) (fun v_q55 C_q55 q55 => ?_)))
 obtain ⟨b53, a254, p56, rfl, rfl⟩ := q55
 show SP _ _ _ _ _ _ ⟨_, _ :: _, _, _⟩
 have hl1 : b53 = (laterF (l.length : Int) a).1 := congrArg Prod.fst p56
 have hl2 : a254 = (laterF (l.length : Int) a).2 := congrArg Prod.snd p56
 refine .cons (.on G G G (Ev.step (ev_not G G) G G G ?_))
 refine .v (ev_pickf G G G G) G (.go idQ (.condI G (bN bV) (fun h57 => ?_) (fun h57 => ?_)))
 ·
  refine .seq (.region (.d 1 ty86 G G G G (.m G G G (.cons (st_storea (l' := [.int .i64 vh47, .slice sA48 sn49 sc50, .int .i64 ((planP p k (setR l 0 0 a)).time), .int .i64 ((planP p k (setR l 0 0 a)).dist), .int .i64 ((planP p k (setR l 0 0 a)).wait), .int .i64 ((planP p k (setR l 0 0 a)).serv), .int .i64 ((planP p k (setR l 0 0 a)).cost)]) G G G ty86 G G G (.t2 (.t .h)) G G ?_)))))
  refine .a G G G (.go idQ (.ret idQ (retv2 results59 (.c 0 G G ty86) (.t G) .n ⟨vh47, sA48, sn49, sc50, (by rw [fit_in (by assumption) hnb, ← fit_stop r_0 r_2 (.inr (by rw [← hl1]; assumption))] <;> rfl), G⟩)))
 exact .skip (SQ.roundb (X := (List Int)) (x := (a)) a254 (by (try dsimp only); exact ⟨(by rw [hl2]; exact (later_ok r_0).1), (by rw [hl2, (later_ok r_0).2]; exact r_1), (by rw [hl2]; exact fit_step r_0 r_2 (Classical.not_not.1 (by assumption)) (by rw [← hl1]; exact Classical.not_not.1 (by assumption)))⟩) (by show (_ : Nat) < _; rw [hl2]; exact cands_mu r_0 (by rw [← hl1]; exact Classical.not_not.1 (by assumption))) (Sub.get (.c4 G G G G (.c4 G G G G .n))) (kp (.c .h (.c (.t2 .h) (.c (.t2 .h) .n)))))
end Go.Proofs.YtimhdimhdimbjaaGreat.Sx
set_option maxRecDepth 20000
set_option maxHeartbeats 1000000
set_option maxRecDepth 20000
set_option maxHeartbeats 1000000
namespace Go.Proofs.YtimhdimhdimbjaaGreat.Sx.FG
open Go Go.SX Go.Proofs Go.Proofs.Tryz FA FB FC FD FE FF
theorem hbd88 : hasBody prog 88 = true := by kernel_rfl
theorem fo54_0 : fo prog 54 0 = some 0 := by kernel_rfl
theorem hbd58 : hasBody prog 58 = true := by kernel_rfl
theorem hbd48 : hasBody prog 48 = true := by kernel_rfl
theorem ty54 : ty prog 54 = some (true, 2) := by kernel_rfl
theorem hbd57 : hasBody prog 57 = true := by kernel_rfl
theorem hbd124 : hasBody prog 124 = true := by kernel_rfl
theorem hbd87 : hasBody prog 87 = true := by kernel_rfl
theorem hbd47 : hasBody prog 47 = true := by kernel_rfl
theorem hbd118 : hasBody prog 118 = true := by kernel_rfl
theorem hbd78 : hasBody prog 78 = true := by kernel_rfl
end Go.Proofs.YtimhdimhdimbjaaGreat.Sx.FG
namespace Go.Proofs.YtimhdimhdimbjaaGreat.Sx
open Go Go.SX Go.Proofs Go.Proofs.Tryz FA FB FC FD FE FF FG
theorem isnan_ (a : Int) (S : Nat → Prop) (wf : World) :
  TR0 prog 88 [.int .i64 a] [] S wf (fun v_ C_ => v_ = .bool (a != a) ∧ C_ = []) := by
 refine TR.mk func88 G ntmps88 G G (fun w_ => ?_)
 refine .seq (.region (.a G G G (.go idQ (.seq (.region (.m G G G ?_))))))
 refine .m G G G (.e G G G G G (.a G G G (.go idQ ?_)))
 exact .ret idQ (ret1 results88 G .n ⟨G, G⟩)
theorem compare_ (a : Int) (b : Int) (S : Nat → Prop) (wf : World) :
  TR0 prog 58 [.int .i64 a, .int .i64 b] [] S wf (fun v_ C_ => v_ = .int .i64 (cmpI a b) ∧ C_ = []) := by
 refine TR.mk func58 G ntmps58 G G (fun w_ => ?_)
 refine .seq (.region (.a G G G (.go idQ (.seq (.region (.m G G G ?_))))))
 refine .cons (st_callk G G G G hbd88 G .n (isnan_ a _ _) ?_)
 refine .a G G G (.go idQ (.seq (.region (.m G G G (.cons (st_callk G G G G hbd88 G .n (isnan_ b _ _) ?_))))))
 refine .a G G G (.go idQ (.seq (.seq (.region (.m G G G (.go idQ ?_))))))
 refine .condI G bNE (fun h1 => ?_) (fun h1 => ?_)
 ·
  exfalso; omega
 refine .skipgo idQ (.seq (.seq (.region (.m G G G (.go idQ (.condI G bNE (fun h2 => ?_) (fun h2 => ?_)))))))
 ·
  exfalso; omega
 refine .skipgo idQ (.seq (.seq (.region (.m G G G (.m G G G (.e G G G G G ?_))))))
 refine .go idQ (.condI G bD (fun h3 => ?_) (fun h3 => ?_))
 ·
  refine .seq (.region (.a G G G (.go idQ (.ret idQ (ret1 results58 G .n ⟨(congrArg (Value.int .i64) (by unfold cmpI; rw [if_pos oO])), G⟩)))))
 refine .skipgo idQ (.seq (.seq (.region (.m G G G (.m G G G (.e G G G G G ?_))))))
 refine .go idQ (.condI G bD (fun h4 => ?_) (fun h4 => ?_))
 ·
  refine .seq (.region (.a G G G (.go idQ (.ret idQ (ret1 results58 G .n ⟨(congrArg (Value.int .i64) (by unfold cmpI; rw [if_neg oO, if_pos oO])), G⟩)))))
 refine .skipgo idQ (.seq (.region (.a G G G (.go idQ (.ret idQ (ret1 results58 G .n ⟨(congrArg (Value.int .i64) (by unfold cmpI; rw [if_neg oO, if_neg oO])), G⟩))))))
theorem withc_ (x : RT) (y : RT) (S : Nat → Prop) (wf : World) :
  TR0 prog 57 [.agg #[.int .i64 x.veh, .slice x.rA x.vis.length x.rc], .agg #[.int .i64 y.veh, .slice y.rA y.vis.length y.rc]] [] S wf (fun v_ C_ => v_ = .int .i64 (cmpI x.veh y.veh) ∧ C_ = []) := by
 refine TR.mk func57 G ntmps57 G G (fun w_ => ?_)
 refine .seq (.region (.cons (st_boxa G G G G G (fun b1 => (.cons (st_boxa G G G G G (fun b2 => (.a G G G ?_))))))))
 refine .go idQ (.seq (.region (.f fo54_0 0 G G G G (.l ty3 1 G G G G G (.f fo54_0 0 G G G G ?_)))))
 refine .l ty3 0 G G G G G (.cons (st_callk G G G G hbd58 G .n (compare_ x.veh y.veh _ _) (.a G G G (.go idQ ?_))))
 exact .ret idQ (ret1 results57 G .n ⟨G, G⟩)
theorem tasksc_ (p : PB) (b : Nat) (x : TK) (y : TK) (S : Nat → Prop) (wf : World) (hPB : PBF S wf p) (hL : LawP p) :
  TR0 prog 47 [.agg #[.bool x.ship, .int .i64 x.item], .agg #[.bool y.ship, .int .i64 y.item], .pointer (some ⟨b, 0, none⟩)] [cel b (cPB p) 29] S wf (fun v_ C_ => v_ = .int .i64 (prioF p y - prioF p x) ∧ C_ = [cel b (cPB p) 29]) := by
 have hpx := prio_rng hL x
 have hpy := prio_rng hL y
 refine TR.mk func47 G ntmps47 G G (fun w_ => ?_)
 refine .seq (.region (.cons (st_boxa G G G G G (fun b1 => (.cons (st_boxa G G G G G (fun b2 => (.a G G G ?_))))))))
 refine .go idQ (.seq ?_)
 refine SC.draw mo [] [] .n (fun _ _ _ => sc0) (fun wf_3 hl_3 hx_3 hR_3 => ?_)
 refine SR.z 0 G G (ev_lda (cs := (cPB p)) G G (At.d (At.lent hR_3 2 G G)) ty29) ?_
 refine SR.z 1 G G (ev_lda (cs := [.bool y.ship, .int .i64 y.item]) G G (At.d (At.lent hR_3 0 G G)) ty61) ?_
 refine SR.z 3 G G (ev_lda (cs := (cPB p)) G G (At.d (At.lent hR_3 2 G G)) ty29) ?_
 refine SR.z 4 G G (ev_lda (cs := [.bool x.ship, .int .i64 x.item]) G G (At.d (At.lent hR_3 1 G G)) ty61) ?_
 refine SR.o 2 G (st_callk G G G G hbd48 G .n (prio_ p y _ _ ((hPB).ext hx_3)) ⟨tt0, ?_⟩)
 refine SR.o 5 G (st_callk G G G G hbd48 G .n (prio_ p x _ _ ((hPB).ext hx_3)) ⟨tt0, ?_⟩)
 refine SR.z 6 G G (ev_sub G G G (r := ((prioF p y) - (prioF p x))) G oO oO) ?_
 refine SR.z 7 G G (ev_as G G) ?_
 refine SR.fin kR hl_3 hx_3 hR_3 .n ?_
 refine SQ.go idQ ?_
 exact .ret idQ (ret1 results47 G (.c (.t2 .h) .n) ⟨G, G⟩)
theorem insR (A : Option Addr) (n : Nat) (c : Nat) (l : List RT) (S : Nat → Prop) (wf : World) (hn : l.length = n) (hn2 : n ≤ 19) :
  TR0 prog 124 [.slice A n c, .int .i64 0, .int .i64 (n : Int), .func (.func 57) #[] #[]] [rw_ eRT 54 (.slice A n c) l] S wf (fun v_ C_ => v_ = .tuple #[] ∧ C_ = [rw_ eRT 54 (.slice A n c) (sortF ltR l)]) := by
 refine TR.mk func124 G ntmps124 G G (fun w_ => ?_)
 refine .seq (.region (.m G G G (.p 1 oO oO G G G G G (.a G G G ?_))))
 refine .go idQ (.block (.loop (X := Int × (List RT)) (fun ⟨i, X⟩ => 1 ≤ i ∧ i ≤ (n : Int) + 1 ∧ (X.length : Int) = n ∧ srt ltR ((n : Int) - i).toNat i.toNat X = sortF ltR l) (fun ⟨i, X⟩ => [(0, .slice A n c), (1, .int .i64 0), (2, .int .i64 (n : Int)), (3, .func (.func 57) #[] #[]), (8, .int .i64 i)]) (fun ⟨i, X⟩ => [rw_ eRT 54 (.slice A n c) X]) (fun _ => S) (fun _ => wf) (fun ⟨i, X⟩ => ((n : Int) + 1 - i).toNat) (fun a_ w_ hs_ hw_ => ⟨⟨1, l⟩, (by (try dsimp only); exact ⟨oO, oO, oO, (by unfold sortF; rw [show ((n : Int) - 1).toNat = l.length - 1 from by omega]; rfl)⟩), hs_.mono (Sub.get (.c4 G G G G (.c G .n))), hw_.keep (.c .h .n)⟩) (fun ⟨i, X⟩ ⟨q_0, q_1, q_2, q_3⟩ => ?_)))
 try dsimp only
 refine .seq (.seq (.region (.m G G G (.m G G G (.e G G G G G ?_)))))
 refine .go idQ (.condI G bD (fun h1 => ?_) (fun h1 => ?_))
 ·
  refine .skipgo idQ (.seq (.block (.seq (.region (.m G G G (.a G G G (.go idQ (.block ?_))))))))
  refine .loop (X := Int × (List RT)) (fun ⟨j, Y⟩ => bub ltR Y j.toNat = bub ltR X i.toNat ∧ 0 ≤ j ∧ j ≤ i ∧ (Y.length : Int) = n) (fun ⟨j, Y⟩ => [(0, .slice A n c), (1, .int .i64 0), (2, .int .i64 (n : Int)), (3, .func (.func 57) #[] #[]), (8, .int .i64 i), (9, .int .i64 j)]) (fun ⟨j, Y⟩ => [rw_ eRT 54 (.slice A n c) Y]) (fun _ => S) (fun _ => wf) (fun ⟨j, Y⟩ => j.toNat) (fun a_ w_ hs_ hw_ => ⟨⟨i, X⟩, (by (try dsimp only); exact ⟨G, oO, oO, oO⟩), hs_.mono (Sub.get (.c4 G G G G (.c G (.c G .n)))), hw_.keep (.c .h .n)⟩) (fun ⟨j, Y⟩ ⟨r_0, r_1, r_2, r_3⟩ => ?_)
  try dsimp only
  refine .seq (.seq (.know (row_form 0 G oO) (fun hv4 => ?_)))
  obtain ⟨g2, c3, hv4, hv4_1, hv4_2⟩ := hv4
  injection hv4 with eA _ _; subst eA
  by_cases hc5 : j > 0
  ·
   refine SC.draw mo [] [] .n (fun _ _ _ => sc0) (fun wf_6 hl_6 hx_6 hR_6 => ?_)
   refine SR.m 0 G G G G ?_
   refine SR.m 1 G G G G ?_
   refine SR.z 2 G G (ev_cmp (r := true) G G G (kbDT hc5)) ?_
   refine SR.m 3 G G G G ?_
   refine SR.y 4 G G (fun _ => ev_mv G G) ?_
   refine SR.y 5 G G (fun _ => ev_mv G G) ?_
   refine SR.y 6 G G (fun _ => ev_mv G G) ?_
   refine SR.y 7 G G (fun _ => ev_ix G underlying32 ty54 G G oO oO (fun _ _ => Fr.adr (i := j) (Fr.lent (S := S) hR_6 0 G lO) oO oO)) ?_
   refine SR.y 8 G G (fun _ => ev_lda G G (At.d (Fr.el (i := j) (Fr.lent (S := S) hR_6 0 G lO) oO oO)) ty54) ?_
   refine SR.y 9 G G (fun _ => ev_mv G G) ?_
   refine SR.y 10 G G (fun _ => ev_mv G G) ?_
   refine SR.y 11 G G (fun _ => ev_sub G G G (r := (j - 1)) G oO oO) ?_
   refine SR.y 12 G G (fun _ => ev_ix G underlying32 ty54 G G oO oO (fun _ _ => Fr.adr (i := (j - 1)) (Fr.lent (S := S) hR_6 0 G lO) oO oO)) ?_
   refine SR.y 13 G G (fun _ => ev_lda G G (At.d (Fr.el (i := (j - 1)) (Fr.lent (S := S) hR_6 0 G lO) oO oO)) ty54) ?_
   refine SR.o 14 G (.on G G G (.viafun G G (st_callk G G G G hbd57 G .n (withc_ (gt Y j) (gt Y (j - 1)) _ _) ⟨tt0, ?_⟩)))
   refine SR.y 15 G G (fun _ => ev_cmp G G G G) ?_
   refine SR.z 16 G G (ev_pickt G G G G) ?_
   refine SR.fin kR hl_6 hx_6 hR_6 .n ?_
   refine SQ.go idQ ?_
   refine .condI G bD (fun h7 => ?_) (fun h7 => ?_)
   ·
    refine .skipgo idQ (.seq (.block ?_))
    refine SC.draw mo [rw_ eRT 54 (.slice (some ⟨g2, 0, none⟩) n c) Y] [(15, fun w => At w (ab (some ⟨g2, 0, none⟩)) (ao (some ⟨g2, 0, none⟩) + (j).toNat * eRT.sz) (eRT.enc (gt Y j)))] (.c .h .n) (fun w_ _ hw_ => (sc1 (row_el (E := eRT) (l := Y) (i := j) 0 G oO lO w_ hw_) sc0)) (fun wf_8 hl_8 hx_8 hR_8 => ?_)
    refine SR.m 0 G G G G ?_
    refine SR.m 1 G G G G ?_
    refine SR.m 2 G G G G ?_
    refine SR.m 3 G G G G ?_
    refine SR.z 4 G G (ev_sub G G G (r := (j - 1)) G oO oO) ?_
    refine SR.m 5 G G G G ?_
    refine SR.m 6 G G G G ?_
    refine SR.z 7 G G (ev_sub G G G (r := (j - 1)) G oO oO) ?_
    refine SR.z 8 G G (ev_ix G underlying32 ty54 G G oO oO (fun _ _ => G)) ?_
    refine SR.m 10 G G G G ?_
    refine SR.m 11 G G G G ?_
    refine SR.z 12 G G (ev_ix G underlying32 ty54 G G oO oO (fun _ _ => G)) ?_
    refine SR.z 13 G G (ev_lda G G ((At.ofcs 0 G kR)) ty54) ?_
    refine SR.o 9 G (Ev.step (ev_lda G G (row_el (E := eRT) (l := Y) (i := (j - 1)) 0 G oO oO) ty54) G G G ⟨ttr (i := j) 0 G oO oO, ?_⟩)
    refine SR.z 14 G G (ev_ix G underlying32 ty54 G G oO oO (fun _ _ => G)) ?_
    refine SR.o 15 G (st_setel (E := eRT) (i := j) (cs := [.int .i64 ((gt Y (j - 1)).veh), .slice ((gt Y (j - 1)).rA) ((gt Y (j - 1)).vis.length) ((gt Y (j - 1)).rc)]) (off := 0) (gt Y (j - 1)) G G G ty54 G G G G G .h lO lO (Nat.le_of_ble_eq_true G) G ⟨ttc (fun w_ hw_ => (tc2 kR tc0)), ?_⟩)
    refine SR.z 16 G G (ev_ix G underlying32 ty54 G G oO oO (fun _ _ => G)) ?_
    refine SR.o 17 G (st_setel (E := eRT) (i := (j - 1)) (cs := [.int .i64 ((gt Y j).veh), .slice ((gt Y j).rA) ((gt Y j).vis.length) ((gt Y j).rc)]) (off := 0) (gt Y j) G G G ty54 G G G G G .h lO lO (Nat.le_of_ble_eq_true G) G ⟨ttc (fun w_ hw_ => (tc2 kR tc0)), ?_⟩)
    refine SR.fin kR hl_8 hx_8 hR_8 (.c .n) ?_
    refine SQ.go idQ ?_
    refine .region (.m G G G (.v (ev_sub G G G (r := (j - 1)) G oO oO) G (.a G G G ?_)))
    exact SP.nil (SQ.roundb (X := Int × (List RT)) (x := (j, Y)) ⟨(j - 1), ((Y.set (j).toNat (gt Y (j - 1))).set ((j - 1)).toNat (gt Y j))⟩ (by (try dsimp only); exact ⟨(by have hq := r_0; rw [bub_step oO, if_pos (show ltR _ _ = true from decide_eq_true oO)] at hq; exact hq), oO, oO, (by simp only [List.length_set]; omega)⟩) dO (Sub.get (.c4 G G G G (.c G (.c G .n)))) (kp (.c .h .n)))
   refine .exit idQ ?_
   refine .region (.m G G G (.p ((i + 1)) oO oO G G G G G (.a G G G ?_)))
   exact SP.nil (SQ.roundb (X := Int × (List RT)) (x := (i, X)) ⟨(i + 1), Y⟩ (by (try dsimp only); exact ⟨oO, oO, oO, (by have hq := q_3; rw [srt_step (n := n) oO oO, ← r_0, bub_stop (j := j) oO (fun h_ => by have h1_ := h_.1; have h2_ := of_decide_eq_true h_.2; omega)] at hq; exact hq)⟩) dO (Sub.get (.c4 G G G G (.c G .n))) (kp (.c .h .n)))
  refine SC.draw mo [] [] .n (fun _ _ _ => sc0) (fun wf_9 hl_9 hx_9 hR_9 => ?_)
  refine SR.m 0 G G G G ?_
  refine SR.m 1 G G G G ?_
  refine SR.z 2 G G (ev_cmp (r := false) G G G (kbDF hc5)) ?_
  refine SR.m 3 G G G G ?_
  refine SR.gtake (v := undef) 4 G kR kR kR G (fun _ _ _ _ h => h) G G G G G (fun hb => by cases hb) ?_
  refine SR.gtake (v := undef) 5 G kR kR kR G (fun _ _ _ _ h => h) G G G G G (fun hb => by cases hb) ?_
  refine SR.gtake (v := undef) 6 G kR kR kR G (fun _ _ _ _ h => h) G G G G G (fun hb => by cases hb) ?_
  refine SR.gtake (v := undef) 7 G kR kR kR G (fun _ _ _ _ h => h) G G G G G (fun hb => by cases hb) ?_
  refine SR.gtake (v := undef) 8 G kR kR kR G (fun _ _ _ _ h => h) G G G G G (fun hb => by cases hb) ?_
  refine SR.gtake (v := undef) 9 G kR kR kR G (fun _ _ _ _ h => h) G G G G G (fun hb => by cases hb) ?_
  refine SR.gtake (v := undef) 10 G kR kR kR G (fun _ _ _ _ h => h) G G G G G (fun hb => by cases hb) ?_
  refine SR.gtake (v := undef) 11 G kR kR kR G (fun _ _ _ _ h => h) G G G G G (fun hb => by cases hb) ?_
  refine SR.gtake (v := undef) 12 G kR kR kR G (fun _ _ _ _ h => h) G G G G G (fun hb => by cases hb) ?_
  refine SR.gtake (v := undef) 13 G kR kR kR G (fun _ _ _ _ h => h) G G G G G (fun hb => by cases hb) ?_
  refine SR.gtake (v := undef) 14 G kR kR kR G (fun _ _ _ _ h => h) G G G G G (fun hb => by cases hb) ?_
  refine SR.gtake (v := undef) 15 G kR kR kR G (fun _ _ _ _ h => h) G G G G G (fun hb => by cases hb) ?_
  refine SR.z 16 G G (ev_pickf G G G G) ?_
  refine SR.fin kR hl_9 hx_9 hR_9 .n ?_
  refine SQ.go idQ ?_
  refine .cond_f G ?_
  refine .exit idQ ?_
  refine .region (.m G G G (.p ((i + 1)) oO oO G G G G G (.a G G G ?_)))
  exact SP.nil (SQ.roundb (X := Int × (List RT)) (x := (i, X)) ⟨(i + 1), Y⟩ (by (try dsimp only); exact ⟨oO, oO, oO, (by have hq := q_3; rw [srt_step (n := n) oO oO, ← r_0, bub_stop (j := j) oO (fun h_ => by have h1_ := h_.1; have h2_ := of_decide_eq_true h_.2; omega)] at hq; exact hq)⟩) dO (Sub.get (.c4 G G G G (.c G .n))) (kp (.c .h .n)))
 exact .exitq idQ (end0 results124 (.c .h .n) ⟨G, (by rw [← q_3, srt_end oO])⟩)
theorem stableR (A : Option Addr) (n : Nat) (c : Nat) (l : List RT) (S : Nat → Prop) (wf : World) (hn : l.length = n) (hn2 : n ≤ 19) :
  TR0 prog 87 [.slice A n c, .int .i64 (n : Int), .func (.func 57) #[] #[]] [rw_ eRT 54 (.slice A n c) l] S wf (fun v_ C_ => v_ = .tuple #[] ∧ C_ = [rw_ eRT 54 (.slice A n c) (sortF ltR l)]) := by
 refine TR.mk func87 G ntmps87 G G (fun w_ => ?_)
 refine .seq (.region (.a G G G (.go idQ (.seq (.region (.m G G G ?_))))))
 refine .a G G G (.a G G G (.go idQ (.seq (.block (.loop (X := Int × Int) (fun ⟨i, j⟩ => i = 0 ∧ j = 20) (fun ⟨i, j⟩ => [(0, .slice A n c), (1, .int .i64 (n : Int)), (2, .func (.func 57) #[] #[]), (6, .int .i64 20), (7, .int .i64 i), (8, .int .i64 j)]) (fun ⟨i, j⟩ => [rw_ eRT 54 (.slice A n c) l]) (fun _ => S) (fun _ => wf) (fun ⟨i, j⟩ => 0) (fun a_ w_ hs_ hw_ => ⟨⟨0, 20⟩, (by (try dsimp only); exact ⟨oO, oO⟩), hs_.mono (Sub.get (.c4 G G G G (.c G (.c G .n)))), hw_.keep (.c .h .n)⟩) (fun ⟨i, j⟩ ⟨q_0, q_1⟩ => ?_))))))
 try dsimp only
 refine .seq (.seq (.region (.m G G G (.m G G G (.e G G G G G ?_)))))
 refine .go idQ (.condI G bD (fun h1 => ?_) (fun h1 => ?_))
 ·
  refine .skipgo idQ (.block (.seq ?_))
  exfalso; omega
 refine .exit idQ ?_
 refine .seq ?_
 obtain rfl : i = 0 := by omega
 refine .region (.m G G G (.m G G G (.m G G G ?_)))
 refine .m G G G (.cons (st_call0 G G G G hbd124 G (.c .h .n) (insR A n c l _ _ lO oO) (fun v_q2 C_q2 q2 => ?_)))
 obtain ⟨rfl, rfl⟩ := q2
 show SP _ _ _ _ _ _ ⟨_, _ :: _, _, _⟩
 refine .go idQ (.block (.loop (X := Int) (fun k => k = 20 ∧ True) (fun k => [(0, .slice A n c), (1, .int .i64 (n : Int)), (2, .func (.func 57) #[] #[]), (6, .int .i64 k)]) (fun k => [rw_ eRT 54 (.slice A n c) (sortF ltR l)]) (fun _ => S) (fun _ => wf) (fun k => 0) (fun a_ w_ hs_ hw_ => ⟨20, (by (try dsimp only); exact ⟨oO, trivial⟩), hs_.mono (Sub.get (.c4 G G G G .n)), hw_.keep (.c .h .n)⟩) (fun k ⟨r_0, r_1⟩ => ?_)))
 try dsimp only
 refine .seq (.seq (.region (.m G G G (.m G G G (.e G G G G G ?_)))))
 refine .go idQ (.condI G bD (fun h3 => ?_) (fun h3 => ?_))
 ·
  refine .skipgo idQ (.block (.seq ?_))
  exfalso; omega
 exact .exitq idQ (end0 results87 (.c .h .n) ⟨G, G⟩)
theorem sortR (v : Value) (l : List RT) (S : Nat → Prop) (wf : World) (hn2 : l.length ≤ 19) :
  TR0 prog 56 [v, .func (.func 57) #[] #[]] [rw_ eRT 54 (v) l] S wf (fun v_ C_ => v_ = .tuple #[] ∧ C_ = [rw_ eRT 54 (v) (sortF ltR l)]) := by
 refine TR.mk func56 G ntmps56 G G (fun w_ => ?_)
 refine .region (.m G G G (.m G G G (.know (row_len 0 G) (fun hv3 => ?_))))
 obtain ⟨A1, c2, rfl, hv3_1, hv3_2⟩ := hv3
 unfold maxLen at hv3_2
 refine .g underlying32 G G G (.m G G G (.cons (st_call0 G G G G hbd87 G (.c .h .n) (stableR A1 l.length c2 l _ _ lO lO) (fun v_q4 C_q4 q4 => ?_))))
 obtain ⟨rfl, rfl⟩ := q4
 show SP _ _ _ _ _ _ ⟨_, _ :: _, _, _⟩
 exact SP.nil (end0 results56 (.c .h .n) ⟨G, G⟩)
theorem insT (p : PB) (b : Nat) (A : Option Addr) (n : Nat) (c : Nat) (l : List TK) (S : Nat → Prop) (wf : World) (hPB : PBF S wf p) (hL : LawP p) (hn : l.length = n) (hn2 : n ≤ 19) :
  TR0 prog 118 [.slice A n c, .int .i64 0, .int .i64 (n : Int), .func (.func 47) #[] #[.pointer (some ⟨b, 0, none⟩)]] [rw_ eTK 61 (.slice A n c) l, cel b (cPB p) 29] S wf (fun v_ C_ => v_ = .tuple #[] ∧ C_ = [rw_ eTK 61 (.slice A n c) (sortF (ltT p) l), cel b (cPB p) 29]) := by
 refine TR.mk func118 G ntmps118 G G (fun w_ => ?_)
 refine .seq (.region (.m G G G (.p 1 oO oO G G G G G (.a G G G ?_))))
 refine .go idQ (.block (.loop (X := Int × (List TK)) (fun ⟨i, X⟩ => 1 ≤ i ∧ i ≤ (n : Int) + 1 ∧ (X.length : Int) = n ∧ srt (ltT p) ((n : Int) - i).toNat i.toNat X = sortF (ltT p) l) (fun ⟨i, X⟩ => [(0, .slice A n c), (1, .int .i64 0), (2, .int .i64 (n : Int)), (3, .func (.func 47) #[] #[.pointer (some ⟨b, 0, none⟩)]), (8, .int .i64 i)]) (fun ⟨i, X⟩ => [rw_ eTK 61 (.slice A n c) X, cel b (cPB p) 29]) (fun _ => S) (fun _ => wf) (fun ⟨i, X⟩ => ((n : Int) + 1 - i).toNat) (fun a_ w_ hs_ hw_ => ⟨⟨1, l⟩, (by (try dsimp only); exact ⟨oO, oO, oO, (by unfold sortF; rw [show ((n : Int) - 1).toNat = l.length - 1 from by omega]; rfl)⟩), hs_.mono (Sub.get (.c4 G G G G (.c G .n))), hw_.keep (.d .n)⟩) (fun ⟨i, X⟩ ⟨q_0, q_1, q_2, q_3⟩ => ?_)))
 try dsimp only
 refine .seq (.seq (.region (.m G G G (.m G G G (.e G G G G G ?_)))))
 refine .go idQ (.condI G bD (fun h1 => ?_) (fun h1 => ?_))
 ·
  refine .skipgo idQ (.seq (.block (.seq (.region (.m G G G (.a G G G (.go idQ (.block ?_))))))))
  refine .loop (X := Int × (List TK)) (fun ⟨j, Y⟩ => bub (ltT p) Y j.toNat = bub (ltT p) X i.toNat ∧ 0 ≤ j ∧ j ≤ i ∧ (Y.length : Int) = n) (fun ⟨j, Y⟩ => [(0, .slice A n c), (1, .int .i64 0), (2, .int .i64 (n : Int)), (3, .func (.func 47) #[] #[.pointer (some ⟨b, 0, none⟩)]), (8, .int .i64 i), (9, .int .i64 j)]) (fun ⟨j, Y⟩ => [rw_ eTK 61 (.slice A n c) Y, cel b (cPB p) 29]) (fun _ => S) (fun _ => wf) (fun ⟨j, Y⟩ => j.toNat) (fun a_ w_ hs_ hw_ => ⟨⟨i, X⟩, (by (try dsimp only); exact ⟨G, oO, oO, oO⟩), hs_.mono (Sub.get (.c4 G G G G (.c G (.c G .n)))), hw_.keep (.d .n)⟩) (fun ⟨j, Y⟩ ⟨r_0, r_1, r_2, r_3⟩ => ?_)
  try dsimp only
  refine .seq (.seq (.know (row_form 0 G oO) (fun hv4 => ?_)))
  obtain ⟨g2, c3, hv4, hv4_1, hv4_2⟩ := hv4
  injection hv4 with eA _ _; subst eA
  by_cases hc5 : j > 0
  ·
   refine SC.draw mo [cel b (cPB p) 29] [] (.c (.t .h) .n) (fun _ _ _ => sc0) (fun wf_6 hl_6 hx_6 hR_6 => ?_)
   refine SR.m 0 G G G G ?_
   refine SR.m 1 G G G G ?_
   refine SR.z 2 G G (ev_cmp (r := true) G G G (kbDT hc5)) ?_
   refine SR.m 3 G G G G ?_
   refine SR.y 4 G G (fun _ => ev_mv G G) ?_
   refine SR.y 5 G G (fun _ => ev_mv G G) ?_
   refine SR.y 6 G G (fun _ => ev_mv G G) ?_
   refine SR.y 7 G G (fun _ => ev_ix G underlying58 ty61 G G oO oO (fun _ _ => Fr.adr (i := j) (Fr.lent (S := S) hR_6 0 G lO) oO oO)) ?_
   refine SR.y 8 G G (fun _ => ev_lda G G (At.d (Fr.el (i := j) (Fr.lent (S := S) hR_6 0 G lO) oO oO)) ty61) ?_
   refine SR.y 9 G G (fun _ => ev_mv G G) ?_
   refine SR.y 10 G G (fun _ => ev_mv G G) ?_
   refine SR.y 11 G G (fun _ => ev_sub G G G (r := (j - 1)) G oO oO) ?_
   refine SR.y 12 G G (fun _ => ev_ix G underlying58 ty61 G G oO oO (fun _ _ => Fr.adr (i := (j - 1)) (Fr.lent (S := S) hR_6 0 G lO) oO oO)) ?_
   refine SR.y 13 G G (fun _ => ev_lda G G (At.d (Fr.el (i := (j - 1)) (Fr.lent (S := S) hR_6 0 G lO) oO oO)) ty61) ?_
   refine SR.o 14 G (.on G G G (.viacap (args' := #[.tmp 26, .tmp 31, .const (.pointer (some ⟨b, 0, none⟩))]) G G (by simp) hbd47 (st_callk G G G G hbd47 G (.c .h .n) (tasksc_ p b (gt Y j) (gt Y (j - 1)) _ _ ((hPB).ext hx_6) oO) ⟨tt0, ?_⟩)))
   refine SR.y 15 G G (fun _ => ev_cmp G G G G) ?_
   refine SR.z 16 G G (ev_pickt G G G G) ?_
   refine SR.fin kR hl_6 hx_6 hR_6 (.c .n) ?_
   refine SQ.go idQ ?_
   refine .condI G bD (fun h7 => ?_) (fun h7 => ?_)
   ·
    refine .skipgo idQ (.seq (.block ?_))
    refine SC.draw mo [rw_ eTK 61 (.slice (some ⟨g2, 0, none⟩) n c) Y] [(15, fun w => At w (ab (some ⟨g2, 0, none⟩)) (ao (some ⟨g2, 0, none⟩) + (j).toNat * eTK.sz) (eTK.enc (gt Y j)))] (.c (.t .h) .n) (fun w_ _ hw_ => (sc1 (row_el (E := eTK) (l := Y) (i := j) 0 G oO lO w_ hw_) sc0)) (fun wf_8 hl_8 hx_8 hR_8 => ?_)
    refine SR.m 0 G G G G ?_
    refine SR.m 1 G G G G ?_
    refine SR.m 2 G G G G ?_
    refine SR.m 3 G G G G ?_
    refine SR.z 4 G G (ev_sub G G G (r := (j - 1)) G oO oO) ?_
    refine SR.m 5 G G G G ?_
    refine SR.m 6 G G G G ?_
    refine SR.z 7 G G (ev_sub G G G (r := (j - 1)) G oO oO) ?_
    refine SR.z 8 G G (ev_ix G underlying58 ty61 G G oO oO (fun _ _ => G)) ?_
    refine SR.m 10 G G G G ?_
    refine SR.m 11 G G G G ?_
    refine SR.z 12 G G (ev_ix G underlying58 ty61 G G oO oO (fun _ _ => G)) ?_
    refine SR.z 13 G G (ev_lda G G ((At.ofcs 0 G kR)) ty61) ?_
    refine SR.o 9 G (Ev.step (ev_lda G G (row_el (E := eTK) (l := Y) (i := (j - 1)) 0 G oO oO) ty61) G G G ⟨ttr (i := j) 0 G oO oO, ?_⟩)
    refine SR.z 14 G G (ev_ix G underlying58 ty61 G G oO oO (fun _ _ => G)) ?_
    refine SR.o 15 G (st_setel (E := eTK) (i := j) (cs := [.bool ((gt Y (j - 1)).ship), .int .i64 ((gt Y (j - 1)).item)]) (off := 0) (gt Y (j - 1)) G G G ty61 G G G G G .h lO lO (Nat.le_of_ble_eq_true G) G ⟨ttc (fun w_ hw_ => (tc2 kR tc0)), ?_⟩)
    refine SR.z 16 G G (ev_ix G underlying58 ty61 G G oO oO (fun _ _ => G)) ?_
    refine SR.o 17 G (st_setel (E := eTK) (i := (j - 1)) (cs := [.bool ((gt Y j).ship), .int .i64 ((gt Y j).item)]) (off := 0) (gt Y j) G G G ty61 G G G G G .h lO lO (Nat.le_of_ble_eq_true G) G ⟨ttc (fun w_ hw_ => (tc2 kR tc0)), ?_⟩)
    refine SR.fin kR hl_8 hx_8 hR_8 (.c .n) ?_
    refine SQ.go idQ ?_
    refine .region (.m G G G (.v (ev_sub G G G (r := (j - 1)) G oO oO) G (.a G G G ?_)))
    exact SP.nil (SQ.roundb (X := Int × (List TK)) (x := (j, Y)) ⟨(j - 1), ((Y.set (j).toNat (gt Y (j - 1))).set ((j - 1)).toNat (gt Y j))⟩ (by (try dsimp only); exact ⟨(by have hq := r_0; rw [bub_step oO, if_pos (show (ltT p) _ _ = true from decide_eq_true oO)] at hq; exact hq), oO, oO, (by simp only [List.length_set]; omega)⟩) dO (Sub.get (.c4 G G G G (.c G (.c G .n)))) (kp (.d .n)))
   refine .exit idQ ?_
   refine .region (.m G G G (.p ((i + 1)) oO oO G G G G G (.a G G G ?_)))
   exact SP.nil (SQ.roundb (X := Int × (List TK)) (x := (i, X)) ⟨(i + 1), Y⟩ (by (try dsimp only); exact ⟨oO, oO, oO, (by have hq := q_3; rw [srt_step (n := n) oO oO, ← r_0, bub_stop (j := j) oO (fun h_ => by have h1_ := h_.1; have h2_ := of_decide_eq_true h_.2; omega)] at hq; exact hq)⟩) dO (Sub.get (.c4 G G G G (.c G .n))) (kp (.c (.t .h) (.c .h .n))))
  refine SC.draw mo [] [] .n (fun _ _ _ => sc0) (fun wf_9 hl_9 hx_9 hR_9 => ?_)
  refine SR.m 0 G G G G ?_
  refine SR.m 1 G G G G ?_
  refine SR.z 2 G G (ev_cmp (r := false) G G G (kbDF hc5)) ?_
  refine SR.m 3 G G G G ?_
  refine SR.gtake (v := undef) 4 G kR kR kR G (fun _ _ _ _ h => h) G G G G G (fun hb => by cases hb) ?_
  refine SR.gtake (v := undef) 5 G kR kR kR G (fun _ _ _ _ h => h) G G G G G (fun hb => by cases hb) ?_
  refine SR.gtake (v := undef) 6 G kR kR kR G (fun _ _ _ _ h => h) G G G G G (fun hb => by cases hb) ?_
  refine SR.gtake (v := undef) 7 G kR kR kR G (fun _ _ _ _ h => h) G G G G G (fun hb => by cases hb) ?_
  refine SR.gtake (v := undef) 8 G kR kR kR G (fun _ _ _ _ h => h) G G G G G (fun hb => by cases hb) ?_
  refine SR.gtake (v := undef) 9 G kR kR kR G (fun _ _ _ _ h => h) G G G G G (fun hb => by cases hb) ?_
  refine SR.gtake (v := undef) 10 G kR kR kR G (fun _ _ _ _ h => h) G G G G G (fun hb => by cases hb) ?_
  refine SR.gtake (v := undef) 11 G kR kR kR G (fun _ _ _ _ h => h) G G G G G (fun hb => by cases hb) ?_
  refine SR.gtake (v := undef) 12 G kR kR kR G (fun _ _ _ _ h => h) G G G G G (fun hb => by cases hb) ?_
  refine SR.gtake (v := undef) 13 G kR kR kR G (fun _ _ _ _ h => h) G G G G G (fun hb => by cases hb) ?_
  refine SR.gtake (v := undef) 14 G kR kR kR G (fun _ _ _ _ h => h) G G G G G (fun hb => by cases hb) ?_
  refine SR.gtake (v := undef) 15 G kR kR kR G (fun _ _ _ _ h => h) G G G G G (fun hb => by cases hb) ?_
  refine SR.z 16 G G (ev_pickf G G G G) ?_
  refine SR.fin kR hl_9 hx_9 hR_9 .n ?_
  refine SQ.go idQ ?_
  refine .cond_f G ?_
  refine .exit idQ ?_
  refine .region (.m G G G (.p ((i + 1)) oO oO G G G G G (.a G G G ?_)))
  exact SP.nil (SQ.roundb (X := Int × (List TK)) (x := (i, X)) ⟨(i + 1), Y⟩ (by (try dsimp only); exact ⟨oO, oO, oO, (by have hq := q_3; rw [srt_step (n := n) oO oO, ← r_0, bub_stop (j := j) oO (fun h_ => by have h1_ := h_.1; have h2_ := of_decide_eq_true h_.2; omega)] at hq; exact hq)⟩) dO (Sub.get (.c4 G G G G (.c G .n))) (kp (.d .n)))
 exact .exitq idQ (end0 results118 (.d .n) ⟨G, (by rw [← q_3, srt_end oO])⟩)
theorem stableT (p : PB) (b : Nat) (A : Option Addr) (n : Nat) (c : Nat) (l : List TK) (S : Nat → Prop) (wf : World) (hPB : PBF S wf p) (hL : LawP p) (hn : l.length = n) (hn2 : n ≤ 19) :
  TR0 prog 78 [.slice A n c, .int .i64 (n : Int), .func (.func 47) #[] #[.pointer (some ⟨b, 0, none⟩)]] [rw_ eTK 61 (.slice A n c) l, cel b (cPB p) 29] S wf (fun v_ C_ => v_ = .tuple #[] ∧ C_ = [rw_ eTK 61 (.slice A n c) (sortF (ltT p) l), cel b (cPB p) 29]) := by
 refine TR.mk func78 G ntmps78 G G (fun w_ => ?_)
 refine .seq (.region (.a G G G (.go idQ (.seq (.region (.m G G G ?_))))))
 refine .a G G G (.a G G G (.go idQ (.seq (.block (.loop (X := Int × Int) (fun ⟨i, j⟩ => i = 0 ∧ j = 20) (fun ⟨i, j⟩ => [(0, .slice A n c), (1, .int .i64 (n : Int)), (2, .func (.func 47) #[] #[.pointer (some ⟨b, 0, none⟩)]), (6, .int .i64 20), (7, .int .i64 i), (8, .int .i64 j)]) (fun ⟨i, j⟩ => [rw_ eTK 61 (.slice A n c) l, cel b (cPB p) 29]) (fun _ => S) (fun _ => wf) (fun ⟨i, j⟩ => 0) (fun a_ w_ hs_ hw_ => ⟨⟨0, 20⟩, (by (try dsimp only); exact ⟨oO, oO⟩), hs_.mono (Sub.get (.c4 G G G G (.c G (.c G .n)))), hw_.keep (.d .n)⟩) (fun ⟨i, j⟩ ⟨q_0, q_1⟩ => ?_))))))
 try dsimp only
 refine .seq (.seq (.region (.m G G G (.m G G G (.e G G G G G ?_)))))
 refine .go idQ (.condI G bD (fun h1 => ?_) (fun h1 => ?_))
 ·
  refine .skipgo idQ (.block (.seq ?_))
  exfalso; omega
 refine .exit idQ ?_
 refine .seq ?_
 obtain rfl : i = 0 := by omega
 refine .region (.m G G G (.m G G G (.m G G G ?_)))
 refine .m G G G (.cons (st_call0 G G G G hbd118 G (.d .n) (insT p b A n c l _ _ hPB oO lO oO) (fun v_q2 C_q2 q2 => ?_)))
 obtain ⟨rfl, rfl⟩ := q2
 show SP _ _ _ _ _ _ ⟨_, _ :: _ :: _, _, _⟩
 refine .go idQ (.block (.loop (X := Int) (fun k => k = 20 ∧ True) (fun k => [(0, .slice A n c), (1, .int .i64 (n : Int)), (2, .func (.func 47) #[] #[.pointer (some ⟨b, 0, none⟩)]), (6, .int .i64 k)]) (fun k => [rw_ eTK 61 (.slice A n c) (sortF (ltT p) l), cel b (cPB p) 29]) (fun _ => S) (fun _ => wf) (fun k => 0) (fun a_ w_ hs_ hw_ => ⟨20, (by (try dsimp only); exact ⟨oO, trivial⟩), hs_.mono (Sub.get (.c4 G G G G .n)), hw_.keep (.d .n)⟩) (fun k ⟨r_0, r_1⟩ => ?_)))
 try dsimp only
 refine .seq (.seq (.region (.m G G G (.m G G G (.e G G G G G ?_)))))
 refine .go idQ (.condI G bD (fun h3 => ?_) (fun h3 => ?_))
 ·
  refine .skipgo idQ (.block (.seq ?_))
  exfalso; omega
 exact .exitq idQ (end0 results78 (.d .n) ⟨G, G⟩)
theorem sortT (p : PB) (b : Nat) (v : Value) (l : List TK) (S : Nat → Prop) (wf : World) (hPB : PBF S wf p) (hL : LawP p) (hn2 : l.length ≤ 19) :
  TR0 prog 46 [v, .func (.func 47) #[] #[.pointer (some ⟨b, 0, none⟩)]] [rw_ eTK 61 (v) l, cel b (cPB p) 29] S wf (fun v_ C_ => v_ = .tuple #[] ∧ C_ = [rw_ eTK 61 (v) (sortF (ltT p) l), cel b (cPB p) 29]) := by
 refine TR.mk func46 G ntmps46 G G (fun w_ => ?_)
 refine .region (.m G G G (.m G G G (.know (row_len 0 G) (fun hv3 => ?_))))
 obtain ⟨A1, c2, rfl, hv3_1, hv3_2⟩ := hv3
 unfold maxLen at hv3_2
 refine .g underlying58 G G G (.m G G G (.cons (st_call0 G G G G hbd78 G (.d .n) (stableT p b A1 l.length c2 l _ _ hPB oO lO lO) (fun v_q4 C_q4 q4 => ?_))))
 obtain ⟨rfl, rfl⟩ := q4
 show SP _ _ _ _ _ _ ⟨_, _ :: _ :: _, _, _⟩
 exact SP.nil (end0 results46 (.d .n) ⟨G, G⟩)
end Go.Proofs.YtimhdimhdimbjaaGreat.Sx
