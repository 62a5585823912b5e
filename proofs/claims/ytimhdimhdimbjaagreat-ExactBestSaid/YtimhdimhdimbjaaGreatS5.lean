import Derived.Test.YtimhdimhdimbjaaGreatProg
import Derived.Test.YtimhdimhdimbjaaGreatS4
set_option linter.unusedVariables false
set_option linter.unusedSimpArgs false
set_option linter.unusedSectionVars false
set_option maxRecDepth 20000
set_option maxHeartbeats 1000000
namespace Go.Proofs.YtimhdimhdimbjaaGreat.Sx.FH
open Go Go.SX Go.Proofs Go.Proofs.Tryz FA FB FC FD FE FF FG
theorem fo34_0 : fo prog 34 0 = some 0 := by kernel_rfl
theorem ty32 : ty prog 32 = some (false, 1) := by kernel_rfl
theorem zf54 : (prog.info? 54).bind (fun i => i.zero.map Value.cells) = some (List.toArray [.int .i64 0, .slice none 0 0]) := by kernel_rfl
theorem fo54_1 : fo prog 54 1 = some 1 := by kernel_rfl
theorem ty52 : ty prog 52 = some (false, 1) := by kernel_rfl
theorem hbd55 : hasBody prog 55 = true := by kernel_rfl
theorem zf34 : (prog.info? 34).bind (fun i => i.zero.map Value.cells) = some (List.toArray [.slice none 0 0]) := by kernel_rfl
theorem ai54 : (prog.info? 54).map (fun i => (i.zero, i.size, i.bytes)) = some (some (.agg #[.int .i64 0, .slice none 0 0]), 2, 32) := by kernel_rfl
theorem hbd56 : hasBody prog 56 = true := by kernel_rfl
theorem ty34 : ty prog 34 = some (true, 1) := by kernel_rfl
theorem ai61 : (prog.info? 61).map (fun i => (i.zero, i.size, i.bytes)) = some (some (.agg #[.bool false, .int .i64 0]), 2, 16) := by kernel_rfl
theorem hbd46 : hasBody prog 46 = true := by kernel_rfl
end Go.Proofs.YtimhdimhdimbjaaGreat.Sx.FH
namespace Go.Proofs.YtimhdimhdimbjaaGreat.Sx
open Go Go.SX Go.Proofs Go.Proofs.Tryz FA FB FC FD FE FF FG FH
theorem swith_ (A : Option Addr) (c : Nat) (l : List RT) (v : Int) (B : Option Addr) (d : Nat) (m : List Vis) (S : Nat → Prop) (wf : World) (hA : Fr eRT S wf A l) (hB : Fr eVis S wf B m) (hRT : RTF S wf l) (hls : l.length ≤ 15) (hvs : ∀ i : Int, (gt l i).vis.length ≤ 50) (hm : m.length ≤ 1000) :
  TR0 prog 22 [.agg #[.slice A l.length c], .int .i64 v, .slice B m.length d] [] S wf (fun v_ C_ => ∃ (u : Value) (R : List RT), (R.map rc = withF (l.map rc) v m) ∧ v_ = .agg #[u] ∧ C_ = [rw_ eRT 54 (u) R, nestR 92 R]) := by
 have hla := hA.len
 refine TR.mk func22 G ntmps22 G G (fun w_ => ?_)
 refine .seq (.region (.cons (st_boxa G G G G G (fun b1 => (.cons (st_alloc G G G G zf34 (fun b2 => (.go idQ (.seq (.region ?_))))))))))
 refine .cons (st_alloc G G G G zf34 (fun b3 => ?_))
 refine .go idQ (.seq (.seq (.region (.f fo34_0 0 G G G G (.l ty32 2 G G G G G (.g underlying32 G G G ?_))))))
 refine .m G G G (.go idQ (.block ?_))
 refine SC.nilrow eRT 54 ?_
 refine SC.nestR0 92 ?_
 refine .loop (X := Int × (List RT) × Value) (fun ⟨i, X, u_X⟩ => 0 ≤ i ∧ i ≤ (l.length : Int) ∧ X.map rc ++ otherR v ((l.map rc).drop i.toNat) = otherR v (l.map rc) ∧ (X.length : Int) ≤ i) (fun ⟨i, X, u_X⟩ => [(1, .int .i64 v), (2, .slice B m.length d), (6, .pointer (some ⟨b2, 0, none⟩)), (7, .pointer (some ⟨b3, 0, none⟩)), (11, .slice A l.length c), (12, .int .i64 (l.length : Int)), (13, .int .i64 i)]) (fun ⟨i, X, u_X⟩ => [nestR 92 X, rw_ eRT 54 (u_X) X, cel b3 [u_X] 34, cel b2 [.slice none 0 0] 34, cel b1 [.slice A l.length c] 34]) (fun _ => S) (fun _ => wf) (fun ⟨i, X, u_X⟩ => ((l.length : Int) - i).toNat) (fun a_ w_ hs_ hw_ => ⟨⟨0, ([] : List RT), .slice none 0 0⟩, (by (try dsimp only); exact ⟨oO, oO, G, (by simp)⟩), hs_.mono (Sub.get (.c4 G G G G (.c G (.c G (.c G .n))))), hw_.keep (.d (.d (.c .h .n)))⟩) (fun ⟨i, X, u_X⟩ ⟨q_0, q_1, q_2, q_3⟩ => ?_)
 try dsimp only
 refine .seq (.region (.e G G G G G (.go idQ (.seq (.condI G bD (fun h4 => ?_) (fun h4 => ?_))))))
 ·
  refine .skipgo idQ (.seq (.block (.seq (.region (.v (ev_ix G underlying32 ty54 G G oO oO (fun _ _ => Fr.adr (i := i) hA oO oO)) G (.v (ev_lda G G (At.w (Fr.el (i := i) hA oO oO)) ty54) G (.cons (st_alloc G G G G zf54 (fun b5 => ?_)))))))))
  refine .cons (st_storea (l' := [.int .i64 ((gt l i).veh), .slice ((gt l i).rA) ((gt l i).vis.length) ((gt l i).rc)]) G G G ty54 G G G .h G G ?_)
  refine .go idQ (.seq (.region (.f fo54_0 0 G G G G (.l ty3 0 G G G G G (.m G G G ?_)))))
  refine .e G G G G G (.go idQ (.condI G bNE (fun h6 => ?_) (fun h6 => ?_)))
  ·
   refine SC.draw mo [rw_ eRT 54 (u_X) X, cel b3 [u_X] 34] [(11, fun w => At w b3 0 [u_X])] (.c (.t2 .h) (.c (.t2 .h) .n)) (fun w_ _ hw_ => (sc1 (At.whole 1 G w_ hw_) sc0)) (fun wf_7 hl_7 hx_7 hR_7 => ?_)
   refine SR.z 0 G G (ev_fa G fo34_0 G (r := 0) G) ?_
   refine SR.z 1 G G (ev_ld1 G ty32 G (At.elem1 (v := u_X) (At.ofcs 0 G kR) 0 G)) ?_
   refine SR.z 2 G G (ev_fa G fo54_0 G (r := 0) G) ?_
   refine SR.z 3 G G (ev_ld1 G ty3 G (At.d (At.lent hR_7 0 G G))) ?_
   refine SR.z 4 G G (ev_fa G fo54_1 G (r := 1) G) ?_
   refine SR.z 5 G G (ev_ld1 G ty52 G (At.d (At.lent hR_7 0 G G))) ?_
   refine SR.o 6 rfl (st_call0 rfl rfl rfl rfl hbd55 rfl .n (clone ((gt l i).rA) ((gt l i).vis.length) ((gt l i).rc) ((gt l i).vis) _ _ (((hRT).ext hx_7) i) rfl (by first | (have := hvs i; omega) | omega)) (fun v_q9 C_q9 q9 => ⟨ttc (fun w_ hw_ => (tc1 (by obtain ⟨_, rfl, rfl⟩ := q9; exact At.whole 2 rfl w_ hw_) tc0)), ?_⟩))
   obtain ⟨v8, rfl, rfl⟩ := q9
   show SR _ _ _ _ _ _ _ _ _ ⟨_, _ :: _, _, _⟩
   refine .know (row_len 0 G) (fun hv12 => ?_)
   obtain ⟨A10, c11, rfl, hv12_1, hv12_2⟩ := hv12
   unfold maxLen at hv12_2
   refine SR.z 7 G G (ev_any (v := .agg #[.int .i64 ((gt l i).veh), .slice A10 (((gt l i).vis).length) c11]) G kR (fun _ => by kernel_rfl)) ?_
   refine SR.o 8 G (st_lit eRT (e := 54) (l := [(RT.mk ((gt l i).veh) ((gt l i).vis) A10 c11)]) G G G G kR G G kW (fun b13 => ⟨ttw 3 G, ?_⟩))
   refine SR.o 9 G (st_app (E := eRT) (m := [(RT.mk ((gt l i).veh) ((gt l i).vis) A10 c11)]) G G G G underlying32 ai54 G G G (.t2 .h) rO (row_src 0 G) lO G (fun v14 => ⟨ttw 3 G, ?_⟩))
   refine SR.z 10 G G (ev_fa G fo34_0 G (r := 0) G) ?_
   refine .know (row_len 0 G) (fun hv17 => ?_)
   obtain ⟨A15, c16, rfl, hv17_1, hv17_2⟩ := hv17
   unfold maxLen at hv17_2
   refine SR.o 11 G (st_store1 G G G ty32 G G G (.t2 (.t .h)) .h ⟨ttc (fun w_ hw_ => (tc2 kR tc0)), ?_⟩)
   refine SR.fin kR hl_7 hx_7 hR_7 (.c (.c (.c (.c .n)))) ?_
   refine SQ.go idQ ?_
   refine SC.packR (RT.mk ((gt l i).veh) ((gt l i).vis) A10 c11) (.c (.t4 (.t .h)) (.c (.t2 (.t .h)) .n)) (by dsimp only; first | (have := hvs i; omega) | omega) ?_
   refine .region (.p ((i + 1)) oO oO G G G G G (.m G G G ?_))
   exact SP.nil (SQ.roundb (X := Int × (List RT) × Value) (x := (i, X, u_X)) ⟨(i + 1), (X ++ [(RT.mk ((gt l i).veh) ((gt l i).vis) A10 c11)]), .slice A15 ((X ++ [(RT.mk ((gt l i).veh) ((gt l i).vis) A10 c11)]).length) c16⟩ (by (try dsimp only); exact ⟨oO, oO, (by have hq := q_2; rw [drop_rc (i := i) oO oO, otherR_cons] at hq; (repeat' split at hq) <;> first | (rw [List.map_append, List.append_assoc]; exact hq) | contradiction | (exfalso; omega)), (by (try simp only [List.length_append, List.length_singleton]); omega)⟩) dO (Sub.get (.c4 G G G G (.c G (.c G (.c G .n))))) (kp (.c .h (.c (.t .h) (.c .h (.c (.t2 .h) (.c (.t2 .h) .n)))))))
  refine .skipgo idQ (.region (.p ((i + 1)) oO oO G G G G G (.m G G G ?_)))
  exact SP.nil (SQ.roundb (X := Int × (List RT) × Value) (x := (i, X, u_X)) ⟨(i + 1), X, u_X⟩ (by (try dsimp only); exact ⟨oO, oO, (by have hq := q_2; rw [drop_rc (i := i) oO oO, otherR_cons] at hq; (repeat' split at hq) <;> first | exact hq | contradiction | (exfalso; omega)), (by (try simp only [List.length_append, List.length_singleton]); omega)⟩) dO (Sub.get (.c4 G G G G (.c G (.c G (.c G .n))))) (kp (.c (.t .h) (.c (.t .h) (.c (.t .h) (.c (.t .h) (.c (.t .h) .n)))))))
 refine .exit idQ ?_
 refine .seq (.seq (.region (.m G G G (.g underlying52 G G G (.e G G G G G ?_)))))
 refine .go idQ (.condI G bD (fun h18 => ?_) (fun h18 => ?_))
 ·
  refine SC.draw mo [rw_ eRT 54 (u_X) X, cel b3 [u_X] 34] [(9, fun w => At w b3 0 [u_X])] (.c (.t .h) (.c (.t .h) .n)) (fun w_ _ hw_ => (sc1 (At.whole 1 G w_ hw_) sc0)) (fun wf_19 hl_19 hx_19 hR_19 => ?_)
  refine SR.z 0 G G (ev_fa G fo34_0 G (r := 0) G) ?_
  refine SR.z 1 G G (ev_ld1 G ty32 G (At.elem1 (v := u_X) (At.ofcs 0 G kR) 0 G)) ?_
  refine SR.m 2 G G G G ?_
  refine SR.m 3 G G G G ?_
  refine SR.o 4 rfl (st_call0 rfl rfl rfl rfl hbd55 rfl .n (clone B m.length d m _ _ (Fr.ext hB hx_19) rfl (by first | (have := hvs i; omega) | omega)) (fun v_q21 C_q21 q21 => ⟨ttc (fun w_ hw_ => (tc1 (by obtain ⟨_, rfl, rfl⟩ := q21; exact At.whole 2 rfl w_ hw_) tc0)), ?_⟩))
  obtain ⟨v20, rfl, rfl⟩ := q21
  show SR _ _ _ _ _ _ _ _ _ ⟨_, _ :: _, _, _⟩
  refine .know (row_len 0 G) (fun hv24 => ?_)
  obtain ⟨A22, c23, rfl, hv24_1, hv24_2⟩ := hv24
  unfold maxLen at hv24_2
  refine SR.z 5 G G (ev_any (v := .agg #[.int .i64 v, .slice A22 m.length c23]) G kR (fun _ => by kernel_rfl)) ?_
  refine SR.o 6 G (st_lit eRT (e := 54) (l := [(RT.mk v m A22 c23)]) G G G G kR G G kW (fun b25 => ⟨ttw 3 G, ?_⟩))
  refine SR.o 7 G (st_app (E := eRT) (m := [(RT.mk v m A22 c23)]) G G G G underlying32 ai54 G G G (.t2 .h) rO (row_src 0 G) lO G (fun v26 => ⟨ttw 3 G, ?_⟩))
  refine SR.z 8 G G (ev_fa G fo34_0 G (r := 0) G) ?_
  refine .know (row_len 0 G) (fun hv29 => ?_)
  obtain ⟨A27, c28, rfl, hv29_1, hv29_2⟩ := hv29
  unfold maxLen at hv29_2
  refine SR.o 9 G (st_store1 G G G ty32 G G G (.t2 (.t .h)) .h ⟨ttc (fun w_ hw_ => (tc2 kR tc0)), ?_⟩)
  refine SR.fin kR hl_19 hx_19 hR_19 (.c (.c (.c (.c .n)))) ?_
  refine SQ.go idQ ?_
  refine .seq ?_
  refine SC.packR (RT.mk v m A22 c23) (.c (.t4 .h) (.c (.t2 (.t .h)) .n)) (by dsimp only; first | (have := hvs i; omega) | omega) ?_
  have hZ : ((X ++ [(RT.mk v m A22 c23)])).map rc = otherR v (l.map rc) ++ (if m.length > 0 then [(v, m)] else []) := by
   have hq := q_2; rw [drop_end (by simp only [List.length_map]; omega)] at hq; have hq : X.map rc ++ [] = _ := hq; rw [List.append_nil] at hq
   rw [if_pos oO, List.map_append, hq]; rfl
  refine .region (.f fo34_0 0 G G G G (.l ty32 1 G G G G G (.cons (st_call0 G G G G hbd56 G (.c (.t2 .h) .n) (sortR (.slice A27 ((X ++ [(RT.mk v m A22 c23)]).length) c28) (X ++ [(RT.mk v m A22 c23)]) _ _ lO) (fun v_q30 C_q30 q30 => ?_)))))
  obtain ⟨rfl, rfl⟩ := q30
  show SP _ _ _ _ _ _ ⟨_, _ :: _, _, _⟩
  refine .go idQ (.seq ?_)
  refine SC.permR (l' := (sortF ltR (X ++ [(RT.mk v m A22 c23)]))) (.c (.t .h) .n) sort_perm ?_
  refine .region (.d 2 ty34 G G G G (.cons (st_storea (l' := [.slice A27 ((X ++ [(RT.mk v m A22 c23)]).length) c28]) G G G ty34 G G G (.t4 .h) G G (.go idQ ?_))))
  exact .ret idQ (retv1 results22 (.c 0 G G ty34) (.c (.t2 .h) (.c (.t .h) .n)) ⟨.slice A27 ((X ++ [(RT.mk v m A22 c23)]).length) c28, (sortF ltR (X ++ [(RT.mk v m A22 c23)])), (by rw [sort_rc, hZ]; rfl), G, G⟩)
 refine .skipgo idQ (.seq ?_)
 have hZ : (X).map rc = otherR v (l.map rc) ++ (if m.length > 0 then [(v, m)] else []) := by
  have hq := q_2; rw [drop_end (by simp only [List.length_map]; omega)] at hq; have hq : X.map rc ++ [] = _ := hq; rw [List.append_nil] at hq
  rw [if_neg oO, List.append_nil, hq]
 refine .region (.f fo34_0 0 G G G G (.l ty32 2 G G G G G (.cons (st_call0 G G G G hbd56 G (.c (.t .h) .n) (sortR u_X X _ _ lO) (fun v_q31 C_q31 q31 => ?_)))))
 obtain ⟨rfl, rfl⟩ := q31
 show SP _ _ _ _ _ _ ⟨_, _ :: _, _, _⟩
 refine .go idQ (.seq ?_)
 refine SC.permR (l' := (sortF ltR X)) (.c (.t .h) .n) sort_perm ?_
 refine .region (.d 2 ty34 G G G G (.know (row_len 1 G) (fun hv34 => ?_)))
 obtain ⟨A32, c33, rfl, hv34_1, hv34_2⟩ := hv34
 unfold maxLen at hv34_2
 refine .cons (st_storea (l' := [.slice A32 ((sortF ltR X).length) c33]) G G G ty34 G G G (.t2 (.t .h)) G G ?_)
 refine .go idQ (.ret idQ (retv1 results22 (.c 0 G G ty34) (.c (.t2 .h) (.c (.t .h) .n)) ⟨.slice A32 ((sortF ltR X).length) c33, (sortF ltR X), (by rw [sort_rc, hZ]; rfl), G, G⟩))
theorem mtasks_ (p : PB) (S : Nat → Prop) (wf : World) (hPB : PBF S wf p) (hL : LawP p) :
  TR0 prog 20 [.agg (cPB p).toArray] [] S wf (fun v_ C_ => ∃ (u : Value), v_ = u ∧ C_ = [rw_ eTK 61 (u) (taskL p)]) := by
 have hlj := hPB.2.2.2.1.1.len
 have hls := hPB.2.2.2.2.1.len
 have hnj := hL.nj
 refine TR.mk func20 G ntmps20 G G (fun w_ => ?_)
 refine .seq (.region (.cons (st_boxa G G G G G (fun b1 => (.a G G G (.go idQ (.seq (.region ?_))))))))
 refine .a G G G (.go idQ (.seq (.seq (.region (.f fo29_4 6 G G G G (.l ty26 0 G G G G G ?_))))))
 refine .g underlying26 G G G (.m G G G (.go idQ (.block ?_)))
 refine SC.nilrow eTK 61 ?_
 refine .loop (X := Int × (List TK) × Value) (fun ⟨i, X, u_X⟩ => 0 ≤ i ∧ i ≤ (p.jobs.length : Int) ∧ X = (List.range i.toNat).map (fun i_ : Nat => (⟨false, (i_ : Int)⟩ : TK)) ∧ (X.length : Int) = i) (fun ⟨i, X, u_X⟩ => [(1, .pointer (some ⟨b1, 0, none⟩)), (2, .slice none 0 0), (8, .int .i64 (p.jobs.length : Int)), (9, .int .i64 i), (3, u_X)]) (fun ⟨i, X, u_X⟩ => [rw_ eTK 61 (u_X) X, cel b1 (cPB p) 29]) (fun _ => S) (fun _ => wf) (fun ⟨i, X, u_X⟩ => ((p.jobs.length : Int) - i).toNat) (fun a_ w_ hs_ hw_ => ⟨⟨0, ([] : List TK), .slice none 0 0⟩, (by (try dsimp only); exact ⟨oO, oO, G, G⟩), hs_.mono (Sub.get (.c4 G G G G (.c G .n))), hw_.keep (.d .n)⟩) (fun ⟨i, X, u_X⟩ ⟨q_0, q_1, q_2, q_3⟩ => ?_)
 try dsimp only
 refine .seq (.region (.e G G G G G (.go idQ (.seq (.condI G bD (fun h2 => ?_) (fun h2 => ?_))))))
 ·
  refine .skipgo idQ (.seq (.block (.seq (.region (.m G G G (.a G G G (.go idQ (.region ?_))))))))
  refine .m G G G (.m G G G (.v (ev_any (v := .agg #[.bool false, .int .i64 i]) G kR (fun _ => by kernel_rfl)) G (.cons (st_lit eTK (e := 61) (l := [(TK.mk false i)]) G G G G kR G G kW (fun b3 => ?_)))))
  refine .cons (st_app (E := eTK) (m := [(TK.mk false i)]) G G G G underlying58 ai61 G G G (.t .h) rO (row_src 0 G) lO G (fun v4 => ?_))
  refine .a G G G (.go idQ (.region (.p ((i + 1)) oO oO G G G G G (.m G G G ?_))))
  exact SP.nil (SQ.roundb (X := Int × (List TK) × Value) (x := (i, X, u_X)) ⟨(i + 1), (X ++ [(TK.mk false i)]), v4⟩ (by (try dsimp only); exact ⟨oO, oO, (by have hn := range_next oO q_2; rw [← hn]; rw [show ((i.toNat : Nat) : Int) = i from by omega]), (by simp only [List.length_append, List.length_singleton]; omega)⟩) dO (Sub.get (.c4 G G G G (.c G .n))) (kp (.c .h (.c (.t .h) .n))))
 refine .exit idQ ?_
 refine .seq (.seq (.region (.f fo29_5 7 G G G G (.l ty27 1 G G G G G (.g underlying27 G G G ?_)))))
 refine .m G G G (.go idQ (.block (.loop (X := Int × (List TK) × Value) (fun ⟨j, Y, u_Y⟩ => 0 ≤ j ∧ j ≤ (p.ships.length : Int) ∧ Y = X ++ (List.range j.toNat).map (fun i_ : Nat => (⟨true, (i_ : Int)⟩ : TK)) ∧ (Y.length : Int) = X.length + j) (fun ⟨j, Y, u_Y⟩ => [(1, .pointer (some ⟨b1, 0, none⟩)), (2, .slice none 0 0), (8, .int .i64 (p.jobs.length : Int)), (9, .int .i64 i), (20, .int .i64 (p.ships.length : Int)), (21, .int .i64 j), (3, u_Y)]) (fun ⟨j, Y, u_Y⟩ => [rw_ eTK 61 (u_Y) Y, cel b1 (cPB p) 29]) (fun _ => S) (fun _ => wf) (fun ⟨j, Y, u_Y⟩ => ((p.ships.length : Int) - j).toNat) (fun a_ w_ hs_ hw_ => ⟨⟨0, X, u_X⟩, (by (try dsimp only); exact ⟨oO, oO, (by simp), oO⟩), hs_.mono (Sub.get (.c4 G G G G (.c G (.c G (.c G .n))))), hw_.keep (.d .n)⟩) (fun ⟨j, Y, u_Y⟩ ⟨r_0, r_1, r_2, r_3⟩ => ?_))))
 try dsimp only
 refine .seq (.region (.e G G G G G (.go idQ (.seq (.condI G bD (fun h5 => ?_) (fun h5 => ?_))))))
 ·
  refine .skipgo idQ (.seq (.block (.seq (.region (.m G G G (.a G G G (.go idQ (.region ?_))))))))
  refine .m G G G (.m G G G (.v (ev_any (v := .agg #[.bool true, .int .i64 j]) G kR (fun _ => by kernel_rfl)) G (.cons (st_lit eTK (e := 61) (l := [(TK.mk true j)]) G G G G kR G G kW (fun b6 => ?_)))))
  refine .cons (st_app (E := eTK) (m := [(TK.mk true j)]) G G G G underlying58 ai61 G G G (.t .h) rO (row_src 0 G) lO G (fun v7 => ?_))
  refine .a G G G (.go idQ (.region (.p ((j + 1)) oO oO G G G G G (.m G G G ?_))))
  exact SP.nil (SQ.roundb (X := Int × (List TK) × Value) (x := (j, Y, u_Y)) ⟨(j + 1), (Y ++ [(TK.mk true j)]), v7⟩ (by (try dsimp only); exact ⟨oO, oO, (by rw [r_2, List.append_assoc]; congr 1; have hn := range_next (f := fun i_ : Nat => (⟨true, (i_ : Int)⟩ : TK)) (i := j) oO G; rw [← hn]; rw [show ((j.toNat : Nat) : Int) = j from by omega]), (by simp only [List.length_append, List.length_singleton]; omega)⟩) dO (Sub.get (.c4 G G G G (.c G (.c G (.c G .n))))) (kp (.c .h (.c (.t .h) .n))))
 refine .exit idQ ?_
 refine .seq ?_
 have hY : Y = (allT p.jobs.length p.ships.length) := by rw [r_2, q_2, show i.toNat = p.jobs.length from by omega, show j.toNat = p.ships.length from by omega]; rfl
 refine .region (.m G G G (.v (ev_any (v := .func (.func 47) #[] #[.pointer (some ⟨b1, 0, none⟩)]) G kR (fun _ => by kernel_rfl)) G (.cons (st_call0 G G G G hbd46 G (.d .n) (sortT p b1 u_Y Y _ _ hPB oO lO) (fun v_q8 C_q8 q8 => ?_)))))
 obtain ⟨rfl, rfl⟩ := q8
 show SP _ _ _ _ _ _ ⟨_, _ :: _ :: _, _, _⟩
 refine .go idQ (.seq (.region (.m G G G (.a G G G (.go idQ ?_)))))
 exact .ret idQ (ret1 results20 G (.c .h .n) ⟨u_Y, G, (by rw [hY]; rfl)⟩)
end Go.Proofs.YtimhdimhdimbjaaGreat.Sx
set_option maxRecDepth 20000
set_option maxHeartbeats 1000000
namespace Go.Proofs.YtimhdimhdimbjaaGreat.Sx.FJ
open Go Go.SX Go.Proofs Go.Proofs.Tryz FA FB FC FD FE FF FG FH
theorem hbd94 : hasBody prog 94 = true := by kernel_rfl
theorem hbd160 : hasBody prog 160 = true := by kernel_rfl
theorem ev92_eql (x y : Operand) (x0 y0 : Int) (x1 y1 : Int) (w : World) : (do eqGuard .eql 92 x y (.agg #[(.int .i64 x0), (.int .i64 x1)]) (.agg #[(.int .i64 y0), (.int .i64 y1)]); binOp .eql 92 (.agg #[(.int .i64 x0), (.int .i64 x1)]) (.agg #[(.int .i64 y0), (.int .i64 y1)]) : Sem Value).run prog w = .ok (.bool (((x0 == y0) && (x1 == y1)))) w := by
 have h1 : (Op.equal 92 (.agg #[(.int .i64 x0), (.int .i64 x1)]) (.agg #[(.int .i64 y0), (.int .i64 y1)])).run prog w = .ok ((x0 == y0) && (x1 == y1)) w := eqIn92 9997 x0 y0 x1 y1 w
 have h2 : (eqGuard .eql 92 x y (.agg #[(.int .i64 x0), (.int .i64 x1)]) (.agg #[(.int .i64 y0), (.int .i64 y1)])).run prog w = .ok () w := by kernel_rfl
 simp only [Sem.run_bind, h2, Result.andThen_ok, binOp, h1]
 rfl
end Go.Proofs.YtimhdimhdimbjaaGreat.Sx.FJ
namespace Go.Proofs.YtimhdimhdimbjaaGreat.Sx
open Go Go.SX Go.Proofs Go.Proofs.Tryz FA FB FC FD FE FF FG FH FJ
theorem count_ (A : Option Addr) (c : Nat) (l : List Vis) (n : Int) (x : Vis) (S : Nat → Prop) (wf : World) (hA : Fr eVis S wf A l) (hn : 0 ≤ n ∧ n ≤ (l.length : Int)) (hl : l.length ≤ 1000000) :
  TR0 prog 160 [.slice A l.length c, .int .i64 n, .agg #[.int .i64 x.kind, .int .i64 x.item]] [] S wf (fun v_ C_ => v_ = .int .i64 (((l.take (n).toNat).count x : Nat) : Int) ∧ C_ = []) := by
 have hla := hA.len
 refine TR.mk func160 G ntmps160 G G (fun w_ => ?_)
 refine .seq (.region (.cons (st_boxa G G G G G (fun b1 => (.a G G G (.go idQ (.seq (.region ?_))))))))
 refine .a G G G (.go idQ (.seq (.seq (.region (.a G G G (.go idQ (.block ?_)))))))
 refine .loop (X := Int × Int) (fun ⟨i, c0⟩ => 0 ≤ i ∧ i ≤ n ∧ c0 = (((l.take i.toNat).count x : Nat) : Int) ∧ (0 ≤ c0 ∧ c0 ≤ i)) (fun ⟨i, c0⟩ => [(0, .slice A l.length c), (1, .int .i64 n), (5, .pointer (some ⟨b1, 0, none⟩)), (6, .int .i64 0), (8, .int .i64 i), (7, .int .i64 c0)]) (fun ⟨i, c0⟩ => [cel b1 [.int .i64 x.kind, .int .i64 x.item] 92]) (fun _ => S) (fun _ => wf) (fun ⟨i, c0⟩ => (n - i).toNat) (fun a_ w_ hs_ hw_ => ⟨⟨0, 0⟩, (by (try dsimp only); exact ⟨oO, oO, (by simp), oO⟩), hs_.mono (Sub.get (.c4 G G G G (.c G (.c G .n)))), hw_.keep (.c .h .n)⟩) (fun ⟨i, c0⟩ ⟨q_0, q_1, q_2, q_3⟩ => ?_)
 try dsimp only
 refine .seq (.seq (.region (.m G G G (.m G G G (.e G G G G G ?_)))))
 refine .go idQ (.condI G bD (fun h2 => ?_) (fun h2 => ?_))
 ·
  refine .skipgo idQ (.seq (.block (.seq ?_)))
  refine SC.draw mo [] [] .n (fun _ _ _ => sc0) (fun wf_3 hl_3 hx_3 hR_3 => ?_)
  refine SR.m 0 G G G G ?_
  refine SR.m 1 G G G G ?_
  refine SR.z 2 G G (ev_ix G underlying52 ty92 G G oO oO (fun _ _ => Fr.adr (i := i) (Fr.ext hA hx_3) oO oO)) ?_
  refine SR.z 3 G G (ev_lda G G (At.d (Fr.el (i := i) (Fr.ext hA hx_3) oO oO)) ty92) ?_
  refine SR.z 4 G G (ev_lda (cs := [.int .i64 x.kind, .int .i64 x.item]) G G (At.d (At.lent hR_3 0 G G)) ty92) ?_
  refine SR.z 5 G G (ev_bin G G G (r := .bool ((((gt l i).kind) == x.kind) && (((gt l i).item) == x.item))) (ev92_eql _ _ _ _ _ _)) ?_
  refine SR.fin kR hl_3 hx_3 hR_3 .n ?_
  refine SQ.go idQ ?_
  refine .condI G (bA bE bE) (fun h4 => ?_) (fun h4 => ?_)
  ·
   refine .region (.m G G G (.p ((c0 + 1)) oO oO G G G G G (.a G G G ?_)))
   refine .go idQ (.region (.m G G G (.p ((i + 1)) oO oO G G G G G (.a G G G ?_))))
   exact SP.nil (SQ.roundb (X := Int × Int) (x := (i, c0)) ⟨(i + 1), (c0 + 1)⟩ (by (try dsimp only); exact ⟨oO, oO, (cnt_y q_2 oO oO (by assumption)), oO⟩) dO (Sub.get (.c4 G G G G (.c G (.c G .n)))) (kp (.c .h .n)))
  refine .skipgo idQ (.region (.m G G G (.p ((i + 1)) oO oO G G G G G (.a G G G ?_))))
  exact SP.nil (SQ.roundb (X := Int × Int) (x := (i, c0)) ⟨(i + 1), c0⟩ (by (try dsimp only); exact ⟨oO, oO, (cnt_n q_2 oO oO (by assumption)), oO⟩) dO (Sub.get (.c4 G G G G (.c G (.c G .n)))) (kp (.c .h .n)))
 refine .exit idQ ?_
 refine .seq (.region (.m G G G (.a G G G (.go idQ ?_))))
 exact .ret idQ (ret1 results160 G .n ⟨(congrArg (Value.int .i64) (by rw [q_2, show i = n from by omega])), G⟩)
theorem rpairs_ (p : PB) (A : Option Addr) (c : Nat) (l : List Vis) (S : Nat → Prop) (wf : World) (hA : Fr eVis S wf A l) (hPB : PBF S wf p) (hL : LawP p) (hll : l.length ≤ 60) :
  TR0 prog 133 [.agg (cPB p).toArray, .slice A l.length c] [] S wf (fun v_ C_ => v_ = .bool (pairsR p l [] 0) ∧ C_ = []) := by
 have hla := hA.len
 refine TR.mk func133 G ntmps133 G G (fun w_ => ?_)
 refine .seq (.region (.cons (st_boxa G G G G G (fun b1 => (.a G G G (.go idQ (.seq (.seq (.region ?_)))))))))
 refine .a G G G (.go idQ (.block (.loop (X := Int) (fun i => 0 ≤ i ∧ i ≤ (l.length : Int) ∧ (∀ j : Int, 0 ≤ j → j < i → okAt p l j)) (fun i => [(1, .slice A l.length c), (2, .pointer (some ⟨b1, 0, none⟩)), (5, .int .i64 i)]) (fun i => [cel b1 (cPB p) 29]) (fun _ => S) (fun _ => wf) (fun i => ((l.length : Int) - i).toNat) (fun a_ w_ hs_ hw_ => ⟨0, (by (try dsimp only); exact ⟨oO, oO, (fun j h0_ h1_ => by omega)⟩), hs_.mono (Sub.get (.c G (.c G (.c G .n)))), hw_.keep (.c .h .n)⟩) (fun i ⟨q_0, q_1, q_2⟩ => ?_))))
 try dsimp only
 refine .seq (.seq (.region (.m G G G (.m G G G (.g underlying52 G G G ?_)))))
 refine .e G G G G G (.go idQ (.condI G bD (fun h2 => ?_) (fun h2 => ?_)))
 ·
  refine .skipgo idQ (.seq (.block (.seq (.region (.m G G G (.m G G G (.v (ev_ix G underlying52 ty92 G G oO oO (fun _ _ => Fr.adr (i := i) hA oO oO)) G ?_)))))))
  refine .v (ev_lda G G (At.w (Fr.el (i := i) hA oO oO)) ty92) G (.cons (st_alloc G G G G zf92 (fun b3 => (.cons (st_storea (l' := [.int .i64 ((gt l i).kind), .int .i64 ((gt l i).item)]) G G G ty92 G G G .h G G (.go idQ (.seq (.seq (.region ?_)))))))))
  refine .f fo92_0 0 G G G G (.l ty90 0 G G G G G (.e G G G G G (.go idQ ?_)))
  refine .condI G bE (fun h4 => ?_) (fun h4 => ?_)
  ·
   refine .exit idQ ?_
   refine .region (.m G G G (.p ((i + 1)) oO oO G G G G G (.a G G G ?_)))
   exact SP.nil (SQ.roundb (X := Int) (x := (i)) (i + 1) (by (try dsimp only); exact ⟨oO, oO, (pq_next q_2 (okA_4 oO))⟩) (by show (_ : Nat) < _; omega) (Sub.get (.c G (.c G (.c G .n)))) (kp (.c (.t .h) .n)))
  refine .skipgo idQ (.seq (.region (.d 1 ty29 G G G G (.d 0 ty92 G G G G (.cons (st_callk G G G G hbd94 G .n (rstop_ p (gt l i) _ _ hPB) ?_))))))
  refine .m G G G (.x G G G G (.x G G G G (.cons (st_alloc G G G G zf78 (fun b5 => ?_)))))
  refine .cons (st_storea (l' := [.int .i64 ((stopD p (gt l i)).pl), .int .i64 ((stopD p (gt l i)).srv), .slice ((stopD p (gt l i)).soA) ((stopD p (gt l i)).sws.length) ((stopD p (gt l i)).soc)]) G G G ty78 G G G .h G G ?_)
  refine .a G G G (.go idQ (.seq (.seq (.region (.m G G G (.v (ev_not G G) G ?_))))))
  refine .m G G G (.w (fun _ => ev_mv G G) G (.w (fun _ => ev_mv G G) G (.w (fun hb => ev_len G underlying52 (lkg G hb)) G ?_)))
  refine .w (fun _ => ev_lda G G (At.whole 1 G) ty92) G (.cons (st_gcallk G G G G G G hbd160 (fun hb => (lkA1 (lkg G hb) (lkA1 (lkg G hb) (lkA1 (lkg G hb) lkA0)))) .n (fun hb => have hp := bF (bN bV) hb; count_ A c l (l.length : Int) (gt l i) _ _ hA lO lO) (.w (fun hb => ev_cmp G (lkg G hb) G G) G (.r G G G G G ?_))))
  refine .go idQ (.condI G (bO (bN bV) bNE) (fun h6 => ?_) (fun h6 => ?_))
  ·
   refine .seq (.region (.a G G G (.go idQ (.ret idQ (ret1 results133 G .n ⟨(congrArg Value.bool (pq_no oO oO (no1 oO (by assumption)))), G⟩)))))
  refine .skipgo idQ (.seq (.seq (.region (.f fo92_0 0 G G G G (.l ty90 1 G G G G G (.e G G G G G ?_))))))
  refine .m G G G (.w (fun _ => ev_mv G G) G (.w (fun _ => ev_mv G G) G (.w (fun _ => ev_fa G fo92_1 G (r := 1) G) G ?_)))
  refine .w (fun hb => ev_ld1 G ty3 (lkg G hb) (At.own1 1 G G)) G (.w (fun hb => Ev.reslot (t := 45) (v := .int .i64 ((gt l i).item)) (lkg G hb) (ev_any (v := .agg #[.int .i64 2, .int .i64 ((gt l i).item)]) G kR (fun _ => by kernel_rfl))) G (.cons (st_gcallk G G G G G G hbd160 (fun hb => (lkA1 (lkg G hb) (lkA1 (lkg G hb) (lkA1 (lkg G hb) lkA0)))) .n (fun hb => have hp := bT bE hb; count_ A c l i (Vis.mk 2 ((gt l i).item)) _ _ hA lO lO) (.w (fun hb => ev_cmp G (lkg G hb) G G) G ?_))))
  refine .v (ev_and G G G G) G (.go idQ (.condI G (bA bE bNE) (fun h7 => ?_) (fun h7 => ?_)))
  ·
   refine .seq (.region (.a G G G (.go idQ (.ret idQ (ret1 results133 G .n ⟨(congrArg Value.bool (pq_no oO oO (no2 oO (by assumption)))), G⟩)))))
  refine .skipgo idQ (.seq (.region (.f fo92_0 0 G G G G (.l ty90 1 G G G G G (.e G G G G G ?_)))))
  refine .m G G G (.w (fun _ => ev_mv G G) G (.w (fun _ => ev_mv G G) G (.w (fun hb => ev_len G underlying52 (lkg G hb)) G ?_)))
  refine .w (fun _ => ev_fa G fo92_1 G (r := 1) G) G (.w (fun hb => ev_ld1 G ty3 (lkg G hb) (At.own1 1 G G)) G (.w (fun hb => Ev.reslot (t := 58) (v := .int .i64 ((gt l i).item)) (lkg G hb) (ev_any (v := .agg #[.int .i64 3, .int .i64 ((gt l i).item)]) G kR (fun _ => by kernel_rfl))) G (.cons (st_gcallk G G G G G G hbd160 (fun hb => (lkA1 (lkg G hb) (lkA1 (lkg G hb) (lkA1 (lkg G hb) lkA0)))) .n (fun hb => have hp := bT bE hb; count_ A c l (l.length : Int) (Vis.mk 3 ((gt l i).item)) _ _ hA lO lO) ?_))))
  refine .w (fun hb => ev_cmp G (lkg G hb) G G) G (.v (ev_and G G G G) G (.go idQ (.condI G (bA bE bNE) (fun h8 => ?_) (fun h8 => ?_))))
  ·
   refine .seq (.region (.a G G G (.go idQ (.ret idQ (ret1 results133 G .n ⟨(congrArg Value.bool (pq_no oO oO (no3 oO (by assumption)))), G⟩)))))
  refine .skipgo idQ (.region (.m G G G (.p ((i + 1)) oO oO G G G G G (.a G G G ?_))))
  exact SP.nil (SQ.roundb (X := Int) (x := (i)) (i + 1) (by (try dsimp only); exact ⟨oO, oO, (pq_next q_2 (okA (c1 := True) (c2 := True) (c3 := True) (by assumption) (by assumption) (by assumption)))⟩) (by show (_ : Nat) < _; omega) (Sub.get (.c G (.c G (.c G .n)))) (kp (.c (.t2 .h) .n)))
 refine .exit idQ ?_
 refine .seq (.region (.a G G G (.go idQ (.ret idQ (ret1 results133 G .n ⟨(congrArg Value.bool (pq_yes q_2 oO)), G⟩)))))
theorem rloads_ (p : PB) (A : Option Addr) (c : Nat) (l : List Vis) (S : Nat → Prop) (wf : World) (hA : Fr eVis S wf A l) (hPB : PBF S wf p) (hL : LawP p) (hll : l.length ≤ 60) :
  TR0 prog 93 [.agg (cPB p).toArray, .slice A l.length c] [] S wf (fun v_ C_ => ∃ (u : Value) (Y : List IL), (Y.map IL.il = loadsF p l) ∧ v_ = u ∧ C_ = [rw_ eIL 22 (u) Y, nestIL 3 Y]) := by
 have hla := hA.len
 have hdm := hL.dims
 have hfl := loadsF_len (p := p) (l := l)
 refine TR.mk func93 G ntmps93 G G (fun w_ => ?_)
 refine .seq (.region (.cons (st_boxa G G G G G (fun b1 => (.a G G G (.go idQ (.seq (.region ?_))))))))
 refine .a G G G (.go idQ (.seq (.seq (.region (.a G G G (.go idQ (.block ?_)))))))
 refine SC.nilrow eIL 22 ?_
 refine SC.nestIL0 3 ?_
 refine .loop (X := Int × (List IL) × Value) (fun ⟨k, Y, u_Y⟩ => 0 ≤ k ∧ k ≤ (l.length : Int) + 1 ∧ Y.map IL.il = (loadsF p l).take k.toNat ∧ (Y.length : Int) = k) (fun ⟨k, Y, u_Y⟩ => [(1, .slice A l.length c), (2, .pointer (some ⟨b1, 0, none⟩)), (4, .slice none 0 0), (6, .int .i64 k), (5, u_Y)]) (fun ⟨k, Y, u_Y⟩ => [nestIL 3 Y, rw_ eIL 22 (u_Y) Y, cel b1 (cPB p) 29]) (fun _ => S) (fun _ => wf) (fun ⟨k, Y, u_Y⟩ => ((l.length : Int) + 1 - k).toNat) (fun a_ w_ hs_ hw_ => ⟨⟨0, ([] : List IL), .slice none 0 0⟩, (by (try dsimp only); exact ⟨oO, oO, G, G⟩), hs_.mono (Sub.get (.c4 G G G G (.c G .n))), hw_.keep (.d (.c .h .n))⟩) (fun ⟨k, Y, u_Y⟩ ⟨q_0, q_1, q_2, q_3⟩ => ?_)
 try dsimp only
 refine .seq (.seq (.region (.m G G G (.m G G G (.g underlying52 G G G ?_)))))
 refine .e G G G G G (.go idQ (.condI G bD (fun h2 => ?_) (fun h2 => ?_)))
 ·
  refine .skipgo idQ (.seq (.block (.seq (.region (.f fo29_0 0 G G G G (.l ty3 2 G G G G G (.cons (st_mkints (q := .i64) (n := (p.dims).toNat) G G G G underlying22 ai3 G G oO oO G (fun b3 => ?_)))))))))
  refine .a G G G (.go idQ (.seq (.seq (.region (.a G G G (.go idQ (.block ?_)))))))
  refine .loop (X := Int × (List Int)) (fun ⟨i, a⟩ => 0 ≤ i ∧ i ≤ (l.length : Int) ∧ rlR p k (l.drop i.toNat) i a = loadQ p l k ∧ lOk p (1000000 * i) a) (fun ⟨i, a⟩ => [(1, .slice A l.length c), (2, .pointer (some ⟨b1, 0, none⟩)), (4, .slice none 0 0), (6, .int .i64 k), (5, u_Y), (7, .slice (some ⟨b3, 0, none⟩) ((p.dims).toNat) ((p.dims).toNat)), (8, .int .i64 i)]) (fun ⟨i, a⟩ => [rw_ eZ 3 (.slice (some ⟨b3, 0, none⟩) ((p.dims).toNat) ((p.dims).toNat)) a, nestIL 3 Y, rw_ eIL 22 (u_Y) Y, cel b1 (cPB p) 29]) (fun _ => S) (fun _ => wf) (fun ⟨i, a⟩ => ((l.length : Int) - i).toNat) (fun a_ w_ hs_ hw_ => ⟨⟨0, (List.replicate ((p.dims).toNat) 0)⟩, (by (try dsimp only); exact ⟨oO, oO, G, (⟨zeros_len hL, bdd_mono (bdd_zero _) oO⟩)⟩), hs_.mono (Sub.get (.c4 G G G G (.c G (.c G (.c G .n))))), hw_.keep (.d (.d .n))⟩) (fun ⟨i, a⟩ ⟨r_0, r_1, r_2, r_3⟩ => ?_)
  try dsimp only
  refine .seq (.seq (.region (.m G G G (.m G G G (.g underlying52 G G G ?_)))))
  refine .e G G G G G (.go idQ (.condI G bD (fun h4 => ?_) (fun h4 => ?_)))
  ·
   refine .skipgo idQ (.seq (.block (.seq ?_)))
   refine SC.draw mo [] [] .n (fun _ _ _ => sc0) (fun wf_5 hl_5 hx_5 hR_5 => ?_)
   refine SR.cut (fun bb6 => ([(1, .slice A l.length c), (2, .pointer (some ⟨b1, 0, none⟩)), (4, .slice none 0 0), (6, .int .i64 k), (5, u_Y), (7, .slice (some ⟨b3, 0, none⟩) ((p.dims).toNat) ((p.dims).toNat)), (8, .int .i64 i), (22, .int .i64 i), (23, .slice A l.length c), (24, .int .i64 (l.length : Int)), (25, .bool (decide (i < (l.length : Int)))), (29, .agg (cPB p).toArray), (30, .slice A l.length c), (31, .int .i64 i), (32, .pointer (some ⟨(ab A), ao A + (i).toNat * 2, none⟩)), (33, .agg #[.int .i64 ((gt l i).kind), .int .i64 ((gt l i).item)]), (34, .tuple #[.agg #[.int .i64 ((stopD p (gt l i)).pl), .int .i64 ((stopD p (gt l i)).srv), .slice ((stopD p (gt l i)).soA) ((stopD p (gt l i)).sws.length) ((stopD p (gt l i)).soc)], .bool (isStop p (gt l i))]), (28, .tuple #[.agg #[.int .i64 ((stopD p (gt l i)).pl), .int .i64 ((stopD p (gt l i)).srv), .slice ((stopD p (gt l i)).soA) ((stopD p (gt l i)).sws.length) ((stopD p (gt l i)).soc)], .bool (isStop p (gt l i))]), (35, .agg #[.int .i64 ((stopD p (gt l i)).pl), .int .i64 ((stopD p (gt l i)).srv), .slice ((stopD p (gt l i)).soA) ((stopD p (gt l i)).sws.length) ((stopD p (gt l i)).soc)]), (36, .bool (isStop p (gt l i))), (9, .pointer (some ⟨bb6, 0, none⟩)), (10, .bool (isStop p (gt l i)))], [cel bb6 [.int .i64 ((stopD p (gt l i)).pl), .int .i64 ((stopD p (gt l i)).srv), .slice ((stopD p (gt l i)).soA) ((stopD p (gt l i)).sws.length) ((stopD p (gt l i)).soc)] 78, rw_ eZ 3 (.slice (some ⟨b3, 0, none⟩) ((p.dims).toNat) ((p.dims).toNat)) a, nestIL 3 Y, rw_ eIL 22 (u_Y) Y, cel b1 (cPB p) 29])) S wf (fun bb6 => ?_) (fun key7 => ?_)
   ·
    try dsimp only
    refine SQ.go idQ ?_
    refine .seq (.seq (.region (.m G G G (.v (ev_not G G) G (.go idQ ?_)))))
    refine .condI G (bN bV) (fun h8 => ?_) (fun h8 => ?_)
    ·
     refine .exit idQ ?_
     refine .region (.m G G G (.p ((i + 1)) oO oO G G G G G (.a G G G ?_)))
     exact SP.nil (SQ.roundb (X := Int × (List Int)) (x := (i, a)) ⟨(i + 1), a⟩ (by (try dsimp only); exact ⟨oO, oO, (by have hq := r_2; rw [drop_gt (x := i) oO oO, rlR_cons, stQ0 (by assumption)] at hq; exact hq), (lOk_mono r_3 oO)⟩) dO (Sub.get (.c4 G G G G (.c G (.c G (.c G .n))))) (kp (.c (.t .h) (.c (.t .h) (.c (.t .h) (.c (.t .h) .n))))))
    refine .skipgo idQ (.seq (.region (.m G G G (.m G G G (.v (ev_ix G underlying52 ty92 G G oO oO (fun _ _ => Fr.adr (i := i) hA oO oO)) G ?_)))))
    refine .f fo92_1 (ao A + (i).toNat * 2 + 1) G G G G (.v (ev_ld1 G ty3 G (At.elem1 (At.w (Fr.el (i := i) hA oO oO)) 1 G)) G (.a G G G (.go idQ (.seq ?_))))
    have hst : isStop p (gt l i) = true := by first | assumption | exact Classical.not_not.1 (by assumption)
    have hsl : (stQ p (gt l i) (decide (i ≥ k)) a).length = a.length := by have := stQ_len hL (x := gt l i) (late := decide (i ≥ k)) r_3.1; have := r_3.1; omega
    have hal := r_3.1
    refine .region (.a G G G (.go idQ (.block (.loop (X := Int × (List Int)) (fun ⟨d, X⟩ => 0 ≤ d ∧ d ≤ p.dims ∧ X = (stQ p (gt l i) (decide (i ≥ k)) a).take d.toNat ++ a.drop d.toNat ∧ (X.length : Int) = p.dims) (fun ⟨d, X⟩ => [(1, .slice A l.length c), (2, .pointer (some ⟨b1, 0, none⟩)), (4, .slice none 0 0), (6, .int .i64 k), (5, u_Y), (7, .slice (some ⟨b3, 0, none⟩) ((p.dims).toNat) ((p.dims).toNat)), (8, .int .i64 i), (11, .int .i64 ((gt l i).item)), (12, .int .i64 d)]) (fun ⟨d, X⟩ => [cel bb6 [.int .i64 ((stopD p (gt l i)).pl), .int .i64 ((stopD p (gt l i)).srv), .slice ((stopD p (gt l i)).soA) ((stopD p (gt l i)).sws.length) ((stopD p (gt l i)).soc)] 78, rw_ eZ 3 (.slice (some ⟨b3, 0, none⟩) ((p.dims).toNat) ((p.dims).toNat)) X, nestIL 3 Y, rw_ eIL 22 (u_Y) Y, cel b1 (cPB p) 29]) (fun _ => S) (fun _ => wf) (fun ⟨d, X⟩ => (p.dims - d).toNat) (fun a_ w_ hs_ hw_ => ⟨⟨0, a⟩, (by (try dsimp only); exact ⟨oO, oO, G, oO⟩), hs_.mono (Sub.get (.c4 G G G G (.c4 G G G G (.c G .n)))), hw_.keep (.d (.d (.c .h .n)))⟩) (fun ⟨d, X⟩ ⟨s_0, s_1, s_2, s_3⟩ => ?_)))))
    try dsimp only
    refine .seq (.seq (.region (.m G G G (.f fo29_0 0 G G G G (.l ty3 4 G G G G G ?_)))))
    refine .e G G G G G (.go idQ (.condI G bD (fun h9 => ?_) (fun h9 => ?_)))
    ·
     refine .skipgo idQ (.seq (.block (.block (.seq (.region (.m G G G (.m G G G (.v (ev_ix G underlying52 ty92 G G oO oO (fun _ _ => Fr.adr (i := i) hA oO oO)) G ?_))))))))
     refine .f fo92_0 (ao A + (i).toNat * 2) G G G G (.v (ev_ld1 G ty90 G (At.elem1 (At.w (Fr.el (i := i) hA oO oO)) 0 G)) G (.e G G G G G (.m G G G ?_)))
     refine .w (fun _ => ev_mv G G) G (.w (fun _ => ev_mv G G) G (.w (fun hb => ev_cmp G (lkg G hb) (lkg G hb) G) G (.v (ev_and G G G G) G ?_)))
     refine .a G G G (.go idQ (.condI G (bA bE bD) (fun h10 => ?_) (fun h10 => ?_)))
     ·
      have hin := is_i1 hst (by first | exact (by assumption : _ ∧ _).1 | assumption)
      have hjb := hL.job _ hin.1 hin.2
      have hdl := hjb.drop.1
      have hdb := hjb.drop.2 d
      have hXd := mix_gt s_2 hsl oO oO
      have hab := r_3.2 d
      refine SC.draw mo [rw_ eZ 3 (.slice (some ⟨b3, 0, none⟩) ((p.dims).toNat) ((p.dims).toNat)) X] [(17, fun w => At w (ab (some ⟨b3, 0, none⟩)) (ao (some ⟨b3, 0, none⟩) + (d).toNat * eZ.sz) (eZ.enc (gt X d)))] (.c (.t .h) .n) (fun w_ _ hw_ => (sc1 (row_el (E := eZ) (l := X) (i := d) 0 G oO lO w_ hw_) sc0)) (fun wf_11 hl_11 hx_11 hR_11 => ?_)
      refine SR.m 0 G G G G ?_
      refine SR.m 1 G G G G ?_
      refine SR.m 2 G G G G ?_
      refine SR.m 3 G G G G ?_
      refine SR.z 4 G G (ev_ix G underlying22 ty3 G G oO oO (fun _ _ => G)) ?_
      refine SR.z 5 G G (ev_ld1 G ty3 G (At.elem1 (At.ofcs 0 G kR) 0 G)) ?_
      refine SR.z 6 G G (ev_fa G fo29_4 G (r := 6) G) ?_
      refine SR.z 7 G G (ev_ld1 G ty26 G (At.d (At.lent hR_11 3 G G))) ?_
      refine SR.m 8 G G G G ?_
      refine SR.z 9 G G (ev_ix G underlying26 ty80 G G oO oO (fun _ _ => Fr.adr (i := (gt l i).item) ((hPB).ext hx_11).2.2.2.1.1 oO oO)) ?_
      refine SR.z 10 G G (ev_fa G fo80_1 G (r := ao p.pjA + ((gt l i).item).toNat * 7 + 3) G) ?_
      refine SR.z 11 G G (ev_ld1 G ty22 G (At.elem1 (At.d (Fr.el (i := (gt l i).item) ((hPB).ext hx_11).2.2.2.1.1 oO oO)) 3 G)) ?_
      refine SR.m 12 G G G G ?_
      refine SR.z 13 G G (ev_ix G underlying22 ty3 G G oO oO (fun _ _ => Fr.adr (i := d) (((hPB).ext hx_11).2.2.2.1.2 ((gt l i).item)).1 oO oO)) ?_
      refine SR.z 14 G G (ev_ld1 G ty3 G (At.elem1 (At.d (Fr.el (i := d) (((hPB).ext hx_11).2.2.2.1.2 ((gt l i).item)).1 oO oO)) 0 G)) ?_
      refine SR.z 15 G G (ev_add G G G (r := ((gt X d) + (gt ((gt p.jobs ((gt l i).item)).drop) d))) G oO oO) ?_
      refine SR.z 16 G G (ev_ix G underlying22 ty3 G G oO oO (fun _ _ => G)) ?_
      refine SR.o 17 G (st_setel (E := eZ) (i := d) (cs := [.int .i64 ((gt X d) + (gt ((gt p.jobs ((gt l i).item)).drop) d))]) (off := 0) ((gt X d) + (gt ((gt p.jobs ((gt l i).item)).drop) d)) G G G ty3 G G G G G .h lO lO (Nat.le_of_ble_eq_true G) G ⟨ttc (fun w_ hw_ => (tc2 kR tc0)), ?_⟩)
      refine SR.fin kR hl_11 hx_11 hR_11 (.c .n) ?_
      refine SQ.go idQ ?_
      refine .region (.m G G G (.p ((d + 1)) oO oO G G G G G (.a G G G ?_)))
      exact SP.nil (SQ.roundb (X := Int × (List Int)) (x := (d, X)) ⟨(d + 1), (X.set (d).toNat ((gt X d) + (gt ((gt p.jobs ((gt l i).item)).drop) d)))⟩ (by (try dsimp only); exact ⟨oO, oO, (mix_step s_2 hsl oO oO (by rw [stQ1 hst (by assumption), gt_add oO, hXd])), (by (try simp only [List.length_set]); omega)⟩) dO (Sub.get (.c4 G G G G (.c4 G G G G (.c G .n)))) (kp (.c (.t .h) (.d (.d .n)))))
     refine .seq (.region (.m G G G (.m G G G (.v (ev_ix G underlying52 ty92 G G oO oO (fun _ _ => Fr.adr (i := i) hA oO oO)) G ?_))))
     refine .f fo92_0 (ao A + (i).toNat * 2) G G G G (.v (ev_ld1 G ty90 G (At.elem1 (At.w (Fr.el (i := i) hA oO oO)) 0 G)) G (.e G G G G G (.a G G G ?_)))
     refine .go idQ (.condI G bE (fun h12 => ?_) (fun h12 => ?_))
     ·
      have hin := is_i1 hst (by first | exact (by assumption : _ ∧ _).1 | assumption)
      have hjb := hL.job _ hin.1 hin.2
      have hdl := hjb.pick.1
      have hdb := hjb.pick.2 d
      have hXd := mix_gt s_2 hsl oO oO
      have hab := r_3.2 d
      refine SC.draw mo [rw_ eZ 3 (.slice (some ⟨b3, 0, none⟩) ((p.dims).toNat) ((p.dims).toNat)) X] [(17, fun w => At w (ab (some ⟨b3, 0, none⟩)) (ao (some ⟨b3, 0, none⟩) + (d).toNat * eZ.sz) (eZ.enc (gt X d)))] (.c (.t .h) .n) (fun w_ _ hw_ => (sc1 (row_el (E := eZ) (l := X) (i := d) 0 G oO lO w_ hw_) sc0)) (fun wf_13 hl_13 hx_13 hR_13 => ?_)
      refine SR.m 0 G G G G ?_
      refine SR.m 1 G G G G ?_
      refine SR.m 2 G G G G ?_
      refine SR.m 3 G G G G ?_
      refine SR.z 4 G G (ev_ix G underlying22 ty3 G G oO oO (fun _ _ => G)) ?_
      refine SR.z 5 G G (ev_ld1 G ty3 G (At.elem1 (At.ofcs 0 G kR) 0 G)) ?_
      refine SR.z 6 G G (ev_fa G fo29_4 G (r := 6) G) ?_
      refine SR.z 7 G G (ev_ld1 G ty26 G (At.d (At.lent hR_13 3 G G))) ?_
      refine SR.m 8 G G G G ?_
      refine SR.z 9 G G (ev_ix G underlying26 ty80 G G oO oO (fun _ _ => Fr.adr (i := (gt l i).item) ((hPB).ext hx_13).2.2.2.1.1 oO oO)) ?_
      refine SR.z 10 G G (ev_fa G fo80_2 G (r := ao p.pjA + ((gt l i).item).toNat * 7 + 4) G) ?_
      refine SR.z 11 G G (ev_ld1 G ty22 G (At.elem1 (At.d (Fr.el (i := (gt l i).item) ((hPB).ext hx_13).2.2.2.1.1 oO oO)) 4 G)) ?_
      refine SR.m 12 G G G G ?_
      refine SR.z 13 G G (ev_ix G underlying22 ty3 G G oO oO (fun _ _ => Fr.adr (i := d) (((hPB).ext hx_13).2.2.2.1.2 ((gt l i).item)).2.1 oO oO)) ?_
      refine SR.z 14 G G (ev_ld1 G ty3 G (At.elem1 (At.d (Fr.el (i := d) (((hPB).ext hx_13).2.2.2.1.2 ((gt l i).item)).2.1 oO oO)) 0 G)) ?_
      refine SR.z 15 G G (ev_add G G G (r := ((gt X d) + (gt ((gt p.jobs ((gt l i).item)).pick) d))) G oO oO) ?_
      refine SR.z 16 G G (ev_ix G underlying22 ty3 G G oO oO (fun _ _ => G)) ?_
      refine SR.o 17 G (st_setel (E := eZ) (i := d) (cs := [.int .i64 ((gt X d) + (gt ((gt p.jobs ((gt l i).item)).pick) d))]) (off := 0) ((gt X d) + (gt ((gt p.jobs ((gt l i).item)).pick) d)) G G G ty3 G G G G G .h lO lO (Nat.le_of_ble_eq_true G) G ⟨ttc (fun w_ hw_ => (tc2 kR tc0)), ?_⟩)
      refine SR.fin kR hl_13 hx_13 hR_13 (.c .n) ?_
      refine SQ.go idQ ?_
      refine .region (.m G G G (.p ((d + 1)) oO oO G G G G G (.a G G G ?_)))
      exact SP.nil (SQ.roundb (X := Int × (List Int)) (x := (d, X)) ⟨(d + 1), (X.set (d).toNat ((gt X d) + (gt ((gt p.jobs ((gt l i).item)).pick) d)))⟩ (by (try dsimp only); exact ⟨oO, oO, (mix_step s_2 hsl oO oO (by rw [stQ2 hst (by assumption) (by assumption), gt_add oO, hXd])), (by (try simp only [List.length_set]); omega)⟩) dO (Sub.get (.c4 G G G G (.c4 G G G G (.c G .n)))) (kp (.c (.t .h) (.d (.d .n)))))
     refine .seq (.region (.m G G G (.m G G G (.v (ev_ix G underlying52 ty92 G G oO oO (fun _ _ => Fr.adr (i := i) hA oO oO)) G ?_))))
     refine .f fo92_0 (ao A + (i).toNat * 2) G G G G (.v (ev_ld1 G ty90 G (At.elem1 (At.w (Fr.el (i := i) hA oO oO)) 0 G)) G (.e G G G G G (.m G G G ?_)))
     refine .w (fun _ => ev_mv G G) G (.w (fun _ => ev_mv G G) G (.w (fun hb => ev_cmp G (lkg G hb) (lkg G hb) G) G (.v (ev_and G G G G) G ?_)))
     refine .a G G G (.go idQ (.condI G (bA bE bD) (fun h14 => ?_) (fun h14 => ?_)))
     ·
      have hin := is_i2 hst (by first | exact .inl (by assumption : _ ∧ _).1 | exact .inr (by assumption : _ ∧ _).1)
      have hjb := hL.ship _ hin.1 hin.2
      have hdl := hjb.am.1
      have hdb := hjb.am.2 d
      have hXd := mix_gt s_2 hsl oO oO
      have hab := r_3.2 d
      refine SC.draw mo [rw_ eZ 3 (.slice (some ⟨b3, 0, none⟩) ((p.dims).toNat) ((p.dims).toNat)) X] [(17, fun w => At w (ab (some ⟨b3, 0, none⟩)) (ao (some ⟨b3, 0, none⟩) + (d).toNat * eZ.sz) (eZ.enc (gt X d)))] (.c (.t .h) .n) (fun w_ _ hw_ => (sc1 (row_el (E := eZ) (l := X) (i := d) 0 G oO lO w_ hw_) sc0)) (fun wf_15 hl_15 hx_15 hR_15 => ?_)
      refine SR.m 0 G G G G ?_
      refine SR.m 1 G G G G ?_
      refine SR.m 2 G G G G ?_
      refine SR.m 3 G G G G ?_
      refine SR.z 4 G G (ev_ix G underlying22 ty3 G G oO oO (fun _ _ => G)) ?_
      refine SR.z 5 G G (ev_ld1 G ty3 G (At.elem1 (At.ofcs 0 G kR) 0 G)) ?_
      refine SR.z 6 G G (ev_fa G fo29_5 G (r := 7) G) ?_
      refine SR.z 7 G G (ev_ld1 G ty27 G (At.d (At.lent hR_15 3 G G))) ?_
      refine SR.m 8 G G G G ?_
      refine SR.z 9 G G (ev_ix G underlying27 ty83 G G oO oO (fun _ _ => Fr.adr (i := (gt l i).item) ((hPB).ext hx_15).2.2.2.2.1 oO oO)) ?_
      refine SR.z 10 G G (ev_fa G fo83_2 G (r := ao p.psA + ((gt l i).item).toNat * 9 + 6) G) ?_
      refine SR.z 11 G G (ev_ld1 G ty22 G (At.elem1 (At.d (Fr.el (i := (gt l i).item) ((hPB).ext hx_15).2.2.2.2.1 oO oO)) 6 G)) ?_
      refine SR.m 12 G G G G ?_
      refine SR.z 13 G G (ev_ix G underlying22 ty3 G G oO oO (fun _ _ => Fr.adr (i := d) (((hPB).ext hx_15).2.2.2.2.2 ((gt l i).item)).1 oO oO)) ?_
      refine SR.z 14 G G (ev_ld1 G ty3 G (At.elem1 (At.d (Fr.el (i := d) (((hPB).ext hx_15).2.2.2.2.2 ((gt l i).item)).1 oO oO)) 0 G)) ?_
      refine SR.z 15 G G (ev_add G G G (r := ((gt X d) + (gt ((gt p.ships ((gt l i).item)).am) d))) G oO oO) ?_
      refine SR.z 16 G G (ev_ix G underlying22 ty3 G G oO oO (fun _ _ => G)) ?_
      refine SR.o 17 G (st_setel (E := eZ) (i := d) (cs := [.int .i64 ((gt X d) + (gt ((gt p.ships ((gt l i).item)).am) d))]) (off := 0) ((gt X d) + (gt ((gt p.ships ((gt l i).item)).am) d)) G G G ty3 G G G G G .h lO lO (Nat.le_of_ble_eq_true G) G ⟨ttc (fun w_ hw_ => (tc2 kR tc0)), ?_⟩)
      refine SR.fin kR hl_15 hx_15 hR_15 (.c .n) ?_
      refine SQ.go idQ ?_
      refine .region (.m G G G (.p ((d + 1)) oO oO G G G G G (.a G G G ?_)))
      exact SP.nil (SQ.roundb (X := Int × (List Int)) (x := (d, X)) ⟨(d + 1), (X.set (d).toNat ((gt X d) + (gt ((gt p.ships ((gt l i).item)).am) d)))⟩ (by (try dsimp only); exact ⟨oO, oO, (mix_step s_2 hsl oO oO (by rw [stQ3 hst (by assumption), gt_add oO, hXd])), (by (try simp only [List.length_set]); omega)⟩) dO (Sub.get (.c4 G G G G (.c4 G G G G (.c G .n)))) (kp (.c (.t .h) (.d (.d .n)))))
     refine .seq (.region (.m G G G (.m G G G (.v (ev_ix G underlying52 ty92 G G oO oO (fun _ _ => Fr.adr (i := i) hA oO oO)) G ?_))))
     refine .f fo92_0 (ao A + (i).toNat * 2) G G G G (.v (ev_ld1 G ty90 G (At.elem1 (At.w (Fr.el (i := i) hA oO oO)) 0 G)) G (.e G G G G G (.m G G G ?_)))
     refine .w (fun _ => ev_mv G G) G (.w (fun _ => ev_mv G G) G (.w (fun hb => ev_cmp G (lkg G hb) (lkg G hb) G) G (.v (ev_and G G G G) G ?_)))
     refine .a G G G (.go idQ (.condI G (bA bE bD) (fun h16 => ?_) (fun h16 => ?_)))
     ·
      have hin := is_i2 hst (by first | exact .inl (by assumption : _ ∧ _).1 | exact .inr (by assumption : _ ∧ _).1)
      have hjb := hL.ship _ hin.1 hin.2
      have hdl := hjb.am.1
      have hdb := hjb.am.2 d
      have hXd := mix_gt s_2 hsl oO oO
      have hab := r_3.2 d
      refine SC.draw mo [rw_ eZ 3 (.slice (some ⟨b3, 0, none⟩) ((p.dims).toNat) ((p.dims).toNat)) X] [(17, fun w => At w (ab (some ⟨b3, 0, none⟩)) (ao (some ⟨b3, 0, none⟩) + (d).toNat * eZ.sz) (eZ.enc (gt X d)))] (.c (.t .h) .n) (fun w_ _ hw_ => (sc1 (row_el (E := eZ) (l := X) (i := d) 0 G oO lO w_ hw_) sc0)) (fun wf_17 hl_17 hx_17 hR_17 => ?_)
      refine SR.m 0 G G G G ?_
      refine SR.m 1 G G G G ?_
      refine SR.m 2 G G G G ?_
      refine SR.m 3 G G G G ?_
      refine SR.z 4 G G (ev_ix G underlying22 ty3 G G oO oO (fun _ _ => G)) ?_
      refine SR.z 5 G G (ev_ld1 G ty3 G (At.elem1 (At.ofcs 0 G kR) 0 G)) ?_
      refine SR.z 6 G G (ev_fa G fo29_5 G (r := 7) G) ?_
      refine SR.z 7 G G (ev_ld1 G ty27 G (At.d (At.lent hR_17 3 G G))) ?_
      refine SR.m 8 G G G G ?_
      refine SR.z 9 G G (ev_ix G underlying27 ty83 G G oO oO (fun _ _ => Fr.adr (i := (gt l i).item) ((hPB).ext hx_17).2.2.2.2.1 oO oO)) ?_
      refine SR.z 10 G G (ev_fa G fo83_2 G (r := ao p.psA + ((gt l i).item).toNat * 9 + 6) G) ?_
      refine SR.z 11 G G (ev_ld1 G ty22 G (At.elem1 (At.d (Fr.el (i := (gt l i).item) ((hPB).ext hx_17).2.2.2.2.1 oO oO)) 6 G)) ?_
      refine SR.m 12 G G G G ?_
      refine SR.z 13 G G (ev_ix G underlying22 ty3 G G oO oO (fun _ _ => Fr.adr (i := d) (((hPB).ext hx_17).2.2.2.2.2 ((gt l i).item)).1 oO oO)) ?_
      refine SR.z 14 G G (ev_ld1 G ty3 G (At.elem1 (At.d (Fr.el (i := d) (((hPB).ext hx_17).2.2.2.2.2 ((gt l i).item)).1 oO oO)) 0 G)) ?_
      refine SR.z 15 G G (ev_sub G G G (r := ((gt X d) - (gt ((gt p.ships ((gt l i).item)).am) d))) G oO oO) ?_
      refine SR.z 16 G G (ev_ix G underlying22 ty3 G G oO oO (fun _ _ => G)) ?_
      refine SR.o 17 G (st_setel (E := eZ) (i := d) (cs := [.int .i64 ((gt X d) - (gt ((gt p.ships ((gt l i).item)).am) d))]) (off := 0) ((gt X d) - (gt ((gt p.ships ((gt l i).item)).am) d)) G G G ty3 G G G G G .h lO lO (Nat.le_of_ble_eq_true G) G ⟨ttc (fun w_ hw_ => (tc2 kR tc0)), ?_⟩)
      refine SR.fin kR hl_17 hx_17 hR_17 (.c .n) ?_
      refine SQ.go idQ ?_
      refine .region (.m G G G (.p ((d + 1)) oO oO G G G G G (.a G G G ?_)))
      exact SP.nil (SQ.roundb (X := Int × (List Int)) (x := (d, X)) ⟨(d + 1), (X.set (d).toNat ((gt X d) - (gt ((gt p.ships ((gt l i).item)).am) d)))⟩ (by (try dsimp only); exact ⟨oO, oO, (mix_step s_2 hsl oO oO (by rw [stQ4 hst (by assumption), gt_sub oO, hXd])), (by (try simp only [List.length_set]); omega)⟩) dO (Sub.get (.c4 G G G G (.c4 G G G G (.c G .n)))) (kp (.c (.t .h) (.d (.d .n)))))
     refine .skipgo idQ (.region (.m G G G (.p ((d + 1)) oO oO G G G G G (.a G G G ?_))))
     exact SP.nil (SQ.roundb (X := Int × (List Int)) (x := (d, X)) ⟨(d + 1), X⟩ (by (try dsimp only); exact ⟨oO, oO, (mix_same s_2 hsl oO oO (by rw [stQ5 hst (by assumption) (by assumption) (by assumption)])), (by (try simp only [List.length_set]); omega)⟩) dO (Sub.get (.c4 G G G G (.c4 G G G G (.c G .n)))) (kp (.d (.d (.c .h .n)))))
    refine .exit idQ ?_
    refine .region (.m G G G (.p ((i + 1)) oO oO G G G G G (.a G G G ?_)))
    exact SP.nil (SQ.roundb (X := Int × (List Int)) (x := (i, a)) ⟨(i + 1), X⟩ (by (try dsimp only); exact ⟨oO, oO, (by have hq := r_2; rw [drop_gt (x := i) oO oO, rlR_cons, ← mix_end s_2 hsl oO] at hq; exact hq), (by rw [mix_end s_2 hsl oO]; exact lOk_mono (stQ_ok hL r_3) oO)⟩) dO (Sub.get (.c4 G G G G (.c G (.c G (.c G .n))))) (kp (.c (.t .h) (.c (.t .h) (.c (.t .h) (.c (.t .h) .n))))))
   refine SR.z 0 G G (ev_lda (cs := (cPB p)) G G (At.d (At.lent hR_5 3 G G)) ty29) ?_
   refine SR.m 1 G G G G ?_
   refine SR.m 2 G G G G ?_
   refine SR.z 3 G G (ev_ix G underlying52 ty92 G G oO oO (fun _ _ => Fr.adr (i := i) (Fr.ext hA hx_5) oO oO)) ?_
   refine SR.z 4 G G (ev_lda G G (At.d (Fr.el (i := i) (Fr.ext hA hx_5) oO oO)) ty92) ?_
   refine SR.two (i := 5) (j := 9) kR ⟨_, G, ?_⟩ ⟨_, G, ?_⟩
   ·
    refine st_callk G G G G hbd94 G .n (rstop_ p (gt l i) _ _ ((hPB).ext hx_5)) ⟨tt0, ?_⟩
    refine SR.m 6 G G G G ?_
    refine SR.z 7 G G (ev_ext G G G) ?_
    refine SR.z 8 G G (ev_ext G G G) ?_
    refine SR.o 9 G (st_alloc G G G G zf78 (fun b18 => ⟨tt0, ?_⟩))
    refine SR.o 10 G (st_storea (l' := [.int .i64 ((stopD p (gt l i)).pl), .int .i64 ((stopD p (gt l i)).srv), .slice ((stopD p (gt l i)).soA) ((stopD p (gt l i)).sws.length) ((stopD p (gt l i)).soc)]) G G G ty78 G G G .h G G ⟨tt0, ?_⟩)
    refine SR.z 11 G G (ev_as G G) ?_
    refine SR.fin kR hl_5 hx_5 hR_5 (.c .n) ?_
    exact SQ.weak (key7 b18) (Sub.get (.c4 G G G G (.c4 G G G G (.c4 G G G G (.c4 G G G G (.c4 G G G G (.c G (.c G .n)))))))) (kp (.d (.d (.c .h .n))))
   refine st_alloc G G G G zf78 (fun b19 => ⟨tt0, ?_⟩)
   refine SR.o 5 G (st_callk G G G G hbd94 G .n (rstop_ p (gt l i) _ _ ((hPB).ext hx_5)) ⟨tt0, ?_⟩)
   refine SR.m 6 G G G G ?_
   refine SR.z 7 G G (ev_ext G G G) ?_
   refine SR.z 8 G G (ev_ext G G G) ?_
   refine SR.o 10 G (st_storea (l' := [.int .i64 ((stopD p (gt l i)).pl), .int .i64 ((stopD p (gt l i)).srv), .slice ((stopD p (gt l i)).soA) ((stopD p (gt l i)).sws.length) ((stopD p (gt l i)).soc)]) G G G ty78 G G G .h G G ⟨tt0, ?_⟩)
   refine SR.z 11 G G (ev_as G G) ?_
   refine SR.fin kR hl_5 hx_5 hR_5 (.c .n) ?_
   exact SQ.weak (key7 b19) (Sub.get (.c4 G G G G (.c4 G G G G (.c4 G G G G (.c4 G G G G (.c4 G G G G (.c G (.c G .n)))))))) (kp (.d (.d (.c .h .n))))
  refine .exit idQ ?_
  have hal := r_3.1
  rw [show (p.dims).toNat = a.length from by omega]
  refine .region (.m G G G (.m G G G (.cons (st_lit eIL (e := 22) (l := [(IL.mk a (some ⟨b3, 0, none⟩) a.length)]) G G G G kR G G kW (fun b20 => ?_)))))
  refine .cons (st_app (E := eIL) (m := [(IL.mk a (some ⟨b3, 0, none⟩) a.length)]) G G G G underlying173 ai22 G G G (.t2 (.t .h)) rO (row_src 0 G) lO G (fun v21 => ?_))
  refine .a G G G (.go idQ ?_)
  refine SC.packIL (IL.mk a (some ⟨b3, 0, none⟩) a.length) (.c (.t2 (.t .h)) (.c (.t2 .h) .n)) dO ?_
  refine .region (.m G G G (.p ((k + 1)) oO oO G G G G G (.a G G G ?_)))
  exact SP.nil (SQ.roundb (X := Int × (List IL) × Value) (x := (k, Y, u_Y)) ⟨(k + 1), (Y ++ [(IL.mk a (some ⟨b3, 0, none⟩) a.length)]), v21⟩ (by (try dsimp only); exact ⟨oO, oO, (by rw [take_gt oO oO, List.map_append, q_2, ← loadQ_at hL oO oO, ← r_2, drop_end (i := i) oO]; rfl), (by simp only [List.length_append, List.length_singleton]; omega)⟩) dO (Sub.get (.c4 G G G G (.c G .n))) (kp (.d (.c (.t .h) .n))))
 refine .exit idQ ?_
 refine .seq (.region (.m G G G (.a G G G (.go idQ ?_))))
 exact .ret idQ (ret1 results93 G (.c (.t .h) (.c .h .n)) ⟨u_Y, Y, (by rw [q_2, List.take_of_length_le oO]), G, G⟩)
end Go.Proofs.YtimhdimhdimbjaaGreat.Sx
set_option maxRecDepth 20000
set_option maxHeartbeats 1000000
namespace Go.Proofs.YtimhdimhdimbjaaGreat.Sx.FK
open Go Go.SX Go.Proofs Go.Proofs.Tryz FA FB FC FD FE FF FG FH FJ
theorem hbd133 : hasBody prog 133 = true := by kernel_rfl
theorem hbd28 : hasBody prog 28 = true := by kernel_rfl
theorem hbd93 : hasBody prog 93 = true := by kernel_rfl
theorem hbd134 : hasBody prog 134 = true := by kernel_rfl
theorem hbd95 : hasBody prog 95 = true := by kernel_rfl
end Go.Proofs.YtimhdimhdimbjaaGreat.Sx.FK
namespace Go.Proofs.YtimhdimhdimbjaaGreat.Sx
open Go Go.SX Go.Proofs Go.Proofs.Tryz FA FB FC FD FE FF FG FH FJ FK
theorem rstart_ (A : Option Addr) (c : Nat) (l : List WN) (t : Int) (S : Nat → Prop) (wf : World) (hA : Fr eWN S wf A l) (hW : WinsOk l) :
  TR0 prog 96 [.slice A l.length c, .int .i64 t] [] S wf (fun v_ C_ => v_ = .tuple #[.int .i64 ((startF l t).1), .bool ((startF l t).2)] ∧ C_ = []) := by
 have hla := hA.len
 refine TR.mk func96 G ntmps96 G G (fun w_ => ?_)
 refine .seq (.region (.a G G G (.a G G G (.go idQ (.seq (.region ?_))))))
 refine .a G G G (.a G G G (.go idQ (.seq (.seq (.region (.a G G G ?_))))))
 refine .go idQ (.block (.loop (X := Int × Int × Bool) (fun ⟨i, b0, f0⟩ => 0 ≤ i ∧ i ≤ (l.length : Int) ∧ StartI l t i b0 f0) (fun ⟨i, b0, f0⟩ => [(0, .slice A l.length c), (1, .int .i64 t), (4, .int .i64 0), (5, .bool false), (8, .int .i64 i), (6, .int .i64 b0), (7, .bool f0)]) (fun ⟨i, b0, f0⟩ => []) (fun _ => S) (fun _ => wf) (fun ⟨i, b0, f0⟩ => ((l.length : Int) - i).toNat) (fun a_ w_ hs_ hw_ => ⟨⟨0, 0, false⟩, (by (try dsimp only); exact ⟨oO, oO, (.inl ⟨G, G, G⟩)⟩), hs_.mono (Sub.get (.c4 G G G G (.c G (.c G (.c G .n))))), hw_.keep .n⟩) (fun ⟨i, b0, f0⟩ ⟨q_0, q_1, q_2⟩ => ?_)))
 try dsimp only
 refine .seq (.seq (.region (.m G G G (.m G G G (.g underlying73 G G G ?_)))))
 refine .e G G G G G (.go idQ (.condI G bD (fun h1 => ?_) (fun h1 => ?_)))
 ·
  refine .skipgo idQ (.seq (.block (.seq (.seq (.region (.m G G G (.m G G G (.m G G G ?_))))))))
  refine .v (ev_ix G underlying73 ty69 G G oO oO (fun _ _ => Fr.adr (i := i) hA oO oO)) G (.f fo69_1 (ao A + (i).toNat * 2 + 1) G G G G (.v (ev_ld1 G ty3 G (At.elem1 (At.w (Fr.el (i := i) hA oO oO)) 1 G)) G (.e G G G G G ?_)))
  refine .go idQ (.condI G bD (fun h2 => ?_) (fun h2 => ?_))
  ·
   refine .exit idQ ?_
   refine .region (.m G G G (.p ((i + 1)) oO oO G G G G G (.a G G G ?_)))
   exact SP.nil (SQ.roundb (X := Int × Int × Bool) (x := (i, b0, f0)) ⟨(i + 1), b0, f0⟩ (by (try dsimp only); exact ⟨oO, oO, (start_late q_2 oO oO oO)⟩) dO (Sub.get (.c4 G G G G (.c G (.c G (.c G .n))))) (kp .n))
  refine .skipgo idQ (.seq (.region (.m G G G (.m G G G (.v (ev_ix G underlying73 ty69 G G oO oO (fun _ _ => Fr.adr (i := i) hA oO oO)) G ?_)))))
  refine .f fo69_0 (ao A + (i).toNat * 2) G G G G (.v (ev_ld1 G ty3 G (At.elem1 (At.w (Fr.el (i := i) hA oO oO)) 0 G)) G (.a G G G (.go idQ (.seq (.seq (.region ?_))))))
  refine .m G G G (.m G G G (.e G G G G G (.go idQ ?_)))
  refine .condI G bD (fun h3 => ?_) (fun h3 => ?_)
  ·
   refine .region (.m G G G (.a G G G (.go idQ (.seq (.region ?_)))))
   refine .m G G G (.v (ev_not G G) G (.m G G G (.w (fun _ => ev_mv G G) G ?_)))
   refine .w (fun _ => ev_mv G G) G (.w (fun hb => ev_cmp G (lkg G hb) (lkg G hb) G) G (.r G G G G G (.go idQ ?_)))
   refine .condI G (bO (bN bV) bD) (fun h4 => ?_) (fun h4 => ?_)
   ·
    refine .region (.m G G G (.a G G G (.a G G G ?_)))
    refine .go idQ (.region (.m G G G (.p ((i + 1)) oO oO G G G G G (.a G G G ?_))))
    exact SP.nil (SQ.roundb (X := Int × Int × Bool) (x := (i, b0, f0)) ⟨(i + 1), t, true⟩ (by (try dsimp only); exact ⟨oO, oO, (start_take hW q_2 (x := t) oO oO oO oO (by assumption))⟩) dO (Sub.get (.c4 G G G G (.c G (.c G (.c G .n))))) (kp .n))
   refine .skipgo idQ (.region (.m G G G (.p ((i + 1)) oO oO G G G G G (.a G G G ?_))))
   exact SP.nil (SQ.roundb (X := Int × Int × Bool) (x := (i, b0, f0)) ⟨(i + 1), b0, f0⟩ (by (try dsimp only); exact ⟨oO, oO, (start_keep hW q_2 (x := t) oO oO oO oO (by assumption))⟩) dO (Sub.get (.c4 G G G G (.c G (.c G (.c G .n))))) (kp .n))
  refine .skipgo idQ (.seq (.region (.m G G G (.v (ev_not G G) G (.m G G G ?_)))))
  refine .w (fun _ => ev_mv G G) G (.w (fun _ => ev_mv G G) G (.w (fun hb => ev_cmp G (lkg G hb) (lkg G hb) G) G (.r G G G G G ?_)))
  refine .go idQ (.condI G (bO (bN bV) bD) (fun h5 => ?_) (fun h5 => ?_))
  ·
   refine .region (.m G G G (.a G G G (.a G G G ?_)))
   refine .go idQ (.region (.m G G G (.p ((i + 1)) oO oO G G G G G (.a G G G ?_))))
   exact SP.nil (SQ.roundb (X := Int × Int × Bool) (x := (i, b0, f0)) ⟨(i + 1), (gt l i).lo, true⟩ (by (try dsimp only); exact ⟨oO, oO, (start_take hW q_2 (x := ((gt l i).lo)) oO oO oO oO (by assumption))⟩) dO (Sub.get (.c4 G G G G (.c G (.c G (.c G .n))))) (kp .n))
  refine .skipgo idQ (.region (.m G G G (.p ((i + 1)) oO oO G G G G G (.a G G G ?_))))
  exact SP.nil (SQ.roundb (X := Int × Int × Bool) (x := (i, b0, f0)) ⟨(i + 1), b0, f0⟩ (by (try dsimp only); exact ⟨oO, oO, (start_keep hW q_2 (x := ((gt l i).lo)) oO oO oO oO (by assumption))⟩) dO (Sub.get (.c4 G G G G (.c G (.c G (.c G .n))))) (kp .n))
 refine .exit idQ ?_
 refine .seq (.region (.m G G G (.m G G G (.a G G G ?_))))
 refine .a G G G (.go idQ (.ret idQ (ret2 results96 G G .n ⟨(by rw [← start_fin q_2 oO]), G⟩)))
theorem first_ (p : PB) (v : VH) (A : Option Addr) (c : Nat) (l : List Vis) (S : Nat → Prop) (wf : World) (hA : Fr eVis S wf A l) (hPB : PBF S wf p) (hVH : VHF S wf v) (hL : LawP p) (hll : l.length ≤ 60) :
  TR0 prog 92 [.agg (cPB p).toArray, .agg #[.int .i64 v.st, .int .i64 v.en, .slice v.vcA v.vcap.length v.vcc, .int .u64 v.vsk, .int .i64 v.lo, .int .i64 v.hi, .int .i64 v.fix, .int .i64 v.pt, .int .i64 v.pd, .int .i64 v.mt, .slice v.vbA v.brs.length v.vbc], .slice A l.length c] [] S wf (fun v_ C_ => v_ = .int .i64 (checksF p v l) ∧ C_ = []) := by
 have hla := hA.len
 refine TR.mk func92 G ntmps92 G G (fun w_ => ?_)
 refine .seq (.region (.cons (st_boxa G G G G G (fun b1 => (.cons (st_boxa G G G G G (fun b2 => (.a G G G ?_))))))))
 refine .go idQ (.seq (.seq (.region (.d 1 ty29 G G G G (.m G G G (.cons (st_callk G G G G hbd133 G .n (rpairs_ p A c l _ _ hA hPB oO lO) ?_)))))))
 refine .v (ev_not G G) G (.go idQ (.condI G (bN bV) (fun h3 => ?_) (fun h3 => ?_)))
 ·
  refine .seq (.region (.a G G G (.go idQ (.ret idQ (ret1 results92 G .n ⟨(congrArg (Value.int .i64) (ck_161 (by assumption)).symm), G⟩)))))
 refine .skipgo idQ (.seq ?_)
 have hp0 : pairsR p l [] 0 = true := Classical.not_not.1 (by assumption)
 refine .region (.a G G G (.a G G G (.go idQ (.seq (.region ?_)))))
 refine .a G G G (.go idQ (.seq (.seq (.region (.a G G G (.go idQ (.block ?_)))))))
 refine .loop (X := Int × Int × Int × Int) (fun ⟨i, n0, t0, s0⟩ => 0 ≤ i ∧ i ≤ (l.length : Int) ∧ scanR p (l.drop i.toNat) n0 t0 s0 = scanR p l 0 0 0 ∧ (0 ≤ n0 ∧ n0 ≤ i) ∧ (0 ≤ t0 ∧ t0 ≤ i)) (fun ⟨i, n0, t0, s0⟩ => [(2, .slice A l.length c), (3, .pointer (some ⟨b1, 0, none⟩)), (4, .pointer (some ⟨b2, 0, none⟩)), (10, .int .i64 i), (7, .int .i64 n0), (8, .int .i64 t0), (9, .int .u64 s0)]) (fun ⟨i, n0, t0, s0⟩ => [cel b2 [.int .i64 v.st, .int .i64 v.en, .slice v.vcA v.vcap.length v.vcc, .int .u64 v.vsk, .int .i64 v.lo, .int .i64 v.hi, .int .i64 v.fix, .int .i64 v.pt, .int .i64 v.pd, .int .i64 v.mt, .slice v.vbA v.brs.length v.vbc] 72, cel b1 (cPB p) 29]) (fun _ => S) (fun _ => wf) (fun ⟨i, n0, t0, s0⟩ => ((l.length : Int) - i).toNat) (fun a_ w_ hs_ hw_ => ⟨⟨0, 0, 0, 0⟩, (by (try dsimp only); exact ⟨oO, oO, G, oO, oO⟩), hs_.mono (Sub.get (.c4 G G G G (.c G (.c G (.c G .n))))), hw_.keep (.d .n)⟩) (fun ⟨i, n0, t0, s0⟩ ⟨q_0, q_1, q_2, q_3, q_4⟩ => ?_)
 try dsimp only
 refine .seq (.seq (.region (.m G G G (.m G G G (.g underlying52 G G G ?_)))))
 refine .e G G G G G (.go idQ (.condI G bD (fun h4 => ?_) (fun h4 => ?_)))
 ·
  refine .skipgo idQ (.seq (.block (.seq (.region (.m G G G (.m G G G (.v (ev_ix G underlying52 ty92 G G oO oO (fun _ _ => Fr.adr (i := i) hA oO oO)) G ?_)))))))
  refine .f fo92_0 (ao A + (i).toNat * 2) G G G G (.v (ev_ld1 G ty90 G (At.elem1 (At.w (Fr.el (i := i) hA oO oO)) 0 G)) G (.go idQ (.block (.seq (.region (.e G G G G G ?_))))))
  refine .a G G G (.go idQ (.condI G bE (fun h5 => ?_) (fun h5 => ?_)))
  ·
   refine .seq (.seq (.region (.m G G G (.m G G G (.v (ev_ix G underlying52 ty92 G G oO oO (fun _ _ => Fr.adr (i := i) hA oO oO)) G ?_)))))
   refine .f fo92_1 (ao A + (i).toNat * 2 + 1) G G G G (.v (ev_ld1 G ty3 G (At.elem1 (At.w (Fr.el (i := i) hA oO oO)) 1 G)) G (.m G G G (.e G G G G G ?_)))
   refine .go idQ (.condI G bNE (fun h6 => ?_) (fun h6 => ?_))
   ·
    refine .seq (.region (.a G G G (.go idQ (.ret idQ (ret1 results92 G .n ⟨(congrArg (Value.int .i64) (ck_162 hp0 (scan_none (p := p) (t := 0) (s := 0) (by have hq := q_2; rw [drop_gt (x := i) oO oO, scanR_cons, if_pos oO, if_pos oO] at hq; exact hq.symm))).symm), G⟩)))))
   refine .skipgo idQ (.region (.m G G G (.p ((n0 + 1)) oO oO G G G G G (.a G G G ?_))))
   refine .go idQ (.region (.m G G G (.p ((i + 1)) oO oO G G G G G (.a G G G ?_))))
   exact SP.nil (SQ.roundb (X := Int × Int × Int × Int) (x := (i, n0, t0, s0)) ⟨(i + 1), (n0 + 1), t0, s0⟩ (by (try dsimp only); exact ⟨oO, oO, (by have hq := q_2; rw [drop_gt (x := i) oO oO, scanR_cons] at hq; (repeat' split at hq) <;> first | exact hq | contradiction | (exfalso; omega)), oO, oO⟩) dO (Sub.get (.c4 G G G G (.c G (.c G (.c G .n))))) (kp (.d .n)))
  refine .seq (.seq (.region (.e G G G G G (.a G G G (.go idQ ?_)))))
  refine .condI G bE (fun h7 => ?_) (fun h7 => ?_)
  ·
   refine .skipgo idQ (.condI G bE (fun h8 => ?_) (fun h8 => ?_))
   ·
    refine .seq (.region (.m G G G (.m G G G (.v (ev_ix G underlying52 ty92 G G oO oO (fun _ _ => Fr.adr (i := i) hA oO oO)) G ?_))))
    refine .v (ev_lda G G (At.w (Fr.el (i := i) hA oO oO)) ty92) G (.cons (st_callk G G G G hbd27 G .n (rof_ (gt l i) _ _) (.m G G G (.x G G G G ?_))))
    refine .x G G G G (.cons (st_alloc G G G G zf61 (fun b9 => (.cons (st_storea (l' := [.bool ((taskV (gt l i)).ship), .int .i64 ((taskV (gt l i)).item)]) G G G ty61 G G G .h G G (.a G G G ?_))))))
    refine .go idQ (.seq (.region (.d 2 ty29 G G G G (.d 0 ty61 G G G G (.cons (st_callk G G G G hbd28 G .n (facts_ p (taskV (gt l i)) _ _ hPB) ?_))))))
    refine .m G G G (.x G G G G (.x G G G G (.a G G G ?_)))
    refine .a G G G (.go idQ (.seq (.region (.m G G G (.m G G G ?_)))))
    refine .v (ev_bor G G G) G (.a G G G (.go idQ (.region (.m G G G ?_))))
    refine .p ((t0 + 1)) oO oO G G G G G (.a G G G (.go idQ (.region (.m G G G ?_))))
    refine .p ((i + 1)) oO oO G G G G G (.a G G G ?_)
    exact SP.nil (SQ.roundb (X := Int × Int × Int × Int) (x := (i, n0, t0, s0)) ⟨(i + 1), n0, (t0 + 1), (bor .u64 s0 (skilF p (taskV (gt l i))))⟩ (by (try dsimp only); exact ⟨oO, oO, (by have hq := q_2; rw [drop_gt (x := i) oO oO, scanR_cons] at hq; (repeat' split at hq) <;> first | exact hq | contradiction | (exfalso; omega)), oO, oO⟩) dO (Sub.get (.c4 G G G G (.c G (.c G (.c G .n))))) (kp (.c (.t .h) (.c (.t .h) .n))))
   exact absurd h7 h8
  refine .region (.e G G G G G (.a G G G (.go idQ ?_)))
  refine .condI G bE (fun h10 => ?_) (fun h10 => ?_)
  ·
   refine .seq (.region (.m G G G (.m G G G (.v (ev_ix G underlying52 ty92 G G oO oO (fun _ _ => Fr.adr (i := i) hA oO oO)) G ?_))))
   refine .v (ev_lda G G (At.w (Fr.el (i := i) hA oO oO)) ty92) G (.cons (st_callk G G G G hbd27 G .n (rof_ (gt l i) _ _) (.m G G G (.x G G G G ?_))))
   refine .x G G G G (.cons (st_alloc G G G G zf61 (fun b11 => (.cons (st_storea (l' := [.bool ((taskV (gt l i)).ship), .int .i64 ((taskV (gt l i)).item)]) G G G ty61 G G G .h G G (.a G G G ?_))))))
   refine .go idQ (.seq (.region (.d 2 ty29 G G G G (.d 0 ty61 G G G G (.cons (st_callk G G G G hbd28 G .n (facts_ p (taskV (gt l i)) _ _ hPB) ?_))))))
   refine .m G G G (.x G G G G (.x G G G G (.a G G G ?_)))
   refine .a G G G (.go idQ (.seq (.region (.m G G G (.m G G G ?_)))))
   refine .v (ev_bor G G G) G (.a G G G (.go idQ (.region (.m G G G ?_))))
   refine .p ((t0 + 1)) oO oO G G G G G (.a G G G (.go idQ (.region (.m G G G ?_))))
   refine .p ((i + 1)) oO oO G G G G G (.a G G G ?_)
   exact SP.nil (SQ.roundb (X := Int × Int × Int × Int) (x := (i, n0, t0, s0)) ⟨(i + 1), n0, (t0 + 1), (bor .u64 s0 (skilF p (taskV (gt l i))))⟩ (by (try dsimp only); exact ⟨oO, oO, (by have hq := q_2; rw [drop_gt (x := i) oO oO, scanR_cons] at hq; (repeat' split at hq) <;> first | exact hq | contradiction | (exfalso; omega)), oO, oO⟩) dO (Sub.get (.c4 G G G G (.c G (.c G (.c G .n))))) (kp (.c (.t .h) (.c (.t .h) .n))))
  refine .skipgo idQ (.region (.m G G G (.p ((i + 1)) oO oO G G G G G (.a G G G ?_))))
  exact SP.nil (SQ.roundb (X := Int × Int × Int × Int) (x := (i, n0, t0, s0)) ⟨(i + 1), n0, t0, s0⟩ (by (try dsimp only); exact ⟨oO, oO, (by have hq := q_2; rw [drop_gt (x := i) oO oO, scanR_cons] at hq; (repeat' split at hq) <;> first | exact hq | contradiction | (exfalso; omega)), oO, oO⟩) dO (Sub.get (.c4 G G G G (.c G (.c G (.c G .n))))) (kp (.d .n)))
 refine .exit idQ ?_
 refine .seq (.seq ?_)
 have hsc : scanR p l 0 0 0 = some (n0, t0, s0) := by have hq := q_2; rw [drop_end (i := i) oO] at hq; exact hq.symm
 have hss := scan_some (nb := (v.brs.length : Int)) (c := v.vsk) hsc
 refine .region (.m G G G (.f fo72_9 10 G G G G (.l ty70 0 G G G G G ?_)))
 refine .g underlying70 G G G (.e G G G G G (.go idQ (.condI G bNE (fun h12 => ?_) (fun h12 => ?_))))
 ·
  refine .seq (.region (.a G G G (.go idQ (.ret idQ (ret1 results92 G .n ⟨(congrArg (Value.int .i64) (ck_162 hp0 (by rw [hss.1]; exact decide_eq_false oO)).symm), G⟩)))))
 refine .skipgo idQ (.seq (.seq ?_))
 have hb0 : breaksR v.brs.length l 0 = true := by rw [hss.1]; exact decide_eq_true oO
 refine .region (.m G G G (.f fo72_3 3 G G G G (.l ty67 0 G G G G G ?_)))
 refine .v (ev_bandn G G G) G (.e G G G G G (.go idQ (.condI G bNE (fun h13 => ?_) (fun h13 => ?_))))
 ·
  refine .seq (.region (.a G G G (.go idQ (.ret idQ (ret1 results92 G .n ⟨(congrArg (Value.int .i64) (ck_163 hp0 hb0 (fun h_ => (by assumption : ¬ (_ : Int) = 0) (hss.2.2.2 ⟨ban_0, (skills_ref hp0).1 h_⟩))).symm), G⟩)))))
 refine .skipgo idQ (.seq (.seq ?_))
 have hs0 : skillsR p v l = true := (skills_ref hp0).2 (hss.2.2.1 (Classical.not_not.1 (by assumption))).2
 refine .region (.m G G G (.f fo72_8 9 G G G G (.l ty3 0 G G G G G ?_)))
 refine .e G G G G G (.go idQ (.condI G bD (fun h14 => ?_) (fun h14 => ?_)))
 ·
  refine .seq (.region (.a G G G (.go idQ (.ret idQ (ret1 results92 G .n ⟨(congrArg (Value.int .i64) (ck_164 hp0 hb0 hs0 (by rw [hss.2.1]; assumption)).symm), G⟩)))))
 refine .skipgo idQ (.seq ?_)
 have ht0 : ¬ tasksR l 0 > v.mt := by rw [hss.2.1]; assumption
 refine .region (.d 1 ty29 G G G G (.m G G G (.cons (st_call0 G G G G hbd93 G .n (rloads_ p A c l _ _ hA hPB oO lO) (fun v_q17 C_q17 q17 => ?_)))))
 obtain ⟨u15, Y16, p18, rfl, rfl⟩ := q17
 show SP _ _ _ _ _ _ ⟨_, _ :: _ :: _, _, _⟩
 have hY := p18
 have hYl := loads_len hY
 refine .a G G G (.go idQ (.seq (.seq (.region (.a G G G (.go idQ (.block ?_)))))))
 refine .loop (X := Int) (fun j => 0 ≤ j ∧ j ≤ (Y16.length : Int) ∧ allUnder v.vcap ((Y16.map IL.il).drop j.toNat) = allUnder v.vcap (loadsF p l)) (fun j => [(2, .slice A l.length c), (3, .pointer (some ⟨b1, 0, none⟩)), (4, .pointer (some ⟨b2, 0, none⟩)), (10, .int .i64 i), (7, .int .i64 n0), (8, .int .i64 t0), (9, .int .u64 s0), (15, v_q17), (16, .int .i64 j)]) (fun j => [rw_ eIL 22 (v_q17) Y16, nestIL 3 Y16, cel b2 [.int .i64 v.st, .int .i64 v.en, .slice v.vcA v.vcap.length v.vcc, .int .u64 v.vsk, .int .i64 v.lo, .int .i64 v.hi, .int .i64 v.fix, .int .i64 v.pt, .int .i64 v.pd, .int .i64 v.mt, .slice v.vbA v.brs.length v.vbc] 72, cel b1 (cPB p) 29]) (fun _ => S) (fun _ => wf) (fun j => ((Y16.length : Int) - j).toNat) (fun a_ w_ hs_ hw_ => ⟨0, (by (try dsimp only); exact ⟨oO, oO, (by rw [← hY]; rfl)⟩), hs_.mono (Sub.get (.c4 G G G G (.c4 G G G G (.c G .n)))), hw_.keep (.d (.d .n))⟩) (fun j ⟨r_0, r_1, r_2⟩ => ?_)
 try dsimp only
 refine .seq (.seq (.region (.m G G G (.m G G G (.know (row_len 0 G) (fun hv21 => ?_))))))
 obtain ⟨A19, c20, rfl, hv21_1, hv21_2⟩ := hv21
 unfold maxLen at hv21_2
 refine .g underlying173 G G G (.e G G G G G (.go idQ (.condI G bD (fun h22 => ?_) (fun h22 => ?_))))
 ·
  refine .skipgo idQ (.seq (.block (.seq ?_)))
  refine SC.draw mo [] [] .n (fun _ _ _ => sc0) (fun wf_23 hl_23 hx_23 hR_23 => ?_)
  refine SR.m 0 G G G G ?_
  refine SR.m 1 G G G G ?_
  refine SR.z 2 G G (ev_ix G underlying173 ty22 G G oO oO (fun _ _ => Fr.adr (i := j) (Fr.lent (S := S) hR_23 0 G lO) oO oO)) ?_
  refine SR.z 3 G G (ev_ld1 G ty22 G (At.elem1 (At.d (Fr.el (i := j) (Fr.lent (S := S) hR_23 0 G lO) oO oO)) 0 G)) ?_
  refine SR.z 4 G G (ev_fa G fo72_2 G (r := 2) G) ?_
  refine SR.z 5 G G (ev_ld1 G ty22 G (At.d (At.lent hR_23 2 G G))) ?_
  refine SR.o 6 G (st_callk G G G G hbd134 G .n (runder ((gt Y16 j).ilA) ((gt Y16 j).ilc) ((gt Y16 j).il) v.vcA v.vcc v.vcap _ _ ((ILF.lent (S := S) hR_23 1 G) j) (((hVH).ext hx_23).1)) ⟨tt0, ?_⟩)
  refine SR.z 7 G G (ev_not G G) ?_
  refine SR.fin kR hl_23 hx_23 hR_23 .n ?_
  refine SQ.go idQ ?_
  refine .condI G (bN bV) (fun h24 => ?_) (fun h24 => ?_)
  ·
   refine .seq (.region (.a G G G (.go idQ (.ret idQ (ret1 results92 G .n ⟨(congrArg (Value.int .i64) (ck_165 hp0 hb0 hs0 ht0 (by have hq := r_2; rw [drop_gtm (i := j) oO oO, allUnder_cons] at hq; (repeat' split at hq) <;> first | exact hq.symm | contradiction)).symm), G⟩)))))
  refine .skipgo idQ (.region (.m G G G (.p ((j + 1)) oO oO G G G G G (.a G G G ?_))))
  exact SP.nil (SQ.roundb (X := Int) (x := (j)) (j + 1) (by (try dsimp only); exact ⟨oO, oO, (by have hq := r_2; rw [drop_gtm (i := j) oO oO, allUnder_cons] at hq; (repeat' split at hq) <;> first | exact hq | contradiction)⟩) (by show (_ : Nat) < _; omega) (Sub.get (.c4 G G G G (.c4 G G G G (.c G .n)))) (kp (.d (.d .n))))
 refine .exit idQ ?_
 refine .seq ?_
 have hu0 : allUnder v.vcap (loadsF p l) = true := by have hq := r_2; rw [drop_end (i := j) (by simp only [List.length_map]; omega)] at hq; exact hq.symm
 refine .region (.f fo72_0 0 G G G G (.l ty3 2 G G G G G (.a G G G ?_)))
 refine .go idQ (.seq (.seq (.region (.a G G G (.go idQ (.block (.loop (X := Int × Int) (fun ⟨m0, pa⟩ => 0 ≤ m0 ∧ m0 ≤ (l.length : Int) + 1 ∧ (m0 ≤ (l.length : Int) → travelQ p v (l.drop m0.toNat) pa = (travelQ p v l v.st)) ∧ (m0 = (l.length : Int) + 1 → (travelQ p v l v.st) = true)) (fun ⟨m0, pa⟩ => [(2, .slice A l.length c), (3, .pointer (some ⟨b1, 0, none⟩)), (4, .pointer (some ⟨b2, 0, none⟩)), (10, .int .i64 i), (7, .int .i64 n0), (8, .int .i64 t0), (9, .int .u64 s0), (15, .slice A19 Y16.length c20), (16, .int .i64 j), (18, .int .i64 m0), (17, .int .i64 pa)]) (fun ⟨m0, pa⟩ => [rw_ eIL 22 (.slice A19 Y16.length c20) Y16, nestIL 3 Y16, cel b2 [.int .i64 v.st, .int .i64 v.en, .slice v.vcA v.vcap.length v.vcc, .int .u64 v.vsk, .int .i64 v.lo, .int .i64 v.hi, .int .i64 v.fix, .int .i64 v.pt, .int .i64 v.pd, .int .i64 v.mt, .slice v.vbA v.brs.length v.vbc] 72, cel b1 (cPB p) 29]) (fun _ => S) (fun _ => wf) (fun ⟨m0, pa⟩ => ((l.length : Int) + 1 - m0).toNat) (fun a_ w_ hs_ hw_ => ⟨⟨0, v.st⟩, (by (try dsimp only); exact ⟨oO, oO, (fun _ => G), (fun h_ => by omega)⟩), hs_.mono (Sub.get (.c4 G G G G (.c4 G G G G (.c G (.c G (.c G .n)))))), hw_.keep (.d (.d .n))⟩) (fun ⟨m0, pa⟩ ⟨s_0, s_1, s_2, s_3⟩ => ?_))))))))
 try dsimp only
 refine .seq (.seq (.region (.m G G G (.m G G G (.g underlying52 G G G ?_)))))
 refine .e G G G G G (.go idQ (.condI G bD (fun h25 => ?_) (fun h25 => ?_)))
 ·
  refine .skipgo idQ (.seq (.block (.seq (.region (.f fo72_1 1 G G G G (.l ty3 2 G G G G G (.a G G G ?_)))))))
  refine .go idQ (.seq (.seq (.region (.m G G G (.m G G G (.g underlying52 G G G ?_))))))
  refine .e G G G G G (.go idQ (.condI G bD (fun h26 => ?_) (fun h26 => ?_)))
  ·
   refine .seq ?_
   refine SC.draw mo [] [] .n (fun _ _ _ => sc0) (fun wf_27 hl_27 hx_27 hR_27 => ?_)
   refine SR.cut (fun bb28 => ([(2, .slice A l.length c), (3, .pointer (some ⟨b1, 0, none⟩)), (4, .pointer (some ⟨b2, 0, none⟩)), (10, .int .i64 i), (7, .int .i64 n0), (8, .int .i64 t0), (9, .int .u64 s0), (15, .slice A19 Y16.length c20), (16, .int .i64 j), (18, .int .i64 m0), (17, .int .i64 pa), (103, .int .i64 m0), (104, .slice A l.length c), (105, .int .i64 (l.length : Int)), (106, .bool (decide (m0 ≤ (l.length : Int)))), (109, .pointer (some ⟨b2, 1, none⟩)), (110, .int .i64 v.en), (19, .int .i64 v.en), (111, .int .i64 m0), (112, .slice A l.length c), (113, .int .i64 (l.length : Int)), (114, .bool (decide (m0 < (l.length : Int)))), (116, .agg (cPB p).toArray), (117, .slice A l.length c), (118, .int .i64 m0), (119, .pointer (some ⟨(ab A), ao A + (m0).toNat * 2, none⟩)), (120, .agg #[.int .i64 ((gt l m0).kind), .int .i64 ((gt l m0).item)]), (121, .tuple #[.agg #[.int .i64 ((stopD p (gt l m0)).pl), .int .i64 ((stopD p (gt l m0)).srv), .slice ((stopD p (gt l m0)).soA) ((stopD p (gt l m0)).sws.length) ((stopD p (gt l m0)).soc)], .bool (isStop p (gt l m0))]), (115, .tuple #[.agg #[.int .i64 ((stopD p (gt l m0)).pl), .int .i64 ((stopD p (gt l m0)).srv), .slice ((stopD p (gt l m0)).soA) ((stopD p (gt l m0)).sws.length) ((stopD p (gt l m0)).soc)], .bool (isStop p (gt l m0))]), (122, .agg #[.int .i64 ((stopD p (gt l m0)).pl), .int .i64 ((stopD p (gt l m0)).srv), .slice ((stopD p (gt l m0)).soA) ((stopD p (gt l m0)).sws.length) ((stopD p (gt l m0)).soc)]), (123, .bool (isStop p (gt l m0))), (20, .pointer (some ⟨bb28, 0, none⟩)), (21, .bool (isStop p (gt l m0)))], [cel bb28 [.int .i64 ((stopD p (gt l m0)).pl), .int .i64 ((stopD p (gt l m0)).srv), .slice ((stopD p (gt l m0)).soA) ((stopD p (gt l m0)).sws.length) ((stopD p (gt l m0)).soc)] 78, rw_ eIL 22 (.slice A19 Y16.length c20) Y16, nestIL 3 Y16, cel b2 [.int .i64 v.st, .int .i64 v.en, .slice v.vcA v.vcap.length v.vcc, .int .u64 v.vsk, .int .i64 v.lo, .int .i64 v.hi, .int .i64 v.fix, .int .i64 v.pt, .int .i64 v.pd, .int .i64 v.mt, .slice v.vbA v.brs.length v.vbc] 72, cel b1 (cPB p) 29])) S wf (fun bb28 => ?_) (fun key29 => ?_)
   ·
    try dsimp only
    refine SQ.go idQ ?_
    refine .seq (.region (.m G G G (.a G G G (.go idQ (.seq (.region ?_))))))
    refine .m G G G (.go idQ (.condI G bV (fun h30 => ?_) (fun h30 => ?_)))
    ·
     refine .region (.f fo78_0 0 G G G G (.l ty3 0 G G G G G (.a G G G ?_)))
     refine .go idQ (.seq (.seq (.region (.f fo29_1 1 G G G G (.v (ev_lda (cs := [.int .i64 p.tn, .slice p.ptA p.time.length p.ptc]) G G (At.own 4 G G) ty24) G (.m G G G ?_))))))
     refine .m G G G (.cons (st_callk G G G G hbd95 G .n (rcell_ p.tn p.ptA p.ptc p.time pa ((stopD p (gt l m0)).pl) _ _ hPB.1 (by have := hL.tn; have := hL.dn; omega) (by first | exact hL.tlen | (rw [hL.dn]; exact hL.dlen))) (.e G G G G G (.m G G G ?_))))
     refine .w (fun _ => ev_fa G fo29_2 G (r := 3) G) G (.w (fun hb => ev_lda (cs := [.int .i64 p.dn, .slice p.pdA p.dist.length p.pdc]) G (lkg G hb) (At.own 4 G G) ty24) G (.w (fun _ => ev_mv G G) G (.w (fun _ => ev_mv G G) G ?_)))
     refine .cons (st_gcallk G G G G G G hbd95 (fun hb => (lkA1 (lkg G hb) (lkA1 (lkg G hb) (lkA1 (lkg G hb) lkA0)))) .n (fun hb => have hp := bF bD hb; rcell_ p.dn p.pdA p.pdc p.dist pa ((stopD p (gt l m0)).pl) _ _ hPB.2.1 (by have := hL.tn; have := hL.dn; omega) (by first | exact hL.tlen | (rw [hL.dn]; exact hL.dlen))) ?_)
     refine .w (fun hb => ev_cmp G (lkg G hb) G G) G (.r G G G G G (.go idQ (.condI G (bO bD bD) (fun h31 => ?_) (fun h31 => ?_))))
     ·
      refine .seq (.region (.a G G G (.go idQ (.ret idQ (ret1 results92 G .n ⟨(congrArg (Value.int .i64) (ck_166 hp0 hb0 hs0 ht0 hu0 (by have hq := s_2 oO; rw [drop_gt (x := m0) oO oO, travelQ_cons, nextPl_y (by assumption), if_pos (by assumption), travelQ_eq] at hq; exact hq.symm)).symm), G⟩)))))
     refine .skipgo idQ (.region (.m G G G (.a G G G (.go idQ (.region ?_)))))
     refine .m G G G (.p ((m0 + 1)) oO oO G G G G G (.a G G G ?_))
     exact SP.nil (SQ.roundb (X := Int × Int) (x := (m0, pa)) ⟨(m0 + 1), (stopD p (gt l m0)).pl⟩ (by (try dsimp only); exact ⟨oO, oO, (fun _ => by have hq := s_2 oO; rw [drop_gt (x := m0) oO oO, travelQ_cons, nextPl_y (by assumption), if_neg (by assumption)] at hq; exact hq), (fun h_ => by omega)⟩) dO (Sub.get (.c4 G G G G (.c4 G G G G (.c G (.c G (.c G .n)))))) (kp (.c (.t .h) (.c (.t .h) (.c (.t .h) (.c (.t .h) .n))))))
    refine .skipgo idQ (.seq (.seq (.region (.f fo29_1 1 G G G G (.v (ev_lda (cs := [.int .i64 p.tn, .slice p.ptA p.time.length p.ptc]) G G (At.own 4 G G) ty24) G (.m G G G ?_))))))
    refine .m G G G (.cons (st_callk G G G G hbd95 G .n (rcell_ p.tn p.ptA p.ptc p.time pa pa _ _ hPB.1 (by have := hL.tn; have := hL.dn; omega) (by first | exact hL.tlen | (rw [hL.dn]; exact hL.dlen))) (.e G G G G G (.m G G G ?_))))
    refine .w (fun _ => ev_fa G fo29_2 G (r := 3) G) G (.w (fun hb => ev_lda (cs := [.int .i64 p.dn, .slice p.pdA p.dist.length p.pdc]) G (lkg G hb) (At.own 4 G G) ty24) G (.w (fun _ => ev_mv G G) G (.w (fun _ => ev_mv G G) G ?_)))
    refine .cons (st_gcallk G G G G G G hbd95 (fun hb => (lkA1 (lkg G hb) (lkA1 (lkg G hb) (lkA1 (lkg G hb) lkA0)))) .n (fun hb => have hp := bF bD hb; rcell_ p.dn p.pdA p.pdc p.dist pa pa _ _ hPB.2.1 (by have := hL.tn; have := hL.dn; omega) (by first | exact hL.tlen | (rw [hL.dn]; exact hL.dlen))) ?_)
    refine .w (fun hb => ev_cmp G (lkg G hb) G G) G (.r G G G G G (.go idQ (.condI G (bO bD bD) (fun h32 => ?_) (fun h32 => ?_))))
    ·
     refine .seq (.region (.a G G G (.go idQ (.ret idQ (ret1 results92 G .n ⟨(congrArg (Value.int .i64) (ck_166 hp0 hb0 hs0 ht0 hu0 (by have hq := s_2 oO; rw [drop_gt (x := m0) oO oO, travelQ_cons, nextPl_n (by assumption), if_pos (by assumption), travelQ_eq] at hq; exact hq.symm)).symm), G⟩)))))
    refine .skipgo idQ (.region (.m G G G (.a G G G (.go idQ (.region ?_)))))
    refine .m G G G (.p ((m0 + 1)) oO oO G G G G G (.a G G G ?_))
    exact SP.nil (SQ.roundb (X := Int × Int) (x := (m0, pa)) ⟨(m0 + 1), pa⟩ (by (try dsimp only); exact ⟨oO, oO, (fun _ => by have hq := s_2 oO; rw [drop_gt (x := m0) oO oO, travelQ_cons, nextPl_n (by assumption), if_neg (by assumption)] at hq; exact hq), (fun h_ => by omega)⟩) dO (Sub.get (.c4 G G G G (.c4 G G G G (.c G (.c G (.c G .n)))))) (kp (.c (.t .h) (.c (.t .h) (.c (.t .h) (.c (.t .h) .n))))))
   refine SR.z 0 G G (ev_lda (cs := (cPB p)) G G (At.d (At.lent hR_27 3 G G)) ty29) ?_
   refine SR.m 1 G G G G ?_
   refine SR.m 2 G G G G ?_
   refine SR.z 3 G G (ev_ix G underlying52 ty92 G G oO oO (fun _ _ => Fr.adr (i := m0) (Fr.ext hA hx_27) oO oO)) ?_
   refine SR.z 4 G G (ev_lda G G (At.d (Fr.el (i := m0) (Fr.ext hA hx_27) oO oO)) ty92) ?_
   refine SR.two (i := 5) (j := 9) kR ⟨_, G, ?_⟩ ⟨_, G, ?_⟩
   ·
    refine st_callk G G G G hbd94 G .n (rstop_ p (gt l m0) _ _ ((hPB).ext hx_27)) ⟨tt0, ?_⟩
    refine SR.m 6 G G G G ?_
    refine SR.z 7 G G (ev_ext G G G) ?_
    refine SR.z 8 G G (ev_ext G G G) ?_
    refine SR.o 9 G (st_alloc G G G G zf78 (fun b33 => ⟨tt0, ?_⟩))
    refine SR.o 10 G (st_storea (l' := [.int .i64 ((stopD p (gt l m0)).pl), .int .i64 ((stopD p (gt l m0)).srv), .slice ((stopD p (gt l m0)).soA) ((stopD p (gt l m0)).sws.length) ((stopD p (gt l m0)).soc)]) G G G ty78 G G G .h G G ⟨tt0, ?_⟩)
    refine SR.z 11 G G (ev_as G G) ?_
    refine SR.fin kR hl_27 hx_27 hR_27 (.c .n) ?_
    exact SQ.weak (key29 b33) (Sub.get (.c4 G G G G (.c4 G G G G (.c4 G G G G (.c4 G G G G (.c4 G G G G (.c4 G G G G (.c4 G G G G (.c4 G G G G (.c G .n)))))))))) (kp (.d (.d (.c .h .n))))
   refine st_alloc G G G G zf78 (fun b34 => ⟨tt0, ?_⟩)
   refine SR.o 5 G (st_callk G G G G hbd94 G .n (rstop_ p (gt l m0) _ _ ((hPB).ext hx_27)) ⟨tt0, ?_⟩)
   refine SR.m 6 G G G G ?_
   refine SR.z 7 G G (ev_ext G G G) ?_
   refine SR.z 8 G G (ev_ext G G G) ?_
   refine SR.o 10 G (st_storea (l' := [.int .i64 ((stopD p (gt l m0)).pl), .int .i64 ((stopD p (gt l m0)).srv), .slice ((stopD p (gt l m0)).soA) ((stopD p (gt l m0)).sws.length) ((stopD p (gt l m0)).soc)]) G G G ty78 G G G .h G G ⟨tt0, ?_⟩)
   refine SR.z 11 G G (ev_as G G) ?_
   refine SR.fin kR hl_27 hx_27 hR_27 (.c .n) ?_
   exact SQ.weak (key29 b34) (Sub.get (.c4 G G G G (.c4 G G G G (.c4 G G G G (.c4 G G G G (.c4 G G G G (.c4 G G G G (.c4 G G G G (.c4 G G G G (.c G .n)))))))))) (kp (.d (.d (.c .h .n))))
  refine .skipgo idQ (.seq (.seq (.region (.f fo29_1 1 G G G G (.v (ev_lda (cs := [.int .i64 p.tn, .slice p.ptA p.time.length p.ptc]) G G (At.own 3 G G) ty24) G (.m G G G ?_))))))
  refine .m G G G (.cons (st_callk G G G G hbd95 G .n (rcell_ p.tn p.ptA p.ptc p.time pa v.en _ _ hPB.1 (by have := hL.tn; have := hL.dn; omega) (by first | exact hL.tlen | (rw [hL.dn]; exact hL.dlen))) (.e G G G G G (.m G G G ?_))))
  refine .w (fun _ => ev_fa G fo29_2 G (r := 3) G) G (.w (fun hb => ev_lda (cs := [.int .i64 p.dn, .slice p.pdA p.dist.length p.pdc]) G (lkg G hb) (At.own 3 G G) ty24) G (.w (fun _ => ev_mv G G) G (.w (fun _ => ev_mv G G) G ?_)))
  refine .cons (st_gcallk G G G G G G hbd95 (fun hb => (lkA1 (lkg G hb) (lkA1 (lkg G hb) (lkA1 (lkg G hb) lkA0)))) .n (fun hb => have hp := bF bD hb; rcell_ p.dn p.pdA p.pdc p.dist pa v.en _ _ hPB.2.1 (by have := hL.tn; have := hL.dn; omega) (by first | exact hL.tlen | (rw [hL.dn]; exact hL.dlen))) ?_)
  refine .w (fun hb => ev_cmp G (lkg G hb) G G) G (.r G G G G G (.go idQ (.condI G (bO bD bD) (fun h35 => ?_) (fun h35 => ?_))))
  ·
   refine .seq (.region (.a G G G (.go idQ (.ret idQ (ret1 results92 G .n ⟨(congrArg (Value.int .i64) (ck_166 hp0 hb0 hs0 ht0 hu0 (by have hq := s_2 oO; rw [drop_end (i := m0) oO, travelQ_nil, if_pos (by assumption), travelQ_eq] at hq; exact hq.symm)).symm), G⟩)))))
  refine .skipgo idQ (.region (.m G G G (.a G G G (.go idQ (.region ?_)))))
  refine .m G G G (.p ((m0 + 1)) oO oO G G G G G (.a G G G ?_))
  exact SP.nil (SQ.roundb (X := Int × Int) (x := (m0, pa)) ⟨(m0 + 1), v.en⟩ (by (try dsimp only); exact ⟨oO, oO, (fun h_ => by omega), (fun _ => by have hq := s_2 oO; rw [drop_end (i := m0) oO, travelQ_nil, if_neg (by assumption)] at hq; exact hq.symm)⟩) dO (Sub.get (.c4 G G G G (.c4 G G G G (.c G (.c G (.c G .n)))))) (kp (.d (.d .n))))
 refine .exit idQ ?_
 refine .seq (.region (.a G G G (.go idQ (.ret idQ (ret1 results92 G .n ⟨(congrArg (Value.int .i64) (ck_ok hp0 hb0 hs0 ht0 hu0 (by have hq := s_3 oO; rw [travelQ_eq] at hq; exact hq)).symm), G⟩)))))
end Go.Proofs.YtimhdimhdimbjaaGreat.Sx
