import Derived.Test.YtdpmnodiebpjeaaProg
import Derived.Test.YtdpmnodiebpjeaaS4
set_option linter.unusedVariables false
set_option linter.unusedSimpArgs false
set_option linter.unusedSectionVars false
set_option maxRecDepth 20000
set_option maxHeartbeats 1000000
namespace Go.Proofs.Ytdpmnodiebpjeaa.Sx.FQ
open Go Go.SX Go.Proofs
theorem zf29 : (Try.prog.info? 29).bind (fun i => i.zero.map Value.cells) = some (List.toArray [.int .i64 0, .int .i64 0, .slice none 0 0, .int .i64 0, .slice none 0 0, .slice none 0 0, .slice none 0 0, .slice none 0 0]) := by kernel_rfl
theorem zf24 : (Try.prog.info? 24).bind (fun i => i.zero.map Value.cells) = some (List.toArray [.int .i64 0, .slice none 0 0]) := by kernel_rfl
theorem ty24 : ty Try.prog 24 = some (true, 2) := by kernel_rfl
theorem ty72 : ty Try.prog 72 = some (true, 2) := by kernel_rfl
theorem ty29 : ty Try.prog 29 = some (true, 8) := by kernel_rfl
theorem mo : Try.prog.follows .mixedOrders = true := by kernel_rfl
theorem hbd24 : hasBody Try.prog 24 = true := by kernel_rfl
theorem hbd10 : hasBody Try.prog 10 = true := by kernel_rfl
theorem zf35 : (Try.prog.info? 35).bind (fun i => i.zero.map Value.cells) = some (List.toArray [.slice none 0 0]) := by kernel_rfl
theorem ty35 : ty Try.prog 35 = some (true, 1) := by kernel_rfl
theorem fo35_0 : fo Try.prog 35 0 = some 0 := by kernel_rfl
theorem ty33 : ty Try.prog 33 = some (false, 1) := by kernel_rfl
theorem ty43 : ty Try.prog 43 = some (true, 2) := by kernel_rfl
theorem fo43_1 : fo Try.prog 43 1 = some 1 := by kernel_rfl
theorem ty41 : ty Try.prog 41 = some (false, 1) := by kernel_rfl
theorem hbd18 : hasBody Try.prog 18 = true := by kernel_rfl
end Go.Proofs.Ytdpmnodiebpjeaa.Sx.FQ
namespace Go.Proofs.Ytdpmnodiebpjeaa.Sx
open Go Go.SX Go.Proofs FQ
theorem line_ (S : Nat → Prop) (wf : World) :
  TR Try.prog 24 [] [] S wf (fun v_ C_ S_ wf_ => (∃ (q : PB), (PBF S_ wf_ q) ∧ (era q = lineP) ∧ v_ = .agg #[.int .i64 q.dims, .int .i64 q.tn, .slice q.ptA q.time.length q.ptc, .int .i64 q.dn, .slice q.pdA q.dist.length q.pdc, .slice q.pvA q.vehs.length q.pvc, .slice q.pjA q.jobs.length q.pjc, .slice q.psA q.ships.length q.psc]) ∧ C_ = []) := by
 refine TR.mk Try.func24 rfl Try.ntmps24 rfl rfl (fun w_ => ?_)
 refine .seq (.region (.cons (st_alloc rfl rfl rfl rfl zf29 (fun b1 => .go idQ (.seq (.region ?_))))))
 refine .cons (st_lit eZ (e := 3) (l := [0, 10, 10, 0]) rfl rfl rfl rfl (by kernel_rfl) rfl rfl (fun w => by kernel_rfl) (fun b2 => .v (ev_any (v := .agg #[.int .i64 2, .slice (some ⟨b2, 0, none⟩) 4 4]) rfl (by kernel_rfl) (fun _ => by kernel_rfl)) rfl (.cons (st_alloc rfl rfl rfl rfl zf24 (fun b3 => .cons (st_storea (l' := [.int .i64 2, .slice (some ⟨b2, 0, none⟩) 4 4]) rfl rfl rfl ty24 rfl rfl rfl .h rfl rfl (.go idQ (.seq ?_))))))))
 refine .region (.v (ev_any (v := .agg #[.int .i64 0, .int .i64 1000000]) rfl (by kernel_rfl) (fun _ => by kernel_rfl)) rfl (.cons (st_lit eWN (e := 72) (l := [(WN.mk 0 1000000)]) rfl rfl rfl rfl (by kernel_rfl) rfl rfl (fun w => by kernel_rfl) (fun b4 => .a rfl rfl rfl (.go idQ (.seq ?_))))))
 have hw1 : ([(WN.mk 0 1000000)] : List WN).length = 1 := rfl
 refine SC.draw mo [cel b1 [.int .i64 0, .int .i64 0, .slice none 0 0, .int .i64 0, .slice none 0 0, .slice none 0 0, .slice none 0 0, .slice none 0 0] 29] [] (.c (.t (.t (.t .h))) .n) (fun _ _ _ => sc0) (fun wf_5 hl_5 hx_5 hR_5 => ?_)
 refine SR.z 0 rfl rfl (ev_lda (cs := [.int .i64 2, .slice (some ⟨b2, 0, none⟩) 4 4]) rfl rfl (At.d (At.lent hR_5 1 rfl rfl)) ty24) (SR.z 1 rfl rfl (ev_lda (cs := [.int .i64 2, .slice (some ⟨b2, 0, none⟩) 4 4]) rfl rfl (At.d (At.lent hR_5 1 rfl rfl)) ty24) (SR.m 2 rfl rfl rfl rfl (SR.z 3 rfl rfl (ev_ix rfl Try.underlying76 ty72 rfl rfl (by omega) (by omega) (fun _ _ => Fr.adr (i := 0) (Fr.lent (S := S) hR_5 0 rfl (by first | omega | simp only [LL] <;> omega | simp <;> omega)) (by omega) (by omega))) (SR.z 4 rfl rfl (ev_lda rfl rfl (At.d (Fr.el (i := 0) (Fr.lent (S := S) hR_5 0 rfl (by first | omega | simp only [LL] <;> omega | simp <;> omega)) (by omega) (by omega))) ty72) (SR.z 5 rfl rfl (ev_any (v := .agg #[.int .i64 0, .int .i64 0, .slice none 0 0, .int .u64 0, .int .i64 ((gt [(WN.mk 0 1000000)] 0).lo), .int .i64 ((gt [(WN.mk 0 1000000)] 0).hi), .int .i64 0, .int .i64 1, .int .i64 0, .int .i64 12, .slice none 0 0]) rfl (by kernel_rfl) (fun _ => by kernel_rfl)) ?_)))))
 refine SR.m 7 rfl rfl rfl rfl (SR.z 8 rfl rfl (ev_any (v := .agg #[.int .i64 1, .int .i64 5, .slice (some ⟨b4, 0, none⟩) 1 1]) rfl (by kernel_rfl) (fun _ => by kernel_rfl)) (SR.z 9 rfl rfl (ev_any (v := .agg #[.int .i64 1, .int .i64 5, .slice (some ⟨b4, 0, none⟩) 1 1, .slice none 0 0, .slice none 0 0, .int .u64 0, .int .i64 1]) rfl (by kernel_rfl) (fun _ => by kernel_rfl)) (SR.m 10 rfl rfl rfl rfl (SR.z 11 rfl rfl (ev_any (v := .agg #[.int .i64 1, .int .i64 0, .slice (some ⟨b4, 0, none⟩) 1 1]) rfl (by kernel_rfl) (fun _ => by kernel_rfl)) (SR.z 12 rfl rfl (ev_any (v := .agg #[.int .i64 1, .int .i64 0, .slice (some ⟨b4, 0, none⟩) 1 1, .slice none 0 0, .slice none 0 0, .int .u64 0, .int .i64 5]) rfl (by kernel_rfl) (fun _ => by kernel_rfl)) ?_)))))
 refine SR.two (i := 6) (j := 13) (by kernel_rfl) ⟨_, rfl, ?_⟩ ⟨_, rfl, ?_⟩
 ·
  refine st_lit eVH (e := 75) (l := [(VH.mk 0 0 [] 0 ((gt [(WN.mk 0 1000000)] 0).lo) ((gt [(WN.mk 0 1000000)] 0).hi) 0 1 0 12 [] none 0 none 0)]) rfl rfl rfl rfl (by kernel_rfl) rfl rfl (fun w => by kernel_rfl) (fun b6 => ⟨tt0, (SR.o 13 rfl (st_lit eJB (e := 83) (l := [(JB.mk (SO.mk 1 5 [(WN.mk 0 1000000)] (some ⟨b4, 0, none⟩) 1) [] [] 0 1 none 0 none 0), (JB.mk (SO.mk 1 0 [(WN.mk 0 1000000)] (some ⟨b4, 0, none⟩) 1) [] [] 0 5 none 0 none 0)]) rfl rfl rfl rfl (by kernel_rfl) rfl rfl (fun w => by kernel_rfl) (fun b7 => ⟨tt0, (SR.z 14 rfl rfl (ev_any (v := .agg #[.int .i64 0, .int .i64 2, .slice (some ⟨b2, 0, none⟩) 4 4, .int .i64 2, .slice (some ⟨b2, 0, none⟩) 4 4, .slice (some ⟨b6, 0, none⟩) 1 1, .slice (some ⟨b7, 0, none⟩) 2 2, .slice none 0 0]) rfl (by kernel_rfl) (fun _ => by kernel_rfl)) (SR.o 15 rfl (st_storea (l' := [.int .i64 0, .int .i64 2, .slice (some ⟨b2, 0, none⟩) 4 4, .int .i64 2, .slice (some ⟨b2, 0, none⟩) 4 4, .slice (some ⟨b6, 0, none⟩) 1 1, .slice (some ⟨b7, 0, none⟩) 2 2, .slice none 0 0]) rfl rfl rfl ty29 rfl rfl rfl (.t (.t .h)) rfl rfl ⟨tt0, (SR.fin (by kernel_rfl) hl_5 hx_5 hR_5 (.c (.c (.c .n))) (SQ.go idQ ?_))⟩)))⟩)))⟩)
  refine SC.freeze (R := [rw_ eJB 83 (.slice (some ⟨b7, 0, none⟩) 2 2) [(JB.mk (SO.mk 1 5 [(WN.mk 0 1000000)] (some ⟨b4, 0, none⟩) 1) [] [] 0 1 none 0 none 0), (JB.mk (SO.mk 1 0 [(WN.mk 0 1000000)] (some ⟨b4, 0, none⟩) 1) [] [] 0 5 none 0 none 0)], rw_ eVH 75 (.slice (some ⟨b6, 0, none⟩) 1 1) [(VH.mk 0 0 [] 0 ((gt [(WN.mk 0 1000000)] 0).lo) ((gt [(WN.mk 0 1000000)] 0).hi) 0 1 0 12 [] none 0 none 0)], rw_ eWN 72 (.slice (some ⟨b4, 0, none⟩) 1 1) [(WN.mk 0 1000000)], rw_ eZ 3 (.slice (some ⟨b2, 0, none⟩) 4 4) [0, 10, 10, 0]]) (.c (.t .h) (.c (.t .h) (.c (.t .h) (.c (.t (.t .h)) .n)))) (fun Sz8 wfz8 hxz8 hhz8 hsz8 => ?_)
  have hfz8_0 := Fr.of_row (hhz8 _ (by simp)) (fun b hb => hsz8 b (feet_of 0 rfl hb)) (by first | omega | simp only [LL] <;> omega | simp <;> omega)
  have hfz8_1 := Fr.of_row (hhz8 _ (by simp)) (fun b hb => hsz8 b (feet_of 1 rfl hb)) (by first | omega | simp only [LL] <;> omega | simp <;> omega)
  have hfz8_2 := Fr.of_row (hhz8 _ (by simp)) (fun b hb => hsz8 b (feet_of 2 rfl hb)) (by first | omega | simp only [LL] <;> omega | simp <;> omega)
  have hfz8_3 := Fr.of_row (hhz8 _ (by simp)) (fun b hb => hsz8 b (feet_of 3 rfl hb)) (by first | omega | simp only [LL] <;> omega | simp <;> omega)
  exact .ret idQ (retz1 Try.results24 (.c 0 rfl rfl ty29) hxz8 ⟨⟨(PB.mk 0 2 [0, 10, 10, 0] 2 [0, 10, 10, 0] [(VH.mk 0 0 [] 0 ((gt [(WN.mk 0 1000000)] 0).lo) ((gt [(WN.mk 0 1000000)] 0).hi) 0 1 0 12 [] none 0 none 0)] [(JB.mk (SO.mk 1 5 [(WN.mk 0 1000000)] (some ⟨b4, 0, none⟩) 1) [] [] 0 1 none 0 none 0), (JB.mk (SO.mk 1 0 [(WN.mk 0 1000000)] (some ⟨b4, 0, none⟩) 1) [] [] 0 5 none 0 none 0)] [] (some ⟨b2, 0, none⟩) 4 (some ⟨b2, 0, none⟩) 4 (some ⟨b6, 0, none⟩) 1 (some ⟨b7, 0, none⟩) 2 none 0), ⟨hfz8_3, hfz8_3, ⟨hfz8_1, one_all (Φ := VHF _ _) ⟨Fr.nil _ _ _ _, Fr.nil _ _ _ _, fun i => by rw [gt_none]; exact Fr.nil _ _ _ _⟩ VHF.dflt⟩, ⟨hfz8_0, two_all (Φ := JBF _ _) ⟨Fr.nil _ _ _ _, Fr.nil _ _ _ _, hfz8_2⟩ ⟨Fr.nil _ _ _ _, Fr.nil _ _ _ _, hfz8_2⟩ JBF.dflt⟩, ⟨Fr.nil _ _ _ _, fun i => by rw [gt_none]; exact SHF.dflt⟩⟩, rfl, rfl⟩, rfl⟩)
 refine st_lit eJB (e := 83) (l := [(JB.mk (SO.mk 1 5 [(WN.mk 0 1000000)] (some ⟨b4, 0, none⟩) 1) [] [] 0 1 none 0 none 0), (JB.mk (SO.mk 1 0 [(WN.mk 0 1000000)] (some ⟨b4, 0, none⟩) 1) [] [] 0 5 none 0 none 0)]) rfl rfl rfl rfl (by kernel_rfl) rfl rfl (fun w => by kernel_rfl) (fun b9 => ⟨tt0, (SR.o 6 rfl (st_lit eVH (e := 75) (l := [(VH.mk 0 0 [] 0 ((gt [(WN.mk 0 1000000)] 0).lo) ((gt [(WN.mk 0 1000000)] 0).hi) 0 1 0 12 [] none 0 none 0)]) rfl rfl rfl rfl (by kernel_rfl) rfl rfl (fun w => by kernel_rfl) (fun b10 => ⟨tt0, (SR.z 14 rfl rfl (ev_any (v := .agg #[.int .i64 0, .int .i64 2, .slice (some ⟨b2, 0, none⟩) 4 4, .int .i64 2, .slice (some ⟨b2, 0, none⟩) 4 4, .slice (some ⟨b10, 0, none⟩) 1 1, .slice (some ⟨b9, 0, none⟩) 2 2, .slice none 0 0]) rfl (by kernel_rfl) (fun _ => by kernel_rfl)) (SR.o 15 rfl (st_storea (l' := [.int .i64 0, .int .i64 2, .slice (some ⟨b2, 0, none⟩) 4 4, .int .i64 2, .slice (some ⟨b2, 0, none⟩) 4 4, .slice (some ⟨b10, 0, none⟩) 1 1, .slice (some ⟨b9, 0, none⟩) 2 2, .slice none 0 0]) rfl rfl rfl ty29 rfl rfl rfl (.t (.t .h)) rfl rfl ⟨tt0, (SR.fin (by kernel_rfl) hl_5 hx_5 hR_5 (.c (.c (.c .n))) (SQ.go idQ ?_))⟩)))⟩)))⟩)
 refine SC.freeze (R := [rw_ eVH 75 (.slice (some ⟨b10, 0, none⟩) 1 1) [(VH.mk 0 0 [] 0 ((gt [(WN.mk 0 1000000)] 0).lo) ((gt [(WN.mk 0 1000000)] 0).hi) 0 1 0 12 [] none 0 none 0)], rw_ eJB 83 (.slice (some ⟨b9, 0, none⟩) 2 2) [(JB.mk (SO.mk 1 5 [(WN.mk 0 1000000)] (some ⟨b4, 0, none⟩) 1) [] [] 0 1 none 0 none 0), (JB.mk (SO.mk 1 0 [(WN.mk 0 1000000)] (some ⟨b4, 0, none⟩) 1) [] [] 0 5 none 0 none 0)], rw_ eWN 72 (.slice (some ⟨b4, 0, none⟩) 1 1) [(WN.mk 0 1000000)], rw_ eZ 3 (.slice (some ⟨b2, 0, none⟩) 4 4) [0, 10, 10, 0]]) (.c (.t .h) (.c (.t .h) (.c (.t .h) (.c (.t (.t .h)) .n)))) (fun Sz11 wfz11 hxz11 hhz11 hsz11 => ?_)
 have hfz11_0 := Fr.of_row (hhz11 _ (by simp)) (fun b hb => hsz11 b (feet_of 0 rfl hb)) (by first | omega | simp only [LL] <;> omega | simp <;> omega)
 have hfz11_1 := Fr.of_row (hhz11 _ (by simp)) (fun b hb => hsz11 b (feet_of 1 rfl hb)) (by first | omega | simp only [LL] <;> omega | simp <;> omega)
 have hfz11_2 := Fr.of_row (hhz11 _ (by simp)) (fun b hb => hsz11 b (feet_of 2 rfl hb)) (by first | omega | simp only [LL] <;> omega | simp <;> omega)
 have hfz11_3 := Fr.of_row (hhz11 _ (by simp)) (fun b hb => hsz11 b (feet_of 3 rfl hb)) (by first | omega | simp only [LL] <;> omega | simp <;> omega)
 exact .ret idQ (retz1 Try.results24 (.c 0 rfl rfl ty29) hxz11 ⟨⟨(PB.mk 0 2 [0, 10, 10, 0] 2 [0, 10, 10, 0] [(VH.mk 0 0 [] 0 ((gt [(WN.mk 0 1000000)] 0).lo) ((gt [(WN.mk 0 1000000)] 0).hi) 0 1 0 12 [] none 0 none 0)] [(JB.mk (SO.mk 1 5 [(WN.mk 0 1000000)] (some ⟨b4, 0, none⟩) 1) [] [] 0 1 none 0 none 0), (JB.mk (SO.mk 1 0 [(WN.mk 0 1000000)] (some ⟨b4, 0, none⟩) 1) [] [] 0 5 none 0 none 0)] [] (some ⟨b2, 0, none⟩) 4 (some ⟨b2, 0, none⟩) 4 (some ⟨b10, 0, none⟩) 1 (some ⟨b9, 0, none⟩) 2 none 0), ⟨hfz11_3, hfz11_3, ⟨hfz11_0, one_all (Φ := VHF _ _) ⟨Fr.nil _ _ _ _, Fr.nil _ _ _ _, fun i => by rw [gt_none]; exact Fr.nil _ _ _ _⟩ VHF.dflt⟩, ⟨hfz11_1, two_all (Φ := JBF _ _) ⟨Fr.nil _ _ _ _, Fr.nil _ _ _ _, hfz11_2⟩ ⟨Fr.nil _ _ _ _, Fr.nil _ _ _ _, hfz11_2⟩ JBF.dflt⟩, ⟨Fr.nil _ _ _ _, fun i => by rw [gt_none]; exact SHF.dflt⟩⟩, rfl, rfl⟩, rfl⟩)
theorem awake15_ (S : Nat → Prop) (wf : World) :
  TR0 Try.prog 7 [] [] S wf (fun v_ C_ => v_ = .bool true ∧ C_ = []) := by
 refine TR.mk Try.func7 rfl Try.ntmps7 rfl rfl (fun w_ => ?_)
 refine .seq (.region (.a rfl rfl rfl (.go idQ (.seq (.region ?_)))))
 refine .cons (st_call rfl rfl rfl rfl hbd24 rfl .n (line_ _ _) (fun v_q2 C_q2 S_q2 wf_q2 q2 hx_q2 => ?_))
 obtain ⟨⟨q1, p3, p4, rfl⟩, rfl⟩ := q2
 show SP _ _ _ _ _ _ ⟨_, [], _, _⟩
 have hLq : LawP q1 := law_era (p := lineP) p4 line_law
 refine .cons (st_call0 rfl rfl rfl rfl hbd10 rfl .n (sgreedy_ q1 _ _ p3 hLq) (fun v_q7 C_q7 q7 => ?_))
 obtain ⟨u5, R6, p8, rfl, rfl⟩ := q7
 show SP _ _ _ _ _ _ ⟨_, _ :: _ :: _, _, _⟩
 refine .know (row_len 0 rfl) (fun hv11 => ?_)
 obtain ⟨A9, c10, rfl, hv11_1, hv11_2⟩ := hv11
 unfold maxLen at hv11_2
 obtain ⟨hR1, hR2⟩ := awake_ p8 p4
 refine .cons (st_alloc rfl rfl rfl rfl zf35 (fun b12 => .cons (st_storea (l' := [.slice A9 R6.length c10]) rfl rfl rfl ty35 rfl rfl rfl .h rfl rfl (.go idQ (.seq (.region (.v (ev_fa rfl fo35_0 rfl (r := 0) rfl) rfl ?_)))))))
 refine .v (ev_ld1 rfl ty33 rfl (At.own1 0 rfl rfl)) rfl (.v (ev_len rfl Try.underlying33 rfl) rfl (.v (ev_cmp rfl rfl rfl rfl) rfl (.m rfl rfl rfl (.w (fun _ => ev_fa rfl fo35_0 rfl (r := 0) rfl) rfl (.w (fun hb => ev_ld1 rfl ty33 (lkg rfl hb) (At.own1 0 rfl rfl)) rfl ?_)))))
 refine .w (fun hb => have hp := bT bE hb; ev_ix rfl Try.underlying33 ty43 (lkg rfl hb) rfl (by have _h := hp; omega) (by have _h := hp; omega) (row_adr (i := 0) 1 rfl (by have _h := hp; omega) (by have _h := hp; omega))) rfl (.w (fun hb => ev_fa rfl fo43_1 (lkg rfl hb) (r := ao A9 + ((0 : Int)).toNat * 2 + 1) rfl) rfl (.w (fun hb => have hp := bT bE hb; ev_ld1 rfl ty41 (lkg rfl hb) (At.elem1 (row_el (E := eRT) (l := R6) (i := 0) 1 rfl (by have _h := hp; omega) (by have _h := hp; omega)) 1 rfl)) rfl (.w (fun hb => ev_len rfl Try.underlying41 (lkg rfl hb)) rfl (.w (fun hb => ev_cmp rfl (lkg rfl hb) rfl rfl) rfl (.v (ev_and rfl rfl rfl rfl) rfl ?_)))))
 refine .m rfl rfl rfl (.w (fun _ => ev_any (v := .agg #[.bool true, .int .i64 0]) rfl (by kernel_rfl) (fun _ => by kernel_rfl)) rfl ?_)
 rcases Bool.eq_false_or_eq_true (((R6.length : Int) == 1) && ((((gt R6 0).vis.length : Nat) : Int) == 2)) with hb13 | hb13
 ·
  refine SP.reslot (t := 17) rfl hb13 ?_
  have hb13_ := bT (bA bE bE) hb13
  refine .cons (.on rfl rfl rfl (st_call0 rfl rfl rfl rfl hbd18 (lkA1 rfl (lkA1 (lkg rfl hb13) lkA0)) .n (sways_ none 0 ([] : List Vis) (TK.mk true 0) _ _ (Fr.nil _ _ _ _) (by first | omega | simp only [LL] <;> omega | simp <;> omega)) (fun v_q16 C_q16 q16 => ?_)))
  obtain ⟨u14, Y15, p17, rfl, rfl⟩ := q16
  show SP _ _ _ _ _ _ ⟨_, _ :: _ :: _, _, _⟩
  have hY1 : Y15.length = 1 := by have h_ := congrArg List.length p17; rw [List.length_map] at h_; exact h_
  refine .know (row_len 0 rfl) (fun hv20 => ?_)
  obtain ⟨A18, c19, rfl, hv20_1, hv20_2⟩ := hv20
  unfold maxLen at hv20_2
  refine .cons (.on rfl rfl rfl (Ev.step (ev_len rfl Try.underlying51 rfl) rfl rfl rfl (.cons (.on rfl rfl rfl (Ev.step (ev_cmp rfl rfl rfl rfl) rfl rfl rfl (.v (ev_pickt rfl rfl rfl rfl) rfl (.a rfl rfl rfl (.go idQ ?_))))))))
  refine SC.thaw hx_q2 ?_
  exact .ret idQ (ret1 Try.results7 rfl .n ⟨(by rw [hY1]; rfl), rfl⟩)
 refine SP.reslot (t := 17) rfl hb13 ?_
 have hb13_ := bF (bA bE bE) hb13
 exfalso; revert hb13; rw [hR1, hR2]; decide
end Go.Proofs.Ytdpmnodiebpjeaa.Sx
set_option maxRecDepth 20000
set_option maxHeartbeats 1000000
namespace Go.Proofs.Ytdpmnodiebpjeaa.Sx.FR
open Go Go.SX Go.Proofs
theorem zf29 : (Try.prog.info? 29).bind (fun i => i.zero.map Value.cells) = some (List.toArray [.int .i64 0, .int .i64 0, .slice none 0 0, .int .i64 0, .slice none 0 0, .slice none 0 0, .slice none 0 0, .slice none 0 0]) := by kernel_rfl
theorem fo29_1 : fo Try.prog 29 1 = some 1 := by kernel_rfl
theorem fo24_1 : fo Try.prog 24 1 = some 1 := by kernel_rfl
theorem ty22 : ty Try.prog 22 = some (false, 1) := by kernel_rfl
theorem ai3 : (Try.prog.info? 3).map (fun i => (i.zero, i.size, i.bytes)) = some (some (.int .i64 0), 1, 8) := by kernel_rfl
theorem fo29_2 : fo Try.prog 29 2 = some 3 := by kernel_rfl
theorem mo : Try.prog.follows .mixedOrders = true := by kernel_rfl
theorem fo29_3 : fo Try.prog 29 3 = some 5 := by kernel_rfl
theorem ty25 : ty Try.prog 25 = some (false, 1) := by kernel_rfl
theorem fo29_4 : fo Try.prog 29 4 = some 6 := by kernel_rfl
theorem ty26 : ty Try.prog 26 = some (false, 1) := by kernel_rfl
theorem fo29_5 : fo Try.prog 29 5 = some 7 := by kernel_rfl
theorem ty27 : ty Try.prog 27 = some (false, 1) := by kernel_rfl
theorem ty75 : ty Try.prog 75 = some (true, 11) := by kernel_rfl
theorem fo75_2 : fo Try.prog 75 2 = some 2 := by kernel_rfl
theorem fo75_9 : fo Try.prog 75 9 = some 10 := by kernel_rfl
theorem ty73 : ty Try.prog 73 = some (false, 1) := by kernel_rfl
theorem ty78 : ty Try.prog 78 = some (true, 2) := by kernel_rfl
theorem fo78_0 : fo Try.prog 78 0 = some 0 := by kernel_rfl
theorem ty76 : ty Try.prog 76 = some (false, 1) := by kernel_rfl
theorem ai72 : (Try.prog.info? 72).map (fun i => (i.zero, i.size, i.bytes)) = some (some (.agg #[.int .i64 0, .int .i64 0]), 2, 16) := by kernel_rfl
theorem ty83 : ty Try.prog 83 = some (true, 7) := by kernel_rfl
theorem fo83_1 : fo Try.prog 83 1 = some 3 := by kernel_rfl
theorem fo83_2 : fo Try.prog 83 2 = some 4 := by kernel_rfl
theorem fo83_0 : fo Try.prog 83 0 = some 0 := by kernel_rfl
theorem fo81_2 : fo Try.prog 81 2 = some 2 := by kernel_rfl
theorem ty86 : ty Try.prog 86 = some (true, 9) := by kernel_rfl
theorem fo86_2 : fo Try.prog 86 2 = some 6 := by kernel_rfl
theorem fo86_0 : fo Try.prog 86 0 = some 0 := by kernel_rfl
theorem fo86_1 : fo Try.prog 86 1 = some 3 := by kernel_rfl
theorem ty29 : ty Try.prog 29 = some (true, 8) := by kernel_rfl
end Go.Proofs.Ytdpmnodiebpjeaa.Sx.FR
set_option maxRecDepth 20000
set_option maxHeartbeats 1000000
namespace Go.Proofs.Ytdpmnodiebpjeaa.Sx.FT
open Go Go.SX Go.Proofs
theorem hbd7 : hasBody Try.prog 7 = true := by kernel_rfl
theorem ty29 : ty Try.prog 29 = some (true, 8) := by kernel_rfl
theorem hbd10 : hasBody Try.prog 10 = true := by kernel_rfl
theorem hbd9 : hasBody Try.prog 9 = true := by kernel_rfl
theorem mo : Try.prog.follows .mixedOrders = true := by kernel_rfl
end Go.Proofs.Ytdpmnodiebpjeaa.Sx.FT
set_option maxRecDepth 20000
set_option maxHeartbeats 1000000
namespace Go.Proofs.Ytdpmnodiebpjeaa.Sx.FU
open Go Go.SX Go.Proofs
theorem fo35_0 : fo Try.prog 35 0 = some 0 := by kernel_rfl
theorem ty33 : ty Try.prog 33 = some (false, 1) := by kernel_rfl
theorem ty43 : ty Try.prog 43 = some (true, 2) := by kernel_rfl
theorem fo43_1 : fo Try.prog 43 1 = some 1 := by kernel_rfl
theorem ty41 : ty Try.prog 41 = some (false, 1) := by kernel_rfl
theorem ty46 : ty Try.prog 46 = some (true, 2) := by kernel_rfl
theorem mo : Try.prog.follows .mixedOrders = true := by kernel_rfl
theorem zf43 : (Try.prog.info? 43).bind (fun i => i.zero.map Value.cells) = some (List.toArray [.int .i64 0, .slice none 0 0]) := by kernel_rfl
theorem fo43_0 : fo Try.prog 43 0 = some 0 := by kernel_rfl
theorem ty3 : ty Try.prog 3 = some (false, 1) := by kernel_rfl
theorem fo29_3 : fo Try.prog 29 3 = some 5 := by kernel_rfl
theorem ty25 : ty Try.prog 25 = some (false, 1) := by kernel_rfl
theorem ty29 : ty Try.prog 29 = some (true, 8) := by kernel_rfl
theorem zf89 : (Try.prog.info? 89).bind (fun i => i.zero.map Value.cells) = some (List.toArray [.int .i64 0, .slice none 0 0, .int .i64 0, .int .i64 0, .int .i64 0, .int .i64 0, .int .i64 0]) := by kernel_rfl
theorem ty89 : ty Try.prog 89 = some (true, 7) := by kernel_rfl
theorem zf35 : (Try.prog.info? 35).bind (fun i => i.zero.map Value.cells) = some (List.toArray [.slice none 0 0]) := by kernel_rfl
theorem ty35 : ty Try.prog 35 = some (true, 1) := by kernel_rfl
theorem eqIn46 (d : Nat) (x0 y0 : Int) (x1 y1 : Int) (w : World) : (Op.equalIn (d + 3) 46 (.agg #[(.int .i64 x0), (.int .i64 x1)]) (.agg #[(.int .i64 y0), (.int .i64 y1)])).run Try.prog w = .ok ((x0 == y0) && (x1 == y1)) w := by
 rw [run_equalIn_struct w (d + 2) 46 _ _ (by kernel_rfl) (by kernel_rfl)]
 have hf : (Try.prog.fieldsOf 46).toList = [{ name := "Kind", type := 44, offset := 0, embedded := false, tag := "", pkgPath := "", byteOffset := 0 }, { name := "Item", type := 3, offset := 1, embedded := false, tag := "", pkgPath := "", byteOffset := 8 }] := by kernel_rfl
 rw [hf]
 have h44 : ∀ (x y : Int) (w : World), (Op.equalIn (d + 2) 44 (.int .i64 x) (.int .i64 y)).run Try.prog w = .ok (x == y) w := fun x y w => by
  simp [Op.equalIn, run_underlying Try.underlying44]
 have h3 : ∀ (x y : Int) (w : World), (Op.equalIn (d + 2) 3 (.int .i64 x) (.int .i64 y)).run Try.prog w = .ok (x == y) w := fun x y w => by
  simp [Op.equalIn, run_underlying Try.underlying3]
 have p0 : ∀ (x0 : Int) (x1 : Int) (w : World), (part 44 #[(.int .i64 x0), (.int .i64 x1)] 0).run Try.prog w = .ok (.int .i64 x0) w := fun _ _ _ => by kernel_rfl
 have p1 : ∀ (x0 : Int) (x1 : Int) (w : World), (part 3 #[(.int .i64 x0), (.int .i64 x1)] 1).run Try.prog w = .ok (.int .i64 x1) w := fun _ _ _ => by kernel_rfl
 simp only [Op.eqFields, Sem.run_bind, h44, h3, p0, p1, Result.andThen_ok, Sem.run_ite, ne_eq]
 cases g0 : (x0 == y0) <;> cases g1 : (x1 == y1) <;> simp [g0, g1]
theorem ev46_neq (x y : Operand) (x0 y0 : Int) (x1 y1 : Int) (w : World) : (do eqGuard .neq 46 x y (.agg #[(.int .i64 x0), (.int .i64 x1)]) (.agg #[(.int .i64 y0), (.int .i64 y1)]); binOp .neq 46 (.agg #[(.int .i64 x0), (.int .i64 x1)]) (.agg #[(.int .i64 y0), (.int .i64 y1)]) : Sem Value).run Try.prog w = .ok (.bool (!((x0 == y0) && (x1 == y1)))) w := by
 have h1 : (Op.equal 46 (.agg #[(.int .i64 x0), (.int .i64 x1)]) (.agg #[(.int .i64 y0), (.int .i64 y1)])).run Try.prog w = .ok ((x0 == y0) && (x1 == y1)) w := eqIn46 9997 x0 y0 x1 y1 w
 have h2 : (eqGuard .neq 46 x y (.agg #[(.int .i64 x0), (.int .i64 x1)]) (.agg #[(.int .i64 y0), (.int .i64 y1)])).run Try.prog w = .ok () w := by kernel_rfl
 simp only [Sem.run_bind, h2, Result.andThen_ok, binOp, h1]
 rfl
end Go.Proofs.Ytdpmnodiebpjeaa.Sx.FU
set_option maxRecDepth 20000
set_option maxHeartbeats 1000000
namespace Go.Proofs.Ytdpmnodiebpjeaa.Sx.FV
open Go Go.SX Go.Proofs
theorem hbd7 : hasBody Try.prog 7 = true := by kernel_rfl
theorem ty29 : ty Try.prog 29 = some (true, 8) := by kernel_rfl
theorem hbd10 : hasBody Try.prog 10 = true := by kernel_rfl
theorem zf35 : (Try.prog.info? 35).bind (fun i => i.zero.map Value.cells) = some (List.toArray [.slice none 0 0]) := by kernel_rfl
theorem ty35 : ty Try.prog 35 = some (true, 1) := by kernel_rfl
theorem fo35_0 : fo Try.prog 35 0 = some 0 := by kernel_rfl
theorem ty33 : ty Try.prog 33 = some (false, 1) := by kernel_rfl
theorem ty43 : ty Try.prog 43 = some (true, 2) := by kernel_rfl
theorem zf43 : (Try.prog.info? 43).bind (fun i => i.zero.map Value.cells) = some (List.toArray [.int .i64 0, .slice none 0 0]) := by kernel_rfl
theorem fo43_1 : fo Try.prog 43 1 = some 1 := by kernel_rfl
theorem ty41 : ty Try.prog 41 = some (false, 1) := by kernel_rfl
theorem ty46 : ty Try.prog 46 = some (true, 2) := by kernel_rfl
theorem zf46 : (Try.prog.info? 46).bind (fun i => i.zero.map Value.cells) = some (List.toArray [.int .i64 0, .int .i64 0]) := by kernel_rfl
theorem zv4 : (Try.prog.info? 4).bind (fun i => i.zero) = some (.bool false) := by kernel_rfl
end Go.Proofs.Ytdpmnodiebpjeaa.Sx.FV
set_option maxRecDepth 20000
set_option maxHeartbeats 1000000
namespace Go.Proofs.Ytdpmnodiebpjeaa.Sx.FW
open Go Go.SX Go.Proofs
theorem fo35_0 : fo Try.prog 35 0 = some 0 := by kernel_rfl
theorem ty33 : ty Try.prog 33 = some (false, 1) := by kernel_rfl
theorem ty29 : ty Try.prog 29 = some (true, 8) := by kernel_rfl
theorem ty43 : ty Try.prog 43 = some (true, 2) := by kernel_rfl
theorem fo43_0 : fo Try.prog 43 0 = some 0 := by kernel_rfl
theorem ty3 : ty Try.prog 3 = some (false, 1) := by kernel_rfl
theorem fo43_1 : fo Try.prog 43 1 = some 1 := by kernel_rfl
theorem ty41 : ty Try.prog 41 = some (false, 1) := by kernel_rfl
theorem zf89 : (Try.prog.info? 89).bind (fun i => i.zero.map Value.cells) = some (List.toArray [.int .i64 0, .slice none 0 0, .int .i64 0, .int .i64 0, .int .i64 0, .int .i64 0, .int .i64 0]) := by kernel_rfl
theorem ty89 : ty Try.prog 89 = some (true, 7) := by kernel_rfl
theorem mo : Try.prog.follows .mixedOrders = true := by kernel_rfl
theorem fo89_6 : fo Try.prog 89 6 = some 6 := by kernel_rfl
theorem ty46 : ty Try.prog 46 = some (true, 2) := by kernel_rfl
theorem zf46 : (Try.prog.info? 46).bind (fun i => i.zero.map Value.cells) = some (List.toArray [.int .i64 0, .int .i64 0]) := by kernel_rfl
theorem zf54 : (Try.prog.info? 54).bind (fun i => i.zero.map Value.cells) = some (List.toArray [.bool false, .int .i64 0]) := by kernel_rfl
theorem ty54 : ty Try.prog 54 = some (true, 2) := by kernel_rfl
theorem fo46_0 : fo Try.prog 46 0 = some 0 := by kernel_rfl
theorem ty44 : ty Try.prog 44 = some (false, 1) := by kernel_rfl
end Go.Proofs.Ytdpmnodiebpjeaa.Sx.FW
set_option maxRecDepth 20000
set_option maxHeartbeats 1000000
namespace Go.Proofs.Ytdpmnodiebpjeaa.Sx.FX
open Go Go.SX Go.Proofs
theorem hbd7 : hasBody Try.prog 7 = true := by kernel_rfl
theorem ty29 : ty Try.prog 29 = some (true, 8) := by kernel_rfl
theorem zf35 : (Try.prog.info? 35).bind (fun i => i.zero.map Value.cells) = some (List.toArray [.slice none 0 0]) := by kernel_rfl
theorem ty35 : ty Try.prog 35 = some (true, 1) := by kernel_rfl
theorem ty54 : ty Try.prog 54 = some (true, 2) := by kernel_rfl
theorem zf54 : (Try.prog.info? 54).bind (fun i => i.zero.map Value.cells) = some (List.toArray [.bool false, .int .i64 0]) := by kernel_rfl
theorem hbd21 : hasBody Try.prog 21 = true := by kernel_rfl
theorem mo : Try.prog.follows .mixedOrders = true := by kernel_rfl
theorem fo35_0 : fo Try.prog 35 0 = some 0 := by kernel_rfl
theorem ty33 : ty Try.prog 33 = some (false, 1) := by kernel_rfl
theorem ty3 : ty Try.prog 3 = some (false, 1) := by kernel_rfl
end Go.Proofs.Ytdpmnodiebpjeaa.Sx.FX
set_option maxRecDepth 20000
set_option maxHeartbeats 1000000
namespace Go.Proofs.Ytdpmnodiebpjeaa.Sx.FY
open Go Go.SX Go.Proofs
theorem zf35 : (Try.prog.info? 35).bind (fun i => i.zero.map Value.cells) = some (List.toArray [.slice none 0 0]) := by kernel_rfl
theorem fo35_0 : fo Try.prog 35 0 = some 0 := by kernel_rfl
theorem ty33 : ty Try.prog 33 = some (false, 1) := by kernel_rfl
theorem ty43 : ty Try.prog 43 = some (true, 2) := by kernel_rfl
theorem fo43_0 : fo Try.prog 43 0 = some 0 := by kernel_rfl
theorem ty3 : ty Try.prog 3 = some (false, 1) := by kernel_rfl
theorem fo43_1 : fo Try.prog 43 1 = some 1 := by kernel_rfl
theorem ty41 : ty Try.prog 41 = some (false, 1) := by kernel_rfl
theorem ai46 : (Try.prog.info? 46).map (fun i => (i.zero, i.size, i.bytes)) = some (some (.agg #[.int .i64 0, .int .i64 0]), 2, 16) := by kernel_rfl
theorem ai43 : (Try.prog.info? 43).map (fun i => (i.zero, i.size, i.bytes)) = some (some (.agg #[.int .i64 0, .slice none 0 0]), 2, 32) := by kernel_rfl
theorem mo : Try.prog.follows .mixedOrders = true := by kernel_rfl
theorem ty35 : ty Try.prog 35 = some (true, 1) := by kernel_rfl
end Go.Proofs.Ytdpmnodiebpjeaa.Sx.FY
namespace Go.Proofs.Ytdpmnodiebpjeaa.Sx
open Go Go.SX Go.Proofs FY
theorem rcopied_ (A : Option Addr) (c : Nat) (l : List RT) (S : Nat → Prop) (wf : World) (hA : Fr eRT S wf A l) (hRT : RTF S wf l) (hls : l.length ≤ 15) (hvs : ∀ i : Int, (gt l i).vis.length ≤ 50) :
  TR0 Try.prog 15 [.agg #[.slice A l.length c]] [] S wf (fun v_ C_ => ∃ (u : Value) (R : List RT), (R.map rc = l.map rc) ∧ v_ = .agg #[u] ∧ C_ = [rw_ eRT 43 (u) R, nestR 46 R]) := by
 have hla := hA.len
 refine TR.mk Try.func15 rfl Try.ntmps15 rfl rfl (fun w_ => ?_)
 refine .seq (.region (.cons (st_boxa rfl rfl rfl rfl rfl (fun b1 => .cons (st_alloc rfl rfl rfl rfl zf35 (fun b2 => .go idQ (.seq ?_)))))))
 refine .region (.cons (st_alloc rfl rfl rfl rfl zf35 (fun b3 => .go idQ (.seq (.seq (.region ?_))))))
 refine .a rfl rfl rfl (.go idQ (.block ?_))
 refine SC.nilrow eRT 43 ?_
 refine SC.nestR0 46 ?_
 refine .loop (X := Int × (List RT) × Value) (fun ⟨i, O, u_O⟩ => 0 ≤ i ∧ i ≤ (l.length : Int) ∧ O.map rc = (l.map rc).take i.toNat ∧ (O.length : Int) = i) (fun ⟨i, O, u_O⟩ => [(1, .pointer (some ⟨b1, 0, none⟩)), (2, .pointer (some ⟨b2, 0, none⟩)), (3, .pointer (some ⟨b3, 0, none⟩)), (4, .int .i64 i)]) (fun ⟨i, O, u_O⟩ => [nestR 46 O, rw_ eRT 43 (u_O) O, cel b3 [u_O] 35, cel b2 [.slice none 0 0] 35, cel b1 [.slice A l.length c] 35]) (fun _ => S) (fun _ => wf) (fun ⟨i, O, u_O⟩ => ((l.length : Int) - i).toNat) (fun a_ w_ hs_ hw_ => ⟨⟨0, ([] : List RT), .slice none 0 0⟩, (by exact ⟨(by omega), (by omega), rfl, rfl⟩), hs_.mono (Sub.get (.c4 rfl rfl rfl rfl .n)), hw_.keep (.c .h (.c .h (.c .h (.c .h (.c .h .n)))))⟩) (fun ⟨i, O, u_O⟩ ⟨q_0, q_1, q_2, q_3⟩ => ?_)
 show SC _ _ _ _ _ ⟨[(1, .pointer (some ⟨b1, 0, none⟩)), (2, .pointer (some ⟨b2, 0, none⟩)), (3, .pointer (some ⟨b3, 0, none⟩)), (4, .int .i64 i)], [nestR 46 O, rw_ eRT 43 (u_O) O, cel b3 [u_O] 35, cel b2 [.slice none 0 0] 35, cel b1 [.slice A l.length c] 35], S, wf⟩
 refine .seq (.seq (.region (.m rfl rfl rfl (.v (ev_fa rfl fo35_0 rfl (r := 0) rfl) rfl (.v (ev_ld1 rfl ty33 rfl (At.own1 4 rfl rfl)) rfl ?_)))))
 refine .v (ev_len rfl Try.underlying33 rfl) rfl (.v (ev_cmp rfl rfl rfl rfl) rfl (.go idQ (.condI rfl bD (fun h4 => ?_) (fun h4 => ?_))))
 ·
  refine .skipgo idQ (.seq (.block ?_))
  have hvi := hvs i
  refine SC.draw mo [rw_ eRT 43 (u_O) O, cel b3 [u_O] 35] [(20, fun w => At w b3 0 [u_O])] (.c (.t .h) (.c (.t .h) .n)) (fun w_ _ hw_ => (sc1 (At.whole 1 rfl w_ hw_) sc0)) (fun wf_5 hl_5 hx_5 hR_5 => ?_)
  refine SR.z 0 rfl rfl (ev_fa rfl fo35_0 rfl (r := 0) rfl) (SR.z 1 rfl rfl (ev_ld1 rfl ty33 rfl (At.elem1 (v := u_O) (At.ofcs 0 rfl (by kernel_rfl)) 0 rfl)) (SR.z 2 rfl rfl (ev_fa rfl fo35_0 rfl (r := 0) rfl) (SR.z 3 rfl rfl (ev_ld1 rfl ty33 rfl (At.d (At.lent hR_5 2 rfl rfl))) (SR.m 4 rfl rfl rfl rfl (SR.z 5 rfl rfl (ev_ix rfl Try.underlying33 ty43 rfl rfl (by omega) (by omega) (fun _ _ => Fr.adr (i := i) (Fr.ext hA hx_5) (by omega) (by omega))) ?_)))))
  refine SR.z 6 rfl rfl (ev_fa rfl fo43_0 rfl (r := ao A + (i).toNat * 2) rfl) (SR.z 7 rfl rfl (ev_ld1 rfl ty3 rfl (At.elem1 (At.d (Fr.el (i := i) (Fr.ext hA hx_5) (by omega) (by omega))) 0 rfl)) (SR.z 9 rfl rfl (ev_fa rfl fo35_0 rfl (r := 0) rfl) (SR.z 10 rfl rfl (ev_ld1 rfl ty33 rfl (At.d (At.lent hR_5 2 rfl rfl))) (SR.m 11 rfl rfl rfl rfl (SR.z 12 rfl rfl (ev_ix rfl Try.underlying33 ty43 rfl rfl (by omega) (by omega) (fun _ _ => Fr.adr (i := i) (Fr.ext hA hx_5) (by omega) (by omega))) ?_)))))
  refine SR.z 13 rfl rfl (ev_fa rfl fo43_1 rfl (r := ao A + (i).toNat * 2 + 1) rfl) (SR.z 14 rfl rfl (ev_ld1 rfl ty41 rfl (At.elem1 (At.d (Fr.el (i := i) (Fr.ext hA hx_5) (by omega) (by omega))) 1 rfl)) (SR.o 8 rfl (st_lit eVis (e := 46) (l := []) rfl rfl rfl rfl (by kernel_rfl) rfl rfl (fun w => by kernel_rfl) (fun b6 => ⟨ttc (fun w_ hw_ => (tc1 (At.whole 2 rfl w_ hw_) tc0)), (SR.o 15 rfl (st_app0 (E := eVis) (m := (gt l i).vis) rfl rfl rfl rfl Try.underlying41 ai46 rfl rfl rfl .h (by first | rfl | omega | simp) (Src.w (Fr.flat (((hRT).ext hx_5) i))) (by first | omega | simp only [LL] <;> omega | simp <;> omega) rfl (fun v7 => ⟨ttc (fun w_ hw_ => (tc1 (At.whole 2 rfl w_ hw_) tc0)), ?_⟩)))⟩))))
  refine .know (row_len 0 rfl) (fun hv10 => ?_)
  obtain ⟨A8, c9, rfl, hv10_1, hv10_2⟩ := hv10
  unfold maxLen at hv10_2
  refine SR.z 16 rfl rfl (ev_any (v := .agg #[.int .i64 ((gt l i).veh), .slice A8 (((gt l i).vis).length) c9]) rfl (by kernel_rfl) (fun _ => by kernel_rfl)) (SR.o 17 rfl (st_lit eRT (e := 43) (l := [(RT.mk ((gt l i).veh) ((gt l i).vis) A8 c9)]) rfl rfl rfl rfl (by kernel_rfl) rfl rfl (fun w => by kernel_rfl) (fun b11 => ⟨ttc (fun w_ hw_ => (tc1 (At.whole 3 rfl w_ hw_) tc0)), (SR.o 18 rfl (st_app (E := eRT) (m := [(RT.mk ((gt l i).veh) ((gt l i).vis) A8 c9)]) rfl rfl rfl rfl Try.underlying33 ai43 rfl rfl rfl (.t (.t .h)) (by first | rfl | omega | simp) (row_src 0 rfl) (by first | omega | simp only [LL] <;> omega | simp <;> omega) rfl (fun v12 => ⟨ttc (fun w_ hw_ => (tc1 (At.whole 3 rfl w_ hw_) tc0)), (SR.z 19 rfl rfl (ev_fa rfl fo35_0 rfl (r := 0) rfl) ?_)⟩)))⟩)))
  refine .know (row_len 0 rfl) (fun hv15 => ?_)
  obtain ⟨A13, c14, rfl, hv15_1, hv15_2⟩ := hv15
  unfold maxLen at hv15_2
  refine SR.o 20 rfl (st_store1 rfl rfl rfl ty33 rfl rfl rfl (.t (.t (.t .h))) .h ⟨ttc (fun w_ hw_ => (tc2 (by kernel_rfl) tc0)), (SR.fin (by kernel_rfl) hl_5 hx_5 hR_5 (.c (.c (.c (.c .n)))) (SQ.go idQ ?_))⟩)
  refine SC.packR (RT.mk ((gt l i).veh) ((gt l i).vis) A8 c9) (.c (.t (.t (.t (.t .h)))) (.c (.t (.t (.t .h))) .n)) (by dsimp only; (try simp only [List.nil_append]); have := hvs i; omega) ?_
  exact .region (.m rfl rfl rfl (.v (ev_add rfl rfl rfl (r := (i + 1)) rfl (by omega) (by omega)) rfl (.a rfl rfl rfl (SP.nil (SQ.roundb (X := Int × (List RT) × Value) (x := (i, O, u_O)) ⟨(i + 1), (O ++ [(RT.mk ((gt l i).veh) ((gt l i).vis) A8 c9)]), .slice A13 ((O ++ [(RT.mk ((gt l i).veh) ((gt l i).vis) A8 c9)]).length) c14⟩ (by exact ⟨(by omega), (by omega), (by rw [take_gt (by omega) (by simp only [List.length_map]; omega), List.map_append, q_2, gt_mapd rc rc_d]; rfl), (by simp only [List.length_append, List.length_singleton]; omega)⟩) (by dsimp only; omega) (Sub.get (.c4 rfl rfl rfl rfl .n)) (fun w hw => hw.keep (.c .h (.c (.t .h) (.c .h (.c (.t .h) (.c (.t .h) .n)))))))))))
 refine .exit idQ (.seq (.region (.v (ev_lda rfl rfl (At.whole 2 rfl) ty35) rfl ?_)))
 refine .know (row_len 1 rfl) (fun hv18 => ?_)
 obtain ⟨A16, c17, rfl, hv18_1, hv18_2⟩ := hv18
 unfold maxLen at hv18_2
 exact .cons (st_storea (l' := [.slice A16 O.length c17]) rfl rfl rfl ty35 rfl rfl rfl (.t (.t (.t .h))) rfl rfl (.go idQ (.ret idQ (retv1 Try.results15 (.c 0 rfl rfl ty35) (.c (.t (.t .h)) (.c (.t .h) .n)) ⟨.slice A16 O.length c17, O, (by rw [q_2, List.take_of_length_le (by simp only [List.length_map]; omega)]), rfl, rfl⟩))))
theorem short_ (A : Option Addr) (c : Nat) (l : List RT) (S : Nat → Prop) (wf : World) (hA : Fr eRT S wf A l) (hRT : RTF S wf l) (hl8 : l.length ≤ 8) :
  TR0 Try.prog 14 [.agg #[.slice A l.length c]] [] S wf (fun v_ C_ => ∃ (b : Bool), (b = true → ∀ i : Int, 0 ≤ i → i < l.length → (gt l i).vis.length ≤ 30) ∧ v_ = .bool b ∧ C_ = []) := by
 have hla := hA.len
 refine TR.mk Try.func14 rfl Try.ntmps14 rfl rfl (fun w_ => ?_)
 refine .seq (.region (.cons (st_boxa rfl rfl rfl rfl rfl (fun b1 => .a rfl rfl rfl (.go idQ (.seq ?_))))))
 refine .region (.a rfl rfl rfl (.go idQ (.seq (.seq (.region ?_)))))
 refine .v (ev_fa rfl fo35_0 rfl (r := 0) rfl) rfl (.v (ev_ld1 rfl ty33 rfl (At.own1 0 rfl rfl)) rfl (.v (ev_len rfl Try.underlying33 rfl) rfl (.m rfl rfl rfl (.go idQ (.block ?_)))))
 refine .loop (X := Int × Int) (fun ⟨i, s0⟩ => 0 ≤ i ∧ i ≤ (l.length : Int) ∧ (∀ j : Int, 0 ≤ j → j < i → ((gt l j).vis.length : Int) ≤ s0) ∧ (0 ≤ s0 ∧ s0 ≤ 140737488355328 * i)) (fun ⟨i, s0⟩ => [(1, .pointer (some ⟨b1, 0, none⟩)), (2, .bool false), (7, .int .i64 (l.length : Int)), (8, .int .i64 i), (3, .int .i64 s0)]) (fun ⟨i, s0⟩ => [cel b1 [.slice A l.length c] 35]) (fun _ => S) (fun _ => wf) (fun ⟨i, s0⟩ => ((l.length : Int) - i).toNat) (fun a_ w_ hs_ hw_ => ⟨⟨0, 0⟩, (by exact ⟨(by omega), (by omega), (fun j h0_ h1_ => by omega), (by omega)⟩), hs_.mono (Sub.get (.c4 rfl rfl rfl rfl (.c rfl .n))), hw_.keep (.c .h .n)⟩) (fun ⟨i, s0⟩ ⟨q_0, q_1, q_2, q_3⟩ => ?_)
 show SC _ _ _ _ _ ⟨[(1, .pointer (some ⟨b1, 0, none⟩)), (2, .bool false), (7, .int .i64 (l.length : Int)), (8, .int .i64 i), (3, .int .i64 s0)], [cel b1 [.slice A l.length c] 35], S, wf⟩
 refine .seq (.region (.v (ev_cmp rfl rfl rfl rfl) rfl (.go idQ (.seq (.condI rfl bD (fun h2 => ?_) (fun h2 => ?_))))))
 ·
  refine .skipgo idQ (.seq (.block (.seq (.region (.m rfl rfl rfl ?_)))))
  refine .a rfl rfl rfl (.go idQ ?_)
  have hvl := (hRT i).len
  refine .region (.m rfl rfl rfl (.v (ev_fa rfl fo35_0 rfl (r := 0) rfl) rfl (.v (ev_ld1 rfl ty33 rfl (At.own1 0 rfl rfl)) rfl (.m rfl rfl rfl (.v (ev_ix rfl Try.underlying33 ty43 rfl rfl (by omega) (by omega) (fun _ _ => Fr.adr (i := i) hA (by omega) (by omega))) rfl ?_)))))
  refine .v (ev_fa rfl fo43_1 rfl (r := ao A + (i).toNat * 2 + 1) rfl) rfl (.v (ev_ld1 rfl ty41 rfl (At.elem1 (At.w (Fr.el (i := i) hA (by omega) (by omega))) 1 rfl)) rfl (.v (ev_len rfl Try.underlying41 rfl) rfl (.v (ev_add rfl rfl rfl (r := (s0 + (((gt l i).vis.length : Nat) : Int))) rfl (by omega) (by omega)) rfl (.a rfl rfl rfl (.go idQ ?_)))))
  exact .region (.v (ev_add rfl rfl rfl (r := (i + 1)) rfl (by omega) (by omega)) rfl (.m rfl rfl rfl (SP.nil (SQ.roundb (X := Int × Int) (x := (i, s0)) ⟨(i + 1), (s0 + (((gt l i).vis.length : Nat) : Int))⟩ (by exact ⟨(by omega), (by omega), (short_nx q_2 (by omega)), (by omega)⟩) (by dsimp only; omega) (Sub.get (.c4 rfl rfl rfl rfl (.c rfl .n))) (fun w hw => hw.keep (.c .h .n))))))
 refine .exit idQ (.seq (.region (.m rfl rfl rfl (.v (ev_cmp rfl rfl rfl rfl) rfl (.m rfl rfl rfl ?_)))))
 refine .w (fun _ => ev_fa rfl fo35_0 rfl (r := 0) rfl) rfl (.w (fun hb => ev_ld1 rfl ty33 (lkg rfl hb) (At.own1 0 rfl rfl)) rfl (.w (fun hb => ev_len rfl Try.underlying33 (lkg rfl hb)) rfl (.w (fun hb => ev_cmp rfl (lkg rfl hb) rfl rfl) rfl (.v (ev_and rfl rfl rfl rfl) rfl (.a rfl rfl rfl ?_)))))
 exact .go idQ (.ret idQ (ret1 Try.results14 rfl .n ⟨((decide (s0 ≤ 30)) && (decide ((l.length : Int) ≤ 8))), (fun h_ => by rw [Bool.and_eq_true] at h_; have h2_ := of_decide_eq_true h_.1; exact fun j_ h0_ h1_ => by have := q_2 j_ h0_ (by omega); omega), rfl, rfl⟩))
theorem shortb_ (A : Option Addr) (c : Nat) (l : List RT) (S : Nat → Prop) (wf : World) (hA : Fr eRT S wf A l) (hRT : RTF S wf l) (hl9 : 8 < l.length) :
  TR0 Try.prog 14 [.agg #[.slice A l.length c]] [] S wf (fun v_ C_ => v_ = .bool false ∧ C_ = []) := by
 have hla := hA.len
 refine TR.mk Try.func14 rfl Try.ntmps14 rfl rfl (fun w_ => ?_)
 refine .seq (.region (.cons (st_boxa rfl rfl rfl rfl rfl (fun b1 => .a rfl rfl rfl (.go idQ (.seq ?_))))))
 refine .region (.a rfl rfl rfl (.go idQ (.seq (.seq (.region ?_)))))
 refine .v (ev_fa rfl fo35_0 rfl (r := 0) rfl) rfl (.v (ev_ld1 rfl ty33 rfl (At.own1 0 rfl rfl)) rfl (.v (ev_len rfl Try.underlying33 rfl) rfl (.m rfl rfl rfl (.go idQ (.block ?_)))))
 refine .loop (X := Int × Int) (fun ⟨i, s0⟩ => 0 ≤ i ∧ i ≤ (l.length : Int) ∧ True) (fun ⟨i, s0⟩ => [(1, .pointer (some ⟨b1, 0, none⟩)), (2, .bool false), (7, .int .i64 (l.length : Int)), (8, .int .i64 i), (3, .int .i64 s0)]) (fun ⟨i, s0⟩ => [cel b1 [.slice A l.length c] 35]) (fun _ => S) (fun _ => wf) (fun ⟨i, s0⟩ => ((l.length : Int) - i).toNat) (fun a_ w_ hs_ hw_ => ⟨⟨0, 0⟩, (by exact ⟨(by omega), (by omega), trivial⟩), hs_.mono (Sub.get (.c4 rfl rfl rfl rfl (.c rfl .n))), hw_.keep (.c .h .n)⟩) (fun ⟨i, s0⟩ ⟨q_0, q_1, q_2⟩ => ?_)
 show SC _ _ _ _ _ ⟨[(1, .pointer (some ⟨b1, 0, none⟩)), (2, .bool false), (7, .int .i64 (l.length : Int)), (8, .int .i64 i), (3, .int .i64 s0)], [cel b1 [.slice A l.length c] 35], S, wf⟩
 refine .seq (.region (.v (ev_cmp rfl rfl rfl rfl) rfl (.go idQ (.seq (.condI rfl bD (fun h2 => ?_) (fun h2 => ?_))))))
 ·
  refine .skipgo idQ (.seq (.block (.seq (.region (.m rfl rfl rfl ?_)))))
  refine .a rfl rfl rfl (.go idQ ?_)
  have hvl := (hRT i).len
  refine .region (.m rfl rfl rfl (.v (ev_fa rfl fo35_0 rfl (r := 0) rfl) rfl (.v (ev_ld1 rfl ty33 rfl (At.own1 0 rfl rfl)) rfl (.m rfl rfl rfl (.v (ev_ix rfl Try.underlying33 ty43 rfl rfl (by omega) (by omega) (fun _ _ => Fr.adr (i := i) hA (by omega) (by omega))) rfl ?_)))))
  refine .v (ev_fa rfl fo43_1 rfl (r := ao A + (i).toNat * 2 + 1) rfl) rfl (.v (ev_ld1 rfl ty41 rfl (At.elem1 (At.w (Fr.el (i := i) hA (by omega) (by omega))) 1 rfl)) rfl (.v (ev_len rfl Try.underlying41 rfl) rfl (.v (ev_addw rfl rfl rfl rfl) rfl (.a rfl rfl rfl (.go idQ ?_)))))
  exact .region (.v (ev_add rfl rfl rfl (r := (i + 1)) rfl (by omega) (by omega)) rfl (.m rfl rfl rfl (SP.nil (SQ.roundb (X := Int × Int) (x := (i, s0)) ⟨(i + 1), (IntKind.i64.wrap (s0 + (((gt l i).vis.length : Nat) : Int)))⟩ (by exact ⟨(by omega), (by omega), trivial⟩) (by dsimp only; omega) (Sub.get (.c4 rfl rfl rfl rfl (.c rfl .n))) (fun w hw => hw.keep (.c .h .n))))))
 refine .exit idQ (.seq (.region (.m rfl rfl rfl (.v (ev_cmp rfl rfl rfl rfl) rfl (.m rfl rfl rfl ?_)))))
 refine .w (fun _ => ev_fa rfl fo35_0 rfl (r := 0) rfl) rfl (.w (fun hb => ev_ld1 rfl ty33 (lkg rfl hb) (At.own1 0 rfl rfl)) rfl (.w (fun hb => ev_len rfl Try.underlying33 (lkg rfl hb)) rfl (.w (fun hb => ev_cmp rfl (lkg rfl hb) rfl rfl) rfl (.v (ev_and rfl rfl rfl rfl) rfl (.a rfl rfl rfl ?_)))))
 exact .go idQ (.ret idQ (ret1 Try.results14 rfl .n ⟨(congrArg Value.bool (by rw [Bool.and_eq_false_iff]; exact .inr (decide_eq_false (by omega)))), rfl⟩))
end Go.Proofs.Ytdpmnodiebpjeaa.Sx
set_option maxRecDepth 20000
set_option maxHeartbeats 1000000
namespace Go.Proofs.Ytdpmnodiebpjeaa.Sx.FZ
open Go Go.SX Go.Proofs
theorem hbd7 : hasBody Try.prog 7 = true := by kernel_rfl
theorem ty35 : ty Try.prog 35 = some (true, 1) := by kernel_rfl
theorem hbd14 : hasBody Try.prog 14 = true := by kernel_rfl
theorem hbd15 : hasBody Try.prog 15 = true := by kernel_rfl
theorem ai46 : (Try.prog.info? 46).map (fun i => (i.zero, i.size, i.bytes)) = some (some (.agg #[.int .i64 0, .int .i64 0]), 2, 16) := by kernel_rfl
theorem zf35 : (Try.prog.info? 35).bind (fun i => i.zero.map Value.cells) = some (List.toArray [.slice none 0 0]) := by kernel_rfl
theorem hbd16 : hasBody Try.prog 16 = true := by kernel_rfl
theorem hbd17 : hasBody Try.prog 17 = true := by kernel_rfl
theorem fo35_0 : fo Try.prog 35 0 = some 0 := by kernel_rfl
theorem ty33 : ty Try.prog 33 = some (false, 1) := by kernel_rfl
theorem ty43 : ty Try.prog 43 = some (true, 2) := by kernel_rfl
theorem fo43_1 : fo Try.prog 43 1 = some 1 := by kernel_rfl
theorem ty41 : ty Try.prog 41 = some (false, 1) := by kernel_rfl
theorem ty46 : ty Try.prog 46 = some (true, 2) := by kernel_rfl
theorem hbd18 : hasBody Try.prog 18 = true := by kernel_rfl
theorem fo46_0 : fo Try.prog 46 0 = some 0 := by kernel_rfl
theorem ty44 : ty Try.prog 44 = some (false, 1) := by kernel_rfl
theorem hbd9 : hasBody Try.prog 9 = true := by kernel_rfl
theorem hbd19 : hasBody Try.prog 19 = true := by kernel_rfl
end Go.Proofs.Ytdpmnodiebpjeaa.Sx.FZ
namespace Go.Proofs.Ytdpmnodiebpjeaa.Sx
open Go Go.SX Go.Proofs FZ
theorem seedOwn_ (A : Option Addr) (c : Nat) (l : List RT) (v : Int) (B : Option Addr) (d : Nat) (m : List Vis) (S : Nat → Prop) (wf : World) (hA : Fr eRT S wf A l) (hB : Fr eVis S wf B m) (hRT : RTF S wf l) (hl8 : l.length ≤ 8) :
  TR0 Try.prog 5 [.agg #[.slice A l.length c], .int .i64 v, .slice B m.length d] [] S wf (fun v_ C_ => v_ = .bool true ∧ C_ = []) := by
 have hla := hA.len
 have hlb := hB.len
 refine TR.mk Try.func5 rfl Try.ntmps5 rfl rfl (fun w_ => ?_)
 refine .seq (.region (.cons (st_boxa rfl rfl rfl rfl rfl (fun b1 => .a rfl rfl rfl (.go idQ (.seq ?_))))))
 refine .seq (.region (.cons (st_callk rfl rfl rfl rfl hbd7 rfl .n (awake15_ _ _) (.v (ev_not rfl rfl) rfl (.go idQ (.cond_f rfl ?_))))))
 refine .skipgo idQ (.seq (.seq (.region (.m rfl rfl rfl (.v (ev_len rfl Try.underlying41 rfl) rfl ?_)))))
 refine .v (ev_cmp rfl rfl rfl rfl) rfl (.m rfl rfl rfl (.w (fun _ => ev_lda rfl rfl (At.whole 0 rfl) ty35) rfl ?_))
 rcases Bool.eq_false_or_eq_true (decide ((m.length : Int) > 20)) with hb2 | hb2
 ·
  refine SP.reslot (t := 24) rfl hb2 ?_
  have hb2_ := bT bD hb2
  refine .cons (.off rfl rfl rfl rfl rfl rfl (.cons (.off rfl rfl rfl rfl rfl rfl (.v (ev_pickt rfl rfl rfl rfl) rfl (.go idQ (.cond_t rfl (.seq ?_)))))))
  exact .region (.a rfl rfl rfl (.go idQ (.ret idQ (ret1 Try.results5 rfl .n ⟨rfl, rfl⟩))))
 refine SP.reslot (t := 24) rfl hb2 ?_
 have hb2_ := bF bD hb2
 refine .cons (.on rfl rfl rfl (st_call00 rfl rfl rfl rfl hbd14 (lkA1 (lkg rfl hb2) lkA0) .n (short_ A c l _ _ hA hRT (by first | omega | simp only [LL] <;> omega | simp <;> omega)) (by intro v C h; obtain ⟨_, _, rfl, rfl⟩ := h; rfl) (fun v_q4 q4 => ?_)))
 obtain ⟨b3, p5, rfl, -⟩ := q4
 refine .cons (.on rfl rfl rfl (Ev.step (ev_not rfl rfl) rfl rfl rfl (.v (ev_pickf rfl rfl rfl rfl) rfl (.go idQ (.condI rfl (bN bV) (fun h6 => ?_) (fun h6 => ?_))))))
 ·
  exact .seq (.region (.a rfl rfl rfl (.go idQ (.ret idQ (ret1 Try.results5 rfl .n ⟨rfl, rfl⟩)))))
 refine .skipgo idQ (.seq ?_)
 have hvs0 := p5 (by first | assumption | exact Classical.not_not.1 (by assumption) | (simp_all; done))
 have hvs : ∀ i_ : Int, (gt l i_).vis.length ≤ 50 := vis_tot hvs0 (by decide)
 refine .region (.v (ev_lda rfl rfl (At.whole 0 rfl) ty35) rfl (.cons (st_call0 rfl rfl rfl rfl hbd15 rfl .n (rcopied_ A c l _ _ hA hRT (by first | omega | simp only [LL] <;> omega | simp <;> omega) hvs) (fun v_q9 C_q9 q9 => ?_))))
 obtain ⟨u7, R8, p10, rfl, rfl⟩ := q9
 show SP _ _ _ _ _ _ ⟨_, _ :: _ :: _, _, _⟩
 refine .know (row_len 0 rfl) (fun hv13 => ?_)
 obtain ⟨A11, c12, rfl, hv13_1, hv13_2⟩ := hv13
 unfold maxLen at hv13_2
 have hR0l : R8.length = l.length := by have h_ := congrArg List.length p10; simpa using h_
 have hR0v : ∀ i_ : Int, (gt R8 i_).vis.length ≤ 50 := fun i_ => by have h_ : rc (gt R8 i_) = rc (gt l i_) := (by rw [← gt_mapd rc rc_d, ← gt_mapd rc rc_d, p10]); have h2_ : (gt R8 i_).vis = (gt l i_).vis := congrArg Prod.snd h_; rw [h2_]; exact hvs i_
 refine .cons (st_lit eVis (e := 46) (l := []) rfl rfl rfl rfl (by kernel_rfl) rfl rfl (fun w => by kernel_rfl) (fun b15 => .m rfl rfl rfl (.cons (st_app0 (E := eVis) (m := m) rfl rfl rfl rfl Try.underlying41 ai46 rfl rfl rfl .h (by first | rfl | omega | simp) (Src.w (Fr.flat hB)) (by first | omega | simp only [LL] <;> omega | simp <;> omega) rfl (fun v16 => .cons (st_alloc rfl rfl rfl rfl zf35 (fun b17 => .cons (st_storea (l' := [.slice A11 R8.length c12]) rfl rfl rfl ty35 rfl rfl rfl .h rfl rfl (.a rfl rfl rfl ?_)))))))))
 refine .go idQ (.seq (.region (.v (ev_lda rfl rfl (At.whole 0 rfl) ty35) rfl (.m rfl rfl rfl (.m rfl rfl rfl ?_)))))
 refine .know (row_len 1 rfl) (fun hv20 => ?_)
 obtain ⟨A18, c19, rfl, hv20_1, hv20_2⟩ := hv20
 unfold maxLen at hv20_2
 refine .cons (st_lend0 rfl rfl rfl rfl hbd16 rfl .n (.c (.t (.t .h)) (.c (.t .h) (.c (.t .h) .n))) (fun w_ hw => swith_ A11 c12 R8 v A18 c19 m _ _ (Fr.lend hw 0 rfl (by first | omega | simp only [LL] <;> omega | simp <;> omega)) (Fr.lend hw 1 rfl (by first | omega | simp only [LL] <;> omega | simp <;> omega)) (RTF.lend hw 2 rfl) (by first | omega | simp only [LL] <;> omega | simp <;> omega) hR0v (by first | omega | simp only [LL] <;> omega | simp <;> omega)) (fun v_q23 C_q23 q23 => ?_))
 obtain ⟨u21, R22, p24, rfl, rfl⟩ := q23
 show SP _ _ _ _ _ _ ⟨_, _ :: _ :: _ :: _ :: _ :: _, _, _⟩
 refine .know (row_len 0 rfl) (fun hv27 => ?_)
 obtain ⟨A25, c26, rfl, hv27_1, hv27_2⟩ := hv27
 unfold maxLen at hv27_2
 have hRBw : RBd 50 (withF (R8.map rc) v m) := fun r_ hr_ => by rcases with_mem hr_ with ⟨h_, _⟩ | ⟨rfl, _⟩; exact RBd_of (fun i_ => by have := hR0v i_; omega) r_ h_; (show (m.length : Int) ≤ 50); omega
 have hR1v : ∀ i_ : Int, (gt R22 i_).vis.length ≤ 50 := fun i_ => by have h_ := RBd_gt (b := 50) (l := R22) (by rw [p24]; exact hRBw) (by omega) i_; omega
 have hR1l : R22.length ≤ 16 := by have h_ := with_len (s := R8.map rc) (v := v) (l := m); rw [← p24, List.length_map, List.length_map] at h_; omega
 refine .cons (st_alloc rfl rfl rfl rfl zf35 (fun b28 => .cons (st_storea (l' := [.slice A25 R22.length c26]) rfl rfl rfl ty35 rfl rfl rfl .h rfl rfl (.go idQ (.seq (.region (.v (ev_lda rfl rfl (At.whole 6 rfl) ty35) rfl ?_)))))))
 refine .m rfl rfl rfl (.cons (st_lend0 rfl rfl rfl rfl hbd17 rfl .n (.c (.t (.t (.t .h))) (.c (.t (.t (.t (.t .h)))) .n)) (fun w_ hw => svisits_ A11 c12 R8 v _ _ (Fr.lend hw 0 rfl (by first | omega | simp only [LL] <;> omega | simp <;> omega)) (RTF.lend hw 1 rfl) (by first | omega | simp only [LL] <;> omega | simp <;> omega) hR0v) (fun v_q30 C_q30 q30 => ?_)))
 obtain ⟨u29, rfl, rfl⟩ := q30
 show SP _ _ _ _ _ _ ⟨_, _ :: _ :: _ :: _, _, _⟩
 have hvl : (visR v (R8.map rc)).length ≤ 50 := by have h_ := visR_bd (v := v) (b := 50) (s := R8.map rc) (RBd_of (fun i_ => by have := hR0v i_; omega)) (by omega); omega
 refine .a rfl rfl rfl (.go idQ (.seq (.seq (.region (.v (ev_fa rfl fo35_0 rfl (r := 0) rfl) rfl ?_)))))
 refine .v (ev_ld1 rfl ty33 rfl (At.own1 3 rfl rfl)) rfl (.v (ev_len rfl Try.underlying33 rfl) rfl (.m rfl rfl rfl (.go idQ (.block ?_))))
 refine .loop (X := Int × (List RT)) (fun ⟨i, N1⟩ => 0 ≤ i ∧ i ≤ ((R22.length : Nat) : Int) ∧ N1.length = R22.length ∧ (∀ j : Int, i ≤ j → gt N1 j = gt R22 j)) (fun ⟨i, N1⟩ => [(2, .slice B m.length d), (3, .pointer (some ⟨b1, 0, none⟩)), (6, .bool false), (7, .pointer (some ⟨b17, 0, none⟩)), (8, .slice A18 m.length c19), (9, .pointer (some ⟨b28, 0, none⟩)), (10, v_q30), (43, .int .i64 (R22.length : Int)), (44, .int .i64 i)]) (fun ⟨i, N1⟩ => [rw_ eVis 46 (v_q30) (visR v (R8.map rc)), rw_ eRT 43 (.slice A11 R8.length c12) R8, nestR 46 R8, cel b28 [.slice A25 R22.length c26] 35, rw_ eRT 43 (.slice A25 R22.length c26) R22, nestR 46 N1, rw_ eVis 46 (.slice A18 m.length c19) m, cel b17 [.slice A11 R8.length c12] 35, cel b1 [.slice A l.length c] 35]) (fun _ => S) (fun _ => wf) (fun ⟨i, N1⟩ => (((R22.length : Nat) : Int) - i).toNat) (fun a_ w_ hs_ hw_ => ⟨⟨0, R22⟩, (by exact ⟨(by omega), (by omega), rfl, (fun _ _ => rfl)⟩), hs_.mono (Sub.get (.c4 rfl rfl rfl rfl (.c4 rfl rfl rfl rfl (.c rfl .n)))), hw_.keep (.c .h (.c .h (.c .h (.c .h (.c .h (.c .h (.c .h (.c .h (.c .h .n)))))))))⟩) (fun ⟨i, N1⟩ ⟨q_0, q_1, q_2, q_3⟩ => ?_)
 show SC _ _ _ _ _ ⟨[(2, .slice B m.length d), (3, .pointer (some ⟨b1, 0, none⟩)), (6, .bool false), (7, .pointer (some ⟨b17, 0, none⟩)), (8, .slice A18 m.length c19), (9, .pointer (some ⟨b28, 0, none⟩)), (10, v_q30), (43, .int .i64 (R22.length : Int)), (44, .int .i64 i)], [rw_ eVis 46 (v_q30) (visR v (R8.map rc)), rw_ eRT 43 (.slice A11 R8.length c12) R8, nestR 46 R8, cel b28 [.slice A25 R22.length c26] 35, rw_ eRT 43 (.slice A25 R22.length c26) R22, nestR 46 N1, rw_ eVis 46 (.slice A18 m.length c19) m, cel b17 [.slice A11 R8.length c12] 35, cel b1 [.slice A l.length c] 35], S, wf⟩
 refine .seq (.region (.v (ev_cmp rfl rfl rfl rfl) rfl (.go idQ (.seq (.condI rfl bD (fun h31 => ?_) (fun h31 => ?_))))))
 ·
  refine .skipgo idQ (.seq (.block (.seq (.region (.m rfl rfl rfl ?_)))))
  refine .a rfl rfl rfl (.go idQ (.seq (.region (.v (ev_fa rfl fo35_0 rfl (r := 0) rfl) rfl (.v (ev_ld1 rfl ty33 rfl (At.own1 3 rfl rfl)) rfl ?_)))))
  refine .m rfl rfl rfl (.v (ev_ix rfl Try.underlying33 ty43 rfl rfl (by omega) (by omega) (row_adr (i := i) 4 rfl (by omega) (by omega))) rfl (.v (ev_fa rfl fo43_1 rfl (r := ao A25 + (i).toNat * 2 + 1) rfl) rfl (.v (ev_ld1 rfl ty41 rfl (At.elem1 (row_el (E := eRT) (l := R22) (i := i) 4 rfl (by omega) (by omega)) 1 rfl)) rfl (.v (ev_len rfl Try.underlying41 rfl) rfl (.m rfl rfl rfl ?_)))))
  refine .go idQ (.block ?_)
  have hni : gt N1 i = gt R22 i := q_3 i (Int.le_refl _)
  refine SC.outR (l := N1) (i := i) (by omega) (by omega) (.c (.t (.t (.t (.t (.t .h))))) .n) (fun hbi => ?_)
  rw [hni] at hbi ⊢
  refine .loop (X := Int × (List Vis)) (fun ⟨k, W⟩ => 0 ≤ k ∧ k ≤ (((gt R22 i).vis.length : Nat) : Int) ∧ W.length = (gt R22 i).vis.length) (fun ⟨k, W⟩ => [(2, .slice B m.length d), (3, .pointer (some ⟨b1, 0, none⟩)), (6, .bool false), (7, .pointer (some ⟨b17, 0, none⟩)), (8, .slice A18 m.length c19), (9, .pointer (some ⟨b28, 0, none⟩)), (10, v_q30), (43, .int .i64 (R22.length : Int)), (44, .int .i64 i), (11, .int .i64 i), (53, .int .i64 (((gt R22 i).vis.length : Nat) : Int)), (54, .int .i64 k)]) (fun ⟨k, W⟩ => [rw_ eVis 46 (.slice ((gt R22 i).rA) ((gt R22 i).vis.length) ((gt R22 i).rc)) W, nestR 46 (N1.take (i).toNat ++ N1.drop (i + 1).toNat), rw_ eVis 46 (v_q30) (visR v (R8.map rc)), rw_ eRT 43 (.slice A11 R8.length c12) R8, nestR 46 R8, cel b28 [.slice A25 R22.length c26] 35, rw_ eRT 43 (.slice A25 R22.length c26) R22, rw_ eVis 46 (.slice A18 m.length c19) m, cel b17 [.slice A11 R8.length c12] 35, cel b1 [.slice A l.length c] 35]) (fun _ => S) (fun _ => wf) (fun ⟨k, W⟩ => ((((gt R22 i).vis.length : Nat) : Int) - k).toNat) (fun a_ w_ hs_ hw_ => ⟨⟨0, (gt R22 i).vis⟩, (by exact ⟨(by omega), (by omega), rfl⟩), hs_.mono (Sub.get (.c4 rfl rfl rfl rfl (.c4 rfl rfl rfl rfl (.c4 rfl rfl rfl rfl .n)))), hw_.keep (.c .h (.c .h (.c .h (.c .h (.c .h (.c .h (.c .h (.c .h (.c .h (.c .h .n))))))))))⟩) (fun ⟨k, W⟩ ⟨r_0, r_1, r_2⟩ => ?_)
  show SC _ _ _ _ _ ⟨[(2, .slice B m.length d), (3, .pointer (some ⟨b1, 0, none⟩)), (6, .bool false), (7, .pointer (some ⟨b17, 0, none⟩)), (8, .slice A18 m.length c19), (9, .pointer (some ⟨b28, 0, none⟩)), (10, v_q30), (43, .int .i64 (R22.length : Int)), (44, .int .i64 i), (11, .int .i64 i), (53, .int .i64 (((gt R22 i).vis.length : Nat) : Int)), (54, .int .i64 k)], [rw_ eVis 46 (.slice ((gt R22 i).rA) ((gt R22 i).vis.length) ((gt R22 i).rc)) W, nestR 46 (N1.take (i).toNat ++ N1.drop (i + 1).toNat), rw_ eVis 46 (v_q30) (visR v (R8.map rc)), rw_ eRT 43 (.slice A11 R8.length c12) R8, nestR 46 R8, cel b28 [.slice A25 R22.length c26] 35, rw_ eRT 43 (.slice A25 R22.length c26) R22, rw_ eVis 46 (.slice A18 m.length c19) m, cel b17 [.slice A11 R8.length c12] 35, cel b1 [.slice A l.length c] 35], S, wf⟩
  refine .seq (.region (.v (ev_cmp rfl rfl rfl rfl) rfl (.go idQ (.seq (.condI rfl bD (fun h32 => ?_) (fun h32 => ?_))))))
  ·
   refine .skipgo idQ (.seq (.block (.seq (.region (.m rfl rfl rfl ?_)))))
   refine .a rfl rfl rfl (.go idQ (.region (.v (ev_fa rfl fo35_0 rfl (r := 0) rfl) rfl (.v (ev_ld1 rfl ty33 rfl (At.own1 5 rfl rfl)) rfl (.m rfl rfl rfl ?_)))))
   refine .v (ev_ix rfl Try.underlying33 ty43 rfl rfl (by omega) (by omega) (row_adr (i := i) 6 rfl (by omega) (by omega))) rfl (.v (ev_fa rfl fo43_1 rfl (r := ao A25 + (i).toNat * 2 + 1) rfl) rfl (.v (ev_ld1 rfl ty41 rfl (At.elem1 (row_el (E := eRT) (l := R22) (i := i) 6 rfl (by omega) (by omega)) 1 rfl)) rfl (.m rfl rfl rfl (.v (ev_any (v := .agg #[.int .i64 99, .int .i64 0]) rfl (by kernel_rfl) (fun _ => by kernel_rfl)) rfl (.v (ev_ix rfl Try.underlying41 ty46 rfl rfl (by omega) (by omega) (row_adr (i := k) 0 rfl (by omega) (by omega))) rfl ?_)))))
   exact .cons (st_setel (E := eVis) (i := k) (cs := [.int .i64 99, .int .i64 0]) (off := 0) (Vis.mk 99 0) rfl rfl rfl ty46 rfl rfl rfl rfl rfl .h (by first | omega | simp only [LL] <;> omega | simp <;> omega) (by first | omega | simp only [LL] <;> omega | simp <;> omega) (Nat.le_of_ble_eq_true rfl) rfl (.go idQ (.region (.v (ev_add rfl rfl rfl (r := (k + 1)) rfl (by omega) (by omega)) rfl (.m rfl rfl rfl (SP.nil (SQ.roundb (X := Int × (List Vis)) (x := (k, W)) ⟨(k + 1), (W.set (k).toNat (Vis.mk 99 0))⟩ (by exact ⟨(by omega), (by omega), (by rw [List.length_set]; exact r_2)⟩) (by dsimp only; omega) (Sub.get (.c4 rfl rfl rfl rfl (.c4 rfl rfl rfl rfl (.c4 rfl rfl rfl rfl .n)))) (fun w hw => hw.keep (.c .h (.c .h (.c .h (.c .h (.c .h (.c .h (.c .h (.c .h (.c .h (.c .h .n))))))))))))))))))
  refine .exit idQ ?_
  refine SC.inR (l := N1) (i := i) (RT.mk ((gt R22 i).veh) W ((gt R22 i).rA) ((gt R22 i).rc)) (by omega) (by omega) (.c .h (.c .h .n)) (by dsimp only; omega) (by omega) ?_
  exact .region (.v (ev_add rfl rfl rfl (r := (i + 1)) rfl (by omega) (by omega)) rfl (.m rfl rfl rfl (SP.nil (SQ.roundb (X := Int × (List RT)) (x := (i, N1)) ⟨(i + 1), (N1.set (i).toNat (RT.mk ((gt R22 i).veh) W ((gt R22 i).rA) ((gt R22 i).rc)))⟩ (by exact ⟨(by omega), (by omega), (by rw [List.length_set]; exact q_2), (fun j_ h_ => by rw [gt_setn (by omega) (by omega) (by omega)]; exact q_3 j_ (by omega))⟩) (by dsimp only; omega) (Sub.get (.c4 rfl rfl rfl rfl (.c4 rfl rfl rfl rfl (.c rfl .n)))) (fun w hw => hw.keep (.c (.t .h) (.c (.t .h) (.c (.t .h) (.c (.t .h) (.c (.t .h) (.c .h (.c .h (.c .h (.c .h .n))))))))))))))
 refine .exit idQ (.seq (.seq (.region (.m rfl rfl rfl ?_))))
 refine .know (row_len 0 rfl) (fun hv35 => ?_)
 obtain ⟨A33, c34, rfl, hv35_1, hv35_2⟩ := hv35
 unfold maxLen at hv35_2
 refine .v (ev_len rfl Try.underlying41 rfl) rfl (.m rfl rfl rfl (.go idQ (.block ?_)))
 refine .loop (X := Int × (List Vis)) (fun ⟨a, X2⟩ => 0 ≤ a ∧ a ≤ (((visR v (R8.map rc)).length : Nat) : Int) ∧ X2.length = (visR v (R8.map rc)).length) (fun ⟨a, X2⟩ => [(2, .slice B m.length d), (3, .pointer (some ⟨b1, 0, none⟩)), (6, .bool false), (7, .pointer (some ⟨b17, 0, none⟩)), (8, .slice A18 m.length c19), (9, .pointer (some ⟨b28, 0, none⟩)), (10, .slice A33 ((visR v (R8.map rc)).length) c34), (43, .int .i64 (R22.length : Int)), (44, .int .i64 i), (69, .int .i64 (((visR v (R8.map rc)).length : Nat) : Int)), (70, .int .i64 a)]) (fun ⟨a, X2⟩ => [rw_ eVis 46 (.slice A33 ((visR v (R8.map rc)).length) c34) X2, rw_ eRT 43 (.slice A11 R8.length c12) R8, nestR 46 R8, cel b28 [.slice A25 R22.length c26] 35, rw_ eRT 43 (.slice A25 R22.length c26) R22, nestR 46 N1, rw_ eVis 46 (.slice A18 m.length c19) m, cel b17 [.slice A11 R8.length c12] 35, cel b1 [.slice A l.length c] 35]) (fun _ => S) (fun _ => wf) (fun ⟨a, X2⟩ => ((((visR v (R8.map rc)).length : Nat) : Int) - a).toNat) (fun a_ w_ hs_ hw_ => ⟨⟨0, (visR v (R8.map rc))⟩, (by exact ⟨(by omega), (by omega), rfl⟩), hs_.mono (Sub.get (.c4 rfl rfl rfl rfl (.c4 rfl rfl rfl rfl (.c rfl (.c rfl (.c rfl .n)))))), hw_.keep (.c .h (.c .h (.c .h (.c .h (.c .h (.c .h (.c .h (.c .h (.c .h .n)))))))))⟩) (fun ⟨a, X2⟩ ⟨s_0, s_1, s_2⟩ => ?_)
 show SC _ _ _ _ _ ⟨[(2, .slice B m.length d), (3, .pointer (some ⟨b1, 0, none⟩)), (6, .bool false), (7, .pointer (some ⟨b17, 0, none⟩)), (8, .slice A18 m.length c19), (9, .pointer (some ⟨b28, 0, none⟩)), (10, .slice A33 ((visR v (R8.map rc)).length) c34), (43, .int .i64 (R22.length : Int)), (44, .int .i64 i), (69, .int .i64 (((visR v (R8.map rc)).length : Nat) : Int)), (70, .int .i64 a)], [rw_ eVis 46 (.slice A33 ((visR v (R8.map rc)).length) c34) X2, rw_ eRT 43 (.slice A11 R8.length c12) R8, nestR 46 R8, cel b28 [.slice A25 R22.length c26] 35, rw_ eRT 43 (.slice A25 R22.length c26) R22, nestR 46 N1, rw_ eVis 46 (.slice A18 m.length c19) m, cel b17 [.slice A11 R8.length c12] 35, cel b1 [.slice A l.length c] 35], S, wf⟩
 refine .seq (.region (.v (ev_cmp rfl rfl rfl rfl) rfl (.go idQ (.seq (.condI rfl bD (fun h36 => ?_) (fun h36 => ?_))))))
 ·
  refine .skipgo idQ (.seq (.block (.seq (.region (.m rfl rfl rfl ?_)))))
  refine .a rfl rfl rfl (.go idQ (.region (.m rfl rfl rfl (.m rfl rfl rfl (.v (ev_any (v := .agg #[.int .i64 98, .int .i64 0]) rfl (by kernel_rfl) (fun _ => by kernel_rfl)) rfl ?_)))))
  refine .v (ev_ix rfl Try.underlying41 ty46 rfl rfl (by omega) (by omega) (row_adr (i := a) 0 rfl (by omega) (by omega))) rfl (.cons (st_setel (E := eVis) (i := a) (cs := [.int .i64 98, .int .i64 0]) (off := 0) (Vis.mk 98 0) rfl rfl rfl ty46 rfl rfl rfl rfl rfl .h (by first | omega | simp only [LL] <;> omega | simp <;> omega) (by first | omega | simp only [LL] <;> omega | simp <;> omega) (Nat.le_of_ble_eq_true rfl) rfl (.go idQ (.region (.v (ev_add rfl rfl rfl (r := (a + 1)) rfl (by omega) (by omega)) rfl (.m rfl rfl rfl ?_))))))
  exact SP.nil (SQ.roundb (X := Int × (List Vis)) (x := (a, X2)) ⟨(a + 1), (X2.set (a).toNat (Vis.mk 98 0))⟩ (by exact ⟨(by omega), (by omega), (by rw [List.length_set]; exact s_2)⟩) (by dsimp only; omega) (Sub.get (.c4 rfl rfl rfl rfl (.c4 rfl rfl rfl rfl (.c rfl (.c rfl (.c rfl .n)))))) (fun w hw => hw.keep (.c .h (.c .h (.c .h (.c .h (.c .h (.c .h (.c .h (.c .h (.c .h .n)))))))))))
 refine .exit idQ (.seq (.region (.m rfl rfl rfl (.v (ev_any (v := .agg #[.bool false, .int .i64 0]) rfl (by kernel_rfl) (fun _ => by kernel_rfl)) rfl (.cons (st_lend0 rfl rfl rfl rfl hbd18 rfl .n (.c (.t (.t (.t (.t (.t (.t .h)))))) .n) (fun w_ hw => sways_ A18 c19 m (TK.mk false 0) _ _ (Fr.lend hw 0 rfl (by first | omega | simp only [LL] <;> omega | simp <;> omega)) (by first | omega | simp only [LL] <;> omega | simp <;> omega)) (fun v_q39 C_q39 q39 => ?_)))))))
 obtain ⟨u37, Y38, p40, rfl, rfl⟩ := q39
 show SP _ _ _ _ _ _ ⟨_, _ :: _ :: _ :: _, _, _⟩
 have hwl : ∀ l_ ∈ waysF m ⟨false, 0⟩, l_.length ≤ 30 := fun l_ h_ => by have := ways_mem h_; omega
 have hYm := p40
 refine .a rfl rfl rfl (.go idQ (.seq (.seq (.region (.m rfl rfl rfl ?_)))))
 refine .know (row_len 0 rfl) (fun hv43 => ?_)
 obtain ⟨A41, c42, rfl, hv43_1, hv43_2⟩ := hv43
 unfold maxLen at hv43_2
 refine .v (ev_len rfl Try.underlying51 rfl) rfl (.m rfl rfl rfl (.go idQ (.block ?_)))
 refine .loop (X := Int × (List VL)) (fun ⟨w, M1⟩ => 0 ≤ w ∧ w ≤ ((Y38.length : Nat) : Int) ∧ M1.length = Y38.length ∧ (∀ j : Int, w ≤ j → gt M1 j = gt Y38 j) ∧ WayI Y38 M1 w) (fun ⟨w, M1⟩ => [(2, .slice B m.length d), (3, .pointer (some ⟨b1, 0, none⟩)), (6, .bool false), (7, .pointer (some ⟨b17, 0, none⟩)), (8, .slice A18 m.length c19), (9, .pointer (some ⟨b28, 0, none⟩)), (10, .slice A33 ((visR v (R8.map rc)).length) c34), (43, .int .i64 (R22.length : Int)), (44, .int .i64 i), (69, .int .i64 (((visR v (R8.map rc)).length : Nat) : Int)), (70, .int .i64 a), (14, .slice A41 Y38.length c42), (82, .int .i64 (Y38.length : Int)), (83, .int .i64 w)]) (fun ⟨w, M1⟩ => [rw_ eVL 41 (.slice A41 Y38.length c42) Y38, nestVL 46 M1, rw_ eVis 46 (.slice A18 m.length c19) m, rw_ eVis 46 (.slice A33 ((visR v (R8.map rc)).length) c34) X2, rw_ eRT 43 (.slice A11 R8.length c12) R8, nestR 46 R8, cel b28 [.slice A25 R22.length c26] 35, rw_ eRT 43 (.slice A25 R22.length c26) R22, nestR 46 N1, cel b17 [.slice A11 R8.length c12] 35, cel b1 [.slice A l.length c] 35]) (fun _ => S) (fun _ => wf) (fun ⟨w, M1⟩ => (((Y38.length : Nat) : Int) - w).toNat) (fun a_ w_ hs_ hw_ => ⟨⟨0, Y38⟩, (by exact ⟨(by omega), (by omega), rfl, (fun _ _ => rfl), (fun j_ h0_ h1_ => by omega)⟩), hs_.mono (Sub.get (.c4 rfl rfl rfl rfl (.c4 rfl rfl rfl rfl (.c4 rfl rfl rfl rfl (.c rfl (.c rfl .n)))))), hw_.keep (.c .h (.c .h (.c .h (.c .h (.c .h (.c .h (.c .h (.c .h (.c .h (.c .h (.c .h .n)))))))))))⟩) (fun ⟨w, M1⟩ ⟨u_0, u_1, u_2, u_3, u_4⟩ => ?_)
 show SC _ _ _ _ _ ⟨[(2, .slice B m.length d), (3, .pointer (some ⟨b1, 0, none⟩)), (6, .bool false), (7, .pointer (some ⟨b17, 0, none⟩)), (8, .slice A18 m.length c19), (9, .pointer (some ⟨b28, 0, none⟩)), (10, .slice A33 ((visR v (R8.map rc)).length) c34), (43, .int .i64 (R22.length : Int)), (44, .int .i64 i), (69, .int .i64 (((visR v (R8.map rc)).length : Nat) : Int)), (70, .int .i64 a), (14, .slice A41 Y38.length c42), (82, .int .i64 (Y38.length : Int)), (83, .int .i64 w)], [rw_ eVL 41 (.slice A41 Y38.length c42) Y38, nestVL 46 M1, rw_ eVis 46 (.slice A18 m.length c19) m, rw_ eVis 46 (.slice A33 ((visR v (R8.map rc)).length) c34) X2, rw_ eRT 43 (.slice A11 R8.length c12) R8, nestR 46 R8, cel b28 [.slice A25 R22.length c26] 35, rw_ eRT 43 (.slice A25 R22.length c26) R22, nestR 46 N1, cel b17 [.slice A11 R8.length c12] 35, cel b1 [.slice A l.length c] 35], S, wf⟩
 refine .seq (.region (.v (ev_cmp rfl rfl rfl rfl) rfl (.go idQ (.seq (.condI rfl bD (fun h44 => ?_) (fun h44 => ?_))))))
 ·
  refine .skipgo idQ (.seq (.block (.seq (.region (.m rfl rfl rfl ?_)))))
  refine .a rfl rfl rfl (.go idQ (.seq (.region (.m rfl rfl rfl (.m rfl rfl rfl ?_)))))
  refine .v (ev_ix rfl Try.underlying51 ty41 rfl rfl (by omega) (by omega) (row_adr (i := w) 0 rfl (by omega) (by omega))) rfl (.v (ev_ld1 rfl ty41 rfl (At.elem1 (row_el (E := eVL) (l := Y38) (i := w) 0 rfl (by omega) (by omega)) 0 rfl)) rfl (.v (ev_len rfl Try.underlying41 rfl) rfl (.m rfl rfl rfl (.go idQ (.block ?_)))))
  have hnw : gt M1 w = gt Y38 w := u_3 w (Int.le_refl _)
  refine SC.outVL (l := M1) (i := w) (by omega) (by omega) (.c (.t .h) .n) (fun hbw => ?_)
  rw [hnw] at hbw ⊢
  refine .loop (X := Int × (List Vis)) (fun ⟨k4, W4⟩ => 0 ≤ k4 ∧ k4 ≤ (((gt Y38 w).vl.length : Nat) : Int) ∧ W4.length = (gt Y38 w).vl.length ∧ (∀ j : Int, 0 ≤ j → j < k4 → (gt W4 j).kind = w)) (fun ⟨k4, W4⟩ => [(2, .slice B m.length d), (3, .pointer (some ⟨b1, 0, none⟩)), (6, .bool false), (7, .pointer (some ⟨b17, 0, none⟩)), (8, .slice A18 m.length c19), (9, .pointer (some ⟨b28, 0, none⟩)), (10, .slice A33 ((visR v (R8.map rc)).length) c34), (43, .int .i64 (R22.length : Int)), (44, .int .i64 i), (69, .int .i64 (((visR v (R8.map rc)).length : Nat) : Int)), (70, .int .i64 a), (14, .slice A41 Y38.length c42), (82, .int .i64 (Y38.length : Int)), (83, .int .i64 w), (15, .int .i64 w), (90, .int .i64 (((gt Y38 w).vl.length : Nat) : Int)), (91, .int .i64 k4)]) (fun ⟨k4, W4⟩ => [rw_ eVis 46 (.slice ((gt Y38 w).wlA) ((gt Y38 w).vl.length) ((gt Y38 w).wlc)) W4, nestVL 46 (M1.take (w).toNat ++ M1.drop (w + 1).toNat), rw_ eVL 41 (.slice A41 Y38.length c42) Y38, rw_ eVis 46 (.slice A18 m.length c19) m, rw_ eVis 46 (.slice A33 ((visR v (R8.map rc)).length) c34) X2, rw_ eRT 43 (.slice A11 R8.length c12) R8, nestR 46 R8, cel b28 [.slice A25 R22.length c26] 35, rw_ eRT 43 (.slice A25 R22.length c26) R22, nestR 46 N1, cel b17 [.slice A11 R8.length c12] 35, cel b1 [.slice A l.length c] 35]) (fun _ => S) (fun _ => wf) (fun ⟨k4, W4⟩ => ((((gt Y38 w).vl.length : Nat) : Int) - k4).toNat) (fun a_ w_ hs_ hw_ => ⟨⟨0, (gt Y38 w).vl⟩, (by exact ⟨(by omega), (by omega), rfl, (fun j_ h0_ h1_ => by omega)⟩), hs_.mono (Sub.get (.c4 rfl rfl rfl rfl (.c4 rfl rfl rfl rfl (.c4 rfl rfl rfl rfl (.c4 rfl rfl rfl rfl (.c rfl .n)))))), hw_.keep (.c .h (.c .h (.c .h (.c .h (.c .h (.c .h (.c .h (.c .h (.c .h (.c .h (.c .h (.c .h .n))))))))))))⟩) (fun ⟨k4, W4⟩ ⟨x_0, x_1, x_2, x_3⟩ => ?_)
  show SC _ _ _ _ _ ⟨[(2, .slice B m.length d), (3, .pointer (some ⟨b1, 0, none⟩)), (6, .bool false), (7, .pointer (some ⟨b17, 0, none⟩)), (8, .slice A18 m.length c19), (9, .pointer (some ⟨b28, 0, none⟩)), (10, .slice A33 ((visR v (R8.map rc)).length) c34), (43, .int .i64 (R22.length : Int)), (44, .int .i64 i), (69, .int .i64 (((visR v (R8.map rc)).length : Nat) : Int)), (70, .int .i64 a), (14, .slice A41 Y38.length c42), (82, .int .i64 (Y38.length : Int)), (83, .int .i64 w), (15, .int .i64 w), (90, .int .i64 (((gt Y38 w).vl.length : Nat) : Int)), (91, .int .i64 k4)], [rw_ eVis 46 (.slice ((gt Y38 w).wlA) ((gt Y38 w).vl.length) ((gt Y38 w).wlc)) W4, nestVL 46 (M1.take (w).toNat ++ M1.drop (w + 1).toNat), rw_ eVL 41 (.slice A41 Y38.length c42) Y38, rw_ eVis 46 (.slice A18 m.length c19) m, rw_ eVis 46 (.slice A33 ((visR v (R8.map rc)).length) c34) X2, rw_ eRT 43 (.slice A11 R8.length c12) R8, nestR 46 R8, cel b28 [.slice A25 R22.length c26] 35, rw_ eRT 43 (.slice A25 R22.length c26) R22, nestR 46 N1, cel b17 [.slice A11 R8.length c12] 35, cel b1 [.slice A l.length c] 35], S, wf⟩
  refine .seq (.region (.v (ev_cmp rfl rfl rfl rfl) rfl (.go idQ (.seq (.condI rfl bD (fun h45 => ?_) (fun h45 => ?_))))))
  ·
   refine .skipgo idQ (.seq (.block (.seq (.region (.m rfl rfl rfl ?_)))))
   refine .a rfl rfl rfl (.go idQ (.region (.m rfl rfl rfl (.m rfl rfl rfl (.v (ev_ix rfl Try.underlying51 ty41 rfl rfl (by omega) (by omega) (row_adr (i := w) 2 rfl (by omega) (by omega))) rfl ?_)))))
   refine .v (ev_ld1 rfl ty41 rfl (At.elem1 (row_el (E := eVL) (l := Y38) (i := w) 2 rfl (by omega) (by omega)) 0 rfl)) rfl (.m rfl rfl rfl (.m rfl rfl rfl (.v (ev_any (v := .agg #[.int .i64 w, .int .i64 0]) rfl (by kernel_rfl) (fun _ => by kernel_rfl)) rfl (.v (ev_ix rfl Try.underlying41 ty46 rfl rfl (by omega) (by omega) (row_adr (i := k4) 0 rfl (by omega) (by omega))) rfl (.cons (st_setel (E := eVis) (i := k4) (cs := [.int .i64 w, .int .i64 0]) (off := 0) (Vis.mk w 0) rfl rfl rfl ty46 rfl rfl rfl rfl rfl .h (by first | omega | simp only [LL] <;> omega | simp <;> omega) (by first | omega | simp only [LL] <;> omega | simp <;> omega) (Nat.le_of_ble_eq_true rfl) rfl ?_))))))
   exact .go idQ (.region (.v (ev_add rfl rfl rfl (r := (k4 + 1)) rfl (by omega) (by omega)) rfl (.m rfl rfl rfl (SP.nil (SQ.roundb (X := Int × (List Vis)) (x := (k4, W4)) ⟨(k4 + 1), (W4.set (k4).toNat (Vis.mk w 0))⟩ (by exact ⟨(by omega), (by omega), (by rw [List.length_set]; exact x_2), (kind_nx x_3 rfl (by omega) (by omega))⟩) (by dsimp only; omega) (Sub.get (.c4 rfl rfl rfl rfl (.c4 rfl rfl rfl rfl (.c4 rfl rfl rfl rfl (.c4 rfl rfl rfl rfl (.c rfl .n)))))) (fun w hw => hw.keep (.c .h (.c .h (.c .h (.c .h (.c .h (.c .h (.c .h (.c .h (.c .h (.c .h (.c .h (.c .h .n))))))))))))))))))
  refine .exit idQ ?_
  refine SC.inVL (l := M1) (i := w) (VL.mk W4 ((gt Y38 w).wlA) ((gt Y38 w).wlc)) (by omega) (by omega) (.c .h (.c .h .n)) (by dsimp only; omega) (by omega) ?_
  exact .region (.v (ev_add rfl rfl rfl (r := (w + 1)) rfl (by omega) (by omega)) rfl (.m rfl rfl rfl (SP.nil (SQ.roundb (X := Int × (List VL)) (x := (w, M1)) ⟨(w + 1), (M1.set (w).toNat (VL.mk W4 ((gt Y38 w).wlA) ((gt Y38 w).wlc)))⟩ (by exact ⟨(by omega), (by omega), (by rw [List.length_set]; exact u_2), (fun j_ h_ => by rw [gt_setn (by omega) (by omega) (by omega)]; exact u_3 j_ (by omega)), (way_nx u_4 (by omega) (by omega) rfl x_2 (fun k_ h0_ h1_ => x_3 k_ h0_ (by omega)))⟩) (by dsimp only; omega) (Sub.get (.c4 rfl rfl rfl rfl (.c4 rfl rfl rfl rfl (.c4 rfl rfl rfl rfl (.c rfl (.c rfl .n)))))) (fun w hw => hw.keep (.c (.t .h) (.c .h (.c .h (.c .h (.c .h (.c .h (.c .h (.c .h (.c .h (.c .h (.c .h .n))))))))))))))))
 refine .exit idQ (.seq (.seq (.region (.m rfl rfl rfl (.v (ev_len rfl Try.underlying51 rfl) rfl ?_)))))
 refine .m rfl rfl rfl (.go idQ (.block ?_))
 refine SC.freeze (R := [nestVL 46 M1]) (.c (.t .h) .n) (fun Sz46 wfz46 hxz46 hhz46 hsz46 => ?_)
 have hfz46_0 := VLF.of (hhz46 _ (by simp)) (fun b hb => hsz46 b (feet_of 0 rfl hb))
 refine .loop (X := Int) (fun w5 => 0 ≤ w5 ∧ w5 ≤ ((Y38.length : Nat) : Int) ∧ True) (fun w5 => [(2, .slice B m.length d), (3, .pointer (some ⟨b1, 0, none⟩)), (7, .pointer (some ⟨b17, 0, none⟩)), (8, .slice A18 m.length c19), (9, .pointer (some ⟨b28, 0, none⟩)), (10, .slice A33 ((visR v (R8.map rc)).length) c34), (43, .int .i64 (R22.length : Int)), (44, .int .i64 i), (69, .int .i64 (((visR v (R8.map rc)).length : Nat) : Int)), (70, .int .i64 a), (14, .slice A41 Y38.length c42), (82, .int .i64 (Y38.length : Int)), (83, .int .i64 w), (105, .int .i64 (Y38.length : Int)), (106, .int .i64 w5)]) (fun w5 => [rw_ eVL 41 (.slice A41 Y38.length c42) Y38, rw_ eVis 46 (.slice A18 m.length c19) m, rw_ eVis 46 (.slice A33 ((visR v (R8.map rc)).length) c34) X2, rw_ eRT 43 (.slice A11 R8.length c12) R8, nestR 46 R8, cel b28 [.slice A25 R22.length c26] 35, rw_ eRT 43 (.slice A25 R22.length c26) R22, nestR 46 N1, cel b17 [.slice A11 R8.length c12] 35, cel b1 [.slice A l.length c] 35]) (fun _ => Sz46) (fun _ => wfz46) (fun w5 => (((Y38.length : Nat) : Int) - w5).toNat) (fun a_ w_ hs_ hw_ => ⟨0, (by exact ⟨(by omega), (by omega), trivial⟩), hs_.mono (Sub.get (.c4 rfl rfl rfl rfl (.c4 rfl rfl rfl rfl (.c4 rfl rfl rfl rfl (.c rfl (.c rfl (.c rfl .n))))))), hw_.keep (.c .h (.c .h (.c .h (.c .h (.c .h (.c .h (.c .h (.c .h (.c .h (.c .h .n))))))))))⟩) (fun w5 ⟨y_0, y_1, y_2⟩ => ?_)
 try dsimp only
 refine .seq (.region (.v (ev_cmp rfl rfl rfl rfl) rfl (.go idQ (.seq (.condI rfl bD (fun h47 => ?_) (fun h47 => ?_))))))
 ·
  refine .skipgo idQ (.seq (.block (.seq (.region (.m rfl rfl rfl ?_)))))
  refine .a rfl rfl rfl (.go idQ (.seq (.region (.m rfl rfl rfl (.m rfl rfl rfl ?_)))))
  refine .v (ev_ix rfl Try.underlying51 ty41 rfl rfl (by omega) (by omega) (row_adr (i := w5) 0 rfl (by omega) (by omega))) rfl (.v (ev_ld1 rfl ty41 rfl (At.elem1 (row_el (E := eVL) (l := Y38) (i := w5) 0 rfl (by omega) (by omega)) 0 rfl)) rfl (.v (ev_len rfl Try.underlying41 rfl) rfl (.m rfl rfl rfl (.go idQ (.block ?_)))))
  refine .loop (X := Int) (fun k6 => 0 ≤ k6 ∧ k6 ≤ (((gt Y38 w5).vl.length : Nat) : Int) ∧ True) (fun k6 => [(2, .slice B m.length d), (3, .pointer (some ⟨b1, 0, none⟩)), (7, .pointer (some ⟨b17, 0, none⟩)), (8, .slice A18 m.length c19), (9, .pointer (some ⟨b28, 0, none⟩)), (10, .slice A33 ((visR v (R8.map rc)).length) c34), (43, .int .i64 (R22.length : Int)), (44, .int .i64 i), (69, .int .i64 (((visR v (R8.map rc)).length : Nat) : Int)), (70, .int .i64 a), (14, .slice A41 Y38.length c42), (82, .int .i64 (Y38.length : Int)), (83, .int .i64 w), (105, .int .i64 (Y38.length : Int)), (106, .int .i64 w5), (17, .int .i64 w5), (113, .int .i64 (((gt Y38 w5).vl.length : Nat) : Int)), (114, .int .i64 k6)]) (fun k6 => [rw_ eVL 41 (.slice A41 Y38.length c42) Y38, rw_ eVis 46 (.slice A18 m.length c19) m, rw_ eVis 46 (.slice A33 ((visR v (R8.map rc)).length) c34) X2, rw_ eRT 43 (.slice A11 R8.length c12) R8, nestR 46 R8, cel b28 [.slice A25 R22.length c26] 35, rw_ eRT 43 (.slice A25 R22.length c26) R22, nestR 46 N1, cel b17 [.slice A11 R8.length c12] 35, cel b1 [.slice A l.length c] 35]) (fun _ => Sz46) (fun _ => wfz46) (fun k6 => ((((gt Y38 w5).vl.length : Nat) : Int) - k6).toNat) (fun a_ w_ hs_ hw_ => ⟨0, (by exact ⟨(by omega), (by omega), trivial⟩), hs_.mono (Sub.get (.c4 rfl rfl rfl rfl (.c4 rfl rfl rfl rfl (.c4 rfl rfl rfl rfl (.c4 rfl rfl rfl rfl (.c rfl (.c rfl .n))))))), hw_.keep (.c .h (.c .h (.c .h (.c .h (.c .h (.c .h (.c .h (.c .h (.c .h (.c .h .n))))))))))⟩) (fun k6 ⟨z_0, z_1, z_2⟩ => ?_)
  try dsimp only
  refine .seq (.region (.v (ev_cmp rfl rfl rfl rfl) rfl (.go idQ (.seq (.condI rfl bD (fun h48 => ?_) (fun h48 => ?_))))))
  ·
   refine .skipgo idQ (.seq (.block (.seq (.region (.m rfl rfl rfl ?_)))))
   refine .a rfl rfl rfl (.go idQ (.seq ?_))
   obtain ⟨hA5, hN5, hK5⟩ := u_4 w5 (by omega) (by omega)
   have hw5 := ways_at hYm (i := w5) (by omega) (by omega)
   have hF5 : Fr eVis Sz46 wfz46 (gt Y38 w5).wlA (gt M1 w5).vl := by rw [← hA5]; exact hfz46_0 w5
   refine .region (.m rfl rfl rfl (.m rfl rfl rfl (.v (ev_ix rfl Try.underlying51 ty41 rfl rfl (by omega) (by omega) (row_adr (i := w5) 0 rfl (by omega) (by omega))) rfl (.v (ev_ld1 rfl ty41 rfl (At.elem1 (row_el (E := eVL) (l := Y38) (i := w5) 0 rfl (by omega) (by omega)) 0 rfl)) rfl (.m rfl rfl rfl ?_)))))
   refine .v (ev_ix rfl Try.underlying41 ty46 rfl rfl (by omega) (by omega) (fun _ _ => Fr.adr (i := k6) hF5 (by omega) (by omega))) rfl (.v (ev_fa rfl fo46_0 rfl (r := ao ((gt Y38 w5).wlA) + (k6).toNat * 2) rfl) rfl (.v (ev_ld1 rfl ty44 rfl (At.elem1 (At.w (Fr.el (i := k6) hF5 (by omega) (by omega))) 0 rfl)) rfl (.m rfl rfl rfl (.v (ev_cmp rfl rfl rfl rfl) rfl (.go idQ ?_)))))
   refine .condI rfl bNE (fun h49 => ?_) (fun h49 => ?_)
   ·
    exfalso; have hk_ := hK5 k6 (by omega) (by omega); omega
   exact .skipgo idQ (.region (.v (ev_add rfl rfl rfl (r := (k6 + 1)) rfl (by omega) (by omega)) rfl (.m rfl rfl rfl (SP.nil (SQ.roundb (X := Int) (x := (k6)) (k6 + 1) (by exact ⟨(by omega), (by omega), trivial⟩) (by show (_ : Nat) < _; omega) (Sub.get (.c4 rfl rfl rfl rfl (.c4 rfl rfl rfl rfl (.c4 rfl rfl rfl rfl (.c4 rfl rfl rfl rfl (.c rfl (.c rfl .n))))))) (fun w hw => hw.keep (.c .h (.c .h (.c .h (.c .h (.c .h (.c .h (.c .h (.c .h (.c .h (.c .h .n))))))))))))))))
  exact .exit idQ (.region (.v (ev_add rfl rfl rfl (r := (w5 + 1)) rfl (by omega) (by omega)) rfl (.m rfl rfl rfl (SP.nil (SQ.roundb (X := Int) (x := (w5)) (w5 + 1) (by exact ⟨(by omega), (by omega), trivial⟩) (by show (_ : Nat) < _; omega) (Sub.get (.c4 rfl rfl rfl rfl (.c4 rfl rfl rfl rfl (.c4 rfl rfl rfl rfl (.c rfl (.c rfl (.c rfl .n))))))) (fun w hw => hw.keep (.c .h (.c .h (.c .h (.c .h (.c .h (.c .h (.c .h (.c .h (.c .h (.c .h .n))))))))))))))))
 refine .exit idQ (.seq (.region (.v (ev_lda rfl rfl (At.whole 8 rfl) ty35) rfl (.v (ev_lda rfl rfl (At.whole 9 rfl) ty35) rfl (.cons (st_lendk rfl rfl rfl rfl hbd9 rfl .n (.c (.t (.t (.t .h))) (.c (.t (.t (.t .h))) .n)) (fun w_ hw => same15_ A11 c12 R8 A c l _ _ (Fr.lend hw 0 rfl (by first | omega | simp only [LL] <;> omega | simp <;> omega)) (Fr.ext (Fr.ext hA hxz46) hw.lendx) (RTF.lend hw 1 rfl) ((((hRT).ext hxz46)).ext hw.lendx)) ?_))))))
 refine .m rfl rfl rfl (.w (fun _ => ev_mv rfl rfl) rfl (.w (fun _ => ev_mv rfl rfl) rfl (.cons (st_glendk rfl rfl rfl rfl rfl rfl hbd19 (fun hb => (lkA1 (lkg rfl hb) (lkA1 (lkg rfl hb) lkA0))) .n (.c (.t .h) .n) (fun hb w_ hw => have hp := bT bD hb; samev_ A18 c19 m B d m _ _ (Fr.lend hw 0 rfl (by first | omega | simp only [LL] <;> omega | simp <;> omega)) (Fr.ext (Fr.ext hB hxz46) hw.lendx)) (.v (ev_and rfl rfl rfl rfl) rfl (.a rfl rfl rfl ?_))))))
 refine .go idQ ?_
 refine SC.thaw hxz46 ?_
 exact .ret idQ (ret1 Try.results5 rfl .n ⟨(congrArg Value.bool (by rw [decide_eq_true p10, decide_eq_true rfl]; rfl)), rfl⟩)
theorem seedOwnB_ (A : Option Addr) (c : Nat) (l : List RT) (v : Int) (B : Option Addr) (d : Nat) (m : List Vis) (S : Nat → Prop) (wf : World) (hA : Fr eRT S wf A l) (hB : Fr eVis S wf B m) (hRT : RTF S wf l) (hl9 : 8 < l.length) :
  TR0 Try.prog 5 [.agg #[.slice A l.length c], .int .i64 v, .slice B m.length d] [] S wf (fun v_ C_ => v_ = .bool true ∧ C_ = []) := by
 have hla := hA.len
 have hlb := hB.len
 refine TR.mk Try.func5 rfl Try.ntmps5 rfl rfl (fun w_ => ?_)
 refine .seq (.region (.cons (st_boxa rfl rfl rfl rfl rfl (fun b1 => .a rfl rfl rfl (.go idQ (.seq ?_))))))
 refine .seq (.region (.cons (st_callk rfl rfl rfl rfl hbd7 rfl .n (awake15_ _ _) (.v (ev_not rfl rfl) rfl (.go idQ (.cond_f rfl ?_))))))
 refine .skipgo idQ (.seq (.seq (.region (.m rfl rfl rfl (.v (ev_len rfl Try.underlying41 rfl) rfl ?_)))))
 refine .v (ev_cmp rfl rfl rfl rfl) rfl (.m rfl rfl rfl (.w (fun _ => ev_lda rfl rfl (At.whole 0 rfl) ty35) rfl (.cons (st_gcallk rfl rfl rfl rfl rfl rfl hbd14 (fun hb => (lkA1 (lkg rfl hb) lkA0)) .n (fun hb => have hp := bF bD hb; shortb_ A c l _ _ hA hRT (by first | omega | simp only [LL] <;> omega | simp <;> omega)) (.w (fun hb => ev_not rfl (lkg rfl hb)) rfl (.v (ev_or rfl rfl rfl rfl) rfl ?_))))))
 refine .go idQ (.condI rfl (bO bD bV) (fun h2 => ?_) (fun h2 => ?_))
 ·
  exact .seq (.region (.a rfl rfl rfl (.go idQ (.ret idQ (ret1 Try.results5 rfl .n ⟨rfl, rfl⟩)))))
 refine .skipgo idQ (.seq ?_)
 exfalso; simp_all
end Go.Proofs.Ytdpmnodiebpjeaa.Sx
namespace Go.SX
open Go Go.RowKit
def TellsW (P : Program) (w : World) (e : TypeId) {α : Type} (E : Enc α) (good : α → Prop) : Prop :=
  ∀ {H : Type} (enc : TypeId × Value → H) (base : Nat) (spare : Nat → Bool) (held : Bool) (n : Nat) (cs : List Value) (y : DataW H × List MemPlace), DataW.trod enc P w base spare held n e cs = some y → (∀ b ∈ y.1.weights P e, b ≤ reachBytes) → ∃ a, cs = E.enc a ∧ good a
section
variable {H : Type} {enc : TypeId × Value → H} {P : Program} {w : World} {base : Nat} {spare : Nat → Bool} {held : Bool}
theorem weightsAll_mem {e : TypeId} {d : DataW H} {b : Nat} : ∀ {l : List (DataW H)}, d ∈ l → b ∈ d.weights P e → b ∈ DataW.weightsAll P e l
  | [], h, _ => by cases h
  | x :: r, h, hb => by
    unfold DataW.weightsAll
    rcases List.mem_cons.1 h with rfl | h
    · exact List.mem_append_left _ hb
    · exact List.mem_append_right _ (weightsAll_mem h hb)
theorem rows_w {α : Type} [Inhabited α] {E : Enc α} {good : α → Prop} {t e : TypeId} {fuel : Nat} {cs : List Value} {x : DataW H × List MemPlace} (ht : P.underlying t = some (.slice e)) (he : P.cellsOf e = E.sz) (hT : TellsW P w e E good) (hbo : 1 ≤ P.bytesOf e)
    (h : DataW.trod enc P w base spare held fuel t cs = some x) (hw : ∀ b ∈ x.1.weights P t, b ≤ reachBytes) :
    ∃ A l cap, cs = [.slice A l.length cap] ∧ Fr E (fun b => b < w.heap.size) w A l ∧ ∀ y ∈ l, good y := by
  rcases DataW.trod_slice ht h with h0 | ⟨a, len, cap, elems, rest, n, hx1, rfl, rfl, hb, hl, hm, hlen, hel, hsp, hns⟩
  · exact ⟨none, [], 0, h0.1, Fr.nil _ _ _ _, by simp⟩
  have hw2 : ∀ b ∈ DataW.weights P t (.slice (elems.map (·.1)) (rest.map (·.1))), b ≤ reachBytes := hw
  have each : ∀ i, i < len → ∃ x : α, good x ∧ w.cells? base (a.add (i * E.sz)) E.sz = some (E.enc x) := by
    intro i hi
    have h1 := hel i hi
    have h2 : elems[i]? = some (elems[i]'(by omega)) := List.getElem?_eq_getElem (by omega)
    rw [h2, he, Option.bind_eq_some_iff] at h1
    obtain ⟨cs', h3, h4⟩ := h1
    obtain ⟨x, rfl, hg⟩ := hT enc base spare held n cs' _ h4 (fun b hb => hw2 b (by
      unfold DataW.weights
      rw [ht]
      exact List.mem_cons_of_mem _ (List.mem_append_left _ (weightsAll_mem (List.mem_map_of_mem (List.getElem_mem (by omega))) hb))))
    exact ⟨x, hg, h3⟩
  let f : Nat → α := fun i => if hi : i < len then (each i hi).choose else default
  have hf : ∀ i (hi : i < len), f i = (each i hi).choose := fun i hi => dif_pos hi
  have hbig : len ≤ 140737488355328 := by
    have h1 := hw2 ((elems.map (·.1)).length + (rest.map (·.1)).length |>.mul (P.bytesOf e)) (by unfold DataW.weights; rw [ht]; exact List.mem_cons_self ..)
    have h11 : elems.length * 1 ≤ ((elems.map (·.1)).length + (rest.map (·.1)).length) * P.bytesOf e := Nat.mul_le_mul (by simp) hbo
    have h12 : reachBytes < 2 ^ 47 := reachBytes_lt
    have h13 : ((elems.map (·.1)).length + (rest.map (·.1)).length) * P.bytesOf e ≤ reachBytes := h1
    omega
  have hgood : ∀ x ∈ (List.range len).map f, good x := by
    intro x hx
    obtain ⟨i, hi, rfl⟩ := List.mem_map.1 hx
    have hlt : i < len := by simpa using hi
    rw [hf i hlt]
    exact (each i hlt).choose_spec.1
  refine ⟨some a, (List.range len).map f, cap, by simp, ⟨by simpa using hbig, ?_⟩, hgood⟩
  rcases Nat.eq_zero_or_pos len with h0 | h0
  · subst h0; exact .inl (by simp)
  have hat : ∀ i, i < len → ∀ j u, (E.enc (f i))[j]? = some u → w.cell? (a.add (i * E.sz + j)) = some u := by
    intro i hi j u hj
    obtain ⟨_, h1, h2⟩ := World.cells?_some (each i hi).choose_spec.2
    rw [← hf i hi] at h1 h2
    have hjs : j < E.sz := by have := (List.getElem?_eq_some_iff.1 hj).1; omega
    rw [← add_zero_add, h2 j hjs, hj]
  have hpos := E.pos
  have hspot : a.spot = none := by
    have h1 : (E.enc (f 0)).length = E.sz := E.len _
    have h2 := hat 0 h0 0 ((E.enc (f 0))[0]'(by omega)) (List.getElem?_eq_getElem (by omega))
    have h3 := World.cell?_spot h2
    simpa [Addr.add] using h3
  obtain ⟨b, off, spot⟩ := a
  simp only at hspot
  subst hspot
  have hall : ∀ i x, ((List.range len).map f)[i]? = some x → At w b (off + i * E.sz) (E.enc x) := fun i x hx j u hu => by
    simp only [List.getElem?_map, Option.map_eq_some_iff] at hx
    obtain ⟨i', hi', rfl⟩ := hx
    have hi2 := List.getElem?_eq_some_iff.1 hi'
    obtain ⟨hlt, heq⟩ := hi2
    simp at heq hlt
    subst heq
    have := hat i hlt j u hu
    rw [show off + i * E.sz + j = off + (i * E.sz + j) from by omega]
    have e1 : (⟨b, off, none⟩ : Addr).add (i * E.sz + j) = ⟨b, off + (i * E.sz + j), none⟩ := by
      unfold Addr.add
      split
      · rename_i h0; rw [h0]; rfl
      · rfl
    rwa [e1] at this
  refine .inr ⟨b, off, rfl, ?_, hall⟩
  have hx := hall 0 (f 0) (by simp [h0])
  have hl1 := E.len (f 0)
  have := hx 0 ((E.enc (f 0))[0]'(by omega)) (List.getElem?_eq_getElem (by omega))
  unfold World.cell? at this
  cases hb1 : w.heap[b]? with
  | none => simp only [hb1] at this; cases this
  | some o => exact lt_of_some hb1
theorem struct_w {t : TypeId} {fuel : Nat} {cs : List Value} {x : DataW H × List MemPlace} {fs : Array Field} (ht : P.underlying t = some (.struct fs)) (h : DataW.trod enc P w base spare held fuel t cs = some x) (hw : ∀ b ∈ x.1.weights P t, b ≤ reachBytes) :
    ∃ n, cs.length = P.cellsOf t ∧ ∀ (i : Nat) (f : Field), fs[i]? = some f → ∃ y : DataW H × List MemPlace, DataW.trod enc P w base spare held n f.type ((cs.drop f.offset).take (P.cellsOf f.type)) = some y ∧ ∀ b ∈ y.1.weights P f.type, b ≤ reachBytes := by
  obtain ⟨xs, n, _, rfl, hl, hx, hf⟩ := DataW.trod_struct ht h
  refine ⟨n, hl, fun i f hi => ?_⟩
  have h1 := hf i f hi
  have hlt : i < fs.size := (Array.getElem?_eq_some_iff.1 hi).1
  rw [List.getElem?_eq_getElem (by omega)] at h1
  refine ⟨xs[i]'(by omega), h1, fun b hb => hw b ?_⟩
  show b ∈ DataW.weights P t (.agg (xs.map (·.1)))
  unfold DataW.weights
  rw [ht]
  exact DataW.weights_mem_each (j := i) (d := (xs[i]'(by omega)).1) (by simp [hi]) (by simp [List.getElem?_eq_getElem (show i < xs.length by omega)]) b hb
end
end Go.SX
set_option maxRecDepth 20000
namespace Go.Proofs.Ytdpmnodiebpjeaa.Sx
open Go Go.SX Go.Proofs
theorem cO3 : Try.prog.cellsOf 3 = 1 := by kernel_rfl
theorem cO33 : Try.prog.cellsOf 33 = 1 := by kernel_rfl
theorem cO35 : Try.prog.cellsOf 35 = 1 := by kernel_rfl
theorem cO41 : Try.prog.cellsOf 41 = 1 := by kernel_rfl
theorem cO43 : Try.prog.cellsOf 43 = 2 := by kernel_rfl
theorem cO44 : Try.prog.cellsOf 44 = 1 := by kernel_rfl
theorem cO46 : Try.prog.cellsOf 46 = 2 := by kernel_rfl
structure MX where
 n : Int
 l : List Int
 A : Option Addr
 c : Nat
section
variable {w : World}
abbrev HS (w : World) : Nat → Prop := fun b => b < w.heap.size
structure SN where
 l : List RT
 A : Option Addr
 c : Nat
def eSN : Enc SN where
 sz := 1
 enc x := [.slice x.A x.l.length x.c]
 len _ := rfl
 one x u hu := by simp at hu; subst hu; rfl
 pos := by decide
theorem tw46 : TellsW Try.prog w 46 eVis (fun _ => True) := by
 intro H enc base spare held n cs y h hw
 obtain ⟨k, hl, hf⟩ := struct_w Try.underlying46 h hw
 rw [cO46] at hl
 match cs, hl with
 | [v0, v1], _ =>
  obtain ⟨y0, h0, w0⟩ := hf 0 _ rfl
  replace h0 : DataW.trod enc Try.prog w base spare held k 44 (([v0, v1].drop 0).take (Try.prog.cellsOf 44)) = some y0 := h0
  rw [cO44] at h0
  replace h0 : DataW.trod enc Try.prog w base spare held k 44 [v0] = some y0 := h0
  obtain ⟨y1, h1, w1⟩ := hf 1 _ rfl
  replace h1 : DataW.trod enc Try.prog w base spare held k 3 (([v0, v1].drop 1).take (Try.prog.cellsOf 3)) = some y1 := h1
  rw [cO3] at h1
  replace h1 : DataW.trod enc Try.prog w base spare held k 3 [v1] = some y1 := h1
  obtain ⟨m0, e0, _, wf0⟩ := DataW.trod_int Try.underlying44 h0
  simp only [List.cons.injEq, and_true] at e0
  subst e0
  obtain ⟨m1, e1, _, wf1⟩ := DataW.trod_int Try.underlying3 h1
  simp only [List.cons.injEq, and_true] at e1
  subst e1
  exact ⟨⟨m0, m1⟩, rfl, trivial⟩
theorem tw43 : TellsW Try.prog w 43 eRT (fun r => Fr eVis (HS w) w r.rA r.vis) := by
 intro H enc base spare held n cs y h hw
 obtain ⟨k, hl, hf⟩ := struct_w Try.underlying43 h hw
 rw [cO43] at hl
 match cs, hl with
 | [v0, v1], _ =>
  obtain ⟨y0, h0, w0⟩ := hf 0 _ rfl
  replace h0 : DataW.trod enc Try.prog w base spare held k 3 (([v0, v1].drop 0).take (Try.prog.cellsOf 3)) = some y0 := h0
  rw [cO3] at h0
  replace h0 : DataW.trod enc Try.prog w base spare held k 3 [v0] = some y0 := h0
  obtain ⟨y1, h1, w1⟩ := hf 1 _ rfl
  replace h1 : DataW.trod enc Try.prog w base spare held k 41 (([v0, v1].drop 1).take (Try.prog.cellsOf 41)) = some y1 := h1
  rw [cO41] at h1
  replace h1 : DataW.trod enc Try.prog w base spare held k 41 [v1] = some y1 := h1
  obtain ⟨m0, e0, _, wf0⟩ := DataW.trod_int Try.underlying3 h0
  simp only [List.cons.injEq, and_true] at e0
  subst e0
  obtain ⟨AV, lV, cV, elV, frV, gdV⟩ := rows_w (E := eVis) Try.underlying41 cO46 tw46 (by decide +kernel) h1 w1
  simp only [List.cons.injEq, and_true] at elV
  subst elV
  exact ⟨⟨m0, lV, AV, cV⟩, rfl, frV⟩
theorem tw35 : TellsW Try.prog w 35 eSN (fun x => Fr eRT (HS w) w x.A x.l ∧ RTF (HS w) w x.l) := by
 intro H enc base spare held n cs y h hw
 obtain ⟨k, hl, hf⟩ := struct_w Try.underlying35 h hw
 rw [cO35] at hl
 match cs, hl with
 | [v0], _ =>
  obtain ⟨y0, h0, w0⟩ := hf 0 _ rfl
  replace h0 : DataW.trod enc Try.prog w base spare held k 33 (([v0].drop 0).take (Try.prog.cellsOf 33)) = some y0 := h0
  rw [cO33] at h0
  replace h0 : DataW.trod enc Try.prog w base spare held k 33 [v0] = some y0 := h0
  obtain ⟨AR, lR, cR, elR, frR, gdR⟩ := rows_w (E := eRT) Try.underlying33 cO43 tw43 (by decide +kernel) h0 w0
  simp only [List.cons.injEq, and_true] at elR
  subst elR
  exact ⟨⟨lR, AR, cR⟩, rfl, frR, gt_all (Φ := fun r : RT => Fr eVis (HS w) w r.rA r.vis) gdR (Fr.nil _ _ _ _)⟩
end
end Go.Proofs.Ytdpmnodiebpjeaa.Sx
set_option maxRecDepth 20000
namespace Go.Proofs.Ytdpmnodiebpjeaa.Sx
open Go Go.SX Go.Proofs
theorem cellsOf46 : Try.prog.cellsOf 46 = 2 := by kernel_rfl
theorem cellsOf44 : Try.prog.cellsOf 44 = 1 := by kernel_rfl
theorem cellsOf3 : Try.prog.cellsOf 3 = 1 := by kernel_rfl
theorem told46 : Tells Try.prog 46 eVis (fun x => i64 x.kind ∧ i64 x.item) := by
 intro H enc w base spare held n cs y h
 obtain ⟨xs, k, _, _, hl, hx, hf⟩ := DataW.trod_struct Try.underlying46 h
 rw [cellsOf46] at hl
 match cs, hl with
 | [v0, v1], _ =>
  have h0 : DataW.trod enc Try.prog w base spare held k 44 (([v0, v1].drop 0).take (Try.prog.cellsOf 44)) = xs[0]? := hf 0 _ rfl
  have h1 : DataW.trod enc Try.prog w base spare held k 3 (([v0, v1].drop 1).take (Try.prog.cellsOf 3)) = xs[1]? := hf 1 _ rfl
  rw [List.getElem?_eq_getElem (by rw [hx]; decide)] at h0 h1
  simp only [cellsOf44, cellsOf3] at h0 h1
  obtain ⟨m0, e0, _, w0⟩ := DataW.trod_int Try.underlying44 h0
  obtain ⟨m1, e1, _, w1⟩ := DataW.trod_int Try.underlying3 h1
  simp at e0 e1
  subst e0 e1
  exact ⟨⟨m0, m1⟩, rfl, wf_i64 w0, wf_i64 w1⟩
end Go.Proofs.Ytdpmnodiebpjeaa.Sx
