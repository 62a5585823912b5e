import Derived.Test.YtdpmnodiebpjeaaProg
import Derived.Test.YtdpmnodiebpjeaaS3
set_option linter.unusedVariables false
set_option linter.unusedSimpArgs false
set_option linter.unusedSectionVars false
set_option maxRecDepth 20000
set_option maxHeartbeats 1000000
namespace Go.Proofs.Ytdpmnodiebpjeaa.Sx.FG
open Go Go.SX Go.Proofs
theorem hbd50 : hasBody Try.prog 50 = true := by kernel_rfl
theorem fo43_0 : fo Try.prog 43 0 = some 0 := by kernel_rfl
theorem ty3 : ty Try.prog 3 = some (false, 1) := by kernel_rfl
theorem hbd33 : hasBody Try.prog 33 = true := by kernel_rfl
theorem ty29 : ty Try.prog 29 = some (true, 8) := by kernel_rfl
theorem ty54 : ty Try.prog 54 = some (true, 2) := by kernel_rfl
theorem hbd42 : hasBody Try.prog 42 = true := by kernel_rfl
theorem mo : Try.prog.follows .mixedOrders = true := by kernel_rfl
theorem ty43 : ty Try.prog 43 = some (true, 2) := by kernel_rfl
theorem hbd32 : hasBody Try.prog 32 = true := by kernel_rfl
theorem hbd68 : hasBody Try.prog 68 = true := by kernel_rfl
theorem hbd49 : hasBody Try.prog 49 = true := by kernel_rfl
theorem hbd41 : hasBody Try.prog 41 = true := by kernel_rfl
theorem hbd75 : hasBody Try.prog 75 = true := by kernel_rfl
theorem hbd59 : hasBody Try.prog 59 = true := by kernel_rfl
end Go.Proofs.Ytdpmnodiebpjeaa.Sx.FG
namespace Go.Proofs.Ytdpmnodiebpjeaa.Sx
open Go Go.SX Go.Proofs FG
theorem isnan_ (a : Int) (S : Nat → Prop) (wf : World) :
  TR0 Try.prog 50 [.int .i64 a] [] S wf (fun v_ C_ => v_ = .bool (a != a) ∧ C_ = []) := by
 refine TR.mk Try.func50 rfl Try.ntmps50 rfl rfl (fun w_ => ?_)
 refine .seq (.region (.a rfl rfl rfl (.go idQ (.seq (.region ?_)))))
 exact .m rfl rfl rfl (.m rfl rfl rfl (.v (ev_cmp rfl rfl rfl rfl) rfl (.a rfl rfl rfl (.go idQ (.ret idQ (ret1 Try.results50 rfl .n ⟨rfl, rfl⟩))))))
theorem compare_ (a : Int) (b : Int) (S : Nat → Prop) (wf : World) :
  TR0 Try.prog 33 [.int .i64 a, .int .i64 b] [] S wf (fun v_ C_ => v_ = .int .i64 (cmpI a b) ∧ C_ = []) := by
 refine TR.mk Try.func33 rfl Try.ntmps33 rfl rfl (fun w_ => ?_)
 refine .seq (.region (.a rfl rfl rfl (.go idQ (.seq (.region ?_)))))
 refine .m rfl rfl rfl (.cons (st_callk rfl rfl rfl rfl hbd50 rfl .n (isnan_ a _ _) (.a rfl rfl rfl (.go idQ (.seq (.region ?_))))))
 refine .m rfl rfl rfl (.cons (st_callk rfl rfl rfl rfl hbd50 rfl .n (isnan_ b _ _) (.a rfl rfl rfl (.go idQ (.seq (.seq ?_))))))
 refine .region (.m rfl rfl rfl (.go idQ (.condI rfl bNE (fun h1 => ?_) (fun h1 => ?_))))
 ·
  exfalso; omega
 refine .skipgo idQ (.seq (.seq (.region (.m rfl rfl rfl (.go idQ ?_)))))
 refine .condI rfl bNE (fun h2 => ?_) (fun h2 => ?_)
 ·
  exfalso; omega
 refine .skipgo idQ (.seq (.seq (.region (.m rfl rfl rfl (.m rfl rfl rfl ?_)))))
 refine .v (ev_cmp rfl rfl rfl rfl) rfl (.go idQ (.condI rfl bD (fun h3 => ?_) (fun h3 => ?_)))
 ·
  exact .seq (.region (.a rfl rfl rfl (.go idQ (.ret idQ (ret1 Try.results33 rfl .n ⟨(congrArg (Value.int .i64) (by unfold cmpI; rw [if_pos (by omega)])), rfl⟩)))))
 refine .skipgo idQ (.seq (.seq (.region (.m rfl rfl rfl (.m rfl rfl rfl ?_)))))
 refine .v (ev_cmp rfl rfl rfl rfl) rfl (.go idQ (.condI rfl bD (fun h4 => ?_) (fun h4 => ?_)))
 ·
  exact .seq (.region (.a rfl rfl rfl (.go idQ (.ret idQ (ret1 Try.results33 rfl .n ⟨(congrArg (Value.int .i64) (by unfold cmpI; rw [if_neg (by omega), if_pos (by omega)])), rfl⟩)))))
 exact .skipgo idQ (.seq (.region (.a rfl rfl rfl (.go idQ (.ret idQ (ret1 Try.results33 rfl .n ⟨(congrArg (Value.int .i64) (by unfold cmpI; rw [if_neg (by omega), if_neg (by omega)])), rfl⟩))))))
theorem withc_ (x : RT) (y : RT) (S : Nat → Prop) (wf : World) :
  TR0 Try.prog 32 [.agg #[.int .i64 x.veh, .slice x.rA x.vis.length x.rc], .agg #[.int .i64 y.veh, .slice y.rA y.vis.length y.rc]] [] S wf (fun v_ C_ => v_ = .int .i64 (cmpI x.veh y.veh) ∧ C_ = []) := by
 refine TR.mk Try.func32 rfl Try.ntmps32 rfl rfl (fun w_ => ?_)
 refine .seq (.region (.cons (st_boxa rfl rfl rfl rfl rfl (fun b1 => .cons (st_boxa rfl rfl rfl rfl rfl (fun b2 => .a rfl rfl rfl (.go idQ ?_)))))))
 refine .seq (.region (.v (ev_fa rfl fo43_0 rfl (r := 0) rfl) rfl (.v (ev_ld1 rfl ty3 rfl (At.own1 1 rfl rfl)) rfl (.v (ev_fa rfl fo43_0 rfl (r := 0) rfl) rfl (.v (ev_ld1 rfl ty3 rfl (At.own1 0 rfl rfl)) rfl ?_)))))
 exact .cons (st_callk rfl rfl rfl rfl hbd33 rfl .n (compare_ x.veh y.veh _ _) (.a rfl rfl rfl (.go idQ (.ret idQ (ret1 Try.results32 rfl .n ⟨rfl, rfl⟩)))))
theorem tasksc_ (p : PB) (b : Nat) (x : TK) (y : TK) (S : Nat → Prop) (wf : World) (hPB : PBF S wf p) (hL : LawP p) :
  TR0 Try.prog 41 [.agg #[.bool x.ship, .int .i64 x.item], .agg #[.bool y.ship, .int .i64 y.item], .pointer (some ⟨b, 0, none⟩)] [cel b [.int .i64 p.dims, .int .i64 p.tn, .slice p.ptA p.time.length p.ptc, .int .i64 p.dn, .slice p.pdA p.dist.length p.pdc, .slice p.pvA p.vehs.length p.pvc, .slice p.pjA p.jobs.length p.pjc, .slice p.psA p.ships.length p.psc] 29] S wf (fun v_ C_ => v_ = .int .i64 (prioF p y - prioF p x) ∧ C_ = [cel b [.int .i64 p.dims, .int .i64 p.tn, .slice p.ptA p.time.length p.ptc, .int .i64 p.dn, .slice p.pdA p.dist.length p.pdc, .slice p.pvA p.vehs.length p.pvc, .slice p.pjA p.jobs.length p.pjc, .slice p.psA p.ships.length p.psc] 29]) := by
 have hpx := prio_rng hL x
 have hpy := prio_rng hL y
 refine TR.mk Try.func41 rfl Try.ntmps41 rfl rfl (fun w_ => ?_)
 refine .seq (.region (.cons (st_boxa rfl rfl rfl rfl rfl (fun b1 => .cons (st_boxa rfl rfl rfl rfl rfl (fun b2 => .a rfl rfl rfl (.go idQ ?_)))))))
 refine .seq ?_
 refine SC.draw mo [] [] .n (fun _ _ _ => sc0) (fun wf_3 hl_3 hx_3 hR_3 => ?_)
 refine SR.z 0 rfl rfl (ev_lda (cs := [.int .i64 p.dims, .int .i64 p.tn, .slice p.ptA p.time.length p.ptc, .int .i64 p.dn, .slice p.pdA p.dist.length p.pdc, .slice p.pvA p.vehs.length p.pvc, .slice p.pjA p.jobs.length p.pjc, .slice p.psA p.ships.length p.psc]) rfl rfl (At.d (At.lent hR_3 2 rfl rfl)) ty29) (SR.z 1 rfl rfl (ev_lda (cs := [.bool y.ship, .int .i64 y.item]) rfl rfl (At.d (At.lent hR_3 0 rfl rfl)) ty54) (SR.z 3 rfl rfl (ev_lda (cs := [.int .i64 p.dims, .int .i64 p.tn, .slice p.ptA p.time.length p.ptc, .int .i64 p.dn, .slice p.pdA p.dist.length p.pdc, .slice p.pvA p.vehs.length p.pvc, .slice p.pjA p.jobs.length p.pjc, .slice p.psA p.ships.length p.psc]) rfl rfl (At.d (At.lent hR_3 2 rfl rfl)) ty29) (SR.z 4 rfl rfl (ev_lda (cs := [.bool x.ship, .int .i64 x.item]) rfl rfl (At.d (At.lent hR_3 1 rfl rfl)) ty54) (SR.o 2 rfl (st_callk rfl rfl rfl rfl hbd42 rfl .n (prio_ p y _ _ ((hPB).ext hx_3)) ⟨tt0, (SR.o 5 rfl (st_callk rfl rfl rfl rfl hbd42 rfl .n (prio_ p x _ _ ((hPB).ext hx_3)) ⟨tt0, ?_⟩))⟩)))))
 exact SR.z 6 rfl rfl (ev_sub rfl rfl rfl (r := ((prioF p y) - (prioF p x))) rfl (by omega) (by omega)) (SR.z 7 rfl rfl (ev_as rfl rfl) (SR.fin (by kernel_rfl) hl_3 hx_3 hR_3 .n (SQ.go idQ (.ret idQ (ret1 Try.results41 rfl (.c (.t (.t .h)) .n) ⟨rfl, rfl⟩)))))
theorem insR (A : Option Addr) (n : Nat) (c : Nat) (l : List RT) (S : Nat → Prop) (wf : World) (hn : l.length = n) (hn2 : n ≤ 19) :
  TR0 Try.prog 68 [.slice A n c, .int .i64 0, .int .i64 (n : Int), .func (.func 32) #[] #[]] [rw_ eRT 43 (.slice A n c) l] S wf (fun v_ C_ => v_ = .tuple #[] ∧ C_ = [rw_ eRT 43 (.slice A n c) (sortF ltR l)]) := by
 refine TR.mk Try.func68 rfl Try.ntmps68 rfl rfl (fun w_ => ?_)
 refine .seq (.region (.m rfl rfl rfl (.v (ev_add rfl rfl rfl (r := 1) rfl (by omega) (by omega)) rfl (.a rfl rfl rfl (.go idQ ?_)))))
 refine .block ?_
 refine .loop (X := Int × (List RT)) (fun ⟨i, X⟩ => 1 ≤ i ∧ i ≤ (n : Int) + 1 ∧ (X.length : Int) = n ∧ srt ltR ((n : Int) - i).toNat i.toNat X = sortF ltR l) (fun ⟨i, X⟩ => [(0, .slice A n c), (1, .int .i64 0), (2, .int .i64 (n : Int)), (3, .func (.func 32) #[] #[]), (8, .int .i64 i)]) (fun ⟨i, X⟩ => [rw_ eRT 43 (.slice A n c) X]) (fun _ => S) (fun _ => wf) (fun ⟨i, X⟩ => ((n : Int) + 1 - i).toNat) (fun a_ w_ hs_ hw_ => ⟨⟨1, l⟩, (by exact ⟨(by omega), (by omega), (by omega), (by unfold sortF; rw [show ((n : Int) - 1).toNat = l.length - 1 from by omega]; rfl)⟩), hs_.mono (Sub.get (.c4 rfl rfl rfl rfl (.c rfl .n))), hw_.keep (.c .h .n)⟩) (fun ⟨i, X⟩ ⟨q_0, q_1, q_2, q_3⟩ => ?_)
 show SC _ _ _ _ _ ⟨[(0, .slice A n c), (1, .int .i64 0), (2, .int .i64 (n : Int)), (3, .func (.func 32) #[] #[]), (8, .int .i64 i)], [rw_ eRT 43 (.slice A n c) X], S, wf⟩
 refine .seq (.seq (.region (.m rfl rfl rfl (.m rfl rfl rfl (.v (ev_cmp rfl rfl rfl rfl) rfl ?_)))))
 refine .go idQ (.condI rfl bD (fun h1 => ?_) (fun h1 => ?_))
 ·
  refine .skipgo idQ (.seq (.block (.seq (.region (.m rfl rfl rfl ?_)))))
  refine .a rfl rfl rfl (.go idQ (.block ?_))
  refine .loop (X := Int × (List RT)) (fun ⟨j, Y⟩ => bub ltR Y j.toNat = bub ltR X i.toNat ∧ 0 ≤ j ∧ j ≤ i ∧ (Y.length : Int) = n) (fun ⟨j, Y⟩ => [(0, .slice A n c), (1, .int .i64 0), (2, .int .i64 (n : Int)), (3, .func (.func 32) #[] #[]), (8, .int .i64 i), (9, .int .i64 j)]) (fun ⟨j, Y⟩ => [rw_ eRT 43 (.slice A n c) Y]) (fun _ => S) (fun _ => wf) (fun ⟨j, Y⟩ => j.toNat) (fun a_ w_ hs_ hw_ => ⟨⟨i, X⟩, (by exact ⟨rfl, (by omega), (by omega), (by omega)⟩), hs_.mono (Sub.get (.c4 rfl rfl rfl rfl (.c rfl (.c rfl .n)))), hw_.keep (.c .h .n)⟩) (fun ⟨j, Y⟩ ⟨r_0, r_1, r_2, r_3⟩ => ?_)
  show SC _ _ _ _ _ ⟨[(0, .slice A n c), (1, .int .i64 0), (2, .int .i64 (n : Int)), (3, .func (.func 32) #[] #[]), (8, .int .i64 i), (9, .int .i64 j)], [rw_ eRT 43 (.slice A n c) Y], S, wf⟩
  refine .seq (.seq ?_)
  refine .know (row_form 0 rfl (by omega)) (fun hv4 => ?_)
  obtain ⟨g2, c3, hv4, hv4_1, hv4_2⟩ := hv4
  injection hv4 with eA _ _; subst eA
  by_cases hc5 : j > 0
  ·
   refine SC.draw mo [] [] .n (fun _ _ _ => sc0) (fun wf_6 hl_6 hx_6 hR_6 => ?_)
   refine SR.m 0 rfl rfl rfl rfl (SR.m 1 rfl rfl rfl rfl (SR.z 2 rfl rfl (ev_cmp (r := true) rfl rfl rfl (kbDT hc5)) (SR.m 3 rfl rfl rfl rfl (SR.y 4 rfl rfl (fun _ => ev_mv rfl rfl) (SR.y 5 rfl rfl (fun _ => ev_mv rfl rfl) ?_)))))
   refine SR.y 6 rfl rfl (fun _ => ev_mv rfl rfl) (SR.y 7 rfl rfl (fun _ => ev_ix rfl Try.underlying33 ty43 rfl rfl (by omega) (by omega) (fun _ _ => Fr.adr (i := j) (Fr.lent (S := S) hR_6 0 rfl (by first | omega | simp only [LL] <;> omega | simp <;> omega)) (by omega) (by omega))) (SR.y 8 rfl rfl (fun _ => ev_lda rfl rfl (At.d (Fr.el (i := j) (Fr.lent (S := S) hR_6 0 rfl (by first | omega | simp only [LL] <;> omega | simp <;> omega)) (by omega) (by omega))) ty43) (SR.y 9 rfl rfl (fun _ => ev_mv rfl rfl) (SR.y 10 rfl rfl (fun _ => ev_mv rfl rfl) (SR.y 11 rfl rfl (fun _ => ev_sub rfl rfl rfl (r := (j - 1)) rfl (by omega) (by omega)) ?_)))))
   refine SR.y 12 rfl rfl (fun _ => ev_ix rfl Try.underlying33 ty43 rfl rfl (by omega) (by omega) (fun _ _ => Fr.adr (i := (j - 1)) (Fr.lent (S := S) hR_6 0 rfl (by first | omega | simp only [LL] <;> omega | simp <;> omega)) (by omega) (by omega))) (SR.y 13 rfl rfl (fun _ => ev_lda rfl rfl (At.d (Fr.el (i := (j - 1)) (Fr.lent (S := S) hR_6 0 rfl (by first | omega | simp only [LL] <;> omega | simp <;> omega)) (by omega) (by omega))) ty43) (SR.o 14 rfl (.on rfl rfl rfl (.viafun rfl rfl (st_callk rfl rfl rfl rfl hbd32 rfl .n (withc_ (gt Y j) (gt Y (j - 1)) _ _) ⟨tt0, (SR.y 15 rfl rfl (fun _ => ev_cmp rfl rfl rfl rfl) (SR.z 16 rfl rfl (ev_pickt rfl rfl rfl rfl) (SR.fin (by kernel_rfl) hl_6 hx_6 hR_6 .n ?_)))⟩)))))
   refine SQ.go idQ (.condI rfl bD (fun h7 => ?_) (fun h7 => ?_))
   ·
    refine .skipgo idQ (.seq (.block ?_))
    refine SC.draw mo [rw_ eRT 43 (.slice (some ⟨g2, 0, none⟩) n c) Y] [(15, fun w => At w (ab (some ⟨g2, 0, none⟩)) (ao (some ⟨g2, 0, none⟩) + (j).toNat * eRT.sz) (eRT.enc (gt Y j)))] (.c .h .n) (fun w_ _ hw_ => (sc1 (row_el (E := eRT) (l := Y) (i := j) 0 rfl (by omega) (by first | omega | simp only [LL] <;> omega | simp <;> omega) w_ hw_) sc0)) (fun wf_8 hl_8 hx_8 hR_8 => ?_)
    refine SR.m 0 rfl rfl rfl rfl (SR.m 1 rfl rfl rfl rfl (SR.m 2 rfl rfl rfl rfl (SR.m 3 rfl rfl rfl rfl (SR.z 4 rfl rfl (ev_sub rfl rfl rfl (r := (j - 1)) rfl (by omega) (by omega)) (SR.m 5 rfl rfl rfl rfl ?_)))))
    refine SR.m 6 rfl rfl rfl rfl (SR.z 7 rfl rfl (ev_sub rfl rfl rfl (r := (j - 1)) rfl (by omega) (by omega)) (SR.z 8 rfl rfl (ev_ix rfl Try.underlying33 ty43 rfl rfl (by omega) (by omega) (fun _ _ => rfl)) (SR.m 10 rfl rfl rfl rfl (SR.m 11 rfl rfl rfl rfl (SR.z 12 rfl rfl (ev_ix rfl Try.underlying33 ty43 rfl rfl (by omega) (by omega) (fun _ _ => rfl)) ?_)))))
    refine SR.z 13 rfl rfl (ev_lda rfl rfl ((At.ofcs 0 rfl (by kernel_rfl))) ty43) (SR.o 9 rfl (Ev.step (ev_lda rfl rfl (row_el (E := eRT) (l := Y) (i := (j - 1)) 0 rfl (by omega) (by omega)) ty43) rfl rfl rfl ⟨ttr (i := j) 0 rfl (by omega) (by omega), (SR.z 14 rfl rfl (ev_ix rfl Try.underlying33 ty43 rfl rfl (by omega) (by omega) (fun _ _ => rfl)) (SR.o 15 rfl (st_setel (E := eRT) (i := j) (cs := [.int .i64 ((gt Y (j - 1)).veh), .slice ((gt Y (j - 1)).rA) ((gt Y (j - 1)).vis.length) ((gt Y (j - 1)).rc)]) (off := 0) (gt Y (j - 1)) rfl rfl rfl ty43 rfl rfl rfl rfl rfl .h (by first | omega | simp only [LL] <;> omega | simp <;> omega) (by first | omega | simp only [LL] <;> omega | simp <;> omega) (Nat.le_of_ble_eq_true rfl) rfl ⟨ttc (fun w_ hw_ => (tc2 (by kernel_rfl) tc0)), (SR.z 16 rfl rfl (ev_ix rfl Try.underlying33 ty43 rfl rfl (by omega) (by omega) (fun _ _ => rfl)) (SR.o 17 rfl (st_setel (E := eRT) (i := (j - 1)) (cs := [.int .i64 ((gt Y j).veh), .slice ((gt Y j).rA) ((gt Y j).vis.length) ((gt Y j).rc)]) (off := 0) (gt Y j) rfl rfl rfl ty43 rfl rfl rfl rfl rfl .h (by first | omega | simp only [LL] <;> omega | simp <;> omega) (by first | omega | simp only [LL] <;> omega | simp <;> omega) (Nat.le_of_ble_eq_true rfl) rfl ⟨ttc (fun w_ hw_ => (tc2 (by kernel_rfl) tc0)), ?_⟩)))⟩)))⟩))
    refine SR.fin (by kernel_rfl) hl_8 hx_8 hR_8 (.c .n) (SQ.go idQ (.region (.m rfl rfl rfl (.v (ev_sub rfl rfl rfl (r := (j - 1)) rfl (by omega) (by omega)) rfl (.a rfl rfl rfl ?_)))))
    exact SP.nil (SQ.roundb (X := Int × (List RT)) (x := (j, Y)) ⟨(j - 1), ((Y.set (j).toNat (gt Y (j - 1))).set ((j - 1)).toNat (gt Y j))⟩ (by exact ⟨(by have hq := r_0; rw [bub_step (by omega), if_pos (show ltR _ _ = true from decide_eq_true (by omega))] at hq; exact hq), (by omega), (by omega), (by simp only [List.length_set]; omega)⟩) (by dsimp only; omega) (Sub.get (.c4 rfl rfl rfl rfl (.c rfl (.c rfl .n)))) (fun w hw => hw.keep (.c .h .n)))
   exact .exit idQ (.region (.m rfl rfl rfl (.v (ev_add rfl rfl rfl (r := (i + 1)) rfl (by omega) (by omega)) rfl (.a rfl rfl rfl (SP.nil (SQ.roundb (X := Int × (List RT)) (x := (i, X)) ⟨(i + 1), Y⟩ (by exact ⟨(by omega), (by omega), (by omega), (by have hq := q_3; rw [srt_step (n := n) (by omega) (by omega), ← r_0, bub_stop (j := j) (by omega) (fun h_ => by have h1_ := h_.1; have h2_ := of_decide_eq_true h_.2; omega)] at hq; exact hq)⟩) (by dsimp only; omega) (Sub.get (.c4 rfl rfl rfl rfl (.c rfl .n))) (fun w hw => hw.keep (.c .h .n))))))))
  refine SC.draw mo [] [] .n (fun _ _ _ => sc0) (fun wf_9 hl_9 hx_9 hR_9 => ?_)
  refine SR.m 0 rfl rfl rfl rfl (SR.m 1 rfl rfl rfl rfl (SR.z 2 rfl rfl (ev_cmp (r := false) rfl rfl rfl (kbDF hc5)) (SR.m 3 rfl rfl rfl rfl (SR.gtake (v := undef) 4 rfl (by kernel_rfl) (by kernel_rfl) (by kernel_rfl) rfl (fun _ _ _ _ h => h) rfl rfl rfl rfl rfl (fun hb => by cases hb) (SR.gtake (v := undef) 5 rfl (by kernel_rfl) (by kernel_rfl) (by kernel_rfl) rfl (fun _ _ _ _ h => h) rfl rfl rfl rfl rfl (fun hb => by cases hb) ?_)))))
  refine SR.gtake (v := undef) 6 rfl (by kernel_rfl) (by kernel_rfl) (by kernel_rfl) rfl (fun _ _ _ _ h => h) rfl rfl rfl rfl rfl (fun hb => by cases hb) (SR.gtake (v := undef) 7 rfl (by kernel_rfl) (by kernel_rfl) (by kernel_rfl) rfl (fun _ _ _ _ h => h) rfl rfl rfl rfl rfl (fun hb => by cases hb) (SR.gtake (v := undef) 8 rfl (by kernel_rfl) (by kernel_rfl) (by kernel_rfl) rfl (fun _ _ _ _ h => h) rfl rfl rfl rfl rfl (fun hb => by cases hb) (SR.gtake (v := undef) 9 rfl (by kernel_rfl) (by kernel_rfl) (by kernel_rfl) rfl (fun _ _ _ _ h => h) rfl rfl rfl rfl rfl (fun hb => by cases hb) (SR.gtake (v := undef) 10 rfl (by kernel_rfl) (by kernel_rfl) (by kernel_rfl) rfl (fun _ _ _ _ h => h) rfl rfl rfl rfl rfl (fun hb => by cases hb) (SR.gtake (v := undef) 11 rfl (by kernel_rfl) (by kernel_rfl) (by kernel_rfl) rfl (fun _ _ _ _ h => h) rfl rfl rfl rfl rfl (fun hb => by cases hb) ?_)))))
  refine SR.gtake (v := undef) 12 rfl (by kernel_rfl) (by kernel_rfl) (by kernel_rfl) rfl (fun _ _ _ _ h => h) rfl rfl rfl rfl rfl (fun hb => by cases hb) (SR.gtake (v := undef) 13 rfl (by kernel_rfl) (by kernel_rfl) (by kernel_rfl) rfl (fun _ _ _ _ h => h) rfl rfl rfl rfl rfl (fun hb => by cases hb) (SR.gtake (v := undef) 14 rfl (by kernel_rfl) (by kernel_rfl) (by kernel_rfl) rfl (fun _ _ _ _ h => h) rfl rfl rfl rfl rfl (fun hb => by cases hb) (SR.gtake (v := undef) 15 rfl (by kernel_rfl) (by kernel_rfl) (by kernel_rfl) rfl (fun _ _ _ _ h => h) rfl rfl rfl rfl rfl (fun hb => by cases hb) (SR.z 16 rfl rfl (ev_pickf rfl rfl rfl rfl) (SR.fin (by kernel_rfl) hl_9 hx_9 hR_9 .n ?_)))))
  refine SQ.go idQ (.cond_f rfl (.exit idQ (.region (.m rfl rfl rfl (.v (ev_add rfl rfl rfl (r := (i + 1)) rfl (by omega) (by omega)) rfl ?_)))))
  exact .a rfl rfl rfl (SP.nil (SQ.roundb (X := Int × (List RT)) (x := (i, X)) ⟨(i + 1), Y⟩ (by exact ⟨(by omega), (by omega), (by omega), (by have hq := q_3; rw [srt_step (n := n) (by omega) (by omega), ← r_0, bub_stop (j := j) (by omega) (fun h_ => by have h1_ := h_.1; have h2_ := of_decide_eq_true h_.2; omega)] at hq; exact hq)⟩) (by dsimp only; omega) (Sub.get (.c4 rfl rfl rfl rfl (.c rfl .n))) (fun w hw => hw.keep (.c .h .n))))
 exact .exitq idQ (end0 Try.results68 (.c .h .n) ⟨rfl, (by rw [← q_3, srt_end (by omega)])⟩)
theorem stableR (A : Option Addr) (n : Nat) (c : Nat) (l : List RT) (S : Nat → Prop) (wf : World) (hn : l.length = n) (hn2 : n ≤ 19) :
  TR0 Try.prog 49 [.slice A n c, .int .i64 (n : Int), .func (.func 32) #[] #[]] [rw_ eRT 43 (.slice A n c) l] S wf (fun v_ C_ => v_ = .tuple #[] ∧ C_ = [rw_ eRT 43 (.slice A n c) (sortF ltR l)]) := by
 refine TR.mk Try.func49 rfl Try.ntmps49 rfl rfl (fun w_ => ?_)
 refine .seq (.region (.a rfl rfl rfl (.go idQ (.seq (.region ?_)))))
 refine .m rfl rfl rfl (.a rfl rfl rfl (.a rfl rfl rfl (.go idQ (.seq (.block ?_)))))
 refine .loop (X := Int × Int) (fun ⟨i, j⟩ => i = 0 ∧ j = 20) (fun ⟨i, j⟩ => [(0, .slice A n c), (1, .int .i64 (n : Int)), (2, .func (.func 32) #[] #[]), (6, .int .i64 20), (7, .int .i64 i), (8, .int .i64 j)]) (fun ⟨i, j⟩ => [rw_ eRT 43 (.slice A n c) l]) (fun _ => S) (fun _ => wf) (fun ⟨i, j⟩ => 0) (fun a_ w_ hs_ hw_ => ⟨⟨0, 20⟩, (by exact ⟨(by omega), (by omega)⟩), hs_.mono (Sub.get (.c4 rfl rfl rfl rfl (.c rfl (.c rfl .n)))), hw_.keep (.c .h .n)⟩) (fun ⟨i, j⟩ ⟨q_0, q_1⟩ => ?_)
 show SC _ _ _ _ _ ⟨[(0, .slice A n c), (1, .int .i64 (n : Int)), (2, .func (.func 32) #[] #[]), (6, .int .i64 20), (7, .int .i64 i), (8, .int .i64 j)], [rw_ eRT 43 (.slice A n c) l], S, wf⟩
 refine .seq (.seq (.region (.m rfl rfl rfl (.m rfl rfl rfl (.v (ev_cmp rfl rfl rfl rfl) rfl ?_)))))
 refine .go idQ (.condI rfl bD (fun h1 => ?_) (fun h1 => ?_))
 ·
  refine .skipgo idQ (.block (.seq ?_))
  exfalso; omega
 refine .exit idQ (.seq ?_)
 obtain rfl : i = 0 := by omega
 refine .region (.m rfl rfl rfl (.m rfl rfl rfl (.m rfl rfl rfl (.m rfl rfl rfl (.cons (st_call0 rfl rfl rfl rfl hbd68 rfl (.c .h .n) (insR A n c l _ _ (by first | omega | simp only [LL] <;> omega | simp <;> omega) (by omega)) (fun v_q2 C_q2 q2 => ?_)))))))
 obtain ⟨rfl, rfl⟩ := q2
 show SP _ _ _ _ _ _ ⟨_, _ :: _, _, _⟩
 refine .go idQ (.block ?_)
 refine .loop (X := Int) (fun k => k = 20 ∧ True) (fun k => [(0, .slice A n c), (1, .int .i64 (n : Int)), (2, .func (.func 32) #[] #[]), (6, .int .i64 k)]) (fun k => [rw_ eRT 43 (.slice A n c) (sortF ltR l)]) (fun _ => S) (fun _ => wf) (fun k => 0) (fun a_ w_ hs_ hw_ => ⟨20, (by exact ⟨(by omega), trivial⟩), hs_.mono (Sub.get (.c4 rfl rfl rfl rfl .n)), hw_.keep (.c .h .n)⟩) (fun k ⟨r_0, r_1⟩ => ?_)
 try dsimp only
 refine .seq (.seq (.region (.m rfl rfl rfl (.m rfl rfl rfl (.v (ev_cmp rfl rfl rfl rfl) rfl ?_)))))
 refine .go idQ (.condI rfl bD (fun h3 => ?_) (fun h3 => ?_))
 ·
  refine .skipgo idQ (.block (.seq ?_))
  exfalso; omega
 exact .exitq idQ (end0 Try.results49 (.c .h .n) ⟨rfl, rfl⟩)
theorem sortR (v : Value) (l : List RT) (S : Nat → Prop) (wf : World) (hn2 : l.length ≤ 19) :
  TR0 Try.prog 31 [v, .func (.func 32) #[] #[]] [rw_ eRT 43 (v) l] S wf (fun v_ C_ => v_ = .tuple #[] ∧ C_ = [rw_ eRT 43 (v) (sortF ltR l)]) := by
 refine TR.mk Try.func31 rfl Try.ntmps31 rfl rfl (fun w_ => ?_)
 refine .region (.m rfl rfl rfl (.m rfl rfl rfl ?_))
 refine .know (row_len 0 rfl) (fun hv3 => ?_)
 obtain ⟨A1, c2, rfl, hv3_1, hv3_2⟩ := hv3
 unfold maxLen at hv3_2
 refine .v (ev_len rfl Try.underlying33 rfl) rfl (.m rfl rfl rfl (.cons (st_call0 rfl rfl rfl rfl hbd49 rfl (.c .h .n) (stableR A1 l.length c2 l _ _ (by first | omega | simp only [LL] <;> omega | simp <;> omega) (by first | omega | simp only [LL] <;> omega | simp <;> omega)) (fun v_q4 C_q4 q4 => ?_))))
 obtain ⟨rfl, rfl⟩ := q4
 show SP _ _ _ _ _ _ ⟨_, _ :: _, _, _⟩
 exact SP.nil (end0 Try.results31 (.c .h .n) ⟨rfl, rfl⟩)
theorem insT (p : PB) (b : Nat) (A : Option Addr) (n : Nat) (c : Nat) (l : List TK) (S : Nat → Prop) (wf : World) (hPB : PBF S wf p) (hL : LawP p) (hn : l.length = n) (hn2 : n ≤ 19) :
  TR0 Try.prog 75 [.slice A n c, .int .i64 0, .int .i64 (n : Int), .func (.func 41) #[] #[.pointer (some ⟨b, 0, none⟩)]] [rw_ eTK 54 (.slice A n c) l, cel b [.int .i64 p.dims, .int .i64 p.tn, .slice p.ptA p.time.length p.ptc, .int .i64 p.dn, .slice p.pdA p.dist.length p.pdc, .slice p.pvA p.vehs.length p.pvc, .slice p.pjA p.jobs.length p.pjc, .slice p.psA p.ships.length p.psc] 29] S wf (fun v_ C_ => v_ = .tuple #[] ∧ C_ = [rw_ eTK 54 (.slice A n c) (sortF (ltT p) l), cel b [.int .i64 p.dims, .int .i64 p.tn, .slice p.ptA p.time.length p.ptc, .int .i64 p.dn, .slice p.pdA p.dist.length p.pdc, .slice p.pvA p.vehs.length p.pvc, .slice p.pjA p.jobs.length p.pjc, .slice p.psA p.ships.length p.psc] 29]) := by
 refine TR.mk Try.func75 rfl Try.ntmps75 rfl rfl (fun w_ => ?_)
 refine .seq (.region (.m rfl rfl rfl (.v (ev_add rfl rfl rfl (r := 1) rfl (by omega) (by omega)) rfl (.a rfl rfl rfl (.go idQ ?_)))))
 refine .block ?_
 refine .loop (X := Int × (List TK)) (fun ⟨i, X⟩ => 1 ≤ i ∧ i ≤ (n : Int) + 1 ∧ (X.length : Int) = n ∧ srt (ltT p) ((n : Int) - i).toNat i.toNat X = sortF (ltT p) l) (fun ⟨i, X⟩ => [(0, .slice A n c), (1, .int .i64 0), (2, .int .i64 (n : Int)), (3, .func (.func 41) #[] #[.pointer (some ⟨b, 0, none⟩)]), (8, .int .i64 i)]) (fun ⟨i, X⟩ => [rw_ eTK 54 (.slice A n c) X, cel b [.int .i64 p.dims, .int .i64 p.tn, .slice p.ptA p.time.length p.ptc, .int .i64 p.dn, .slice p.pdA p.dist.length p.pdc, .slice p.pvA p.vehs.length p.pvc, .slice p.pjA p.jobs.length p.pjc, .slice p.psA p.ships.length p.psc] 29]) (fun _ => S) (fun _ => wf) (fun ⟨i, X⟩ => ((n : Int) + 1 - i).toNat) (fun a_ w_ hs_ hw_ => ⟨⟨1, l⟩, (by exact ⟨(by omega), (by omega), (by omega), (by unfold sortF; rw [show ((n : Int) - 1).toNat = l.length - 1 from by omega]; rfl)⟩), hs_.mono (Sub.get (.c4 rfl rfl rfl rfl (.c rfl .n))), hw_.keep (.c .h (.c .h .n))⟩) (fun ⟨i, X⟩ ⟨q_0, q_1, q_2, q_3⟩ => ?_)
 show SC _ _ _ _ _ ⟨[(0, .slice A n c), (1, .int .i64 0), (2, .int .i64 (n : Int)), (3, .func (.func 41) #[] #[.pointer (some ⟨b, 0, none⟩)]), (8, .int .i64 i)], [rw_ eTK 54 (.slice A n c) X, cel b [.int .i64 p.dims, .int .i64 p.tn, .slice p.ptA p.time.length p.ptc, .int .i64 p.dn, .slice p.pdA p.dist.length p.pdc, .slice p.pvA p.vehs.length p.pvc, .slice p.pjA p.jobs.length p.pjc, .slice p.psA p.ships.length p.psc] 29], S, wf⟩
 refine .seq (.seq (.region (.m rfl rfl rfl (.m rfl rfl rfl (.v (ev_cmp rfl rfl rfl rfl) rfl ?_)))))
 refine .go idQ (.condI rfl bD (fun h1 => ?_) (fun h1 => ?_))
 ·
  refine .skipgo idQ (.seq (.block (.seq (.region (.m rfl rfl rfl ?_)))))
  refine .a rfl rfl rfl (.go idQ (.block ?_))
  refine .loop (X := Int × (List TK)) (fun ⟨j, Y⟩ => bub (ltT p) Y j.toNat = bub (ltT p) X i.toNat ∧ 0 ≤ j ∧ j ≤ i ∧ (Y.length : Int) = n) (fun ⟨j, Y⟩ => [(0, .slice A n c), (1, .int .i64 0), (2, .int .i64 (n : Int)), (3, .func (.func 41) #[] #[.pointer (some ⟨b, 0, none⟩)]), (8, .int .i64 i), (9, .int .i64 j)]) (fun ⟨j, Y⟩ => [rw_ eTK 54 (.slice A n c) Y, cel b [.int .i64 p.dims, .int .i64 p.tn, .slice p.ptA p.time.length p.ptc, .int .i64 p.dn, .slice p.pdA p.dist.length p.pdc, .slice p.pvA p.vehs.length p.pvc, .slice p.pjA p.jobs.length p.pjc, .slice p.psA p.ships.length p.psc] 29]) (fun _ => S) (fun _ => wf) (fun ⟨j, Y⟩ => j.toNat) (fun a_ w_ hs_ hw_ => ⟨⟨i, X⟩, (by exact ⟨rfl, (by omega), (by omega), (by omega)⟩), hs_.mono (Sub.get (.c4 rfl rfl rfl rfl (.c rfl (.c rfl .n)))), hw_.keep (.c .h (.c .h .n))⟩) (fun ⟨j, Y⟩ ⟨r_0, r_1, r_2, r_3⟩ => ?_)
  show SC _ _ _ _ _ ⟨[(0, .slice A n c), (1, .int .i64 0), (2, .int .i64 (n : Int)), (3, .func (.func 41) #[] #[.pointer (some ⟨b, 0, none⟩)]), (8, .int .i64 i), (9, .int .i64 j)], [rw_ eTK 54 (.slice A n c) Y, cel b [.int .i64 p.dims, .int .i64 p.tn, .slice p.ptA p.time.length p.ptc, .int .i64 p.dn, .slice p.pdA p.dist.length p.pdc, .slice p.pvA p.vehs.length p.pvc, .slice p.pjA p.jobs.length p.pjc, .slice p.psA p.ships.length p.psc] 29], S, wf⟩
  refine .seq (.seq ?_)
  refine .know (row_form 0 rfl (by omega)) (fun hv4 => ?_)
  obtain ⟨g2, c3, hv4, hv4_1, hv4_2⟩ := hv4
  injection hv4 with eA _ _; subst eA
  by_cases hc5 : j > 0
  ·
   refine SC.draw mo [cel b [.int .i64 p.dims, .int .i64 p.tn, .slice p.ptA p.time.length p.ptc, .int .i64 p.dn, .slice p.pdA p.dist.length p.pdc, .slice p.pvA p.vehs.length p.pvc, .slice p.pjA p.jobs.length p.pjc, .slice p.psA p.ships.length p.psc] 29] [] (.c (.t .h) .n) (fun _ _ _ => sc0) (fun wf_6 hl_6 hx_6 hR_6 => ?_)
   refine SR.m 0 rfl rfl rfl rfl (SR.m 1 rfl rfl rfl rfl (SR.z 2 rfl rfl (ev_cmp (r := true) rfl rfl rfl (kbDT hc5)) (SR.m 3 rfl rfl rfl rfl (SR.y 4 rfl rfl (fun _ => ev_mv rfl rfl) (SR.y 5 rfl rfl (fun _ => ev_mv rfl rfl) ?_)))))
   refine SR.y 6 rfl rfl (fun _ => ev_mv rfl rfl) (SR.y 7 rfl rfl (fun _ => ev_ix rfl Try.underlying57 ty54 rfl rfl (by omega) (by omega) (fun _ _ => Fr.adr (i := j) (Fr.lent (S := S) hR_6 0 rfl (by first | omega | simp only [LL] <;> omega | simp <;> omega)) (by omega) (by omega))) (SR.y 8 rfl rfl (fun _ => ev_lda rfl rfl (At.d (Fr.el (i := j) (Fr.lent (S := S) hR_6 0 rfl (by first | omega | simp only [LL] <;> omega | simp <;> omega)) (by omega) (by omega))) ty54) (SR.y 9 rfl rfl (fun _ => ev_mv rfl rfl) (SR.y 10 rfl rfl (fun _ => ev_mv rfl rfl) (SR.y 11 rfl rfl (fun _ => ev_sub rfl rfl rfl (r := (j - 1)) rfl (by omega) (by omega)) ?_)))))
   refine SR.y 12 rfl rfl (fun _ => ev_ix rfl Try.underlying57 ty54 rfl rfl (by omega) (by omega) (fun _ _ => Fr.adr (i := (j - 1)) (Fr.lent (S := S) hR_6 0 rfl (by first | omega | simp only [LL] <;> omega | simp <;> omega)) (by omega) (by omega))) (SR.y 13 rfl rfl (fun _ => ev_lda rfl rfl (At.d (Fr.el (i := (j - 1)) (Fr.lent (S := S) hR_6 0 rfl (by first | omega | simp only [LL] <;> omega | simp <;> omega)) (by omega) (by omega))) ty54) (SR.o 14 rfl (.on rfl rfl rfl (.viacap (args' := #[.tmp 26, .tmp 31, .const (.pointer (some ⟨b, 0, none⟩))]) rfl rfl (by simp) hbd41 (st_callk rfl rfl rfl rfl hbd41 rfl (.c .h .n) (tasksc_ p b (gt Y j) (gt Y (j - 1)) _ _ ((hPB).ext hx_6) (by omega)) ⟨tt0, (SR.y 15 rfl rfl (fun _ => ev_cmp rfl rfl rfl rfl) (SR.z 16 rfl rfl (ev_pickt rfl rfl rfl rfl) (SR.fin (by kernel_rfl) hl_6 hx_6 hR_6 (.c .n) ?_)))⟩)))))
   refine SQ.go idQ (.condI rfl bD (fun h7 => ?_) (fun h7 => ?_))
   ·
    refine .skipgo idQ (.seq (.block ?_))
    refine SC.draw mo [rw_ eTK 54 (.slice (some ⟨g2, 0, none⟩) n c) Y] [(15, fun w => At w (ab (some ⟨g2, 0, none⟩)) (ao (some ⟨g2, 0, none⟩) + (j).toNat * eTK.sz) (eTK.enc (gt Y j)))] (.c (.t .h) .n) (fun w_ _ hw_ => (sc1 (row_el (E := eTK) (l := Y) (i := j) 0 rfl (by omega) (by first | omega | simp only [LL] <;> omega | simp <;> omega) w_ hw_) sc0)) (fun wf_8 hl_8 hx_8 hR_8 => ?_)
    refine SR.m 0 rfl rfl rfl rfl (SR.m 1 rfl rfl rfl rfl (SR.m 2 rfl rfl rfl rfl (SR.m 3 rfl rfl rfl rfl (SR.z 4 rfl rfl (ev_sub rfl rfl rfl (r := (j - 1)) rfl (by omega) (by omega)) (SR.m 5 rfl rfl rfl rfl ?_)))))
    refine SR.m 6 rfl rfl rfl rfl (SR.z 7 rfl rfl (ev_sub rfl rfl rfl (r := (j - 1)) rfl (by omega) (by omega)) (SR.z 8 rfl rfl (ev_ix rfl Try.underlying57 ty54 rfl rfl (by omega) (by omega) (fun _ _ => rfl)) (SR.m 10 rfl rfl rfl rfl (SR.m 11 rfl rfl rfl rfl (SR.z 12 rfl rfl (ev_ix rfl Try.underlying57 ty54 rfl rfl (by omega) (by omega) (fun _ _ => rfl)) ?_)))))
    refine SR.z 13 rfl rfl (ev_lda rfl rfl ((At.ofcs 0 rfl (by kernel_rfl))) ty54) (SR.o 9 rfl (Ev.step (ev_lda rfl rfl (row_el (E := eTK) (l := Y) (i := (j - 1)) 0 rfl (by omega) (by omega)) ty54) rfl rfl rfl ⟨ttr (i := j) 0 rfl (by omega) (by omega), (SR.z 14 rfl rfl (ev_ix rfl Try.underlying57 ty54 rfl rfl (by omega) (by omega) (fun _ _ => rfl)) (SR.o 15 rfl (st_setel (E := eTK) (i := j) (cs := [.bool ((gt Y (j - 1)).ship), .int .i64 ((gt Y (j - 1)).item)]) (off := 0) (gt Y (j - 1)) rfl rfl rfl ty54 rfl rfl rfl rfl rfl .h (by first | omega | simp only [LL] <;> omega | simp <;> omega) (by first | omega | simp only [LL] <;> omega | simp <;> omega) (Nat.le_of_ble_eq_true rfl) rfl ⟨ttc (fun w_ hw_ => (tc2 (by kernel_rfl) tc0)), (SR.z 16 rfl rfl (ev_ix rfl Try.underlying57 ty54 rfl rfl (by omega) (by omega) (fun _ _ => rfl)) (SR.o 17 rfl (st_setel (E := eTK) (i := (j - 1)) (cs := [.bool ((gt Y j).ship), .int .i64 ((gt Y j).item)]) (off := 0) (gt Y j) rfl rfl rfl ty54 rfl rfl rfl rfl rfl .h (by first | omega | simp only [LL] <;> omega | simp <;> omega) (by first | omega | simp only [LL] <;> omega | simp <;> omega) (Nat.le_of_ble_eq_true rfl) rfl ⟨ttc (fun w_ hw_ => (tc2 (by kernel_rfl) tc0)), ?_⟩)))⟩)))⟩))
    refine SR.fin (by kernel_rfl) hl_8 hx_8 hR_8 (.c .n) (SQ.go idQ (.region (.m rfl rfl rfl (.v (ev_sub rfl rfl rfl (r := (j - 1)) rfl (by omega) (by omega)) rfl (.a rfl rfl rfl ?_)))))
    exact SP.nil (SQ.roundb (X := Int × (List TK)) (x := (j, Y)) ⟨(j - 1), ((Y.set (j).toNat (gt Y (j - 1))).set ((j - 1)).toNat (gt Y j))⟩ (by exact ⟨(by have hq := r_0; rw [bub_step (by omega), if_pos (show (ltT p) _ _ = true from decide_eq_true (by omega))] at hq; exact hq), (by omega), (by omega), (by simp only [List.length_set]; omega)⟩) (by dsimp only; omega) (Sub.get (.c4 rfl rfl rfl rfl (.c rfl (.c rfl .n)))) (fun w hw => hw.keep (.c .h (.c .h .n))))
   exact .exit idQ (.region (.m rfl rfl rfl (.v (ev_add rfl rfl rfl (r := (i + 1)) rfl (by omega) (by omega)) rfl (.a rfl rfl rfl (SP.nil (SQ.roundb (X := Int × (List TK)) (x := (i, X)) ⟨(i + 1), Y⟩ (by exact ⟨(by omega), (by omega), (by omega), (by have hq := q_3; rw [srt_step (n := n) (by omega) (by omega), ← r_0, bub_stop (j := j) (by omega) (fun h_ => by have h1_ := h_.1; have h2_ := of_decide_eq_true h_.2; omega)] at hq; exact hq)⟩) (by dsimp only; omega) (Sub.get (.c4 rfl rfl rfl rfl (.c rfl .n))) (fun w hw => hw.keep (.c (.t .h) (.c .h .n)))))))))
  refine SC.draw mo [] [] .n (fun _ _ _ => sc0) (fun wf_9 hl_9 hx_9 hR_9 => ?_)
  refine SR.m 0 rfl rfl rfl rfl (SR.m 1 rfl rfl rfl rfl (SR.z 2 rfl rfl (ev_cmp (r := false) rfl rfl rfl (kbDF hc5)) (SR.m 3 rfl rfl rfl rfl (SR.gtake (v := undef) 4 rfl (by kernel_rfl) (by kernel_rfl) (by kernel_rfl) rfl (fun _ _ _ _ h => h) rfl rfl rfl rfl rfl (fun hb => by cases hb) (SR.gtake (v := undef) 5 rfl (by kernel_rfl) (by kernel_rfl) (by kernel_rfl) rfl (fun _ _ _ _ h => h) rfl rfl rfl rfl rfl (fun hb => by cases hb) ?_)))))
  refine SR.gtake (v := undef) 6 rfl (by kernel_rfl) (by kernel_rfl) (by kernel_rfl) rfl (fun _ _ _ _ h => h) rfl rfl rfl rfl rfl (fun hb => by cases hb) (SR.gtake (v := undef) 7 rfl (by kernel_rfl) (by kernel_rfl) (by kernel_rfl) rfl (fun _ _ _ _ h => h) rfl rfl rfl rfl rfl (fun hb => by cases hb) (SR.gtake (v := undef) 8 rfl (by kernel_rfl) (by kernel_rfl) (by kernel_rfl) rfl (fun _ _ _ _ h => h) rfl rfl rfl rfl rfl (fun hb => by cases hb) (SR.gtake (v := undef) 9 rfl (by kernel_rfl) (by kernel_rfl) (by kernel_rfl) rfl (fun _ _ _ _ h => h) rfl rfl rfl rfl rfl (fun hb => by cases hb) (SR.gtake (v := undef) 10 rfl (by kernel_rfl) (by kernel_rfl) (by kernel_rfl) rfl (fun _ _ _ _ h => h) rfl rfl rfl rfl rfl (fun hb => by cases hb) (SR.gtake (v := undef) 11 rfl (by kernel_rfl) (by kernel_rfl) (by kernel_rfl) rfl (fun _ _ _ _ h => h) rfl rfl rfl rfl rfl (fun hb => by cases hb) ?_)))))
  refine SR.gtake (v := undef) 12 rfl (by kernel_rfl) (by kernel_rfl) (by kernel_rfl) rfl (fun _ _ _ _ h => h) rfl rfl rfl rfl rfl (fun hb => by cases hb) (SR.gtake (v := undef) 13 rfl (by kernel_rfl) (by kernel_rfl) (by kernel_rfl) rfl (fun _ _ _ _ h => h) rfl rfl rfl rfl rfl (fun hb => by cases hb) (SR.gtake (v := undef) 14 rfl (by kernel_rfl) (by kernel_rfl) (by kernel_rfl) rfl (fun _ _ _ _ h => h) rfl rfl rfl rfl rfl (fun hb => by cases hb) (SR.gtake (v := undef) 15 rfl (by kernel_rfl) (by kernel_rfl) (by kernel_rfl) rfl (fun _ _ _ _ h => h) rfl rfl rfl rfl rfl (fun hb => by cases hb) (SR.z 16 rfl rfl (ev_pickf rfl rfl rfl rfl) (SR.fin (by kernel_rfl) hl_9 hx_9 hR_9 .n ?_)))))
  refine SQ.go idQ (.cond_f rfl (.exit idQ (.region (.m rfl rfl rfl (.v (ev_add rfl rfl rfl (r := (i + 1)) rfl (by omega) (by omega)) rfl ?_)))))
  exact .a rfl rfl rfl (SP.nil (SQ.roundb (X := Int × (List TK)) (x := (i, X)) ⟨(i + 1), Y⟩ (by exact ⟨(by omega), (by omega), (by omega), (by have hq := q_3; rw [srt_step (n := n) (by omega) (by omega), ← r_0, bub_stop (j := j) (by omega) (fun h_ => by have h1_ := h_.1; have h2_ := of_decide_eq_true h_.2; omega)] at hq; exact hq)⟩) (by dsimp only; omega) (Sub.get (.c4 rfl rfl rfl rfl (.c rfl .n))) (fun w hw => hw.keep (.c .h (.c .h .n)))))
 exact .exitq idQ (end0 Try.results75 (.c .h (.c .h .n)) ⟨rfl, (by rw [← q_3, srt_end (by omega)])⟩)
theorem stableT (p : PB) (b : Nat) (A : Option Addr) (n : Nat) (c : Nat) (l : List TK) (S : Nat → Prop) (wf : World) (hPB : PBF S wf p) (hL : LawP p) (hn : l.length = n) (hn2 : n ≤ 19) :
  TR0 Try.prog 59 [.slice A n c, .int .i64 (n : Int), .func (.func 41) #[] #[.pointer (some ⟨b, 0, none⟩)]] [rw_ eTK 54 (.slice A n c) l, cel b [.int .i64 p.dims, .int .i64 p.tn, .slice p.ptA p.time.length p.ptc, .int .i64 p.dn, .slice p.pdA p.dist.length p.pdc, .slice p.pvA p.vehs.length p.pvc, .slice p.pjA p.jobs.length p.pjc, .slice p.psA p.ships.length p.psc] 29] S wf (fun v_ C_ => v_ = .tuple #[] ∧ C_ = [rw_ eTK 54 (.slice A n c) (sortF (ltT p) l), cel b [.int .i64 p.dims, .int .i64 p.tn, .slice p.ptA p.time.length p.ptc, .int .i64 p.dn, .slice p.pdA p.dist.length p.pdc, .slice p.pvA p.vehs.length p.pvc, .slice p.pjA p.jobs.length p.pjc, .slice p.psA p.ships.length p.psc] 29]) := by
 refine TR.mk Try.func59 rfl Try.ntmps59 rfl rfl (fun w_ => ?_)
 refine .seq (.region (.a rfl rfl rfl (.go idQ (.seq (.region ?_)))))
 refine .m rfl rfl rfl (.a rfl rfl rfl (.a rfl rfl rfl (.go idQ (.seq (.block ?_)))))
 refine .loop (X := Int × Int) (fun ⟨i, j⟩ => i = 0 ∧ j = 20) (fun ⟨i, j⟩ => [(0, .slice A n c), (1, .int .i64 (n : Int)), (2, .func (.func 41) #[] #[.pointer (some ⟨b, 0, none⟩)]), (6, .int .i64 20), (7, .int .i64 i), (8, .int .i64 j)]) (fun ⟨i, j⟩ => [rw_ eTK 54 (.slice A n c) l, cel b [.int .i64 p.dims, .int .i64 p.tn, .slice p.ptA p.time.length p.ptc, .int .i64 p.dn, .slice p.pdA p.dist.length p.pdc, .slice p.pvA p.vehs.length p.pvc, .slice p.pjA p.jobs.length p.pjc, .slice p.psA p.ships.length p.psc] 29]) (fun _ => S) (fun _ => wf) (fun ⟨i, j⟩ => 0) (fun a_ w_ hs_ hw_ => ⟨⟨0, 20⟩, (by exact ⟨(by omega), (by omega)⟩), hs_.mono (Sub.get (.c4 rfl rfl rfl rfl (.c rfl (.c rfl .n)))), hw_.keep (.c .h (.c .h .n))⟩) (fun ⟨i, j⟩ ⟨q_0, q_1⟩ => ?_)
 show SC _ _ _ _ _ ⟨[(0, .slice A n c), (1, .int .i64 (n : Int)), (2, .func (.func 41) #[] #[.pointer (some ⟨b, 0, none⟩)]), (6, .int .i64 20), (7, .int .i64 i), (8, .int .i64 j)], [rw_ eTK 54 (.slice A n c) l, cel b [.int .i64 p.dims, .int .i64 p.tn, .slice p.ptA p.time.length p.ptc, .int .i64 p.dn, .slice p.pdA p.dist.length p.pdc, .slice p.pvA p.vehs.length p.pvc, .slice p.pjA p.jobs.length p.pjc, .slice p.psA p.ships.length p.psc] 29], S, wf⟩
 refine .seq (.seq (.region (.m rfl rfl rfl (.m rfl rfl rfl (.v (ev_cmp rfl rfl rfl rfl) rfl ?_)))))
 refine .go idQ (.condI rfl bD (fun h1 => ?_) (fun h1 => ?_))
 ·
  refine .skipgo idQ (.block (.seq ?_))
  exfalso; omega
 refine .exit idQ (.seq ?_)
 obtain rfl : i = 0 := by omega
 refine .region (.m rfl rfl rfl (.m rfl rfl rfl (.m rfl rfl rfl (.m rfl rfl rfl (.cons (st_call0 rfl rfl rfl rfl hbd75 rfl (.c .h (.c .h .n)) (insT p b A n c l _ _ hPB (by omega) (by first | omega | simp only [LL] <;> omega | simp <;> omega) (by omega)) (fun v_q2 C_q2 q2 => ?_)))))))
 obtain ⟨rfl, rfl⟩ := q2
 show SP _ _ _ _ _ _ ⟨_, _ :: _ :: _, _, _⟩
 refine .go idQ (.block ?_)
 refine .loop (X := Int) (fun k => k = 20 ∧ True) (fun k => [(0, .slice A n c), (1, .int .i64 (n : Int)), (2, .func (.func 41) #[] #[.pointer (some ⟨b, 0, none⟩)]), (6, .int .i64 k)]) (fun k => [rw_ eTK 54 (.slice A n c) (sortF (ltT p) l), cel b [.int .i64 p.dims, .int .i64 p.tn, .slice p.ptA p.time.length p.ptc, .int .i64 p.dn, .slice p.pdA p.dist.length p.pdc, .slice p.pvA p.vehs.length p.pvc, .slice p.pjA p.jobs.length p.pjc, .slice p.psA p.ships.length p.psc] 29]) (fun _ => S) (fun _ => wf) (fun k => 0) (fun a_ w_ hs_ hw_ => ⟨20, (by exact ⟨(by omega), trivial⟩), hs_.mono (Sub.get (.c4 rfl rfl rfl rfl .n)), hw_.keep (.c .h (.c .h .n))⟩) (fun k ⟨r_0, r_1⟩ => ?_)
 try dsimp only
 refine .seq (.seq (.region (.m rfl rfl rfl (.m rfl rfl rfl (.v (ev_cmp rfl rfl rfl rfl) rfl ?_)))))
 refine .go idQ (.condI rfl bD (fun h3 => ?_) (fun h3 => ?_))
 ·
  refine .skipgo idQ (.block (.seq ?_))
  exfalso; omega
 exact .exitq idQ (end0 Try.results59 (.c .h (.c .h .n)) ⟨rfl, rfl⟩)
theorem sortT (p : PB) (b : Nat) (v : Value) (l : List TK) (S : Nat → Prop) (wf : World) (hPB : PBF S wf p) (hL : LawP p) (hn2 : l.length ≤ 19) :
  TR0 Try.prog 40 [v, .func (.func 41) #[] #[.pointer (some ⟨b, 0, none⟩)]] [rw_ eTK 54 (v) l, cel b [.int .i64 p.dims, .int .i64 p.tn, .slice p.ptA p.time.length p.ptc, .int .i64 p.dn, .slice p.pdA p.dist.length p.pdc, .slice p.pvA p.vehs.length p.pvc, .slice p.pjA p.jobs.length p.pjc, .slice p.psA p.ships.length p.psc] 29] S wf (fun v_ C_ => v_ = .tuple #[] ∧ C_ = [rw_ eTK 54 (v) (sortF (ltT p) l), cel b [.int .i64 p.dims, .int .i64 p.tn, .slice p.ptA p.time.length p.ptc, .int .i64 p.dn, .slice p.pdA p.dist.length p.pdc, .slice p.pvA p.vehs.length p.pvc, .slice p.pjA p.jobs.length p.pjc, .slice p.psA p.ships.length p.psc] 29]) := by
 refine TR.mk Try.func40 rfl Try.ntmps40 rfl rfl (fun w_ => ?_)
 refine .region (.m rfl rfl rfl (.m rfl rfl rfl ?_))
 refine .know (row_len 0 rfl) (fun hv3 => ?_)
 obtain ⟨A1, c2, rfl, hv3_1, hv3_2⟩ := hv3
 unfold maxLen at hv3_2
 refine .v (ev_len rfl Try.underlying57 rfl) rfl (.m rfl rfl rfl (.cons (st_call0 rfl rfl rfl rfl hbd59 rfl (.c .h (.c .h .n)) (stableT p b A1 l.length c2 l _ _ hPB (by omega) (by first | omega | simp only [LL] <;> omega | simp <;> omega) (by first | omega | simp only [LL] <;> omega | simp <;> omega)) (fun v_q4 C_q4 q4 => ?_))))
 obtain ⟨rfl, rfl⟩ := q4
 show SP _ _ _ _ _ _ ⟨_, _ :: _ :: _, _, _⟩
 exact SP.nil (end0 Try.results40 (.c .h (.c .h .n)) ⟨rfl, rfl⟩)
end Go.Proofs.Ytdpmnodiebpjeaa.Sx
set_option maxRecDepth 20000
set_option maxHeartbeats 1000000
namespace Go.Proofs.Ytdpmnodiebpjeaa.Sx.FH
open Go Go.SX Go.Proofs
theorem fo35_0 : fo Try.prog 35 0 = some 0 := by kernel_rfl
theorem ty33 : ty Try.prog 33 = some (false, 1) := by kernel_rfl
theorem ty43 : ty Try.prog 43 = some (true, 2) := by kernel_rfl
theorem zf43 : (Try.prog.info? 43).bind (fun i => i.zero.map Value.cells) = some (List.toArray [.int .i64 0, .slice none 0 0]) := by kernel_rfl
theorem fo43_0 : fo Try.prog 43 0 = some 0 := by kernel_rfl
theorem ty3 : ty Try.prog 3 = some (false, 1) := by kernel_rfl
theorem fo43_1 : fo Try.prog 43 1 = some 1 := by kernel_rfl
theorem ty41 : ty Try.prog 41 = some (false, 1) := by kernel_rfl
theorem hbd30 : hasBody Try.prog 30 = true := by kernel_rfl
theorem zf35 : (Try.prog.info? 35).bind (fun i => i.zero.map Value.cells) = some (List.toArray [.slice none 0 0]) := by kernel_rfl
theorem ai43 : (Try.prog.info? 43).map (fun i => (i.zero, i.size, i.bytes)) = some (some (.agg #[.int .i64 0, .slice none 0 0]), 2, 32) := by kernel_rfl
theorem mo : Try.prog.follows .mixedOrders = true := by kernel_rfl
theorem hbd31 : hasBody Try.prog 31 = true := by kernel_rfl
theorem ty35 : ty Try.prog 35 = some (true, 1) := by kernel_rfl
theorem ty29 : ty Try.prog 29 = some (true, 8) := by kernel_rfl
theorem hbd53 : hasBody Try.prog 53 = true := by kernel_rfl
theorem zf89 : (Try.prog.info? 89).bind (fun i => i.zero.map Value.cells) = some (List.toArray [.int .i64 0, .slice none 0 0, .int .i64 0, .int .i64 0, .int .i64 0, .int .i64 0, .int .i64 0]) := by kernel_rfl
theorem ty89 : ty Try.prog 89 = some (true, 7) := by kernel_rfl
theorem fo89_6 : fo Try.prog 89 6 = some 6 := by kernel_rfl
theorem fo29_4 : fo Try.prog 29 4 = some 6 := by kernel_rfl
theorem ty26 : ty Try.prog 26 = some (false, 1) := by kernel_rfl
theorem ai54 : (Try.prog.info? 54).map (fun i => (i.zero, i.size, i.bytes)) = some (some (.agg #[.bool false, .int .i64 0]), 2, 16) := by kernel_rfl
theorem fo29_5 : fo Try.prog 29 5 = some 7 := by kernel_rfl
theorem ty27 : ty Try.prog 27 = some (false, 1) := by kernel_rfl
theorem hbd40 : hasBody Try.prog 40 = true := by kernel_rfl
theorem ty54 : ty Try.prog 54 = some (true, 2) := by kernel_rfl
theorem hbd34 : hasBody Try.prog 34 = true := by kernel_rfl
theorem ty46 : ty Try.prog 46 = some (true, 2) := by kernel_rfl
theorem hbd35 : hasBody Try.prog 35 = true := by kernel_rfl
theorem ai41 : (Try.prog.info? 41).map (fun i => (i.zero, i.size, i.bytes)) = some (some (.slice none 0 0), 1, 24) := by kernel_rfl
end Go.Proofs.Ytdpmnodiebpjeaa.Sx.FH
namespace Go.Proofs.Ytdpmnodiebpjeaa.Sx
open Go Go.SX Go.Proofs FH
theorem svisits_ (A : Option Addr) (c : Nat) (l : List RT) (v : Int) (S : Nat → Prop) (wf : World) (hA : Fr eRT S wf A l) (hRT : RTF S wf l) (hls : l.length ≤ 15) (hvs : ∀ i : Int, (gt l i).vis.length ≤ 50) :
  TR0 Try.prog 17 [.agg #[.slice A l.length c], .int .i64 v] [] S wf (fun v_ C_ => ∃ (u : Value), v_ = u ∧ C_ = [rw_ eVis 46 (u) (visR v (l.map rc))]) := by
 have hla := hA.len
 refine TR.mk Try.func17 rfl Try.ntmps17 rfl rfl (fun w_ => ?_)
 refine .seq (.region (.cons (st_boxa rfl rfl rfl rfl rfl (fun b1 => .a rfl rfl rfl (.go idQ (.seq ?_))))))
 refine .seq (.region (.v (ev_fa rfl fo35_0 rfl (r := 0) rfl) rfl (.v (ev_ld1 rfl ty33 rfl (At.own1 0 rfl rfl)) rfl (.v (ev_len rfl Try.underlying33 rfl) rfl (.m rfl rfl rfl ?_)))))
 refine .go idQ (.block ?_)
 refine .loop (X := Int) (fun i => 0 ≤ i ∧ i ≤ (l.length : Int) ∧ visR v ((l.map rc).drop i.toNat) = visR v (l.map rc)) (fun i => [(1, .int .i64 v), (8, .slice A l.length c), (9, .int .i64 (l.length : Int)), (10, .int .i64 i)]) (fun i => [cel b1 [.slice A l.length c] 35]) (fun _ => S) (fun _ => wf) (fun i => ((l.length : Int) - i).toNat) (fun a_ w_ hs_ hw_ => ⟨0, (by exact ⟨(by omega), (by omega), rfl⟩), hs_.mono (Sub.get (.c4 rfl rfl rfl rfl .n)), hw_.keep (.c .h .n)⟩) (fun i ⟨q_0, q_1, q_2⟩ => ?_)
 try dsimp only
 refine .seq (.region (.v (ev_cmp rfl rfl rfl rfl) rfl (.go idQ (.seq (.condI rfl bD (fun h2 => ?_) (fun h2 => ?_))))))
 ·
  refine .skipgo idQ (.seq (.block (.seq (.region (.v (ev_ix rfl Try.underlying33 ty43 rfl rfl (by omega) (by omega) (fun _ _ => Fr.adr (i := i) hA (by omega) (by omega))) rfl ?_)))))
  refine .v (ev_lda rfl rfl (At.w (Fr.el (i := i) hA (by omega) (by omega))) ty43) rfl (.cons (st_alloc rfl rfl rfl rfl zf43 (fun b3 => .cons (st_storea (l' := [.int .i64 ((gt l i).veh), .slice ((gt l i).rA) ((gt l i).vis.length) ((gt l i).rc)]) rfl rfl rfl ty43 rfl rfl rfl .h rfl rfl (.go idQ (.seq (.region ?_)))))))
  refine .v (ev_fa rfl fo43_0 rfl (r := 0) rfl) rfl (.v (ev_ld1 rfl ty3 rfl (At.own1 0 rfl rfl)) rfl (.m rfl rfl rfl (.v (ev_cmp rfl rfl rfl rfl) rfl (.go idQ (.condI rfl bE (fun h4 => ?_) (fun h4 => ?_))))))
  ·
   refine .seq (.region (.v (ev_fa rfl fo43_1 rfl (r := 1) rfl) rfl (.v (ev_ld1 rfl ty41 rfl (At.own1 0 rfl rfl)) rfl (.cons (st_call0 rfl rfl rfl rfl hbd30 rfl .n (clone ((gt l i).rA) ((gt l i).vis.length) ((gt l i).rc) ((gt l i).vis) _ _ (hRT i) rfl (by have := hvs i; omega)) (fun v_q6 C_q6 q6 => ?_))))))
   obtain ⟨v5, rfl, rfl⟩ := q6
   show SP _ _ _ _ _ _ ⟨_, _ :: _, _, _⟩
   exact .a rfl rfl rfl (.go idQ (.ret idQ (ret1 Try.results17 rfl (.c .h .n) ⟨v_q6, rfl, (by rw [← q_2, drop_rc (i := i) (by omega) (by omega), visR_cons, if_pos (by assumption)])⟩)))
  exact .skipgo idQ (.region (.v (ev_add rfl rfl rfl (r := (i + 1)) rfl (by omega) (by omega)) rfl (.m rfl rfl rfl (SP.nil (SQ.roundb (X := Int) (x := (i)) (i + 1) (by exact ⟨(by omega), (by omega), (by have hq := q_2; rw [drop_rc (i := i) (by omega) (by omega), visR_cons] at hq; (repeat' split at hq) <;> first | exact hq | contradiction | (exfalso; omega))⟩) (by show (_ : Nat) < _; omega) (Sub.get (.c4 rfl rfl rfl rfl .n)) (fun w hw => hw.keep (.c (.t .h) .n)))))))
 refine .exit idQ (.seq (.region (.a rfl rfl rfl (.go idQ ?_))))
 refine SC.nilrow eVis 46 ?_
 exact .ret idQ (ret1 Try.results17 rfl (.c .h .n) ⟨.slice none 0 0, rfl, (by rw [← q_2, drop_end (by simp only [List.length_map]; omega)]; rfl)⟩)
theorem swith_ (A : Option Addr) (c : Nat) (l : List RT) (v : Int) (B : Option Addr) (d : Nat) (m : List Vis) (S : Nat → Prop) (wf : World) (hA : Fr eRT S wf A l) (hB : Fr eVis S wf B m) (hRT : RTF S wf l) (hls : l.length ≤ 15) (hvs : ∀ i : Int, (gt l i).vis.length ≤ 50) (hm : m.length ≤ 1000) :
  TR0 Try.prog 16 [.agg #[.slice A l.length c], .int .i64 v, .slice B m.length d] [] S wf (fun v_ C_ => ∃ (u : Value) (R : List RT), (R.map rc = withF (l.map rc) v m) ∧ v_ = .agg #[u] ∧ C_ = [rw_ eRT 43 (u) R, nestR 46 R]) := by
 have hla := hA.len
 refine TR.mk Try.func16 rfl Try.ntmps16 rfl rfl (fun w_ => ?_)
 refine .seq (.region (.cons (st_boxa rfl rfl rfl rfl rfl (fun b1 => .cons (st_alloc rfl rfl rfl rfl zf35 (fun b2 => .go idQ (.seq ?_)))))))
 refine .region (.cons (st_alloc rfl rfl rfl rfl zf35 (fun b3 => .go idQ (.seq (.seq (.region ?_))))))
 refine .v (ev_fa rfl fo35_0 rfl (r := 0) rfl) rfl (.v (ev_ld1 rfl ty33 rfl (At.own1 2 rfl rfl)) rfl (.v (ev_len rfl Try.underlying33 rfl) rfl (.m rfl rfl rfl (.go idQ (.block ?_)))))
 refine SC.nilrow eRT 43 ?_
 refine SC.nestR0 46 ?_
 refine .loop (X := Int × (List RT) × Value) (fun ⟨i, X, u_X⟩ => 0 ≤ i ∧ i ≤ (l.length : Int) ∧ X.map rc ++ otherR v ((l.map rc).drop i.toNat) = otherR v (l.map rc) ∧ (X.length : Int) ≤ i) (fun ⟨i, X, u_X⟩ => [(1, .int .i64 v), (2, .slice B m.length d), (6, .pointer (some ⟨b2, 0, none⟩)), (7, .pointer (some ⟨b3, 0, none⟩)), (11, .slice A l.length c), (12, .int .i64 (l.length : Int)), (13, .int .i64 i)]) (fun ⟨i, X, u_X⟩ => [nestR 46 X, rw_ eRT 43 (u_X) X, cel b3 [u_X] 35, cel b2 [.slice none 0 0] 35, cel b1 [.slice A l.length c] 35]) (fun _ => S) (fun _ => wf) (fun ⟨i, X, u_X⟩ => ((l.length : Int) - i).toNat) (fun a_ w_ hs_ hw_ => ⟨⟨0, ([] : List RT), .slice none 0 0⟩, (by exact ⟨(by omega), (by omega), rfl, (by simp)⟩), hs_.mono (Sub.get (.c4 rfl rfl rfl rfl (.c rfl (.c rfl (.c rfl .n))))), hw_.keep (.c .h (.c .h (.c .h (.c .h (.c .h .n)))))⟩) (fun ⟨i, X, u_X⟩ ⟨q_0, q_1, q_2, q_3⟩ => ?_)
 show SC _ _ _ _ _ ⟨[(1, .int .i64 v), (2, .slice B m.length d), (6, .pointer (some ⟨b2, 0, none⟩)), (7, .pointer (some ⟨b3, 0, none⟩)), (11, .slice A l.length c), (12, .int .i64 (l.length : Int)), (13, .int .i64 i)], [nestR 46 X, rw_ eRT 43 (u_X) X, cel b3 [u_X] 35, cel b2 [.slice none 0 0] 35, cel b1 [.slice A l.length c] 35], S, wf⟩
 refine .seq (.region (.v (ev_cmp rfl rfl rfl rfl) rfl (.go idQ (.seq (.condI rfl bD (fun h4 => ?_) (fun h4 => ?_))))))
 ·
  refine .skipgo idQ (.seq (.block (.seq (.region (.v (ev_ix rfl Try.underlying33 ty43 rfl rfl (by omega) (by omega) (fun _ _ => Fr.adr (i := i) hA (by omega) (by omega))) rfl ?_)))))
  refine .v (ev_lda rfl rfl (At.w (Fr.el (i := i) hA (by omega) (by omega))) ty43) rfl (.cons (st_alloc rfl rfl rfl rfl zf43 (fun b5 => .cons (st_storea (l' := [.int .i64 ((gt l i).veh), .slice ((gt l i).rA) ((gt l i).vis.length) ((gt l i).rc)]) rfl rfl rfl ty43 rfl rfl rfl .h rfl rfl (.go idQ (.seq (.region ?_)))))))
  refine .v (ev_fa rfl fo43_0 rfl (r := 0) rfl) rfl (.v (ev_ld1 rfl ty3 rfl (At.own1 0 rfl rfl)) rfl (.m rfl rfl rfl (.v (ev_cmp rfl rfl rfl rfl) rfl (.go idQ (.condI rfl bNE (fun h6 => ?_) (fun h6 => ?_))))))
  ·
   refine SC.draw mo [rw_ eRT 43 (u_X) X, cel b3 [u_X] 35] [(11, fun w => At w b3 0 [u_X])] (.c (.t (.t .h)) (.c (.t (.t .h)) .n)) (fun w_ _ hw_ => (sc1 (At.whole 1 rfl w_ hw_) sc0)) (fun wf_7 hl_7 hx_7 hR_7 => ?_)
   refine SR.z 0 rfl rfl (ev_fa rfl fo35_0 rfl (r := 0) rfl) (SR.z 1 rfl rfl (ev_ld1 rfl ty33 rfl (At.elem1 (v := u_X) (At.ofcs 0 rfl (by kernel_rfl)) 0 rfl)) (SR.z 2 rfl rfl (ev_fa rfl fo43_0 rfl (r := 0) rfl) (SR.z 3 rfl rfl (ev_ld1 rfl ty3 rfl (At.d (At.lent hR_7 0 rfl rfl))) (SR.z 4 rfl rfl (ev_fa rfl fo43_1 rfl (r := 1) rfl) (SR.z 5 rfl rfl (ev_ld1 rfl ty41 rfl (At.d (At.lent hR_7 0 rfl rfl))) ?_)))))
   refine SR.o 6 rfl (st_call0 rfl rfl rfl rfl hbd30 rfl .n (clone ((gt l i).rA) ((gt l i).vis.length) ((gt l i).rc) ((gt l i).vis) _ _ (((hRT).ext hx_7) i) rfl (by first | (have := hvs i; omega) | omega)) (fun v_q9 C_q9 q9 => ⟨ttc (fun w_ hw_ => (tc1 (by obtain ⟨_, rfl, rfl⟩ := q9; exact At.whole 2 rfl w_ hw_) tc0)), ?_⟩))
   obtain ⟨v8, rfl, rfl⟩ := q9
   show SR _ _ _ _ _ _ _ _ _ ⟨_, _ :: _, _, _⟩
   refine .know (row_len 0 rfl) (fun hv12 => ?_)
   obtain ⟨A10, c11, rfl, hv12_1, hv12_2⟩ := hv12
   unfold maxLen at hv12_2
   refine SR.z 7 rfl rfl (ev_any (v := .agg #[.int .i64 ((gt l i).veh), .slice A10 (((gt l i).vis).length) c11]) rfl (by kernel_rfl) (fun _ => by kernel_rfl)) (SR.o 8 rfl (st_lit eRT (e := 43) (l := [(RT.mk ((gt l i).veh) ((gt l i).vis) A10 c11)]) rfl rfl rfl rfl (by kernel_rfl) rfl rfl (fun w => by kernel_rfl) (fun b13 => ⟨ttc (fun w_ hw_ => (tc1 (At.whole 3 rfl w_ hw_) tc0)), (SR.o 9 rfl (st_app (E := eRT) (m := [(RT.mk ((gt l i).veh) ((gt l i).vis) A10 c11)]) rfl rfl rfl rfl Try.underlying33 ai43 rfl rfl rfl (.t (.t .h)) (by first | rfl | omega | simp) (row_src 0 rfl) (by first | omega | simp only [LL] <;> omega | simp <;> omega) rfl (fun v14 => ⟨ttc (fun w_ hw_ => (tc1 (At.whole 3 rfl w_ hw_) tc0)), (SR.z 10 rfl rfl (ev_fa rfl fo35_0 rfl (r := 0) rfl) ?_)⟩)))⟩)))
   refine .know (row_len 0 rfl) (fun hv17 => ?_)
   obtain ⟨A15, c16, rfl, hv17_1, hv17_2⟩ := hv17
   unfold maxLen at hv17_2
   refine SR.o 11 rfl (st_store1 rfl rfl rfl ty33 rfl rfl rfl (.t (.t (.t .h))) .h ⟨ttc (fun w_ hw_ => (tc2 (by kernel_rfl) tc0)), (SR.fin (by kernel_rfl) hl_7 hx_7 hR_7 (.c (.c (.c (.c .n)))) (SQ.go idQ ?_))⟩)
   refine SC.packR (RT.mk ((gt l i).veh) ((gt l i).vis) A10 c11) (.c (.t (.t (.t (.t (.t .h))))) (.c (.t (.t (.t .h))) .n)) (by dsimp only; first | (have := hvs i; omega) | omega) ?_
   exact .region (.v (ev_add rfl rfl rfl (r := (i + 1)) rfl (by omega) (by omega)) rfl (.m rfl rfl rfl (SP.nil (SQ.roundb (X := Int × (List RT) × Value) (x := (i, X, u_X)) ⟨(i + 1), (X ++ [(RT.mk ((gt l i).veh) ((gt l i).vis) A10 c11)]), .slice A15 ((X ++ [(RT.mk ((gt l i).veh) ((gt l i).vis) A10 c11)]).length) c16⟩ (by exact ⟨(by omega), (by omega), (by have hq := q_2; rw [drop_rc (i := i) (by omega) (by omega), otherR_cons] at hq; (repeat' split at hq) <;> first | (rw [List.map_append, List.append_assoc]; exact hq) | contradiction | (exfalso; omega)), (by (try simp only [List.length_append, List.length_singleton]); omega)⟩) (by dsimp only; omega) (Sub.get (.c4 rfl rfl rfl rfl (.c rfl (.c rfl (.c rfl .n))))) (fun w hw => hw.keep (.c .h (.c (.t .h) (.c .h (.c (.t (.t .h)) (.c (.t (.t .h)) .n))))))))))
  exact .skipgo idQ (.region (.v (ev_add rfl rfl rfl (r := (i + 1)) rfl (by omega) (by omega)) rfl (.m rfl rfl rfl (SP.nil (SQ.roundb (X := Int × (List RT) × Value) (x := (i, X, u_X)) ⟨(i + 1), X, u_X⟩ (by exact ⟨(by omega), (by omega), (by have hq := q_2; rw [drop_rc (i := i) (by omega) (by omega), otherR_cons] at hq; (repeat' split at hq) <;> first | exact hq | contradiction | (exfalso; omega)), (by (try simp only [List.length_append, List.length_singleton]); omega)⟩) (by dsimp only; omega) (Sub.get (.c4 rfl rfl rfl rfl (.c rfl (.c rfl (.c rfl .n))))) (fun w hw => hw.keep (.c (.t .h) (.c (.t .h) (.c (.t .h) (.c (.t .h) (.c (.t .h) .n)))))))))))
 refine .exit idQ (.seq (.seq (.region (.m rfl rfl rfl (.v (ev_len rfl Try.underlying41 rfl) rfl ?_)))))
 refine .v (ev_cmp rfl rfl rfl rfl) rfl (.go idQ (.condI rfl bD (fun h18 => ?_) (fun h18 => ?_)))
 ·
  refine SC.draw mo [rw_ eRT 43 (u_X) X, cel b3 [u_X] 35] [(9, fun w => At w b3 0 [u_X])] (.c (.t .h) (.c (.t .h) .n)) (fun w_ _ hw_ => (sc1 (At.whole 1 rfl w_ hw_) sc0)) (fun wf_19 hl_19 hx_19 hR_19 => ?_)
  refine SR.z 0 rfl rfl (ev_fa rfl fo35_0 rfl (r := 0) rfl) (SR.z 1 rfl rfl (ev_ld1 rfl ty33 rfl (At.elem1 (v := u_X) (At.ofcs 0 rfl (by kernel_rfl)) 0 rfl)) (SR.m 2 rfl rfl rfl rfl (SR.m 3 rfl rfl rfl rfl (SR.o 4 rfl (st_call0 rfl rfl rfl rfl hbd30 rfl .n (clone B m.length d m _ _ (Fr.ext hB hx_19) rfl (by first | (have := hvs i; omega) | omega)) (fun v_q21 C_q21 q21 => ⟨ttc (fun w_ hw_ => (tc1 (by obtain ⟨_, rfl, rfl⟩ := q21; exact At.whole 2 rfl w_ hw_) tc0)), ?_⟩))))))
  obtain ⟨v20, rfl, rfl⟩ := q21
  show SR _ _ _ _ _ _ _ _ _ ⟨_, _ :: _, _, _⟩
  refine .know (row_len 0 rfl) (fun hv24 => ?_)
  obtain ⟨A22, c23, rfl, hv24_1, hv24_2⟩ := hv24
  unfold maxLen at hv24_2
  refine SR.z 5 rfl rfl (ev_any (v := .agg #[.int .i64 v, .slice A22 m.length c23]) rfl (by kernel_rfl) (fun _ => by kernel_rfl)) (SR.o 6 rfl (st_lit eRT (e := 43) (l := [(RT.mk v m A22 c23)]) rfl rfl rfl rfl (by kernel_rfl) rfl rfl (fun w => by kernel_rfl) (fun b25 => ⟨ttc (fun w_ hw_ => (tc1 (At.whole 3 rfl w_ hw_) tc0)), (SR.o 7 rfl (st_app (E := eRT) (m := [(RT.mk v m A22 c23)]) rfl rfl rfl rfl Try.underlying33 ai43 rfl rfl rfl (.t (.t .h)) (by first | rfl | omega | simp) (row_src 0 rfl) (by first | omega | simp only [LL] <;> omega | simp <;> omega) rfl (fun v26 => ⟨ttc (fun w_ hw_ => (tc1 (At.whole 3 rfl w_ hw_) tc0)), (SR.z 8 rfl rfl (ev_fa rfl fo35_0 rfl (r := 0) rfl) ?_)⟩)))⟩)))
  refine .know (row_len 0 rfl) (fun hv29 => ?_)
  obtain ⟨A27, c28, rfl, hv29_1, hv29_2⟩ := hv29
  unfold maxLen at hv29_2
  refine SR.o 9 rfl (st_store1 rfl rfl rfl ty33 rfl rfl rfl (.t (.t (.t .h))) .h ⟨ttc (fun w_ hw_ => (tc2 (by kernel_rfl) tc0)), (SR.fin (by kernel_rfl) hl_19 hx_19 hR_19 (.c (.c (.c (.c .n)))) (SQ.go idQ (.seq ?_)))⟩)
  refine SC.packR (RT.mk v m A22 c23) (.c (.t (.t (.t (.t .h)))) (.c (.t (.t (.t .h))) .n)) (by dsimp only; first | (have := hvs i; omega) | omega) ?_
  have hZ : ((X ++ [(RT.mk v m A22 c23)])).map rc = otherR v (l.map rc) ++ (if m.length > 0 then [(v, m)] else []) := by
   have hq := q_2; rw [drop_end (by simp only [List.length_map]; omega)] at hq; have hq : X.map rc ++ [] = _ := hq; rw [List.append_nil] at hq
   rw [if_pos (by omega), List.map_append, hq]; rfl
  refine .region (.v (ev_fa rfl fo35_0 rfl (r := 0) rfl) rfl (.v (ev_ld1 rfl ty33 rfl (At.own1 1 rfl rfl)) rfl (.cons (st_call0 rfl rfl rfl rfl hbd31 rfl (.c (.t (.t .h)) .n) (sortR (.slice A27 ((X ++ [(RT.mk v m A22 c23)]).length) c28) (X ++ [(RT.mk v m A22 c23)]) _ _ (by first | omega | simp only [LL] <;> omega | simp <;> omega)) (fun v_q30 C_q30 q30 => ?_)))))
  obtain ⟨rfl, rfl⟩ := q30
  show SP _ _ _ _ _ _ ⟨_, _ :: _, _, _⟩
  refine .go idQ (.seq ?_)
  refine SC.permR (l' := (sortF ltR (X ++ [(RT.mk v m A22 c23)]))) (.c (.t .h) .n) sort_perm ?_
  exact .region (.v (ev_lda rfl rfl (At.whole 2 rfl) ty35) rfl (.cons (st_storea (l' := [.slice A27 ((X ++ [(RT.mk v m A22 c23)]).length) c28]) rfl rfl rfl ty35 rfl rfl rfl (.t (.t (.t (.t .h)))) rfl rfl (.go idQ (.ret idQ (retv1 Try.results16 (.c 0 rfl rfl ty35) (.c (.t (.t .h)) (.c (.t .h) .n)) ⟨.slice A27 ((X ++ [(RT.mk v m A22 c23)]).length) c28, (sortF ltR (X ++ [(RT.mk v m A22 c23)])), (by rw [sort_rc, hZ]; rfl), rfl, rfl⟩))))))
 refine .skipgo idQ (.seq ?_)
 have hZ : (X).map rc = otherR v (l.map rc) ++ (if m.length > 0 then [(v, m)] else []) := by
  have hq := q_2; rw [drop_end (by simp only [List.length_map]; omega)] at hq; have hq : X.map rc ++ [] = _ := hq; rw [List.append_nil] at hq
  rw [if_neg (by omega), List.append_nil, hq]
 refine .region (.v (ev_fa rfl fo35_0 rfl (r := 0) rfl) rfl (.v (ev_ld1 rfl ty33 rfl (At.own1 2 rfl rfl)) rfl (.cons (st_call0 rfl rfl rfl rfl hbd31 rfl (.c (.t .h) .n) (sortR u_X X _ _ (by first | omega | simp only [LL] <;> omega | simp <;> omega)) (fun v_q31 C_q31 q31 => ?_)))))
 obtain ⟨rfl, rfl⟩ := q31
 show SP _ _ _ _ _ _ ⟨_, _ :: _, _, _⟩
 refine .go idQ (.seq ?_)
 refine SC.permR (l' := (sortF ltR X)) (.c (.t .h) .n) sort_perm ?_
 refine .region (.v (ev_lda rfl rfl (At.whole 2 rfl) ty35) rfl ?_)
 refine .know (row_len 1 rfl) (fun hv34 => ?_)
 obtain ⟨A32, c33, rfl, hv34_1, hv34_2⟩ := hv34
 unfold maxLen at hv34_2
 exact .cons (st_storea (l' := [.slice A32 ((sortF ltR X).length) c33]) rfl rfl rfl ty35 rfl rfl rfl (.t (.t (.t .h))) rfl rfl (.go idQ (.ret idQ (retv1 Try.results16 (.c 0 rfl rfl ty35) (.c (.t (.t .h)) (.c (.t .h) .n)) ⟨.slice A32 ((sortF ltR X).length) c33, (sortF ltR X), (by rw [sort_rc, hZ]; rfl), rfl, rfl⟩))))
theorem scost_ (p : PB) (k : Int) (A : Option Addr) (c : Nat) (l : List Vis) (S : Nat → Prop) (wf : World) (hA : Fr eVis S wf A l) (hPB : PBF S wf p) (hL : LawP p) (hll : l.length ≤ 50) :
  TR0 Try.prog 36 [.agg #[.int .i64 p.dims, .int .i64 p.tn, .slice p.ptA p.time.length p.ptc, .int .i64 p.dn, .slice p.pdA p.dist.length p.pdc, .slice p.pvA p.vehs.length p.pvc, .slice p.pjA p.jobs.length p.pjc, .slice p.psA p.ships.length p.psc], .int .i64 k, .slice A l.length c] [] S wf (fun v_ C_ => v_ = .tuple #[.int .i64 ((costP p k l).1), .int .i64 ((costP p k l).2)] ∧ C_ = []) := by
 have hla := hA.len
 refine TR.mk Try.func36 rfl Try.ntmps36 rfl rfl (fun w_ => ?_)
 refine .seq (.region (.cons (st_boxa rfl rfl rfl rfl rfl (fun b1 => .a rfl rfl rfl (.a rfl rfl rfl (.go idQ ?_))))))
 refine .seq (.seq (.region (.m rfl rfl rfl (.v (ev_len rfl Try.underlying41 rfl) rfl (.v (ev_cmp rfl rfl rfl rfl) rfl ?_)))))
 refine .go idQ (.condI rfl bE (fun h2 => ?_) (fun h2 => ?_))
 ·
  exact .seq (.region (.a rfl rfl rfl (.a rfl rfl rfl (.go idQ (.ret idQ (ret2 Try.results36 rfl rfl .n ⟨(by unfold costP; rw [if_pos (by omega)] <;> rfl), rfl⟩))))))
 refine .skipgo idQ (.seq (.region (.v (ev_lda rfl rfl (At.whole 0 rfl) ty29) rfl (.m rfl rfl rfl (.m rfl rfl rfl ?_)))))
 refine .cons (st_call00 rfl rfl rfl rfl hbd53 rfl .n (fit_ p k A c l _ _ hA hPB (by omega) (by first | omega | simp only [LL] <;> omega | simp <;> omega)) (by intro v C h; obtain ⟨_, _, _, _, rfl, rfl⟩ := h; rfl) (fun v_q7 q7 => ?_))
 obtain ⟨vh3, sA4, sn5, sc6, rfl, -⟩ := q7
 refine .m rfl rfl rfl (.v (ev_ext rfl rfl rfl) rfl (.v (ev_ext rfl rfl rfl) rfl (.cons (st_alloc rfl rfl rfl rfl zf89 (fun b8 => .cons (st_storea (l' := [.int .i64 vh3, .slice sA4 sn5 sc6, .int .i64 ((fitV p k l).time), .int .i64 ((fitV p k l).dist), .int .i64 ((fitV p k l).wait), .int .i64 ((fitV p k l).serv), .int .i64 ((fitV p k l).cost)]) rfl rfl rfl ty89 rfl rfl rfl .h rfl rfl (.a rfl rfl rfl ?_)))))))
 refine .go idQ (.seq (.region (.v (ev_fa rfl fo89_6 rfl (r := 6) rfl) rfl (.v (ev_ld1 rfl ty3 rfl (At.own1 0 rfl rfl)) rfl (.m rfl rfl rfl ?_)))))
 exact .a rfl rfl rfl (.a rfl rfl rfl (.go idQ (.ret idQ (ret2 Try.results36 rfl rfl .n ⟨(by unfold costP; rw [if_neg (by omega)] <;> rfl), rfl⟩))))
theorem mtasks_ (p : PB) (S : Nat → Prop) (wf : World) (hPB : PBF S wf p) (hL : LawP p) :
  TR0 Try.prog 26 [.agg #[.int .i64 p.dims, .int .i64 p.tn, .slice p.ptA p.time.length p.ptc, .int .i64 p.dn, .slice p.pdA p.dist.length p.pdc, .slice p.pvA p.vehs.length p.pvc, .slice p.pjA p.jobs.length p.pjc, .slice p.psA p.ships.length p.psc]] [] S wf (fun v_ C_ => ∃ (u : Value), v_ = u ∧ C_ = [rw_ eTK 54 (u) (taskL p)]) := by
 have hlj := hPB.2.2.2.1.1.len
 have hls := hPB.2.2.2.2.1.len
 have hnj := hL.nj
 refine TR.mk Try.func26 rfl Try.ntmps26 rfl rfl (fun w_ => ?_)
 refine .seq (.region (.cons (st_boxa rfl rfl rfl rfl rfl (fun b1 => .a rfl rfl rfl (.go idQ (.seq ?_))))))
 refine .region (.a rfl rfl rfl (.go idQ (.seq (.seq (.region ?_)))))
 refine .v (ev_fa rfl fo29_4 rfl (r := 6) rfl) rfl (.v (ev_ld1 rfl ty26 rfl (At.own1 0 rfl rfl)) rfl (.v (ev_len rfl Try.underlying26 rfl) rfl (.m rfl rfl rfl (.go idQ (.block ?_)))))
 refine SC.nilrow eTK 54 ?_
 refine .loop (X := Int × (List TK) × Value) (fun ⟨i, X, u_X⟩ => 0 ≤ i ∧ i ≤ (p.jobs.length : Int) ∧ X = (List.range i.toNat).map (fun i_ : Nat => (⟨false, (i_ : Int)⟩ : TK)) ∧ (X.length : Int) = i) (fun ⟨i, X, u_X⟩ => [(1, .pointer (some ⟨b1, 0, none⟩)), (2, .slice none 0 0), (8, .int .i64 (p.jobs.length : Int)), (9, .int .i64 i), (3, u_X)]) (fun ⟨i, X, u_X⟩ => [rw_ eTK 54 (u_X) X, cel b1 [.int .i64 p.dims, .int .i64 p.tn, .slice p.ptA p.time.length p.ptc, .int .i64 p.dn, .slice p.pdA p.dist.length p.pdc, .slice p.pvA p.vehs.length p.pvc, .slice p.pjA p.jobs.length p.pjc, .slice p.psA p.ships.length p.psc] 29]) (fun _ => S) (fun _ => wf) (fun ⟨i, X, u_X⟩ => ((p.jobs.length : Int) - i).toNat) (fun a_ w_ hs_ hw_ => ⟨⟨0, ([] : List TK), .slice none 0 0⟩, (by exact ⟨(by omega), (by omega), rfl, rfl⟩), hs_.mono (Sub.get (.c4 rfl rfl rfl rfl (.c rfl .n))), hw_.keep (.c .h (.c .h .n))⟩) (fun ⟨i, X, u_X⟩ ⟨q_0, q_1, q_2, q_3⟩ => ?_)
 show SC _ _ _ _ _ ⟨[(1, .pointer (some ⟨b1, 0, none⟩)), (2, .slice none 0 0), (8, .int .i64 (p.jobs.length : Int)), (9, .int .i64 i), (3, u_X)], [rw_ eTK 54 (u_X) X, cel b1 [.int .i64 p.dims, .int .i64 p.tn, .slice p.ptA p.time.length p.ptc, .int .i64 p.dn, .slice p.pdA p.dist.length p.pdc, .slice p.pvA p.vehs.length p.pvc, .slice p.pjA p.jobs.length p.pjc, .slice p.psA p.ships.length p.psc] 29], S, wf⟩
 refine .seq (.region (.v (ev_cmp rfl rfl rfl rfl) rfl (.go idQ (.seq (.condI rfl bD (fun h2 => ?_) (fun h2 => ?_))))))
 ·
  refine .skipgo idQ (.seq (.block (.seq (.region (.m rfl rfl rfl ?_)))))
  refine .a rfl rfl rfl (.go idQ (.region (.m rfl rfl rfl (.m rfl rfl rfl (.v (ev_any (v := .agg #[.bool false, .int .i64 i]) rfl (by kernel_rfl) (fun _ => by kernel_rfl)) rfl ?_)))))
  refine .cons (st_lit eTK (e := 54) (l := [(TK.mk false i)]) rfl rfl rfl rfl (by kernel_rfl) rfl rfl (fun w => by kernel_rfl) (fun b3 => .cons (st_app (E := eTK) (m := [(TK.mk false i)]) rfl rfl rfl rfl Try.underlying57 ai54 rfl rfl rfl (.t .h) (by first | rfl | omega | simp) (row_src 0 rfl) (by first | omega | simp only [LL] <;> omega | simp <;> omega) rfl (fun v4 => .a rfl rfl rfl (.go idQ (.region (.v (ev_add rfl rfl rfl (r := (i + 1)) rfl (by omega) (by omega)) rfl ?_)))))))
  exact .m rfl rfl rfl (SP.nil (SQ.roundb (X := Int × (List TK) × Value) (x := (i, X, u_X)) ⟨(i + 1), (X ++ [(TK.mk false i)]), v4⟩ (by exact ⟨(by omega), (by omega), (by have hn := range_next (by omega) q_2; rw [← hn]; rw [show ((i.toNat : Nat) : Int) = i from by omega]), (by simp only [List.length_append, List.length_singleton]; omega)⟩) (by dsimp only; omega) (Sub.get (.c4 rfl rfl rfl rfl (.c rfl .n))) (fun w hw => hw.keep (.c .h (.c (.t .h) .n)))))
 refine .exit idQ (.seq (.seq (.region (.v (ev_fa rfl fo29_5 rfl (r := 7) rfl) rfl (.v (ev_ld1 rfl ty27 rfl (At.own1 1 rfl rfl)) rfl ?_)))))
 refine .v (ev_len rfl Try.underlying27 rfl) rfl (.m rfl rfl rfl (.go idQ (.block ?_)))
 refine .loop (X := Int × (List TK) × Value) (fun ⟨j, Y, u_Y⟩ => 0 ≤ j ∧ j ≤ (p.ships.length : Int) ∧ Y = X ++ (List.range j.toNat).map (fun i_ : Nat => (⟨true, (i_ : Int)⟩ : TK)) ∧ (Y.length : Int) = X.length + j) (fun ⟨j, Y, u_Y⟩ => [(1, .pointer (some ⟨b1, 0, none⟩)), (2, .slice none 0 0), (8, .int .i64 (p.jobs.length : Int)), (9, .int .i64 i), (20, .int .i64 (p.ships.length : Int)), (21, .int .i64 j), (3, u_Y)]) (fun ⟨j, Y, u_Y⟩ => [rw_ eTK 54 (u_Y) Y, cel b1 [.int .i64 p.dims, .int .i64 p.tn, .slice p.ptA p.time.length p.ptc, .int .i64 p.dn, .slice p.pdA p.dist.length p.pdc, .slice p.pvA p.vehs.length p.pvc, .slice p.pjA p.jobs.length p.pjc, .slice p.psA p.ships.length p.psc] 29]) (fun _ => S) (fun _ => wf) (fun ⟨j, Y, u_Y⟩ => ((p.ships.length : Int) - j).toNat) (fun a_ w_ hs_ hw_ => ⟨⟨0, X, u_X⟩, (by exact ⟨(by omega), (by omega), (by simp), (by omega)⟩), hs_.mono (Sub.get (.c4 rfl rfl rfl rfl (.c rfl (.c rfl (.c rfl .n))))), hw_.keep (.c .h (.c .h .n))⟩) (fun ⟨j, Y, u_Y⟩ ⟨r_0, r_1, r_2, r_3⟩ => ?_)
 show SC _ _ _ _ _ ⟨[(1, .pointer (some ⟨b1, 0, none⟩)), (2, .slice none 0 0), (8, .int .i64 (p.jobs.length : Int)), (9, .int .i64 i), (20, .int .i64 (p.ships.length : Int)), (21, .int .i64 j), (3, u_Y)], [rw_ eTK 54 (u_Y) Y, cel b1 [.int .i64 p.dims, .int .i64 p.tn, .slice p.ptA p.time.length p.ptc, .int .i64 p.dn, .slice p.pdA p.dist.length p.pdc, .slice p.pvA p.vehs.length p.pvc, .slice p.pjA p.jobs.length p.pjc, .slice p.psA p.ships.length p.psc] 29], S, wf⟩
 refine .seq (.region (.v (ev_cmp rfl rfl rfl rfl) rfl (.go idQ (.seq (.condI rfl bD (fun h5 => ?_) (fun h5 => ?_))))))
 ·
  refine .skipgo idQ (.seq (.block (.seq (.region (.m rfl rfl rfl ?_)))))
  refine .a rfl rfl rfl (.go idQ (.region (.m rfl rfl rfl (.m rfl rfl rfl (.v (ev_any (v := .agg #[.bool true, .int .i64 j]) rfl (by kernel_rfl) (fun _ => by kernel_rfl)) rfl ?_)))))
  refine .cons (st_lit eTK (e := 54) (l := [(TK.mk true j)]) rfl rfl rfl rfl (by kernel_rfl) rfl rfl (fun w => by kernel_rfl) (fun b6 => .cons (st_app (E := eTK) (m := [(TK.mk true j)]) rfl rfl rfl rfl Try.underlying57 ai54 rfl rfl rfl (.t .h) (by first | rfl | omega | simp) (row_src 0 rfl) (by first | omega | simp only [LL] <;> omega | simp <;> omega) rfl (fun v7 => .a rfl rfl rfl (.go idQ (.region (.v (ev_add rfl rfl rfl (r := (j + 1)) rfl (by omega) (by omega)) rfl ?_)))))))
  exact .m rfl rfl rfl (SP.nil (SQ.roundb (X := Int × (List TK) × Value) (x := (j, Y, u_Y)) ⟨(j + 1), (Y ++ [(TK.mk true j)]), v7⟩ (by exact ⟨(by omega), (by omega), (by rw [r_2, List.append_assoc]; congr 1; have hn := range_next (f := fun i_ : Nat => (⟨true, (i_ : Int)⟩ : TK)) (i := j) (by omega) rfl; rw [← hn]; rw [show ((j.toNat : Nat) : Int) = j from by omega]), (by simp only [List.length_append, List.length_singleton]; omega)⟩) (by dsimp only; omega) (Sub.get (.c4 rfl rfl rfl rfl (.c rfl (.c rfl (.c rfl .n))))) (fun w hw => hw.keep (.c .h (.c (.t .h) .n)))))
 refine .exit idQ (.seq ?_)
 have hY : Y = (allT p.jobs.length p.ships.length) := by rw [r_2, q_2, show i.toNat = p.jobs.length from by omega, show j.toNat = p.ships.length from by omega]; rfl
 refine .region (.m rfl rfl rfl (.v (ev_any (v := .func (.func 41) #[] #[.pointer (some ⟨b1, 0, none⟩)]) rfl (by kernel_rfl) (fun _ => by kernel_rfl)) rfl (.cons (st_call0 rfl rfl rfl rfl hbd40 rfl (.c .h (.c .h .n)) (sortT p b1 u_Y Y _ _ hPB (by omega) (by first | omega | simp only [LL] <;> omega | simp <;> omega)) (fun v_q8 C_q8 q8 => ?_)))))
 obtain ⟨rfl, rfl⟩ := q8
 show SP _ _ _ _ _ _ ⟨_, _ :: _ :: _, _, _⟩
 refine .go idQ (.seq (.region (.m rfl rfl rfl (.a rfl rfl rfl (.go idQ ?_)))))
 exact .ret idQ (ret1 Try.results26 rfl (.c .h .n) ⟨u_Y, rfl, (by rw [hY]; rfl)⟩)
theorem sways_ (A : Option Addr) (c : Nat) (l : List Vis) (t : TK) (S : Nat → Prop) (wf : World) (hA : Fr eVis S wf A l) (hll : l.length ≤ 48) :
  TR0 Try.prog 18 [.slice A l.length c, .agg #[.bool t.ship, .int .i64 t.item]] [] S wf (fun v_ C_ => ∃ (u : Value) (Y : List VL), (Y.map VL.vl = waysF l t) ∧ v_ = u ∧ C_ = [rw_ eVL 41 (u) Y, nestVL 46 Y]) := by
 have hla := hA.len
 have hvt := visT_len t
 refine TR.mk Try.func18 rfl Try.ntmps18 rfl rfl (fun w_ => ?_)
 refine .seq (.region (.cons (st_boxa rfl rfl rfl rfl rfl (fun b1 => .a rfl rfl rfl (.go idQ (.seq ?_))))))
 refine .region (.a rfl rfl rfl (.go idQ (.seq (.region (.v (ev_lda rfl rfl (At.whole 0 rfl) ty54) rfl ?_)))))
 refine .cons (st_call0 rfl rfl rfl rfl hbd34 rfl .n (mvis_ t _ _) (fun v_q3 C_q3 q3 => ?_))
 obtain ⟨u2, rfl, rfl⟩ := q3
 show SP _ _ _ _ _ _ ⟨_, _ :: _, _, _⟩
 refine .a rfl rfl rfl (.go idQ (.seq (.seq (.region (.a rfl rfl rfl ?_)))))
 refine .go idQ (.block ?_)
 refine SC.nilrow eVL 41 ?_
 refine SC.nestVL0 46 ?_
 refine .loop (X := Int × (List VL) × Value) (fun ⟨i, Y, u_Y⟩ => 0 ≤ i ∧ i ≤ (l.length : Int) + 1 ∧ Y.map VL.vl ++ waysI l t ((l.length : Int) + 1 - i).toNat i = waysF l t ∧ (Y.length : Int) ≤ 100 * i) (fun ⟨i, Y, u_Y⟩ => [(0, .slice A l.length c), (4, .slice none 0 0), (6, v_q3), (7, .int .i64 i), (5, u_Y)]) (fun ⟨i, Y, u_Y⟩ => [nestVL 46 Y, rw_ eVL 41 (u_Y) Y, rw_ eVis 46 (v_q3) (visT t), cel b1 [.bool t.ship, .int .i64 t.item] 54]) (fun _ => S) (fun _ => wf) (fun ⟨i, Y, u_Y⟩ => ((l.length : Int) + 1 - i).toNat) (fun a_ w_ hs_ hw_ => ⟨⟨0, ([] : List VL), .slice none 0 0⟩, (by exact ⟨(by omega), (by omega), (by show _ ++ waysI l t ((l.length : Int) + 1 - 0).toNat 0 = waysI l t (l.length + 1) 0; rw [show ((l.length : Int) + 1 - 0).toNat = l.length + 1 from by omega]; rfl), (by simp)⟩), hs_.mono (Sub.get (.c4 rfl rfl rfl rfl (.c rfl .n))), hw_.keep (.c .h (.c .h (.c .h (.c .h .n))))⟩) (fun ⟨i, Y, u_Y⟩ ⟨q_0, q_1, q_2, q_3⟩ => ?_)
 show SC _ _ _ _ _ ⟨[(0, .slice A l.length c), (4, .slice none 0 0), (6, v_q3), (7, .int .i64 i), (5, u_Y)], [nestVL 46 Y, rw_ eVL 41 (u_Y) Y, rw_ eVis 46 (v_q3) (visT t), cel b1 [.bool t.ship, .int .i64 t.item] 54], S, wf⟩
 refine .seq (.seq (.region (.m rfl rfl rfl (.m rfl rfl rfl (.v (ev_len rfl Try.underlying41 rfl) rfl ?_)))))
 refine .v (ev_cmp rfl rfl rfl rfl) rfl (.go idQ (.condI rfl bD (fun h4 => ?_) (fun h4 => ?_)))
 ·
  refine .skipgo idQ (.seq (.block (.seq ?_)))
  refine .know (row_len 2 rfl) (fun hv7 => ?_)
  obtain ⟨A5, c6, rfl, hv7_1, hv7_2⟩ := hv7
  unfold maxLen at hv7_2
  refine SC.draw mo [] [] .n (fun _ _ _ => sc0) (fun wf_8 hl_8 hx_8 hR_8 => ?_)
  refine SR.m 0 rfl rfl rfl rfl (SR.m 2 rfl rfl rfl rfl (SR.m 3 rfl rfl rfl rfl (SR.z 4 rfl rfl (ev_ix rfl Try.underlying41 ty46 rfl rfl (by omega) (by omega) (fun _ _ => Fr.adr (i := 0) (Fr.lent (S := S) hR_8 2 rfl (by first | ((try simp only [List.length_nil, List.length_cons, List.length_append, List.length_set, List.length_singleton, List.length_take, List.length_drop, List.length_reverse, List.length_take, List.length_drop]) <;> omega) | omega)) (by omega) (by omega))) (SR.z 5 rfl rfl (ev_lda rfl rfl (At.d (Fr.el (i := 0) (Fr.lent (S := S) hR_8 2 rfl (by first | ((try simp only [List.length_nil, List.length_cons, List.length_append, List.length_set, List.length_singleton, List.length_take, List.length_drop, List.length_reverse, List.length_take, List.length_drop]) <;> omega) | omega)) (by omega) (by omega))) ty46) ?_))))
  refine SR.two (i := 1) (j := 6) (by kernel_rfl) ⟨_, rfl, ?_⟩ ⟨_, rfl, ?_⟩
  ·
   refine st_call0 rfl rfl rfl rfl hbd30 rfl .n (clone A l.length c l _ _ (Fr.ext hA hx_8) rfl (by first | ((try simp only [List.length_nil, List.length_cons, List.length_append, List.length_set, List.length_singleton, List.length_take, List.length_drop, List.length_reverse, List.length_take, List.length_drop]) <;> omega) | omega)) (fun v_q10 C_q10 q10 => ⟨tt0, ?_⟩)
   obtain ⟨v9, rfl, rfl⟩ := q10
   show SR _ _ _ _ _ _ _ _ _ ⟨_, _ :: _, _, _⟩
   refine SR.o 6 rfl (st_lit eVis (e := 46) (l := [(gt (visT t) 0)]) rfl rfl rfl rfl (by kernel_rfl) rfl rfl (fun w => by kernel_rfl) (fun b11 => ⟨tt0, (SR.o 7 rfl (st_call0 rfl rfl rfl rfl hbd35 rfl (.c (.t .h) (.c .h .n)) (insert_ v_q10 l i (.slice (some ⟨b11, 0, none⟩) 1 1) [(gt (visT t) 0)] _ _ (by omega) (by first | ((try simp only [List.length_nil, List.length_cons, List.length_append, List.length_set, List.length_singleton, List.length_take, List.length_drop, List.length_reverse, List.length_take, List.length_drop]) <;> omega) | omega) (by first | ((try simp only [List.length_nil, List.length_cons, List.length_append, List.length_set, List.length_singleton, List.length_take, List.length_drop, List.length_reverse, List.length_take, List.length_drop]) <;> omega) | omega) (by first | ((try simp only [List.length_nil, List.length_cons, List.length_append, List.length_set, List.length_singleton, List.length_take, List.length_drop, List.length_reverse, List.length_take, List.length_drop]) <;> omega) | omega) (by first | ((try simp only [List.length_nil, List.length_cons, List.length_append, List.length_set, List.length_singleton, List.length_take, List.length_drop, List.length_reverse, List.length_take, List.length_drop]) <;> omega) | omega)) (fun v_q13 C_q13 q13 => ⟨tt0, ?_⟩)))⟩))
   obtain ⟨u12, rfl, rfl⟩ := q13
   show SR _ _ _ _ _ _ _ _ _ ⟨_, _ :: _ :: _, _, _⟩
   refine SR.z 8 rfl rfl (ev_as rfl rfl) (SR.fin (by kernel_rfl) hl_8 hx_8 hR_8 (.c (.c .n)) (SQ.go idQ (.seq (.seq ?_))))
   have h1l : (l.take (i).toNat ++ [(gt (visT t) 0)] ++ l.drop (i).toNat).length = l.length + 1 := ins1_len (by omega) (by omega)
   refine .region (.m rfl rfl rfl (.v (ev_len rfl Try.underlying41 rfl) rfl (.v (ev_cmp rfl rfl rfl rfl) rfl (.go idQ (.condI rfl bE (fun h14 => ?_) (fun h14 => ?_))))))
   ·
    refine .seq (.region (.m rfl rfl rfl (.m rfl rfl rfl ?_)))
    refine .know (row_len 0 rfl) (fun hv17 => ?_)
    obtain ⟨A15, c16, rfl, hv17_1, hv17_2⟩ := hv17
    unfold maxLen at hv17_2
    refine .cons (st_lit eVL (e := 41) (l := [(VL.mk (l.take i.toNat ++ [(gt (visT t) 0)] ++ l.drop i.toNat) A15 c16)]) rfl rfl rfl rfl (by kernel_rfl) rfl rfl (fun w => by kernel_rfl) (fun b18 => .cons (st_app (E := eVL) (m := [(VL.mk (l.take i.toNat ++ [(gt (visT t) 0)] ++ l.drop i.toNat) A15 c16)]) rfl rfl rfl rfl Try.underlying51 ai41 rfl rfl rfl (.t (.t (.t (.t .h)))) (by first | rfl | omega | simp) (row_src 0 rfl) (by first | ((try simp only [List.length_nil, List.length_cons, List.length_append, List.length_set, List.length_singleton, List.length_take, List.length_drop, List.length_reverse, List.length_take, List.length_drop]) <;> omega) | omega) rfl (fun v19 => .a rfl rfl rfl (.go idQ (.exit idQ ?_))))))
    refine SC.packVL (VL.mk (l.take i.toNat ++ [(gt (visT t) 0)] ++ l.drop i.toNat) A15 c16) (.c (.t (.t (.t (.t .h)))) (.c (.t (.t .h)) .n)) (by dsimp only; simp only [List.length_append, List.length_take, List.length_drop, List.length_singleton]; omega) ?_
    exact .region (.m rfl rfl rfl (.v (ev_add rfl rfl rfl (r := (i + 1)) rfl (by omega) (by omega)) rfl (.a rfl rfl rfl (SP.nil (SQ.roundb (X := Int × (List VL) × Value) (x := (i, Y, u_Y)) ⟨(i + 1), (Y ++ [(VL.mk (l.take i.toNat ++ [(gt (visT t) 0)] ++ l.drop i.toNat) A15 c16)]), v19⟩ (by exact ⟨(by omega), (by omega), (by have hq := q_2; rw [waysI_step (by omega)] at hq; unfold waysO at hq; rw [if_neg (visT_1 (by assumption))] at hq; rw [List.map_append, List.append_assoc]; exact hq), (by (try simp only [List.length_append, List.length_singleton]); omega)⟩) (by dsimp only; omega) (Sub.get (.c4 rfl rfl rfl rfl (.c rfl .n))) (fun w hw => hw.keep (.c .h (.c .h (.c (.t (.t .h)) (.c (.t (.t .h)) .n))))))))))
   refine .skipgo idQ (.seq ?_)
   have hv2 := visT_2 (t := t) (by omega)
   refine .region (.m rfl rfl rfl (.v (ev_add rfl rfl rfl (r := (i + 1)) rfl (by omega) (by omega)) rfl (.a rfl rfl rfl (.go idQ (.block ?_)))))
   refine .loop (X := Int × (List VL) × Value) (fun ⟨k, Z, u_Z⟩ => Z.map VL.vl ++ waysK (l.take (i).toNat ++ [(gt (visT t) 0)] ++ l.drop (i).toNat) (gt (visT t) 1) ((l.length : Int) + 2 - k).toNat k = Y.map VL.vl ++ waysK (l.take (i).toNat ++ [(gt (visT t) 0)] ++ l.drop (i).toNat) (gt (visT t) 1) ((l.length : Int) + 1 - i).toNat (i + 1) ∧ i + 1 ≤ k ∧ k ≤ (l.length : Int) + 2 ∧ (Z.length : Int) ≤ 100 * i + k) (fun ⟨k, Z, u_Z⟩ => [(0, .slice A l.length c), (4, .slice none 0 0), (6, .slice A5 ((visT t).length) c6), (7, .int .i64 i), (8, v_q13), (9, .int .i64 k), (5, u_Z)]) (fun ⟨k, Z, u_Z⟩ => [rw_ eVis 46 (v_q13) (l.take i.toNat ++ [(gt (visT t) 0)] ++ l.drop i.toNat), rw_ eVis 46 (.slice (some ⟨b11, 0, none⟩) 1 1) [(gt (visT t) 0)], nestVL 46 Z, rw_ eVL 41 (u_Z) Z, rw_ eVis 46 (.slice A5 ((visT t).length) c6) (visT t), cel b1 [.bool t.ship, .int .i64 t.item] 54]) (fun _ => S) (fun _ => wf) (fun ⟨k, Z, u_Z⟩ => ((l.length : Int) + 2 - k).toNat) (fun a_ w_ hs_ hw_ => ⟨⟨(i + 1), Y, u_Y⟩, (by exact ⟨(by rw [show ((l.length : Int) + 2 - (i + 1)).toNat = ((l.length : Int) + 1 - i).toNat from by omega]), (by omega), (by omega), (by omega)⟩), hs_.mono (Sub.get (.c4 rfl rfl rfl rfl (.c rfl (.c rfl (.c rfl .n))))), hw_.keep (.c .h (.c .h (.c .h (.c .h (.c .h (.c .h .n))))))⟩) (fun ⟨k, Z, u_Z⟩ ⟨r_0, r_1, r_2, r_3⟩ => ?_)
   show SC _ _ _ _ _ ⟨[(0, .slice A l.length c), (4, .slice none 0 0), (6, .slice A5 ((visT t).length) c6), (7, .int .i64 i), (8, v_q13), (9, .int .i64 k), (5, u_Z)], [rw_ eVis 46 (v_q13) (l.take i.toNat ++ [(gt (visT t) 0)] ++ l.drop i.toNat), rw_ eVis 46 (.slice (some ⟨b11, 0, none⟩) 1 1) [(gt (visT t) 0)], nestVL 46 Z, rw_ eVL 41 (u_Z) Z, rw_ eVis 46 (.slice A5 ((visT t).length) c6) (visT t), cel b1 [.bool t.ship, .int .i64 t.item] 54], S, wf⟩
   refine .seq (.seq (.region (.m rfl rfl rfl (.m rfl rfl rfl ?_))))
   refine .know (row_len 0 rfl) (fun hv22 => ?_)
   obtain ⟨A20, c21, rfl, hv22_1, hv22_2⟩ := hv22
   unfold maxLen at hv22_2
   refine .v (ev_len rfl Try.underlying41 rfl) rfl (.v (ev_cmp rfl rfl rfl rfl) rfl (.go idQ (.condI rfl bD (fun h23 => ?_) (fun h23 => ?_))))
   ·
    refine .skipgo idQ (.seq (.block ?_))
    refine SC.draw mo [rw_ eVL 41 (u_Z) Z] [] (.c (.t (.t (.t .h))) .n) (fun _ _ _ => sc0) (fun wf_24 hl_24 hx_24 hR_24 => ?_)
    refine SR.m 0 rfl rfl rfl rfl (SR.m 1 rfl rfl rfl rfl (SR.m 3 rfl rfl rfl rfl (SR.m 4 rfl rfl rfl rfl (SR.z 5 rfl rfl (ev_ix rfl Try.underlying41 ty46 rfl rfl (by omega) (by omega) (fun _ _ => Fr.adr (i := 1) (Fr.lent (S := S) hR_24 3 rfl (by first | ((try simp only [List.length_nil, List.length_cons, List.length_append, List.length_set, List.length_singleton, List.length_take, List.length_drop, List.length_reverse, List.length_take, List.length_drop]) <;> omega) | omega)) (by omega) (by omega))) (SR.z 6 rfl rfl (ev_lda rfl rfl (At.d (Fr.el (i := 1) (Fr.lent (S := S) hR_24 3 rfl (by first | ((try simp only [List.length_nil, List.length_cons, List.length_append, List.length_set, List.length_singleton, List.length_take, List.length_drop, List.length_reverse, List.length_take, List.length_drop]) <;> omega) | omega)) (by omega) (by omega))) ty46) ?_)))))
    refine SR.two (i := 2) (j := 7) (by kernel_rfl) ⟨_, rfl, ?_⟩ ⟨_, rfl, ?_⟩
    ·
     refine st_call0 rfl rfl rfl rfl hbd30 rfl .n (clone A20 ((l.take i.toNat ++ [(gt (visT t) 0)] ++ l.drop i.toNat).length) c21 (l.take i.toNat ++ [(gt (visT t) 0)] ++ l.drop i.toNat) _ _ (Fr.lent (S := S) hR_24 0 rfl (by first | ((try simp only [List.length_nil, List.length_cons, List.length_append, List.length_set, List.length_singleton, List.length_take, List.length_drop, List.length_reverse, List.length_take, List.length_drop]) <;> omega) | omega)) rfl (by first | ((try simp only [List.length_nil, List.length_cons, List.length_append, List.length_set, List.length_singleton, List.length_take, List.length_drop, List.length_reverse, List.length_take, List.length_drop]) <;> omega) | omega)) (fun v_q26 C_q26 q26 => ⟨tt0, ?_⟩)
     obtain ⟨v25, rfl, rfl⟩ := q26
     show SR _ _ _ _ _ _ _ _ _ ⟨_, _ :: _, _, _⟩
     refine SR.o 7 rfl (st_lit eVis (e := 46) (l := [(gt (visT t) 1)]) rfl rfl rfl rfl (by kernel_rfl) rfl rfl (fun w => by kernel_rfl) (fun b27 => ⟨tt0, (SR.o 8 rfl (st_call0 rfl rfl rfl rfl hbd35 rfl (.c (.t .h) (.c .h .n)) (insert_ v_q26 (l.take i.toNat ++ [(gt (visT t) 0)] ++ l.drop i.toNat) k (.slice (some ⟨b27, 0, none⟩) 1 1) [(gt (visT t) 1)] _ _ (by omega) (by first | ((try simp only [List.length_nil, List.length_cons, List.length_append, List.length_set, List.length_singleton, List.length_take, List.length_drop, List.length_reverse, List.length_take, List.length_drop]) <;> omega) | omega) (by first | ((try simp only [List.length_nil, List.length_cons, List.length_append, List.length_set, List.length_singleton, List.length_take, List.length_drop, List.length_reverse, List.length_take, List.length_drop]) <;> omega) | omega) (by first | ((try simp only [List.length_nil, List.length_cons, List.length_append, List.length_set, List.length_singleton, List.length_take, List.length_drop, List.length_reverse, List.length_take, List.length_drop]) <;> omega) | omega) (by first | ((try simp only [List.length_nil, List.length_cons, List.length_append, List.length_set, List.length_singleton, List.length_take, List.length_drop, List.length_reverse, List.length_take, List.length_drop]) <;> omega) | omega)) (fun v_q29 C_q29 q29 => ⟨tt0, ?_⟩)))⟩))
     obtain ⟨u28, rfl, rfl⟩ := q29
     show SR _ _ _ _ _ _ _ _ _ ⟨_, _ :: _ :: _, _, _⟩
     refine .know (row_len 0 rfl) (fun hv32 => ?_)
     obtain ⟨A30, c31, rfl, hv32_1, hv32_2⟩ := hv32
     unfold maxLen at hv32_2
     refine SR.o 9 rfl (st_lit eVL (e := 41) (l := [(VL.mk ((l.take i.toNat ++ [(gt (visT t) 0)] ++ l.drop i.toNat).take k.toNat ++ [(gt (visT t) 1)] ++ (l.take i.toNat ++ [(gt (visT t) 0)] ++ l.drop i.toNat).drop k.toNat) A30 c31)]) rfl rfl rfl rfl (by kernel_rfl) rfl rfl (fun w => by kernel_rfl) (fun b33 => ⟨tt0, (SR.o 10 rfl (st_app (E := eVL) (m := [(VL.mk ((l.take i.toNat ++ [(gt (visT t) 0)] ++ l.drop i.toNat).take k.toNat ++ [(gt (visT t) 1)] ++ (l.take i.toNat ++ [(gt (visT t) 0)] ++ l.drop i.toNat).drop k.toNat) A30 c31)]) rfl rfl rfl rfl Try.underlying51 ai41 rfl rfl rfl (.t (.t (.t .h))) (by first | rfl | omega | simp) (row_src 0 rfl) (by first | ((try simp only [List.length_nil, List.length_cons, List.length_append, List.length_set, List.length_singleton, List.length_take, List.length_drop, List.length_reverse, List.length_take, List.length_drop]) <;> omega) | omega) rfl (fun v34 => ⟨tt0, (SR.z 11 rfl rfl (ev_as rfl rfl) (SR.fin (by kernel_rfl) hl_24 hx_24 hR_24 (.c (.c (.c (.c .n)))) (SQ.go idQ ?_)))⟩)))⟩))
     refine SC.packVL (VL.mk ((l.take i.toNat ++ [(gt (visT t) 0)] ++ l.drop i.toNat).take k.toNat ++ [(gt (visT t) 1)] ++ (l.take i.toNat ++ [(gt (visT t) 0)] ++ l.drop i.toNat).drop k.toNat) A30 c31) (.c (.t (.t (.t (.t (.t (.t .h)))))) (.c (.t (.t .h)) .n)) (by dsimp only; simp only [List.length_append, List.length_take, List.length_drop, List.length_singleton]; omega) ?_
     exact .region (.m rfl rfl rfl (.v (ev_add rfl rfl rfl (r := (k + 1)) rfl (by omega) (by omega)) rfl (.a rfl rfl rfl (SP.nil (SQ.roundb (X := Int × (List VL) × Value) (x := (k, Z, u_Z)) ⟨(k + 1), (Z ++ [(VL.mk ((l.take i.toNat ++ [(gt (visT t) 0)] ++ l.drop i.toNat).take k.toNat ++ [(gt (visT t) 1)] ++ (l.take i.toNat ++ [(gt (visT t) 0)] ++ l.drop i.toNat).drop k.toNat) A30 c31)]), v34⟩ (by exact ⟨(by have hq := r_0; rw [waysK_step (n := (l.length : Int) + 2) (by omega)] at hq; rw [List.map_append, List.append_assoc]; exact hq), (by omega), (by omega), (by simp only [List.length_append, List.length_singleton]; omega)⟩) (by dsimp only; omega) (Sub.get (.c4 rfl rfl rfl rfl (.c rfl (.c rfl (.c rfl .n))))) (fun w hw => hw.keep (.c (.t (.t (.t (.t .h)))) (.c (.t (.t (.t (.t .h)))) (.c .h (.c .h (.c (.t (.t .h)) (.c (.t (.t .h)) .n))))))))))))
    refine st_lit eVis (e := 46) (l := [(gt (visT t) 1)]) rfl rfl rfl rfl (by kernel_rfl) rfl rfl (fun w => by kernel_rfl) (fun b35 => ⟨tt0, (SR.o 2 rfl (st_call0 rfl rfl rfl rfl hbd30 rfl .n (clone A20 ((l.take i.toNat ++ [(gt (visT t) 0)] ++ l.drop i.toNat).length) c21 (l.take i.toNat ++ [(gt (visT t) 0)] ++ l.drop i.toNat) _ _ (Fr.lent (S := S) hR_24 0 rfl (by first | ((try simp only [List.length_nil, List.length_cons, List.length_append, List.length_set, List.length_singleton, List.length_take, List.length_drop, List.length_reverse, List.length_take, List.length_drop]) <;> omega) | omega)) rfl (by first | ((try simp only [List.length_nil, List.length_cons, List.length_append, List.length_set, List.length_singleton, List.length_take, List.length_drop, List.length_reverse, List.length_take, List.length_drop]) <;> omega) | omega)) (fun v_q37 C_q37 q37 => ⟨tt0, ?_⟩)))⟩)
    obtain ⟨v36, rfl, rfl⟩ := q37
    show SR _ _ _ _ _ _ _ _ _ ⟨_, _ :: _, _, _⟩
    refine SR.o 8 rfl (st_call0 rfl rfl rfl rfl hbd35 rfl (.c .h (.c .h .n)) (insert_ v_q37 (l.take i.toNat ++ [(gt (visT t) 0)] ++ l.drop i.toNat) k (.slice (some ⟨b35, 0, none⟩) 1 1) [(gt (visT t) 1)] _ _ (by omega) (by first | ((try simp only [List.length_nil, List.length_cons, List.length_append, List.length_set, List.length_singleton, List.length_take, List.length_drop, List.length_reverse, List.length_take, List.length_drop]) <;> omega) | omega) (by first | ((try simp only [List.length_nil, List.length_cons, List.length_append, List.length_set, List.length_singleton, List.length_take, List.length_drop, List.length_reverse, List.length_take, List.length_drop]) <;> omega) | omega) (by first | ((try simp only [List.length_nil, List.length_cons, List.length_append, List.length_set, List.length_singleton, List.length_take, List.length_drop, List.length_reverse, List.length_take, List.length_drop]) <;> omega) | omega) (by first | ((try simp only [List.length_nil, List.length_cons, List.length_append, List.length_set, List.length_singleton, List.length_take, List.length_drop, List.length_reverse, List.length_take, List.length_drop]) <;> omega) | omega)) (fun v_q39 C_q39 q39 => ⟨tt0, ?_⟩))
    obtain ⟨u38, rfl, rfl⟩ := q39
    show SR _ _ _ _ _ _ _ _ _ ⟨_, _ :: _ :: _, _, _⟩
    refine .know (row_len 0 rfl) (fun hv42 => ?_)
    obtain ⟨A40, c41, rfl, hv42_1, hv42_2⟩ := hv42
    unfold maxLen at hv42_2
    refine SR.o 9 rfl (st_lit eVL (e := 41) (l := [(VL.mk ((l.take i.toNat ++ [(gt (visT t) 0)] ++ l.drop i.toNat).take k.toNat ++ [(gt (visT t) 1)] ++ (l.take i.toNat ++ [(gt (visT t) 0)] ++ l.drop i.toNat).drop k.toNat) A40 c41)]) rfl rfl rfl rfl (by kernel_rfl) rfl rfl (fun w => by kernel_rfl) (fun b43 => ⟨tt0, (SR.o 10 rfl (st_app (E := eVL) (m := [(VL.mk ((l.take i.toNat ++ [(gt (visT t) 0)] ++ l.drop i.toNat).take k.toNat ++ [(gt (visT t) 1)] ++ (l.take i.toNat ++ [(gt (visT t) 0)] ++ l.drop i.toNat).drop k.toNat) A40 c41)]) rfl rfl rfl rfl Try.underlying51 ai41 rfl rfl rfl (.t (.t (.t .h))) (by first | rfl | omega | simp) (row_src 0 rfl) (by first | ((try simp only [List.length_nil, List.length_cons, List.length_append, List.length_set, List.length_singleton, List.length_take, List.length_drop, List.length_reverse, List.length_take, List.length_drop]) <;> omega) | omega) rfl (fun v44 => ⟨tt0, (SR.z 11 rfl rfl (ev_as rfl rfl) (SR.fin (by kernel_rfl) hl_24 hx_24 hR_24 (.c (.c (.c (.c .n)))) (SQ.go idQ ?_)))⟩)))⟩))
    refine SC.packVL (VL.mk ((l.take i.toNat ++ [(gt (visT t) 0)] ++ l.drop i.toNat).take k.toNat ++ [(gt (visT t) 1)] ++ (l.take i.toNat ++ [(gt (visT t) 0)] ++ l.drop i.toNat).drop k.toNat) A40 c41) (.c (.t (.t (.t (.t (.t (.t .h)))))) (.c (.t (.t .h)) .n)) (by dsimp only; simp only [List.length_append, List.length_take, List.length_drop, List.length_singleton]; omega) ?_
    exact .region (.m rfl rfl rfl (.v (ev_add rfl rfl rfl (r := (k + 1)) rfl (by omega) (by omega)) rfl (.a rfl rfl rfl (SP.nil (SQ.roundb (X := Int × (List VL) × Value) (x := (k, Z, u_Z)) ⟨(k + 1), (Z ++ [(VL.mk ((l.take i.toNat ++ [(gt (visT t) 0)] ++ l.drop i.toNat).take k.toNat ++ [(gt (visT t) 1)] ++ (l.take i.toNat ++ [(gt (visT t) 0)] ++ l.drop i.toNat).drop k.toNat) A40 c41)]), v44⟩ (by exact ⟨(by have hq := r_0; rw [waysK_step (n := (l.length : Int) + 2) (by omega)] at hq; rw [List.map_append, List.append_assoc]; exact hq), (by omega), (by omega), (by simp only [List.length_append, List.length_singleton]; omega)⟩) (by dsimp only; omega) (Sub.get (.c4 rfl rfl rfl rfl (.c rfl (.c rfl (.c rfl .n))))) (fun w hw => hw.keep (.c (.t (.t (.t (.t .h)))) (.c (.t (.t (.t (.t .h)))) (.c .h (.c .h (.c (.t (.t .h)) (.c (.t (.t .h)) .n))))))))))))
   exact .exit idQ (.region (.m rfl rfl rfl (.v (ev_add rfl rfl rfl (r := (i + 1)) rfl (by omega) (by omega)) rfl (.a rfl rfl rfl (SP.nil (SQ.roundb (X := Int × (List VL) × Value) (x := (i, Y, u_Y)) ⟨(i + 1), Z, u_Z⟩ (by exact ⟨(by omega), (by omega), (by have hq := q_2; rw [waysI_step (by omega)] at hq; unfold waysO at hq; rw [if_pos hv2.1] at hq; rw [← List.append_assoc] at hq; rw [← hq]; congr 1; rw [← r_0, waysK_end (by omega), List.append_nil]), (by (try simp only [List.length_append, List.length_singleton]); omega)⟩) (by dsimp only; omega) (Sub.get (.c4 rfl rfl rfl rfl (.c rfl .n))) (fun w hw => hw.keep (.c (.t (.t .h)) (.c (.t (.t .h)) (.c (.t (.t .h)) (.c (.t (.t .h)) .n)))))))))))
  refine st_lit eVis (e := 46) (l := [(gt (visT t) 0)]) rfl rfl rfl rfl (by kernel_rfl) rfl rfl (fun w => by kernel_rfl) (fun b45 => ⟨tt0, (SR.o 1 rfl (st_call0 rfl rfl rfl rfl hbd30 rfl .n (clone A l.length c l _ _ (Fr.ext hA hx_8) rfl (by first | ((try simp only [List.length_nil, List.length_cons, List.length_append, List.length_set, List.length_singleton, List.length_take, List.length_drop, List.length_reverse, List.length_take, List.length_drop]) <;> omega) | omega)) (fun v_q47 C_q47 q47 => ⟨tt0, ?_⟩)))⟩)
  obtain ⟨v46, rfl, rfl⟩ := q47
  show SR _ _ _ _ _ _ _ _ _ ⟨_, _ :: _, _, _⟩
  refine SR.o 7 rfl (st_call0 rfl rfl rfl rfl hbd35 rfl (.c .h (.c .h .n)) (insert_ v_q47 l i (.slice (some ⟨b45, 0, none⟩) 1 1) [(gt (visT t) 0)] _ _ (by omega) (by first | ((try simp only [List.length_nil, List.length_cons, List.length_append, List.length_set, List.length_singleton, List.length_take, List.length_drop, List.length_reverse, List.length_take, List.length_drop]) <;> omega) | omega) (by first | ((try simp only [List.length_nil, List.length_cons, List.length_append, List.length_set, List.length_singleton, List.length_take, List.length_drop, List.length_reverse, List.length_take, List.length_drop]) <;> omega) | omega) (by first | ((try simp only [List.length_nil, List.length_cons, List.length_append, List.length_set, List.length_singleton, List.length_take, List.length_drop, List.length_reverse, List.length_take, List.length_drop]) <;> omega) | omega) (by first | ((try simp only [List.length_nil, List.length_cons, List.length_append, List.length_set, List.length_singleton, List.length_take, List.length_drop, List.length_reverse, List.length_take, List.length_drop]) <;> omega) | omega)) (fun v_q49 C_q49 q49 => ⟨tt0, ?_⟩))
  obtain ⟨u48, rfl, rfl⟩ := q49
  show SR _ _ _ _ _ _ _ _ _ ⟨_, _ :: _ :: _, _, _⟩
  refine SR.z 8 rfl rfl (ev_as rfl rfl) (SR.fin (by kernel_rfl) hl_8 hx_8 hR_8 (.c (.c .n)) (SQ.go idQ (.seq (.seq ?_))))
  have h1l : (l.take (i).toNat ++ [(gt (visT t) 0)] ++ l.drop (i).toNat).length = l.length + 1 := ins1_len (by omega) (by omega)
  refine .region (.m rfl rfl rfl (.v (ev_len rfl Try.underlying41 rfl) rfl (.v (ev_cmp rfl rfl rfl rfl) rfl (.go idQ (.condI rfl bE (fun h50 => ?_) (fun h50 => ?_))))))
  ·
   refine .seq (.region (.m rfl rfl rfl (.m rfl rfl rfl ?_)))
   refine .know (row_len 0 rfl) (fun hv53 => ?_)
   obtain ⟨A51, c52, rfl, hv53_1, hv53_2⟩ := hv53
   unfold maxLen at hv53_2
   refine .cons (st_lit eVL (e := 41) (l := [(VL.mk (l.take i.toNat ++ [(gt (visT t) 0)] ++ l.drop i.toNat) A51 c52)]) rfl rfl rfl rfl (by kernel_rfl) rfl rfl (fun w => by kernel_rfl) (fun b54 => .cons (st_app (E := eVL) (m := [(VL.mk (l.take i.toNat ++ [(gt (visT t) 0)] ++ l.drop i.toNat) A51 c52)]) rfl rfl rfl rfl Try.underlying51 ai41 rfl rfl rfl (.t (.t (.t (.t .h)))) (by first | rfl | omega | simp) (row_src 0 rfl) (by first | ((try simp only [List.length_nil, List.length_cons, List.length_append, List.length_set, List.length_singleton, List.length_take, List.length_drop, List.length_reverse, List.length_take, List.length_drop]) <;> omega) | omega) rfl (fun v55 => .a rfl rfl rfl (.go idQ (.exit idQ ?_))))))
   refine SC.packVL (VL.mk (l.take i.toNat ++ [(gt (visT t) 0)] ++ l.drop i.toNat) A51 c52) (.c (.t (.t (.t (.t .h)))) (.c (.t (.t .h)) .n)) (by dsimp only; simp only [List.length_append, List.length_take, List.length_drop, List.length_singleton]; omega) ?_
   exact .region (.m rfl rfl rfl (.v (ev_add rfl rfl rfl (r := (i + 1)) rfl (by omega) (by omega)) rfl (.a rfl rfl rfl (SP.nil (SQ.roundb (X := Int × (List VL) × Value) (x := (i, Y, u_Y)) ⟨(i + 1), (Y ++ [(VL.mk (l.take i.toNat ++ [(gt (visT t) 0)] ++ l.drop i.toNat) A51 c52)]), v55⟩ (by exact ⟨(by omega), (by omega), (by have hq := q_2; rw [waysI_step (by omega)] at hq; unfold waysO at hq; rw [if_neg (visT_1 (by assumption))] at hq; rw [List.map_append, List.append_assoc]; exact hq), (by (try simp only [List.length_append, List.length_singleton]); omega)⟩) (by dsimp only; omega) (Sub.get (.c4 rfl rfl rfl rfl (.c rfl .n))) (fun w hw => hw.keep (.c .h (.c .h (.c (.t (.t .h)) (.c (.t (.t .h)) .n))))))))))
  refine .skipgo idQ (.seq ?_)
  have hv2 := visT_2 (t := t) (by omega)
  refine .region (.m rfl rfl rfl (.v (ev_add rfl rfl rfl (r := (i + 1)) rfl (by omega) (by omega)) rfl (.a rfl rfl rfl (.go idQ (.block ?_)))))
  refine .loop (X := Int × (List VL) × Value) (fun ⟨k, Z, u_Z⟩ => Z.map VL.vl ++ waysK (l.take (i).toNat ++ [(gt (visT t) 0)] ++ l.drop (i).toNat) (gt (visT t) 1) ((l.length : Int) + 2 - k).toNat k = Y.map VL.vl ++ waysK (l.take (i).toNat ++ [(gt (visT t) 0)] ++ l.drop (i).toNat) (gt (visT t) 1) ((l.length : Int) + 1 - i).toNat (i + 1) ∧ i + 1 ≤ k ∧ k ≤ (l.length : Int) + 2 ∧ (Z.length : Int) ≤ 100 * i + k) (fun ⟨k, Z, u_Z⟩ => [(0, .slice A l.length c), (4, .slice none 0 0), (6, .slice A5 ((visT t).length) c6), (7, .int .i64 i), (8, v_q49), (9, .int .i64 k), (5, u_Z)]) (fun ⟨k, Z, u_Z⟩ => [rw_ eVis 46 (v_q49) (l.take i.toNat ++ [(gt (visT t) 0)] ++ l.drop i.toNat), rw_ eVis 46 (.slice (some ⟨b45, 0, none⟩) 1 1) [(gt (visT t) 0)], nestVL 46 Z, rw_ eVL 41 (u_Z) Z, rw_ eVis 46 (.slice A5 ((visT t).length) c6) (visT t), cel b1 [.bool t.ship, .int .i64 t.item] 54]) (fun _ => S) (fun _ => wf) (fun ⟨k, Z, u_Z⟩ => ((l.length : Int) + 2 - k).toNat) (fun a_ w_ hs_ hw_ => ⟨⟨(i + 1), Y, u_Y⟩, (by exact ⟨(by rw [show ((l.length : Int) + 2 - (i + 1)).toNat = ((l.length : Int) + 1 - i).toNat from by omega]), (by omega), (by omega), (by omega)⟩), hs_.mono (Sub.get (.c4 rfl rfl rfl rfl (.c rfl (.c rfl (.c rfl .n))))), hw_.keep (.c .h (.c .h (.c .h (.c .h (.c .h (.c .h .n))))))⟩) (fun ⟨k, Z, u_Z⟩ ⟨r_0, r_1, r_2, r_3⟩ => ?_)
  show SC _ _ _ _ _ ⟨[(0, .slice A l.length c), (4, .slice none 0 0), (6, .slice A5 ((visT t).length) c6), (7, .int .i64 i), (8, v_q49), (9, .int .i64 k), (5, u_Z)], [rw_ eVis 46 (v_q49) (l.take i.toNat ++ [(gt (visT t) 0)] ++ l.drop i.toNat), rw_ eVis 46 (.slice (some ⟨b45, 0, none⟩) 1 1) [(gt (visT t) 0)], nestVL 46 Z, rw_ eVL 41 (u_Z) Z, rw_ eVis 46 (.slice A5 ((visT t).length) c6) (visT t), cel b1 [.bool t.ship, .int .i64 t.item] 54], S, wf⟩
  refine .seq (.seq (.region (.m rfl rfl rfl (.m rfl rfl rfl ?_))))
  refine .know (row_len 0 rfl) (fun hv58 => ?_)
  obtain ⟨A56, c57, rfl, hv58_1, hv58_2⟩ := hv58
  unfold maxLen at hv58_2
  refine .v (ev_len rfl Try.underlying41 rfl) rfl (.v (ev_cmp rfl rfl rfl rfl) rfl (.go idQ (.condI rfl bD (fun h59 => ?_) (fun h59 => ?_))))
  ·
   refine .skipgo idQ (.seq (.block ?_))
   refine SC.draw mo [rw_ eVL 41 (u_Z) Z] [] (.c (.t (.t (.t .h))) .n) (fun _ _ _ => sc0) (fun wf_60 hl_60 hx_60 hR_60 => ?_)
   refine SR.m 0 rfl rfl rfl rfl (SR.m 1 rfl rfl rfl rfl (SR.m 3 rfl rfl rfl rfl (SR.m 4 rfl rfl rfl rfl (SR.z 5 rfl rfl (ev_ix rfl Try.underlying41 ty46 rfl rfl (by omega) (by omega) (fun _ _ => Fr.adr (i := 1) (Fr.lent (S := S) hR_60 3 rfl (by first | ((try simp only [List.length_nil, List.length_cons, List.length_append, List.length_set, List.length_singleton, List.length_take, List.length_drop, List.length_reverse, List.length_take, List.length_drop]) <;> omega) | omega)) (by omega) (by omega))) (SR.z 6 rfl rfl (ev_lda rfl rfl (At.d (Fr.el (i := 1) (Fr.lent (S := S) hR_60 3 rfl (by first | ((try simp only [List.length_nil, List.length_cons, List.length_append, List.length_set, List.length_singleton, List.length_take, List.length_drop, List.length_reverse, List.length_take, List.length_drop]) <;> omega) | omega)) (by omega) (by omega))) ty46) ?_)))))
   refine SR.two (i := 2) (j := 7) (by kernel_rfl) ⟨_, rfl, ?_⟩ ⟨_, rfl, ?_⟩
   ·
    refine st_call0 rfl rfl rfl rfl hbd30 rfl .n (clone A56 ((l.take i.toNat ++ [(gt (visT t) 0)] ++ l.drop i.toNat).length) c57 (l.take i.toNat ++ [(gt (visT t) 0)] ++ l.drop i.toNat) _ _ (Fr.lent (S := S) hR_60 0 rfl (by first | ((try simp only [List.length_nil, List.length_cons, List.length_append, List.length_set, List.length_singleton, List.length_take, List.length_drop, List.length_reverse, List.length_take, List.length_drop]) <;> omega) | omega)) rfl (by first | ((try simp only [List.length_nil, List.length_cons, List.length_append, List.length_set, List.length_singleton, List.length_take, List.length_drop, List.length_reverse, List.length_take, List.length_drop]) <;> omega) | omega)) (fun v_q62 C_q62 q62 => ⟨tt0, ?_⟩)
    obtain ⟨v61, rfl, rfl⟩ := q62
    show SR _ _ _ _ _ _ _ _ _ ⟨_, _ :: _, _, _⟩
    refine SR.o 7 rfl (st_lit eVis (e := 46) (l := [(gt (visT t) 1)]) rfl rfl rfl rfl (by kernel_rfl) rfl rfl (fun w => by kernel_rfl) (fun b63 => ⟨tt0, (SR.o 8 rfl (st_call0 rfl rfl rfl rfl hbd35 rfl (.c (.t .h) (.c .h .n)) (insert_ v_q62 (l.take i.toNat ++ [(gt (visT t) 0)] ++ l.drop i.toNat) k (.slice (some ⟨b63, 0, none⟩) 1 1) [(gt (visT t) 1)] _ _ (by omega) (by first | ((try simp only [List.length_nil, List.length_cons, List.length_append, List.length_set, List.length_singleton, List.length_take, List.length_drop, List.length_reverse, List.length_take, List.length_drop]) <;> omega) | omega) (by first | ((try simp only [List.length_nil, List.length_cons, List.length_append, List.length_set, List.length_singleton, List.length_take, List.length_drop, List.length_reverse, List.length_take, List.length_drop]) <;> omega) | omega) (by first | ((try simp only [List.length_nil, List.length_cons, List.length_append, List.length_set, List.length_singleton, List.length_take, List.length_drop, List.length_reverse, List.length_take, List.length_drop]) <;> omega) | omega) (by first | ((try simp only [List.length_nil, List.length_cons, List.length_append, List.length_set, List.length_singleton, List.length_take, List.length_drop, List.length_reverse, List.length_take, List.length_drop]) <;> omega) | omega)) (fun v_q65 C_q65 q65 => ⟨tt0, ?_⟩)))⟩))
    obtain ⟨u64, rfl, rfl⟩ := q65
    show SR _ _ _ _ _ _ _ _ _ ⟨_, _ :: _ :: _, _, _⟩
    refine .know (row_len 0 rfl) (fun hv68 => ?_)
    obtain ⟨A66, c67, rfl, hv68_1, hv68_2⟩ := hv68
    unfold maxLen at hv68_2
    refine SR.o 9 rfl (st_lit eVL (e := 41) (l := [(VL.mk ((l.take i.toNat ++ [(gt (visT t) 0)] ++ l.drop i.toNat).take k.toNat ++ [(gt (visT t) 1)] ++ (l.take i.toNat ++ [(gt (visT t) 0)] ++ l.drop i.toNat).drop k.toNat) A66 c67)]) rfl rfl rfl rfl (by kernel_rfl) rfl rfl (fun w => by kernel_rfl) (fun b69 => ⟨tt0, (SR.o 10 rfl (st_app (E := eVL) (m := [(VL.mk ((l.take i.toNat ++ [(gt (visT t) 0)] ++ l.drop i.toNat).take k.toNat ++ [(gt (visT t) 1)] ++ (l.take i.toNat ++ [(gt (visT t) 0)] ++ l.drop i.toNat).drop k.toNat) A66 c67)]) rfl rfl rfl rfl Try.underlying51 ai41 rfl rfl rfl (.t (.t (.t .h))) (by first | rfl | omega | simp) (row_src 0 rfl) (by first | ((try simp only [List.length_nil, List.length_cons, List.length_append, List.length_set, List.length_singleton, List.length_take, List.length_drop, List.length_reverse, List.length_take, List.length_drop]) <;> omega) | omega) rfl (fun v70 => ⟨tt0, (SR.z 11 rfl rfl (ev_as rfl rfl) (SR.fin (by kernel_rfl) hl_60 hx_60 hR_60 (.c (.c (.c (.c .n)))) (SQ.go idQ ?_)))⟩)))⟩))
    refine SC.packVL (VL.mk ((l.take i.toNat ++ [(gt (visT t) 0)] ++ l.drop i.toNat).take k.toNat ++ [(gt (visT t) 1)] ++ (l.take i.toNat ++ [(gt (visT t) 0)] ++ l.drop i.toNat).drop k.toNat) A66 c67) (.c (.t (.t (.t (.t (.t (.t .h)))))) (.c (.t (.t .h)) .n)) (by dsimp only; simp only [List.length_append, List.length_take, List.length_drop, List.length_singleton]; omega) ?_
    exact .region (.m rfl rfl rfl (.v (ev_add rfl rfl rfl (r := (k + 1)) rfl (by omega) (by omega)) rfl (.a rfl rfl rfl (SP.nil (SQ.roundb (X := Int × (List VL) × Value) (x := (k, Z, u_Z)) ⟨(k + 1), (Z ++ [(VL.mk ((l.take i.toNat ++ [(gt (visT t) 0)] ++ l.drop i.toNat).take k.toNat ++ [(gt (visT t) 1)] ++ (l.take i.toNat ++ [(gt (visT t) 0)] ++ l.drop i.toNat).drop k.toNat) A66 c67)]), v70⟩ (by exact ⟨(by have hq := r_0; rw [waysK_step (n := (l.length : Int) + 2) (by omega)] at hq; rw [List.map_append, List.append_assoc]; exact hq), (by omega), (by omega), (by simp only [List.length_append, List.length_singleton]; omega)⟩) (by dsimp only; omega) (Sub.get (.c4 rfl rfl rfl rfl (.c rfl (.c rfl (.c rfl .n))))) (fun w hw => hw.keep (.c (.t (.t (.t (.t .h)))) (.c (.t (.t (.t (.t .h)))) (.c .h (.c .h (.c (.t (.t .h)) (.c (.t (.t .h)) .n))))))))))))
   refine st_lit eVis (e := 46) (l := [(gt (visT t) 1)]) rfl rfl rfl rfl (by kernel_rfl) rfl rfl (fun w => by kernel_rfl) (fun b71 => ⟨tt0, (SR.o 2 rfl (st_call0 rfl rfl rfl rfl hbd30 rfl .n (clone A56 ((l.take i.toNat ++ [(gt (visT t) 0)] ++ l.drop i.toNat).length) c57 (l.take i.toNat ++ [(gt (visT t) 0)] ++ l.drop i.toNat) _ _ (Fr.lent (S := S) hR_60 0 rfl (by first | ((try simp only [List.length_nil, List.length_cons, List.length_append, List.length_set, List.length_singleton, List.length_take, List.length_drop, List.length_reverse, List.length_take, List.length_drop]) <;> omega) | omega)) rfl (by first | ((try simp only [List.length_nil, List.length_cons, List.length_append, List.length_set, List.length_singleton, List.length_take, List.length_drop, List.length_reverse, List.length_take, List.length_drop]) <;> omega) | omega)) (fun v_q73 C_q73 q73 => ⟨tt0, ?_⟩)))⟩)
   obtain ⟨v72, rfl, rfl⟩ := q73
   show SR _ _ _ _ _ _ _ _ _ ⟨_, _ :: _, _, _⟩
   refine SR.o 8 rfl (st_call0 rfl rfl rfl rfl hbd35 rfl (.c .h (.c .h .n)) (insert_ v_q73 (l.take i.toNat ++ [(gt (visT t) 0)] ++ l.drop i.toNat) k (.slice (some ⟨b71, 0, none⟩) 1 1) [(gt (visT t) 1)] _ _ (by omega) (by first | ((try simp only [List.length_nil, List.length_cons, List.length_append, List.length_set, List.length_singleton, List.length_take, List.length_drop, List.length_reverse, List.length_take, List.length_drop]) <;> omega) | omega) (by first | ((try simp only [List.length_nil, List.length_cons, List.length_append, List.length_set, List.length_singleton, List.length_take, List.length_drop, List.length_reverse, List.length_take, List.length_drop]) <;> omega) | omega) (by first | ((try simp only [List.length_nil, List.length_cons, List.length_append, List.length_set, List.length_singleton, List.length_take, List.length_drop, List.length_reverse, List.length_take, List.length_drop]) <;> omega) | omega) (by first | ((try simp only [List.length_nil, List.length_cons, List.length_append, List.length_set, List.length_singleton, List.length_take, List.length_drop, List.length_reverse, List.length_take, List.length_drop]) <;> omega) | omega)) (fun v_q75 C_q75 q75 => ⟨tt0, ?_⟩))
   obtain ⟨u74, rfl, rfl⟩ := q75
   show SR _ _ _ _ _ _ _ _ _ ⟨_, _ :: _ :: _, _, _⟩
   refine .know (row_len 0 rfl) (fun hv78 => ?_)
   obtain ⟨A76, c77, rfl, hv78_1, hv78_2⟩ := hv78
   unfold maxLen at hv78_2
   refine SR.o 9 rfl (st_lit eVL (e := 41) (l := [(VL.mk ((l.take i.toNat ++ [(gt (visT t) 0)] ++ l.drop i.toNat).take k.toNat ++ [(gt (visT t) 1)] ++ (l.take i.toNat ++ [(gt (visT t) 0)] ++ l.drop i.toNat).drop k.toNat) A76 c77)]) rfl rfl rfl rfl (by kernel_rfl) rfl rfl (fun w => by kernel_rfl) (fun b79 => ⟨tt0, (SR.o 10 rfl (st_app (E := eVL) (m := [(VL.mk ((l.take i.toNat ++ [(gt (visT t) 0)] ++ l.drop i.toNat).take k.toNat ++ [(gt (visT t) 1)] ++ (l.take i.toNat ++ [(gt (visT t) 0)] ++ l.drop i.toNat).drop k.toNat) A76 c77)]) rfl rfl rfl rfl Try.underlying51 ai41 rfl rfl rfl (.t (.t (.t .h))) (by first | rfl | omega | simp) (row_src 0 rfl) (by first | ((try simp only [List.length_nil, List.length_cons, List.length_append, List.length_set, List.length_singleton, List.length_take, List.length_drop, List.length_reverse, List.length_take, List.length_drop]) <;> omega) | omega) rfl (fun v80 => ⟨tt0, (SR.z 11 rfl rfl (ev_as rfl rfl) (SR.fin (by kernel_rfl) hl_60 hx_60 hR_60 (.c (.c (.c (.c .n)))) (SQ.go idQ ?_)))⟩)))⟩))
   refine SC.packVL (VL.mk ((l.take i.toNat ++ [(gt (visT t) 0)] ++ l.drop i.toNat).take k.toNat ++ [(gt (visT t) 1)] ++ (l.take i.toNat ++ [(gt (visT t) 0)] ++ l.drop i.toNat).drop k.toNat) A76 c77) (.c (.t (.t (.t (.t (.t (.t .h)))))) (.c (.t (.t .h)) .n)) (by dsimp only; simp only [List.length_append, List.length_take, List.length_drop, List.length_singleton]; omega) ?_
   exact .region (.m rfl rfl rfl (.v (ev_add rfl rfl rfl (r := (k + 1)) rfl (by omega) (by omega)) rfl (.a rfl rfl rfl (SP.nil (SQ.roundb (X := Int × (List VL) × Value) (x := (k, Z, u_Z)) ⟨(k + 1), (Z ++ [(VL.mk ((l.take i.toNat ++ [(gt (visT t) 0)] ++ l.drop i.toNat).take k.toNat ++ [(gt (visT t) 1)] ++ (l.take i.toNat ++ [(gt (visT t) 0)] ++ l.drop i.toNat).drop k.toNat) A76 c77)]), v80⟩ (by exact ⟨(by have hq := r_0; rw [waysK_step (n := (l.length : Int) + 2) (by omega)] at hq; rw [List.map_append, List.append_assoc]; exact hq), (by omega), (by omega), (by simp only [List.length_append, List.length_singleton]; omega)⟩) (by dsimp only; omega) (Sub.get (.c4 rfl rfl rfl rfl (.c rfl (.c rfl (.c rfl .n))))) (fun w hw => hw.keep (.c (.t (.t (.t (.t .h)))) (.c (.t (.t (.t (.t .h)))) (.c .h (.c .h (.c (.t (.t .h)) (.c (.t (.t .h)) .n))))))))))))
  exact .exit idQ (.region (.m rfl rfl rfl (.v (ev_add rfl rfl rfl (r := (i + 1)) rfl (by omega) (by omega)) rfl (.a rfl rfl rfl (SP.nil (SQ.roundb (X := Int × (List VL) × Value) (x := (i, Y, u_Y)) ⟨(i + 1), Z, u_Z⟩ (by exact ⟨(by omega), (by omega), (by have hq := q_2; rw [waysI_step (by omega)] at hq; unfold waysO at hq; rw [if_pos hv2.1] at hq; rw [← List.append_assoc] at hq; rw [← hq]; congr 1; rw [← r_0, waysK_end (by omega), List.append_nil]), (by (try simp only [List.length_append, List.length_singleton]); omega)⟩) (by dsimp only; omega) (Sub.get (.c4 rfl rfl rfl rfl (.c rfl .n))) (fun w hw => hw.keep (.c (.t (.t .h)) (.c (.t (.t .h)) (.c (.t (.t .h)) (.c (.t (.t .h)) .n)))))))))))
 refine .exit idQ (.seq (.region (.m rfl rfl rfl (.a rfl rfl rfl (.go idQ ?_)))))
 exact .ret idQ (ret1 Try.results18 rfl (.c (.t .h) (.c .h .n)) ⟨u_Y, Y, (by rw [← q_2, waysI_end (by omega), List.append_nil]), rfl, rfl⟩)
end Go.Proofs.Ytdpmnodiebpjeaa.Sx
set_option maxRecDepth 20000
set_option maxHeartbeats 1000000
namespace Go.Proofs.Ytdpmnodiebpjeaa.Sx.FI
open Go Go.SX Go.Proofs
theorem zf35 : (Try.prog.info? 35).bind (fun i => i.zero.map Value.cells) = some (List.toArray [.slice none 0 0]) := by kernel_rfl
theorem fo29_3 : fo Try.prog 29 3 = some 5 := by kernel_rfl
theorem ty25 : ty Try.prog 25 = some (false, 1) := by kernel_rfl
theorem ty35 : ty Try.prog 35 = some (true, 1) := by kernel_rfl
theorem hbd17 : hasBody Try.prog 17 = true := by kernel_rfl
theorem ty29 : ty Try.prog 29 = some (true, 8) := by kernel_rfl
theorem hbd36 : hasBody Try.prog 36 = true := by kernel_rfl
theorem ty54 : ty Try.prog 54 = some (true, 2) := by kernel_rfl
theorem hbd18 : hasBody Try.prog 18 = true := by kernel_rfl
theorem ty41 : ty Try.prog 41 = some (false, 1) := by kernel_rfl
theorem hbd16 : hasBody Try.prog 16 = true := by kernel_rfl
theorem hbd26 : hasBody Try.prog 26 = true := by kernel_rfl
theorem zf54 : (Try.prog.info? 54).bind (fun i => i.zero.map Value.cells) = some (List.toArray [.bool false, .int .i64 0]) := by kernel_rfl
theorem hbd21 : hasBody Try.prog 21 = true := by kernel_rfl
end Go.Proofs.Ytdpmnodiebpjeaa.Sx.FI
namespace Go.Proofs.Ytdpmnodiebpjeaa.Sx
open Go Go.SX Go.Proofs FI
theorem sinsert_ (p : PB) (A : Option Addr) (c : Nat) (l : List RT) (t : TK) (S : Nat → Prop) (wf : World) (hA : Fr eRT S wf A l) (hPB : PBF S wf p) (hRT : RTF S wf l) (hL : LawP p) (hls : l.length ≤ 13) (hvs : ∀ i : Int, (gt l i).vis.length ≤ 46) :
  TR0 Try.prog 21 [.agg #[.int .i64 p.dims, .int .i64 p.tn, .slice p.ptA p.time.length p.ptc, .int .i64 p.dn, .slice p.pdA p.dist.length p.pdc, .slice p.pvA p.vehs.length p.pvc, .slice p.pjA p.jobs.length p.pjc, .slice p.psA p.ships.length p.psc], .agg #[.slice A l.length c], .agg #[.bool t.ship, .int .i64 t.item]] [] S wf (fun v_ C_ => ∃ (u : Value) (R : List RT), (R.map rc = (insF p (l.map rc) t).out) ∧ v_ = .tuple #[.agg #[u], .int .i64 ((insF p (l.map rc) t).best), .bool ((insF p (l.map rc) t).found)] ∧ C_ = [rw_ eRT 43 (u) R, nestR 46 R]) := by
 have hla := hA.len
 have hlv := hPB.2.2.1.1.len
 have hRB : RBd 46 (l.map rc) := RBd_of (fun i => by have := hvs i; omega)
 refine TR.mk Try.func21 rfl Try.ntmps21 rfl rfl (fun w_ => ?_)
 refine .seq (.region (.cons (st_boxa rfl rfl rfl rfl rfl (fun b1 => .cons (st_boxa rfl rfl rfl rfl rfl (fun b2 => .cons (st_boxa rfl rfl rfl rfl rfl (fun b3 => .cons (st_alloc rfl rfl rfl rfl zf35 (fun b4 => ?_))))))))))
 refine .a rfl rfl rfl (.a rfl rfl rfl (.go idQ (.seq (.region (.a rfl rfl rfl ?_)))))
 refine .a rfl rfl rfl (.go idQ (.seq (.region (.cons (st_alloc rfl rfl rfl rfl zf35 (fun b5 => .go idQ ?_))))))
 refine .seq (.seq (.region (.v (ev_fa rfl fo29_3 rfl (r := 5) rfl) rfl (.v (ev_ld1 rfl ty25 rfl (At.own1 4 rfl rfl)) rfl (.v (ev_len rfl Try.underlying25 rfl) rfl ?_)))))
 refine .m rfl rfl rfl (.go idQ (.block ?_))
 refine SC.nilrow eRT 43 ?_
 refine SC.nestR0 46 ?_
 refine .loop (X := Int × Int × Bool × (List RT) × Value) (fun ⟨v, best, found, O, u_O⟩ => 0 ≤ v ∧ v ≤ (p.vehs.length : Int) ∧ insV p (l.map rc) t ((p.vehs.length : Int) - v).toNat v ⟨found, best, O.map rc⟩ = (insF p (l.map rc) t)) (fun ⟨v, best, found, O, u_O⟩ => [(3, .pointer (some ⟨b1, 0, none⟩)), (4, .pointer (some ⟨b2, 0, none⟩)), (5, .pointer (some ⟨b3, 0, none⟩)), (6, .pointer (some ⟨b4, 0, none⟩)), (7, .int .i64 0), (8, .bool false), (11, .pointer (some ⟨b5, 0, none⟩)), (22, .int .i64 (p.vehs.length : Int)), (23, .int .i64 v), (9, .int .i64 best), (10, .bool found)]) (fun ⟨v, best, found, O, u_O⟩ => [nestR 46 O, rw_ eRT 43 (u_O) O, cel b5 [u_O] 35, cel b4 [.slice none 0 0] 35, cel b3 [.bool t.ship, .int .i64 t.item] 54, cel b2 [.slice A l.length c] 35, cel b1 [.int .i64 p.dims, .int .i64 p.tn, .slice p.ptA p.time.length p.ptc, .int .i64 p.dn, .slice p.pdA p.dist.length p.pdc, .slice p.pvA p.vehs.length p.pvc, .slice p.pjA p.jobs.length p.pjc, .slice p.psA p.ships.length p.psc] 29]) (fun _ => S) (fun _ => wf) (fun ⟨v, best, found, O, u_O⟩ => ((p.vehs.length : Int) - v).toNat) (fun a_ w_ hs_ hw_ => ⟨⟨0, 0, false, ([] : List RT), .slice none 0 0⟩, (by exact ⟨(by omega), (by omega), (by unfold insF; rw [show ((p.vehs.length : Int) - 0).toNat = p.vehs.length from by omega]; rfl)⟩), hs_.mono (Sub.get (.c4 rfl rfl rfl rfl (.c4 rfl rfl rfl rfl (.c rfl (.c rfl (.c rfl .n)))))), hw_.keep (.c .h (.c .h (.c .h (.c .h (.c .h (.c .h (.c .h .n)))))))⟩) (fun ⟨v, best, found, O, u_O⟩ ⟨q_0, q_1, q_2⟩ => ?_)
 show SC _ _ _ _ _ ⟨[(3, .pointer (some ⟨b1, 0, none⟩)), (4, .pointer (some ⟨b2, 0, none⟩)), (5, .pointer (some ⟨b3, 0, none⟩)), (6, .pointer (some ⟨b4, 0, none⟩)), (7, .int .i64 0), (8, .bool false), (11, .pointer (some ⟨b5, 0, none⟩)), (22, .int .i64 (p.vehs.length : Int)), (23, .int .i64 v), (9, .int .i64 best), (10, .bool found)], [nestR 46 O, rw_ eRT 43 (u_O) O, cel b5 [u_O] 35, cel b4 [.slice none 0 0] 35, cel b3 [.bool t.ship, .int .i64 t.item] 54, cel b2 [.slice A l.length c] 35, cel b1 [.int .i64 p.dims, .int .i64 p.tn, .slice p.ptA p.time.length p.ptc, .int .i64 p.dn, .slice p.pdA p.dist.length p.pdc, .slice p.pvA p.vehs.length p.pvc, .slice p.pjA p.jobs.length p.pjc, .slice p.psA p.ships.length p.psc] 29], S, wf⟩
 refine .seq (.region (.v (ev_cmp rfl rfl rfl rfl) rfl (.go idQ (.seq (.condI rfl bD (fun h6 => ?_) (fun h6 => ?_))))))
 ·
  refine .skipgo idQ (.seq (.block (.seq (.region (.m rfl rfl rfl ?_)))))
  refine .a rfl rfl rfl (.go idQ (.seq (.region (.v (ev_lda rfl rfl (At.whole 5 rfl) ty35) rfl (.m rfl rfl rfl ?_)))))
  refine .cons (st_call0 rfl rfl rfl rfl hbd17 rfl .n (svisits_ A c l v _ _ hA hRT (by first | omega | simp only [LL] <;> omega | simp <;> omega) (fun i_ => by have := hvs i_; omega)) (fun v_q8 C_q8 q8 => ?_))
  obtain ⟨u7, rfl, rfl⟩ := q8
  show SP _ _ _ _ _ _ ⟨_, _ :: _, _, _⟩
  refine .a rfl rfl rfl (.go idQ (.seq ?_))
  have hvb := visR_bd (v := v) hRB (by omega)
  have hcb := cost_bd hL (k := v) (l := (visR v (l.map rc))) (by omega)
  refine .region (.v (ev_lda rfl rfl (At.whole 7 rfl) ty29) rfl (.m rfl rfl rfl (.m rfl rfl rfl ?_)))
  refine .know (row_len 0 rfl) (fun hv11 => ?_)
  obtain ⟨A9, c10, rfl, hv11_1, hv11_2⟩ := hv11
  unfold maxLen at hv11_2
  refine .cons (st_lendk rfl rfl rfl rfl hbd36 rfl .n (.c .h .n) (fun w_ hw => scost_ p v A9 c10 (visR v (l.map rc)) _ _ (Fr.lend hw 0 rfl (by first | omega | simp only [LL] <;> omega | simp <;> omega)) ((hPB).ext hw.lendx) (by omega) (by first | omega | simp only [LL] <;> omega | simp <;> omega)) (.m rfl rfl rfl (.v (ev_ext rfl rfl rfl) rfl (.v (ev_ext rfl rfl rfl) rfl (.a rfl rfl rfl (.a rfl rfl rfl ?_))))))
  refine .go idQ (.seq (.seq (.region (.m rfl rfl rfl (.v (ev_cmp rfl rfl rfl rfl) rfl ?_)))))
  refine .go idQ (.condI rfl bNE (fun h12 => ?_) (fun h12 => ?_))
  ·
   exact .exit idQ (.region (.v (ev_add rfl rfl rfl (r := (v + 1)) rfl (by omega) (by omega)) rfl (.m rfl rfl rfl (SP.nil (SQ.roundb (X := Int × Int × Bool × (List RT) × Value) (x := (v, best, found, O, u_O)) ⟨(v + 1), best, found, O, u_O⟩ (by exact ⟨(by omega), (by omega), (by have hq := q_2; rw [insV_step (by omega), if_pos (by assumption)] at hq; exact hq)⟩) (by dsimp only; omega) (Sub.get (.c4 rfl rfl rfl rfl (.c4 rfl rfl rfl rfl (.c rfl (.c rfl (.c rfl .n)))))) (fun w hw => hw.keep (.c (.t .h) (.c (.t .h) (.c (.t .h) (.c (.t .h) (.c (.t .h) (.c (.t .h) (.c (.t .h) .n)))))))))))))
  refine .skipgo idQ (.seq (.region (.m rfl rfl rfl (.v (ev_lda rfl rfl (At.whole 5 rfl) ty54) rfl (.cons (st_lend0 rfl rfl rfl rfl hbd18 rfl .n (.c .h .n) (fun w_ hw => sways_ A9 c10 (visR v (l.map rc)) t _ _ (Fr.lend hw 0 rfl (by first | omega | simp only [LL] <;> omega | simp <;> omega)) (by first | omega | simp only [LL] <;> omega | simp <;> omega)) (fun v_q15 C_q15 q15 => ?_)))))))
  obtain ⟨u13, Y14, p16, rfl, rfl⟩ := q15
  show SP _ _ _ _ _ _ ⟨_, _ :: _ :: _ :: _, _, _⟩
  have hY := p16
  refine .know (row_len 0 rfl) (fun hv19 => ?_)
  obtain ⟨A17, c18, rfl, hv19_1, hv19_2⟩ := hv19
  unfold maxLen at hv19_2
  refine .v (ev_len rfl Try.underlying51 rfl) rfl (.m rfl rfl rfl (.go idQ (.block ?_)))
  refine .loop (X := Int × Int × Bool × (List RT) × Value) (fun ⟨w, bst2, fnd2, O2, u_O2⟩ => 0 ≤ w ∧ w ≤ (Y14.length : Int) ∧ insW p (l.map rc) v (costP p v (visR v (l.map rc))).1 ((Y14.map VL.vl).drop w.toNat) ⟨fnd2, bst2, O2.map rc⟩ = insW p (l.map rc) v (costP p v (visR v (l.map rc))).1 (waysF (visR v (l.map rc)) t) ⟨found, best, O.map rc⟩) (fun ⟨w, bst2, fnd2, O2, u_O2⟩ => [(3, .pointer (some ⟨b1, 0, none⟩)), (4, .pointer (some ⟨b2, 0, none⟩)), (5, .pointer (some ⟨b3, 0, none⟩)), (6, .pointer (some ⟨b4, 0, none⟩)), (7, .int .i64 0), (8, .bool false), (11, .pointer (some ⟨b5, 0, none⟩)), (22, .int .i64 (p.vehs.length : Int)), (23, .int .i64 v), (12, .int .i64 v), (14, .int .i64 ((costP p v (visR v (l.map rc))).1)), (40, .slice A17 Y14.length c18), (41, .int .i64 (Y14.length : Int)), (42, .int .i64 w), (9, .int .i64 bst2), (10, .bool fnd2)]) (fun ⟨w, bst2, fnd2, O2, u_O2⟩ => [rw_ eVL 41 (.slice A17 Y14.length c18) Y14, nestVL 46 Y14, rw_ eVis 46 (.slice A9 ((visR v (l.map rc)).length) c10) (visR v (l.map rc)), nestR 46 O2, rw_ eRT 43 (u_O2) O2, cel b5 [u_O2] 35, cel b4 [.slice none 0 0] 35, cel b3 [.bool t.ship, .int .i64 t.item] 54, cel b2 [.slice A l.length c] 35, cel b1 [.int .i64 p.dims, .int .i64 p.tn, .slice p.ptA p.time.length p.ptc, .int .i64 p.dn, .slice p.pdA p.dist.length p.pdc, .slice p.pvA p.vehs.length p.pvc, .slice p.pjA p.jobs.length p.pjc, .slice p.psA p.ships.length p.psc] 29]) (fun _ => S) (fun _ => wf) (fun ⟨w, bst2, fnd2, O2, u_O2⟩ => ((Y14.length : Int) - w).toNat) (fun a_ w_ hs_ hw_ => ⟨⟨0, best, found, O, u_O⟩, (by exact ⟨(by omega), (by omega), (by rw [← hY]; rfl)⟩), hs_.mono (Sub.get (.c4 rfl rfl rfl rfl (.c4 rfl rfl rfl rfl (.c4 rfl rfl rfl rfl (.c4 rfl rfl rfl rfl .n))))), hw_.keep (.c .h (.c .h (.c .h (.c .h (.c .h (.c .h (.c .h (.c .h (.c .h (.c .h .n))))))))))⟩) (fun ⟨w, bst2, fnd2, O2, u_O2⟩ ⟨r_0, r_1, r_2⟩ => ?_)
  show SC _ _ _ _ _ ⟨[(3, .pointer (some ⟨b1, 0, none⟩)), (4, .pointer (some ⟨b2, 0, none⟩)), (5, .pointer (some ⟨b3, 0, none⟩)), (6, .pointer (some ⟨b4, 0, none⟩)), (7, .int .i64 0), (8, .bool false), (11, .pointer (some ⟨b5, 0, none⟩)), (22, .int .i64 (p.vehs.length : Int)), (23, .int .i64 v), (12, .int .i64 v), (14, .int .i64 ((costP p v (visR v (l.map rc))).1)), (40, .slice A17 Y14.length c18), (41, .int .i64 (Y14.length : Int)), (42, .int .i64 w), (9, .int .i64 bst2), (10, .bool fnd2)], [rw_ eVL 41 (.slice A17 Y14.length c18) Y14, nestVL 46 Y14, rw_ eVis 46 (.slice A9 ((visR v (l.map rc)).length) c10) (visR v (l.map rc)), nestR 46 O2, rw_ eRT 43 (u_O2) O2, cel b5 [u_O2] 35, cel b4 [.slice none 0 0] 35, cel b3 [.bool t.ship, .int .i64 t.item] 54, cel b2 [.slice A l.length c] 35, cel b1 [.int .i64 p.dims, .int .i64 p.tn, .slice p.ptA p.time.length p.ptc, .int .i64 p.dn, .slice p.pdA p.dist.length p.pdc, .slice p.pvA p.vehs.length p.pvc, .slice p.pjA p.jobs.length p.pjc, .slice p.psA p.ships.length p.psc] 29], S, wf⟩
  have hwl := ways_at hY (i := w) (by omega)
  refine .seq (.region (.v (ev_cmp rfl rfl rfl rfl) rfl (.go idQ (.seq (.condI rfl bD (fun h20 => ?_) (fun h20 => ?_))))))
  ·
   refine .skipgo idQ (.seq (.block (.seq (.region (.v (ev_ix rfl Try.underlying51 ty41 rfl rfl (by omega) (by omega) (row_adr (i := w) 0 rfl (by omega) (by omega))) rfl ?_)))))
   refine .v (ev_ld1 rfl ty41 rfl (At.elem1 (row_el (E := eVL) (l := Y14) (i := w) 0 rfl (by omega) (by omega)) 0 rfl)) rfl (.a rfl rfl rfl (.go idQ (.seq ?_)))
   have hwl2 := hwl (by omega)
   refine .region (.v (ev_lda rfl rfl (At.whole 9 rfl) ty29) rfl (.m rfl rfl rfl (.m rfl rfl rfl (.cons (st_lendk rfl rfl rfl rfl hbd36 rfl .n (.c (.t .h) .n) (fun w_ hw => scost_ p v ((gt Y14 w).wlA) ((gt Y14 w).wlc) ((gt Y14 w).vl) _ _ ((VLF.lend hw 0 rfl) w) ((hPB).ext hw.lendx) (by omega) (by first | omega | simp only [LL] <;> omega | simp <;> omega)) (.m rfl rfl rfl ?_))))))
   refine .v (ev_ext rfl rfl rfl) rfl (.v (ev_ext rfl rfl rfl) rfl (.a rfl rfl rfl (.a rfl rfl rfl (.go idQ (.seq ?_)))))
   have hcb2 := cost_bd hL (k := v) (l := (gt Y14 w).vl) (by omega)
   refine .region (.m rfl rfl rfl (.v (ev_cmp rfl rfl rfl rfl) rfl (.m rfl rfl rfl (.w (fun _ => ev_mv rfl rfl) rfl (.w (fun hb => ev_not rfl (lkg rfl hb)) rfl ?_)))))
   refine .w (fun hb => ev_mv rfl (lkg rfl hb)) rfl (.cons (Ev.ggstep (b1 := (((costP p v ((gt Y14 w).vl)).2) == 0)) (b := (!fnd2)) cb_tf (fun hb1 _ => ev_mv rfl rfl) rfl rfl rfl rfl rfl (.cons (Ev.ggstep (b1 := (((costP p v ((gt Y14 w).vl)).2) == 0)) (b := (!fnd2)) cb_tf (fun hb1 _ => ev_mv rfl rfl) rfl rfl rfl rfl rfl (.cons (Ev.ggstep (b1 := (((costP p v ((gt Y14 w).vl)).2) == 0)) (b := (!fnd2)) cb_tf (fun hb1 hb => have hp := bT (bA bE (bN (bN bV))) hb; ev_sub rfl (lkg rfl hb) (lkg rfl hb) (r := (((costP p v ((gt Y14 w).vl)).1) - ((costP p v (visR v (l.map rc))).1))) rfl (by have _h := hp; omega) (by have _h := hp; omega)) rfl rfl rfl rfl rfl (.cons (Ev.ggstep (b1 := (((costP p v ((gt Y14 w).vl)).2) == 0)) (b := (!fnd2)) cb_tf (fun hb1 _ => ev_mv rfl rfl) rfl rfl rfl rfl rfl (.cons (Ev.ggstep (b1 := (((costP p v ((gt Y14 w).vl)).2) == 0)) (b := (!fnd2)) cb_tf (fun hb1 hb => ev_cmp rfl (lkg rfl hb) (lkg rfl hb) rfl) rfl rfl rfl rfl rfl ?_))))))))))
   refine .w (fun hb => ev_or rfl (lkg rfl hb) rfl (lkgn rfl cb_tf hb)) rfl (.v (ev_and rfl rfl rfl rfl) rfl (.go idQ (.condI rfl (bA bE (bO (bN bV) bD)) (fun h21 => ?_) (fun h21 => ?_))))
   ·
    refine .region (.m rfl rfl rfl (.m rfl rfl rfl (.v (ev_sub rfl rfl rfl (r := (((costP p v ((gt Y14 w).vl)).1) - ((costP p v (visR v (l.map rc))).1))) rfl (by omega) (by omega)) rfl (.v (ev_lda rfl rfl (At.whole 8 rfl) ty35) rfl (.m rfl rfl rfl ?_)))))
    refine .m rfl rfl rfl (.cons (st_lend0 rfl rfl rfl rfl hbd16 rfl .n (.c (.t .h) .n) (fun w_ hw => swith_ A c l v ((gt Y14 w).wlA) ((gt Y14 w).wlc) ((gt Y14 w).vl) _ _ (Fr.ext hA hw.lendx) ((VLF.lend hw 0 rfl) w) ((hRT).ext hw.lendx) (by first | omega | simp only [LL] <;> omega | simp <;> omega) (fun i_ => by have := hvs i_; omega) (by first | omega | simp only [LL] <;> omega | simp <;> omega)) (fun v_q24 C_q24 q24 => ?_)))
    obtain ⟨u22, R23, p25, rfl, rfl⟩ := q24
    show SP _ _ _ _ _ _ ⟨_, _ :: _ :: _ :: _, _, _⟩
    refine .know (row_len 0 rfl) (fun hv28 => ?_)
    obtain ⟨A26, c27, rfl, hv28_1, hv28_2⟩ := hv28
    unfold maxLen at hv28_2
    refine .a rfl rfl rfl (.a rfl rfl rfl (.cons (st_storea (l' := [.slice A26 R23.length c27]) rfl rfl rfl ty35 rfl rfl rfl (.t (.t (.t (.t (.t (.t (.t .h))))))) rfl rfl (.go idQ (.region (.v (ev_add rfl rfl rfl (r := (w + 1)) rfl (by omega) (by omega)) rfl ?_))))))
    exact .m rfl rfl rfl (SP.nil (SQ.roundb (X := Int × Int × Bool × (List RT) × Value) (x := (w, bst2, fnd2, O2, u_O2)) ⟨(w + 1), (((costP p v ((gt Y14 w).vl)).1) - ((costP p v (visR v (l.map rc))).1)), true, R23, .slice A26 R23.length c27⟩ (by exact ⟨(by omega), (by omega), (by have hq := r_2; rw [drop_gtv (i := w) (by omega) (by omega), insW_cons, if_pos (by assumption)] at hq; rw [p25]; exact hq)⟩) (by dsimp only; omega) (Sub.get (.c4 rfl rfl rfl rfl (.c4 rfl rfl rfl rfl (.c4 rfl rfl rfl rfl (.c4 rfl rfl rfl rfl .n))))) (fun w hw => hw.keep (.c (.t (.t (.t (.t .h)))) (.c (.t (.t (.t .h))) (.c (.t (.t (.t .h))) (.c (.t (.t .h)) (.c (.t .h) (.c .h (.c (.t (.t .h)) (.c (.t (.t .h)) (.c (.t (.t .h)) (.c (.t (.t .h)) .n)))))))))))))
   exact .skipgo idQ (.region (.v (ev_add rfl rfl rfl (r := (w + 1)) rfl (by omega) (by omega)) rfl (.m rfl rfl rfl (SP.nil (SQ.roundb (X := Int × Int × Bool × (List RT) × Value) (x := (w, bst2, fnd2, O2, u_O2)) ⟨(w + 1), bst2, fnd2, O2, u_O2⟩ (by exact ⟨(by omega), (by omega), (by have hq := r_2; rw [drop_gtv (i := w) (by omega) (by omega), insW_cons, if_neg (by assumption)] at hq; exact hq)⟩) (by dsimp only; omega) (Sub.get (.c4 rfl rfl rfl rfl (.c4 rfl rfl rfl rfl (.c4 rfl rfl rfl rfl (.c4 rfl rfl rfl rfl .n))))) (fun w hw => hw.keep (.c .h (.c .h (.c .h (.c .h (.c .h (.c .h (.c .h (.c .h (.c .h (.c .h .n))))))))))))))))
  exact .exit idQ (.region (.v (ev_add rfl rfl rfl (r := (v + 1)) rfl (by omega) (by omega)) rfl (.m rfl rfl rfl (SP.nil (SQ.roundb (X := Int × Int × Bool × (List RT) × Value) (x := (v, best, found, O, u_O)) ⟨(v + 1), bst2, fnd2, O2, u_O2⟩ (by exact ⟨(by omega), (by omega), (by have hq := q_2; rw [insV_step (by omega), if_neg (by assumption), ← r_2, drop_end (i := w) (by simp only [List.length_map]; omega)] at hq; exact hq)⟩) (by dsimp only; omega) (Sub.get (.c4 rfl rfl rfl rfl (.c4 rfl rfl rfl rfl (.c rfl (.c rfl (.c rfl .n)))))) (fun w hw => hw.keep (.c (.t (.t (.t .h))) (.c (.t (.t (.t .h))) (.c (.t (.t (.t .h))) (.c (.t (.t (.t .h))) (.c (.t (.t (.t .h))) (.c (.t (.t (.t .h))) (.c (.t (.t (.t .h))) .n)))))))))))))
 refine .exit idQ (.seq (.region (.v (ev_lda rfl rfl (At.whole 2 rfl) ty35) rfl (.m rfl rfl rfl (.m rfl rfl rfl ?_)))))
 refine .know (row_len 1 rfl) (fun hv31 => ?_)
 obtain ⟨A29, c30, rfl, hv31_1, hv31_2⟩ := hv31
 unfold maxLen at hv31_2
 exact .cons (st_storea (l' := [.slice A29 O.length c30]) rfl rfl rfl ty35 rfl rfl rfl (.t (.t (.t .h))) rfl rfl (.a rfl rfl rfl (.a rfl rfl rfl (.go idQ (.ret idQ (retv3 Try.results21 (.c 0 rfl rfl ty35) (.t rfl) (.t rfl) (.c (.t (.t .h)) (.c (.t .h) .n)) ⟨.slice A29 O.length c30, O, (by have hq := q_2; rw [insV_end (by omega)] at hq; rw [← hq]), (by have hq := q_2; rw [insV_end (by omega)] at hq; rw [← hq]), rfl⟩))))))
theorem sgreedy_ (p : PB) (S : Nat → Prop) (wf : World) (hPB : PBF S wf p) (hL : LawP p) :
  TR0 Try.prog 10 [.agg #[.int .i64 p.dims, .int .i64 p.tn, .slice p.ptA p.time.length p.ptc, .int .i64 p.dn, .slice p.pdA p.dist.length p.pdc, .slice p.pvA p.vehs.length p.pvc, .slice p.pjA p.jobs.length p.pjc, .slice p.psA p.ships.length p.psc]] [] S wf (fun v_ C_ => ∃ (u : Value) (R : List RT), (R.map rc = greedyF p) ∧ v_ = .agg #[u] ∧ C_ = [rw_ eRT 43 (u) R, nestR 46 R]) := by
 have htl := taskL_len hL
 have hnj := hL.nj
 refine TR.mk Try.func10 rfl Try.ntmps10 rfl rfl (fun w_ => ?_)
 refine .seq (.region (.cons (st_boxa rfl rfl rfl rfl rfl (fun b1 => .cons (st_alloc rfl rfl rfl rfl zf35 (fun b2 => .go idQ (.seq ?_)))))))
 refine .region (.cons (st_alloc rfl rfl rfl rfl zf35 (fun b3 => .go idQ (.seq (.seq (.region ?_))))))
 refine .v (ev_lda rfl rfl (At.whole 2 rfl) ty29) rfl (.cons (st_call0 rfl rfl rfl rfl hbd26 rfl .n (mtasks_ p _ _ hPB (by omega)) (fun v_q5 C_q5 q5 => ?_)))
 obtain ⟨u4, rfl, rfl⟩ := q5
 show SP _ _ _ _ _ _ ⟨_, _ :: _, _, _⟩
 refine .know (row_len 0 rfl) (fun hv8 => ?_)
 obtain ⟨A6, c7, rfl, hv8_1, hv8_2⟩ := hv8
 unfold maxLen at hv8_2
 refine .v (ev_len rfl Try.underlying57 rfl) rfl (.m rfl rfl rfl (.go idQ (.block ?_)))
 refine SC.nilrow eRT 43 ?_
 refine SC.nestR0 46 ?_
 refine .loop (X := Int × (List RT) × Value) (fun ⟨i, G, u_G⟩ => 0 ≤ i ∧ i ≤ (((taskL p).length : Nat) : Int) ∧ greedyR p ((taskL p).drop i.toNat) (G.map rc) = greedyF p ∧ RBd (2 * i) (G.map rc) ∧ (G.length : Int) ≤ i) (fun ⟨i, G, u_G⟩ => [(1, .pointer (some ⟨b1, 0, none⟩)), (2, .pointer (some ⟨b2, 0, none⟩)), (3, .pointer (some ⟨b3, 0, none⟩)), (10, .slice A6 ((taskL p).length) c7), (11, .int .i64 (((taskL p).length : Nat) : Int)), (12, .int .i64 i)]) (fun ⟨i, G, u_G⟩ => [nestR 46 G, rw_ eRT 43 (u_G) G, rw_ eTK 54 (.slice A6 ((taskL p).length) c7) (taskL p), cel b3 [u_G] 35, cel b2 [.slice none 0 0] 35, cel b1 [.int .i64 p.dims, .int .i64 p.tn, .slice p.ptA p.time.length p.ptc, .int .i64 p.dn, .slice p.pdA p.dist.length p.pdc, .slice p.pvA p.vehs.length p.pvc, .slice p.pjA p.jobs.length p.pjc, .slice p.psA p.ships.length p.psc] 29]) (fun _ => S) (fun _ => wf) (fun ⟨i, G, u_G⟩ => ((((taskL p).length : Nat) : Int) - i).toNat) (fun a_ w_ hs_ hw_ => ⟨⟨0, ([] : List RT), .slice none 0 0⟩, (by exact ⟨(by omega), (by omega), rfl, (fun r hr => by cases hr), (by simp)⟩), hs_.mono (Sub.get (.c4 rfl rfl rfl rfl (.c rfl (.c rfl .n)))), hw_.keep (.c .h (.c .h (.c .h (.c .h (.c .h (.c .h .n))))))⟩) (fun ⟨i, G, u_G⟩ ⟨q_0, q_1, q_2, q_3, q_4⟩ => ?_)
 show SC _ _ _ _ _ ⟨[(1, .pointer (some ⟨b1, 0, none⟩)), (2, .pointer (some ⟨b2, 0, none⟩)), (3, .pointer (some ⟨b3, 0, none⟩)), (10, .slice A6 ((taskL p).length) c7), (11, .int .i64 (((taskL p).length : Nat) : Int)), (12, .int .i64 i)], [nestR 46 G, rw_ eRT 43 (u_G) G, rw_ eTK 54 (.slice A6 ((taskL p).length) c7) (taskL p), cel b3 [u_G] 35, cel b2 [.slice none 0 0] 35, cel b1 [.int .i64 p.dims, .int .i64 p.tn, .slice p.ptA p.time.length p.ptc, .int .i64 p.dn, .slice p.pdA p.dist.length p.pdc, .slice p.pvA p.vehs.length p.pvc, .slice p.pjA p.jobs.length p.pjc, .slice p.psA p.ships.length p.psc] 29], S, wf⟩
 refine .seq (.region (.v (ev_cmp rfl rfl rfl rfl) rfl (.go idQ (.seq (.condI rfl bD (fun h9 => ?_) (fun h9 => ?_))))))
 ·
  refine .skipgo idQ (.seq (.block (.seq (.region (.v (ev_ix rfl Try.underlying57 ty54 rfl rfl (by omega) (by omega) (row_adr (i := i) 2 rfl (by omega) (by first | omega | simp only [LL] <;> omega | simp <;> omega))) rfl ?_)))))
  refine .v (ev_lda rfl rfl (row_el (E := eTK) (l := (taskL p)) (i := i) 2 rfl (by omega) (by first | omega | simp only [LL] <;> omega | simp <;> omega)) ty54) rfl (.cons (st_alloc rfl rfl rfl rfl zf54 (fun b10 => .cons (st_storea (l' := [.bool ((gt (taskL p) i).ship), .int .i64 ((gt (taskL p) i).item)]) rfl rfl rfl ty54 rfl rfl rfl .h rfl rfl (.go idQ (.seq (.region ?_)))))))
  refine .v (ev_lda rfl rfl (At.whole 6 rfl) ty29) rfl (.v (ev_lda rfl rfl (At.whole 4 rfl) ty35) rfl (.v (ev_lda rfl rfl (At.whole 0 rfl) ty54) rfl ?_))
  refine .know (row_len 2 rfl) (fun hv13 => ?_)
  obtain ⟨A11, c12, rfl, hv13_1, hv13_2⟩ := hv13
  unfold maxLen at hv13_2
  refine .cons (st_lend0 rfl rfl rfl rfl hbd21 rfl .n (.c (.t (.t .h)) (.c (.t .h) .n)) (fun w_ hw => sinsert_ p A11 c12 G (gt (taskL p) i) _ _ (Fr.lend hw 0 rfl (by first | omega | simp only [LL] <;> omega | simp <;> omega)) ((hPB).ext hw.lendx) (RTF.lend hw 1 rfl) (by omega) (by first | omega | simp only [LL] <;> omega | simp <;> omega) (fun i_ => by have := RBd_gt q_3 (by omega) i_; omega)) (fun v_q16 C_q16 q16 => ?_))
  obtain ⟨u14, R15, p17, rfl, rfl⟩ := q16
  show SP _ _ _ _ _ _ ⟨_, _ :: _ :: _ :: _ :: _, _, _⟩
  refine .know (row_len 0 rfl) (fun hv20 => ?_)
  obtain ⟨A18, c19, rfl, hv20_1, hv20_2⟩ := hv20
  unfold maxLen at hv20_2
  refine .m rfl rfl rfl (.v (ev_ext rfl rfl rfl) rfl (.v (ev_ext rfl rfl rfl) rfl (.v (ev_ext rfl rfl rfl) rfl (.cons (st_alloc rfl rfl rfl rfl zf35 (fun b21 => .cons (st_storea (l' := [.slice A18 R15.length c19]) rfl rfl rfl ty35 rfl rfl rfl .h rfl rfl ?_)))))))
  refine .a rfl rfl rfl (.a rfl rfl rfl (.go idQ (.seq (.region (.m rfl rfl rfl ?_)))))
  refine .go idQ (.condI rfl bV (fun h22 => ?_) (fun h22 => ?_))
  ·
   refine .region (.v (ev_lda rfl rfl (At.whole 0 rfl) ty35) rfl (.cons (st_storea (l' := [.slice A18 R15.length c19]) rfl rfl rfl ty35 rfl rfl rfl (.t (.t (.t (.t (.t (.t (.t .h))))))) rfl rfl (.go idQ (.region (.v (ev_add rfl rfl rfl (r := (i + 1)) rfl (by omega) (by omega)) rfl ?_))))))
   exact .m rfl rfl rfl (SP.nil (SQ.roundb (X := Int × (List RT) × Value) (x := (i, G, (.slice A11 G.length c12))) ⟨(i + 1), R15, .slice A18 R15.length c19⟩ (by exact ⟨(by omega), (by omega), (by have hq := q_2; rw [drop_gt (x := i) (by omega) (by omega), greedyR_cons, if_pos (by assumption)] at hq; rw [p17]; exact hq), (by rw [p17]; exact RBd_mono (ins_bd q_3 (by omega)).1 (by omega)), (by have h_ := (ins_bd (p := p) (t := gt (taskL p) i) q_3 (by omega)).2; have h2_ := congrArg List.length p17; rw [List.length_map] at h2_; rw [List.length_map] at h_; omega)⟩) (by dsimp only; omega) (Sub.get (.c4 rfl rfl rfl rfl (.c rfl (.c rfl .n)))) (fun w hw => hw.keep (.c (.t (.t (.t .h))) (.c (.t (.t .h)) (.c (.t (.t (.t (.t (.t .h))))) (.c .h (.c (.t (.t (.t (.t .h)))) (.c (.t (.t (.t (.t .h)))) .n)))))))))
  exact .skipgo idQ (.region (.v (ev_add rfl rfl rfl (r := (i + 1)) rfl (by omega) (by omega)) rfl (.m rfl rfl rfl (SP.nil (SQ.roundb (X := Int × (List RT) × Value) (x := (i, G, (.slice A11 G.length c12))) ⟨(i + 1), G, .slice A11 G.length c12⟩ (by exact ⟨(by omega), (by omega), (by have hq := q_2; rw [drop_gt (x := i) (by omega) (by omega), greedyR_cons, if_neg (by assumption)] at hq; exact hq), (RBd_mono q_3 (by omega)), (by omega)⟩) (by dsimp only; omega) (Sub.get (.c4 rfl rfl rfl rfl (.c rfl (.c rfl .n)))) (fun w hw => hw.keep (.c (.t (.t (.t (.t .h)))) (.c (.t (.t (.t .h))) (.c (.t (.t (.t (.t .h)))) (.c (.t (.t (.t (.t .h)))) (.c (.t (.t (.t (.t .h)))) (.c (.t (.t (.t (.t .h)))) .n))))))))))))
 refine .exit idQ (.seq (.region (.v (ev_lda rfl rfl (At.whole 3 rfl) ty35) rfl ?_)))
 refine .know (row_len 1 rfl) (fun hv25 => ?_)
 obtain ⟨A23, c24, rfl, hv25_1, hv25_2⟩ := hv25
 unfold maxLen at hv25_2
 exact .cons (st_storea (l' := [.slice A23 G.length c24]) rfl rfl rfl ty35 rfl rfl rfl (.t (.t (.t (.t .h)))) rfl rfl (.go idQ (.ret idQ (retv1 Try.results10 (.c 0 rfl rfl ty35) (.c (.t (.t .h)) (.c (.t .h) .n)) ⟨.slice A23 G.length c24, G, (by have hq := q_2; rw [drop_end (by omega)] at hq; exact hq), rfl, rfl⟩))))
end Go.Proofs.Ytdpmnodiebpjeaa.Sx
set_option maxRecDepth 20000
set_option maxHeartbeats 1000000
namespace Go.Proofs.Ytdpmnodiebpjeaa.Sx.FJ
open Go Go.SX Go.Proofs
theorem ty46 : ty Try.prog 46 = some (true, 2) := by kernel_rfl
theorem mo : Try.prog.follows .mixedOrders = true := by kernel_rfl
theorem zf46 : (Try.prog.info? 46).bind (fun i => i.zero.map Value.cells) = some (List.toArray [.int .i64 0, .int .i64 0]) := by kernel_rfl
theorem fo46_0 : fo Try.prog 46 0 = some 0 := by kernel_rfl
theorem ty44 : ty Try.prog 44 = some (false, 1) := by kernel_rfl
theorem ty29 : ty Try.prog 29 = some (true, 8) := by kernel_rfl
theorem zf81 : (Try.prog.info? 81).bind (fun i => i.zero.map Value.cells) = some (List.toArray [.int .i64 0, .int .i64 0, .slice none 0 0]) := by kernel_rfl
theorem ty81 : ty Try.prog 81 = some (true, 3) := by kernel_rfl
theorem fo46_1 : fo Try.prog 46 1 = some 1 := by kernel_rfl
theorem ty3 : ty Try.prog 3 = some (false, 1) := by kernel_rfl
theorem fo29_0 : fo Try.prog 29 0 = some 0 := by kernel_rfl
theorem ai3 : (Try.prog.info? 3).map (fun i => (i.zero, i.size, i.bytes)) = some (some (.int .i64 0), 1, 8) := by kernel_rfl
theorem fo29_4 : fo Try.prog 29 4 = some 6 := by kernel_rfl
theorem ty26 : ty Try.prog 26 = some (false, 1) := by kernel_rfl
theorem ty83 : ty Try.prog 83 = some (true, 7) := by kernel_rfl
theorem fo83_1 : fo Try.prog 83 1 = some 3 := by kernel_rfl
theorem ty22 : ty Try.prog 22 = some (false, 1) := by kernel_rfl
theorem fo83_2 : fo Try.prog 83 2 = some 4 := by kernel_rfl
theorem fo29_5 : fo Try.prog 29 5 = some 7 := by kernel_rfl
theorem ty27 : ty Try.prog 27 = some (false, 1) := by kernel_rfl
theorem ty86 : ty Try.prog 86 = some (true, 9) := by kernel_rfl
theorem fo86_2 : fo Try.prog 86 2 = some 6 := by kernel_rfl
theorem ai22 : (Try.prog.info? 22).map (fun i => (i.zero, i.size, i.bytes)) = some (some (.slice none 0 0), 1, 24) := by kernel_rfl
theorem eqIn46 (d : Nat) (x0 y0 : Int) (x1 y1 : Int) (w : World) : (Op.equalIn (d + 3) 46 (.agg #[(.int .i64 x0), (.int .i64 x1)]) (.agg #[(.int .i64 y0), (.int .i64 y1)])).run Try.prog w = .ok ((x0 == y0) && (x1 == y1)) w := by
 rw [run_equalIn_struct w (d + 2) 46 _ _ (by kernel_rfl) (by kernel_rfl)]
 have hf : (Try.prog.fieldsOf 46).toList = [{ name := "Kind", type := 44, offset := 0, embedded := false, tag := "", pkgPath := "", byteOffset := 0 }, { name := "Item", type := 3, offset := 1, embedded := false, tag := "", pkgPath := "", byteOffset := 8 }] := by kernel_rfl
 rw [hf]
 have h44 : ∀ (x y : Int) (w : World), (Op.equalIn (d + 2) 44 (.int .i64 x) (.int .i64 y)).run Try.prog w = .ok (x == y) w := fun x y w => by
  simp [Op.equalIn, run_underlying Try.underlying44]
 have h3 : ∀ (x y : Int) (w : World), (Op.equalIn (d + 2) 3 (.int .i64 x) (.int .i64 y)).run Try.prog w = .ok (x == y) w := fun x y w => by
  simp [Op.equalIn, run_underlying Try.underlying3]
 have p0 : ∀ (x0 : Int) (x1 : Int) (w : World), (part 44 #[(.int .i64 x0), (.int .i64 x1)] 0).run Try.prog w = .ok (.int .i64 x0) w := fun _ _ _ => by kernel_rfl
 have p1 : ∀ (x0 : Int) (x1 : Int) (w : World), (part 3 #[(.int .i64 x0), (.int .i64 x1)] 1).run Try.prog w = .ok (.int .i64 x1) w := fun _ _ _ => by kernel_rfl
 simp only [Op.eqFields, Sem.run_bind, h44, h3, p0, p1, Result.andThen_ok, Sem.run_ite, ne_eq]
 cases g0 : (x0 == y0) <;> cases g1 : (x1 == y1) <;> simp [g0, g1]
theorem ev46_neq (x y : Operand) (x0 y0 : Int) (x1 y1 : Int) (w : World) : (do eqGuard .neq 46 x y (.agg #[(.int .i64 x0), (.int .i64 x1)]) (.agg #[(.int .i64 y0), (.int .i64 y1)]); binOp .neq 46 (.agg #[(.int .i64 x0), (.int .i64 x1)]) (.agg #[(.int .i64 y0), (.int .i64 y1)]) : Sem Value).run Try.prog w = .ok (.bool (!((x0 == y0) && (x1 == y1)))) w := by
 have h1 : (Op.equal 46 (.agg #[(.int .i64 x0), (.int .i64 x1)]) (.agg #[(.int .i64 y0), (.int .i64 y1)])).run Try.prog w = .ok ((x0 == y0) && (x1 == y1)) w := eqIn46 9997 x0 y0 x1 y1 w
 have h2 : (eqGuard .neq 46 x y (.agg #[(.int .i64 x0), (.int .i64 x1)]) (.agg #[(.int .i64 y0), (.int .i64 y1)])).run Try.prog w = .ok () w := by kernel_rfl
 simp only [Sem.run_bind, h2, Result.andThen_ok, binOp, h1]
 rfl
end Go.Proofs.Ytdpmnodiebpjeaa.Sx.FJ
set_option maxRecDepth 20000
set_option maxHeartbeats 1000000
namespace Go.Proofs.Ytdpmnodiebpjeaa.Sx.FK
open Go Go.SX Go.Proofs
theorem ty72 : ty Try.prog 72 = some (true, 2) := by kernel_rfl
theorem fo72_1 : fo Try.prog 72 1 = some 1 := by kernel_rfl
theorem ty3 : ty Try.prog 3 = some (false, 1) := by kernel_rfl
theorem fo72_0 : fo Try.prog 72 0 = some 0 := by kernel_rfl
theorem ty29 : ty Try.prog 29 = some (true, 8) := by kernel_rfl
theorem ty46 : ty Try.prog 46 = some (true, 2) := by kernel_rfl
theorem fo46_0 : fo Try.prog 46 0 = some 0 := by kernel_rfl
theorem ty44 : ty Try.prog 44 = some (false, 1) := by kernel_rfl
theorem fo46_1 : fo Try.prog 46 1 = some 1 := by kernel_rfl
theorem zf54 : (Try.prog.info? 54).bind (fun i => i.zero.map Value.cells) = some (List.toArray [.bool false, .int .i64 0]) := by kernel_rfl
theorem ty54 : ty Try.prog 54 = some (true, 2) := by kernel_rfl
theorem fo75_9 : fo Try.prog 75 9 = some 10 := by kernel_rfl
theorem ty73 : ty Try.prog 73 = some (false, 1) := by kernel_rfl
theorem fo75_3 : fo Try.prog 75 3 = some 3 := by kernel_rfl
theorem ty65 : ty Try.prog 65 = some (false, 1) := by kernel_rfl
theorem fo75_8 : fo Try.prog 75 8 = some 9 := by kernel_rfl
theorem ty22 : ty Try.prog 22 = some (false, 1) := by kernel_rfl
theorem fo75_2 : fo Try.prog 75 2 = some 2 := by kernel_rfl
theorem mo : Try.prog.follows .mixedOrders = true := by kernel_rfl
theorem fo75_0 : fo Try.prog 75 0 = some 0 := by kernel_rfl
theorem fo75_1 : fo Try.prog 75 1 = some 1 := by kernel_rfl
theorem zf81 : (Try.prog.info? 81).bind (fun i => i.zero.map Value.cells) = some (List.toArray [.int .i64 0, .int .i64 0, .slice none 0 0]) := by kernel_rfl
theorem ty81 : ty Try.prog 81 = some (true, 3) := by kernel_rfl
theorem fo81_0 : fo Try.prog 81 0 = some 0 := by kernel_rfl
theorem fo29_1 : fo Try.prog 29 1 = some 1 := by kernel_rfl
theorem ty24 : ty Try.prog 24 = some (true, 2) := by kernel_rfl
theorem fo29_2 : fo Try.prog 29 2 = some 3 := by kernel_rfl
end Go.Proofs.Ytdpmnodiebpjeaa.Sx.FK
set_option maxRecDepth 20000
set_option maxHeartbeats 1000000
namespace Go.Proofs.Ytdpmnodiebpjeaa.Sx.FL
open Go Go.SX Go.Proofs
theorem zf89 : (Try.prog.info? 89).bind (fun i => i.zero.map Value.cells) = some (List.toArray [.int .i64 0, .slice none 0 0, .int .i64 0, .int .i64 0, .int .i64 0, .int .i64 0, .int .i64 0]) := by kernel_rfl
theorem fo29_3 : fo Try.prog 29 3 = some 5 := by kernel_rfl
theorem ty25 : ty Try.prog 25 = some (false, 1) := by kernel_rfl
theorem ty89 : ty Try.prog 89 = some (true, 7) := by kernel_rfl
theorem ty75 : ty Try.prog 75 = some (true, 11) := by kernel_rfl
theorem zf75 : (Try.prog.info? 75).bind (fun i => i.zero.map Value.cells) = some (List.toArray [.int .i64 0, .int .i64 0, .slice none 0 0, .int .u64 0, .int .i64 0, .int .i64 0, .int .i64 0, .int .i64 0, .int .i64 0, .int .i64 0, .slice none 0 0]) := by kernel_rfl
theorem ty29 : ty Try.prog 29 = some (true, 8) := by kernel_rfl
theorem fo75_4 : fo Try.prog 75 4 = some 4 := by kernel_rfl
theorem fo72_0 : fo Try.prog 72 0 = some 0 := by kernel_rfl
theorem ty3 : ty Try.prog 3 = some (false, 1) := by kernel_rfl
theorem fo75_0 : fo Try.prog 75 0 = some 0 := by kernel_rfl
theorem mo : Try.prog.follows .mixedOrders = true := by kernel_rfl
theorem fo89_1 : fo Try.prog 89 1 = some 1 := by kernel_rfl
theorem ty87 : ty Try.prog 87 = some (false, 1) := by kernel_rfl
theorem ty22 : ty Try.prog 22 = some (false, 1) := by kernel_rfl
theorem ai127 : (Try.prog.info? 127).map (fun i => (i.zero, i.size, i.bytes)) = some (some (.agg #[.int .i64 0, .int .i64 0, .int .i64 0, .int .i64 0, .int .i64 0, .int .i64 0, .slice none 0 0, .int .i64 0, .int .i64 0]), 9, 88) := by kernel_rfl
theorem ty46 : ty Try.prog 46 = some (true, 2) := by kernel_rfl
theorem zf81 : (Try.prog.info? 81).bind (fun i => i.zero.map Value.cells) = some (List.toArray [.int .i64 0, .int .i64 0, .slice none 0 0]) := by kernel_rfl
theorem ty81 : ty Try.prog 81 = some (true, 3) := by kernel_rfl
theorem fo75_9 : fo Try.prog 75 9 = some 10 := by kernel_rfl
theorem ty73 : ty Try.prog 73 = some (false, 1) := by kernel_rfl
theorem fo46_1 : fo Try.prog 46 1 = some 1 := by kernel_rfl
theorem ty78 : ty Try.prog 78 = some (true, 2) := by kernel_rfl
theorem fo78_1 : fo Try.prog 78 1 = some 1 := by kernel_rfl
theorem fo78_0 : fo Try.prog 78 0 = some 0 := by kernel_rfl
theorem ty76 : ty Try.prog 76 = some (false, 1) := by kernel_rfl
theorem fo29_1 : fo Try.prog 29 1 = some 1 := by kernel_rfl
theorem ty24 : ty Try.prog 24 = some (true, 2) := by kernel_rfl
theorem fo81_0 : fo Try.prog 81 0 = some 0 := by kernel_rfl
theorem fo89_2 : fo Try.prog 89 2 = some 2 := by kernel_rfl
theorem fo89_3 : fo Try.prog 89 3 = some 3 := by kernel_rfl
theorem fo29_2 : fo Try.prog 29 2 = some 3 := by kernel_rfl
theorem fo81_2 : fo Try.prog 81 2 = some 2 := by kernel_rfl
theorem fo89_4 : fo Try.prog 89 4 = some 4 := by kernel_rfl
theorem fo89_5 : fo Try.prog 89 5 = some 5 := by kernel_rfl
theorem fo81_1 : fo Try.prog 81 1 = some 1 := by kernel_rfl
theorem fo75_1 : fo Try.prog 75 1 = some 1 := by kernel_rfl
theorem fo72_1 : fo Try.prog 72 1 = some 1 := by kernel_rfl
theorem fo75_5 : fo Try.prog 75 5 = some 6 := by kernel_rfl
theorem fo75_6 : fo Try.prog 75 6 = some 7 := by kernel_rfl
theorem fo75_7 : fo Try.prog 75 7 = some 8 := by kernel_rfl
theorem fo89_6 : fo Try.prog 89 6 = some 6 := by kernel_rfl
theorem ai46 : (Try.prog.info? 46).map (fun i => (i.zero, i.size, i.bytes)) = some (some (.agg #[.int .i64 0, .int .i64 0]), 2, 16) := by kernel_rfl
theorem fo46_0 : fo Try.prog 46 0 = some 0 := by kernel_rfl
theorem ty44 : ty Try.prog 44 = some (false, 1) := by kernel_rfl
end Go.Proofs.Ytdpmnodiebpjeaa.Sx.FL
set_option maxRecDepth 20000
set_option maxHeartbeats 1000000
namespace Go.Proofs.Ytdpmnodiebpjeaa.Sx.FM
open Go Go.SX Go.Proofs
theorem fo35_0 : fo Try.prog 35 0 = some 0 := by kernel_rfl
theorem ty33 : ty Try.prog 33 = some (false, 1) := by kernel_rfl
theorem ty43 : ty Try.prog 43 = some (true, 2) := by kernel_rfl
theorem fo43_0 : fo Try.prog 43 0 = some 0 := by kernel_rfl
theorem ty3 : ty Try.prog 3 = some (false, 1) := by kernel_rfl
theorem fo43_1 : fo Try.prog 43 1 = some 1 := by kernel_rfl
theorem ty41 : ty Try.prog 41 = some (false, 1) := by kernel_rfl
theorem ty46 : ty Try.prog 46 = some (true, 2) := by kernel_rfl
theorem ai46 : (Try.prog.info? 46).map (fun i => (i.zero, i.size, i.bytes)) = some (some (.agg #[.int .i64 0, .int .i64 0]), 2, 16) := by kernel_rfl
theorem ty54 : ty Try.prog 54 = some (true, 2) := by kernel_rfl
theorem fo54_0 : fo Try.prog 54 0 = some 0 := by kernel_rfl
theorem ty4 : ty Try.prog 4 = some (false, 1) := by kernel_rfl
theorem ai41 : (Try.prog.info? 41).map (fun i => (i.zero, i.size, i.bytes)) = some (some (.slice none 0 0), 1, 24) := by kernel_rfl
theorem ty29 : ty Try.prog 29 = some (true, 8) := by kernel_rfl
theorem zf89 : (Try.prog.info? 89).bind (fun i => i.zero.map Value.cells) = some (List.toArray [.int .i64 0, .slice none 0 0, .int .i64 0, .int .i64 0, .int .i64 0, .int .i64 0, .int .i64 0]) := by kernel_rfl
theorem ty89 : ty Try.prog 89 = some (true, 7) := by kernel_rfl
theorem fo89_6 : fo Try.prog 89 6 = some 6 := by kernel_rfl
theorem fo29_4 : fo Try.prog 29 4 = some 6 := by kernel_rfl
theorem ty26 : ty Try.prog 26 = some (false, 1) := by kernel_rfl
theorem ai54 : (Try.prog.info? 54).map (fun i => (i.zero, i.size, i.bytes)) = some (some (.agg #[.bool false, .int .i64 0]), 2, 16) := by kernel_rfl
theorem fo29_5 : fo Try.prog 29 5 = some 7 := by kernel_rfl
theorem ty27 : ty Try.prog 27 = some (false, 1) := by kernel_rfl
theorem mo : Try.prog.follows .mixedOrders = true := by kernel_rfl
theorem zf35 : (Try.prog.info? 35).bind (fun i => i.zero.map Value.cells) = some (List.toArray [.slice none 0 0]) := by kernel_rfl
theorem ai43 : (Try.prog.info? 43).map (fun i => (i.zero, i.size, i.bytes)) = some (some (.agg #[.int .i64 0, .slice none 0 0]), 2, 32) := by kernel_rfl
theorem ty35 : ty Try.prog 35 = some (true, 1) := by kernel_rfl
end Go.Proofs.Ytdpmnodiebpjeaa.Sx.FM
set_option maxRecDepth 20000
set_option maxHeartbeats 1000000
namespace Go.Proofs.Ytdpmnodiebpjeaa.Sx.FN
open Go Go.SX Go.Proofs
theorem zf35 : (Try.prog.info? 35).bind (fun i => i.zero.map Value.cells) = some (List.toArray [.slice none 0 0]) := by kernel_rfl
theorem fo29_3 : fo Try.prog 29 3 = some 5 := by kernel_rfl
theorem ty25 : ty Try.prog 25 = some (false, 1) := by kernel_rfl
theorem ty29 : ty Try.prog 29 = some (true, 8) := by kernel_rfl
theorem ty35 : ty Try.prog 35 = some (true, 1) := by kernel_rfl
theorem mo : Try.prog.follows .mixedOrders = true := by kernel_rfl
theorem ty54 : ty Try.prog 54 = some (true, 2) := by kernel_rfl
theorem ty41 : ty Try.prog 41 = some (false, 1) := by kernel_rfl
end Go.Proofs.Ytdpmnodiebpjeaa.Sx.FN
set_option maxRecDepth 20000
set_option maxHeartbeats 1000000
namespace Go.Proofs.Ytdpmnodiebpjeaa.Sx.FO
open Go Go.SX Go.Proofs
theorem zf35 : (Try.prog.info? 35).bind (fun i => i.zero.map Value.cells) = some (List.toArray [.slice none 0 0]) := by kernel_rfl
theorem ty35 : ty Try.prog 35 = some (true, 1) := by kernel_rfl
theorem ty29 : ty Try.prog 29 = some (true, 8) := by kernel_rfl
theorem ty54 : ty Try.prog 54 = some (true, 2) := by kernel_rfl
theorem mo : Try.prog.follows .mixedOrders = true := by kernel_rfl
theorem ty46 : ty Try.prog 46 = some (true, 2) := by kernel_rfl
theorem fo35_0 : fo Try.prog 35 0 = some 0 := by kernel_rfl
theorem ty33 : ty Try.prog 33 = some (false, 1) := by kernel_rfl
theorem ty43 : ty Try.prog 43 = some (true, 2) := by kernel_rfl
theorem fo43_0 : fo Try.prog 43 0 = some 0 := by kernel_rfl
theorem ty3 : ty Try.prog 3 = some (false, 1) := by kernel_rfl
theorem fo43_1 : fo Try.prog 43 1 = some 1 := by kernel_rfl
theorem ty41 : ty Try.prog 41 = some (false, 1) := by kernel_rfl
theorem hbd19 : hasBody Try.prog 19 = true := by kernel_rfl
theorem eqIn46 (d : Nat) (x0 y0 : Int) (x1 y1 : Int) (w : World) : (Op.equalIn (d + 3) 46 (.agg #[(.int .i64 x0), (.int .i64 x1)]) (.agg #[(.int .i64 y0), (.int .i64 y1)])).run Try.prog w = .ok ((x0 == y0) && (x1 == y1)) w := by
 rw [run_equalIn_struct w (d + 2) 46 _ _ (by kernel_rfl) (by kernel_rfl)]
 have hf : (Try.prog.fieldsOf 46).toList = [{ name := "Kind", type := 44, offset := 0, embedded := false, tag := "", pkgPath := "", byteOffset := 0 }, { name := "Item", type := 3, offset := 1, embedded := false, tag := "", pkgPath := "", byteOffset := 8 }] := by kernel_rfl
 rw [hf]
 have h44 : ∀ (x y : Int) (w : World), (Op.equalIn (d + 2) 44 (.int .i64 x) (.int .i64 y)).run Try.prog w = .ok (x == y) w := fun x y w => by
  simp [Op.equalIn, run_underlying Try.underlying44]
 have h3 : ∀ (x y : Int) (w : World), (Op.equalIn (d + 2) 3 (.int .i64 x) (.int .i64 y)).run Try.prog w = .ok (x == y) w := fun x y w => by
  simp [Op.equalIn, run_underlying Try.underlying3]
 have p0 : ∀ (x0 : Int) (x1 : Int) (w : World), (part 44 #[(.int .i64 x0), (.int .i64 x1)] 0).run Try.prog w = .ok (.int .i64 x0) w := fun _ _ _ => by kernel_rfl
 have p1 : ∀ (x0 : Int) (x1 : Int) (w : World), (part 3 #[(.int .i64 x0), (.int .i64 x1)] 1).run Try.prog w = .ok (.int .i64 x1) w := fun _ _ _ => by kernel_rfl
 simp only [Op.eqFields, Sem.run_bind, h44, h3, p0, p1, Result.andThen_ok, Sem.run_ite, ne_eq]
 cases g0 : (x0 == y0) <;> cases g1 : (x1 == y1) <;> simp [g0, g1]
theorem ev46_neq (x y : Operand) (x0 y0 : Int) (x1 y1 : Int) (w : World) : (do eqGuard .neq 46 x y (.agg #[(.int .i64 x0), (.int .i64 x1)]) (.agg #[(.int .i64 y0), (.int .i64 y1)]); binOp .neq 46 (.agg #[(.int .i64 x0), (.int .i64 x1)]) (.agg #[(.int .i64 y0), (.int .i64 y1)]) : Sem Value).run Try.prog w = .ok (.bool (!((x0 == y0) && (x1 == y1)))) w := by
 have h1 : (Op.equal 46 (.agg #[(.int .i64 x0), (.int .i64 x1)]) (.agg #[(.int .i64 y0), (.int .i64 y1)])).run Try.prog w = .ok ((x0 == y0) && (x1 == y1)) w := eqIn46 9997 x0 y0 x1 y1 w
 have h2 : (eqGuard .neq 46 x y (.agg #[(.int .i64 x0), (.int .i64 x1)]) (.agg #[(.int .i64 y0), (.int .i64 y1)])).run Try.prog w = .ok () w := by kernel_rfl
 simp only [Sem.run_bind, h2, Result.andThen_ok, binOp, h1]
 rfl
end Go.Proofs.Ytdpmnodiebpjeaa.Sx.FO
namespace Go.Proofs.Ytdpmnodiebpjeaa.Sx
open Go Go.SX Go.Proofs FO
theorem samev_ (A : Option Addr) (c : Nat) (l : List Vis) (B : Option Addr) (d : Nat) (m : List Vis) (S : Nat → Prop) (wf : World) (hA : Fr eVis S wf A l) (hB : Fr eVis S wf B m) :
  TR0 Try.prog 19 [.slice A l.length c, .slice B m.length d] [] S wf (fun v_ C_ => v_ = .bool (decide (l = m)) ∧ C_ = []) := by
 have hla := hA.len
 have hlb := hB.len
 refine TR.mk Try.func19 rfl Try.ntmps19 rfl rfl (fun w_ => ?_)
 refine .seq (.region (.a rfl rfl rfl (.go idQ (.seq (.seq ?_)))))
 refine .region (.m rfl rfl rfl (.v (ev_len rfl Try.underlying41 rfl) rfl (.m rfl rfl rfl (.v (ev_len rfl Try.underlying41 rfl) rfl (.v (ev_cmp rfl rfl rfl rfl) rfl ?_)))))
 refine .go idQ (.condI rfl bNE (fun h1 => ?_) (fun h1 => ?_))
 ·
  exact .seq (.region (.a rfl rfl rfl (.go idQ (.ret idQ (ret1 Try.results19 rfl .n ⟨(congrArg Value.bool (same_len (by omega))), rfl⟩)))))
 refine .skipgo idQ (.seq (.seq ?_))
 have hlm : l.length = m.length := by omega
 refine .region (.a rfl rfl rfl (.go idQ (.block ?_)))
 refine .loop (X := Int) (fun i => 0 ≤ i ∧ i ≤ (l.length : Int) ∧ l.take i.toNat = m.take i.toNat) (fun i => [(0, .slice A l.length c), (1, .slice B m.length d), (5, .int .i64 i)]) (fun i => []) (fun _ => S) (fun _ => wf) (fun i => ((l.length : Int) - i).toNat) (fun a_ w_ hs_ hw_ => ⟨0, (by exact ⟨(by omega), (by omega), (by simp)⟩), hs_.mono (Sub.get (.c rfl (.c rfl (.c rfl .n)))), hw_.keep .n⟩) (fun i ⟨q_0, q_1, q_2⟩ => ?_)
 try dsimp only
 refine .seq (.seq (.region (.m rfl rfl rfl (.m rfl rfl rfl (.v (ev_len rfl Try.underlying41 rfl) rfl ?_)))))
 refine .v (ev_cmp rfl rfl rfl rfl) rfl (.go idQ (.condI rfl bD (fun h2 => ?_) (fun h2 => ?_)))
 ·
  refine .skipgo idQ (.seq (.block (.seq ?_)))
  refine SC.draw mo [] [] .n (fun _ _ _ => sc0) (fun wf_3 hl_3 hx_3 hR_3 => ?_)
  refine SR.m 0 rfl rfl rfl rfl (SR.m 1 rfl rfl rfl rfl (SR.z 2 rfl rfl (ev_ix rfl Try.underlying41 ty46 rfl rfl (by omega) (by omega) (fun _ _ => Fr.adr (i := i) (Fr.ext hA hx_3) (by omega) (by omega))) (SR.z 3 rfl rfl (ev_lda rfl rfl (At.d (Fr.el (i := i) (Fr.ext hA hx_3) (by omega) (by omega))) ty46) (SR.m 4 rfl rfl rfl rfl (SR.m 5 rfl rfl rfl rfl ?_)))))
  refine SR.z 6 rfl rfl (ev_ix rfl Try.underlying41 ty46 rfl rfl (by omega) (by omega) (fun _ _ => Fr.adr (i := i) (Fr.ext hB hx_3) (by omega) (by omega))) (SR.z 7 rfl rfl (ev_lda rfl rfl (At.d (Fr.el (i := i) (Fr.ext hB hx_3) (by omega) (by omega))) ty46) (SR.z 8 rfl rfl (ev_bin rfl rfl rfl (r := .bool (!((((gt l i).kind) == ((gt m i).kind)) && (((gt l i).item) == ((gt m i).item))))) (ev46_neq _ _ _ _ _ _)) (SR.fin (by kernel_rfl) hl_3 hx_3 hR_3 .n (SQ.go idQ (.condI rfl (bN (bA bE bE)) (fun h4 => ?_) (fun h4 => ?_))))))
  ·
   exact .seq (.region (.a rfl rfl rfl (.go idQ (.ret idQ (ret1 Try.results19 rfl .n ⟨(congrArg Value.bool (same_no q_0 (by omega) (by omega) (by assumption))), rfl⟩)))))
  exact .skipgo idQ (.region (.m rfl rfl rfl (.v (ev_add rfl rfl rfl (r := (i + 1)) rfl (by omega) (by omega)) rfl (.a rfl rfl rfl (SP.nil (SQ.roundb (X := Int) (x := (i)) (i + 1) (by exact ⟨(by omega), (by omega), (same_next q_0 (by omega) (by omega) q_2 (by assumption))⟩) (by show (_ : Nat) < _; omega) (Sub.get (.c rfl (.c rfl (.c rfl .n)))) (fun w hw => hw.keep .n)))))))
 exact .exit idQ (.seq (.region (.a rfl rfl rfl (.go idQ (.ret idQ (ret1 Try.results19 rfl .n ⟨(congrArg Value.bool (same_end (by omega) hlm q_2)), rfl⟩))))))
theorem same15_ (A : Option Addr) (c : Nat) (l : List RT) (B : Option Addr) (d : Nat) (m : List RT) (S : Nat → Prop) (wf : World) (hA : Fr eRT S wf A l) (hB : Fr eRT S wf B m) (hRT : RTF S wf l) (hRTm : RTF S wf m) :
  TR0 Try.prog 9 [.agg #[.slice A l.length c], .agg #[.slice B m.length d]] [] S wf (fun v_ C_ => v_ = .bool (decide (l.map rc = m.map rc)) ∧ C_ = []) := by
 have hla := hA.len
 have hlb := hB.len
 refine TR.mk Try.func9 rfl Try.ntmps9 rfl rfl (fun w_ => ?_)
 refine .seq (.region (.cons (st_boxa rfl rfl rfl rfl rfl (fun b1 => .cons (st_boxa rfl rfl rfl rfl rfl (fun b2 => .a rfl rfl rfl (.go idQ ?_)))))))
 refine .seq (.seq (.region (.v (ev_fa rfl fo35_0 rfl (r := 0) rfl) rfl (.v (ev_ld1 rfl ty33 rfl (At.own1 1 rfl rfl)) rfl (.v (ev_len rfl Try.underlying33 rfl) rfl ?_)))))
 refine .v (ev_fa rfl fo35_0 rfl (r := 0) rfl) rfl (.v (ev_ld1 rfl ty33 rfl (At.own1 0 rfl rfl)) rfl (.v (ev_len rfl Try.underlying33 rfl) rfl (.v (ev_cmp rfl rfl rfl rfl) rfl (.go idQ (.condI rfl bNE (fun h3 => ?_) (fun h3 => ?_))))))
 ·
  exact .seq (.region (.a rfl rfl rfl (.go idQ (.ret idQ (ret1 Try.results9 rfl .n ⟨(congrArg Value.bool (decide_eq_false (fun e_ => by have := congrArg List.length e_; simp only [List.length_map] at this; omega)).symm), rfl⟩)))))
 refine .skipgo idQ (.seq (.seq (.region (.a rfl rfl rfl (.go idQ (.block ?_))))))
 refine .loop (X := Int) (fun i => 0 ≤ i ∧ i ≤ (l.length : Int) ∧ (∀ j : Int, 0 ≤ j → j < i → rc (gt l j) = rc (gt m j))) (fun i => [(2, .pointer (some ⟨b1, 0, none⟩)), (3, .pointer (some ⟨b2, 0, none⟩)), (5, .int .i64 i)]) (fun i => [cel b2 [.slice B m.length d] 35, cel b1 [.slice A l.length c] 35]) (fun _ => S) (fun _ => wf) (fun i => ((l.length : Int) - i).toNat) (fun a_ w_ hs_ hw_ => ⟨0, (by exact ⟨(by omega), (by omega), (fun j h0_ h1_ => by omega)⟩), hs_.mono (Sub.get (.c rfl (.c rfl (.c rfl .n)))), hw_.keep (.c .h (.c .h .n))⟩) (fun i ⟨q_0, q_1, q_2⟩ => ?_)
 try dsimp only
 refine .seq (.seq (.region (.m rfl rfl rfl (.v (ev_fa rfl fo35_0 rfl (r := 0) rfl) rfl (.v (ev_ld1 rfl ty33 rfl (At.own1 1 rfl rfl)) rfl ?_)))))
 refine .v (ev_len rfl Try.underlying33 rfl) rfl (.v (ev_cmp rfl rfl rfl rfl) rfl (.go idQ (.condI rfl bD (fun h4 => ?_) (fun h4 => ?_))))
 ·
  refine .skipgo idQ (.seq (.block (.seq ?_)))
  refine SC.draw mo [] [] .n (fun _ _ _ => sc0) (fun wf_5 hl_5 hx_5 hR_5 => ?_)
  refine SR.z 0 rfl rfl (ev_fa rfl fo35_0 rfl (r := 0) rfl) (SR.z 1 rfl rfl (ev_ld1 rfl ty33 rfl (At.d (At.lent hR_5 1 rfl rfl))) (SR.m 2 rfl rfl rfl rfl (SR.z 3 rfl rfl (ev_ix rfl Try.underlying33 ty43 rfl rfl (by omega) (by omega) (fun _ _ => Fr.adr (i := i) (Fr.ext hA hx_5) (by omega) (by omega))) (SR.z 4 rfl rfl (ev_fa rfl fo43_0 rfl (r := ao A + (i).toNat * 2) rfl) (SR.z 5 rfl rfl (ev_ld1 rfl ty3 rfl (At.elem1 (At.d (Fr.el (i := i) (Fr.ext hA hx_5) (by omega) (by omega))) 0 rfl)) ?_)))))
  refine SR.z 6 rfl rfl (ev_fa rfl fo35_0 rfl (r := 0) rfl) (SR.z 7 rfl rfl (ev_ld1 rfl ty33 rfl (At.d (At.lent hR_5 0 rfl rfl))) (SR.m 8 rfl rfl rfl rfl (SR.z 9 rfl rfl (ev_ix rfl Try.underlying33 ty43 rfl rfl (by omega) (by omega) (fun _ _ => Fr.adr (i := i) (Fr.ext hB hx_5) (by omega) (by omega))) (SR.z 10 rfl rfl (ev_fa rfl fo43_0 rfl (r := ao B + (i).toNat * 2) rfl) (SR.z 11 rfl rfl (ev_ld1 rfl ty3 rfl (At.elem1 (At.d (Fr.el (i := i) (Fr.ext hB hx_5) (by omega) (by omega))) 0 rfl)) ?_)))))
  refine SR.z 12 rfl rfl (ev_cmp rfl rfl rfl rfl) (SR.m 13 rfl rfl rfl rfl (SR.y 14 rfl rfl (fun _ => ev_fa rfl fo35_0 rfl (r := 0) rfl) (SR.y 15 rfl rfl (fun hb => ev_ld1 rfl ty33 (lkg rfl hb) (At.d (At.lent hR_5 1 rfl rfl))) (SR.y 16 rfl rfl (fun _ => ev_mv rfl rfl) (SR.y 17 rfl rfl (fun hb => have hp := bF bNE hb; ev_ix rfl Try.underlying33 ty43 (lkg rfl hb) (lkg rfl hb) (by have _h := hp; omega) (by have _h := hp; omega) (fun _ _ => Fr.adr (i := i) (Fr.ext hA hx_5) (by have _h := hp; omega) (by have _h := hp; omega))) ?_)))))
  refine SR.y 18 rfl rfl (fun hb => ev_fa rfl fo43_1 (lkg rfl hb) (r := ao A + (i).toNat * 2 + 1) rfl) (SR.y 19 rfl rfl (fun hb => have hp := bF bNE hb; ev_ld1 rfl ty41 (lkg rfl hb) (At.elem1 (At.d (Fr.el (i := i) (Fr.ext hA hx_5) (by have _h := hp; omega) (by have _h := hp; omega))) 1 rfl)) (SR.y 20 rfl rfl (fun _ => ev_fa rfl fo35_0 rfl (r := 0) rfl) (SR.y 21 rfl rfl (fun hb => ev_ld1 rfl ty33 (lkg rfl hb) (At.d (At.lent hR_5 0 rfl rfl))) (SR.y 22 rfl rfl (fun _ => ev_mv rfl rfl) (SR.y 23 rfl rfl (fun hb => have hp := bF bNE hb; ev_ix rfl Try.underlying33 ty43 (lkg rfl hb) (lkg rfl hb) (by have _h := hp; omega) (by have _h := hp; omega) (fun _ _ => Fr.adr (i := i) (Fr.ext hB hx_5) (by have _h := hp; omega) (by have _h := hp; omega))) ?_)))))
  refine SR.y 24 rfl rfl (fun hb => ev_fa rfl fo43_1 (lkg rfl hb) (r := ao B + (i).toNat * 2 + 1) rfl) (SR.y 25 rfl rfl (fun hb => have hp := bF bNE hb; ev_ld1 rfl ty41 (lkg rfl hb) (At.elem1 (At.d (Fr.el (i := i) (Fr.ext hB hx_5) (by have _h := hp; omega) (by have _h := hp; omega))) 1 rfl)) (SR.o 26 rfl (st_gcallk rfl rfl rfl rfl rfl rfl hbd19 (fun hb => (lkA1 (lkg rfl hb) (lkA1 (lkg rfl hb) lkA0))) .n (fun hb => have hp := bF bNE hb; samev_ ((gt l i).rA) ((gt l i).rc) ((gt l i).vis) ((gt m i).rA) ((gt m i).rc) ((gt m i).vis) _ _ (((hRT).ext hx_5) i) (((hRTm).ext hx_5) i)) ⟨tt0, (SR.y 27 rfl rfl (fun hb => ev_not rfl (lkg rfl hb)) (SR.z 28 rfl rfl (ev_or rfl rfl rfl rfl) (SR.fin (by kernel_rfl) hl_5 hx_5 hR_5 .n ?_)))⟩)))
  refine SQ.go idQ (.condI rfl (bO bNE (bN bD)) (fun h6 => ?_) (fun h6 => ?_))
  ·
   exact .seq (.region (.a rfl rfl rfl (.go idQ (.ret idQ (ret1 Try.results9 rfl .n ⟨(congrArg Value.bool (decide_eq_false (fun e_ => rcs_ne (by assumption) e_)).symm), rfl⟩)))))
  exact .skipgo idQ (.region (.m rfl rfl rfl (.v (ev_add rfl rfl rfl (r := (i + 1)) rfl (by omega) (by omega)) rfl (.a rfl rfl rfl (SP.nil (SQ.roundb (X := Int) (x := (i)) (i + 1) (by exact ⟨(by omega), (by omega), (rcs_nx q_2 (by assumption))⟩) (by show (_ : Nat) < _; omega) (Sub.get (.c rfl (.c rfl (.c rfl .n)))) (fun w hw => hw.keep (.c .h (.c .h .n)))))))))
 exact .exit idQ (.seq (.region (.a rfl rfl rfl (.go idQ (.ret idQ (ret1 Try.results9 rfl .n ⟨(congrArg Value.bool (decide_eq_true (rcs_eq (by omega) (fun j h0_ h1_ => q_2 j h0_ (by omega)))).symm), rfl⟩))))))
end Go.Proofs.Ytdpmnodiebpjeaa.Sx
set_option maxRecDepth 20000
set_option maxHeartbeats 1000000
namespace Go.Proofs.Ytdpmnodiebpjeaa.Sx.FP
open Go Go.SX Go.Proofs
theorem ty3 : ty Try.prog 3 = some (false, 1) := by kernel_rfl
theorem ty72 : ty Try.prog 72 = some (true, 2) := by kernel_rfl
theorem fo72_0 : fo Try.prog 72 0 = some 0 := by kernel_rfl
theorem fo72_1 : fo Try.prog 72 1 = some 1 := by kernel_rfl
theorem mo : Try.prog.follows .mixedOrders = true := by kernel_rfl
theorem fo24_0 : fo Try.prog 24 0 = some 0 := by kernel_rfl
theorem fo24_1 : fo Try.prog 24 1 = some 1 := by kernel_rfl
theorem ty22 : ty Try.prog 22 = some (false, 1) := by kernel_rfl
theorem fo81_0 : fo Try.prog 81 0 = some 0 := by kernel_rfl
theorem fo81_1 : fo Try.prog 81 1 = some 1 := by kernel_rfl
theorem fo81_2 : fo Try.prog 81 2 = some 2 := by kernel_rfl
theorem ty76 : ty Try.prog 76 = some (false, 1) := by kernel_rfl
theorem fo75_9 : fo Try.prog 75 9 = some 10 := by kernel_rfl
theorem ty73 : ty Try.prog 73 = some (false, 1) := by kernel_rfl
theorem ty78 : ty Try.prog 78 = some (true, 2) := by kernel_rfl
theorem fo78_0 : fo Try.prog 78 0 = some 0 := by kernel_rfl
theorem fo78_1 : fo Try.prog 78 1 = some 1 := by kernel_rfl
theorem fo75_0 : fo Try.prog 75 0 = some 0 := by kernel_rfl
theorem fo75_1 : fo Try.prog 75 1 = some 1 := by kernel_rfl
theorem fo75_2 : fo Try.prog 75 2 = some 2 := by kernel_rfl
theorem fo75_3 : fo Try.prog 75 3 = some 3 := by kernel_rfl
theorem ty65 : ty Try.prog 65 = some (false, 1) := by kernel_rfl
theorem fo75_4 : fo Try.prog 75 4 = some 4 := by kernel_rfl
theorem fo75_5 : fo Try.prog 75 5 = some 6 := by kernel_rfl
theorem fo75_6 : fo Try.prog 75 6 = some 7 := by kernel_rfl
theorem fo75_7 : fo Try.prog 75 7 = some 8 := by kernel_rfl
theorem fo75_8 : fo Try.prog 75 8 = some 9 := by kernel_rfl
theorem fo29_1 : fo Try.prog 29 1 = some 1 := by kernel_rfl
theorem fo29_0 : fo Try.prog 29 0 = some 0 := by kernel_rfl
theorem ty24 : ty Try.prog 24 = some (true, 2) := by kernel_rfl
theorem fo29_2 : fo Try.prog 29 2 = some 3 := by kernel_rfl
theorem fo29_3 : fo Try.prog 29 3 = some 5 := by kernel_rfl
theorem ty25 : ty Try.prog 25 = some (false, 1) := by kernel_rfl
theorem fo29_4 : fo Try.prog 29 4 = some 6 := by kernel_rfl
theorem ty26 : ty Try.prog 26 = some (false, 1) := by kernel_rfl
theorem fo29_5 : fo Try.prog 29 5 = some 7 := by kernel_rfl
theorem ty27 : ty Try.prog 27 = some (false, 1) := by kernel_rfl
theorem ty75 : ty Try.prog 75 = some (true, 11) := by kernel_rfl
theorem ty83 : ty Try.prog 83 = some (true, 7) := by kernel_rfl
theorem fo83_0 : fo Try.prog 83 0 = some 0 := by kernel_rfl
theorem ty81 : ty Try.prog 81 = some (true, 3) := by kernel_rfl
theorem fo83_1 : fo Try.prog 83 1 = some 3 := by kernel_rfl
theorem fo83_2 : fo Try.prog 83 2 = some 4 := by kernel_rfl
theorem fo83_3 : fo Try.prog 83 3 = some 5 := by kernel_rfl
theorem fo83_4 : fo Try.prog 83 4 = some 6 := by kernel_rfl
theorem ty86 : ty Try.prog 86 = some (true, 9) := by kernel_rfl
theorem fo86_0 : fo Try.prog 86 0 = some 0 := by kernel_rfl
theorem fo86_1 : fo Try.prog 86 1 = some 3 := by kernel_rfl
theorem fo86_2 : fo Try.prog 86 2 = some 6 := by kernel_rfl
theorem fo86_3 : fo Try.prog 86 3 = some 7 := by kernel_rfl
theorem fo86_4 : fo Try.prog 86 4 = some 8 := by kernel_rfl
theorem ty29 : ty Try.prog 29 = some (true, 8) := by kernel_rfl
end Go.Proofs.Ytdpmnodiebpjeaa.Sx.FP
