import Derived.Test.YtlefdinbbjiabaaProg
import Derived.Test.YtlefdinbbjiabaaS4
set_option linter.unusedVariables false
set_option linter.unusedSimpArgs false
set_option linter.unusedSectionVars false
set_option maxRecDepth 20000
set_option maxHeartbeats 8000000
namespace Go.Proofs.Ytlefdinbbjiabaa.Sx.FK
open Go Go.SX Go.Proofs Go.Proofs.Try FA FB FC FD FE FF FG FH FI FJ
theorem hbd35 : hasBody prog 35 = true := by kernel_rfl
theorem hbd36 : hasBody prog 36 = true := by kernel_rfl
theorem hbd37 : hasBody prog 37 = true := by kernel_rfl
end Go.Proofs.Ytlefdinbbjiabaa.Sx.FK
namespace Go.Proofs.Ytlefdinbbjiabaa.Sx
open Go Go.SX Go.Proofs Go.Proofs.Try FA FB FC FD FE FF FG FH FI FJ FK
theorem new_ (n : Int) (A : Option Addr) (c : Nat) (l : List AR) (d : Bool) (S : Nat → Prop) (wf : World) (hA : Fr eAR S wf A l) (hR : RoadOk n l) :
  TR0 prog 20 [.agg #[.int .i64 n, .slice A l.length c], .func (.func (metF d)) #[] #[]] [] S wf (fun v_ C_ => ∃ (b : Nat) (u : Value) (v : Value) (fi : List Int) (ed : List EG), (GOk n (tabF n d l) fi ed) ∧ (∃ X : List AR, X.Perm l ∧ Srd (ltA d) X 0 (l.length : Int) ∧ ed = (kpA X (l.length : Int)).map (egF d)) ∧ v_ = .tuple #[.pointer (some ⟨b, 0, none⟩), .int .i64 0] ∧ C_ = [cel b [u, v] 83, rw_ eZ 3 (u) fi, rw_ eEG 64 (v) ed]) := by
 have hla := hA.len
 have hnp := hR.pl
 have hnl := hR.len
 refine TR.mk func20 G ntmps20 G G (fun w_ => ?_)
 refine .seq (.region (.cons (st_boxa G G G G G (fun b1 => (.cons (st_box1 G G G G G G (fun b2 => (.a G G G ?_))))))))
 refine .a rfl rfl rfl (.go idQ (.seq (.seq (.region (.v (ev_lda rfl rfl (At.whole 1 rfl) ty24) rfl (.cons (st_call00 rfl rfl rfl rfl hbd35 rfl .n (rdchk_ n A c l _ _ hA) (by intro v C h; obtain ⟨_, _, _, rfl, rfl⟩ := h; rfl) (fun v_q5 q5 => ?_))))))))
 obtain ⟨x3, e4, p6, rfl, -⟩ := q5
 obtain ⟨rfl, -⟩ : e4 = 0 ∧ RoadOk n l := p6.elim id (fun h_ => absurd hR h_.2)
 refine .m G G G (.x G G G G (.x G G G G (.a G G G ?_)))
 refine .a G G G (.go idQ (.seq (.region (.m G G G (.v (ev_cmp (r := false) G G G G) G ?_)))))
 refine .go idQ (.cond_f G (.skipgo idQ (.seq (.region (.f fo24_1 1 G G G G ?_)))))
 refine .l ty22 1 G G G G G (.cons (st_call0 G G G G hbd36 G .n (cloneA A l.length c l _ _ hA G lO) (fun v_q8 C_q8 q8 => ?_)))
 obtain ⟨v7, rfl, rfl⟩ := q8
 show SP _ _ _ _ _ _ ⟨_, _ :: _, _, _⟩
 refine .a G G G (.go idQ (.seq (.region (.m G G G (.v (ev_any (v := .func (.func 38) #[] #[.pointer (some ⟨b2, 0, none⟩)]) G kR (fun _ => by kernel_rfl)) G ?_)))))
 refine .know (row_len 0 G) (fun hv11 => ?_)
 obtain ⟨A9, c10, rfl, hv11_1, hv11_2⟩ := hv11
 unfold maxLen at hv11_2
 refine .cons (st_call0 G G G G hbd37 G (.d .n) (srtA_ A9 l.length c10 l d b2 _ _ lO lO) (fun v_q13 C_q13 q13 => ?_))
 obtain ⟨l212, p14, p15, rfl, rfl⟩ := q13
 show SP _ _ _ _ _ _ ⟨_, _ :: _ :: _, _, _⟩
 obtain ⟨X, hX⟩ : ∃ X, X = l212 := ⟨_, rfl⟩
 subst hX
 have hXl : X.length = l.length := p14.length_eq
 have hXo := arcs_perm hR p14
 refine .go idQ (.seq (.region (.f fo24_0 0 G G G G (.l ty3 2 G G G G G (.p ((n + 1)) oO oO G G G G G ?_)))))
 refine .cons (st_mkints (q := .i64) (n := ((n + 1)).toNat) G G G G underlying27 ai3 G G oO oO G (fun b16 => ?_))
 refine .v (ev_any (v := .agg #[.slice (some ⟨b16, 0, none⟩) (((n + 1)).toNat) (((n + 1)).toNat), .slice none 0 0]) G kR (fun _ => by kernel_rfl)) G (.cons (st_boxa G G G G G (fun b17 => (.a G G G (.go idQ (.seq (.seq (.region ?_))))))))
 refine .m G G G (.g underlying22 G G G (.m G G G (.go idQ (.block ?_))))
 refine SC.nilrow eEG 64 ?_
 refine .loop (X := Int × (List EG) × Value × (List Int)) (fun ⟨i, E, u_E, F⟩ => 0 ≤ i ∧ i ≤ (l.length : Int) ∧ E = (kpA X i).map (egF d) ∧ CntI n F (kpA X i)) (fun ⟨i, E, u_E, F⟩ => [(2, .pointer (some ⟨b1, 0, none⟩)), (3, .pointer (some ⟨b2, 0, none⟩)), (4, .pointer none), (5, .int .i64 0), (8, .slice A9 l.length c10), (9, .pointer (some ⟨b17, 0, none⟩)), (33, .slice A9 l.length c10), (34, .int .i64 (l.length : Int)), (35, .int .i64 i)]) (fun ⟨i, E, u_E, F⟩ => [rw_ eEG 64 (u_E) E, cel b17 [.slice (some ⟨b16, 0, none⟩) (((n + 1)).toNat) (((n + 1)).toNat), u_E] 83, rw_ eZ 3 (.slice (some ⟨b16, 0, none⟩) (((n + 1)).toNat) (((n + 1)).toNat)) F, rw_ eAR 47 (.slice A9 l.length c10) X, cel b2 [.func (.func (metF d)) #[] #[]] 49, cel b1 [.int .i64 n, .slice A l.length c] 24]) (fun _ => S) (fun _ => wf) (fun ⟨i, E, u_E, F⟩ => ((l.length : Int) - i).toNat) (fun a_ w_ hs_ hw_ => ⟨⟨0, ([] : List EG), .slice none 0 0, (List.replicate (((n + 1)).toNat) 0)⟩, (by (try dsimp only); exact ⟨oO, oO, G, (cnt_0 oO)⟩), hs_.mono (Sub.get (.c4 G G G G (.c4 G G G G (.c G .n)))), hw_.keep (.d (.d (.d .n)))⟩) (fun ⟨i, E, u_E, F⟩ ⟨q_0, q_1, q_2, q_3⟩ => ?_)
 try dsimp only
 refine .seq (.region (.e G G G G G (.go idQ (.seq (.condI G bD (fun h18 => ?_) (fun h18 => ?_))))))
 ·
  refine .skipgo idQ (.seq (.block (.seq (.region (.m G G G (.v (ev_ix G underlying22 ty47 G G oO oO (row_adr (i := i) 3 G oO oO)) G (.v (ev_lda G G (row_el (E := eAR) (l := X) (i := i) 3 G oO oO) ty47) G ?_)))))))
  refine .cons (st_alloc G G G G zf47 (fun b19 => ?_))
  refine .a G G G (.cons (st_storea (l' := [.int .i64 ((gt X i).fr), .int .i64 ((gt X i).to), .int .i64 ((gt X i).tm), .int .i64 ((gt X i).ds)]) G G G ty47 G G G .h G G (.go idQ (.seq (.seq ?_)))))
  have hai := hXo i oO oO
  unfold arcOk at hai
  by_cases hc20 : (gt X i).fr = (gt X i).to
  ·
   refine SC.draw mo [] [] .n (fun _ _ _ => sc0) (fun wf_21 hl_21 hx_21 hR_21 => ?_)
   refine SR.z 0 G G (ev_fa G fo47_0 G (r := 0) G) ?_
   refine SR.z 1 G G (ev_ld1 G ty3 G (At.d (At.lent hR_21 0 G G))) ?_
   refine SR.z 2 G G (ev_fa G fo47_1 G (r := 1) G) ?_
   refine SR.z 3 G G (ev_ld1 G ty3 G (At.d (At.lent hR_21 0 G G))) ?_
   refine SR.z 4 G G (ev_cmp (r := true) G G G (kbET hc20)) ?_
   refine SR.m 5 G G G G ?_
   refine SR.gtake (v := undef) 6 G kR kR kR G (fun _ _ _ _ h => h) G G G G G (fun hb => by cases hb) ?_
   refine SR.gtake (v := undef) 7 G kR kR kR G (fun _ _ _ _ h => h) G G G G G (fun hb => by cases hb) ?_
   refine SR.gtake (v := undef) 8 G kR kR kR G (fun _ _ _ _ h => h) G G G G G (fun hb => by cases hb) ?_
   refine SR.utake 9 G kR kR kR G (fun _ _ _ _ h => h) G G G G G ?_
   refine SR.utake 10 G kR kR kR G (fun _ _ _ _ h => h) G G G G G ?_
   refine SR.utake 11 G kR kR kR G (fun _ _ _ _ h => h) G G G G G ?_
   refine SR.utake 12 G kR kR kR G (fun _ _ _ _ h => h) G G G G G ?_
   refine SR.utake 13 G kR kR kR G (fun _ _ _ _ h => h) G G G G G ?_
   refine SR.utake 14 G kR kR kR G (fun _ _ _ _ h => h) G G G G G ?_
   refine SR.utake 15 G kR kR kR G (fun _ _ _ _ h => h) G G G G G ?_
   refine SR.utake 16 G kR kR kR G (fun _ _ _ _ h => h) G G G G G ?_
   refine SR.utake 17 G kR kR kR G (fun _ _ _ _ h => h) G G G G G ?_
   refine SR.gtake (v := undef) 18 G kR kR kR G (fun _ _ _ _ h => h) G G G G G (fun hb => by cases hb) ?_
   refine SR.gtake (v := undef) 19 G kR kR kR G (fun _ _ _ _ h => h) G G G G G (fun hb => by cases hb) ?_
   refine SR.utake 20 G kR kR kR G (fun _ _ _ _ h => h) G G G G G ?_
   refine SR.utake 21 G kR kR kR G (fun _ _ _ _ h => h) G G G G G ?_
   refine SR.utake 22 G kR kR kR G (fun _ _ _ _ h => h) G G G G G ?_
   refine SR.utake 23 G kR kR kR G (fun _ _ _ _ h => h) G G G G G ?_
   refine SR.utake 24 G kR kR kR G (fun _ _ _ _ h => h) G G G G G ?_
   refine SR.utake 25 G kR kR kR G (fun _ _ _ _ h => h) G G G G G ?_
   refine SR.utake 26 G kR kR kR G (fun _ _ _ _ h => h) G G G G G ?_
   refine SR.utake 27 G kR kR kR G (fun _ _ _ _ h => h) G G G G G ?_
   refine SR.utake 28 G kR kR kR G (fun _ _ _ _ h => h) G G G G G ?_
   refine SR.gtake (v := undef) 29 G kR kR kR G (fun _ _ _ _ h => h) G G G G G (fun hb => by cases hb) ?_
   refine SR.z 30 G G (ev_pickt G G G G) ?_
   refine SR.fin kR hl_21 hx_21 hR_21 .n ?_
   refine SQ.go idQ ?_
   refine .cond_t G ?_
   refine .exit idQ ?_
   refine .region (.p ((i + 1)) oO oO G G G G G (.m G G G ?_))
   exact SP.nil (SQ.roundb (X := Int × (List EG) × Value × (List Int)) (x := (i, E, u_E, F)) ⟨(i + 1), E, u_E, F⟩ (by (try dsimp only); exact ⟨oO, oO, (by rw [kp_skip oO (.inl hc20)]; exact q_2), (by rw [kp_skip oO (.inl hc20)]; exact q_3)⟩) dO (Sub.get (.c4 G G G G (.c4 G G G G (.c G .n)))) (kp (.c (.t .h) (.c (.t .h) (.c (.t .h) (.c (.t .h) (.c (.t .h) (.c (.t .h) .n))))))))
  by_cases hc22 : i > 0
  ·
   refine SC.draw mo [] [] .n (fun _ _ _ => sc0) (fun wf_23 hl_23 hx_23 hR_23 => ?_)
   refine SR.z 0 G G (ev_fa G fo47_0 G (r := 0) G) ?_
   refine SR.z 1 G G (ev_ld1 G ty3 G (At.d (At.lent hR_23 0 G G))) ?_
   refine SR.z 2 G G (ev_fa G fo47_1 G (r := 1) G) ?_
   refine SR.z 3 G G (ev_ld1 G ty3 G (At.d (At.lent hR_23 0 G G))) ?_
   refine SR.z 4 G G (ev_cmp (r := false) G G G (kbEF hc20)) ?_
   refine SR.m 5 G G G G ?_
   refine SR.y 6 G G (fun _ => ev_mv G G) ?_
   refine SR.y 7 G G (fun _ => ev_cmp (r := true) G G G (kbDT hc22)) ?_
   refine SR.y 8 G G (fun _ => ev_mv G G) ?_
   refine SR.y 9 G G (fun _ => ev_mv G G) ?_
   refine SR.y 10 G G (fun _ => ev_mv G G) ?_
   refine SR.y 11 G G (fun _ => ev_sub G G G (r := (i - 1)) G oO oO) ?_
   refine SR.y 12 G G (fun _ => ev_ix G underlying22 ty47 G G oO oO (fun _ _ => Fr.adr (i := (i - 1)) (Fr.lent (S := S) hR_23 4 G lO) oO oO)) ?_
   refine SR.y 13 G G (fun _ => ev_fa G fo47_0 G (r := ao A9 + ((i - 1)).toNat * 4) G) ?_
   refine SR.y 14 G G (fun _ => ev_ld1 G ty3 G (At.elem1 (At.d (Fr.el (i := (i - 1)) (Fr.lent (S := S) hR_23 4 G lO) oO oO)) 0 G)) ?_
   refine SR.y 15 G G (fun _ => ev_fa G fo47_0 G (r := 0) G) ?_
   refine SR.y 16 G G (fun _ => ev_ld1 G ty3 G (At.d (At.lent hR_23 0 G G))) ?_
   refine SR.y 17 G G (fun _ => ev_cmp G G G G) ?_
   refine SR.y 18 G G (fun _ => ev_pickt G G G G) ?_
   refine SR.y 19 G G (fun _ => ev_mv G G) ?_
   refine SR.y 20 G G (fun _ => ev_mv G G) ?_
   refine SR.y 21 G G (fun _ => ev_mv G G) ?_
   refine SR.y 22 G G (fun hb => have hp := bT bE hb; ev_sub G (lkg G hb) G (r := (i - 1)) G (by have _h := hp; omega) (by have _h := hp; omega)) ?_
   refine SR.y 23 G G (fun hb => have hp := bT bE hb; ev_ix G underlying22 ty47 (lkg G hb) (lkg G hb) (by have _h := hp; omega) (by have _h := hp; omega) (fun _ _ => Fr.adr (i := (i - 1)) (Fr.lent (S := S) hR_23 4 G lO) (by have _h := hp; omega) (by have _h := hp; omega))) ?_
   refine SR.y 24 G G (fun hb => ev_fa G fo47_1 (lkg G hb) (r := ao A9 + ((i - 1)).toNat * 4 + 1) G) ?_
   refine SR.y 25 G G (fun hb => have hp := bT bE hb; ev_ld1 G ty3 (lkg G hb) (At.elem1 (At.d (Fr.el (i := (i - 1)) (Fr.lent (S := S) hR_23 4 G lO) (by have _h := hp; omega) (by have _h := hp; omega))) 1 G)) ?_
   refine SR.y 26 G G (fun _ => ev_fa G fo47_1 G (r := 1) G) ?_
   refine SR.y 27 G G (fun hb => ev_ld1 G ty3 (lkg G hb) (At.d (At.lent hR_23 0 G G))) ?_
   refine SR.y 28 G G (fun hb => ev_cmp G (lkg G hb) (lkg G hb) G) ?_
   refine SR.y 29 G G (fun _ => ev_and G G G G) ?_
   refine SR.z 30 G G (ev_pickf G G G G) ?_
   refine SR.fin kR hl_23 hx_23 hR_23 .n ?_
   refine SQ.go idQ ?_
   refine .condI G (bA bE bE) (fun h24 => ?_) (fun h24 => ?_)
   ·
    refine .exit idQ ?_
    refine .region (.p ((i + 1)) oO oO G G G G G (.m G G G ?_))
    exact SP.nil (SQ.roundb (X := Int × (List EG) × Value × (List Int)) (x := (i, E, u_E, F)) ⟨(i + 1), E, u_E, F⟩ (by (try dsimp only); exact ⟨oO, oO, (by rw [kp_skip oO (.inr ⟨hc22, h24.1, h24.2⟩)]; exact q_2), (by rw [kp_skip oO (.inr ⟨hc22, h24.1, h24.2⟩)]; exact q_3)⟩) dO (Sub.get (.c4 G G G G (.c4 G G G G (.c G .n)))) (kp (.c (.t .h) (.c (.t .h) (.c (.t .h) (.c (.t .h) (.c (.t .h) (.c (.t .h) .n))))))))
   refine .skipgo idQ (.seq ?_)
   have hkl := kp_len (X := X) (i := i) oO
   have hel : E.length = (kpA X i).length := by rw [q_2, List.length_map]
   refine SC.draw mo [rw_ eEG 64 (u_E) E, cel b17 [.slice (some ⟨b16, 0, none⟩) (((n + 1)).toNat) (((n + 1)).toNat), u_E] 83] [(15, fun w => At w b17 0 [.slice (some ⟨b16, 0, none⟩) (((n + 1)).toNat) (((n + 1)).toNat), u_E])] (.c (.t .h) (.c (.t .h) .n)) (fun w_ _ hw_ => (sc1 (At.whole 1 G w_ hw_) sc0)) (fun wf_25 hl_25 hx_25 hR_25 => ?_)
   refine SR.m 0 G G G G ?_
   refine SR.m 1 G G G G ?_
   refine SR.z 2 G G (ev_nil G G) ?_
   refine SR.z 3 G G (ev_fa G fo83_1 G (r := 1) G) ?_
   refine SR.z 4 G G (ev_ld1 G ty61 G (At.elem1 (v := u_E) (At.ofcs 0 G kR) 1 G)) ?_
   refine SR.z 5 G G (ev_fa G fo47_1 G (r := 1) G) ?_
   refine SR.z 6 G G (ev_ld1 G ty3 G (At.d (At.lent hR_25 0 G G))) ?_
   refine SR.z 7 G G (ev_ld1 G ty49 G (At.d (At.lent hR_25 3 G G))) ?_
   refine SR.z 8 G G (ev_lda (cs := [.int .i64 ((gt X i).fr), .int .i64 ((gt X i).to), .int .i64 ((gt X i).tm), .int .i64 ((gt X i).ds)]) G G (At.d (At.lent hR_25 0 G G)) ty47) ?_
   refine SR.o 9 G (.viafun G G (st_callk G G G G (hbmet d) G .n (wgt_ (gt X i) d _ _) ⟨ttw 1 G, ?_⟩))
   refine SR.z 10 G G (ev_any (v := .agg #[.int .i64 ((gt X i).to), .int .i64 (wgt d (gt X i))]) G kR (fun _ => by kernel_rfl)) ?_
   refine SR.o 11 G (st_lit eEG (e := 64) (l := [(EG.mk ((gt X i).to) (wgt d (gt X i)))]) G G G G kR G G kW (fun b26 => ⟨ttw 2 G, ?_⟩))
   refine SR.o 12 G (st_app (E := eEG) (m := [(EG.mk ((gt X i).to) (wgt d (gt X i)))]) G G G G underlying61 ai64 G G G (.t .h) rO (row_src 0 G) lO G (fun v27 => ⟨ttw 2 G, ?_⟩))
   refine SR.z 13 G G (ev_nil G G) ?_
   refine SR.z 14 G G (ev_fa G fo83_1 G (r := 1) G) ?_
   refine .know (row_len 0 G) (fun hv30 => ?_)
   obtain ⟨A28, c29, rfl, hv30_1, hv30_2⟩ := hv30
   unfold maxLen at hv30_2
   refine SR.o 15 G (st_store1 G G G ty61 G G G (.t2 .h) (.t .h) ⟨ttc (fun w_ hw_ => (tc2 kR tc0)), ?_⟩)
   refine SR.fin kR hl_25 hx_25 hR_25 (.c (.c (.c .n))) ?_
   refine SQ.go idQ ?_
   have hcf := q_3.c (gt X i).fr oO oO
   have hce := cEq_le (kpA X i) (gt X i).fr
   have hkl := kp_len (X := X) (i := i) oO
   have hfl := q_3.len
   refine SC.draw mo [rw_ eZ 3 (.slice (some ⟨b16, 0, none⟩) (((n + 1)).toNat) (((n + 1)).toNat)) F] [(11, fun w => At w (ab (some ⟨b16, 0, none⟩)) (ao (some ⟨b16, 0, none⟩) + ((((gt X i).fr) + 1)).toNat * eZ.sz) (eZ.enc (gt F (((gt X i).fr) + 1))))] (.c (.t4 .h) .n) (fun w_ _ hw_ => (sc1 (row_el (E := eZ) (l := F) (i := (((gt X i).fr) + 1)) 0 G oO lO w_ hw_) sc0)) (fun wf_31 hl_31 hx_31 hR_31 => ?_)
   refine SR.m 0 G G G G ?_
   refine SR.z 1 G G (ev_nil G G) ?_
   refine SR.z 2 G G (ev_fa G fo83_0 G (r := 0) G) ?_
   refine SR.z 3 G G (ev_ld1 G ty27 G (At.d (At.lent hR_31 0 G G))) ?_
   refine SR.z 4 G G (ev_fa G fo47_0 G (r := 0) G) ?_
   refine SR.z 5 G G (ev_ld1 G ty3 G (At.d (At.lent hR_31 3 G G))) ?_
   refine SR.z 6 G G (ev_add G G G (r := (((gt X i).fr) + 1)) G oO oO) ?_
   refine SR.z 7 G G (ev_ix G underlying27 ty3 G G oO oO (fun _ _ => G)) ?_
   refine SR.z 8 G G (ev_ld1 G ty3 G (At.elem1 (At.ofcs 0 G kR) 0 G)) ?_
   refine SR.z 9 G G (ev_add G G G (r := ((gt F (((gt X i).fr) + 1)) + 1)) G oO oO) ?_
   refine SR.z 10 G G (ev_ix G underlying27 ty3 G G oO oO (fun _ _ => G)) ?_
   refine SR.o 11 G (st_setel (E := eZ) (i := (((gt X i).fr) + 1)) (cs := [.int .i64 ((gt F (((gt X i).fr) + 1)) + 1)]) (off := 0) ((gt F (((gt X i).fr) + 1)) + 1) G G G ty3 G G G G G .h lO lO (Nat.le_of_ble_eq_true G) G ⟨ttc (fun w_ hw_ => (tc2 kR tc0)), ?_⟩)
   refine SR.fin kR hl_31 hx_31 hR_31 (.c .n) ?_
   refine SQ.go idQ ?_
   refine .region (.p ((i + 1)) oO oO G G G G G (.m G G G ?_))
   exact SP.nil (SQ.roundb (X := Int × (List EG) × Value × (List Int)) (x := (i, E, u_E, F)) ⟨(i + 1), (E ++ [(EG.mk ((gt X i).to) (wgt d (gt X i)))]), .slice A28 ((E ++ [(EG.mk ((gt X i).to) (wgt d (gt X i)))]).length) c29, (F.set ((((gt X i).fr) + 1)).toNat ((gt F (((gt X i).fr) + 1)) + 1))⟩ (by (try dsimp only); exact ⟨oO, oO, (by rw [kp_keep oO (fun h_ => h_.elim hc20 (fun q_ => h24 ⟨q_.2.1, q_.2.2⟩)), List.map_append, q_2]; rfl), (by rw [kp_keep oO (fun h_ => h_.elim hc20 (fun q_ => h24 ⟨q_.2.1, q_.2.2⟩))]; exact cnt_next q_3 oO)⟩) dO (Sub.get (.c4 G G G G (.c4 G G G G (.c G .n)))) (kp (.c (.t2 .h) (.c (.t .h) (.c .h (.c (.t2 .h) (.c (.t2 .h) (.c (.t2 .h) .n))))))))
  refine SC.draw mo [] [] .n (fun _ _ _ => sc0) (fun wf_32 hl_32 hx_32 hR_32 => ?_)
  refine SR.z 0 G G (ev_fa G fo47_0 G (r := 0) G) ?_
  refine SR.z 1 G G (ev_ld1 G ty3 G (At.d (At.lent hR_32 0 G G))) ?_
  refine SR.z 2 G G (ev_fa G fo47_1 G (r := 1) G) ?_
  refine SR.z 3 G G (ev_ld1 G ty3 G (At.d (At.lent hR_32 0 G G))) ?_
  refine SR.z 4 G G (ev_cmp (r := false) G G G (kbEF hc20)) ?_
  refine SR.m 5 G G G G ?_
  refine SR.y 6 G G (fun _ => ev_mv G G) ?_
  refine SR.y 7 G G (fun _ => ev_cmp (r := false) G G G (kbDF hc22)) ?_
  refine SR.y 8 G G (fun _ => ev_mv G G) ?_
  refine SR.gtake (v := undef) 9 G kR kR kR G (fun _ _ _ _ h => h) G G G G G (fun hb => by cases hb) ?_
  refine SR.gtake (v := undef) 10 G kR kR kR G (fun _ _ _ _ h => h) G G G G G (fun hb => by cases hb) ?_
  refine SR.gtake (v := undef) 11 G kR kR kR G (fun _ _ _ _ h => h) G G G G G (fun hb => by cases hb) ?_
  refine SR.gtake (v := undef) 12 G kR kR kR G (fun _ _ _ _ h => h) G G G G G (fun hb => by cases hb) ?_
  refine SR.gtake (v := undef) 13 G kR kR kR G (fun _ _ _ _ h => h) G G G G G (fun hb => by cases hb) ?_
  refine SR.gtake (v := undef) 14 G kR kR kR G (fun _ _ _ _ h => h) G G G G G (fun hb => by cases hb) ?_
  refine SR.gtake (v := undef) 15 G kR kR kR G (fun _ _ _ _ h => h) G G G G G (fun hb => by cases hb) ?_
  refine SR.gtake (v := undef) 16 G kR kR kR G (fun _ _ _ _ h => h) G G G G G (fun hb => by cases hb) ?_
  refine SR.gtake (v := undef) 17 G kR kR kR G (fun _ _ _ _ h => h) G G G G G (fun hb => by cases hb) ?_
  refine SR.y 18 G G (fun _ => ev_pickf G G G G) ?_
  refine SR.y 19 G G (fun _ => ev_mv G G) ?_
  refine SR.gtake (v := undef) 20 G kR kR kR G (fun _ _ _ _ h => h) G G G G G (fun hb => by cases hb) ?_
  refine SR.gtake (v := undef) 21 G kR kR kR G (fun _ _ _ _ h => h) G G G G G (fun hb => by cases hb) ?_
  refine SR.gtake (v := undef) 22 G kR kR kR G (fun _ _ _ _ h => h) G G G G G (fun hb => by cases hb) ?_
  refine SR.gtake (v := undef) 23 G kR kR kR G (fun _ _ _ _ h => h) G G G G G (fun hb => by cases hb) ?_
  refine SR.gtake (v := undef) 24 G kR kR kR G (fun _ _ _ _ h => h) G G G G G (fun hb => by cases hb) ?_
  refine SR.gtake (v := undef) 25 G kR kR kR G (fun _ _ _ _ h => h) G G G G G (fun hb => by cases hb) ?_
  refine SR.gtake (v := undef) 26 G kR kR kR G (fun _ _ _ _ h => h) G G G G G (fun hb => by cases hb) ?_
  refine SR.gtake (v := undef) 27 G kR kR kR G (fun _ _ _ _ h => h) G G G G G (fun hb => by cases hb) ?_
  refine SR.gtake (v := undef) 28 G kR kR kR G (fun _ _ _ _ h => h) G G G G G (fun hb => by cases hb) ?_
  refine SR.y 29 G G (fun _ => ev_pickf G G G G) ?_
  refine SR.z 30 G G (ev_pickf G G G G) ?_
  refine SR.fin kR hl_32 hx_32 hR_32 .n ?_
  refine SQ.go idQ ?_
  refine .cond_f G ?_
  refine .skipgo idQ (.seq ?_)
  have hkl := kp_len (X := X) (i := i) oO
  have hel : E.length = (kpA X i).length := by rw [q_2, List.length_map]
  refine SC.draw mo [rw_ eEG 64 (u_E) E, cel b17 [.slice (some ⟨b16, 0, none⟩) (((n + 1)).toNat) (((n + 1)).toNat), u_E] 83] [(15, fun w => At w b17 0 [.slice (some ⟨b16, 0, none⟩) (((n + 1)).toNat) (((n + 1)).toNat), u_E])] (.c (.t .h) (.c (.t .h) .n)) (fun w_ _ hw_ => (sc1 (At.whole 1 G w_ hw_) sc0)) (fun wf_33 hl_33 hx_33 hR_33 => ?_)
  refine SR.m 0 G G G G ?_
  refine SR.m 1 G G G G ?_
  refine SR.z 2 G G (ev_nil G G) ?_
  refine SR.z 3 G G (ev_fa G fo83_1 G (r := 1) G) ?_
  refine SR.z 4 G G (ev_ld1 G ty61 G (At.elem1 (v := u_E) (At.ofcs 0 G kR) 1 G)) ?_
  refine SR.z 5 G G (ev_fa G fo47_1 G (r := 1) G) ?_
  refine SR.z 6 G G (ev_ld1 G ty3 G (At.d (At.lent hR_33 0 G G))) ?_
  refine SR.z 7 G G (ev_ld1 G ty49 G (At.d (At.lent hR_33 3 G G))) ?_
  refine SR.z 8 G G (ev_lda (cs := [.int .i64 ((gt X i).fr), .int .i64 ((gt X i).to), .int .i64 ((gt X i).tm), .int .i64 ((gt X i).ds)]) G G (At.d (At.lent hR_33 0 G G)) ty47) ?_
  refine SR.o 9 G (.viafun G G (st_callk G G G G (hbmet d) G .n (wgt_ (gt X i) d _ _) ⟨ttw 1 G, ?_⟩))
  refine SR.z 10 G G (ev_any (v := .agg #[.int .i64 ((gt X i).to), .int .i64 (wgt d (gt X i))]) G kR (fun _ => by kernel_rfl)) ?_
  refine SR.o 11 G (st_lit eEG (e := 64) (l := [(EG.mk ((gt X i).to) (wgt d (gt X i)))]) G G G G kR G G kW (fun b34 => ⟨ttw 2 G, ?_⟩))
  refine SR.o 12 G (st_app (E := eEG) (m := [(EG.mk ((gt X i).to) (wgt d (gt X i)))]) G G G G underlying61 ai64 G G G (.t .h) rO (row_src 0 G) lO G (fun v35 => ⟨ttw 2 G, ?_⟩))
  refine SR.z 13 G G (ev_nil G G) ?_
  refine SR.z 14 G G (ev_fa G fo83_1 G (r := 1) G) ?_
  refine .know (row_len 0 G) (fun hv38 => ?_)
  obtain ⟨A36, c37, rfl, hv38_1, hv38_2⟩ := hv38
  unfold maxLen at hv38_2
  refine SR.o 15 G (st_store1 G G G ty61 G G G (.t2 .h) (.t .h) ⟨ttc (fun w_ hw_ => (tc2 kR tc0)), ?_⟩)
  refine SR.fin kR hl_33 hx_33 hR_33 (.c (.c (.c .n))) ?_
  refine SQ.go idQ ?_
  have hcf := q_3.c (gt X i).fr oO oO
  have hce := cEq_le (kpA X i) (gt X i).fr
  have hkl := kp_len (X := X) (i := i) oO
  have hfl := q_3.len
  refine SC.draw mo [rw_ eZ 3 (.slice (some ⟨b16, 0, none⟩) (((n + 1)).toNat) (((n + 1)).toNat)) F] [(11, fun w => At w (ab (some ⟨b16, 0, none⟩)) (ao (some ⟨b16, 0, none⟩) + ((((gt X i).fr) + 1)).toNat * eZ.sz) (eZ.enc (gt F (((gt X i).fr) + 1))))] (.c (.t4 .h) .n) (fun w_ _ hw_ => (sc1 (row_el (E := eZ) (l := F) (i := (((gt X i).fr) + 1)) 0 G oO lO w_ hw_) sc0)) (fun wf_39 hl_39 hx_39 hR_39 => ?_)
  refine SR.m 0 G G G G ?_
  refine SR.z 1 G G (ev_nil G G) ?_
  refine SR.z 2 G G (ev_fa G fo83_0 G (r := 0) G) ?_
  refine SR.z 3 G G (ev_ld1 G ty27 G (At.d (At.lent hR_39 0 G G))) ?_
  refine SR.z 4 G G (ev_fa G fo47_0 G (r := 0) G) ?_
  refine SR.z 5 G G (ev_ld1 G ty3 G (At.d (At.lent hR_39 3 G G))) ?_
  refine SR.z 6 G G (ev_add G G G (r := (((gt X i).fr) + 1)) G oO oO) ?_
  refine SR.z 7 G G (ev_ix G underlying27 ty3 G G oO oO (fun _ _ => G)) ?_
  refine SR.z 8 G G (ev_ld1 G ty3 G (At.elem1 (At.ofcs 0 G kR) 0 G)) ?_
  refine SR.z 9 G G (ev_add G G G (r := ((gt F (((gt X i).fr) + 1)) + 1)) G oO oO) ?_
  refine SR.z 10 G G (ev_ix G underlying27 ty3 G G oO oO (fun _ _ => G)) ?_
  refine SR.o 11 G (st_setel (E := eZ) (i := (((gt X i).fr) + 1)) (cs := [.int .i64 ((gt F (((gt X i).fr) + 1)) + 1)]) (off := 0) ((gt F (((gt X i).fr) + 1)) + 1) G G G ty3 G G G G G .h lO lO (Nat.le_of_ble_eq_true G) G ⟨ttc (fun w_ hw_ => (tc2 kR tc0)), ?_⟩)
  refine SR.fin kR hl_39 hx_39 hR_39 (.c .n) ?_
  refine SQ.go idQ ?_
  refine .region (.p ((i + 1)) oO oO G G G G G (.m G G G ?_))
  exact SP.nil (SQ.roundb (X := Int × (List EG) × Value × (List Int)) (x := (i, E, u_E, F)) ⟨(i + 1), (E ++ [(EG.mk ((gt X i).to) (wgt d (gt X i)))]), .slice A36 ((E ++ [(EG.mk ((gt X i).to) (wgt d (gt X i)))]).length) c37, (F.set ((((gt X i).fr) + 1)).toNat ((gt F (((gt X i).fr) + 1)) + 1))⟩ (by (try dsimp only); exact ⟨oO, oO, (by rw [kp_keep oO (fun h_ => h_.elim hc20 (fun q_ => hc22 q_.1)), List.map_append, q_2]; rfl), (by rw [kp_keep oO (fun h_ => h_.elim hc20 (fun q_ => hc22 q_.1))]; exact cnt_next q_3 oO)⟩) dO (Sub.get (.c4 G G G G (.c4 G G G G (.c G .n)))) (kp (.c (.t2 .h) (.c (.t .h) (.c .h (.c (.t2 .h) (.c (.t2 .h) (.c (.t2 .h) .n))))))))
 refine .exit idQ ?_
 refine .seq (.seq (.region (.f fo24_0 0 G G G G (.l ty3 5 G G G G G (.m G G G ?_)))))
 refine .go idQ (.block (.loop (X := Int × (List Int)) (fun ⟨j, Gf⟩ => 0 ≤ j ∧ j ≤ n ∧ PreI n Gf (kpA X l.length) j) (fun ⟨j, Gf⟩ => [(2, .pointer (some ⟨b1, 0, none⟩)), (3, .pointer (some ⟨b2, 0, none⟩)), (4, .pointer none), (5, .int .i64 0), (8, .slice A9 l.length c10), (9, .pointer (some ⟨b17, 0, none⟩)), (33, .slice A9 l.length c10), (34, .int .i64 (l.length : Int)), (35, .int .i64 i), (99, .int .i64 n), (100, .int .i64 j)]) (fun ⟨j, Gf⟩ => [rw_ eEG 64 (u_E) E, cel b17 [.slice (some ⟨b16, 0, none⟩) (((n + 1)).toNat) (((n + 1)).toNat), u_E] 83, rw_ eZ 3 (.slice (some ⟨b16, 0, none⟩) (((n + 1)).toNat) (((n + 1)).toNat)) Gf, rw_ eAR 47 (.slice A9 l.length c10) X, cel b2 [.func (.func (metF d)) #[] #[]] 49, cel b1 [.int .i64 n, .slice A l.length c] 24]) (fun _ => S) (fun _ => wf) (fun ⟨j, Gf⟩ => (n - j).toNat) (fun a_ w_ hs_ hw_ => ⟨⟨0, F⟩, (by (try dsimp only); exact ⟨oO, oO, (by have h_ := q_3; rw [show i = (l.length : Int) from by omega] at h_; exact pre_0 h_ (kp_fr hXo oO))⟩), hs_.mono (Sub.get (.c4 G G G G (.c4 G G G G (.c G (.c G (.c G .n)))))), hw_.keep (.d (.d (.d .n)))⟩) (fun ⟨j, Gf⟩ ⟨r_0, r_1, r_2⟩ => ?_)))
 try dsimp only
 refine .seq (.region (.e G G G G G (.go idQ (.seq (.condI G bD (fun h40 => ?_) (fun h40 => ?_))))))
 ·
  refine .skipgo idQ (.seq (.block (.seq (.region (.m G G G (.a G G G (.go idQ ?_)))))))
  have hgl := r_2.len
  have hg1 := r_2.hi (j + 1) oO oO
  have hg0 := r_2.lo j oO oO
  have hge := cEq_le (kpA X l.length) (j + 1 - 1)
  have hgt := cLt_le (kpA X l.length) j
  have hkl := kp_len (X := X) (i := l.length) oO
  refine SC.draw mo [rw_ eZ 3 (.slice (some ⟨b16, 0, none⟩) (((n + 1)).toNat) (((n + 1)).toNat)) Gf] [(17, fun w => At w (ab (some ⟨b16, 0, none⟩)) (ao (some ⟨b16, 0, none⟩) + ((j + 1)).toNat * eZ.sz) (eZ.enc (gt Gf (j + 1)))), (17, fun w => At w (ab (some ⟨b16, 0, none⟩)) (ao (some ⟨b16, 0, none⟩) + (j).toNat * eZ.sz) (eZ.enc (gt Gf j)))] (.c (.t2 .h) .n) (fun w_ _ hw_ => (sc1 (row_el (E := eZ) (l := Gf) (i := (j + 1)) 0 G oO lO w_ hw_) (sc1 (row_el (E := eZ) (l := Gf) (i := j) 0 G oO lO w_ hw_) sc0))) (fun wf_41 hl_41 hx_41 hR_41 => ?_)
  refine SR.m 0 G G G G ?_
  refine SR.z 1 G G (ev_nil G G) ?_
  refine SR.z 2 G G (ev_fa G fo83_0 G (r := 0) G) ?_
  refine SR.z 3 G G (ev_ld1 G ty27 G (At.d (At.lent hR_41 1 G G))) ?_
  refine SR.m 4 G G G G ?_
  refine SR.z 5 G G (ev_add G G G (r := (j + 1)) G oO oO) ?_
  refine SR.z 6 G G (ev_ix G underlying27 ty3 G G oO oO (fun _ _ => G)) ?_
  refine SR.z 7 G G (ev_ld1 G ty3 G (At.elem1 (At.ofcs 0 G kR) 0 G)) ?_
  refine SR.m 8 G G G G ?_
  refine SR.z 9 G G (ev_nil G G) ?_
  refine SR.z 10 G G (ev_fa G fo83_0 G (r := 0) G) ?_
  refine SR.z 11 G G (ev_ld1 G ty27 G (At.d (At.lent hR_41 1 G G))) ?_
  refine SR.m 12 G G G G ?_
  refine SR.z 13 G G (ev_ix G underlying27 ty3 G G oO oO (fun _ _ => G)) ?_
  refine SR.z 14 G G (ev_ld1 G ty3 G (At.elem1 (At.ofcs 1 G kR) 0 G)) ?_
  refine SR.z 15 G G (ev_add G G G (r := ((gt Gf (j + 1)) + (gt Gf j))) G oO oO) ?_
  refine SR.z 16 G G (ev_ix G underlying27 ty3 G G oO oO (fun _ _ => G)) ?_
  refine SR.o 17 G (st_setel (E := eZ) (i := (j + 1)) (cs := [.int .i64 ((gt Gf (j + 1)) + (gt Gf j))]) (off := 0) ((gt Gf (j + 1)) + (gt Gf j)) G G G ty3 G G G G G .h lO lO (Nat.le_of_ble_eq_true G) G ⟨ttc (fun w_ hw_ => (tc2 kR (tc2 kR tc0))), ?_⟩)
  refine SR.fin kR hl_41 hx_41 hR_41 (.c .n) ?_
  refine SQ.go idQ ?_
  refine .region (.p ((j + 1)) oO oO G G G G G (.m G G G ?_))
  exact SP.nil (SQ.roundb (X := Int × (List Int)) (x := (j, Gf)) ⟨(j + 1), (Gf.set ((j + 1)).toNat ((gt Gf (j + 1)) + (gt Gf j)))⟩ (by (try dsimp only); exact ⟨oO, oO, (pre_next r_2 oO oO)⟩) dO (Sub.get (.c4 G G G G (.c4 G G G G (.c G (.c G (.c G .n)))))) (kp (.c (.t .h) (.c (.t .h) (.d (.d .n))))))
 refine .exit idQ ?_
 refine .seq (.region (.m G G G (.a G G G (.a G G G ?_))))
 refine .go idQ (.ret idQ (ret2 results20 G G (.c (.t .h) (.c (.t .h) (.c .h .n))) ⟨b17, .slice (some ⟨b16, 0, none⟩) (((n + 1)).toNat) (((n + 1)).toNat), u_E, Gf, E, (graph_mk hR p14 p15 (by have h_ := r_2; rw [show j = n from by omega] at h_; exact h_) (by have h_ := q_2; rw [show i = (l.length : Int) from by omega] at h_; exact h_)), ⟨X, p14, p15, by have h_ := q_2; rw [show i = (l.length : Int) from by omega] at h_; exact h_⟩, G, G⟩))
theorem newbad_ (n : Int) (A : Option Addr) (c : Nat) (l : List AR) (d : Bool) (S : Nat → Prop) (wf : World) (hA : Fr eAR S wf A l) (hR : ¬ RoadOk n l) :
  TR0 prog 20 [.agg #[.int .i64 n, .slice A l.length c], .func (.func (metF d)) #[] #[]] [] S wf (fun v_ C_ => ∃ (e : Int), (e ≠ 0) ∧ v_ = .tuple #[.pointer none, .int .i64 e] ∧ C_ = []) := by
 have hla := hA.len
 refine TR.mk func20 G ntmps20 G G (fun w_ => ?_)
 refine .seq (.region (.cons (st_boxa G G G G G (fun b1 => (.cons (st_box1 G G G G G G (fun b2 => (.a G G G ?_))))))))
 refine .a rfl rfl rfl (.go idQ (.seq (.seq (.region (.v (ev_lda rfl rfl (At.whole 1 rfl) ty24) rfl (.cons (st_call00 rfl rfl rfl rfl hbd35 rfl .n (rdchk_ n A c l _ _ hA) (by intro v C h; obtain ⟨_, _, _, rfl, rfl⟩ := h; rfl) (fun v_q5 q5 => ?_))))))))
 obtain ⟨x3, e4, p6, rfl, -⟩ := q5
 have hbad : e4 ≠ 0 := p6.elim (fun h_ => absurd h_.2 hR) (fun h_ => h_.1)
 refine .m G G G (.x G G G G (.x G G G G (.a G G G ?_)))
 refine .a G G G (.go idQ (.seq (.region (.m G G G (.e G G G G G ?_)))))
 refine .go idQ (.condI G bNE (fun h7 => ?_) (fun h7 => ?_))
 ·
  refine .seq (.region (.m G G G (.a G G G (.a G G G ?_))))
  refine .go idQ (.ret idQ (ret2 results20 G G .n ⟨e4, hbad, G, G⟩))
 exfalso; omega
end Go.Proofs.Ytlefdinbbjiabaa.Sx
set_option maxRecDepth 20000
set_option maxHeartbeats 1000000
namespace Go.Proofs.Ytlefdinbbjiabaa.Sx.FL
open Go Go.SX Go.Proofs Go.Proofs.Try FA FB FC FD FE FF FG FH FI FJ FK
theorem hbd58 : hasBody prog 58 = true := by kernel_rfl
end Go.Proofs.Ytlefdinbbjiabaa.Sx.FL
namespace Go.Proofs.Ytlefdinbbjiabaa.Sx
open Go Go.SX Go.Proofs Go.Proofs.Try FA FB FC FD FE FF FG FH FI FJ FK FL
theorem sorted_ (b : Nat) (m : List (Int × Int)) (S : Nat → Prop) (wf : World) (hm : FzM S wf b m) (hn : (m.map Prod.fst).Nodup) (hl : (m.length : Int) ≤ 1000) :
  TR0 prog 53 [.map (some b)] [] S wf (fun v_ C_ => ∃ (u : Value), v_ = u ∧ C_ = [rw_ eZ 3 (u) (srtK m)]) := by
 refine TR.mk func53 G ntmps53 G G (fun w_ => ?_)
 refine .seq (.region (.a G G G (.go idQ (.seq (.region (.a G G G ?_))))))
 refine .go idQ (.seq (.seq (.region (.m G G G (.cons (st_rangeF hm G G G G underlying60 G (fun r1 => (.go idQ (.block ?_)))))))))
 refine SC.nilrow eZ 3 ?_
 refine .loop (X := (List (Int × Int)) × (Option (Int × Int)) × (List Int) × Value) (fun ⟨Lf, cu_Lf, X, u_X⟩ => (X ++ Lf.map Prod.fst).Perm (m.map Prod.fst) ∧ (Lf.map Prod.fst).Nodup) (fun ⟨Lf, cu_Lf, X, u_X⟩ => [(2, .slice none 0 0), (6, .pointer (some ⟨r1, 0, none⟩)), (3, u_X)]) (fun ⟨Lf, cu_Lf, X, u_X⟩ => [rw_ eZ 3 (u_X) X, itM r1 b wf m Lf cu_Lf]) (fun _ => S) (fun _ => wf) (fun ⟨Lf, cu_Lf, X, u_X⟩ => Lf.length) (fun a_ w_ hs_ hw_ => ⟨⟨m, none, ([] : List Int), .slice none 0 0⟩, (by (try dsimp only); exact ⟨(.refl _), hn⟩), hs_.mono (Sub.get (.c G (.c G (.c G .n)))), hw_.keep (.d .n)⟩) (fun ⟨Lf, cu_Lf, X, u_X⟩ ⟨q_0, q_1⟩ => ?_)
 try dsimp only
 have hxl := q_0.length_eq
 simp only [List.length_append, List.length_map] at hxl
 refine .seq (.region (.cons (st_nextF hm G G G G G (.t .h) (fun hz2 => ?_) (fun x3 v4 hl5 hm6 => ?_))))
 ·
  refine .x G G G G (.go idQ (.seq (.cond_f G (.exit idQ ?_))))
  refine .seq (.region (.m G G G (.know (row_len 1 G) (fun hv9 => ?_))))
  obtain ⟨A7, c8, rfl, hv9_1, hv9_2⟩ := hv9
  unfold maxLen at hv9_2
  refine .cons (st_call0 G G G G hbd58 G (.c (.t .h) .n) (sortZ_ A7 X.length c8 X _ _ lO lO) (fun v_q10 C_q10 q10 => ?_))
  obtain ⟨rfl, rfl⟩ := q10
  show SP _ _ _ _ _ _ ⟨_, _ :: _, _, _⟩
  refine .go idQ (.seq (.region (.m G G G (.a G G G (.go idQ ?_)))))
  exact .ret idQ (ret1 results53 G (.c .h .n) ⟨.slice A7 X.length c8, G, (by have h_ := q_0; rw [hz2, List.map_nil, List.append_nil] at h_; rw [srtL_of h_]; rfl)⟩)
 refine .x G G G G (.go idQ (.seq (.cond_t G (.skipgo idQ (.block (.seq (.region ?_)))))))
 refine .v (ev_entryF (x := x3) (v := v4) hm G G 0 G) G (.x G G G G (.a G G G (.go idQ (.region ?_))))
 refine .m G G G (.m G G G (.cons (st_lit eZ (e := 3) (l := [x3]) G G G G kR G G kW (fun b11 => (.cons (st_app (E := eZ) (m := [x3]) G G G G underlying27 ai3 G G G (.t2 .h) rO (row_src 0 G) lO G (fun v12 => ?_)))))))
 refine .a G G G ?_
 exact SP.nil (SQ.roundb (X := (List (Int × Int)) × (Option (Int × Int)) × (List Int) × Value) (x := (Lf, cu_Lf, X, u_X)) ⟨(Lf.filter (fun p => decide (p.1 ≠ x3))), (some (x3, v4)), (X ++ [x3]), v12⟩ (by (try dsimp only); exact ⟨(keys_step q_0 q_1 hl5), (rng_nd q_1)⟩) (mfilter_lt hl5) (Sub.get (.c G (.c G (.c G .n)))) (kp (.c .h (.c (.t .h) .n))))
end Go.Proofs.Ytlefdinbbjiabaa.Sx
set_option maxRecDepth 20000
set_option maxHeartbeats 1000000
namespace Go.Proofs.Ytlefdinbbjiabaa.Sx.FM
open Go Go.SX Go.Proofs Go.Proofs.Try FA FB FC FD FE FF FG FH FI FJ FK FL
theorem hbd27 : hasBody prog 27 = true := by kernel_rfl
theorem hbd28 : hasBody prog 28 = true := by kernel_rfl
theorem hbd46 : hasBody prog 46 = true := by kernel_rfl
theorem fo59_0 : fo prog 59 0 = some 0 := by kernel_rfl
theorem ty57 : ty prog 57 = some (false, 1) := by kernel_rfl
theorem fo59_3 : fo prog 59 3 = some 3 := by kernel_rfl
theorem ty43 : ty prog 43 = some (false, 1) := by kernel_rfl
theorem ty4 : ty prog 4 = some (false, 1) := by kernel_rfl
theorem fo59_2 : fo prog 59 2 = some 2 := by kernel_rfl
theorem ty34 : ty prog 34 = some (false, 1) := by kernel_rfl
theorem ty37 : ty prog 37 = some (true, 4) := by kernel_rfl
theorem fo37_2 : fo prog 37 2 = some 2 := by kernel_rfl
end Go.Proofs.Ytlefdinbbjiabaa.Sx.FM
namespace Go.Proofs.Ytlefdinbbjiabaa.Sx
open Go Go.SX Go.Proofs Go.Proofs.Try FA FB FC FD FE FF FG FH FI FJ FK FL FM
theorem arnd_ (n : Int) (wb : Nat) (oA : Option Addr) (on : Nat) (oc : Nat) (MO : List MB) (iA : Option Addr) (ik : Nat) (ic : Nat) (MI : List MB) (kA : Option Addr) (kn : Nat) (kc : Nat) (K : List LK) (gA : Option Addr) (gn : Nat) (gc : Nat) (g : List Bool) (fr : Int) (but : Int) (S : Nat → Prop) (wf : World) (hO : Fr eMB S wf oA MO) (hI : Fr eMB S wf iA MI) (hK : Fr eLK S wf kA K) (hg : Fr eB S wf gA g) (hMO : MPF S wf MO) (hMI : MPF S wf MI) (hG : GOK n (GS.mk (mmL MO) (mmL MI) K g)) (hls : MO.length = on ∧ MI.length = ik ∧ K.length = kn ∧ g.length = gn) (hfr : 0 ≤ fr ∧ fr < n) :
  TR0 prog 54 [.pointer (some ⟨wb, 0, none⟩), .int .i64 fr, .int .i64 but] [cel wb [.slice oA on oc, .slice iA ik ic, .slice kA kn kc, .slice gA gn gc] 59] S wf (fun v_ C_ => ∃ (b : Nat) (M : List (Int × Int)), (mo M = arR (GS.mk (mmL MO) (mmL MI) K g) fr but) ∧ v_ = .map (some b) ∧ C_ = [cel wb [.slice oA on oc, .slice iA ik ic, .slice kA kn kc, .slice gA gn gc] 59, mp keZ.f (.int .i64) b M]) := by
 have hGn := hG.n1
 have hGo : (MO.length : Int) = n := by rw [← mmL_len (l := MO)]; exact hG.lo
 have hGi : (MI.length : Int) = n := by rw [← mmL_len (l := MI)]; exact hG.li
 have hGg : (g.length : Int) = n := hG.lg
 have hKl := hK.len
 refine TR.mk func54 G ntmps54 G G (fun w_ => ?_)
 refine .seq (.region (.a G G G (.go idQ (.seq (.region (.cons (st_mkmap (α := Int) (β := Int) keZ.f (.int .i64) G G G G (fun b1 => ?_))))))))
 refine .a G G G (.go idQ (.seq (.region (.cons (st_call0 G G G G hbd27 G .n (qnew_ _ _) (fun v_q4 C_q4 q4 => ?_))))))
 obtain ⟨b2, pb3, rfl, rfl⟩ := q4
 show SP _ _ _ _ _ _ ⟨_, _ :: _ :: _, _, _⟩
 refine .a G G G (.go idQ (.seq ?_))
 refine SC.nilrow eEN 92 ?_
 refine .region (.m G G G (.m G G G (.cons (st_call0 G G G G hbd28 G (.c (.t .h) (.d .n)) (qput_ b2 none 0 0 ([] : List EN) pb3 [] fr 0 _ _ G oO QQ.nil) (fun v_q9 C_q9 q9 => ?_)))))
 obtain ⟨u5, r6, l27, m28, p10, p11, p12, rfl, rfl⟩ := q9
 show SP _ _ _ _ _ _ ⟨_, _ :: _ :: _ :: _, _, _⟩
 refine .go idQ (.seq (.block (.loop (X := (List EN) × Value × (List (Int × Int)) × (List (Int × Int))) (fun ⟨X, u_X, qm, M⟩ => ArI n (GS.mk (mmL MO) (mmL MI) K g) fr but X qm M ∧ True) (fun ⟨X, u_X, qm, M⟩ => [(0, .pointer (some ⟨wb, 0, none⟩)), (2, .int .i64 but), (6, .map none), (7, .map (some b1)), (8, .pointer (some ⟨b2, 0, none⟩))]) (fun ⟨X, u_X, qm, M⟩ => [cel b2 [u_X, .map (some pb3)] 90, rw_ eEN 92 (u_X) X, mp keZ.f (.int .i64) pb3 qm, mp keZ.f (.int .i64) b1 M, cel wb [.slice oA on oc, .slice iA ik ic, .slice kA kn kc, .slice gA gn gc] 59]) (fun _ => S) (fun _ => wf) (fun ⟨X, u_X, qm, M⟩ => (n - M.length).toNat) (fun a_ w_ hs_ hw_ => ⟨⟨l27, u5, m28, ([] : List (Int × Int))⟩, (by (try dsimp only); exact ⟨(ar_0 p10 p11 hfr), trivial⟩), hs_.mono (Sub.get (.c4 G G G G (.c G .n))), hw_.keep (.d (.d (.c .h .n)))⟩) (fun ⟨X, u_X, qm, M⟩ ⟨q_0, q_1⟩ => ?_))))
 try dsimp only
 have hal := q_0.len oO
 refine .seq (.seq (.region (.m G G G (.know (row_len 1 G) (fun hv15 => ?_)))))
 obtain ⟨A13, c14, rfl, hv15_1, hv15_2⟩ := hv15
 unfold maxLen at hv15_2
 refine .cons (st_callk G G G G hbd42 G (.d (.c .h .n)) (qlen_ b2 A13 X.length c14 X pb3 qm _ _ lO) ?_)
 refine .e G G G G G (.go idQ (.condI G bD (fun h16 => ?_) (fun h16 => ?_)))
 ·
  refine .skipgo idQ (.block (.seq (.region (.m G G G (.cons (st_call0 G G G G hbd46 G (.d (.c .h .n)) (qtake_ b2 A13 X.length c14 X pb3 qm _ _ lO lO lO q_0.qq) (fun v_q21 C_q21 q21 => ?_)))))))
  obtain ⟨x17, d18, l219, m220, p22, p23, p24, p25, rfl, rfl⟩ := q21
  show SP _ _ _ _ _ _ ⟨_, _ :: _ :: _ :: _, _, _⟩
  obtain ⟨hnp, hpr, hJ⟩ := arj_0 q_0 p22 p23 p24
  obtain ⟨p, hp_⟩ : ∃ p, p = x17 := ⟨_, rfl⟩
  subst hp_
  obtain ⟨d, hd_⟩ : ∃ d, d = d18 := ⟨_, rfl⟩
  subst hd_
  refine .m G G G (.x G G G G (.x G G G G (.x G G G G ?_)))
  refine .a G G G (.a G G G (.a G G G (.go idQ (.seq (.region ?_)))))
  refine .m G G G (.m G G G (.m G G G (.cons (st_mapSet keZ (u := undef) (x := p) (v := d) G G G underlying60 G G G (.t2 (.t .h)) ?_))))
  refine .go idQ (.seq (.region (.m G G G (.v (ev_nil G G) G (.f fo59_0 0 G G G G ?_)))))
  refine .l ty57 4 G G G G G (.m G G G (.v (ev_ix G underlying57 ty60 G G oO oO (fun _ _ => Fr.adr (i := p) hO oO oO)) G (.v (ev_ld1 G ty60 G (At.elem1 (At.w (Fr.el (i := p) hO oO oO)) 0 G)) G ?_)))
  refine .cons (st_rangeF (hMO p oO oO) G G G G underlying60 G (fun r26 => ?_))
  refine .go idQ (.block (.loop (X := (List (Int × Int)) × (Option (Int × Int)) × (List EN) × Value × (List (Int × Int))) (fun ⟨Lf, cu_Lf, Y, u_Y, ym⟩ => ArJ n (GS.mk (mmL MO) (mmL MI) K g) fr but p d (kq l219) Y ym (mset M p d) Lf ∧ True) (fun ⟨Lf, cu_Lf, Y, u_Y, ym⟩ => [(0, .pointer (some ⟨wb, 0, none⟩)), (2, .int .i64 but), (6, .map none), (7, .map (some b1)), (8, .pointer (some ⟨b2, 0, none⟩)), (10, .int .i64 d), (40, .pointer (some ⟨r26, 0, none⟩))]) (fun ⟨Lf, cu_Lf, Y, u_Y, ym⟩ => [itM r26 ((gt MO p).mb) wf ((gt MO p).mm) Lf cu_Lf, mp keZ.f (.int .i64) b1 (mset M p d), cel b2 [u_Y, .map (some pb3)] 90, rw_ eEN 92 (u_Y) Y, mp keZ.f (.int .i64) pb3 ym, cel wb [.slice oA on oc, .slice iA ik ic, .slice kA kn kc, .slice gA gn gc] 59]) (fun _ => S) (fun _ => wf) (fun ⟨Lf, cu_Lf, Y, u_Y, ym⟩ => Lf.length) (fun a_ w_ hs_ hw_ => ⟨⟨(gt MO p).mm, none, l219, .slice A13 (X.length - 1) c14, m220⟩, (by (try dsimp only); exact ⟨(by have h_ := hJ; simp only [gt_mmL] at h_; exact h_), trivial⟩), hs_.mono (Sub.get (.c4 G G G G (.c G (.c G (.c G .n))))), hw_.keep (.d (.d (.d .n)))⟩) (fun ⟨Lf, cu_Lf, Y, u_Y, ym⟩ ⟨r_0, r_1⟩ => ?_)))
  try dsimp only
  refine .seq (.region (.cons (st_nextF (hMO p oO oO) G G G G G .h (fun hz27 => ?_) (fun x28 v29 hl30 hm31 => ?_))))
  ·
   refine .x G G G G (.go idQ (.seq (.cond_f G (.exitq idQ (SQ.roundb (X := (List EN) × Value × (List (Int × Int)) × (List (Int × Int))) (x := (X, (.slice A13 X.length c14), qm, M)) ⟨Y, u_Y, ym, (mset M p d)⟩ (by (try dsimp only); exact ⟨(by have h_ := r_0; rw [hz27] at h_; exact arj_end h_ hG), trivial⟩) (by dsimp only; have h_ := mset_len (v := d) hnp; have h2_ := keys_le r_0.nd r_0.rg oO; omega) (Sub.get (.c4 G G G G (.c G .n))) (kp (.c (.t2 .h) (.c (.t2 .h) (.c (.t2 .h) (.c (.t .h) (.c (.t .h) .n)))))))))))
  refine .x G G G G (.go idQ (.seq (.cond_t G (.skipgo idQ (.block (.seq (.region ?_)))))))
  refine .v (ev_entryF (x := x28) (v := v29) (hMO p oO oO) G G 0 G) G (.x G G G G (.x G G G G (.a G G G ?_)))
  refine .a G G G (.go idQ (.seq ?_))
  have hxo := om_mb hG hm31
  have hlk := hG.lk v29 hxo.2.2.2.2.1 hxo.2.2.2.2.2
  have hlw : 0 ≤ (gt K v29).lw ∧ (gt K v29).lw ≤ 10000000000000000 := ⟨hlk.2.2.2.2.1, hlk.2.2.2.2.2⟩
  have hdd := r_0.dd
  have hml := r_0.ml
  have hmn := mset_len (v := d) hnp
  have hyb := arj_bd r_0 hG
  have hyl := kq_len r_0.qq.qi (fun x_ k_ hk_ => ⟨(hyb x_ k_ hk_).1, (hyb x_ k_ hk_).2.1⟩) oO
  refine .region (.m G G G (.m G G G (.v (ev_lkpok keZ (m := (mset M p d)) (x := x28) (z := 0) G underlying60 zv3 G G 1 G) G ?_)))
  refine .m G G G (.x G G G G (.x G G G G (.a G G G ?_)))
  refine .a G G G (.go idQ (.seq (.region (.m G G G (.v (ev_not G G) G ?_)))))
  refine .m G G G (.w (fun _ => ev_mv G G) G (.w (fun hb => ev_nil G (lkg G hb)) G (.w (fun hb => ev_fa G fo59_3 (lkg G hb) (r := 3) G) G ?_)))
  refine .w (fun hb => ev_ld1 G ty43 (lkg G hb) (At.own1 5 G G)) G (.w (fun _ => ev_mv G G) G (.w (fun hb => have hp := bT (bN bV) hb; ev_ix G underlying43 ty4 (lkg G hb) (lkg G hb) (by have _h := hp; omega) (by have _h := hp; omega) (fun _ _ => Fr.adr (i := x28) hg (by have _h := hp; omega) (by have _h := hp; omega))) G (.w (fun hb => have hp := bT (bN bV) hb; ev_ld1 G ty4 (lkg G hb) (At.elem1 (At.w (Fr.el (i := x28) hg (by have _h := hp; omega) (by have _h := hp; omega))) 0 G)) G ?_)))
  refine .w (fun hb => ev_not G (lkg G hb)) G (.v (ev_and G G G G) G (.m G G G (.w (fun _ => ev_mv G G) G ?_)))
  refine .w (fun _ => ev_mv G G) G (.w (fun hb => ev_cmp G (lkg G hb) (lkg G hb) G) G (.v (ev_and G G G G) G (.go idQ ?_)))
  refine .condI G (bA (bA (bN bV) (bN bV)) bNE) (fun h32 => ?_) (fun h32 => ?_)
  ·
   refine .region (.m G G G (.m G G G (.m G G G ?_)))
   refine .m G G G (.v (ev_nil G G) G (.f fo59_2 2 G G G G (.l ty34 5 G G G G G ?_)))
   refine .m G G G (.v (ev_ix G underlying34 ty37 G G oO oO (fun _ _ => Fr.adr (i := v29) hK oO oO)) G (.f fo37_2 (ao kA + (v29).toNat * 4 + 2) G G G G (.v (ev_ld1 G ty3 G (At.elem1 (At.w (Fr.el (i := v29) hK oO oO)) 2 G)) G ?_)))
   refine .p ((d + ((gt K v29).lw))) oO oO G G G G G (.know (row_len 3 G) (fun hv35 => ?_))
   obtain ⟨A33, c34, rfl, hv35_1, hv35_2⟩ := hv35
   unfold maxLen at hv35_2
   refine .cons (st_call0 G G G G hbd28 G (.c (.t2 .h) (.c (.t2 .h) (.c (.t2 .h) .n))) (qput_ b2 A33 Y.length c34 Y pb3 ym x28 (d + ((gt K v29).lw)) _ _ G lO r_0.qq) (fun v_q40 C_q40 q40 => ?_))
   obtain ⟨u36, r37, l238, m239, p41, p42, p43, rfl, rfl⟩ := q40
   show SP _ _ _ _ _ _ ⟨_, _ :: _ :: _ :: _, _, _⟩
   exact SP.nil (SQ.roundb (X := (List (Int × Int)) × (Option (Int × Int)) × (List EN) × Value × (List (Int × Int))) (x := (Lf, cu_Lf, Y, (.slice A33 Y.length c34), ym)) ⟨(Lf.filter (fun p => decide (p.1 ≠ x28))), (some (x28, v29)), l238, u36, m239⟩ (by (try dsimp only); exact ⟨(arj_yes r_0 hl30 (rc_yes hxo.1 h32) p41 (by rw [p42, wG_mb, hxo.2.1])), trivial⟩) (mfilter_lt hl30) (Sub.get (.c4 G G G G (.c G (.c G (.c G .n))))) (kp (.c (.t2 (.t .h)) (.c (.t2 (.t .h)) (.d (.d .n))))))
  exact .skip (SQ.roundb (X := (List (Int × Int)) × (Option (Int × Int)) × (List EN) × Value × (List (Int × Int))) (x := (Lf, cu_Lf, Y, u_Y, ym)) ⟨(Lf.filter (fun p => decide (p.1 ≠ x28))), (some (x28, v29)), Y, u_Y, ym⟩ (by (try dsimp only); exact ⟨(arj_no r_0 hl30 (rc_no h32)), trivial⟩) (mfilter_lt hl30) (Sub.get (.c4 G G G G (.c G (.c G (.c G .n))))) (kp (.d (.d (.d .n)))))
 refine .exit idQ ?_
 refine .seq (.region (.m G G G (.a G G G (.go idQ ?_))))
 exact .ret idQ (ret1 results54 G (.c (.t4 .h) (.c (.t2 (.t .h)) .n)) ⟨b1, M, (ar_end q_0 oO).symm, G, G⟩)
end Go.Proofs.Ytlefdinbbjiabaa.Sx
set_option maxRecDepth 20000
set_option maxHeartbeats 1000000
namespace Go.Proofs.Ytlefdinbbjiabaa.Sx.FN
open Go Go.SX Go.Proofs Go.Proofs.Try FA FB FC FD FE FF FG FH FI FJ FK FL FM
theorem fo59_1 : fo prog 59 1 = some 1 := by kernel_rfl
theorem hbd53 : hasBody prog 53 = true := by kernel_rfl
theorem hbd54 : hasBody prog 54 = true := by kernel_rfl
theorem hbd45 : hasBody prog 45 = true := by kernel_rfl
end Go.Proofs.Ytlefdinbbjiabaa.Sx.FN
namespace Go.Proofs.Ytlefdinbbjiabaa.Sx
open Go Go.SX Go.Proofs Go.Proofs.Try FA FB FC FD FE FF FG FH FI FJ FK FL FM FN
theorem shct_ (n : Int) (wb : Nat) (oA : Option Addr) (on : Nat) (oc : Nat) (MO : List MB) (iA : Option Addr) (ik : Nat) (ic : Nat) (MI : List MB) (kA : Option Addr) (kn : Nat) (kc : Nat) (K : List LK) (gA : Option Addr) (gn : Nat) (gc : Nat) (g : List Bool) (p : Int) (S : Nat → Prop) (wf : World) (hO : Fr eMB S wf oA MO) (hI : Fr eMB S wf iA MI) (hK : Fr eLK S wf kA K) (hg : Fr eB S wf gA g) (hMO : MPF S wf MO) (hMI : MPF S wf MI) (hG : GOK n (GS.mk (mmL MO) (mmL MI) K g)) (hls : MO.length = on ∧ MI.length = ik ∧ K.length = kn ∧ g.length = gn) (hp : 0 ≤ p ∧ p < n) :
  TR0 prog 45 [.pointer (some ⟨wb, 0, none⟩), .int .i64 p] [cel wb [.slice oA on oc, .slice iA ik ic, .slice kA kn kc, .slice gA gn gc] 59] S wf (fun v_ C_ => ∃ (u : Value), v_ = u ∧ C_ = [cel wb [.slice oA on oc, .slice iA ik ic, .slice kA kn kc, .slice gA gn gc] 59, rw_ eLK 37 (u) (scG (GS.mk (mmL MO) (mmL MI) K g) p)]) := by
 have hGn := hG.n1
 have hGo : (MO.length : Int) = n := by rw [← mmL_len (l := MO)]; exact hG.lo
 have hGi : (MI.length : Int) = n := by rw [← mmL_len (l := MI)]; exact hG.li
 have hGg : (g.length : Int) = n := hG.lg
 have hKl := hK.len
 have hon := om_nd (p := p) hG
 have hin := im_nd (p := p) hG
 refine TR.mk func45 G ntmps45 G G (fun w_ => ?_)
 refine .seq (.region (.a G G G (.go idQ (.seq (.region (.a G G G ?_))))))
 refine .go idQ (.seq (.seq (.region (.m G G G (.v (ev_nil G G) G (.f fo59_1 1 G G G G ?_))))))
 refine .l ty57 0 G G G G G (.m G G G (.v (ev_ix G underlying57 ty60 G G oO oO (fun _ _ => Fr.adr (i := p) hI oO oO)) G (.v (ev_ld1 G ty60 G (At.elem1 (At.w (Fr.el (i := p) hI oO oO)) 0 G)) G ?_)))
 refine .cons (st_call0 G G G G hbd53 G .n (sorted_ ((gt MI p).mb) ((gt MI p).mm) _ _ (hMI p oO oO) hin.1 oO) (fun v_q2 C_q2 q2 => ?_))
 obtain ⟨u1, rfl, rfl⟩ := q2
 show SP _ _ _ _ _ _ ⟨_, _ :: _, _, _⟩
 refine .know (row_len 0 G) (fun hv5 => ?_)
 obtain ⟨A3, c4, rfl, hv5_1, hv5_2⟩ := hv5
 unfold maxLen at hv5_2
 refine .g underlying27 G G G (.m G G G (.go idQ (.block ?_)))
 refine SC.nilrow eLK 37 ?_
 refine .loop (X := Int × (List LK) × Value) (fun ⟨i, X, u_X⟩ => 0 ≤ i ∧ i ≤ ((srtK ((gt MI p).mm)).length : Int) ∧ X = ((srtK ((gt MI p).mm)).take i.toNat).flatMap (scF (GS.mk (mmL MO) (mmL MI) K g) p)) (fun ⟨i, X, u_X⟩ => [(0, .pointer (some ⟨wb, 0, none⟩)), (1, .int .i64 p), (4, .slice none 0 0), (21, .slice A3 ((srtK ((gt MI p).mm)).length) c4), (22, .int .i64 (((srtK ((gt MI p).mm)).length : Nat) : Int)), (23, .int .i64 i), (5, u_X)]) (fun ⟨i, X, u_X⟩ => [rw_ eLK 37 (u_X) X, rw_ eZ 3 (.slice A3 ((srtK ((gt MI p).mm)).length) c4) (srtK ((gt MI p).mm)), cel wb [.slice oA on oc, .slice iA ik ic, .slice kA kn kc, .slice gA gn gc] 59]) (fun _ => S) (fun _ => wf) (fun ⟨i, X, u_X⟩ => (((srtK ((gt MI p).mm)).length : Int) - i).toNat) (fun a_ w_ hs_ hw_ => ⟨⟨0, ([] : List LK), .slice none 0 0⟩, (by (try dsimp only); exact ⟨oO, oO, (by rfl)⟩), hs_.mono (Sub.get (.c4 G G G G (.c G (.c G (.c G .n))))), hw_.keep (.d (.c .h .n))⟩) (fun ⟨i, X, u_X⟩ ⟨q_0, q_1, q_2⟩ => ?_)
 try dsimp only
 refine .seq (.region (.e G G G G G (.go idQ (.seq (.condI G bD (fun h6 => ?_) (fun h6 => ?_))))))
 ·
  refine .skipgo idQ (.seq (.block (.seq (.region (.v (ev_ix G underlying27 ty3 G G oO oO (row_adr (i := i) 1 G oO lO)) G (.v (ev_ld1 G ty3 G (At.elem1 (row_el (E := eZ) (l := (srtK ((gt MI p).mm))) (i := i) 1 G oO lO) 0 G)) G (.a G G G ?_)))))))
  refine .go idQ (.seq (.seq ?_))
  obtain ⟨fr, hfr⟩ : ∃ x_, x_ = (gt (srtK ((gt MI p).mm)) i) := ⟨_, rfl⟩
  rw [← hfr]
  have hfo := im_srt hG hfr oO oO
  have hfl := hG.lk (mget (gt MI p).mm fr 0) hfo.2.2.2.1 hfo.2.2.2.2
  refine .region (.m G G G (.v (ev_nil G G) G (.f fo59_3 3 G G G G ?_)))
  refine .l ty43 2 G G G G G (.m G G G (.v (ev_ix G underlying43 ty4 G G oO oO (fun _ _ => Fr.adr (i := fr) hg oO oO)) G (.v (ev_ld1 G ty4 G (At.elem1 (At.w (Fr.el (i := fr) hg oO oO)) 0 G)) G ?_)))
  refine .go idQ (.condI G bV (fun h7 => ?_) (fun h7 => ?_))
  ·
   refine .exit idQ ?_
   refine .region (.p ((i + 1)) oO oO G G G G G (.m G G G ?_))
   exact SP.nil (SQ.roundb (X := Int × (List LK) × Value) (x := (i, X, u_X)) ⟨(i + 1), X, u_X⟩ (by (try dsimp only); exact ⟨oO, oO, (flat_next q_2 oO oO (by rw [← hfr, scF_go h7]; simp))⟩) dO (Sub.get (.c4 G G G G (.c G (.c G (.c G .n))))) (kp (.d (.c .h .n))))
  refine .skipgo idQ (.seq (.region (.m G G G (.m G G G (.m G G G ?_)))))
  refine .cons (st_call0 G G G G hbd54 G (.c (.t2 .h) .n) (arnd_ n wb oA on oc MO iA ik ic MI kA kn kc K gA gn gc g fr p _ _ hO hI hK hg hMO hMI hG hls oO) (fun v_q10 C_q10 q10 => ?_))
  obtain ⟨b8, M9, p11, rfl, rfl⟩ := q10
  show SP _ _ _ _ _ _ ⟨_, _ :: _ :: _, _, _⟩
  refine .a G G G (.go idQ (.seq (.region (.m G G G (.v (ev_nil G G) G ?_)))))
  refine .f fo59_0 0 G G G G (.l ty57 0 G G G G G (.m G G G (.v (ev_ix G underlying57 ty60 G G oO oO (fun _ _ => Fr.adr (i := p) hO oO oO)) G ?_)))
  refine .v (ev_ld1 G ty60 G (At.elem1 (At.w (Fr.el (i := p) hO oO oO)) 0 G)) G (.cons (st_call0 G G G G hbd53 G .n (sorted_ ((gt MO p).mb) ((gt MO p).mm) _ _ (hMO p oO oO) hon.1 oO) (fun v_q13 C_q13 q13 => ?_)))
  obtain ⟨u12, rfl, rfl⟩ := q13
  show SP _ _ _ _ _ _ ⟨_, _ :: _, _, _⟩
  refine .know (row_len 0 G) (fun hv16 => ?_)
  obtain ⟨A14, c15, rfl, hv16_1, hv16_2⟩ := hv16
  unfold maxLen at hv16_2
  refine .g underlying27 G G G (.m G G G (.go idQ (.block (.loop (X := Int × (List LK) × Value) (fun ⟨j, Y, u_Y⟩ => 0 ≤ j ∧ j ≤ ((srtK ((gt MO p).mm)).length : Int) ∧ Y = X ++ ((srtK ((gt MO p).mm)).take j.toNat).flatMap (scE (GS.mk (mmL MO) (mmL MI) K g) p fr)) (fun ⟨j, Y, u_Y⟩ => [(0, .pointer (some ⟨wb, 0, none⟩)), (1, .int .i64 p), (4, .slice none 0 0), (21, .slice A3 ((srtK ((gt MI p).mm)).length) c4), (22, .int .i64 (((srtK ((gt MI p).mm)).length : Nat) : Int)), (23, .int .i64 i), (7, .int .i64 fr), (8, .map (some b8)), (45, .slice A14 ((srtK ((gt MO p).mm)).length) c15), (46, .int .i64 (((srtK ((gt MO p).mm)).length : Nat) : Int)), (47, .int .i64 j), (5, u_Y)]) (fun ⟨j, Y, u_Y⟩ => [rw_ eZ 3 (.slice A14 ((srtK ((gt MO p).mm)).length) c15) (srtK ((gt MO p).mm)), cel wb [.slice oA on oc, .slice iA ik ic, .slice kA kn kc, .slice gA gn gc] 59, mp keZ.f (.int .i64) b8 M9, rw_ eLK 37 (u_Y) Y, rw_ eZ 3 (.slice A3 ((srtK ((gt MI p).mm)).length) c4) (srtK ((gt MI p).mm))]) (fun _ => S) (fun _ => wf) (fun ⟨j, Y, u_Y⟩ => (((srtK ((gt MO p).mm)).length : Int) - j).toNat) (fun a_ w_ hs_ hw_ => ⟨⟨0, X, u_X⟩, (by (try dsimp only); exact ⟨oO, oO, (by simp)⟩), hs_.mono (Sub.get (.c4 G G G G (.c4 G G G G (.c4 G G G G .n)))), hw_.keep (.d (.d (.c .h .n)))⟩) (fun ⟨j, Y, u_Y⟩ ⟨r_0, r_1, r_2⟩ => ?_)))))
  try dsimp only
  refine .seq (.region (.e G G G G G (.go idQ (.seq (.condI G bD (fun h17 => ?_) (fun h17 => ?_))))))
  ·
   refine .skipgo idQ (.seq (.block (.seq (.region (.v (ev_ix G underlying27 ty3 G G oO oO (row_adr (i := j) 0 G oO lO)) G (.v (ev_ld1 G ty3 G (At.elem1 (row_el (E := eZ) (l := (srtK ((gt MO p).mm))) (i := j) 0 G oO lO) 0 G)) G (.a G G G ?_)))))))
   refine .go idQ (.seq (.seq ?_))
   obtain ⟨to, hto⟩ : ∃ x_, x_ = (gt (srtK ((gt MO p).mm)) j) := ⟨_, rfl⟩
   rw [← hto]
   have hto2 := om_srt hG hto oO oO
   have htl := hG.lk (mget (gt MO p).mm to 0) hto2.2.2.2.1 hto2.2.2.2.2
   refine .region (.m G G G (.v (ev_nil G G) G (.f fo59_3 3 G G G G ?_)))
   refine .l ty43 1 G G G G G (.m G G G (.v (ev_ix G underlying43 ty4 G G oO oO (fun _ _ => Fr.adr (i := to) hg oO oO)) G (.v (ev_ld1 G ty4 G (At.elem1 (At.w (Fr.el (i := to) hg oO oO)) 0 G)) G ?_)))
   refine .m G G G (.w (fun _ => ev_mv G G) G (.w (fun _ => ev_mv G G) G (.w (fun hb => ev_cmp G (lkg G hb) (lkg G hb) G) G ?_)))
   refine .r G G G G G (.go idQ (.condI G (bO bV bE) (fun h18 => ?_) (fun h18 => ?_)))
   ·
    refine .exit idQ ?_
    refine .region (.p ((j + 1)) oO oO G G G G G (.m G G G ?_))
    exact SP.nil (SQ.roundb (X := Int × (List LK) × Value) (x := (j, Y, u_Y)) ⟨(j + 1), Y, u_Y⟩ (by (try dsimp only); exact ⟨oO, oO, (sc_next r_2 oO oO (by rw [← hto, scE_go h18]; simp))⟩) dO (Sub.get (.c4 G G G G (.c4 G G G G (.c4 G G G G .n)))) (kp (.d (.d (.c .h .n)))))
   refine .skipgo idQ (.seq ?_)
   have hfw : 0 ≤ (gt K (mget (gt MI p).mm fr 0)).lw ∧ (gt K (mget (gt MI p).mm fr 0)).lw ≤ 10000000000000000 := ⟨hfl.2.2.2.2.1, hfl.2.2.2.2.2⟩
   have htw : 0 ≤ (gt K (mget (gt MO p).mm to 0)).lw ∧ (gt K (mget (gt MO p).mm to 0)).lw ≤ 10000000000000000 := ⟨htl.2.2.2.2.1, htl.2.2.2.2.2⟩
   refine SC.draw mo [] [] .n (fun _ _ _ => sc0) (fun wf_19 hl_19 hx_19 hR_19 => ?_)
   refine SR.m 0 G G G G ?_
   refine SR.z 1 G G (ev_nil G G) ?_
   refine SR.z 2 G G (ev_fa G fo59_2 G (r := 2) G) ?_
   refine SR.z 3 G G (ev_ld1 G ty34 G (At.d (At.lent hR_19 1 G G))) ?_
   refine SR.m 4 G G G G ?_
   refine SR.z 5 G G (ev_nil G G) ?_
   refine SR.z 6 G G (ev_fa G fo59_1 G (r := 1) G) ?_
   refine SR.z 7 G G (ev_ld1 G ty57 G (At.d (At.lent hR_19 1 G G))) ?_
   refine SR.m 8 G G G G ?_
   refine SR.z 9 G G (ev_ix G underlying57 ty60 G G oO oO (fun _ _ => Fr.adr (i := p) (Fr.ext hI hx_19) oO oO)) ?_
   refine SR.z 10 G G (ev_ld1 G ty60 G (At.elem1 (At.d (Fr.el (i := p) (Fr.ext hI hx_19) oO oO)) 0 G)) ?_
   refine SR.m 11 G G G G ?_
   refine SR.z 12 G G (ev_lkpF keZ G G underlying60 zv3 G G (MapAt.d (FzM.at (((hMI).ext hx_19) p oO oO)))) ?_
   refine SR.z 13 G G (ev_ix G underlying34 ty37 G G oO oO (fun _ _ => Fr.adr (i := (mget ((gt MI p).mm) fr 0)) (Fr.ext hK hx_19) oO oO)) ?_
   refine SR.z 14 G G (ev_fa G fo37_2 G (r := ao kA + ((mget ((gt MI p).mm) fr 0)).toNat * 4 + 2) G) ?_
   refine SR.z 15 G G (ev_ld1 G ty3 G (At.elem1 (At.d (Fr.el (i := (mget ((gt MI p).mm) fr 0)) (Fr.ext hK hx_19) oO oO)) 2 G)) ?_
   refine SR.m 16 G G G G ?_
   refine SR.z 17 G G (ev_nil G G) ?_
   refine SR.z 18 G G (ev_fa G fo59_2 G (r := 2) G) ?_
   refine SR.z 19 G G (ev_ld1 G ty34 G (At.d (At.lent hR_19 1 G G))) ?_
   refine SR.m 20 G G G G ?_
   refine SR.z 21 G G (ev_nil G G) ?_
   refine SR.z 22 G G (ev_fa G fo59_0 G (r := 0) G) ?_
   refine SR.z 23 G G (ev_ld1 G ty57 G (At.d (At.lent hR_19 1 G G))) ?_
   refine SR.m 24 G G G G ?_
   refine SR.z 25 G G (ev_ix G underlying57 ty60 G G oO oO (fun _ _ => Fr.adr (i := p) (Fr.ext hO hx_19) oO oO)) ?_
   refine SR.z 26 G G (ev_ld1 G ty60 G (At.elem1 (At.d (Fr.el (i := p) (Fr.ext hO hx_19) oO oO)) 0 G)) ?_
   refine SR.m 27 G G G G ?_
   refine SR.z 28 G G (ev_lkpF keZ G G underlying60 zv3 G G (MapAt.d (FzM.at (((hMO).ext hx_19) p oO oO)))) ?_
   refine SR.z 29 G G (ev_ix G underlying34 ty37 G G oO oO (fun _ _ => Fr.adr (i := (mget ((gt MO p).mm) to 0)) (Fr.ext hK hx_19) oO oO)) ?_
   refine SR.z 30 G G (ev_fa G fo37_2 G (r := ao kA + ((mget ((gt MO p).mm) to 0)).toNat * 4 + 2) G) ?_
   refine SR.z 31 G G (ev_ld1 G ty3 G (At.elem1 (At.d (Fr.el (i := (mget ((gt MO p).mm) to 0)) (Fr.ext hK hx_19) oO oO)) 2 G)) ?_
   refine SR.z 32 G G (ev_add G G G (r := (((gt K (mget ((gt MI p).mm) fr 0)).lw) + ((gt K (mget ((gt MO p).mm) to 0)).lw))) G oO oO) ?_
   refine SR.z 33 G G (ev_as G G) ?_
   refine SR.fin kR hl_19 hx_19 hR_19 .n ?_
   refine SQ.go idQ ?_
   refine .seq (.region (.m G G G (.m G G G (.v (ev_lkpok keZ (m := M9) (x := to) (z := 0) G underlying60 zv3 G G 2 G) G ?_))))
   refine .m G G G (.x G G G G (.x G G G G (.a G G G ?_)))
   refine .a G G G (.go idQ (.seq (.region (.m G G G (.v (ev_not G G) G ?_)))))
   refine .m G G G (.w (fun _ => ev_mv G G) G (.w (fun _ => ev_mv G G) G (.w (fun hb => ev_cmp G (lkg G hb) (lkg G hb) G) G ?_)))
   refine .r G G G G G (.go idQ (.condI G (bO (bN bV) bD) (fun h20 => ?_) (fun h20 => ?_)))
   ·
    have hxl := scX_len (p := p) hG (i := i.toNat)
    rw [← q_2] at hxl
    have hyl := scY_len (p := p) hG (i := j.toNat) (fr := fr)
    have hyq := congrArg List.length r_2
    rw [List.length_append] at hyq
    refine .region (.m G G G (.m G G G (.m G G G ?_)))
    refine .m G G G (.m G G G (.v (ev_any (v := .agg #[.int .i64 fr, .int .i64 to, .int .i64 (((gt K (mget ((gt MI p).mm) fr 0)).lw) + ((gt K (mget ((gt MO p).mm) to 0)).lw)), .int .i64 p]) G kR (fun _ => by kernel_rfl)) G (.cons (st_lit eLK (e := 37) (l := [(LK.mk fr to (((gt K (mget ((gt MI p).mm) fr 0)).lw) + ((gt K (mget ((gt MO p).mm) to 0)).lw)) p)]) G G G G kR G G kW (fun b21 => ?_)))))
    refine .cons (st_app (E := eLK) (m := [(LK.mk fr to (((gt K (mget ((gt MI p).mm) fr 0)).lw) + ((gt K (mget ((gt MO p).mm) to 0)).lw)) p)]) G G G G underlying34 ai37 G G G (.t4 .h) rO (row_src 0 G) lO G (fun v22 => ?_))
    refine .a G G G (.go idQ (.region (.p ((j + 1)) oO oO G G G G G (.m G G G ?_))))
    exact SP.nil (SQ.roundb (X := Int × (List LK) × Value) (x := (j, Y, u_Y)) ⟨(j + 1), (Y ++ [(LK.mk fr to (((gt K (mget ((gt MI p).mm) fr 0)).lw) + ((gt K (mget ((gt MO p).mm) to 0)).lw)) p)]), v22⟩ (by (try dsimp only); exact ⟨oO, oO, (sc_next r_2 oO oO (by rw [← hto, scE_yes p11 h18 scD_mb h20]))⟩) dO (Sub.get (.c4 G G G G (.c4 G G G G (.c4 G G G G .n)))) (kp (.c (.t2 .h) (.c (.t2 .h) (.c (.t2 .h) (.c .h (.c (.t .h) .n)))))))
   refine .skipgo idQ (.region (.p ((j + 1)) oO oO G G G G G (.m G G G ?_)))
   exact SP.nil (SQ.roundb (X := Int × (List LK) × Value) (x := (j, Y, u_Y)) ⟨(j + 1), Y, u_Y⟩ (by (try dsimp only); exact ⟨oO, oO, (sc_next r_2 oO oO (by rw [← hto, scE_no p11 h18 scD_mb h20]; simp))⟩) dO (Sub.get (.c4 G G G G (.c4 G G G G (.c4 G G G G .n)))) (kp (.d (.d (.c .h .n)))))
  refine .exit idQ ?_
  refine .region (.p ((i + 1)) oO oO G G G G G (.m G G G ?_))
  exact SP.nil (SQ.roundb (X := Int × (List LK) × Value) (x := (i, X, u_X)) ⟨(i + 1), Y, u_Y⟩ (by (try dsimp only); exact ⟨oO, oO, (flat_next q_2 oO oO (by rw [← hfr, scF_do h7, r_2, List.take_of_length_le oO]; show _ = X ++ (srtK (gt (mmL MO) p)).flatMap _; rw [gt_mmL]))⟩) dO (Sub.get (.c4 G G G G (.c G (.c G (.c G .n))))) (kp (.c (.t2 (.t .h)) (.c (.t2 (.t .h)) (.c (.t .h) .n)))))
 refine .exit idQ ?_
 refine .seq (.region (.m G G G (.a G G G (.go idQ ?_))))
 exact .ret idQ (ret1 results45 G (.c (.t2 .h) (.c .h .n)) ⟨u_X, G, (by rw [q_2, List.take_of_length_le oO]; show _ = [_, rw_ eLK 37 _ ((srtK (gt (mmL MI) p)).flatMap _)]; rw [gt_mmL])⟩)
theorem price_ (n : Int) (wb : Nat) (oA : Option Addr) (on : Nat) (oc : Nat) (MO : List MB) (iA : Option Addr) (ik : Nat) (ic : Nat) (MI : List MB) (kA : Option Addr) (kn : Nat) (kc : Nat) (K : List LK) (gA : Option Addr) (gn : Nat) (gc : Nat) (g : List Bool) (p : Int) (S : Nat → Prop) (wf : World) (hO : Fr eMB S wf oA MO) (hI : Fr eMB S wf iA MI) (hK : Fr eLK S wf kA K) (hg : Fr eB S wf gA g) (hMO : MPF S wf MO) (hMI : MPF S wf MI) (hG : GOK n (GS.mk (mmL MO) (mmL MI) K g)) (hls : MO.length = on ∧ MI.length = ik ∧ K.length = kn ∧ g.length = gn) (hp : 0 ≤ p ∧ p < n) :
  TR0 prog 29 [.pointer (some ⟨wb, 0, none⟩), .int .i64 p] [cel wb [.slice oA on oc, .slice iA ik ic, .slice kA kn kc, .slice gA gn gc] 59] S wf (fun v_ C_ => v_ = .int .i64 (prG (GS.mk (mmL MO) (mmL MI) K g) p) ∧ C_ = [cel wb [.slice oA on oc, .slice iA ik ic, .slice kA kn kc, .slice gA gn gc] 59]) := by
 have hGn := hG.n1
 have hGo : (MO.length : Int) = n := by rw [← mmL_len (l := MO)]; exact hG.lo
 have hGi : (MI.length : Int) = n := by rw [← mmL_len (l := MI)]; exact hG.li
 have hGg : (g.length : Int) = n := hG.lg
 have hKl := hK.len
 have hon := om_nd (p := p) hG
 have hin := im_nd (p := p) hG
 have hsl := scG_len hG p
 have hno := nOf_le (gt MO p).mm g
 have hni := nOf_le (gt MI p).mm g
 refine TR.mk func29 G ntmps29 G G (fun w_ => ?_)
 refine .seq (.region (.a G G G (.go idQ (.seq (.region (.m G G G ?_))))))
 refine .m G G G (.cons (st_call0 G G G G hbd45 G (.c .h .n) (shct_ n wb oA on oc MO iA ik ic MI kA kn kc K gA gn gc g p _ _ hO hI hK hg hMO hMI hG hls oO) (fun v_q2 C_q2 q2 => ?_)))
 obtain ⟨u1, rfl, rfl⟩ := q2
 show SP _ _ _ _ _ _ ⟨_, _ :: _ :: _, _, _⟩
 refine .know (row_len 1 G) (fun hv5 => ?_)
 obtain ⟨A3, c4, rfl, hv5_1, hv5_2⟩ := hv5
 unfold maxLen at hv5_2
 refine .g underlying34 G G G (.v (ev_mul G G G (r := (2 * (((scG (GS.mk (mmL MO) (mmL MI) K g) p).length : Nat) : Int))) G oO oO) G (.a G G G (.go idQ (.seq (.seq (.region ?_))))))
 refine .m G G G (.v (ev_nil G G) G (.f fo59_0 0 G G G G (.l ty57 0 G G G G G ?_)))
 refine .m G G G (.v (ev_ix G underlying57 ty60 G G oO oO (fun _ _ => Fr.adr (i := p) hO oO oO)) G (.v (ev_ld1 G ty60 G (At.elem1 (At.w (Fr.el (i := p) hO oO oO)) 0 G)) G (.cons (st_rangeF (hMO p oO oO) G G G G underlying60 G (fun r6 => ?_)))))
 refine .go idQ (.block (.loop (X := Int × (List (Int × Int)) × (Option (Int × Int))) (fun ⟨c, Lf, cu_Lf⟩ => c = 2 * ((scG (GS.mk (mmL MO) (mmL MI) K g) p).length : Int) - (nOf (gt MO p).mm g - nOf Lf g) ∧ (Lf.map Prod.fst).Nodup ∧ (Lf.length : Int) ≤ 32) (fun ⟨c, Lf, cu_Lf⟩ => [(0, .pointer (some ⟨wb, 0, none⟩)), (1, .int .i64 p), (4, .int .i64 0), (20, .pointer (some ⟨r6, 0, none⟩)), (5, .int .i64 c)]) (fun ⟨c, Lf, cu_Lf⟩ => [itM r6 ((gt MO p).mb) wf ((gt MO p).mm) Lf cu_Lf, cel wb [.slice oA on oc, .slice iA ik ic, .slice kA kn kc, .slice gA gn gc] 59, rw_ eLK 37 (.slice A3 ((scG (GS.mk (mmL MO) (mmL MI) K g) p).length) c4) (scG (GS.mk (mmL MO) (mmL MI) K g) p)]) (fun _ => S) (fun _ => wf) (fun ⟨c, Lf, cu_Lf⟩ => Lf.length) (fun a_ w_ hs_ hw_ => ⟨⟨(2 * (((scG (GS.mk (mmL MO) (mmL MI) K g) p).length : Nat) : Int)), (gt MO p).mm, none⟩, (by (try dsimp only); exact ⟨oO, hon.1, oO⟩), hs_.mono (Sub.get (.c4 G G G G (.c G .n))), hw_.keep (.d (.c .h .n))⟩) (fun ⟨c, Lf, cu_Lf⟩ ⟨q_0, q_1, q_2⟩ => ?_)))
 try dsimp only
 have hnl := nOf_le Lf g
 have hnk : (Lf.length : Int) ≤ 32 ∨ True := .inr trivial
 refine .seq (.region (.cons (st_nextF (hMO p oO oO) G G G G G .h (fun hz7 => ?_) (fun x8 v9 hl10 hm11 => ?_))))
 ·
  refine .x G G G G (.go idQ (.seq (.cond_f G (.exit idQ ?_))))
  refine .seq (.seq (.region (.m G G G (.v (ev_nil G G) G (.f fo59_1 1 G G G G ?_)))))
  refine .l ty57 1 G G G G G (.m G G G (.v (ev_ix G underlying57 ty60 G G oO oO (fun _ _ => Fr.adr (i := p) hI oO oO)) G (.v (ev_ld1 G ty60 G (At.elem1 (At.w (Fr.el (i := p) hI oO oO)) 0 G)) G ?_)))
  refine .cons (st_rangeF (hMI p oO oO) G G G G underlying60 G (fun r12 => ?_))
  refine .go idQ (.block (.loop (X := Int × (List (Int × Int)) × (Option (Int × Int))) (fun ⟨c2, Lf2, cu_Lf2⟩ => c2 = (2 * ((scG (GS.mk (mmL MO) (mmL MI) K g) p).length : Int) - nOf (gt MO p).mm g) - (nOf (gt MI p).mm g - nOf Lf2 g) ∧ (Lf2.map Prod.fst).Nodup ∧ (Lf2.length : Int) ≤ 32) (fun ⟨c2, Lf2, cu_Lf2⟩ => [(0, .pointer (some ⟨wb, 0, none⟩)), (1, .int .i64 p), (4, .int .i64 0), (20, .pointer (some ⟨r6, 0, none⟩)), (42, .pointer (some ⟨r12, 0, none⟩)), (5, .int .i64 c2)]) (fun ⟨c2, Lf2, cu_Lf2⟩ => [itM r12 ((gt MI p).mb) wf ((gt MI p).mm) Lf2 cu_Lf2, itM r6 ((gt MO p).mb) wf ((gt MO p).mm) Lf cu_Lf, cel wb [.slice oA on oc, .slice iA ik ic, .slice kA kn kc, .slice gA gn gc] 59, rw_ eLK 37 (.slice A3 ((scG (GS.mk (mmL MO) (mmL MI) K g) p).length) c4) (scG (GS.mk (mmL MO) (mmL MI) K g) p)]) (fun _ => S) (fun _ => wf) (fun ⟨c2, Lf2, cu_Lf2⟩ => Lf2.length) (fun a_ w_ hs_ hw_ => ⟨⟨c, (gt MI p).mm, none⟩, (by (try dsimp only); exact ⟨(by rw [hz7] at q_0; have h_ : nOf [] g = 0 := G; omega), hin.1, oO⟩), hs_.mono (Sub.get (.c4 G G G G (.c G (.c G .n)))), hw_.keep (.d (.d .n))⟩) (fun ⟨c2, Lf2, cu_Lf2⟩ ⟨r_0, r_1, r_2⟩ => ?_)))
  try dsimp only
  have hnl2 := nOf_le Lf2 g
  refine .seq (.region (.cons (st_nextF (hMI p oO oO) G G G G G .h (fun hz13 => ?_) (fun x14 v15 hl16 hm17 => ?_))))
  ·
   refine .x G G G G (.go idQ (.seq (.cond_f G (.exit idQ ?_))))
   refine .seq (.region (.m G G G (.a G G G (.go idQ ?_))))
   exact .ret idQ (ret1 results29 G (.c (.t2 .h) .n) ⟨(congrArg (Value.int .i64) (by rw [pr_eq]; rw [hz13] at r_0; have h_ : nOf [] g = 0 := G; omega)), G⟩)
  refine .x G G G G (.go idQ (.seq (.cond_t G (.skipgo idQ (.block (.seq (.region ?_)))))))
  refine .v (ev_entryF (x := x14) (v := v15) (hMI p oO oO) G G 0 G) G (.x G G G G (.a G G G (.go idQ (.seq ?_))))
  have hxo := im_mb hG hm17
  refine .region (.m G G G (.v (ev_nil G G) G (.f fo59_3 3 G G G G ?_)))
  refine .l ty43 2 G G G G G (.m G G G (.v (ev_ix G underlying43 ty4 G G oO oO (fun _ _ => Fr.adr (i := x14) hg oO oO)) G (.v (ev_ld1 G ty4 G (At.elem1 (At.w (Fr.el (i := x14) hg oO oO)) 0 G)) G ?_)))
  refine .v (ev_not G G) G (.go idQ (.condI G (bN bV) (fun h18 => ?_) (fun h18 => ?_)))
  ·
   refine .region (.m G G G (.v (ev_sub G G G (r := (c2 - 1)) G oO oO) G (.a G G G ?_)))
   exact SP.nil (SQ.roundb (X := Int × (List (Int × Int)) × (Option (Int × Int))) (x := (c2, Lf2, cu_Lf2)) ⟨(c2 - 1), (Lf2.filter (fun p => decide (p.1 ≠ x14))), (some (x14, v15))⟩ (by (try dsimp only); exact ⟨((nOf_rng r_1 hl16 r_0).2 h18), (rng_nd r_1), (by have h_ := List.length_filter_le (fun p_ : Int × Int => decide (p_.1 ≠ x14)) Lf2; omega)⟩) (mfilter_lt hl16) (Sub.get (.c4 G G G G (.c G (.c G .n)))) (kp (.d (.d .n))))
  exact .skip (SQ.roundb (X := Int × (List (Int × Int)) × (Option (Int × Int))) (x := (c2, Lf2, cu_Lf2)) ⟨c2, (Lf2.filter (fun p => decide (p.1 ≠ x14))), (some (x14, v15))⟩ (by (try dsimp only); exact ⟨((nOf_rng r_1 hl16 r_0).1 (Classical.not_not.1 h18)), (rng_nd r_1), (by have h_ := List.length_filter_le (fun p_ : Int × Int => decide (p_.1 ≠ x14)) Lf2; omega)⟩) (mfilter_lt hl16) (Sub.get (.c4 G G G G (.c G (.c G .n)))) (kp (.d (.d .n))))
 refine .x G G G G (.go idQ (.seq (.cond_t G (.skipgo idQ (.block (.seq (.region ?_)))))))
 refine .v (ev_entryF (x := x8) (v := v9) (hMO p oO oO) G G 0 G) G (.x G G G G (.a G G G (.go idQ (.seq ?_))))
 have hxo := om_mb hG hm11
 refine .region (.m G G G (.v (ev_nil G G) G (.f fo59_3 3 G G G G ?_)))
 refine .l ty43 1 G G G G G (.m G G G (.v (ev_ix G underlying43 ty4 G G oO oO (fun _ _ => Fr.adr (i := x8) hg oO oO)) G (.v (ev_ld1 G ty4 G (At.elem1 (At.w (Fr.el (i := x8) hg oO oO)) 0 G)) G ?_)))
 refine .v (ev_not G G) G (.go idQ (.condI G (bN bV) (fun h19 => ?_) (fun h19 => ?_)))
 ·
  refine .region (.m G G G (.v (ev_sub G G G (r := (c - 1)) G oO oO) G (.a G G G ?_)))
  exact SP.nil (SQ.roundb (X := Int × (List (Int × Int)) × (Option (Int × Int))) (x := (c, Lf, cu_Lf)) ⟨(c - 1), (Lf.filter (fun p => decide (p.1 ≠ x8))), (some (x8, v9))⟩ (by (try dsimp only); exact ⟨((nOf_rng q_1 hl10 q_0).2 h19), (rng_nd q_1), (by have h_ := List.length_filter_le (fun p_ : Int × Int => decide (p_.1 ≠ x8)) Lf; omega)⟩) (mfilter_lt hl10) (Sub.get (.c4 G G G G (.c G .n))) (kp (.d (.c .h .n))))
 exact .skip (SQ.roundb (X := Int × (List (Int × Int)) × (Option (Int × Int))) (x := (c, Lf, cu_Lf)) ⟨c, (Lf.filter (fun p => decide (p.1 ≠ x8))), (some (x8, v9))⟩ (by (try dsimp only); exact ⟨((nOf_rng q_1 hl10 q_0).1 (Classical.not_not.1 h19)), (rng_nd q_1), (by have h_ := List.length_filter_le (fun p_ : Int × Int => decide (p_.1 ≠ x8)) Lf; omega)⟩) (mfilter_lt hl10) (Sub.get (.c4 G G G G (.c G .n))) (kp (.d (.c .h .n))))
end Go.Proofs.Ytlefdinbbjiabaa.Sx
set_option maxRecDepth 20000
set_option maxHeartbeats 1000000
namespace Go.Proofs.Ytlefdinbbjiabaa.Sx.FO
open Go Go.SX Go.Proofs Go.Proofs.Try FA FB FC FD FE FF FG FH FI FJ FK FL FM FN
theorem fo37_0 : fo prog 37 0 = some 0 := by kernel_rfl
theorem fo37_1 : fo prog 37 1 = some 1 := by kernel_rfl
end Go.Proofs.Ytlefdinbbjiabaa.Sx.FO
namespace Go.Proofs.Ytlefdinbbjiabaa.Sx
open Go Go.SX Go.Proofs Go.Proofs.Try FA FB FC FD FE FF FG FH FI FJ FK FL FM FN FO
theorem link_ (n : Int) (wb : Nat) (oA : Option Addr) (on : Nat) (oc : Nat) (MO : List MB) (iA : Option Addr) (ik : Nat) (ic : Nat) (MI : List MB) (kA : Option Addr) (kn : Nat) (kc : Nat) (K : List LK) (gA : Option Addr) (gn : Nat) (gc : Nat) (g : List Bool) (k : LK) (S : Nat → Prop) (wf : World) (hG : GOK n (GS.mk (mmL MO) (mmL MI) K g)) (hls : MO.length = on ∧ MI.length = ik ∧ K.length = kn) (hk : 0 ≤ k.lf ∧ k.lf < n ∧ 0 ≤ k.lt ∧ k.lt < n) (hkb : kn ≤ 100000) :
  TR0 prog 26 [.pointer (some ⟨wb, 0, none⟩), .agg #[.int .i64 k.lf, .int .i64 k.lt, .int .i64 k.lw, .int .i64 k.lm]] [cel wb [.slice oA on oc, .slice iA ik ic, .slice kA kn kc, .slice gA gn gc] 59, rw_ eMB 60 (.slice oA on oc) MO, rw_ eMB 60 (.slice iA ik ic) MI, rw_ eLK 37 (.slice kA kn kc) K, nestM MO, nestM MI] S wf (fun v_ C_ => ∃ (u : Value) (MO2 : List MB) (MI2 : List MB) (K2 : List LK), (GS.mk (mmL MO2) (mmL MI2) K2 g = linkG (GS.mk (mmL MO) (mmL MI) K g) k) ∧ (MO2.length = MO.length) ∧ (MI2.length = MI.length) ∧ v_ = .tuple #[] ∧ C_ = [cel wb [.slice oA on oc, .slice iA ik ic, u, .slice gA gn gc] 59, rw_ eMB 60 (.slice oA on oc) MO2, rw_ eMB 60 (.slice iA ik ic) MI2, rw_ eLK 37 (u) K2, nestM MO2, nestM MI2]) := by
 have hGn := hG.n1
 have hGo : (MO.length : Int) = n := by rw [← mmL_len (l := MO)]; exact hG.lo
 have hGi : (MI.length : Int) = n := by rw [← mmL_len (l := MI)]; exact hG.li
 have hGg : (g.length : Int) = n := hG.lg
 refine TR.mk func26 G ntmps26 G G (fun w_ => ?_)
 refine .seq (.region (.cons (st_boxa G G G G G (fun b1 => (.go idQ (.seq (.seq ?_)))))))
 refine SC.draw mo [] [] .n (fun _ _ _ => sc0) (fun wf_2 hl_2 hx_2 hR_2 => ?_)
 refine SR.m 0 G G G G ?_
 refine SR.z 1 G G (ev_nil G G) ?_
 refine SR.z 2 G G (ev_fa G fo59_0 G (r := 0) G) ?_
 refine SR.z 3 G G (ev_ld1 G ty57 G (At.d (At.lent hR_2 1 G G))) ?_
 refine SR.z 4 G G (ev_fa G fo37_0 G (r := 0) G) ?_
 refine SR.z 5 G G (ev_ld1 G ty3 G (At.d (At.lent hR_2 0 G G))) ?_
 refine SR.z 6 G G (ev_ix G underlying57 ty60 G G oO oO (fun _ _ => Fr.adr (i := k.lf) (Fr.lent (S := S) hR_2 2 G lO) oO oO)) ?_
 refine SR.z 7 G G (ev_ld1 G ty60 G (At.elem1 (At.d (Fr.el (i := k.lf) (Fr.lent (S := S) hR_2 2 G lO) oO oO)) 0 G)) ?_
 refine SR.z 8 G G (ev_fa G fo37_1 G (r := 1) G) ?_
 refine SR.z 9 G G (ev_ld1 G ty3 G (At.d (At.lent hR_2 0 G G))) ?_
 refine SR.z 10 G G (ev_lkpokF keZ G G underlying60 zv3 G G (MapAt.d (FzM.at ((MPF.lent (S := S) hR_2 5 G) k.lf oO oO)))) ?_
 refine SR.m 11 G G G G ?_
 refine SR.z 12 G G (ev_ext G G G) ?_
 refine SR.z 13 G G (ev_ext G G G) ?_
 refine SR.z 14 G G (ev_as G G) ?_
 refine SR.z 15 G G (ev_as G G) ?_
 refine SR.fin kR hl_2 hx_2 hR_2 .n ?_
 refine SQ.go idQ ?_
 refine .seq ?_
 rcases Bool.eq_false_or_eq_true (mhas (gt MO k.lf).mm k.lt) with hm | hm
 ·
  rw [hm]
  have hof := om_has hG hm
  refine SC.draw mo [] [] .n (fun _ _ _ => sc0) (fun wf_3 hl_3 hx_3 hR_3 => ?_)
  refine SR.m 0 G G G G ?_
  refine SR.m 1 G G G G ?_
  refine SR.y 2 G G (fun _ => ev_mv G G) ?_
  refine SR.y 3 G G (fun _ => ev_nil G G) ?_
  refine SR.y 4 G G (fun _ => ev_fa G fo59_2 G (r := 2) G) ?_
  refine SR.y 5 G G (fun _ => ev_ld1 G ty34 G (At.d (At.lent hR_3 1 G G))) ?_
  refine SR.y 6 G G (fun _ => ev_mv G G) ?_
  refine SR.y 7 G G (fun _ => ev_ix G underlying34 ty37 G G oO oO (fun _ _ => Fr.adr (i := (mget ((gt MO k.lf).mm) k.lt 0)) (Fr.lent (S := S) hR_3 4 G lO) oO oO)) ?_
  refine SR.y 8 G G (fun _ => ev_fa G fo37_2 G (r := ao kA + ((mget ((gt MO k.lf).mm) k.lt 0)).toNat * 4 + 2) G) ?_
  refine SR.y 9 G G (fun _ => ev_ld1 G ty3 G (At.elem1 (At.d (Fr.el (i := (mget ((gt MO k.lf).mm) k.lt 0)) (Fr.lent (S := S) hR_3 4 G lO) oO oO)) 2 G)) ?_
  refine SR.y 10 G G (fun _ => ev_fa G fo37_2 G (r := 2) G) ?_
  refine SR.y 11 G G (fun _ => ev_ld1 G ty3 G (At.d (At.lent hR_3 0 G G))) ?_
  refine SR.y 12 G G (fun _ => ev_cmp G G G G) ?_
  refine SR.z 13 G G (ev_pickt G G G G) ?_
  refine SR.fin kR hl_3 hx_3 hR_3 .n ?_
  refine SQ.go idQ ?_
  refine .condI G bD (fun h4 => ?_) (fun h4 => ?_)
  ·
   exact .ret idQ (ret0 results26 (.c (.t .h) (.c (.t .h) (.c (.t .h) (.c (.t .h) (.c (.t .h) (.c (.t .h) .n)))))) ⟨.slice kA kn kc, MO, MI, K, (link_same hm h4), G, G, G, G⟩)
  refine .skipgo idQ (.seq ?_)
  refine SC.draw mo [cel wb [.slice oA on oc, .slice iA ik ic, .slice kA kn kc, .slice gA gn gc] 59, rw_ eLK 37 (.slice kA kn kc) K] [(10, fun w => At w wb 0 [.slice oA on oc, .slice iA ik ic, .slice kA kn kc, .slice gA gn gc])] (.c (.t .h) (.c (.t2 (.t .h)) .n)) (fun w_ _ hw_ => (sc1 (At.whole 0 G w_ hw_) sc0)) (fun wf_5 hl_5 hx_5 hR_5 => ?_)
  refine SR.m 0 G G G G ?_
  refine SR.m 1 G G G G ?_
  refine SR.z 2 G G (ev_nil G G) ?_
  refine SR.z 3 G G (ev_fa G fo59_2 G (r := 2) G) ?_
  refine SR.z 4 G G (ev_ld1 G ty34 G (At.elem1 (v := .slice kA kn kc) (At.ofcs 0 G kR) 2 G)) ?_
  refine SR.z 5 G G (ev_lda (cs := [.int .i64 k.lf, .int .i64 k.lt, .int .i64 k.lw, .int .i64 k.lm]) G G (At.d (At.lent hR_5 0 G G)) ty37) ?_
  refine SR.o 6 G (st_lit eLK (e := 37) (l := [k]) G G G G kR G G kW (fun b6 => ⟨ttw 1 G, ?_⟩))
  refine SR.o 7 G (st_app (E := eLK) (m := [k]) G G G G underlying34 ai37 G G G (.t2 .h) rO (row_src 0 G) lO G (fun v7 => ⟨ttw 2 G, ?_⟩))
  refine SR.z 8 G G (ev_nil G G) ?_
  refine SR.z 9 G G (ev_fa G fo59_2 G (r := 2) G) ?_
  refine .know (row_len 0 G) (fun hv10 => ?_)
  obtain ⟨A8, c9, rfl, hv10_1, hv10_2⟩ := hv10
  unfold maxLen at hv10_2
  refine SR.o 10 G (st_store1 G G G ty34 G G G (.t2 .h) (.t2 .h) ⟨ttc (fun w_ hw_ => (tc2 kR tc0)), ?_⟩)
  refine SR.fin kR hl_5 hx_5 hR_5 (.c (.c (.c .n))) ?_
  refine SQ.go idQ ?_
  refine SC.outM k.lf oO oO (.t4 (.t2 .h)) ?_
  refine SC.outM k.lt oO oO (.t4 (.t4 .h)) ?_
  refine SC.draw mo [mp keZ.f (.int .i64) ((gt MI k.lt).mb) ((gt MI k.lt).mm), mp keZ.f (.int .i64) ((gt MO k.lf).mb) ((gt MO k.lf).mm)] [] (.c .h (.c (.t .h) .n)) (fun _ _ _ => sc0) (fun wf_11 hl_11 hx_11 hR_11 => ?_)
  refine SR.m 0 G G G G ?_
  refine SR.z 1 G G (ev_nil G G) ?_
  refine SR.z 2 G G (ev_fa G fo59_0 G (r := 0) G) ?_
  refine SR.z 3 G G (ev_ld1 G ty57 G (At.d (At.lent hR_11 2 G G))) ?_
  refine SR.z 4 G G (ev_fa G fo37_0 G (r := 0) G) ?_
  refine SR.z 5 G G (ev_ld1 G ty3 G (At.d (At.lent hR_11 5 G G))) ?_
  refine SR.z 6 G G (ev_ix G underlying57 ty60 G G oO oO (fun _ _ => Fr.adr (i := k.lf) (Fr.lent (S := S) hR_11 6 G lO) oO oO)) ?_
  refine SR.z 7 G G (ev_ld1 G ty60 G (At.elem1 (At.d (Fr.el (i := k.lf) (Fr.lent (S := S) hR_11 6 G lO) oO oO)) 0 G)) ?_
  refine SR.z 8 G G (ev_fa G fo37_1 G (r := 1) G) ?_
  refine SR.z 9 G G (ev_ld1 G ty3 G (At.d (At.lent hR_11 5 G G))) ?_
  refine SR.m 10 G G G G ?_
  refine SR.z 11 G G (ev_nil G G) ?_
  refine SR.z 12 G G (ev_fa G fo59_1 G (r := 1) G) ?_
  refine SR.z 13 G G (ev_ld1 G ty57 G (At.d (At.lent hR_11 2 G G))) ?_
  refine SR.z 14 G G (ev_fa G fo37_1 G (r := 1) G) ?_
  refine SR.z 15 G G (ev_ld1 G ty3 G (At.d (At.lent hR_11 5 G G))) ?_
  refine SR.z 16 G G (ev_ix G underlying57 ty60 G G oO oO (fun _ _ => Fr.adr (i := k.lt) (Fr.lent (S := S) hR_11 7 G lO) oO oO)) ?_
  refine SR.z 17 G G (ev_ld1 G ty60 G (At.elem1 (At.d (Fr.el (i := k.lt) (Fr.lent (S := S) hR_11 7 G lO) oO oO)) 0 G)) ?_
  refine SR.z 18 G G (ev_fa G fo37_0 G (r := 0) G) ?_
  refine SR.z 19 G G (ev_ld1 G ty3 G (At.d (At.lent hR_11 5 G G))) ?_
  refine SR.m 20 G G G G ?_
  refine SR.z 21 G G (ev_nil G G) ?_
  refine SR.z 22 G G (ev_fa G fo59_2 G (r := 2) G) ?_
  refine SR.z 23 G G (ev_ld1 G ty34 G (At.d (At.lent hR_11 2 G G))) ?_
  refine SR.z 24 G G (ev_len G underlying34 G) ?_
  refine SR.z 25 G G (ev_sub G G G (r := ((((K ++ [k]).length : Nat) : Int) - 1)) G oO oO) ?_
  refine SR.m 26 G G G G ?_
  refine SR.z 27 G G (ev_nil G G) ?_
  refine SR.z 28 G G (ev_fa G fo59_2 G (r := 2) G) ?_
  refine SR.z 29 G G (ev_ld1 G ty34 G (At.d (At.lent hR_11 2 G G))) ?_
  refine SR.z 30 G G (ev_len G underlying34 G) ?_
  refine SR.z 31 G G (ev_sub G G G (r := ((((K ++ [k]).length : Nat) : Int) - 1)) G oO oO) ?_
  refine SR.o 32 G (st_mapEntry keZ (x := k.lt) (z := 0) G G G G underlying60 zv3 G G (.t .h) (fun u12 n13 => ⟨tt0, ?_⟩))
  refine SR.z 33 G G (ev_ext G G G) ?_
  refine SR.o 34 G (st_entryStore keZ (u := undef) (x := k.lt) (v := ((((K ++ [k]).length : Nat) : Int) - 1)) G G G G G G .h ⟨tt0, ?_⟩)
  refine SR.o 35 G (st_mapEntry keZ (x := k.lf) (z := 0) G G G G underlying60 zv3 G G (.t .h) (fun u14 n15 => ⟨tt0, ?_⟩))
  refine SR.z 36 G G (ev_ext G G G) ?_
  refine SR.o 37 G (st_entryStore keZ (u := undef) (x := k.lf) (v := ((((K ++ [k]).length : Nat) : Int) - 1)) G G G G G G .h ⟨tt0, ?_⟩)
  refine SR.fin kR hl_11 hx_11 hR_11 (.c (.c .n)) ?_
  exact SQ.inM k.lf oO oO (.c (.t .h) (.c (.t2 .h) (.c (.t4 (.t2 .h)) .n))) <| SQ.inM k.lt oO oO (.c (.t2 .h) (.c (.t2 .h) (.c (.t4 (.t2 .h)) .n))) <| (end0 results26 (.c (.t4 .h) (.c (.t2 (.t .h)) (.c (.t .h) (.c (.t2 .h) (.c (.t .h) (.c .h .n)))))) ⟨.slice A8 ((K ++ [k]).length) c9, (MO.set (k.lf).toNat (MB.mk (gt MO k.lf).mb (mset (mins ((gt MO k.lf).mm) k.lt 0) k.lt ((((K ++ [k]).length : Nat) : Int) - 1)))), (MI.set (k.lt).toNat (MB.mk (gt MI k.lt).mb (mset (mins ((gt MI k.lt).mm) k.lf 0) k.lf ((((K ++ [k]).length : Nat) : Int) - 1)))), (K ++ [k]), (by rw [mset_mins, mset_mins]; exact link_new (fun h_ => h4 h_.2) (by rw [List.length_append, List.length_singleton]; omega)), (List.length_set ..), (List.length_set ..), G, G⟩)
 rw [hm]
 refine SC.draw mo [] [] .n (fun _ _ _ => sc0) (fun wf_16 hl_16 hx_16 hR_16 => ?_)
 refine SR.m 0 G G G G ?_
 refine SR.m 1 G G G G ?_
 refine SR.gtake (v := undef) 2 G kR kR kR G (fun _ _ _ _ h => h) G G G G G (fun hb => by cases hb) ?_
 refine SR.gtake (v := undef) 3 G kR kR kR G (fun _ _ _ _ h => h) G G G G G (fun hb => by cases hb) ?_
 refine SR.gtake (v := undef) 4 G kR kR kR G (fun _ _ _ _ h => h) G G G G G (fun hb => by cases hb) ?_
 refine SR.gtake (v := undef) 5 G kR kR kR G (fun _ _ _ _ h => h) G G G G G (fun hb => by cases hb) ?_
 refine SR.gtake (v := undef) 6 G kR kR kR G (fun _ _ _ _ h => h) G G G G G (fun hb => by cases hb) ?_
 refine SR.gtake (v := undef) 7 G kR kR kR G (fun _ _ _ _ h => h) G G G G G (fun hb => by cases hb) ?_
 refine SR.gtake (v := undef) 8 G kR kR kR G (fun _ _ _ _ h => h) G G G G G (fun hb => by cases hb) ?_
 refine SR.gtake (v := undef) 9 G kR kR kR G (fun _ _ _ _ h => h) G G G G G (fun hb => by cases hb) ?_
 refine SR.gtake (v := undef) 10 G kR kR kR G (fun _ _ _ _ h => h) G G G G G (fun hb => by cases hb) ?_
 refine SR.gtake (v := undef) 11 G kR kR kR G (fun _ _ _ _ h => h) G G G G G (fun hb => by cases hb) ?_
 refine SR.gtake (v := undef) 12 G kR kR kR G (fun _ _ _ _ h => h) G G G G G (fun hb => by cases hb) ?_
 refine SR.z 13 G G (ev_pickf G G G G) ?_
 refine SR.fin kR hl_16 hx_16 hR_16 .n ?_
 refine SQ.go idQ ?_
 refine .cond_f G ?_
 refine .skipgo idQ (.seq ?_)
 refine SC.draw mo [cel wb [.slice oA on oc, .slice iA ik ic, .slice kA kn kc, .slice gA gn gc] 59, rw_ eLK 37 (.slice kA kn kc) K] [(10, fun w => At w wb 0 [.slice oA on oc, .slice iA ik ic, .slice kA kn kc, .slice gA gn gc])] (.c (.t .h) (.c (.t2 (.t .h)) .n)) (fun w_ _ hw_ => (sc1 (At.whole 0 G w_ hw_) sc0)) (fun wf_17 hl_17 hx_17 hR_17 => ?_)
 refine SR.m 0 G G G G ?_
 refine SR.m 1 G G G G ?_
 refine SR.z 2 G G (ev_nil G G) ?_
 refine SR.z 3 G G (ev_fa G fo59_2 G (r := 2) G) ?_
 refine SR.z 4 G G (ev_ld1 G ty34 G (At.elem1 (v := .slice kA kn kc) (At.ofcs 0 G kR) 2 G)) ?_
 refine SR.z 5 G G (ev_lda (cs := [.int .i64 k.lf, .int .i64 k.lt, .int .i64 k.lw, .int .i64 k.lm]) G G (At.d (At.lent hR_17 0 G G)) ty37) ?_
 refine SR.o 6 G (st_lit eLK (e := 37) (l := [k]) G G G G kR G G kW (fun b18 => ⟨ttw 1 G, ?_⟩))
 refine SR.o 7 G (st_app (E := eLK) (m := [k]) G G G G underlying34 ai37 G G G (.t2 .h) rO (row_src 0 G) lO G (fun v19 => ⟨ttw 2 G, ?_⟩))
 refine SR.z 8 G G (ev_nil G G) ?_
 refine SR.z 9 G G (ev_fa G fo59_2 G (r := 2) G) ?_
 refine .know (row_len 0 G) (fun hv22 => ?_)
 obtain ⟨A20, c21, rfl, hv22_1, hv22_2⟩ := hv22
 unfold maxLen at hv22_2
 refine SR.o 10 G (st_store1 G G G ty34 G G G (.t2 .h) (.t2 .h) ⟨ttc (fun w_ hw_ => (tc2 kR tc0)), ?_⟩)
 refine SR.fin kR hl_17 hx_17 hR_17 (.c (.c (.c .n))) ?_
 refine SQ.go idQ ?_
 refine SC.outM k.lf oO oO (.t4 (.t2 .h)) ?_
 refine SC.outM k.lt oO oO (.t4 (.t4 .h)) ?_
 refine SC.draw mo [mp keZ.f (.int .i64) ((gt MI k.lt).mb) ((gt MI k.lt).mm), mp keZ.f (.int .i64) ((gt MO k.lf).mb) ((gt MO k.lf).mm)] [] (.c .h (.c (.t .h) .n)) (fun _ _ _ => sc0) (fun wf_23 hl_23 hx_23 hR_23 => ?_)
 refine SR.m 0 G G G G ?_
 refine SR.z 1 G G (ev_nil G G) ?_
 refine SR.z 2 G G (ev_fa G fo59_0 G (r := 0) G) ?_
 refine SR.z 3 G G (ev_ld1 G ty57 G (At.d (At.lent hR_23 2 G G))) ?_
 refine SR.z 4 G G (ev_fa G fo37_0 G (r := 0) G) ?_
 refine SR.z 5 G G (ev_ld1 G ty3 G (At.d (At.lent hR_23 5 G G))) ?_
 refine SR.z 6 G G (ev_ix G underlying57 ty60 G G oO oO (fun _ _ => Fr.adr (i := k.lf) (Fr.lent (S := S) hR_23 6 G lO) oO oO)) ?_
 refine SR.z 7 G G (ev_ld1 G ty60 G (At.elem1 (At.d (Fr.el (i := k.lf) (Fr.lent (S := S) hR_23 6 G lO) oO oO)) 0 G)) ?_
 refine SR.z 8 G G (ev_fa G fo37_1 G (r := 1) G) ?_
 refine SR.z 9 G G (ev_ld1 G ty3 G (At.d (At.lent hR_23 5 G G))) ?_
 refine SR.m 10 G G G G ?_
 refine SR.z 11 G G (ev_nil G G) ?_
 refine SR.z 12 G G (ev_fa G fo59_1 G (r := 1) G) ?_
 refine SR.z 13 G G (ev_ld1 G ty57 G (At.d (At.lent hR_23 2 G G))) ?_
 refine SR.z 14 G G (ev_fa G fo37_1 G (r := 1) G) ?_
 refine SR.z 15 G G (ev_ld1 G ty3 G (At.d (At.lent hR_23 5 G G))) ?_
 refine SR.z 16 G G (ev_ix G underlying57 ty60 G G oO oO (fun _ _ => Fr.adr (i := k.lt) (Fr.lent (S := S) hR_23 7 G lO) oO oO)) ?_
 refine SR.z 17 G G (ev_ld1 G ty60 G (At.elem1 (At.d (Fr.el (i := k.lt) (Fr.lent (S := S) hR_23 7 G lO) oO oO)) 0 G)) ?_
 refine SR.z 18 G G (ev_fa G fo37_0 G (r := 0) G) ?_
 refine SR.z 19 G G (ev_ld1 G ty3 G (At.d (At.lent hR_23 5 G G))) ?_
 refine SR.m 20 G G G G ?_
 refine SR.z 21 G G (ev_nil G G) ?_
 refine SR.z 22 G G (ev_fa G fo59_2 G (r := 2) G) ?_
 refine SR.z 23 G G (ev_ld1 G ty34 G (At.d (At.lent hR_23 2 G G))) ?_
 refine SR.z 24 G G (ev_len G underlying34 G) ?_
 refine SR.z 25 G G (ev_sub G G G (r := ((((K ++ [k]).length : Nat) : Int) - 1)) G oO oO) ?_
 refine SR.m 26 G G G G ?_
 refine SR.z 27 G G (ev_nil G G) ?_
 refine SR.z 28 G G (ev_fa G fo59_2 G (r := 2) G) ?_
 refine SR.z 29 G G (ev_ld1 G ty34 G (At.d (At.lent hR_23 2 G G))) ?_
 refine SR.z 30 G G (ev_len G underlying34 G) ?_
 refine SR.z 31 G G (ev_sub G G G (r := ((((K ++ [k]).length : Nat) : Int) - 1)) G oO oO) ?_
 refine SR.o 32 G (st_mapEntry keZ (x := k.lt) (z := 0) G G G G underlying60 zv3 G G (.t .h) (fun u24 n25 => ⟨tt0, ?_⟩))
 refine SR.z 33 G G (ev_ext G G G) ?_
 refine SR.o 34 G (st_entryStore keZ (u := undef) (x := k.lt) (v := ((((K ++ [k]).length : Nat) : Int) - 1)) G G G G G G .h ⟨tt0, ?_⟩)
 refine SR.o 35 G (st_mapEntry keZ (x := k.lf) (z := 0) G G G G underlying60 zv3 G G (.t .h) (fun u26 n27 => ⟨tt0, ?_⟩))
 refine SR.z 36 G G (ev_ext G G G) ?_
 refine SR.o 37 G (st_entryStore keZ (u := undef) (x := k.lf) (v := ((((K ++ [k]).length : Nat) : Int) - 1)) G G G G G G .h ⟨tt0, ?_⟩)
 refine SR.fin kR hl_23 hx_23 hR_23 (.c (.c .n)) ?_
 exact SQ.inM k.lf oO oO (.c (.t .h) (.c (.t2 .h) (.c (.t4 (.t2 .h)) .n))) <| SQ.inM k.lt oO oO (.c (.t2 .h) (.c (.t2 .h) (.c (.t4 (.t2 .h)) .n))) <| (end0 results26 (.c (.t4 .h) (.c (.t2 (.t .h)) (.c (.t .h) (.c (.t2 .h) (.c (.t .h) (.c .h .n)))))) ⟨.slice A20 ((K ++ [k]).length) c21, (MO.set (k.lf).toNat (MB.mk (gt MO k.lf).mb (mset (mins ((gt MO k.lf).mm) k.lt 0) k.lt ((((K ++ [k]).length : Nat) : Int) - 1)))), (MI.set (k.lt).toNat (MB.mk (gt MI k.lt).mb (mset (mins ((gt MI k.lt).mm) k.lf 0) k.lf ((((K ++ [k]).length : Nat) : Int) - 1)))), (K ++ [k]), (by rw [mset_mins, mset_mins]; exact link_new (fun h_ => by rw [hm] at h_; cases h_.1) (by rw [List.length_append, List.length_singleton]; omega)), (List.length_set ..), (List.length_set ..), G, G⟩)
end Go.Proofs.Ytlefdinbbjiabaa.Sx
set_option maxRecDepth 20000
set_option maxHeartbeats 1000000
namespace Go.Proofs.Ytlefdinbbjiabaa.Sx.FP
open Go Go.SX Go.Proofs Go.Proofs.Try FA FB FC FD FE FF FG FH FI FJ FK FL FM FN FO
theorem hbd29 : hasBody prog 29 = true := by kernel_rfl
theorem zf37 : (prog.info? 37).bind (fun i => i.zero.map Value.cells) = some (List.toArray [.int .i64 0, .int .i64 0, .int .i64 0, .int .i64 0]) := by kernel_rfl
theorem hbd26 : hasBody prog 26 = true := by kernel_rfl
end Go.Proofs.Ytlefdinbbjiabaa.Sx.FP
namespace Go.Proofs.Ytlefdinbbjiabaa.Sx
open Go Go.SX Go.Proofs Go.Proofs.Try FA FB FC FD FE FF FG FH FI FJ FK FL FM FN FO FP
theorem next_ (n : Int) (W : Int) (wb : Nat) (oA : Option Addr) (on : Nat) (oc : Nat) (MO : List MB) (iA : Option Addr) (ik : Nat) (ic : Nat) (MI : List MB) (kA : Option Addr) (kn : Nat) (kc : Nat) (K : List LK) (gA : Option Addr) (gn : Nat) (gc : Nat) (g : List Bool) (qb : Nat) (qA : Option Addr) (qn : Nat) (qc : Nat) (l : List EN) (pb : Nat) (m : List (Int × Int)) (S : Nat → Prop) (wf : World) (hG : GOK n (GS.mk (mmL MO) (mmL MI) K g)) (hls : MO.length = on ∧ MI.length = ik ∧ K.length = kn ∧ g.length = gn) (hW : WB (GS.mk (mmL MO) (mmL MI) K g) W) (hW2 : 0 ≤ W ∧ 2 * W ≤ 10000000000000000) (hkb : kn ≤ 50000) (hqn : l.length = qn) (hq0 : 0 < qn) (hqq : QQ l m) (hqd : ∀ x k, kq l x = some k → (0 ≤ x ∧ x < n) ∧ -10000 ≤ k ∧ k ≤ 10000) :
  TR0 prog 30 [.pointer (some ⟨wb, 0, none⟩), .pointer (some ⟨qb, 0, none⟩)] [cel wb [.slice oA on oc, .slice iA ik ic, .slice kA kn kc, .slice gA gn gc] 59, rw_ eMB 60 (.slice oA on oc) MO, rw_ eMB 60 (.slice iA ik ic) MI, rw_ eLK 37 (.slice kA kn kc) K, nestM MO, nestM MI, rw_ eB 4 (.slice gA gn gc) g, cel qb [.slice qA qn qc, .map (some pb)] 90, rw_ eEN 92 (.slice qA qn qc) l, mp keZ.f (.int .i64) pb m] S wf (fun v_ C_ => ∃ (u : Value) (MO2 : List MB) (MI2 : List MB) (K2 : List LK) (r : Int) (v : Value) (l2 : List EN) (m2 : List (Int × Int)), (NX (kq l) (GS.mk (mmL MO) (mmL MI) K g) r (kq l2) (GS.mk (mmL MO2) (mmL MI2) K2 (g.set r.toNat true))) ∧ (QQ l2 m2) ∧ (0 ≤ r ∧ r < n) ∧ v_ = .int .i64 r ∧ C_ = [cel wb [.slice oA on oc, .slice iA ik ic, u, .slice gA gn gc] 59, rw_ eMB 60 (.slice oA on oc) MO2, rw_ eMB 60 (.slice iA ik ic) MI2, rw_ eLK 37 (u) K2, nestM MO2, nestM MI2, rw_ eB 4 (.slice gA gn gc) (g.set (r).toNat true), cel qb [v, .map (some pb)] 90, rw_ eEN 92 (v) l2, mp keZ.f (.int .i64) pb m2]) := by
 have hGn := hG.n1
 have hGo : (MO.length : Int) = n := by rw [← mmL_len (l := MO)]; exact hG.lo
 have hGi : (MI.length : Int) = n := by rw [← mmL_len (l := MI)]; exact hG.li
 have hGg : (g.length : Int) = n := hG.lg
 refine TR.mk func30 G ntmps30 G G (fun w_ => ?_)
 refine .seq (.region (.a G G G (.go idQ (.block (.loop (X := (List EN) × Value × (List (Int × Int))) (fun ⟨Y, u_Y, ym⟩ => (∀ r f2 G2, NX (kq Y) (GS.mk (mmL MO) (mmL MI) K g) r f2 G2 → NX (kq l) (GS.mk (mmL MO) (mmL MI) K g) r f2 G2) ∧ QQ Y ym ∧ 0 < Y.length ∧ (∀ x k, kq Y x = some k → (0 ≤ x ∧ x < n) ∧ -10000 ≤ k ∧ k ≤ 10000)) (fun ⟨Y, u_Y, ym⟩ => [(0, .pointer (some ⟨wb, 0, none⟩)), (1, .pointer (some ⟨qb, 0, none⟩))]) (fun ⟨Y, u_Y, ym⟩ => [cel wb [.slice oA on oc, .slice iA ik ic, .slice kA kn kc, .slice gA gn gc] 59, rw_ eMB 60 (.slice oA on oc) MO, rw_ eMB 60 (.slice iA ik ic) MI, rw_ eLK 37 (.slice kA kn kc) K, nestM MO, nestM MI, rw_ eB 4 (.slice gA gn gc) g, cel qb [u_Y, .map (some pb)] 90, rw_ eEN 92 (u_Y) Y, mp keZ.f (.int .i64) pb ym]) (fun _ => S) (fun _ => wf) (fun ⟨Y, u_Y, ym⟩ => stl (GS.mk (mmL MO) (mmL MI) K g) (kq Y)) (fun a_ w_ hs_ hw_ => ⟨⟨l, .slice qA qn qc, m⟩, (by (try dsimp only); exact ⟨(fun _ _ _ h_ => h_), hqq, oO, hqd⟩), hs_.mono (Sub.get (.c G (.c G .n))), hw_.keep (.d (.d (.d (.d (.d .n)))))⟩) (fun ⟨Y, u_Y, ym⟩ ⟨q_0, q_1, q_2, q_3⟩ => ?_))))))
 try dsimp only
 have hyl := kq_len q_1.qi (fun x_ k_ hk_ => (q_3 x_ k_ hk_).1) oO
 refine .block (.seq (.region (.m G G G (.know (row_len 8 G) (fun hv3 => ?_)))))
 obtain ⟨A1, c2, rfl, hv3_1, hv3_2⟩ := hv3
 unfold maxLen at hv3_2
 refine .cons (st_call0 G G G G hbd46 G (.c (.t4 (.t2 (.t .h))) (.c (.t4 (.t2 (.t .h))) (.c (.t4 (.t2 (.t .h))) .n))) (qtake_ qb A1 Y.length c2 Y pb ym _ _ lO G lO q_1) (fun v_q8 C_q8 q8 => ?_))
 obtain ⟨x4, d5, l26, m27, p9, p10, p11, p12, rfl, rfl⟩ := q8
 show SP _ _ _ _ _ _ ⟨_, _ :: _ :: _ :: _, _, _⟩
 obtain ⟨p, hp_⟩ : ∃ p, p = x4 := ⟨_, rfl⟩
 subst hp_
 obtain ⟨key, hd_⟩ : ∃ d, d = d5 := ⟨_, rfl⟩
 subst hd_
 have hpr := q_3 p key p9.1
 refine .m G G G (.x G G G G (.x G G G G (.x G G G G ?_)))
 refine .a G G G (.a G G G (.a G G G (.go idQ (.seq (.seq (.region ?_))))))
 refine .m G G G (.m G G G (.cons (st_lendk G G G G hbd29 G (.c (.t2 (.t .h)) .n) (.c (.t2 (.t .h)) (.c (.t2 (.t .h)) (.c (.t2 (.t .h)) (.c (.t4 (.t .h)) (.c (.t2 (.t .h)) (.c (.t2 (.t .h)) .n)))))) (fun w_ hw => price_ n wb oA on oc MO iA ik ic MI kA kn kc K gA gn gc g p _ _ (Fr.lend hw 0 G lO) (Fr.lend hw 1 G lO) (Fr.lend hw 2 G lO) (Fr.lend hw 3 G lO) (MPF.lend hw 4 G) (MPF.lend hw 5 G) hG oO oO) (.a G G G ?_))))
 refine .go idQ (.seq ?_)
 have hpb := pr_bd (p := p) hG
 refine .region (.m G G G (.m G G G (.e G G G G G ?_)))
 refine .m G G G (.w (fun _ => ev_mv G G) G (.cons (st_gcallk G G G G G G hbd42 (fun hb => (lkA1 (lkg G hb) lkA0)) (.d (.c .h .n)) (fun hb => have hp := bT bD hb; qlen_ qb A1 (Y.length - 1) c2 l26 pb m27 _ _ p12) (.w (fun hb => ev_cmp G (lkg G hb) G G) G ?_))))
 refine .v (ev_and G G G G) G (.go idQ (.condI G (bA bD bD) (fun h13 => ?_) (fun h13 => ?_)))
 ·
  refine .seq (.region (.m G G G (.m G G G (.m G G G ?_))))
  refine .cons (st_call0 G G G G hbd28 G (.d (.c .h .n)) (qput_ qb A1 (Y.length - 1) c2 l26 pb m27 p (prG (GS.mk (mmL MO) (mmL MI) K g) p) _ _ p12 lO p11) (fun v_q18 C_q18 q18 => ?_))
  obtain ⟨u14, r15, l216, m217, p19, p20, p21, rfl, rfl⟩ := q18
  show SP _ _ _ _ _ _ ⟨_, _ :: _ :: _ :: _, _, _⟩
  refine .go idQ (.exitq idQ (SQ.roundb (X := (List EN) × Value × (List (Int × Int))) (x := (Y, (.slice A1 Y.length c2), ym)) ⟨l216, u14, m217⟩ (by (try dsimp only); exact ⟨(fun r_ f_ g_ h_ => q_0 r_ f_ g_ (.again p9 h13.1 (by obtain ⟨x_, k_, hx_⟩ := kq_some p11.qi oO; exact ⟨x_, by rw [← p10, hx_]; simp⟩) (by rw [p20, p10] at h_; exact h_))), p19, (nx_pos p19.qi p20), (nx_dom q_3 p10 p20 hpr.1 hpb)⟩) (stl_lt p9 oO h13.1 (by rw [p20, p10])) (Sub.get (.c rfl (.c rfl .n))) (kp (.c (.t2 (.t .h)) (.c (.t2 (.t .h)) (.c (.t2 (.t .h)) (.c (.t2 (.t .h)) (.c (.t2 (.t .h)) (.c (.t2 (.t .h)) (.c (.t2 (.t .h)) (.d (.c .h .n))))))))))))
 refine .skipgo idQ (.seq (.seq (.region (.m G G G (.m G G G (.cons (st_lend0 G G G G hbd45 G (.c (.t2 (.t .h)) .n) (.c (.t2 (.t .h)) (.c (.t2 (.t .h)) (.c (.t2 (.t .h)) (.c (.t4 (.t .h)) (.c (.t2 (.t .h)) (.c (.t2 (.t .h)) .n)))))) (fun w_ hw => shct_ n wb oA on oc MO iA ik ic MI kA kn kc K gA gn gc g p _ _ (Fr.lend hw 0 G lO) (Fr.lend hw 1 G lO) (Fr.lend hw 2 G lO) (Fr.lend hw 3 G lO) (MPF.lend hw 4 G) (MPF.lend hw 5 G) hG oO oO) (fun v_q23 C_q23 q23 => ?_))))))))
 obtain ⟨u22, rfl, rfl⟩ := q23
 show SP _ _ _ _ _ _ ⟨_, _ :: _ :: _ :: _ :: _ :: _ :: _ :: _ :: _, _, _⟩
 refine .know (row_len 1 G) (fun hv26 => ?_)
 obtain ⟨A24, c25, rfl, hv26_1, hv26_2⟩ := hv26
 unfold maxLen at hv26_2
 refine .g underlying34 G G G (.m G G G (.go idQ (.block (.loop (X := Int × (List LK) × Value × (List MB) × (List MB)) (fun ⟨i, KK, u_KK, M1, M2⟩ => 0 ≤ i ∧ i ≤ ((scG (GS.mk (mmL MO) (mmL MI) K g) p).length : Int) ∧ GS.mk (mmL M1) (mmL M2) KK g = linksG (GS.mk (mmL MO) (mmL MI) K g) ((scG (GS.mk (mmL MO) (mmL MI) K g) p).take i.toNat) ∧ M1.length = on ∧ M2.length = ik) (fun ⟨i, KK, u_KK, M1, M2⟩ => [(0, .pointer (some ⟨wb, 0, none⟩)), (1, .pointer (some ⟨qb, 0, none⟩)), (5, .int .i64 p), (34, .slice A24 ((scG (GS.mk (mmL MO) (mmL MI) K g) p).length) c25), (35, .int .i64 (((scG (GS.mk (mmL MO) (mmL MI) K g) p).length : Nat) : Int)), (36, .int .i64 i)]) (fun ⟨i, KK, u_KK, M1, M2⟩ => [cel wb [.slice oA on oc, .slice iA ik ic, u_KK, .slice gA gn gc] 59, rw_ eLK 37 (.slice A24 ((scG (GS.mk (mmL MO) (mmL MI) K g) p).length) c25) (scG (GS.mk (mmL MO) (mmL MI) K g) p), rw_ eMB 60 (.slice oA on oc) M1, rw_ eMB 60 (.slice iA ik ic) M2, rw_ eLK 37 (u_KK) KK, rw_ eB 4 (.slice gA gn gc) g, nestM M1, nestM M2, cel qb [.slice A1 (Y.length - 1) c2, .map (some pb)] 90, rw_ eEN 92 (.slice A1 (Y.length - 1) c2) l26, mp keZ.f (.int .i64) pb m27]) (fun _ => S) (fun _ => wf) (fun ⟨i, KK, u_KK, M1, M2⟩ => (((scG (GS.mk (mmL MO) (mmL MI) K g) p).length : Int) - i).toNat) (fun a_ w_ hs_ hw_ => ⟨⟨0, K, .slice kA kn kc, MO, MI⟩, (by (try dsimp only); exact ⟨oO, oO, (by rfl), oO, oO⟩), hs_.mono (Sub.get (.c4 G G G G (.c G (.c G .n)))), hw_.keep (.d (.d (.d (.d (.d (.c .h .n))))))⟩) (fun ⟨i, KK, u_KK, M1, M2⟩ ⟨r_0, r_1, r_2, r_3, r_4⟩ => ?_)))))
 try dsimp only
 have hsk := sc_kok hG hW hW2.1 (p := p)
 have hsl := scG_len hG p
 have hlo := links_ok (n := n) (W := 2 * W) (l := (scG (GS.mk (mmL MO) (mmL MI) K g) p).take i.toNat) hG (fun k_ hk_ => Int.le_trans (hW k_ hk_) oO) oO (fun k_ hk_ => hsk k_ (List.mem_of_mem_take hk_))
 have hGi := hlo.1
 rw [← r_2] at hGi
 have hkk := hlo.2.2.1
 rw [← r_2, List.length_take] at hkk
 have hkk2 : KK.length ≤ K.length + 1024 := by have h_ : KK.length ≤ K.length + min i.toNat ((scG (GS.mk (mmL MO) (mmL MI) K g) p).length) := hkk; omega
 refine .seq (.region (.e G G G G G (.go idQ (.seq (.condI G bD (fun h27 => ?_) (fun h27 => ?_))))))
 ·
  refine .skipgo idQ (.seq (.block (.seq (.region (.v (ev_ix G underlying34 ty37 G G oO oO (row_adr (i := i) 1 G oO lO)) G (.v (ev_lda G G (row_el (E := eLK) (l := (scG (GS.mk (mmL MO) (mmL MI) K g) p)) (i := i) 1 G oO lO) ty37) G (.cons (st_alloc G G G G zf37 (fun b28 => ?_)))))))))
  refine .cons (st_storea (l' := [.int .i64 ((gt (scG (GS.mk (mmL MO) (mmL MI) K g) p) i).lf), .int .i64 ((gt (scG (GS.mk (mmL MO) (mmL MI) K g) p) i).lt), .int .i64 ((gt (scG (GS.mk (mmL MO) (mmL MI) K g) p) i).lw), .int .i64 ((gt (scG (GS.mk (mmL MO) (mmL MI) K g) p) i).lm)]) G G G ty37 G G G .h G G ?_)
  refine .go idQ (.region (.m G G G (.d 0 ty37 G G G G (.know (row_len 5 G) (fun hv31 => ?_)))))
  obtain ⟨A29, c30, rfl, hv31_1, hv31_2⟩ := hv31
  unfold maxLen at hv31_2
  refine .cons (st_call0 G G G G hbd26 G (.c (.t .h) (.c (.t2 .h) (.c (.t2 .h) (.c (.t2 .h) (.c (.t2 (.t .h)) (.c (.t2 (.t .h)) .n)))))) (link_ n wb oA on oc M1 iA ik ic M2 A29 KK.length c30 KK gA gn gc g (gt (scG (GS.mk (mmL MO) (mmL MI) K g) p) i) _ _ hGi oO (hsk _ (gtM oO oO)).1 oO) (fun v_q36 C_q36 q36 => ?_))
  obtain ⟨u32, MO233, MI234, K235, p37, p38, p39, rfl, rfl⟩ := q36
  show SP _ _ _ _ _ _ ⟨_, _ :: _ :: _ :: _ :: _ :: _ :: _, _, _⟩
  refine .go idQ (.region (.p ((i + 1)) oO oO G G G G G (.m G G G ?_)))
  exact SP.nil (SQ.roundb (X := Int × (List LK) × Value × (List MB) × (List MB)) (x := (i, KK, (.slice A29 KK.length c30), M1, M2)) ⟨(i + 1), K235, u32, MO233, MI234⟩ (by (try dsimp only); exact ⟨oO, oO, (links_next r_2 oO oO p37), (p38.trans r_3), (p39.trans r_4)⟩) dO (Sub.get (.c4 G G G G (.c G (.c G .n)))) (kp (.c .h (.c (.t4 (.t2 .h)) (.d (.c .h (.c (.t2 (.t .h)) (.d (.c (.t .h) (.c (.t .h) (.c (.t .h) .n)))))))))))
 refine .exit idQ ?_
 refine .seq (.region (.m G G G (.v (ev_nil G G) G (.f fo59_3 3 G G G G ?_))))
 refine .l ty43 0 G G G G G (.m G G G (.v (ev_ix G underlying43 ty4 G G oO oO (row_adr (i := p) 5 G oO oO)) G (.cons (st_setel (E := eB) (i := p) (cs := [.bool true]) (off := 0) true G G G ty4 G G G G G (.t4 (.t .h)) lO lO (Nat.le_of_ble_eq_true G) G ?_))))
 refine .go idQ (.seq (.region (.m G G G (.a G G G (.go idQ ?_)))))
 exact .ret idQ (ret1 results30 rfl (.c (.t .h) (.c (.t2 .h) (.c (.t2 .h) (.c (.t2 .h) (.c (.t2 .h) (.c (.t2 .h) (.c .h (.c (.t .h) (.c (.t .h) (.c (.t .h) .n)))))))))) ⟨u_KK, M1, M2, KK, p, .slice A1 (Y.length - 1) c2, l26, m27, (q_0 _ _ _ (nx_take p9 (fun h_ => h13 ⟨h_.1, by obtain ⟨x_, hx_⟩ := h_.2; rw [← p10] at hx_; exact nx_some hx_ p12⟩) p10 (by rw [← List.take_of_length_le (l := (scG (GS.mk (mmL MO) (mmL MI) K g) p)) (i := i.toNat) oO, ← r_2]; rfl))), p11, hpr.1, rfl, rfl⟩)
end Go.Proofs.Ytlefdinbbjiabaa.Sx
set_option maxRecDepth 20000
set_option maxHeartbeats 8000000
namespace Go.Proofs.Ytlefdinbbjiabaa.Sx.FQ
open Go Go.SX Go.Proofs Go.Proofs.Try FA FB FC FD FE FF FG FH FI FJ FK FL FM FN FO FP
theorem ai4 : (prog.info? 4).map (fun i => (i.zero, i.size, i.bytes)) = some (some (.bool false), 1, 1) := by kernel_rfl
theorem ai60 : (prog.info? 60).map (fun i => (i.zero, i.size, i.bytes)) = some (some (.map none), 1, 8) := by kernel_rfl
theorem ai27 : (prog.info? 27).map (fun i => (i.zero, i.size, i.bytes)) = some (some (.slice none 0 0), 1, 24) := by kernel_rfl
theorem fo68_1 : fo prog 68 1 = some 1 := by kernel_rfl
theorem fo68_0 : fo prog 68 0 = some 0 := by kernel_rfl
theorem fo68_2 : fo prog 68 2 = some 2 := by kernel_rfl
theorem ty66 : ty prog 66 = some (false, 1) := by kernel_rfl
theorem fo68_3 : fo prog 68 3 = some 3 := by kernel_rfl
theorem hbd30 : hasBody prog 30 = true := by kernel_rfl
theorem hbd25 : hasBody prog 25 = true := by kernel_rfl
theorem zf64 : (prog.info? 64).bind (fun i => i.zero.map Value.cells) = some (List.toArray [.int .i64 0, .int .i64 0]) := by kernel_rfl
theorem fo64_0 : fo prog 64 0 = some 0 := by kernel_rfl
theorem fo64_1 : fo prog 64 1 = some 1 := by kernel_rfl
end Go.Proofs.Ytlefdinbbjiabaa.Sx.FQ
namespace Go.Proofs.Ytlefdinbbjiabaa.Sx
open Go Go.SX Go.Proofs Go.Proofs.Try FA FB FC FD FE FF FG FH FI FJ FK FL FM FN FO FP FQ
theorem build__s30 (n : Int) (t : List Int) (b : Nat) (fA : Option Addr) (fc : Nat) (fi : List Int) (eA : Option Addr) (ec : Nat) (ed : List EG) (S : Nat → Prop) (wf : World) (hF : Fr eZ S wf fA fi) (hE : Fr eEG S wf eA ed) (hT : TabOk n t) (hGr : GOk n t fi ed) (hec : ed.length ≤ ec) (lb : Nat) (wb : Nat) (rb : Nat) (xb : Nat) (yb : Nat) (wo : Value) (wi : Value) (wk : Value) (wg : Value) (R : List Int) (KK : List LK) (ps : List Int) (j_0 : ∃ f_ G_, NXS ps (pqF (G1 n fi ed) n) (G1 n fi ed) f_ G_ ∧ KK = G_.gl) (j_1 : (ps.length : Int) = n) (j_2 : R = rkL n ps) (V : Env) :
  SC V prog (bodyPost prog Try.f10 (TRp V S wf (fun v_ C_ S_ wf_ => (fun v_ C_ => ∃ (lb : Nat) (v1 : Value) (v2 : Value) (v3 : Value) (v4 : Value) (R : List Int) (K : List LK) (U : List IL) (D : List IL), (LftP n fi ed R K U D) ∧ v_ = .pointer (some ⟨lb, 0, none⟩) ∧ C_ = [cel b [.slice fA fi.length fc, .slice eA ed.length ec] 83, cel lb [v1, v2, v3, v4] 68, rw_ eZ 3 (v1) R, rw_ eLK 37 (v2) K, rw_ eIL 27 (v3) U, rw_ eIL 27 (v4) D, nestIL 3 U, nestIL 3 D]) v_ C_ ∧ S_ = S ∧ wf_ = wf))) 174 (sqR (sqR (sqR (sqR (sqR (sqR (sqR (sqR (sqR (sqR (bodyC Try.f10))))))))))) ⟨[(0, .pointer (some ⟨b, 0, none⟩)), (3, .int .i64 n), (4, .pointer (some ⟨wb, 0, none⟩)), (8, .pointer (some ⟨lb, 0, none⟩))], [cel lb [.slice (some ⟨rb, 0, none⟩) n.toNat n.toNat, .slice none 0 0, .slice (some ⟨xb, 0, none⟩) n.toNat n.toNat, .slice (some ⟨yb, 0, none⟩) n.toNat n.toNat] 68, cel wb [wo, wi, wk, wg] 59, rw_ eZ 3 (.slice (some ⟨rb, 0, none⟩) n.toNat n.toNat) R, rw_ eIL 27 (.slice (some ⟨xb, 0, none⟩) n.toNat n.toNat) (List.replicate n.toNat dIL), rw_ eIL 27 (.slice (some ⟨yb, 0, none⟩) n.toNat n.toNat) (List.replicate n.toNat dIL), rw_ eLK 37 (wk) KK, cel b [.slice fA fi.length fc, .slice eA ed.length ec] 83], S, wf⟩ := by
 have hn1 := hT.pl
 have hfl := hGr.len
 have hne := hGr.ne
 show SC _ _ _ _ (.seq _ _) _
 refine .seq (.region (.m G G G (.m G G G (.v (ev_nil G G) G ?_))))
 refine .f fo59_2 2 G G G G (.l ty34 1 G G G G G (.v (ev_nil G G) G (.f fo68_1 1 G G G G ?_)))
 refine .know (row_len 5 G) (fun hv96 => ?_)
 obtain ⟨A94, c95, rfl, hv96_1, hv96_2⟩ := hv96
 unfold maxLen at hv96_2
 refine .cons (st_store1 G G G ty34 G G G .h (.t .h) ?_)
 refine .go idQ (.seq (.seq ?_))
 refine SC.ILs 3 n.toNat ?_
 refine SC.ILs 3 n.toNat ?_
 obtain ⟨f_, G_, hnx, hKK⟩ := j_0
 have hfin := hnx.at hT hGr
 have hGf := hfin.1
 have hRl : (R.length : Int) = n := by rw [j_2, rkL_len]; omega
 have hkl2 : (KK.length : Int) ≤ 8448 + 1024 * ps.length := by rw [hKK]; exact hfin.2.2.2.2.2
 refine .region (.m G G G (.v (ev_nil G G) G (.f fo68_1 1 G G G G ?_)))
 refine .l ty34 2 G G G G G (.g underlying34 G G G (.m G G G (.go idQ (.block ?_))))
 refine .loop (X := Int × (List IL) × (List IL)) (fun ⟨i5, U, D⟩ => 0 ≤ i5 ∧ i5 ≤ (KK.length : Int) ∧ UD n R KK U D i5) (fun ⟨i5, U, D⟩ => [(0, .pointer (some ⟨b, 0, none⟩)), (3, .int .i64 n), (4, .pointer (some ⟨wb, 0, none⟩)), (8, .pointer (some ⟨lb, 0, none⟩)), (112, .slice A94 KK.length c95), (113, .int .i64 (KK.length : Int)), (114, .int .i64 i5)]) (fun ⟨i5, U, D⟩ => [nestIL 3 U, nestIL 3 D, cel lb [.slice (some ⟨rb, 0, none⟩) n.toNat n.toNat, .slice A94 KK.length c95, .slice (some ⟨xb, 0, none⟩) n.toNat n.toNat, .slice (some ⟨yb, 0, none⟩) n.toNat n.toNat] 68, cel wb [wo, wi, .slice A94 KK.length c95, wg] 59, rw_ eZ 3 (.slice (some ⟨rb, 0, none⟩) n.toNat n.toNat) R, rw_ eIL 27 (.slice (some ⟨xb, 0, none⟩) n.toNat n.toNat) U, rw_ eIL 27 (.slice (some ⟨yb, 0, none⟩) n.toNat n.toNat) D, rw_ eLK 37 (.slice A94 KK.length c95) KK, cel b [.slice fA fi.length fc, .slice eA ed.length ec] 83]) (fun _ => S) (fun _ => wf) (fun ⟨i5, U, D⟩ => ((KK.length : Int) - i5).toNat) (fun a_ w_ hs_ hw_ => ⟨⟨0, (List.replicate n.toNat dIL), (List.replicate n.toNat dIL)⟩, (by (try dsimp only); exact ⟨oO, oO, (ud_0 oO)⟩), hs_.mono (Sub.get (.c4 G G G G (.c G (.c G (.c G .n))))), hw_.keep (.d (.d (.d (.d (.c .h .n)))))⟩) (fun ⟨i5, U, D⟩ ⟨v_0, v_1, v_2⟩ => ?_)
 try dsimp only
 have hul0 := v_2.lu
 have hdl0 := v_2.ld
 refine .seq (.region (.e G G G G G (.go idQ (.seq (.condI G bD (fun h97 => ?_) (fun h97 => ?_))))))
 ·
  refine .skipgo idQ (.seq (.block (.seq (.region (.m G G G (.v (ev_ix G underlying34 ty37 G G oO oO (row_adr (i := i5) 7 G oO oO)) G (.v (ev_lda G G (row_el (E := eLK) (l := KK) (i := i5) 7 G oO oO) ty37) G ?_)))))))
  refine .cons (st_alloc G G G G zf37 (fun b98 => ?_))
  refine .a G G G (.cons (st_storea (l' := [.int .i64 ((gt KK i5).lf), .int .i64 ((gt KK i5).lt), .int .i64 ((gt KK i5).lw), .int .i64 ((gt KK i5).lm)]) G G G ty37 G G G .h G G (.go idQ (.seq ?_))))
  have hki : (0 ≤ ((gt KK i5).lf) ∧ ((gt KK i5).lf) < n) ∧ (0 ≤ ((gt KK i5).lt) ∧ ((gt KK i5).lt) < n) := by have h_ := hGf.lk i5 oO (by rw [← hKK]; omega); rw [← hKK] at h_; exact ⟨⟨h_.1, h_.2.1⟩, h_.2.2.1, h_.2.2.2.1⟩
  refine SC.draw mo [] [] .n (fun _ _ _ => sc0) (fun wf_99 hl_99 hx_99 hR_99 => ?_)
  refine SR.m 0 G G G G ?_
  refine SR.z 1 G G (ev_nil G G) ?_
  refine SR.z 2 G G (ev_fa G fo68_0 G (r := 0) G) ?_
  refine SR.z 3 G G (ev_ld1 G ty27 G (At.d (At.lent hR_99 3 G G))) ?_
  refine SR.z 4 G G (ev_fa G fo37_0 G (r := 0) G) ?_
  refine SR.z 5 G G (ev_ld1 G ty3 G (At.d (At.lent hR_99 0 G G))) ?_
  refine SR.z 6 G G (ev_ix G underlying27 ty3 G G oO oO (fun _ _ => Fr.adr (i := (gt KK i5).lf) (Fr.lent (S := S) hR_99 5 G lO) oO oO)) ?_
  refine SR.z 7 G G (ev_ld1 G ty3 G (At.elem1 (At.d (Fr.el (i := (gt KK i5).lf) (Fr.lent (S := S) hR_99 5 G lO) oO oO)) 0 G)) ?_
  refine SR.m 8 G G G G ?_
  refine SR.z 9 G G (ev_nil G G) ?_
  refine SR.z 10 G G (ev_fa G fo68_0 G (r := 0) G) ?_
  refine SR.z 11 G G (ev_ld1 G ty27 G (At.d (At.lent hR_99 3 G G))) ?_
  refine SR.z 12 G G (ev_fa G fo37_1 G (r := 1) G) ?_
  refine SR.z 13 G G (ev_ld1 G ty3 G (At.d (At.lent hR_99 0 G G))) ?_
  refine SR.z 14 G G (ev_ix G underlying27 ty3 G G oO oO (fun _ _ => Fr.adr (i := (gt KK i5).lt) (Fr.lent (S := S) hR_99 5 G lO) oO oO)) ?_
  refine SR.z 15 G G (ev_ld1 G ty3 G (At.elem1 (At.d (Fr.el (i := (gt KK i5).lt) (Fr.lent (S := S) hR_99 5 G lO) oO oO)) 0 G)) ?_
  refine SR.z 16 G G (ev_cmp G G G G) ?_
  refine SR.fin kR hl_99 hx_99 hR_99 .n ?_
  refine SQ.go idQ ?_
  refine .condI G bD (fun h100 => ?_) (fun h100 => ?_)
  ·
   have hul := v_2.u ((gt KK i5).lf) oO oO
   have hun := upJ_len R KK ((gt KK i5).lf) i5.toNat
   rw [← hul] at hun
   refine SC.outIL ((gt KK i5).lf) oO oO (.t .h) (fun hol => ?_)
   refine SC.draw mo [rw_ eZ 3 (.slice ((gt U ((gt KK i5).lf)).ilA) ((gt U ((gt KK i5).lf)).il.length) ((gt U ((gt KK i5).lf)).ilc)) ((gt U ((gt KK i5).lf)).il), rw_ eIL 27 (.slice (some ⟨xb, 0, none⟩) n.toNat n.toNat) U] [(18, fun w => At w (ab (some ⟨xb, 0, none⟩)) (ao (some ⟨xb, 0, none⟩) + ((gt KK i5).lf).toNat * eIL.sz) (eIL.enc (gt U ((gt KK i5).lf))))] (.c .h (.c (.t4 (.t2 .h)) .n)) (fun w_ _ hw_ => (sc1 (row_el (E := eIL) (l := U) (i := (gt KK i5).lf) 1 G oO lO w_ hw_) sc0)) (fun wf_101 hl_101 hx_101 hR_101 => ?_)
   refine SR.m 0 G G G G ?_
   refine SR.z 1 G G (ev_nil G G) ?_
   refine SR.z 2 G G (ev_fa G fo68_2 G (r := 2) G) ?_
   refine SR.z 3 G G (ev_ld1 G ty66 G (At.d (At.lent hR_101 3 G G))) ?_
   refine SR.z 4 G G (ev_fa G fo37_0 G (r := 0) G) ?_
   refine SR.z 5 G G (ev_ld1 G ty3 G (At.d (At.lent hR_101 1 G G))) ?_
   refine SR.m 6 G G G G ?_
   refine SR.z 7 G G (ev_nil G G) ?_
   refine SR.z 8 G G (ev_fa G fo68_2 G (r := 2) G) ?_
   refine SR.z 9 G G (ev_ld1 G ty66 G (At.d (At.lent hR_101 3 G G))) ?_
   refine SR.z 10 G G (ev_fa G fo37_0 G (r := 0) G) ?_
   refine SR.z 11 G G (ev_ld1 G ty3 G (At.d (At.lent hR_101 1 G G))) ?_
   refine SR.z 12 G G (ev_ix G underlying66 ty27 G G oO oO (fun _ _ => G)) ?_
   refine SR.z 13 G G (ev_ld1 G ty27 G (At.elem1 (At.ofcs 0 G kR) 0 G)) ?_
   refine SR.m 14 G G G G ?_
   refine SR.o 15 G (st_lit eZ (e := 3) (l := [i5]) G G G G kR G G kW (fun b102 => ⟨ttc (fun w_ hw_ => (tc1 (row_el (i := (gt KK i5).lf) 2 G oO oO w_ hw_) tc0)), ?_⟩))
   refine SR.o 16 G (st_app (E := eZ) (m := [i5]) G G G G underlying27 ai3 G G G (.t .h) rO (row_src 0 G) lO G (fun v103 => ⟨ttc (fun w_ hw_ => (tc1 (row_el (i := (gt KK i5).lf) 2 G oO oO w_ hw_) tc0)), ?_⟩))
   refine SR.z 17 G G (ev_ix G underlying66 ty27 G G oO oO (fun _ _ => G)) ?_
   refine .know (row_len 0 G) (fun hv106 => ?_)
   obtain ⟨A104, c105, rfl, hv106_1, hv106_2⟩ := hv106
   unfold maxLen at hv106_2
   refine SR.o 18 G (st_setel (E := eIL) (i := (gt KK i5).lf) (cs := [.slice A104 ((((gt U ((gt KK i5).lf)).il) ++ [i5]).length) c105]) (off := 0) (IL.mk (((gt U ((gt KK i5).lf)).il) ++ [i5]) A104 c105) G G G ty27 G G G G G (.t2 .h) lO lO (Nat.le_of_ble_eq_true G) G ⟨ttc (fun w_ hw_ => (tc2 kR tc0)), ?_⟩)
   refine SR.fin kR hl_101 hx_101 hR_101 (.c (.c (.c .n))) ?_
   refine SQ.go idQ ?_
   refine .region (.p ((i5 + 1)) oO oO G G G G G (.m G G G ?_))
   exact SP.nil (SQ.inIL ((gt KK i5).lf) (IL.mk (((gt U ((gt KK i5).lf)).il) ++ [i5]) A104 c105) oO oO (.c (.t .h) (.c (.t2 .h) .n)) (by rfl) (by rw [List.length_append, List.length_singleton]; omega) <| (SQ.roundb (X := Int × (List IL) × (List IL)) (x := (i5, U, D)) ⟨(i5 + 1), (U.set ((gt KK i5).lf).toNat (IL.mk (((gt U ((gt KK i5).lf)).il) ++ [i5]) A104 c105)), D⟩ (by (try dsimp only); exact ⟨oO, oO, (ud_up v_2 oO h100 oO)⟩) dO (Sub.get (.c4 G G G G (.c G (.c G (.c G .n))))) (kp (.c .h (.c (.t2 (.t .h)) (.c (.t2 (.t .h)) (.c (.t2 (.t .h)) (.c (.t2 (.t .h)) (.c .h (.c (.t2 .h) (.c (.t2 .h) (.c (.t2 .h) .n))))))))))))
  have hul := v_2.d ((gt KK i5).lt) oO oO
  have hun := dnJ_len R KK ((gt KK i5).lt) i5.toNat
  rw [← hul] at hun
  refine SC.outIL ((gt KK i5).lt) oO oO (.t2 .h) (fun hol => ?_)
  refine SC.draw mo [rw_ eZ 3 (.slice ((gt D ((gt KK i5).lt)).ilA) ((gt D ((gt KK i5).lt)).il.length) ((gt D ((gt KK i5).lt)).ilc)) ((gt D ((gt KK i5).lt)).il), rw_ eIL 27 (.slice (some ⟨yb, 0, none⟩) n.toNat n.toNat) D] [(18, fun w => At w (ab (some ⟨yb, 0, none⟩)) (ao (some ⟨yb, 0, none⟩) + ((gt KK i5).lt).toNat * eIL.sz) (eIL.enc (gt D ((gt KK i5).lt))))] (.c .h (.c (.t4 (.t2 (.t .h))) .n)) (fun w_ _ hw_ => (sc1 (row_el (E := eIL) (l := D) (i := (gt KK i5).lt) 1 G oO lO w_ hw_) sc0)) (fun wf_107 hl_107 hx_107 hR_107 => ?_)
  refine SR.m 0 G G G G ?_
  refine SR.z 1 G G (ev_nil G G) ?_
  refine SR.z 2 G G (ev_fa G fo68_3 G (r := 3) G) ?_
  refine SR.z 3 G G (ev_ld1 G ty66 G (At.d (At.lent hR_107 3 G G))) ?_
  refine SR.z 4 G G (ev_fa G fo37_1 G (r := 1) G) ?_
  refine SR.z 5 G G (ev_ld1 G ty3 G (At.d (At.lent hR_107 1 G G))) ?_
  refine SR.m 6 G G G G ?_
  refine SR.z 7 G G (ev_nil G G) ?_
  refine SR.z 8 G G (ev_fa G fo68_3 G (r := 3) G) ?_
  refine SR.z 9 G G (ev_ld1 G ty66 G (At.d (At.lent hR_107 3 G G))) ?_
  refine SR.z 10 G G (ev_fa G fo37_1 G (r := 1) G) ?_
  refine SR.z 11 G G (ev_ld1 G ty3 G (At.d (At.lent hR_107 1 G G))) ?_
  refine SR.z 12 G G (ev_ix G underlying66 ty27 G G oO oO (fun _ _ => G)) ?_
  refine SR.z 13 G G (ev_ld1 G ty27 G (At.elem1 (At.ofcs 0 G kR) 0 G)) ?_
  refine SR.m 14 G G G G ?_
  refine SR.o 15 G (st_lit eZ (e := 3) (l := [i5]) G G G G kR G G kW (fun b108 => ⟨ttc (fun w_ hw_ => (tc1 (row_el (i := (gt KK i5).lt) 2 G oO oO w_ hw_) tc0)), ?_⟩))
  refine SR.o 16 G (st_app (E := eZ) (m := [i5]) G G G G underlying27 ai3 G G G (.t .h) rO (row_src 0 G) lO G (fun v109 => ⟨ttc (fun w_ hw_ => (tc1 (row_el (i := (gt KK i5).lt) 2 G oO oO w_ hw_) tc0)), ?_⟩))
  refine SR.z 17 G G (ev_ix G underlying66 ty27 G G oO oO (fun _ _ => G)) ?_
  refine .know (row_len 0 G) (fun hv112 => ?_)
  obtain ⟨A110, c111, rfl, hv112_1, hv112_2⟩ := hv112
  unfold maxLen at hv112_2
  refine SR.o 18 G (st_setel (E := eIL) (i := (gt KK i5).lt) (cs := [.slice A110 ((((gt D ((gt KK i5).lt)).il) ++ [i5]).length) c111]) (off := 0) (IL.mk (((gt D ((gt KK i5).lt)).il) ++ [i5]) A110 c111) G G G ty27 G G G G G (.t2 .h) lO lO (Nat.le_of_ble_eq_true G) G ⟨ttc (fun w_ hw_ => (tc2 kR tc0)), ?_⟩)
  refine SR.fin kR hl_107 hx_107 hR_107 (.c (.c (.c .n))) ?_
  refine SQ.go idQ ?_
  refine .region (.p ((i5 + 1)) oO oO G G G G G (.m G G G ?_))
  exact SP.nil (SQ.inIL ((gt KK i5).lt) (IL.mk (((gt D ((gt KK i5).lt)).il) ++ [i5]) A110 c111) oO oO (.c (.t .h) (.c (.t2 .h) .n)) (by rfl) (by rw [List.length_append, List.length_singleton]; omega) <| (SQ.roundb (X := Int × (List IL) × (List IL)) (x := (i5, U, D)) ⟨(i5 + 1), U, (D.set ((gt KK i5).lt).toNat (IL.mk (((gt D ((gt KK i5).lt)).il) ++ [i5]) A110 c111))⟩ (by (try dsimp only); exact ⟨oO, oO, (ud_dn v_2 oO h100 oO)⟩) dO (Sub.get (.c4 G G G G (.c G (.c G (.c G .n))))) (kp (.c (.t4 .h) (.c .h (.c (.t2 (.t .h)) (.c (.t2 (.t .h)) (.c (.t2 (.t .h)) (.c (.t2 (.t .h)) (.c .h (.c (.t2 .h) (.c (.t2 .h) .n))))))))))))
 refine .exit idQ ?_
 refine .seq (.region (.m G G G (.a G G G (.go idQ ?_))))
 exact .ret idQ (ret1 results10 G (.c (.t4 (.t4 .h)) (.c (.t2 .h) (.c (.t2 (.t .h)) (.c (.t4 (.t .h)) (.c (.t2 (.t .h)) (.c (.t2 (.t .h)) (.d .n))))))) ⟨lb, .slice (some ⟨rb, 0, none⟩) n.toNat n.toNat, .slice A94 KK.length c95, .slice (some ⟨xb, 0, none⟩) n.toNat n.toNat, .slice (some ⟨yb, 0, none⟩) n.toNat n.toNat, R, KK, U, D, ⟨⟨ps, f_, G_, hnx, by omega, j_2, hKK⟩, by have h_ := v_2; rw [show i5 = (KK.length : Int) from by omega] at h_; exact h_⟩, G, G⟩)
theorem build__s18 (n : Int) (t : List Int) (b : Nat) (fA : Option Addr) (fc : Nat) (fi : List Int) (eA : Option Addr) (ec : Nat) (ed : List EG) (S : Nat → Prop) (wf : World) (hF : Fr eZ S wf fA fi) (hE : Fr eEG S wf eA ed) (hT : TabOk n t) (hGr : GOk n t fi ed) (hec : ed.length ≤ ec) (wb : Nat) (zb : Nat) (oA : Option Addr) (on : Nat) (oc : Nat) (iA : Option Addr) (ik : Nat) (ic : Nat) (u : Value) (K : List LK) (M1 : List MB) (M2 : List MB) (j_0 : (GS.mk (mmL M1) (mmL M2) K (List.replicate n.toNat false)) = (G1 n fi ed)) (j_1 : M1.length = on) (j_2 : M2.length = ik) (j_3 : (on : Int) = n) (j_4 : (ik : Int) = n) (V : Env) :
  SC V prog (bodyPost prog Try.f10 (TRp V S wf (fun v_ C_ S_ wf_ => (fun v_ C_ => ∃ (lb : Nat) (v1 : Value) (v2 : Value) (v3 : Value) (v4 : Value) (R : List Int) (K : List LK) (U : List IL) (D : List IL), (LftP n fi ed R K U D) ∧ v_ = .pointer (some ⟨lb, 0, none⟩) ∧ C_ = [cel b [.slice fA fi.length fc, .slice eA ed.length ec] 83, cel lb [v1, v2, v3, v4] 68, rw_ eZ 3 (v1) R, rw_ eLK 37 (v2) K, rw_ eIL 27 (v3) U, rw_ eIL 27 (v4) D, nestIL 3 U, nestIL 3 D]) v_ C_ ∧ S_ = S ∧ wf_ = wf))) 174 (sqR (sqR (sqR (sqR (sqR (sqR (bodyC Try.f10))))))) ⟨[(0, .pointer (some ⟨b, 0, none⟩)), (3, .int .i64 n), (4, .pointer (some ⟨wb, 0, none⟩))], [rw_ eLK 37 (u) K, rw_ eMB 60 (.slice oA on oc) M1, rw_ eMB 60 (.slice iA ik ic) M2, nestM M1, nestM M2, cel wb [.slice oA on oc, .slice iA ik ic, u, .slice (some ⟨zb, 0, none⟩) n.toNat n.toNat] 59, rw_ eB 4 (.slice (some ⟨zb, 0, none⟩) n.toNat n.toNat) (List.replicate n.toNat false), cel b [.slice fA fi.length fc, .slice eA ed.length ec] 83], S, wf⟩ := by
 have hn1 := hT.pl
 have hfl := hGr.len
 have hne := hGr.ne
 show SC _ _ _ _ (.seq _ _) _
 refine .seq ?_
 have hrl : (List.replicate n.toNat false).length = n.toNat := List.length_replicate
 have hG1 : (GS.mk (mmL M1) (mmL M2) K (List.replicate n.toNat false)) = (G1 n fi ed) := j_0
 have hok := pre_ok0 hT hGr (p := n) oO oO
 have hGG : GOK n (GS.mk (mmL M1) (mmL M2) K (List.replicate n.toNat false)) := by rw [hG1]; exact hok.1
 have hKb : (K.length : Int) ≤ 8448 := by have h_ := hok.2.2; rw [show linksG (G0 n) (bL fi ed n) = (G1 n fi ed) from rfl, ← hG1] at h_; exact h_
 refine SC.draw mo [] [] .n (fun _ _ _ => sc0) (fun wf_70 hl_70 hx_70 hR_70 => ?_)
 refine SR.cutx (X := Nat × Nat × Nat × Nat) (fun (yb71, yb72, yb73, yb74) => ([(0, .pointer (some ⟨b, 0, none⟩)), (3, .int .i64 n), (4, .pointer (some ⟨wb, 0, none⟩)), (8, .pointer (some ⟨yb71, 0, none⟩))], [cel yb71 [.slice (some ⟨yb72, 0, none⟩) ((n).toNat) ((n).toNat), .slice none 0 0, .slice (some ⟨yb73, 0, none⟩) ((n).toNat) ((n).toNat), .slice (some ⟨yb74, 0, none⟩) ((n).toNat) ((n).toNat)] 68, rw_ eIL 27 (.slice (some ⟨yb74, 0, none⟩) ((n).toNat) ((n).toNat)) (List.replicate ((n).toNat) dIL), rw_ eIL 27 (.slice (some ⟨yb73, 0, none⟩) ((n).toNat) ((n).toNat)) (List.replicate ((n).toNat) dIL), rw_ eZ 3 (.slice (some ⟨yb72, 0, none⟩) ((n).toNat) ((n).toNat)) (List.replicate ((n).toNat) 0), rw_ eLK 37 (u) K, rw_ eMB 60 (.slice oA on oc) M1, rw_ eMB 60 (.slice iA ik ic) M2, nestM M1, nestM M2, cel wb [.slice oA on oc, .slice iA ik ic, u, .slice (some ⟨zb, 0, none⟩) n.toNat n.toNat] 59, rw_ eB 4 (.slice (some ⟨zb, 0, none⟩) n.toNat n.toNat) (List.replicate n.toNat false), cel b [.slice fA fi.length fc, .slice eA ed.length ec] 83])) S wf (fun ⟨yb71, yb72, yb73, yb74⟩ => ?_) (fun key75 => ?_)
 ·
  try dsimp only
  refine SQ.go idQ ?_
  refine .seq (.region (.cons (st_call0 G G G G hbd27 G .n (qnew_ _ _) (fun v_q78 C_q78 q78 => ?_))))
  obtain ⟨b76, pb77, rfl, rfl⟩ := q78
  show SP _ _ _ _ _ _ ⟨_, _ :: _ :: _, _, _⟩
  refine .a G G G (.go idQ (.seq (.seq (.region (.m G G G (.m G G G ?_))))))
  refine .go idQ (.block ?_)
  refine SC.nilrow eEN 92 ?_
  refine .loop (X := Int × (List EN) × Value × (List (Int × Int))) (fun ⟨p3, Y, u_Y, ym⟩ => 0 ≤ p3 ∧ p3 ≤ n ∧ QQ Y ym ∧ kq Y = pqF (G1 n fi ed) p3) (fun ⟨p3, Y, u_Y, ym⟩ => [(0, .pointer (some ⟨b, 0, none⟩)), (3, .int .i64 n), (4, .pointer (some ⟨wb, 0, none⟩)), (8, .pointer (some ⟨yb71, 0, none⟩)), (9, .pointer (some ⟨b76, 0, none⟩)), (77, .int .i64 n), (78, .int .i64 p3)]) (fun ⟨p3, Y, u_Y, ym⟩ => [rw_ eEN 92 (u_Y) Y, cel b76 [u_Y, .map (some pb77)] 90, mp keZ.f (.int .i64) pb77 ym, cel yb71 [.slice (some ⟨yb72, 0, none⟩) ((n).toNat) ((n).toNat), .slice none 0 0, .slice (some ⟨yb73, 0, none⟩) ((n).toNat) ((n).toNat), .slice (some ⟨yb74, 0, none⟩) ((n).toNat) ((n).toNat)] 68, rw_ eIL 27 (.slice (some ⟨yb74, 0, none⟩) ((n).toNat) ((n).toNat)) (List.replicate ((n).toNat) dIL), rw_ eIL 27 (.slice (some ⟨yb73, 0, none⟩) ((n).toNat) ((n).toNat)) (List.replicate ((n).toNat) dIL), rw_ eZ 3 (.slice (some ⟨yb72, 0, none⟩) ((n).toNat) ((n).toNat)) (List.replicate ((n).toNat) 0), rw_ eLK 37 (u) K, rw_ eMB 60 (.slice oA on oc) M1, rw_ eMB 60 (.slice iA ik ic) M2, nestM M1, nestM M2, cel wb [.slice oA on oc, .slice iA ik ic, u, .slice (some ⟨zb, 0, none⟩) n.toNat n.toNat] 59, rw_ eB 4 (.slice (some ⟨zb, 0, none⟩) n.toNat n.toNat) (List.replicate n.toNat false), cel b [.slice fA fi.length fc, .slice eA ed.length ec] 83]) (fun _ => S) (fun _ => wf) (fun ⟨p3, Y, u_Y, ym⟩ => (n - p3).toNat) (fun a_ w_ hs_ hw_ => ⟨⟨0, ([] : List EN), .slice none 0 0, []⟩, (by (try dsimp only); exact ⟨oO, oO, QQ.nil, pq_0.symm⟩), hs_.mono (Sub.get (.c4 G G G G (.c G (.c G (.c G .n))))), hw_.keep (.d (.d (.d (.d (.d (.d (.d (.c .h .n))))))))⟩) (fun ⟨p3, Y, u_Y, ym⟩ ⟨s_0, s_1, s_2, s_3⟩ => ?_)
  try dsimp only
  have hyl := kq_len s_2.qi (fun x_ k_ hk_ => by rw [s_3] at hk_; exact pq_dom oO x_ k_ hk_) oO
  have hpb := pr_bd (p := p3) hGG
  refine .seq (.region (.e G G G G G (.go idQ (.seq (.condI G bD (fun h79 => ?_) (fun h79 => ?_))))))
  ·
   refine .skipgo idQ (.seq (.block (.seq (.region (.m G G G (.a G G G (.go idQ (.region ?_))))))))
   refine .m G G G (.m G G G (.m G G G (.m G G G ?_)))
   refine .know (row_len 7 G) (fun hv82 => ?_)
   obtain ⟨A80, c81, rfl, hv82_1, hv82_2⟩ := hv82
   unfold maxLen at hv82_2
   refine .cons (st_lendk G G G G hbd29 G (.c (.t4 (.t4 (.t4 .h))) .n) (.c (.t4 (.t4 .h)) (.c (.t4 (.t4 .h)) (.c (.t4 (.t2 (.t .h))) (.c (.t4 (.t4 (.t .h))) (.c (.t4 (.t2 (.t .h))) (.c (.t4 (.t2 (.t .h))) .n)))))) (fun w_ hw => price_ n wb oA on oc M1 iA ik ic M2 A80 K.length c81 K (some ⟨zb, 0, none⟩) n.toNat n.toNat (List.replicate n.toNat false) p3 _ _ (Fr.lend hw 0 G lO) (Fr.lend hw 1 G lO) (Fr.lend hw 2 G lO) (Fr.lend hw 3 G lO) (MPF.lend hw 4 G) (MPF.lend hw 5 G) hGG (by rw [List.length_replicate]; omega) oO) ?_)
   refine .know (row_len 0 G) (fun hv85 => ?_)
   obtain ⟨A83, c84, rfl, hv85_1, hv85_2⟩ := hv85
   unfold maxLen at hv85_2
   refine .cons (st_call0 G G G G hbd28 G (.c (.t .h) (.d .n)) (qput_ b76 A83 Y.length c84 Y pb77 ym p3 (prG (GS.mk (mmL M1) (mmL M2) K (List.replicate n.toNat false)) p3) _ _ G lO s_2) (fun v_q90 C_q90 q90 => ?_))
   obtain ⟨u86, r87, l288, m289, p91, p92, p93, rfl, rfl⟩ := q90
   show SP _ _ _ _ _ _ ⟨_, _ :: _ :: _ :: _, _, _⟩
   refine .go idQ (.region (.p ((p3 + 1)) oO oO G G G G G (.m G G G ?_)))
   exact SP.nil (SQ.roundb (X := Int × (List EN) × Value × (List (Int × Int))) (x := (p3, Y, (.slice A83 Y.length c84), ym)) ⟨(p3 + 1), l288, u86, m289⟩ (by (try dsimp only); exact ⟨oO, oO, p91, (by rw [p92, s_3, hG1]; exact pq_s G oO)⟩) dO (Sub.get (.c4 G G G G (.c G (.c G (.c G .n))))) (kp (.c (.t .h) (.d (.d (.d (.d (.d (.d (.d .n))))))))))
  refine .exit idQ ?_
  refine SC.seqx (X := Nat × Nat × Nat × Nat × Nat × Value × Value × Value × Value × (List Int) × (List LK) × (List Int)) (fun ⟨lb, wb, rb, xb, yb, wo, wi, wk, wg, R, KK, ps⟩ => (∃ f_ G_, NXS ps (pqF (G1 n fi ed) n) (G1 n fi ed) f_ G_ ∧ KK = G_.gl) ∧ ((ps.length : Int) = n) ∧ (R = rkL n ps)) (fun ⟨lb, wb, rb, xb, yb, wo, wi, wk, wg, R, KK, ps⟩ => ([(0, .pointer (some ⟨b, 0, none⟩)), (3, .int .i64 n), (4, .pointer (some ⟨wb, 0, none⟩)), (8, .pointer (some ⟨lb, 0, none⟩))], [cel lb [.slice (some ⟨rb, 0, none⟩) n.toNat n.toNat, .slice none 0 0, .slice (some ⟨xb, 0, none⟩) n.toNat n.toNat, .slice (some ⟨yb, 0, none⟩) n.toNat n.toNat] 68, cel wb [wo, wi, wk, wg] 59, rw_ eZ 3 (.slice (some ⟨rb, 0, none⟩) n.toNat n.toNat) R, rw_ eIL 27 (.slice (some ⟨xb, 0, none⟩) n.toNat n.toNat) (List.replicate n.toNat dIL), rw_ eIL 27 (.slice (some ⟨yb, 0, none⟩) n.toNat n.toNat) (List.replicate n.toNat dIL), rw_ eLK 37 (wk) KK, cel b [.slice fA fi.length fc, .slice eA ed.length ec] 83])) S wf (fun ⟨lb, wb, rb, xb, yb, wo, wi, wk, wg, R, KK, ps⟩ hk114 => ?_) (fun key113 => ?_)
  ·
   obtain ⟨j_0, j_1, j_2⟩ := hk114
   exact build__s30 n t b fA fc fi eA ec ed _ _ hF hE hT hGr hec lb wb rb xb yb wo wi wk wg R KK ps j_0 j_1 j_2 _
  refine .seq (.region (.m G G G (.m G G G (.go idQ (.block ?_)))))
  refine .loop (X := Int × (List EN) × Value × (List (Int × Int)) × (List LK) × Value × (List MB) × (List MB) × (List Bool) × (List Int) × (List Int)) (fun ⟨rk, Y2, u_Y2, ym2, KK, u_KK, M5, M6, gg, R, ps⟩ => NXS ps (pqF (G1 n fi ed) n) (G1 n fi ed) (kq Y2) (GS.mk (mmL M5) (mmL M6) KK gg) ∧ QQ Y2 ym2 ∧ ((ps.length : Int) = rk ∧ 0 ≤ rk ∧ rk ≤ n) ∧ R = rkL n ps ∧ (M5.length : Int) = n ∧ (M6.length : Int) = n ∧ (gg.length : Int) = n ∧ (∀ x k, kq Y2 x = some k → -10000 ≤ k ∧ k ≤ 10000)) (fun ⟨rk, Y2, u_Y2, ym2, KK, u_KK, M5, M6, gg, R, ps⟩ => [(0, .pointer (some ⟨b, 0, none⟩)), (3, .int .i64 n), (4, .pointer (some ⟨wb, 0, none⟩)), (8, .pointer (some ⟨yb71, 0, none⟩)), (9, .pointer (some ⟨b76, 0, none⟩)), (77, .int .i64 n), (78, .int .i64 p3), (88, .int .i64 n), (89, .int .i64 rk)]) (fun ⟨rk, Y2, u_Y2, ym2, KK, u_KK, M5, M6, gg, R, ps⟩ => [rw_ eEN 92 (u_Y2) Y2, cel b76 [u_Y2, .map (some pb77)] 90, mp keZ.f (.int .i64) pb77 ym2, cel yb71 [.slice (some ⟨yb72, 0, none⟩) ((n).toNat) ((n).toNat), .slice none 0 0, .slice (some ⟨yb73, 0, none⟩) ((n).toNat) ((n).toNat), .slice (some ⟨yb74, 0, none⟩) ((n).toNat) ((n).toNat)] 68, rw_ eIL 27 (.slice (some ⟨yb74, 0, none⟩) ((n).toNat) ((n).toNat)) (List.replicate ((n).toNat) dIL), rw_ eIL 27 (.slice (some ⟨yb73, 0, none⟩) ((n).toNat) ((n).toNat)) (List.replicate ((n).toNat) dIL), rw_ eZ 3 (.slice (some ⟨yb72, 0, none⟩) ((n).toNat) ((n).toNat)) R, rw_ eLK 37 (u_KK) KK, rw_ eMB 60 (.slice oA on oc) M5, rw_ eMB 60 (.slice iA ik ic) M6, nestM M5, nestM M6, cel wb [.slice oA on oc, .slice iA ik ic, u_KK, .slice (some ⟨zb, 0, none⟩) n.toNat n.toNat] 59, rw_ eB 4 (.slice (some ⟨zb, 0, none⟩) n.toNat n.toNat) gg, cel b [.slice fA fi.length fc, .slice eA ed.length ec] 83]) (fun _ => S) (fun _ => wf) (fun ⟨rk, Y2, u_Y2, ym2, KK, u_KK, M5, M6, gg, R, ps⟩ => (n - rk).toNat) (fun a_ w_ hs_ hw_ => ⟨⟨0, Y, u_Y, ym, K, u, M1, M2, (List.replicate n.toNat false), (List.replicate ((n).toNat) 0), ([] : List Int)⟩, (by (try dsimp only); exact ⟨(by have h_ := s_3; rw [show p3 = n from by omega] at h_; rw [h_, hG1]; exact .nil), s_2, ⟨G, by omega, by omega⟩, G, oO, oO, (by rw [List.length_replicate]; omega), (by have h_ := s_3; rw [show p3 = n from by omega] at h_; rw [h_]; exact pq_bd hok.1)⟩), hs_.mono (Sub.get (.c4 G G G G (.c4 G G G G (.c G .n)))), hw_.keep (.d (.d (.d (.d (.d (.d (.d (.c .h .n))))))))⟩) (fun ⟨rk, Y2, u_Y2, ym2, KK, u_KK, M5, M6, gg, R, ps⟩ ⟨t_0, t_1, t_2, t_3, t_4, t_5, t_6, t_7⟩ => ?_)
  try dsimp only
  have hat := t_0.at hT hGr
  have hkl : (KK.length : Int) ≤ 8448 + 1024 * ps.length := hat.2.2.2.2.2
  have hRl0 : (R.length : Int) = n := by rw [t_3, rkL_len]; omega
  refine .seq (.region (.e G G G G G (.go idQ (.seq (.condI G bD (fun h115 => ?_) (fun h115 => ?_))))))
  ·
   refine .skipgo idQ (.seq (.block (.seq (.region (.m G G G (.a G G G (.go idQ ?_)))))))
   refine .know (row_len 7 G) (fun hv118 => ?_)
   obtain ⟨A116, c117, rfl, hv118_1, hv118_2⟩ := hv118
   unfold maxLen at hv118_2
   refine .know (row_len 0 G) (fun hv121 => ?_)
   obtain ⟨A119, c120, rfl, hv121_1, hv121_2⟩ := hv121
   unfold maxLen at hv121_2
   refine SC.draw mo [rw_ eEN 92 (.slice A119 Y2.length c120) Y2, cel b76 [.slice A119 Y2.length c120, .map (some pb77)] 90, mp keZ.f (.int .i64) pb77 ym2, rw_ eZ 3 (.slice (some ⟨yb72, 0, none⟩) ((n).toNat) ((n).toNat)) R, rw_ eLK 37 (.slice A116 KK.length c117) KK, rw_ eMB 60 (.slice oA on oc) M5, rw_ eMB 60 (.slice iA ik ic) M6, nestM M5, nestM M6, cel wb [.slice oA on oc, .slice iA ik ic, .slice A116 KK.length c117, .slice (some ⟨zb, 0, none⟩) n.toNat n.toNat] 59, rw_ eB 4 (.slice (some ⟨zb, 0, none⟩) n.toNat n.toNat) gg] [] (.d (.c .h (.c (.t2 (.t .h)) (.c (.t2 (.t .h)) (.c (.t2 (.t .h)) (.c (.t2 (.t .h)) (.c (.t2 (.t .h)) (.c (.t2 (.t .h)) (.c (.t2 (.t .h)) (.c (.t2 (.t .h)) .n)))))))))) (fun _ _ _ => sc0) (fun wf_122 hl_122 hx_122 hR_122 => ?_)
   refine SR.m 0 G G G G ?_
   refine SR.z 1 G G (ev_nil G G) ?_
   refine SR.z 2 G G (ev_fa G fo68_0 G (r := 0) G) ?_
   refine SR.z 3 G G (ev_ld1 G ty27 G (At.d (At.lent hR_122 0 G G))) ?_
   refine SR.m 4 G G G G ?_
   refine SR.m 5 G G G G ?_
   refine SR.m 7 G G G G ?_
   refine SR.o 6 G (st_call0 G G G G hbd30 G (.c (.t4 (.t4 (.t .h))) (.c (.t4 (.t .h)) (.c (.t4 (.t .h)) (.c (.t4 .h) (.c (.t4 .h) (.c (.t4 .h) (.c (.t4 .h) (.c (.t .h) (.d .n))))))))) (next_ n (wBd ps.length) wb oA on oc M5 iA ik ic M6 A116 KK.length c117 KK (some ⟨zb, 0, none⟩) n.toNat n.toNat gg b76 A119 Y2.length c120 Y2 pb77 ym2 _ _ hat.1 oO hat.2.1 (by have h_ := wBd_le (k := ps.length) oO; omega) oO G (more_len (NXS.more hat.2.2.1 hat.2.2.2.1 oO)) t_1 (dom_kq hat.2.2.1 t_7)) (fun v_q131 C_q131 q131 => ⟨tt0, ?_⟩))
   obtain ⟨u123, MO2124, MI2125, K2126, r127, v128, l2129, m2130, p132, p133, p134, rfl, rfl⟩ := q131
   show SR _ _ _ _ _ _ _ _ _ ⟨_, _ :: _ :: _ :: _ :: _ :: _ :: _ :: _ :: _ :: _ :: _, _, _⟩
   refine SR.z 8 G G (ev_ix G underlying27 ty3 G G oO oO (fun _ _ => G)) ?_
   refine SR.o 9 G (st_setel (E := eZ) (i := r127) (cs := [.int .i64 rk]) (off := 0) rk G G G ty3 G G G G G (.t4 (.t4 (.t2 .h))) lO lO (Nat.le_of_ble_eq_true G) G ⟨tt0, ?_⟩)
   refine SR.fin kR hl_122 hx_122 hR_122 (.c (.c (.c (.c (.c (.c (.c (.c (.c (.c (.c .n))))))))))) ?_
   refine SQ.go idQ ?_
   refine .region (.p ((rk + 1)) oO oO G G G G G (.m G G G ?_))
   exact SP.nil (SQ.roundb (X := Int × (List EN) × Value × (List (Int × Int)) × (List LK) × Value × (List MB) × (List MB) × (List Bool) × (List Int) × (List Int)) (x := (rk, Y2, (.slice A119 Y2.length c120), ym2, KK, (.slice A116 KK.length c117), M5, M6, gg, R, ps)) ⟨(rk + 1), l2129, v128, m2130, K2126, u123, MO2124, MI2125, (gg.set (r127).toNat true), (R.set (r127).toNat rk), (ps ++ [r127])⟩ (by (try dsimp only); exact ⟨(.snoc t_0 p132), p133, ⟨by rw [List.length_append, List.length_singleton]; omega, by omega, by omega⟩, (by rw [rkL_snoc, ← t_3, t_2.1]), (by have h_ := (p132.inv hat.1 hat.2.1 (by have h_ := wBd_le (k := ps.length) oO; omega) (by have h_ := wBd_le (k := ps.length) oO; omega)).2.2.1.lo; rw [show (_ : Nat) = _ from mmL_len] at h_; exact h_), (by have h_ := (p132.inv hat.1 hat.2.1 (by have h_ := wBd_le (k := ps.length) oO; omega) (by have h_ := wBd_le (k := ps.length) oO; omega)).2.2.1.li; rw [show (_ : Nat) = _ from mmL_len] at h_; exact h_), (by rw [List.length_set]; exact t_6), (p132.bd hat.1 t_7)⟩) dO (Sub.get (.c4 G G G G (.c4 G G G G (.c G .n)))) (kp (.c (.t4 (.t4 (.t .h))) (.c (.t4 (.t4 .h)) (.c (.t4 (.t4 .h)) (.c (.t4 (.t4 .h)) (.c (.t4 (.t4 .h)) (.c (.t4 (.t4 .h)) (.c .h (.c (.t2 (.t .h)) (.c (.t .h) (.c (.t .h) (.c (.t .h) (.c (.t .h) (.d (.c .h .n))))))))))))))))
  refine .exit idQ ?_
  exact SC.weak (key113 ⟨yb71, wb, yb72, yb73, yb74, .slice oA on oc, .slice iA ik ic, u_KK, .slice (some ⟨zb, 0, none⟩) n.toNat n.toNat, R, KK, ps⟩ ⟨⟨_, _, t_0, G⟩, oO, t_3⟩) (Sub.get (.c4 G G G G .n)) (kp (.c (.t2 (.t .h)) (.c (.t4 (.t4 (.t2 (.t .h)))) (.c (.t4 (.t .h)) (.c (.t4 .h) (.c (.t2 (.t .h)) (.c (.t2 (.t .h)) (.c (.t4 (.t4 .h)) .n))))))))
 refine SR.m 0 G G G G ?_
 refine SR.m 2 G G G G ?_
 refine SR.m 4 G G G G ?_
 refine SR.three (i := 1) (j := 3) (l := 5) kR ⟨_, G, ?_⟩ ⟨_, G, ?_⟩ ⟨_, G, ?_⟩
 ·
  refine st_mkints (q := .i64) (n := (n).toNat) G G G G underlying27 ai3 G G oO oO G (fun b135 => ⟨tt0, ?_⟩)
  refine SR.two (i := 3) (j := 5) kR ⟨_, G, ?_⟩ ⟨_, G, ?_⟩
  ·
   refine st_mkslices (n := (n).toNat) G G G G underlying66 ai27 G G oO oO G (fun b136 => ⟨tt0, ?_⟩)
   refine SR.o 5 G (st_mkslices (n := (n).toNat) G G G G underlying66 ai27 G G oO oO G (fun b137 => ⟨tt0, ?_⟩))
   refine SR.z 6 G G (ev_any (v := .agg #[.slice (some ⟨b135, 0, none⟩) ((n).toNat) ((n).toNat), .slice none 0 0, .slice (some ⟨b136, 0, none⟩) ((n).toNat) ((n).toNat), .slice (some ⟨b137, 0, none⟩) ((n).toNat) ((n).toNat)]) G kR (fun _ => by kernel_rfl)) ?_
   refine SR.o 7 G (st_boxa G G G G G (fun b138 => ⟨tt0, ?_⟩))
   refine SR.z 8 G G (ev_as G G) ?_
   refine SR.fin kR hl_70 hx_70 hR_70 (.c (.c (.c (.c .n)))) ?_
   exact SQ.weak (key75 (b138, b135, b136, b137)) (Sub.get (.c4 G G G G .n)) (kp (.d (.d (.d (.d (.d (.d .n)))))))
  refine st_mkslices (n := (n).toNat) G G G G underlying66 ai27 G G oO oO G (fun b139 => ⟨tt0, ?_⟩)
  refine SR.o 3 G (st_mkslices (n := (n).toNat) G G G G underlying66 ai27 G G oO oO G (fun b140 => ⟨tt0, ?_⟩))
  refine SR.z 6 G G (ev_any (v := .agg #[.slice (some ⟨b135, 0, none⟩) ((n).toNat) ((n).toNat), .slice none 0 0, .slice (some ⟨b140, 0, none⟩) ((n).toNat) ((n).toNat), .slice (some ⟨b139, 0, none⟩) ((n).toNat) ((n).toNat)]) G kR (fun _ => by kernel_rfl)) ?_
  refine SR.o 7 G (st_boxa G G G G G (fun b141 => ⟨tt0, ?_⟩))
  refine SR.z 8 G G (ev_as G G) ?_
  refine SR.fin kR hl_70 hx_70 hR_70 (.c (.c (.c (.c .n)))) ?_
  exact SQ.weak (key75 (b141, b135, b140, b139)) (Sub.get (.c4 G G G G .n)) (kp (.c .h (.c (.t .h) (.d (.d (.d (.d (.d .n))))))))
 ·
  refine st_mkslices (n := (n).toNat) G G G G underlying66 ai27 G G oO oO G (fun b142 => ⟨tt0, ?_⟩)
  refine SR.two (i := 1) (j := 5) kR ⟨_, G, ?_⟩ ⟨_, G, ?_⟩
  ·
   refine st_mkints (q := .i64) (n := (n).toNat) G G G G underlying27 ai3 G G oO oO G (fun b143 => ⟨tt0, ?_⟩)
   refine SR.o 5 G (st_mkslices (n := (n).toNat) G G G G underlying66 ai27 G G oO oO G (fun b144 => ⟨tt0, ?_⟩))
   refine SR.z 6 G G (ev_any (v := .agg #[.slice (some ⟨b143, 0, none⟩) ((n).toNat) ((n).toNat), .slice none 0 0, .slice (some ⟨b142, 0, none⟩) ((n).toNat) ((n).toNat), .slice (some ⟨b144, 0, none⟩) ((n).toNat) ((n).toNat)]) G kR (fun _ => by kernel_rfl)) ?_
   refine SR.o 7 G (st_boxa G G G G G (fun b145 => ⟨tt0, ?_⟩))
   refine SR.z 8 G G (ev_as G G) ?_
   refine SR.fin kR hl_70 hx_70 hR_70 (.c (.c (.c (.c .n)))) ?_
   exact SQ.weak (key75 (b145, b143, b142, b144)) (Sub.get (.c4 G G G G .n)) (kp (.d (.c (.t .h) (.d (.d (.d (.d (.c .h .n))))))))
  refine st_mkslices (n := (n).toNat) G G G G underlying66 ai27 G G oO oO G (fun b146 => ⟨tt0, ?_⟩)
  refine SR.o 1 G (st_mkints (q := .i64) (n := (n).toNat) G G G G underlying27 ai3 G G oO oO G (fun b147 => ⟨tt0, ?_⟩))
  refine SR.z 6 G G (ev_any (v := .agg #[.slice (some ⟨b147, 0, none⟩) ((n).toNat) ((n).toNat), .slice none 0 0, .slice (some ⟨b142, 0, none⟩) ((n).toNat) ((n).toNat), .slice (some ⟨b146, 0, none⟩) ((n).toNat) ((n).toNat)]) G kR (fun _ => by kernel_rfl)) ?_
  refine SR.o 7 G (st_boxa G G G G G (fun b148 => ⟨tt0, ?_⟩))
  refine SR.z 8 G G (ev_as G G) ?_
  refine SR.fin kR hl_70 hx_70 hR_70 (.c (.c (.c (.c .n)))) ?_
  exact SQ.weak (key75 (b148, b147, b142, b146)) (Sub.get (.c4 G G G G .n)) (kp (.c .h (.c (.t .h) (.c (.t .h) (.d (.d (.d (.d (.c .h .n)))))))))
 refine st_mkslices (n := (n).toNat) G G G G underlying66 ai27 G G oO oO G (fun b149 => ⟨tt0, ?_⟩)
 refine SR.two (i := 1) (j := 3) kR ⟨_, G, ?_⟩ ⟨_, G, ?_⟩
 ·
  refine st_mkints (q := .i64) (n := (n).toNat) G G G G underlying27 ai3 G G oO oO G (fun b150 => ⟨tt0, ?_⟩)
  refine SR.o 3 G (st_mkslices (n := (n).toNat) G G G G underlying66 ai27 G G oO oO G (fun b151 => ⟨tt0, ?_⟩))
  refine SR.z 6 G G (ev_any (v := .agg #[.slice (some ⟨b150, 0, none⟩) ((n).toNat) ((n).toNat), .slice none 0 0, .slice (some ⟨b151, 0, none⟩) ((n).toNat) ((n).toNat), .slice (some ⟨b149, 0, none⟩) ((n).toNat) ((n).toNat)]) G kR (fun _ => by kernel_rfl)) ?_
  refine SR.o 7 G (st_boxa G G G G G (fun b152 => ⟨tt0, ?_⟩))
  refine SR.z 8 G G (ev_as G G) ?_
  refine SR.fin kR hl_70 hx_70 hR_70 (.c (.c (.c (.c .n)))) ?_
  exact SQ.weak (key75 (b152, b150, b151, b149)) (Sub.get (.c4 G G G G .n)) (kp (.c .h (.c (.t2 .h) (.d (.d (.d (.d (.d .n))))))))
 refine st_mkslices (n := (n).toNat) G G G G underlying66 ai27 G G oO oO G (fun b153 => ⟨tt0, ?_⟩)
 refine SR.o 1 G (st_mkints (q := .i64) (n := (n).toNat) G G G G underlying27 ai3 G G oO oO G (fun b154 => ⟨tt0, ?_⟩))
 refine SR.z 6 G G (ev_any (v := .agg #[.slice (some ⟨b154, 0, none⟩) ((n).toNat) ((n).toNat), .slice none 0 0, .slice (some ⟨b153, 0, none⟩) ((n).toNat) ((n).toNat), .slice (some ⟨b149, 0, none⟩) ((n).toNat) ((n).toNat)]) G kR (fun _ => by kernel_rfl)) ?_
 refine SR.o 7 G (st_boxa G G G G G (fun b155 => ⟨tt0, ?_⟩))
 refine SR.z 8 G G (ev_as G G) ?_
 refine SR.fin kR hl_70 hx_70 hR_70 (.c (.c (.c (.c .n)))) ?_
 exact SQ.weak (key75 (b155, b154, b153, b149)) (Sub.get (.c4 G G G G .n)) (kp (.c .h (.c (.t2 .h) (.c (.t .h) (.d (.d (.d (.d (.c .h .n)))))))))
theorem build_ (n : Int) (t : List Int) (b : Nat) (fA : Option Addr) (fc : Nat) (fi : List Int) (eA : Option Addr) (ec : Nat) (ed : List EG) (S : Nat → Prop) (wf : World) (hF : Fr eZ S wf fA fi) (hE : Fr eEG S wf eA ed) (hT : TabOk n t) (hGr : GOk n t fi ed) (hec : ed.length ≤ ec) :
  TR0 prog 10 [.pointer (some ⟨b, 0, none⟩)] [cel b [.slice fA fi.length fc, .slice eA ed.length ec] 83] S wf (fun v_ C_ => ∃ (lb : Nat) (v1 : Value) (v2 : Value) (v3 : Value) (v4 : Value) (R : List Int) (K : List LK) (U : List IL) (D : List IL), (LftP n fi ed R K U D) ∧ v_ = .pointer (some ⟨lb, 0, none⟩) ∧ C_ = [cel b [.slice fA fi.length fc, .slice eA ed.length ec] 83, cel lb [v1, v2, v3, v4] 68, rw_ eZ 3 (v1) R, rw_ eLK 37 (v2) K, rw_ eIL 27 (v3) U, rw_ eIL 27 (v4) D, nestIL 3 U, nestIL 3 D]) := by
 have hn1 := hT.pl
 have hfl := hGr.len
 have hne := hGr.ne
 refine TR.mk func10 G ntmps10 G G (fun w_ => ?_)
 refine .seq (.region (.a G G G (.go idQ (.seq (.seq (.region (.m G G G ?_)))))))
 refine .v (ev_bin G G G (r := .bool false) (fun _ => by kernel_rfl)) G (.go idQ (.cond_f G (.skipgo idQ (.seq (.region ?_)))))
 refine .m G G G (.cons (st_callk G G G G hbd24 G (.c .h .n) (gpl_ b fA fc fi eA ec ed _ _ hF hE) (.a G G G (.go idQ (.seq ?_)))))
 rw [show ((fi.length : Int) - 1) = n from by have h_ := hGr.len; omega]
 refine .region (.m G G G (.cons (st_mkbools (n := (n).toNat) G G G G underlying43 ai4 G G oO oO G (fun b1 => (.v (ev_any (v := .agg #[.slice none 0 0, .slice none 0 0, .slice none 0 0, .slice (some ⟨b1, 0, none⟩) ((n).toNat) ((n).toNat)]) G kR (fun _ => by kernel_rfl)) G ?_)))))
 refine .cons (st_boxa G G G G G (fun b2 => ?_))
 refine .a G G G (.go idQ (.seq (.seq ?_)))
 refine SC.nestM0 ?_
 refine SC.nestM0 ?_
 refine .region (.m G G G (.m G G G (.go idQ (.block ?_))))
 refine SC.nilrow eMB 60 ?_
 refine SC.nilrow eMB 60 ?_
 refine .loop (X := Int × (List MB) × Value × (List MB) × Value) (fun ⟨i, MO, u_MO, MI, u_MI⟩ => 0 ≤ i ∧ i ≤ n ∧ mmL MO = List.replicate i.toNat [] ∧ mmL MI = List.replicate i.toNat []) (fun ⟨i, MO, u_MO, MI, u_MI⟩ => [(0, .pointer (some ⟨b, 0, none⟩)), (2, .pointer none), (3, .int .i64 n), (4, .pointer (some ⟨b2, 0, none⟩)), (22, .int .i64 n), (23, .int .i64 i)]) (fun ⟨i, MO, u_MO, MI, u_MI⟩ => [rw_ eMB 60 (u_MO) MO, rw_ eMB 60 (u_MI) MI, nestM MO, nestM MI, cel b2 [u_MO, u_MI, .slice none 0 0, .slice (some ⟨b1, 0, none⟩) ((n).toNat) ((n).toNat)] 59, rw_ eB 4 (.slice (some ⟨b1, 0, none⟩) ((n).toNat) ((n).toNat)) (List.replicate ((n).toNat) false), cel b [.slice fA fi.length fc, .slice eA ed.length ec] 83]) (fun _ => S) (fun _ => wf) (fun ⟨i, MO, u_MO, MI, u_MI⟩ => (n - i).toNat) (fun a_ w_ hs_ hw_ => ⟨⟨0, ([] : List MB), .slice none 0 0, ([] : List MB), .slice none 0 0⟩, (by (try dsimp only); exact ⟨oO, oO, G, G⟩), hs_.mono (Sub.get (.c4 G G G G (.c G (.c G .n)))), hw_.keep (.d (.d (.d (.c .h .n))))⟩) (fun ⟨i, MO, u_MO, MI, u_MI⟩ ⟨q_0, q_1, q_2, q_3⟩ => ?_)
 try dsimp only
 have hmo := congrArg List.length q_2
 have hmi := congrArg List.length q_3
 rw [mmL_len, List.length_replicate] at hmo hmi
 refine .seq (.region (.e G G G G G (.go idQ (.seq (.condI G bD (fun h3 => ?_) (fun h3 => ?_))))))
 ·
  refine .skipgo idQ (.seq (.block ?_))
  refine SC.draw mo [rw_ eMB 60 (u_MO) MO, rw_ eMB 60 (u_MI) MI, cel b2 [u_MO, u_MI, .slice none 0 0, .slice (some ⟨b1, 0, none⟩) ((n).toNat) ((n).toNat)] 59] [(18, fun w => At w b2 0 [u_MO, u_MI, .slice none 0 0, .slice (some ⟨b1, 0, none⟩) ((n).toNat) ((n).toNat)])] (.d (.c (.t2 .h) .n)) (fun w_ _ hw_ => (sc1 (At.whole 2 G w_ hw_) sc0)) (fun wf_4 hl_4 hx_4 hR_4 => ?_)
  refine SR.cutx (X := (Option Addr) × Nat × Nat × (Option Addr) × Nat × Nat × Nat × Nat) (fun (yA5, yb6, yc7, yA8, yb9, yc10, yb11, yb12) => ([(0, .pointer (some ⟨b, 0, none⟩)), (2, .pointer none), (3, .int .i64 n), (4, .pointer (some ⟨b2, 0, none⟩)), (22, .int .i64 n), (23, .int .i64 i), (24, .bool (decide (i < n)))], [cel b2 [.slice yA5 ((MO ++ [(MB.mk yb6 [])]).length) yc7, .slice yA8 ((MI ++ [(MB.mk yb9 [])]).length) yc10, .slice none 0 0, .slice (some ⟨b1, 0, none⟩) ((n).toNat) ((n).toNat)] 59, rw_ eMB 60 (.slice yA8 ((MI ++ [(MB.mk yb9 [])]).length) yc10) (MI ++ [(MB.mk yb9 [])]), rw_ eMB 60 (.slice (some ⟨yb11, 0, none⟩) 1 1) [(MB.mk yb9 [])], mp keZ.f (.int .i64) yb9 ([] : List (Int × Int)), rw_ eMB 60 (.slice yA5 ((MO ++ [(MB.mk yb6 [])]).length) yc7) (MO ++ [(MB.mk yb6 [])]), rw_ eMB 60 (.slice (some ⟨yb12, 0, none⟩) 1 1) [(MB.mk yb6 [])], mp keZ.f (.int .i64) yb6 ([] : List (Int × Int)), nestM MO, nestM MI, rw_ eB 4 (.slice (some ⟨b1, 0, none⟩) ((n).toNat) ((n).toNat)) (List.replicate ((n).toNat) false), cel b [.slice fA fi.length fc, .slice eA ed.length ec] 83])) S wf (fun ⟨yA5, yb6, yc7, yA8, yb9, yc10, yb11, yb12⟩ => ?_) (fun key13 => ?_)
  ·
   try dsimp only
   refine SQ.go idQ ?_
   refine .region (.p ((i + 1)) oO oO G G G G G (.m G G G ?_))
   exact SP.nil (SQ.snocM (.c (.t4 (.t2 .h)) (.c (.t4 (.t2 .h)) .n)) <| SQ.snocM (.c (.t4 .h) (.c (.t4 (.t2 .h)) .n)) <| (SQ.roundb (X := Int × (List MB) × Value × (List MB) × Value) (x := (i, MO, u_MO, MI, u_MI)) ⟨(i + 1), (MO ++ [(MB.mk yb6 [])]), .slice yA5 ((MO ++ [(MB.mk yb6 [])]).length) yc7, (MI ++ [(MB.mk yb9 [])]), .slice yA8 ((MI ++ [(MB.mk yb9 [])]).length) yc10⟩ (by (try dsimp only); exact ⟨oO, oO, (by unfold mmL at *; rw [List.map_append, q_2]; exact (rep_snoc q_0).symm), (by unfold mmL at *; rw [List.map_append, q_3]; exact (rep_snoc q_0).symm)⟩) dO (Sub.get (.c4 G G G G (.c G (.c G .n)))) (kp (.c (.t4 (.t .h)) (.c (.t2 (.t .h)) (.c (.t .h) (.d (.c (.t2 .h) (.c (.t2 .h) .n)))))))))
  refine SR.join (X := Value × Nat × Nat × Value × Nat × Nat) (fun (zv14, zb15, zb16, zv17, zb18, zb19) => ([(0, .pointer (some ⟨b, 0, none⟩)), (2, .pointer none), (3, .int .i64 n), (4, .pointer (some ⟨b2, 0, none⟩)), (22, .int .i64 n), (23, .int .i64 i), (24, .bool (decide (i < n))), (26, .pointer (some ⟨b2, 0, none⟩)), (33, zv17), (40, zv14), (42, .pointer (some ⟨b2, 0, none⟩))], [rw_ eMB 60 (zv14) (MI ++ [(MB.mk zb15 [])]), rw_ eMB 60 (.slice (some ⟨zb16, 0, none⟩) 1 1) [(MB.mk zb15 [])], mp keZ.f (.int .i64) zb15 ([] : List (Int × Int)), rw_ eMB 60 (zv17) (MO ++ [(MB.mk zb18 [])]), rw_ eMB 60 (.slice (some ⟨zb19, 0, none⟩) 1 1) [(MB.mk zb18 [])], mp keZ.f (.int .i64) zb18 ([] : List (Int × Int)), cel b2 [u_MO, u_MI, .slice none 0 0, .slice (some ⟨b1, 0, none⟩) ((n).toNat) ((n).toNat)] 59])) 4 #[true, true, true, true, true, true, true, true, true, true, true, true, true, true, true, true, true, true, false, false, false, false] (fun ⟨zv14, zb15, zb16, zv17, zb18, zb19⟩ => ?_) (fun key20 => ?_)
  ·
   show SR _ _ _ _ _ _ _ _ _ ⟨[(0, .pointer (some ⟨b, 0, none⟩)), (2, .pointer none), (3, .int .i64 n), (4, .pointer (some ⟨b2, 0, none⟩)), (22, .int .i64 n), (23, .int .i64 i), (24, .bool (decide (i < n))), (26, .pointer (some ⟨b2, 0, none⟩)), (33, zv17), (40, zv14), (42, .pointer (some ⟨b2, 0, none⟩))], [rw_ eMB 60 (zv14) (MI ++ [(MB.mk zb15 [])]), rw_ eMB 60 (.slice (some ⟨zb16, 0, none⟩) 1 1) [(MB.mk zb15 [])], mp keZ.f (.int .i64) zb15 ([] : List (Int × Int)), rw_ eMB 60 (zv17) (MO ++ [(MB.mk zb18 [])]), rw_ eMB 60 (.slice (some ⟨zb19, 0, none⟩) 1 1) [(MB.mk zb18 [])], mp keZ.f (.int .i64) zb18 ([] : List (Int × Int)), cel b2 [u_MO, u_MI, .slice none 0 0, .slice (some ⟨b1, 0, none⟩) ((n).toNat) ((n).toNat)] 59], _, _⟩
   refine .know (row_len 3 G) (fun hv23 => ?_)
   obtain ⟨A21, c22, rfl, hv23_1, hv23_2⟩ := hv23
   unfold maxLen at hv23_2
   refine SR.o 18 G (st_store1 G G G ty57 G G G (.t4 (.t2 .h)) .h ⟨ttc (fun w_ hw_ => (tc2 kR tc0)), ?_⟩)
   refine SR.z 19 G G (ev_nil G G) ?_
   refine SR.z 20 G G (ev_fa G fo59_1 G (r := 1) G) ?_
   refine .know (row_len 1 G) (fun hv26 => ?_)
   obtain ⟨A24, c25, rfl, hv26_1, hv26_2⟩ := hv26
   unfold maxLen at hv26_2
   refine SR.o 21 G (st_store1 G G G ty57 G G G .h (.t .h) ⟨ttc (fun w_ hw_ => (tc2 kR tc0)), ?_⟩)
   refine SR.fin kR hl_4 hx_4 hR_4 (.c (.c (.c (.c (.c (.c (.c .n))))))) ?_
   exact SQ.weak (key13 (A21, zb18, c22, A24, zb15, c25, zb16, zb19)) (Sub.get (.c4 G G G G (.c G (.c G (.c G .n))))) (kp (.d (.d (.d (.d (.d (.c .h .n)))))))
  refine SR.m 0 G G G G ?_
  refine SR.m 1 G G G G ?_
  refine SR.m 2 G G G G ?_
  refine SR.z 3 G G (ev_nil G G) ?_
  refine SR.z 4 G G (ev_fa G fo59_0 G (r := 0) G) ?_
  refine SR.z 5 G G (ev_ld1 G ty57 G (At.elem1 (v := u_MO) (At.ofcs 0 G kR) 0 G)) ?_
  refine SR.m 9 G G G G ?_
  refine SR.z 10 G G (ev_nil G G) ?_
  refine SR.z 11 G G (ev_fa G fo59_1 G (r := 1) G) ?_
  refine SR.z 12 G G (ev_ld1 G ty57 G (At.elem1 (v := u_MI) (At.ofcs 0 G kR) 1 G)) ?_
  refine SR.two (i := 6) (j := 13) kR ⟨_, G, ?_⟩ ⟨_, G, ?_⟩
  ·
   refine st_mkmap (α := Int) (β := Int) keZ.f (.int .i64) G G G G (fun b27 => ⟨ttw 3 G, ?_⟩)
   refine SR.two (i := 7) (j := 13) kR ⟨_, G, ?_⟩ ⟨_, G, ?_⟩
   ·
    refine st_lit eMB (e := 60) (l := [(MB.mk b27 [])]) G G G G kR G G kW (fun b28 => ⟨ttw 4 G, ?_⟩)
    refine SR.two (i := 8) (j := 13) kR ⟨_, G, ?_⟩ ⟨_, G, ?_⟩
    ·
     refine st_app (E := eMB) (m := [(MB.mk b27 [])]) G G G G underlying57 ai60 G G G (.t2 .h) rO (row_src 0 G) lO G (fun v29 => ⟨ttw 4 G, ?_⟩)
     refine SR.o 13 G (st_mkmap (α := Int) (β := Int) keZ.f (.int .i64) G G G G (fun b30 => ⟨ttw 5 G, ?_⟩))
     refine SR.o 14 G (st_lit eMB (e := 60) (l := [(MB.mk b30 [])]) G G G G kR G G kW (fun b31 => ⟨ttw 6 G, ?_⟩))
     refine SR.o 15 G (st_app (E := eMB) (m := [(MB.mk b30 [])]) G G G G underlying57 ai60 G G G (.t4 (.t .h)) rO (row_src 0 G) lO G (fun v32 => ⟨ttw 6 G, ?_⟩))
     refine SR.z 16 G G (ev_nil G G) ?_
     refine SR.z 17 G G (ev_fa G fo59_0 G (r := 0) G) ?_
     exact SR.weakj (key20 (v32, b30, b31, v29, b27, b28)) kR (Sub.get (.c4 G G G G (.c4 G G G G (.c G (.c G (.c G .n)))))) (kp (.d (.d (.d (.c .h .n)))))
    refine st_mkmap (α := Int) (β := Int) keZ.f (.int .i64) G G G G (fun b33 => ⟨ttw 5 G, ?_⟩)
    refine SR.two (i := 8) (j := 14) kR ⟨_, G, ?_⟩ ⟨_, G, ?_⟩
    ·
     refine st_app (E := eMB) (m := [(MB.mk b27 [])]) G G G G underlying57 ai60 G G G (.t2 (.t .h)) rO (row_src 1 G) lO G (fun v34 => ⟨ttw 5 G, ?_⟩)
     refine SR.o 14 G (st_lit eMB (e := 60) (l := [(MB.mk b33 [])]) G G G G kR G G kW (fun b35 => ⟨ttw 6 G, ?_⟩))
     refine SR.o 15 G (st_app (E := eMB) (m := [(MB.mk b33 [])]) G G G G underlying57 ai60 G G G (.t4 (.t .h)) rO (row_src 0 G) lO G (fun v36 => ⟨ttw 6 G, ?_⟩))
     refine SR.z 16 G G (ev_nil G G) ?_
     refine SR.z 17 G G (ev_fa G fo59_0 G (r := 0) G) ?_
     exact SR.weakj (key20 (v36, b33, b35, v34, b27, b28)) kR (Sub.get (.c4 G G G G (.c4 G G G G (.c G (.c G (.c G .n)))))) (kp (.d (.c (.t .h) (.d (.d .n)))))
    refine st_lit eMB (e := 60) (l := [(MB.mk b33 [])]) G G G G kR G G kW (fun b37 => ⟨ttw 6 G, ?_⟩)
    refine SR.o 8 G (st_app (E := eMB) (m := [(MB.mk b27 [])]) G G G G underlying57 ai60 G G G (.t4 .h) rO (row_src 2 G) lO G (fun v38 => ⟨ttw 6 G, ?_⟩))
    refine SR.o 15 G (st_app (E := eMB) (m := [(MB.mk b33 [])]) G G G G underlying57 ai60 G G G (.t4 (.t .h)) rO (row_src 1 G) lO G (fun v39 => ⟨ttw 6 G, ?_⟩))
    refine SR.z 16 G G (ev_nil G G) ?_
    refine SR.z 17 G G (ev_fa G fo59_0 G (r := 0) G) ?_
    exact SR.weakj (key20 (v39, b33, b37, v38, b27, b28)) kR (Sub.get (.c4 G G G G (.c4 G G G G (.c G (.c G (.c G .n)))))) (kp (.c .h (.c (.t .h) (.c (.t .h) (.d (.d .n))))))
   refine st_mkmap (α := Int) (β := Int) keZ.f (.int .i64) G G G G (fun b40 => ⟨ttw 4 G, ?_⟩)
   refine SR.two (i := 7) (j := 14) kR ⟨_, G, ?_⟩ ⟨_, G, ?_⟩
   ·
    refine st_lit eMB (e := 60) (l := [(MB.mk b27 [])]) G G G G kR G G kW (fun b41 => ⟨ttw 5 G, ?_⟩)
    refine SR.two (i := 8) (j := 14) kR ⟨_, G, ?_⟩ ⟨_, G, ?_⟩
    ·
     refine st_app (E := eMB) (m := [(MB.mk b27 [])]) G G G G underlying57 ai60 G G G (.t2 (.t .h)) rO (row_src 0 G) lO G (fun v42 => ⟨ttw 5 G, ?_⟩)
     refine SR.o 14 G (st_lit eMB (e := 60) (l := [(MB.mk b40 [])]) G G G G kR G G kW (fun b43 => ⟨ttw 6 G, ?_⟩))
     refine SR.o 15 G (st_app (E := eMB) (m := [(MB.mk b40 [])]) G G G G underlying57 ai60 G G G (.t4 (.t .h)) rO (row_src 0 G) lO G (fun v44 => ⟨ttw 6 G, ?_⟩))
     refine SR.z 16 G G (ev_nil G G) ?_
     refine SR.z 17 G G (ev_fa G fo59_0 G (r := 0) G) ?_
     exact SR.weakj (key20 (v44, b40, b43, v42, b27, b41)) kR (Sub.get (.c4 G G G G (.c4 G G G G (.c G (.c G (.c G .n)))))) (kp (.d (.c (.t2 .h) (.d (.d .n)))))
    refine st_lit eMB (e := 60) (l := [(MB.mk b40 [])]) G G G G kR G G kW (fun b45 => ⟨ttw 6 G, ?_⟩)
    refine SR.o 8 G (st_app (E := eMB) (m := [(MB.mk b27 [])]) G G G G underlying57 ai60 G G G (.t4 .h) rO (row_src 1 G) lO G (fun v46 => ⟨ttw 6 G, ?_⟩))
    refine SR.o 15 G (st_app (E := eMB) (m := [(MB.mk b40 [])]) G G G G underlying57 ai60 G G G (.t4 (.t .h)) rO (row_src 1 G) lO G (fun v47 => ⟨ttw 6 G, ?_⟩))
    refine SR.z 16 G G (ev_nil G G) ?_
    refine SR.z 17 G G (ev_fa G fo59_0 G (r := 0) G) ?_
    exact SR.weakj (key20 (v47, b40, b45, v46, b27, b41)) kR (Sub.get (.c4 G G G G (.c4 G G G G (.c G (.c G (.c G .n)))))) (kp (.c .h (.c (.t .h) (.c (.t2 .h) (.d (.d .n))))))
   refine st_lit eMB (e := 60) (l := [(MB.mk b40 [])]) G G G G kR G G kW (fun b48 => ⟨ttw 5 G, ?_⟩)
   refine SR.o 7 G (st_lit eMB (e := 60) (l := [(MB.mk b27 [])]) G G G G kR G G kW (fun b49 => ⟨ttw 6 G, ?_⟩))
   refine SR.o 8 G (st_app (E := eMB) (m := [(MB.mk b27 [])]) G G G G underlying57 ai60 G G G (.t4 .h) rO (row_src 0 G) lO G (fun v50 => ⟨ttw 6 G, ?_⟩))
   refine SR.o 15 G (st_app (E := eMB) (m := [(MB.mk b40 [])]) G G G G underlying57 ai60 G G G (.t4 (.t .h)) rO (row_src 2 G) lO G (fun v51 => ⟨ttw 6 G, ?_⟩))
   refine SR.z 16 G G (ev_nil G G) ?_
   refine SR.z 17 G G (ev_fa G fo59_0 G (r := 0) G) ?_
   exact SR.weakj (key20 (v51, b40, b48, v50, b27, b49)) kR (Sub.get (.c4 G G G G (.c4 G G G G (.c G (.c G (.c G .n)))))) (kp (.c .h (.c (.t2 .h) (.c (.t2 .h) (.d (.d .n))))))
  refine st_mkmap (α := Int) (β := Int) keZ.f (.int .i64) G G G G (fun b52 => ⟨ttw 3 G, ?_⟩)
  refine SR.two (i := 6) (j := 14) kR ⟨_, G, ?_⟩ ⟨_, G, ?_⟩
  ·
   refine st_mkmap (α := Int) (β := Int) keZ.f (.int .i64) G G G G (fun b53 => ⟨ttw 4 G, ?_⟩)
   refine SR.two (i := 7) (j := 14) kR ⟨_, G, ?_⟩ ⟨_, G, ?_⟩
   ·
    refine st_lit eMB (e := 60) (l := [(MB.mk b53 [])]) G G G G kR G G kW (fun b54 => ⟨ttw 5 G, ?_⟩)
    refine SR.two (i := 8) (j := 14) kR ⟨_, G, ?_⟩ ⟨_, G, ?_⟩
    ·
     refine st_app (E := eMB) (m := [(MB.mk b53 [])]) G G G G underlying57 ai60 G G G (.t2 (.t .h)) rO (row_src 0 G) lO G (fun v55 => ⟨ttw 5 G, ?_⟩)
     refine SR.o 14 G (st_lit eMB (e := 60) (l := [(MB.mk b52 [])]) G G G G kR G G kW (fun b56 => ⟨ttw 6 G, ?_⟩))
     refine SR.o 15 G (st_app (E := eMB) (m := [(MB.mk b52 [])]) G G G G underlying57 ai60 G G G (.t4 (.t .h)) rO (row_src 0 G) lO G (fun v57 => ⟨ttw 6 G, ?_⟩))
     refine SR.z 16 G G (ev_nil G G) ?_
     refine SR.z 17 G G (ev_fa G fo59_0 G (r := 0) G) ?_
     exact SR.weakj (key20 (v57, b52, b56, v55, b53, b54)) kR (Sub.get (.c4 G G G G (.c4 G G G G (.c G (.c G (.c G .n)))))) (kp (.d (.c (.t2 (.t .h)) (.d (.d .n)))))
    refine st_lit eMB (e := 60) (l := [(MB.mk b52 [])]) G G G G kR G G kW (fun b58 => ⟨ttw 6 G, ?_⟩)
    refine SR.o 8 G (st_app (E := eMB) (m := [(MB.mk b53 [])]) G G G G underlying57 ai60 G G G (.t4 .h) rO (row_src 1 G) lO G (fun v59 => ⟨ttw 6 G, ?_⟩))
    refine SR.o 15 G (st_app (E := eMB) (m := [(MB.mk b52 [])]) G G G G underlying57 ai60 G G G (.t4 (.t .h)) rO (row_src 1 G) lO G (fun v60 => ⟨ttw 6 G, ?_⟩))
    refine SR.z 16 G G (ev_nil G G) ?_
    refine SR.z 17 G G (ev_fa G fo59_0 G (r := 0) G) ?_
    exact SR.weakj (key20 (v60, b52, b58, v59, b53, b54)) kR (Sub.get (.c4 G G G G (.c4 G G G G (.c G (.c G (.c G .n)))))) (kp (.c .h (.c (.t .h) (.c (.t2 (.t .h)) (.d (.d .n))))))
   refine st_lit eMB (e := 60) (l := [(MB.mk b52 [])]) G G G G kR G G kW (fun b61 => ⟨ttw 5 G, ?_⟩)
   refine SR.o 7 G (st_lit eMB (e := 60) (l := [(MB.mk b53 [])]) G G G G kR G G kW (fun b62 => ⟨ttw 6 G, ?_⟩))
   refine SR.o 8 G (st_app (E := eMB) (m := [(MB.mk b53 [])]) G G G G underlying57 ai60 G G G (.t4 .h) rO (row_src 0 G) lO G (fun v63 => ⟨ttw 6 G, ?_⟩))
   refine SR.o 15 G (st_app (E := eMB) (m := [(MB.mk b52 [])]) G G G G underlying57 ai60 G G G (.t4 (.t .h)) rO (row_src 2 G) lO G (fun v64 => ⟨ttw 6 G, ?_⟩))
   refine SR.z 16 G G (ev_nil G G) ?_
   refine SR.z 17 G G (ev_fa G fo59_0 G (r := 0) G) ?_
   exact SR.weakj (key20 (v64, b52, b61, v63, b53, b62)) kR (Sub.get (.c4 G G G G (.c4 G G G G (.c G (.c G (.c G .n)))))) (kp (.c .h (.c (.t2 .h) (.c (.t2 (.t .h)) (.d (.d .n))))))
  refine st_lit eMB (e := 60) (l := [(MB.mk b52 [])]) G G G G kR G G kW (fun b65 => ⟨ttw 4 G, ?_⟩)
  refine SR.o 6 G (st_mkmap (α := Int) (β := Int) keZ.f (.int .i64) G G G G (fun b66 => ⟨ttw 5 G, ?_⟩))
  refine SR.o 7 G (st_lit eMB (e := 60) (l := [(MB.mk b66 [])]) G G G G kR G G kW (fun b67 => ⟨ttw 6 G, ?_⟩))
  refine SR.o 8 G (st_app (E := eMB) (m := [(MB.mk b66 [])]) G G G G underlying57 ai60 G G G (.t4 .h) rO (row_src 0 G) lO G (fun v68 => ⟨ttw 6 G, ?_⟩))
  refine SR.o 15 G (st_app (E := eMB) (m := [(MB.mk b52 [])]) G G G G underlying57 ai60 G G G (.t4 (.t .h)) rO (row_src 3 G) lO G (fun v69 => ⟨ttw 6 G, ?_⟩))
  refine SR.z 16 G G (ev_nil G G) ?_
  refine SR.z 17 G G (ev_fa G fo59_0 G (r := 0) G) ?_
  exact SR.weakj (key20 (v69, b52, b65, v68, b66, b67)) kR (Sub.get (.c4 G G G G (.c4 G G G G (.c G (.c G (.c G .n)))))) (kp (.c .h (.c (.t2 (.t .h)) (.c (.t2 (.t .h)) (.d (.d .n))))))
 refine .exit idQ ?_
 refine SC.seqx (X := Nat × Nat × (Option Addr) × Nat × Nat × (Option Addr) × Nat × Nat × Value × (List LK) × (List MB) × (List MB)) (fun ⟨wb, zb, oA, on, oc, iA, ik, ic, u, K, M1, M2⟩ => ((GS.mk (mmL M1) (mmL M2) K (List.replicate n.toNat false)) = (G1 n fi ed)) ∧ (M1.length = on) ∧ (M2.length = ik) ∧ ((on : Int) = n) ∧ ((ik : Int) = n)) (fun ⟨wb, zb, oA, on, oc, iA, ik, ic, u, K, M1, M2⟩ => ([(0, .pointer (some ⟨b, 0, none⟩)), (3, .int .i64 n), (4, .pointer (some ⟨wb, 0, none⟩))], [rw_ eLK 37 (u) K, rw_ eMB 60 (.slice oA on oc) M1, rw_ eMB 60 (.slice iA ik ic) M2, nestM M1, nestM M2, cel wb [.slice oA on oc, .slice iA ik ic, u, .slice (some ⟨zb, 0, none⟩) n.toNat n.toNat] 59, rw_ eB 4 (.slice (some ⟨zb, 0, none⟩) n.toNat n.toNat) (List.replicate n.toNat false), cel b [.slice fA fi.length fc, .slice eA ed.length ec] 83])) S wf (fun ⟨wb, zb, oA, on, oc, iA, ik, ic, u, K, M1, M2⟩ hk157 => ?_) (fun key156 => ?_)
 ·
  obtain ⟨j_0, j_1, j_2, j_3, j_4⟩ := hk157
  exact build__s18 n t b fA fc fi eA ec ed _ _ hF hE hT hGr hec wb zb oA on oc iA ik ic u K M1 M2 j_0 j_1 j_2 j_3 j_4 _
 refine .seq (.know (row_len 0 G) (fun hv160 => ?_))
 obtain ⟨A158, c159, rfl, hv160_1, hv160_2⟩ := hv160
 unfold maxLen at hv160_2
 refine .know (row_len 1 G) (fun hv163 => ?_)
 obtain ⟨A161, c162, rfl, hv163_1, hv163_2⟩ := hv163
 unfold maxLen at hv163_2
 refine .region (.m G G G (.m G G G (.go idQ (.block ?_))))
 refine SC.nilrow eLK 37 ?_
 refine .loop (X := Int × (List LK) × Value × (List MB) × (List MB)) (fun ⟨p, K, u_K, M1, M2⟩ => 0 ≤ p ∧ p ≤ n ∧ (GS.mk (mmL M1) (mmL M2) K (List.replicate n.toNat false)) = linksG (G0 n) (bL fi ed p) ∧ (M1.length : Int) = n ∧ (M2.length : Int) = n) (fun ⟨p, K, u_K, M1, M2⟩ => [(0, .pointer (some ⟨b, 0, none⟩)), (2, .pointer none), (3, .int .i64 n), (4, .pointer (some ⟨b2, 0, none⟩)), (22, .int .i64 n), (23, .int .i64 i), (46, .int .i64 n), (47, .int .i64 p)]) (fun ⟨p, K, u_K, M1, M2⟩ => [rw_ eLK 37 (u_K) K, rw_ eMB 60 (.slice A158 MO.length c159) M1, rw_ eMB 60 (.slice A161 MI.length c162) M2, nestM M1, nestM M2, cel b2 [.slice A158 MO.length c159, .slice A161 MI.length c162, u_K, .slice (some ⟨b1, 0, none⟩) ((n).toNat) ((n).toNat)] 59, rw_ eB 4 (.slice (some ⟨b1, 0, none⟩) ((n).toNat) ((n).toNat)) (List.replicate ((n).toNat) false), cel b [.slice fA fi.length fc, .slice eA ed.length ec] 83]) (fun _ => S) (fun _ => wf) (fun ⟨p, K, u_K, M1, M2⟩ => (n - p).toNat) (fun a_ w_ hs_ hw_ => ⟨⟨0, ([] : List LK), .slice none 0 0, MO, MI⟩, (by (try dsimp only); exact ⟨oO, oO, (by rw [q_2, q_3, show i = n from by omega]; rfl), (by have h_ := congrArg List.length q_2; rw [mmL_len, List.length_replicate] at h_; omega), (by have h_ := congrArg List.length q_3; rw [mmL_len, List.length_replicate] at h_; omega)⟩), hs_.mono (Sub.get (.c4 G G G G (.c4 G G G G .n))), hw_.keep (.d (.d (.d (.d .n))))⟩) (fun ⟨p, K, u_K, M1, M2⟩ ⟨r_0, r_1, r_2, r_3, r_4⟩ => ?_)
 try dsimp only
 refine .seq (.region (.e G G G G G (.go idQ (.seq (.condI G bD (fun h164 => ?_) (fun h164 => ?_))))))
 ·
  refine .skipgo idQ (.seq (.block (.seq (.region (.m G G G (.a G G G (.go idQ (.seq (.region ?_)))))))))
  refine .m G G G (.m G G G (.cons (st_call0 G G G G hbd25 G (.c (.t4 (.t2 (.t .h))) .n) (gout_ b fA fc fi eA ec ed p _ _ hF hE lO (hGr.rng p oO oO) oO) (fun v_q166 C_q166 q166 => ?_))))
  obtain ⟨u165, rfl, rfl⟩ := q166
  show SP _ _ _ _ _ _ ⟨_, _ :: _ :: _, _, _⟩
  refine .know (row_len 1 G) (fun hv169 => ?_)
  obtain ⟨A167, c168, rfl, hv169_1, hv169_2⟩ := hv169
  unfold maxLen at hv169_2
  refine .g underlying61 G G G (.m G G G (.go idQ (.block (.loop (X := Int × (List LK) × Value × (List MB) × (List MB)) (fun ⟨j, K2, u_K2, M3, M4⟩ => 0 ≤ j ∧ j ≤ ((outL fi ed p).length : Int) ∧ (GS.mk (mmL M3) (mmL M4) K2 (List.replicate n.toNat false)) = linksG (G0 n) (bL fi ed p ++ (bEp fi ed p).take j.toNat) ∧ (M3.length : Int) = n ∧ (M4.length : Int) = n) (fun ⟨j, K2, u_K2, M3, M4⟩ => [(0, .pointer (some ⟨b, 0, none⟩)), (2, .pointer none), (3, .int .i64 n), (4, .pointer (some ⟨b2, 0, none⟩)), (22, .int .i64 n), (23, .int .i64 i), (46, .int .i64 n), (47, .int .i64 p), (5, .int .i64 p), (52, .slice A167 ((outL fi ed p).length) c168), (53, .int .i64 (((outL fi ed p).length : Nat) : Int)), (54, .int .i64 j)]) (fun ⟨j, K2, u_K2, M3, M4⟩ => [cel b [.slice fA fi.length fc, .slice eA ed.length ec] 83, rw_ eEG 64 (.slice A167 ((outL fi ed p).length) c168) (outL fi ed p), rw_ eLK 37 (u_K2) K2, rw_ eMB 60 (.slice A158 MO.length c159) M3, rw_ eMB 60 (.slice A161 MI.length c162) M4, nestM M3, nestM M4, cel b2 [.slice A158 MO.length c159, .slice A161 MI.length c162, u_K2, .slice (some ⟨b1, 0, none⟩) ((n).toNat) ((n).toNat)] 59, rw_ eB 4 (.slice (some ⟨b1, 0, none⟩) ((n).toNat) ((n).toNat)) (List.replicate ((n).toNat) false)]) (fun _ => S) (fun _ => wf) (fun ⟨j, K2, u_K2, M3, M4⟩ => (((outL fi ed p).length : Int) - j).toNat) (fun a_ w_ hs_ hw_ => ⟨⟨0, K, u_K, M1, M2⟩, (by (try dsimp only); exact ⟨oO, oO, (by rw [r_2]; simp), r_3, r_4⟩), hs_.mono (Sub.get (.c4 G G G G (.c4 G G G G (.c4 G G G G .n)))), hw_.keep (.d (.d (.d (.d (.c .h .n)))))⟩) (fun ⟨j, K2, u_K2, M3, M4⟩ ⟨s_0, s_1, s_2, s_3, s_4⟩ => ?_)))))
  try dsimp only
  have hpk := pre_ok hT hGr (p := p) (j := j.toNat) oO oO (.inl oO)
  rw [← s_2] at hpk
  have hkb2 : (K2.length : Int) ≤ 8448 := hpk.2.2
  refine .seq (.region (.e G G G G G (.go idQ (.seq (.condI G bD (fun h170 => ?_) (fun h170 => ?_))))))
  ·
   refine .skipgo idQ (.seq (.block (.seq (.region (.v (ev_ix G underlying61 ty64 G G oO oO (row_adr (i := j) 1 G oO lO)) G (.v (ev_lda G G (row_el (E := eEG) (l := (outL fi ed p)) (i := j) 1 G oO lO) ty64) G (.cons (st_alloc G G G G zf64 (fun b171 => ?_)))))))))
   refine .cons (st_storea (l' := [.int .i64 ((gt (outL fi ed p) j).et), .int .i64 ((gt (outL fi ed p) j).ew)]) G G G ty64 G G G .h G G ?_)
   refine .go idQ ?_
   have hge := hGr.ok p oO oO _ (gtM (l := outL fi ed p) (i := j) oO oO)
   refine .region (.m G G G (.m G G G (.f fo64_0 0 G G G G ?_)))
   refine .l ty3 0 G G G G G (.f fo64_1 1 G G G G (.l ty3 0 G G G G G (.v (ev_any (v := .agg #[.int .i64 p, .int .i64 ((gt (outL fi ed p) j).et), .int .i64 ((gt (outL fi ed p) j).ew), .int .i64 (-1)]) G kR (fun _ => by kernel_rfl)) G ?_)))
   refine .know (row_len 3 G) (fun hv174 => ?_)
   obtain ⟨A172, c173, rfl, hv174_1, hv174_2⟩ := hv174
   unfold maxLen at hv174_2
   refine .cons (st_call0 G G G G hbd26 G (.c (.t4 (.t4 .h)) (.c (.t4 .h) (.c (.t4 .h) (.c (.t2 (.t .h)) (.c (.t2 (.t .h)) (.c (.t2 (.t .h)) .n)))))) (link_ n b2 A158 MO.length c159 M3 A161 MI.length c162 M4 A172 K2.length c173 K2 (some ⟨b1, 0, none⟩) ((n).toNat) ((n).toNat) (List.replicate ((n).toNat) false) (LK.mk p ((gt (outL fi ed p) j).et) ((gt (outL fi ed p) j).ew) (-1)) _ _ hpk.1 oO ⟨by omega, by omega, hge.1, hge.2.1⟩ oO) (fun v_q179 C_q179 q179 => ?_))
   obtain ⟨u175, MO2176, MI2177, K2178, p180, p181, p182, rfl, rfl⟩ := q179
   show SP _ _ _ _ _ _ ⟨_, _ :: _ :: _ :: _ :: _ :: _ :: _, _, _⟩
   refine .go idQ (.region (.p ((j + 1)) oO oO G G G G G (.m G G G ?_)))
   exact SP.nil (SQ.roundb (X := Int × (List LK) × Value × (List MB) × (List MB)) (x := (j, K2, (.slice A172 K2.length c173), M3, M4)) ⟨(j + 1), K2178, u175, MO2176, MI2177⟩ (by (try dsimp only); exact ⟨oO, oO, (pre_step s_2 oO oO p180), (by rw [p181]; exact s_3), (by rw [p182]; exact s_4)⟩) dO (Sub.get (.c4 G G G G (.c4 G G G G (.c4 G G G G .n)))) (kp (.c (.t4 (.t2 (.t .h))) (.c (.t4 (.t2 (.t .h))) (.c (.t2 (.t .h)) (.c (.t .h) (.c (.t .h) (.c (.t .h) (.c (.t .h) (.c .h (.c (.t .h) .n)))))))))))
  refine .exit idQ ?_
  refine .region (.p ((p + 1)) oO oO G G G G G (.m G G G ?_))
  exact SP.nil (SQ.roundb (X := Int × (List LK) × Value × (List MB) × (List MB)) (x := (p, K, u_K, M1, M2)) ⟨(p + 1), K2, u_K2, M3, M4⟩ (by (try dsimp only); exact ⟨oO, oO, (pre_end s_2 oO oO), s_3, s_4⟩) dO (Sub.get (.c4 G G G G (.c4 G G G G .n))) (kp (.c (.t2 .h) (.c (.t2 .h) (.c (.t2 .h) (.c (.t2 .h) (.c (.t2 .h) (.c (.t2 .h) (.c (.t2 .h) (.c .h .n))))))))))
 refine .exit idQ ?_
 exact SC.weak (key156 ⟨b2, b1, A158, MO.length, c159, A161, MI.length, c162, u_K, K, M1, M2⟩ ⟨(by have h_ := r_2; rw [show p = n from by omega] at h_; exact h_), oO, oO, oO, oO⟩) (Sub.get (.c G (.c G (.c G .n)))) (kp (.d (.d (.d (.d .n)))))
end Go.Proofs.Ytlefdinbbjiabaa.Sx
