import Derived.Test.YtpjblnmophcdmaaProg
import Derived.Test.YtpjblnmophcdmaaS6
set_option linter.unusedVariables false
set_option linter.unusedSimpArgs false
set_option linter.unusedSectionVars false
set_option maxRecDepth 20000
set_option maxHeartbeats 8000000
namespace Go.Proofs.Ytpjblnmophcdmaa.Sx.FQ
open Go Go.SX Go.Proofs Go.Proofs.Try FA FB FC FD FE FF FG FH FI FJ FK FL FM FN FO FP
theorem ai4 : (prog.info? 4).map (fun i => (i.zero, i.size, i.bytes)) = some (some (.bool false), 1, 1) := by kernel_rfl
theorem ai68 : (prog.info? 68).map (fun i => (i.zero, i.size, i.bytes)) = some (some (.map none), 1, 8) := by kernel_rfl
theorem ai27 : (prog.info? 27).map (fun i => (i.zero, i.size, i.bytes)) = some (some (.slice none 0 0), 1, 24) := by kernel_rfl
theorem fo76_1 : fo prog 76 1 = some 1 := by kernel_rfl
theorem fo76_0 : fo prog 76 0 = some 0 := by kernel_rfl
theorem fo76_2 : fo prog 76 2 = some 2 := by kernel_rfl
theorem ty74 : ty prog 74 = some (false, 1) := by kernel_rfl
theorem fo76_3 : fo prog 76 3 = some 3 := by kernel_rfl
theorem hbd35 : hasBody prog 35 = true := by kernel_rfl
theorem hbd30 : hasBody prog 30 = true := by kernel_rfl
theorem zf72 : (prog.info? 72).bind (fun i => i.zero.map Value.cells) = some (List.toArray [.int .i64 0, .int .i64 0]) := by kernel_rfl
theorem fo72_0 : fo prog 72 0 = some 0 := by kernel_rfl
theorem fo72_1 : fo prog 72 1 = some 1 := by kernel_rfl
end Go.Proofs.Ytpjblnmophcdmaa.Sx.FQ
namespace Go.Proofs.Ytpjblnmophcdmaa.Sx
open Go Go.SX Go.Proofs Go.Proofs.Try FA FB FC FD FE FF FG FH FI FJ FK FL FM FN FO FP FQ
theorem build__s30 (n : Int) (t : List Int) (b : Nat) (fA : Option Addr) (fc : Nat) (fi : List Int) (eA : Option Addr) (ec : Nat) (ed : List EG) (S : Nat → Prop) (wf : World) (hF : Fr eZ S wf fA fi) (hE : Fr eEG S wf eA ed) (hT : TabOk n t) (hGr : GOk n t fi ed) (hec : ed.length ≤ ec) (lb : Nat) (wb : Nat) (rb : Nat) (xb : Nat) (yb : Nat) (wo : Value) (wi : Value) (wk : Value) (wg : Value) (R : List Int) (KK : List LK) (ps : List Int) (j_0 : ∃ f_ G_, NXS ps (pqF (G1 n fi ed) n) (G1 n fi ed) f_ G_ ∧ KK = G_.gl) (j_1 : (ps.length : Int) = n) (j_2 : R = rkL n ps) (V : Env) :
  SC V prog (bodyPost prog Try.f11 (TRp V S wf (fun v_ C_ S_ wf_ => (fun v_ C_ => ∃ (lb : Nat) (v1 : Value) (v2 : Value) (v3 : Value) (v4 : Value) (R : List Int) (K : List LK) (U : List IL) (D : List IL), (LftP n fi ed R K U D) ∧ v_ = .pointer (some ⟨lb, 0, none⟩) ∧ C_ = [cel b [.slice fA fi.length fc, .slice eA ed.length ec] 106, cel lb [v1, v2, v3, v4] 76, rw_ eZ 3 (v1) R, rw_ eLK 44 (v2) K, rw_ eIL 27 (v3) U, rw_ eIL 27 (v4) D, nestIL 3 U, nestIL 3 D]) v_ C_ ∧ S_ = S ∧ wf_ = wf))) 174 (sqR (sqR (sqR (sqR (sqR (sqR (sqR (sqR (sqR (sqR (bodyC Try.f11))))))))))) ⟨[(0, .pointer (some ⟨b, 0, none⟩)), (3, .int .i64 n), (4, .pointer (some ⟨wb, 0, none⟩)), (8, .pointer (some ⟨lb, 0, none⟩))], [cel lb [.slice (some ⟨rb, 0, none⟩) n.toNat n.toNat, .slice none 0 0, .slice (some ⟨xb, 0, none⟩) n.toNat n.toNat, .slice (some ⟨yb, 0, none⟩) n.toNat n.toNat] 76, cel wb [wo, wi, wk, wg] 67, rw_ eZ 3 (.slice (some ⟨rb, 0, none⟩) n.toNat n.toNat) R, rw_ eIL 27 (.slice (some ⟨xb, 0, none⟩) n.toNat n.toNat) (List.replicate n.toNat dIL), rw_ eIL 27 (.slice (some ⟨yb, 0, none⟩) n.toNat n.toNat) (List.replicate n.toNat dIL), rw_ eLK 44 (wk) KK, cel b [.slice fA fi.length fc, .slice eA ed.length ec] 106], S, wf⟩ := by
 have hn1 := hT.pl
 have hfl := hGr.len
 have hne := hGr.ne
 show SC _ _ _ _ (.seq _ _) _
 refine .seq (.region (.m G G G (.m G G G (.v (ev_nil G G) G ?_))))
 refine .f fo67_2 2 G G G G (.l ty41 1 G G G G G (.v (ev_nil G G) G (.f fo76_1 1 G G G G ?_)))
 refine .know (row_len 5 G) (fun hv96 => ?_)
 obtain ⟨A94, c95, rfl, hv96_1, hv96_2⟩ := hv96
 unfold maxLen at hv96_2
 refine .cons (st_store1 G G G ty41 G G G .h (.t .h) ?_)
 refine .go idQ (.seq (.seq ?_))
 refine SC.ILs 3 n.toNat ?_
 refine SC.ILs 3 n.toNat ?_
 obtain ⟨f_, G_, hnx, hKK⟩ := j_0
 have hfin := hnx.at hT hGr
 have hGf := hfin.1
 have hRl : (R.length : Int) = n := by rw [j_2, rkL_len]; omega
 have hkl2 : (KK.length : Int) ≤ 8448 + 1024 * ps.length := by rw [hKK]; exact hfin.2.2.2.2.2
 refine .region (.m G G G (.v (ev_nil G G) G (.f fo76_1 1 G G G G ?_)))
 refine .l ty41 2 G G G G G (.g underlying41 G G G (.m G G G (.go idQ (.block ?_))))
 refine .loop (X := Int × (List IL) × (List IL)) (fun ⟨i5, U, D⟩ => 0 ≤ i5 ∧ i5 ≤ (KK.length : Int) ∧ UD n R KK U D i5) (fun ⟨i5, U, D⟩ => [(0, .pointer (some ⟨b, 0, none⟩)), (3, .int .i64 n), (4, .pointer (some ⟨wb, 0, none⟩)), (8, .pointer (some ⟨lb, 0, none⟩)), (112, .slice A94 KK.length c95), (113, .int .i64 (KK.length : Int)), (114, .int .i64 i5)]) (fun ⟨i5, U, D⟩ => [nestIL 3 U, nestIL 3 D, cel lb [.slice (some ⟨rb, 0, none⟩) n.toNat n.toNat, .slice A94 KK.length c95, .slice (some ⟨xb, 0, none⟩) n.toNat n.toNat, .slice (some ⟨yb, 0, none⟩) n.toNat n.toNat] 76, cel wb [wo, wi, .slice A94 KK.length c95, wg] 67, rw_ eZ 3 (.slice (some ⟨rb, 0, none⟩) n.toNat n.toNat) R, rw_ eIL 27 (.slice (some ⟨xb, 0, none⟩) n.toNat n.toNat) U, rw_ eIL 27 (.slice (some ⟨yb, 0, none⟩) n.toNat n.toNat) D, rw_ eLK 44 (.slice A94 KK.length c95) KK, cel b [.slice fA fi.length fc, .slice eA ed.length ec] 106]) (fun _ => S) (fun _ => wf) (fun ⟨i5, U, D⟩ => ((KK.length : Int) - i5).toNat) (fun a_ w_ hs_ hw_ => ⟨⟨0, (List.replicate n.toNat dIL), (List.replicate n.toNat dIL)⟩, (by (try dsimp only); exact ⟨oO, oO, (ud_0 oO)⟩), hs_.mono (Sub.get (.c4 G G G G (.c G (.c G (.c G .n))))), hw_.keep (.d (.d (.d (.d (.c .h .n)))))⟩) (fun ⟨i5, U, D⟩ ⟨v_0, v_1, v_2⟩ => ?_)
 try dsimp only
 have hul0 := v_2.lu
 have hdl0 := v_2.ld
 refine .seq (.region (.e G G G G G (.go idQ (.seq (.condI G bD (fun h97 => ?_) (fun h97 => ?_))))))
 ·
  refine .skipgo idQ (.seq (.block (.seq (.region (.m G G G (.v (ev_ix G underlying41 ty44 G G oO oO (row_adr (i := i5) 7 G oO oO)) G (.v (ev_lda G G (row_el (E := eLK) (l := KK) (i := i5) 7 G oO oO) ty44) G ?_)))))))
  refine .cons (st_alloc G G G G zf44 (fun b98 => ?_))
  refine .a G G G (.cons (st_storea (l' := [.int .i64 ((gt KK i5).lf), .int .i64 ((gt KK i5).lt), .int .i64 ((gt KK i5).lw), .int .i64 ((gt KK i5).lm)]) G G G ty44 G G G .h G G (.go idQ (.seq ?_))))
  have hki : (0 ≤ ((gt KK i5).lf) ∧ ((gt KK i5).lf) < n) ∧ (0 ≤ ((gt KK i5).lt) ∧ ((gt KK i5).lt) < n) := by have h_ := hGf.lk i5 oO (by rw [← hKK]; omega); rw [← hKK] at h_; exact ⟨⟨h_.1, h_.2.1⟩, h_.2.2.1, h_.2.2.2.1⟩
  refine SC.draw mo [] [] .n (fun _ _ _ => sc0) (fun wf_99 hl_99 hx_99 hR_99 => ?_)
  refine SR.m 0 G G G G ?_
  refine SR.z 1 G G (ev_nil G G) ?_
  refine SR.z 2 G G (ev_fa G fo76_0 G (r := 0) G) ?_
  refine SR.z 3 G G (ev_ld1 G ty27 G (At.d (At.lent hR_99 3 G G))) ?_
  refine SR.z 4 G G (ev_fa G fo44_0 G (r := 0) G) ?_
  refine SR.z 5 G G (ev_ld1 G ty3 G (At.d (At.lent hR_99 0 G G))) ?_
  refine SR.z 6 G G (ev_ix G underlying27 ty3 G G oO oO (fun _ _ => Fr.adr (i := (gt KK i5).lf) (Fr.lent (S := S) hR_99 5 G lO) oO oO)) ?_
  refine SR.z 7 G G (ev_ld1 G ty3 G (At.elem1 (At.d (Fr.el (i := (gt KK i5).lf) (Fr.lent (S := S) hR_99 5 G lO) oO oO)) 0 G)) ?_
  refine SR.m 8 G G G G ?_
  refine SR.z 9 G G (ev_nil G G) ?_
  refine SR.z 10 G G (ev_fa G fo76_0 G (r := 0) G) ?_
  refine SR.z 11 G G (ev_ld1 G ty27 G (At.d (At.lent hR_99 3 G G))) ?_
  refine SR.z 12 G G (ev_fa G fo44_1 G (r := 1) G) ?_
  refine SR.z 13 G G (ev_ld1 G ty3 G (At.d (At.lent hR_99 0 G G))) ?_
  refine SR.z 14 G G (ev_ix G underlying27 ty3 G G oO oO (fun _ _ => Fr.adr (i := (gt KK i5).lt) (Fr.lent (S := S) hR_99 5 G lO) oO oO)) ?_
  refine SR.z 15 G G (ev_ld1 G ty3 G (At.elem1 (At.d (Fr.el (i := (gt KK i5).lt) (Fr.lent (S := S) hR_99 5 G lO) oO oO)) 0 G)) ?_
  refine SR.z 16 G G (ev_cmp G G G G) ?_
  refine SR.fin kR hl_99 hx_99 hR_99 .n ?_
  refine SQ.go idQ ?_
  refine .condI G bD (fun h100 => ?_) (fun h100 => ?_)
  ·
   have hul := v_2.u ((gt KK i5).lf) oO oO
   have hun := upJ_len R KK ((gt KK i5).lf) i5.toNat
   rw [← hul] at hun
   refine SC.outIL ((gt KK i5).lf) oO oO (.t .h) (fun hol => ?_)
   refine SC.draw mo [rw_ eZ 3 (.slice ((gt U ((gt KK i5).lf)).ilA) ((gt U ((gt KK i5).lf)).il.length) ((gt U ((gt KK i5).lf)).ilc)) ((gt U ((gt KK i5).lf)).il), rw_ eIL 27 (.slice (some ⟨xb, 0, none⟩) n.toNat n.toNat) U] [(18, fun w => At w (ab (some ⟨xb, 0, none⟩)) (ao (some ⟨xb, 0, none⟩) + ((gt KK i5).lf).toNat * eIL.sz) (eIL.enc (gt U ((gt KK i5).lf))))] (.c .h (.c (.t4 (.t2 .h)) .n)) (fun w_ _ hw_ => (sc1 (row_el (E := eIL) (l := U) (i := (gt KK i5).lf) 1 G oO lO w_ hw_) sc0)) (fun wf_101 hl_101 hx_101 hR_101 => ?_)
   refine SR.m 0 G G G G ?_
   refine SR.z 1 G G (ev_nil G G) ?_
   refine SR.z 2 G G (ev_fa G fo76_2 G (r := 2) G) ?_
   refine SR.z 3 G G (ev_ld1 G ty74 G (At.d (At.lent hR_101 3 G G))) ?_
   refine SR.z 4 G G (ev_fa G fo44_0 G (r := 0) G) ?_
   refine SR.z 5 G G (ev_ld1 G ty3 G (At.d (At.lent hR_101 1 G G))) ?_
   refine SR.m 6 G G G G ?_
   refine SR.z 7 G G (ev_nil G G) ?_
   refine SR.z 8 G G (ev_fa G fo76_2 G (r := 2) G) ?_
   refine SR.z 9 G G (ev_ld1 G ty74 G (At.d (At.lent hR_101 3 G G))) ?_
   refine SR.z 10 G G (ev_fa G fo44_0 G (r := 0) G) ?_
   refine SR.z 11 G G (ev_ld1 G ty3 G (At.d (At.lent hR_101 1 G G))) ?_
   refine SR.z 12 G G (ev_ix G underlying74 ty27 G G oO oO (fun _ _ => G)) ?_
   refine SR.z 13 G G (ev_ld1 G ty27 G (At.elem1 (At.ofcs 0 G kR) 0 G)) ?_
   refine SR.m 14 G G G G ?_
   refine SR.o 15 G (st_lit eZ (e := 3) (l := [i5]) G G G G kR G G kW (fun b102 => ⟨ttc (fun w_ hw_ => (tc1 (row_el (i := (gt KK i5).lf) 2 G oO oO w_ hw_) tc0)), ?_⟩))
   refine SR.o 16 G (st_app (E := eZ) (m := [i5]) G G G G underlying27 ai3 G G G (.t .h) rO (row_src 0 G) lO G (fun v103 => ⟨ttc (fun w_ hw_ => (tc1 (row_el (i := (gt KK i5).lf) 2 G oO oO w_ hw_) tc0)), ?_⟩))
   refine SR.z 17 G G (ev_ix G underlying74 ty27 G G oO oO (fun _ _ => G)) ?_
   refine .know (row_len 0 G) (fun hv106 => ?_)
   obtain ⟨A104, c105, rfl, hv106_1, hv106_2⟩ := hv106
   unfold maxLen at hv106_2
   refine SR.o 18 G (st_setel (E := eIL) (i := (gt KK i5).lf) (cs := [.slice A104 ((((gt U ((gt KK i5).lf)).il) ++ [i5]).length) c105]) (off := 0) (IL.mk (((gt U ((gt KK i5).lf)).il) ++ [i5]) A104 c105) G G G ty27 G G G G G (.t2 .h) lO lO (Nat.le_of_ble_eq_true G) G ⟨ttc (fun w_ hw_ => (tc2 kR tc0)), ?_⟩)
   refine SR.fin kR hl_101 hx_101 hR_101 (.c (.c (.c .n))) ?_
   refine SQ.go idQ ?_
   refine .region (.p ((i5 + 1)) oO oO G G G G G (.m G G G ?_))
   exact SP.nil (SQ.inIL ((gt KK i5).lf) (IL.mk (((gt U ((gt KK i5).lf)).il) ++ [i5]) A104 c105) oO oO (.c (.t .h) (.c (.t2 .h) .n)) (by rfl) (by rw [List.length_append, List.length_singleton]; omega) <| (SQ.roundb (X := Int × (List IL) × (List IL)) (x := (i5, U, D)) ⟨(i5 + 1), (U.set ((gt KK i5).lf).toNat (IL.mk (((gt U ((gt KK i5).lf)).il) ++ [i5]) A104 c105)), D⟩ (by (try dsimp only); exact ⟨oO, oO, (ud_up v_2 oO h100 oO)⟩) dO (Sub.get (.c4 G G G G (.c G (.c G (.c G .n))))) (kp (.c .h (.c (.t2 (.t .h)) (.c (.t2 (.t .h)) (.c (.t2 (.t .h)) (.c (.t2 (.t .h)) (.c .h (.c (.t2 .h) (.c (.t2 .h) (.c (.t2 .h) .n))))))))))))
  have hul := v_2.d ((gt KK i5).lt) oO oO
  have hun := dnJ_len R KK ((gt KK i5).lt) i5.toNat
  rw [← hul] at hun
  refine SC.outIL ((gt KK i5).lt) oO oO (.t2 .h) (fun hol => ?_)
  refine SC.draw mo [rw_ eZ 3 (.slice ((gt D ((gt KK i5).lt)).ilA) ((gt D ((gt KK i5).lt)).il.length) ((gt D ((gt KK i5).lt)).ilc)) ((gt D ((gt KK i5).lt)).il), rw_ eIL 27 (.slice (some ⟨yb, 0, none⟩) n.toNat n.toNat) D] [(18, fun w => At w (ab (some ⟨yb, 0, none⟩)) (ao (some ⟨yb, 0, none⟩) + ((gt KK i5).lt).toNat * eIL.sz) (eIL.enc (gt D ((gt KK i5).lt))))] (.c .h (.c (.t4 (.t2 (.t .h))) .n)) (fun w_ _ hw_ => (sc1 (row_el (E := eIL) (l := D) (i := (gt KK i5).lt) 1 G oO lO w_ hw_) sc0)) (fun wf_107 hl_107 hx_107 hR_107 => ?_)
  refine SR.m 0 G G G G ?_
  refine SR.z 1 G G (ev_nil G G) ?_
  refine SR.z 2 G G (ev_fa G fo76_3 G (r := 3) G) ?_
  refine SR.z 3 G G (ev_ld1 G ty74 G (At.d (At.lent hR_107 3 G G))) ?_
  refine SR.z 4 G G (ev_fa G fo44_1 G (r := 1) G) ?_
  refine SR.z 5 G G (ev_ld1 G ty3 G (At.d (At.lent hR_107 1 G G))) ?_
  refine SR.m 6 G G G G ?_
  refine SR.z 7 G G (ev_nil G G) ?_
  refine SR.z 8 G G (ev_fa G fo76_3 G (r := 3) G) ?_
  refine SR.z 9 G G (ev_ld1 G ty74 G (At.d (At.lent hR_107 3 G G))) ?_
  refine SR.z 10 G G (ev_fa G fo44_1 G (r := 1) G) ?_
  refine SR.z 11 G G (ev_ld1 G ty3 G (At.d (At.lent hR_107 1 G G))) ?_
  refine SR.z 12 G G (ev_ix G underlying74 ty27 G G oO oO (fun _ _ => G)) ?_
  refine SR.z 13 G G (ev_ld1 G ty27 G (At.elem1 (At.ofcs 0 G kR) 0 G)) ?_
  refine SR.m 14 G G G G ?_
  refine SR.o 15 G (st_lit eZ (e := 3) (l := [i5]) G G G G kR G G kW (fun b108 => ⟨ttc (fun w_ hw_ => (tc1 (row_el (i := (gt KK i5).lt) 2 G oO oO w_ hw_) tc0)), ?_⟩))
  refine SR.o 16 G (st_app (E := eZ) (m := [i5]) G G G G underlying27 ai3 G G G (.t .h) rO (row_src 0 G) lO G (fun v109 => ⟨ttc (fun w_ hw_ => (tc1 (row_el (i := (gt KK i5).lt) 2 G oO oO w_ hw_) tc0)), ?_⟩))
  refine SR.z 17 G G (ev_ix G underlying74 ty27 G G oO oO (fun _ _ => G)) ?_
  refine .know (row_len 0 G) (fun hv112 => ?_)
  obtain ⟨A110, c111, rfl, hv112_1, hv112_2⟩ := hv112
  unfold maxLen at hv112_2
  refine SR.o 18 G (st_setel (E := eIL) (i := (gt KK i5).lt) (cs := [.slice A110 ((((gt D ((gt KK i5).lt)).il) ++ [i5]).length) c111]) (off := 0) (IL.mk (((gt D ((gt KK i5).lt)).il) ++ [i5]) A110 c111) G G G ty27 G G G G G (.t2 .h) lO lO (Nat.le_of_ble_eq_true G) G ⟨ttc (fun w_ hw_ => (tc2 kR tc0)), ?_⟩)
  refine SR.fin kR hl_107 hx_107 hR_107 (.c (.c (.c .n))) ?_
  refine SQ.go idQ ?_
  refine .region (.p ((i5 + 1)) oO oO G G G G G (.m G G G ?_))
  exact SP.nil (SQ.inIL ((gt KK i5).lt) (IL.mk (((gt D ((gt KK i5).lt)).il) ++ [i5]) A110 c111) oO oO (.c (.t .h) (.c (.t2 .h) .n)) (by rfl) (by rw [List.length_append, List.length_singleton]; omega) <| (SQ.roundb (X := Int × (List IL) × (List IL)) (x := (i5, U, D)) ⟨(i5 + 1), U, (D.set ((gt KK i5).lt).toNat (IL.mk (((gt D ((gt KK i5).lt)).il) ++ [i5]) A110 c111))⟩ (by (try dsimp only); exact ⟨oO, oO, (ud_dn v_2 oO h100 oO)⟩) dO (Sub.get (.c4 G G G G (.c G (.c G (.c G .n))))) (kp (.c (.t4 .h) (.c .h (.c (.t2 (.t .h)) (.c (.t2 (.t .h)) (.c (.t2 (.t .h)) (.c (.t2 (.t .h)) (.c .h (.c (.t2 .h) (.c (.t2 .h) .n))))))))))))
 refine .exit idQ ?_
 refine .seq (.region (.m G G G (.a G G G (.go idQ ?_))))
 exact .ret idQ (ret1 results11 G (.c (.t4 (.t4 .h)) (.c (.t2 .h) (.c (.t2 (.t .h)) (.c (.t4 (.t .h)) (.c (.t2 (.t .h)) (.c (.t2 (.t .h)) (.d .n))))))) ⟨lb, .slice (some ⟨rb, 0, none⟩) n.toNat n.toNat, .slice A94 KK.length c95, .slice (some ⟨xb, 0, none⟩) n.toNat n.toNat, .slice (some ⟨yb, 0, none⟩) n.toNat n.toNat, R, KK, U, D, ⟨⟨ps, f_, G_, hnx, by omega, j_2, hKK⟩, by have h_ := v_2; rw [show i5 = (KK.length : Int) from by omega] at h_; exact h_⟩, G, G⟩)
theorem build__s18 (n : Int) (t : List Int) (b : Nat) (fA : Option Addr) (fc : Nat) (fi : List Int) (eA : Option Addr) (ec : Nat) (ed : List EG) (S : Nat → Prop) (wf : World) (hF : Fr eZ S wf fA fi) (hE : Fr eEG S wf eA ed) (hT : TabOk n t) (hGr : GOk n t fi ed) (hec : ed.length ≤ ec) (wb : Nat) (zb : Nat) (oA : Option Addr) (on : Nat) (oc : Nat) (iA : Option Addr) (ik : Nat) (ic : Nat) (u : Value) (K : List LK) (M1 : List MB) (M2 : List MB) (j_0 : (GS.mk (mmL M1) (mmL M2) K (List.replicate n.toNat false)) = (G1 n fi ed)) (j_1 : M1.length = on) (j_2 : M2.length = ik) (j_3 : (on : Int) = n) (j_4 : (ik : Int) = n) (V : Env) :
  SC V prog (bodyPost prog Try.f11 (TRp V S wf (fun v_ C_ S_ wf_ => (fun v_ C_ => ∃ (lb : Nat) (v1 : Value) (v2 : Value) (v3 : Value) (v4 : Value) (R : List Int) (K : List LK) (U : List IL) (D : List IL), (LftP n fi ed R K U D) ∧ v_ = .pointer (some ⟨lb, 0, none⟩) ∧ C_ = [cel b [.slice fA fi.length fc, .slice eA ed.length ec] 106, cel lb [v1, v2, v3, v4] 76, rw_ eZ 3 (v1) R, rw_ eLK 44 (v2) K, rw_ eIL 27 (v3) U, rw_ eIL 27 (v4) D, nestIL 3 U, nestIL 3 D]) v_ C_ ∧ S_ = S ∧ wf_ = wf))) 174 (sqR (sqR (sqR (sqR (sqR (sqR (bodyC Try.f11))))))) ⟨[(0, .pointer (some ⟨b, 0, none⟩)), (3, .int .i64 n), (4, .pointer (some ⟨wb, 0, none⟩))], [rw_ eLK 44 (u) K, rw_ eMB 68 (.slice oA on oc) M1, rw_ eMB 68 (.slice iA ik ic) M2, nestM M1, nestM M2, cel wb [.slice oA on oc, .slice iA ik ic, u, .slice (some ⟨zb, 0, none⟩) n.toNat n.toNat] 67, rw_ eB 4 (.slice (some ⟨zb, 0, none⟩) n.toNat n.toNat) (List.replicate n.toNat false), cel b [.slice fA fi.length fc, .slice eA ed.length ec] 106], S, wf⟩ := by
 have hn1 := hT.pl
 have hfl := hGr.len
 have hne := hGr.ne
 show SC _ _ _ _ (.seq _ _) _
 refine .seq ?_
 have hrl : (List.replicate n.toNat false).length = n.toNat := List.length_replicate
 have hG1 : (GS.mk (mmL M1) (mmL M2) K (List.replicate n.toNat false)) = (G1 n fi ed) := j_0
 have hok := pre_ok0 hT hGr (p := n) oO oO
 have hGG : GOK n (GS.mk (mmL M1) (mmL M2) K (List.replicate n.toNat false)) := by rw [hG1]; exact hok.1
 have hKb : (K.length : Int) ≤ 8448 := by have h_ := hok.2.2; rw [show linksG (G0 n) (bL fi ed n) = (G1 n fi ed) from rfl, ← hG1] at h_; exact h_
 refine SC.draw mo [] [] .n (fun _ _ _ => sc0) (fun wf_70 hl_70 hx_70 hR_70 => ?_)
 refine SR.cutx (X := Nat × Nat × Nat × Nat) (fun (yb71, yb72, yb73, yb74) => ([(0, .pointer (some ⟨b, 0, none⟩)), (3, .int .i64 n), (4, .pointer (some ⟨wb, 0, none⟩)), (8, .pointer (some ⟨yb71, 0, none⟩))], [cel yb71 [.slice (some ⟨yb72, 0, none⟩) ((n).toNat) ((n).toNat), .slice none 0 0, .slice (some ⟨yb73, 0, none⟩) ((n).toNat) ((n).toNat), .slice (some ⟨yb74, 0, none⟩) ((n).toNat) ((n).toNat)] 76, rw_ eIL 27 (.slice (some ⟨yb74, 0, none⟩) ((n).toNat) ((n).toNat)) (List.replicate ((n).toNat) dIL), rw_ eIL 27 (.slice (some ⟨yb73, 0, none⟩) ((n).toNat) ((n).toNat)) (List.replicate ((n).toNat) dIL), rw_ eZ 3 (.slice (some ⟨yb72, 0, none⟩) ((n).toNat) ((n).toNat)) (List.replicate ((n).toNat) 0), rw_ eLK 44 (u) K, rw_ eMB 68 (.slice oA on oc) M1, rw_ eMB 68 (.slice iA ik ic) M2, nestM M1, nestM M2, cel wb [.slice oA on oc, .slice iA ik ic, u, .slice (some ⟨zb, 0, none⟩) n.toNat n.toNat] 67, rw_ eB 4 (.slice (some ⟨zb, 0, none⟩) n.toNat n.toNat) (List.replicate n.toNat false), cel b [.slice fA fi.length fc, .slice eA ed.length ec] 106])) S wf (fun ⟨yb71, yb72, yb73, yb74⟩ => ?_) (fun key75 => ?_)
 ·
  try dsimp only
  refine SQ.go idQ ?_
  refine .seq (.region (.cons (st_call0 G G G G hbd32 G .n (qnew_ _ _) (fun v_q78 C_q78 q78 => ?_))))
  obtain ⟨b76, pb77, rfl, rfl⟩ := q78
  show SP _ _ _ _ _ _ ⟨_, _ :: _ :: _, _, _⟩
  refine .a G G G (.go idQ (.seq (.seq (.region (.m G G G (.m G G G ?_))))))
  refine .go idQ (.block ?_)
  refine SC.nilrow eEN 115 ?_
  refine .loop (X := Int × (List EN) × Value × (List (Int × Int))) (fun ⟨p3, Y, u_Y, ym⟩ => 0 ≤ p3 ∧ p3 ≤ n ∧ QQ Y ym ∧ kq Y = pqF (G1 n fi ed) p3) (fun ⟨p3, Y, u_Y, ym⟩ => [(0, .pointer (some ⟨b, 0, none⟩)), (3, .int .i64 n), (4, .pointer (some ⟨wb, 0, none⟩)), (8, .pointer (some ⟨yb71, 0, none⟩)), (9, .pointer (some ⟨b76, 0, none⟩)), (77, .int .i64 n), (78, .int .i64 p3)]) (fun ⟨p3, Y, u_Y, ym⟩ => [rw_ eEN 115 (u_Y) Y, cel b76 [u_Y, .map (some pb77)] 113, mp keZ.f (.int .i64) pb77 ym, cel yb71 [.slice (some ⟨yb72, 0, none⟩) ((n).toNat) ((n).toNat), .slice none 0 0, .slice (some ⟨yb73, 0, none⟩) ((n).toNat) ((n).toNat), .slice (some ⟨yb74, 0, none⟩) ((n).toNat) ((n).toNat)] 76, rw_ eIL 27 (.slice (some ⟨yb74, 0, none⟩) ((n).toNat) ((n).toNat)) (List.replicate ((n).toNat) dIL), rw_ eIL 27 (.slice (some ⟨yb73, 0, none⟩) ((n).toNat) ((n).toNat)) (List.replicate ((n).toNat) dIL), rw_ eZ 3 (.slice (some ⟨yb72, 0, none⟩) ((n).toNat) ((n).toNat)) (List.replicate ((n).toNat) 0), rw_ eLK 44 (u) K, rw_ eMB 68 (.slice oA on oc) M1, rw_ eMB 68 (.slice iA ik ic) M2, nestM M1, nestM M2, cel wb [.slice oA on oc, .slice iA ik ic, u, .slice (some ⟨zb, 0, none⟩) n.toNat n.toNat] 67, rw_ eB 4 (.slice (some ⟨zb, 0, none⟩) n.toNat n.toNat) (List.replicate n.toNat false), cel b [.slice fA fi.length fc, .slice eA ed.length ec] 106]) (fun _ => S) (fun _ => wf) (fun ⟨p3, Y, u_Y, ym⟩ => (n - p3).toNat) (fun a_ w_ hs_ hw_ => ⟨⟨0, ([] : List EN), .slice none 0 0, []⟩, (by (try dsimp only); exact ⟨oO, oO, QQ.nil, pq_0.symm⟩), hs_.mono (Sub.get (.c4 G G G G (.c G (.c G (.c G .n))))), hw_.keep (.d (.d (.d (.d (.d (.d (.d (.c .h .n))))))))⟩) (fun ⟨p3, Y, u_Y, ym⟩ ⟨s_0, s_1, s_2, s_3⟩ => ?_)
  try dsimp only
  have hyl := kq_len s_2.qi (fun x_ k_ hk_ => by rw [s_3] at hk_; exact pq_dom oO x_ k_ hk_) oO
  have hpb := pr_bd (p := p3) hGG
  refine .seq (.region (.e G G G G G (.go idQ (.seq (.condI G bD (fun h79 => ?_) (fun h79 => ?_))))))
  ·
   refine .skipgo idQ (.seq (.block (.seq (.region (.m G G G (.a G G G (.go idQ (.region ?_))))))))
   refine .m G G G (.m G G G (.m G G G (.m G G G ?_)))
   refine .know (row_len 7 G) (fun hv82 => ?_)
   obtain ⟨A80, c81, rfl, hv82_1, hv82_2⟩ := hv82
   unfold maxLen at hv82_2
   refine .cons (st_lendk G G G G hbd34 G (.c (.t4 (.t4 (.t4 .h))) .n) (.c (.t4 (.t4 .h)) (.c (.t4 (.t4 .h)) (.c (.t4 (.t2 (.t .h))) (.c (.t4 (.t4 (.t .h))) (.c (.t4 (.t2 (.t .h))) (.c (.t4 (.t2 (.t .h))) .n)))))) (fun w_ hw => price_ n wb oA on oc M1 iA ik ic M2 A80 K.length c81 K (some ⟨zb, 0, none⟩) n.toNat n.toNat (List.replicate n.toNat false) p3 _ _ (Fr.lend hw 0 G lO) (Fr.lend hw 1 G lO) (Fr.lend hw 2 G lO) (Fr.lend hw 3 G lO) (MPF.lend hw 4 G) (MPF.lend hw 5 G) hGG (by rw [List.length_replicate]; omega) oO) ?_)
   refine .know (row_len 0 G) (fun hv85 => ?_)
   obtain ⟨A83, c84, rfl, hv85_1, hv85_2⟩ := hv85
   unfold maxLen at hv85_2
   refine .cons (st_call0 G G G G hbd33 G (.c (.t .h) (.d .n)) (qput_ b76 A83 Y.length c84 Y pb77 ym p3 (prG (GS.mk (mmL M1) (mmL M2) K (List.replicate n.toNat false)) p3) _ _ G lO s_2) (fun v_q90 C_q90 q90 => ?_))
   obtain ⟨u86, r87, l288, m289, p91, p92, p93, rfl, rfl⟩ := q90
   show SP _ _ _ _ _ _ ⟨_, _ :: _ :: _ :: _, _, _⟩
   refine .go idQ (.region (.p ((p3 + 1)) oO oO G G G G G (.m G G G ?_)))
   exact SP.nil (SQ.roundb (X := Int × (List EN) × Value × (List (Int × Int))) (x := (p3, Y, (.slice A83 Y.length c84), ym)) ⟨(p3 + 1), l288, u86, m289⟩ (by (try dsimp only); exact ⟨oO, oO, p91, (by rw [p92, s_3, hG1]; exact pq_s G oO)⟩) dO (Sub.get (.c4 G G G G (.c G (.c G (.c G .n))))) (kp (.c (.t .h) (.d (.d (.d (.d (.d (.d (.d .n))))))))))
  refine .exit idQ ?_
  refine SC.seqx (X := Nat × Nat × Nat × Nat × Nat × Value × Value × Value × Value × (List Int) × (List LK) × (List Int)) (fun ⟨lb, wb, rb, xb, yb, wo, wi, wk, wg, R, KK, ps⟩ => (∃ f_ G_, NXS ps (pqF (G1 n fi ed) n) (G1 n fi ed) f_ G_ ∧ KK = G_.gl) ∧ ((ps.length : Int) = n) ∧ (R = rkL n ps)) (fun ⟨lb, wb, rb, xb, yb, wo, wi, wk, wg, R, KK, ps⟩ => ([(0, .pointer (some ⟨b, 0, none⟩)), (3, .int .i64 n), (4, .pointer (some ⟨wb, 0, none⟩)), (8, .pointer (some ⟨lb, 0, none⟩))], [cel lb [.slice (some ⟨rb, 0, none⟩) n.toNat n.toNat, .slice none 0 0, .slice (some ⟨xb, 0, none⟩) n.toNat n.toNat, .slice (some ⟨yb, 0, none⟩) n.toNat n.toNat] 76, cel wb [wo, wi, wk, wg] 67, rw_ eZ 3 (.slice (some ⟨rb, 0, none⟩) n.toNat n.toNat) R, rw_ eIL 27 (.slice (some ⟨xb, 0, none⟩) n.toNat n.toNat) (List.replicate n.toNat dIL), rw_ eIL 27 (.slice (some ⟨yb, 0, none⟩) n.toNat n.toNat) (List.replicate n.toNat dIL), rw_ eLK 44 (wk) KK, cel b [.slice fA fi.length fc, .slice eA ed.length ec] 106])) S wf (fun ⟨lb, wb, rb, xb, yb, wo, wi, wk, wg, R, KK, ps⟩ hk114 => ?_) (fun key113 => ?_)
  ·
   obtain ⟨j_0, j_1, j_2⟩ := hk114
   exact build__s30 n t b fA fc fi eA ec ed _ _ hF hE hT hGr hec lb wb rb xb yb wo wi wk wg R KK ps j_0 j_1 j_2 _
  refine .seq (.region (.m G G G (.m G G G (.go idQ (.block ?_)))))
  refine .loop (X := Int × (List EN) × Value × (List (Int × Int)) × (List LK) × Value × (List MB) × (List MB) × (List Bool) × (List Int) × (List Int)) (fun ⟨rk, Y2, u_Y2, ym2, KK, u_KK, M5, M6, gg, R, ps⟩ => NXS ps (pqF (G1 n fi ed) n) (G1 n fi ed) (kq Y2) (GS.mk (mmL M5) (mmL M6) KK gg) ∧ QQ Y2 ym2 ∧ ((ps.length : Int) = rk ∧ 0 ≤ rk ∧ rk ≤ n) ∧ R = rkL n ps ∧ (M5.length : Int) = n ∧ (M6.length : Int) = n ∧ (gg.length : Int) = n ∧ (∀ x k, kq Y2 x = some k → -10000 ≤ k ∧ k ≤ 10000)) (fun ⟨rk, Y2, u_Y2, ym2, KK, u_KK, M5, M6, gg, R, ps⟩ => [(0, .pointer (some ⟨b, 0, none⟩)), (3, .int .i64 n), (4, .pointer (some ⟨wb, 0, none⟩)), (8, .pointer (some ⟨yb71, 0, none⟩)), (9, .pointer (some ⟨b76, 0, none⟩)), (77, .int .i64 n), (78, .int .i64 p3), (88, .int .i64 n), (89, .int .i64 rk)]) (fun ⟨rk, Y2, u_Y2, ym2, KK, u_KK, M5, M6, gg, R, ps⟩ => [rw_ eEN 115 (u_Y2) Y2, cel b76 [u_Y2, .map (some pb77)] 113, mp keZ.f (.int .i64) pb77 ym2, cel yb71 [.slice (some ⟨yb72, 0, none⟩) ((n).toNat) ((n).toNat), .slice none 0 0, .slice (some ⟨yb73, 0, none⟩) ((n).toNat) ((n).toNat), .slice (some ⟨yb74, 0, none⟩) ((n).toNat) ((n).toNat)] 76, rw_ eIL 27 (.slice (some ⟨yb74, 0, none⟩) ((n).toNat) ((n).toNat)) (List.replicate ((n).toNat) dIL), rw_ eIL 27 (.slice (some ⟨yb73, 0, none⟩) ((n).toNat) ((n).toNat)) (List.replicate ((n).toNat) dIL), rw_ eZ 3 (.slice (some ⟨yb72, 0, none⟩) ((n).toNat) ((n).toNat)) R, rw_ eLK 44 (u_KK) KK, rw_ eMB 68 (.slice oA on oc) M5, rw_ eMB 68 (.slice iA ik ic) M6, nestM M5, nestM M6, cel wb [.slice oA on oc, .slice iA ik ic, u_KK, .slice (some ⟨zb, 0, none⟩) n.toNat n.toNat] 67, rw_ eB 4 (.slice (some ⟨zb, 0, none⟩) n.toNat n.toNat) gg, cel b [.slice fA fi.length fc, .slice eA ed.length ec] 106]) (fun _ => S) (fun _ => wf) (fun ⟨rk, Y2, u_Y2, ym2, KK, u_KK, M5, M6, gg, R, ps⟩ => (n - rk).toNat) (fun a_ w_ hs_ hw_ => ⟨⟨0, Y, u_Y, ym, K, u, M1, M2, (List.replicate n.toNat false), (List.replicate ((n).toNat) 0), ([] : List Int)⟩, (by (try dsimp only); exact ⟨(by have h_ := s_3; rw [show p3 = n from by omega] at h_; rw [h_, hG1]; exact .nil), s_2, ⟨G, by omega, by omega⟩, G, oO, oO, (by rw [List.length_replicate]; omega), (by have h_ := s_3; rw [show p3 = n from by omega] at h_; rw [h_]; exact pq_bd hok.1)⟩), hs_.mono (Sub.get (.c4 G G G G (.c4 G G G G (.c G .n)))), hw_.keep (.d (.d (.d (.d (.d (.d (.d (.c .h .n))))))))⟩) (fun ⟨rk, Y2, u_Y2, ym2, KK, u_KK, M5, M6, gg, R, ps⟩ ⟨t_0, t_1, t_2, t_3, t_4, t_5, t_6, t_7⟩ => ?_)
  try dsimp only
  have hat := t_0.at hT hGr
  have hkl : (KK.length : Int) ≤ 8448 + 1024 * ps.length := hat.2.2.2.2.2
  have hRl0 : (R.length : Int) = n := by rw [t_3, rkL_len]; omega
  refine .seq (.region (.e G G G G G (.go idQ (.seq (.condI G bD (fun h115 => ?_) (fun h115 => ?_))))))
  ·
   refine .skipgo idQ (.seq (.block (.seq (.region (.m G G G (.a G G G (.go idQ ?_)))))))
   refine .know (row_len 7 G) (fun hv118 => ?_)
   obtain ⟨A116, c117, rfl, hv118_1, hv118_2⟩ := hv118
   unfold maxLen at hv118_2
   refine .know (row_len 0 G) (fun hv121 => ?_)
   obtain ⟨A119, c120, rfl, hv121_1, hv121_2⟩ := hv121
   unfold maxLen at hv121_2
   refine SC.draw mo [rw_ eEN 115 (.slice A119 Y2.length c120) Y2, cel b76 [.slice A119 Y2.length c120, .map (some pb77)] 113, mp keZ.f (.int .i64) pb77 ym2, rw_ eZ 3 (.slice (some ⟨yb72, 0, none⟩) ((n).toNat) ((n).toNat)) R, rw_ eLK 44 (.slice A116 KK.length c117) KK, rw_ eMB 68 (.slice oA on oc) M5, rw_ eMB 68 (.slice iA ik ic) M6, nestM M5, nestM M6, cel wb [.slice oA on oc, .slice iA ik ic, .slice A116 KK.length c117, .slice (some ⟨zb, 0, none⟩) n.toNat n.toNat] 67, rw_ eB 4 (.slice (some ⟨zb, 0, none⟩) n.toNat n.toNat) gg] [] (.d (.c .h (.c (.t2 (.t .h)) (.c (.t2 (.t .h)) (.c (.t2 (.t .h)) (.c (.t2 (.t .h)) (.c (.t2 (.t .h)) (.c (.t2 (.t .h)) (.c (.t2 (.t .h)) (.c (.t2 (.t .h)) .n)))))))))) (fun _ _ _ => sc0) (fun wf_122 hl_122 hx_122 hR_122 => ?_)
   refine SR.m 0 G G G G ?_
   refine SR.z 1 G G (ev_nil G G) ?_
   refine SR.z 2 G G (ev_fa G fo76_0 G (r := 0) G) ?_
   refine SR.z 3 G G (ev_ld1 G ty27 G (At.d (At.lent hR_122 0 G G))) ?_
   refine SR.m 4 G G G G ?_
   refine SR.m 5 G G G G ?_
   refine SR.m 7 G G G G ?_
   refine SR.o 6 G (st_call0 G G G G hbd35 G (.c (.t4 (.t4 (.t .h))) (.c (.t4 (.t .h)) (.c (.t4 (.t .h)) (.c (.t4 .h) (.c (.t4 .h) (.c (.t4 .h) (.c (.t4 .h) (.c (.t .h) (.d .n))))))))) (next_ n (wBd ps.length) wb oA on oc M5 iA ik ic M6 A116 KK.length c117 KK (some ⟨zb, 0, none⟩) n.toNat n.toNat gg b76 A119 Y2.length c120 Y2 pb77 ym2 _ _ hat.1 oO hat.2.1 (by have h_ := wBd_le (k := ps.length) oO; omega) oO G (more_len (NXS.more hat.2.2.1 hat.2.2.2.1 oO)) t_1 (dom_kq hat.2.2.1 t_7)) (fun v_q131 C_q131 q131 => ⟨tt0, ?_⟩))
   obtain ⟨u123, MO2124, MI2125, K2126, r127, v128, l2129, m2130, p132, p133, p134, rfl, rfl⟩ := q131
   show SR _ _ _ _ _ _ _ _ _ ⟨_, _ :: _ :: _ :: _ :: _ :: _ :: _ :: _ :: _ :: _ :: _, _, _⟩
   refine SR.z 8 G G (ev_ix G underlying27 ty3 G G oO oO (fun _ _ => G)) ?_
   refine SR.o 9 G (st_setel (E := eZ) (i := r127) (cs := [.int .i64 rk]) (off := 0) rk G G G ty3 G G G G G (.t4 (.t4 (.t2 .h))) lO lO (Nat.le_of_ble_eq_true G) G ⟨tt0, ?_⟩)
   refine SR.fin kR hl_122 hx_122 hR_122 (.c (.c (.c (.c (.c (.c (.c (.c (.c (.c (.c .n))))))))))) ?_
   refine SQ.go idQ ?_
   refine .region (.p ((rk + 1)) oO oO G G G G G (.m G G G ?_))
   exact SP.nil (SQ.roundb (X := Int × (List EN) × Value × (List (Int × Int)) × (List LK) × Value × (List MB) × (List MB) × (List Bool) × (List Int) × (List Int)) (x := (rk, Y2, (.slice A119 Y2.length c120), ym2, KK, (.slice A116 KK.length c117), M5, M6, gg, R, ps)) ⟨(rk + 1), l2129, v128, m2130, K2126, u123, MO2124, MI2125, (gg.set (r127).toNat true), (R.set (r127).toNat rk), (ps ++ [r127])⟩ (by (try dsimp only); exact ⟨(.snoc t_0 p132), p133, ⟨by rw [List.length_append, List.length_singleton]; omega, by omega, by omega⟩, (by rw [rkL_snoc, ← t_3, t_2.1]), (by have h_ := (p132.inv hat.1 hat.2.1 (by have h_ := wBd_le (k := ps.length) oO; omega) (by have h_ := wBd_le (k := ps.length) oO; omega)).2.2.1.lo; rw [show (_ : Nat) = _ from mmL_len] at h_; exact h_), (by have h_ := (p132.inv hat.1 hat.2.1 (by have h_ := wBd_le (k := ps.length) oO; omega) (by have h_ := wBd_le (k := ps.length) oO; omega)).2.2.1.li; rw [show (_ : Nat) = _ from mmL_len] at h_; exact h_), (by rw [List.length_set]; exact t_6), (p132.bd hat.1 t_7)⟩) dO (Sub.get (.c4 G G G G (.c4 G G G G (.c G .n)))) (kp (.c (.t4 (.t4 (.t .h))) (.c (.t4 (.t4 .h)) (.c (.t4 (.t4 .h)) (.c (.t4 (.t4 .h)) (.c (.t4 (.t4 .h)) (.c (.t4 (.t4 .h)) (.c .h (.c (.t2 (.t .h)) (.c (.t .h) (.c (.t .h) (.c (.t .h) (.c (.t .h) (.d (.c .h .n))))))))))))))))
  refine .exit idQ ?_
  exact SC.weak (key113 ⟨yb71, wb, yb72, yb73, yb74, .slice oA on oc, .slice iA ik ic, u_KK, .slice (some ⟨zb, 0, none⟩) n.toNat n.toNat, R, KK, ps⟩ ⟨⟨_, _, t_0, G⟩, oO, t_3⟩) (Sub.get (.c4 G G G G .n)) (kp (.c (.t2 (.t .h)) (.c (.t4 (.t4 (.t2 (.t .h)))) (.c (.t4 (.t .h)) (.c (.t4 .h) (.c (.t2 (.t .h)) (.c (.t2 (.t .h)) (.c (.t4 (.t4 .h)) .n))))))))
 refine SR.m 0 G G G G ?_
 refine SR.m 2 G G G G ?_
 refine SR.m 4 G G G G ?_
 refine SR.three (i := 1) (j := 3) (l := 5) kR ⟨_, G, ?_⟩ ⟨_, G, ?_⟩ ⟨_, G, ?_⟩
 ·
  refine st_mkints (q := .i64) (n := (n).toNat) G G G G underlying27 ai3 G G oO oO G (fun b135 => ⟨tt0, ?_⟩)
  refine SR.two (i := 3) (j := 5) kR ⟨_, G, ?_⟩ ⟨_, G, ?_⟩
  ·
   refine st_mkslices (n := (n).toNat) G G G G underlying74 ai27 G G oO oO G (fun b136 => ⟨tt0, ?_⟩)
   refine SR.o 5 G (st_mkslices (n := (n).toNat) G G G G underlying74 ai27 G G oO oO G (fun b137 => ⟨tt0, ?_⟩))
   refine SR.z 6 G G (ev_any (v := .agg #[.slice (some ⟨b135, 0, none⟩) ((n).toNat) ((n).toNat), .slice none 0 0, .slice (some ⟨b136, 0, none⟩) ((n).toNat) ((n).toNat), .slice (some ⟨b137, 0, none⟩) ((n).toNat) ((n).toNat)]) G kR (fun _ => by kernel_rfl)) ?_
   refine SR.o 7 G (st_boxa G G G G G (fun b138 => ⟨tt0, ?_⟩))
   refine SR.z 8 G G (ev_as G G) ?_
   refine SR.fin kR hl_70 hx_70 hR_70 (.c (.c (.c (.c .n)))) ?_
   exact SQ.weak (key75 (b138, b135, b136, b137)) (Sub.get (.c4 G G G G .n)) (kp (.d (.d (.d (.d (.d (.d .n)))))))
  refine st_mkslices (n := (n).toNat) G G G G underlying74 ai27 G G oO oO G (fun b139 => ⟨tt0, ?_⟩)
  refine SR.o 3 G (st_mkslices (n := (n).toNat) G G G G underlying74 ai27 G G oO oO G (fun b140 => ⟨tt0, ?_⟩))
  refine SR.z 6 G G (ev_any (v := .agg #[.slice (some ⟨b135, 0, none⟩) ((n).toNat) ((n).toNat), .slice none 0 0, .slice (some ⟨b140, 0, none⟩) ((n).toNat) ((n).toNat), .slice (some ⟨b139, 0, none⟩) ((n).toNat) ((n).toNat)]) G kR (fun _ => by kernel_rfl)) ?_
  refine SR.o 7 G (st_boxa G G G G G (fun b141 => ⟨tt0, ?_⟩))
  refine SR.z 8 G G (ev_as G G) ?_
  refine SR.fin kR hl_70 hx_70 hR_70 (.c (.c (.c (.c .n)))) ?_
  exact SQ.weak (key75 (b141, b135, b140, b139)) (Sub.get (.c4 G G G G .n)) (kp (.c .h (.c (.t .h) (.d (.d (.d (.d (.d .n))))))))
 ·
  refine st_mkslices (n := (n).toNat) G G G G underlying74 ai27 G G oO oO G (fun b142 => ⟨tt0, ?_⟩)
  refine SR.two (i := 1) (j := 5) kR ⟨_, G, ?_⟩ ⟨_, G, ?_⟩
  ·
   refine st_mkints (q := .i64) (n := (n).toNat) G G G G underlying27 ai3 G G oO oO G (fun b143 => ⟨tt0, ?_⟩)
   refine SR.o 5 G (st_mkslices (n := (n).toNat) G G G G underlying74 ai27 G G oO oO G (fun b144 => ⟨tt0, ?_⟩))
   refine SR.z 6 G G (ev_any (v := .agg #[.slice (some ⟨b143, 0, none⟩) ((n).toNat) ((n).toNat), .slice none 0 0, .slice (some ⟨b142, 0, none⟩) ((n).toNat) ((n).toNat), .slice (some ⟨b144, 0, none⟩) ((n).toNat) ((n).toNat)]) G kR (fun _ => by kernel_rfl)) ?_
   refine SR.o 7 G (st_boxa G G G G G (fun b145 => ⟨tt0, ?_⟩))
   refine SR.z 8 G G (ev_as G G) ?_
   refine SR.fin kR hl_70 hx_70 hR_70 (.c (.c (.c (.c .n)))) ?_
   exact SQ.weak (key75 (b145, b143, b142, b144)) (Sub.get (.c4 G G G G .n)) (kp (.d (.c (.t .h) (.d (.d (.d (.d (.c .h .n))))))))
  refine st_mkslices (n := (n).toNat) G G G G underlying74 ai27 G G oO oO G (fun b146 => ⟨tt0, ?_⟩)
  refine SR.o 1 G (st_mkints (q := .i64) (n := (n).toNat) G G G G underlying27 ai3 G G oO oO G (fun b147 => ⟨tt0, ?_⟩))
  refine SR.z 6 G G (ev_any (v := .agg #[.slice (some ⟨b147, 0, none⟩) ((n).toNat) ((n).toNat), .slice none 0 0, .slice (some ⟨b142, 0, none⟩) ((n).toNat) ((n).toNat), .slice (some ⟨b146, 0, none⟩) ((n).toNat) ((n).toNat)]) G kR (fun _ => by kernel_rfl)) ?_
  refine SR.o 7 G (st_boxa G G G G G (fun b148 => ⟨tt0, ?_⟩))
  refine SR.z 8 G G (ev_as G G) ?_
  refine SR.fin kR hl_70 hx_70 hR_70 (.c (.c (.c (.c .n)))) ?_
  exact SQ.weak (key75 (b148, b147, b142, b146)) (Sub.get (.c4 G G G G .n)) (kp (.c .h (.c (.t .h) (.c (.t .h) (.d (.d (.d (.d (.c .h .n)))))))))
 refine st_mkslices (n := (n).toNat) G G G G underlying74 ai27 G G oO oO G (fun b149 => ⟨tt0, ?_⟩)
 refine SR.two (i := 1) (j := 3) kR ⟨_, G, ?_⟩ ⟨_, G, ?_⟩
 ·
  refine st_mkints (q := .i64) (n := (n).toNat) G G G G underlying27 ai3 G G oO oO G (fun b150 => ⟨tt0, ?_⟩)
  refine SR.o 3 G (st_mkslices (n := (n).toNat) G G G G underlying74 ai27 G G oO oO G (fun b151 => ⟨tt0, ?_⟩))
  refine SR.z 6 G G (ev_any (v := .agg #[.slice (some ⟨b150, 0, none⟩) ((n).toNat) ((n).toNat), .slice none 0 0, .slice (some ⟨b151, 0, none⟩) ((n).toNat) ((n).toNat), .slice (some ⟨b149, 0, none⟩) ((n).toNat) ((n).toNat)]) G kR (fun _ => by kernel_rfl)) ?_
  refine SR.o 7 G (st_boxa G G G G G (fun b152 => ⟨tt0, ?_⟩))
  refine SR.z 8 G G (ev_as G G) ?_
  refine SR.fin kR hl_70 hx_70 hR_70 (.c (.c (.c (.c .n)))) ?_
  exact SQ.weak (key75 (b152, b150, b151, b149)) (Sub.get (.c4 G G G G .n)) (kp (.c .h (.c (.t2 .h) (.d (.d (.d (.d (.d .n))))))))
 refine st_mkslices (n := (n).toNat) G G G G underlying74 ai27 G G oO oO G (fun b153 => ⟨tt0, ?_⟩)
 refine SR.o 1 G (st_mkints (q := .i64) (n := (n).toNat) G G G G underlying27 ai3 G G oO oO G (fun b154 => ⟨tt0, ?_⟩))
 refine SR.z 6 G G (ev_any (v := .agg #[.slice (some ⟨b154, 0, none⟩) ((n).toNat) ((n).toNat), .slice none 0 0, .slice (some ⟨b153, 0, none⟩) ((n).toNat) ((n).toNat), .slice (some ⟨b149, 0, none⟩) ((n).toNat) ((n).toNat)]) G kR (fun _ => by kernel_rfl)) ?_
 refine SR.o 7 G (st_boxa G G G G G (fun b155 => ⟨tt0, ?_⟩))
 refine SR.z 8 G G (ev_as G G) ?_
 refine SR.fin kR hl_70 hx_70 hR_70 (.c (.c (.c (.c .n)))) ?_
 exact SQ.weak (key75 (b155, b154, b153, b149)) (Sub.get (.c4 G G G G .n)) (kp (.c .h (.c (.t2 .h) (.c (.t .h) (.d (.d (.d (.d (.c .h .n)))))))))
theorem build_ (n : Int) (t : List Int) (b : Nat) (fA : Option Addr) (fc : Nat) (fi : List Int) (eA : Option Addr) (ec : Nat) (ed : List EG) (S : Nat → Prop) (wf : World) (hF : Fr eZ S wf fA fi) (hE : Fr eEG S wf eA ed) (hT : TabOk n t) (hGr : GOk n t fi ed) (hec : ed.length ≤ ec) :
  TR0 prog 11 [.pointer (some ⟨b, 0, none⟩)] [cel b [.slice fA fi.length fc, .slice eA ed.length ec] 106] S wf (fun v_ C_ => ∃ (lb : Nat) (v1 : Value) (v2 : Value) (v3 : Value) (v4 : Value) (R : List Int) (K : List LK) (U : List IL) (D : List IL), (LftP n fi ed R K U D) ∧ v_ = .pointer (some ⟨lb, 0, none⟩) ∧ C_ = [cel b [.slice fA fi.length fc, .slice eA ed.length ec] 106, cel lb [v1, v2, v3, v4] 76, rw_ eZ 3 (v1) R, rw_ eLK 44 (v2) K, rw_ eIL 27 (v3) U, rw_ eIL 27 (v4) D, nestIL 3 U, nestIL 3 D]) := by
 have hn1 := hT.pl
 have hfl := hGr.len
 have hne := hGr.ne
 refine TR.mk func11 G ntmps11 G G (fun w_ => ?_)
 refine .seq (.region (.a G G G (.go idQ (.seq (.seq (.region (.m G G G ?_)))))))
 refine .v (ev_bin G G G (r := .bool false) (fun _ => by kernel_rfl)) G (.go idQ (.cond_f G (.skipgo idQ (.seq (.region ?_)))))
 refine .m G G G (.cons (st_callk G G G G hbd29 G (.c .h .n) (gpl_ b fA fc fi eA ec ed _ _ hF hE) (.a G G G (.go idQ (.seq ?_)))))
 rw [show ((fi.length : Int) - 1) = n from by have h_ := hGr.len; omega]
 refine .region (.m G G G (.cons (st_mkbools (n := (n).toNat) G G G G underlying64 ai4 G G oO oO G (fun b1 => (.v (ev_any (v := .agg #[.slice none 0 0, .slice none 0 0, .slice none 0 0, .slice (some ⟨b1, 0, none⟩) ((n).toNat) ((n).toNat)]) G kR (fun _ => by kernel_rfl)) G ?_)))))
 refine .cons (st_boxa G G G G G (fun b2 => ?_))
 refine .a G G G (.go idQ (.seq (.seq ?_)))
 refine SC.nestM0 ?_
 refine SC.nestM0 ?_
 refine .region (.m G G G (.m G G G (.go idQ (.block ?_))))
 refine SC.nilrow eMB 68 ?_
 refine SC.nilrow eMB 68 ?_
 refine .loop (X := Int × (List MB) × Value × (List MB) × Value) (fun ⟨i, MO, u_MO, MI, u_MI⟩ => 0 ≤ i ∧ i ≤ n ∧ mmL MO = List.replicate i.toNat [] ∧ mmL MI = List.replicate i.toNat []) (fun ⟨i, MO, u_MO, MI, u_MI⟩ => [(0, .pointer (some ⟨b, 0, none⟩)), (2, .pointer none), (3, .int .i64 n), (4, .pointer (some ⟨b2, 0, none⟩)), (22, .int .i64 n), (23, .int .i64 i)]) (fun ⟨i, MO, u_MO, MI, u_MI⟩ => [rw_ eMB 68 (u_MO) MO, rw_ eMB 68 (u_MI) MI, nestM MO, nestM MI, cel b2 [u_MO, u_MI, .slice none 0 0, .slice (some ⟨b1, 0, none⟩) ((n).toNat) ((n).toNat)] 67, rw_ eB 4 (.slice (some ⟨b1, 0, none⟩) ((n).toNat) ((n).toNat)) (List.replicate ((n).toNat) false), cel b [.slice fA fi.length fc, .slice eA ed.length ec] 106]) (fun _ => S) (fun _ => wf) (fun ⟨i, MO, u_MO, MI, u_MI⟩ => (n - i).toNat) (fun a_ w_ hs_ hw_ => ⟨⟨0, ([] : List MB), .slice none 0 0, ([] : List MB), .slice none 0 0⟩, (by (try dsimp only); exact ⟨oO, oO, G, G⟩), hs_.mono (Sub.get (.c4 G G G G (.c G (.c G .n)))), hw_.keep (.d (.d (.d (.c .h .n))))⟩) (fun ⟨i, MO, u_MO, MI, u_MI⟩ ⟨q_0, q_1, q_2, q_3⟩ => ?_)
 try dsimp only
 have hmo := congrArg List.length q_2
 have hmi := congrArg List.length q_3
 rw [mmL_len, List.length_replicate] at hmo hmi
 refine .seq (.region (.e G G G G G (.go idQ (.seq (.condI G bD (fun h3 => ?_) (fun h3 => ?_))))))
 ·
  refine .skipgo idQ (.seq (.block ?_))
  refine SC.draw mo [rw_ eMB 68 (u_MO) MO, rw_ eMB 68 (u_MI) MI, cel b2 [u_MO, u_MI, .slice none 0 0, .slice (some ⟨b1, 0, none⟩) ((n).toNat) ((n).toNat)] 67] [(18, fun w => At w b2 0 [u_MO, u_MI, .slice none 0 0, .slice (some ⟨b1, 0, none⟩) ((n).toNat) ((n).toNat)])] (.d (.c (.t2 .h) .n)) (fun w_ _ hw_ => (sc1 (At.whole 2 G w_ hw_) sc0)) (fun wf_4 hl_4 hx_4 hR_4 => ?_)
  refine SR.cutx (X := (Option Addr) × Nat × Nat × (Option Addr) × Nat × Nat × Nat × Nat) (fun (yA5, yb6, yc7, yA8, yb9, yc10, yb11, yb12) => ([(0, .pointer (some ⟨b, 0, none⟩)), (2, .pointer none), (3, .int .i64 n), (4, .pointer (some ⟨b2, 0, none⟩)), (22, .int .i64 n), (23, .int .i64 i), (24, .bool (decide (i < n)))], [cel b2 [.slice yA5 ((MO ++ [(MB.mk yb6 [])]).length) yc7, .slice yA8 ((MI ++ [(MB.mk yb9 [])]).length) yc10, .slice none 0 0, .slice (some ⟨b1, 0, none⟩) ((n).toNat) ((n).toNat)] 67, rw_ eMB 68 (.slice yA8 ((MI ++ [(MB.mk yb9 [])]).length) yc10) (MI ++ [(MB.mk yb9 [])]), rw_ eMB 68 (.slice (some ⟨yb11, 0, none⟩) 1 1) [(MB.mk yb9 [])], mp keZ.f (.int .i64) yb9 ([] : List (Int × Int)), rw_ eMB 68 (.slice yA5 ((MO ++ [(MB.mk yb6 [])]).length) yc7) (MO ++ [(MB.mk yb6 [])]), rw_ eMB 68 (.slice (some ⟨yb12, 0, none⟩) 1 1) [(MB.mk yb6 [])], mp keZ.f (.int .i64) yb6 ([] : List (Int × Int)), nestM MO, nestM MI, rw_ eB 4 (.slice (some ⟨b1, 0, none⟩) ((n).toNat) ((n).toNat)) (List.replicate ((n).toNat) false), cel b [.slice fA fi.length fc, .slice eA ed.length ec] 106])) S wf (fun ⟨yA5, yb6, yc7, yA8, yb9, yc10, yb11, yb12⟩ => ?_) (fun key13 => ?_)
  ·
   try dsimp only
   refine SQ.go idQ ?_
   refine .region (.p ((i + 1)) oO oO G G G G G (.m G G G ?_))
   exact SP.nil (SQ.snocM (.c (.t4 (.t2 .h)) (.c (.t4 (.t2 .h)) .n)) <| SQ.snocM (.c (.t4 .h) (.c (.t4 (.t2 .h)) .n)) <| (SQ.roundb (X := Int × (List MB) × Value × (List MB) × Value) (x := (i, MO, u_MO, MI, u_MI)) ⟨(i + 1), (MO ++ [(MB.mk yb6 [])]), .slice yA5 ((MO ++ [(MB.mk yb6 [])]).length) yc7, (MI ++ [(MB.mk yb9 [])]), .slice yA8 ((MI ++ [(MB.mk yb9 [])]).length) yc10⟩ (by (try dsimp only); exact ⟨oO, oO, (by unfold mmL at *; rw [List.map_append, q_2]; exact (rep_snoc q_0).symm), (by unfold mmL at *; rw [List.map_append, q_3]; exact (rep_snoc q_0).symm)⟩) dO (Sub.get (.c4 G G G G (.c G (.c G .n)))) (kp (.c (.t4 (.t .h)) (.c (.t2 (.t .h)) (.c (.t .h) (.d (.c (.t2 .h) (.c (.t2 .h) .n)))))))))
  refine SR.join (X := Value × Nat × Nat × Value × Nat × Nat) (fun (zv14, zb15, zb16, zv17, zb18, zb19) => ([(0, .pointer (some ⟨b, 0, none⟩)), (2, .pointer none), (3, .int .i64 n), (4, .pointer (some ⟨b2, 0, none⟩)), (22, .int .i64 n), (23, .int .i64 i), (24, .bool (decide (i < n))), (26, .pointer (some ⟨b2, 0, none⟩)), (33, zv17), (40, zv14), (42, .pointer (some ⟨b2, 0, none⟩))], [rw_ eMB 68 (zv14) (MI ++ [(MB.mk zb15 [])]), rw_ eMB 68 (.slice (some ⟨zb16, 0, none⟩) 1 1) [(MB.mk zb15 [])], mp keZ.f (.int .i64) zb15 ([] : List (Int × Int)), rw_ eMB 68 (zv17) (MO ++ [(MB.mk zb18 [])]), rw_ eMB 68 (.slice (some ⟨zb19, 0, none⟩) 1 1) [(MB.mk zb18 [])], mp keZ.f (.int .i64) zb18 ([] : List (Int × Int)), cel b2 [u_MO, u_MI, .slice none 0 0, .slice (some ⟨b1, 0, none⟩) ((n).toNat) ((n).toNat)] 67])) 4 #[true, true, true, true, true, true, true, true, true, true, true, true, true, true, true, true, true, true, false, false, false, false] (fun ⟨zv14, zb15, zb16, zv17, zb18, zb19⟩ => ?_) (fun key20 => ?_)
  ·
   show SR _ _ _ _ _ _ _ _ _ ⟨[(0, .pointer (some ⟨b, 0, none⟩)), (2, .pointer none), (3, .int .i64 n), (4, .pointer (some ⟨b2, 0, none⟩)), (22, .int .i64 n), (23, .int .i64 i), (24, .bool (decide (i < n))), (26, .pointer (some ⟨b2, 0, none⟩)), (33, zv17), (40, zv14), (42, .pointer (some ⟨b2, 0, none⟩))], [rw_ eMB 68 (zv14) (MI ++ [(MB.mk zb15 [])]), rw_ eMB 68 (.slice (some ⟨zb16, 0, none⟩) 1 1) [(MB.mk zb15 [])], mp keZ.f (.int .i64) zb15 ([] : List (Int × Int)), rw_ eMB 68 (zv17) (MO ++ [(MB.mk zb18 [])]), rw_ eMB 68 (.slice (some ⟨zb19, 0, none⟩) 1 1) [(MB.mk zb18 [])], mp keZ.f (.int .i64) zb18 ([] : List (Int × Int)), cel b2 [u_MO, u_MI, .slice none 0 0, .slice (some ⟨b1, 0, none⟩) ((n).toNat) ((n).toNat)] 67], _, _⟩
   refine .know (row_len 3 G) (fun hv23 => ?_)
   obtain ⟨A21, c22, rfl, hv23_1, hv23_2⟩ := hv23
   unfold maxLen at hv23_2
   refine SR.o 18 G (st_store1 G G G ty65 G G G (.t4 (.t2 .h)) .h ⟨ttc (fun w_ hw_ => (tc2 kR tc0)), ?_⟩)
   refine SR.z 19 G G (ev_nil G G) ?_
   refine SR.z 20 G G (ev_fa G fo67_1 G (r := 1) G) ?_
   refine .know (row_len 1 G) (fun hv26 => ?_)
   obtain ⟨A24, c25, rfl, hv26_1, hv26_2⟩ := hv26
   unfold maxLen at hv26_2
   refine SR.o 21 G (st_store1 G G G ty65 G G G .h (.t .h) ⟨ttc (fun w_ hw_ => (tc2 kR tc0)), ?_⟩)
   refine SR.fin kR hl_4 hx_4 hR_4 (.c (.c (.c (.c (.c (.c (.c .n))))))) ?_
   exact SQ.weak (key13 (A21, zb18, c22, A24, zb15, c25, zb16, zb19)) (Sub.get (.c4 G G G G (.c G (.c G (.c G .n))))) (kp (.d (.d (.d (.d (.d (.c .h .n)))))))
  refine SR.m 0 G G G G ?_
  refine SR.m 1 G G G G ?_
  refine SR.m 2 G G G G ?_
  refine SR.z 3 G G (ev_nil G G) ?_
  refine SR.z 4 G G (ev_fa G fo67_0 G (r := 0) G) ?_
  refine SR.z 5 G G (ev_ld1 G ty65 G (At.elem1 (v := u_MO) (At.ofcs 0 G kR) 0 G)) ?_
  refine SR.m 9 G G G G ?_
  refine SR.z 10 G G (ev_nil G G) ?_
  refine SR.z 11 G G (ev_fa G fo67_1 G (r := 1) G) ?_
  refine SR.z 12 G G (ev_ld1 G ty65 G (At.elem1 (v := u_MI) (At.ofcs 0 G kR) 1 G)) ?_
  refine SR.two (i := 6) (j := 13) kR ⟨_, G, ?_⟩ ⟨_, G, ?_⟩
  ·
   refine st_mkmap (α := Int) (β := Int) keZ.f (.int .i64) G G G G (fun b27 => ⟨ttw 3 G, ?_⟩)
   refine SR.two (i := 7) (j := 13) kR ⟨_, G, ?_⟩ ⟨_, G, ?_⟩
   ·
    refine st_lit eMB (e := 68) (l := [(MB.mk b27 [])]) G G G G kR G G kW (fun b28 => ⟨ttw 4 G, ?_⟩)
    refine SR.two (i := 8) (j := 13) kR ⟨_, G, ?_⟩ ⟨_, G, ?_⟩
    ·
     refine st_app (E := eMB) (m := [(MB.mk b27 [])]) G G G G underlying65 ai68 G G G (.t2 .h) rO (row_src 0 G) lO G (fun v29 => ⟨ttw 4 G, ?_⟩)
     refine SR.o 13 G (st_mkmap (α := Int) (β := Int) keZ.f (.int .i64) G G G G (fun b30 => ⟨ttw 5 G, ?_⟩))
     refine SR.o 14 G (st_lit eMB (e := 68) (l := [(MB.mk b30 [])]) G G G G kR G G kW (fun b31 => ⟨ttw 6 G, ?_⟩))
     refine SR.o 15 G (st_app (E := eMB) (m := [(MB.mk b30 [])]) G G G G underlying65 ai68 G G G (.t4 (.t .h)) rO (row_src 0 G) lO G (fun v32 => ⟨ttw 6 G, ?_⟩))
     refine SR.z 16 G G (ev_nil G G) ?_
     refine SR.z 17 G G (ev_fa G fo67_0 G (r := 0) G) ?_
     exact SR.weakj (key20 (v32, b30, b31, v29, b27, b28)) kR (Sub.get (.c4 G G G G (.c4 G G G G (.c G (.c G (.c G .n)))))) (kp (.d (.d (.d (.c .h .n)))))
    refine st_mkmap (α := Int) (β := Int) keZ.f (.int .i64) G G G G (fun b33 => ⟨ttw 5 G, ?_⟩)
    refine SR.two (i := 8) (j := 14) kR ⟨_, G, ?_⟩ ⟨_, G, ?_⟩
    ·
     refine st_app (E := eMB) (m := [(MB.mk b27 [])]) G G G G underlying65 ai68 G G G (.t2 (.t .h)) rO (row_src 1 G) lO G (fun v34 => ⟨ttw 5 G, ?_⟩)
     refine SR.o 14 G (st_lit eMB (e := 68) (l := [(MB.mk b33 [])]) G G G G kR G G kW (fun b35 => ⟨ttw 6 G, ?_⟩))
     refine SR.o 15 G (st_app (E := eMB) (m := [(MB.mk b33 [])]) G G G G underlying65 ai68 G G G (.t4 (.t .h)) rO (row_src 0 G) lO G (fun v36 => ⟨ttw 6 G, ?_⟩))
     refine SR.z 16 G G (ev_nil G G) ?_
     refine SR.z 17 G G (ev_fa G fo67_0 G (r := 0) G) ?_
     exact SR.weakj (key20 (v36, b33, b35, v34, b27, b28)) kR (Sub.get (.c4 G G G G (.c4 G G G G (.c G (.c G (.c G .n)))))) (kp (.d (.c (.t .h) (.d (.d .n)))))
    refine st_lit eMB (e := 68) (l := [(MB.mk b33 [])]) G G G G kR G G kW (fun b37 => ⟨ttw 6 G, ?_⟩)
    refine SR.o 8 G (st_app (E := eMB) (m := [(MB.mk b27 [])]) G G G G underlying65 ai68 G G G (.t4 .h) rO (row_src 2 G) lO G (fun v38 => ⟨ttw 6 G, ?_⟩))
    refine SR.o 15 G (st_app (E := eMB) (m := [(MB.mk b33 [])]) G G G G underlying65 ai68 G G G (.t4 (.t .h)) rO (row_src 1 G) lO G (fun v39 => ⟨ttw 6 G, ?_⟩))
    refine SR.z 16 G G (ev_nil G G) ?_
    refine SR.z 17 G G (ev_fa G fo67_0 G (r := 0) G) ?_
    exact SR.weakj (key20 (v39, b33, b37, v38, b27, b28)) kR (Sub.get (.c4 G G G G (.c4 G G G G (.c G (.c G (.c G .n)))))) (kp (.c .h (.c (.t .h) (.c (.t .h) (.d (.d .n))))))
   refine st_mkmap (α := Int) (β := Int) keZ.f (.int .i64) G G G G (fun b40 => ⟨ttw 4 G, ?_⟩)
   refine SR.two (i := 7) (j := 14) kR ⟨_, G, ?_⟩ ⟨_, G, ?_⟩
   ·
    refine st_lit eMB (e := 68) (l := [(MB.mk b27 [])]) G G G G kR G G kW (fun b41 => ⟨ttw 5 G, ?_⟩)
    refine SR.two (i := 8) (j := 14) kR ⟨_, G, ?_⟩ ⟨_, G, ?_⟩
    ·
     refine st_app (E := eMB) (m := [(MB.mk b27 [])]) G G G G underlying65 ai68 G G G (.t2 (.t .h)) rO (row_src 0 G) lO G (fun v42 => ⟨ttw 5 G, ?_⟩)
     refine SR.o 14 G (st_lit eMB (e := 68) (l := [(MB.mk b40 [])]) G G G G kR G G kW (fun b43 => ⟨ttw 6 G, ?_⟩))
     refine SR.o 15 G (st_app (E := eMB) (m := [(MB.mk b40 [])]) G G G G underlying65 ai68 G G G (.t4 (.t .h)) rO (row_src 0 G) lO G (fun v44 => ⟨ttw 6 G, ?_⟩))
     refine SR.z 16 G G (ev_nil G G) ?_
     refine SR.z 17 G G (ev_fa G fo67_0 G (r := 0) G) ?_
     exact SR.weakj (key20 (v44, b40, b43, v42, b27, b41)) kR (Sub.get (.c4 G G G G (.c4 G G G G (.c G (.c G (.c G .n)))))) (kp (.d (.c (.t2 .h) (.d (.d .n)))))
    refine st_lit eMB (e := 68) (l := [(MB.mk b40 [])]) G G G G kR G G kW (fun b45 => ⟨ttw 6 G, ?_⟩)
    refine SR.o 8 G (st_app (E := eMB) (m := [(MB.mk b27 [])]) G G G G underlying65 ai68 G G G (.t4 .h) rO (row_src 1 G) lO G (fun v46 => ⟨ttw 6 G, ?_⟩))
    refine SR.o 15 G (st_app (E := eMB) (m := [(MB.mk b40 [])]) G G G G underlying65 ai68 G G G (.t4 (.t .h)) rO (row_src 1 G) lO G (fun v47 => ⟨ttw 6 G, ?_⟩))
    refine SR.z 16 G G (ev_nil G G) ?_
    refine SR.z 17 G G (ev_fa G fo67_0 G (r := 0) G) ?_
    exact SR.weakj (key20 (v47, b40, b45, v46, b27, b41)) kR (Sub.get (.c4 G G G G (.c4 G G G G (.c G (.c G (.c G .n)))))) (kp (.c .h (.c (.t .h) (.c (.t2 .h) (.d (.d .n))))))
   refine st_lit eMB (e := 68) (l := [(MB.mk b40 [])]) G G G G kR G G kW (fun b48 => ⟨ttw 5 G, ?_⟩)
   refine SR.o 7 G (st_lit eMB (e := 68) (l := [(MB.mk b27 [])]) G G G G kR G G kW (fun b49 => ⟨ttw 6 G, ?_⟩))
   refine SR.o 8 G (st_app (E := eMB) (m := [(MB.mk b27 [])]) G G G G underlying65 ai68 G G G (.t4 .h) rO (row_src 0 G) lO G (fun v50 => ⟨ttw 6 G, ?_⟩))
   refine SR.o 15 G (st_app (E := eMB) (m := [(MB.mk b40 [])]) G G G G underlying65 ai68 G G G (.t4 (.t .h)) rO (row_src 2 G) lO G (fun v51 => ⟨ttw 6 G, ?_⟩))
   refine SR.z 16 G G (ev_nil G G) ?_
   refine SR.z 17 G G (ev_fa G fo67_0 G (r := 0) G) ?_
   exact SR.weakj (key20 (v51, b40, b48, v50, b27, b49)) kR (Sub.get (.c4 G G G G (.c4 G G G G (.c G (.c G (.c G .n)))))) (kp (.c .h (.c (.t2 .h) (.c (.t2 .h) (.d (.d .n))))))
  refine st_mkmap (α := Int) (β := Int) keZ.f (.int .i64) G G G G (fun b52 => ⟨ttw 3 G, ?_⟩)
  refine SR.two (i := 6) (j := 14) kR ⟨_, G, ?_⟩ ⟨_, G, ?_⟩
  ·
   refine st_mkmap (α := Int) (β := Int) keZ.f (.int .i64) G G G G (fun b53 => ⟨ttw 4 G, ?_⟩)
   refine SR.two (i := 7) (j := 14) kR ⟨_, G, ?_⟩ ⟨_, G, ?_⟩
   ·
    refine st_lit eMB (e := 68) (l := [(MB.mk b53 [])]) G G G G kR G G kW (fun b54 => ⟨ttw 5 G, ?_⟩)
    refine SR.two (i := 8) (j := 14) kR ⟨_, G, ?_⟩ ⟨_, G, ?_⟩
    ·
     refine st_app (E := eMB) (m := [(MB.mk b53 [])]) G G G G underlying65 ai68 G G G (.t2 (.t .h)) rO (row_src 0 G) lO G (fun v55 => ⟨ttw 5 G, ?_⟩)
     refine SR.o 14 G (st_lit eMB (e := 68) (l := [(MB.mk b52 [])]) G G G G kR G G kW (fun b56 => ⟨ttw 6 G, ?_⟩))
     refine SR.o 15 G (st_app (E := eMB) (m := [(MB.mk b52 [])]) G G G G underlying65 ai68 G G G (.t4 (.t .h)) rO (row_src 0 G) lO G (fun v57 => ⟨ttw 6 G, ?_⟩))
     refine SR.z 16 G G (ev_nil G G) ?_
     refine SR.z 17 G G (ev_fa G fo67_0 G (r := 0) G) ?_
     exact SR.weakj (key20 (v57, b52, b56, v55, b53, b54)) kR (Sub.get (.c4 G G G G (.c4 G G G G (.c G (.c G (.c G .n)))))) (kp (.d (.c (.t2 (.t .h)) (.d (.d .n)))))
    refine st_lit eMB (e := 68) (l := [(MB.mk b52 [])]) G G G G kR G G kW (fun b58 => ⟨ttw 6 G, ?_⟩)
    refine SR.o 8 G (st_app (E := eMB) (m := [(MB.mk b53 [])]) G G G G underlying65 ai68 G G G (.t4 .h) rO (row_src 1 G) lO G (fun v59 => ⟨ttw 6 G, ?_⟩))
    refine SR.o 15 G (st_app (E := eMB) (m := [(MB.mk b52 [])]) G G G G underlying65 ai68 G G G (.t4 (.t .h)) rO (row_src 1 G) lO G (fun v60 => ⟨ttw 6 G, ?_⟩))
    refine SR.z 16 G G (ev_nil G G) ?_
    refine SR.z 17 G G (ev_fa G fo67_0 G (r := 0) G) ?_
    exact SR.weakj (key20 (v60, b52, b58, v59, b53, b54)) kR (Sub.get (.c4 G G G G (.c4 G G G G (.c G (.c G (.c G .n)))))) (kp (.c .h (.c (.t .h) (.c (.t2 (.t .h)) (.d (.d .n))))))
   refine st_lit eMB (e := 68) (l := [(MB.mk b52 [])]) G G G G kR G G kW (fun b61 => ⟨ttw 5 G, ?_⟩)
   refine SR.o 7 G (st_lit eMB (e := 68) (l := [(MB.mk b53 [])]) G G G G kR G G kW (fun b62 => ⟨ttw 6 G, ?_⟩))
   refine SR.o 8 G (st_app (E := eMB) (m := [(MB.mk b53 [])]) G G G G underlying65 ai68 G G G (.t4 .h) rO (row_src 0 G) lO G (fun v63 => ⟨ttw 6 G, ?_⟩))
   refine SR.o 15 G (st_app (E := eMB) (m := [(MB.mk b52 [])]) G G G G underlying65 ai68 G G G (.t4 (.t .h)) rO (row_src 2 G) lO G (fun v64 => ⟨ttw 6 G, ?_⟩))
   refine SR.z 16 G G (ev_nil G G) ?_
   refine SR.z 17 G G (ev_fa G fo67_0 G (r := 0) G) ?_
   exact SR.weakj (key20 (v64, b52, b61, v63, b53, b62)) kR (Sub.get (.c4 G G G G (.c4 G G G G (.c G (.c G (.c G .n)))))) (kp (.c .h (.c (.t2 .h) (.c (.t2 (.t .h)) (.d (.d .n))))))
  refine st_lit eMB (e := 68) (l := [(MB.mk b52 [])]) G G G G kR G G kW (fun b65 => ⟨ttw 4 G, ?_⟩)
  refine SR.o 6 G (st_mkmap (α := Int) (β := Int) keZ.f (.int .i64) G G G G (fun b66 => ⟨ttw 5 G, ?_⟩))
  refine SR.o 7 G (st_lit eMB (e := 68) (l := [(MB.mk b66 [])]) G G G G kR G G kW (fun b67 => ⟨ttw 6 G, ?_⟩))
  refine SR.o 8 G (st_app (E := eMB) (m := [(MB.mk b66 [])]) G G G G underlying65 ai68 G G G (.t4 .h) rO (row_src 0 G) lO G (fun v68 => ⟨ttw 6 G, ?_⟩))
  refine SR.o 15 G (st_app (E := eMB) (m := [(MB.mk b52 [])]) G G G G underlying65 ai68 G G G (.t4 (.t .h)) rO (row_src 3 G) lO G (fun v69 => ⟨ttw 6 G, ?_⟩))
  refine SR.z 16 G G (ev_nil G G) ?_
  refine SR.z 17 G G (ev_fa G fo67_0 G (r := 0) G) ?_
  exact SR.weakj (key20 (v69, b52, b65, v68, b66, b67)) kR (Sub.get (.c4 G G G G (.c4 G G G G (.c G (.c G (.c G .n)))))) (kp (.c .h (.c (.t2 (.t .h)) (.c (.t2 (.t .h)) (.d (.d .n))))))
 refine .exit idQ ?_
 refine SC.seqx (X := Nat × Nat × (Option Addr) × Nat × Nat × (Option Addr) × Nat × Nat × Value × (List LK) × (List MB) × (List MB)) (fun ⟨wb, zb, oA, on, oc, iA, ik, ic, u, K, M1, M2⟩ => ((GS.mk (mmL M1) (mmL M2) K (List.replicate n.toNat false)) = (G1 n fi ed)) ∧ (M1.length = on) ∧ (M2.length = ik) ∧ ((on : Int) = n) ∧ ((ik : Int) = n)) (fun ⟨wb, zb, oA, on, oc, iA, ik, ic, u, K, M1, M2⟩ => ([(0, .pointer (some ⟨b, 0, none⟩)), (3, .int .i64 n), (4, .pointer (some ⟨wb, 0, none⟩))], [rw_ eLK 44 (u) K, rw_ eMB 68 (.slice oA on oc) M1, rw_ eMB 68 (.slice iA ik ic) M2, nestM M1, nestM M2, cel wb [.slice oA on oc, .slice iA ik ic, u, .slice (some ⟨zb, 0, none⟩) n.toNat n.toNat] 67, rw_ eB 4 (.slice (some ⟨zb, 0, none⟩) n.toNat n.toNat) (List.replicate n.toNat false), cel b [.slice fA fi.length fc, .slice eA ed.length ec] 106])) S wf (fun ⟨wb, zb, oA, on, oc, iA, ik, ic, u, K, M1, M2⟩ hk157 => ?_) (fun key156 => ?_)
 ·
  obtain ⟨j_0, j_1, j_2, j_3, j_4⟩ := hk157
  exact build__s18 n t b fA fc fi eA ec ed _ _ hF hE hT hGr hec wb zb oA on oc iA ik ic u K M1 M2 j_0 j_1 j_2 j_3 j_4 _
 refine .seq (.know (row_len 0 G) (fun hv160 => ?_))
 obtain ⟨A158, c159, rfl, hv160_1, hv160_2⟩ := hv160
 unfold maxLen at hv160_2
 refine .know (row_len 1 G) (fun hv163 => ?_)
 obtain ⟨A161, c162, rfl, hv163_1, hv163_2⟩ := hv163
 unfold maxLen at hv163_2
 refine .region (.m G G G (.m G G G (.go idQ (.block ?_))))
 refine SC.nilrow eLK 44 ?_
 refine .loop (X := Int × (List LK) × Value × (List MB) × (List MB)) (fun ⟨p, K, u_K, M1, M2⟩ => 0 ≤ p ∧ p ≤ n ∧ (GS.mk (mmL M1) (mmL M2) K (List.replicate n.toNat false)) = linksG (G0 n) (bL fi ed p) ∧ (M1.length : Int) = n ∧ (M2.length : Int) = n) (fun ⟨p, K, u_K, M1, M2⟩ => [(0, .pointer (some ⟨b, 0, none⟩)), (2, .pointer none), (3, .int .i64 n), (4, .pointer (some ⟨b2, 0, none⟩)), (22, .int .i64 n), (23, .int .i64 i), (46, .int .i64 n), (47, .int .i64 p)]) (fun ⟨p, K, u_K, M1, M2⟩ => [rw_ eLK 44 (u_K) K, rw_ eMB 68 (.slice A158 MO.length c159) M1, rw_ eMB 68 (.slice A161 MI.length c162) M2, nestM M1, nestM M2, cel b2 [.slice A158 MO.length c159, .slice A161 MI.length c162, u_K, .slice (some ⟨b1, 0, none⟩) ((n).toNat) ((n).toNat)] 67, rw_ eB 4 (.slice (some ⟨b1, 0, none⟩) ((n).toNat) ((n).toNat)) (List.replicate ((n).toNat) false), cel b [.slice fA fi.length fc, .slice eA ed.length ec] 106]) (fun _ => S) (fun _ => wf) (fun ⟨p, K, u_K, M1, M2⟩ => (n - p).toNat) (fun a_ w_ hs_ hw_ => ⟨⟨0, ([] : List LK), .slice none 0 0, MO, MI⟩, (by (try dsimp only); exact ⟨oO, oO, (by rw [q_2, q_3, show i = n from by omega]; rfl), (by have h_ := congrArg List.length q_2; rw [mmL_len, List.length_replicate] at h_; omega), (by have h_ := congrArg List.length q_3; rw [mmL_len, List.length_replicate] at h_; omega)⟩), hs_.mono (Sub.get (.c4 G G G G (.c4 G G G G .n))), hw_.keep (.d (.d (.d (.d .n))))⟩) (fun ⟨p, K, u_K, M1, M2⟩ ⟨r_0, r_1, r_2, r_3, r_4⟩ => ?_)
 try dsimp only
 refine .seq (.region (.e G G G G G (.go idQ (.seq (.condI G bD (fun h164 => ?_) (fun h164 => ?_))))))
 ·
  refine .skipgo idQ (.seq (.block (.seq (.region (.m G G G (.a G G G (.go idQ (.seq (.region ?_)))))))))
  refine .m G G G (.m G G G (.cons (st_call0 G G G G hbd30 G (.c (.t4 (.t2 (.t .h))) .n) (gout_ b fA fc fi eA ec ed p _ _ hF hE lO (hGr.rng p oO oO) oO) (fun v_q166 C_q166 q166 => ?_))))
  obtain ⟨u165, rfl, rfl⟩ := q166
  show SP _ _ _ _ _ _ ⟨_, _ :: _ :: _, _, _⟩
  refine .know (row_len 1 G) (fun hv169 => ?_)
  obtain ⟨A167, c168, rfl, hv169_1, hv169_2⟩ := hv169
  unfold maxLen at hv169_2
  refine .g underlying69 G G G (.m G G G (.go idQ (.block (.loop (X := Int × (List LK) × Value × (List MB) × (List MB)) (fun ⟨j, K2, u_K2, M3, M4⟩ => 0 ≤ j ∧ j ≤ ((outL fi ed p).length : Int) ∧ (GS.mk (mmL M3) (mmL M4) K2 (List.replicate n.toNat false)) = linksG (G0 n) (bL fi ed p ++ (bEp fi ed p).take j.toNat) ∧ (M3.length : Int) = n ∧ (M4.length : Int) = n) (fun ⟨j, K2, u_K2, M3, M4⟩ => [(0, .pointer (some ⟨b, 0, none⟩)), (2, .pointer none), (3, .int .i64 n), (4, .pointer (some ⟨b2, 0, none⟩)), (22, .int .i64 n), (23, .int .i64 i), (46, .int .i64 n), (47, .int .i64 p), (5, .int .i64 p), (52, .slice A167 ((outL fi ed p).length) c168), (53, .int .i64 (((outL fi ed p).length : Nat) : Int)), (54, .int .i64 j)]) (fun ⟨j, K2, u_K2, M3, M4⟩ => [cel b [.slice fA fi.length fc, .slice eA ed.length ec] 106, rw_ eEG 72 (.slice A167 ((outL fi ed p).length) c168) (outL fi ed p), rw_ eLK 44 (u_K2) K2, rw_ eMB 68 (.slice A158 MO.length c159) M3, rw_ eMB 68 (.slice A161 MI.length c162) M4, nestM M3, nestM M4, cel b2 [.slice A158 MO.length c159, .slice A161 MI.length c162, u_K2, .slice (some ⟨b1, 0, none⟩) ((n).toNat) ((n).toNat)] 67, rw_ eB 4 (.slice (some ⟨b1, 0, none⟩) ((n).toNat) ((n).toNat)) (List.replicate ((n).toNat) false)]) (fun _ => S) (fun _ => wf) (fun ⟨j, K2, u_K2, M3, M4⟩ => (((outL fi ed p).length : Int) - j).toNat) (fun a_ w_ hs_ hw_ => ⟨⟨0, K, u_K, M1, M2⟩, (by (try dsimp only); exact ⟨oO, oO, (by rw [r_2]; simp), r_3, r_4⟩), hs_.mono (Sub.get (.c4 G G G G (.c4 G G G G (.c4 G G G G .n)))), hw_.keep (.d (.d (.d (.d (.c .h .n)))))⟩) (fun ⟨j, K2, u_K2, M3, M4⟩ ⟨s_0, s_1, s_2, s_3, s_4⟩ => ?_)))))
  try dsimp only
  have hpk := pre_ok hT hGr (p := p) (j := j.toNat) oO oO (.inl oO)
  rw [← s_2] at hpk
  have hkb2 : (K2.length : Int) ≤ 8448 := hpk.2.2
  refine .seq (.region (.e G G G G G (.go idQ (.seq (.condI G bD (fun h170 => ?_) (fun h170 => ?_))))))
  ·
   refine .skipgo idQ (.seq (.block (.seq (.region (.v (ev_ix G underlying69 ty72 G G oO oO (row_adr (i := j) 1 G oO lO)) G (.v (ev_lda G G (row_el (E := eEG) (l := (outL fi ed p)) (i := j) 1 G oO lO) ty72) G (.cons (st_alloc G G G G zf72 (fun b171 => ?_)))))))))
   refine .cons (st_storea (l' := [.int .i64 ((gt (outL fi ed p) j).et), .int .i64 ((gt (outL fi ed p) j).ew)]) G G G ty72 G G G .h G G ?_)
   refine .go idQ ?_
   have hge := hGr.ok p oO oO _ (gtM (l := outL fi ed p) (i := j) oO oO)
   refine .region (.m G G G (.m G G G (.f fo72_0 0 G G G G ?_)))
   refine .l ty3 0 G G G G G (.f fo72_1 1 G G G G (.l ty3 0 G G G G G (.v (ev_any (v := .agg #[.int .i64 p, .int .i64 ((gt (outL fi ed p) j).et), .int .i64 ((gt (outL fi ed p) j).ew), .int .i64 (-1)]) G kR (fun _ => by kernel_rfl)) G ?_)))
   refine .know (row_len 3 G) (fun hv174 => ?_)
   obtain ⟨A172, c173, rfl, hv174_1, hv174_2⟩ := hv174
   unfold maxLen at hv174_2
   refine .cons (st_call0 G G G G hbd31 G (.c (.t4 (.t4 .h)) (.c (.t4 .h) (.c (.t4 .h) (.c (.t2 (.t .h)) (.c (.t2 (.t .h)) (.c (.t2 (.t .h)) .n)))))) (link_ n b2 A158 MO.length c159 M3 A161 MI.length c162 M4 A172 K2.length c173 K2 (some ⟨b1, 0, none⟩) ((n).toNat) ((n).toNat) (List.replicate ((n).toNat) false) (LK.mk p ((gt (outL fi ed p) j).et) ((gt (outL fi ed p) j).ew) (-1)) _ _ hpk.1 oO ⟨by omega, by omega, hge.1, hge.2.1⟩ oO) (fun v_q179 C_q179 q179 => ?_))
   obtain ⟨u175, MO2176, MI2177, K2178, p180, p181, p182, rfl, rfl⟩ := q179
   show SP _ _ _ _ _ _ ⟨_, _ :: _ :: _ :: _ :: _ :: _ :: _, _, _⟩
   refine .go idQ (.region (.p ((j + 1)) oO oO G G G G G (.m G G G ?_)))
   exact SP.nil (SQ.roundb (X := Int × (List LK) × Value × (List MB) × (List MB)) (x := (j, K2, (.slice A172 K2.length c173), M3, M4)) ⟨(j + 1), K2178, u175, MO2176, MI2177⟩ (by (try dsimp only); exact ⟨oO, oO, (pre_step s_2 oO oO p180), (by rw [p181]; exact s_3), (by rw [p182]; exact s_4)⟩) dO (Sub.get (.c4 G G G G (.c4 G G G G (.c4 G G G G .n)))) (kp (.c (.t4 (.t2 (.t .h))) (.c (.t4 (.t2 (.t .h))) (.c (.t2 (.t .h)) (.c (.t .h) (.c (.t .h) (.c (.t .h) (.c (.t .h) (.c .h (.c (.t .h) .n)))))))))))
  refine .exit idQ ?_
  refine .region (.p ((p + 1)) oO oO G G G G G (.m G G G ?_))
  exact SP.nil (SQ.roundb (X := Int × (List LK) × Value × (List MB) × (List MB)) (x := (p, K, u_K, M1, M2)) ⟨(p + 1), K2, u_K2, M3, M4⟩ (by (try dsimp only); exact ⟨oO, oO, (pre_end s_2 oO oO), s_3, s_4⟩) dO (Sub.get (.c4 G G G G (.c4 G G G G .n))) (kp (.c (.t2 .h) (.c (.t2 .h) (.c (.t2 .h) (.c (.t2 .h) (.c (.t2 .h) (.c (.t2 .h) (.c (.t2 .h) (.c .h .n))))))))))
 refine .exit idQ ?_
 exact SC.weak (key156 ⟨b2, b1, A158, MO.length, c159, A161, MI.length, c162, u_K, K, M1, M2⟩ ⟨(by have h_ := r_2; rw [show p = n from by omega] at h_; exact h_), oO, oO, oO, oO⟩) (Sub.get (.c G (.c G (.c G .n)))) (kp (.d (.d (.d (.d .n)))))
end Go.Proofs.Ytpjblnmophcdmaa.Sx
set_option maxRecDepth 20000
set_option maxHeartbeats 8000000
namespace Go.Proofs.Ytpjblnmophcdmaa.Sx.FR
open Go Go.SX Go.Proofs Go.Proofs.Try FA FB FC FD FE FF FG FH FI FJ FK FL FM FN FO FP FQ
theorem hbd37 : hasBody prog 37 = true := by kernel_rfl
theorem hbd42 : hasBody prog 42 = true := by kernel_rfl
theorem hbd44 : hasBody prog 44 = true := by kernel_rfl
end Go.Proofs.Ytpjblnmophcdmaa.Sx.FR
namespace Go.Proofs.Ytpjblnmophcdmaa.Sx
open Go Go.SX Go.Proofs Go.Proofs.Try FA FB FC FD FE FF FG FH FI FJ FK FL FM FN FO FP FQ FR
theorem lpl_ (lb : Nat) (rA : Option Addr) (rc : Nat) (R : List Int) (kA : Option Addr) (kc : Nat) (K : List LK) (uA : Option Addr) (uc : Nat) (U : List IL) (dA : Option Addr) (dc : Nat) (D : List IL) (S : Nat → Prop) (wf : World) :
  TR0 prog 37 [.pointer (some ⟨lb, 0, none⟩)] [cel lb [.slice rA R.length rc, .slice kA K.length kc, .slice uA U.length uc, .slice dA D.length dc] 76, rw_ eZ 3 (.slice rA R.length rc) R, rw_ eLK 44 (.slice kA K.length kc) K, rw_ eIL 27 (.slice uA U.length uc) U, rw_ eIL 27 (.slice dA D.length dc) D, nestIL 3 U, nestIL 3 D] S wf (fun v_ C_ => v_ = .int .i64 (R.length : Int) ∧ C_ = [cel lb [.slice rA R.length rc, .slice kA K.length kc, .slice uA U.length uc, .slice dA D.length dc] 76, rw_ eZ 3 (.slice rA R.length rc) R, rw_ eLK 44 (.slice kA K.length kc) K, rw_ eIL 27 (.slice uA U.length uc) U, rw_ eIL 27 (.slice dA D.length dc) D, nestIL 3 U, nestIL 3 D]) := by
 refine TR.mk func37 G ntmps37 G G (fun w_ => ?_)
 refine .seq (.region (.a G G G (.go idQ (.seq (.seq (.region (.m G G G ?_)))))))
 refine .v (ev_bin G G G (r := .bool false) (fun _ => by kernel_rfl)) G (.go idQ (.cond_f G (.skipgo idQ (.seq (.region ?_)))))
 refine .m G G G (.v (ev_nil G G) G (.f fo76_0 0 G G G G (.l ty27 0 G G G G G ?_)))
 refine .g underlying27 G G G (.a G G G (.go idQ (.ret idQ (ret1 results37 G (.d (.d (.d (.c .h .n)))) ⟨G, G⟩))))
theorem lrk_ (lb : Nat) (rA : Option Addr) (rc : Nat) (R : List Int) (kA : Option Addr) (kc : Nat) (K : List LK) (uA : Option Addr) (uc : Nat) (U : List IL) (dA : Option Addr) (dc : Nat) (D : List IL) (p : Int) (S : Nat → Prop) (wf : World) :
  TR0 prog 42 [.pointer (some ⟨lb, 0, none⟩), .int .i64 p] [cel lb [.slice rA R.length rc, .slice kA K.length kc, .slice uA U.length uc, .slice dA D.length dc] 76, rw_ eZ 3 (.slice rA R.length rc) R, rw_ eLK 44 (.slice kA K.length kc) K, rw_ eIL 27 (.slice uA U.length uc) U, rw_ eIL 27 (.slice dA D.length dc) D, nestIL 3 U, nestIL 3 D] S wf (fun v_ C_ => v_ = .int .i64 (rkAt R p) ∧ C_ = [cel lb [.slice rA R.length rc, .slice kA K.length kc, .slice uA U.length uc, .slice dA D.length dc] 76, rw_ eZ 3 (.slice rA R.length rc) R, rw_ eLK 44 (.slice kA K.length kc) K, rw_ eIL 27 (.slice uA U.length uc) U, rw_ eIL 27 (.slice dA D.length dc) D, nestIL 3 U, nestIL 3 D]) := by
 refine TR.mk func42 G ntmps42 G G (fun w_ => ?_)
 refine .seq (.region (.a G G G (.go idQ (.seq (.seq (.region (.m G G G ?_)))))))
 refine .e G G G G G (.m G G G (.w (fun _ => ev_mv G G) G (.w (fun _ => ev_mv G G) G ?_)))
 refine .cons (st_gcallk G G G G G G hbd37 (fun hb => (lkA1 (lkg G hb) lkA0)) (.d (.d (.d (.c .h .n)))) (fun hb => have hp := bF bD hb; lpl_ lb rA rc R kA kc K uA uc U dA dc D _ _) ?_)
 refine .w (fun hb => ev_cmp G (lkg G hb) (lkg G hb) G) G (.r G G G G G (.go idQ (.condI G (bO bD bD) (fun h1 => ?_) (fun h1 => ?_))))
 ·
  refine .seq (.region (.a G G G (.go idQ (.ret idQ (ret1 results42 G (.d (.d (.d (.c .h .n)))) ⟨(congrArg (Value.int .i64) (by unfold rkAt; repeat (first | rw [if_pos oO] | rw [if_neg oO]))), G⟩)))))
 refine .skipgo idQ (.seq (.region (.m G G G (.v (ev_nil G G) G (.f fo76_0 0 G G G G ?_)))))
 refine .l ty27 0 G G G G G (.m G G G (.v (ev_ix G underlying27 ty3 G G oO oO (row_adr (i := p) 1 G oO oO)) G (.v (ev_ld1 G ty3 G (At.elem1 (row_el (E := eZ) (l := R) (i := p) 1 G oO oO) 0 G)) G ?_)))
 refine .a G G G (.go idQ (.ret idQ (ret1 results42 G (.d (.d (.d (.c .h .n)))) ⟨(congrArg (Value.int .i64) (by unfold rkAt; repeat (first | rw [if_pos oO] | rw [if_neg oO]))), G⟩)))
theorem pick_ (lb : Nat) (rA : Option Addr) (rc : Nat) (R : List Int) (kA : Option Addr) (kc : Nat) (K : List LK) (v3 : Value) (v4 : Value) (A : Option Addr) (n : Nat) (c : Nat) (l : List Int) (S : Nat → Prop) (wf : World) (hA : Fr eZ S wf A l) (hn : l.length = n) (hx : ∀ x ∈ l, 0 ≤ x ∧ x < (K.length : Int)) (hl : l.length ≤ 100000) :
  TR0 prog 44 [.pointer (some ⟨lb, 0, none⟩), .slice A n c] [cel lb [.slice rA R.length rc, .slice kA K.length kc, v3, v4] 76, rw_ eLK 44 (.slice kA K.length kc) K] S wf (fun v_ C_ => ∃ (u : Value), v_ = u ∧ C_ = [cel lb [.slice rA R.length rc, .slice kA K.length kc, v3, v4] 76, rw_ eLK 44 (.slice kA K.length kc) K, rw_ eLK 44 (u) (l.map (gt K))]) := by
 have hla := hA.len
 refine TR.mk func44 G ntmps44 G G (fun w_ => ?_)
 refine .seq (.region (.a G G G (.go idQ (.seq (.region (.a G G G ?_))))))
 refine .go idQ (.seq (.seq (.region (.m G G G (.g underlying27 G G G (.m G G G ?_))))))
 refine .go idQ (.block ?_)
 refine SC.nilrow eLK 44 ?_
 refine .loop (X := Int × (List LK) × Value) (fun ⟨i, X, u_X⟩ => 0 ≤ i ∧ i ≤ (n : Int) ∧ X = (l.take i.toNat).map (gt K)) (fun ⟨i, X, u_X⟩ => [(0, .pointer (some ⟨lb, 0, none⟩)), (4, .slice none 0 0), (8, .slice A n c), (9, .int .i64 (n : Int)), (10, .int .i64 i), (5, u_X)]) (fun ⟨i, X, u_X⟩ => [rw_ eLK 44 (u_X) X, cel lb [.slice rA R.length rc, .slice kA K.length kc, v3, v4] 76, rw_ eLK 44 (.slice kA K.length kc) K]) (fun _ => S) (fun _ => wf) (fun ⟨i, X, u_X⟩ => ((n : Int) - i).toNat) (fun a_ w_ hs_ hw_ => ⟨⟨0, ([] : List LK), .slice none 0 0⟩, (by (try dsimp only); exact ⟨oO, oO, G⟩), hs_.mono (Sub.get (.c4 G G G G (.c G (.c G .n)))), hw_.keep (.d (.c .h .n))⟩) (fun ⟨i, X, u_X⟩ ⟨q_0, q_1, q_2⟩ => ?_)
 try dsimp only
 have hxl : X.length ≤ i.toNat := by rw [q_2, List.length_map, List.length_take]; omega
 refine .seq (.region (.e G G G G G (.go idQ (.seq (.condI G bD (fun h1 => ?_) (fun h1 => ?_))))))
 ·
  refine .skipgo idQ (.seq (.block (.seq ?_)))
  have hgi := hx _ (gtM (l := l) (i := i) oO oO)
  refine .region (.v (ev_ix G underlying27 ty3 G G oO oO (fun _ _ => Fr.adr (i := i) hA oO oO)) G (.v (ev_ld1 G ty3 G (At.elem1 (At.w (Fr.el (i := i) hA oO oO)) 0 G)) G (.a G G G ?_)))
  refine .go idQ (.region (.m G G G (.m G G G (.v (ev_nil G G) G ?_))))
  refine .f fo76_1 1 G G G G (.l ty41 1 G G G G G (.m G G G (.v (ev_ix G underlying41 ty44 G G oO oO (row_adr (i := (gt l i)) 2 G oO oO)) G ?_)))
  refine .v (ev_lda G G (row_el (E := eLK) (l := K) (i := (gt l i)) 2 G oO oO) ty44) G (.cons (st_lit eLK (e := 44) (l := [(gt K (gt l i))]) G G G G kR G G kW (fun b2 => (.cons (st_app (E := eLK) (m := [(gt K (gt l i))]) G G G G underlying41 ai44 G G G (.t .h) rO (row_src 0 G) lO G (fun v3 => (.a G G G ?_)))))))
  refine .go idQ (.region (.p ((i + 1)) oO oO G G G G G (.m G G G ?_)))
  exact SP.nil (SQ.roundb (X := Int × (List LK) × Value) (x := (i, X, u_X)) ⟨(i + 1), (X ++ [(gt K (gt l i))]), v3⟩ (by (try dsimp only); exact ⟨oO, oO, (pick_next q_2 oO oO)⟩) dO (Sub.get (.c4 G G G G (.c G (.c G .n)))) (kp (.c .h (.c (.t .h) (.c (.t .h) .n)))))
 refine .exit idQ ?_
 refine .seq (.region (.m G G G (.a G G G (.go idQ ?_))))
 exact .ret idQ (ret1 results44 G (.c (.t .h) (.c (.t .h) (.c .h .n))) ⟨u_X, G, (by rw [q_2, List.take_of_length_le oO])⟩)
theorem lup_ (lb : Nat) (rA : Option Addr) (rc : Nat) (R : List Int) (kA : Option Addr) (kc : Nat) (K : List LK) (uA : Option Addr) (uc : Nat) (U : List IL) (dA : Option Addr) (dc : Nat) (D : List IL) (p : Int) (S : Nat → Prop) (wf : World) (hL : LOk R K U D) :
  TR0 prog 17 [.pointer (some ⟨lb, 0, none⟩), .int .i64 p] [cel lb [.slice rA R.length rc, .slice kA K.length kc, .slice uA U.length uc, .slice dA D.length dc] 76, rw_ eZ 3 (.slice rA R.length rc) R, rw_ eLK 44 (.slice kA K.length kc) K, rw_ eIL 27 (.slice uA U.length uc) U, rw_ eIL 27 (.slice dA D.length dc) D, nestIL 3 U, nestIL 3 D] S wf (fun v_ C_ => ∃ (u : Value), v_ = u ∧ C_ = [cel lb [.slice rA R.length rc, .slice kA K.length kc, .slice uA U.length uc, .slice dA D.length dc] 76, rw_ eZ 3 (.slice rA R.length rc) R, rw_ eLK 44 (.slice kA K.length kc) K, rw_ eIL 27 (.slice uA U.length uc) U, rw_ eIL 27 (.slice dA D.length dc) D, nestIL 3 U, nestIL 3 D, rw_ eLK 44 (u) (pkL R K U p)]) := by
 refine TR.mk func17 G ntmps17 G G (fun w_ => ?_)
 refine .seq (.region (.a G G G (.go idQ (.seq (.seq (.region (.m G G G ?_)))))))
 refine .m G G G (.cons (st_callk G G G G hbd42 G (.d (.d (.d (.c .h .n)))) (lrk_ lb rA rc R kA kc K uA uc U dA dc D p _ _) (.e G G G G G (.go idQ ?_))))
 refine .condI G bD (fun h1 => ?_) (fun h1 => ?_)
 ·
  refine .seq (.region (.a G G G (.go idQ ?_)))
  refine SC.nilrow eLK 44 ?_
  exact .ret idQ (ret1 results17 G (.c (.t .h) (.c (.t .h) (.c (.t .h) (.c (.t .h) (.c (.t .h) (.c (.t .h) (.c (.t .h) (.c .h .n)))))))) ⟨.slice none 0 0, G, (by unfold pkL; rw [if_pos h1])⟩)
 refine .skipgo idQ (.seq ?_)
 have hpr := rk_rng h1
 have hUl := hL.lu
 have hui := hL.iu p hpr.1 hpr.2
 refine SC.outIL p oO oO (.t4 (.t .h)) (fun hol => ?_)
 refine .region (.m G G G (.m G G G (.v (ev_nil G G) G ?_)))
 refine .f fo76_2 2 G G G G (.l ty74 2 G G G G G (.m G G G (.v (ev_ix G underlying74 ty27 G G oO oO (row_adr (i := p) 5 G oO oO)) G ?_)))
 refine .v (ev_ld1 G ty27 G (At.elem1 (row_el (E := eIL) (l := U) (i := p) 5 G oO oO) 0 G)) G (.cons (st_lend0 G G G G hbd44 G (.c (.t2 .h) (.c (.t2 (.t .h)) .n)) (.c .h .n) (fun w_ hw => pick_ lb rA rc R kA kc K (.slice uA U.length uc) (.slice dA D.length dc) ((gt U p).ilA) ((gt U p).il.length) ((gt U p).ilc) ((gt U p).il) _ _ (Fr.lend hw 0 G lO) G hui.1 hui.2) (fun v_q3 C_q3 q3 => ?_)))
 obtain ⟨u2, rfl, rfl⟩ := q3
 show SP _ _ _ _ _ _ ⟨_, _ :: _ :: _ :: _ :: _, _, _⟩
 refine .a G G G (.go idQ ?_)
 refine SC.backIL p oO oO (.c (.t2 (.t .h)) (.c (.t2 (.t .h)) .n)) hol ?_
 exact .ret idQ (ret1 results17 G (.c (.t .h) (.c (.t2 (.t .h)) (.c (.t .h) (.c (.t2 .h) (.c (.t2 .h) (.c .h (.c (.t .h) (.c .h .n)))))))) ⟨v_q3, G, (by unfold pkL; rw [if_neg h1])⟩)
theorem ldown_ (lb : Nat) (rA : Option Addr) (rc : Nat) (R : List Int) (kA : Option Addr) (kc : Nat) (K : List LK) (uA : Option Addr) (uc : Nat) (U : List IL) (dA : Option Addr) (dc : Nat) (D : List IL) (p : Int) (S : Nat → Prop) (wf : World) (hL : LOk R K U D) :
  TR0 prog 18 [.pointer (some ⟨lb, 0, none⟩), .int .i64 p] [cel lb [.slice rA R.length rc, .slice kA K.length kc, .slice uA U.length uc, .slice dA D.length dc] 76, rw_ eZ 3 (.slice rA R.length rc) R, rw_ eLK 44 (.slice kA K.length kc) K, rw_ eIL 27 (.slice uA U.length uc) U, rw_ eIL 27 (.slice dA D.length dc) D, nestIL 3 U, nestIL 3 D] S wf (fun v_ C_ => ∃ (u : Value), v_ = u ∧ C_ = [cel lb [.slice rA R.length rc, .slice kA K.length kc, .slice uA U.length uc, .slice dA D.length dc] 76, rw_ eZ 3 (.slice rA R.length rc) R, rw_ eLK 44 (.slice kA K.length kc) K, rw_ eIL 27 (.slice uA U.length uc) U, rw_ eIL 27 (.slice dA D.length dc) D, nestIL 3 U, nestIL 3 D, rw_ eLK 44 (u) (pkL R K D p)]) := by
 refine TR.mk func18 G ntmps18 G G (fun w_ => ?_)
 refine .seq (.region (.a G G G (.go idQ (.seq (.seq (.region (.m G G G ?_)))))))
 refine .m G G G (.cons (st_callk G G G G hbd42 G (.d (.d (.d (.c .h .n)))) (lrk_ lb rA rc R kA kc K uA uc U dA dc D p _ _) (.e G G G G G (.go idQ ?_))))
 refine .condI G bD (fun h1 => ?_) (fun h1 => ?_)
 ·
  refine .seq (.region (.a G G G (.go idQ ?_)))
  refine SC.nilrow eLK 44 ?_
  exact .ret idQ (ret1 results18 G (.c (.t .h) (.c (.t .h) (.c (.t .h) (.c (.t .h) (.c (.t .h) (.c (.t .h) (.c (.t .h) (.c .h .n)))))))) ⟨.slice none 0 0, G, (by unfold pkL; rw [if_pos h1])⟩)
 refine .skipgo idQ (.seq ?_)
 have hpr := rk_rng h1
 have hUl := hL.ld
 have hui := hL.iD p hpr.1 hpr.2
 refine SC.outIL p oO oO (.t4 (.t2 .h)) (fun hol => ?_)
 refine .region (.m G G G (.m G G G (.v (ev_nil G G) G ?_)))
 refine .f fo76_3 3 G G G G (.l ty74 2 G G G G G (.m G G G (.v (ev_ix G underlying74 ty27 G G oO oO (row_adr (i := p) 6 G oO oO)) G ?_)))
 refine .v (ev_ld1 G ty27 G (At.elem1 (row_el (E := eIL) (l := D) (i := p) 6 G oO oO) 0 G)) G (.cons (st_lend0 G G G G hbd44 G (.c (.t2 .h) (.c (.t2 (.t .h)) .n)) (.c .h .n) (fun w_ hw => pick_ lb rA rc R kA kc K (.slice uA U.length uc) (.slice dA D.length dc) ((gt D p).ilA) ((gt D p).il.length) ((gt D p).ilc) ((gt D p).il) _ _ (Fr.lend hw 0 G lO) G hui.1 hui.2) (fun v_q3 C_q3 q3 => ?_)))
 obtain ⟨u2, rfl, rfl⟩ := q3
 show SP _ _ _ _ _ _ ⟨_, _ :: _ :: _ :: _ :: _, _, _⟩
 refine .a G G G (.go idQ ?_)
 refine SC.backIL p oO oO (.c (.t2 (.t .h)) (.c (.t2 (.t .h)) .n)) hol ?_
 exact .ret idQ (ret1 results18 G (.c (.t .h) (.c (.t2 (.t .h)) (.c (.t .h) (.c (.t2 .h) (.c (.t2 .h) (.c (.t2 .h) (.d .n))))))) ⟨v_q3, G, (by unfold pkL; rw [if_neg h1])⟩)
end Go.Proofs.Ytpjblnmophcdmaa.Sx
set_option maxRecDepth 20000
set_option maxHeartbeats 8000000
namespace Go.Proofs.Ytpjblnmophcdmaa.Sx.FS
open Go Go.SX Go.Proofs Go.Proofs.Try FA FB FC FD FE FF FG FH FI FJ FK FL FM FN FO FP FQ FR
theorem hbd26 : hasBody prog 26 = true := by kernel_rfl
theorem hbd48 : hasBody prog 48 = true := by kernel_rfl
theorem hbd49 : hasBody prog 49 = true := by kernel_rfl
theorem hbd23 : hasBody prog 23 = true := by kernel_rfl
theorem hbd27 : hasBody prog 27 = true := by kernel_rfl
theorem hbd28 : hasBody prog 28 = true := by kernel_rfl
theorem hbd19 : hasBody prog 19 = true := by kernel_rfl
end Go.Proofs.Ytpjblnmophcdmaa.Sx.FS
namespace Go.Proofs.Ytpjblnmophcdmaa.Sx
open Go Go.SX Go.Proofs Go.Proofs.Try FA FB FC FD FE FF FG FH FI FJ FK FL FM FN FO FP FQ FR FS
theorem gwt_ (n : Int) (t : List Int) (b : Nat) (fA : Option Addr) (fc : Nat) (fi : List Int) (eA : Option Addr) (ec : Nat) (ed : List EG) (p : Int) (q : Int) (S : Nat → Prop) (wf : World) (hF : Fr eZ S wf fA fi) (hE : Fr eEG S wf eA ed) (hT : TabOk n t) (hGr : GOk n t fi ed) (hec : ed.length ≤ ec) (hp : 0 ≤ p ∧ p < n) (hq : 0 ≤ q ∧ q < n) :
  TR0 prog 49 [.pointer (some ⟨b, 0, none⟩), .int .i64 p, .int .i64 q] [cel b [.slice fA fi.length fc, .slice eA ed.length ec] 106] S wf (fun v_ C_ => v_ = .int .i64 (gt t (p * n + q)) ∧ C_ = [cel b [.slice fA fi.length fc, .slice eA ed.length ec] 106]) := by
 have hn1 := hT.pl
 have hfl := hGr.len
 have hne := hGr.ne
 refine TR.mk func49 G ntmps49 G G (fun w_ => ?_)
 refine .seq (.region (.a G G G (.go idQ (.seq (.seq (.region (.m G G G ?_)))))))
 refine .m G G G (.cons (st_call0 G G G G hbd30 G (.c .h .n) (gout_ b fA fc fi eA ec ed p _ _ hF hE lO (hGr.rng p oO oO) oO) (fun v_q2 C_q2 q2 => ?_)))
 obtain ⟨u1, rfl, rfl⟩ := q2
 show SP _ _ _ _ _ _ ⟨_, _ :: _ :: _, _, _⟩
 refine .know (row_len 1 G) (fun hv5 => ?_)
 obtain ⟨A3, c4, rfl, hv5_1, hv5_2⟩ := hv5
 unfold maxLen at hv5_2
 refine .g underlying69 G G G (.m G G G (.go idQ (.block (.loop (X := Int) (fun i => 0 ≤ i ∧ i ≤ ((outL fi ed p).length : Int) ∧ (∀ j : Int, 0 ≤ j → j < i → (gt (outL fi ed p) j).et ≠ q)) (fun i => [(2, .int .i64 q), (11, .slice A3 ((outL fi ed p).length) c4), (12, .int .i64 (((outL fi ed p).length : Nat) : Int)), (13, .int .i64 i)]) (fun i => [cel b [.slice fA fi.length fc, .slice eA ed.length ec] 106, rw_ eEG 72 (.slice A3 ((outL fi ed p).length) c4) (outL fi ed p)]) (fun _ => S) (fun _ => wf) (fun i => (((outL fi ed p).length : Int) - i).toNat) (fun a_ w_ hs_ hw_ => ⟨0, (by (try dsimp only); exact ⟨oO, oO, (fun j j0 j1 => absurd j1 oO)⟩), hs_.mono (Sub.get (.c4 G G G G .n)), hw_.keep (.d .n)⟩) (fun i ⟨q_0, q_1, q_2⟩ => ?_)))))
 try dsimp only
 refine .seq (.region (.e G G G G G (.go idQ (.seq (.condI G bD (fun h6 => ?_) (fun h6 => ?_))))))
 ·
  refine .skipgo idQ (.seq (.block (.seq (.region (.v (ev_ix G underlying69 ty72 G G oO oO (row_adr (i := i) 1 G oO lO)) G (.v (ev_lda G G (row_el (E := eEG) (l := (outL fi ed p)) (i := i) 1 G oO lO) ty72) G (.cons (st_alloc G G G G zf72 (fun b7 => ?_)))))))))
  refine .cons (st_storea (l' := [.int .i64 ((gt (outL fi ed p) i).et), .int .i64 ((gt (outL fi ed p) i).ew)]) G G G ty72 G G G .h G G ?_)
  refine .go idQ (.seq (.region (.f fo72_0 0 G G G G (.l ty3 0 G G G G G (.m G G G ?_)))))
  refine .e G G G G G (.go idQ (.condI G bE (fun h8 => ?_) (fun h8 => ?_)))
  ·
   refine .seq (.region (.f fo72_1 1 G G G G (.l ty3 0 G G G G G (.a G G G ?_))))
   refine .go idQ (.ret idQ (ret1 results49 G (.c (.t .h) .n) ⟨(congrArg (Value.int .i64) (wt_some hGr hp (gtM oO oO) h8)), G⟩))
  refine .skipgo idQ (.region (.p ((i + 1)) oO oO G G G G G (.m G G G ?_)))
  exact SP.nil (SQ.roundb (X := Int) (x := (i)) (i + 1) (by (try dsimp only); exact ⟨oO, oO, (upN q_2 h8)⟩) (by show (_ : Nat) < _; omega) (Sub.get (.c4 G G G G .n)) (kp (.c (.t .h) (.c (.t .h) .n))))
 refine .exit idQ ?_
 refine .seq (.region (.a G G G (.go idQ (.ret idQ (ret1 results49 G (.c .h .n) ⟨(congrArg (Value.int .i64) (wt_none hT hGr hp hq (by have h_ := q_2; rw [show i = ((outL fi ed p).length : Int) from by omega] at h_; exact h_))), G⟩)))))
theorem awake5_ (S : Nat → Prop) (wf : World) :
  TR0 prog 23 [] [] S wf (fun v_ C_ => v_ = .bool true ∧ C_ = []) := by
 refine TR.mk func23 G ntmps23 G G (fun w_ => ?_)
 refine .seq (.region (.a G G G (.go idQ (.seq (.region (.v (ev_any (v := .agg #[.int .i64 0, .int .i64 1, .int .i64 5, .int .i64 9]) G kR (fun _ => by kernel_rfl)) G ?_))))))
 refine .v (ev_any (v := .agg #[.int .i64 0, .int .i64 1, .int .i64 4, .int .i64 12]) G kR (fun _ => by kernel_rfl)) G (.v (ev_any (v := .agg #[.int .i64 1, .int .i64 1, .int .i64 1, .int .i64 0]) G kR (fun _ => by kernel_rfl)) G (.v (ev_any (v := .agg #[.int .i64 1, .int .i64 2, .int .i64 0, .int .i64 0]) G kR (fun _ => by kernel_rfl)) G (.cons (st_lit eAR (e := 54) (l := [(AR.mk 0 1 5 9), (AR.mk 0 1 4 12), (AR.mk 1 1 1 0), (AR.mk 1 2 0 0)]) G G G G kR G G kW (fun b1 => ?_)))))
 refine .v (ev_any (v := .agg #[.int .i64 3, .slice (some ⟨b1, 0, none⟩) 4 4]) G kR (fun _ => by kernel_rfl)) G (.cons (st_lend0 G G G G hbd26 G .n (.c .h .n) (fun w_ hw => new_ 3 (some ⟨b1, 0, none⟩) 4 [(AR.mk 0 1 5 9), (AR.mk 0 1 4 12), (AR.mk 1 1 1 0), (AR.mk 1 2 0 0)] false _ _ (Fr.lend hw 0 G lO) ra5) (fun v_q7 C_q7 q7 => ?_)))
 obtain ⟨b2, u3, v4, fi5, ed6, p8, p9, rfl, rfl⟩ := q7
 show SP _ _ _ _ _ _ ⟨_, _ :: _ :: _ :: _ :: _, _, _⟩
 have hgl := p8.len
 have hgn := p8.ne
 refine .m G G G (.x G G G G (.x G G G G (.a G G G ?_)))
 refine .a G G G (.go idQ (.seq (.region (.m G G G (.v (ev_cmp (r := true) G G G G) G ?_)))))
 refine .m G G G (.cons (.on G G G (Ev.step (ev_mv G G) G G G (.know (row_len 1 G) (fun hv12 => ?_)))))
 obtain ⟨A10, c11, rfl, hv12_1, hv12_2⟩ := hv12
 unfold maxLen at hv12_2
 refine .know (row_len 2 G) (fun hv15 => ?_)
 obtain ⟨A13, c14, rfl, hv15_1, hv15_2⟩ := hv15
 unfold maxLen at hv15_2
 refine .cons (.on G G G (st_lendk G G G G hbd48 G (.c .h .n) (.d .n) (fun w_ hw => glen_ b2 A10 c11 fi5 A13 c14 ed6 _ _ (Fr.lend hw 0 G lO) (Fr.lend hw 1 G lO)) ?_))
 refine .cons (.on G G G (Ev.step (ev_cmp G G G G) G G G ?_))
 refine .v (ev_pickt G G G G) G (.m G G G (.w (fun _ => ev_mv G G) G (.cons (st_glendk G G G G G G hbd49 (fun hb => (lkA1 (lkg G hb) (lkA1 G (lkA1 G lkA0)))) (.c .h .n) (.d .n) (fun hb w_ hw => have hp := bT bE hb; gwt_ 3 (tabF 3 false [(AR.mk 0 1 5 9), (AR.mk 0 1 4 12), (AR.mk 1 1 1 0), (AR.mk 1 2 0 0)]) b2 A10 c11 fi5 A13 c14 ed6 0 1 _ _ (Fr.lend hw 0 G lO) (Fr.lend hw 1 G lO) (tab_ok ra5) p8 lO oO oO) ?_))))
 refine .w (fun hb => ev_cmp G (lkg G hb) G G) G (.v (ev_and G G G G) G (.m G G G (.w (fun _ => ev_mv G G) G ?_)))
 refine .cons (st_glendk G G G G G G hbd49 (fun hb => (lkA1 (lkg G hb) (lkA1 G (lkA1 G lkA0)))) (.c .h .n) (.d .n) (fun hb w_ hw => have hp := bT (bA bE bE) hb; gwt_ 3 (tabF 3 false [(AR.mk 0 1 5 9), (AR.mk 0 1 4 12), (AR.mk 1 1 1 0), (AR.mk 1 2 0 0)]) b2 A10 c11 fi5 A13 c14 ed6 1 1 _ _ (Fr.lend hw 0 G lO) (Fr.lend hw 1 G lO) (tab_ok ra5) p8 lO oO oO) ?_)
 refine .w (fun hb => ev_cmp G (lkg G hb) G G) G (.v (ev_and G G G G) G (.m G G G (.w (fun _ => ev_mv G G) G ?_)))
 refine .cons (st_glendk G G G G G G hbd49 (fun hb => (lkA1 (lkg G hb) (lkA1 G (lkA1 G lkA0)))) (.c .h .n) (.d .n) (fun hb w_ hw => have hp := bT (bA (bA bE bE) bE) hb; gwt_ 3 (tabF 3 false [(AR.mk 0 1 5 9), (AR.mk 0 1 4 12), (AR.mk 1 1 1 0), (AR.mk 1 2 0 0)]) b2 A10 c11 fi5 A13 c14 ed6 1 2 _ _ (Fr.lend hw 0 G lO) (Fr.lend hw 1 G lO) (tab_ok ra5) p8 lO oO oO) ?_)
 refine .w (fun hb => ev_cmp G (lkg G hb) G G) G (.v (ev_and G G G G) G (.a G G G (.go idQ ?_)))
 exact .ret idQ (ret1 results23 G .n ⟨(congrArg Value.bool (aw5 p9)), G⟩)
theorem graphF (n : Int) (A : Option Addr) (c : Nat) (l : List AR) (S : Nat → Prop) (wf : World) (hA : Fr eAR S wf A l) (hR : RoadOk n l) :
  TR0 prog 10 [.agg #[.int .i64 n, .slice A l.length c], .bool false] [] S wf (fun v_ C_ => ∃ (b : Nat) (u : Value) (v : Value) (fi : List Int) (ed : List EG) (x : Value) (y : Value) (W : List Int), (GOk n (tabF n false l) fi ed) ∧ (∃ X : List AR, X.Perm l ∧ Srd (ltA false) X 0 (l.length : Int) ∧ ed = (kpA X (l.length : Int)).map (egF false)) ∧ (MF n W (fw (tf n (tabF n false l)) n.toNat)) ∧ v_ = .tuple #[.pointer (some ⟨b, 0, none⟩), .agg #[.int .i64 n, x], .agg #[.int .i64 n, y], .bool true] ∧ C_ = [cel b [u, v] 106, rw_ eZ 3 (u) fi, rw_ eEG 72 (v) ed, rw_ eZ 3 (x) (tabF n false l), rw_ eZ 3 (y) W]) := by
 have hla := hA.len
 have hlen := hR.len
 have hnp := hR.pl
 have hto := tab_ok (d := false) hR
 have htl := hto.len
 have hsq := sq_le hnp
 refine TR.mk func10 G ntmps10 G G (fun w_ => ?_)
 refine .seq (.region (.cons (st_boxa G G G G G (fun b1 => (.a G G G (.cons (st_alloc G G G G zf29 (fun b2 => ?_))))))))
 refine .cons (st_alloc G G G G zf29 (fun b3 => ?_))
 refine .a G G G (.go idQ (.seq (.seq (.region (.f fo24_1 1 G G G G (.l ty22 2 G G G G G ?_))))))
 refine .g underlying22 G G G (.e G G G G G (.m G G G (.cons (st_gcallk G G G G G G hbd23 (fun hb => G) .n (fun hb => have hp := bF bD hb; awake5_ _ _) ?_))))
 refine .w (fun hb => ev_not G (lkg G hb)) G (.r G G G G G (.go idQ (.condI G (bO bD bV) (fun h4 => ?_) (fun h4 => ?_))))
 ·
  exfalso; rcases (by assumption : (l.length : Int) > 300 ∨ false = true) with h_ | h_ <;> first | omega | cases h_
 refine .skipgo idQ (.seq (.region (.a G G G (.go idQ (.seq (.seq (.region (.m G G G ?_))))))))
 refine .go idQ (.cond_f G (.skipgo idQ (.seq (.region (.d 2 ty24 G G G G ?_)))))
 refine .cons (st_call0 G G G G hbd27 G .n (rdcop_ n A c l _ _ hA lO) (fun v_q6 C_q6 q6 => ?_))
 obtain ⟨u5, rfl, rfl⟩ := q6
 show SP _ _ _ _ _ _ ⟨_, _ :: _, _, _⟩
 refine .m G G G (.know (row_len 0 G) (fun hv9 => ?_))
 obtain ⟨A7, c8, rfl, hv9_1, hv9_2⟩ := hv9
 unfold maxLen at hv9_2
 refine .cons (st_lend0 G G G G hbd26 G .n (.c .h .n) (fun w_ hw => new_ n A7 c8 l false _ _ (Fr.lend hw 0 G lO) hR) (fun v_q15 C_q15 q15 => ?_))
 obtain ⟨b10, u11, v12, fi13, ed14, p16, p17, rfl, rfl⟩ := q15
 show SP _ _ _ _ _ _ ⟨_, _ :: _ :: _ :: _ :: _, _, _⟩
 have hgl := p16.len
 have hgn := p16.ne
 refine .m G G G (.x G G G G (.x G G G G (.a G G G ?_)))
 refine .a G G G (.go idQ (.seq (.seq (.region (.m G G G (.v (ev_cmp (r := false) G G G G) G ?_))))))
 refine .go idQ (.cond_f G (.skipgo idQ (.seq (.region (.d 6 ty24 G G G G ?_)))))
 refine .m G G G (.cons (st_call0 G G G G hbd28 G .n (tab_ n A c l false _ _ hA hR) (fun v_q19 C_q19 q19 => ?_)))
 obtain ⟨u18, rfl, rfl⟩ := q19
 show SP _ _ _ _ _ _ ⟨_, _ :: _, _, _⟩
 refine .cons (st_alloc G G G G zf29 (fun b20 => ?_))
 refine .know (row_len 1 G) (fun hv23 => ?_)
 obtain ⟨A21, c22, rfl, hv23_1, hv23_2⟩ := hv23
 unfold maxLen at hv23_2
 refine .cons (st_storea (l' := [.int .i64 n, .slice A21 ((tabF n false l).length) c22]) G G G ty29 G G G .h G G ?_)
 refine .go idQ (.seq ?_)
 refine SC.draw mo [cel b3 [.int .i64 0, .slice none 0 0] 29, cel b2 [.int .i64 0, .slice none 0 0] 29] [] (.c (.t4 (.t2 .h)) (.c (.t4 (.t2 .h)) .n)) (fun _ _ _ => sc0) (fun wf_24 hl_24 hx_24 hR_24 => ?_)
 refine SR.m 0 G G G G ?_
 refine SR.z 1 G G (ev_lda (cs := [.int .i64 n, .slice A21 ((tabF n false l).length) c22]) G G (At.d (At.lent hR_24 0 G G)) ty29) ?_
 refine SR.z 2 G G (ev_lda (cs := [.int .i64 n, .slice A21 ((tabF n false l).length) c22]) G G (At.d (At.lent hR_24 0 G G)) ty29) ?_
 refine SR.o 3 G (st_call0 G G G G hbd19 G .n (least_ n A21 c22 (tabF n false l) _ _ (Fr.lent (S := S) hR_24 1 G lO) hnp hto.len hto.rng) (fun v_q27 C_q27 q27 => ⟨tt0, ?_⟩))
 obtain ⟨u25, W26, p28, rfl, rfl⟩ := q27
 show SR _ _ _ _ _ _ _ _ _ ⟨_, _ :: _, _, _⟩
 refine SR.z 4 G G (ev_as G G) ?_
 refine SR.o 5 G (st_storea (l' := [.int .i64 n, .slice A21 ((tabF n false l).length) c22]) G G G ty29 G G G (.t2 .h) G G ⟨tt0, ?_⟩)
 refine .know (row_len 1 G) (fun hv31 => ?_)
 obtain ⟨A29, c30, rfl, hv31_1, hv31_2⟩ := hv31
 unfold maxLen at hv31_2
 refine SR.o 6 G (st_storea (l' := [.int .i64 n, .slice A29 W26.length c30]) G G G ty29 G G G (.t2 .h) G G ⟨tt0, ?_⟩)
 refine SR.z 7 G G (ev_as G G) ?_
 refine SR.fin kR hl_24 hx_24 hR_24 (.c (.c (.c .n))) ?_
 refine SQ.go idQ ?_
 exact .ret idQ (retv4 results10 (.t G) (.c 1 G G ty29) (.c 0 G G ty29) (.t G) (.c (.t4 (.t .h)) (.c (.t4 (.t .h)) (.c (.t4 (.t .h)) (.c (.t4 .h) (.c (.t2 .h) .n))))) ⟨b10, u11, v12, fi13, ed14, .slice A21 ((tabF n false l).length) c22, .slice A29 W26.length c30, W26, p16, p17, p28, G, G⟩)
theorem graphbadF (n : Int) (A : Option Addr) (c : Nat) (l : List AR) (S : Nat → Prop) (wf : World) (hA : Fr eAR S wf A l) (hR : ¬ RoadOk n l) :
  TR0 prog 10 [.agg #[.int .i64 n, .slice A l.length c], .bool false] [] S wf (fun v_ C_ => v_ = .tuple #[.pointer none, .agg #[.int .i64 0, .slice none 0 0], .agg #[.int .i64 0, .slice none 0 0], .bool false] ∧ C_ = []) := by
 have hla := hA.len
 refine TR.mk func10 G ntmps10 G G (fun w_ => ?_)
 refine .seq (.region (.cons (st_boxa G G G G G (fun b1 => (.a G G G (.cons (st_alloc G G G G zf29 (fun b2 => ?_))))))))
 refine .cons (st_alloc G G G G zf29 (fun b3 => ?_))
 refine .a G G G (.go idQ (.seq (.seq (.region (.f fo24_1 1 G G G G (.l ty22 2 G G G G G ?_))))))
 refine .g underlying22 G G G (.e G G G G G (.m G G G (.cons (st_gcallk G G G G G G hbd23 (fun hb => G) .n (fun hb => have hp := bF bD hb; awake5_ _ _) ?_))))
 refine .w (fun hb => ev_not G (lkg G hb)) G (.r G G G G G (.go idQ (.condI G (bO bD bV) (fun h4 => ?_) (fun h4 => ?_))))
 ·
  refine .seq (.region (.v (ev_any (v := .agg #[.int .i64 0, .slice none 0 0]) G kR (fun _ => by kernel_rfl)) G (.v (ev_any (v := .agg #[.int .i64 0, .slice none 0 0]) G kR (fun _ => by kernel_rfl)) G (.a G G G ?_))))
  refine .cons (st_storea (l' := [.int .i64 0, .slice none 0 0]) G G G ty29 G G G (.t .h) G G ?_)
  refine .cons (st_storea (l' := [.int .i64 0, .slice none 0 0]) G G G ty29 G G G (.t .h) G G ?_)
  refine .a G G G (.go idQ (.ret idQ (retv4 results10 (.t G) (.c 1 G G ty29) (.c 0 G G ty29) (.t G) .n ⟨G, G⟩)))
 refine .skipgo idQ (.seq (.region (.a G G G (.go idQ (.seq (.seq (.region (.m G G G ?_))))))))
 refine .go idQ (.cond_f G (.skipgo idQ (.seq (.region (.d 2 ty24 G G G G ?_)))))
 refine .cons (st_call0 G G G G hbd27 G .n (rdcop_ n A c l _ _ hA lO) (fun v_q6 C_q6 q6 => ?_))
 obtain ⟨u5, rfl, rfl⟩ := q6
 show SP _ _ _ _ _ _ ⟨_, _ :: _, _, _⟩
 refine .m G G G (.know (row_len 0 G) (fun hv9 => ?_))
 obtain ⟨A7, c8, rfl, hv9_1, hv9_2⟩ := hv9
 unfold maxLen at hv9_2
 refine .cons (st_lend0 G G G G hbd26 G .n (.c .h .n) (fun w_ hw => newbad_ n A7 c8 l false _ _ (Fr.lend hw 0 G lO) hR) (fun v_q11 C_q11 q11 => ?_))
 obtain ⟨e10, p12, rfl, rfl⟩ := q11
 show SP _ _ _ _ _ _ ⟨_, _ :: _, _, _⟩
 refine .m G G G (.x G G G G (.x G G G G (.a G G G ?_)))
 refine .a G G G (.go idQ (.seq (.seq (.region (.m G G G (.e G G G G G ?_))))))
 refine .go idQ (.condI G bNE (fun h13 => ?_) (fun h13 => ?_))
 ·
  refine .seq (.region (.v (ev_any (v := .agg #[.int .i64 0, .slice none 0 0]) G kR (fun _ => by kernel_rfl)) G (.v (ev_any (v := .agg #[.int .i64 0, .slice none 0 0]) G kR (fun _ => by kernel_rfl)) G (.a G G G ?_))))
  refine .cons (st_storea (l' := [.int .i64 0, .slice none 0 0]) G G G ty29 G G G (.t2 .h) G G ?_)
  refine .cons (st_storea (l' := [.int .i64 0, .slice none 0 0]) G G G ty29 G G G (.t2 .h) G G ?_)
  refine .a G G G (.go idQ (.ret idQ (retv4 results10 (.t G) (.c 1 G G ty29) (.c 0 G G ty29) (.t G) .n ⟨G, G⟩)))
 exfalso; omega
end Go.Proofs.Ytpjblnmophcdmaa.Sx
set_option maxRecDepth 20000
set_option maxHeartbeats 8000000
namespace Go.Proofs.Ytpjblnmophcdmaa.Sx.FCA
open Go Go.SX Go.Proofs Go.Proofs.Try FA FB FC FD FE FF FG FH FI FJ FK FL FM FN FO FP FQ FR FS
theorem zv90 : (prog.info? 90).bind (fun i => i.zero) = some (.agg #[.int .i64 0, .int .i64 0, .int .i64 0, .int .i64 0, .int .i64 0]) := by kernel_rfl
theorem fo87_0 : fo prog 87 0 = some 0 := by kernel_rfl
theorem ty42 : ty prog 42 = some (false, 1) := by kernel_rfl
theorem hbd17 : hasBody prog 17 = true := by kernel_rfl
theorem fo87_1 : fo prog 87 1 = some 1 := by kernel_rfl
theorem ty85 : ty prog 85 = some (false, 1) := by kernel_rfl
theorem hbd41 : hasBody prog 41 = true := by kernel_rfl
theorem zf90 : (prog.info? 90).bind (fun i => i.zero.map Value.cells) = some (List.toArray [.int .i64 0, .int .i64 0, .int .i64 0, .int .i64 0, .int .i64 0]) := by kernel_rfl
theorem ty90 : ty prog 90 = some (true, 5) := by kernel_rfl
theorem hbd18 : hasBody prog 18 = true := by kernel_rfl
theorem hbd39 : hasBody prog 39 = true := by kernel_rfl
end Go.Proofs.Ytpjblnmophcdmaa.Sx.FCA
namespace Go.Proofs.Ytpjblnmophcdmaa.Sx
open Go Go.SX Go.Proofs Go.Proofs.Try FA FB FC FD FE FF FG FH FI FJ FK FL FM FN FO FP FQ FR FS FCA
theorem end_ (k : LK) (S : Nat → Prop) (wf : World) :
  TR0 prog 41 [.agg #[.int .i64 k.lf, .int .i64 k.lt, .int .i64 k.lw, .int .i64 k.lm]] [] S wf (fun v_ C_ => v_ = .int .i64 k.lt ∧ C_ = []) := by
 refine TR.mk func41 G ntmps41 G G (fun w_ => ?_)
 refine .seq (.region (.cons (st_boxa G G G G G (fun b1 => (.a G G G (.go idQ (.seq (.region ?_))))))))
 refine .f fo44_1 1 G G G G (.l ty3 0 G G G G G (.a G G G (.go idQ ?_)))
 exact .ret idQ (ret1 results41 G .n ⟨G, G⟩)
theorem begin_ (k : LK) (S : Nat → Prop) (wf : World) :
  TR0 prog 39 [.agg #[.int .i64 k.lf, .int .i64 k.lt, .int .i64 k.lw, .int .i64 k.lm]] [] S wf (fun v_ C_ => v_ = .int .i64 k.lf ∧ C_ = []) := by
 refine TR.mk func39 G ntmps39 G G (fun w_ => ?_)
 refine .seq (.region (.cons (st_boxa G G G G G (fun b1 => (.a G G G (.go idQ (.seq (.region ?_))))))))
 refine .f fo44_0 0 G G G G (.l ty3 0 G G G G G (.a G G G (.go idQ ?_)))
 exact .ret idQ (ret1 results39 G .n ⟨G, G⟩)
theorem findU (lb : Nat) (rA : Option Addr) (rc : Nat) (R : List Int) (kA : Option Addr) (kc : Nat) (K : List LK) (uA : Option Addr) (uc : Nat) (U : List IL) (dA : Option Addr) (dc : Nat) (D : List IL) (n : Int) (sr : Int) (S : Nat → Prop) (wf : World) (hL : LOk R K U D) (hD : SD n 4294967296000000 (gt R) (pkL R K U) LK.lt LK.lf) (hs : 0 ≤ sr ∧ sr < n) :
  TR0 prog 40 [.agg #[.func (.func 17) #[.pointer (some ⟨lb, 0, none⟩)] #[], .func (.func 41) #[] #[]], .int .i64 sr] [cel lb [.slice rA R.length rc, .slice kA K.length kc, .slice uA U.length uc, .slice dA D.length dc] 76, rw_ eZ 3 (.slice rA R.length rc) R, rw_ eLK 44 (.slice kA K.length kc) K, rw_ eIL 27 (.slice uA U.length uc) U, rw_ eIL 27 (.slice dA D.length dc) D, nestIL 3 U, nestIL 3 D] S wf (fun v_ C_ => ∃ (b : Nat) (M : List (Int × LA)), (SrE n (pkL R K U) LK.lt LK.lf sr M) ∧ v_ = .map (some b) ∧ C_ = [cel lb [.slice rA R.length rc, .slice kA K.length kc, .slice uA U.length uc, .slice dA D.length dc] 76, rw_ eZ 3 (.slice rA R.length rc) R, rw_ eLK 44 (.slice kA K.length kc) K, rw_ eIL 27 (.slice uA U.length uc) U, rw_ eIL 27 (.slice dA D.length dc) D, nestIL 3 U, nestIL 3 D, mp keZ.f laV b M]) := by
 have hn1 := hD.hn
 have hB1 := hD.hB
 refine TR.mk func40 G ntmps40 G G (fun w_ => ?_)
 refine .seq (.region (.cons (st_boxa G G G G G (fun b1 => (.a G G G (.go idQ (.seq (.region ?_))))))))
 refine .cons (st_mkmap (α := Int) (β := LA) keZ.f laV G G G G (fun b2 => ?_))
 refine .a G G G (.go idQ (.seq (.region (.cons (st_mkmap (α := Int) (β := LA) keZ.f laV G G G G (fun b3 => (.m G G G ?_)))))))
 refine .v (ev_any (v := .agg #[.int .i64 (-1), .int .i64 0, .int .i64 0, .int .i64 0]) G kR (fun _ => by kernel_rfl)) G (.v (ev_any (v := .agg #[.int .i64 0, .int .i64 (-1), .int .i64 0, .int .i64 0, .int .i64 0]) G kR (fun _ => by kernel_rfl)) G (.cons (st_mapIns keZ (u := undef) (x := sr) (v := (LA.mk 0 (-1) 0 0 0)) G G G underlying84 G G G .h (.m G G G ?_))))
 refine .a G G G (.go idQ (.seq (.region (.cons (st_call0 G G G G hbd32 G .n (qnew_ _ _) (fun v_q6 C_q6 q6 => ?_))))))
 obtain ⟨b4, pb5, rfl, rfl⟩ := q6
 show SP _ _ _ _ _ _ ⟨_, _ :: _ :: _, _, _⟩
 refine .a G G G (.go idQ (.seq ?_))
 refine SC.nilrow eEN 115 ?_
 refine .region (.m G G G (.m G G G (.cons (st_call0 G G G G hbd33 G (.c (.t .h) (.d .n)) (qput_ b4 none 0 0 ([] : List EN) pb5 [] sr 0 _ _ G oO QQ.nil) (fun v_q11 C_q11 q11 => ?_)))))
 obtain ⟨u7, r8, l29, m210, p12, p13, p14, rfl, rfl⟩ := q11
 show SP _ _ _ _ _ _ ⟨_, _ :: _ :: _ :: _, _, _⟩
 refine .go idQ (.seq (.block (.loop (X := (List EN) × Value × (List (Int × Int)) × (List (Int × LA)) × (List (Int × LA))) (fun ⟨X, u_X, qm, M, Fd⟩ => SrI n (pkL R K U) LK.lt LK.lf sr X qm M Fd ∧ True) (fun ⟨X, u_X, qm, M, Fd⟩ => [(2, .pointer (some ⟨b1, 0, none⟩)), (4, .map none), (5, .map (some b2)), (6, .map (some b3)), (7, .pointer (some ⟨b4, 0, none⟩))]) (fun ⟨X, u_X, qm, M, Fd⟩ => [cel b4 [u_X, .map (some pb5)] 113, rw_ eEN 115 (u_X) X, mp keZ.f (.int .i64) pb5 qm, mp keZ.f laV b3 Fd, mp keZ.f laV b2 M, cel b1 [.func (.func 17) #[.pointer (some ⟨lb, 0, none⟩)] #[], .func (.func 41) #[] #[]] 87, cel lb [.slice rA R.length rc, .slice kA K.length kc, .slice uA U.length uc, .slice dA D.length dc] 76, rw_ eZ 3 (.slice rA R.length rc) R, rw_ eLK 44 (.slice kA K.length kc) K, rw_ eIL 27 (.slice uA U.length uc) U, rw_ eIL 27 (.slice dA D.length dc) D, nestIL 3 U, nestIL 3 D]) (fun _ => S) (fun _ => wf) (fun ⟨X, u_X, qm, M, Fd⟩ => (n - M.length).toNat) (fun a_ w_ hs_ hw_ => ⟨⟨l29, u7, m210, ([] : List (Int × LA)), (mset ([] : List (Int × LA)) sr (LA.mk 0 (-1) 0 0 0))⟩, (by (try dsimp only); exact ⟨(sr_0 (a := LA.mk 0 (-1) 0 0 0) p12 p13 ⟨G, G⟩ ⟨by simp [mset, mhas], by rw [lo_set, if_pos G]⟩), trivial⟩), hs_.mono (Sub.get (.c4 G G G G (.c G .n))), hw_.keep (.d (.d (.d (.d (.d (.d (.c .h .n)))))))⟩) (fun ⟨X, u_X, qm, M, Fd⟩ ⟨q_0, q_1⟩ => ?_))))
 try dsimp only
 have hal := q_0.len hD hs
 refine .seq (.seq (.region (.m G G G (.know (row_len 1 G) (fun hv17 => ?_)))))
 obtain ⟨A15, c16, rfl, hv17_1, hv17_2⟩ := hv17
 unfold maxLen at hv17_2
 refine .cons (st_callk G G G G hbd57 G (.d (.c .h .n)) (qlen_ b4 A15 X.length c16 X pb5 qm _ _ lO) ?_)
 refine .e G G G G G (.go idQ (.condI G bD (fun h18 => ?_) (fun h18 => ?_)))
 ·
  refine .skipgo idQ (.block (.seq (.region (.m G G G (.cons (st_call0 G G G G hbd61 G (.d (.c .h .n)) (qtake_ b4 A15 X.length c16 X pb5 qm _ _ lO lO lO q_0.qq) (fun v_q23 C_q23 q23 => ?_)))))))
  obtain ⟨x19, d20, l221, m222, p24, p25, p26, p27, rfl, rfl⟩ := q23
  show SP _ _ _ _ _ _ ⟨_, _ :: _ :: _ :: _, _, _⟩
  obtain ⟨hfp, hMp, hpr, hdb, hml, hJ⟩ := sr_take hD hs q_0 p24 p25 p26
  obtain ⟨p, hp_⟩ : ∃ p, p = x19 := ⟨_, rfl⟩
  subst hp_
  obtain ⟨d, hd_⟩ : ∃ d, d = d20 := ⟨_, rfl⟩
  subst hd_
  refine .m G G G (.x G G G G (.x G G G G (.x G G G G ?_)))
  refine .a G G G (.a G G G (.a G G G (.go idQ (.seq (.region ?_)))))
  refine .m G G G (.m G G G (.m G G G (.m G G G ?_)))
  refine .v (ev_lkp keZ (m := Fd) (x := p) (z := dLA) G underlying84 zv90 G G 3 G) G (.cons (st_mapSet keZ (u := undef) (x := p) (v := (mget Fd p dLA)) G G G underlying84 G G G (.t4 .h) (.go idQ (.seq (.region (.f fo87_0 0 G G G G ?_))))))
  refine .l ty42 5 G G G G G (.m G G G (.cons (.viafirst (args' := #[.const (.pointer (some ⟨lb, 0, none⟩)), .tmp 42]) G G G (st_call0 G G G G hbd17 G (.c (.t4 (.t2 .h)) (.c (.t4 (.t2 .h)) (.c (.t4 (.t2 .h)) (.c (.t4 (.t2 .h)) (.c (.t4 (.t2 .h)) (.c (.t4 (.t2 .h)) (.c (.t4 (.t2 .h)) .n))))))) (lup_ lb rA rc R kA kc K uA uc U dA dc D p _ _ hL) (fun v_q29 C_q29 q29 => ?_)))))
  obtain ⟨u28, rfl, rfl⟩ := q29
  show SP _ _ _ _ _ _ ⟨_, _ :: _ :: _ :: _ :: _ :: _ :: _ :: _ :: _, _, _⟩
  refine .know (row_len 7 G) (fun hv32 => ?_)
  obtain ⟨A30, c31, rfl, hv32_1, hv32_2⟩ := hv32
  unfold maxLen at hv32_2
  refine .g underlying41 G G G (.m G G G (.go idQ (.block (.loop (X := Int × (List EN) × Value × (List (Int × Int)) × (List (Int × LA))) (fun ⟨i, Y, u_Y, ym, Fd2⟩ => 0 ≤ i ∧ i ≤ ((pkL R K U p).length : Int) ∧ SrJ n (pkL R K U) LK.lt LK.lf sr p d (mget Fd p dLA) (kq X) M i.toNat Y ym Fd2) (fun ⟨i, Y, u_Y, ym, Fd2⟩ => [(2, .pointer (some ⟨b1, 0, none⟩)), (4, .map none), (5, .map (some b2)), (6, .map (some b3)), (7, .pointer (some ⟨b4, 0, none⟩)), (9, .int .i64 d), (43, .slice A30 ((pkL R K U p).length) c31), (44, .int .i64 (((pkL R K U p).length : Nat) : Int)), (45, .int .i64 i)]) (fun ⟨i, Y, u_Y, ym, Fd2⟩ => [cel lb [.slice rA R.length rc, .slice kA K.length kc, .slice uA U.length uc, .slice dA D.length dc] 76, rw_ eZ 3 (.slice rA R.length rc) R, rw_ eLK 44 (.slice kA K.length kc) K, rw_ eIL 27 (.slice uA U.length uc) U, rw_ eIL 27 (.slice dA D.length dc) D, nestIL 3 U, nestIL 3 D, rw_ eLK 44 (.slice A30 ((pkL R K U p).length) c31) (pkL R K U p), mp keZ.f laV b2 (mset M p (mget Fd p dLA)), cel b4 [u_Y, .map (some pb5)] 113, rw_ eEN 115 (u_Y) Y, mp keZ.f (.int .i64) pb5 ym, mp keZ.f laV b3 Fd2, cel b1 [.func (.func 17) #[.pointer (some ⟨lb, 0, none⟩)] #[], .func (.func 41) #[] #[]] 87]) (fun _ => S) (fun _ => wf) (fun ⟨i, Y, u_Y, ym, Fd2⟩ => (((pkL R K U p).length : Int) - i).toNat) (fun a_ w_ hs_ hw_ => ⟨⟨0, l221, .slice A15 (X.length - 1) c16, m222, Fd⟩, (by (try dsimp only); exact ⟨oO, oO, hJ⟩), hs_.mono (Sub.get (.c4 G G G G (.c4 G G G G (.c G .n)))), hw_.keep (.d (.d (.d (.d (.d (.d (.d .n)))))))⟩) (fun ⟨i, Y, u_Y, ym, Fd2⟩ ⟨r_0, r_1, r_2⟩ => ?_)))))
  try dsimp only
  refine .seq (.region (.e G G G G G (.go idQ (.seq (.condI G bD (fun h33 => ?_) (fun h33 => ?_))))))
  ·
   refine .skipgo idQ (.seq (.block (.seq ?_)))
   have hky := hD.ok p hpr.1 hpr.2 _ (gtM (l := (pkL R K U p)) (i := i) oO oO)
   have hyl := r_2.bd hD hs hpr
   refine .region (.v (ev_ix G underlying41 ty44 G G oO oO (row_adr (i := i) 7 G oO lO)) G (.v (ev_lda G G (row_el (E := eLK) (l := (pkL R K U p)) (i := i) 7 G oO lO) ty44) G (.cons (st_alloc G G G G zf44 (fun b34 => ?_)))))
   refine .cons (st_storea (l' := [.int .i64 ((gt (pkL R K U p) i).lf), .int .i64 ((gt (pkL R K U p) i).lt), .int .i64 ((gt (pkL R K U p) i).lw), .int .i64 ((gt (pkL R K U p) i).lm)]) G G G ty44 G G G .h G G ?_)
   refine .go idQ (.seq (.region (.f fo87_1 1 G G G G (.l ty85 14 G G G G G (.d 0 ty44 G G G G ?_)))))
   refine .cons (.viafun G G (st_callk G G G G hbd41 G .n (end_ (gt (pkL R K U p) i) _ _) ?_))
   refine .a G G G (.go idQ (.seq (.region (.m G G G (.m G G G ?_)))))
   refine .v (ev_lkpok keZ (m := (mset M p (mget Fd p dLA))) (x := (gt (pkL R K U p) i).lt) (z := dLA) G underlying84 zv90 G G 9 G) G (.m G G G (.x G G G G (.x G G G G ?_)))
   refine .cons (st_alloc G G G G zf90 (fun b35 => ?_))
   refine .cons (st_storea (l' := [.int .i64 ((mget (mset M p (mget Fd p dLA)) ((gt (pkL R K U p) i).lt) dLA).ld), .int .i64 ((mget (mset M p (mget Fd p dLA)) ((gt (pkL R K U p) i).lt) dLA).af), .int .i64 ((mget (mset M p (mget Fd p dLA)) ((gt (pkL R K U p) i).lt) dLA).ax), .int .i64 ((mget (mset M p (mget Fd p dLA)) ((gt (pkL R K U p) i).lt) dLA).aw), .int .i64 ((mget (mset M p (mget Fd p dLA)) ((gt (pkL R K U p) i).lt) dLA).am)]) G G G ty90 G G G .h G G ?_)
   refine .a G G G (.go idQ (.seq ?_))
   rcases Bool.eq_false_or_eq_true (mhas (mset M p (mget Fd p dLA)) ((gt (pkL R K U p) i).lt)) with hm | hm
   ·
    rw [hm]
    refine .region (.m G G G (.v (ev_not G G) G (.m G G G ?_)))
    refine .cons (.off G G G G G G ?_)
    refine .cons (.off G G G G G G ?_)
    refine .cons (.off G G G G G G ?_)
    refine .cons (.off G G G G G G ?_)
    refine .cons (.off G G G G G G ?_)
    refine .cons (.off G G G G G G ?_)
    refine .cons (.off G G G G G G ?_)
    refine .v (ev_pickf G G G G) G (.go idQ (.cond_f G (.skipgo idQ (.region ?_))))
    refine .p ((i + 1)) oO oO G G G G G (.m G G G ?_)
    exact SP.nil (SQ.roundb (X := Int × (List EN) × Value × (List (Int × Int)) × (List (Int × LA))) (x := (i, Y, u_Y, ym, Fd2)) ⟨(i + 1), Y, u_Y, ym, Fd2⟩ (by (try dsimp only); exact ⟨oO, oO, (sj_done r_2 oO oO hm)⟩) dO (Sub.get (.c4 G G G G (.c4 G G G G (.c G .n)))) (kp (.c (.t2 .h) (.c (.t2 .h) (.c (.t2 .h) (.c (.t2 .h) (.c (.t2 .h) (.c (.t2 .h) (.c (.t2 .h) (.c (.t2 .h) (.c (.t2 .h) (.c (.t2 .h) (.c (.t2 .h) (.c (.t2 .h) (.c (.t2 .h) (.c (.t2 .h) .n))))))))))))))))
   rw [hm]
   refine .region (.m G G G (.v (ev_not G G) G (.m G G G ?_)))
   refine .cons (.on G G G (Ev.step (ev_mv G G) G G G ?_))
   refine .cons (.on G G G (Ev.step (ev_mv G G) G G G ?_))
   refine .cons (.on G G G (Ev.step (ev_mv G G) G G G ?_))
   refine .cons (.on G G G (Ev.step (ev_fa G fo44_2 G (r := 2) G) G G G ?_))
   refine .cons (.on G G G (Ev.step (ev_ld1 G ty3 G (At.own1 1 G G)) G G G ?_))
   refine .cons (.on G G G (Ev.step (ev_add G G G (r := (d + ((gt (pkL R K U p) i).lw))) G oO oO) G G G ?_))
   refine .know (row_len 12 G) (fun hv38 => ?_)
   obtain ⟨A36, c37, rfl, hv38_1, hv38_2⟩ := hv38
   unfold maxLen at hv38_2
   refine .cons (.on G G G (st_call0 G G G G hbd33 G (.c (.t4 (.t4 (.t2 (.t .h)))) (.c (.t4 (.t4 (.t2 (.t .h)))) (.c (.t4 (.t4 (.t2 (.t .h)))) .n))) (qput_ b4 A36 Y.length c37 Y pb5 ym ((gt (pkL R K U p) i).lt) (d + ((gt (pkL R K U p) i).lw)) _ _ G lO r_2.qq) (fun v_q43 C_q43 q43 => ?_)))
   obtain ⟨u39, r40, l241, m242, p44, p45, p46, rfl, rfl⟩ := q43
   show SP _ _ _ _ _ _ ⟨_, _ :: _ :: _ :: _, _, _⟩
   refine .v (ev_pickt G G G G) G (.go idQ (.condI G bV (fun h47 => ?_) (fun h47 => ?_)))
   ·
    refine .region (.m G G G (.m G G G (.m G G G ?_)))
    refine .f fo44_2 2 G G G G (.l ty3 4 G G G G G (.v (ev_add G G G (r := (d + ((gt (pkL R K U p) i).lw))) G oO oO) G (.d 4 ty44 G G G G ?_)))
    refine .v (ev_any (v := .agg #[.int .i64 (d + ((gt (pkL R K U p) i).lw)), .int .i64 ((gt (pkL R K U p) i).lf), .int .i64 ((gt (pkL R K U p) i).lt), .int .i64 ((gt (pkL R K U p) i).lw), .int .i64 ((gt (pkL R K U p) i).lm)]) G kR (fun _ => by kernel_rfl)) G (.cons (st_mapSet keZ (u := undef) (x := (gt (pkL R K U p) i).lt) (v := (LA.mk (d + ((gt (pkL R K U p) i).lw)) ((gt (pkL R K U p) i).lf) ((gt (pkL R K U p) i).lt) ((gt (pkL R K U p) i).lw) ((gt (pkL R K U p) i).lm))) G G G underlying84 G G G (.t4 (.t4 (.t4 (.t2 .h)))) (.go idQ (.region (.p ((i + 1)) oO oO G G G G G ?_)))))
    refine .m G G G ?_
    exact SP.nil (SQ.roundb (X := Int × (List EN) × Value × (List (Int × Int)) × (List (Int × LA))) (x := (i, Y, (.slice A36 Y.length c37), ym, Fd2)) ⟨(i + 1), l241, u39, m242, (mset Fd2 ((gt (pkL R K U p) i).lt) (LA.mk (d + ((gt (pkL R K U p) i).lw)) ((gt (pkL R K U p) i).lf) ((gt (pkL R K U p) i).lt) ((gt (pkL R K U p) i).lw) ((gt (pkL R K U p) i).lm)))⟩ (by (try dsimp only); exact ⟨oO, oO, (sj_yes hD hpr r_2 oO oO hm (of_decide_eq_true (p46.symm.trans h47)) p44 p45)⟩) dO (Sub.get (.c4 G G G G (.c4 G G G G (.c G .n)))) (kp (.c (.t4 (.t2 .h)) (.c (.t4 (.t2 .h)) (.c (.t4 (.t2 .h)) (.c (.t4 (.t2 .h)) (.c (.t4 (.t2 .h)) (.c (.t4 (.t2 .h)) (.c (.t4 (.t2 .h)) (.c (.t4 (.t2 .h)) (.c (.t4 (.t2 .h)) (.c (.t .h) (.c (.t .h) (.c (.t .h) (.c .h (.c (.t2 .h) .n))))))))))))))))
   refine .skipgo idQ (.region (.p ((i + 1)) oO oO G G G G G (.m G G G ?_)))
   exact SP.nil (SQ.roundb (X := Int × (List EN) × Value × (List (Int × Int)) × (List (Int × LA))) (x := (i, Y, (.slice A36 Y.length c37), ym, Fd2)) ⟨(i + 1), l241, u39, m242, Fd2⟩ (by (try dsimp only); exact ⟨oO, oO, (sj_same r_2 oO oO (fun h_ => h47 (p46.trans (decide_eq_true h_))) p44 p45)⟩) dO (Sub.get (.c4 G G G G (.c4 G G G G (.c G .n)))) (kp (.c (.t4 (.t .h)) (.c (.t4 (.t .h)) (.c (.t4 (.t .h)) (.c (.t4 (.t .h)) (.c (.t4 (.t .h)) (.c (.t4 (.t .h)) (.c (.t4 (.t .h)) (.c (.t4 (.t .h)) (.c (.t4 (.t .h)) (.d (.c .h (.c (.t2 .h) (.c (.t2 .h) .n)))))))))))))))
  exact .exitq idQ (SQ.roundb (X := (List EN) × Value × (List (Int × Int)) × (List (Int × LA)) × (List (Int × LA))) (x := (X, (.slice A15 X.length c16), qm, M, Fd)) ⟨Y, u_Y, ym, (mset M p (mget Fd p dLA)), Fd2⟩ (by (try dsimp only); exact ⟨(sj_end hD r_2 oO), trivial⟩) (by dsimp only; have h_ := (sj_end hD r_2 oO).len hD hs; omega) (Sub.get (.c4 G G G G (.c G .n))) (kp (.c (.t4 (.t4 (.t .h))) (.c (.t4 (.t4 (.t .h))) (.c (.t4 (.t4 (.t .h))) (.c (.t4 (.t4 (.t .h))) (.c (.t4 (.t4 .h)) (.c (.t4 (.t4 .h)) (.d (.d (.d (.c .h .n))))))))))))
 refine .exit idQ ?_
 refine .seq (.region (.m G G G (.a G G G (.go idQ ?_))))
 exact .ret idQ (ret1 results40 G (.c (.t4 (.t2 .h)) (.c (.t4 (.t2 .h)) (.c (.t4 (.t2 .h)) (.c (.t4 (.t2 .h)) (.c (.t4 (.t2 .h)) (.c (.t4 (.t2 .h)) (.c (.t4 (.t2 .h)) (.c (.t4 .h) .n)))))))) ⟨b2, M, (sr_end hD q_0 oO), G, G⟩)
theorem findD (lb : Nat) (rA : Option Addr) (rc : Nat) (R : List Int) (kA : Option Addr) (kc : Nat) (K : List LK) (uA : Option Addr) (uc : Nat) (U : List IL) (dA : Option Addr) (dc : Nat) (D : List IL) (n : Int) (sr : Int) (S : Nat → Prop) (wf : World) (hL : LOk R K U D) (hD : SD n 4294967296000000 (gt R) (pkL R K D) LK.lf LK.lt) (hs : 0 ≤ sr ∧ sr < n) :
  TR0 prog 40 [.agg #[.func (.func 18) #[.pointer (some ⟨lb, 0, none⟩)] #[], .func (.func 39) #[] #[]], .int .i64 sr] [cel lb [.slice rA R.length rc, .slice kA K.length kc, .slice uA U.length uc, .slice dA D.length dc] 76, rw_ eZ 3 (.slice rA R.length rc) R, rw_ eLK 44 (.slice kA K.length kc) K, rw_ eIL 27 (.slice uA U.length uc) U, rw_ eIL 27 (.slice dA D.length dc) D, nestIL 3 U, nestIL 3 D] S wf (fun v_ C_ => ∃ (b : Nat) (M : List (Int × LA)), (SrE n (pkL R K D) LK.lf LK.lt sr M) ∧ v_ = .map (some b) ∧ C_ = [cel lb [.slice rA R.length rc, .slice kA K.length kc, .slice uA U.length uc, .slice dA D.length dc] 76, rw_ eZ 3 (.slice rA R.length rc) R, rw_ eLK 44 (.slice kA K.length kc) K, rw_ eIL 27 (.slice uA U.length uc) U, rw_ eIL 27 (.slice dA D.length dc) D, nestIL 3 U, nestIL 3 D, mp keZ.f laV b M]) := by
 have hn1 := hD.hn
 have hB1 := hD.hB
 refine TR.mk func40 G ntmps40 G G (fun w_ => ?_)
 refine .seq (.region (.cons (st_boxa G G G G G (fun b1 => (.a G G G (.go idQ (.seq (.region ?_))))))))
 refine .cons (st_mkmap (α := Int) (β := LA) keZ.f laV G G G G (fun b2 => ?_))
 refine .a G G G (.go idQ (.seq (.region (.cons (st_mkmap (α := Int) (β := LA) keZ.f laV G G G G (fun b3 => (.m G G G ?_)))))))
 refine .v (ev_any (v := .agg #[.int .i64 (-1), .int .i64 0, .int .i64 0, .int .i64 0]) G kR (fun _ => by kernel_rfl)) G (.v (ev_any (v := .agg #[.int .i64 0, .int .i64 (-1), .int .i64 0, .int .i64 0, .int .i64 0]) G kR (fun _ => by kernel_rfl)) G (.cons (st_mapIns keZ (u := undef) (x := sr) (v := (LA.mk 0 (-1) 0 0 0)) G G G underlying84 G G G .h (.m G G G ?_))))
 refine .a G G G (.go idQ (.seq (.region (.cons (st_call0 G G G G hbd32 G .n (qnew_ _ _) (fun v_q6 C_q6 q6 => ?_))))))
 obtain ⟨b4, pb5, rfl, rfl⟩ := q6
 show SP _ _ _ _ _ _ ⟨_, _ :: _ :: _, _, _⟩
 refine .a G G G (.go idQ (.seq ?_))
 refine SC.nilrow eEN 115 ?_
 refine .region (.m G G G (.m G G G (.cons (st_call0 G G G G hbd33 G (.c (.t .h) (.d .n)) (qput_ b4 none 0 0 ([] : List EN) pb5 [] sr 0 _ _ G oO QQ.nil) (fun v_q11 C_q11 q11 => ?_)))))
 obtain ⟨u7, r8, l29, m210, p12, p13, p14, rfl, rfl⟩ := q11
 show SP _ _ _ _ _ _ ⟨_, _ :: _ :: _ :: _, _, _⟩
 refine .go idQ (.seq (.block (.loop (X := (List EN) × Value × (List (Int × Int)) × (List (Int × LA)) × (List (Int × LA))) (fun ⟨X, u_X, qm, M, Fd⟩ => SrI n (pkL R K D) LK.lf LK.lt sr X qm M Fd ∧ True) (fun ⟨X, u_X, qm, M, Fd⟩ => [(2, .pointer (some ⟨b1, 0, none⟩)), (4, .map none), (5, .map (some b2)), (6, .map (some b3)), (7, .pointer (some ⟨b4, 0, none⟩))]) (fun ⟨X, u_X, qm, M, Fd⟩ => [cel b4 [u_X, .map (some pb5)] 113, rw_ eEN 115 (u_X) X, mp keZ.f (.int .i64) pb5 qm, mp keZ.f laV b3 Fd, mp keZ.f laV b2 M, cel b1 [.func (.func 18) #[.pointer (some ⟨lb, 0, none⟩)] #[], .func (.func 39) #[] #[]] 87, cel lb [.slice rA R.length rc, .slice kA K.length kc, .slice uA U.length uc, .slice dA D.length dc] 76, rw_ eZ 3 (.slice rA R.length rc) R, rw_ eLK 44 (.slice kA K.length kc) K, rw_ eIL 27 (.slice uA U.length uc) U, rw_ eIL 27 (.slice dA D.length dc) D, nestIL 3 U, nestIL 3 D]) (fun _ => S) (fun _ => wf) (fun ⟨X, u_X, qm, M, Fd⟩ => (n - M.length).toNat) (fun a_ w_ hs_ hw_ => ⟨⟨l29, u7, m210, ([] : List (Int × LA)), (mset ([] : List (Int × LA)) sr (LA.mk 0 (-1) 0 0 0))⟩, (by (try dsimp only); exact ⟨(sr_0 (a := LA.mk 0 (-1) 0 0 0) p12 p13 ⟨G, G⟩ ⟨by simp [mset, mhas], by rw [lo_set, if_pos G]⟩), trivial⟩), hs_.mono (Sub.get (.c4 G G G G (.c G .n))), hw_.keep (.d (.d (.d (.d (.d (.d (.c .h .n)))))))⟩) (fun ⟨X, u_X, qm, M, Fd⟩ ⟨q_0, q_1⟩ => ?_))))
 try dsimp only
 have hal := q_0.len hD hs
 refine .seq (.seq (.region (.m G G G (.know (row_len 1 G) (fun hv17 => ?_)))))
 obtain ⟨A15, c16, rfl, hv17_1, hv17_2⟩ := hv17
 unfold maxLen at hv17_2
 refine .cons (st_callk G G G G hbd57 G (.d (.c .h .n)) (qlen_ b4 A15 X.length c16 X pb5 qm _ _ lO) ?_)
 refine .e G G G G G (.go idQ (.condI G bD (fun h18 => ?_) (fun h18 => ?_)))
 ·
  refine .skipgo idQ (.block (.seq (.region (.m G G G (.cons (st_call0 G G G G hbd61 G (.d (.c .h .n)) (qtake_ b4 A15 X.length c16 X pb5 qm _ _ lO lO lO q_0.qq) (fun v_q23 C_q23 q23 => ?_)))))))
  obtain ⟨x19, d20, l221, m222, p24, p25, p26, p27, rfl, rfl⟩ := q23
  show SP _ _ _ _ _ _ ⟨_, _ :: _ :: _ :: _, _, _⟩
  obtain ⟨hfp, hMp, hpr, hdb, hml, hJ⟩ := sr_take hD hs q_0 p24 p25 p26
  obtain ⟨p, hp_⟩ : ∃ p, p = x19 := ⟨_, rfl⟩
  subst hp_
  obtain ⟨d, hd_⟩ : ∃ d, d = d20 := ⟨_, rfl⟩
  subst hd_
  refine .m G G G (.x G G G G (.x G G G G (.x G G G G ?_)))
  refine .a G G G (.a G G G (.a G G G (.go idQ (.seq (.region ?_)))))
  refine .m G G G (.m G G G (.m G G G (.m G G G ?_)))
  refine .v (ev_lkp keZ (m := Fd) (x := p) (z := dLA) G underlying84 zv90 G G 3 G) G (.cons (st_mapSet keZ (u := undef) (x := p) (v := (mget Fd p dLA)) G G G underlying84 G G G (.t4 .h) (.go idQ (.seq (.region (.f fo87_0 0 G G G G ?_))))))
  refine .l ty42 5 G G G G G (.m G G G (.cons (.viafirst (args' := #[.const (.pointer (some ⟨lb, 0, none⟩)), .tmp 42]) G G G (st_call0 G G G G hbd18 G (.c (.t4 (.t2 .h)) (.c (.t4 (.t2 .h)) (.c (.t4 (.t2 .h)) (.c (.t4 (.t2 .h)) (.c (.t4 (.t2 .h)) (.c (.t4 (.t2 .h)) (.c (.t4 (.t2 .h)) .n))))))) (ldown_ lb rA rc R kA kc K uA uc U dA dc D p _ _ hL) (fun v_q29 C_q29 q29 => ?_)))))
  obtain ⟨u28, rfl, rfl⟩ := q29
  show SP _ _ _ _ _ _ ⟨_, _ :: _ :: _ :: _ :: _ :: _ :: _ :: _ :: _, _, _⟩
  refine .know (row_len 7 G) (fun hv32 => ?_)
  obtain ⟨A30, c31, rfl, hv32_1, hv32_2⟩ := hv32
  unfold maxLen at hv32_2
  refine .g underlying41 G G G (.m G G G (.go idQ (.block (.loop (X := Int × (List EN) × Value × (List (Int × Int)) × (List (Int × LA))) (fun ⟨i, Y, u_Y, ym, Fd2⟩ => 0 ≤ i ∧ i ≤ ((pkL R K D p).length : Int) ∧ SrJ n (pkL R K D) LK.lf LK.lt sr p d (mget Fd p dLA) (kq X) M i.toNat Y ym Fd2) (fun ⟨i, Y, u_Y, ym, Fd2⟩ => [(2, .pointer (some ⟨b1, 0, none⟩)), (4, .map none), (5, .map (some b2)), (6, .map (some b3)), (7, .pointer (some ⟨b4, 0, none⟩)), (9, .int .i64 d), (43, .slice A30 ((pkL R K D p).length) c31), (44, .int .i64 (((pkL R K D p).length : Nat) : Int)), (45, .int .i64 i)]) (fun ⟨i, Y, u_Y, ym, Fd2⟩ => [cel lb [.slice rA R.length rc, .slice kA K.length kc, .slice uA U.length uc, .slice dA D.length dc] 76, rw_ eZ 3 (.slice rA R.length rc) R, rw_ eLK 44 (.slice kA K.length kc) K, rw_ eIL 27 (.slice uA U.length uc) U, rw_ eIL 27 (.slice dA D.length dc) D, nestIL 3 U, nestIL 3 D, rw_ eLK 44 (.slice A30 ((pkL R K D p).length) c31) (pkL R K D p), mp keZ.f laV b2 (mset M p (mget Fd p dLA)), cel b4 [u_Y, .map (some pb5)] 113, rw_ eEN 115 (u_Y) Y, mp keZ.f (.int .i64) pb5 ym, mp keZ.f laV b3 Fd2, cel b1 [.func (.func 18) #[.pointer (some ⟨lb, 0, none⟩)] #[], .func (.func 39) #[] #[]] 87]) (fun _ => S) (fun _ => wf) (fun ⟨i, Y, u_Y, ym, Fd2⟩ => (((pkL R K D p).length : Int) - i).toNat) (fun a_ w_ hs_ hw_ => ⟨⟨0, l221, .slice A15 (X.length - 1) c16, m222, Fd⟩, (by (try dsimp only); exact ⟨oO, oO, hJ⟩), hs_.mono (Sub.get (.c4 G G G G (.c4 G G G G (.c G .n)))), hw_.keep (.d (.d (.d (.d (.d (.d (.d .n)))))))⟩) (fun ⟨i, Y, u_Y, ym, Fd2⟩ ⟨r_0, r_1, r_2⟩ => ?_)))))
  try dsimp only
  refine .seq (.region (.e G G G G G (.go idQ (.seq (.condI G bD (fun h33 => ?_) (fun h33 => ?_))))))
  ·
   refine .skipgo idQ (.seq (.block (.seq ?_)))
   have hky := hD.ok p hpr.1 hpr.2 _ (gtM (l := (pkL R K D p)) (i := i) oO oO)
   have hyl := r_2.bd hD hs hpr
   refine .region (.v (ev_ix G underlying41 ty44 G G oO oO (row_adr (i := i) 7 G oO lO)) G (.v (ev_lda G G (row_el (E := eLK) (l := (pkL R K D p)) (i := i) 7 G oO lO) ty44) G (.cons (st_alloc G G G G zf44 (fun b34 => ?_)))))
   refine .cons (st_storea (l' := [.int .i64 ((gt (pkL R K D p) i).lf), .int .i64 ((gt (pkL R K D p) i).lt), .int .i64 ((gt (pkL R K D p) i).lw), .int .i64 ((gt (pkL R K D p) i).lm)]) G G G ty44 G G G .h G G ?_)
   refine .go idQ (.seq (.region (.f fo87_1 1 G G G G (.l ty85 14 G G G G G (.d 0 ty44 G G G G ?_)))))
   refine .cons (.viafun G G (st_callk G G G G hbd39 G .n (begin_ (gt (pkL R K D p) i) _ _) ?_))
   refine .a G G G (.go idQ (.seq (.region (.m G G G (.m G G G ?_)))))
   refine .v (ev_lkpok keZ (m := (mset M p (mget Fd p dLA))) (x := (gt (pkL R K D p) i).lf) (z := dLA) G underlying84 zv90 G G 9 G) G (.m G G G (.x G G G G (.x G G G G ?_)))
   refine .cons (st_alloc G G G G zf90 (fun b35 => ?_))
   refine .cons (st_storea (l' := [.int .i64 ((mget (mset M p (mget Fd p dLA)) ((gt (pkL R K D p) i).lf) dLA).ld), .int .i64 ((mget (mset M p (mget Fd p dLA)) ((gt (pkL R K D p) i).lf) dLA).af), .int .i64 ((mget (mset M p (mget Fd p dLA)) ((gt (pkL R K D p) i).lf) dLA).ax), .int .i64 ((mget (mset M p (mget Fd p dLA)) ((gt (pkL R K D p) i).lf) dLA).aw), .int .i64 ((mget (mset M p (mget Fd p dLA)) ((gt (pkL R K D p) i).lf) dLA).am)]) G G G ty90 G G G .h G G ?_)
   refine .a G G G (.go idQ (.seq ?_))
   rcases Bool.eq_false_or_eq_true (mhas (mset M p (mget Fd p dLA)) ((gt (pkL R K D p) i).lf)) with hm | hm
   ·
    rw [hm]
    refine .region (.m G G G (.v (ev_not G G) G (.m G G G ?_)))
    refine .cons (.off G G G G G G ?_)
    refine .cons (.off G G G G G G ?_)
    refine .cons (.off G G G G G G ?_)
    refine .cons (.off G G G G G G ?_)
    refine .cons (.off G G G G G G ?_)
    refine .cons (.off G G G G G G ?_)
    refine .cons (.off G G G G G G ?_)
    refine .v (ev_pickf G G G G) G (.go idQ (.cond_f G (.skipgo idQ (.region ?_))))
    refine .p ((i + 1)) oO oO G G G G G (.m G G G ?_)
    exact SP.nil (SQ.roundb (X := Int × (List EN) × Value × (List (Int × Int)) × (List (Int × LA))) (x := (i, Y, u_Y, ym, Fd2)) ⟨(i + 1), Y, u_Y, ym, Fd2⟩ (by (try dsimp only); exact ⟨oO, oO, (sj_done r_2 oO oO hm)⟩) dO (Sub.get (.c4 G G G G (.c4 G G G G (.c G .n)))) (kp (.c (.t2 .h) (.c (.t2 .h) (.c (.t2 .h) (.c (.t2 .h) (.c (.t2 .h) (.c (.t2 .h) (.c (.t2 .h) (.c (.t2 .h) (.c (.t2 .h) (.c (.t2 .h) (.c (.t2 .h) (.c (.t2 .h) (.c (.t2 .h) (.c (.t2 .h) .n))))))))))))))))
   rw [hm]
   refine .region (.m G G G (.v (ev_not G G) G (.m G G G ?_)))
   refine .cons (.on G G G (Ev.step (ev_mv G G) G G G ?_))
   refine .cons (.on G G G (Ev.step (ev_mv G G) G G G ?_))
   refine .cons (.on G G G (Ev.step (ev_mv G G) G G G ?_))
   refine .cons (.on G G G (Ev.step (ev_fa G fo44_2 G (r := 2) G) G G G ?_))
   refine .cons (.on G G G (Ev.step (ev_ld1 G ty3 G (At.own1 1 G G)) G G G ?_))
   refine .cons (.on G G G (Ev.step (ev_add G G G (r := (d + ((gt (pkL R K D p) i).lw))) G oO oO) G G G ?_))
   refine .know (row_len 12 G) (fun hv38 => ?_)
   obtain ⟨A36, c37, rfl, hv38_1, hv38_2⟩ := hv38
   unfold maxLen at hv38_2
   refine .cons (.on G G G (st_call0 G G G G hbd33 G (.c (.t4 (.t4 (.t2 (.t .h)))) (.c (.t4 (.t4 (.t2 (.t .h)))) (.c (.t4 (.t4 (.t2 (.t .h)))) .n))) (qput_ b4 A36 Y.length c37 Y pb5 ym ((gt (pkL R K D p) i).lf) (d + ((gt (pkL R K D p) i).lw)) _ _ G lO r_2.qq) (fun v_q43 C_q43 q43 => ?_)))
   obtain ⟨u39, r40, l241, m242, p44, p45, p46, rfl, rfl⟩ := q43
   show SP _ _ _ _ _ _ ⟨_, _ :: _ :: _ :: _, _, _⟩
   refine .v (ev_pickt G G G G) G (.go idQ (.condI G bV (fun h47 => ?_) (fun h47 => ?_)))
   ·
    refine .region (.m G G G (.m G G G (.m G G G ?_)))
    refine .f fo44_2 2 G G G G (.l ty3 4 G G G G G (.v (ev_add G G G (r := (d + ((gt (pkL R K D p) i).lw))) G oO oO) G (.d 4 ty44 G G G G ?_)))
    refine .v (ev_any (v := .agg #[.int .i64 (d + ((gt (pkL R K D p) i).lw)), .int .i64 ((gt (pkL R K D p) i).lf), .int .i64 ((gt (pkL R K D p) i).lt), .int .i64 ((gt (pkL R K D p) i).lw), .int .i64 ((gt (pkL R K D p) i).lm)]) G kR (fun _ => by kernel_rfl)) G (.cons (st_mapSet keZ (u := undef) (x := (gt (pkL R K D p) i).lf) (v := (LA.mk (d + ((gt (pkL R K D p) i).lw)) ((gt (pkL R K D p) i).lf) ((gt (pkL R K D p) i).lt) ((gt (pkL R K D p) i).lw) ((gt (pkL R K D p) i).lm))) G G G underlying84 G G G (.t4 (.t4 (.t4 (.t2 .h)))) (.go idQ (.region (.p ((i + 1)) oO oO G G G G G ?_)))))
    refine .m G G G ?_
    exact SP.nil (SQ.roundb (X := Int × (List EN) × Value × (List (Int × Int)) × (List (Int × LA))) (x := (i, Y, (.slice A36 Y.length c37), ym, Fd2)) ⟨(i + 1), l241, u39, m242, (mset Fd2 ((gt (pkL R K D p) i).lf) (LA.mk (d + ((gt (pkL R K D p) i).lw)) ((gt (pkL R K D p) i).lf) ((gt (pkL R K D p) i).lt) ((gt (pkL R K D p) i).lw) ((gt (pkL R K D p) i).lm)))⟩ (by (try dsimp only); exact ⟨oO, oO, (sj_yes hD hpr r_2 oO oO hm (of_decide_eq_true (p46.symm.trans h47)) p44 p45)⟩) dO (Sub.get (.c4 G G G G (.c4 G G G G (.c G .n)))) (kp (.c (.t4 (.t2 .h)) (.c (.t4 (.t2 .h)) (.c (.t4 (.t2 .h)) (.c (.t4 (.t2 .h)) (.c (.t4 (.t2 .h)) (.c (.t4 (.t2 .h)) (.c (.t4 (.t2 .h)) (.c (.t4 (.t2 .h)) (.c (.t4 (.t2 .h)) (.c (.t .h) (.c (.t .h) (.c (.t .h) (.c .h (.c (.t2 .h) .n))))))))))))))))
   refine .skipgo idQ (.region (.p ((i + 1)) oO oO G G G G G (.m G G G ?_)))
   exact SP.nil (SQ.roundb (X := Int × (List EN) × Value × (List (Int × Int)) × (List (Int × LA))) (x := (i, Y, (.slice A36 Y.length c37), ym, Fd2)) ⟨(i + 1), l241, u39, m242, Fd2⟩ (by (try dsimp only); exact ⟨oO, oO, (sj_same r_2 oO oO (fun h_ => h47 (p46.trans (decide_eq_true h_))) p44 p45)⟩) dO (Sub.get (.c4 G G G G (.c4 G G G G (.c G .n)))) (kp (.c (.t4 (.t .h)) (.c (.t4 (.t .h)) (.c (.t4 (.t .h)) (.c (.t4 (.t .h)) (.c (.t4 (.t .h)) (.c (.t4 (.t .h)) (.c (.t4 (.t .h)) (.c (.t4 (.t .h)) (.c (.t4 (.t .h)) (.d (.c .h (.c (.t2 .h) (.c (.t2 .h) .n)))))))))))))))
  exact .exitq idQ (SQ.roundb (X := (List EN) × Value × (List (Int × Int)) × (List (Int × LA)) × (List (Int × LA))) (x := (X, (.slice A15 X.length c16), qm, M, Fd)) ⟨Y, u_Y, ym, (mset M p (mget Fd p dLA)), Fd2⟩ (by (try dsimp only); exact ⟨(sj_end hD r_2 oO), trivial⟩) (by dsimp only; have h_ := (sj_end hD r_2 oO).len hD hs; omega) (Sub.get (.c4 G G G G (.c G .n))) (kp (.c (.t4 (.t4 (.t .h))) (.c (.t4 (.t4 (.t .h))) (.c (.t4 (.t4 (.t .h))) (.c (.t4 (.t4 (.t .h))) (.c (.t4 (.t4 .h)) (.c (.t4 (.t4 .h)) (.d (.d (.d (.c .h .n))))))))))))
 refine .exit idQ ?_
 refine .seq (.region (.m G G G (.a G G G (.go idQ ?_))))
 exact .ret idQ (ret1 results40 G (.c (.t4 (.t2 .h)) (.c (.t4 (.t2 .h)) (.c (.t4 (.t2 .h)) (.c (.t4 (.t2 .h)) (.c (.t4 (.t2 .h)) (.c (.t4 (.t2 .h)) (.c (.t4 (.t2 .h)) (.c (.t4 .h) .n)))))))) ⟨b2, M, (sr_end hD q_0 oO), G, G⟩)
end Go.Proofs.Ytpjblnmophcdmaa.Sx
set_option maxRecDepth 20000
set_option maxHeartbeats 8000000
namespace Go.Proofs.Ytpjblnmophcdmaa.Sx.FCB
open Go Go.SX Go.Proofs Go.Proofs.Try FA FB FC FD FE FF FG FH FI FJ FK FL FM FN FO FP FQ FR FS FCA
theorem fo90_0 : fo prog 90 0 = some 0 := by kernel_rfl
end Go.Proofs.Ytpjblnmophcdmaa.Sx.FCB
namespace Go.Proofs.Ytpjblnmophcdmaa.Sx
open Go Go.SX Go.Proofs Go.Proofs.Try FA FB FC FD FE FF FG FH FI FJ FK FL FM FN FO FP FQ FR FS FCA FCB
theorem meet_ (ba : Nat) (A : List (Int × LA)) (bb : Nat) (B : List (Int × LA)) (S : Nat → Prop) (wf : World) (hA : LBd A) (hB : LBd B) :
  TR0 prog 43 [.map (some ba), .map (some bb)] [mp keZ.f laV ba A, mp keZ.f laV bb B] S wf (fun v_ C_ => ∃ (x : Int) (y : Int), (MtR A B x y) ∧ v_ = .tuple #[.int .i64 x, .int .i64 y] ∧ C_ = [mp keZ.f laV ba A, mp keZ.f laV bb B]) := by
 refine TR.mk func43 G ntmps43 G G (fun w_ => ?_)
 refine .seq (.region (.a G G G (.a G G G (.go idQ (.seq (.region ?_))))))
 refine .a G G G (.a G G G (.go idQ (.seq (.seq (.region (.m G G G ?_))))))
 refine .cons (st_range keZ G G G G underlying84 G .h (fun r1 => ?_))
 refine .go idQ (.block (.loop (X := Int × Int × (List (Int × LA)) × (Option (Int × LA))) (fun ⟨bs, az, Lf, cu_Lf⟩ => MtI A B Lf bs az ∧ True) (fun ⟨bs, az, Lf, cu_Lf⟩ => [(1, .map (some bb)), (4, .int .i64 0), (5, .int .i64 0), (13, .pointer (some ⟨r1, 0, none⟩)), (6, .int .i64 bs), (7, .int .i64 az)]) (fun ⟨bs, az, Lf, cu_Lf⟩ => [mpr keZ.f laV ba r1 A Lf cu_Lf, mp keZ.f laV bb B]) (fun _ => S) (fun _ => wf) (fun ⟨bs, az, Lf, cu_Lf⟩ => Lf.length) (fun a_ w_ hs_ hw_ => ⟨⟨(-1), (-1), A, none⟩, (by (try dsimp only); exact ⟨(mt_0 hA.1), trivial⟩), hs_.mono (Sub.get (.c4 G G G G (.c G (.c G .n)))), hw_.keep (.d .n)⟩) (fun ⟨bs, az, Lf, cu_Lf⟩ ⟨q_0, q_1⟩ => ?_)))
 try dsimp only
 refine .seq (.region (.cons (st_next keZ G G G G G .h (fun hz2 => ?_) (fun x3 v4 hl5 hm6 => ?_))))
 ·
  refine .x G G G G (.go idQ (.seq (.cond_f G (.exit idQ ?_))))
  refine .seq ?_
  refine SC.unrng .h ?_
  refine .region (.m G G G (.m G G G (.a G G G ?_)))
  refine .a G G G (.go idQ (.ret idQ (ret2 results43 G G (.c .h (.c (.t .h) .n)) ⟨bs, az, (mt_end (by rw [← hz2]; exact q_0)), G, G⟩)))
 refine .x G G G G (.go idQ (.seq (.cond_t G (.skipgo idQ (.block (.seq (.region ?_)))))))
 refine .v (ev_entry keZ (x := x3) (v := v4) G G 0 G) G (.x G G G G (.x G G G G (.cons (st_alloc G G G G zf90 (fun b7 => ?_)))))
 refine .a G G G (.cons (st_storea (l' := [.int .i64 v4.ld, .int .i64 v4.af, .int .i64 v4.ax, .int .i64 v4.aw, .int .i64 v4.am]) G G G ty90 G G G .h G G (.go idQ (.seq (.region (.m G G G ?_))))))
 refine .m G G G (.v (ev_lkpok keZ (m := B) (x := x3) (z := dLA) G underlying84 zv90 G G 2 G) G (.m G G G (.x G G G G ?_)))
 refine .x G G G G (.cons (st_alloc G G G G zf90 (fun b8 => (.cons (st_storea (l' := [.int .i64 ((mget B x3 dLA).ld), .int .i64 ((mget B x3 dLA).af), .int .i64 ((mget B x3 dLA).ax), .int .i64 ((mget B x3 dLA).aw), .int .i64 ((mget B x3 dLA).am)]) G G G ty90 G G G .h G G (.a G G G ?_))))))
 refine .go idQ (.seq ?_)
 have hva := mt_at hA q_0 hl5
 have hvb := la_bd (x := x3) hB
 have hbb := q_0.bd
 rcases Bool.eq_false_or_eq_true (mhas B x3) with hm | hm
 ·
  rw [hm]
  refine .region (.m G G G (.m G G G (.cons (.on G G G (Ev.step (ev_mv G G) G G G ?_)))))
  refine .cons (.on G G G (Ev.step (ev_cmp G G G G) G G G ?_))
  refine .cons (.on G G G (Ev.step (ev_mv G G) G G G ?_))
  refine .w (fun _ => ev_fa G fo90_0 G (r := 0) G) G (.w (fun hb => ev_ld1 G ty3 (lkg G hb) (At.own1 1 G G)) G (.w (fun _ => ev_fa G fo90_0 G (r := 0) G) G (.w (fun hb => ev_ld1 G ty3 (lkg G hb) (At.own1 0 G G)) G ?_)))
  refine .w (fun hb => have hp := bF bD hb; ev_add G (lkg G hb) (lkg G hb) (r := (v4.ld + ((mget B x3 dLA).ld))) G (by have _h := hp; omega) (by have _h := hp; omega)) G (.w (fun _ => ev_mv G G) G (.w (fun hb => ev_cmp G (lkg G hb) (lkg G hb) G) G (.cons (.on G G G (Ev.step (ev_or G G G G) G G G ?_)))))
  refine .cons (.on G G G (Ev.step (ev_mv G G) G G G ?_))
  refine .w (fun _ => ev_fa G fo90_0 G (r := 0) G) G (.w (fun hb => ev_ld1 G ty3 (lkg G hb) (At.own1 1 G G)) G (.w (fun _ => ev_fa G fo90_0 G (r := 0) G) G (.w (fun hb => ev_ld1 G ty3 (lkg G hb) (At.own1 0 G G)) G ?_)))
  refine .w (fun hb => have hp := bF (bO bD bD) hb; ev_add G (lkg G hb) (lkg G hb) (r := (v4.ld + ((mget B x3 dLA).ld))) G (by have _h := hp; omega) (by have _h := hp; omega)) G (.w (fun _ => ev_mv G G) G (.w (fun hb => ev_cmp G (lkg G hb) (lkg G hb) G) G (.w (fun hb => ev_mv G (lkg G hb)) G ?_)))
  refine .cons (Ev.ggstep (b1 := ((decide (bs < 0)) || (decide ((v4.ld + ((mget B x3 dLA).ld)) < bs)))) (b := ((v4.ld + ((mget B x3 dLA).ld)) == bs)) cb_ft (fun hb1 _ => ev_mv G G) G G G G G ?_)
  refine .cons (Ev.ggstep (b1 := ((decide (bs < 0)) || (decide ((v4.ld + ((mget B x3 dLA).ld)) < bs)))) (b := ((v4.ld + ((mget B x3 dLA).ld)) == bs)) cb_ft (fun hb1 _ => ev_mv G G) G G G G G ?_)
  refine .cons (Ev.ggstep (b1 := ((decide (bs < 0)) || (decide ((v4.ld + ((mget B x3 dLA).ld)) < bs)))) (b := ((v4.ld + ((mget B x3 dLA).ld)) == bs)) cb_ft (fun hb1 hb => ev_cmp G (lkg G hb) (lkg G hb) G) G G G G G ?_)
  refine .w (fun hb => ev_and G (lkg G hb) (lkgn G cb_ft hb) G) G (.cons (.on G G G (Ev.step (ev_or G G G G) G G G (.v (ev_pickt G G G G) G (.go idQ ?_)))))
  refine .condI G (bO (bO bD bD) (bA bE bD)) (fun h9 => ?_) (fun h9 => ?_)
  ·
   refine .region (.f fo90_0 0 G G G G (.l ty3 1 G G G G G (.f fo90_0 0 G G G G ?_)))
   refine .l ty3 0 G G G G G (.p ((v4.ld + ((mget B x3 dLA).ld))) oO oO G G G G G (.m G G G (.a G G G ?_)))
   refine .a G G G ?_
   exact SP.nil (SQ.roundb (X := Int × Int × (List (Int × LA)) × (Option (Int × LA))) (x := (bs, az, Lf, cu_Lf)) ⟨(v4.ld + ((mget B x3 dLA).ld)), x3, (Lf.filter (fun p => decide (p.1 ≠ x3))), (some (x3, v4))⟩ (by (try dsimp only); exact ⟨(mt_yes hA hB q_0 hl5 hm oO), trivial⟩) (mfilter_lt hl5) (Sub.get (.c4 G G G G (.c G (.c G .n)))) (kp (.c (.t2 .h) (.c (.t2 .h) .n))))
  exact .skip (SQ.roundb (X := Int × Int × (List (Int × LA)) × (Option (Int × LA))) (x := (bs, az, Lf, cu_Lf)) ⟨bs, az, (Lf.filter (fun p => decide (p.1 ≠ x3))), (some (x3, v4))⟩ (by (try dsimp only); exact ⟨(mt_old hA q_0 hl5 oO), trivial⟩) (mfilter_lt hl5) (Sub.get (.c4 G G G G (.c G (.c G .n)))) (kp (.c (.t2 .h) (.c (.t2 .h) .n))))
 rw [hm]
 refine .region (.m G G G (.m G G G (.cons (.off G G G G G G ?_))))
 refine .cons (.off G G G G G G ?_)
 refine .cons (.off G G G G G G ?_)
 refine .cons (.offu G G G G G ?_)
 refine .cons (.offu G G G G G ?_)
 refine .cons (.offu G G G G G ?_)
 refine .cons (.offu G G G G G ?_)
 refine .cons (.offu G G G G G ?_)
 refine .cons (.offu G G G G G ?_)
 refine .cons (.offu G G G G G ?_)
 refine .cons (.off G G G G G G ?_)
 refine .cons (.off G G G G G G ?_)
 refine .cons (.offu G G G G G ?_)
 refine .cons (.offu G G G G G ?_)
 refine .cons (.offu G G G G G ?_)
 refine .cons (.offu G G G G G ?_)
 refine .cons (.offu G G G G G ?_)
 refine .cons (.offu G G G G G ?_)
 refine .cons (.offu G G G G G ?_)
 refine .cons (.offu G G G G G ?_)
 refine .cons (.offu G G G G G ?_)
 refine .cons (.offu G G G G G ?_)
 refine .cons (.offu G G G G G ?_)
 refine .cons (.offu G G G G G ?_)
 refine .cons (.off G G G G G G ?_)
 refine .v (ev_pickf G G G G) G (.go idQ (.cond_f G (.skip (SQ.roundb (X := Int × Int × (List (Int × LA)) × (Option (Int × LA))) (x := (bs, az, Lf, cu_Lf)) ⟨bs, az, (Lf.filter (fun p => decide (p.1 ≠ x3))), (some (x3, v4))⟩ (by (try dsimp only); exact ⟨(mt_no hA q_0 hl5 hm), trivial⟩) (mfilter_lt hl5) (Sub.get (.c4 G G G G (.c G (.c G .n)))) (kp (.c (.t2 .h) (.c (.t2 .h) .n)))))))
end Go.Proofs.Ytpjblnmophcdmaa.Sx
set_option maxRecDepth 20000
set_option maxHeartbeats 8000000
namespace Go.Proofs.Ytpjblnmophcdmaa.Sx.FCC
open Go Go.SX Go.Proofs Go.Proofs.Try FA FB FC FD FE FF FG FH FI FJ FK FL FM FN FO FP FQ FR FS FCA FCB
theorem hbd40 : hasBody prog 40 = true := by kernel_rfl
theorem hbd43 : hasBody prog 43 = true := by kernel_rfl
end Go.Proofs.Ytpjblnmophcdmaa.Sx.FCC
namespace Go.Proofs.Ytpjblnmophcdmaa.Sx
open Go Go.SX Go.Proofs Go.Proofs.Try FA FB FC FD FE FF FG FH FI FJ FK FL FM FN FO FP FQ FR FS FCA FCB FCC
theorem dist8_ (lb : Nat) (rA : Option Addr) (rc : Nat) (R : List Int) (kA : Option Addr) (kc : Nat) (K : List LK) (uA : Option Addr) (uc : Nat) (U : List IL) (dA : Option Addr) (dc : Nat) (D : List IL) (n : Int) (t : List Int) (i : Int) (j : Int) (S : Nat → Prop) (wf : World) (hC : LC n t R K U D) :
  TR0 prog 14 [.pointer (some ⟨lb, 0, none⟩), .int .i64 i, .int .i64 j] [cel lb [.slice rA R.length rc, .slice kA K.length kc, .slice uA U.length uc, .slice dA D.length dc] 76, rw_ eZ 3 (.slice rA R.length rc) R, rw_ eLK 44 (.slice kA K.length kc) K, rw_ eIL 27 (.slice uA U.length uc) U, rw_ eIL 27 (.slice dA D.length dc) D, nestIL 3 U, nestIL 3 D] S wf (fun v_ C_ => v_ = .int .i64 (dsF n t i j) ∧ C_ = [cel lb [.slice rA R.length rc, .slice kA K.length kc, .slice uA U.length uc, .slice dA D.length dc] 76, rw_ eZ 3 (.slice rA R.length rc) R, rw_ eLK 44 (.slice kA K.length kc) K, rw_ eIL 27 (.slice uA U.length uc) U, rw_ eIL 27 (.slice dA D.length dc) D, nestIL 3 U, nestIL 3 D]) := by
 have hn1 := hC.wy.hn
 refine TR.mk func14 G ntmps14 G G (fun w_ => ?_)
 refine .seq (.region (.a G G G (.go idQ (.seq (.seq (.region (.m G G G ?_)))))))
 refine .m G G G (.cons (st_callk G G G G hbd42 G (.d (.d (.d (.c .h .n)))) (lrk_ lb rA rc R kA kc K uA uc U dA dc D i _ _) (.e G G G G G (.m G G G ?_))))
 refine .w (fun _ => ev_mv G G) G (.w (fun _ => ev_mv G G) G (.cons (st_gcallk G G G G G G hbd42 (fun hb => (lkA1 (lkg G hb) (lkA1 (lkg G hb) lkA0))) (.d (.d (.d (.c .h .n)))) (fun hb => have hp := bF bD hb; lrk_ lb rA rc R kA kc K uA uc U dA dc D j _ _) (.w (fun hb => ev_cmp G (lkg G hb) G G) G ?_))))
 refine .r G G G G G (.go idQ (.condI G (bO bD bD) (fun h1 => ?_) (fun h1 => ?_)))
 ·
  refine .seq (.region (.a G G G (.go idQ (.ret idQ (ret1 results14 G (.d (.d (.d (.c .h .n)))) ⟨(congrArg (Value.int .i64) (hC.no h1).symm), G⟩)))))
 refine .skipgo idQ (.seq ?_)
 obtain ⟨hi, hj⟩ := hC.rng h1
 refine .region (.m G G G (.v (ev_any (v := .func (.func 17) #[.pointer (some ⟨lb, 0, none⟩)] #[]) G kR (fun _ => by kernel_rfl)) G (.v (ev_any (v := .agg #[.func (.func 17) #[.pointer (some ⟨lb, 0, none⟩)] #[], .func (.func 41) #[] #[]]) G kR (fun _ => by kernel_rfl)) G ?_)))
 refine .m G G G (.cons (st_call0 G G G G hbd40 G (.d (.d (.d (.c .h .n)))) (findU lb rA rc R kA kc K uA uc U dA dc D n i _ _ hC.hL hC.su hi) (fun v_q4 C_q4 q4 => ?_)))
 obtain ⟨b2, M3, p5, rfl, rfl⟩ := q4
 show SP _ _ _ _ _ _ ⟨_, _ :: _ :: _ :: _ :: _ :: _ :: _ :: _ :: _, _, _⟩
 refine .m G G G (.v (ev_any (v := .func (.func 18) #[.pointer (some ⟨lb, 0, none⟩)] #[]) G kR (fun _ => by kernel_rfl)) G (.v (ev_any (v := .agg #[.func (.func 18) #[.pointer (some ⟨lb, 0, none⟩)] #[], .func (.func 39) #[] #[]]) G kR (fun _ => by kernel_rfl)) G (.m G G G ?_)))
 refine .cons (st_call0 G G G G hbd40 G (.d (.d (.d (.c .h .n)))) (findD lb rA rc R kA kc K uA uc U dA dc D n j _ _ hC.hL hC.sd hj) (fun v_q8 C_q8 q8 => ?_))
 obtain ⟨b6, M7, p9, rfl, rfl⟩ := q8
 show SP _ _ _ _ _ _ ⟨_, _ :: _ :: _ :: _ :: _ :: _ :: _ :: _ :: _, _, _⟩
 refine .cons (st_call0 G G G G hbd43 G (.c (.t4 (.t4 .h)) (.c (.t4 (.t2 (.t .h))) .n)) (meet_ b2 M3 b6 M7 _ _ (hC.fu hi p5).lbd (hC.fd hj p9).lbd) (fun v_q12 C_q12 q12 => ?_))
 obtain ⟨x10, y11, p13, rfl, rfl⟩ := q12
 show SP _ _ _ _ _ _ ⟨_, _ :: _ :: _, _, _⟩
 refine .m G G G (.x G G G G (.x G G G G (.a G G G ?_)))
 refine .a G G G (.go idQ (.seq (.region (.m G G G (.a G G G ?_)))))
 refine .go idQ (.ret idQ (ret1 results14 G (.c (.t2 .h) (.c (.t2 .h) (.c (.t2 .h) (.c (.t2 .h) (.c (.t2 .h) (.c (.t2 .h) (.c (.t2 .h) .n))))))) ⟨(congrArg (Value.int .i64) (hC.dist hi hj p5 p9 p13)), G⟩))
end Go.Proofs.Ytpjblnmophcdmaa.Sx
set_option maxRecDepth 20000
set_option maxHeartbeats 8000000
namespace Go.Proofs.Ytpjblnmophcdmaa.Sx.FCD
open Go Go.SX Go.Proofs Go.Proofs.Try FA FB FC FD FE FF FG FH FI FJ FK FL FM FN FO FP FQ FR FS FCA FCB FCC
theorem zf87 : (prog.info? 87).bind (fun i => i.zero.map Value.cells) = some (List.toArray [.nilFunc, .nilFunc]) := by kernel_rfl
theorem ty87 : ty prog 87 = some (true, 2) := by kernel_rfl
end Go.Proofs.Ytpjblnmophcdmaa.Sx.FCD
namespace Go.Proofs.Ytpjblnmophcdmaa.Sx
open Go Go.SX Go.Proofs Go.Proofs.Try FA FB FC FD FE FF FG FH FI FJ FK FL FM FN FO FP FQ FR FS FCA FCB FCC FCD
theorem reachU (lb : Nat) (rA : Option Addr) (rc : Nat) (R : List Int) (kA : Option Addr) (kc : Nat) (K : List LK) (uA : Option Addr) (uc : Nat) (U : List IL) (dA : Option Addr) (dc : Nat) (D : List IL) (n : Int) (t : List Int) (p : Int) (S : Nat → Prop) (wf : World) (hC : LC n t R K U D) (hp : 0 ≤ p ∧ p < n) :
  TR0 prog 16 [.pointer (some ⟨lb, 0, none⟩), .int .i64 p, .bool true] [cel lb [.slice rA R.length rc, .slice kA K.length kc, .slice uA U.length uc, .slice dA D.length dc] 76, rw_ eZ 3 (.slice rA R.length rc) R, rw_ eLK 44 (.slice kA K.length kc) K, rw_ eIL 27 (.slice uA U.length uc) U, rw_ eIL 27 (.slice dA D.length dc) D, nestIL 3 U, nestIL 3 D] S wf (fun v_ C_ => ∃ (u : Value) (v : Value) (P : List Int) (W : List Int), (P = rcP (fU n R K U p) n.toNat) ∧ (W = rcW (fU n R K U p) n.toNat) ∧ v_ = .tuple #[u, v] ∧ C_ = [cel lb [.slice rA R.length rc, .slice kA K.length kc, .slice uA U.length uc, .slice dA D.length dc] 76, rw_ eZ 3 (.slice rA R.length rc) R, rw_ eLK 44 (.slice kA K.length kc) K, rw_ eIL 27 (.slice uA U.length uc) U, rw_ eIL 27 (.slice dA D.length dc) D, nestIL 3 U, nestIL 3 D, rw_ eZ 3 (u) P, rw_ eZ 3 (v) W]) := by
 have hn1 := hC.wy.hn
 have hRn := hC.hR
 have hro := mt hC.out.1 (Classical.not_not.2 hp)
 refine TR.mk func16 G ntmps16 G G (fun w_ => ?_)
 refine .seq (.region (.a G G G (.a G G G (.go idQ (.seq (.seq (.region ?_)))))))
 refine .m G G G (.m G G G (.cons (st_callk G G G G hbd42 G (.d (.d (.d (.c .h .n)))) (lrk_ lb rA rc R kA kc K uA uc U dA dc D p _ _) (.e G G G G G ?_))))
 refine .go idQ (.condI G bD (fun h1 => ?_) (fun h1 => ?_))
 ·
  exact absurd (by assumption) hro
 refine .skipgo idQ (.seq (.region (.m G G G (.v (ev_any (v := .func (.func 18) #[.pointer (some ⟨lb, 0, none⟩)] #[]) G kR (fun _ => by kernel_rfl)) G (.v (ev_any (v := .agg #[.func (.func 18) #[.pointer (some ⟨lb, 0, none⟩)] #[], .func (.func 39) #[] #[]]) G kR (fun _ => by kernel_rfl)) G ?_)))))
 refine .cons (st_alloc G G G G zf87 (fun b2 => ?_))
 refine .cons (st_storea (l' := [.func (.func 18) #[.pointer (some ⟨lb, 0, none⟩)] #[], .func (.func 39) #[] #[]]) G G G ty87 G G G .h G G ?_)
 refine .go idQ (.seq (.seq (.region (.m G G G (.go idQ (.cond_t G ?_))))))
 refine .region (.m G G G (.v (ev_any (v := .func (.func 17) #[.pointer (some ⟨lb, 0, none⟩)] #[]) G kR (fun _ => by kernel_rfl)) G (.v (ev_any (v := .agg #[.func (.func 17) #[.pointer (some ⟨lb, 0, none⟩)] #[], .func (.func 41) #[] #[]]) G kR (fun _ => by kernel_rfl)) G ?_)))
 refine .cons (st_storea (l' := [.func (.func 17) #[.pointer (some ⟨lb, 0, none⟩)] #[], .func (.func 41) #[] #[]]) G G G ty87 G G G .h G G ?_)
 refine .go idQ (.seq (.region (.d 0 ty87 G G G G (.m G G G (.cons (st_call0 G G G G hbd40 G (.c (.t .h) (.c (.t .h) (.c (.t .h) (.c (.t .h) (.c (.t .h) (.c (.t .h) (.c (.t .h) .n))))))) (findU lb rA rc R kA kc K uA uc U dA dc D n p _ _ hC.hL hC.su hp) (fun v_q5 C_q5 q5 => ?_)))))))
 obtain ⟨b3, M4, p6, rfl, rfl⟩ := q5
 show SP _ _ _ _ _ _ ⟨_, _ :: _ :: _ :: _ :: _ :: _ :: _ :: _ :: _, _, _⟩
 have hf : SrR n (fU n R K U p) M4 := hC.fu hp p6
 refine .a G G G (.go idQ (.seq (.region (.a G G G (.a G G G ?_)))))
 refine .go idQ (.seq (.seq (.region (.m G G G (.cons (st_callk G G G G hbd37 G (.d (.d (.d (.c .h .n)))) (lpl_ lb rA rc R kA kc K uA uc U dA dc D _ _) (.m G G G ?_)))))))
 refine .go idQ (.block ?_)
 refine SC.nilrow eZ 3 ?_
 refine SC.nilrow eZ 3 ?_
 refine .loop (X := Int × (List Int) × Value × (List Int) × Value) (fun ⟨i, P, u_P, W, u_W⟩ => 0 ≤ i ∧ i ≤ n ∧ P = rcP (fU n R K U p) i.toNat ∧ W = rcW (fU n R K U p) i.toNat) (fun ⟨i, P, u_P, W, u_W⟩ => [(6, .slice none 0 0), (7, .slice none 0 0), (9, .map (some b3)), (30, .int .i64 (R.length : Int)), (31, .int .i64 i), (10, u_P), (11, u_W)]) (fun ⟨i, P, u_P, W, u_W⟩ => [rw_ eZ 3 (u_P) P, rw_ eZ 3 (u_W) W, cel lb [.slice rA R.length rc, .slice kA K.length kc, .slice uA U.length uc, .slice dA D.length dc] 76, rw_ eZ 3 (.slice rA R.length rc) R, rw_ eLK 44 (.slice kA K.length kc) K, rw_ eIL 27 (.slice uA U.length uc) U, rw_ eIL 27 (.slice dA D.length dc) D, nestIL 3 U, nestIL 3 D, mp keZ.f laV b3 M4, cel b2 [.func (.func 17) #[.pointer (some ⟨lb, 0, none⟩)] #[], .func (.func 41) #[] #[]] 87]) (fun _ => S) (fun _ => wf) (fun ⟨i, P, u_P, W, u_W⟩ => (n - i).toNat) (fun a_ w_ hs_ hw_ => ⟨⟨0, ([] : List Int), .slice none 0 0, ([] : List Int), .slice none 0 0⟩, (by (try dsimp only); exact ⟨oO, oO, G, G⟩), hs_.mono (Sub.get (.c4 G G G G (.c G (.c G (.c G .n))))), hw_.keep (.d (.d (.d (.d (.d (.c .h .n))))))⟩) (fun ⟨i, P, u_P, W, u_W⟩ ⟨q_0, q_1, q_2, q_3⟩ => ?_)
 try dsimp only
 have hpl := rch_len (f := (fU n R K U p)) i.toNat
 rw [← q_2, ← q_3] at hpl
 refine .seq (.region (.e G G G G G (.go idQ (.seq (.condI G bD (fun h7 => ?_) (fun h7 => ?_))))))
 ·
  refine .skipgo idQ (.seq (.block (.seq (.region (.m G G G (.a G G G (.go idQ (.seq (.region ?_)))))))))
  refine .m G G G (.m G G G (.v (ev_lkpok keZ (m := M4) (x := i) (z := dLA) G underlying84 zv90 G G 9 G) G (.m G G G ?_)))
  refine .x G G G G (.x G G G G (.cons (st_alloc G G G G zf90 (fun b8 => (.cons (st_storea (l' := [.int .i64 ((mget M4 i dLA).ld), .int .i64 ((mget M4 i dLA).af), .int .i64 ((mget M4 i dLA).ax), .int .i64 ((mget M4 i dLA).aw), .int .i64 ((mget M4 i dLA).am)]) G G G ty90 G G G .h G G ?_))))))
  refine .a G G G (.go idQ (.seq (.region (.m G G G (.go idQ ?_)))))
  refine .condI G bV (fun h9 => ?_) (fun h9 => ?_)
  ·
   refine SC.draw mo [rw_ eZ 3 (u_P) P, rw_ eZ 3 (u_W) W] [] (.c (.t .h) (.c (.t .h) .n)) (fun _ _ _ => sc0) (fun wf_10 hl_10 hx_10 hR_10 => ?_)
   refine SR.m 0 G G G G ?_
   refine SR.m 1 G G G G ?_
   refine SR.m 4 G G G G ?_
   refine SR.z 5 G G (ev_fa G fo90_0 G (r := 0) G) ?_
   refine SR.z 6 G G (ev_ld1 G ty3 G (At.d (At.lent hR_10 0 G G))) ?_
   refine SR.two (i := 2) (j := 7) kR ⟨_, G, ?_⟩ ⟨_, G, ?_⟩
   ·
    refine st_lit eZ (e := 3) (l := [i]) G G G G kR G G kW (fun b11 => ⟨tt0, ?_⟩)
    refine SR.two (i := 3) (j := 7) kR ⟨_, G, ?_⟩ ⟨_, G, ?_⟩
    ·
     refine st_app (E := eZ) (m := [i]) G G G G underlying27 ai3 G G G (.t .h) rO (row_src 0 G) lO G (fun v12 => ⟨tt0, ?_⟩)
     refine SR.o 7 G (st_lit eZ (e := 3) (l := [(mget M4 i dLA).ld]) G G G G kR G G kW (fun b13 => ⟨tt0, ?_⟩))
     refine SR.o 8 G (st_app (E := eZ) (m := [(mget M4 i dLA).ld]) G G G G underlying27 ai3 G G G (.t2 (.t .h)) rO (row_src 0 G) lO G (fun v14 => ⟨tt0, ?_⟩))
     refine SR.z 9 G G (ev_as G G) ?_
     refine SR.z 10 G G (ev_as G G) ?_
     refine SR.fin kR hl_10 hx_10 hR_10 (.c (.c (.c (.c .n)))) ?_
     refine SQ.go idQ ?_
     refine .region (.p ((i + 1)) oO oO G G G G G (.m G G G ?_))
     exact SP.nil (SQ.roundb (X := Int × (List Int) × Value × (List Int) × Value) (x := (i, P, u_P, W, u_W)) ⟨(i + 1), (P ++ [i]), v12, (W ++ [(mget M4 i dLA).ld]), v14⟩ (by (try dsimp only); exact ⟨oO, oO, (rch_yes hf oO h9 q_2 q_3).1, (rch_yes hf oO h9 q_2 q_3).2⟩) dO (Sub.get (.c4 G G G G (.c G (.c G (.c G .n))))) (kp (.c (.t2 .h) (.c .h (.c (.t2 (.t .h)) (.c (.t2 (.t .h)) (.c (.t2 (.t .h)) (.c (.t2 (.t .h)) (.c (.t2 (.t .h)) (.c (.t2 (.t .h)) (.c (.t2 (.t .h)) (.c (.t2 (.t .h)) (.c (.t2 (.t .h)) .n)))))))))))))
    refine st_lit eZ (e := 3) (l := [(mget M4 i dLA).ld]) G G G G kR G G kW (fun b15 => ⟨tt0, ?_⟩)
    refine SR.o 3 G (st_app (E := eZ) (m := [i]) G G G G underlying27 ai3 G G G (.t2 .h) rO (row_src 1 G) lO G (fun v16 => ⟨tt0, ?_⟩))
    refine SR.o 8 G (st_app (E := eZ) (m := [(mget M4 i dLA).ld]) G G G G underlying27 ai3 G G G (.t2 (.t .h)) rO (row_src 1 G) lO G (fun v17 => ⟨tt0, ?_⟩))
    refine SR.z 9 G G (ev_as G G) ?_
    refine SR.z 10 G G (ev_as G G) ?_
    refine SR.fin kR hl_10 hx_10 hR_10 (.c (.c (.c (.c .n)))) ?_
    refine SQ.go idQ ?_
    refine .region (.p ((i + 1)) oO oO G G G G G (.m G G G ?_))
    exact SP.nil (SQ.roundb (X := Int × (List Int) × Value × (List Int) × Value) (x := (i, P, u_P, W, u_W)) ⟨(i + 1), (P ++ [i]), v16, (W ++ [(mget M4 i dLA).ld]), v17⟩ (by (try dsimp only); exact ⟨oO, oO, (rch_yes hf oO h9 q_2 q_3).1, (rch_yes hf oO h9 q_2 q_3).2⟩) dO (Sub.get (.c4 G G G G (.c G (.c G (.c G .n))))) (kp (.c (.t .h) (.c .h (.c (.t2 (.t .h)) (.c (.t2 (.t .h)) (.c (.t2 (.t .h)) (.c (.t2 (.t .h)) (.c (.t2 (.t .h)) (.c (.t2 (.t .h)) (.c (.t2 (.t .h)) (.c (.t2 (.t .h)) (.c (.t2 (.t .h)) .n)))))))))))))
   refine st_lit eZ (e := 3) (l := [(mget M4 i dLA).ld]) G G G G kR G G kW (fun b18 => ⟨tt0, ?_⟩)
   refine SR.o 2 G (st_lit eZ (e := 3) (l := [i]) G G G G kR G G kW (fun b19 => ⟨tt0, ?_⟩))
   refine SR.o 3 G (st_app (E := eZ) (m := [i]) G G G G underlying27 ai3 G G G (.t2 .h) rO (row_src 0 G) lO G (fun v20 => ⟨tt0, ?_⟩))
   refine SR.o 8 G (st_app (E := eZ) (m := [(mget M4 i dLA).ld]) G G G G underlying27 ai3 G G G (.t2 (.t .h)) rO (row_src 2 G) lO G (fun v21 => ⟨tt0, ?_⟩))
   refine SR.z 9 G G (ev_as G G) ?_
   refine SR.z 10 G G (ev_as G G) ?_
   refine SR.fin kR hl_10 hx_10 hR_10 (.c (.c (.c (.c .n)))) ?_
   refine SQ.go idQ ?_
   refine .region (.p ((i + 1)) oO oO G G G G G (.m G G G ?_))
   exact SP.nil (SQ.roundb (X := Int × (List Int) × Value × (List Int) × Value) (x := (i, P, u_P, W, u_W)) ⟨(i + 1), (P ++ [i]), v20, (W ++ [(mget M4 i dLA).ld]), v21⟩ (by (try dsimp only); exact ⟨oO, oO, (rch_yes hf oO h9 q_2 q_3).1, (rch_yes hf oO h9 q_2 q_3).2⟩) dO (Sub.get (.c4 G G G G (.c G (.c G (.c G .n))))) (kp (.c (.t .h) (.c .h (.c (.t2 (.t .h)) (.c (.t2 (.t .h)) (.c (.t2 (.t .h)) (.c (.t2 (.t .h)) (.c (.t2 (.t .h)) (.c (.t2 (.t .h)) (.c (.t2 (.t .h)) (.c (.t2 (.t .h)) (.c (.t2 (.t .h)) .n)))))))))))))
  refine .skipgo idQ (.region (.p ((i + 1)) oO oO G G G G G (.m G G G ?_)))
  exact SP.nil (SQ.roundb (X := Int × (List Int) × Value × (List Int) × Value) (x := (i, P, u_P, W, u_W)) ⟨(i + 1), P, u_P, W, u_W⟩ (by (try dsimp only); exact ⟨oO, oO, (rch_no hf oO oO h9 q_2 q_3).1, (rch_no hf oO oO h9 q_2 q_3).2⟩) dO (Sub.get (.c4 G G G G (.c G (.c G (.c G .n))))) (kp (.c (.t .h) (.c (.t .h) (.c (.t .h) (.c (.t .h) (.c (.t .h) (.c (.t .h) (.c (.t .h) (.c (.t .h) (.c (.t .h) (.c (.t .h) (.c (.t .h) .n)))))))))))))
 refine .exit idQ ?_
 refine .seq (.region (.m G G G (.m G G G (.a G G G ?_))))
 refine .a G G G (.go idQ (.ret idQ (ret2 results16 G G (.c (.t2 .h) (.c (.t2 .h) (.c (.t2 .h) (.c (.t2 .h) (.c (.t2 .h) (.c (.t2 .h) (.c (.t2 .h) (.d .n)))))))) ⟨u_P, u_W, P, W, (by have h_ := q_2; rw [show i.toNat = n.toNat from by omega] at h_; exact h_), (by have h_ := q_3; rw [show i.toNat = n.toNat from by omega] at h_; exact h_), G, G⟩)))
theorem reachD (lb : Nat) (rA : Option Addr) (rc : Nat) (R : List Int) (kA : Option Addr) (kc : Nat) (K : List LK) (uA : Option Addr) (uc : Nat) (U : List IL) (dA : Option Addr) (dc : Nat) (D : List IL) (n : Int) (t : List Int) (p : Int) (S : Nat → Prop) (wf : World) (hC : LC n t R K U D) (hp : 0 ≤ p ∧ p < n) :
  TR0 prog 16 [.pointer (some ⟨lb, 0, none⟩), .int .i64 p, .bool false] [cel lb [.slice rA R.length rc, .slice kA K.length kc, .slice uA U.length uc, .slice dA D.length dc] 76, rw_ eZ 3 (.slice rA R.length rc) R, rw_ eLK 44 (.slice kA K.length kc) K, rw_ eIL 27 (.slice uA U.length uc) U, rw_ eIL 27 (.slice dA D.length dc) D, nestIL 3 U, nestIL 3 D] S wf (fun v_ C_ => ∃ (u : Value) (v : Value) (P : List Int) (W : List Int), (P = rcP (fDn n R K D p) n.toNat) ∧ (W = rcW (fDn n R K D p) n.toNat) ∧ v_ = .tuple #[u, v] ∧ C_ = [cel lb [.slice rA R.length rc, .slice kA K.length kc, .slice uA U.length uc, .slice dA D.length dc] 76, rw_ eZ 3 (.slice rA R.length rc) R, rw_ eLK 44 (.slice kA K.length kc) K, rw_ eIL 27 (.slice uA U.length uc) U, rw_ eIL 27 (.slice dA D.length dc) D, nestIL 3 U, nestIL 3 D, rw_ eZ 3 (u) P, rw_ eZ 3 (v) W]) := by
 have hn1 := hC.wy.hn
 have hRn := hC.hR
 have hro := mt hC.out.1 (Classical.not_not.2 hp)
 refine TR.mk func16 G ntmps16 G G (fun w_ => ?_)
 refine .seq (.region (.a G G G (.a G G G (.go idQ (.seq (.seq (.region ?_)))))))
 refine .m G G G (.m G G G (.cons (st_callk G G G G hbd42 G (.d (.d (.d (.c .h .n)))) (lrk_ lb rA rc R kA kc K uA uc U dA dc D p _ _) (.e G G G G G ?_))))
 refine .go idQ (.condI G bD (fun h1 => ?_) (fun h1 => ?_))
 ·
  exact absurd (by assumption) hro
 refine .skipgo idQ (.seq (.region (.m G G G (.v (ev_any (v := .func (.func 18) #[.pointer (some ⟨lb, 0, none⟩)] #[]) G kR (fun _ => by kernel_rfl)) G (.v (ev_any (v := .agg #[.func (.func 18) #[.pointer (some ⟨lb, 0, none⟩)] #[], .func (.func 39) #[] #[]]) G kR (fun _ => by kernel_rfl)) G ?_)))))
 refine .cons (st_alloc G G G G zf87 (fun b2 => ?_))
 refine .cons (st_storea (l' := [.func (.func 18) #[.pointer (some ⟨lb, 0, none⟩)] #[], .func (.func 39) #[] #[]]) G G G ty87 G G G .h G G ?_)
 refine .go idQ (.seq (.seq (.region (.m G G G (.go idQ (.cond_f G ?_))))))
 refine .skipgo idQ (.seq (.region (.d 0 ty87 G G G G (.m G G G (.cons (st_call0 G G G G hbd40 G (.c (.t .h) (.c (.t .h) (.c (.t .h) (.c (.t .h) (.c (.t .h) (.c (.t .h) (.c (.t .h) .n))))))) (findD lb rA rc R kA kc K uA uc U dA dc D n p _ _ hC.hL hC.sd hp) (fun v_q5 C_q5 q5 => ?_)))))))
 obtain ⟨b3, M4, p6, rfl, rfl⟩ := q5
 show SP _ _ _ _ _ _ ⟨_, _ :: _ :: _ :: _ :: _ :: _ :: _ :: _ :: _, _, _⟩
 have hf : SrR n (fDn n R K D p) M4 := hC.fd hp p6
 refine .a G G G (.go idQ (.seq (.region (.a G G G (.a G G G ?_)))))
 refine .go idQ (.seq (.seq (.region (.m G G G (.cons (st_callk G G G G hbd37 G (.d (.d (.d (.c .h .n)))) (lpl_ lb rA rc R kA kc K uA uc U dA dc D _ _) (.m G G G ?_)))))))
 refine .go idQ (.block ?_)
 refine SC.nilrow eZ 3 ?_
 refine SC.nilrow eZ 3 ?_
 refine .loop (X := Int × (List Int) × Value × (List Int) × Value) (fun ⟨i, P, u_P, W, u_W⟩ => 0 ≤ i ∧ i ≤ n ∧ P = rcP (fDn n R K D p) i.toNat ∧ W = rcW (fDn n R K D p) i.toNat) (fun ⟨i, P, u_P, W, u_W⟩ => [(6, .slice none 0 0), (7, .slice none 0 0), (9, .map (some b3)), (30, .int .i64 (R.length : Int)), (31, .int .i64 i), (10, u_P), (11, u_W)]) (fun ⟨i, P, u_P, W, u_W⟩ => [rw_ eZ 3 (u_P) P, rw_ eZ 3 (u_W) W, cel lb [.slice rA R.length rc, .slice kA K.length kc, .slice uA U.length uc, .slice dA D.length dc] 76, rw_ eZ 3 (.slice rA R.length rc) R, rw_ eLK 44 (.slice kA K.length kc) K, rw_ eIL 27 (.slice uA U.length uc) U, rw_ eIL 27 (.slice dA D.length dc) D, nestIL 3 U, nestIL 3 D, mp keZ.f laV b3 M4, cel b2 [.func (.func 18) #[.pointer (some ⟨lb, 0, none⟩)] #[], .func (.func 39) #[] #[]] 87]) (fun _ => S) (fun _ => wf) (fun ⟨i, P, u_P, W, u_W⟩ => (n - i).toNat) (fun a_ w_ hs_ hw_ => ⟨⟨0, ([] : List Int), .slice none 0 0, ([] : List Int), .slice none 0 0⟩, (by (try dsimp only); exact ⟨oO, oO, G, G⟩), hs_.mono (Sub.get (.c4 G G G G (.c G (.c G (.c G .n))))), hw_.keep (.d (.d (.d (.d (.d (.c .h .n))))))⟩) (fun ⟨i, P, u_P, W, u_W⟩ ⟨q_0, q_1, q_2, q_3⟩ => ?_)
 try dsimp only
 have hpl := rch_len (f := (fDn n R K D p)) i.toNat
 rw [← q_2, ← q_3] at hpl
 refine .seq (.region (.e G G G G G (.go idQ (.seq (.condI G bD (fun h7 => ?_) (fun h7 => ?_))))))
 ·
  refine .skipgo idQ (.seq (.block (.seq (.region (.m G G G (.a G G G (.go idQ (.seq (.region ?_)))))))))
  refine .m G G G (.m G G G (.v (ev_lkpok keZ (m := M4) (x := i) (z := dLA) G underlying84 zv90 G G 9 G) G (.m G G G ?_)))
  refine .x G G G G (.x G G G G (.cons (st_alloc G G G G zf90 (fun b8 => (.cons (st_storea (l' := [.int .i64 ((mget M4 i dLA).ld), .int .i64 ((mget M4 i dLA).af), .int .i64 ((mget M4 i dLA).ax), .int .i64 ((mget M4 i dLA).aw), .int .i64 ((mget M4 i dLA).am)]) G G G ty90 G G G .h G G ?_))))))
  refine .a G G G (.go idQ (.seq (.region (.m G G G (.go idQ ?_)))))
  refine .condI G bV (fun h9 => ?_) (fun h9 => ?_)
  ·
   refine SC.draw mo [rw_ eZ 3 (u_P) P, rw_ eZ 3 (u_W) W] [] (.c (.t .h) (.c (.t .h) .n)) (fun _ _ _ => sc0) (fun wf_10 hl_10 hx_10 hR_10 => ?_)
   refine SR.m 0 G G G G ?_
   refine SR.m 1 G G G G ?_
   refine SR.m 4 G G G G ?_
   refine SR.z 5 G G (ev_fa G fo90_0 G (r := 0) G) ?_
   refine SR.z 6 G G (ev_ld1 G ty3 G (At.d (At.lent hR_10 0 G G))) ?_
   refine SR.two (i := 2) (j := 7) kR ⟨_, G, ?_⟩ ⟨_, G, ?_⟩
   ·
    refine st_lit eZ (e := 3) (l := [i]) G G G G kR G G kW (fun b11 => ⟨tt0, ?_⟩)
    refine SR.two (i := 3) (j := 7) kR ⟨_, G, ?_⟩ ⟨_, G, ?_⟩
    ·
     refine st_app (E := eZ) (m := [i]) G G G G underlying27 ai3 G G G (.t .h) rO (row_src 0 G) lO G (fun v12 => ⟨tt0, ?_⟩)
     refine SR.o 7 G (st_lit eZ (e := 3) (l := [(mget M4 i dLA).ld]) G G G G kR G G kW (fun b13 => ⟨tt0, ?_⟩))
     refine SR.o 8 G (st_app (E := eZ) (m := [(mget M4 i dLA).ld]) G G G G underlying27 ai3 G G G (.t2 (.t .h)) rO (row_src 0 G) lO G (fun v14 => ⟨tt0, ?_⟩))
     refine SR.z 9 G G (ev_as G G) ?_
     refine SR.z 10 G G (ev_as G G) ?_
     refine SR.fin kR hl_10 hx_10 hR_10 (.c (.c (.c (.c .n)))) ?_
     refine SQ.go idQ ?_
     refine .region (.p ((i + 1)) oO oO G G G G G (.m G G G ?_))
     exact SP.nil (SQ.roundb (X := Int × (List Int) × Value × (List Int) × Value) (x := (i, P, u_P, W, u_W)) ⟨(i + 1), (P ++ [i]), v12, (W ++ [(mget M4 i dLA).ld]), v14⟩ (by (try dsimp only); exact ⟨oO, oO, (rch_yes hf oO h9 q_2 q_3).1, (rch_yes hf oO h9 q_2 q_3).2⟩) dO (Sub.get (.c4 G G G G (.c G (.c G (.c G .n))))) (kp (.c (.t2 .h) (.c .h (.c (.t2 (.t .h)) (.c (.t2 (.t .h)) (.c (.t2 (.t .h)) (.c (.t2 (.t .h)) (.c (.t2 (.t .h)) (.c (.t2 (.t .h)) (.c (.t2 (.t .h)) (.c (.t2 (.t .h)) (.c (.t2 (.t .h)) .n)))))))))))))
    refine st_lit eZ (e := 3) (l := [(mget M4 i dLA).ld]) G G G G kR G G kW (fun b15 => ⟨tt0, ?_⟩)
    refine SR.o 3 G (st_app (E := eZ) (m := [i]) G G G G underlying27 ai3 G G G (.t2 .h) rO (row_src 1 G) lO G (fun v16 => ⟨tt0, ?_⟩))
    refine SR.o 8 G (st_app (E := eZ) (m := [(mget M4 i dLA).ld]) G G G G underlying27 ai3 G G G (.t2 (.t .h)) rO (row_src 1 G) lO G (fun v17 => ⟨tt0, ?_⟩))
    refine SR.z 9 G G (ev_as G G) ?_
    refine SR.z 10 G G (ev_as G G) ?_
    refine SR.fin kR hl_10 hx_10 hR_10 (.c (.c (.c (.c .n)))) ?_
    refine SQ.go idQ ?_
    refine .region (.p ((i + 1)) oO oO G G G G G (.m G G G ?_))
    exact SP.nil (SQ.roundb (X := Int × (List Int) × Value × (List Int) × Value) (x := (i, P, u_P, W, u_W)) ⟨(i + 1), (P ++ [i]), v16, (W ++ [(mget M4 i dLA).ld]), v17⟩ (by (try dsimp only); exact ⟨oO, oO, (rch_yes hf oO h9 q_2 q_3).1, (rch_yes hf oO h9 q_2 q_3).2⟩) dO (Sub.get (.c4 G G G G (.c G (.c G (.c G .n))))) (kp (.c (.t .h) (.c .h (.c (.t2 (.t .h)) (.c (.t2 (.t .h)) (.c (.t2 (.t .h)) (.c (.t2 (.t .h)) (.c (.t2 (.t .h)) (.c (.t2 (.t .h)) (.c (.t2 (.t .h)) (.c (.t2 (.t .h)) (.c (.t2 (.t .h)) .n)))))))))))))
   refine st_lit eZ (e := 3) (l := [(mget M4 i dLA).ld]) G G G G kR G G kW (fun b18 => ⟨tt0, ?_⟩)
   refine SR.o 2 G (st_lit eZ (e := 3) (l := [i]) G G G G kR G G kW (fun b19 => ⟨tt0, ?_⟩))
   refine SR.o 3 G (st_app (E := eZ) (m := [i]) G G G G underlying27 ai3 G G G (.t2 .h) rO (row_src 0 G) lO G (fun v20 => ⟨tt0, ?_⟩))
   refine SR.o 8 G (st_app (E := eZ) (m := [(mget M4 i dLA).ld]) G G G G underlying27 ai3 G G G (.t2 (.t .h)) rO (row_src 2 G) lO G (fun v21 => ⟨tt0, ?_⟩))
   refine SR.z 9 G G (ev_as G G) ?_
   refine SR.z 10 G G (ev_as G G) ?_
   refine SR.fin kR hl_10 hx_10 hR_10 (.c (.c (.c (.c .n)))) ?_
   refine SQ.go idQ ?_
   refine .region (.p ((i + 1)) oO oO G G G G G (.m G G G ?_))
   exact SP.nil (SQ.roundb (X := Int × (List Int) × Value × (List Int) × Value) (x := (i, P, u_P, W, u_W)) ⟨(i + 1), (P ++ [i]), v20, (W ++ [(mget M4 i dLA).ld]), v21⟩ (by (try dsimp only); exact ⟨oO, oO, (rch_yes hf oO h9 q_2 q_3).1, (rch_yes hf oO h9 q_2 q_3).2⟩) dO (Sub.get (.c4 G G G G (.c G (.c G (.c G .n))))) (kp (.c (.t .h) (.c .h (.c (.t2 (.t .h)) (.c (.t2 (.t .h)) (.c (.t2 (.t .h)) (.c (.t2 (.t .h)) (.c (.t2 (.t .h)) (.c (.t2 (.t .h)) (.c (.t2 (.t .h)) (.c (.t2 (.t .h)) (.c (.t2 (.t .h)) .n)))))))))))))
  refine .skipgo idQ (.region (.p ((i + 1)) oO oO G G G G G (.m G G G ?_)))
  exact SP.nil (SQ.roundb (X := Int × (List Int) × Value × (List Int) × Value) (x := (i, P, u_P, W, u_W)) ⟨(i + 1), P, u_P, W, u_W⟩ (by (try dsimp only); exact ⟨oO, oO, (rch_no hf oO oO h9 q_2 q_3).1, (rch_no hf oO oO h9 q_2 q_3).2⟩) dO (Sub.get (.c4 G G G G (.c G (.c G (.c G .n))))) (kp (.c (.t .h) (.c (.t .h) (.c (.t .h) (.c (.t .h) (.c (.t .h) (.c (.t .h) (.c (.t .h) (.c (.t .h) (.c (.t .h) (.c (.t .h) (.c (.t .h) .n)))))))))))))
 refine .exit idQ ?_
 refine .seq (.region (.m G G G (.m G G G (.a G G G ?_))))
 refine .a G G G (.go idQ (.ret idQ (ret2 results16 G G (.c (.t2 .h) (.c (.t2 .h) (.c (.t2 .h) (.c (.t2 .h) (.c (.t2 .h) (.c (.t2 .h) (.c (.t2 .h) (.d .n)))))))) ⟨u_P, u_W, P, W, (by have h_ := q_2; rw [show i.toNat = n.toNat from by omega] at h_; exact h_), (by have h_ := q_3; rw [show i.toNat = n.toNat from by omega] at h_; exact h_), G, G⟩)))
theorem reachno_ (lb : Nat) (rA : Option Addr) (rc : Nat) (R : List Int) (kA : Option Addr) (kc : Nat) (K : List LK) (uA : Option Addr) (uc : Nat) (U : List IL) (dA : Option Addr) (dc : Nat) (D : List IL) (n : Int) (t : List Int) (p : Int) (up : Bool) (S : Nat → Prop) (wf : World) (hC : LC n t R K U D) (hp : ¬ (0 ≤ p ∧ p < n)) :
  TR0 prog 16 [.pointer (some ⟨lb, 0, none⟩), .int .i64 p, .bool up] [cel lb [.slice rA R.length rc, .slice kA K.length kc, .slice uA U.length uc, .slice dA D.length dc] 76, rw_ eZ 3 (.slice rA R.length rc) R, rw_ eLK 44 (.slice kA K.length kc) K, rw_ eIL 27 (.slice uA U.length uc) U, rw_ eIL 27 (.slice dA D.length dc) D, nestIL 3 U, nestIL 3 D] S wf (fun v_ C_ => v_ = .tuple #[.slice none 0 0, .slice none 0 0] ∧ C_ = [cel lb [.slice rA R.length rc, .slice kA K.length kc, .slice uA U.length uc, .slice dA D.length dc] 76, rw_ eZ 3 (.slice rA R.length rc) R, rw_ eLK 44 (.slice kA K.length kc) K, rw_ eIL 27 (.slice uA U.length uc) U, rw_ eIL 27 (.slice dA D.length dc) D, nestIL 3 U, nestIL 3 D]) := by
 have hro := hC.out.2 hp
 refine TR.mk func16 G ntmps16 G G (fun w_ => ?_)
 refine .seq (.region (.a G G G (.a G G G (.go idQ (.seq (.seq (.region ?_)))))))
 refine .m G G G (.m G G G (.cons (st_callk G G G G hbd42 G (.d (.d (.d (.c .h .n)))) (lrk_ lb rA rc R kA kc K uA uc U dA dc D p _ _) (.e G G G G G ?_))))
 refine .go idQ (.condI G bD (fun h1 => ?_) (fun h1 => ?_))
 ·
  refine .seq (.region (.a G G G (.a G G G (.go idQ ?_))))
  exact .ret idQ (ret2 results16 G G (.d (.d (.d (.c .h .n)))) ⟨G, G⟩)
 exact absurd hro (by assumption)
end Go.Proofs.Ytpjblnmophcdmaa.Sx
