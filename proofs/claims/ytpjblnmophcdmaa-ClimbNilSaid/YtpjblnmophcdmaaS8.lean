import Derived.Test.YtpjblnmophcdmaaProg
import Derived.Test.YtpjblnmophcdmaaS7
set_option linter.unusedVariables false
set_option linter.unusedSimpArgs false
set_option linter.unusedSectionVars false
set_option maxRecDepth 20000
set_option maxHeartbeats 8000000
namespace Go.Proofs.Ytpjblnmophcdmaa.Sx.FCF
open Go Go.SX Go.Proofs Go.Proofs.Try FA FB FC FD FE FF FG FH FI FJ FK FL FM FN FO FP FQ FR FS FCA FCB FCC FCE
theorem hbd38 : hasBody prog 38 = true := by kernel_rfl
theorem ai69 : (prog.info? 69).map (fun i => (i.zero, i.size, i.bytes)) = some (some (.slice none 0 0), 1, 24) := by kernel_rfl
end Go.Proofs.Ytpjblnmophcdmaa.Sx.FCF
namespace Go.Proofs.Ytpjblnmophcdmaa.Sx
open Go Go.SX Go.Proofs Go.Proofs.Try FA FB FC FD FE FF FG FH FI FJ FK FL FM FN FO FP FQ FR FS FCA FCB FCC FCE FCF
theorem table_ (lb : Nat) (rA : Option Addr) (rc : Nat) (R : List Int) (kA : Option Addr) (kc : Nat) (K : List LK) (uA : Option Addr) (uc : Nat) (U : List IL) (dA : Option Addr) (dc : Nat) (D : List IL) (n : Int) (t : List Int) (S : Nat → Prop) (wf : World) (hC : LC n t R K U D) :
  TR0 prog 13 [.pointer (some ⟨lb, 0, none⟩)] [cel lb [.slice rA R.length rc, .slice kA K.length kc, .slice uA U.length uc, .slice dA D.length dc] 76, rw_ eZ 3 (.slice rA R.length rc) R, rw_ eLK 44 (.slice kA K.length kc) K, rw_ eIL 27 (.slice uA U.length uc) U, rw_ eIL 27 (.slice dA D.length dc) D, nestIL 3 U, nestIL 3 D] S wf (fun v_ C_ => ∃ (u : Value) (W : List Int), (MF n W (dsF n t)) ∧ v_ = .agg #[.int .i64 n, u] ∧ C_ = [cel lb [.slice rA R.length rc, .slice kA K.length kc, .slice uA U.length uc, .slice dA D.length dc] 76, rw_ eZ 3 (.slice rA R.length rc) R, rw_ eLK 44 (.slice kA K.length kc) K, rw_ eIL 27 (.slice uA U.length uc) U, rw_ eIL 27 (.slice dA D.length dc) D, nestIL 3 U, nestIL 3 D, rw_ eZ 3 (u) W]) := by
 have hn1 := hC.wy.hn
 have hsq := sq_le hn1
 refine TR.mk func13 G ntmps13 G G (fun w_ => ?_)
 refine .seq (.region (.cons (st_alloc G G G G zf29 (fun b1 => (.go idQ (.seq (.region (.m G G G ?_))))))))
 refine .cons (st_callk G G G G hbd37 G (.c (.t .h) (.c (.t .h) (.c (.t .h) (.c (.t .h) (.c (.t .h) (.c (.t .h) (.c (.t .h) .n))))))) (lpl_ lb rA rc R kA kc K uA uc U dA dc D _ _) ?_)
 refine .a G G G (.go idQ (.seq ?_))
 rw [show (R.length : Int) = n from hC.hR]
 refine .region (.m G G G (.cons (st_lit eZ (e := 3) (l := [(-1)]) G G G G kR G G kW (fun b2 => (.m G G G ?_)))))
 refine .m G G G (.v (ev_mul G G G (r := (n * n)) G oO oO) G (.cons (st_lend0 G G G G hbd38 G .n (.c .h .n) (fun w_ hw => repeat_ (some ⟨b2, 0, none⟩) 1 (n * n) _ _ (Fr.lend hw 0 G lO) oO) (fun v_q4 C_q4 q4 => ?_))))
 obtain ⟨u3, rfl, rfl⟩ := q4
 show SP _ _ _ _ _ _ ⟨_, _ :: _ :: _, _, _⟩
 refine .know (row_len 0 G) (fun hv7 => ?_)
 obtain ⟨A5, c6, rfl, hv7_1, hv7_2⟩ := hv7
 unfold maxLen at hv7_2
 refine .v (ev_any (v := .agg #[.int .i64 n, .slice A5 ((List.replicate ((n * n)).toNat (-1)).length) c6]) G kR (fun _ => by kernel_rfl)) G (.cons (st_alloc G G G G zf29 (fun b8 => (.cons (st_storea (l' := [.int .i64 n, .slice A5 ((List.replicate ((n * n)).toNat (-1)).length) c6]) G G G ty29 G G G .h G G (.go idQ (.seq (.region ?_))))))))
 refine .m G G G (.cons (st_mkslicesE (n := (n).toNat) G G G G underlying83 ai69 G G oO oO G (fun b9 => (.a G G G (.go idQ (.seq (.seq ?_)))))))
 refine SC.ERs 72 n.toNat ?_
 refine .region (.m G G G (.m G G G (.go idQ (.block ?_))))
 refine .loop (X := Int × (List ER)) (fun ⟨to, Bk⟩ => 0 ≤ to ∧ to ≤ n ∧ BkG n (fU n R K D) (fun _ j => j < to) Bk) (fun ⟨to, Bk⟩ => [(0, .pointer (some ⟨lb, 0, none⟩)), (2, .pointer (some ⟨b1, 0, none⟩)), (3, .int .i64 n), (4, .pointer (some ⟨b8, 0, none⟩)), (5, .slice (some ⟨b9, 0, none⟩) ((n).toNat) ((n).toNat)), (26, .int .i64 n), (27, .int .i64 to)]) (fun ⟨to, Bk⟩ => [nestER 72 Bk, rw_ eER 69 (.slice (some ⟨b9, 0, none⟩) ((n).toNat) ((n).toNat)) Bk, cel b8 [.int .i64 n, .slice A5 ((List.replicate ((n * n)).toNat (-1)).length) c6] 29, rw_ eZ 3 (.slice A5 ((List.replicate ((n * n)).toNat (-1)).length) c6) (List.replicate ((n * n)).toNat (-1)), rw_ eZ 3 (.slice (some ⟨b2, 0, none⟩) 1 1) [(-1)], cel b1 [.int .i64 0, .slice none 0 0] 29, cel lb [.slice rA R.length rc, .slice kA K.length kc, .slice uA U.length uc, .slice dA D.length dc] 76, rw_ eZ 3 (.slice rA R.length rc) R, rw_ eLK 44 (.slice kA K.length kc) K, rw_ eIL 27 (.slice uA U.length uc) U, rw_ eIL 27 (.slice dA D.length dc) D, nestIL 3 U, nestIL 3 D]) (fun _ => S) (fun _ => wf) (fun ⟨to, Bk⟩ => (n - to).toNat) (fun a_ w_ hs_ hw_ => ⟨⟨0, (List.replicate ((n).toNat) dER)⟩, (by (try dsimp only); exact ⟨oO, oO, (bk_0 oO)⟩), hs_.mono (Sub.get (.c4 G G G G (.c G (.c G (.c G .n))))), hw_.keep (.d (.d (.d (.d (.d (.d (.c .h .n)))))))⟩) (fun ⟨to, Bk⟩ ⟨q_0, q_1, q_2⟩ => ?_)
 try dsimp only
 refine .seq (.region (.e G G G G G (.go idQ (.seq (.condI G bD (fun h10 => ?_) (fun h10 => ?_))))))
 ·
  refine .skipgo idQ (.seq (.block (.seq (.region (.m G G G (.a G G G (.go idQ (.seq (.region ?_)))))))))
  refine .m G G G (.v (ev_any (v := .func (.func 18) #[.pointer (some ⟨lb, 0, none⟩)] #[]) G kR (fun _ => by kernel_rfl)) G (.v (ev_any (v := .agg #[.func (.func 18) #[.pointer (some ⟨lb, 0, none⟩)] #[], .func (.func 39) #[] #[]]) G kR (fun _ => by kernel_rfl)) G (.m G G G ?_)))
  refine .cons (st_call0 G G G G hbd40 G (.c (.t4 (.t2 .h)) (.c (.t4 (.t2 .h)) (.c (.t4 (.t2 .h)) (.c (.t4 (.t2 .h)) (.c (.t4 (.t2 .h)) (.c (.t4 (.t2 .h)) (.c (.t4 (.t2 .h)) .n))))))) (findD lb rA rc R kA kc K uA uc U dA dc D n to _ _ hC.hL hC.sd ⟨by omega, by omega⟩) (fun v_q13 C_q13 q13 => ?_))
  obtain ⟨b11, M12, p14, rfl, rfl⟩ := q13
  show SP _ _ _ _ _ _ ⟨_, _ :: _ :: _ :: _ :: _ :: _ :: _ :: _ :: _, _, _⟩
  have hfd := hC.fd ⟨by omega, by omega⟩ p14
  refine .cons (st_range keZ G G G G underlying84 G (.t4 (.t2 (.t .h))) (fun r15 => ?_))
  refine .go idQ (.block (.loop (X := (List (Int × LA)) × (Option (Int × LA)) × (List ER)) (fun ⟨Lf, cu_Lf, Bk2⟩ => LfI M12 Lf ∧ BkG n (fU n R K D) (dnB to Lf) Bk2) (fun ⟨Lf, cu_Lf, Bk2⟩ => [(0, .pointer (some ⟨lb, 0, none⟩)), (2, .pointer (some ⟨b1, 0, none⟩)), (3, .int .i64 n), (4, .pointer (some ⟨b8, 0, none⟩)), (5, .slice (some ⟨b9, 0, none⟩) ((n).toNat) ((n).toNat)), (26, .int .i64 n), (27, .int .i64 to), (6, .int .i64 to), (35, .pointer (some ⟨r15, 0, none⟩))]) (fun ⟨Lf, cu_Lf, Bk2⟩ => [mpr keZ.f laV b11 r15 M12 Lf cu_Lf, cel lb [.slice rA R.length rc, .slice kA K.length kc, .slice uA U.length uc, .slice dA D.length dc] 76, rw_ eZ 3 (.slice rA R.length rc) R, rw_ eLK 44 (.slice kA K.length kc) K, rw_ eIL 27 (.slice uA U.length uc) U, rw_ eIL 27 (.slice dA D.length dc) D, nestIL 3 U, nestIL 3 D, nestER 72 Bk2, rw_ eER 69 (.slice (some ⟨b9, 0, none⟩) ((n).toNat) ((n).toNat)) Bk2, cel b8 [.int .i64 n, .slice A5 ((List.replicate ((n * n)).toNat (-1)).length) c6] 29, rw_ eZ 3 (.slice A5 ((List.replicate ((n * n)).toNat (-1)).length) c6) (List.replicate ((n * n)).toNat (-1)), rw_ eZ 3 (.slice (some ⟨b2, 0, none⟩) 1 1) [(-1)], cel b1 [.int .i64 0, .slice none 0 0] 29]) (fun _ => S) (fun _ => wf) (fun ⟨Lf, cu_Lf, Bk2⟩ => Lf.length) (fun a_ w_ hs_ hw_ => ⟨⟨M12, none, Bk⟩, (by (try dsimp only); exact ⟨(lf_0 hfd.nd), (bk_in q_2 hfd)⟩), hs_.mono (Sub.get (.c4 G G G G (.c4 G G G G (.c G .n)))), hw_.keep (.d (.d (.d (.d (.d (.d (.d .n)))))))⟩) (fun ⟨Lf, cu_Lf, Bk2⟩ ⟨r_0, r_1⟩ => ?_)))
  try dsimp only
  refine .seq (.region (.cons (st_next keZ G G G G G .h (fun hz16 => ?_) (fun x17 v18 hl19 hm20 => ?_))))
  ·
   refine .x G G G G (.go idQ (.seq (.cond_f G (.exit idQ ?_))))
   refine .region (.p ((to + 1)) oO oO G G G G G (.m G G G ?_))
   exact SP.nil (SQ.roundb (X := Int × (List ER)) (x := (to, Bk)) ⟨(to + 1), Bk2⟩ (by (try dsimp only); exact ⟨oO, oO, (bk_out (by rw [← hz16]; exact r_1))⟩) dO (Sub.get (.c4 G G G G (.c G (.c G (.c G .n))))) (kp (.c (.t4 (.t4 .h)) (.c (.t4 (.t4 .h)) (.c (.t4 (.t4 .h)) (.c (.t4 (.t4 .h)) (.c (.t4 (.t4 .h)) (.c (.t4 (.t4 .h)) (.c (.t .h) (.c (.t .h) (.c (.t .h) (.c (.t .h) (.c (.t .h) (.c (.t .h) (.c (.t .h) .n)))))))))))))))
  refine .x G G G G (.go idQ (.seq (.cond_t G (.skipgo idQ (.block (.seq (.region ?_)))))))
  refine .v (ev_entry keZ (x := x17) (v := v18) G G 0 G) G (.x G G G G (.x G G G G (.cons (st_alloc G G G G zf90 (fun b21 => ?_)))))
  refine .a G G G (.cons (st_storea (l' := [.int .i64 v18.ld, .int .i64 v18.af, .int .i64 v18.ax, .int .i64 v18.aw, .int .i64 v18.am]) G G G ty90 G G G .h G G (.go idQ ?_)))
  have hva := lf_at hfd r_0 hl19
  have hel := r_1.el (p := x17) oO oO
  have hbl := r_1.len
  refine SC.outER x17 oO oO (.t4 (.t4 (.t .h))) (fun hol => ?_)
  refine SC.draw mo [rw_ eEG 72 (.slice ((gt Bk2 x17).erA) ((gt Bk2 x17).er.length) ((gt Bk2 x17).erc)) ((gt Bk2 x17).er), rw_ eER 69 (.slice (some ⟨b9, 0, none⟩) ((n).toNat) ((n).toNat)) Bk2] [(13, fun w => At w (ab (some ⟨b9, 0, none⟩)) (ao (some ⟨b9, 0, none⟩) + (x17).toNat * eER.sz) (eER.enc (gt Bk2 x17)))] (.c .h (.c (.t4 (.t4 (.t2 .h))) .n)) (fun w_ _ hw_ => (sc1 (row_el (E := eER) (l := Bk2) (i := x17) 1 G oO lO w_ hw_) sc0)) (fun wf_22 hl_22 hx_22 hR_22 => ?_)
  refine SR.m 0 G G G G ?_
  refine SR.m 1 G G G G ?_
  refine SR.m 2 G G G G ?_
  refine SR.m 3 G G G G ?_
  refine SR.z 4 G G (ev_ix G underlying83 ty69 G G oO oO (fun _ _ => G)) ?_
  refine SR.z 5 G G (ev_ld1 G ty69 G (At.elem1 (At.ofcs 0 G kR) 0 G)) ?_
  refine SR.m 6 G G G G ?_
  refine SR.z 7 G G (ev_fa G fo90_0 G (r := 0) G) ?_
  refine SR.z 8 G G (ev_ld1 G ty3 G (At.d (At.lent hR_22 1 G G))) ?_
  refine SR.z 9 G G (ev_any (v := .agg #[.int .i64 to, .int .i64 v18.ld]) G kR (fun _ => by kernel_rfl)) ?_
  refine SR.o 10 G (st_lit eEG (e := 72) (l := [(EG.mk to v18.ld)]) G G G G kR G G kW (fun b23 => ⟨ttr (i := x17) 2 G oO oO, ?_⟩))
  refine SR.o 11 G (st_app (E := eEG) (m := [(EG.mk to v18.ld)]) G G G G underlying69 ai72 G G G (.t .h) rO (row_src 0 G) lO G (fun v24 => ⟨ttr (i := x17) 2 G oO oO, ?_⟩))
  refine SR.z 12 G G (ev_ix G underlying83 ty69 G G oO oO (fun _ _ => G)) ?_
  refine .know (row_len 0 G) (fun hv27 => ?_)
  obtain ⟨A25, c26, rfl, hv27_1, hv27_2⟩ := hv27
  unfold maxLen at hv27_2
  refine SR.o 13 G (st_setel (E := eER) (i := x17) (cs := [.slice A25 ((((gt Bk2 x17).er) ++ [(EG.mk to v18.ld)]).length) c26]) (off := 0) (ER.mk (((gt Bk2 x17).er) ++ [(EG.mk to v18.ld)]) A25 c26) G G G ty69 G G G G G (.t2 .h) lO lO (Nat.le_of_ble_eq_true G) G ⟨ttc (fun w_ hw_ => (tc2 kR tc0)), ?_⟩)
  refine SR.fin kR hl_22 hx_22 hR_22 (.c (.c (.c .n))) ?_
  exact SQ.inER x17 (ER.mk (((gt Bk2 x17).er) ++ [(EG.mk to v18.ld)]) A25 c26) oO oO (.c (.t .h) (.c (.t2 .h) .n)) (by rfl) (by rw [List.length_append, List.length_singleton]; omega) <| (SQ.roundb (X := (List (Int × LA)) × (Option (Int × LA)) × (List ER)) (x := (Lf, cu_Lf, Bk2)) ⟨(Lf.filter (fun p => decide (p.1 ≠ x17))), (some (x17, v18)), (Bk2.set (x17).toNat (ER.mk (((gt Bk2 x17).er) ++ [(EG.mk to v18.ld)]) A25 c26))⟩ (by (try dsimp only); exact ⟨(lf_next r_0), (bk_step ⟨by omega, by omega⟩ hfd r_0 r_1 hl19)⟩) (mfilter_lt hl19) (Sub.get (.c4 G G G G (.c4 G G G G (.c G .n)))) (kp (.c (.t4 .h) (.c (.t4 .h) (.c (.t4 .h) (.c (.t4 .h) (.c (.t4 .h) (.c (.t4 .h) (.c (.t4 .h) (.c (.t4 .h) (.d (.c (.t2 .h) (.c (.t2 .h) (.c (.t2 .h) (.c (.t2 .h) .n)))))))))))))))
 refine .exit idQ ?_
 refine .seq (.seq ?_)
 have hbk : BkG n (fU n R K D) (fun _ j => j < n) Bk := by have h_ := q_2; rw [show to = n from by omega] at h_; exact h_
 refine .region (.m G G G (.m G G G (.go idQ (.block ?_))))
 refine .loop (X := Int × (List Int) × Value) (fun ⟨fr, W, u_W⟩ => 0 ≤ fr ∧ fr ≤ n ∧ MnI n (dsF n t) (fU n R K U fr) (fU n R K D) fr (fun _ _ => False) W) (fun ⟨fr, W, u_W⟩ => [(0, .pointer (some ⟨lb, 0, none⟩)), (2, .pointer (some ⟨b1, 0, none⟩)), (3, .int .i64 n), (4, .pointer (some ⟨b8, 0, none⟩)), (5, .slice (some ⟨b9, 0, none⟩) ((n).toNat) ((n).toNat)), (26, .int .i64 n), (27, .int .i64 to), (55, .int .i64 n), (56, .int .i64 fr)]) (fun ⟨fr, W, u_W⟩ => [nestER 72 Bk, rw_ eER 69 (.slice (some ⟨b9, 0, none⟩) ((n).toNat) ((n).toNat)) Bk, cel b8 [.int .i64 n, u_W] 29, rw_ eZ 3 (u_W) W, rw_ eZ 3 (.slice (some ⟨b2, 0, none⟩) 1 1) [(-1)], cel b1 [.int .i64 0, .slice none 0 0] 29, cel lb [.slice rA R.length rc, .slice kA K.length kc, .slice uA U.length uc, .slice dA D.length dc] 76, rw_ eZ 3 (.slice rA R.length rc) R, rw_ eLK 44 (.slice kA K.length kc) K, rw_ eIL 27 (.slice uA U.length uc) U, rw_ eIL 27 (.slice dA D.length dc) D, nestIL 3 U, nestIL 3 D]) (fun _ => S) (fun _ => wf) (fun ⟨fr, W, u_W⟩ => (n - fr).toNat) (fun a_ w_ hs_ hw_ => ⟨⟨0, (List.replicate ((n * n)).toNat (-1)), .slice A5 ((List.replicate ((n * n)).toNat (-1)).length) c6⟩, (by (try dsimp only); exact ⟨oO, oO, (mn_0 hn1)⟩), hs_.mono (Sub.get (.c4 G G G G (.c4 G G G G (.c G .n)))), hw_.keep (.d (.d (.d (.d (.d (.d (.c .h .n)))))))⟩) (fun ⟨fr, W, u_W⟩ ⟨r_0, r_1, r_2⟩ => ?_)
 try dsimp only
 refine .seq (.region (.e G G G G G (.go idQ (.seq (.condI G bD (fun h28 => ?_) (fun h28 => ?_))))))
 ·
  refine .skipgo idQ (.seq (.block (.seq (.region (.m G G G (.a G G G (.go idQ (.seq (.region ?_)))))))))
  refine .m G G G (.v (ev_any (v := .func (.func 17) #[.pointer (some ⟨lb, 0, none⟩)] #[]) G kR (fun _ => by kernel_rfl)) G (.v (ev_any (v := .agg #[.func (.func 17) #[.pointer (some ⟨lb, 0, none⟩)] #[], .func (.func 41) #[] #[]]) G kR (fun _ => by kernel_rfl)) G (.m G G G ?_)))
  refine .cons (st_call0 G G G G hbd40 G (.c (.t4 (.t2 .h)) (.c (.t4 (.t2 .h)) (.c (.t4 (.t2 .h)) (.c (.t4 (.t2 .h)) (.c (.t4 (.t2 .h)) (.c (.t4 (.t2 .h)) (.c (.t4 (.t2 .h)) .n))))))) (findU lb rA rc R kA kc K uA uc U dA dc D n fr _ _ hC.hL hC.su ⟨by omega, by omega⟩) (fun v_q31 C_q31 q31 => ?_))
  obtain ⟨b29, M30, p32, rfl, rfl⟩ := q31
  show SP _ _ _ _ _ _ ⟨_, _ :: _ :: _ :: _ :: _ :: _ :: _ :: _ :: _, _, _⟩
  have hfu := hC.fu ⟨by omega, by omega⟩ p32
  refine .cons (st_range keZ G G G G underlying84 G (.t4 (.t2 (.t .h))) (fun r33 => ?_))
  refine .go idQ (.block (.loop (X := (List (Int × LA)) × (Option (Int × LA)) × (List Int) × Value) (fun ⟨Lg, cu_Lg, Y, u_Y⟩ => LfI M30 Lg ∧ MnI n (dsF n t) (fU n R K U fr) (fU n R K D) fr (prA M30 Lg (fU n R K D)) Y) (fun ⟨Lg, cu_Lg, Y, u_Y⟩ => [(0, .pointer (some ⟨lb, 0, none⟩)), (2, .pointer (some ⟨b1, 0, none⟩)), (3, .int .i64 n), (4, .pointer (some ⟨b8, 0, none⟩)), (5, .slice (some ⟨b9, 0, none⟩) ((n).toNat) ((n).toNat)), (26, .int .i64 n), (27, .int .i64 to), (55, .int .i64 n), (56, .int .i64 fr), (9, .int .i64 fr), (64, .pointer (some ⟨r33, 0, none⟩))]) (fun ⟨Lg, cu_Lg, Y, u_Y⟩ => [mpr keZ.f laV b29 r33 M30 Lg cu_Lg, cel lb [.slice rA R.length rc, .slice kA K.length kc, .slice uA U.length uc, .slice dA D.length dc] 76, rw_ eZ 3 (.slice rA R.length rc) R, rw_ eLK 44 (.slice kA K.length kc) K, rw_ eIL 27 (.slice uA U.length uc) U, rw_ eIL 27 (.slice dA D.length dc) D, nestIL 3 U, nestIL 3 D, nestER 72 Bk, rw_ eER 69 (.slice (some ⟨b9, 0, none⟩) ((n).toNat) ((n).toNat)) Bk, cel b8 [.int .i64 n, u_Y] 29, rw_ eZ 3 (u_Y) Y, rw_ eZ 3 (.slice (some ⟨b2, 0, none⟩) 1 1) [(-1)], cel b1 [.int .i64 0, .slice none 0 0] 29]) (fun _ => S) (fun _ => wf) (fun ⟨Lg, cu_Lg, Y, u_Y⟩ => Lg.length) (fun a_ w_ hs_ hw_ => ⟨⟨M30, none, W, u_W⟩, (by (try dsimp only); exact ⟨(lf_0 hfu.nd), (mn_a0 r_2)⟩), hs_.mono (Sub.get (.c4 G G G G (.c4 G G G G (.c G (.c G (.c G .n)))))), hw_.keep (.d (.d (.d (.d (.d (.d (.d .n)))))))⟩) (fun ⟨Lg, cu_Lg, Y, u_Y⟩ ⟨s_0, s_1⟩ => ?_)))
  try dsimp only
  refine .seq (.region (.cons (st_next keZ G G G G G .h (fun hz34 => ?_) (fun x35 v36 hl37 hm38 => ?_))))
  ·
   refine .x G G G G (.go idQ (.seq (.cond_f G (.exit idQ ?_))))
   refine .region (.p ((fr + 1)) oO oO G G G G G (.m G G G ?_))
   exact SP.nil (SQ.roundb (X := Int × (List Int) × Value) (x := (fr, W, u_W)) ⟨(fr + 1), Y, u_Y⟩ (by (try dsimp only); exact ⟨oO, oO, (mn_next ⟨by omega, by omega⟩ hfu (fun j j0 j1 => hC.ways ⟨by omega, by omega⟩ ⟨j0, j1⟩) (by rw [← hz34]; exact s_1))⟩) dO (Sub.get (.c4 G G G G (.c4 G G G G (.c G .n)))) (kp (.c (.t4 (.t4 .h)) (.c (.t4 (.t4 .h)) (.c (.t4 (.t4 .h)) (.c (.t4 (.t4 .h)) (.c (.t4 (.t4 .h)) (.c (.t4 (.t4 .h)) (.c (.t .h) (.c (.t .h) (.c (.t .h) (.c (.t .h) (.c (.t .h) (.c (.t .h) (.c (.t .h) .n)))))))))))))))
  refine .x G G G G (.go idQ (.seq (.cond_t G (.skipgo idQ (.block (.seq (.region ?_)))))))
  refine .v (ev_entry keZ (x := x35) (v := v36) G G 0 G) G (.x G G G G (.x G G G G (.cons (st_alloc G G G G zf90 (fun b39 => ?_)))))
  refine .a G G G (.cons (st_storea (l' := [.int .i64 v36.ld, .int .i64 v36.af, .int .i64 v36.ax, .int .i64 v36.aw, .int .i64 v36.am]) G G G ty90 G G G .h G G (.go idQ (.seq ?_))))
  have hva := lf_at hfu s_0 hl37
  have hel := hbk.el (p := x35) oO oO
  have hbl := hbk.len
  refine SC.outER x35 oO oO (.t4 (.t4 (.t .h))) (fun hol => ?_)
  refine .region (.m G G G (.m G G G (.v (ev_ix G underlying83 ty69 G G oO oO (fun _ _ => G)) G ?_)))
  refine .v (ev_ld1 G ty69 G (At.elem1 (row_el (E := eER) (l := Bk) (i := x35) 11 G oO oO) 0 G)) G (.g underlying69 G G G (.m G G G (.go idQ (.block ?_))))
  refine .loop (X := Int × (List Int) × Value) (fun ⟨k, Z, u_Z⟩ => 0 ≤ k ∧ k ≤ ((gt Bk x35).er.length : Int) ∧ MnI n (dsF n t) (fU n R K U fr) (fU n R K D) fr (prX M30 Lg (fU n R K D) (gt Bk x35).er x35 k.toNat) Z) (fun ⟨k, Z, u_Z⟩ => [(0, .pointer (some ⟨lb, 0, none⟩)), (2, .pointer (some ⟨b1, 0, none⟩)), (3, .int .i64 n), (4, .pointer (some ⟨b8, 0, none⟩)), (5, .slice (some ⟨b9, 0, none⟩) ((n).toNat) ((n).toNat)), (26, .int .i64 n), (27, .int .i64 to), (55, .int .i64 n), (56, .int .i64 fr), (9, .int .i64 fr), (64, .pointer (some ⟨r33, 0, none⟩)), (11, .pointer (some ⟨b39, 0, none⟩)), (73, .slice ((gt Bk x35).erA) ((gt Bk x35).er.length) ((gt Bk x35).erc)), (74, .int .i64 (((gt Bk x35).er.length : Nat) : Int)), (75, .int .i64 k)]) (fun ⟨k, Z, u_Z⟩ => [rw_ eEG 72 (.slice ((gt Bk x35).erA) ((gt Bk x35).er.length) ((gt Bk x35).erc)) ((gt Bk x35).er), nestER 72 (Bk.take (x35).toNat ++ Bk.drop (x35 + 1).toNat), cel b39 [.int .i64 v36.ld, .int .i64 v36.af, .int .i64 v36.ax, .int .i64 v36.aw, .int .i64 v36.am] 90, mpr keZ.f laV b29 r33 M30 (Lg.filter (fun p => decide (p.1 ≠ x35))) (some (x35, v36)), cel lb [.slice rA R.length rc, .slice kA K.length kc, .slice uA U.length uc, .slice dA D.length dc] 76, rw_ eZ 3 (.slice rA R.length rc) R, rw_ eLK 44 (.slice kA K.length kc) K, rw_ eIL 27 (.slice uA U.length uc) U, rw_ eIL 27 (.slice dA D.length dc) D, nestIL 3 U, nestIL 3 D, rw_ eER 69 (.slice (some ⟨b9, 0, none⟩) ((n).toNat) ((n).toNat)) Bk, cel b8 [.int .i64 n, u_Z] 29, rw_ eZ 3 (u_Z) Z, rw_ eZ 3 (.slice (some ⟨b2, 0, none⟩) 1 1) [(-1)], cel b1 [.int .i64 0, .slice none 0 0] 29]) (fun _ => S) (fun _ => wf) (fun ⟨k, Z, u_Z⟩ => (((gt Bk x35).er.length : Int) - k).toNat) (fun a_ w_ hs_ hw_ => ⟨⟨0, Y, u_Y⟩, (by (try dsimp only); exact ⟨oO, oO, (mn_x0 s_1)⟩), hs_.mono (Sub.get (.c4 G G G G (.c4 G G G G (.c4 G G G G (.c G (.c G (.c G .n))))))), hw_.keep (.d (.d (.d (.d (.d (.d (.d (.d .n))))))))⟩) (fun ⟨k, Z, u_Z⟩ ⟨u_0, u_1, u_2⟩ => ?_)
  try dsimp only
  have hzl := u_2.len
  refine .seq (.region (.e G G G G G (.go idQ (.seq (.condI G bD (fun h40 => ?_) (fun h40 => ?_))))))
  ·
   refine .skipgo idQ (.seq (.block (.seq (.region (.v (ev_ix G underlying69 ty72 G G oO oO (row_adr (i := k) 0 G oO lO)) G (.v (ev_lda G G (row_el (E := eEG) (l := (gt Bk x35).er) (i := k) 0 G oO lO) ty72) G (.cons (st_alloc G G G G zf72 (fun b41 => ?_)))))))))
   refine .cons (st_storea (l' := [.int .i64 ((gt ((gt Bk x35).er) k).et), .int .i64 ((gt ((gt Bk x35).er) k).ew)]) G G G ty72 G G G .h G G ?_)
   refine .go idQ (.seq ?_)
   have hee := hbk.ok x35 oO oO _ (gtM (l := (gt Bk x35).er) (i := k) oO oO)
   have hix := idx_rng (n := n) (a := fr) (b := (gt (gt Bk x35).er k).et) ⟨by omega, by omega⟩ ⟨by omega, by omega⟩
   refine .region (.f fo29_1 1 G G G G (.l ty27 13 G G G G G (.m G G G ?_)))
   refine .m G G G (.v (ev_mul G G G (r := (fr * n)) G oO oO) G (.f fo72_0 0 G G G G (.l ty3 0 G G G G G ?_)))
   refine .v (ev_add G G G (r := ((fr * n) + ((gt ((gt Bk x35).er) k).et))) G oO oO) G (.know (row_len 14 G) (fun hv44 => ?_))
   obtain ⟨A42, c43, rfl, hv44_1, hv44_2⟩ := hv44
   unfold maxLen at hv44_2
   refine .v (ev_ix G underlying27 ty3 G G oO oO (row_adr (i := ((fr * n) + ((gt ((gt Bk x35).er) k).et))) 14 G oO oO)) G (.a G G G (.go idQ (.seq ?_)))
   refine SC.draw mo [] [] .n (fun _ _ _ => sc0) (fun wf_45 hl_45 hx_45 hR_45 => ?_)
   refine SR.m 0 G G G G ?_
   refine SR.z 1 G G (ev_nil G G) ?_
   refine SR.z 2 G G (ev_ld1 G ty3 G (At.elem1 (At.d (Fr.el (i := ((fr * n) + ((gt ((gt Bk x35).er) k).et))) (Fr.lent (S := S) hR_45 14 G lO) oO oO)) 0 G)) ?_
   refine SR.z 3 G G (ev_cmp G G G G) ?_
   refine SR.m 4 G G G G ?_
   refine SR.y 5 G G (fun _ => ev_fa G fo90_0 G (r := 0) G) ?_
   refine SR.y 6 G G (fun hb => ev_ld1 G ty3 (lkg G hb) (At.d (At.lent hR_45 3 G G))) ?_
   refine SR.y 7 G G (fun _ => ev_fa G fo72_1 G (r := 1) G) ?_
   refine SR.y 8 G G (fun hb => ev_ld1 G ty3 (lkg G hb) (At.d (At.lent hR_45 0 G G))) ?_
   refine SR.y 9 G G (fun hb => have hp := bF bD hb; ev_add G (lkg G hb) (lkg G hb) (r := (v36.ld + ((gt ((gt Bk x35).er) k).ew))) G (by have _h := hp; omega) (by have _h := hp; omega)) ?_
   refine SR.y 10 G G (fun _ => ev_mv G G) ?_
   refine SR.y 11 G G (fun hb => ev_nil G (lkg G hb)) ?_
   refine SR.y 12 G G (fun hb => have hp := bF bD hb; ev_ld1 G ty3 (lkg G hb) (At.elem1 (At.d (Fr.el (i := ((fr * n) + ((gt ((gt Bk x35).er) k).et))) (Fr.lent (S := S) hR_45 14 G lO) (by have _h := hp; omega) (by have _h := hp; omega))) 0 G)) ?_
   refine SR.y 13 G G (fun hb => ev_cmp G (lkg G hb) (lkg G hb) G) ?_
   refine SR.z 14 G G (ev_or G G G G) ?_
   refine SR.fin kR hl_45 hx_45 hR_45 .n ?_
   refine SQ.go idQ ?_
   refine .condI G (bO bD bD) (fun h46 => ?_) (fun h46 => ?_)
   ·
    refine .region (.m G G G (.f fo90_0 0 G G G G (.l ty3 3 G G G G G ?_)))
    refine .f fo72_1 1 G G G G (.l ty3 0 G G G G G (.v (ev_add G G G (r := (v36.ld + ((gt ((gt Bk x35).er) k).ew))) G oO oO) G (.v (ev_nil G G) G ?_)))
    refine .cons (st_setel (E := eZ) (i := ((fr * n) + ((gt ((gt Bk x35).er) k).et))) (cs := [.int .i64 (v36.ld + ((gt ((gt Bk x35).er) k).ew))]) (off := 0) (v36.ld + ((gt ((gt Bk x35).er) k).ew)) G G G ty3 G G G G G (.t4 (.t4 (.t4 (.t2 .h)))) lO lO (Nat.le_of_ble_eq_true G) G ?_)
    refine .go idQ (.region (.p ((k + 1)) oO oO G G G G G (.m G G G ?_)))
    exact SP.nil (SQ.roundb (X := Int × (List Int) × Value) (x := (k, Z, (.slice A42 Z.length c43))) ⟨(k + 1), (Z.set (((fr * n) + ((gt ((gt Bk x35).er) k).et))).toNat (v36.ld + ((gt ((gt Bk x35).er) k).ew))), .slice A42 Z.length c43⟩ (by (try dsimp only); exact ⟨oO, oO, (mn_x1y hfu s_0 hbk hl37 ⟨by omega, by omega⟩ oO oO u_2 h46)⟩) dO (Sub.get (.c4 G G G G (.c4 G G G G (.c4 G G G G (.c G (.c G (.c G .n))))))) (kp (.c (.t2 .h) (.c (.t2 .h) (.c (.t2 .h) (.c (.t2 .h) (.c (.t2 .h) (.c (.t2 .h) (.c (.t2 .h) (.c (.t2 .h) (.c (.t2 .h) (.c (.t2 .h) (.c (.t2 .h) (.c (.t2 .h) (.c (.t2 .h) (.c .h (.c (.t .h) (.c (.t .h) .n))))))))))))))))))
   refine .skipgo idQ (.region (.p ((k + 1)) oO oO G G G G G (.m G G G ?_)))
   exact SP.nil (SQ.roundb (X := Int × (List Int) × Value) (x := (k, Z, (.slice A42 Z.length c43))) ⟨(k + 1), Z, .slice A42 Z.length c43⟩ (by (try dsimp only); exact ⟨oO, oO, (mn_x1n hfu s_0 hbk hl37 oO oO u_2 h46)⟩) dO (Sub.get (.c4 G G G G (.c4 G G G G (.c4 G G G G (.c G (.c G (.c G .n))))))) (kp (.c (.t .h) (.c (.t .h) (.c (.t .h) (.c (.t .h) (.c (.t .h) (.c (.t .h) (.c (.t .h) (.c (.t .h) (.c (.t .h) (.c (.t .h) (.c (.t .h) (.c (.t .h) (.c (.t .h) (.c (.t .h) (.c (.t .h) (.c (.t .h) .n))))))))))))))))))
  exact .exitq idQ (SQ.backER x35 oO oO (.d .n) hol <| (SQ.roundb (X := (List (Int × LA)) × (Option (Int × LA)) × (List Int) × Value) (x := (Lg, cu_Lg, Y, u_Y)) ⟨(Lg.filter (fun p => decide (p.1 ≠ x35))), (some (x35, v36)), Z, u_Z⟩ (by (try dsimp only); exact ⟨(lf_next s_0), (mn_x2 hfu s_0 hbk hl37 oO u_2)⟩) (mfilter_lt hl37) (Sub.get (.c4 G G G G (.c4 G G G G (.c G (.c G (.c G .n)))))) (kp (.c (.t2 .h) (.c (.t2 .h) (.c (.t2 .h) (.c (.t2 .h) (.c (.t2 .h) (.c (.t2 .h) (.c (.t2 .h) (.c (.t2 .h) (.c .h (.c (.t .h) (.c (.t .h) (.c (.t .h) (.c (.t .h) (.c (.t .h) .n)))))))))))))))))
 refine .exit idQ ?_
 refine .seq (.region (.d 2 ty29 G G G G (.know (row_len 3 G) (fun hv49 => ?_))))
 obtain ⟨A47, c48, rfl, hv49_1, hv49_2⟩ := hv49
 unfold maxLen at hv49_2
 refine .cons (st_storea (l' := [.int .i64 n, .slice A47 W.length c48]) G G G ty29 G G G (.t4 (.t .h)) G G ?_)
 refine .go idQ (.ret idQ (retv1 results13 (.c 0 G G ty29) (.c (.t4 (.t2 .h)) (.c (.t4 (.t2 .h)) (.c (.t4 (.t2 .h)) (.c (.t4 (.t2 .h)) (.c (.t4 (.t2 .h)) (.c (.t4 (.t2 .h)) (.c (.t4 (.t2 .h)) (.c (.t4 .h) .n)))))))) ⟨.slice A47 W.length c48, W, (mn_mf (by have h_ := r_2; rw [show fr = n from by omega] at h_; exact h_)), G, G⟩))
end Go.Proofs.Ytpjblnmophcdmaa.Sx
set_option maxRecDepth 20000
set_option maxHeartbeats 8000000
set_option maxRecDepth 20000
set_option maxHeartbeats 8000000
namespace Go.Proofs.Ytpjblnmophcdmaa.Sx.FCH
open Go Go.SX Go.Proofs Go.Proofs.Try FA FB FC FD FE FF FG FH FI FJ FK FL FM FN FO FP FQ FR FS FCA FCB FCC FCE FCF
theorem hbd10 : hasBody prog 10 = true := by kernel_rfl
theorem hbd11 : hasBody prog 11 = true := by kernel_rfl
theorem hbd14 : hasBody prog 14 = true := by kernel_rfl
theorem hbd13 : hasBody prog 13 = true := by kernel_rfl
end Go.Proofs.Ytpjblnmophcdmaa.Sx.FCH
namespace Go.Proofs.Ytpjblnmophcdmaa.Sx
open Go Go.SX Go.Proofs Go.Proofs.Try FA FB FC FD FE FF FG FH FI FJ FK FL FM FN FO FP FQ FR FS FCA FCB FCC FCE FCF FCH
theorem awake8_ (S : Nat → Prop) (wf : World) :
  TR0 prog 9 [] [] S wf (fun v_ C_ => v_ = .bool true ∧ C_ = []) := by
 refine TR.mk func9 G ntmps9 G G (fun w_ => ?_)
 refine .seq (.region (.a G G G (.go idQ (.seq (.region (.v (ev_any (v := .agg #[.int .i64 0, .int .i64 1, .int .i64 4, .int .i64 0]) G kR (fun _ => by kernel_rfl)) G ?_))))))
 refine .v (ev_any (v := .agg #[.int .i64 1, .int .i64 2, .int .i64 0, .int .i64 0]) G kR (fun _ => by kernel_rfl)) G (.cons (st_lit eAR (e := 54) (l := [(AR.mk 0 1 4 0), (AR.mk 1 2 0 0)]) G G G G kR G G kW (fun b1 => (.v (ev_any (v := .agg #[.int .i64 3, .slice (some ⟨b1, 0, none⟩) 2 2]) G kR (fun _ => by kernel_rfl)) G (.cons (st_lend0 G G G G hbd10 G .n (.c .h .n) (fun w_ hw => graphF 3 (some ⟨b1, 0, none⟩) 2 [(AR.mk 0 1 4 0), (AR.mk 1 2 0 0)] _ _ (Fr.lend hw 0 G lO) ra8) (fun v_q10 C_q10 q10 => ?_)))))))
 obtain ⟨b2, u3, v4, fi5, ed6, x7, y8, W9, p11, p12, p13, rfl, rfl⟩ := q10
 show SP _ _ _ _ _ _ ⟨_, _ :: _ :: _ :: _ :: _ :: _ :: _, _, _⟩
 have hgl := p11.len
 have hgn := p11.ne
 refine .m G G G (.x G G G G (.x G G G G (.x G G G G ?_)))
 refine .x G G G G (.cons (st_alloc G G G G zf29 (fun b14 => (.cons (st_alloc G G G G zf29 (fun b15 => (.a G G G ?_)))))))
 refine .know (row_len 5 G) (fun hv18 => ?_)
 obtain ⟨A16, c17, rfl, hv18_1, hv18_2⟩ := hv18
 unfold maxLen at hv18_2
 refine .cons (st_storea (l' := [.int .i64 3, .slice A16 ((tabF 3 false [(AR.mk 0 1 4 0), (AR.mk 1 2 0 0)]).length) c17]) G G G ty29 G G G (.t .h) G G ?_)
 refine .know (row_len 6 G) (fun hv21 => ?_)
 obtain ⟨A19, c20, rfl, hv21_1, hv21_2⟩ := hv21
 unfold maxLen at hv21_2
 refine .cons (st_storea (l' := [.int .i64 3, .slice A19 W9.length c20]) G G G ty29 G G G (.t .h) G G ?_)
 refine .a G G G (.go idQ (.seq (.region (.m G G G (.know (row_len 3 G) (fun hv24 => ?_))))))
 obtain ⟨A22, c23, rfl, hv24_1, hv24_2⟩ := hv24
 unfold maxLen at hv24_2
 refine .know (row_len 4 G) (fun hv27 => ?_)
 obtain ⟨A25, c26, rfl, hv27_1, hv27_2⟩ := hv27
 unfold maxLen at hv27_2
 refine .cons (st_lend0 G G G G hbd11 G (.c (.t2 .h) .n) (.c (.t2 .h) (.c (.t2 .h) .n)) (fun w_ hw => build_ 3 (tabF 3 false [(AR.mk 0 1 4 0), (AR.mk 1 2 0 0)]) b2 A22 c23 fi5 A25 c26 ed6 _ _ (Fr.lend hw 0 G lO) (Fr.lend hw 1 G lO) (tab_ok ra8) p11 lO) (fun v_q37 C_q37 q37 => ?_))
 obtain ⟨lb28, v129, v230, v331, v432, R33, K34, U35, D36, p38, rfl, rfl⟩ := q37
 show SP _ _ _ _ _ _ ⟨_, _ :: _ :: _ :: _ :: _ :: _ :: _ :: _ :: _ :: _ :: _, _, _⟩
 have hC := lc (tab_ok ra8) p11 p38
 refine .a G G G (.go idQ (.seq (.know (row_len 2 G) (fun hv41 => ?_))))
 obtain ⟨A39, c40, rfl, hv41_1, hv41_2⟩ := hv41
 unfold maxLen at hv41_2
 refine .know (row_len 3 G) (fun hv44 => ?_)
 obtain ⟨A42, c43, rfl, hv44_1, hv44_2⟩ := hv44
 unfold maxLen at hv44_2
 refine .know (row_len 4 G) (fun hv47 => ?_)
 obtain ⟨A45, c46, rfl, hv47_1, hv47_2⟩ := hv47
 unfold maxLen at hv47_2
 refine .know (row_len 5 G) (fun hv50 => ?_)
 obtain ⟨A48, c49, rfl, hv50_1, hv50_2⟩ := hv50
 unfold maxLen at hv50_2
 refine .region (.m G G G (.cons (st_callk G G G G hbd14 G (.c (.t .h) (.c (.t .h) (.c (.t .h) (.c (.t .h) (.c (.t .h) (.c (.t .h) (.c (.t .h) .n))))))) (dist8_ lb28 A39 c40 R33 A42 c43 K34 A45 c46 U35 A48 c49 D36 3 (tabF 3 false [(AR.mk 0 1 4 0), (AR.mk 1 2 0 0)]) 0 2 _ _ hC) (.e G G G G G ?_))))
 refine .m G G G (.w (fun _ => ev_mv G G) G (.cons (st_gcallk G G G G G G hbd14 (fun hb => (lkA1 (lkg G hb) (lkA1 G (lkA1 G lkA0)))) (.c (.t .h) (.c (.t .h) (.c (.t .h) (.c (.t .h) (.c (.t .h) (.c (.t .h) (.c (.t .h) .n))))))) (fun hb => have hp := bT bE hb; dist8_ lb28 A39 c40 R33 A42 c43 K34 A45 c46 U35 A48 c49 D36 3 (tabF 3 false [(AR.mk 0 1 4 0), (AR.mk 1 2 0 0)]) 2 0 _ _ hC) (.w (fun hb => ev_cmp G (lkg G hb) G G) G ?_))))
 refine .v (ev_and G G G G) G (.m G G G (.w (fun _ => ev_mv G G) G ?_))
 rcases Bool.eq_false_or_eq_true (((dsF 3 (tabF 3 false [(AR.mk 0 1 4 0), (AR.mk 1 2 0 0)]) 0 2) == 4) && ((dsF 3 (tabF 3 false [(AR.mk 0 1 4 0), (AR.mk 1 2 0 0)]) 2 0) == (-1))) with hb51 | hb51
 ·
  refine SP.reslot (t := 26) G hb51 ?_
  have hb51_ := bT (bA bE bE) hb51
  refine .cons (.on G G G (st_call0 G G G G hbd13 (lkA1 (lkg G hb51) lkA0) (.c (.t .h) (.c (.t .h) (.c (.t .h) (.c (.t .h) (.c (.t .h) (.c (.t .h) (.c (.t .h) .n))))))) (table_ lb28 A39 c40 R33 A42 c43 K34 A45 c46 U35 A48 c49 D36 3 (tabF 3 false [(AR.mk 0 1 4 0), (AR.mk 1 2 0 0)]) _ _ hC) (fun v_q54 C_q54 q54 => ?_)))
  obtain ⟨u52, W53, p55, rfl, rfl⟩ := q54
  show SP _ _ _ _ _ _ ⟨_, _ :: _ :: _ :: _ :: _ :: _ :: _ :: _ :: _, _, _⟩
  refine .cons (.on G G G (Ev.step (ev_any (v := .int .i64 3) G kR (fun _ => by kernel_rfl)) G G G ?_))
  refine .cons (.on G G G (Ev.step (ev_cmp (r := true) G G G G) G G G ?_))
  refine .v (ev_pickt G G G G) G (.a G G G (.go idQ (.ret idQ (ret1 results9 G .n ⟨(congrArg Value.bool (by first | rfl | exact absurd (And.intro aw8a aw8b) (by assumption))), G⟩))))
 refine SP.reslot (t := 26) G hb51 ?_
 have hb51_ := bF (bA bE bE) hb51
 refine .cons (.off G G G G G G ?_)
 refine .cons (.off G G G G G G ?_)
 refine .cons (.off G G G G G G ?_)
 refine .v (ev_pickf G G G G) G (.a G G G (.go idQ (.ret idQ (ret1 results9 G .n ⟨(congrArg Value.bool (by first | rfl | exact absurd (And.intro aw8a aw8b) (by assumption))), G⟩))))
end Go.Proofs.Ytpjblnmophcdmaa.Sx
set_option maxRecDepth 20000
set_option maxHeartbeats 8000000
namespace Go.Proofs.Ytpjblnmophcdmaa.Sx
open Go Go.SX Go.Proofs Go.Proofs.Try FA FB FC FD FE FF FG FH FI FJ FK FL FM FN FO FP FQ FR FS FCA FCB FCC FCE FCF FCH
theorem reachnil_ (p : Int) (up : Bool) (S : Nat → Prop) (wf : World) :
  TR0 prog 16 [.pointer none, .int .i64 p, .bool up] [] S wf (fun v_ C_ => v_ = .tuple #[.slice none 0 0, .slice none 0 0] ∧ C_ = []) := by
 refine TR.mk func16 G ntmps16 G G (fun w_ => ?_)
 refine .seq (.region (.a G G G (.a G G G (.go idQ (.seq (.seq (.region ?_)))))))
 refine .m G G G (.m G G G (.cons (st_callk G G G G hbd42 G .n (nilrank_ p _ _) (.v (ev_cmp (r := true) G G G G) G ?_))))
 refine .go idQ (.cond_t G (.seq (.region (.a G G G ?_))))
 refine .a G G G (.go idQ (.ret idQ (ret2 results16 G G .n ⟨G, G⟩)))
theorem distnil_ (i : Int) (j : Int) (S : Nat → Prop) (wf : World) :
  TR0 prog 14 [.pointer none, .int .i64 i, .int .i64 j] [] S wf (fun v_ C_ => v_ = .int .i64 (-1) ∧ C_ = []) := by
 refine TR.mk func14 G ntmps14 G G (fun w_ => ?_)
 refine .seq (.region (.a G G G (.go idQ (.seq (.seq (.region (.m G G G ?_)))))))
 refine .m G G G (.cons (st_callk G G G G hbd42 G .n (nilrank_ i _ _) (.v (ev_cmp (r := true) G G G G) G (.m G G G ?_))))
 refine .cons (.off G G G G G G ?_)
 refine .cons (.off G G G G G G ?_)
 refine .cons (.off G G G G G G ?_)
 refine .cons (.off G G G G G G ?_)
 refine .v (ev_pickt G G G G) G (.go idQ (.cond_t G (.seq (.region ?_))))
 refine .a G G G (.go idQ (.ret idQ (ret1 results14 G .n ⟨G, G⟩)))
theorem waynil_ (i : Int) (j : Int) (S : Nat → Prop) (wf : World) :
  TR0 prog 21 [.pointer none, .int .i64 i, .int .i64 j] [] S wf (fun v_ C_ => v_ = .tuple #[.slice none 0 0, .int .i64 (-1)] ∧ C_ = []) := by
 refine TR.mk func21 G ntmps21 G G (fun w_ => ?_)
 refine .seq (.region (.a G G G (.a G G G (.go idQ (.seq (.seq (.region ?_)))))))
 refine .m G G G (.m G G G (.cons (st_callk G G G G hbd42 G .n (nilrank_ i _ _) (.v (ev_cmp (r := true) G G G G) G ?_))))
 refine .m G G G (.cons (.off G G G G G G (.cons (.off G G G G G G (.cons (.off G G G G G G ?_))))))
 refine .cons (.off G G G G G G ?_)
 refine .v (ev_pickt G G G G) G (.go idQ (.cond_t G (.seq (.region ?_))))
 refine .a G G G (.a G G G (.go idQ (.ret idQ (ret2 results21 G G .n ⟨G, G⟩))))
theorem tablenil_ (S : Nat → Prop) (wf : World) :
  TR0 prog 13 [.pointer none] [] S wf (fun v_ C_ => ∃ (u : Value), v_ = .agg #[.int .i64 0, u] ∧ C_ = [rw_ eZ 3 (u) ([] : List Int)]) := by
 refine TR.mk func13 G ntmps13 G G (fun w_ => ?_)
 refine .seq (.region (.cons (st_alloc G G G G zf29 (fun b1 => (.go idQ (.seq (.region (.m G G G ?_))))))))
 refine .cons (st_callk G G G G hbd37 G .n (nilplaces_ _ _) ?_)
 refine .a G G G (.go idQ (.seq (.region (.m G G G (.cons (st_lit eZ (e := 3) (l := [(-1)]) G G G G kR G G kW (fun b2 => ?_)))))))
 refine .m G G G (.m G G G (.v (ev_mul G G G (r := 0) G oO oO) G (.cons (st_lend0 G G G G hbd38 G .n (.c .h .n) (fun w_ hw => repeat0_ (some ⟨b2, 0, none⟩) 1 _ _ (Fr.lend hw 0 G lO)) (fun v_q4 C_q4 q4 => ?_)))))
 obtain ⟨u3, rfl, rfl⟩ := q4
 show SP _ _ _ _ _ _ ⟨_, _ :: _ :: _, _, _⟩
 refine .know (row_len 0 G) (fun hv7 => ?_)
 obtain ⟨A5, c6, rfl, hv7_1, hv7_2⟩ := hv7
 unfold maxLen at hv7_2
 refine .v (ev_any (v := .agg #[.int .i64 0, .slice A5 (([] : List Int).length) c6]) G kR (fun _ => by kernel_rfl)) G (.cons (st_alloc G G G G zf29 (fun b8 => (.cons (st_storea (l' := [.int .i64 0, .slice A5 (([] : List Int).length) c6]) G G G ty29 G G G .h G G (.go idQ (.seq (.region ?_))))))))
 refine .m G G G (.cons (st_mkslicesE (n := 0) G G G G underlying83 ai69 G G G oO G (fun b9 => (.a G G G (.go idQ (.seq (.seq (.region ?_))))))))
 refine .m G G G (.m G G G (.go idQ (.block (.loop (X := Int) (fun q27 => q27 = 0) (fun q27 => [(0, .pointer none), (2, .pointer (some ⟨b1, 0, none⟩)), (3, .int .i64 0), (4, .pointer (some ⟨b8, 0, none⟩)), (5, .slice (some ⟨b9, 0, none⟩) 0 0), (26, .int .i64 0), (27, .int .i64 q27)]) (fun q27 => [rw_ eER 69 (.slice (some ⟨b9, 0, none⟩) 0 0) (List.replicate 0 dER), cel b8 [.int .i64 0, .slice A5 (([] : List Int).length) c6] 29, rw_ eZ 3 (.slice A5 (([] : List Int).length) c6) ([] : List Int), rw_ eZ 3 (.slice (some ⟨b2, 0, none⟩) 1 1) [(-1)], cel b1 [.int .i64 0, .slice none 0 0] 29]) (fun _ => S) (fun _ => wf) (fun q27 => 0) (fun a_ w_ hs_ hw_ => ⟨0, G, hs_.mono (Sub.get (.c4 G G G G (.c G (.c G (.c G .n))))), hw_.keep (.d (.d (.c .h .n)))⟩) (fun q27 hq27 => ?_)))))
 try dsimp only
 refine .seq (.region (.e G G G G G (.go idQ (.seq (.condI G bD (fun h10 => ?_) (fun h10 => ?_))))))
 ·
  exfalso; omega
 refine .exit idQ ?_
 refine .seq (.seq (.region (.m G G G (.m G G G (.go idQ (.block ?_))))))
 refine .loop (X := Int) (fun q56 => q56 = 0) (fun q56 => [(0, .pointer none), (2, .pointer (some ⟨b1, 0, none⟩)), (3, .int .i64 0), (4, .pointer (some ⟨b8, 0, none⟩)), (5, .slice (some ⟨b9, 0, none⟩) 0 0), (26, .int .i64 0), (27, .int .i64 q27), (55, .int .i64 0), (56, .int .i64 q56)]) (fun q56 => [rw_ eER 69 (.slice (some ⟨b9, 0, none⟩) 0 0) (List.replicate 0 dER), cel b8 [.int .i64 0, .slice A5 (([] : List Int).length) c6] 29, rw_ eZ 3 (.slice A5 (([] : List Int).length) c6) ([] : List Int), rw_ eZ 3 (.slice (some ⟨b2, 0, none⟩) 1 1) [(-1)], cel b1 [.int .i64 0, .slice none 0 0] 29]) (fun _ => S) (fun _ => wf) (fun q56 => 0) (fun a_ w_ hs_ hw_ => ⟨0, G, hs_.mono (Sub.get (.c4 G G G G (.c4 G G G G (.c G .n)))), hw_.keep (.d (.d (.c .h .n)))⟩) (fun q56 hq56 => ?_)
 try dsimp only
 refine .seq (.region (.e G G G G G (.go idQ (.seq (.condI G bD (fun h11 => ?_) (fun h11 => ?_))))))
 ·
  exfalso; omega
 refine .exit idQ ?_
 refine .seq (.region (.d 1 ty29 G G G G (.cons (st_storea (l' := [.int .i64 0, .slice A5 (([] : List Int).length) c6]) G G G ty29 G G G (.t4 .h) G G (.go idQ ?_)))))
 exact .ret idQ (retv1 results13 (.c 0 G G ty29) (.c (.t2 (.t .h)) .n) ⟨.slice A5 (([] : List Int).length) c6, G, G⟩)
end Go.Proofs.Ytpjblnmophcdmaa.Sx
set_option maxRecDepth 20000
set_option maxHeartbeats 8000000
set_option maxRecDepth 20000
set_option maxHeartbeats 8000000
namespace Go.Proofs.Ytpjblnmophcdmaa.Sx.FLB
open Go Go.SX Go.Proofs Go.Proofs.Try FA FB FC FD FE FF FG FH FI FJ FK FL FM FN FO FP FQ FR FS FCA FCB FCC FCE FCF FCH
theorem hbd9 : hasBody prog 9 = true := by kernel_rfl
theorem hbd16 : hasBody prog 16 = true := by kernel_rfl
theorem hbd21 : hasBody prog 21 = true := by kernel_rfl
end Go.Proofs.Ytpjblnmophcdmaa.Sx.FLB
namespace Go.Proofs.Ytpjblnmophcdmaa.Sx
open Go Go.SX Go.Proofs Go.Proofs.Try FA FB FC FD FE FF FG FH FI FJ FK FL FM FN FO FP FQ FR FS FCA FCB FCC FCE FCF FCH FLB
theorem climbNil_ (p : Int) (q : Int) (S : Nat → Prop) (wf : World) :
  TR0 prog 8 [.int .i64 p, .int .i64 q] [] S wf (fun v_ C_ => v_ = .bool true ∧ C_ = []) := by
 refine TR.mk func8 G ntmps8 G G (fun w_ => ?_)
 refine .seq (.region (.a G G G (.go idQ (.seq (.seq (.region (.cons (st_callk G G G G hbd9 G .n (awake8_ _ _) ?_))))))))
 refine .v (ev_not G G) G (.go idQ (.cond_f G (.skipgo idQ (.seq (.region ?_)))))
 refine .m G G G (.cons (st_callk G G G G hbd16 G .n (reachnil_ p true _ _) (.m G G G (.x G G G G ?_))))
 refine .x G G G G (.a G G G (.a G G G (.go idQ (.seq (.region ?_)))))
 refine .m G G G (.m G G G (.cons (st_callk G G G G hbd21 G .n (waynil_ p q _ _) (.m G G G ?_))))
 refine .x G G G G (.x G G G G (.a G G G (.a G G G ?_)))
 refine .go idQ (.seq (.region (.cons (st_call0 G G G G hbd13 G .n (tablenil_ _ _) (fun v_q2 C_q2 q2 => ?_)))))
 obtain ⟨u1, rfl, rfl⟩ := q2
 show SP _ _ _ _ _ _ ⟨_, _ :: _, _, _⟩
 refine .cons (st_alloc G G G G zf29 (fun b3 => ?_))
 refine .know (row_len 1 G) (fun hv6 => ?_)
 obtain ⟨A4, c5, rfl, hv6_1, hv6_2⟩ := hv6
 unfold maxLen at hv6_2
 refine .cons (st_storea (l' := [.int .i64 0, .slice A4 (([] : List Int).length) c5]) G G G ty29 G G G .h G G ?_)
 refine .go idQ (.seq (.region (.m G G G (.g underlying27 G G G (.v (ev_cmp (r := true) G G G G) G ?_)))))
 refine .m G G G (.cons (.on G G G (Ev.step (ev_mv G G) G G G (.cons (.on G G G (Ev.step (ev_len G underlying27 G) G G G (.cons (.on G G G (Ev.step (ev_cmp (r := true) G G G G) G G G ?_)))))))))
 refine .v (ev_pickt G G G G) G (.m G G G (.cons (.on G G G (Ev.step (ev_mv G G) G G G (.cons (.on G G G (Ev.step (ev_len G underlying27 G) G G G ?_)))))))
 refine .cons (.on G G G (Ev.step (ev_cmp (r := true) G G G G) G G G ?_))
 refine .v (ev_pickt G G G G) G (.m G G G (.cons (.on G G G (Ev.step (ev_mv G G) G G G (.cons (.on G G G (Ev.step (ev_cmp (r := true) G G G G) G G G ?_)))))))
 refine .v (ev_pickt G G G G) G (.m G G G (.cons (.on G G G (Ev.step (ev_mv G G) G G G (.cons (.on G G G (Ev.step (ev_mv G G) G G G ?_)))))))
 refine .cons (.on G G G (st_callk G G G G hbd14 G .n (distnil_ p q _ _) ?_))
 refine .cons (.on G G G (Ev.step (ev_cmp (r := true) G G G G) G G G ?_))
 refine .v (ev_pickt G G G G) G (.m G G G (.cons (.on G G G (Ev.step (ev_fa G fo29_0 G (r := 0) G) G G G (.cons (.on G G G (Ev.step (ev_ld1 G ty3 G (At.own1 0 G G)) G G G ?_)))))))
 refine .cons (.on G G G (Ev.step (ev_cmp (r := true) G G G G) G G G ?_))
 refine .v (ev_pickt G G G G) G (.m G G G (.cons (.on G G G (Ev.step (ev_fa G fo29_1 G (r := 1) G) G G G (.cons (.on G G G (Ev.step (ev_ld1 G ty27 G (At.own1 0 G G)) G G G ?_)))))))
 refine .cons (.on G G G (Ev.step (ev_len G underlying27 G) G G G ?_))
 refine .cons (.on G G G (Ev.step (ev_cmp G G G G) G G G ?_))
 refine .v (ev_pickt G G G G) G (.a G G G (.go idQ (.ret idQ (ret1 results8 G .n ⟨(congrArg Value.bool (by first | rfl | simp)), G⟩))))
end Go.Proofs.Ytpjblnmophcdmaa.Sx
