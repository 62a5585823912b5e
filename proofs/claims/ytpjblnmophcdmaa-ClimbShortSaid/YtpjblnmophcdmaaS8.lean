import Derived.Test.YtpjblnmophcdmaaProg
import Derived.Test.YtpjblnmophcdmaaS7
set_option linter.unusedVariables false
set_option linter.unusedSimpArgs false
set_option linter.unusedSectionVars false
set_option maxRecDepth 20000
set_option maxHeartbeats 8000000
namespace Go.Proofs.Ytpjblnmophcdmaa.Sx.FCF
open Go Go.SX Go.Proofs Go.Proofs.Try FA FB FC FD FE FF FG FH FI FJ FK FL FM FN FO FP FQ FR FS FCA FCB FCC FCE
theorem hbd38 : hasBody prog 38 = true := by kernel_rfl
theorem ai69 : (prog.info? 69).map (fun i => (i.zero, i.size, i.bytes)) = some (some (.slice none 0 0), 1, 24) := by kernel_rfl
end Go.Proofs.Ytpjblnmophcdmaa.Sx.FCF
namespace Go.Proofs.Ytpjblnmophcdmaa.Sx
open Go Go.SX Go.Proofs Go.Proofs.Try FA FB FC FD FE FF FG FH FI FJ FK FL FM FN FO FP FQ FR FS FCA FCB FCC FCE FCF
theorem table_ (lb : Nat) (rA : Option Addr) (rc : Nat) (R : List Int) (kA : Option Addr) (kc : Nat) (K : List LK) (uA : Option Addr) (uc : Nat) (U : List IL) (dA : Option Addr) (dc : Nat) (D : List IL) (n : Int) (t : List Int) (S : Nat → Prop) (wf : World) (hC : LC n t R K U D) :
  TR0 prog 13 [.pointer (some ⟨lb, 0, none⟩)] [cel lb [.slice rA R.length rc, .slice kA K.length kc, .slice uA U.length uc, .slice dA D.length dc] 76, rw_ eZ 3 (.slice rA R.length rc) R, rw_ eLK 44 (.slice kA K.length kc) K, rw_ eIL 27 (.slice uA U.length uc) U, rw_ eIL 27 (.slice dA D.length dc) D, nestIL 3 U, nestIL 3 D] S wf (fun v_ C_ => ∃ (u : Value) (W : List Int), (MF n W (dsF n t)) ∧ v_ = .agg #[.int .i64 n, u] ∧ C_ = [cel lb [.slice rA R.length rc, .slice kA K.length kc, .slice uA U.length uc, .slice dA D.length dc] 76, rw_ eZ 3 (.slice rA R.length rc) R, rw_ eLK 44 (.slice kA K.length kc) K, rw_ eIL 27 (.slice uA U.length uc) U, rw_ eIL 27 (.slice dA D.length dc) D, nestIL 3 U, nestIL 3 D, rw_ eZ 3 (u) W]) := by
 have hn1 := hC.wy.hn
 have hsq := sq_le hn1
 refine TR.mk func13 G ntmps13 G G (fun w_ => ?_)
 refine .seq (.region (.cons (st_alloc G G G G zf29 (fun b1 => (.go idQ (.seq (.region (.m G G G ?_))))))))
 refine .cons (st_callk G G G G hbd37 G (.c (.t .h) (.c (.t .h) (.c (.t .h) (.c (.t .h) (.c (.t .h) (.c (.t .h) (.c (.t .h) .n))))))) (lpl_ lb rA rc R kA kc K uA uc U dA dc D _ _) ?_)
 refine .a G G G (.go idQ (.seq ?_))
 rw [show (R.length : Int) = n from hC.hR]
 refine .region (.m G G G (.cons (st_lit eZ (e := 3) (l := [(-1)]) G G G G kR G G kW (fun b2 => (.m G G G ?_)))))
 refine .m G G G (.v (ev_mul G G G (r := (n * n)) G oO oO) G (.cons (st_lend0 G G G G hbd38 G .n (.c .h .n) (fun w_ hw => repeat_ (some ⟨b2, 0, none⟩) 1 (n * n) _ _ (Fr.lend hw 0 G lO) oO) (fun v_q4 C_q4 q4 => ?_))))
 obtain ⟨u3, rfl, rfl⟩ := q4
 show SP _ _ _ _ _ _ ⟨_, _ :: _ :: _, _, _⟩
 refine .know (row_len 0 G) (fun hv7 => ?_)
 obtain ⟨A5, c6, rfl, hv7_1, hv7_2⟩ := hv7
 unfold maxLen at hv7_2
 refine .v (ev_any (v := .agg #[.int .i64 n, .slice A5 ((List.replicate ((n * n)).toNat (-1)).length) c6]) G kR (fun _ => by kernel_rfl)) G (.cons (st_alloc G G G G zf29 (fun b8 => (.cons (st_storea (l' := [.int .i64 n, .slice A5 ((List.replicate ((n * n)).toNat (-1)).length) c6]) G G G ty29 G G G .h G G (.go idQ (.seq (.region ?_))))))))
 refine .m G G G (.cons (st_mkslicesE (n := (n).toNat) G G G G underlying83 ai69 G G oO oO G (fun b9 => (.a G G G (.go idQ (.seq (.seq ?_)))))))
 refine SC.ERs 72 n.toNat ?_
 refine .region (.m G G G (.m G G G (.go idQ (.block ?_))))
 refine .loop (X := Int × (List ER)) (fun ⟨to, Bk⟩ => 0 ≤ to ∧ to ≤ n ∧ BkG n (fU n R K D) (fun _ j => j < to) Bk) (fun ⟨to, Bk⟩ => [(0, .pointer (some ⟨lb, 0, none⟩)), (2, .pointer (some ⟨b1, 0, none⟩)), (3, .int .i64 n), (4, .pointer (some ⟨b8, 0, none⟩)), (5, .slice (some ⟨b9, 0, none⟩) ((n).toNat) ((n).toNat)), (26, .int .i64 n), (27, .int .i64 to)]) (fun ⟨to, Bk⟩ => [nestER 72 Bk, rw_ eER 69 (.slice (some ⟨b9, 0, none⟩) ((n).toNat) ((n).toNat)) Bk, cel b8 [.int .i64 n, .slice A5 ((List.replicate ((n * n)).toNat (-1)).length) c6] 29, rw_ eZ 3 (.slice A5 ((List.replicate ((n * n)).toNat (-1)).length) c6) (List.replicate ((n * n)).toNat (-1)), rw_ eZ 3 (.slice (some ⟨b2, 0, none⟩) 1 1) [(-1)], cel b1 [.int .i64 0, .slice none 0 0] 29, cel lb [.slice rA R.length rc, .slice kA K.length kc, .slice uA U.length uc, .slice dA D.length dc] 76, rw_ eZ 3 (.slice rA R.length rc) R, rw_ eLK 44 (.slice kA K.length kc) K, rw_ eIL 27 (.slice uA U.length uc) U, rw_ eIL 27 (.slice dA D.length dc) D, nestIL 3 U, nestIL 3 D]) (fun _ => S) (fun _ => wf) (fun ⟨to, Bk⟩ => (n - to).toNat) (fun a_ w_ hs_ hw_ => ⟨⟨0, (List.replicate ((n).toNat) dER)⟩, (by (try dsimp only); exact ⟨oO, oO, (bk_0 oO)⟩), hs_.mono (Sub.get (.c4 G G G G (.c G (.c G (.c G .n))))), hw_.keep (.d (.d (.d (.d (.d (.d (.c .h .n)))))))⟩) (fun ⟨to, Bk⟩ ⟨q_0, q_1, q_2⟩ => ?_)
 try dsimp only
 refine .seq (.region (.e G G G G G (.go idQ (.seq (.condI G bD (fun h10 => ?_) (fun h10 => ?_))))))
 ·
  refine .skipgo idQ (.seq (.block (.seq (.region (.m G G G (.a G G G (.go idQ (.seq (.region ?_)))))))))
  refine .m G G G (.v (ev_any (v := .func (.func 18) #[.pointer (some ⟨lb, 0, none⟩)] #[]) G kR (fun _ => by kernel_rfl)) G (.v (ev_any (v := .agg #[.func (.func 18) #[.pointer (some ⟨lb, 0, none⟩)] #[], .func (.func 39) #[] #[]]) G kR (fun _ => by kernel_rfl)) G (.m G G G ?_)))
  refine .cons (st_call0 G G G G hbd40 G (.c (.t4 (.t2 .h)) (.c (.t4 (.t2 .h)) (.c (.t4 (.t2 .h)) (.c (.t4 (.t2 .h)) (.c (.t4 (.t2 .h)) (.c (.t4 (.t2 .h)) (.c (.t4 (.t2 .h)) .n))))))) (findD lb rA rc R kA kc K uA uc U dA dc D n to _ _ hC.hL hC.sd ⟨by omega, by omega⟩) (fun v_q13 C_q13 q13 => ?_))
  obtain ⟨b11, M12, p14, rfl, rfl⟩ := q13
  show SP _ _ _ _ _ _ ⟨_, _ :: _ :: _ :: _ :: _ :: _ :: _ :: _ :: _, _, _⟩
  have hfd := hC.fd ⟨by omega, by omega⟩ p14
  refine .cons (st_range keZ G G G G underlying84 G (.t4 (.t2 (.t .h))) (fun r15 => ?_))
  refine .go idQ (.block (.loop (X := (List (Int × LA)) × (Option (Int × LA)) × (List ER)) (fun ⟨Lf, cu_Lf, Bk2⟩ => LfI M12 Lf ∧ BkG n (fU n R K D) (dnB to Lf) Bk2) (fun ⟨Lf, cu_Lf, Bk2⟩ => [(0, .pointer (some ⟨lb, 0, none⟩)), (2, .pointer (some ⟨b1, 0, none⟩)), (3, .int .i64 n), (4, .pointer (some ⟨b8, 0, none⟩)), (5, .slice (some ⟨b9, 0, none⟩) ((n).toNat) ((n).toNat)), (26, .int .i64 n), (27, .int .i64 to), (6, .int .i64 to), (35, .pointer (some ⟨r15, 0, none⟩))]) (fun ⟨Lf, cu_Lf, Bk2⟩ => [mpr keZ.f laV b11 r15 M12 Lf cu_Lf, cel lb [.slice rA R.length rc, .slice kA K.length kc, .slice uA U.length uc, .slice dA D.length dc] 76, rw_ eZ 3 (.slice rA R.length rc) R, rw_ eLK 44 (.slice kA K.length kc) K, rw_ eIL 27 (.slice uA U.length uc) U, rw_ eIL 27 (.slice dA D.length dc) D, nestIL 3 U, nestIL 3 D, nestER 72 Bk2, rw_ eER 69 (.slice (some ⟨b9, 0, none⟩) ((n).toNat) ((n).toNat)) Bk2, cel b8 [.int .i64 n, .slice A5 ((List.replicate ((n * n)).toNat (-1)).length) c6] 29, rw_ eZ 3 (.slice A5 ((List.replicate ((n * n)).toNat (-1)).length) c6) (List.replicate ((n * n)).toNat (-1)), rw_ eZ 3 (.slice (some ⟨b2, 0, none⟩) 1 1) [(-1)], cel b1 [.int .i64 0, .slice none 0 0] 29]) (fun _ => S) (fun _ => wf) (fun ⟨Lf, cu_Lf, Bk2⟩ => Lf.length) (fun a_ w_ hs_ hw_ => ⟨⟨M12, none, Bk⟩, (by (try dsimp only); exact ⟨(lf_0 hfd.nd), (bk_in q_2 hfd)⟩), hs_.mono (Sub.get (.c4 G G G G (.c4 G G G G (.c G .n)))), hw_.keep (.d (.d (.d (.d (.d (.d (.d .n)))))))⟩) (fun ⟨Lf, cu_Lf, Bk2⟩ ⟨r_0, r_1⟩ => ?_)))
  try dsimp only
  refine .seq (.region (.cons (st_next keZ G G G G G .h (fun hz16 => ?_) (fun x17 v18 hl19 hm20 => ?_))))
  ·
   refine .x G G G G (.go idQ (.seq (.cond_f G (.exit idQ ?_))))
   refine .region (.p ((to + 1)) oO oO G G G G G (.m G G G ?_))
   exact SP.nil (SQ.roundb (X := Int × (List ER)) (x := (to, Bk)) ⟨(to + 1), Bk2⟩ (by (try dsimp only); exact ⟨oO, oO, (bk_out (by rw [← hz16]; exact r_1))⟩) dO (Sub.get (.c4 G G G G (.c G (.c G (.c G .n))))) (kp (.c (.t4 (.t4 .h)) (.c (.t4 (.t4 .h)) (.c (.t4 (.t4 .h)) (.c (.t4 (.t4 .h)) (.c (.t4 (.t4 .h)) (.c (.t4 (.t4 .h)) (.c (.t .h) (.c (.t .h) (.c (.t .h) (.c (.t .h) (.c (.t .h) (.c (.t .h) (.c (.t .h) .n)))))))))))))))
  refine .x G G G G (.go idQ (.seq (.cond_t G (.skipgo idQ (.block (.seq (.region ?_)))))))
  refine .v (ev_entry keZ (x := x17) (v := v18) G G 0 G) G (.x G G G G (.x G G G G (.cons (st_alloc G G G G zf90 (fun b21 => ?_)))))
  refine .a G G G (.cons (st_storea (l' := [.int .i64 v18.ld, .int .i64 v18.af, .int .i64 v18.ax, .int .i64 v18.aw, .int .i64 v18.am]) G G G ty90 G G G .h G G (.go idQ ?_)))
  have hva := lf_at hfd r_0 hl19
  have hel := r_1.el (p := x17) oO oO
  have hbl := r_1.len
  refine SC.outER x17 oO oO (.t4 (.t4 (.t .h))) (fun hol => ?_)
  refine SC.draw mo [rw_ eEG 72 (.slice ((gt Bk2 x17).erA) ((gt Bk2 x17).er.length) ((gt Bk2 x17).erc)) ((gt Bk2 x17).er), rw_ eER 69 (.slice (some ⟨b9, 0, none⟩) ((n).toNat) ((n).toNat)) Bk2] [(13, fun w => At w (ab (some ⟨b9, 0, none⟩)) (ao (some ⟨b9, 0, none⟩) + (x17).toNat * eER.sz) (eER.enc (gt Bk2 x17)))] (.c .h (.c (.t4 (.t4 (.t2 .h))) .n)) (fun w_ _ hw_ => (sc1 (row_el (E := eER) (l := Bk2) (i := x17) 1 G oO lO w_ hw_) sc0)) (fun wf_22 hl_22 hx_22 hR_22 => ?_)
  refine SR.m 0 G G G G ?_
  refine SR.m 1 G G G G ?_
  refine SR.m 2 G G G G ?_
  refine SR.m 3 G G G G ?_
  refine SR.z 4 G G (ev_ix G underlying83 ty69 G G oO oO (fun _ _ => G)) ?_
  refine SR.z 5 G G (ev_ld1 G ty69 G (At.elem1 (At.ofcs 0 G kR) 0 G)) ?_
  refine SR.m 6 G G G G ?_
  refine SR.z 7 G G (ev_fa G fo90_0 G (r := 0) G) ?_
  refine SR.z 8 G G (ev_ld1 G ty3 G (At.d (At.lent hR_22 1 G G))) ?_
  refine SR.z 9 G G (ev_any (v := .agg #[.int .i64 to, .int .i64 v18.ld]) G kR (fun _ => by kernel_rfl)) ?_
  refine SR.o 10 G (st_lit eEG (e := 72) (l := [(EG.mk to v18.ld)]) G G G G kR G G kW (fun b23 => ⟨ttr (i := x17) 2 G oO oO, ?_⟩))
  refine SR.o 11 G (st_app (E := eEG) (m := [(EG.mk to v18.ld)]) G G G G underlying69 ai72 G G G (.t .h) rO (row_src 0 G) lO G (fun v24 => ⟨ttr (i := x17) 2 G oO oO, ?_⟩))
  refine SR.z 12 G G (ev_ix G underlying83 ty69 G G oO oO (fun _ _ => G)) ?_
  refine .know (row_len 0 G) (fun hv27 => ?_)
  obtain ⟨A25, c26, rfl, hv27_1, hv27_2⟩ := hv27
  unfold maxLen at hv27_2
  refine SR.o 13 G (st_setel (E := eER) (i := x17) (cs := [.slice A25 ((((gt Bk2 x17).er) ++ [(EG.mk to v18.ld)]).length) c26]) (off := 0) (ER.mk (((gt Bk2 x17).er) ++ [(EG.mk to v18.ld)]) A25 c26) G G G ty69 G G G G G (.t2 .h) lO lO (Nat.le_of_ble_eq_true G) G ⟨ttc (fun w_ hw_ => (tc2 kR tc0)), ?_⟩)
  refine SR.fin kR hl_22 hx_22 hR_22 (.c (.c (.c .n))) ?_
  exact SQ.inER x17 (ER.mk (((gt Bk2 x17).er) ++ [(EG.mk to v18.ld)]) A25 c26) oO oO (.c (.t .h) (.c (.t2 .h) .n)) (by rfl) (by rw [List.length_append, List.length_singleton]; omega) <| (SQ.roundb (X := (List (Int × LA)) × (Option (Int × LA)) × (List ER)) (x := (Lf, cu_Lf, Bk2)) ⟨(Lf.filter (fun p => decide (p.1 ≠ x17))), (some (x17, v18)), (Bk2.set (x17).toNat (ER.mk (((gt Bk2 x17).er) ++ [(EG.mk to v18.ld)]) A25 c26))⟩ (by (try dsimp only); exact ⟨(lf_next r_0), (bk_step ⟨by omega, by omega⟩ hfd r_0 r_1 hl19)⟩) (mfilter_lt hl19) (Sub.get (.c4 G G G G (.c4 G G G G (.c G .n)))) (kp (.c (.t4 .h) (.c (.t4 .h) (.c (.t4 .h) (.c (.t4 .h) (.c (.t4 .h) (.c (.t4 .h) (.c (.t4 .h) (.c (.t4 .h) (.d (.c (.t2 .h) (.c (.t2 .h) (.c (.t2 .h) (.c (.t2 .h) .n)))))))))))))))
 refine .exit idQ ?_
 refine .seq (.seq ?_)
 have hbk : BkG n (fU n R K D) (fun _ j => j < n) Bk := by have h_ := q_2; rw [show to = n from by omega] at h_; exact h_
 refine .region (.m G G G (.m G G G (.go idQ (.block ?_))))
 refine .loop (X := Int × (List Int) × Value) (fun ⟨fr, W, u_W⟩ => 0 ≤ fr ∧ fr ≤ n ∧ MnI n (dsF n t) (fU n R K U fr) (fU n R K D) fr (fun _ _ => False) W) (fun ⟨fr, W, u_W⟩ => [(0, .pointer (some ⟨lb, 0, none⟩)), (2, .pointer (some ⟨b1, 0, none⟩)), (3, .int .i64 n), (4, .pointer (some ⟨b8, 0, none⟩)), (5, .slice (some ⟨b9, 0, none⟩) ((n).toNat) ((n).toNat)), (26, .int .i64 n), (27, .int .i64 to), (55, .int .i64 n), (56, .int .i64 fr)]) (fun ⟨fr, W, u_W⟩ => [nestER 72 Bk, rw_ eER 69 (.slice (some ⟨b9, 0, none⟩) ((n).toNat) ((n).toNat)) Bk, cel b8 [.int .i64 n, u_W] 29, rw_ eZ 3 (u_W) W, rw_ eZ 3 (.slice (some ⟨b2, 0, none⟩) 1 1) [(-1)], cel b1 [.int .i64 0, .slice none 0 0] 29, cel lb [.slice rA R.length rc, .slice kA K.length kc, .slice uA U.length uc, .slice dA D.length dc] 76, rw_ eZ 3 (.slice rA R.length rc) R, rw_ eLK 44 (.slice kA K.length kc) K, rw_ eIL 27 (.slice uA U.length uc) U, rw_ eIL 27 (.slice dA D.length dc) D, nestIL 3 U, nestIL 3 D]) (fun _ => S) (fun _ => wf) (fun ⟨fr, W, u_W⟩ => (n - fr).toNat) (fun a_ w_ hs_ hw_ => ⟨⟨0, (List.replicate ((n * n)).toNat (-1)), .slice A5 ((List.replicate ((n * n)).toNat (-1)).length) c6⟩, (by (try dsimp only); exact ⟨oO, oO, (mn_0 hn1)⟩), hs_.mono (Sub.get (.c4 G G G G (.c4 G G G G (.c G .n)))), hw_.keep (.d (.d (.d (.d (.d (.d (.c .h .n)))))))⟩) (fun ⟨fr, W, u_W⟩ ⟨r_0, r_1, r_2⟩ => ?_)
 try dsimp only
 refine .seq (.region (.e G G G G G (.go idQ (.seq (.condI G bD (fun h28 => ?_) (fun h28 => ?_))))))
 ·
  refine .skipgo idQ (.seq (.block (.seq (.region (.m G G G (.a G G G (.go idQ (.seq (.region ?_)))))))))
  refine .m G G G (.v (ev_any (v := .func (.func 17) #[.pointer (some ⟨lb, 0, none⟩)] #[]) G kR (fun _ => by kernel_rfl)) G (.v (ev_any (v := .agg #[.func (.func 17) #[.pointer (some ⟨lb, 0, none⟩)] #[], .func (.func 41) #[] #[]]) G kR (fun _ => by kernel_rfl)) G (.m G G G ?_)))
  refine .cons (st_call0 G G G G hbd40 G (.c (.t4 (.t2 .h)) (.c (.t4 (.t2 .h)) (.c (.t4 (.t2 .h)) (.c (.t4 (.t2 .h)) (.c (.t4 (.t2 .h)) (.c (.t4 (.t2 .h)) (.c (.t4 (.t2 .h)) .n))))))) (findU lb rA rc R kA kc K uA uc U dA dc D n fr _ _ hC.hL hC.su ⟨by omega, by omega⟩) (fun v_q31 C_q31 q31 => ?_))
  obtain ⟨b29, M30, p32, rfl, rfl⟩ := q31
  show SP _ _ _ _ _ _ ⟨_, _ :: _ :: _ :: _ :: _ :: _ :: _ :: _ :: _, _, _⟩
  have hfu := hC.fu ⟨by omega, by omega⟩ p32
  refine .cons (st_range keZ G G G G underlying84 G (.t4 (.t2 (.t .h))) (fun r33 => ?_))
  refine .go idQ (.block (.loop (X := (List (Int × LA)) × (Option (Int × LA)) × (List Int) × Value) (fun ⟨Lg, cu_Lg, Y, u_Y⟩ => LfI M30 Lg ∧ MnI n (dsF n t) (fU n R K U fr) (fU n R K D) fr (prA M30 Lg (fU n R K D)) Y) (fun ⟨Lg, cu_Lg, Y, u_Y⟩ => [(0, .pointer (some ⟨lb, 0, none⟩)), (2, .pointer (some ⟨b1, 0, none⟩)), (3, .int .i64 n), (4, .pointer (some ⟨b8, 0, none⟩)), (5, .slice (some ⟨b9, 0, none⟩) ((n).toNat) ((n).toNat)), (26, .int .i64 n), (27, .int .i64 to), (55, .int .i64 n), (56, .int .i64 fr), (9, .int .i64 fr), (64, .pointer (some ⟨r33, 0, none⟩))]) (fun ⟨Lg, cu_Lg, Y, u_Y⟩ => [mpr keZ.f laV b29 r33 M30 Lg cu_Lg, cel lb [.slice rA R.length rc, .slice kA K.length kc, .slice uA U.length uc, .slice dA D.length dc] 76, rw_ eZ 3 (.slice rA R.length rc) R, rw_ eLK 44 (.slice kA K.length kc) K, rw_ eIL 27 (.slice uA U.length uc) U, rw_ eIL 27 (.slice dA D.length dc) D, nestIL 3 U, nestIL 3 D, nestER 72 Bk, rw_ eER 69 (.slice (some ⟨b9, 0, none⟩) ((n).toNat) ((n).toNat)) Bk, cel b8 [.int .i64 n, u_Y] 29, rw_ eZ 3 (u_Y) Y, rw_ eZ 3 (.slice (some ⟨b2, 0, none⟩) 1 1) [(-1)], cel b1 [.int .i64 0, .slice none 0 0] 29]) (fun _ => S) (fun _ => wf) (fun ⟨Lg, cu_Lg, Y, u_Y⟩ => Lg.length) (fun a_ w_ hs_ hw_ => ⟨⟨M30, none, W, u_W⟩, (by (try dsimp only); exact ⟨(lf_0 hfu.nd), (mn_a0 r_2)⟩), hs_.mono (Sub.get (.c4 G G G G (.c4 G G G G (.c G (.c G (.c G .n)))))), hw_.keep (.d (.d (.d (.d (.d (.d (.d .n)))))))⟩) (fun ⟨Lg, cu_Lg, Y, u_Y⟩ ⟨s_0, s_1⟩ => ?_)))
  try dsimp only
  refine .seq (.region (.cons (st_next keZ G G G G G .h (fun hz34 => ?_) (fun x35 v36 hl37 hm38 => ?_))))
  ·
   refine .x G G G G (.go idQ (.seq (.cond_f G (.exit idQ ?_))))
   refine .region (.p ((fr + 1)) oO oO G G G G G (.m G G G ?_))
   exact SP.nil (SQ.roundb (X := Int × (List Int) × Value) (x := (fr, W, u_W)) ⟨(fr + 1), Y, u_Y⟩ (by (try dsimp only); exact ⟨oO, oO, (mn_next ⟨by omega, by omega⟩ hfu (fun j j0 j1 => hC.ways ⟨by omega, by omega⟩ ⟨j0, j1⟩) (by rw [← hz34]; exact s_1))⟩) dO (Sub.get (.c4 G G G G (.c4 G G G G (.c G .n)))) (kp (.c (.t4 (.t4 .h)) (.c (.t4 (.t4 .h)) (.c (.t4 (.t4 .h)) (.c (.t4 (.t4 .h)) (.c (.t4 (.t4 .h)) (.c (.t4 (.t4 .h)) (.c (.t .h) (.c (.t .h) (.c (.t .h) (.c (.t .h) (.c (.t .h) (.c (.t .h) (.c (.t .h) .n)))))))))))))))
  refine .x G G G G (.go idQ (.seq (.cond_t G (.skipgo idQ (.block (.seq (.region ?_)))))))
  refine .v (ev_entry keZ (x := x35) (v := v36) G G 0 G) G (.x G G G G (.x G G G G (.cons (st_alloc G G G G zf90 (fun b39 => ?_)))))
  refine .a G G G (.cons (st_storea (l' := [.int .i64 v36.ld, .int .i64 v36.af, .int .i64 v36.ax, .int .i64 v36.aw, .int .i64 v36.am]) G G G ty90 G G G .h G G (.go idQ (.seq ?_))))
  have hva := lf_at hfu s_0 hl37
  have hel := hbk.el (p := x35) oO oO
  have hbl := hbk.len
  refine SC.outER x35 oO oO (.t4 (.t4 (.t .h))) (fun hol => ?_)
  refine .region (.m G G G (.m G G G (.v (ev_ix G underlying83 ty69 G G oO oO (fun _ _ => G)) G ?_)))
  refine .v (ev_ld1 G ty69 G (At.elem1 (row_el (E := eER) (l := Bk) (i := x35) 11 G oO oO) 0 G)) G (.g underlying69 G G G (.m G G G (.go idQ (.block ?_))))
  refine .loop (X := Int × (List Int) × Value) (fun ⟨k, Z, u_Z⟩ => 0 ≤ k ∧ k ≤ ((gt Bk x35).er.length : Int) ∧ MnI n (dsF n t) (fU n R K U fr) (fU n R K D) fr (prX M30 Lg (fU n R K D) (gt Bk x35).er x35 k.toNat) Z) (fun ⟨k, Z, u_Z⟩ => [(0, .pointer (some ⟨lb, 0, none⟩)), (2, .pointer (some ⟨b1, 0, none⟩)), (3, .int .i64 n), (4, .pointer (some ⟨b8, 0, none⟩)), (5, .slice (some ⟨b9, 0, none⟩) ((n).toNat) ((n).toNat)), (26, .int .i64 n), (27, .int .i64 to), (55, .int .i64 n), (56, .int .i64 fr), (9, .int .i64 fr), (64, .pointer (some ⟨r33, 0, none⟩)), (11, .pointer (some ⟨b39, 0, none⟩)), (73, .slice ((gt Bk x35).erA) ((gt Bk x35).er.length) ((gt Bk x35).erc)), (74, .int .i64 (((gt Bk x35).er.length : Nat) : Int)), (75, .int .i64 k)]) (fun ⟨k, Z, u_Z⟩ => [rw_ eEG 72 (.slice ((gt Bk x35).erA) ((gt Bk x35).er.length) ((gt Bk x35).erc)) ((gt Bk x35).er), nestER 72 (Bk.take (x35).toNat ++ Bk.drop (x35 + 1).toNat), cel b39 [.int .i64 v36.ld, .int .i64 v36.af, .int .i64 v36.ax, .int .i64 v36.aw, .int .i64 v36.am] 90, mpr keZ.f laV b29 r33 M30 (Lg.filter (fun p => decide (p.1 ≠ x35))) (some (x35, v36)), cel lb [.slice rA R.length rc, .slice kA K.length kc, .slice uA U.length uc, .slice dA D.length dc] 76, rw_ eZ 3 (.slice rA R.length rc) R, rw_ eLK 44 (.slice kA K.length kc) K, rw_ eIL 27 (.slice uA U.length uc) U, rw_ eIL 27 (.slice dA D.length dc) D, nestIL 3 U, nestIL 3 D, rw_ eER 69 (.slice (some ⟨b9, 0, none⟩) ((n).toNat) ((n).toNat)) Bk, cel b8 [.int .i64 n, u_Z] 29, rw_ eZ 3 (u_Z) Z, rw_ eZ 3 (.slice (some ⟨b2, 0, none⟩) 1 1) [(-1)], cel b1 [.int .i64 0, .slice none 0 0] 29]) (fun _ => S) (fun _ => wf) (fun ⟨k, Z, u_Z⟩ => (((gt Bk x35).er.length : Int) - k).toNat) (fun a_ w_ hs_ hw_ => ⟨⟨0, Y, u_Y⟩, (by (try dsimp only); exact ⟨oO, oO, (mn_x0 s_1)⟩), hs_.mono (Sub.get (.c4 G G G G (.c4 G G G G (.c4 G G G G (.c G (.c G (.c G .n))))))), hw_.keep (.d (.d (.d (.d (.d (.d (.d (.d .n))))))))⟩) (fun ⟨k, Z, u_Z⟩ ⟨u_0, u_1, u_2⟩ => ?_)
  try dsimp only
  have hzl := u_2.len
  refine .seq (.region (.e G G G G G (.go idQ (.seq (.condI G bD (fun h40 => ?_) (fun h40 => ?_))))))
  ·
   refine .skipgo idQ (.seq (.block (.seq (.region (.v (ev_ix G underlying69 ty72 G G oO oO (row_adr (i := k) 0 G oO lO)) G (.v (ev_lda G G (row_el (E := eEG) (l := (gt Bk x35).er) (i := k) 0 G oO lO) ty72) G (.cons (st_alloc G G G G zf72 (fun b41 => ?_)))))))))
   refine .cons (st_storea (l' := [.int .i64 ((gt ((gt Bk x35).er) k).et), .int .i64 ((gt ((gt Bk x35).er) k).ew)]) G G G ty72 G G G .h G G ?_)
   refine .go idQ (.seq ?_)
   have hee := hbk.ok x35 oO oO _ (gtM (l := (gt Bk x35).er) (i := k) oO oO)
   have hix := idx_rng (n := n) (a := fr) (b := (gt (gt Bk x35).er k).et) ⟨by omega, by omega⟩ ⟨by omega, by omega⟩
   refine .region (.f fo29_1 1 G G G G (.l ty27 13 G G G G G (.m G G G ?_)))
   refine .m G G G (.v (ev_mul G G G (r := (fr * n)) G oO oO) G (.f fo72_0 0 G G G G (.l ty3 0 G G G G G ?_)))
   refine .v (ev_add G G G (r := ((fr * n) + ((gt ((gt Bk x35).er) k).et))) G oO oO) G (.know (row_len 14 G) (fun hv44 => ?_))
   obtain ⟨A42, c43, rfl, hv44_1, hv44_2⟩ := hv44
   unfold maxLen at hv44_2
   refine .v (ev_ix G underlying27 ty3 G G oO oO (row_adr (i := ((fr * n) + ((gt ((gt Bk x35).er) k).et))) 14 G oO oO)) G (.a G G G (.go idQ (.seq ?_)))
   refine SC.draw mo [] [] .n (fun _ _ _ => sc0) (fun wf_45 hl_45 hx_45 hR_45 => ?_)
   refine SR.m 0 G G G G ?_
   refine SR.z 1 G G (ev_nil G G) ?_
   refine SR.z 2 G G (ev_ld1 G ty3 G (At.elem1 (At.d (Fr.el (i := ((fr * n) + ((gt ((gt Bk x35).er) k).et))) (Fr.lent (S := S) hR_45 14 G lO) oO oO)) 0 G)) ?_
   refine SR.z 3 G G (ev_cmp G G G G) ?_
   refine SR.m 4 G G G G ?_
   refine SR.y 5 G G (fun _ => ev_fa G fo90_0 G (r := 0) G) ?_
   refine SR.y 6 G G (fun hb => ev_ld1 G ty3 (lkg G hb) (At.d (At.lent hR_45 3 G G))) ?_
   refine SR.y 7 G G (fun _ => ev_fa G fo72_1 G (r := 1) G) ?_
   refine SR.y 8 G G (fun hb => ev_ld1 G ty3 (lkg G hb) (At.d (At.lent hR_45 0 G G))) ?_
   refine SR.y 9 G G (fun hb => have hp := bF bD hb; ev_add G (lkg G hb) (lkg G hb) (r := (v36.ld + ((gt ((gt Bk x35).er) k).ew))) G (by have _h := hp; omega) (by have _h := hp; omega)) ?_
   refine SR.y 10 G G (fun _ => ev_mv G G) ?_
   refine SR.y 11 G G (fun hb => ev_nil G (lkg G hb)) ?_
   refine SR.y 12 G G (fun hb => have hp := bF bD hb; ev_ld1 G ty3 (lkg G hb) (At.elem1 (At.d (Fr.el (i := ((fr * n) + ((gt ((gt Bk x35).er) k).et))) (Fr.lent (S := S) hR_45 14 G lO) (by have _h := hp; omega) (by have _h := hp; omega))) 0 G)) ?_
   refine SR.y 13 G G (fun hb => ev_cmp G (lkg G hb) (lkg G hb) G) ?_
   refine SR.z 14 G G (ev_or G G G G) ?_
   refine SR.fin kR hl_45 hx_45 hR_45 .n ?_
   refine SQ.go idQ ?_
   refine .condI G (bO bD bD) (fun h46 => ?_) (fun h46 => ?_)
   ·
    refine .region (.m G G G (.f fo90_0 0 G G G G (.l ty3 3 G G G G G ?_)))
    refine .f fo72_1 1 G G G G (.l ty3 0 G G G G G (.v (ev_add G G G (r := (v36.ld + ((gt ((gt Bk x35).er) k).ew))) G oO oO) G (.v (ev_nil G G) G ?_)))
    refine .cons (st_setel (E := eZ) (i := ((fr * n) + ((gt ((gt Bk x35).er) k).et))) (cs := [.int .i64 (v36.ld + ((gt ((gt Bk x35).er) k).ew))]) (off := 0) (v36.ld + ((gt ((gt Bk x35).er) k).ew)) G G G ty3 G G G G G (.t4 (.t4 (.t4 (.t2 .h)))) lO lO (Nat.le_of_ble_eq_true G) G ?_)
    refine .go idQ (.region (.p ((k + 1)) oO oO G G G G G (.m G G G ?_)))
    exact SP.nil (SQ.roundb (X := Int × (List Int) × Value) (x := (k, Z, (.slice A42 Z.length c43))) ⟨(k + 1), (Z.set (((fr * n) + ((gt ((gt Bk x35).er) k).et))).toNat (v36.ld + ((gt ((gt Bk x35).er) k).ew))), .slice A42 Z.length c43⟩ (by (try dsimp only); exact ⟨oO, oO, (mn_x1y hfu s_0 hbk hl37 ⟨by omega, by omega⟩ oO oO u_2 h46)⟩) dO (Sub.get (.c4 G G G G (.c4 G G G G (.c4 G G G G (.c G (.c G (.c G .n))))))) (kp (.c (.t2 .h) (.c (.t2 .h) (.c (.t2 .h) (.c (.t2 .h) (.c (.t2 .h) (.c (.t2 .h) (.c (.t2 .h) (.c (.t2 .h) (.c (.t2 .h) (.c (.t2 .h) (.c (.t2 .h) (.c (.t2 .h) (.c (.t2 .h) (.c .h (.c (.t .h) (.c (.t .h) .n))))))))))))))))))
   refine .skipgo idQ (.region (.p ((k + 1)) oO oO G G G G G (.m G G G ?_)))
   exact SP.nil (SQ.roundb (X := Int × (List Int) × Value) (x := (k, Z, (.slice A42 Z.length c43))) ⟨(k + 1), Z, .slice A42 Z.length c43⟩ (by (try dsimp only); exact ⟨oO, oO, (mn_x1n hfu s_0 hbk hl37 oO oO u_2 h46)⟩) dO (Sub.get (.c4 G G G G (.c4 G G G G (.c4 G G G G (.c G (.c G (.c G .n))))))) (kp (.c (.t .h) (.c (.t .h) (.c (.t .h) (.c (.t .h) (.c (.t .h) (.c (.t .h) (.c (.t .h) (.c (.t .h) (.c (.t .h) (.c (.t .h) (.c (.t .h) (.c (.t .h) (.c (.t .h) (.c (.t .h) (.c (.t .h) (.c (.t .h) .n))))))))))))))))))
  exact .exitq idQ (SQ.backER x35 oO oO (.d .n) hol <| (SQ.roundb (X := (List (Int × LA)) × (Option (Int × LA)) × (List Int) × Value) (x := (Lg, cu_Lg, Y, u_Y)) ⟨(Lg.filter (fun p => decide (p.1 ≠ x35))), (some (x35, v36)), Z, u_Z⟩ (by (try dsimp only); exact ⟨(lf_next s_0), (mn_x2 hfu s_0 hbk hl37 oO u_2)⟩) (mfilter_lt hl37) (Sub.get (.c4 G G G G (.c4 G G G G (.c G (.c G (.c G .n)))))) (kp (.c (.t2 .h) (.c (.t2 .h) (.c (.t2 .h) (.c (.t2 .h) (.c (.t2 .h) (.c (.t2 .h) (.c (.t2 .h) (.c (.t2 .h) (.c .h (.c (.t .h) (.c (.t .h) (.c (.t .h) (.c (.t .h) (.c (.t .h) .n)))))))))))))))))
 refine .exit idQ ?_
 refine .seq (.region (.d 2 ty29 G G G G (.know (row_len 3 G) (fun hv49 => ?_))))
 obtain ⟨A47, c48, rfl, hv49_1, hv49_2⟩ := hv49
 unfold maxLen at hv49_2
 refine .cons (st_storea (l' := [.int .i64 n, .slice A47 W.length c48]) G G G ty29 G G G (.t4 (.t .h)) G G ?_)
 refine .go idQ (.ret idQ (retv1 results13 (.c 0 G G ty29) (.c (.t4 (.t2 .h)) (.c (.t4 (.t2 .h)) (.c (.t4 (.t2 .h)) (.c (.t4 (.t2 .h)) (.c (.t4 (.t2 .h)) (.c (.t4 (.t2 .h)) (.c (.t4 (.t2 .h)) (.c (.t4 .h) .n)))))))) ⟨.slice A47 W.length c48, W, (mn_mf (by have h_ := r_2; rw [show fr = n from by omega] at h_; exact h_)), G, G⟩))
end Go.Proofs.Ytpjblnmophcdmaa.Sx
set_option maxRecDepth 20000
set_option maxHeartbeats 8000000
namespace Go.Proofs.Ytpjblnmophcdmaa.Sx.FCG
open Go Go.SX Go.Proofs Go.Proofs.Try FA FB FC FD FE FF FG FH FI FJ FK FL FM FN FO FP FQ FR FS FCA FCB FCC FCE FCF
theorem hbd36 : hasBody prog 36 = true := by kernel_rfl
end Go.Proofs.Ytpjblnmophcdmaa.Sx.FCG
namespace Go.Proofs.Ytpjblnmophcdmaa.Sx
open Go Go.SX Go.Proofs Go.Proofs.Try FA FB FC FD FE FF FG FH FI FJ FK FL FM FN FO FP FQ FR FS FCA FCB FCC FCE FCF FCG
theorem samei_ (A : Option Addr) (B : Option Addr) (c : Nat) (d : Nat) (a : List Int) (S : Nat → Prop) (wf : World) (hA : Fr eZ S wf A a) (hB : Fr eZ S wf B a) :
  TR0 prog 36 [.slice A a.length c, .slice B a.length d] [] S wf (fun v_ C_ => v_ = .bool true ∧ C_ = []) := by
 have hla := hA.len
 refine TR.mk func36 G ntmps36 G G (fun w_ => ?_)
 refine .seq (.region (.a G G G (.go idQ (.seq (.seq (.region (.m G G G ?_)))))))
 refine .g underlying27 G G G (.m G G G (.g underlying27 G G G (.e G G G G G ?_)))
 refine .go idQ (.condI G bNE (fun h1 => ?_) (fun h1 => ?_))
 ·
  exfalso; first | omega | simp_all
 refine .skipgo idQ (.seq (.seq (.region (.a G G G (.go idQ (.block (.loop (X := Int) (fun i => 0 ≤ i ∧ i ≤ (a.length : Int)) (fun i => [(0, .slice A a.length c), (1, .slice B a.length d), (5, .int .i64 i)]) (fun i => []) (fun _ => S) (fun _ => wf) (fun i => ((a.length : Int) - i).toNat) (fun a_ w_ hs_ hw_ => ⟨0, (by (try dsimp only); exact ⟨oO, oO⟩), hs_.mono (Sub.get (.c G (.c G (.c G .n)))), hw_.keep .n⟩) (fun i ⟨q_0, q_1⟩ => ?_))))))))
 try dsimp only
 refine .seq (.seq (.region (.m G G G (.m G G G (.g underlying27 G G G ?_)))))
 refine .e G G G G G (.go idQ (.condI G bD (fun h2 => ?_) (fun h2 => ?_)))
 ·
  refine .skipgo idQ (.seq (.block (.seq ?_)))
  refine SC.draw mo [] [] .n (fun _ _ _ => sc0) (fun wf_3 hl_3 hx_3 hR_3 => ?_)
  refine SR.m 0 G G G G ?_
  refine SR.m 1 G G G G ?_
  refine SR.z 2 G G (ev_ix G underlying27 ty3 G G oO oO (fun _ _ => Fr.adr (i := i) (Fr.ext hA hx_3) oO oO)) ?_
  refine SR.z 3 G G (ev_ld1 G ty3 G (At.elem1 (At.d (Fr.el (i := i) (Fr.ext hA hx_3) oO oO)) 0 G)) ?_
  refine SR.m 4 G G G G ?_
  refine SR.m 5 G G G G ?_
  refine SR.z 6 G G (ev_ix G underlying27 ty3 G G oO oO (fun _ _ => Fr.adr (i := i) (Fr.ext hB hx_3) oO oO)) ?_
  refine SR.z 7 G G (ev_ld1 G ty3 G (At.elem1 (At.d (Fr.el (i := i) (Fr.ext hB hx_3) oO oO)) 0 G)) ?_
  refine SR.z 8 G G (ev_cmp G G G G) ?_
  refine SR.fin kR hl_3 hx_3 hR_3 .n ?_
  refine SQ.go idQ ?_
  refine .condI G bNE (fun h4 => ?_) (fun h4 => ?_)
  ·
   exfalso; first | omega | simp_all
  refine .skipgo idQ (.region (.m G G G (.p ((i + 1)) oO oO G G G G G (.a G G G ?_))))
  exact SP.nil (SQ.roundb (X := Int) (x := (i)) (i + 1) (by (try dsimp only); exact ⟨oO, oO⟩) (by show (_ : Nat) < _; omega) (Sub.get (.c G (.c G (.c G .n)))) (kp .n))
 refine .exit idQ ?_
 refine .seq (.region (.a G G G (.go idQ (.ret idQ (ret1 results36 G .n ⟨G, G⟩)))))
theorem same5_ (n : Int) (A : Option Addr) (B : Option Addr) (c : Nat) (d : Nat) (a : List Int) (S : Nat → Prop) (wf : World) (hA : Fr eZ S wf A a) (hB : Fr eZ S wf B a) :
  TR0 prog 12 [.agg #[.int .i64 n, .slice A a.length c], .agg #[.int .i64 n, .slice B a.length d]] [] S wf (fun v_ C_ => v_ = .bool true ∧ C_ = []) := by
 refine TR.mk func12 G ntmps12 G G (fun w_ => ?_)
 refine .seq (.region (.cons (st_boxa G G G G G (fun b1 => (.cons (st_boxa G G G G G (fun b2 => (.a G G G ?_))))))))
 refine .go idQ (.seq (.region (.f fo29_0 0 G G G G (.l ty3 1 G G G G G (.f fo29_0 0 G G G G ?_)))))
 refine .l ty3 0 G G G G G (.e G G G G G (.m G G G (.w (fun _ => ev_fa G fo29_1 G (r := 1) G) G ?_)))
 refine .w (fun hb => ev_ld1 G ty27 (lkg G hb) (At.own1 1 G G)) G (.w (fun _ => ev_fa G fo29_1 G (r := 1) G) G (.w (fun hb => ev_ld1 G ty27 (lkg G hb) (At.own1 0 G G)) G (.cons (st_gcallk G G G G G G hbd36 (fun hb => (lkA1 (lkg G hb) (lkA1 (lkg G hb) lkA0))) .n (fun hb => have hp := bT bE hb; samei_ A B c d a _ _ hA hB) ?_))))
 refine .v (ev_and G G G G) G (.a G G G (.go idQ (.ret idQ (ret1 results12 G .n ⟨(congrArg Value.bool (by simp)), G⟩))))
end Go.Proofs.Ytpjblnmophcdmaa.Sx
set_option maxRecDepth 20000
set_option maxHeartbeats 8000000
namespace Go.Proofs.Ytpjblnmophcdmaa.Sx.FCH
open Go Go.SX Go.Proofs Go.Proofs.Try FA FB FC FD FE FF FG FH FI FJ FK FL FM FN FO FP FQ FR FS FCA FCB FCC FCE FCF FCG
theorem hbd10 : hasBody prog 10 = true := by kernel_rfl
theorem hbd11 : hasBody prog 11 = true := by kernel_rfl
theorem hbd14 : hasBody prog 14 = true := by kernel_rfl
theorem hbd13 : hasBody prog 13 = true := by kernel_rfl
end Go.Proofs.Ytpjblnmophcdmaa.Sx.FCH
namespace Go.Proofs.Ytpjblnmophcdmaa.Sx
open Go Go.SX Go.Proofs Go.Proofs.Try FA FB FC FD FE FF FG FH FI FJ FK FL FM FN FO FP FQ FR FS FCA FCB FCC FCE FCF FCG FCH
theorem awake8_ (S : Nat → Prop) (wf : World) :
  TR0 prog 9 [] [] S wf (fun v_ C_ => v_ = .bool true ∧ C_ = []) := by
 refine TR.mk func9 G ntmps9 G G (fun w_ => ?_)
 refine .seq (.region (.a G G G (.go idQ (.seq (.region (.v (ev_any (v := .agg #[.int .i64 0, .int .i64 1, .int .i64 4, .int .i64 0]) G kR (fun _ => by kernel_rfl)) G ?_))))))
 refine .v (ev_any (v := .agg #[.int .i64 1, .int .i64 2, .int .i64 0, .int .i64 0]) G kR (fun _ => by kernel_rfl)) G (.cons (st_lit eAR (e := 54) (l := [(AR.mk 0 1 4 0), (AR.mk 1 2 0 0)]) G G G G kR G G kW (fun b1 => (.v (ev_any (v := .agg #[.int .i64 3, .slice (some ⟨b1, 0, none⟩) 2 2]) G kR (fun _ => by kernel_rfl)) G (.cons (st_lend0 G G G G hbd10 G .n (.c .h .n) (fun w_ hw => graphF 3 (some ⟨b1, 0, none⟩) 2 [(AR.mk 0 1 4 0), (AR.mk 1 2 0 0)] _ _ (Fr.lend hw 0 G lO) ra8) (fun v_q10 C_q10 q10 => ?_)))))))
 obtain ⟨b2, u3, v4, fi5, ed6, x7, y8, W9, p11, p12, p13, rfl, rfl⟩ := q10
 show SP _ _ _ _ _ _ ⟨_, _ :: _ :: _ :: _ :: _ :: _ :: _, _, _⟩
 have hgl := p11.len
 have hgn := p11.ne
 refine .m G G G (.x G G G G (.x G G G G (.x G G G G ?_)))
 refine .x G G G G (.cons (st_alloc G G G G zf29 (fun b14 => (.cons (st_alloc G G G G zf29 (fun b15 => (.a G G G ?_)))))))
 refine .know (row_len 5 G) (fun hv18 => ?_)
 obtain ⟨A16, c17, rfl, hv18_1, hv18_2⟩ := hv18
 unfold maxLen at hv18_2
 refine .cons (st_storea (l' := [.int .i64 3, .slice A16 ((tabF 3 false [(AR.mk 0 1 4 0), (AR.mk 1 2 0 0)]).length) c17]) G G G ty29 G G G (.t .h) G G ?_)
 refine .know (row_len 6 G) (fun hv21 => ?_)
 obtain ⟨A19, c20, rfl, hv21_1, hv21_2⟩ := hv21
 unfold maxLen at hv21_2
 refine .cons (st_storea (l' := [.int .i64 3, .slice A19 W9.length c20]) G G G ty29 G G G (.t .h) G G ?_)
 refine .a G G G (.go idQ (.seq (.region (.m G G G (.know (row_len 3 G) (fun hv24 => ?_))))))
 obtain ⟨A22, c23, rfl, hv24_1, hv24_2⟩ := hv24
 unfold maxLen at hv24_2
 refine .know (row_len 4 G) (fun hv27 => ?_)
 obtain ⟨A25, c26, rfl, hv27_1, hv27_2⟩ := hv27
 unfold maxLen at hv27_2
 refine .cons (st_lend0 G G G G hbd11 G (.c (.t2 .h) .n) (.c (.t2 .h) (.c (.t2 .h) .n)) (fun w_ hw => build_ 3 (tabF 3 false [(AR.mk 0 1 4 0), (AR.mk 1 2 0 0)]) b2 A22 c23 fi5 A25 c26 ed6 _ _ (Fr.lend hw 0 G lO) (Fr.lend hw 1 G lO) (tab_ok ra8) p11 lO) (fun v_q37 C_q37 q37 => ?_))
 obtain ⟨lb28, v129, v230, v331, v432, R33, K34, U35, D36, p38, rfl, rfl⟩ := q37
 show SP _ _ _ _ _ _ ⟨_, _ :: _ :: _ :: _ :: _ :: _ :: _ :: _ :: _ :: _ :: _, _, _⟩
 have hC := lc (tab_ok ra8) p11 p38
 refine .a G G G (.go idQ (.seq (.know (row_len 2 G) (fun hv41 => ?_))))
 obtain ⟨A39, c40, rfl, hv41_1, hv41_2⟩ := hv41
 unfold maxLen at hv41_2
 refine .know (row_len 3 G) (fun hv44 => ?_)
 obtain ⟨A42, c43, rfl, hv44_1, hv44_2⟩ := hv44
 unfold maxLen at hv44_2
 refine .know (row_len 4 G) (fun hv47 => ?_)
 obtain ⟨A45, c46, rfl, hv47_1, hv47_2⟩ := hv47
 unfold maxLen at hv47_2
 refine .know (row_len 5 G) (fun hv50 => ?_)
 obtain ⟨A48, c49, rfl, hv50_1, hv50_2⟩ := hv50
 unfold maxLen at hv50_2
 refine .region (.m G G G (.cons (st_callk G G G G hbd14 G (.c (.t .h) (.c (.t .h) (.c (.t .h) (.c (.t .h) (.c (.t .h) (.c (.t .h) (.c (.t .h) .n))))))) (dist8_ lb28 A39 c40 R33 A42 c43 K34 A45 c46 U35 A48 c49 D36 3 (tabF 3 false [(AR.mk 0 1 4 0), (AR.mk 1 2 0 0)]) 0 2 _ _ hC) (.e G G G G G ?_))))
 refine .m G G G (.w (fun _ => ev_mv G G) G (.cons (st_gcallk G G G G G G hbd14 (fun hb => (lkA1 (lkg G hb) (lkA1 G (lkA1 G lkA0)))) (.c (.t .h) (.c (.t .h) (.c (.t .h) (.c (.t .h) (.c (.t .h) (.c (.t .h) (.c (.t .h) .n))))))) (fun hb => have hp := bT bE hb; dist8_ lb28 A39 c40 R33 A42 c43 K34 A45 c46 U35 A48 c49 D36 3 (tabF 3 false [(AR.mk 0 1 4 0), (AR.mk 1 2 0 0)]) 2 0 _ _ hC) (.w (fun hb => ev_cmp G (lkg G hb) G G) G ?_))))
 refine .v (ev_and G G G G) G (.m G G G (.w (fun _ => ev_mv G G) G ?_))
 rcases Bool.eq_false_or_eq_true (((dsF 3 (tabF 3 false [(AR.mk 0 1 4 0), (AR.mk 1 2 0 0)]) 0 2) == 4) && ((dsF 3 (tabF 3 false [(AR.mk 0 1 4 0), (AR.mk 1 2 0 0)]) 2 0) == (-1))) with hb51 | hb51
 ·
  refine SP.reslot (t := 26) G hb51 ?_
  have hb51_ := bT (bA bE bE) hb51
  refine .cons (.on G G G (st_call0 G G G G hbd13 (lkA1 (lkg G hb51) lkA0) (.c (.t .h) (.c (.t .h) (.c (.t .h) (.c (.t .h) (.c (.t .h) (.c (.t .h) (.c (.t .h) .n))))))) (table_ lb28 A39 c40 R33 A42 c43 K34 A45 c46 U35 A48 c49 D36 3 (tabF 3 false [(AR.mk 0 1 4 0), (AR.mk 1 2 0 0)]) _ _ hC) (fun v_q54 C_q54 q54 => ?_)))
  obtain ⟨u52, W53, p55, rfl, rfl⟩ := q54
  show SP _ _ _ _ _ _ ⟨_, _ :: _ :: _ :: _ :: _ :: _ :: _ :: _ :: _, _, _⟩
  refine .cons (.on G G G (Ev.step (ev_any (v := .int .i64 3) G kR (fun _ => by kernel_rfl)) G G G ?_))
  refine .cons (.on G G G (Ev.step (ev_cmp (r := true) G G G G) G G G ?_))
  refine .v (ev_pickt G G G G) G (.a G G G (.go idQ (.ret idQ (ret1 results9 G .n ⟨(congrArg Value.bool (by first | rfl | exact absurd (And.intro aw8a aw8b) (by assumption))), G⟩))))
 refine SP.reslot (t := 26) G hb51 ?_
 have hb51_ := bF (bA bE bE) hb51
 refine .cons (.off G G G G G G ?_)
 refine .cons (.off G G G G G G ?_)
 refine .cons (.off G G G G G G ?_)
 refine .v (ev_pickf G G G G) G (.a G G G (.go idQ (.ret idQ (ret1 results9 G .n ⟨(congrArg Value.bool (by first | rfl | exact absurd (And.intro aw8a aw8b) (by assumption))), G⟩))))
end Go.Proofs.Ytpjblnmophcdmaa.Sx
set_option maxRecDepth 20000
set_option maxHeartbeats 8000000
set_option maxRecDepth 20000
set_option maxHeartbeats 8000000
set_option maxRecDepth 20000
set_option maxHeartbeats 8000000
set_option maxRecDepth 20000
set_option maxHeartbeats 8000000
set_option maxRecDepth 20000
set_option maxHeartbeats 8000000
set_option maxRecDepth 20000
set_option maxHeartbeats 8000000
namespace Go.Proofs.Ytpjblnmophcdmaa.Sx.FCN
open Go Go.SX Go.Proofs Go.Proofs.Try FA FB FC FD FE FF FG FH FI FJ FK FL FM FN FO FP FQ FR FS FCA FCB FCC FCE FCF FCG FCH
theorem hbd45 : hasBody prog 45 = true := by kernel_rfl
end Go.Proofs.Ytpjblnmophcdmaa.Sx.FCN
namespace Go.Proofs.Ytpjblnmophcdmaa.Sx
open Go Go.SX Go.Proofs Go.Proofs.Try FA FB FC FD FE FF FG FH FI FJ FK FL FM FN FO FP FQ FR FS FCA FCB FCC FCE FCF FCG FCH FCN
theorem from_ (n : Int) (t : List Int) (b : Nat) (fA : Option Addr) (fc : Nat) (fi : List Int) (eA : Option Addr) (ec : Nat) (ed : List EG) (sr : Int) (S : Nat → Prop) (wf : World) (hF : Fr eZ S wf fA fi) (hE : Fr eEG S wf eA ed) (hT : TabOk n t) (hGr : GOk n t fi ed) (hec : ed.length ≤ ec) (hs : 0 ≤ sr ∧ sr < n) :
  TR0 prog 45 [.pointer (some ⟨b, 0, none⟩), .int .i64 sr] [cel b [.slice fA fi.length fc, .slice eA ed.length ec] 106] S wf (fun v_ C_ => ∃ (u : Value) (v : Value) (W : List Int) (V : List Int), ((W.length : Int) = n) ∧ (∀ x : Int, 0 ≤ x → x < n → gt W x = fw (tf n t) n.toNat sr x) ∧ v_ = .tuple #[u, v] ∧ C_ = [cel b [.slice fA fi.length fc, .slice eA ed.length ec] 106, rw_ eZ 3 (u) W, rw_ eZ 3 (v) V]) := by
 have hn1 := hT.pl
 have hfl := hGr.len
 have hne := hGr.ne
 refine TR.mk func45 G ntmps45 G G (fun w_ => ?_)
 refine .seq (.region (.a G G G (.a G G G (.go idQ (.seq (.region ?_))))))
 refine .m G G G (.cons (st_callk G G G G hbd29 G (.c .h .n) (gpl_ b fA fc fi eA ec ed _ _ hF hE) (.a G G G (.go idQ (.seq (.seq ?_))))))
 rw [show ((fi.length : Int) - 1) = n from by have h_ := hGr.len; omega]
 refine .region (.m G G G (.e G G G G G (.m G G G ?_)))
 refine .w (fun _ => ev_mv G G) G (.w (fun _ => ev_mv G G) G (.w (fun hb => ev_cmp G (lkg G hb) (lkg G hb) G) G (.r G G G G G ?_)))
 refine .go idQ (.condI G (bO bD bD) (fun h1 => ?_) (fun h1 => ?_))
 ·
  exfalso; omega
 refine .skipgo idQ (.seq (.region (.cons (st_lit eZ (e := 3) (l := [(-1)]) G G G G kR G G kW (fun b2 => (.m G G G (.cons (st_lend0 G G G G hbd38 G .n (.c .h .n) (fun w_ hw => repeat_ (some ⟨b2, 0, none⟩) 1 n _ _ (Fr.lend hw 0 G lO) oO) (fun v_q4 C_q4 q4 => ?_)))))))))
 obtain ⟨u3, rfl, rfl⟩ := q4
 show SP _ _ _ _ _ _ ⟨_, _ :: _ :: _, _, _⟩
 refine .cons (st_lit eZ (e := 3) (l := [(-1)]) G G G G kR G G kW (fun b5 => ?_))
 refine .m G G G (.cons (st_lend0 G G G G hbd38 G .n (.c .h .n) (fun w_ hw => repeat_ (some ⟨b5, 0, none⟩) 1 n _ _ (Fr.lend hw 0 G lO) oO) (fun v_q7 C_q7 q7 => ?_)))
 obtain ⟨u6, rfl, rfl⟩ := q7
 show SP _ _ _ _ _ _ ⟨_, _ :: _ :: _, _, _⟩
 refine .a G G G (.a G G G (.go idQ (.seq (.region (.cons (st_call0 G G G G hbd32 G .n (qnew_ _ _) (fun v_q10 C_q10 q10 => ?_)))))))
 obtain ⟨b8, pb9, rfl, rfl⟩ := q10
 show SP _ _ _ _ _ _ ⟨_, _ :: _ :: _, _, _⟩
 refine .a G G G (.go idQ (.seq (.know (row_len 4 G) (fun hv13 => ?_))))
 obtain ⟨A11, c12, rfl, hv13_1, hv13_2⟩ := hv13
 unfold maxLen at hv13_2
 refine .know (row_len 2 G) (fun hv16 => ?_)
 obtain ⟨A14, c15, rfl, hv16_1, hv16_2⟩ := hv16
 unfold maxLen at hv16_2
 have hrp : (List.replicate n.toNat (-1 : Int)).length = n.toNat := List.length_replicate
 refine SC.nilrow eEN 115 ?_
 refine .region (.m G G G (.m G G G (.cons (st_call0 G G G G hbd33 G (.c (.t .h) (.d .n)) (qput_ b8 none 0 0 ([] : List EN) pb9 [] sr 0 _ _ G oO QQ.nil) (fun v_q21 C_q21 q21 => ?_)))))
 obtain ⟨u17, r18, l219, m220, p22, p23, p24, rfl, rfl⟩ := q21
 show SP _ _ _ _ _ _ ⟨_, _ :: _ :: _ :: _, _, _⟩
 refine .go idQ (.seq (.block (.loop (X := (List EN) × Value × (List (Int × Int)) × (List Int) × (List Int)) (fun ⟨X, u_X, qm, W, V⟩ => FrI n fi ed sr X qm W ∧ (V.length : Int) = n) (fun ⟨X, u_X, qm, W, V⟩ => [(0, .pointer (some ⟨b, 0, none⟩)), (4, .slice none 0 0), (5, .slice none 0 0), (7, .slice A11 ((List.replicate (n).toNat (-1)).length) c12), (8, .slice A14 ((List.replicate (n).toNat (-1)).length) c15), (9, .pointer (some ⟨b8, 0, none⟩))]) (fun ⟨X, u_X, qm, W, V⟩ => [cel b8 [u_X, .map (some pb9)] 113, rw_ eEN 115 (u_X) X, mp keZ.f (.int .i64) pb9 qm, rw_ eZ 3 (.slice A14 ((List.replicate (n).toNat (-1)).length) c15) V, rw_ eZ 3 (.slice (some ⟨b5, 0, none⟩) 1 1) [(-1)], rw_ eZ 3 (.slice A11 ((List.replicate (n).toNat (-1)).length) c12) W, rw_ eZ 3 (.slice (some ⟨b2, 0, none⟩) 1 1) [(-1)], cel b [.slice fA fi.length fc, .slice eA ed.length ec] 106]) (fun _ => S) (fun _ => wf) (fun ⟨X, u_X, qm, W, V⟩ => (n - cntP W).toNat) (fun a_ w_ hs_ hw_ => ⟨⟨l219, u17, m220, (List.replicate (n).toNat (-1)), (List.replicate (n).toNat (-1))⟩, (by (try dsimp only); exact ⟨(fr_0 hs p22 p23), (by rw [List.length_replicate]; omega)⟩), hs_.mono (Sub.get (.c4 G G G G (.c G (.c G .n)))), hw_.keep (.d (.d (.d (.d .n))))⟩) (fun ⟨X, u_X, qm, W, V⟩ ⟨q_0, q_1⟩ => ?_))))
 try dsimp only
 have hal := q_0.ln oO
 refine .seq (.seq (.region (.m G G G (.know (row_len 1 G) (fun hv27 => ?_)))))
 obtain ⟨A25, c26, rfl, hv27_1, hv27_2⟩ := hv27
 unfold maxLen at hv27_2
 refine .cons (st_callk G G G G hbd57 G (.d (.c .h .n)) (qlen_ b8 A25 X.length c26 X pb9 qm _ _ lO) ?_)
 refine .e G G G G G (.go idQ (.condI G bD (fun h28 => ?_) (fun h28 => ?_)))
 ·
  refine .skipgo idQ (.block (.seq (.region (.m G G G (.cons (st_call0 G G G G hbd61 G (.d (.c .h .n)) (qtake_ b8 A25 X.length c26 X pb9 qm _ _ lO lO lO q_0.qq) (fun v_q33 C_q33 q33 => ?_)))))))
  obtain ⟨x29, d30, l231, m232, p34, p35, p36, p37, rfl, rfl⟩ := q33
  show SP _ _ _ _ _ _ ⟨_, _ :: _ :: _ :: _, _, _⟩
  obtain ⟨hgp, hpr, hdb, hcs, hJ⟩ := fr_take q_0 p34 p35 p36
  obtain ⟨p, hp_⟩ : ∃ p, p = x29 := ⟨_, rfl⟩
  subst hp_
  obtain ⟨d, hd_⟩ : ∃ d, d = d30 := ⟨_, rfl⟩
  subst hd_
  have hwl := q_0.len
  refine .m G G G (.x G G G G (.x G G G G (.x G G G G ?_)))
  refine .a G G G (.a G G G (.a G G G (.go idQ (.seq (.region ?_)))))
  refine .m G G G (.m G G G (.m G G G (.v (ev_ix G underlying27 ty3 G G oO oO (row_adr (i := p) 5 G oO oO)) G ?_)))
  refine .cons (st_setel (E := eZ) (i := p) (cs := [.int .i64 d]) (off := 0) d G G G ty3 G G G G G (.t4 (.t .h)) lO lO (Nat.le_of_ble_eq_true G) G ?_)
  refine .go idQ (.seq (.region (.m G G G (.m G G G (.cons (st_call0 G G G G hbd30 G (.c (.t4 (.t2 (.t .h))) .n) (gout_ b fA fc fi eA ec ed p _ _ hF hE lO (hGr.rng p oO oO) oO) (fun v_q39 C_q39 q39 => ?_)))))))
  obtain ⟨u38, rfl, rfl⟩ := q39
  show SP _ _ _ _ _ _ ⟨_, _ :: _ :: _, _, _⟩
  refine .know (row_len 1 G) (fun hv42 => ?_)
  obtain ⟨A40, c41, rfl, hv42_1, hv42_2⟩ := hv42
  unfold maxLen at hv42_2
  refine .g underlying69 G G G (.m G G G (.go idQ (.block (.loop (X := Int × (List EN) × Value × (List (Int × Int)) × (List Int)) (fun ⟨i, Y, u_Y, ym, V2⟩ => 0 ≤ i ∧ i ≤ ((outL fi ed p).length : Int) ∧ FrJ n fi ed sr p d (kq X) W i.toNat Y ym ∧ (V2.length : Int) = n) (fun ⟨i, Y, u_Y, ym, V2⟩ => [(0, .pointer (some ⟨b, 0, none⟩)), (4, .slice none 0 0), (5, .slice none 0 0), (7, .slice A11 ((List.replicate (n).toNat (-1)).length) c12), (8, .slice A14 ((List.replicate (n).toNat (-1)).length) c15), (9, .pointer (some ⟨b8, 0, none⟩)), (10, .int .i64 p), (11, .int .i64 d), (49, .slice A40 ((outL fi ed p).length) c41), (50, .int .i64 (((outL fi ed p).length : Nat) : Int)), (51, .int .i64 i)]) (fun ⟨i, Y, u_Y, ym, V2⟩ => [cel b [.slice fA fi.length fc, .slice eA ed.length ec] 106, rw_ eEG 72 (.slice A40 ((outL fi ed p).length) c41) (outL fi ed p), rw_ eZ 3 (.slice A11 ((List.replicate (n).toNat (-1)).length) c12) (W.set (p).toNat d), cel b8 [u_Y, .map (some pb9)] 113, rw_ eEN 115 (u_Y) Y, mp keZ.f (.int .i64) pb9 ym, rw_ eZ 3 (.slice A14 ((List.replicate (n).toNat (-1)).length) c15) V2, rw_ eZ 3 (.slice (some ⟨b5, 0, none⟩) 1 1) [(-1)], rw_ eZ 3 (.slice (some ⟨b2, 0, none⟩) 1 1) [(-1)]]) (fun _ => S) (fun _ => wf) (fun ⟨i, Y, u_Y, ym, V2⟩ => (((outL fi ed p).length : Int) - i).toNat) (fun a_ w_ hs_ hw_ => ⟨⟨0, l231, .slice A25 (X.length - 1) c26, m232, V⟩, (by (try dsimp only); exact ⟨oO, oO, hJ, q_1⟩), hs_.mono (Sub.get (.c4 G G G G (.c4 G G G G (.c G (.c G (.c G .n)))))), hw_.keep (.d (.d (.d (.d (.c .h .n)))))⟩) (fun ⟨i, Y, u_Y, ym, V2⟩ ⟨r_0, r_1, r_2, r_3⟩ => ?_)))))
  try dsimp only
  refine .seq (.region (.e G G G G G (.go idQ (.seq (.condI G bD (fun h43 => ?_) (fun h43 => ?_))))))
  ·
   refine .skipgo idQ (.seq (.block (.seq ?_)))
   have hge := hGr.ok p hpr.1 hpr.2 _ (gtM (l := (outL fi ed p)) (i := i) oO oO)
   have hwt := (hT.rng (p * n + (gt (outL fi ed p) i).et)).2
   have hyl := r_2.ln oO
   have hsl : (W.set p.toNat d).length = W.length := List.length_set
   refine .region (.v (ev_ix G underlying69 ty72 G G oO oO (row_adr (i := i) 1 G oO lO)) G (.v (ev_lda G G (row_el (E := eEG) (l := (outL fi ed p)) (i := i) 1 G oO lO) ty72) G (.cons (st_alloc G G G G zf72 (fun b44 => ?_)))))
   refine .cons (st_storea (l' := [.int .i64 ((gt (outL fi ed p) i).et), .int .i64 ((gt (outL fi ed p) i).ew)]) G G G ty72 G G G .h G G ?_)
   refine .go idQ (.seq (.region (.m G G G (.f fo72_0 0 G G G G (.l ty3 0 G G G G G ?_)))))
   refine .v (ev_ix G underlying27 ty3 G G oO oO (row_adr (i := (gt (outL fi ed p) i).et) 3 G oO lO)) G (.v (ev_ld1 G ty3 G (At.elem1 (row_el (E := eZ) (l := (W.set (p).toNat d)) (i := (gt (outL fi ed p) i).et) 3 G oO lO) 0 G)) G (.e G G G G G (.m G G G ?_)))
   refine .w (fun _ => ev_mv G G) G (.w (fun _ => ev_fa G fo72_0 G (r := 0) G) G (.w (fun hb => ev_ld1 G ty3 (lkg G hb) (At.own1 0 G G)) G (.w (fun _ => ev_mv G G) G ?_)))
   refine .w (fun _ => ev_fa G fo72_1 G (r := 1) G) G (.w (fun hb => ev_ld1 G ty3 (lkg G hb) (At.own1 0 G G)) G (.w (fun hb => have hp := bT bD hb; ev_add G (lkg G hb) (lkg G hb) (r := (d + ((gt (outL fi ed p) i).ew))) G (by have _h := hp; omega) (by have _h := hp; omega)) G (.know (row_len 5 G) (fun hv47 => ?_))))
   obtain ⟨A45, c46, rfl, hv47_1, hv47_2⟩ := hv47
   unfold maxLen at hv47_2
   rcases Bool.eq_false_or_eq_true (decide ((gt (W.set (p).toNat d) ((gt (outL fi ed p) i).et)) < 0)) with hb48 | hb48
   ·
    refine SP.reslot (t := 61) G hb48 ?_
    have hb48_ := bT bD hb48
    refine .cons (.on G G G (st_call0 G G G G hbd33 (lkA1 (lkg G hb48) (lkA1 (lkg G hb48) (lkA1 (lkg G hb48) lkA0))) (.c (.t4 .h) (.c (.t4 .h) (.c (.t4 .h) .n))) (qput_ b8 A45 Y.length c46 Y pb9 ym ((gt (outL fi ed p) i).et) (d + ((gt (outL fi ed p) i).ew)) _ _ G lO r_2.qq) (fun v_q53 C_q53 q53 => ?_)))
    obtain ⟨u49, r50, l251, m252, p54, p55, p56, rfl, rfl⟩ := q53
    show SP _ _ _ _ _ _ ⟨_, _ :: _ :: _ :: _, _, _⟩
    refine .v (ev_pickt G G G G) G (.go idQ (.condI G bV (fun h57 => ?_) (fun h57 => ?_)))
    ·
     refine .region (.m G G G (.f fo72_0 0 G G G G (.l ty3 3 G G G G G ?_)))
     refine .m G G G (.v (ev_ix G underlying27 ty3 G G oO oO (row_adr (i := (gt (outL fi ed p) i).et) 7 G oO oO)) G (.cons (st_setel (E := eZ) (i := (gt (outL fi ed p) i).et) (cs := [.int .i64 p]) (off := 0) p G G G ty3 G G G G G (.t4 (.t2 (.t .h))) lO lO (Nat.le_of_ble_eq_true G) G (.go idQ (.region ?_)))))
     refine .p ((i + 1)) oO oO G G G G G (.m G G G ?_)
     exact SP.nil (SQ.roundb (X := Int × (List EN) × Value × (List (Int × Int)) × (List Int)) (x := (i, Y, (.slice A45 Y.length c46), ym, V2)) ⟨(i + 1), l251, u49, m252, (V2.set ((gt (outL fi ed p) i).et).toNat p)⟩ (by (try dsimp only); exact ⟨oO, oO, (fj_put hGr hT r_2 oO oO q_0.len hpr hdb (by assumption) p54 p55), (by (try rw [List.length_set]); exact r_3)⟩) dO (Sub.get (.c4 G G G G (.c4 G G G G (.c G (.c G (.c G .n)))))) (kp (.c (.t4 (.t .h)) (.c (.t4 (.t .h)) (.c (.t4 (.t .h)) (.c (.t .h) (.c (.t .h) (.c (.t .h) (.c .h (.c (.t .h) (.c (.t .h) .n)))))))))))
    refine .skipgo idQ (.region (.p ((i + 1)) oO oO G G G G G (.m G G G ?_)))
    exact SP.nil (SQ.roundb (X := Int × (List EN) × Value × (List (Int × Int)) × (List Int)) (x := (i, Y, (.slice A45 Y.length c46), ym, V2)) ⟨(i + 1), l251, u49, m252, V2⟩ (by (try dsimp only); exact ⟨oO, oO, (fj_put hGr hT r_2 oO oO q_0.len hpr hdb (by assumption) p54 p55), (by (try rw [List.length_set]); exact r_3)⟩) dO (Sub.get (.c4 G G G G (.c4 G G G G (.c G (.c G (.c G .n)))))) (kp (.c (.t4 .h) (.c (.t4 .h) (.c (.t4 .h) (.d (.c .h (.c (.t .h) (.c (.t .h) (.c (.t .h) .n))))))))))
   refine SP.reslot (t := 61) G hb48 ?_
   have hb48_ := bF bD hb48
   refine .cons (.off G G G G G G ?_)
   refine .v (ev_pickf G G G G) G (.go idQ (.cond_f G (.skipgo idQ (.region ?_))))
   refine .p ((i + 1)) oO oO G G G G G (.m G G G ?_)
   exact SP.nil (SQ.roundb (X := Int × (List EN) × Value × (List (Int × Int)) × (List Int)) (x := (i, Y, (.slice A45 Y.length c46), ym, V2)) ⟨(i + 1), Y, .slice A45 Y.length c46, ym, V2⟩ (by (try dsimp only); exact ⟨oO, oO, (fj_done r_2 oO oO q_0.len hpr ⟨hge.1, hge.2.1⟩ hdb.1 (by assumption)), (by (try rw [List.length_set]); exact r_3)⟩) dO (Sub.get (.c4 G G G G (.c4 G G G G (.c G (.c G (.c G .n)))))) (kp (.c (.t .h) (.c (.t .h) (.c (.t .h) (.c (.t .h) (.c (.t .h) (.c (.t .h) (.c (.t .h) (.c (.t .h) (.c (.t .h) .n)))))))))))
  exact .exitq idQ (SQ.roundb (X := (List EN) × Value × (List (Int × Int)) × (List Int) × (List Int)) (x := (X, (.slice A25 X.length c26), qm, W, V)) ⟨Y, u_Y, ym, (W.set (p).toNat d), V2⟩ (by (try dsimp only); exact ⟨(fj_end hGr r_2 oO q_0.len hpr hdb.1 hgp q_0.lo), r_3⟩) (by dsimp only; have h_ := (fj_end hGr r_2 oO q_0.len hpr hdb.1 hgp q_0.lo).ln oO; omega) (Sub.get (.c4 G G G G (.c G (.c G .n)))) (kp (.c (.t2 (.t .h)) (.c (.t2 (.t .h)) (.c (.t2 (.t .h)) (.c (.t2 (.t .h)) (.c (.t2 (.t .h)) (.c (.t2 .h) (.c (.t2 .h) (.c .h .n))))))))))
 refine .exit idQ ?_
 refine .seq (.region (.m G G G (.m G G G (.a G G G ?_))))
 refine .a G G G (.go idQ ?_)
 have hfe := fr_end hGr hT hs q_0 oO
 exact .ret idQ (ret2 results45 G G (.c (.t4 (.t2 (.t .h))) (.c (.t4 (.t .h)) (.c (.t2 (.t .h)) .n))) ⟨.slice A11 ((List.replicate (n).toNat (-1)).length) c12, .slice A14 ((List.replicate (n).toNat (-1)).length) c15, W, V, hfe.1, hfe.2, G, G⟩)
theorem all_ (n : Int) (t : List Int) (b : Nat) (fA : Option Addr) (fc : Nat) (fi : List Int) (eA : Option Addr) (ec : Nat) (ed : List EG) (S : Nat → Prop) (wf : World) (hF : Fr eZ S wf fA fi) (hE : Fr eEG S wf eA ed) (hT : TabOk n t) (hGr : GOk n t fi ed) (hec : ed.length ≤ ec) :
  TR0 prog 20 [.pointer (some ⟨b, 0, none⟩)] [cel b [.slice fA fi.length fc, .slice eA ed.length ec] 106] S wf (fun v_ C_ => ∃ (u : Value) (W : List Int), (MF n W (fw (tf n t) n.toNat)) ∧ v_ = .agg #[.int .i64 n, u] ∧ C_ = [cel b [.slice fA fi.length fc, .slice eA ed.length ec] 106, rw_ eZ 3 (u) W]) := by
 have hn1 := hT.pl
 have hfl := hGr.len
 have hne := hGr.ne
 refine TR.mk func20 G ntmps20 G G (fun w_ => ?_)
 refine .seq (.region (.cons (st_alloc G G G G zf29 (fun b1 => (.go idQ (.seq (.region (.m G G G ?_))))))))
 refine .cons (st_callk G G G G hbd29 G (.c (.t .h) .n) (gpl_ b fA fc fi eA ec ed _ _ hF hE) ?_)
 refine .v (ev_any (v := .agg #[.int .i64 ((fi.length : Int) - 1), .slice none 0 0]) G kR (fun _ => by kernel_rfl)) G (.cons (st_alloc G G G G zf29 (fun b2 => (.cons (st_storea (l' := [.int .i64 ((fi.length : Int) - 1), .slice none 0 0]) G G G ty29 G G G .h G G (.go idQ (.seq (.seq ?_))))))))
 rw [show ((fi.length : Int) - 1) = n from by have h_ := hGr.len; omega]
 refine .region (.f fo29_0 0 G G G G (.l ty3 0 G G G G G (.m G G G ?_)))
 refine .go idQ (.block ?_)
 refine SC.nilrow eZ 3 ?_
 refine .loop (X := Int × (List Int) × Value) (fun ⟨p, X, u_X⟩ => 0 ≤ p ∧ p ≤ n ∧ AlI n (fw (tf n t) n.toNat) p X) (fun ⟨p, X, u_X⟩ => [(0, .pointer (some ⟨b, 0, none⟩)), (2, .pointer (some ⟨b1, 0, none⟩)), (3, .pointer (some ⟨b2, 0, none⟩)), (11, .int .i64 n), (12, .int .i64 p)]) (fun ⟨p, X, u_X⟩ => [rw_ eZ 3 (u_X) X, cel b2 [.int .i64 n, u_X] 29, cel b1 [.int .i64 0, .slice none 0 0] 29, cel b [.slice fA fi.length fc, .slice eA ed.length ec] 106]) (fun _ => S) (fun _ => wf) (fun ⟨p, X, u_X⟩ => (n - p).toNat) (fun a_ w_ hs_ hw_ => ⟨⟨0, ([] : List Int), .slice none 0 0⟩, (by (try dsimp only); exact ⟨oO, oO, al_0⟩), hs_.mono (Sub.get (.c4 G G G G (.c G .n))), hw_.keep (.d (.d .n))⟩) (fun ⟨p, X, u_X⟩ ⟨q_0, q_1, q_2⟩ => ?_)
 try dsimp only
 have hxl := q_2.le oO oO oO
 refine .seq (.region (.e G G G G G (.go idQ (.seq (.condI G bD (fun h3 => ?_) (fun h3 => ?_))))))
 ·
  refine .skipgo idQ (.seq (.block (.seq (.region (.m G G G (.a G G G (.go idQ (.seq (.region ?_)))))))))
  refine .m G G G (.m G G G (.cons (st_call0 G G G G hbd45 G (.c (.t2 (.t .h)) .n) (from_ n t b fA fc fi eA ec ed p _ _ hF hE hT hGr lO ⟨by omega, by omega⟩) (fun v_q8 C_q8 q8 => ?_))))
  obtain ⟨u4, v5, W6, V7, p9, p10, rfl, rfl⟩ := q8
  show SP _ _ _ _ _ _ ⟨_, _ :: _ :: _ :: _, _, _⟩
  have hwl := p9
  refine .m G G G (.x G G G G (.x G G G G (.a G G G ?_)))
  refine .a G G G (.go idQ (.region (.f fo29_1 1 G G G G (.l ty27 4 G G G G G ?_))))
  refine .m G G G (.know (row_len 1 G) (fun hv13 => ?_))
  obtain ⟨A11, c12, rfl, hv13_1, hv13_2⟩ := hv13
  unfold maxLen at hv13_2
  refine .cons (st_app (E := eZ) (m := W6) G G G G underlying27 ai3 G G G (.t2 (.t .h)) rO (row_src 1 G) lO G (fun v14 => ?_))
  refine .f fo29_1 1 G G G G (.know (row_len 0 G) (fun hv17 => ?_))
  obtain ⟨A15, c16, rfl, hv17_1, hv17_2⟩ := hv17
  unfold maxLen at hv17_2
  refine .cons (st_store1 G G G ty27 G G G (.t4 .h) (.t .h) ?_)
  refine .go idQ (.region (.p ((p + 1)) oO oO G G G G G (.m G G G ?_)))
  exact SP.nil (SQ.roundb (X := Int × (List Int) × Value) (x := (p, X, u_X)) ⟨(p + 1), (X ++ W6), .slice A15 ((X ++ W6).length) c16⟩ (by (try dsimp only); exact ⟨oO, oO, (al_next q_2 oO p9 p10)⟩) dO (Sub.get (.c4 G G G G (.c G .n))) (kp (.c (.t .h) (.c .h (.c (.t2 (.t .h)) (.c .h .n))))))
 refine .exit idQ ?_
 refine .seq (.region (.d 1 ty29 G G G G (.know (row_len 0 G) (fun hv20 => ?_))))
 obtain ⟨A18, c19, rfl, hv20_1, hv20_2⟩ := hv20
 unfold maxLen at hv20_2
 refine .cons (st_storea (l' := [.int .i64 n, .slice A18 X.length c19]) G G G ty29 G G G (.t2 .h) G G ?_)
 refine .go idQ (.ret idQ (retv1 results20 (.c 0 G G ty29) (.c (.t2 (.t .h)) (.c (.t .h) .n)) ⟨.slice A18 X.length c19, X, (al_end (by have h_ := q_2; rw [show p = n from by omega] at h_; exact h_)), G, G⟩))
end Go.Proofs.Ytpjblnmophcdmaa.Sx
set_option maxRecDepth 20000
set_option maxHeartbeats 8000000
set_option maxRecDepth 20000
set_option maxHeartbeats 8000000
set_option maxRecDepth 20000
set_option maxHeartbeats 8000000
set_option maxRecDepth 20000
set_option maxHeartbeats 8000000
namespace Go.Proofs.Ytpjblnmophcdmaa.Sx.FLD
open Go Go.SX Go.Proofs Go.Proofs.Try FA FB FC FD FE FF FG FH FI FJ FK FL FM FN FO FP FQ FR FS FCA FCB FCC FCE FCF FCG FCH FCN
theorem hbd9 : hasBody prog 9 = true := by kernel_rfl
theorem hbd20 : hasBody prog 20 = true := by kernel_rfl
theorem hbd12 : hasBody prog 12 = true := by kernel_rfl
end Go.Proofs.Ytpjblnmophcdmaa.Sx.FLD
namespace Go.Proofs.Ytpjblnmophcdmaa.Sx
open Go Go.SX Go.Proofs Go.Proofs.Try FA FB FC FD FE FF FG FH FI FJ FK FL FM FN FO FP FQ FR FS FCA FCB FCC FCE FCF FCG FCH FCN FLD
theorem climbShortF (n : Int) (A : Option Addr) (c : Nat) (l : List AR) (S : Nat → Prop) (wf : World) (hA : Fr eAR S wf A l) (hR : RoadOk n l) :
  TR0 prog 6 [.agg #[.int .i64 n, .slice A l.length c], .bool false] [] S wf (fun v_ C_ => v_ = .bool true ∧ C_ = []) := by
 have hla := hA.len
 have hlen := hR.len
 have hnp := hR.pl
 have hto := tab_ok (d := false) hR
 have htl := hto.len
 have hsq := sq_le hnp
 refine TR.mk func6 G ntmps6 G G (fun w_ => ?_)
 refine .seq (.region (.cons (st_boxa G G G G G (fun b1 => (.a G G G (.go idQ (.seq (.seq (.region ?_)))))))))
 refine .cons (st_callk G G G G hbd9 G .n (awake8_ _ _) ?_)
 refine .v (ev_not G G) G (.go idQ (.cond_f G (.skipgo idQ (.seq (.region ?_)))))
 refine .d 0 ty24 G G G G (.m G G G (.cons (st_call0 G G G G hbd10 G .n (graphF n A c l _ _ hA hR) (fun v_q10 C_q10 q10 => ?_))))
 obtain ⟨b2, u3, v4, fi5, ed6, x7, y8, W9, p11, p12, p13, rfl, rfl⟩ := q10
 show SP _ _ _ _ _ _ ⟨_, _ :: _ :: _ :: _ :: _ :: _, _, _⟩
 have hgl := p11.len
 have hgn := p11.ne
 refine .m G G G (.x G G G G (.x G G G G (.x G G G G ?_)))
 refine .x G G G G (.cons (st_alloc G G G G zf29 (fun b14 => (.cons (st_alloc G G G G zf29 (fun b15 => (.a G G G ?_)))))))
 refine .know (row_len 5 G) (fun hv18 => ?_)
 obtain ⟨A16, c17, rfl, hv18_1, hv18_2⟩ := hv18
 unfold maxLen at hv18_2
 refine .cons (st_storea (l' := [.int .i64 n, .slice A16 ((tabF n false l).length) c17]) G G G ty29 G G G (.t .h) G G ?_)
 refine .know (row_len 6 G) (fun hv21 => ?_)
 obtain ⟨A19, c20, rfl, hv21_1, hv21_2⟩ := hv21
 unfold maxLen at hv21_2
 refine .cons (st_storea (l' := [.int .i64 n, .slice A19 W9.length c20]) G G G ty29 G G G (.t .h) G G ?_)
 refine .a G G G (.go idQ (.seq (.seq (.region (.m G G G (.v (ev_not G G) G ?_))))))
 refine .go idQ (.cond_f G (.skipgo idQ (.seq (.region (.m G G G ?_)))))
 refine .know (row_len 3 G) (fun hv24 => ?_)
 obtain ⟨A22, c23, rfl, hv24_1, hv24_2⟩ := hv24
 unfold maxLen at hv24_2
 refine .know (row_len 4 G) (fun hv27 => ?_)
 obtain ⟨A25, c26, rfl, hv27_1, hv27_2⟩ := hv27
 unfold maxLen at hv27_2
 refine .cons (st_lend0 G G G G hbd11 G (.c (.t2 .h) .n) (.c (.t2 .h) (.c (.t2 .h) .n)) (fun w_ hw => build_ n (tabF n false l) b2 A22 c23 fi5 A25 c26 ed6 _ _ (Fr.lend hw 0 G lO) (Fr.lend hw 1 G lO) hto p11 lO) (fun v_q37 C_q37 q37 => ?_))
 obtain ⟨lb28, v129, v230, v331, v432, R33, K34, U35, D36, p38, rfl, rfl⟩ := q37
 show SP _ _ _ _ _ _ ⟨_, _ :: _ :: _ :: _ :: _ :: _ :: _ :: _ :: _ :: _ :: _, _, _⟩
 have hwl0 := p13.len
 have hC := lc hto p11 p38
 have hRn := hC.hR
 refine .know (row_len 2 G) (fun hv41 => ?_)
 obtain ⟨A39, c40, rfl, hv41_1, hv41_2⟩ := hv41
 unfold maxLen at hv41_2
 refine .know (row_len 3 G) (fun hv44 => ?_)
 obtain ⟨A42, c43, rfl, hv44_1, hv44_2⟩ := hv44
 unfold maxLen at hv44_2
 refine .know (row_len 4 G) (fun hv47 => ?_)
 obtain ⟨A45, c46, rfl, hv47_1, hv47_2⟩ := hv47
 unfold maxLen at hv47_2
 refine .know (row_len 5 G) (fun hv50 => ?_)
 obtain ⟨A48, c49, rfl, hv50_1, hv50_2⟩ := hv50
 unfold maxLen at hv50_2
 refine .cons (st_call0 G G G G hbd13 G (.c (.t .h) (.c (.t .h) (.c (.t .h) (.c (.t .h) (.c (.t .h) (.c (.t .h) (.c (.t .h) .n))))))) (table_ lb28 A39 c40 R33 A42 c43 K34 A45 c46 U35 A48 c49 D36 n (tabF n false l) _ _ hC) (fun v_q53 C_q53 q53 => ?_))
 obtain ⟨u51, W52, p54, rfl, rfl⟩ := q53
 show SP _ _ _ _ _ _ ⟨_, _ :: _ :: _ :: _ :: _ :: _ :: _ :: _ :: _, _, _⟩
 refine .m G G G (.cons (st_lend0 G G G G hbd20 G (.c (.t4 (.t4 .h)) .n) (.c (.t4 (.t4 .h)) (.c (.t4 (.t4 .h)) .n)) (fun w_ hw => all_ n (tabF n false l) b2 A22 c23 fi5 A25 c26 ed6 _ _ (Fr.lend hw 0 G lO) (Fr.lend hw 1 G lO) hto p11 lO) (fun v_q57 C_q57 q57 => ?_)))
 obtain ⟨u55, W56, p58, rfl, rfl⟩ := q57
 show SP _ _ _ _ _ _ ⟨_, _ :: _ :: _ :: _ :: _, _, _⟩
 have hal_ := p58.len
 have hWW : W56 = W52 := (tab_same oO p54 p58).symm
 subst hWW
 refine .cons (st_alloc G G G G zf29 (fun b59 => ?_))
 refine .cons (st_alloc G G G G zf29 (fun b60 => ?_))
 refine .know (row_len 13 G) (fun hv63 => ?_)
 obtain ⟨A61, c62, rfl, hv63_1, hv63_2⟩ := hv63
 unfold maxLen at hv63_2
 refine .cons (st_storea (l' := [.int .i64 n, .slice A61 W56.length c62]) G G G ty29 G G G (.t .h) G G ?_)
 refine .know (row_len 3 G) (fun hv66 => ?_)
 obtain ⟨A64, c65, rfl, hv66_1, hv66_2⟩ := hv66
 unfold maxLen at hv66_2
 refine .cons (st_storea (l' := [.int .i64 n, .slice A64 W56.length c65]) G G G ty29 G G G (.t .h) G G ?_)
 refine .go idQ (.seq (.region (.d 1 ty29 G G G G (.d 0 ty29 G G G G (.cons (st_lendk G G G G hbd12 G .n (.c (.t4 (.t4 (.t4 (.t .h)))) (.c (.t2 (.t .h)) .n)) (fun w_ hw => same5_ n A61 A64 c62 c65 W56 _ _ (Fr.lend hw 0 G lO) (Fr.lend hw 1 G lO)) ?_))))))
 refine .a G G G (.go idQ (.ret idQ (ret1 results6 G .n ⟨G, G⟩)))
theorem climbShortBadF (n : Int) (A : Option Addr) (c : Nat) (l : List AR) (S : Nat → Prop) (wf : World) (hA : Fr eAR S wf A l) (hR : ¬ RoadOk n l) :
  TR0 prog 6 [.agg #[.int .i64 n, .slice A l.length c], .bool false] [] S wf (fun v_ C_ => v_ = .bool true ∧ C_ = []) := by
 have hla := hA.len
 refine TR.mk func6 G ntmps6 G G (fun w_ => ?_)
 refine .seq (.region (.cons (st_boxa G G G G G (fun b1 => (.a G G G (.go idQ (.seq (.seq (.region ?_)))))))))
 refine .cons (st_callk G G G G hbd9 G .n (awake8_ _ _) ?_)
 refine .v (ev_not G G) G (.go idQ (.cond_f G (.skipgo idQ (.seq (.region ?_)))))
 refine .d 0 ty24 G G G G (.m G G G (.cons (st_callk G G G G hbd10 G .n (graphbadF n A c l _ _ hA hR) (.m G G G ?_))))
 refine .x G G G G (.x G G G G (.x G G G G (.x G G G G ?_)))
 refine .cons (st_alloc G G G G zf29 (fun b2 => ?_))
 refine .cons (st_alloc G G G G zf29 (fun b3 => ?_))
 refine .a G G G (.cons (st_storea (l' := [.int .i64 0, .slice none 0 0]) G G G ty29 G G G (.t .h) G G (.cons (st_storea (l' := [.int .i64 0, .slice none 0 0]) G G G ty29 G G G (.t .h) G G (.a G G G ?_)))))
 refine .go idQ (.seq (.seq (.region (.m G G G (.v (ev_not G G) G (.go idQ ?_))))))
 refine .cond_t G ?_
 refine .seq (.region (.a G G G (.go idQ (.ret idQ (ret1 results6 G .n ⟨G, G⟩)))))
theorem climbShortT (n : Int) (A : Option Addr) (c : Nat) (l : List AR) (S : Nat → Prop) (wf : World) (hA : Fr eAR S wf A l) (hR : RoadOk n l) :
  TR0 prog 6 [.agg #[.int .i64 n, .slice A l.length c], .bool true] [] S wf (fun v_ C_ => v_ = .bool true ∧ C_ = []) := by
 have hla := hA.len
 have hlen := hR.len
 have hnp := hR.pl
 have hto := tab_ok (d := true) hR
 have htl := hto.len
 have hsq := sq_le hnp
 refine TR.mk func6 G ntmps6 G G (fun w_ => ?_)
 refine .seq (.region (.cons (st_boxa G G G G G (fun b1 => (.a G G G (.go idQ (.seq (.seq (.region ?_)))))))))
 refine .cons (st_callk G G G G hbd9 G .n (awake8_ _ _) ?_)
 refine .v (ev_not G G) G (.go idQ (.cond_f G (.skipgo idQ (.seq (.region ?_)))))
 refine .d 0 ty24 G G G G (.m G G G (.cons (st_call0 G G G G hbd10 G .n (graphT n A c l _ _ hA hR) (fun v_q10 C_q10 q10 => ?_))))
 obtain ⟨b2, u3, v4, fi5, ed6, x7, y8, W9, p11, p12, p13, rfl, rfl⟩ := q10
 show SP _ _ _ _ _ _ ⟨_, _ :: _ :: _ :: _ :: _ :: _, _, _⟩
 have hgl := p11.len
 have hgn := p11.ne
 refine .m G G G (.x G G G G (.x G G G G (.x G G G G ?_)))
 refine .x G G G G (.cons (st_alloc G G G G zf29 (fun b14 => (.cons (st_alloc G G G G zf29 (fun b15 => (.a G G G ?_)))))))
 refine .know (row_len 5 G) (fun hv18 => ?_)
 obtain ⟨A16, c17, rfl, hv18_1, hv18_2⟩ := hv18
 unfold maxLen at hv18_2
 refine .cons (st_storea (l' := [.int .i64 n, .slice A16 ((tabF n true l).length) c17]) G G G ty29 G G G (.t .h) G G ?_)
 refine .know (row_len 6 G) (fun hv21 => ?_)
 obtain ⟨A19, c20, rfl, hv21_1, hv21_2⟩ := hv21
 unfold maxLen at hv21_2
 refine .cons (st_storea (l' := [.int .i64 n, .slice A19 W9.length c20]) G G G ty29 G G G (.t .h) G G ?_)
 refine .a G G G (.go idQ (.seq (.seq (.region (.m G G G (.v (ev_not G G) G ?_))))))
 refine .go idQ (.cond_f G (.skipgo idQ (.seq (.region (.m G G G ?_)))))
 refine .know (row_len 3 G) (fun hv24 => ?_)
 obtain ⟨A22, c23, rfl, hv24_1, hv24_2⟩ := hv24
 unfold maxLen at hv24_2
 refine .know (row_len 4 G) (fun hv27 => ?_)
 obtain ⟨A25, c26, rfl, hv27_1, hv27_2⟩ := hv27
 unfold maxLen at hv27_2
 refine .cons (st_lend0 G G G G hbd11 G (.c (.t2 .h) .n) (.c (.t2 .h) (.c (.t2 .h) .n)) (fun w_ hw => build_ n (tabF n true l) b2 A22 c23 fi5 A25 c26 ed6 _ _ (Fr.lend hw 0 G lO) (Fr.lend hw 1 G lO) hto p11 lO) (fun v_q37 C_q37 q37 => ?_))
 obtain ⟨lb28, v129, v230, v331, v432, R33, K34, U35, D36, p38, rfl, rfl⟩ := q37
 show SP _ _ _ _ _ _ ⟨_, _ :: _ :: _ :: _ :: _ :: _ :: _ :: _ :: _ :: _ :: _, _, _⟩
 have hwl0 := p13.len
 have hC := lc hto p11 p38
 have hRn := hC.hR
 refine .know (row_len 2 G) (fun hv41 => ?_)
 obtain ⟨A39, c40, rfl, hv41_1, hv41_2⟩ := hv41
 unfold maxLen at hv41_2
 refine .know (row_len 3 G) (fun hv44 => ?_)
 obtain ⟨A42, c43, rfl, hv44_1, hv44_2⟩ := hv44
 unfold maxLen at hv44_2
 refine .know (row_len 4 G) (fun hv47 => ?_)
 obtain ⟨A45, c46, rfl, hv47_1, hv47_2⟩ := hv47
 unfold maxLen at hv47_2
 refine .know (row_len 5 G) (fun hv50 => ?_)
 obtain ⟨A48, c49, rfl, hv50_1, hv50_2⟩ := hv50
 unfold maxLen at hv50_2
 refine .cons (st_call0 G G G G hbd13 G (.c (.t .h) (.c (.t .h) (.c (.t .h) (.c (.t .h) (.c (.t .h) (.c (.t .h) (.c (.t .h) .n))))))) (table_ lb28 A39 c40 R33 A42 c43 K34 A45 c46 U35 A48 c49 D36 n (tabF n true l) _ _ hC) (fun v_q53 C_q53 q53 => ?_))
 obtain ⟨u51, W52, p54, rfl, rfl⟩ := q53
 show SP _ _ _ _ _ _ ⟨_, _ :: _ :: _ :: _ :: _ :: _ :: _ :: _ :: _, _, _⟩
 refine .m G G G (.cons (st_lend0 G G G G hbd20 G (.c (.t4 (.t4 .h)) .n) (.c (.t4 (.t4 .h)) (.c (.t4 (.t4 .h)) .n)) (fun w_ hw => all_ n (tabF n true l) b2 A22 c23 fi5 A25 c26 ed6 _ _ (Fr.lend hw 0 G lO) (Fr.lend hw 1 G lO) hto p11 lO) (fun v_q57 C_q57 q57 => ?_)))
 obtain ⟨u55, W56, p58, rfl, rfl⟩ := q57
 show SP _ _ _ _ _ _ ⟨_, _ :: _ :: _ :: _ :: _, _, _⟩
 have hal_ := p58.len
 have hWW : W56 = W52 := (tab_same oO p54 p58).symm
 subst hWW
 refine .cons (st_alloc G G G G zf29 (fun b59 => ?_))
 refine .cons (st_alloc G G G G zf29 (fun b60 => ?_))
 refine .know (row_len 13 G) (fun hv63 => ?_)
 obtain ⟨A61, c62, rfl, hv63_1, hv63_2⟩ := hv63
 unfold maxLen at hv63_2
 refine .cons (st_storea (l' := [.int .i64 n, .slice A61 W56.length c62]) G G G ty29 G G G (.t .h) G G ?_)
 refine .know (row_len 3 G) (fun hv66 => ?_)
 obtain ⟨A64, c65, rfl, hv66_1, hv66_2⟩ := hv66
 unfold maxLen at hv66_2
 refine .cons (st_storea (l' := [.int .i64 n, .slice A64 W56.length c65]) G G G ty29 G G G (.t .h) G G ?_)
 refine .go idQ (.seq (.region (.d 1 ty29 G G G G (.d 0 ty29 G G G G (.cons (st_lendk G G G G hbd12 G .n (.c (.t4 (.t4 (.t4 (.t .h)))) (.c (.t2 (.t .h)) .n)) (fun w_ hw => same5_ n A61 A64 c62 c65 W56 _ _ (Fr.lend hw 0 G lO) (Fr.lend hw 1 G lO)) ?_))))))
 refine .a G G G (.go idQ (.ret idQ (ret1 results6 G .n ⟨G, G⟩)))
theorem climbShortBadT (n : Int) (A : Option Addr) (c : Nat) (l : List AR) (S : Nat → Prop) (wf : World) (hA : Fr eAR S wf A l) (hR : ¬ RoadOk n l) :
  TR0 prog 6 [.agg #[.int .i64 n, .slice A l.length c], .bool true] [] S wf (fun v_ C_ => v_ = .bool true ∧ C_ = []) := by
 have hla := hA.len
 refine TR.mk func6 G ntmps6 G G (fun w_ => ?_)
 refine .seq (.region (.cons (st_boxa G G G G G (fun b1 => (.a G G G (.go idQ (.seq (.seq (.region ?_)))))))))
 refine .cons (st_callk G G G G hbd9 G .n (awake8_ _ _) ?_)
 refine .v (ev_not G G) G (.go idQ (.cond_f G (.skipgo idQ (.seq (.region ?_)))))
 refine .d 0 ty24 G G G G (.m G G G (.cons (st_callk G G G G hbd10 G .n (graphbadT n A c l _ _ hA hR) (.m G G G ?_))))
 refine .x G G G G (.x G G G G (.x G G G G (.x G G G G ?_)))
 refine .cons (st_alloc G G G G zf29 (fun b2 => ?_))
 refine .cons (st_alloc G G G G zf29 (fun b3 => ?_))
 refine .a G G G (.cons (st_storea (l' := [.int .i64 0, .slice none 0 0]) G G G ty29 G G G (.t .h) G G (.cons (st_storea (l' := [.int .i64 0, .slice none 0 0]) G G G ty29 G G G (.t .h) G G (.a G G G ?_)))))
 refine .go idQ (.seq (.seq (.region (.m G G G (.v (ev_not G G) G (.go idQ ?_))))))
 refine .cond_t G ?_
 refine .seq (.region (.a G G G (.go idQ (.ret idQ (ret1 results6 G .n ⟨G, G⟩)))))
end Go.Proofs.Ytpjblnmophcdmaa.Sx
namespace Go.Proofs.Ytpjblnmophcdmaa.Sx
open Go Go.SX Go.Proofs Go.Proofs.Try
theorem climbShort_ (n : Int) (A : Option Addr) (c : Nat) (l : List AR) (d : Bool) (S : Nat → Prop) (wf : World) (hA : Fr eAR S wf A l) : TR0 prog 6 [.agg #[.int .i64 n, .slice A l.length c], .bool d] [] S wf (fun v C => v = .bool true ∧ C = []) :=
 (Classical.em (RoadOk n l)).elim (fun h => match d with | false => climbShortF n A c l S wf hA h | true => climbShortT n A c l S wf hA h) (fun h => match d with | false => climbShortBadF n A c l S wf hA h | true => climbShortBadT n A c l S wf hA h)
end Go.Proofs.Ytpjblnmophcdmaa.Sx
namespace Go.SX
open Go Go.RowKit
def TellsW (P : Program) (w : World) (e : TypeId) {α : Type} (E : Enc α) (good : α → Prop) : Prop :=
  ∀ {H : Type} (enc : TypeId × Value → H) (base : Nat) (spare : Nat → Bool) (held : Bool) (n : Nat) (cs : List Value) (y : DataW H × List MemPlace), DataW.trod enc P w base spare held n e cs = some y → (∀ b ∈ y.1.weights P e, b ≤ reachBytes) → ∃ a, cs = E.enc a ∧ good a
section
variable {H : Type} {enc : TypeId × Value → H} {P : Program} {w : World} {base : Nat} {spare : Nat → Bool} {held : Bool}
theorem weightsAll_mem {e : TypeId} {d : DataW H} {b : Nat} : ∀ {l : List (DataW H)}, d ∈ l → b ∈ d.weights P e → b ∈ DataW.weightsAll P e l
  | [], h, _ => by cases h
  | x :: r, h, hb => by
    unfold DataW.weightsAll
    rcases List.mem_cons.1 h with rfl | h
    · exact List.mem_append_left _ hb
    · exact List.mem_append_right _ (weightsAll_mem h hb)
theorem rows_w {α : Type} [Inhabited α] {E : Enc α} {good : α → Prop} {t e : TypeId} {fuel : Nat} {cs : List Value} {x : DataW H × List MemPlace} (ht : P.underlying t = some (.slice e)) (he : P.cellsOf e = E.sz) (hT : TellsW P w e E good) (hbo : 1 ≤ P.bytesOf e)
    (h : DataW.trod enc P w base spare held fuel t cs = some x) (hw : ∀ b ∈ x.1.weights P t, b ≤ reachBytes) :
    ∃ A l cap, cs = [.slice A l.length cap] ∧ Fr E (fun b => b < w.heap.size) w A l ∧ ∀ y ∈ l, good y := by
  rcases DataW.trod_slice ht h with h0 | ⟨a, len, cap, elems, rest, n, hx1, rfl, rfl, hb, hl, hm, hlen, hel, hsp, hns⟩
  · exact ⟨none, [], 0, h0.1, Fr.nil _ _ _ _, by simp⟩
  have hw2 : ∀ b ∈ DataW.weights P t (.slice (elems.map (·.1)) (rest.map (·.1))), b ≤ reachBytes := hw
  have each : ∀ i, i < len → ∃ x : α, good x ∧ w.cells? base (a.add (i * E.sz)) E.sz = some (E.enc x) := by
    intro i hi
    have h1 := hel i hi
    have h2 : elems[i]? = some (elems[i]'(by omega)) := List.getElem?_eq_getElem (by omega)
    rw [h2, he, Option.bind_eq_some_iff] at h1
    obtain ⟨cs', h3, h4⟩ := h1
    obtain ⟨x, rfl, hg⟩ := hT enc base spare held n cs' _ h4 (fun b hb => hw2 b (by
      unfold DataW.weights
      rw [ht]
      exact List.mem_cons_of_mem _ (List.mem_append_left _ (weightsAll_mem (List.mem_map_of_mem (List.getElem_mem (by omega))) hb))))
    exact ⟨x, hg, h3⟩
  let f : Nat → α := fun i => if hi : i < len then (each i hi).choose else default
  have hf : ∀ i (hi : i < len), f i = (each i hi).choose := fun i hi => dif_pos hi
  have hbig : len ≤ 140737488355328 := by
    have h1 := hw2 ((elems.map (·.1)).length + (rest.map (·.1)).length |>.mul (P.bytesOf e)) (by unfold DataW.weights; rw [ht]; exact List.mem_cons_self ..)
    have h11 : elems.length * 1 ≤ ((elems.map (·.1)).length + (rest.map (·.1)).length) * P.bytesOf e := Nat.mul_le_mul (by simp) hbo
    have h12 : reachBytes < 2 ^ 47 := reachBytes_lt
    have h13 : ((elems.map (·.1)).length + (rest.map (·.1)).length) * P.bytesOf e ≤ reachBytes := h1
    omega
  have hgood : ∀ x ∈ (List.range len).map f, good x := by
    intro x hx
    obtain ⟨i, hi, rfl⟩ := List.mem_map.1 hx
    have hlt : i < len := by simpa using hi
    rw [hf i hlt]
    exact (each i hlt).choose_spec.1
  refine ⟨some a, (List.range len).map f, cap, by simp, ⟨by simpa using hbig, ?_⟩, hgood⟩
  rcases Nat.eq_zero_or_pos len with h0 | h0
  · subst h0; exact .inl (by simp)
  have hat : ∀ i, i < len → ∀ j u, (E.enc (f i))[j]? = some u → w.cell? (a.add (i * E.sz + j)) = some u := by
    intro i hi j u hj
    obtain ⟨_, h1, h2⟩ := World.cells?_some (each i hi).choose_spec.2
    rw [← hf i hi] at h1 h2
    have hjs : j < E.sz := by have := (List.getElem?_eq_some_iff.1 hj).1; omega
    rw [← add_zero_add, h2 j hjs, hj]
  have hpos := E.pos
  have hspot : a.spot = none := by
    have h1 : (E.enc (f 0)).length = E.sz := E.len _
    have h2 := hat 0 h0 0 ((E.enc (f 0))[0]'(by omega)) (List.getElem?_eq_getElem (by omega))
    have h3 := World.cell?_spot h2
    simpa [Addr.add] using h3
  obtain ⟨b, off, spot⟩ := a
  simp only at hspot
  subst hspot
  have hall : ∀ i x, ((List.range len).map f)[i]? = some x → At w b (off + i * E.sz) (E.enc x) := fun i x hx j u hu => by
    simp only [List.getElem?_map, Option.map_eq_some_iff] at hx
    obtain ⟨i', hi', rfl⟩ := hx
    have hi2 := List.getElem?_eq_some_iff.1 hi'
    obtain ⟨hlt, heq⟩ := hi2
    simp at heq hlt
    subst heq
    have := hat i hlt j u hu
    rw [show off + i * E.sz + j = off + (i * E.sz + j) from by omega]
    have e1 : (⟨b, off, none⟩ : Addr).add (i * E.sz + j) = ⟨b, off + (i * E.sz + j), none⟩ := by
      unfold Addr.add
      split
      · rename_i h0; rw [h0]; rfl
      · rfl
    rwa [e1] at this
  refine .inr ⟨b, off, rfl, ?_, hall⟩
  have hx := hall 0 (f 0) (by simp [h0])
  have hl1 := E.len (f 0)
  have := hx 0 ((E.enc (f 0))[0]'(by omega)) (List.getElem?_eq_getElem (by omega))
  unfold World.cell? at this
  cases hb1 : w.heap[b]? with
  | none => simp only [hb1] at this; cases this
  | some o => exact lt_of_some hb1
theorem struct_w {t : TypeId} {fuel : Nat} {cs : List Value} {x : DataW H × List MemPlace} {fs : Array Field} (ht : P.underlying t = some (.struct fs)) (h : DataW.trod enc P w base spare held fuel t cs = some x) (hw : ∀ b ∈ x.1.weights P t, b ≤ reachBytes) :
    ∃ n, cs.length = P.cellsOf t ∧ ∀ (i : Nat) (f : Field), fs[i]? = some f → ∃ y : DataW H × List MemPlace, DataW.trod enc P w base spare held n f.type ((cs.drop f.offset).take (P.cellsOf f.type)) = some y ∧ ∀ b ∈ y.1.weights P f.type, b ≤ reachBytes := by
  obtain ⟨xs, n, _, rfl, hl, hx, hf⟩ := DataW.trod_struct ht h
  refine ⟨n, hl, fun i f hi => ?_⟩
  have h1 := hf i f hi
  have hlt : i < fs.size := (Array.getElem?_eq_some_iff.1 hi).1
  rw [List.getElem?_eq_getElem (by omega)] at h1
  refine ⟨xs[i]'(by omega), h1, fun b hb => hw b ?_⟩
  show b ∈ DataW.weights P t (.agg (xs.map (·.1)))
  unfold DataW.weights
  rw [ht]
  exact DataW.weights_mem_each (j := i) (d := (xs[i]'(by omega)).1) (by simp [hi]) (by simp [List.getElem?_eq_getElem (show i < xs.length by omega)]) b hb
end
end Go.SX
set_option maxRecDepth 20000
namespace Go.Proofs.Ytpjblnmophcdmaa.Sx
open Go Go.SX Go.Proofs Go.Proofs.Try
theorem cO24 : prog.cellsOf 24 = 2 := by kernel_rfl
theorem cO54 : prog.cellsOf 54 = 4 := by kernel_rfl
theorem cO22 : prog.cellsOf 22 = 1 := by kernel_rfl
theorem cO3 : prog.cellsOf 3 = 1 := by kernel_rfl
structure RDA where
 n : Int
 A : Option Addr
 c : Nat
 l : List AR
def eRDA : Enc RDA where
 sz := 2
 enc x := [.int .i64 x.n, .slice x.A x.l.length x.c]
 len _ := rfl
 one x u hu := by simp at hu; rcases hu with rfl | rfl <;> rfl
 pos := by decide
section
variable {w : World}
theorem tw54 : TellsW prog w 54 eAR (fun _ => True) := by
 intro H enc base spare held n cs y h hw
 obtain ⟨k, hl, hf⟩ := struct_w underlying54 h hw
 rw [cO54] at hl
 match cs, hl with
 | [v0, v1, v2, v3], _ =>
  obtain ⟨y0, h0, w0⟩ := hf 0 _ rfl
  replace h0 : DataW.trod enc prog w base spare held k 3 (([v0, v1, v2, v3].drop 0).take (prog.cellsOf 3)) = some y0 := h0
  rw [cO3] at h0
  replace h0 : DataW.trod enc prog w base spare held k 3 [v0] = some y0 := h0
  obtain ⟨y1, h1, w1⟩ := hf 1 _ rfl
  replace h1 : DataW.trod enc prog w base spare held k 3 (([v0, v1, v2, v3].drop 1).take (prog.cellsOf 3)) = some y1 := h1
  rw [cO3] at h1
  replace h1 : DataW.trod enc prog w base spare held k 3 [v1] = some y1 := h1
  obtain ⟨y2, h2, w2⟩ := hf 2 _ rfl
  replace h2 : DataW.trod enc prog w base spare held k 3 (([v0, v1, v2, v3].drop 2).take (prog.cellsOf 3)) = some y2 := h2
  rw [cO3] at h2
  replace h2 : DataW.trod enc prog w base spare held k 3 [v2] = some y2 := h2
  obtain ⟨y3, h3, w3⟩ := hf 3 _ rfl
  replace h3 : DataW.trod enc prog w base spare held k 3 (([v0, v1, v2, v3].drop 3).take (prog.cellsOf 3)) = some y3 := h3
  rw [cO3] at h3
  replace h3 : DataW.trod enc prog w base spare held k 3 [v3] = some y3 := h3
  obtain ⟨m0, e0, _, _⟩ := DataW.trod_int underlying3 h0
  simp only [List.cons.injEq, and_true] at e0
  subst e0
  obtain ⟨m1, e1, _, _⟩ := DataW.trod_int underlying3 h1
  simp only [List.cons.injEq, and_true] at e1
  subst e1
  obtain ⟨m2, e2, _, _⟩ := DataW.trod_int underlying3 h2
  simp only [List.cons.injEq, and_true] at e2
  subst e2
  obtain ⟨m3, e3, _, _⟩ := DataW.trod_int underlying3 h3
  simp only [List.cons.injEq, and_true] at e3
  subst e3
  exact ⟨⟨m0, m1, m2, m3⟩, G, trivial⟩
theorem tw24 : TellsW prog w 24 eRDA (fun x => Fr eAR (fun b => b < w.heap.size) w x.A x.l) := by
 intro H enc base spare held n cs y h hw
 obtain ⟨k, hl, hf⟩ := struct_w underlying24 h hw
 rw [cO24] at hl
 match cs, hl with
 | [v0, v1], _ =>
  obtain ⟨y0, h0, w0⟩ := hf 0 _ rfl
  replace h0 : DataW.trod enc prog w base spare held k 3 (([v0, v1].drop 0).take (prog.cellsOf 3)) = some y0 := h0
  rw [cO3] at h0
  replace h0 : DataW.trod enc prog w base spare held k 3 [v0] = some y0 := h0
  obtain ⟨y1, h1, w1⟩ := hf 1 _ rfl
  replace h1 : DataW.trod enc prog w base spare held k 22 (([v0, v1].drop 1).take (prog.cellsOf 22)) = some y1 := h1
  rw [cO22] at h1
  replace h1 : DataW.trod enc prog w base spare held k 22 [v1] = some y1 := h1
  obtain ⟨m0, e0, _, _⟩ := DataW.trod_int underlying3 h0
  simp only [List.cons.injEq, and_true] at e0
  subst e0
  obtain ⟨LA, ll, lc, el, fr, _⟩ := rows_w (E := eAR) underlying22 cO54 tw54 (by decide +kernel) h1 w1
  simp only [List.cons.injEq, and_true] at el
  subst el
  exact ⟨⟨m0, LA, lc, ll⟩, G, fr⟩
end
end Go.Proofs.Ytpjblnmophcdmaa.Sx
