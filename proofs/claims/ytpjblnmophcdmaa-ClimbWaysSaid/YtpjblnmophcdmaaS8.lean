import Derived.Test.YtpjblnmophcdmaaProg
import Derived.Test.YtpjblnmophcdmaaS7
set_option linter.unusedVariables false
set_option linter.unusedSimpArgs false
set_option linter.unusedSectionVars false
set_option maxRecDepth 20000
set_option maxHeartbeats 8000000
namespace Go.Proofs.Ytpjblnmophcdmaa.Sx.FCF
open Go Go.SX Go.Proofs Go.Proofs.Try FA FB FC FD FE FF FG FH FI FJ FK FL FM FN FO FP FQ FR FS FCA FCB FCC FCE
theorem hbd38 : hasBody prog 38 = true := by kernel_rfl
theorem ai69 : (prog.info? 69).map (fun i => (i.zero, i.size, i.bytes)) = some (some (.slice none 0 0), 1, 24) := by kernel_rfl
end Go.Proofs.Ytpjblnmophcdmaa.Sx.FCF
namespace Go.Proofs.Ytpjblnmophcdmaa.Sx
open Go Go.SX Go.Proofs Go.Proofs.Try FA FB FC FD FE FF FG FH FI FJ FK FL FM FN FO FP FQ FR FS FCA FCB FCC FCE FCF
theorem table_ (lb : Nat) (rA : Option Addr) (rc : Nat) (R : List Int) (kA : Option Addr) (kc : Nat) (K : List LK) (uA : Option Addr) (uc : Nat) (U : List IL) (dA : Option Addr) (dc : Nat) (D : List IL) (n : Int) (t : List Int) (S : Nat → Prop) (wf : World) (hC : LC n t R K U D) :
  TR0 prog 13 [.pointer (some ⟨lb, 0, none⟩)] [cel lb [.slice rA R.length rc, .slice kA K.length kc, .slice uA U.length uc, .slice dA D.length dc] 76, rw_ eZ 3 (.slice rA R.length rc) R, rw_ eLK 44 (.slice kA K.length kc) K, rw_ eIL 27 (.slice uA U.length uc) U, rw_ eIL 27 (.slice dA D.length dc) D, nestIL 3 U, nestIL 3 D] S wf (fun v_ C_ => ∃ (u : Value) (W : List Int), (MF n W (dsF n t)) ∧ v_ = .agg #[.int .i64 n, u] ∧ C_ = [cel lb [.slice rA R.length rc, .slice kA K.length kc, .slice uA U.length uc, .slice dA D.length dc] 76, rw_ eZ 3 (.slice rA R.length rc) R, rw_ eLK 44 (.slice kA K.length kc) K, rw_ eIL 27 (.slice uA U.length uc) U, rw_ eIL 27 (.slice dA D.length dc) D, nestIL 3 U, nestIL 3 D, rw_ eZ 3 (u) W]) := by
 have hn1 := hC.wy.hn
 have hsq := sq_le hn1
 refine TR.mk func13 G ntmps13 G G (fun w_ => ?_)
 refine .seq (.region (.cons (st_alloc G G G G zf29 (fun b1 => (.go idQ (.seq (.region (.m G G G ?_))))))))
 refine .cons (st_callk G G G G hbd37 G (.c (.t .h) (.c (.t .h) (.c (.t .h) (.c (.t .h) (.c (.t .h) (.c (.t .h) (.c (.t .h) .n))))))) (lpl_ lb rA rc R kA kc K uA uc U dA dc D _ _) ?_)
 refine .a G G G (.go idQ (.seq ?_))
 rw [show (R.length : Int) = n from hC.hR]
 refine .region (.m G G G (.cons (st_lit eZ (e := 3) (l := [(-1)]) G G G G kR G G kW (fun b2 => (.m G G G ?_)))))
 refine .m G G G (.v (ev_mul G G G (r := (n * n)) G oO oO) G (.cons (st_lend0 G G G G hbd38 G .n (.c .h .n) (fun w_ hw => repeat_ (some ⟨b2, 0, none⟩) 1 (n * n) _ _ (Fr.lend hw 0 G lO) oO) (fun v_q4 C_q4 q4 => ?_))))
 obtain ⟨u3, rfl, rfl⟩ := q4
 show SP _ _ _ _ _ _ ⟨_, _ :: _ :: _, _, _⟩
 refine .know (row_len 0 G) (fun hv7 => ?_)
 obtain ⟨A5, c6, rfl, hv7_1, hv7_2⟩ := hv7
 unfold maxLen at hv7_2
 refine .v (ev_any (v := .agg #[.int .i64 n, .slice A5 ((List.replicate ((n * n)).toNat (-1)).length) c6]) G kR (fun _ => by kernel_rfl)) G (.cons (st_alloc G G G G zf29 (fun b8 => (.cons (st_storea (l' := [.int .i64 n, .slice A5 ((List.replicate ((n * n)).toNat (-1)).length) c6]) G G G ty29 G G G .h G G (.go idQ (.seq (.region ?_))))))))
 refine .m G G G (.cons (st_mkslicesE (n := (n).toNat) G G G G underlying83 ai69 G G oO oO G (fun b9 => (.a G G G (.go idQ (.seq (.seq ?_)))))))
 refine SC.ERs 72 n.toNat ?_
 refine .region (.m G G G (.m G G G (.go idQ (.block ?_))))
 refine .loop (X := Int × (List ER)) (fun ⟨to, Bk⟩ => 0 ≤ to ∧ to ≤ n ∧ BkG n (fU n R K D) (fun _ j => j < to) Bk) (fun ⟨to, Bk⟩ => [(0, .pointer (some ⟨lb, 0, none⟩)), (2, .pointer (some ⟨b1, 0, none⟩)), (3, .int .i64 n), (4, .pointer (some ⟨b8, 0, none⟩)), (5, .slice (some ⟨b9, 0, none⟩) ((n).toNat) ((n).toNat)), (26, .int .i64 n), (27, .int .i64 to)]) (fun ⟨to, Bk⟩ => [nestER 72 Bk, rw_ eER 69 (.slice (some ⟨b9, 0, none⟩) ((n).toNat) ((n).toNat)) Bk, cel b8 [.int .i64 n, .slice A5 ((List.replicate ((n * n)).toNat (-1)).length) c6] 29, rw_ eZ 3 (.slice A5 ((List.replicate ((n * n)).toNat (-1)).length) c6) (List.replicate ((n * n)).toNat (-1)), rw_ eZ 3 (.slice (some ⟨b2, 0, none⟩) 1 1) [(-1)], cel b1 [.int .i64 0, .slice none 0 0] 29, cel lb [.slice rA R.length rc, .slice kA K.length kc, .slice uA U.length uc, .slice dA D.length dc] 76, rw_ eZ 3 (.slice rA R.length rc) R, rw_ eLK 44 (.slice kA K.length kc) K, rw_ eIL 27 (.slice uA U.length uc) U, rw_ eIL 27 (.slice dA D.length dc) D, nestIL 3 U, nestIL 3 D]) (fun _ => S) (fun _ => wf) (fun ⟨to, Bk⟩ => (n - to).toNat) (fun a_ w_ hs_ hw_ => ⟨⟨0, (List.replicate ((n).toNat) dER)⟩, (by (try dsimp only); exact ⟨oO, oO, (bk_0 oO)⟩), hs_.mono (Sub.get (.c4 G G G G (.c G (.c G (.c G .n))))), hw_.keep (.d (.d (.d (.d (.d (.d (.c .h .n)))))))⟩) (fun ⟨to, Bk⟩ ⟨q_0, q_1, q_2⟩ => ?_)
 try dsimp only
 refine .seq (.region (.e G G G G G (.go idQ (.seq (.condI G bD (fun h10 => ?_) (fun h10 => ?_))))))
 ·
  refine .skipgo idQ (.seq (.block (.seq (.region (.m G G G (.a G G G (.go idQ (.seq (.region ?_)))))))))
  refine .m G G G (.v (ev_any (v := .func (.func 18) #[.pointer (some ⟨lb, 0, none⟩)] #[]) G kR (fun _ => by kernel_rfl)) G (.v (ev_any (v := .agg #[.func (.func 18) #[.pointer (some ⟨lb, 0, none⟩)] #[], .func (.func 39) #[] #[]]) G kR (fun _ => by kernel_rfl)) G (.m G G G ?_)))
  refine .cons (st_call0 G G G G hbd40 G (.c (.t4 (.t2 .h)) (.c (.t4 (.t2 .h)) (.c (.t4 (.t2 .h)) (.c (.t4 (.t2 .h)) (.c (.t4 (.t2 .h)) (.c (.t4 (.t2 .h)) (.c (.t4 (.t2 .h)) .n))))))) (findD lb rA rc R kA kc K uA uc U dA dc D n to _ _ hC.hL hC.sd ⟨by omega, by omega⟩) (fun v_q13 C_q13 q13 => ?_))
  obtain ⟨b11, M12, p14, rfl, rfl⟩ := q13
  show SP _ _ _ _ _ _ ⟨_, _ :: _ :: _ :: _ :: _ :: _ :: _ :: _ :: _, _, _⟩
  have hfd := hC.fd ⟨by omega, by omega⟩ p14
  refine .cons (st_range keZ G G G G underlying84 G (.t4 (.t2 (.t .h))) (fun r15 => ?_))
  refine .go idQ (.block (.loop (X := (List (Int × LA)) × (Option (Int × LA)) × (List ER)) (fun ⟨Lf, cu_Lf, Bk2⟩ => LfI M12 Lf ∧ BkG n (fU n R K D) (dnB to Lf) Bk2) (fun ⟨Lf, cu_Lf, Bk2⟩ => [(0, .pointer (some ⟨lb, 0, none⟩)), (2, .pointer (some ⟨b1, 0, none⟩)), (3, .int .i64 n), (4, .pointer (some ⟨b8, 0, none⟩)), (5, .slice (some ⟨b9, 0, none⟩) ((n).toNat) ((n).toNat)), (26, .int .i64 n), (27, .int .i64 to), (6, .int .i64 to), (35, .pointer (some ⟨r15, 0, none⟩))]) (fun ⟨Lf, cu_Lf, Bk2⟩ => [mpr keZ.f laV b11 r15 M12 Lf cu_Lf, cel lb [.slice rA R.length rc, .slice kA K.length kc, .slice uA U.length uc, .slice dA D.length dc] 76, rw_ eZ 3 (.slice rA R.length rc) R, rw_ eLK 44 (.slice kA K.length kc) K, rw_ eIL 27 (.slice uA U.length uc) U, rw_ eIL 27 (.slice dA D.length dc) D, nestIL 3 U, nestIL 3 D, nestER 72 Bk2, rw_ eER 69 (.slice (some ⟨b9, 0, none⟩) ((n).toNat) ((n).toNat)) Bk2, cel b8 [.int .i64 n, .slice A5 ((List.replicate ((n * n)).toNat (-1)).length) c6] 29, rw_ eZ 3 (.slice A5 ((List.replicate ((n * n)).toNat (-1)).length) c6) (List.replicate ((n * n)).toNat (-1)), rw_ eZ 3 (.slice (some ⟨b2, 0, none⟩) 1 1) [(-1)], cel b1 [.int .i64 0, .slice none 0 0] 29]) (fun _ => S) (fun _ => wf) (fun ⟨Lf, cu_Lf, Bk2⟩ => Lf.length) (fun a_ w_ hs_ hw_ => ⟨⟨M12, none, Bk⟩, (by (try dsimp only); exact ⟨(lf_0 hfd.nd), (bk_in q_2 hfd)⟩), hs_.mono (Sub.get (.c4 G G G G (.c4 G G G G (.c G .n)))), hw_.keep (.d (.d (.d (.d (.d (.d (.d .n)))))))⟩) (fun ⟨Lf, cu_Lf, Bk2⟩ ⟨r_0, r_1⟩ => ?_)))
  try dsimp only
  refine .seq (.region (.cons (st_next keZ G G G G G .h (fun hz16 => ?_) (fun x17 v18 hl19 hm20 => ?_))))
  ·
   refine .x G G G G (.go idQ (.seq (.cond_f G (.exit idQ ?_))))
   refine .region (.p ((to + 1)) oO oO G G G G G (.m G G G ?_))
   exact SP.nil (SQ.roundb (X := Int × (List ER)) (x := (to, Bk)) ⟨(to + 1), Bk2⟩ (by (try dsimp only); exact ⟨oO, oO, (bk_out (by rw [← hz16]; exact r_1))⟩) dO (Sub.get (.c4 G G G G (.c G (.c G (.c G .n))))) (kp (.c (.t4 (.t4 .h)) (.c (.t4 (.t4 .h)) (.c (.t4 (.t4 .h)) (.c (.t4 (.t4 .h)) (.c (.t4 (.t4 .h)) (.c (.t4 (.t4 .h)) (.c (.t .h) (.c (.t .h) (.c (.t .h) (.c (.t .h) (.c (.t .h) (.c (.t .h) (.c (.t .h) .n)))))))))))))))
  refine .x G G G G (.go idQ (.seq (.cond_t G (.skipgo idQ (.block (.seq (.region ?_)))))))
  refine .v (ev_entry keZ (x := x17) (v := v18) G G 0 G) G (.x G G G G (.x G G G G (.cons (st_alloc G G G G zf90 (fun b21 => ?_)))))
  refine .a G G G (.cons (st_storea (l' := [.int .i64 v18.ld, .int .i64 v18.af, .int .i64 v18.ax, .int .i64 v18.aw, .int .i64 v18.am]) G G G ty90 G G G .h G G (.go idQ ?_)))
  have hva := lf_at hfd r_0 hl19
  have hel := r_1.el (p := x17) oO oO
  have hbl := r_1.len
  refine SC.outER x17 oO oO (.t4 (.t4 (.t .h))) (fun hol => ?_)
  refine SC.draw mo [rw_ eEG 72 (.slice ((gt Bk2 x17).erA) ((gt Bk2 x17).er.length) ((gt Bk2 x17).erc)) ((gt Bk2 x17).er), rw_ eER 69 (.slice (some ⟨b9, 0, none⟩) ((n).toNat) ((n).toNat)) Bk2] [(13, fun w => At w (ab (some ⟨b9, 0, none⟩)) (ao (some ⟨b9, 0, none⟩) + (x17).toNat * eER.sz) (eER.enc (gt Bk2 x17)))] (.c .h (.c (.t4 (.t4 (.t2 .h))) .n)) (fun w_ _ hw_ => (sc1 (row_el (E := eER) (l := Bk2) (i := x17) 1 G oO lO w_ hw_) sc0)) (fun wf_22 hl_22 hx_22 hR_22 => ?_)
  refine SR.m 0 G G G G ?_
  refine SR.m 1 G G G G ?_
  refine SR.m 2 G G G G ?_
  refine SR.m 3 G G G G ?_
  refine SR.z 4 G G (ev_ix G underlying83 ty69 G G oO oO (fun _ _ => G)) ?_
  refine SR.z 5 G G (ev_ld1 G ty69 G (At.elem1 (At.ofcs 0 G kR) 0 G)) ?_
  refine SR.m 6 G G G G ?_
  refine SR.z 7 G G (ev_fa G fo90_0 G (r := 0) G) ?_
  refine SR.z 8 G G (ev_ld1 G ty3 G (At.d (At.lent hR_22 1 G G))) ?_
  refine SR.z 9 G G (ev_any (v := .agg #[.int .i64 to, .int .i64 v18.ld]) G kR (fun _ => by kernel_rfl)) ?_
  refine SR.o 10 G (st_lit eEG (e := 72) (l := [(EG.mk to v18.ld)]) G G G G kR G G kW (fun b23 => ⟨ttr (i := x17) 2 G oO oO, ?_⟩))
  refine SR.o 11 G (st_app (E := eEG) (m := [(EG.mk to v18.ld)]) G G G G underlying69 ai72 G G G (.t .h) rO (row_src 0 G) lO G (fun v24 => ⟨ttr (i := x17) 2 G oO oO, ?_⟩))
  refine SR.z 12 G G (ev_ix G underlying83 ty69 G G oO oO (fun _ _ => G)) ?_
  refine .know (row_len 0 G) (fun hv27 => ?_)
  obtain ⟨A25, c26, rfl, hv27_1, hv27_2⟩ := hv27
  unfold maxLen at hv27_2
  refine SR.o 13 G (st_setel (E := eER) (i := x17) (cs := [.slice A25 ((((gt Bk2 x17).er) ++ [(EG.mk to v18.ld)]).length) c26]) (off := 0) (ER.mk (((gt Bk2 x17).er) ++ [(EG.mk to v18.ld)]) A25 c26) G G G ty69 G G G G G (.t2 .h) lO lO (Nat.le_of_ble_eq_true G) G ⟨ttc (fun w_ hw_ => (tc2 kR tc0)), ?_⟩)
  refine SR.fin kR hl_22 hx_22 hR_22 (.c (.c (.c .n))) ?_
  exact SQ.inER x17 (ER.mk (((gt Bk2 x17).er) ++ [(EG.mk to v18.ld)]) A25 c26) oO oO (.c (.t .h) (.c (.t2 .h) .n)) (by rfl) (by rw [List.length_append, List.length_singleton]; omega) <| (SQ.roundb (X := (List (Int × LA)) × (Option (Int × LA)) × (List ER)) (x := (Lf, cu_Lf, Bk2)) ⟨(Lf.filter (fun p => decide (p.1 ≠ x17))), (some (x17, v18)), (Bk2.set (x17).toNat (ER.mk (((gt Bk2 x17).er) ++ [(EG.mk to v18.ld)]) A25 c26))⟩ (by (try dsimp only); exact ⟨(lf_next r_0), (bk_step ⟨by omega, by omega⟩ hfd r_0 r_1 hl19)⟩) (mfilter_lt hl19) (Sub.get (.c4 G G G G (.c4 G G G G (.c G .n)))) (kp (.c (.t4 .h) (.c (.t4 .h) (.c (.t4 .h) (.c (.t4 .h) (.c (.t4 .h) (.c (.t4 .h) (.c (.t4 .h) (.c (.t4 .h) (.d (.c (.t2 .h) (.c (.t2 .h) (.c (.t2 .h) (.c (.t2 .h) .n)))))))))))))))
 refine .exit idQ ?_
 refine .seq (.seq ?_)
 have hbk : BkG n (fU n R K D) (fun _ j => j < n) Bk := by have h_ := q_2; rw [show to = n from by omega] at h_; exact h_
 refine .region (.m G G G (.m G G G (.go idQ (.block ?_))))
 refine .loop (X := Int × (List Int) × Value) (fun ⟨fr, W, u_W⟩ => 0 ≤ fr ∧ fr ≤ n ∧ MnI n (dsF n t) (fU n R K U fr) (fU n R K D) fr (fun _ _ => False) W) (fun ⟨fr, W, u_W⟩ => [(0, .pointer (some ⟨lb, 0, none⟩)), (2, .pointer (some ⟨b1, 0, none⟩)), (3, .int .i64 n), (4, .pointer (some ⟨b8, 0, none⟩)), (5, .slice (some ⟨b9, 0, none⟩) ((n).toNat) ((n).toNat)), (26, .int .i64 n), (27, .int .i64 to), (55, .int .i64 n), (56, .int .i64 fr)]) (fun ⟨fr, W, u_W⟩ => [nestER 72 Bk, rw_ eER 69 (.slice (some ⟨b9, 0, none⟩) ((n).toNat) ((n).toNat)) Bk, cel b8 [.int .i64 n, u_W] 29, rw_ eZ 3 (u_W) W, rw_ eZ 3 (.slice (some ⟨b2, 0, none⟩) 1 1) [(-1)], cel b1 [.int .i64 0, .slice none 0 0] 29, cel lb [.slice rA R.length rc, .slice kA K.length kc, .slice uA U.length uc, .slice dA D.length dc] 76, rw_ eZ 3 (.slice rA R.length rc) R, rw_ eLK 44 (.slice kA K.length kc) K, rw_ eIL 27 (.slice uA U.length uc) U, rw_ eIL 27 (.slice dA D.length dc) D, nestIL 3 U, nestIL 3 D]) (fun _ => S) (fun _ => wf) (fun ⟨fr, W, u_W⟩ => (n - fr).toNat) (fun a_ w_ hs_ hw_ => ⟨⟨0, (List.replicate ((n * n)).toNat (-1)), .slice A5 ((List.replicate ((n * n)).toNat (-1)).length) c6⟩, (by (try dsimp only); exact ⟨oO, oO, (mn_0 hn1)⟩), hs_.mono (Sub.get (.c4 G G G G (.c4 G G G G (.c G .n)))), hw_.keep (.d (.d (.d (.d (.d (.d (.c .h .n)))))))⟩) (fun ⟨fr, W, u_W⟩ ⟨r_0, r_1, r_2⟩ => ?_)
 try dsimp only
 refine .seq (.region (.e G G G G G (.go idQ (.seq (.condI G bD (fun h28 => ?_) (fun h28 => ?_))))))
 ·
  refine .skipgo idQ (.seq (.block (.seq (.region (.m G G G (.a G G G (.go idQ (.seq (.region ?_)))))))))
  refine .m G G G (.v (ev_any (v := .func (.func 17) #[.pointer (some ⟨lb, 0, none⟩)] #[]) G kR (fun _ => by kernel_rfl)) G (.v (ev_any (v := .agg #[.func (.func 17) #[.pointer (some ⟨lb, 0, none⟩)] #[], .func (.func 41) #[] #[]]) G kR (fun _ => by kernel_rfl)) G (.m G G G ?_)))
  refine .cons (st_call0 G G G G hbd40 G (.c (.t4 (.t2 .h)) (.c (.t4 (.t2 .h)) (.c (.t4 (.t2 .h)) (.c (.t4 (.t2 .h)) (.c (.t4 (.t2 .h)) (.c (.t4 (.t2 .h)) (.c (.t4 (.t2 .h)) .n))))))) (findU lb rA rc R kA kc K uA uc U dA dc D n fr _ _ hC.hL hC.su ⟨by omega, by omega⟩) (fun v_q31 C_q31 q31 => ?_))
  obtain ⟨b29, M30, p32, rfl, rfl⟩ := q31
  show SP _ _ _ _ _ _ ⟨_, _ :: _ :: _ :: _ :: _ :: _ :: _ :: _ :: _, _, _⟩
  have hfu := hC.fu ⟨by omega, by omega⟩ p32
  refine .cons (st_range keZ G G G G underlying84 G (.t4 (.t2 (.t .h))) (fun r33 => ?_))
  refine .go idQ (.block (.loop (X := (List (Int × LA)) × (Option (Int × LA)) × (List Int) × Value) (fun ⟨Lg, cu_Lg, Y, u_Y⟩ => LfI M30 Lg ∧ MnI n (dsF n t) (fU n R K U fr) (fU n R K D) fr (prA M30 Lg (fU n R K D)) Y) (fun ⟨Lg, cu_Lg, Y, u_Y⟩ => [(0, .pointer (some ⟨lb, 0, none⟩)), (2, .pointer (some ⟨b1, 0, none⟩)), (3, .int .i64 n), (4, .pointer (some ⟨b8, 0, none⟩)), (5, .slice (some ⟨b9, 0, none⟩) ((n).toNat) ((n).toNat)), (26, .int .i64 n), (27, .int .i64 to), (55, .int .i64 n), (56, .int .i64 fr), (9, .int .i64 fr), (64, .pointer (some ⟨r33, 0, none⟩))]) (fun ⟨Lg, cu_Lg, Y, u_Y⟩ => [mpr keZ.f laV b29 r33 M30 Lg cu_Lg, cel lb [.slice rA R.length rc, .slice kA K.length kc, .slice uA U.length uc, .slice dA D.length dc] 76, rw_ eZ 3 (.slice rA R.length rc) R, rw_ eLK 44 (.slice kA K.length kc) K, rw_ eIL 27 (.slice uA U.length uc) U, rw_ eIL 27 (.slice dA D.length dc) D, nestIL 3 U, nestIL 3 D, nestER 72 Bk, rw_ eER 69 (.slice (some ⟨b9, 0, none⟩) ((n).toNat) ((n).toNat)) Bk, cel b8 [.int .i64 n, u_Y] 29, rw_ eZ 3 (u_Y) Y, rw_ eZ 3 (.slice (some ⟨b2, 0, none⟩) 1 1) [(-1)], cel b1 [.int .i64 0, .slice none 0 0] 29]) (fun _ => S) (fun _ => wf) (fun ⟨Lg, cu_Lg, Y, u_Y⟩ => Lg.length) (fun a_ w_ hs_ hw_ => ⟨⟨M30, none, W, u_W⟩, (by (try dsimp only); exact ⟨(lf_0 hfu.nd), (mn_a0 r_2)⟩), hs_.mono (Sub.get (.c4 G G G G (.c4 G G G G (.c G (.c G (.c G .n)))))), hw_.keep (.d (.d (.d (.d (.d (.d (.d .n)))))))⟩) (fun ⟨Lg, cu_Lg, Y, u_Y⟩ ⟨s_0, s_1⟩ => ?_)))
  try dsimp only
  refine .seq (.region (.cons (st_next keZ G G G G G .h (fun hz34 => ?_) (fun x35 v36 hl37 hm38 => ?_))))
  ·
   refine .x G G G G (.go idQ (.seq (.cond_f G (.exit idQ ?_))))
   refine .region (.p ((fr + 1)) oO oO G G G G G (.m G G G ?_))
   exact SP.nil (SQ.roundb (X := Int × (List Int) × Value) (x := (fr, W, u_W)) ⟨(fr + 1), Y, u_Y⟩ (by (try dsimp only); exact ⟨oO, oO, (mn_next ⟨by omega, by omega⟩ hfu (fun j j0 j1 => hC.ways ⟨by omega, by omega⟩ ⟨j0, j1⟩) (by rw [← hz34]; exact s_1))⟩) dO (Sub.get (.c4 G G G G (.c4 G G G G (.c G .n)))) (kp (.c (.t4 (.t4 .h)) (.c (.t4 (.t4 .h)) (.c (.t4 (.t4 .h)) (.c (.t4 (.t4 .h)) (.c (.t4 (.t4 .h)) (.c (.t4 (.t4 .h)) (.c (.t .h) (.c (.t .h) (.c (.t .h) (.c (.t .h) (.c (.t .h) (.c (.t .h) (.c (.t .h) .n)))))))))))))))
  refine .x G G G G (.go idQ (.seq (.cond_t G (.skipgo idQ (.block (.seq (.region ?_)))))))
  refine .v (ev_entry keZ (x := x35) (v := v36) G G 0 G) G (.x G G G G (.x G G G G (.cons (st_alloc G G G G zf90 (fun b39 => ?_)))))
  refine .a G G G (.cons (st_storea (l' := [.int .i64 v36.ld, .int .i64 v36.af, .int .i64 v36.ax, .int .i64 v36.aw, .int .i64 v36.am]) G G G ty90 G G G .h G G (.go idQ (.seq ?_))))
  have hva := lf_at hfu s_0 hl37
  have hel := hbk.el (p := x35) oO oO
  have hbl := hbk.len
  refine SC.outER x35 oO oO (.t4 (.t4 (.t .h))) (fun hol => ?_)
  refine .region (.m G G G (.m G G G (.v (ev_ix G underlying83 ty69 G G oO oO (fun _ _ => G)) G ?_)))
  refine .v (ev_ld1 G ty69 G (At.elem1 (row_el (E := eER) (l := Bk) (i := x35) 11 G oO oO) 0 G)) G (.g underlying69 G G G (.m G G G (.go idQ (.block ?_))))
  refine .loop (X := Int × (List Int) × Value) (fun ⟨k, Z, u_Z⟩ => 0 ≤ k ∧ k ≤ ((gt Bk x35).er.length : Int) ∧ MnI n (dsF n t) (fU n R K U fr) (fU n R K D) fr (prX M30 Lg (fU n R K D) (gt Bk x35).er x35 k.toNat) Z) (fun ⟨k, Z, u_Z⟩ => [(0, .pointer (some ⟨lb, 0, none⟩)), (2, .pointer (some ⟨b1, 0, none⟩)), (3, .int .i64 n), (4, .pointer (some ⟨b8, 0, none⟩)), (5, .slice (some ⟨b9, 0, none⟩) ((n).toNat) ((n).toNat)), (26, .int .i64 n), (27, .int .i64 to), (55, .int .i64 n), (56, .int .i64 fr), (9, .int .i64 fr), (64, .pointer (some ⟨r33, 0, none⟩)), (11, .pointer (some ⟨b39, 0, none⟩)), (73, .slice ((gt Bk x35).erA) ((gt Bk x35).er.length) ((gt Bk x35).erc)), (74, .int .i64 (((gt Bk x35).er.length : Nat) : Int)), (75, .int .i64 k)]) (fun ⟨k, Z, u_Z⟩ => [rw_ eEG 72 (.slice ((gt Bk x35).erA) ((gt Bk x35).er.length) ((gt Bk x35).erc)) ((gt Bk x35).er), nestER 72 (Bk.take (x35).toNat ++ Bk.drop (x35 + 1).toNat), cel b39 [.int .i64 v36.ld, .int .i64 v36.af, .int .i64 v36.ax, .int .i64 v36.aw, .int .i64 v36.am] 90, mpr keZ.f laV b29 r33 M30 (Lg.filter (fun p => decide (p.1 ≠ x35))) (some (x35, v36)), cel lb [.slice rA R.length rc, .slice kA K.length kc, .slice uA U.length uc, .slice dA D.length dc] 76, rw_ eZ 3 (.slice rA R.length rc) R, rw_ eLK 44 (.slice kA K.length kc) K, rw_ eIL 27 (.slice uA U.length uc) U, rw_ eIL 27 (.slice dA D.length dc) D, nestIL 3 U, nestIL 3 D, rw_ eER 69 (.slice (some ⟨b9, 0, none⟩) ((n).toNat) ((n).toNat)) Bk, cel b8 [.int .i64 n, u_Z] 29, rw_ eZ 3 (u_Z) Z, rw_ eZ 3 (.slice (some ⟨b2, 0, none⟩) 1 1) [(-1)], cel b1 [.int .i64 0, .slice none 0 0] 29]) (fun _ => S) (fun _ => wf) (fun ⟨k, Z, u_Z⟩ => (((gt Bk x35).er.length : Int) - k).toNat) (fun a_ w_ hs_ hw_ => ⟨⟨0, Y, u_Y⟩, (by (try dsimp only); exact ⟨oO, oO, (mn_x0 s_1)⟩), hs_.mono (Sub.get (.c4 G G G G (.c4 G G G G (.c4 G G G G (.c G (.c G (.c G .n))))))), hw_.keep (.d (.d (.d (.d (.d (.d (.d (.d .n))))))))⟩) (fun ⟨k, Z, u_Z⟩ ⟨u_0, u_1, u_2⟩ => ?_)
  try dsimp only
  have hzl := u_2.len
  refine .seq (.region (.e G G G G G (.go idQ (.seq (.condI G bD (fun h40 => ?_) (fun h40 => ?_))))))
  ·
   refine .skipgo idQ (.seq (.block (.seq (.region (.v (ev_ix G underlying69 ty72 G G oO oO (row_adr (i := k) 0 G oO lO)) G (.v (ev_lda G G (row_el (E := eEG) (l := (gt Bk x35).er) (i := k) 0 G oO lO) ty72) G (.cons (st_alloc G G G G zf72 (fun b41 => ?_)))))))))
   refine .cons (st_storea (l' := [.int .i64 ((gt ((gt Bk x35).er) k).et), .int .i64 ((gt ((gt Bk x35).er) k).ew)]) G G G ty72 G G G .h G G ?_)
   refine .go idQ (.seq ?_)
   have hee := hbk.ok x35 oO oO _ (gtM (l := (gt Bk x35).er) (i := k) oO oO)
   have hix := idx_rng (n := n) (a := fr) (b := (gt (gt Bk x35).er k).et) ⟨by omega, by omega⟩ ⟨by omega, by omega⟩
   refine .region (.f fo29_1 1 G G G G (.l ty27 13 G G G G G (.m G G G ?_)))
   refine .m G G G (.v (ev_mul G G G (r := (fr * n)) G oO oO) G (.f fo72_0 0 G G G G (.l ty3 0 G G G G G ?_)))
   refine .v (ev_add G G G (r := ((fr * n) + ((gt ((gt Bk x35).er) k).et))) G oO oO) G (.know (row_len 14 G) (fun hv44 => ?_))
   obtain ⟨A42, c43, rfl, hv44_1, hv44_2⟩ := hv44
   unfold maxLen at hv44_2
   refine .v (ev_ix G underlying27 ty3 G G oO oO (row_adr (i := ((fr * n) + ((gt ((gt Bk x35).er) k).et))) 14 G oO oO)) G (.a G G G (.go idQ (.seq ?_)))
   refine SC.draw mo [] [] .n (fun _ _ _ => sc0) (fun wf_45 hl_45 hx_45 hR_45 => ?_)
   refine SR.m 0 G G G G ?_
   refine SR.z 1 G G (ev_nil G G) ?_
   refine SR.z 2 G G (ev_ld1 G ty3 G (At.elem1 (At.d (Fr.el (i := ((fr * n) + ((gt ((gt Bk x35).er) k).et))) (Fr.lent (S := S) hR_45 14 G lO) oO oO)) 0 G)) ?_
   refine SR.z 3 G G (ev_cmp G G G G) ?_
   refine SR.m 4 G G G G ?_
   refine SR.y 5 G G (fun _ => ev_fa G fo90_0 G (r := 0) G) ?_
   refine SR.y 6 G G (fun hb => ev_ld1 G ty3 (lkg G hb) (At.d (At.lent hR_45 3 G G))) ?_
   refine SR.y 7 G G (fun _ => ev_fa G fo72_1 G (r := 1) G) ?_
   refine SR.y 8 G G (fun hb => ev_ld1 G ty3 (lkg G hb) (At.d (At.lent hR_45 0 G G))) ?_
   refine SR.y 9 G G (fun hb => have hp := bF bD hb; ev_add G (lkg G hb) (lkg G hb) (r := (v36.ld + ((gt ((gt Bk x35).er) k).ew))) G (by have _h := hp; omega) (by have _h := hp; omega)) ?_
   refine SR.y 10 G G (fun _ => ev_mv G G) ?_
   refine SR.y 11 G G (fun hb => ev_nil G (lkg G hb)) ?_
   refine SR.y 12 G G (fun hb => have hp := bF bD hb; ev_ld1 G ty3 (lkg G hb) (At.elem1 (At.d (Fr.el (i := ((fr * n) + ((gt ((gt Bk x35).er) k).et))) (Fr.lent (S := S) hR_45 14 G lO) (by have _h := hp; omega) (by have _h := hp; omega))) 0 G)) ?_
   refine SR.y 13 G G (fun hb => ev_cmp G (lkg G hb) (lkg G hb) G) ?_
   refine SR.z 14 G G (ev_or G G G G) ?_
   refine SR.fin kR hl_45 hx_45 hR_45 .n ?_
   refine SQ.go idQ ?_
   refine .condI G (bO bD bD) (fun h46 => ?_) (fun h46 => ?_)
   ·
    refine .region (.m G G G (.f fo90_0 0 G G G G (.l ty3 3 G G G G G ?_)))
    refine .f fo72_1 1 G G G G (.l ty3 0 G G G G G (.v (ev_add G G G (r := (v36.ld + ((gt ((gt Bk x35).er) k).ew))) G oO oO) G (.v (ev_nil G G) G ?_)))
    refine .cons (st_setel (E := eZ) (i := ((fr * n) + ((gt ((gt Bk x35).er) k).et))) (cs := [.int .i64 (v36.ld + ((gt ((gt Bk x35).er) k).ew))]) (off := 0) (v36.ld + ((gt ((gt Bk x35).er) k).ew)) G G G ty3 G G G G G (.t4 (.t4 (.t4 (.t2 .h)))) lO lO (Nat.le_of_ble_eq_true G) G ?_)
    refine .go idQ (.region (.p ((k + 1)) oO oO G G G G G (.m G G G ?_)))
    exact SP.nil (SQ.roundb (X := Int × (List Int) × Value) (x := (k, Z, (.slice A42 Z.length c43))) ⟨(k + 1), (Z.set (((fr * n) + ((gt ((gt Bk x35).er) k).et))).toNat (v36.ld + ((gt ((gt Bk x35).er) k).ew))), .slice A42 Z.length c43⟩ (by (try dsimp only); exact ⟨oO, oO, (mn_x1y hfu s_0 hbk hl37 ⟨by omega, by omega⟩ oO oO u_2 h46)⟩) dO (Sub.get (.c4 G G G G (.c4 G G G G (.c4 G G G G (.c G (.c G (.c G .n))))))) (kp (.c (.t2 .h) (.c (.t2 .h) (.c (.t2 .h) (.c (.t2 .h) (.c (.t2 .h) (.c (.t2 .h) (.c (.t2 .h) (.c (.t2 .h) (.c (.t2 .h) (.c (.t2 .h) (.c (.t2 .h) (.c (.t2 .h) (.c (.t2 .h) (.c .h (.c (.t .h) (.c (.t .h) .n))))))))))))))))))
   refine .skipgo idQ (.region (.p ((k + 1)) oO oO G G G G G (.m G G G ?_)))
   exact SP.nil (SQ.roundb (X := Int × (List Int) × Value) (x := (k, Z, (.slice A42 Z.length c43))) ⟨(k + 1), Z, .slice A42 Z.length c43⟩ (by (try dsimp only); exact ⟨oO, oO, (mn_x1n hfu s_0 hbk hl37 oO oO u_2 h46)⟩) dO (Sub.get (.c4 G G G G (.c4 G G G G (.c4 G G G G (.c G (.c G (.c G .n))))))) (kp (.c (.t .h) (.c (.t .h) (.c (.t .h) (.c (.t .h) (.c (.t .h) (.c (.t .h) (.c (.t .h) (.c (.t .h) (.c (.t .h) (.c (.t .h) (.c (.t .h) (.c (.t .h) (.c (.t .h) (.c (.t .h) (.c (.t .h) (.c (.t .h) .n))))))))))))))))))
  exact .exitq idQ (SQ.backER x35 oO oO (.d .n) hol <| (SQ.roundb (X := (List (Int × LA)) × (Option (Int × LA)) × (List Int) × Value) (x := (Lg, cu_Lg, Y, u_Y)) ⟨(Lg.filter (fun p => decide (p.1 ≠ x35))), (some (x35, v36)), Z, u_Z⟩ (by (try dsimp only); exact ⟨(lf_next s_0), (mn_x2 hfu s_0 hbk hl37 oO u_2)⟩) (mfilter_lt hl37) (Sub.get (.c4 G G G G (.c4 G G G G (.c G (.c G (.c G .n)))))) (kp (.c (.t2 .h) (.c (.t2 .h) (.c (.t2 .h) (.c (.t2 .h) (.c (.t2 .h) (.c (.t2 .h) (.c (.t2 .h) (.c (.t2 .h) (.c .h (.c (.t .h) (.c (.t .h) (.c (.t .h) (.c (.t .h) (.c (.t .h) .n)))))))))))))))))
 refine .exit idQ ?_
 refine .seq (.region (.d 2 ty29 G G G G (.know (row_len 3 G) (fun hv49 => ?_))))
 obtain ⟨A47, c48, rfl, hv49_1, hv49_2⟩ := hv49
 unfold maxLen at hv49_2
 refine .cons (st_storea (l' := [.int .i64 n, .slice A47 W.length c48]) G G G ty29 G G G (.t4 (.t .h)) G G ?_)
 refine .go idQ (.ret idQ (retv1 results13 (.c 0 G G ty29) (.c (.t4 (.t2 .h)) (.c (.t4 (.t2 .h)) (.c (.t4 (.t2 .h)) (.c (.t4 (.t2 .h)) (.c (.t4 (.t2 .h)) (.c (.t4 (.t2 .h)) (.c (.t4 (.t2 .h)) (.c (.t4 .h) .n)))))))) ⟨.slice A47 W.length c48, W, (mn_mf (by have h_ := r_2; rw [show fr = n from by omega] at h_; exact h_)), G, G⟩))
end Go.Proofs.Ytpjblnmophcdmaa.Sx
set_option maxRecDepth 20000
set_option maxHeartbeats 8000000
set_option maxRecDepth 20000
set_option maxHeartbeats 8000000
namespace Go.Proofs.Ytpjblnmophcdmaa.Sx.FCH
open Go Go.SX Go.Proofs Go.Proofs.Try FA FB FC FD FE FF FG FH FI FJ FK FL FM FN FO FP FQ FR FS FCA FCB FCC FCE FCF
theorem hbd10 : hasBody prog 10 = true := by kernel_rfl
theorem hbd11 : hasBody prog 11 = true := by kernel_rfl
theorem hbd14 : hasBody prog 14 = true := by kernel_rfl
theorem hbd13 : hasBody prog 13 = true := by kernel_rfl
end Go.Proofs.Ytpjblnmophcdmaa.Sx.FCH
namespace Go.Proofs.Ytpjblnmophcdmaa.Sx
open Go Go.SX Go.Proofs Go.Proofs.Try FA FB FC FD FE FF FG FH FI FJ FK FL FM FN FO FP FQ FR FS FCA FCB FCC FCE FCF FCH
theorem awake8_ (S : Nat → Prop) (wf : World) :
  TR0 prog 9 [] [] S wf (fun v_ C_ => v_ = .bool true ∧ C_ = []) := by
 refine TR.mk func9 G ntmps9 G G (fun w_ => ?_)
 refine .seq (.region (.a G G G (.go idQ (.seq (.region (.v (ev_any (v := .agg #[.int .i64 0, .int .i64 1, .int .i64 4, .int .i64 0]) G kR (fun _ => by kernel_rfl)) G ?_))))))
 refine .v (ev_any (v := .agg #[.int .i64 1, .int .i64 2, .int .i64 0, .int .i64 0]) G kR (fun _ => by kernel_rfl)) G (.cons (st_lit eAR (e := 54) (l := [(AR.mk 0 1 4 0), (AR.mk 1 2 0 0)]) G G G G kR G G kW (fun b1 => (.v (ev_any (v := .agg #[.int .i64 3, .slice (some ⟨b1, 0, none⟩) 2 2]) G kR (fun _ => by kernel_rfl)) G (.cons (st_lend0 G G G G hbd10 G .n (.c .h .n) (fun w_ hw => graphF 3 (some ⟨b1, 0, none⟩) 2 [(AR.mk 0 1 4 0), (AR.mk 1 2 0 0)] _ _ (Fr.lend hw 0 G lO) ra8) (fun v_q10 C_q10 q10 => ?_)))))))
 obtain ⟨b2, u3, v4, fi5, ed6, x7, y8, W9, p11, p12, p13, rfl, rfl⟩ := q10
 show SP _ _ _ _ _ _ ⟨_, _ :: _ :: _ :: _ :: _ :: _ :: _, _, _⟩
 have hgl := p11.len
 have hgn := p11.ne
 refine .m G G G (.x G G G G (.x G G G G (.x G G G G ?_)))
 refine .x G G G G (.cons (st_alloc G G G G zf29 (fun b14 => (.cons (st_alloc G G G G zf29 (fun b15 => (.a G G G ?_)))))))
 refine .know (row_len 5 G) (fun hv18 => ?_)
 obtain ⟨A16, c17, rfl, hv18_1, hv18_2⟩ := hv18
 unfold maxLen at hv18_2
 refine .cons (st_storea (l' := [.int .i64 3, .slice A16 ((tabF 3 false [(AR.mk 0 1 4 0), (AR.mk 1 2 0 0)]).length) c17]) G G G ty29 G G G (.t .h) G G ?_)
 refine .know (row_len 6 G) (fun hv21 => ?_)
 obtain ⟨A19, c20, rfl, hv21_1, hv21_2⟩ := hv21
 unfold maxLen at hv21_2
 refine .cons (st_storea (l' := [.int .i64 3, .slice A19 W9.length c20]) G G G ty29 G G G (.t .h) G G ?_)
 refine .a G G G (.go idQ (.seq (.region (.m G G G (.know (row_len 3 G) (fun hv24 => ?_))))))
 obtain ⟨A22, c23, rfl, hv24_1, hv24_2⟩ := hv24
 unfold maxLen at hv24_2
 refine .know (row_len 4 G) (fun hv27 => ?_)
 obtain ⟨A25, c26, rfl, hv27_1, hv27_2⟩ := hv27
 unfold maxLen at hv27_2
 refine .cons (st_lend0 G G G G hbd11 G (.c (.t2 .h) .n) (.c (.t2 .h) (.c (.t2 .h) .n)) (fun w_ hw => build_ 3 (tabF 3 false [(AR.mk 0 1 4 0), (AR.mk 1 2 0 0)]) b2 A22 c23 fi5 A25 c26 ed6 _ _ (Fr.lend hw 0 G lO) (Fr.lend hw 1 G lO) (tab_ok ra8) p11 lO) (fun v_q37 C_q37 q37 => ?_))
 obtain ⟨lb28, v129, v230, v331, v432, R33, K34, U35, D36, p38, rfl, rfl⟩ := q37
 show SP _ _ _ _ _ _ ⟨_, _ :: _ :: _ :: _ :: _ :: _ :: _ :: _ :: _ :: _ :: _, _, _⟩
 have hC := lc (tab_ok ra8) p11 p38
 refine .a G G G (.go idQ (.seq (.know (row_len 2 G) (fun hv41 => ?_))))
 obtain ⟨A39, c40, rfl, hv41_1, hv41_2⟩ := hv41
 unfold maxLen at hv41_2
 refine .know (row_len 3 G) (fun hv44 => ?_)
 obtain ⟨A42, c43, rfl, hv44_1, hv44_2⟩ := hv44
 unfold maxLen at hv44_2
 refine .know (row_len 4 G) (fun hv47 => ?_)
 obtain ⟨A45, c46, rfl, hv47_1, hv47_2⟩ := hv47
 unfold maxLen at hv47_2
 refine .know (row_len 5 G) (fun hv50 => ?_)
 obtain ⟨A48, c49, rfl, hv50_1, hv50_2⟩ := hv50
 unfold maxLen at hv50_2
 refine .region (.m G G G (.cons (st_callk G G G G hbd14 G (.c (.t .h) (.c (.t .h) (.c (.t .h) (.c (.t .h) (.c (.t .h) (.c (.t .h) (.c (.t .h) .n))))))) (dist8_ lb28 A39 c40 R33 A42 c43 K34 A45 c46 U35 A48 c49 D36 3 (tabF 3 false [(AR.mk 0 1 4 0), (AR.mk 1 2 0 0)]) 0 2 _ _ hC) (.e G G G G G ?_))))
 refine .m G G G (.w (fun _ => ev_mv G G) G (.cons (st_gcallk G G G G G G hbd14 (fun hb => (lkA1 (lkg G hb) (lkA1 G (lkA1 G lkA0)))) (.c (.t .h) (.c (.t .h) (.c (.t .h) (.c (.t .h) (.c (.t .h) (.c (.t .h) (.c (.t .h) .n))))))) (fun hb => have hp := bT bE hb; dist8_ lb28 A39 c40 R33 A42 c43 K34 A45 c46 U35 A48 c49 D36 3 (tabF 3 false [(AR.mk 0 1 4 0), (AR.mk 1 2 0 0)]) 2 0 _ _ hC) (.w (fun hb => ev_cmp G (lkg G hb) G G) G ?_))))
 refine .v (ev_and G G G G) G (.m G G G (.w (fun _ => ev_mv G G) G ?_))
 rcases Bool.eq_false_or_eq_true (((dsF 3 (tabF 3 false [(AR.mk 0 1 4 0), (AR.mk 1 2 0 0)]) 0 2) == 4) && ((dsF 3 (tabF 3 false [(AR.mk 0 1 4 0), (AR.mk 1 2 0 0)]) 2 0) == (-1))) with hb51 | hb51
 ·
  refine SP.reslot (t := 26) G hb51 ?_
  have hb51_ := bT (bA bE bE) hb51
  refine .cons (.on G G G (st_call0 G G G G hbd13 (lkA1 (lkg G hb51) lkA0) (.c (.t .h) (.c (.t .h) (.c (.t .h) (.c (.t .h) (.c (.t .h) (.c (.t .h) (.c (.t .h) .n))))))) (table_ lb28 A39 c40 R33 A42 c43 K34 A45 c46 U35 A48 c49 D36 3 (tabF 3 false [(AR.mk 0 1 4 0), (AR.mk 1 2 0 0)]) _ _ hC) (fun v_q54 C_q54 q54 => ?_)))
  obtain ⟨u52, W53, p55, rfl, rfl⟩ := q54
  show SP _ _ _ _ _ _ ⟨_, _ :: _ :: _ :: _ :: _ :: _ :: _ :: _ :: _, _, _⟩
  refine .cons (.on G G G (Ev.step (ev_any (v := .int .i64 3) G kR (fun _ => by kernel_rfl)) G G G ?_))
  refine .cons (.on G G G (Ev.step (ev_cmp (r := true) G G G G) G G G ?_))
  refine .v (ev_pickt G G G G) G (.a G G G (.go idQ (.ret idQ (ret1 results9 G .n ⟨(congrArg Value.bool (by first | rfl | exact absurd (And.intro aw8a aw8b) (by assumption))), G⟩))))
 refine SP.reslot (t := 26) G hb51 ?_
 have hb51_ := bF (bA bE bE) hb51
 refine .cons (.off G G G G G G ?_)
 refine .cons (.off G G G G G G ?_)
 refine .cons (.off G G G G G G ?_)
 refine .v (ev_pickf G G G G) G (.a G G G (.go idQ (.ret idQ (ret1 results9 G .n ⟨(congrArg Value.bool (by first | rfl | exact absurd (And.intro aw8a aw8b) (by assumption))), G⟩))))
end Go.Proofs.Ytpjblnmophcdmaa.Sx
set_option maxRecDepth 20000
set_option maxHeartbeats 8000000
set_option maxRecDepth 20000
set_option maxHeartbeats 8000000
namespace Go.Proofs.Ytpjblnmophcdmaa.Sx.FCJ
open Go Go.SX Go.Proofs Go.Proofs.Try FA FB FC FD FE FF FG FH FI FJ FK FL FM FN FO FP FQ FR FS FCA FCB FCC FCE FCF FCH
theorem hbd79 : hasBody prog 79 = true := by kernel_rfl
end Go.Proofs.Ytpjblnmophcdmaa.Sx.FCJ
namespace Go.Proofs.Ytpjblnmophcdmaa.Sx
open Go Go.SX Go.Proofs Go.Proofs.Try FA FB FC FD FE FF FG FH FI FJ FK FL FM FN FO FP FQ FR FS FCA FCB FCC FCE FCF FCH FCJ
theorem growLK_ (z : Int) (S : Nat → Prop) (wf : World) (h0 : 0 ≤ z) (h1 : z ≤ 4000000) :
  TR0 prog 79 [.slice none 0 0, .int .i64 z] [] S wf (fun v_ C_ => ∃ (u : Value), v_ = u ∧ C_ = [rw_ eLK 44 (u) ([] : List LK)]) := by
 refine TR.mk func79 G ntmps79 G G (fun w_ => ?_)
 refine .seq (.region (.a G G G (.go idQ (.seq (.seq (.region (.m G G G ?_)))))))
 refine .e G G G G G (.go idQ (.condI G bD (fun h1 => ?_) (fun h1 => ?_)))
 ·
  exfalso; omega
 refine .skipgo idQ (.seq (.seq (.region (.m G G G (.m G G G (.v (ev_cap G underlying41 G) G ?_))))))
 refine .m G G G (.g underlying41 G G G (.v (ev_sub G G G (r := 0) G oO oO) G (.v (ev_sub G G G (r := (z - 0)) G oO oO) G ?_)))
 refine .a G G G (.go idQ (.seq (.region (.m G G G (.e G G G G G ?_)))))
 refine .go idQ (.condI G bD (fun h2 => ?_) (fun h2 => ?_))
 ·
  refine .region (.m G G G (.m G G G (.v (ev_cap G underlying41 G) G ?_)))
  refine .v (ev_slc G underlying41 ty44 G .n (.s G oO) oO oO) G (.m G G G (.cons (st_nilz (k := ((z - 0)).toNat) G G G G underlying41 underlying3 ai44 G G G G G oO oO oO (fun g3 c4 T5 hT5_1 hT5_2 hT5l => ?_))))
  unfold maxLen at hT5_2
  refine .m G G G (.g underlying41 G G G (.v (ev_slc0 G underlying41 ty44 G (.s G oO) oO) G (.a G G G ?_)))
  refine .go idQ (.seq (.region (.m G G G (.a G G G (.go idQ ?_)))))
  refine SC.close' (E := eLK) (n := 0) (([] : List LK)) .h ((by simp [flat])) (by (try simp only [List.length_nil, List.length_append, List.length_take, List.length_drop, List.length_reverse, List.length_replicate]) <;> omega) oO (by show _ ≤ 9223372036854775807; omega) hT5l ?_
  exact .ret idQ (ret1 results79 G (.c .h .n) ⟨.slice (some ⟨g3, 0, none⟩) 0 c4, G, G⟩)
 refine .skipgo idQ (.seq (.region (.m G G G (.a G G G (.go idQ ?_)))))
 refine SC.nilrow eLK 44 ?_
 exact .ret idQ (ret1 results79 G (.c .h .n) ⟨.slice none 0 0, G, G⟩)
theorem concatLK_ (s : Nat) (A : Option Addr) (n : Nat) (c : Nat) (B : Option Addr) (m : Nat) (d : Nat) (a : List LK) (b : List LK) (S : Nat → Prop) (wf : World) (hA : Fr eLK S wf A a) (hB : Fr eLK S wf B b) (hn : a.length = n) (hm : b.length = m) (ha : a.length ≤ 1000000) (hb : b.length ≤ 1000000) :
  TR0 prog 75 [.slice (some ⟨s, 0, none⟩) 2 2] [rw_ eV 41 (.slice (some ⟨s, 0, none⟩) 2 2) [⟨.slice A n c, rfl⟩, ⟨.slice B m d, rfl⟩]] S wf (fun v_ C_ => ∃ (u : Value), v_ = u ∧ C_ = [rw_ eV 41 (.slice (some ⟨s, 0, none⟩) 2 2) [⟨.slice A n c, rfl⟩, ⟨.slice B m d, rfl⟩], rw_ eLK 44 (u) (a ++ b)]) := by
 refine TR.mk func75 G ntmps75 G G (fun w_ => ?_)
 refine .seq (.region (.a G G G (.go idQ (.seq (.region (.a G G G ?_))))))
 refine .go idQ (.seq (.seq (.region (.m G G G (.g underlying146 G G G (.m G G G ?_))))))
 refine .go idQ (.block (.loop (X := Int × Int) (fun ⟨x, z⟩ => 0 ≤ x ∧ x ≤ 2 ∧ ((x = 0 ∧ z = 0) ∨ (x = 1 ∧ z = n) ∨ (x = 2 ∧ z = n + m))) (fun ⟨x, z⟩ => [(0, .slice (some ⟨s, 0, none⟩) 2 2), (3, .int .i64 z), (9, .slice (some ⟨s, 0, none⟩) 2 2), (10, .int .i64 2), (11, .int .i64 x)]) (fun ⟨x, z⟩ => [rw_ eV 41 (.slice (some ⟨s, 0, none⟩) 2 2) [⟨.slice A n c, G⟩, ⟨.slice B m d, G⟩]]) (fun _ => S) (fun _ => wf) (fun ⟨x, z⟩ => (2 - x).toNat) (fun a_ w_ hs_ hw_ => ⟨⟨0, 0⟩, (by (try dsimp only); exact ⟨by omega, by omega, by omega⟩), hs_.mono (Sub.get (.c4 G G G G (.c G .n))), hw_.keep (.c .h .n)⟩) (fun ⟨x, z⟩ ⟨hk1_0, hk1_1, hk1_2⟩ => ?_)))
 try dsimp only
 refine .seq (.region (.e G G G G G (.go idQ (.seq (.condI G bD (fun h2 => ?_) (fun h2 => ?_))))))
 ·
  refine .skipgo idQ (.seq (.block (.seq ?_)))
  obtain rfl | rfl : x = 0 ∨ x = 1 := by omega
  ·
   refine .region (.v (ev_ix G underlying146 ty41 G G oO oO (fun _ _ => G)) G (.v (ev_ld1 G ty41 G (At.elem1 (v := .slice A n c) (row_el (E := eV) (l := [⟨.slice A n c, G⟩, ⟨.slice B m d, G⟩]) (i := 0) 0 G oO lO) 0 G)) G (.a G G G ?_)))
   refine .go idQ (.seq (.region (.m G G G (.m G G G (.g underlying41 G G G ?_)))))
   refine .p ((z + (n : Int))) oO oO G G G G G (.a G G G (.go idQ (.seq (.region (.m G G G ?_)))))
   refine .e G G G G G (.go idQ (.condI G bD (fun h3 => ?_) (fun h3 => ?_)))
   ·
    exfalso; omega
   refine .skipgo idQ (.region (.p 1 oO oO G G G G G (.m G G G ?_)))
   exact SP.nil (SQ.roundb (X := Int × Int) (x := (0, z)) ⟨1, (z + (n : Int))⟩ (by (try dsimp only); exact ⟨by omega, by omega, by omega⟩) dO (Sub.get (.c4 G G G G (.c G .n))) (kp (.c .h .n)))
  refine .region (.v (ev_ix G underlying146 ty41 G G oO oO (fun _ _ => G)) G (.v (ev_ld1 G ty41 G (At.elem1 (v := .slice B m d) (row_el (E := eV) (l := [⟨.slice A n c, G⟩, ⟨.slice B m d, G⟩]) (i := 1) 0 G oO lO) 0 G)) G (.a G G G ?_)))
  refine .go idQ (.seq (.region (.m G G G (.m G G G (.g underlying41 G G G ?_)))))
  refine .p ((z + (m : Int))) oO oO G G G G G (.a G G G (.go idQ (.seq (.region (.m G G G ?_)))))
  refine .e G G G G G (.go idQ (.condI G bD (fun h4 => ?_) (fun h4 => ?_)))
  ·
   exfalso; omega
  refine .skipgo idQ (.region (.p 2 oO oO G G G G G (.m G G G ?_)))
  exact SP.nil (SQ.roundb (X := Int × Int) (x := (1, z)) ⟨2, (z + (m : Int))⟩ (by (try dsimp only); exact ⟨by omega, by omega, by omega⟩) dO (Sub.get (.c4 G G G G (.c G .n))) (kp (.c .h .n)))
 refine .exit idQ ?_
 refine .seq (.region (.m G G G (.cons (st_call0 G G G G hbd79 G .n (growLK_ z _ _ oO oO) (fun v_q6 C_q6 q6 => ?_)))))
 obtain ⟨u5, rfl, rfl⟩ := q6
 show SP _ _ _ _ _ _ ⟨_, _ :: _, _, _⟩
 refine .a G G G (.go idQ (.seq (.seq (.region (.m G G G (.g underlying146 G G G ?_))))))
 refine .m G G G (.go idQ (.block (.loop (X := Int × (List LK) × Value) (fun ⟨y, X, U⟩ => 0 ≤ y ∧ y ≤ 2 ∧ X.length ≤ 2000000 ∧ X = ([a, b].take y.toNat).flatten) (fun ⟨y, X, U⟩ => [(0, .slice (some ⟨s, 0, none⟩) 2 2), (6, U), (25, .slice (some ⟨s, 0, none⟩) 2 2), (26, .int .i64 2), (27, .int .i64 y)]) (fun ⟨y, X, U⟩ => [rw_ eLK 44 (U) X, rw_ eV 41 (.slice (some ⟨s, 0, none⟩) 2 2) [⟨.slice A n c, G⟩, ⟨.slice B m d, G⟩]]) (fun _ => S) (fun _ => wf) (fun ⟨y, X, U⟩ => (2 - y).toNat) (fun a_ w_ hs_ hw_ => ⟨⟨0, ([] : List LK), v_q6⟩, (by (try dsimp only); exact ⟨by omega, by omega, by simp, by simp⟩), hs_.mono (Sub.get (.c4 G G G G (.c G .n))), hw_.keep (.d .n)⟩) (fun ⟨y, X, U⟩ ⟨q_0, q_1, q_2, q_3⟩ => ?_))))
 try dsimp only
 refine .seq (.region (.e G G G G G (.go idQ (.seq (.condI G bD (fun h7 => ?_) (fun h7 => ?_))))))
 ·
  refine .skipgo idQ (.seq (.block (.seq ?_)))
  obtain rfl | rfl : y = 0 ∨ y = 1 := by omega
  ·
   refine .region (.v (ev_ix G underlying146 ty41 G G oO oO (fun _ _ => G)) G (.v (ev_ld1 G ty41 G (At.elem1 (v := .slice A n c) (row_el (E := eV) (l := [⟨.slice A n c, G⟩, ⟨.slice B m d, G⟩]) (i := 0) 1 G oO lO) 0 G)) G (.a G G G ?_)))
   refine .go idQ (.region (.m G G G (.m G G G (.cons (st_app (E := eLK) (m := a) G G G G underlying41 ai44 G G G .h rO (Src.w (Fr.flat hA)) lO G (fun v8 => ?_))))))
   refine .a G G G (.go idQ (.region (.p 1 oO oO G G G G G (.m G G G ?_))))
   exact SP.nil (SQ.roundb (X := Int × (List LK) × Value) (x := (0, X, U)) ⟨1, (X ++ a), v8⟩ (by subst q_3; exact ⟨by omega, by omega, by simp; omega, by simp⟩) dO (Sub.get (.c4 rfl rfl rfl rfl (.c rfl .n))) (kp (.d .n)))
  refine .region (.v (ev_ix G underlying146 ty41 G G oO oO (fun _ _ => G)) G (.v (ev_ld1 G ty41 G (At.elem1 (v := .slice B m d) (row_el (E := eV) (l := [⟨.slice A n c, G⟩, ⟨.slice B m d, G⟩]) (i := 1) 1 G oO lO) 0 G)) G (.a G G G ?_)))
  refine .go idQ (.region (.m G G G (.m G G G (.cons (st_app (E := eLK) (m := b) G G G G underlying41 ai44 G G G .h rO (Src.w (Fr.flat hB)) lO G (fun v9 => ?_))))))
  refine .a G G G (.go idQ (.region (.p 2 oO oO G G G G G (.m G G G ?_))))
  exact SP.nil (SQ.roundb (X := Int × (List LK) × Value) (x := (1, X, U)) ⟨2, (X ++ b), v9⟩ (by subst q_3; exact ⟨by omega, by omega, by simp; omega, by simp⟩) dO (Sub.get (.c4 rfl rfl rfl rfl (.c rfl .n))) (kp (.d .n)))
 refine .exit idQ ?_
 refine .seq (.region (.m G G G (.a G G G (.go idQ ?_))))
 exact .ret idQ (ret1 results75 rfl (.c (.t .h) (.c .h .n)) ⟨U, rfl, (by obtain rfl : y = 2 := oO; subst q_3; simp)⟩)
theorem revLK_ (A : Option Addr) (n : Nat) (c : Nat) (l : List LK) (S : Nat → Prop) (wf : World) (hn : l.length = n) (hb : n ≤ 1000000) :
  TR0 prog 46 [.slice A n c] [rw_ eLK 44 (.slice A n c) l] S wf (fun v_ C_ => v_ = .tuple #[] ∧ C_ = [rw_ eLK 44 (.slice A n c) l.reverse]) := by
 refine TR.mk func46 G ntmps46 G G (fun w_ => ?_)
 refine .seq (.region (.m G G G (.g underlying41 G G G (.v (ev_sub G G G (r := ((n : Int) - 1)) G oO oO) G ?_))))
 refine .a rfl rfl rfl (.a rfl rfl rfl (.go idQ (.block (.loop (X := Int × Int × (List LK)) (fun ⟨x, y, X⟩ => 0 ≤ x ∧ x ≤ n ∧ y ≤ n ∧ x + y = (l.length : Int) - 1 ∧ revI l X x y ∧ X.length = n) (fun ⟨x, y, X⟩ => [(0, .slice A n c), (2, .int .i64 x), (3, .int .i64 y)]) (fun ⟨x, y, X⟩ => [rw_ eLK 44 (.slice A n c) X]) (fun _ => S) (fun _ => wf) (fun ⟨x, y, X⟩ => (y - x + 1).toNat) (fun a_ w_ hs_ hw_ => ⟨⟨0, ((n : Int) - 1), l⟩, (by (try dsimp only); exact ⟨oO, oO, oO, oO, (by subst hn; exact revI_init), hn⟩), hs_.mono (Sub.get (.c rfl (.c rfl (.c rfl .n)))), hw_.keep (.c .h .n)⟩) (fun ⟨x, y, X⟩ ⟨q_0, q_1, q_2, q_3, q_4, q_5⟩ => ?_)))))
 try dsimp only
 refine .seq (.seq (.region (.m G G G (.m G G G (.e G G G G G ?_)))))
 refine .go idQ (.condI G bD (fun h1 => ?_) (fun h1 => ?_))
 ·
  refine .skipgo idQ (.seq (.block ?_))
  refine SC.draw mo [rw_ eLK 44 (.slice A n c) X] [(13, fun w => At w (ab A) (ao A + (y).toNat * eLK.sz) (eLK.enc (gt X y))), (13, fun w => At w (ab A) (ao A + (x).toNat * eLK.sz) (eLK.enc (gt X x)))] (.c .h .n) (fun w_ _ hw_ => (sc1 (row_el (E := eLK) (l := X) (i := y) 0 G oO lO w_ hw_) (sc1 (row_el (E := eLK) (l := X) (i := x) 0 G oO lO w_ hw_) sc0))) (fun wf_2 hl_2 hx_2 hR_2 => ?_)
  refine SR.m 0 G G G G ?_
  refine SR.m 1 G G G G ?_
  refine SR.m 2 G G G G ?_
  refine SR.m 3 G G G G ?_
  refine SR.m 4 G G G G ?_
  refine SR.m 5 G G G G ?_
  refine SR.m 8 G G G G ?_
  refine SR.m 9 G G G G ?_
  refine SR.two (i := 6) (j := 10) kR ⟨_, G, ?_⟩ ⟨_, G, ?_⟩
  ·
   refine Ev.step (ev_ix G underlying41 ty44 G G oO oO (row_adr (i := y) 0 G oO oO)) G G G ⟨ttc (fun w_ hw_ => (tc1 (row_el (i := y) 0 G oO oO w_ hw_) (tc1 (row_el (i := x) 0 G oO oO w_ hw_) tc0))), ?_⟩
   refine SR.z 7 G G (ev_lda G G ((At.ofcs 0 G kR)) ty44) ?_
   refine SR.o 10 G (Ev.step (ev_ix G underlying41 ty44 G G oO oO (row_adr (i := x) 0 G oO oO)) G G G ⟨ttc (fun w_ hw_ => (tc1 (row_el (i := y) 0 G oO oO w_ hw_) (tc1 (row_el (i := x) 0 G oO oO w_ hw_) tc0))), ?_⟩)
   refine SR.z 11 G G (ev_lda G G ((At.ofcs 1 G kR)) ty44) ?_
   refine SR.o 12 G (Ev.step (ev_ix G underlying41 ty44 G G oO oO (row_adr (i := x) 0 G oO oO)) G G G ⟨ttc (fun w_ hw_ => (tc1 (row_el (i := y) 0 G oO oO w_ hw_) (tc1 (row_el (i := x) 0 G oO oO w_ hw_) tc0))), ?_⟩)
   refine SR.o 13 G (st_setel (E := eLK) (i := x) (cs := [.int .i64 ((gt X y).lf), .int .i64 ((gt X y).lt), .int .i64 ((gt X y).lw), .int .i64 ((gt X y).lm)]) (off := 0) (gt X y) G G G ty44 G G G G G .h lO lO (Nat.le_of_ble_eq_true G) G ⟨ttc (fun w_ hw_ => (tc2 kR (tc2 kR tc0))), ?_⟩)
   refine SR.o 14 G (Ev.step (ev_ix G underlying41 ty44 G G oO oO (row_adr (i := y) 0 G oO lO)) G G G ⟨ttc (fun w_ hw_ => (tc2 kR (tc2 kR tc0))), ?_⟩)
   refine SR.o 15 G (st_setel (E := eLK) (i := y) (cs := [.int .i64 ((gt X x).lf), .int .i64 ((gt X x).lt), .int .i64 ((gt X x).lw), .int .i64 ((gt X x).lm)]) (off := 0) (gt X x) G G G ty44 G G G G G .h lO lO (Nat.le_of_ble_eq_true G) G ⟨ttc (fun w_ hw_ => (tc2 kR (tc2 kR tc0))), ?_⟩)
   refine SR.fin kR hl_2 hx_2 hR_2 (.c .n) ?_
   refine SQ.go idQ ?_
   refine .region (.m G G G (.p ((x + 1)) oO oO G G G G G (.m G G G ?_)))
   refine .v (ev_sub G G G (r := (y - 1)) G oO oO) G (.a G G G (.a G G G ?_))
   exact SP.nil (SQ.roundb (X := Int × Int × (List LK)) (x := (x, y, X)) ⟨(x + 1), (y - 1), ((X.set (x).toNat (gt X y)).set (y).toNat (gt X x))⟩ (by (try dsimp only); exact ⟨oO, oO, oO, oO, (revI_next q_4 oO oO oO), (by simp only [List.length_set]; exact q_5)⟩) dO (Sub.get (.c G (.c G (.c G .n)))) (kp (.c .h .n)))
  refine Ev.step (ev_ix G underlying41 ty44 G G oO oO (row_adr (i := x) 0 G oO oO)) G G G ⟨ttc (fun w_ hw_ => (tc1 (row_el (i := y) 0 G oO oO w_ hw_) (tc1 (row_el (i := x) 0 G oO oO w_ hw_) tc0))), ?_⟩
  refine SR.z 11 G G (ev_lda G G ((At.ofcs 1 G kR)) ty44) ?_
  refine SR.o 6 G (Ev.step (ev_ix G underlying41 ty44 G G oO oO (row_adr (i := y) 0 G oO oO)) G G G ⟨ttc (fun w_ hw_ => (tc1 (row_el (i := y) 0 G oO oO w_ hw_) (tc1 (row_el (i := x) 0 G oO oO w_ hw_) tc0))), ?_⟩)
  refine SR.z 7 G G (ev_lda G G ((At.ofcs 0 G kR)) ty44) ?_
  refine SR.o 12 G (Ev.step (ev_ix G underlying41 ty44 G G oO oO (row_adr (i := x) 0 G oO oO)) G G G ⟨ttc (fun w_ hw_ => (tc1 (row_el (i := y) 0 G oO oO w_ hw_) (tc1 (row_el (i := x) 0 G oO oO w_ hw_) tc0))), ?_⟩)
  refine SR.o 13 G (st_setel (E := eLK) (i := x) (cs := [.int .i64 ((gt X y).lf), .int .i64 ((gt X y).lt), .int .i64 ((gt X y).lw), .int .i64 ((gt X y).lm)]) (off := 0) (gt X y) G G G ty44 G G G G G .h lO lO (Nat.le_of_ble_eq_true G) G ⟨ttc (fun w_ hw_ => (tc2 kR (tc2 kR tc0))), ?_⟩)
  refine SR.o 14 G (Ev.step (ev_ix G underlying41 ty44 G G oO oO (row_adr (i := y) 0 G oO lO)) G G G ⟨ttc (fun w_ hw_ => (tc2 kR (tc2 kR tc0))), ?_⟩)
  refine SR.o 15 G (st_setel (E := eLK) (i := y) (cs := [.int .i64 ((gt X x).lf), .int .i64 ((gt X x).lt), .int .i64 ((gt X x).lw), .int .i64 ((gt X x).lm)]) (off := 0) (gt X x) G G G ty44 G G G G G .h lO lO (Nat.le_of_ble_eq_true G) G ⟨ttc (fun w_ hw_ => (tc2 kR (tc2 kR tc0))), ?_⟩)
  refine SR.fin kR hl_2 hx_2 hR_2 (.c .n) ?_
  refine SQ.go idQ ?_
  refine .region (.m G G G (.p ((x + 1)) oO oO G G G G G (.m G G G ?_)))
  refine .v (ev_sub G G G (r := (y - 1)) G oO oO) G (.a G G G (.a G G G ?_))
  exact SP.nil (SQ.roundb (X := Int × Int × (List LK)) (x := (x, y, X)) ⟨(x + 1), (y - 1), ((X.set (x).toNat (gt X y)).set (y).toNat (gt X x))⟩ (by (try dsimp only); exact ⟨oO, oO, oO, oO, (revI_next q_4 oO oO oO), (by simp only [List.length_set]; exact q_5)⟩) dO (Sub.get (.c G (.c G (.c G .n)))) (kp (.c .h .n)))
 exact .exitq idQ (end0 results46 (.c .h .n) ⟨G, (by rw [revI_end q_4 oO oO])⟩)
end Go.Proofs.Ytpjblnmophcdmaa.Sx
set_option maxRecDepth 20000
set_option maxHeartbeats 8000000
namespace Go.Proofs.Ytpjblnmophcdmaa.Sx.FCK
open Go Go.SX Go.Proofs Go.Proofs.Try FA FB FC FD FE FF FG FH FI FJ FK FL FM FN FO FP FQ FR FS FCA FCB FCC FCE FCF FCH FCJ
theorem hbd75 : hasBody prog 75 = true := by kernel_rfl
theorem fo44_3 : fo prog 44 3 = some 3 := by kernel_rfl
theorem hbd63 : hasBody prog 63 = true := by kernel_rfl
theorem hbd47 : hasBody prog 47 = true := by kernel_rfl
end Go.Proofs.Ytpjblnmophcdmaa.Sx.FCK
namespace Go.Proofs.Ytpjblnmophcdmaa.Sx
open Go Go.SX Go.Proofs Go.Proofs.Try FA FB FC FD FE FF FG FH FI FJ FK FL FM FN FO FP FQ FR FS FCA FCB FCC FCE FCF FCH FCJ FCK
theorem between_ (lb : Nat) (rA : Option Addr) (rc : Nat) (R : List Int) (kA : Option Addr) (kc : Nat) (K : List LK) (uA : Option Addr) (uc : Nat) (U : List IL) (dA : Option Addr) (dc : Nat) (D : List IL) (n : Int) (t : List Int) (a : Int) (c : Int) (u : Int) (S : Nat → Prop) (wf : World) (hC : LC n t R K U D) (ha : 0 ≤ a ∧ a < n) (hc : 0 ≤ c ∧ c < n) (hl : LstK K a c u) :
  TR0 prog 63 [.pointer (some ⟨lb, 0, none⟩), .int .i64 a, .int .i64 c] [cel lb [.slice rA R.length rc, .slice kA K.length kc, .slice uA U.length uc, .slice dA D.length dc] 76, rw_ eZ 3 (.slice rA R.length rc) R, rw_ eLK 44 (.slice kA K.length kc) K, rw_ eIL 27 (.slice uA U.length uc) U, rw_ eIL 27 (.slice dA D.length dc) D, nestIL 3 U, nestIL 3 D] S wf (fun v_ C_ => ∃ (bf : Int) (bt : Int) (bw : Int) (bm : Int), ((LK.mk bf bt bw bm) ∈ K) ∧ (bf = a) ∧ (bt = c) ∧ (bw = u) ∧ v_ = .agg #[.int .i64 bf, .int .i64 bt, .int .i64 bw, .int .i64 bm] ∧ C_ = [cel lb [.slice rA R.length rc, .slice kA K.length kc, .slice uA U.length uc, .slice dA D.length dc] 76, rw_ eZ 3 (.slice rA R.length rc) R, rw_ eLK 44 (.slice kA K.length kc) K, rw_ eIL 27 (.slice uA U.length uc) U, rw_ eIL 27 (.slice dA D.length dc) D, nestIL 3 U, nestIL 3 D]) := by
 have hn1 := hC.wy.hn
 obtain ⟨hnn, hl1, hl2⟩ := bt_nn hC ha hc
 refine TR.mk func63 G ntmps63 G G (fun w_ => ?_)
 refine .seq (.region (.cons (st_alloc G G G G zf44 (fun b1 => (.go idQ (.seq (.region (.m G G G ?_))))))))
 refine .m G G G (.v (ev_any (v := .agg #[.int .i64 a, .int .i64 c, .int .i64 (-1), .int .i64 (-1)]) G kR (fun _ => by kernel_rfl)) G (.cons (st_alloc G G G G zf44 (fun b2 => (.cons (st_storea (l' := [.int .i64 a, .int .i64 c, .int .i64 (-1), .int .i64 (-1)]) G G G ty44 G G G .h G G ?_))))))
 refine .go idQ (.seq (.seq (.region (.m G G G (.m G G G (.cons (st_call0 G G G G hbd17 G (.c (.t2 .h) (.c (.t2 .h) (.c (.t2 .h) (.c (.t2 .h) (.c (.t2 .h) (.c (.t2 .h) (.c (.t2 .h) .n))))))) (lup_ lb rA rc R kA kc K uA uc U dA dc D a _ _ hC.hL) (fun v_q4 C_q4 q4 => ?_))))))))
 obtain ⟨u3, rfl, rfl⟩ := q4
 show SP _ _ _ _ _ _ ⟨_, _ :: _ :: _ :: _ :: _ :: _ :: _ :: _ :: _, _, _⟩
 refine .m G G G (.m G G G (.cons (st_call0 G G G G hbd18 G (.d (.d (.d (.c .h .n)))) (ldown_ lb rA rc R kA kc K uA uc U dA dc D c _ _ hC.hL) (fun v_q6 C_q6 q6 => ?_))))
 obtain ⟨u5, rfl, rfl⟩ := q6
 show SP _ _ _ _ _ _ ⟨_, _ :: _ :: _ :: _ :: _ :: _ :: _ :: _ :: _, _, _⟩
 refine .know (row_len 8 G) (fun hv9 => ?_)
 obtain ⟨A7, c8, rfl, hv9_1, hv9_2⟩ := hv9
 unfold maxLen at hv9_2
 refine .know (row_len 7 G) (fun hv12 => ?_)
 obtain ⟨A10, c11, rfl, hv12_1, hv12_2⟩ := hv12
 unfold maxLen at hv12_2
 refine .cons (st_lit eV (e := 41) (l := [⟨.slice A7 ((pkL R K U a).length) c8, G⟩, ⟨.slice A10 ((pkL R K D c).length) c11, G⟩]) G G G G kR G G kW (fun b13 => ?_))
 refine .cons (st_lend0 G G G G hbd75 G (.c .h .n) (.c (.t4 (.t4 .h)) (.c (.t4 (.t2 (.t .h))) .n)) (fun w_ hw => concatLK_ b13 A7 ((pkL R K U a).length) c8 A10 ((pkL R K D c).length) c11 (pkL R K U a) (pkL R K D c) _ _ (Fr.lend hw 0 G lO) (Fr.lend hw 1 G lO) G G lO lO) (fun v_q15 C_q15 q15 => ?_))
 obtain ⟨u14, rfl, rfl⟩ := q15
 show SP _ _ _ _ _ _ ⟨_, _ :: _ :: _ :: _ :: _, _, _⟩
 refine .know (row_len 1 G) (fun hv18 => ?_)
 obtain ⟨A16, c17, rfl, hv18_1, hv18_2⟩ := hv18
 unfold maxLen at hv18_2
 refine .g underlying41 G G G (.m G G G (.go idQ (.block (.loop (X := Int × Int × Int × Int × Int) (fun ⟨i, bf, bt, bw, bm⟩ => 0 ≤ i ∧ i ≤ ((pkL R K U a ++ pkL R K D c).length : Int) ∧ BtI a c ((pkL R K U a ++ pkL R K D c).take i.toNat) (LK.mk bf bt bw bm)) (fun ⟨i, bf, bt, bw, bm⟩ => [(1, .int .i64 a), (2, .int .i64 c), (6, .pointer (some ⟨b1, 0, none⟩)), (7, .pointer (some ⟨b2, 0, none⟩)), (20, .slice A16 (((pkL R K U a) ++ (pkL R K D c)).length) c17), (21, .int .i64 ((((pkL R K U a) ++ (pkL R K D c)).length : Nat) : Int)), (22, .int .i64 i)]) (fun ⟨i, bf, bt, bw, bm⟩ => [rw_ eV 41 (.slice (some ⟨b13, 0, none⟩) 2 2) [⟨.slice A7 ((pkL R K U a).length) c8, G⟩, ⟨.slice A10 ((pkL R K D c).length) c11, G⟩], rw_ eLK 44 (.slice A16 (((pkL R K U a) ++ (pkL R K D c)).length) c17) ((pkL R K U a) ++ (pkL R K D c)), rw_ eLK 44 (.slice A7 ((pkL R K U a).length) c8) (pkL R K U a), rw_ eLK 44 (.slice A10 ((pkL R K D c).length) c11) (pkL R K D c), cel lb [.slice rA R.length rc, .slice kA K.length kc, .slice uA U.length uc, .slice dA D.length dc] 76, rw_ eZ 3 (.slice rA R.length rc) R, rw_ eLK 44 (.slice kA K.length kc) K, rw_ eIL 27 (.slice uA U.length uc) U, rw_ eIL 27 (.slice dA D.length dc) D, nestIL 3 U, nestIL 3 D, cel b2 [.int .i64 bf, .int .i64 bt, .int .i64 bw, .int .i64 bm] 44, cel b1 [.int .i64 0, .int .i64 0, .int .i64 0, .int .i64 0] 44]) (fun _ => S) (fun _ => wf) (fun ⟨i, bf, bt, bw, bm⟩ => (((pkL R K U a ++ pkL R K D c).length : Int) - i).toNat) (fun a_ w_ hs_ hw_ => ⟨⟨0, a, c, (-1), (-1)⟩, (by (try dsimp only); exact ⟨oO, oO, bt_0⟩), hs_.mono (Sub.get (.c4 G G G G (.c G (.c G (.c G .n))))), hw_.keep (.d (.d (.d (.d (.d (.d (.c .h .n)))))))⟩) (fun ⟨i, bf, bt, bw, bm⟩ ⟨q_0, q_1, q_2⟩ => ?_)))))
 try dsimp only
 refine .seq (.region (.e G G G G G (.go idQ (.seq (.condI G bD (fun h19 => ?_) (fun h19 => ?_))))))
 ·
  refine .skipgo idQ (.seq (.block (.seq (.region (.v (ev_ix G underlying41 ty44 G G oO oO (row_adr (i := i) 1 G oO lO)) G (.v (ev_lda G G (row_el (E := eLK) (l := ((pkL R K U a) ++ (pkL R K D c))) (i := i) 1 G oO lO) ty44) G (.cons (st_alloc G G G G zf44 (fun b20 => ?_)))))))))
  refine .cons (st_storea (l' := [.int .i64 ((gt ((pkL R K U a) ++ (pkL R K D c)) i).lf), .int .i64 ((gt ((pkL R K U a) ++ (pkL R K D c)) i).lt), .int .i64 ((gt ((pkL R K U a) ++ (pkL R K D c)) i).lw), .int .i64 ((gt ((pkL R K U a) ++ (pkL R K D c)) i).lm)]) G G G ty44 G G G .h G G ?_)
  refine .go idQ (.seq (.region (.f fo44_0 0 G G G G (.l ty3 0 G G G G G (.m G G G ?_)))))
  refine .e G G G G G (.m G G G (.w (fun _ => ev_fa G fo44_1 G (r := 1) G) G (.w (fun hb => ev_ld1 G ty3 (lkg G hb) (At.own1 0 G G)) G ?_)))
  refine .w (fun _ => ev_mv G G) G (.w (fun hb => ev_cmp G (lkg G hb) (lkg G hb) G) G (.v (ev_and G G G G) G (.m G G G ?_)))
  refine .w (fun _ => ev_fa G fo44_2 G (r := 2) G) G (.w (fun hb => ev_ld1 G ty3 (lkg G hb) (At.own1 12 G G)) G (.w (fun hb => ev_cmp G (lkg G hb) G G) G (.w (fun hb => ev_mv G (lkg G hb)) G ?_)))
  refine .cons (Ev.ggstep (b1 := ((((gt ((pkL R K U a) ++ (pkL R K D c)) i).lf) == a) && (((gt ((pkL R K U a) ++ (pkL R K D c)) i).lt) == c))) (b := (decide (bw < 0))) cb_tf (fun hb1 _ => ev_fa G fo44_2 G (r := 2) G) G G G G G ?_)
  refine .cons (Ev.ggstep (b1 := ((((gt ((pkL R K U a) ++ (pkL R K D c)) i).lf) == a) && (((gt ((pkL R K U a) ++ (pkL R K D c)) i).lt) == c))) (b := (decide (bw < 0))) cb_tf (fun hb1 hb => ev_ld1 G ty3 (lkg G hb) (At.own1 0 G G)) G G G G G ?_)
  refine .cons (Ev.ggstep (b1 := ((((gt ((pkL R K U a) ++ (pkL R K D c)) i).lf) == a) && (((gt ((pkL R K U a) ++ (pkL R K D c)) i).lt) == c))) (b := (decide (bw < 0))) cb_tf (fun hb1 _ => ev_fa G fo44_2 G (r := 2) G) G G G G G ?_)
  refine .cons (Ev.ggstep (b1 := ((((gt ((pkL R K U a) ++ (pkL R K D c)) i).lf) == a) && (((gt ((pkL R K U a) ++ (pkL R K D c)) i).lt) == c))) (b := (decide (bw < 0))) cb_tf (fun hb1 hb => ev_ld1 G ty3 (lkg G hb) (At.own1 12 G G)) G G G G G ?_)
  refine .cons (Ev.ggstep (b1 := ((((gt ((pkL R K U a) ++ (pkL R K D c)) i).lf) == a) && (((gt ((pkL R K U a) ++ (pkL R K D c)) i).lt) == c))) (b := (decide (bw < 0))) cb_tf (fun hb1 hb => ev_cmp G (lkg G hb) (lkg G hb) G) G G G G G ?_)
  refine .w (fun hb => ev_or G (lkg G hb) G (lkgn G cb_tf hb)) G (.v (ev_and G G G G) G (.go idQ (.condI G (bA (bA bE bE) (bO bD bD)) (fun h21 => ?_) (fun h21 => ?_))))
  ·
   refine .region (.d 0 ty44 G G G G (.cons (st_storea (l' := [.int .i64 ((gt ((pkL R K U a) ++ (pkL R K D c)) i).lf), .int .i64 ((gt ((pkL R K U a) ++ (pkL R K D c)) i).lt), .int .i64 ((gt ((pkL R K U a) ++ (pkL R K D c)) i).lw), .int .i64 ((gt ((pkL R K U a) ++ (pkL R K D c)) i).lm)]) G G G ty44 G G G (.t4 (.t4 (.t4 .h))) G G (.go idQ (.region ?_)))))
   refine .p ((i + 1)) oO oO G G G G G (.m G G G ?_)
   exact SP.nil (SQ.roundb (X := Int × Int × Int × Int × Int) (x := (i, bf, bt, bw, bm)) ⟨(i + 1), (gt ((pkL R K U a) ++ (pkL R K D c)) i).lf, (gt ((pkL R K U a) ++ (pkL R K D c)) i).lt, (gt ((pkL R K U a) ++ (pkL R K D c)) i).lw, (gt ((pkL R K U a) ++ (pkL R K D c)) i).lm⟩ (by (try dsimp only); exact ⟨oO, oO, (bt_yes hnn q_2 oO oO h21)⟩) dO (Sub.get (.c4 G G G G (.c G (.c G (.c G .n))))) (kp (.c (.t2 .h) (.c (.t2 .h) (.c (.t2 .h) (.c (.t2 .h) (.c (.t2 .h) (.c (.t2 .h) (.c (.t2 .h) (.c (.t2 .h) (.c (.t2 .h) (.c (.t2 .h) (.c (.t2 .h) (.c .h (.c (.t .h) .n)))))))))))))))
  refine .skipgo idQ (.region (.p ((i + 1)) oO oO G G G G G (.m G G G ?_)))
  exact SP.nil (SQ.roundb (X := Int × Int × Int × Int × Int) (x := (i, bf, bt, bw, bm)) ⟨(i + 1), bf, bt, bw, bm⟩ (by (try dsimp only); exact ⟨oO, oO, (bt_no q_2 oO oO h21)⟩) dO (Sub.get (.c4 G G G G (.c G (.c G (.c G .n))))) (kp (.c (.t .h) (.c (.t .h) (.c (.t .h) (.c (.t .h) (.c (.t .h) (.c (.t .h) (.c (.t .h) (.c (.t .h) (.c (.t .h) (.c (.t .h) (.c (.t .h) (.c (.t .h) (.c (.t .h) .n)))))))))))))))
 refine .exit idQ ?_
 refine .seq (.region (.d 11 ty44 G G G G (.cons (st_storea (l' := [.int .i64 bf, .int .i64 bt, .int .i64 bw, .int .i64 bm]) G G G ty44 G G G (.t4 (.t4 (.t4 .h))) G G (.go idQ ?_)))))
 have hend := bt_end hC ha hc hl oO q_2
 exact .ret idQ (retv1 results63 (.c 0 G G ty44) (.c (.t4 (.t .h)) (.c (.t4 (.t .h)) (.c (.t4 (.t .h)) (.c (.t4 (.t .h)) (.c (.t4 (.t .h)) (.c (.t4 (.t .h)) (.c (.t4 (.t .h)) .n))))))) ⟨bf, bt, bw, bm, hend.1, hend.2.1, hend.2.2.1, hend.2.2.2, G, G⟩)
theorem spread_ : ∀ (f : Nat) (lb : Nat) (rA : Option Addr) (rc : Nat) (R : List Int) (kA : Option Addr) (kc : Nat) (K : List LK) (uA : Option Addr) (uc : Nat) (U : List IL) (dA : Option Addr) (dc : Nat) (D : List IL) (n : Int) (t : List Int) (k : LK) (v : Value) (Wl : List Int) (S : Nat → Prop) (wf : World) (hC : LC n t R K U D) (hM : WM n t R K) (hk : k ∈ K) (hwl : Wl.length + spB R k ≤ 10000000000000) (hf : (spM R k : Int) < (f : Int)),
  TR0 prog 47 [.pointer (some ⟨lb, 0, none⟩), .agg #[.int .i64 k.lf, .int .i64 k.lt, .int .i64 k.lw, .int .i64 k.lm], v] [cel lb [.slice rA R.length rc, .slice kA K.length kc, .slice uA U.length uc, .slice dA D.length dc] 76, rw_ eZ 3 (.slice rA R.length rc) R, rw_ eLK 44 (.slice kA K.length kc) K, rw_ eIL 27 (.slice uA U.length uc) U, rw_ eIL 27 (.slice dA D.length dc) D, nestIL 3 U, nestIL 3 D, rw_ eZ 3 (v) Wl] S wf (fun v_ C_ => ∃ (u : Value) (L : List Int), (SpP n t k.lf k.lt k.lw L) ∧ (L.length ≤ spB R k) ∧ v_ = u ∧ C_ = [cel lb [.slice rA R.length rc, .slice kA K.length kc, .slice uA U.length uc, .slice dA D.length dc] 76, rw_ eZ 3 (.slice rA R.length rc) R, rw_ eLK 44 (.slice kA K.length kc) K, rw_ eIL 27 (.slice uA U.length uc) U, rw_ eIL 27 (.slice dA D.length dc) D, nestIL 3 U, nestIL 3 D, rw_ eZ 3 (u) (Wl ++ L)]) := by
 refine nat_ind ?_ (fun f ih => ?_)
 · intro lb rA rc R kA kc K uA uc U dA dc D n t k v Wl S wf hC hM hk hwl hf; exfalso; omega
 intro lb rA rc R kA kc K uA uc U dA dc D n t k v Wl S wf hC hM hk hwl hf
 have hok := (hC.wy.ok k hk).1
 have hsb := spB_le hC hk
 refine TR.mk func47 G ntmps47 G G (fun w_ => ?_)
 refine .seq (.region (.cons (st_boxa G G G G G (fun b1 => (.a G G G (.go idQ (.seq (.seq (.region ?_)))))))))
 refine .f fo44_3 3 G G G G (.l ty3 0 G G G G G (.e G G G G G (.go idQ ?_)))
 refine .condI G bD (fun h2 => ?_) (fun h2 => ?_)
 ·
  refine .seq (.region (.m G G G (.f fo44_1 1 G G G G (.l ty3 0 G G G G G ?_))))
  refine .cons (st_lit eZ (e := 3) (l := [k.lt]) G G G G kR G G kW (fun b3 => ?_))
  refine .cons (st_app (E := eZ) (m := [k.lt]) G G G G underlying27 ai3 G G G (.t4 (.t4 (.t .h))) rO (row_src 0 G) lO G (fun v4 => ?_))
  refine .a G G G (.go idQ (.ret idQ (ret1 results47 G (.c (.t2 (.t .h)) (.c (.t2 (.t .h)) (.c (.t2 (.t .h)) (.c (.t2 (.t .h)) (.c (.t2 (.t .h)) (.c (.t2 (.t .h)) (.c (.t2 (.t .h)) (.c .h .n)))))))) ⟨v4, [k.lt], (sp_one hM hk hok (by assumption)), (by rw [List.length_singleton]; omega), G, G⟩)))
 refine .skipgo idQ (.seq ?_)
 obtain ⟨hmr, hm1, hm2, u_, v_, hls1, hls2, huv⟩ := (hM.mid k hk).resolve_left (fun h_ => by have h1_ := h_.1; omega)
 have hm0 := (hC.wy.rk _ hmr.1 hmr.2).1
 refine .region (.m G G G (.m G G G (.f fo44_0 0 G G G G ?_)))
 refine .l ty3 0 G G G G G (.f fo44_3 3 G G G G (.l ty3 0 G G G G G (.cons (st_call0 G G G G hbd63 G (.c (.t .h) (.c (.t .h) (.c (.t .h) (.c (.t .h) (.c (.t .h) (.c (.t .h) (.c (.t .h) .n))))))) (between_ lb rA rc R kA kc K uA uc U dA dc D n t k.lf k.lm u_ _ _ hC hok.1 hmr hls1) (fun v_q9 C_q9 q9 => ?_)))))
 obtain ⟨bf5, bt6, bw7, bm8, p10, p11, p12, p13, rfl, rfl⟩ := q9
 show SP _ _ _ _ _ _ ⟨_, _ :: _ :: _ :: _ :: _ :: _ :: _ :: _, _, _⟩
 have hsl1 := spB_lt (k := k) (k' := (LK.mk bf5 bt6 bw7 bm8)) hm0 hm1 hm2 (.inr p12)
 have hml1 := spM_lt (k := k) (k' := (LK.mk bf5 bt6 bw7 bm8)) hm0 hm1 hm2 (.inr p12)
 have hbb1 := spB_le hC p10
 refine .m G G G (.cons (st_call0 G G G G hbd47 G (.d (.d (.d (.c .h (.c (.t .h) .n))))) (ih lb rA rc R kA kc K uA uc U dA dc D n t (LK.mk bf5 bt6 bw7 bm8) v Wl _ _ hC hM p10 oO oO) (fun v_q16 C_q16 q16 => ?_)))
 obtain ⟨u14, L15, p17, p18, rfl, rfl⟩ := q16
 show SP _ _ _ _ _ _ ⟨_, _ :: _ :: _ :: _ :: _ :: _ :: _ :: _ :: _, _, _⟩
 refine .a G G G (.go idQ (.seq (.region (.m G G G (.m G G G ?_)))))
 refine .f fo44_3 3 G G G G (.l ty3 8 G G G G G (.f fo44_1 1 G G G G (.l ty3 8 G G G G G ?_)))
 refine .cons (st_call0 G G G G hbd63 G (.d (.d (.d (.c .h .n)))) (between_ lb rA rc R kA kc K uA uc U dA dc D n t k.lm k.lt v_ _ _ hC hmr hok.2.1 hls2) (fun v_q23 C_q23 q23 => ?_))
 obtain ⟨bf19, bt20, bw21, bm22, p24, p25, p26, p27, rfl, rfl⟩ := q23
 show SP _ _ _ _ _ _ ⟨_, _ :: _ :: _ :: _ :: _ :: _ :: _ :: _, _, _⟩
 have hsl2 := spB_lt (k := k) (k' := (LK.mk bf19 bt20 bw21 bm22)) hm0 hm1 hm2 (.inl p25)
 have hml2 := spM_lt (k := k) (k' := (LK.mk bf19 bt20 bw21 bm22)) hm0 hm1 hm2 (.inl p25)
 have hbb2 := spB_le hC p24
 refine .m G G G (.cons (st_call0 G G G G hbd47 G (.d (.d (.d (.d .n)))) (ih lb rA rc R kA kc K uA uc U dA dc D n t (LK.mk bf19 bt20 bw21 bm22) v_q16 (Wl ++ L15) _ _ hC hM p24 (by rw [List.length_append]; have h1_ := p18; omega) oO) (fun v_q30 C_q30 q30 => ?_)))
 obtain ⟨u28, L29, p31, p32, rfl, rfl⟩ := q30
 show SP _ _ _ _ _ _ ⟨_, _ :: _ :: _ :: _ :: _ :: _ :: _ :: _ :: _, _, _⟩
 refine .a G G G (.go idQ (.ret idQ (ret1 results47 G (.d (.d (.d (.d .n)))) ⟨v_q30, (L15 ++ L29), (sp_two p17 p31 p11 p12 p13 p25 p26 p27 huv), (by rw [List.length_append]; have h1_ := p18; have h2_ := p32; omega), G, (by rw [List.append_assoc])⟩)))
end Go.Proofs.Ytpjblnmophcdmaa.Sx
set_option maxRecDepth 20000
set_option maxHeartbeats 8000000
namespace Go.Proofs.Ytpjblnmophcdmaa.Sx.FCL
open Go Go.SX Go.Proofs Go.Proofs.Try FA FB FC FD FE FF FG FH FI FJ FK FL FM FN FO FP FQ FR FS FCA FCB FCC FCE FCF FCH FCJ FCK
theorem hbd46 : hasBody prog 46 = true := by kernel_rfl
end Go.Proofs.Ytpjblnmophcdmaa.Sx.FCL
namespace Go.Proofs.Ytpjblnmophcdmaa.Sx
open Go Go.SX Go.Proofs Go.Proofs.Try FA FB FC FD FE FF FG FH FI FJ FK FL FM FN FO FP FQ FR FS FCA FCB FCC FCE FCF FCH FCJ FCK FCL
theorem way_ (lb : Nat) (rA : Option Addr) (rc : Nat) (R : List Int) (kA : Option Addr) (kc : Nat) (K : List LK) (uA : Option Addr) (uc : Nat) (U : List IL) (dA : Option Addr) (dc : Nat) (D : List IL) (n : Int) (t : List Int) (i : Int) (j : Int) (S : Nat → Prop) (wf : World) (hC : LC n t R K U D) (hM : WM n t R K) (hi0 : 0 ≤ i ∧ i < n) (hj0 : 0 ≤ j ∧ j < n) :
  TR0 prog 21 [.pointer (some ⟨lb, 0, none⟩), .int .i64 i, .int .i64 j] [cel lb [.slice rA R.length rc, .slice kA K.length kc, .slice uA U.length uc, .slice dA D.length dc] 76, rw_ eZ 3 (.slice rA R.length rc) R, rw_ eLK 44 (.slice kA K.length kc) K, rw_ eIL 27 (.slice uA U.length uc) U, rw_ eIL 27 (.slice dA D.length dc) D, nestIL 3 U, nestIL 3 D] S wf (fun v_ C_ => ∃ (u : Value) (x : Int) (Wl : List Int), (x = dsF n t i j) ∧ ((x < 0 ∧ Wl = []) ∨ (0 ≤ x ∧ ∃ L_, Wl = i :: L_ ∧ SpP n t i j x L_)) ∧ (Wl.length ≤ 1000000000000) ∧ v_ = .tuple #[u, .int .i64 x] ∧ C_ = [cel lb [.slice rA R.length rc, .slice kA K.length kc, .slice uA U.length uc, .slice dA D.length dc] 76, rw_ eZ 3 (.slice rA R.length rc) R, rw_ eLK 44 (.slice kA K.length kc) K, rw_ eIL 27 (.slice uA U.length uc) U, rw_ eIL 27 (.slice dA D.length dc) D, nestIL 3 U, nestIL 3 D, rw_ eZ 3 (u) Wl]) := by
 have hn1 := hC.wy.hn
 have hro1 := mt hC.out.1 (Classical.not_not.2 hi0)
 have hro2 := mt hC.out.1 (Classical.not_not.2 hj0)
 refine TR.mk func21 G ntmps21 G G (fun w_ => ?_)
 refine .seq (.region (.a G G G (.a G G G (.go idQ (.seq (.seq (.region ?_)))))))
 refine .m G G G (.m G G G (.cons (st_callk G G G G hbd42 G (.d (.d (.d (.c .h .n)))) (lrk_ lb rA rc R kA kc K uA uc U dA dc D i _ _) (.e G G G G G ?_))))
 refine .m G G G (.w (fun _ => ev_mv G G) G (.w (fun _ => ev_mv G G) G (.cons (st_gcallk G G G G G G hbd42 (fun hb => (lkA1 (lkg G hb) (lkA1 (lkg G hb) lkA0))) (.d (.d (.d (.c .h .n)))) (fun hb => have hp := bF bD hb; lrk_ lb rA rc R kA kc K uA uc U dA dc D j _ _) ?_))))
 refine .w (fun hb => ev_cmp G (lkg G hb) G G) G (.r G G G G G (.go idQ (.condI G (bO bD bD) (fun h1 => ?_) (fun h1 => ?_))))
 ·
  exfalso; exact Or.elim (by assumption) hro1 hro2
 refine .skipgo idQ (.seq ?_)
 obtain ⟨hi, hj⟩ := hC.rng h1
 refine .region (.m G G G (.v (ev_any (v := .func (.func 17) #[.pointer (some ⟨lb, 0, none⟩)] #[]) G kR (fun _ => by kernel_rfl)) G (.v (ev_any (v := .agg #[.func (.func 17) #[.pointer (some ⟨lb, 0, none⟩)] #[], .func (.func 41) #[] #[]]) G kR (fun _ => by kernel_rfl)) G ?_)))
 refine .m G G G (.cons (st_call0 G G G G hbd40 G (.d (.d (.d (.c .h .n)))) (findU lb rA rc R kA kc K uA uc U dA dc D n i _ _ hC.hL hC.su hi) (fun v_q4 C_q4 q4 => ?_)))
 obtain ⟨b2, M3, p5, rfl, rfl⟩ := q4
 show SP _ _ _ _ _ _ ⟨_, _ :: _ :: _ :: _ :: _ :: _ :: _ :: _ :: _, _, _⟩
 refine .m G G G (.v (ev_any (v := .func (.func 18) #[.pointer (some ⟨lb, 0, none⟩)] #[]) G kR (fun _ => by kernel_rfl)) G (.v (ev_any (v := .agg #[.func (.func 18) #[.pointer (some ⟨lb, 0, none⟩)] #[], .func (.func 39) #[] #[]]) G kR (fun _ => by kernel_rfl)) G (.m G G G ?_)))
 refine .cons (st_call0 G G G G hbd40 G (.d (.d (.d (.c .h .n)))) (findD lb rA rc R kA kc K uA uc U dA dc D n j _ _ hC.hL hC.sd hj) (fun v_q8 C_q8 q8 => ?_))
 obtain ⟨b6, M7, p9, rfl, rfl⟩ := q8
 show SP _ _ _ _ _ _ ⟨_, _ :: _ :: _ :: _ :: _ :: _ :: _ :: _ :: _, _, _⟩
 refine .a G G G (.a G G G (.go idQ (.seq (.region (.m G G G ?_)))))
 refine .m G G G (.cons (st_call0 G G G G hbd43 G (.c (.t4 (.t4 .h)) (.c (.t4 (.t2 (.t .h))) .n)) (meet_ b2 M3 b6 M7 _ _ (hC.fu hi p5).lbd (hC.fd hj p9).lbd) (fun v_q12 C_q12 q12 => ?_)))
 obtain ⟨x10, y11, p13, rfl, rfl⟩ := q12
 show SP _ _ _ _ _ _ ⟨_, _ :: _ :: _, _, _⟩
 obtain ⟨x, hx_⟩ : ∃ z_, z_ = x10 := ⟨_, rfl⟩
 subst hx_
 obtain ⟨y, hy_⟩ : ∃ z_, z_ = y11 := ⟨_, rfl⟩
 subst hy_
 have hds := hC.dist hi hj p5 p9 p13
 refine .m G G G (.x G G G G (.x G G G G (.a G G G ?_)))
 refine .a G G G (.go idQ (.seq (.seq (.region (.m G G G (.e G G G G G ?_))))))
 refine .go idQ (.condI G bD (fun h14 => ?_) (fun h14 => ?_))
 ·
  refine .seq ?_
  have hx1 : x = -1 := p13.elim (fun h_ => h_.1) (fun h_ => by obtain ⟨a_, c_, h1_, h2_, h3_, -⟩ := h_; have h4_ := (hC.fu hi p5).yes _ _ h1_; have h5_ := (hC.fd hj p9).yes _ _ h2_; omega)
  refine SC.nilrow eZ 3 ?_
  refine .region (.a G G G (.a G G G (.go idQ ?_)))
  exact .ret idQ (ret2 results21 G G (.c (.t2 (.t .h)) (.c (.t2 (.t .h)) (.c (.t2 (.t .h)) (.c (.t2 (.t .h)) (.c (.t2 (.t .h)) (.c (.t2 (.t .h)) (.c (.t2 (.t .h)) (.c .h .n)))))))) ⟨.slice none 0 0, (-1), ([] : List Int), (hx1.symm.trans hds), (.inl ⟨by decide, G⟩), (by decide), G, G⟩)
 refine .skipgo idQ (.seq ?_)
 obtain ⟨a_, c_, hla, hlb, hsum, -⟩ := p13.resolve_left (fun h_ => by have h1_ := h_.1; omega)
 have haa := lo_in hla
 have hbb := lo_in hlb
 have hq := ((hC.fu hi p5).yes _ _ hla).1
 have hxs : x = (mget M3 y dLA).ld + (mget M7 y dLA).ld := by rw [haa.2, hbb.2]; exact hsum
 have hry := hC.wy.rk y hq.1 hq.2
 refine .region (.a G G G (.go idQ (.seq (.seq (.region (.m G G G ?_))))))
 refine .a G G G (.go idQ (.block ?_))
 refine SC.nilrow eLK 44 ?_
 refine .loop (X := Int × (List LK) × Value) (fun ⟨p, L1, u_L1⟩ => WuI n R K M3 y p L1 ∧ True) (fun ⟨p, L1, u_L1⟩ => [(0, .pointer (some ⟨lb, 0, none⟩)), (1, .int .i64 i), (6, .slice none 0 0), (7, .int .i64 0), (8, .map (some b2)), (9, .map (some b6)), (10, .int .i64 x), (11, .int .i64 y), (13, .int .i64 p), (12, u_L1)]) (fun ⟨p, L1, u_L1⟩ => [rw_ eLK 44 (u_L1) L1, mp keZ.f laV b2 M3, mp keZ.f laV b6 M7, cel lb [.slice rA R.length rc, .slice kA K.length kc, .slice uA U.length uc, .slice dA D.length dc] 76, rw_ eZ 3 (.slice rA R.length rc) R, rw_ eLK 44 (.slice kA K.length kc) K, rw_ eIL 27 (.slice uA U.length uc) U, rw_ eIL 27 (.slice dA D.length dc) D, nestIL 3 U, nestIL 3 D]) (fun _ => S) (fun _ => wf) (fun ⟨p, L1, u_L1⟩ => (gt R p).toNat) (fun a_ w_ hs_ hw_ => ⟨⟨y, ([] : List LK), .slice none 0 0⟩, (by (try dsimp only); exact ⟨(wu_0 hq haa.1), trivial⟩), hs_.mono (Sub.get (.c4 G G G G (.c4 G G G G (.c G (.c G .n))))), hw_.keep (.d (.d (.d (.d (.d .n)))))⟩) (fun ⟨p, L1, u_L1⟩ ⟨q_0, q_1⟩ => ?_)
 try dsimp only
 have hll := q_0.ln
 have hrp := hC.wy.rk p q_0.rg.1 q_0.rg.2
 refine .seq (.seq (.region (.m G G G (.m G G G (.v (ev_lkp keZ (m := M3) (x := p) (z := dLA) G underlying84 zv90 G G 1 G) G ?_)))))
 refine .v (ev_any (v := .agg #[.int .i64 ((mget M3 p dLA).af), .int .i64 ((mget M3 p dLA).ax), .int .i64 ((mget M3 p dLA).aw), .int .i64 ((mget M3 p dLA).am)]) G kR (fun _ => by kernel_rfl)) G (.v (ev_any (v := .int .i64 ((mget M3 p dLA).af)) G kR (fun _ => by kernel_rfl)) G (.e G G G G G (.go idQ ?_)))
 refine .condI G bD (fun h15 => ?_) (fun h15 => ?_)
 ·
  refine .skipgo idQ (.seq (.block (.region (.m G G G (.m G G G (.m G G G ?_))))))
  refine .v (ev_lkp keZ (m := M3) (x := p) (z := dLA) G underlying84 zv90 G G 1 G) G (.v (ev_any (v := .agg #[.int .i64 ((mget M3 p dLA).af), .int .i64 ((mget M3 p dLA).ax), .int .i64 ((mget M3 p dLA).aw), .int .i64 ((mget M3 p dLA).am)]) G kR (fun _ => by kernel_rfl)) G (.cons (st_lit eLK (e := 44) (l := [(LK.mk ((mget M3 p dLA).af) ((mget M3 p dLA).ax) ((mget M3 p dLA).aw) ((mget M3 p dLA).am))]) G G G G kR G G kW (fun b16 => (.cons (st_app (E := eLK) (m := [(LK.mk ((mget M3 p dLA).af) ((mget M3 p dLA).ax) ((mget M3 p dLA).aw) ((mget M3 p dLA).am))]) G G G G underlying41 ai44 G G G (.t .h) rO (row_src 0 G) lO G (fun v17 => ?_)))))))
  refine .a G G G (.go idQ (.region (.m G G G (.m G G G ?_))))
  refine .v (ev_lkp keZ (m := M3) (x := p) (z := dLA) G underlying84 zv90 G G 2 G) G (.v (ev_any (v := .agg #[.int .i64 ((mget M3 p dLA).af), .int .i64 ((mget M3 p dLA).ax), .int .i64 ((mget M3 p dLA).aw), .int .i64 ((mget M3 p dLA).am)]) G kR (fun _ => by kernel_rfl)) G (.v (ev_any (v := .int .i64 ((mget M3 p dLA).af)) G kR (fun _ => by kernel_rfl)) G (.a G G G ?_)))
  exact SP.nil (SQ.roundb (X := Int × (List LK) × Value) (x := (p, L1, u_L1)) ⟨(mget M3 p dLA).af, (L1 ++ [(LK.mk ((mget M3 p dLA).af) ((mget M3 p dLA).ax) ((mget M3 p dLA).aw) ((mget M3 p dLA).am))]), v17⟩ (by (try dsimp only); exact ⟨(wu_next hC p5 q_0 h15).1, trivial⟩) (by dsimp only; have h_ := (wu_next hC p5 q_0 h15).2; omega) (Sub.get (.c4 G G G G (.c4 G G G G (.c G (.c G .n))))) (kp (.c .h (.c (.t .h) (.c (.t .h) (.c (.t .h) (.c (.t .h) (.c (.t .h) (.c (.t .h) (.c (.t .h) (.c (.t .h) (.c (.t .h) .n))))))))))))
 refine .exit idQ ?_
 refine .seq ?_
 obtain ⟨hch1, hcl1⟩ := wu_end hC p5 q_0 h15
 rw [List.length_reverse] at hcl1
 refine .region (.m G G G (.know (row_len 0 G) (fun hv20 => ?_)))
 obtain ⟨A18, c19, rfl, hv20_1, hv20_2⟩ := hv20
 unfold maxLen at hv20_2
 refine .cons (st_call0 G G G G hbd46 G (.c .h .n) (revLK_ A18 L1.length c19 L1 _ _ oO oO) (fun v_q21 C_q21 q21 => ?_))
 obtain ⟨rfl, rfl⟩ := q21
 show SP _ _ _ _ _ _ ⟨_, _ :: _, _, _⟩
 refine .go idQ (.seq (.seq (.region (.m G G G (.a G G G (.go idQ (.block ?_)))))))
 refine .loop (X := Int × (List LK) × Value) (fun ⟨p2, L2, u_L2⟩ => WdI n R K M7 i y (mget M3 y dLA).ld L1.reverse.length p2 L2 ∧ True) (fun ⟨p2, L2, u_L2⟩ => [(0, .pointer (some ⟨lb, 0, none⟩)), (1, .int .i64 i), (6, .slice none 0 0), (7, .int .i64 0), (8, .map (some b2)), (9, .map (some b6)), (10, .int .i64 x), (11, .int .i64 y), (13, .int .i64 p), (14, .int .i64 p2), (12, u_L2)]) (fun ⟨p2, L2, u_L2⟩ => [rw_ eLK 44 (u_L2) L2, mp keZ.f laV b2 M3, mp keZ.f laV b6 M7, cel lb [.slice rA R.length rc, .slice kA K.length kc, .slice uA U.length uc, .slice dA D.length dc] 76, rw_ eZ 3 (.slice rA R.length rc) R, rw_ eLK 44 (.slice kA K.length kc) K, rw_ eIL 27 (.slice uA U.length uc) U, rw_ eIL 27 (.slice dA D.length dc) D, nestIL 3 U, nestIL 3 D]) (fun _ => S) (fun _ => wf) (fun ⟨p2, L2, u_L2⟩ => (gt R p2).toNat) (fun a_ w_ hs_ hw_ => ⟨⟨y, L1.reverse, .slice A18 L1.length c19⟩, (by (try dsimp only); exact ⟨(wd_0 hq hbb.1 hch1), trivial⟩), hs_.mono (Sub.get (.c4 G G G G (.c4 G G G G (.c G (.c G (.c G .n)))))), hw_.keep (.d (.d (.d (.d (.d .n)))))⟩) (fun ⟨p2, L2, u_L2⟩ ⟨r_0, r_1⟩ => ?_)
 try dsimp only
 have hl2 := wd_len hC hq r_0
 rw [List.length_reverse] at hl2
 refine .seq (.seq (.region (.m G G G (.m G G G (.v (ev_lkp keZ (m := M7) (x := p2) (z := dLA) G underlying84 zv90 G G 2 G) G ?_)))))
 refine .v (ev_any (v := .agg #[.int .i64 ((mget M7 p2 dLA).af), .int .i64 ((mget M7 p2 dLA).ax), .int .i64 ((mget M7 p2 dLA).aw), .int .i64 ((mget M7 p2 dLA).am)]) G kR (fun _ => by kernel_rfl)) G (.v (ev_any (v := .int .i64 ((mget M7 p2 dLA).af)) G kR (fun _ => by kernel_rfl)) G (.e G G G G G (.go idQ ?_)))
 refine .condI G bD (fun h22 => ?_) (fun h22 => ?_)
 ·
  refine .skipgo idQ (.seq (.block (.region (.m G G G (.m G G G (.m G G G ?_))))))
  refine .v (ev_lkp keZ (m := M7) (x := p2) (z := dLA) G underlying84 zv90 G G 2 G) G (.v (ev_any (v := .agg #[.int .i64 ((mget M7 p2 dLA).af), .int .i64 ((mget M7 p2 dLA).ax), .int .i64 ((mget M7 p2 dLA).aw), .int .i64 ((mget M7 p2 dLA).am)]) G kR (fun _ => by kernel_rfl)) G (.cons (st_lit eLK (e := 44) (l := [(LK.mk ((mget M7 p2 dLA).af) ((mget M7 p2 dLA).ax) ((mget M7 p2 dLA).aw) ((mget M7 p2 dLA).am))]) G G G G kR G G kW (fun b23 => (.cons (st_app (E := eLK) (m := [(LK.mk ((mget M7 p2 dLA).af) ((mget M7 p2 dLA).ax) ((mget M7 p2 dLA).aw) ((mget M7 p2 dLA).am))]) G G G G underlying41 ai44 G G G (.t .h) rO (row_src 0 G) lO G (fun v24 => ?_)))))))
  refine .a G G G (.go idQ (.region (.m G G G (.m G G G ?_))))
  refine .v (ev_lkp keZ (m := M7) (x := p2) (z := dLA) G underlying84 zv90 G G 3 G) G (.v (ev_any (v := .agg #[.int .i64 ((mget M7 p2 dLA).af), .int .i64 ((mget M7 p2 dLA).ax), .int .i64 ((mget M7 p2 dLA).aw), .int .i64 ((mget M7 p2 dLA).am)]) G kR (fun _ => by kernel_rfl)) G (.v (ev_any (v := .int .i64 ((mget M7 p2 dLA).ax)) G kR (fun _ => by kernel_rfl)) G (.a G G G ?_)))
  exact SP.nil (SQ.roundb (X := Int × (List LK) × Value) (x := (p2, L2, u_L2)) ⟨(mget M7 p2 dLA).ax, (L2 ++ [(LK.mk ((mget M7 p2 dLA).af) ((mget M7 p2 dLA).ax) ((mget M7 p2 dLA).aw) ((mget M7 p2 dLA).am))]), v24⟩ (by (try dsimp only); exact ⟨(wd_next hC p9 r_0 h22).1, trivial⟩) (by dsimp only; have h_ := (wd_next hC p9 r_0 h22).2; omega) (Sub.get (.c4 G G G G (.c4 G G G G (.c G (.c G (.c G .n)))))) (kp (.c .h (.c (.t .h) (.c (.t .h) (.c (.t .h) (.c (.t .h) (.c (.t .h) (.c (.t .h) (.c (.t .h) (.c (.t .h) (.c (.t .h) .n))))))))))))
 refine .exit idQ ?_
 refine .seq ?_
 have hch2 := wd_end hC p9 r_0 h22
 refine .region (.m G G G (.cons (st_lit eZ (e := 3) (l := [i]) G G G G kR G G kW (fun b25 => (.a G G G ?_)))))
 refine .go idQ (.seq (.seq (.region (.m G G G (.know (row_len 1 G) (fun hv28 => ?_))))))
 obtain ⟨A26, c27, rfl, hv28_1, hv28_2⟩ := hv28
 unfold maxLen at hv28_2
 refine .g underlying41 G G G (.m G G G (.go idQ (.block (.loop (X := Int × (List Int) × Value) (fun ⟨m, W, u_W⟩ => 0 ≤ m ∧ m ≤ (L2.length : Int) ∧ WsI n t i L2 m W) (fun ⟨m, W, u_W⟩ => [(0, .pointer (some ⟨lb, 0, none⟩)), (1, .int .i64 i), (6, .slice none 0 0), (7, .int .i64 0), (8, .map (some b2)), (9, .map (some b6)), (10, .int .i64 x), (11, .int .i64 y), (13, .int .i64 p), (14, .int .i64 p2), (12, .slice A26 L2.length c27), (88, .slice A26 L2.length c27), (89, .int .i64 (L2.length : Int)), (90, .int .i64 m), (15, u_W)]) (fun ⟨m, W, u_W⟩ => [rw_ eZ 3 (u_W) W, rw_ eLK 44 (.slice A26 L2.length c27) L2, mp keZ.f laV b2 M3, mp keZ.f laV b6 M7, cel lb [.slice rA R.length rc, .slice kA K.length kc, .slice uA U.length uc, .slice dA D.length dc] 76, rw_ eZ 3 (.slice rA R.length rc) R, rw_ eLK 44 (.slice kA K.length kc) K, rw_ eIL 27 (.slice uA U.length uc) U, rw_ eIL 27 (.slice dA D.length dc) D, nestIL 3 U, nestIL 3 D]) (fun _ => S) (fun _ => wf) (fun ⟨m, W, u_W⟩ => ((L2.length : Int) - m).toNat) (fun a_ w_ hs_ hw_ => ⟨⟨0, [i], .slice (some ⟨b25, 0, none⟩) 1 1⟩, (by (try dsimp only); exact ⟨oO, oO, ws_0⟩), hs_.mono (Sub.get (.c4 G G G G (.c4 G G G G (.c4 G G G G (.c G (.c G (.c G .n))))))), hw_.keep (.d (.d (.d (.d (.d (.c .h .n))))))⟩) (fun ⟨m, W, u_W⟩ ⟨s_0, s_1, s_2⟩ => ?_)))))
 try dsimp only
 refine .seq (.region (.e G G G G G (.go idQ (.seq (.condI G bD (fun h29 => ?_) (fun h29 => ?_))))))
 ·
  refine .skipgo idQ (.seq (.block (.seq (.region (.v (ev_ix G underlying41 ty44 G G oO oO (row_adr (i := m) 1 G oO oO)) G (.v (ev_lda G G (row_el (E := eLK) (l := L2) (i := m) 1 G oO oO) ty44) G (.cons (st_alloc G G G G zf44 (fun b30 => ?_)))))))))
  refine .cons (st_storea (l' := [.int .i64 ((gt L2 m).lf), .int .i64 ((gt L2 m).lt), .int .i64 ((gt L2 m).lw), .int .i64 ((gt L2 m).lm)]) G G G ty44 G G G .h G G ?_)
  refine .go idQ ?_
  have hkm := hch2.mem _ (gtM (l := L2) (i := m) oO oO)
  have hsb := spB_le hC hkm
  have hwln := s_2.ln
  refine .region (.m G G G (.d 0 ty44 G G G G (.m G G G ?_)))
  refine .cons (st_call0 G G G G hbd47 G (.c (.t4 (.t .h)) (.c (.t4 (.t .h)) (.c (.t4 (.t .h)) (.c (.t4 (.t .h)) (.c (.t4 (.t .h)) (.c (.t4 (.t .h)) (.c (.t4 (.t .h)) (.c (.t .h) .n)))))))) (spread_ (spM R (gt L2 m) + 1) lb rA rc R kA kc K uA uc U dA dc D n t (gt L2 m) u_W W _ _ hC hM hkm oO oO) (fun v_q33 C_q33 q33 => ?_))
  obtain ⟨u31, L32, p34, p35, rfl, rfl⟩ := q33
  show SP _ _ _ _ _ _ ⟨_, _ :: _ :: _ :: _ :: _ :: _ :: _ :: _ :: _, _, _⟩
  refine .a G G G (.go idQ (.region (.p ((m + 1)) oO oO G G G G G (.m G G G ?_))))
  exact SP.nil (SQ.roundb (X := Int × (List Int) × Value) (x := (m, W, u_W)) ⟨(m + 1), (W ++ L32), v_q33⟩ (by (try dsimp only); exact ⟨oO, oO, (ws_next hch2 oO oO s_2 p34 (by have h_ := p35; omega))⟩) dO (Sub.get (.c4 G G G G (.c4 G G G G (.c4 G G G G (.c G (.c G (.c G .n))))))) (kp (.c (.t4 (.t2 (.t .h))) (.c (.t4 (.t4 .h)) (.c (.t4 (.t4 .h)) (.c (.t4 (.t4 .h)) (.d (.d (.d (.c .h .n))))))))))
 refine .exit idQ ?_
 refine .seq (.region (.m G G G (.m G G G (.a G G G ?_))))
 refine .a G G G (.go idQ (.ret idQ (ret2 results21 G G (.c (.t4 .h) (.c (.t4 .h) (.c (.t4 .h) (.c (.t4 .h) (.c (.t4 .h) (.c (.t4 .h) (.c (.t4 .h) (.c .h .n)))))))) ⟨u_W, x, W, hds, (.inr ⟨by omega, by rw [hxs]; exact ws_end hch2 s_2 oO⟩), (by have h_ := s_2.ln; omega), G, G⟩)))
theorem wayno_ (lb : Nat) (rA : Option Addr) (rc : Nat) (R : List Int) (kA : Option Addr) (kc : Nat) (K : List LK) (uA : Option Addr) (uc : Nat) (U : List IL) (dA : Option Addr) (dc : Nat) (D : List IL) (n : Int) (t : List Int) (i : Int) (j : Int) (S : Nat → Prop) (wf : World) (hC : LC n t R K U D) (hij : ¬ ((0 ≤ i ∧ i < n) ∧ (0 ≤ j ∧ j < n))) :
  TR0 prog 21 [.pointer (some ⟨lb, 0, none⟩), .int .i64 i, .int .i64 j] [cel lb [.slice rA R.length rc, .slice kA K.length kc, .slice uA U.length uc, .slice dA D.length dc] 76, rw_ eZ 3 (.slice rA R.length rc) R, rw_ eLK 44 (.slice kA K.length kc) K, rw_ eIL 27 (.slice uA U.length uc) U, rw_ eIL 27 (.slice dA D.length dc) D, nestIL 3 U, nestIL 3 D] S wf (fun v_ C_ => v_ = .tuple #[.slice none 0 0, .int .i64 (-1)] ∧ C_ = [cel lb [.slice rA R.length rc, .slice kA K.length kc, .slice uA U.length uc, .slice dA D.length dc] 76, rw_ eZ 3 (.slice rA R.length rc) R, rw_ eLK 44 (.slice kA K.length kc) K, rw_ eIL 27 (.slice uA U.length uc) U, rw_ eIL 27 (.slice dA D.length dc) D, nestIL 3 U, nestIL 3 D]) := by
 refine TR.mk func21 G ntmps21 G G (fun w_ => ?_)
 refine .seq (.region (.a G G G (.a G G G (.go idQ (.seq (.seq (.region ?_)))))))
 refine .m G G G (.m G G G (.cons (st_callk G G G G hbd42 G (.d (.d (.d (.c .h .n)))) (lrk_ lb rA rc R kA kc K uA uc U dA dc D i _ _) (.e G G G G G ?_))))
 refine .m G G G (.w (fun _ => ev_mv G G) G (.w (fun _ => ev_mv G G) G (.cons (st_gcallk G G G G G G hbd42 (fun hb => (lkA1 (lkg G hb) (lkA1 (lkg G hb) lkA0))) (.d (.d (.d (.c .h .n)))) (fun hb => have hp := bF bD hb; lrk_ lb rA rc R kA kc K uA uc U dA dc D j _ _) ?_))))
 refine .w (fun hb => ev_cmp G (lkg G hb) G G) G (.r G G G G G (.go idQ (.condI G (bO bD bD) (fun h1 => ?_) (fun h1 => ?_))))
 ·
  refine .seq (.region (.a G G G (.a G G G (.go idQ ?_))))
  exact .ret idQ (ret2 results21 G G (.d (.d (.d (.c .h .n)))) ⟨G, G⟩)
 exact absurd (hC.rng (by assumption)) hij
end Go.Proofs.Ytpjblnmophcdmaa.Sx
set_option maxRecDepth 20000
set_option maxHeartbeats 8000000
set_option maxRecDepth 20000
set_option maxHeartbeats 8000000
set_option maxRecDepth 20000
set_option maxHeartbeats 8000000
namespace Go.Proofs.Ytpjblnmophcdmaa.Sx
open Go Go.SX Go.Proofs Go.Proofs.Try FA FB FC FD FE FF FG FH FI FJ FK FL FM FN FO FP FQ FR FS FCA FCB FCC FCE FCF FCH FCJ FCK FCL
theorem weigh5_ (n : Int) (A : Option Addr) (c : Nat) (t : List Int) (B : Option Addr) (d : Nat) (Wl : List Int) (i : Int) (j : Int) (x : Int) (L : List Int) (S : Nat → Prop) (wf : World) (hA : Fr eZ S wf A t) (hB : Fr eZ S wf B Wl) (hn : 1 ≤ n ∧ n ≤ 32) (ht : (t.length : Int) = n * n) (hr : ∀ i : Int, -1 ≤ gt t i ∧ gt t i ≤ 1000000) (hW : Wl = i :: L) (hS : SpP n t i j x L) (hi : 0 ≤ i ∧ i < n) (hb : Wl.length ≤ 1000000000000) :
  TR0 prog 22 [.agg #[.int .i64 n, .slice A t.length c], .slice B Wl.length d] [] S wf (fun v_ C_ => v_ = .int .i64 x ∧ C_ = []) := by
 have hla := hA.len
 have hlb := hB.len
 have hw0 : gt Wl 0 = i := by rw [hW]; rfl
 have hwl : 1 ≤ Wl.length := by rw [hW]; simp
 refine TR.mk func22 G ntmps22 G G (fun w_ => ?_)
 refine .seq (.region (.cons (st_boxa G G G G G (fun b1 => (.a G G G (.go idQ (.seq (.seq ?_))))))))
 refine SC.draw mo [] [] .n (fun _ _ _ => sc0) (fun wf_2 hl_2 hx_2 hR_2 => ?_)
 refine SR.m 0 G G G G ?_
 refine SR.z 1 G G (ev_len G underlying27 G) ?_
 refine SR.z 2 G G (ev_cmp G G G G) ?_
 refine SR.m 3 G G G G ?_
 refine SR.y 4 G G (fun _ => ev_mv G G) ?_
 refine SR.y 5 G G (fun hb => have hp := bF bE hb; ev_ix G underlying27 ty3 (lkg G hb) G (by have _h := hp; omega) (by have _h := hp; omega) (fun _ _ => Fr.adr (i := 0) (Fr.ext hB hx_2) (by have _h := hp; omega) (by have _h := hp; omega))) ?_
 refine SR.y 6 G G (fun hb => have hp := bF bE hb; ev_ld1 G ty3 (lkg G hb) (At.elem1 (At.d (Fr.el (i := 0) (Fr.ext hB hx_2) (by have _h := hp; omega) (by have _h := hp; omega))) 0 G)) ?_
 refine SR.y 7 G G (fun hb => ev_cmp G (lkg G hb) G G) ?_
 refine SR.z 8 G G (ev_or G G G G) ?_
 refine SR.m 9 G G G G ?_
 refine SR.y 10 G G (fun _ => ev_mv G G) ?_
 refine SR.y 11 G G (fun hb => have hp := bF (bO bE bD) hb; ev_ix G underlying27 ty3 (lkg G hb) G (by have _h := hp; omega) (by have _h := hp; omega) (fun _ _ => Fr.adr (i := 0) (Fr.ext hB hx_2) (by have _h := hp; omega) (by have _h := hp; omega))) ?_
 refine SR.y 12 G G (fun hb => have hp := bF (bO bE bD) hb; ev_ld1 G ty3 (lkg G hb) (At.elem1 (At.d (Fr.el (i := 0) (Fr.ext hB hx_2) (by have _h := hp; omega) (by have _h := hp; omega))) 0 G)) ?_
 refine SR.y 13 G G (fun _ => ev_fa G fo29_0 G (r := 0) G) ?_
 refine SR.y 14 G G (fun hb => ev_ld1 G ty3 (lkg G hb) (At.d (At.lent hR_2 0 G G))) ?_
 refine SR.y 15 G G (fun hb => ev_cmp G (lkg G hb) (lkg G hb) G) ?_
 refine SR.z 16 G G (ev_or G G G G) ?_
 refine SR.fin kR hl_2 hx_2 hR_2 .n ?_
 refine SQ.go idQ ?_
 refine .condI G (bO (bO bE bD) bD) (fun h3 => ?_) (fun h3 => ?_)
 ·
  exfalso; omega
 refine .skipgo idQ (.seq (.region (.a G G G (.go idQ (.seq (.seq (.region (.a G G G ?_))))))))
 refine .go idQ (.block (.loop (X := Int × Int) (fun ⟨k, s⟩ => 1 ≤ k ∧ k ≤ (Wl.length : Int) ∧ WgI n t Wl x k s) (fun ⟨k, s⟩ => [(1, .slice B Wl.length d), (2, .pointer (some ⟨b1, 0, none⟩)), (6, .int .i64 k), (5, .int .i64 s)]) (fun ⟨k, s⟩ => [cel b1 [.int .i64 n, .slice A t.length c] 29]) (fun _ => S) (fun _ => wf) (fun ⟨k, s⟩ => ((Wl.length : Int) - k).toNat) (fun a_ w_ hs_ hw_ => ⟨⟨1, 0⟩, (by (try dsimp only); exact ⟨oO, oO, (wg_0 hW hS hi)⟩), hs_.mono (Sub.get (.c4 G G G G .n)), hw_.keep (.c .h .n)⟩) (fun ⟨k, s⟩ ⟨q_0, q_1, q_2⟩ => ?_)))
 try dsimp only
 have hsb := q_2.bd
 refine .seq (.seq (.region (.m G G G (.m G G G (.g underlying27 G G G ?_)))))
 refine .e G G G G G (.go idQ (.condI G bD (fun h4 => ?_) (fun h4 => ?_)))
 ·
  refine .skipgo idQ (.seq (.block (.seq (.seq ?_))))
  have hwk := wg_at q_2 oO oO
  have hix := idx_rng (n := n) (a := gt Wl (k - 1)) (b := gt Wl k) hwk.1 hwk.2.1
  have htk := hr (gt Wl (k - 1) * n + gt Wl k)
  refine SC.draw mo [] [] .n (fun _ _ _ => sc0) (fun wf_5 hl_5 hx_5 hR_5 => ?_)
  refine SR.m 0 G G G G ?_
  refine SR.m 1 G G G G ?_
  refine SR.z 2 G G (ev_ix G underlying27 ty3 G G oO oO (fun _ _ => Fr.adr (i := k) (Fr.ext hB hx_5) oO oO)) ?_
  refine SR.z 3 G G (ev_ld1 G ty3 G (At.elem1 (At.d (Fr.el (i := k) (Fr.ext hB hx_5) oO oO)) 0 G)) ?_
  refine SR.z 4 G G (ev_cmp G G G G) ?_
  refine SR.m 5 G G G G ?_
  refine SR.y 6 G G (fun _ => ev_mv G G) ?_
  refine SR.y 7 G G (fun _ => ev_mv G G) ?_
  refine SR.y 8 G G (fun hb => have hp := bF bD hb; ev_ix G underlying27 ty3 (lkg G hb) (lkg G hb) (by have _h := hp; omega) (by have _h := hp; omega) (fun _ _ => Fr.adr (i := k) (Fr.ext hB hx_5) (by have _h := hp; omega) (by have _h := hp; omega))) ?_
  refine SR.y 9 G G (fun hb => have hp := bF bD hb; ev_ld1 G ty3 (lkg G hb) (At.elem1 (At.d (Fr.el (i := k) (Fr.ext hB hx_5) (by have _h := hp; omega) (by have _h := hp; omega))) 0 G)) ?_
  refine SR.y 10 G G (fun _ => ev_fa G fo29_0 G (r := 0) G) ?_
  refine SR.y 11 G G (fun hb => ev_ld1 G ty3 (lkg G hb) (At.d (At.lent hR_5 0 G G))) ?_
  refine SR.y 12 G G (fun hb => ev_cmp G (lkg G hb) (lkg G hb) G) ?_
  refine SR.z 13 G G (ev_or G G G G) ?_
  refine SR.m 14 G G G G ?_
  refine SR.y 15 G G (fun _ => ev_fa G fo29_1 G (r := 1) G) ?_
  refine SR.y 16 G G (fun hb => ev_ld1 G ty27 (lkg G hb) (At.d (At.lent hR_5 0 G G))) ?_
  refine SR.y 17 G G (fun _ => ev_mv G G) ?_
  refine SR.y 18 G G (fun _ => ev_mv G G) ?_
  refine SR.y 19 G G (fun hb => have hp := bF (bO bD bD) hb; ev_sub G (lkg G hb) G (r := (k - 1)) G (by have _h := hp; omega) (by have _h := hp; omega)) ?_
  refine SR.y 20 G G (fun hb => have hp := bF (bO bD bD) hb; ev_ix G underlying27 ty3 (lkg G hb) (lkg G hb) (by have _h := hp; omega) (by have _h := hp; omega) (fun _ _ => Fr.adr (i := (k - 1)) (Fr.ext hB hx_5) (by have _h := hp; omega) (by have _h := hp; omega))) ?_
  refine SR.y 21 G G (fun hb => have hp := bF (bO bD bD) hb; ev_ld1 G ty3 (lkg G hb) (At.elem1 (At.d (Fr.el (i := (k - 1)) (Fr.ext hB hx_5) (by have _h := hp; omega) (by have _h := hp; omega))) 0 G)) ?_
  refine SR.y 22 G G (fun _ => ev_fa G fo29_0 G (r := 0) G) ?_
  refine SR.y 23 G G (fun hb => ev_ld1 G ty3 (lkg G hb) (At.d (At.lent hR_5 0 G G))) ?_
  refine SR.y 24 G G (fun hb => have hp := bF (bO bD bD) hb; ev_mul G (lkg G hb) (lkg G hb) (r := ((gt Wl (k - 1)) * n)) G (by have _h := hp; omega) (by have _h := hp; omega)) ?_
  refine SR.y 25 G G (fun _ => ev_mv G G) ?_
  refine SR.y 26 G G (fun _ => ev_mv G G) ?_
  refine SR.y 27 G G (fun hb => have hp := bF (bO bD bD) hb; ev_ix G underlying27 ty3 (lkg G hb) (lkg G hb) (by have _h := hp; omega) (by have _h := hp; omega) (fun _ _ => Fr.adr (i := k) (Fr.ext hB hx_5) (by have _h := hp; omega) (by have _h := hp; omega))) ?_
  refine SR.y 28 G G (fun hb => have hp := bF (bO bD bD) hb; ev_ld1 G ty3 (lkg G hb) (At.elem1 (At.d (Fr.el (i := k) (Fr.ext hB hx_5) (by have _h := hp; omega) (by have _h := hp; omega))) 0 G)) ?_
  refine SR.y 29 G G (fun hb => have hp := bF (bO bD bD) hb; ev_add G (lkg G hb) (lkg G hb) (r := (((gt Wl (k - 1)) * n) + (gt Wl k))) G (by have _h := hp; omega) (by have _h := hp; omega)) ?_
  refine SR.y 30 G G (fun hb => have hp := bF (bO bD bD) hb; ev_ix G underlying27 ty3 (lkg G hb) (lkg G hb) (by have _h := hp; omega) (by have _h := hp; omega) (fun _ _ => Fr.adr (i := (((gt Wl (k - 1)) * n) + (gt Wl k))) (Fr.ext hA hx_5) (by have _h := hp; omega) (by have _h := hp; omega))) ?_
  refine SR.y 31 G G (fun hb => have hp := bF (bO bD bD) hb; ev_ld1 G ty3 (lkg G hb) (At.elem1 (At.d (Fr.el (i := (((gt Wl (k - 1)) * n) + (gt Wl k))) (Fr.ext hA hx_5) (by have _h := hp; omega) (by have _h := hp; omega))) 0 G)) ?_
  refine SR.y 32 G G (fun hb => ev_cmp G (lkg G hb) G G) ?_
  refine SR.z 33 G G (ev_or G G G G) ?_
  refine SR.fin kR hl_5 hx_5 hR_5 .n ?_
  refine SQ.go idQ ?_
  refine .condI G (bO (bO bD bD) bD) (fun h6 => ?_) (fun h6 => ?_)
  ·
   exfalso; omega
  refine .skipgo idQ ?_
  refine SC.draw mo [] [] .n (fun _ _ _ => sc0) (fun wf_7 hl_7 hx_7 hR_7 => ?_)
  refine SR.m 0 G G G G ?_
  refine SR.z 1 G G (ev_fa G fo29_1 G (r := 1) G) ?_
  refine SR.z 2 G G (ev_ld1 G ty27 G (At.d (At.lent hR_7 0 G G))) ?_
  refine SR.m 3 G G G G ?_
  refine SR.m 4 G G G G ?_
  refine SR.z 5 G G (ev_sub G G G (r := (k - 1)) G oO oO) ?_
  refine SR.z 6 G G (ev_ix G underlying27 ty3 G G oO oO (fun _ _ => Fr.adr (i := (k - 1)) (Fr.ext hB hx_7) oO oO)) ?_
  refine SR.z 7 G G (ev_ld1 G ty3 G (At.elem1 (At.d (Fr.el (i := (k - 1)) (Fr.ext hB hx_7) oO oO)) 0 G)) ?_
  refine SR.z 8 G G (ev_fa G fo29_0 G (r := 0) G) ?_
  refine SR.z 9 G G (ev_ld1 G ty3 G (At.d (At.lent hR_7 0 G G))) ?_
  refine SR.z 10 G G (ev_mul G G G (r := ((gt Wl (k - 1)) * n)) G oO oO) ?_
  refine SR.m 11 G G G G ?_
  refine SR.m 12 G G G G ?_
  refine SR.z 13 G G (ev_ix G underlying27 ty3 G G oO oO (fun _ _ => Fr.adr (i := k) (Fr.ext hB hx_7) oO oO)) ?_
  refine SR.z 14 G G (ev_ld1 G ty3 G (At.elem1 (At.d (Fr.el (i := k) (Fr.ext hB hx_7) oO oO)) 0 G)) ?_
  refine SR.z 15 G G (ev_add G G G (r := (((gt Wl (k - 1)) * n) + (gt Wl k))) G oO oO) ?_
  refine SR.z 16 G G (ev_ix G underlying27 ty3 G G oO oO (fun _ _ => Fr.adr (i := (((gt Wl (k - 1)) * n) + (gt Wl k))) (Fr.ext hA hx_7) oO oO)) ?_
  refine SR.z 17 G G (ev_ld1 G ty3 G (At.elem1 (At.d (Fr.el (i := (((gt Wl (k - 1)) * n) + (gt Wl k))) (Fr.ext hA hx_7) oO oO)) 0 G)) ?_
  refine SR.z 18 G G (ev_add G G G (r := (s + (gt t (((gt Wl (k - 1)) * n) + (gt Wl k))))) G oO oO) ?_
  refine SR.z 19 G G (ev_as G G) ?_
  refine SR.fin kR hl_7 hx_7 hR_7 .n ?_
  refine SQ.go idQ ?_
  refine .region (.m G G G (.p ((k + 1)) oO oO G G G G G (.a G G G ?_)))
  exact SP.nil (SQ.roundb (X := Int × Int) (x := (k, s)) ⟨(k + 1), (s + (gt t (((gt Wl (k - 1)) * n) + (gt Wl k))))⟩ (by (try dsimp only); exact ⟨oO, oO, (wg_next hr q_2 oO oO)⟩) dO (Sub.get (.c4 G G G G .n)) (kp (.c .h .n)))
 refine .exit idQ ?_
 refine .seq (.region (.m G G G (.a G G G (.go idQ ?_))))
 exact .ret idQ (ret1 results22 G .n ⟨(congrArg (Value.int .i64) (wg_end q_2 oO)), G⟩)
end Go.Proofs.Ytpjblnmophcdmaa.Sx
set_option maxRecDepth 20000
set_option maxHeartbeats 8000000
set_option maxRecDepth 20000
set_option maxHeartbeats 8000000
set_option maxRecDepth 20000
set_option maxHeartbeats 8000000
set_option maxRecDepth 20000
set_option maxHeartbeats 8000000
set_option maxRecDepth 20000
set_option maxHeartbeats 8000000
set_option maxRecDepth 20000
set_option maxHeartbeats 8000000
namespace Go.Proofs.Ytpjblnmophcdmaa.Sx.FLE
open Go Go.SX Go.Proofs Go.Proofs.Try FA FB FC FD FE FF FG FH FI FJ FK FL FM FN FO FP FQ FR FS FCA FCB FCC FCE FCF FCH FCJ FCK FCL
theorem hbd9 : hasBody prog 9 = true := by kernel_rfl
theorem hbd21 : hasBody prog 21 = true := by kernel_rfl
theorem hbd22 : hasBody prog 22 = true := by kernel_rfl
end Go.Proofs.Ytpjblnmophcdmaa.Sx.FLE
namespace Go.Proofs.Ytpjblnmophcdmaa.Sx
open Go Go.SX Go.Proofs Go.Proofs.Try FA FB FC FD FE FF FG FH FI FJ FK FL FM FN FO FP FQ FR FS FCA FCB FCC FCE FCF FCH FCJ FCK FCL FLE
theorem climbWaysF (n : Int) (A : Option Addr) (c : Nat) (l : List AR) (S : Nat → Prop) (wf : World) (hA : Fr eAR S wf A l) (hR : RoadOk n l) :
  TR0 prog 7 [.agg #[.int .i64 n, .slice A l.length c], .bool false] [] S wf (fun v_ C_ => v_ = .bool true ∧ C_ = []) := by
 have hla := hA.len
 have hlen := hR.len
 have hnp := hR.pl
 have hto := tab_ok (d := false) hR
 have htl := hto.len
 have hsq := sq_le hnp
 refine TR.mk func7 G ntmps7 G G (fun w_ => ?_)
 refine .seq (.region (.cons (st_boxa G G G G G (fun b1 => (.a G G G (.go idQ (.seq (.seq (.region ?_)))))))))
 refine .cons (st_callk G G G G hbd9 G .n (awake8_ _ _) ?_)
 refine .v (ev_not G G) G (.go idQ (.cond_f G (.skipgo idQ (.seq (.region ?_)))))
 refine .d 0 ty24 G G G G (.m G G G (.cons (st_call0 G G G G hbd10 G .n (graphF n A c l _ _ hA hR) (fun v_q10 C_q10 q10 => ?_))))
 obtain ⟨b2, u3, v4, fi5, ed6, x7, y8, W9, p11, p12, p13, rfl, rfl⟩ := q10
 show SP _ _ _ _ _ _ ⟨_, _ :: _ :: _ :: _ :: _ :: _, _, _⟩
 have hgl := p11.len
 have hgn := p11.ne
 refine .m G G G (.x G G G G (.x G G G G (.x G G G G ?_)))
 refine .x G G G G (.cons (st_alloc G G G G zf29 (fun b14 => (.cons (st_alloc G G G G zf29 (fun b15 => (.a G G G ?_)))))))
 refine .know (row_len 5 G) (fun hv18 => ?_)
 obtain ⟨A16, c17, rfl, hv18_1, hv18_2⟩ := hv18
 unfold maxLen at hv18_2
 refine .cons (st_storea (l' := [.int .i64 n, .slice A16 ((tabF n false l).length) c17]) G G G ty29 G G G (.t .h) G G ?_)
 refine .know (row_len 6 G) (fun hv21 => ?_)
 obtain ⟨A19, c20, rfl, hv21_1, hv21_2⟩ := hv21
 unfold maxLen at hv21_2
 refine .cons (st_storea (l' := [.int .i64 n, .slice A19 W9.length c20]) G G G ty29 G G G (.t .h) G G ?_)
 refine .a G G G (.go idQ (.seq (.seq (.region (.m G G G (.v (ev_not G G) G ?_))))))
 refine .go idQ (.cond_f G (.skipgo idQ (.seq (.region (.m G G G ?_)))))
 refine .know (row_len 3 G) (fun hv24 => ?_)
 obtain ⟨A22, c23, rfl, hv24_1, hv24_2⟩ := hv24
 unfold maxLen at hv24_2
 refine .know (row_len 4 G) (fun hv27 => ?_)
 obtain ⟨A25, c26, rfl, hv27_1, hv27_2⟩ := hv27
 unfold maxLen at hv27_2
 refine .cons (st_lend0 G G G G hbd11 G (.c (.t2 .h) .n) (.c (.t2 .h) (.c (.t2 .h) .n)) (fun w_ hw => build_ n (tabF n false l) b2 A22 c23 fi5 A25 c26 ed6 _ _ (Fr.lend hw 0 G lO) (Fr.lend hw 1 G lO) hto p11 lO) (fun v_q37 C_q37 q37 => ?_))
 obtain ⟨lb28, v129, v230, v331, v432, R33, K34, U35, D36, p38, rfl, rfl⟩ := q37
 show SP _ _ _ _ _ _ ⟨_, _ :: _ :: _ :: _ :: _ :: _ :: _ :: _ :: _ :: _ :: _, _, _⟩
 have hwl0 := p13.len
 have hC := lc hto p11 p38
 have hM := wm hto p11 p38
 have hRn := hC.hR
 refine .a G G G (.go idQ (.seq (.seq (.know (row_len 2 G) (fun hv41 => ?_)))))
 obtain ⟨A39, c40, rfl, hv41_1, hv41_2⟩ := hv41
 unfold maxLen at hv41_2
 refine .know (row_len 3 G) (fun hv44 => ?_)
 obtain ⟨A42, c43, rfl, hv44_1, hv44_2⟩ := hv44
 unfold maxLen at hv44_2
 refine .know (row_len 4 G) (fun hv47 => ?_)
 obtain ⟨A45, c46, rfl, hv47_1, hv47_2⟩ := hv47
 unfold maxLen at hv47_2
 refine .know (row_len 5 G) (fun hv50 => ?_)
 obtain ⟨A48, c49, rfl, hv50_1, hv50_2⟩ := hv50
 unfold maxLen at hv50_2
 refine .region (.a G G G (.go idQ (.block (.loop (X := Int) (fun i => 0 ≤ i ∧ i ≤ n) (fun i => [(6, .pointer (some ⟨b14, 0, none⟩)), (7, .pointer (some ⟨b15, 0, none⟩)), (9, .pointer (some ⟨lb28, 0, none⟩)), (10, .int .i64 i)]) (fun i => [cel b2 [.slice A22 fi5.length c23, .slice A25 ed6.length c26] 106, cel lb28 [.slice A39 R33.length c40, .slice A42 K34.length c43, .slice A45 U35.length c46, .slice A48 D36.length c49] 76, rw_ eZ 3 (.slice A39 R33.length c40) R33, rw_ eLK 44 (.slice A42 K34.length c43) K34, rw_ eIL 27 (.slice A45 U35.length c46) U35, rw_ eIL 27 (.slice A48 D36.length c49) D36, nestIL 3 U35, nestIL 3 D36, rw_ eZ 3 (.slice A22 fi5.length c23) fi5, rw_ eEG 72 (.slice A25 ed6.length c26) ed6, cel b15 [.int .i64 n, .slice A19 W9.length c20] 29, cel b14 [.int .i64 n, .slice A16 ((tabF n false l).length) c17] 29, rw_ eZ 3 (.slice A16 ((tabF n false l).length) c17) (tabF n false l), rw_ eZ 3 (.slice A19 W9.length c20) W9, cel b1 [.int .i64 n, .slice A l.length c] 24]) (fun _ => S) (fun _ => wf) (fun i => (n - i).toNat) (fun a_ w_ hs_ hw_ => ⟨0, (by (try dsimp only); exact ⟨oO, oO⟩), hs_.mono (Sub.get (.c4 G G G G .n)), hw_.keep (.d (.d (.d (.d (.d (.d (.d (.c .h .n))))))))⟩) (fun i ⟨q_0, q_1⟩ => ?_)))))
 try dsimp only
 refine .seq (.seq (.region (.m G G G (.f fo29_0 0 G G G G (.l ty3 10 G G G G G ?_)))))
 refine .e G G G G G (.go idQ (.condI G bD (fun h51 => ?_) (fun h51 => ?_)))
 ·
  refine .skipgo idQ (.seq (.block (.seq (.region (.a G G G (.go idQ (.block (.loop (X := Int) (fun j => 0 ≤ j ∧ j ≤ n) (fun j => [(6, .pointer (some ⟨b14, 0, none⟩)), (7, .pointer (some ⟨b15, 0, none⟩)), (9, .pointer (some ⟨lb28, 0, none⟩)), (10, .int .i64 i), (11, .int .i64 j)]) (fun j => [cel b2 [.slice A22 fi5.length c23, .slice A25 ed6.length c26] 106, cel lb28 [.slice A39 R33.length c40, .slice A42 K34.length c43, .slice A45 U35.length c46, .slice A48 D36.length c49] 76, rw_ eZ 3 (.slice A39 R33.length c40) R33, rw_ eLK 44 (.slice A42 K34.length c43) K34, rw_ eIL 27 (.slice A45 U35.length c46) U35, rw_ eIL 27 (.slice A48 D36.length c49) D36, nestIL 3 U35, nestIL 3 D36, rw_ eZ 3 (.slice A22 fi5.length c23) fi5, rw_ eEG 72 (.slice A25 ed6.length c26) ed6, cel b15 [.int .i64 n, .slice A19 W9.length c20] 29, cel b14 [.int .i64 n, .slice A16 ((tabF n false l).length) c17] 29, rw_ eZ 3 (.slice A16 ((tabF n false l).length) c17) (tabF n false l), rw_ eZ 3 (.slice A19 W9.length c20) W9, cel b1 [.int .i64 n, .slice A l.length c] 24]) (fun _ => S) (fun _ => wf) (fun j => (n - j).toNat) (fun a_ w_ hs_ hw_ => ⟨0, (by (try dsimp only); exact ⟨oO, oO⟩), hs_.mono (Sub.get (.c4 G G G G (.c G .n))), hw_.keep (.d (.d (.d (.d (.d (.d (.d (.c .h .n))))))))⟩) (fun j ⟨r_0, r_1⟩ => ?_)))))))))
  try dsimp only
  refine .seq (.seq (.region (.m G G G (.f fo29_0 0 G G G G (.l ty3 10 G G G G G ?_)))))
  refine .e G G G G G (.go idQ (.condI G bD (fun h52 => ?_) (fun h52 => ?_)))
  ·
   refine .skipgo idQ (.seq (.block (.seq (.region (.m G G G (.m G G G (.m G G G ?_)))))))
   refine .cons (st_call0 G G G G hbd21 G (.c (.t .h) (.c (.t .h) (.c (.t .h) (.c (.t .h) (.c (.t .h) (.c (.t .h) (.c (.t .h) .n))))))) (way_ lb28 A39 c40 R33 A42 c43 K34 A45 c46 U35 A48 c49 D36 n (tabF n false l) i j _ _ hC hM oO oO) (fun v_q56 C_q56 q56 => ?_))
   obtain ⟨u53, x54, Wl55, p57, p58, p59, rfl, rfl⟩ := q56
   show SP _ _ _ _ _ _ ⟨_, _ :: _ :: _ :: _ :: _ :: _ :: _ :: _ :: _, _, _⟩
   refine .m G G G (.x G G G G (.x G G G G (.a G G G ?_)))
   refine .a G G G (.go idQ (.seq ?_))
   have hix := idx_rng (n := n) (a := i) (b := j) ⟨by omega, by omega⟩ ⟨by omega, by omega⟩
   have hdc : x54 = gt W9 (i * n + j) := p57.trans ((ds_in ⟨by omega, by omega⟩ ⟨by omega, by omega⟩).trans (p13.at_ i j oO oO oO oO).symm)
   refine .region (.f fo29_1 1 G G G G (.l ty27 11 G G G G G (.m G G G ?_)))
   refine .f fo29_0 0 G G G G (.l ty3 11 G G G G G (.v (ev_mul G G G (r := (i * n)) G oO oO) G (.m G G G ?_)))
   refine .p (((i * n) + j)) oO oO G G G G G (.v (ev_ix G underlying27 ty3 G G oO oO (row_adr (i := ((i * n) + j)) 14 G oO oO)) G (.v (ev_ld1 G ty3 G (At.elem1 (row_el (E := eZ) (l := W9) (i := ((i * n) + j)) 14 G oO oO) 0 G)) G (.a G G G ?_)))
   refine .go idQ (.seq ?_)
   rcases p58 with ⟨hx0, hwn⟩ | ⟨hx0, L_, hW_, hS_⟩
   ·
    refine .region (.m G G G (.m G G G (.e G G G G G ?_)))
    refine .m G G G ?_
    refine SP.reslot (t := 63) G (bne_eq_false_iff_eq.2 oO) ?_
    refine .cons (.on G G G (Ev.step (ev_mv G G) G G G ?_))
    refine .cons (.on G G G (Ev.step (ev_cmp G G G G) G G G ?_))
    refine .cons (.on G G G (Ev.step (ev_mv G G) G G G ?_))
    refine SP.reslot (t := 66) G (decide_eq_true oO) ?_
    refine .cons (.on G G G (Ev.step (ev_mv G G) G G G ?_))
    refine .know (row_len 7 G) (fun hv62 => ?_)
    obtain ⟨A60, c61, rfl, hv62_1, hv62_2⟩ := hv62
    unfold maxLen at hv62_2
    refine .cons (.on G G G (Ev.step (ev_len G underlying27 G) G G G ?_))
    refine .cons (.on G G G (Ev.step (ev_cmp G G G G) G G G ?_))
    refine .cons (.on G G G (Ev.step (ev_pickt G G G G) G G G ?_))
    refine .v (ev_pickf G G G G) G (.m G G G ?_)
    refine SP.reslot (t := 72) G (by rw [hwn]) ?_
    refine .cons (.on G G G (Ev.step (ev_mv G G) G G G ?_))
    refine .cons (.on G G G (Ev.step (ev_cmp G G G G) G G G ?_))
    refine .cons (.on G G G (Ev.step (ev_mv G G) G G G ?_))
    refine SP.reslot (t := 75) G (decide_eq_false oO) ?_
    refine .cons (.off G G G G G G ?_)
    refine .cons (.off G G G G G G ?_)
    refine .cons (.off G G G G G G ?_)
    refine .cons (.off G G G G G G ?_)
    refine .cons (.off G G G G G G ?_)
    refine .cons (.off G G G G G G ?_)
    refine .cons (.offu G G G G G ?_)
    refine .cons (.offu G G G G G ?_)
    refine .cons (.offu G G G G G ?_)
    refine .cons (.offu G G G G G ?_)
    refine .cons (.offu G G G G G ?_)
    refine .cons (.off G G G G G G ?_)
    refine .cons (.off G G G G G G ?_)
    refine .cons (.offu G G G G G ?_)
    refine .cons (.offu G G G G G ?_)
    refine .cons (.offu G G G G G ?_)
    refine .cons (.offu G G G G G ?_)
    refine .cons (.offu G G G G G ?_)
    refine .cons (.offu G G G G G ?_)
    refine .cons (.offu G G G G G ?_)
    refine .cons (.offu G G G G G ?_)
    refine .cons (.off G G G G G G ?_)
    refine .cons (.on G G G (Ev.step (ev_pickf G G G G) G G G ?_))
    refine .v (ev_pickf G G G G) G (.go idQ (.cond_f G (.skipgo idQ (.region ?_))))
    refine .m G G G (.p ((j + 1)) oO oO G G G G G (.a G G G ?_))
    exact SP.nil (SQ.roundb (X := Int) (x := (j)) (j + 1) (by (try dsimp only); exact ⟨oO, oO⟩) (by show (_ : Nat) < _; omega) (Sub.get (.c4 G G G G (.c G .n))) (kp (.c (.t4 (.t4 .h)) (.d (.d (.d (.c .h (.c (.t .h) (.c (.t .h) (.c (.t .h) (.c (.t .h) (.c (.t .h) (.c (.t .h) (.c (.t .h) .n))))))))))))))
   have hwe := way_ends ⟨L_, hW_, hS_⟩
   refine .region (.m G G G (.m G G G (.e G G G G G ?_)))
   refine .m G G G ?_
   refine SP.reslot (t := 63) G (bne_eq_false_iff_eq.2 oO) ?_
   refine .cons (.on G G G (Ev.step (ev_mv G G) G G G ?_))
   refine .cons (.on G G G (Ev.step (ev_cmp G G G G) G G G ?_))
   refine .cons (.on G G G (Ev.step (ev_mv G G) G G G ?_))
   refine SP.reslot (t := 66) G (decide_eq_false oO) ?_
   refine .cons (.off G G G G G G ?_)
   refine .cons (.off G G G G G G ?_)
   refine .cons (.off G G G G G G ?_)
   refine .cons (.on G G G (Ev.step (ev_pickf G G G G) G G G ?_))
   refine .v (ev_pickf G G G G) G (.m G G G (.cons (.on G G G (Ev.step (ev_mv G G) G G G (.cons (.on G G G (Ev.step (ev_cmp G G G G) G G G ?_)))))))
   refine .cons (.on G G G (Ev.step (ev_mv G G) G G G ?_))
   refine SP.reslot (t := 75) G (decide_eq_true oO) ?_
   refine .cons (.on G G G (Ev.step (ev_lda G G (At.whole 12 G) ty29) G G G ?_))
   refine .cons (.on G G G (Ev.step (ev_mv G G) G G G ?_))
   refine .know (row_len 7 G) (fun hv65 => ?_)
   obtain ⟨A63, c64, rfl, hv65_1, hv65_2⟩ := hv65
   unfold maxLen at hv65_2
   refine .cons (.on G G G (st_lendk G G G G hbd22 G .n (.c (.t4 (.t4 (.t4 (.t .h)))) (.c (.t4 (.t2 (.t .h))) .n)) (fun w_ hw => weigh5_ n A16 c17 (tabF n false l) A63 c64 Wl55 i j x54 L_ _ _ (Fr.lend hw 0 G lO) (Fr.lend hw 1 G lO) hnp htl hto.rng hW_ hS_ ⟨by omega, by omega⟩ p59) ?_))
   refine .cons (.on G G G (Ev.step (ev_mv G G) G G G ?_))
   refine .cons (.on G G G (Ev.step (ev_cmp G G G G) G G G ?_))
   refine .cons (.on G G G (Ev.step (ev_mv G G) G G G ?_))
   refine SP.reslot (t := 81) G (bne_eq_false_iff_eq.2 oO) ?_
   refine .cons (.on G G G (Ev.step (ev_mv G G) G G G ?_))
   refine .cons (.on G G G (Ev.step (ev_ix G underlying27 ty3 G G oO oO (row_adr (i := 0) 7 G oO oO)) G G G ?_))
   refine .cons (.on G G G (Ev.step (ev_ld1 G ty3 G (At.elem1 (row_el (E := eZ) (l := Wl55) (i := 0) 7 G oO oO) 0 G)) G G G ?_))
   refine .cons (.on G G G (Ev.step (ev_mv G G) G G G ?_))
   refine .cons (.on G G G (Ev.step (ev_cmp G G G G) G G G ?_))
   refine .cons (.on G G G (Ev.step (ev_pickf G G G G) G G G ?_))
   refine .cons (.on G G G (Ev.step (ev_mv G G) G G G ?_))
   refine SP.reslot (t := 88) G (bne_eq_false_iff_eq.2 hwe.1) ?_
   refine .cons (.on G G G (Ev.step (ev_mv G G) G G G ?_))
   refine .cons (.on G G G (Ev.step (ev_mv G G) G G G ?_))
   refine .cons (.on G G G (Ev.step (ev_len G underlying27 G) G G G ?_))
   refine .cons (.on G G G (Ev.step (ev_sub G G G (r := ((Wl55.length : Int) - 1)) G oO oO) G G G ?_))
   refine .cons (.on G G G (Ev.step (ev_ix G underlying27 ty3 G G oO oO (row_adr (i := ((Wl55.length : Int) - 1)) 7 G oO oO)) G G G ?_))
   refine .cons (.on G G G (Ev.step (ev_ld1 G ty3 G (At.elem1 (row_el (E := eZ) (l := Wl55) (i := ((Wl55.length : Int) - 1)) 7 G oO oO) 0 G)) G G G ?_))
   refine .cons (.on G G G (Ev.step (ev_mv G G) G G G ?_))
   refine .cons (.on G G G (Ev.step (ev_cmp G G G G) G G G ?_))
   refine .cons (.on G G G (Ev.step (ev_pickf G G G G) G G G ?_))
   refine .cons (.on G G G (Ev.step (ev_pickt G G G G) G G G ?_))
   refine .v (ev_pickf G G G G) G (.go idQ (.condI G bNE (fun h66 => ?_) (fun h66 => ?_)))
   ·
    exfalso; omega
   refine .skipgo idQ (.region (.m G G G (.p ((j + 1)) oO oO G G G G G (.a G G G ?_))))
   exact SP.nil (SQ.roundb (X := Int) (x := (j)) (j + 1) (by (try dsimp only); exact ⟨oO, oO⟩) (by show (_ : Nat) < _; omega) (Sub.get (.c4 G G G G (.c G .n))) (kp (.c (.t4 (.t4 .h)) (.d (.d (.d (.c .h (.c (.t .h) (.c (.t .h) (.c (.t .h) (.c (.t .h) (.c (.t .h) (.c (.t .h) (.c (.t .h) .n))))))))))))))
  refine .exit idQ ?_
  refine .region (.m G G G (.p ((i + 1)) oO oO G G G G G (.a G G G ?_)))
  exact SP.nil (SQ.roundb (X := Int) (x := (i)) (i + 1) (by (try dsimp only); exact ⟨oO, oO⟩) (by show (_ : Nat) < _; omega) (Sub.get (.c4 G G G G .n)) (kp (.d (.d (.d (.d (.d (.d (.d (.c .h .n))))))))))
 refine .exit idQ ?_
 refine .seq (.region (.m G G G (.f fo29_0 0 G G G G (.l ty3 10 G G G G G ?_))))
 refine .cons (st_callk G G G G hbd21 G (.c (.t .h) (.c (.t .h) (.c (.t .h) (.c (.t .h) (.c (.t .h) (.c (.t .h) (.c (.t .h) .n))))))) (wayno_ lb28 A39 c40 R33 A42 c43 K34 A45 c46 U35 A48 c49 D36 n (tabF n false l) 0 n _ _ hC oO) ?_)
 refine .m G G G (.x G G G G (.x G G G G (.a G G G ?_)))
 refine .a G G G (.go idQ (.seq (.region (.m G G G (.g underlying27 G G G ?_)))))
 refine .v (ev_cmp (r := true) G G G G) G (.m G G G (.cons (.on G G G (Ev.step (ev_mv G G) G G G (.cons (.on G G G (Ev.step (ev_cmp (r := true) G G G G) G G G ?_)))))))
 refine .v (ev_pickt G G G G) G (.a G G G (.go idQ (.ret idQ (ret1 results7 G .n ⟨G, G⟩))))
theorem climbWaysBadF (n : Int) (A : Option Addr) (c : Nat) (l : List AR) (S : Nat → Prop) (wf : World) (hA : Fr eAR S wf A l) (hR : ¬ RoadOk n l) :
  TR0 prog 7 [.agg #[.int .i64 n, .slice A l.length c], .bool false] [] S wf (fun v_ C_ => v_ = .bool true ∧ C_ = []) := by
 have hla := hA.len
 refine TR.mk func7 G ntmps7 G G (fun w_ => ?_)
 refine .seq (.region (.cons (st_boxa G G G G G (fun b1 => (.a G G G (.go idQ (.seq (.seq (.region ?_)))))))))
 refine .cons (st_callk G G G G hbd9 G .n (awake8_ _ _) ?_)
 refine .v (ev_not G G) G (.go idQ (.cond_f G (.skipgo idQ (.seq (.region ?_)))))
 refine .d 0 ty24 G G G G (.m G G G (.cons (st_callk G G G G hbd10 G .n (graphbadF n A c l _ _ hA hR) (.m G G G ?_))))
 refine .x G G G G (.x G G G G (.x G G G G (.x G G G G ?_)))
 refine .cons (st_alloc G G G G zf29 (fun b2 => ?_))
 refine .cons (st_alloc G G G G zf29 (fun b3 => ?_))
 refine .a G G G (.cons (st_storea (l' := [.int .i64 0, .slice none 0 0]) G G G ty29 G G G (.t .h) G G (.cons (st_storea (l' := [.int .i64 0, .slice none 0 0]) G G G ty29 G G G (.t .h) G G (.a G G G ?_)))))
 refine .go idQ (.seq (.seq (.region (.m G G G (.v (ev_not G G) G (.go idQ ?_))))))
 refine .cond_t G ?_
 refine .seq (.region (.a G G G (.go idQ (.ret idQ (ret1 results7 G .n ⟨G, G⟩)))))
theorem climbWaysT (n : Int) (A : Option Addr) (c : Nat) (l : List AR) (S : Nat → Prop) (wf : World) (hA : Fr eAR S wf A l) (hR : RoadOk n l) :
  TR0 prog 7 [.agg #[.int .i64 n, .slice A l.length c], .bool true] [] S wf (fun v_ C_ => v_ = .bool true ∧ C_ = []) := by
 have hla := hA.len
 have hlen := hR.len
 have hnp := hR.pl
 have hto := tab_ok (d := true) hR
 have htl := hto.len
 have hsq := sq_le hnp
 refine TR.mk func7 G ntmps7 G G (fun w_ => ?_)
 refine .seq (.region (.cons (st_boxa G G G G G (fun b1 => (.a G G G (.go idQ (.seq (.seq (.region ?_)))))))))
 refine .cons (st_callk G G G G hbd9 G .n (awake8_ _ _) ?_)
 refine .v (ev_not G G) G (.go idQ (.cond_f G (.skipgo idQ (.seq (.region ?_)))))
 refine .d 0 ty24 G G G G (.m G G G (.cons (st_call0 G G G G hbd10 G .n (graphT n A c l _ _ hA hR) (fun v_q10 C_q10 q10 => ?_))))
 obtain ⟨b2, u3, v4, fi5, ed6, x7, y8, W9, p11, p12, p13, rfl, rfl⟩ := q10
 show SP _ _ _ _ _ _ ⟨_, _ :: _ :: _ :: _ :: _ :: _, _, _⟩
 have hgl := p11.len
 have hgn := p11.ne
 refine .m G G G (.x G G G G (.x G G G G (.x G G G G ?_)))
 refine .x G G G G (.cons (st_alloc G G G G zf29 (fun b14 => (.cons (st_alloc G G G G zf29 (fun b15 => (.a G G G ?_)))))))
 refine .know (row_len 5 G) (fun hv18 => ?_)
 obtain ⟨A16, c17, rfl, hv18_1, hv18_2⟩ := hv18
 unfold maxLen at hv18_2
 refine .cons (st_storea (l' := [.int .i64 n, .slice A16 ((tabF n true l).length) c17]) G G G ty29 G G G (.t .h) G G ?_)
 refine .know (row_len 6 G) (fun hv21 => ?_)
 obtain ⟨A19, c20, rfl, hv21_1, hv21_2⟩ := hv21
 unfold maxLen at hv21_2
 refine .cons (st_storea (l' := [.int .i64 n, .slice A19 W9.length c20]) G G G ty29 G G G (.t .h) G G ?_)
 refine .a G G G (.go idQ (.seq (.seq (.region (.m G G G (.v (ev_not G G) G ?_))))))
 refine .go idQ (.cond_f G (.skipgo idQ (.seq (.region (.m G G G ?_)))))
 refine .know (row_len 3 G) (fun hv24 => ?_)
 obtain ⟨A22, c23, rfl, hv24_1, hv24_2⟩ := hv24
 unfold maxLen at hv24_2
 refine .know (row_len 4 G) (fun hv27 => ?_)
 obtain ⟨A25, c26, rfl, hv27_1, hv27_2⟩ := hv27
 unfold maxLen at hv27_2
 refine .cons (st_lend0 G G G G hbd11 G (.c (.t2 .h) .n) (.c (.t2 .h) (.c (.t2 .h) .n)) (fun w_ hw => build_ n (tabF n true l) b2 A22 c23 fi5 A25 c26 ed6 _ _ (Fr.lend hw 0 G lO) (Fr.lend hw 1 G lO) hto p11 lO) (fun v_q37 C_q37 q37 => ?_))
 obtain ⟨lb28, v129, v230, v331, v432, R33, K34, U35, D36, p38, rfl, rfl⟩ := q37
 show SP _ _ _ _ _ _ ⟨_, _ :: _ :: _ :: _ :: _ :: _ :: _ :: _ :: _ :: _ :: _, _, _⟩
 have hwl0 := p13.len
 have hC := lc hto p11 p38
 have hM := wm hto p11 p38
 have hRn := hC.hR
 refine .a G G G (.go idQ (.seq (.seq (.know (row_len 2 G) (fun hv41 => ?_)))))
 obtain ⟨A39, c40, rfl, hv41_1, hv41_2⟩ := hv41
 unfold maxLen at hv41_2
 refine .know (row_len 3 G) (fun hv44 => ?_)
 obtain ⟨A42, c43, rfl, hv44_1, hv44_2⟩ := hv44
 unfold maxLen at hv44_2
 refine .know (row_len 4 G) (fun hv47 => ?_)
 obtain ⟨A45, c46, rfl, hv47_1, hv47_2⟩ := hv47
 unfold maxLen at hv47_2
 refine .know (row_len 5 G) (fun hv50 => ?_)
 obtain ⟨A48, c49, rfl, hv50_1, hv50_2⟩ := hv50
 unfold maxLen at hv50_2
 refine .region (.a G G G (.go idQ (.block (.loop (X := Int) (fun i => 0 ≤ i ∧ i ≤ n) (fun i => [(6, .pointer (some ⟨b14, 0, none⟩)), (7, .pointer (some ⟨b15, 0, none⟩)), (9, .pointer (some ⟨lb28, 0, none⟩)), (10, .int .i64 i)]) (fun i => [cel b2 [.slice A22 fi5.length c23, .slice A25 ed6.length c26] 106, cel lb28 [.slice A39 R33.length c40, .slice A42 K34.length c43, .slice A45 U35.length c46, .slice A48 D36.length c49] 76, rw_ eZ 3 (.slice A39 R33.length c40) R33, rw_ eLK 44 (.slice A42 K34.length c43) K34, rw_ eIL 27 (.slice A45 U35.length c46) U35, rw_ eIL 27 (.slice A48 D36.length c49) D36, nestIL 3 U35, nestIL 3 D36, rw_ eZ 3 (.slice A22 fi5.length c23) fi5, rw_ eEG 72 (.slice A25 ed6.length c26) ed6, cel b15 [.int .i64 n, .slice A19 W9.length c20] 29, cel b14 [.int .i64 n, .slice A16 ((tabF n true l).length) c17] 29, rw_ eZ 3 (.slice A16 ((tabF n true l).length) c17) (tabF n true l), rw_ eZ 3 (.slice A19 W9.length c20) W9, cel b1 [.int .i64 n, .slice A l.length c] 24]) (fun _ => S) (fun _ => wf) (fun i => (n - i).toNat) (fun a_ w_ hs_ hw_ => ⟨0, (by (try dsimp only); exact ⟨oO, oO⟩), hs_.mono (Sub.get (.c4 G G G G .n)), hw_.keep (.d (.d (.d (.d (.d (.d (.d (.c .h .n))))))))⟩) (fun i ⟨q_0, q_1⟩ => ?_)))))
 try dsimp only
 refine .seq (.seq (.region (.m G G G (.f fo29_0 0 G G G G (.l ty3 10 G G G G G ?_)))))
 refine .e G G G G G (.go idQ (.condI G bD (fun h51 => ?_) (fun h51 => ?_)))
 ·
  refine .skipgo idQ (.seq (.block (.seq (.region (.a G G G (.go idQ (.block (.loop (X := Int) (fun j => 0 ≤ j ∧ j ≤ n) (fun j => [(6, .pointer (some ⟨b14, 0, none⟩)), (7, .pointer (some ⟨b15, 0, none⟩)), (9, .pointer (some ⟨lb28, 0, none⟩)), (10, .int .i64 i), (11, .int .i64 j)]) (fun j => [cel b2 [.slice A22 fi5.length c23, .slice A25 ed6.length c26] 106, cel lb28 [.slice A39 R33.length c40, .slice A42 K34.length c43, .slice A45 U35.length c46, .slice A48 D36.length c49] 76, rw_ eZ 3 (.slice A39 R33.length c40) R33, rw_ eLK 44 (.slice A42 K34.length c43) K34, rw_ eIL 27 (.slice A45 U35.length c46) U35, rw_ eIL 27 (.slice A48 D36.length c49) D36, nestIL 3 U35, nestIL 3 D36, rw_ eZ 3 (.slice A22 fi5.length c23) fi5, rw_ eEG 72 (.slice A25 ed6.length c26) ed6, cel b15 [.int .i64 n, .slice A19 W9.length c20] 29, cel b14 [.int .i64 n, .slice A16 ((tabF n true l).length) c17] 29, rw_ eZ 3 (.slice A16 ((tabF n true l).length) c17) (tabF n true l), rw_ eZ 3 (.slice A19 W9.length c20) W9, cel b1 [.int .i64 n, .slice A l.length c] 24]) (fun _ => S) (fun _ => wf) (fun j => (n - j).toNat) (fun a_ w_ hs_ hw_ => ⟨0, (by (try dsimp only); exact ⟨oO, oO⟩), hs_.mono (Sub.get (.c4 G G G G (.c G .n))), hw_.keep (.d (.d (.d (.d (.d (.d (.d (.c .h .n))))))))⟩) (fun j ⟨r_0, r_1⟩ => ?_)))))))))
  try dsimp only
  refine .seq (.seq (.region (.m G G G (.f fo29_0 0 G G G G (.l ty3 10 G G G G G ?_)))))
  refine .e G G G G G (.go idQ (.condI G bD (fun h52 => ?_) (fun h52 => ?_)))
  ·
   refine .skipgo idQ (.seq (.block (.seq (.region (.m G G G (.m G G G (.m G G G ?_)))))))
   refine .cons (st_call0 G G G G hbd21 G (.c (.t .h) (.c (.t .h) (.c (.t .h) (.c (.t .h) (.c (.t .h) (.c (.t .h) (.c (.t .h) .n))))))) (way_ lb28 A39 c40 R33 A42 c43 K34 A45 c46 U35 A48 c49 D36 n (tabF n true l) i j _ _ hC hM oO oO) (fun v_q56 C_q56 q56 => ?_))
   obtain ⟨u53, x54, Wl55, p57, p58, p59, rfl, rfl⟩ := q56
   show SP _ _ _ _ _ _ ⟨_, _ :: _ :: _ :: _ :: _ :: _ :: _ :: _ :: _, _, _⟩
   refine .m G G G (.x G G G G (.x G G G G (.a G G G ?_)))
   refine .a G G G (.go idQ (.seq ?_))
   have hix := idx_rng (n := n) (a := i) (b := j) ⟨by omega, by omega⟩ ⟨by omega, by omega⟩
   have hdc : x54 = gt W9 (i * n + j) := p57.trans ((ds_in ⟨by omega, by omega⟩ ⟨by omega, by omega⟩).trans (p13.at_ i j oO oO oO oO).symm)
   refine .region (.f fo29_1 1 G G G G (.l ty27 11 G G G G G (.m G G G ?_)))
   refine .f fo29_0 0 G G G G (.l ty3 11 G G G G G (.v (ev_mul G G G (r := (i * n)) G oO oO) G (.m G G G ?_)))
   refine .p (((i * n) + j)) oO oO G G G G G (.v (ev_ix G underlying27 ty3 G G oO oO (row_adr (i := ((i * n) + j)) 14 G oO oO)) G (.v (ev_ld1 G ty3 G (At.elem1 (row_el (E := eZ) (l := W9) (i := ((i * n) + j)) 14 G oO oO) 0 G)) G (.a G G G ?_)))
   refine .go idQ (.seq ?_)
   rcases p58 with ⟨hx0, hwn⟩ | ⟨hx0, L_, hW_, hS_⟩
   ·
    refine .region (.m G G G (.m G G G (.e G G G G G ?_)))
    refine .m G G G ?_
    refine SP.reslot (t := 63) G (bne_eq_false_iff_eq.2 oO) ?_
    refine .cons (.on G G G (Ev.step (ev_mv G G) G G G ?_))
    refine .cons (.on G G G (Ev.step (ev_cmp G G G G) G G G ?_))
    refine .cons (.on G G G (Ev.step (ev_mv G G) G G G ?_))
    refine SP.reslot (t := 66) G (decide_eq_true oO) ?_
    refine .cons (.on G G G (Ev.step (ev_mv G G) G G G ?_))
    refine .know (row_len 7 G) (fun hv62 => ?_)
    obtain ⟨A60, c61, rfl, hv62_1, hv62_2⟩ := hv62
    unfold maxLen at hv62_2
    refine .cons (.on G G G (Ev.step (ev_len G underlying27 G) G G G ?_))
    refine .cons (.on G G G (Ev.step (ev_cmp G G G G) G G G ?_))
    refine .cons (.on G G G (Ev.step (ev_pickt G G G G) G G G ?_))
    refine .v (ev_pickf G G G G) G (.m G G G ?_)
    refine SP.reslot (t := 72) G (by rw [hwn]) ?_
    refine .cons (.on G G G (Ev.step (ev_mv G G) G G G ?_))
    refine .cons (.on G G G (Ev.step (ev_cmp G G G G) G G G ?_))
    refine .cons (.on G G G (Ev.step (ev_mv G G) G G G ?_))
    refine SP.reslot (t := 75) G (decide_eq_false oO) ?_
    refine .cons (.off G G G G G G ?_)
    refine .cons (.off G G G G G G ?_)
    refine .cons (.off G G G G G G ?_)
    refine .cons (.off G G G G G G ?_)
    refine .cons (.off G G G G G G ?_)
    refine .cons (.off G G G G G G ?_)
    refine .cons (.offu G G G G G ?_)
    refine .cons (.offu G G G G G ?_)
    refine .cons (.offu G G G G G ?_)
    refine .cons (.offu G G G G G ?_)
    refine .cons (.offu G G G G G ?_)
    refine .cons (.off G G G G G G ?_)
    refine .cons (.off G G G G G G ?_)
    refine .cons (.offu G G G G G ?_)
    refine .cons (.offu G G G G G ?_)
    refine .cons (.offu G G G G G ?_)
    refine .cons (.offu G G G G G ?_)
    refine .cons (.offu G G G G G ?_)
    refine .cons (.offu G G G G G ?_)
    refine .cons (.offu G G G G G ?_)
    refine .cons (.offu G G G G G ?_)
    refine .cons (.off G G G G G G ?_)
    refine .cons (.on G G G (Ev.step (ev_pickf G G G G) G G G ?_))
    refine .v (ev_pickf G G G G) G (.go idQ (.cond_f G (.skipgo idQ (.region ?_))))
    refine .m G G G (.p ((j + 1)) oO oO G G G G G (.a G G G ?_))
    exact SP.nil (SQ.roundb (X := Int) (x := (j)) (j + 1) (by (try dsimp only); exact ⟨oO, oO⟩) (by show (_ : Nat) < _; omega) (Sub.get (.c4 G G G G (.c G .n))) (kp (.c (.t4 (.t4 .h)) (.d (.d (.d (.c .h (.c (.t .h) (.c (.t .h) (.c (.t .h) (.c (.t .h) (.c (.t .h) (.c (.t .h) (.c (.t .h) .n))))))))))))))
   have hwe := way_ends ⟨L_, hW_, hS_⟩
   refine .region (.m G G G (.m G G G (.e G G G G G ?_)))
   refine .m G G G ?_
   refine SP.reslot (t := 63) G (bne_eq_false_iff_eq.2 oO) ?_
   refine .cons (.on G G G (Ev.step (ev_mv G G) G G G ?_))
   refine .cons (.on G G G (Ev.step (ev_cmp G G G G) G G G ?_))
   refine .cons (.on G G G (Ev.step (ev_mv G G) G G G ?_))
   refine SP.reslot (t := 66) G (decide_eq_false oO) ?_
   refine .cons (.off G G G G G G ?_)
   refine .cons (.off G G G G G G ?_)
   refine .cons (.off G G G G G G ?_)
   refine .cons (.on G G G (Ev.step (ev_pickf G G G G) G G G ?_))
   refine .v (ev_pickf G G G G) G (.m G G G (.cons (.on G G G (Ev.step (ev_mv G G) G G G (.cons (.on G G G (Ev.step (ev_cmp G G G G) G G G ?_)))))))
   refine .cons (.on G G G (Ev.step (ev_mv G G) G G G ?_))
   refine SP.reslot (t := 75) G (decide_eq_true oO) ?_
   refine .cons (.on G G G (Ev.step (ev_lda G G (At.whole 12 G) ty29) G G G ?_))
   refine .cons (.on G G G (Ev.step (ev_mv G G) G G G ?_))
   refine .know (row_len 7 G) (fun hv65 => ?_)
   obtain ⟨A63, c64, rfl, hv65_1, hv65_2⟩ := hv65
   unfold maxLen at hv65_2
   refine .cons (.on G G G (st_lendk G G G G hbd22 G .n (.c (.t4 (.t4 (.t4 (.t .h)))) (.c (.t4 (.t2 (.t .h))) .n)) (fun w_ hw => weigh5_ n A16 c17 (tabF n true l) A63 c64 Wl55 i j x54 L_ _ _ (Fr.lend hw 0 G lO) (Fr.lend hw 1 G lO) hnp htl hto.rng hW_ hS_ ⟨by omega, by omega⟩ p59) ?_))
   refine .cons (.on G G G (Ev.step (ev_mv G G) G G G ?_))
   refine .cons (.on G G G (Ev.step (ev_cmp G G G G) G G G ?_))
   refine .cons (.on G G G (Ev.step (ev_mv G G) G G G ?_))
   refine SP.reslot (t := 81) G (bne_eq_false_iff_eq.2 oO) ?_
   refine .cons (.on G G G (Ev.step (ev_mv G G) G G G ?_))
   refine .cons (.on G G G (Ev.step (ev_ix G underlying27 ty3 G G oO oO (row_adr (i := 0) 7 G oO oO)) G G G ?_))
   refine .cons (.on G G G (Ev.step (ev_ld1 G ty3 G (At.elem1 (row_el (E := eZ) (l := Wl55) (i := 0) 7 G oO oO) 0 G)) G G G ?_))
   refine .cons (.on G G G (Ev.step (ev_mv G G) G G G ?_))
   refine .cons (.on G G G (Ev.step (ev_cmp G G G G) G G G ?_))
   refine .cons (.on G G G (Ev.step (ev_pickf G G G G) G G G ?_))
   refine .cons (.on G G G (Ev.step (ev_mv G G) G G G ?_))
   refine SP.reslot (t := 88) G (bne_eq_false_iff_eq.2 hwe.1) ?_
   refine .cons (.on G G G (Ev.step (ev_mv G G) G G G ?_))
   refine .cons (.on G G G (Ev.step (ev_mv G G) G G G ?_))
   refine .cons (.on G G G (Ev.step (ev_len G underlying27 G) G G G ?_))
   refine .cons (.on G G G (Ev.step (ev_sub G G G (r := ((Wl55.length : Int) - 1)) G oO oO) G G G ?_))
   refine .cons (.on G G G (Ev.step (ev_ix G underlying27 ty3 G G oO oO (row_adr (i := ((Wl55.length : Int) - 1)) 7 G oO oO)) G G G ?_))
   refine .cons (.on G G G (Ev.step (ev_ld1 G ty3 G (At.elem1 (row_el (E := eZ) (l := Wl55) (i := ((Wl55.length : Int) - 1)) 7 G oO oO) 0 G)) G G G ?_))
   refine .cons (.on G G G (Ev.step (ev_mv G G) G G G ?_))
   refine .cons (.on G G G (Ev.step (ev_cmp G G G G) G G G ?_))
   refine .cons (.on G G G (Ev.step (ev_pickf G G G G) G G G ?_))
   refine .cons (.on G G G (Ev.step (ev_pickt G G G G) G G G ?_))
   refine .v (ev_pickf G G G G) G (.go idQ (.condI G bNE (fun h66 => ?_) (fun h66 => ?_)))
   ·
    exfalso; omega
   refine .skipgo idQ (.region (.m G G G (.p ((j + 1)) oO oO G G G G G (.a G G G ?_))))
   exact SP.nil (SQ.roundb (X := Int) (x := (j)) (j + 1) (by (try dsimp only); exact ⟨oO, oO⟩) (by show (_ : Nat) < _; omega) (Sub.get (.c4 G G G G (.c G .n))) (kp (.c (.t4 (.t4 .h)) (.d (.d (.d (.c .h (.c (.t .h) (.c (.t .h) (.c (.t .h) (.c (.t .h) (.c (.t .h) (.c (.t .h) (.c (.t .h) .n))))))))))))))
  refine .exit idQ ?_
  refine .region (.m G G G (.p ((i + 1)) oO oO G G G G G (.a G G G ?_)))
  exact SP.nil (SQ.roundb (X := Int) (x := (i)) (i + 1) (by (try dsimp only); exact ⟨oO, oO⟩) (by show (_ : Nat) < _; omega) (Sub.get (.c4 G G G G .n)) (kp (.d (.d (.d (.d (.d (.d (.d (.c .h .n))))))))))
 refine .exit idQ ?_
 refine .seq (.region (.m G G G (.f fo29_0 0 G G G G (.l ty3 10 G G G G G ?_))))
 refine .cons (st_callk G G G G hbd21 G (.c (.t .h) (.c (.t .h) (.c (.t .h) (.c (.t .h) (.c (.t .h) (.c (.t .h) (.c (.t .h) .n))))))) (wayno_ lb28 A39 c40 R33 A42 c43 K34 A45 c46 U35 A48 c49 D36 n (tabF n true l) 0 n _ _ hC oO) ?_)
 refine .m G G G (.x G G G G (.x G G G G (.a G G G ?_)))
 refine .a G G G (.go idQ (.seq (.region (.m G G G (.g underlying27 G G G ?_)))))
 refine .v (ev_cmp (r := true) G G G G) G (.m G G G (.cons (.on G G G (Ev.step (ev_mv G G) G G G (.cons (.on G G G (Ev.step (ev_cmp (r := true) G G G G) G G G ?_)))))))
 refine .v (ev_pickt G G G G) G (.a G G G (.go idQ (.ret idQ (ret1 results7 G .n ⟨G, G⟩))))
theorem climbWaysBadT (n : Int) (A : Option Addr) (c : Nat) (l : List AR) (S : Nat → Prop) (wf : World) (hA : Fr eAR S wf A l) (hR : ¬ RoadOk n l) :
  TR0 prog 7 [.agg #[.int .i64 n, .slice A l.length c], .bool true] [] S wf (fun v_ C_ => v_ = .bool true ∧ C_ = []) := by
 have hla := hA.len
 refine TR.mk func7 G ntmps7 G G (fun w_ => ?_)
 refine .seq (.region (.cons (st_boxa G G G G G (fun b1 => (.a G G G (.go idQ (.seq (.seq (.region ?_)))))))))
 refine .cons (st_callk G G G G hbd9 G .n (awake8_ _ _) ?_)
 refine .v (ev_not G G) G (.go idQ (.cond_f G (.skipgo idQ (.seq (.region ?_)))))
 refine .d 0 ty24 G G G G (.m G G G (.cons (st_callk G G G G hbd10 G .n (graphbadT n A c l _ _ hA hR) (.m G G G ?_))))
 refine .x G G G G (.x G G G G (.x G G G G (.x G G G G ?_)))
 refine .cons (st_alloc G G G G zf29 (fun b2 => ?_))
 refine .cons (st_alloc G G G G zf29 (fun b3 => ?_))
 refine .a G G G (.cons (st_storea (l' := [.int .i64 0, .slice none 0 0]) G G G ty29 G G G (.t .h) G G (.cons (st_storea (l' := [.int .i64 0, .slice none 0 0]) G G G ty29 G G G (.t .h) G G (.a G G G ?_)))))
 refine .go idQ (.seq (.seq (.region (.m G G G (.v (ev_not G G) G (.go idQ ?_))))))
 refine .cond_t G ?_
 refine .seq (.region (.a G G G (.go idQ (.ret idQ (ret1 results7 G .n ⟨G, G⟩)))))
end Go.Proofs.Ytpjblnmophcdmaa.Sx
namespace Go.Proofs.Ytpjblnmophcdmaa.Sx
open Go Go.SX Go.Proofs Go.Proofs.Try
theorem climbWays_ (n : Int) (A : Option Addr) (c : Nat) (l : List AR) (d : Bool) (S : Nat → Prop) (wf : World) (hA : Fr eAR S wf A l) : TR0 prog 7 [.agg #[.int .i64 n, .slice A l.length c], .bool d] [] S wf (fun v C => v = .bool true ∧ C = []) :=
 (Classical.em (RoadOk n l)).elim (fun h => match d with | false => climbWaysF n A c l S wf hA h | true => climbWaysT n A c l S wf hA h) (fun h => match d with | false => climbWaysBadF n A c l S wf hA h | true => climbWaysBadT n A c l S wf hA h)
end Go.Proofs.Ytpjblnmophcdmaa.Sx
namespace Go.SX
open Go Go.RowKit
def TellsW (P : Program) (w : World) (e : TypeId) {α : Type} (E : Enc α) (good : α → Prop) : Prop :=
  ∀ {H : Type} (enc : TypeId × Value → H) (base : Nat) (spare : Nat → Bool) (held : Bool) (n : Nat) (cs : List Value) (y : DataW H × List MemPlace), DataW.trod enc P w base spare held n e cs = some y → (∀ b ∈ y.1.weights P e, b ≤ reachBytes) → ∃ a, cs = E.enc a ∧ good a
section
variable {H : Type} {enc : TypeId × Value → H} {P : Program} {w : World} {base : Nat} {spare : Nat → Bool} {held : Bool}
theorem weightsAll_mem {e : TypeId} {d : DataW H} {b : Nat} : ∀ {l : List (DataW H)}, d ∈ l → b ∈ d.weights P e → b ∈ DataW.weightsAll P e l
  | [], h, _ => by cases h
  | x :: r, h, hb => by
    unfold DataW.weightsAll
    rcases List.mem_cons.1 h with rfl | h
    · exact List.mem_append_left _ hb
    · exact List.mem_append_right _ (weightsAll_mem h hb)
theorem rows_w {α : Type} [Inhabited α] {E : Enc α} {good : α → Prop} {t e : TypeId} {fuel : Nat} {cs : List Value} {x : DataW H × List MemPlace} (ht : P.underlying t = some (.slice e)) (he : P.cellsOf e = E.sz) (hT : TellsW P w e E good) (hbo : 1 ≤ P.bytesOf e)
    (h : DataW.trod enc P w base spare held fuel t cs = some x) (hw : ∀ b ∈ x.1.weights P t, b ≤ reachBytes) :
    ∃ A l cap, cs = [.slice A l.length cap] ∧ Fr E (fun b => b < w.heap.size) w A l ∧ ∀ y ∈ l, good y := by
  rcases DataW.trod_slice ht h with h0 | ⟨a, len, cap, elems, rest, n, hx1, rfl, rfl, hb, hl, hm, hlen, hel, hsp, hns⟩
  · exact ⟨none, [], 0, h0.1, Fr.nil _ _ _ _, by simp⟩
  have hw2 : ∀ b ∈ DataW.weights P t (.slice (elems.map (·.1)) (rest.map (·.1))), b ≤ reachBytes := hw
  have each : ∀ i, i < len → ∃ x : α, good x ∧ w.cells? base (a.add (i * E.sz)) E.sz = some (E.enc x) := by
    intro i hi
    have h1 := hel i hi
    have h2 : elems[i]? = some (elems[i]'(by omega)) := List.getElem?_eq_getElem (by omega)
    rw [h2, he, Option.bind_eq_some_iff] at h1
    obtain ⟨cs', h3, h4⟩ := h1
    obtain ⟨x, rfl, hg⟩ := hT enc base spare held n cs' _ h4 (fun b hb => hw2 b (by
      unfold DataW.weights
      rw [ht]
      exact List.mem_cons_of_mem _ (List.mem_append_left _ (weightsAll_mem (List.mem_map_of_mem (List.getElem_mem (by omega))) hb))))
    exact ⟨x, hg, h3⟩
  let f : Nat → α := fun i => if hi : i < len then (each i hi).choose else default
  have hf : ∀ i (hi : i < len), f i = (each i hi).choose := fun i hi => dif_pos hi
  have hbig : len ≤ 140737488355328 := by
    have h1 := hw2 ((elems.map (·.1)).length + (rest.map (·.1)).length |>.mul (P.bytesOf e)) (by unfold DataW.weights; rw [ht]; exact List.mem_cons_self ..)
    have h11 : elems.length * 1 ≤ ((elems.map (·.1)).length + (rest.map (·.1)).length) * P.bytesOf e := Nat.mul_le_mul (by simp) hbo
    have h12 : reachBytes < 2 ^ 47 := reachBytes_lt
    have h13 : ((elems.map (·.1)).length + (rest.map (·.1)).length) * P.bytesOf e ≤ reachBytes := h1
    omega
  have hgood : ∀ x ∈ (List.range len).map f, good x := by
    intro x hx
    obtain ⟨i, hi, rfl⟩ := List.mem_map.1 hx
    have hlt : i < len := by simpa using hi
    rw [hf i hlt]
    exact (each i hlt).choose_spec.1
  refine ⟨some a, (List.range len).map f, cap, by simp, ⟨by simpa using hbig, ?_⟩, hgood⟩
  rcases Nat.eq_zero_or_pos len with h0 | h0
  · subst h0; exact .inl (by simp)
  have hat : ∀ i, i < len → ∀ j u, (E.enc (f i))[j]? = some u → w.cell? (a.add (i * E.sz + j)) = some u := by
    intro i hi j u hj
    obtain ⟨_, h1, h2⟩ := World.cells?_some (each i hi).choose_spec.2
    rw [← hf i hi] at h1 h2
    have hjs : j < E.sz := by have := (List.getElem?_eq_some_iff.1 hj).1; omega
    rw [← add_zero_add, h2 j hjs, hj]
  have hpos := E.pos
  have hspot : a.spot = none := by
    have h1 : (E.enc (f 0)).length = E.sz := E.len _
    have h2 := hat 0 h0 0 ((E.enc (f 0))[0]'(by omega)) (List.getElem?_eq_getElem (by omega))
    have h3 := World.cell?_spot h2
    simpa [Addr.add] using h3
  obtain ⟨b, off, spot⟩ := a
  simp only at hspot
  subst hspot
  have hall : ∀ i x, ((List.range len).map f)[i]? = some x → At w b (off + i * E.sz) (E.enc x) := fun i x hx j u hu => by
    simp only [List.getElem?_map, Option.map_eq_some_iff] at hx
    obtain ⟨i', hi', rfl⟩ := hx
    have hi2 := List.getElem?_eq_some_iff.1 hi'
    obtain ⟨hlt, heq⟩ := hi2
    simp at heq hlt
    subst heq
    have := hat i hlt j u hu
    rw [show off + i * E.sz + j = off + (i * E.sz + j) from by omega]
    have e1 : (⟨b, off, none⟩ : Addr).add (i * E.sz + j) = ⟨b, off + (i * E.sz + j), none⟩ := by
      unfold Addr.add
      split
      · rename_i h0; rw [h0]; rfl
      · rfl
    rwa [e1] at this
  refine .inr ⟨b, off, rfl, ?_, hall⟩
  have hx := hall 0 (f 0) (by simp [h0])
  have hl1 := E.len (f 0)
  have := hx 0 ((E.enc (f 0))[0]'(by omega)) (List.getElem?_eq_getElem (by omega))
  unfold World.cell? at this
  cases hb1 : w.heap[b]? with
  | none => simp only [hb1] at this; cases this
  | some o => exact lt_of_some hb1
theorem struct_w {t : TypeId} {fuel : Nat} {cs : List Value} {x : DataW H × List MemPlace} {fs : Array Field} (ht : P.underlying t = some (.struct fs)) (h : DataW.trod enc P w base spare held fuel t cs = some x) (hw : ∀ b ∈ x.1.weights P t, b ≤ reachBytes) :
    ∃ n, cs.length = P.cellsOf t ∧ ∀ (i : Nat) (f : Field), fs[i]? = some f → ∃ y : DataW H × List MemPlace, DataW.trod enc P w base spare held n f.type ((cs.drop f.offset).take (P.cellsOf f.type)) = some y ∧ ∀ b ∈ y.1.weights P f.type, b ≤ reachBytes := by
  obtain ⟨xs, n, _, rfl, hl, hx, hf⟩ := DataW.trod_struct ht h
  refine ⟨n, hl, fun i f hi => ?_⟩
  have h1 := hf i f hi
  have hlt : i < fs.size := (Array.getElem?_eq_some_iff.1 hi).1
  rw [List.getElem?_eq_getElem (by omega)] at h1
  refine ⟨xs[i]'(by omega), h1, fun b hb => hw b ?_⟩
  show b ∈ DataW.weights P t (.agg (xs.map (·.1)))
  unfold DataW.weights
  rw [ht]
  exact DataW.weights_mem_each (j := i) (d := (xs[i]'(by omega)).1) (by simp [hi]) (by simp [List.getElem?_eq_getElem (show i < xs.length by omega)]) b hb
end
end Go.SX
set_option maxRecDepth 20000
namespace Go.Proofs.Ytpjblnmophcdmaa.Sx
open Go Go.SX Go.Proofs Go.Proofs.Try
theorem cO24 : prog.cellsOf 24 = 2 := by kernel_rfl
theorem cO54 : prog.cellsOf 54 = 4 := by kernel_rfl
theorem cO22 : prog.cellsOf 22 = 1 := by kernel_rfl
theorem cO3 : prog.cellsOf 3 = 1 := by kernel_rfl
structure RDA where
 n : Int
 A : Option Addr
 c : Nat
 l : List AR
def eRDA : Enc RDA where
 sz := 2
 enc x := [.int .i64 x.n, .slice x.A x.l.length x.c]
 len _ := rfl
 one x u hu := by simp at hu; rcases hu with rfl | rfl <;> rfl
 pos := by decide
section
variable {w : World}
theorem tw54 : TellsW prog w 54 eAR (fun _ => True) := by
 intro H enc base spare held n cs y h hw
 obtain ⟨k, hl, hf⟩ := struct_w underlying54 h hw
 rw [cO54] at hl
 match cs, hl with
 | [v0, v1, v2, v3], _ =>
  obtain ⟨y0, h0, w0⟩ := hf 0 _ rfl
  replace h0 : DataW.trod enc prog w base spare held k 3 (([v0, v1, v2, v3].drop 0).take (prog.cellsOf 3)) = some y0 := h0
  rw [cO3] at h0
  replace h0 : DataW.trod enc prog w base spare held k 3 [v0] = some y0 := h0
  obtain ⟨y1, h1, w1⟩ := hf 1 _ rfl
  replace h1 : DataW.trod enc prog w base spare held k 3 (([v0, v1, v2, v3].drop 1).take (prog.cellsOf 3)) = some y1 := h1
  rw [cO3] at h1
  replace h1 : DataW.trod enc prog w base spare held k 3 [v1] = some y1 := h1
  obtain ⟨y2, h2, w2⟩ := hf 2 _ rfl
  replace h2 : DataW.trod enc prog w base spare held k 3 (([v0, v1, v2, v3].drop 2).take (prog.cellsOf 3)) = some y2 := h2
  rw [cO3] at h2
  replace h2 : DataW.trod enc prog w base spare held k 3 [v2] = some y2 := h2
  obtain ⟨y3, h3, w3⟩ := hf 3 _ rfl
  replace h3 : DataW.trod enc prog w base spare held k 3 (([v0, v1, v2, v3].drop 3).take (prog.cellsOf 3)) = some y3 := h3
  rw [cO3] at h3
  replace h3 : DataW.trod enc prog w base spare held k 3 [v3] = some y3 := h3
  obtain ⟨m0, e0, _, _⟩ := DataW.trod_int underlying3 h0
  simp only [List.cons.injEq, and_true] at e0
  subst e0
  obtain ⟨m1, e1, _, _⟩ := DataW.trod_int underlying3 h1
  simp only [List.cons.injEq, and_true] at e1
  subst e1
  obtain ⟨m2, e2, _, _⟩ := DataW.trod_int underlying3 h2
  simp only [List.cons.injEq, and_true] at e2
  subst e2
  obtain ⟨m3, e3, _, _⟩ := DataW.trod_int underlying3 h3
  simp only [List.cons.injEq, and_true] at e3
  subst e3
  exact ⟨⟨m0, m1, m2, m3⟩, G, trivial⟩
theorem tw24 : TellsW prog w 24 eRDA (fun x => Fr eAR (fun b => b < w.heap.size) w x.A x.l) := by
 intro H enc base spare held n cs y h hw
 obtain ⟨k, hl, hf⟩ := struct_w underlying24 h hw
 rw [cO24] at hl
 match cs, hl with
 | [v0, v1], _ =>
  obtain ⟨y0, h0, w0⟩ := hf 0 _ rfl
  replace h0 : DataW.trod enc prog w base spare held k 3 (([v0, v1].drop 0).take (prog.cellsOf 3)) = some y0 := h0
  rw [cO3] at h0
  replace h0 : DataW.trod enc prog w base spare held k 3 [v0] = some y0 := h0
  obtain ⟨y1, h1, w1⟩ := hf 1 _ rfl
  replace h1 : DataW.trod enc prog w base spare held k 22 (([v0, v1].drop 1).take (prog.cellsOf 22)) = some y1 := h1
  rw [cO22] at h1
  replace h1 : DataW.trod enc prog w base spare held k 22 [v1] = some y1 := h1
  obtain ⟨m0, e0, _, _⟩ := DataW.trod_int underlying3 h0
  simp only [List.cons.injEq, and_true] at e0
  subst e0
  obtain ⟨LA, ll, lc, el, fr, _⟩ := rows_w (E := eAR) underlying22 cO54 tw54 (by decide +kernel) h1 w1
  simp only [List.cons.injEq, and_true] at el
  subst el
  exact ⟨⟨m0, LA, lc, ll⟩, G, fr⟩
end
end Go.Proofs.Ytpjblnmophcdmaa.Sx
