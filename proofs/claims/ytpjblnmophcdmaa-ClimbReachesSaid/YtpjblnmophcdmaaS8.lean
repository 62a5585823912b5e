import Derived.Test.YtpjblnmophcdmaaProg
import Derived.Test.YtpjblnmophcdmaaS7
set_option linter.unusedVariables false
set_option linter.unusedSimpArgs false
set_option linter.unusedSectionVars false
set_option maxRecDepth 20000
set_option maxHeartbeats 8000000
namespace Go.Proofs.Ytpjblnmophcdmaa.Sx.FCE
open Go Go.SX Go.Proofs Go.Proofs.Try FA FB FC FD FE FF FG FH FI FJ FK FL FM FN FO FP FQ FR FS FCA FCB FCC FCD
theorem hbd74 : hasBody prog 74 = true := by kernel_rfl
theorem hbd62 : hasBody prog 62 = true := by kernel_rfl
end Go.Proofs.Ytpjblnmophcdmaa.Sx.FCE
namespace Go.Proofs.Ytpjblnmophcdmaa.Sx
open Go Go.SX Go.Proofs Go.Proofs.Try FA FB FC FD FE FF FG FH FI FJ FK FL FM FN FO FP FQ FR FS FCA FCB FCC FCD FCE
theorem mul64_ (y : Int) (S : Nat → Prop) (wf : World) (hy : 0 ≤ y ∧ y ≤ 2000) :
  TR0 prog 74 [.int .u64 1, .int .u64 y] [] S wf (fun v_ C_ => v_ = .tuple #[.int .u64 0, .int .u64 y] ∧ C_ = []) := by
 have hdy := fdiv_lo (c := y) oO oO
 have hd0 : Int.fdiv 0 4294967296 = 0 := by decide
 refine TR.mk func74 G ntmps74 G G (fun w_ => ?_)
 refine .seq (.region (.a G G G (.a G G G (.go idQ (.seq (.region ?_))))))
 refine .m G G G (.v (ev_band G G G) G (.a G G G (.go idQ (.seq ?_))))
 rw [show ((bnd .u64 1 4294967295) : Int) = 1 from by decide]
 refine .region (.m G G G (.v (ev_shr (r := (Int.fdiv 1 4294967296)) G G G (by decide) G) G (.a G G G ?_)))
 refine .go idQ (.seq ?_)
 rw [show ((Int.fdiv 1 4294967296) : Int) = 0 from by decide]
 refine .region (.m G G G (.v (ev_band G G G) G (.a G G G ?_)))
 refine .go idQ (.seq ?_)
 rw [show ((bnd .u64 y 4294967295) : Int) = y from bnd_lo oO oO]
 refine .region (.m G G G (.v (ev_shr (r := (Int.fdiv y 4294967296)) G G G (by decide) G) G (.a G G G ?_)))
 refine .go idQ (.seq ?_)
 rw [show ((Int.fdiv y 4294967296) : Int) = 0 from hdy]
 refine .region (.m G G G (.m G G G (.v (ev_aru64 G G G (r := (1 * y)) G oO oO) G ?_)))
 refine .a G G G (.go idQ (.seq ?_))
 rw [show ((1 * y) : Int) = y from Int.one_mul y]
 refine .region (.m G G G (.m G G G (.v (ev_aru64 G G G (r := (0 * y)) G oO oO) G ?_)))
 refine .m G G G (.v (ev_shr (r := (Int.fdiv y 4294967296)) G G G (by decide) G) G (.v (ev_aru64 G G G (r := ((0 * y) + (Int.fdiv y 4294967296))) G oO oO) G (.a G G G ?_)))
 refine .go idQ (.seq ?_)
 rw [show (((0 * y) + (Int.fdiv y 4294967296)) : Int) = 0 from by omega]
 refine .region (.m G G G (.v (ev_band G G G) G (.a G G G ?_)))
 refine .go idQ (.seq ?_)
 rw [show ((bnd .u64 0 4294967295) : Int) = 0 from by decide]
 refine .region (.m G G G (.v (ev_shr (r := (Int.fdiv 0 4294967296)) G G G (by decide) G) G (.a G G G ?_)))
 refine .go idQ (.seq ?_)
 rw [show ((Int.fdiv 0 4294967296) : Int) = 0 from by decide]
 refine .region (.m G G G (.m G G G (.m G G G ?_)))
 refine .v (ev_aru64 G G G (r := (1 * 0)) G oO oO) G (.v (ev_aru64 G G G (r := (0 + (1 * 0))) G oO oO) G (.a G G G (.go idQ (.seq ?_))))
 rw [show ((0 + (1 * 0)) : Int) = 0 from by decide]
 refine .region (.m G G G (.m G G G (.v (ev_aru64 G G G (r := (0 * 0)) G oO oO) G ?_)))
 refine .m G G G (.v (ev_aru64 G G G (r := ((0 * 0) + 0)) G oO oO) G (.m G G G (.v (ev_shr (r := (Int.fdiv 0 4294967296)) G G G (by decide) G) G ?_)))
 refine .v (ev_aru64 G G G (r := (((0 * 0) + 0) + (Int.fdiv 0 4294967296))) G oO oO) G (.a G G G (.go idQ (.seq ?_)))
 rw [show ((((0 * 0) + 0) + (Int.fdiv 0 4294967296)) : Int) = 0 from by decide]
 refine .region (.m G G G (.m G G G (.v (ev_aru64 G G G (r := (1 * y)) G oO oO) G ?_)))
 refine .a G G G (.go idQ (.ret idQ (ret2 results74 G G .n ⟨(by rw [Int.one_mul]), G⟩)))
theorem bmul_ (y : Int) (S : Nat → Prop) (wf : World) (hy : 0 ≤ y ∧ y ≤ 2000) :
  TR0 prog 62 [.int .u64 1, .int .u64 y] [] S wf (fun v_ C_ => v_ = .tuple #[.int .u64 0, .int .u64 y] ∧ C_ = []) := by
 refine TR.mk func62 G ntmps62 G G (fun w_ => ?_)
 refine .seq (.region (.a G G G (.a G G G (.go idQ (.seq ?_)))))
 refine .cond_f G ?_
 refine .skipgo idQ (.seq (.region (.m G G G (.m G G G (.cons (st_callk G G G G hbd74 G .n (mul64_ y _ _ oO) ?_))))))
 refine .m G G G (.x G G G G (.x G G G G (.a G G G ?_)))
 refine .a G G G (.go idQ (.seq (.region (.m G G G (.m G G G ?_)))))
 refine .a G G G (.a G G G (.go idQ (.ret idQ (ret2 results62 G G .n ⟨G, G⟩))))
theorem repeat_ (A : Option Addr) (c : Nat) (k : Int) (S : Nat → Prop) (wf : World) (hA : Fr eZ S wf A [(-1)]) (hk : 1 ≤ k ∧ k ≤ 1024) :
  TR0 prog 38 [.slice A 1 c, .int .i64 k] [] S wf (fun v_ C_ => ∃ (u : Value), v_ = u ∧ C_ = [rw_ eZ 3 (u) (List.replicate (k).toNat (-1))]) := by
 refine TR.mk func38 G ntmps38 G G (fun w_ => ?_)
 refine .seq (.region (.a G G G (.go idQ (.seq (.seq (.region (.m G G G ?_)))))))
 refine .e G G G G G (.go idQ (.condI G bD (fun h1 => ?_) (fun h1 => ?_)))
 ·
  exfalso; omega
 refine .skipgo idQ (.seq (.region (.m G G G (.g underlying27 G G G (.v (ev_cv G underlying3 underlying121 G (wrap_u64_in oO oO)) G ?_)))))
 refine .m G G G (.v (ev_cv G underlying3 underlying121 G (wrap_u64_in oO oO)) G (.cons (st_callk G G G G hbd62 G .n (bmul_ k _ _ oO) (.m G G G ?_))))
 refine .x G G G G (.x G G G G (.a G G G (.a G G G ?_)))
 refine .go idQ (.seq (.seq (.region (.m G G G (.v (ev_cmp (r := false) G G G G) G (.m G G G ?_))))))
 refine .cons (.on G G G (Ev.step (ev_mv G G) G G G ?_))
 refine .cons (.on G G G (Ev.step (ev_cmp G G G G) G G G ?_))
 refine .v (ev_pickf G G G G) G (.go idQ (.condI G bD (fun h2 => ?_) (fun h2 => ?_)))
 ·
  exfalso; omega
 refine .skipgo idQ (.seq (.region (.m G G G (.v (ev_cv G underlying121 underlying3 G (wrap_in oO oO)) G (.cons (st_mkints (q := .i64) (n := (k).toNat) G G G G underlying27 ai3 G G oO oO G (fun b3 => ?_)))))))
 refine .a G G G (.go idQ (.seq ?_))
 refine SC.open (A := (some ⟨b3, 0, none⟩)) .h (fun e1 _ _ _ => by cases e1) (fun gg sp eA en_ ec_ em_ el_ => ?_)
 obtain rfl : gg = b3 := by injection eA with h_; injection h_ with h_; exact h_.symm
 obtain ⟨T0, hT0⟩ : ∃ T, T = flat eZ (List.replicate ((k).toNat) 0) ++ sp := ⟨_, rfl⟩
 have hT0l : T0.length = ((k).toNat) * 1 := by rw [hT0, List.length_append, fl_eZ, List.length_replicate]; have h_ : sp.length + (List.replicate ((k).toNat) (0 : Int)).length * 1 = ((k).toNat) * 1 := el_; rw [List.length_replicate] at h_; omega
 refine SC.recel .h hT0.symm ?_
 unfold maxLen at em_
 clear el_ en_
 refine .region (.m G G G (.m G G G (.cons (st_copyp0 (nd := ((k).toNat)) (ns := 1) (flat eZ [(-1)]) G G G G underlying27 ty3 G G G (Nat.min_eq_left oO) (by rw [fl_eZ] <;> (try simp only [List.length_drop, List.length_take, List.length_cons, List.length_nil]) <;> omega) (all_flat _ _) (Src.w (Fr.flat hA)) .h (by rw [fl_eZ, hT0l] <;> (try simp only [List.length_drop, List.length_take, List.length_cons, List.length_nil]) <;> omega) ?_))))
 obtain ⟨T4, hT4⟩ : ∃ T4, T4 = put T0 0 (flat eZ [(-1)]) := ⟨_, rfl⟩
 have hT4l : T4.length = T0.length := by rw [hT4]; exact put_length (by rw [fl_eZ, hT0l] <;> (try simp only [List.length_drop, List.length_take, List.length_cons, List.length_nil]) <;> omega)
 rw [hT0l] at hT4l
 refine SP.recel .h hT4.symm ?_
 refine .a G G G (.go idQ (.seq (.block (.loop (X := Int × (List Value)) (fun ⟨q, T⟩ => 1 ≤ q ∧ q ≤ k ∧ T.length = (k).toNat * 1 ∧ T.take q.toNat = flat eZ (List.replicate q.toNat (-1))) (fun ⟨q, T⟩ => [(4, .slice none 0 0), (7, .slice (some ⟨gg, 0, none⟩) ((k).toNat) ((k).toNat)), (8, .int .i64 q)]) (fun ⟨q, T⟩ => [cel gg T 3]) (fun _ => S) (fun _ => wf) (fun ⟨q, T⟩ => (k - q).toNat) (fun a_ w_ hs_ hw_ => ⟨⟨1, T4⟩, (by (try dsimp only); exact ⟨by omega, by omega, hT4l, repv_0 hT0 hT4⟩), hs_.mono (Sub.get (.c G (.c G (.c G .n)))), hw_.keep (.c .h .n)⟩) (fun ⟨q, T⟩ ⟨q_0, q_1, q_2, q_3⟩ => ?_)))))
 try dsimp only
 have hTl := q_2
 refine .seq (.seq (.region (.m G G G (.m G G G (.g underlying27 G G G ?_)))))
 refine .e G G G G G (.go idQ (.condI G bD (fun h5 => ?_) (fun h5 => ?_)))
 ·
  refine .skipgo idQ (.block ?_)
  rcases Nat.le_total (k.toNat - q.toNat) q.toNat with hm | hm
  ·
   refine SC.draw mo [cel gg T 3] [] (.c .h .n) (fun _ _ _ => sc0) (fun wf_6 hl_6 hx_6 hR_6 => ?_)
   refine SR.m 0 G G G G ?_
   refine SR.m 1 G G G G ?_
   refine SR.m 2 G G G G ?_
   refine SR.z 3 G G (ev_slcs G underlying27 ty3 G (.s G oO) .n oO oO) ?_
   refine SR.m 4 G G G G ?_
   refine SR.m 5 G G G G ?_
   refine SR.z 6 G G (ev_slc0 G underlying27 ty3 G (.s G oO) oO) ?_
   refine SR.o 7 G (st_copyp (off := 0) (p := ((q).toNat) * 1) (nd := (((k).toNat) - (q).toNat)) (ns := ((q).toNat)) (c0 := ((k).toNat)) (l0 := ((q).toNat)) (flat eZ (List.replicate ((k).toNat - (q).toNat) (-1))) G G G G underlying27 ty3 G G oO G (Nat.min_eq_right oO) (by rw [fl_eZ] <;> (try simp only [List.length_drop, List.length_take, List.length_replicate]) <;> omega) (all_flat _ _) (src_blk0 0 G (repv_src q_3 oO)) .h oO (by rw [fl_eZ, hTl] <;> (try simp only [List.length_drop, List.length_take, List.length_replicate]) <;> omega) ⟨tt0, ?_⟩)
   obtain ⟨T7, hT7⟩ : ∃ T7, T7 = put T (((q).toNat) * 1) (flat eZ (List.replicate ((k).toNat - (q).toNat) (-1))) := ⟨_, rfl⟩
   have hT7l : T7.length = T.length := by rw [hT7]; exact put_length (by rw [fl_eZ, hTl] <;> (try simp only [List.length_drop, List.length_take, List.length_replicate]) <;> omega)
   rw [hTl] at hT7l
   refine SR.recel .h hT7.symm ?_
   refine SR.z 8 G G (ev_add G G G (r := (q + ((((k).toNat) - (q).toNat : Nat) : Int))) G oO oO) ?_
   refine SR.z 9 G G (ev_as G G) ?_
   refine SR.fin kR hl_6 hx_6 hR_6 (.c .n) ?_
   exact SQ.roundb (X := Int × (List Value)) (x := (q, T)) ⟨(q + ((((k).toNat) - (q).toNat : Nat) : Int)), T7⟩ (by (try dsimp only); exact ⟨by omega, by omega, hT7l, repv_nx q_3 hT7 oO oO oO⟩) dO (Sub.get (.c G (.c G (.c G .n)))) (kp (.c .h .n))
  refine SC.draw mo [cel gg T 3] [] (.c .h .n) (fun _ _ _ => sc0) (fun wf_8 hl_8 hx_8 hR_8 => ?_)
  refine SR.m 0 G G G G ?_
  refine SR.m 1 G G G G ?_
  refine SR.m 2 G G G G ?_
  refine SR.z 3 G G (ev_slcs G underlying27 ty3 G (.s G oO) .n oO oO) ?_
  refine SR.m 4 G G G G ?_
  refine SR.m 5 G G G G ?_
  refine SR.z 6 G G (ev_slc0 G underlying27 ty3 G (.s G oO) oO) ?_
  refine SR.o 7 G (st_copyp (off := 0) (p := ((q).toNat) * 1) (nd := (((k).toNat) - (q).toNat)) (ns := ((q).toNat)) (c0 := ((k).toNat)) (l0 := ((q).toNat)) (flat eZ (List.replicate (q).toNat (-1))) G G G G underlying27 ty3 G G oO G (Nat.min_eq_left oO) (by rw [fl_eZ] <;> (try simp only [List.length_drop, List.length_take, List.length_replicate]) <;> omega) (all_flat _ _) (src_blk0 0 G (repv_src q_3 oO)) .h oO (by rw [fl_eZ, hTl] <;> (try simp only [List.length_drop, List.length_take, List.length_replicate]) <;> omega) ⟨tt0, ?_⟩)
  obtain ⟨T9, hT9⟩ : ∃ T9, T9 = put T (((q).toNat) * 1) (flat eZ (List.replicate (q).toNat (-1))) := ⟨_, rfl⟩
  have hT9l : T9.length = T.length := by rw [hT9]; exact put_length (by rw [fl_eZ, hTl] <;> (try simp only [List.length_drop, List.length_take, List.length_replicate]) <;> omega)
  rw [hTl] at hT9l
  refine SR.recel .h hT9.symm ?_
  refine SR.z 8 G G (ev_add G G G (r := (q + (((q).toNat : Nat) : Int))) G oO oO) ?_
  refine SR.z 9 G G (ev_as G G) ?_
  refine SR.fin kR hl_8 hx_8 hR_8 (.c .n) ?_
  exact SQ.roundb (X := Int × (List Value)) (x := (q, T)) ⟨(q + (((q).toNat : Nat) : Int)), T9⟩ (by (try dsimp only); exact ⟨by omega, by omega, hT9l, repv_nx q_3 hT9 oO oO oO⟩) dO (Sub.get (.c G (.c G (.c G .n)))) (kp (.c .h .n))
 refine .exit idQ ?_
 refine .seq (.region (.m G G G (.a G G G (.go idQ ?_))))
 refine SC.close' (E := eZ) (n := (k).toNat) ((List.replicate (k).toNat (-1))) .h (repv_end q_3 oO) (by (try simp only [List.length_nil, List.length_append, List.length_take, List.length_drop, List.length_reverse, List.length_replicate]) <;> omega) oO (by show _ ≤ 9223372036854775807; omega) hTl ?_
 exact .ret idQ (ret1 results38 G (.c .h .n) ⟨.slice (some ⟨gg, 0, none⟩) ((k).toNat) ((k).toNat), G, G⟩)
end Go.Proofs.Ytpjblnmophcdmaa.Sx
set_option maxRecDepth 20000
set_option maxHeartbeats 8000000
namespace Go.Proofs.Ytpjblnmophcdmaa.Sx.FCF
open Go Go.SX Go.Proofs Go.Proofs.Try FA FB FC FD FE FF FG FH FI FJ FK FL FM FN FO FP FQ FR FS FCA FCB FCC FCD FCE
theorem hbd38 : hasBody prog 38 = true := by kernel_rfl
theorem ai69 : (prog.info? 69).map (fun i => (i.zero, i.size, i.bytes)) = some (some (.slice none 0 0), 1, 24) := by kernel_rfl
end Go.Proofs.Ytpjblnmophcdmaa.Sx.FCF
namespace Go.Proofs.Ytpjblnmophcdmaa.Sx
open Go Go.SX Go.Proofs Go.Proofs.Try FA FB FC FD FE FF FG FH FI FJ FK FL FM FN FO FP FQ FR FS FCA FCB FCC FCD FCE FCF
theorem table_ (lb : Nat) (rA : Option Addr) (rc : Nat) (R : List Int) (kA : Option Addr) (kc : Nat) (K : List LK) (uA : Option Addr) (uc : Nat) (U : List IL) (dA : Option Addr) (dc : Nat) (D : List IL) (n : Int) (t : List Int) (S : Nat → Prop) (wf : World) (hC : LC n t R K U D) :
  TR0 prog 13 [.pointer (some ⟨lb, 0, none⟩)] [cel lb [.slice rA R.length rc, .slice kA K.length kc, .slice uA U.length uc, .slice dA D.length dc] 76, rw_ eZ 3 (.slice rA R.length rc) R, rw_ eLK 44 (.slice kA K.length kc) K, rw_ eIL 27 (.slice uA U.length uc) U, rw_ eIL 27 (.slice dA D.length dc) D, nestIL 3 U, nestIL 3 D] S wf (fun v_ C_ => ∃ (u : Value) (W : List Int), (MF n W (dsF n t)) ∧ v_ = .agg #[.int .i64 n, u] ∧ C_ = [cel lb [.slice rA R.length rc, .slice kA K.length kc, .slice uA U.length uc, .slice dA D.length dc] 76, rw_ eZ 3 (.slice rA R.length rc) R, rw_ eLK 44 (.slice kA K.length kc) K, rw_ eIL 27 (.slice uA U.length uc) U, rw_ eIL 27 (.slice dA D.length dc) D, nestIL 3 U, nestIL 3 D, rw_ eZ 3 (u) W]) := by
 have hn1 := hC.wy.hn
 have hsq := sq_le hn1
 refine TR.mk func13 G ntmps13 G G (fun w_ => ?_)
 refine .seq (.region (.cons (st_alloc G G G G zf29 (fun b1 => (.go idQ (.seq (.region (.m G G G ?_))))))))
 refine .cons (st_callk G G G G hbd37 G (.c (.t .h) (.c (.t .h) (.c (.t .h) (.c (.t .h) (.c (.t .h) (.c (.t .h) (.c (.t .h) .n))))))) (lpl_ lb rA rc R kA kc K uA uc U dA dc D _ _) ?_)
 refine .a G G G (.go idQ (.seq ?_))
 rw [show (R.length : Int) = n from hC.hR]
 refine .region (.m G G G (.cons (st_lit eZ (e := 3) (l := [(-1)]) G G G G kR G G kW (fun b2 => (.m G G G ?_)))))
 refine .m G G G (.v (ev_mul G G G (r := (n * n)) G oO oO) G (.cons (st_lend0 G G G G hbd38 G .n (.c .h .n) (fun w_ hw => repeat_ (some ⟨b2, 0, none⟩) 1 (n * n) _ _ (Fr.lend hw 0 G lO) oO) (fun v_q4 C_q4 q4 => ?_))))
 obtain ⟨u3, rfl, rfl⟩ := q4
 show SP _ _ _ _ _ _ ⟨_, _ :: _ :: _, _, _⟩
 refine .know (row_len 0 G) (fun hv7 => ?_)
 obtain ⟨A5, c6, rfl, hv7_1, hv7_2⟩ := hv7
 unfold maxLen at hv7_2
 refine .v (ev_any (v := .agg #[.int .i64 n, .slice A5 ((List.replicate ((n * n)).toNat (-1)).length) c6]) G kR (fun _ => by kernel_rfl)) G (.cons (st_alloc G G G G zf29 (fun b8 => (.cons (st_storea (l' := [.int .i64 n, .slice A5 ((List.replicate ((n * n)).toNat (-1)).length) c6]) G G G ty29 G G G .h G G (.go idQ (.seq (.region ?_))))))))
 refine .m G G G (.cons (st_mkslicesE (n := (n).toNat) G G G G underlying83 ai69 G G oO oO G (fun b9 => (.a G G G (.go idQ (.seq (.seq ?_)))))))
 refine SC.ERs 72 n.toNat ?_
 refine .region (.m G G G (.m G G G (.go idQ (.block ?_))))
 refine .loop (X := Int × (List ER)) (fun ⟨to, Bk⟩ => 0 ≤ to ∧ to ≤ n ∧ BkG n (fU n R K D) (fun _ j => j < to) Bk) (fun ⟨to, Bk⟩ => [(0, .pointer (some ⟨lb, 0, none⟩)), (2, .pointer (some ⟨b1, 0, none⟩)), (3, .int .i64 n), (4, .pointer (some ⟨b8, 0, none⟩)), (5, .slice (some ⟨b9, 0, none⟩) ((n).toNat) ((n).toNat)), (26, .int .i64 n), (27, .int .i64 to)]) (fun ⟨to, Bk⟩ => [nestER 72 Bk, rw_ eER 69 (.slice (some ⟨b9, 0, none⟩) ((n).toNat) ((n).toNat)) Bk, cel b8 [.int .i64 n, .slice A5 ((List.replicate ((n * n)).toNat (-1)).length) c6] 29, rw_ eZ 3 (.slice A5 ((List.replicate ((n * n)).toNat (-1)).length) c6) (List.replicate ((n * n)).toNat (-1)), rw_ eZ 3 (.slice (some ⟨b2, 0, none⟩) 1 1) [(-1)], cel b1 [.int .i64 0, .slice none 0 0] 29, cel lb [.slice rA R.length rc, .slice kA K.length kc, .slice uA U.length uc, .slice dA D.length dc] 76, rw_ eZ 3 (.slice rA R.length rc) R, rw_ eLK 44 (.slice kA K.length kc) K, rw_ eIL 27 (.slice uA U.length uc) U, rw_ eIL 27 (.slice dA D.length dc) D, nestIL 3 U, nestIL 3 D]) (fun _ => S) (fun _ => wf) (fun ⟨to, Bk⟩ => (n - to).toNat) (fun a_ w_ hs_ hw_ => ⟨⟨0, (List.replicate ((n).toNat) dER)⟩, (by (try dsimp only); exact ⟨oO, oO, (bk_0 oO)⟩), hs_.mono (Sub.get (.c4 G G G G (.c G (.c G (.c G .n))))), hw_.keep (.d (.d (.d (.d (.d (.d (.c .h .n)))))))⟩) (fun ⟨to, Bk⟩ ⟨q_0, q_1, q_2⟩ => ?_)
 try dsimp only
 refine .seq (.region (.e G G G G G (.go idQ (.seq (.condI G bD (fun h10 => ?_) (fun h10 => ?_))))))
 ·
  refine .skipgo idQ (.seq (.block (.seq (.region (.m G G G (.a G G G (.go idQ (.seq (.region ?_)))))))))
  refine .m G G G (.v (ev_any (v := .func (.func 18) #[.pointer (some ⟨lb, 0, none⟩)] #[]) G kR (fun _ => by kernel_rfl)) G (.v (ev_any (v := .agg #[.func (.func 18) #[.pointer (some ⟨lb, 0, none⟩)] #[], .func (.func 39) #[] #[]]) G kR (fun _ => by kernel_rfl)) G (.m G G G ?_)))
  refine .cons (st_call0 G G G G hbd40 G (.c (.t4 (.t2 .h)) (.c (.t4 (.t2 .h)) (.c (.t4 (.t2 .h)) (.c (.t4 (.t2 .h)) (.c (.t4 (.t2 .h)) (.c (.t4 (.t2 .h)) (.c (.t4 (.t2 .h)) .n))))))) (findD lb rA rc R kA kc K uA uc U dA dc D n to _ _ hC.hL hC.sd ⟨by omega, by omega⟩) (fun v_q13 C_q13 q13 => ?_))
  obtain ⟨b11, M12, p14, rfl, rfl⟩ := q13
  show SP _ _ _ _ _ _ ⟨_, _ :: _ :: _ :: _ :: _ :: _ :: _ :: _ :: _, _, _⟩
  have hfd := hC.fd ⟨by omega, by omega⟩ p14
  refine .cons (st_range keZ G G G G underlying84 G (.t4 (.t2 (.t .h))) (fun r15 => ?_))
  refine .go idQ (.block (.loop (X := (List (Int × LA)) × (Option (Int × LA)) × (List ER)) (fun ⟨Lf, cu_Lf, Bk2⟩ => LfI M12 Lf ∧ BkG n (fU n R K D) (dnB to Lf) Bk2) (fun ⟨Lf, cu_Lf, Bk2⟩ => [(0, .pointer (some ⟨lb, 0, none⟩)), (2, .pointer (some ⟨b1, 0, none⟩)), (3, .int .i64 n), (4, .pointer (some ⟨b8, 0, none⟩)), (5, .slice (some ⟨b9, 0, none⟩) ((n).toNat) ((n).toNat)), (26, .int .i64 n), (27, .int .i64 to), (6, .int .i64 to), (35, .pointer (some ⟨r15, 0, none⟩))]) (fun ⟨Lf, cu_Lf, Bk2⟩ => [mpr keZ.f laV b11 r15 M12 Lf cu_Lf, cel lb [.slice rA R.length rc, .slice kA K.length kc, .slice uA U.length uc, .slice dA D.length dc] 76, rw_ eZ 3 (.slice rA R.length rc) R, rw_ eLK 44 (.slice kA K.length kc) K, rw_ eIL 27 (.slice uA U.length uc) U, rw_ eIL 27 (.slice dA D.length dc) D, nestIL 3 U, nestIL 3 D, nestER 72 Bk2, rw_ eER 69 (.slice (some ⟨b9, 0, none⟩) ((n).toNat) ((n).toNat)) Bk2, cel b8 [.int .i64 n, .slice A5 ((List.replicate ((n * n)).toNat (-1)).length) c6] 29, rw_ eZ 3 (.slice A5 ((List.replicate ((n * n)).toNat (-1)).length) c6) (List.replicate ((n * n)).toNat (-1)), rw_ eZ 3 (.slice (some ⟨b2, 0, none⟩) 1 1) [(-1)], cel b1 [.int .i64 0, .slice none 0 0] 29]) (fun _ => S) (fun _ => wf) (fun ⟨Lf, cu_Lf, Bk2⟩ => Lf.length) (fun a_ w_ hs_ hw_ => ⟨⟨M12, none, Bk⟩, (by (try dsimp only); exact ⟨(lf_0 hfd.nd), (bk_in q_2 hfd)⟩), hs_.mono (Sub.get (.c4 G G G G (.c4 G G G G (.c G .n)))), hw_.keep (.d (.d (.d (.d (.d (.d (.d .n)))))))⟩) (fun ⟨Lf, cu_Lf, Bk2⟩ ⟨r_0, r_1⟩ => ?_)))
  try dsimp only
  refine .seq (.region (.cons (st_next keZ G G G G G .h (fun hz16 => ?_) (fun x17 v18 hl19 hm20 => ?_))))
  ·
   refine .x G G G G (.go idQ (.seq (.cond_f G (.exit idQ ?_))))
   refine .region (.p ((to + 1)) oO oO G G G G G (.m G G G ?_))
   exact SP.nil (SQ.roundb (X := Int × (List ER)) (x := (to, Bk)) ⟨(to + 1), Bk2⟩ (by (try dsimp only); exact ⟨oO, oO, (bk_out (by rw [← hz16]; exact r_1))⟩) dO (Sub.get (.c4 G G G G (.c G (.c G (.c G .n))))) (kp (.c (.t4 (.t4 .h)) (.c (.t4 (.t4 .h)) (.c (.t4 (.t4 .h)) (.c (.t4 (.t4 .h)) (.c (.t4 (.t4 .h)) (.c (.t4 (.t4 .h)) (.c (.t .h) (.c (.t .h) (.c (.t .h) (.c (.t .h) (.c (.t .h) (.c (.t .h) (.c (.t .h) .n)))))))))))))))
  refine .x G G G G (.go idQ (.seq (.cond_t G (.skipgo idQ (.block (.seq (.region ?_)))))))
  refine .v (ev_entry keZ (x := x17) (v := v18) G G 0 G) G (.x G G G G (.x G G G G (.cons (st_alloc G G G G zf90 (fun b21 => ?_)))))
  refine .a G G G (.cons (st_storea (l' := [.int .i64 v18.ld, .int .i64 v18.af, .int .i64 v18.ax, .int .i64 v18.aw, .int .i64 v18.am]) G G G ty90 G G G .h G G (.go idQ ?_)))
  have hva := lf_at hfd r_0 hl19
  have hel := r_1.el (p := x17) oO oO
  have hbl := r_1.len
  refine SC.outER x17 oO oO (.t4 (.t4 (.t .h))) (fun hol => ?_)
  refine SC.draw mo [rw_ eEG 72 (.slice ((gt Bk2 x17).erA) ((gt Bk2 x17).er.length) ((gt Bk2 x17).erc)) ((gt Bk2 x17).er), rw_ eER 69 (.slice (some ⟨b9, 0, none⟩) ((n).toNat) ((n).toNat)) Bk2] [(13, fun w => At w (ab (some ⟨b9, 0, none⟩)) (ao (some ⟨b9, 0, none⟩) + (x17).toNat * eER.sz) (eER.enc (gt Bk2 x17)))] (.c .h (.c (.t4 (.t4 (.t2 .h))) .n)) (fun w_ _ hw_ => (sc1 (row_el (E := eER) (l := Bk2) (i := x17) 1 G oO lO w_ hw_) sc0)) (fun wf_22 hl_22 hx_22 hR_22 => ?_)
  refine SR.m 0 G G G G ?_
  refine SR.m 1 G G G G ?_
  refine SR.m 2 G G G G ?_
  refine SR.m 3 G G G G ?_
  refine SR.z 4 G G (ev_ix G underlying83 ty69 G G oO oO (fun _ _ => G)) ?_
  refine SR.z 5 G G (ev_ld1 G ty69 G (At.elem1 (At.ofcs 0 G kR) 0 G)) ?_
  refine SR.m 6 G G G G ?_
  refine SR.z 7 G G (ev_fa G fo90_0 G (r := 0) G) ?_
  refine SR.z 8 G G (ev_ld1 G ty3 G (At.d (At.lent hR_22 1 G G))) ?_
  refine SR.z 9 G G (ev_any (v := .agg #[.int .i64 to, .int .i64 v18.ld]) G kR (fun _ => by kernel_rfl)) ?_
  refine SR.o 10 G (st_lit eEG (e := 72) (l := [(EG.mk to v18.ld)]) G G G G kR G G kW (fun b23 => ⟨ttr (i := x17) 2 G oO oO, ?_⟩))
  refine SR.o 11 G (st_app (E := eEG) (m := [(EG.mk to v18.ld)]) G G G G underlying69 ai72 G G G (.t .h) rO (row_src 0 G) lO G (fun v24 => ⟨ttr (i := x17) 2 G oO oO, ?_⟩))
  refine SR.z 12 G G (ev_ix G underlying83 ty69 G G oO oO (fun _ _ => G)) ?_
  refine .know (row_len 0 G) (fun hv27 => ?_)
  obtain ⟨A25, c26, rfl, hv27_1, hv27_2⟩ := hv27
  unfold maxLen at hv27_2
  refine SR.o 13 G (st_setel (E := eER) (i := x17) (cs := [.slice A25 ((((gt Bk2 x17).er) ++ [(EG.mk to v18.ld)]).length) c26]) (off := 0) (ER.mk (((gt Bk2 x17).er) ++ [(EG.mk to v18.ld)]) A25 c26) G G G ty69 G G G G G (.t2 .h) lO lO (Nat.le_of_ble_eq_true G) G ⟨ttc (fun w_ hw_ => (tc2 kR tc0)), ?_⟩)
  refine SR.fin kR hl_22 hx_22 hR_22 (.c (.c (.c .n))) ?_
  exact SQ.inER x17 (ER.mk (((gt Bk2 x17).er) ++ [(EG.mk to v18.ld)]) A25 c26) oO oO (.c (.t .h) (.c (.t2 .h) .n)) (by rfl) (by rw [List.length_append, List.length_singleton]; omega) <| (SQ.roundb (X := (List (Int × LA)) × (Option (Int × LA)) × (List ER)) (x := (Lf, cu_Lf, Bk2)) ⟨(Lf.filter (fun p => decide (p.1 ≠ x17))), (some (x17, v18)), (Bk2.set (x17).toNat (ER.mk (((gt Bk2 x17).er) ++ [(EG.mk to v18.ld)]) A25 c26))⟩ (by (try dsimp only); exact ⟨(lf_next r_0), (bk_step ⟨by omega, by omega⟩ hfd r_0 r_1 hl19)⟩) (mfilter_lt hl19) (Sub.get (.c4 G G G G (.c4 G G G G (.c G .n)))) (kp (.c (.t4 .h) (.c (.t4 .h) (.c (.t4 .h) (.c (.t4 .h) (.c (.t4 .h) (.c (.t4 .h) (.c (.t4 .h) (.c (.t4 .h) (.d (.c (.t2 .h) (.c (.t2 .h) (.c (.t2 .h) (.c (.t2 .h) .n)))))))))))))))
 refine .exit idQ ?_
 refine .seq (.seq ?_)
 have hbk : BkG n (fU n R K D) (fun _ j => j < n) Bk := by have h_ := q_2; rw [show to = n from by omega] at h_; exact h_
 refine .region (.m G G G (.m G G G (.go idQ (.block ?_))))
 refine .loop (X := Int × (List Int) × Value) (fun ⟨fr, W, u_W⟩ => 0 ≤ fr ∧ fr ≤ n ∧ MnI n (dsF n t) (fU n R K U fr) (fU n R K D) fr (fun _ _ => False) W) (fun ⟨fr, W, u_W⟩ => [(0, .pointer (some ⟨lb, 0, none⟩)), (2, .pointer (some ⟨b1, 0, none⟩)), (3, .int .i64 n), (4, .pointer (some ⟨b8, 0, none⟩)), (5, .slice (some ⟨b9, 0, none⟩) ((n).toNat) ((n).toNat)), (26, .int .i64 n), (27, .int .i64 to), (55, .int .i64 n), (56, .int .i64 fr)]) (fun ⟨fr, W, u_W⟩ => [nestER 72 Bk, rw_ eER 69 (.slice (some ⟨b9, 0, none⟩) ((n).toNat) ((n).toNat)) Bk, cel b8 [.int .i64 n, u_W] 29, rw_ eZ 3 (u_W) W, rw_ eZ 3 (.slice (some ⟨b2, 0, none⟩) 1 1) [(-1)], cel b1 [.int .i64 0, .slice none 0 0] 29, cel lb [.slice rA R.length rc, .slice kA K.length kc, .slice uA U.length uc, .slice dA D.length dc] 76, rw_ eZ 3 (.slice rA R.length rc) R, rw_ eLK 44 (.slice kA K.length kc) K, rw_ eIL 27 (.slice uA U.length uc) U, rw_ eIL 27 (.slice dA D.length dc) D, nestIL 3 U, nestIL 3 D]) (fun _ => S) (fun _ => wf) (fun ⟨fr, W, u_W⟩ => (n - fr).toNat) (fun a_ w_ hs_ hw_ => ⟨⟨0, (List.replicate ((n * n)).toNat (-1)), .slice A5 ((List.replicate ((n * n)).toNat (-1)).length) c6⟩, (by (try dsimp only); exact ⟨oO, oO, (mn_0 hn1)⟩), hs_.mono (Sub.get (.c4 G G G G (.c4 G G G G (.c G .n)))), hw_.keep (.d (.d (.d (.d (.d (.d (.c .h .n)))))))⟩) (fun ⟨fr, W, u_W⟩ ⟨r_0, r_1, r_2⟩ => ?_)
 try dsimp only
 refine .seq (.region (.e G G G G G (.go idQ (.seq (.condI G bD (fun h28 => ?_) (fun h28 => ?_))))))
 ·
  refine .skipgo idQ (.seq (.block (.seq (.region (.m G G G (.a G G G (.go idQ (.seq (.region ?_)))))))))
  refine .m G G G (.v (ev_any (v := .func (.func 17) #[.pointer (some ⟨lb, 0, none⟩)] #[]) G kR (fun _ => by kernel_rfl)) G (.v (ev_any (v := .agg #[.func (.func 17) #[.pointer (some ⟨lb, 0, none⟩)] #[], .func (.func 41) #[] #[]]) G kR (fun _ => by kernel_rfl)) G (.m G G G ?_)))
  refine .cons (st_call0 G G G G hbd40 G (.c (.t4 (.t2 .h)) (.c (.t4 (.t2 .h)) (.c (.t4 (.t2 .h)) (.c (.t4 (.t2 .h)) (.c (.t4 (.t2 .h)) (.c (.t4 (.t2 .h)) (.c (.t4 (.t2 .h)) .n))))))) (findU lb rA rc R kA kc K uA uc U dA dc D n fr _ _ hC.hL hC.su ⟨by omega, by omega⟩) (fun v_q31 C_q31 q31 => ?_))
  obtain ⟨b29, M30, p32, rfl, rfl⟩ := q31
  show SP _ _ _ _ _ _ ⟨_, _ :: _ :: _ :: _ :: _ :: _ :: _ :: _ :: _, _, _⟩
  have hfu := hC.fu ⟨by omega, by omega⟩ p32
  refine .cons (st_range keZ G G G G underlying84 G (.t4 (.t2 (.t .h))) (fun r33 => ?_))
  refine .go idQ (.block (.loop (X := (List (Int × LA)) × (Option (Int × LA)) × (List Int) × Value) (fun ⟨Lg, cu_Lg, Y, u_Y⟩ => LfI M30 Lg ∧ MnI n (dsF n t) (fU n R K U fr) (fU n R K D) fr (prA M30 Lg (fU n R K D)) Y) (fun ⟨Lg, cu_Lg, Y, u_Y⟩ => [(0, .pointer (some ⟨lb, 0, none⟩)), (2, .pointer (some ⟨b1, 0, none⟩)), (3, .int .i64 n), (4, .pointer (some ⟨b8, 0, none⟩)), (5, .slice (some ⟨b9, 0, none⟩) ((n).toNat) ((n).toNat)), (26, .int .i64 n), (27, .int .i64 to), (55, .int .i64 n), (56, .int .i64 fr), (9, .int .i64 fr), (64, .pointer (some ⟨r33, 0, none⟩))]) (fun ⟨Lg, cu_Lg, Y, u_Y⟩ => [mpr keZ.f laV b29 r33 M30 Lg cu_Lg, cel lb [.slice rA R.length rc, .slice kA K.length kc, .slice uA U.length uc, .slice dA D.length dc] 76, rw_ eZ 3 (.slice rA R.length rc) R, rw_ eLK 44 (.slice kA K.length kc) K, rw_ eIL 27 (.slice uA U.length uc) U, rw_ eIL 27 (.slice dA D.length dc) D, nestIL 3 U, nestIL 3 D, nestER 72 Bk, rw_ eER 69 (.slice (some ⟨b9, 0, none⟩) ((n).toNat) ((n).toNat)) Bk, cel b8 [.int .i64 n, u_Y] 29, rw_ eZ 3 (u_Y) Y, rw_ eZ 3 (.slice (some ⟨b2, 0, none⟩) 1 1) [(-1)], cel b1 [.int .i64 0, .slice none 0 0] 29]) (fun _ => S) (fun _ => wf) (fun ⟨Lg, cu_Lg, Y, u_Y⟩ => Lg.length) (fun a_ w_ hs_ hw_ => ⟨⟨M30, none, W, u_W⟩, (by (try dsimp only); exact ⟨(lf_0 hfu.nd), (mn_a0 r_2)⟩), hs_.mono (Sub.get (.c4 G G G G (.c4 G G G G (.c G (.c G (.c G .n)))))), hw_.keep (.d (.d (.d (.d (.d (.d (.d .n)))))))⟩) (fun ⟨Lg, cu_Lg, Y, u_Y⟩ ⟨s_0, s_1⟩ => ?_)))
  try dsimp only
  refine .seq (.region (.cons (st_next keZ G G G G G .h (fun hz34 => ?_) (fun x35 v36 hl37 hm38 => ?_))))
  ·
   refine .x G G G G (.go idQ (.seq (.cond_f G (.exit idQ ?_))))
   refine .region (.p ((fr + 1)) oO oO G G G G G (.m G G G ?_))
   exact SP.nil (SQ.roundb (X := Int × (List Int) × Value) (x := (fr, W, u_W)) ⟨(fr + 1), Y, u_Y⟩ (by (try dsimp only); exact ⟨oO, oO, (mn_next ⟨by omega, by omega⟩ hfu (fun j j0 j1 => hC.ways ⟨by omega, by omega⟩ ⟨j0, j1⟩) (by rw [← hz34]; exact s_1))⟩) dO (Sub.get (.c4 G G G G (.c4 G G G G (.c G .n)))) (kp (.c (.t4 (.t4 .h)) (.c (.t4 (.t4 .h)) (.c (.t4 (.t4 .h)) (.c (.t4 (.t4 .h)) (.c (.t4 (.t4 .h)) (.c (.t4 (.t4 .h)) (.c (.t .h) (.c (.t .h) (.c (.t .h) (.c (.t .h) (.c (.t .h) (.c (.t .h) (.c (.t .h) .n)))))))))))))))
  refine .x G G G G (.go idQ (.seq (.cond_t G (.skipgo idQ (.block (.seq (.region ?_)))))))
  refine .v (ev_entry keZ (x := x35) (v := v36) G G 0 G) G (.x G G G G (.x G G G G (.cons (st_alloc G G G G zf90 (fun b39 => ?_)))))
  refine .a G G G (.cons (st_storea (l' := [.int .i64 v36.ld, .int .i64 v36.af, .int .i64 v36.ax, .int .i64 v36.aw, .int .i64 v36.am]) G G G ty90 G G G .h G G (.go idQ (.seq ?_))))
  have hva := lf_at hfu s_0 hl37
  have hel := hbk.el (p := x35) oO oO
  have hbl := hbk.len
  refine SC.outER x35 oO oO (.t4 (.t4 (.t .h))) (fun hol => ?_)
  refine .region (.m G G G (.m G G G (.v (ev_ix G underlying83 ty69 G G oO oO (fun _ _ => G)) G ?_)))
  refine .v (ev_ld1 G ty69 G (At.elem1 (row_el (E := eER) (l := Bk) (i := x35) 11 G oO oO) 0 G)) G (.g underlying69 G G G (.m G G G (.go idQ (.block ?_))))
  refine .loop (X := Int × (List Int) × Value) (fun ⟨k, Z, u_Z⟩ => 0 ≤ k ∧ k ≤ ((gt Bk x35).er.length : Int) ∧ MnI n (dsF n t) (fU n R K U fr) (fU n R K D) fr (prX M30 Lg (fU n R K D) (gt Bk x35).er x35 k.toNat) Z) (fun ⟨k, Z, u_Z⟩ => [(0, .pointer (some ⟨lb, 0, none⟩)), (2, .pointer (some ⟨b1, 0, none⟩)), (3, .int .i64 n), (4, .pointer (some ⟨b8, 0, none⟩)), (5, .slice (some ⟨b9, 0, none⟩) ((n).toNat) ((n).toNat)), (26, .int .i64 n), (27, .int .i64 to), (55, .int .i64 n), (56, .int .i64 fr), (9, .int .i64 fr), (64, .pointer (some ⟨r33, 0, none⟩)), (11, .pointer (some ⟨b39, 0, none⟩)), (73, .slice ((gt Bk x35).erA) ((gt Bk x35).er.length) ((gt Bk x35).erc)), (74, .int .i64 (((gt Bk x35).er.length : Nat) : Int)), (75, .int .i64 k)]) (fun ⟨k, Z, u_Z⟩ => [rw_ eEG 72 (.slice ((gt Bk x35).erA) ((gt Bk x35).er.length) ((gt Bk x35).erc)) ((gt Bk x35).er), nestER 72 (Bk.take (x35).toNat ++ Bk.drop (x35 + 1).toNat), cel b39 [.int .i64 v36.ld, .int .i64 v36.af, .int .i64 v36.ax, .int .i64 v36.aw, .int .i64 v36.am] 90, mpr keZ.f laV b29 r33 M30 (Lg.filter (fun p => decide (p.1 ≠ x35))) (some (x35, v36)), cel lb [.slice rA R.length rc, .slice kA K.length kc, .slice uA U.length uc, .slice dA D.length dc] 76, rw_ eZ 3 (.slice rA R.length rc) R, rw_ eLK 44 (.slice kA K.length kc) K, rw_ eIL 27 (.slice uA U.length uc) U, rw_ eIL 27 (.slice dA D.length dc) D, nestIL 3 U, nestIL 3 D, rw_ eER 69 (.slice (some ⟨b9, 0, none⟩) ((n).toNat) ((n).toNat)) Bk, cel b8 [.int .i64 n, u_Z] 29, rw_ eZ 3 (u_Z) Z, rw_ eZ 3 (.slice (some ⟨b2, 0, none⟩) 1 1) [(-1)], cel b1 [.int .i64 0, .slice none 0 0] 29]) (fun _ => S) (fun _ => wf) (fun ⟨k, Z, u_Z⟩ => (((gt Bk x35).er.length : Int) - k).toNat) (fun a_ w_ hs_ hw_ => ⟨⟨0, Y, u_Y⟩, (by (try dsimp only); exact ⟨oO, oO, (mn_x0 s_1)⟩), hs_.mono (Sub.get (.c4 G G G G (.c4 G G G G (.c4 G G G G (.c G (.c G (.c G .n))))))), hw_.keep (.d (.d (.d (.d (.d (.d (.d (.d .n))))))))⟩) (fun ⟨k, Z, u_Z⟩ ⟨u_0, u_1, u_2⟩ => ?_)
  try dsimp only
  have hzl := u_2.len
  refine .seq (.region (.e G G G G G (.go idQ (.seq (.condI G bD (fun h40 => ?_) (fun h40 => ?_))))))
  ·
   refine .skipgo idQ (.seq (.block (.seq (.region (.v (ev_ix G underlying69 ty72 G G oO oO (row_adr (i := k) 0 G oO lO)) G (.v (ev_lda G G (row_el (E := eEG) (l := (gt Bk x35).er) (i := k) 0 G oO lO) ty72) G (.cons (st_alloc G G G G zf72 (fun b41 => ?_)))))))))
   refine .cons (st_storea (l' := [.int .i64 ((gt ((gt Bk x35).er) k).et), .int .i64 ((gt ((gt Bk x35).er) k).ew)]) G G G ty72 G G G .h G G ?_)
   refine .go idQ (.seq ?_)
   have hee := hbk.ok x35 oO oO _ (gtM (l := (gt Bk x35).er) (i := k) oO oO)
   have hix := idx_rng (n := n) (a := fr) (b := (gt (gt Bk x35).er k).et) ⟨by omega, by omega⟩ ⟨by omega, by omega⟩
   refine .region (.f fo29_1 1 G G G G (.l ty27 13 G G G G G (.m G G G ?_)))
   refine .m G G G (.v (ev_mul G G G (r := (fr * n)) G oO oO) G (.f fo72_0 0 G G G G (.l ty3 0 G G G G G ?_)))
   refine .v (ev_add G G G (r := ((fr * n) + ((gt ((gt Bk x35).er) k).et))) G oO oO) G (.know (row_len 14 G) (fun hv44 => ?_))
   obtain ⟨A42, c43, rfl, hv44_1, hv44_2⟩ := hv44
   unfold maxLen at hv44_2
   refine .v (ev_ix G underlying27 ty3 G G oO oO (row_adr (i := ((fr * n) + ((gt ((gt Bk x35).er) k).et))) 14 G oO oO)) G (.a G G G (.go idQ (.seq ?_)))
   refine SC.draw mo [] [] .n (fun _ _ _ => sc0) (fun wf_45 hl_45 hx_45 hR_45 => ?_)
   refine SR.m 0 G G G G ?_
   refine SR.z 1 G G (ev_nil G G) ?_
   refine SR.z 2 G G (ev_ld1 G ty3 G (At.elem1 (At.d (Fr.el (i := ((fr * n) + ((gt ((gt Bk x35).er) k).et))) (Fr.lent (S := S) hR_45 14 G lO) oO oO)) 0 G)) ?_
   refine SR.z 3 G G (ev_cmp G G G G) ?_
   refine SR.m 4 G G G G ?_
   refine SR.y 5 G G (fun _ => ev_fa G fo90_0 G (r := 0) G) ?_
   refine SR.y 6 G G (fun hb => ev_ld1 G ty3 (lkg G hb) (At.d (At.lent hR_45 3 G G))) ?_
   refine SR.y 7 G G (fun _ => ev_fa G fo72_1 G (r := 1) G) ?_
   refine SR.y 8 G G (fun hb => ev_ld1 G ty3 (lkg G hb) (At.d (At.lent hR_45 0 G G))) ?_
   refine SR.y 9 G G (fun hb => have hp := bF bD hb; ev_add G (lkg G hb) (lkg G hb) (r := (v36.ld + ((gt ((gt Bk x35).er) k).ew))) G (by have _h := hp; omega) (by have _h := hp; omega)) ?_
   refine SR.y 10 G G (fun _ => ev_mv G G) ?_
   refine SR.y 11 G G (fun hb => ev_nil G (lkg G hb)) ?_
   refine SR.y 12 G G (fun hb => have hp := bF bD hb; ev_ld1 G ty3 (lkg G hb) (At.elem1 (At.d (Fr.el (i := ((fr * n) + ((gt ((gt Bk x35).er) k).et))) (Fr.lent (S := S) hR_45 14 G lO) (by have _h := hp; omega) (by have _h := hp; omega))) 0 G)) ?_
   refine SR.y 13 G G (fun hb => ev_cmp G (lkg G hb) (lkg G hb) G) ?_
   refine SR.z 14 G G (ev_or G G G G) ?_
   refine SR.fin kR hl_45 hx_45 hR_45 .n ?_
   refine SQ.go idQ ?_
   refine .condI G (bO bD bD) (fun h46 => ?_) (fun h46 => ?_)
   ·
    refine .region (.m G G G (.f fo90_0 0 G G G G (.l ty3 3 G G G G G ?_)))
    refine .f fo72_1 1 G G G G (.l ty3 0 G G G G G (.v (ev_add G G G (r := (v36.ld + ((gt ((gt Bk x35).er) k).ew))) G oO oO) G (.v (ev_nil G G) G ?_)))
    refine .cons (st_setel (E := eZ) (i := ((fr * n) + ((gt ((gt Bk x35).er) k).et))) (cs := [.int .i64 (v36.ld + ((gt ((gt Bk x35).er) k).ew))]) (off := 0) (v36.ld + ((gt ((gt Bk x35).er) k).ew)) G G G ty3 G G G G G (.t4 (.t4 (.t4 (.t2 .h)))) lO lO (Nat.le_of_ble_eq_true G) G ?_)
    refine .go idQ (.region (.p ((k + 1)) oO oO G G G G G (.m G G G ?_)))
    exact SP.nil (SQ.roundb (X := Int × (List Int) × Value) (x := (k, Z, (.slice A42 Z.length c43))) ⟨(k + 1), (Z.set (((fr * n) + ((gt ((gt Bk x35).er) k).et))).toNat (v36.ld + ((gt ((gt Bk x35).er) k).ew))), .slice A42 Z.length c43⟩ (by (try dsimp only); exact ⟨oO, oO, (mn_x1y hfu s_0 hbk hl37 ⟨by omega, by omega⟩ oO oO u_2 h46)⟩) dO (Sub.get (.c4 G G G G (.c4 G G G G (.c4 G G G G (.c G (.c G (.c G .n))))))) (kp (.c (.t2 .h) (.c (.t2 .h) (.c (.t2 .h) (.c (.t2 .h) (.c (.t2 .h) (.c (.t2 .h) (.c (.t2 .h) (.c (.t2 .h) (.c (.t2 .h) (.c (.t2 .h) (.c (.t2 .h) (.c (.t2 .h) (.c (.t2 .h) (.c .h (.c (.t .h) (.c (.t .h) .n))))))))))))))))))
   refine .skipgo idQ (.region (.p ((k + 1)) oO oO G G G G G (.m G G G ?_)))
   exact SP.nil (SQ.roundb (X := Int × (List Int) × Value) (x := (k, Z, (.slice A42 Z.length c43))) ⟨(k + 1), Z, .slice A42 Z.length c43⟩ (by (try dsimp only); exact ⟨oO, oO, (mn_x1n hfu s_0 hbk hl37 oO oO u_2 h46)⟩) dO (Sub.get (.c4 G G G G (.c4 G G G G (.c4 G G G G (.c G (.c G (.c G .n))))))) (kp (.c (.t .h) (.c (.t .h) (.c (.t .h) (.c (.t .h) (.c (.t .h) (.c (.t .h) (.c (.t .h) (.c (.t .h) (.c (.t .h) (.c (.t .h) (.c (.t .h) (.c (.t .h) (.c (.t .h) (.c (.t .h) (.c (.t .h) (.c (.t .h) .n))))))))))))))))))
  exact .exitq idQ (SQ.backER x35 oO oO (.d .n) hol <| (SQ.roundb (X := (List (Int × LA)) × (Option (Int × LA)) × (List Int) × Value) (x := (Lg, cu_Lg, Y, u_Y)) ⟨(Lg.filter (fun p => decide (p.1 ≠ x35))), (some (x35, v36)), Z, u_Z⟩ (by (try dsimp only); exact ⟨(lf_next s_0), (mn_x2 hfu s_0 hbk hl37 oO u_2)⟩) (mfilter_lt hl37) (Sub.get (.c4 G G G G (.c4 G G G G (.c G (.c G (.c G .n)))))) (kp (.c (.t2 .h) (.c (.t2 .h) (.c (.t2 .h) (.c (.t2 .h) (.c (.t2 .h) (.c (.t2 .h) (.c (.t2 .h) (.c (.t2 .h) (.c .h (.c (.t .h) (.c (.t .h) (.c (.t .h) (.c (.t .h) (.c (.t .h) .n)))))))))))))))))
 refine .exit idQ ?_
 refine .seq (.region (.d 2 ty29 G G G G (.know (row_len 3 G) (fun hv49 => ?_))))
 obtain ⟨A47, c48, rfl, hv49_1, hv49_2⟩ := hv49
 unfold maxLen at hv49_2
 refine .cons (st_storea (l' := [.int .i64 n, .slice A47 W.length c48]) G G G ty29 G G G (.t4 (.t .h)) G G ?_)
 refine .go idQ (.ret idQ (retv1 results13 (.c 0 G G ty29) (.c (.t4 (.t2 .h)) (.c (.t4 (.t2 .h)) (.c (.t4 (.t2 .h)) (.c (.t4 (.t2 .h)) (.c (.t4 (.t2 .h)) (.c (.t4 (.t2 .h)) (.c (.t4 (.t2 .h)) (.c (.t4 .h) .n)))))))) ⟨.slice A47 W.length c48, W, (mn_mf (by have h_ := r_2; rw [show fr = n from by omega] at h_; exact h_)), G, G⟩))
end Go.Proofs.Ytpjblnmophcdmaa.Sx
set_option maxRecDepth 20000
set_option maxHeartbeats 8000000
set_option maxRecDepth 20000
set_option maxHeartbeats 8000000
namespace Go.Proofs.Ytpjblnmophcdmaa.Sx.FCH
open Go Go.SX Go.Proofs Go.Proofs.Try FA FB FC FD FE FF FG FH FI FJ FK FL FM FN FO FP FQ FR FS FCA FCB FCC FCD FCE FCF
theorem hbd10 : hasBody prog 10 = true := by kernel_rfl
theorem hbd11 : hasBody prog 11 = true := by kernel_rfl
theorem hbd14 : hasBody prog 14 = true := by kernel_rfl
theorem hbd13 : hasBody prog 13 = true := by kernel_rfl
end Go.Proofs.Ytpjblnmophcdmaa.Sx.FCH
namespace Go.Proofs.Ytpjblnmophcdmaa.Sx
open Go Go.SX Go.Proofs Go.Proofs.Try FA FB FC FD FE FF FG FH FI FJ FK FL FM FN FO FP FQ FR FS FCA FCB FCC FCD FCE FCF FCH
theorem awake8_ (S : Nat → Prop) (wf : World) :
  TR0 prog 9 [] [] S wf (fun v_ C_ => v_ = .bool true ∧ C_ = []) := by
 refine TR.mk func9 G ntmps9 G G (fun w_ => ?_)
 refine .seq (.region (.a G G G (.go idQ (.seq (.region (.v (ev_any (v := .agg #[.int .i64 0, .int .i64 1, .int .i64 4, .int .i64 0]) G kR (fun _ => by kernel_rfl)) G ?_))))))
 refine .v (ev_any (v := .agg #[.int .i64 1, .int .i64 2, .int .i64 0, .int .i64 0]) G kR (fun _ => by kernel_rfl)) G (.cons (st_lit eAR (e := 54) (l := [(AR.mk 0 1 4 0), (AR.mk 1 2 0 0)]) G G G G kR G G kW (fun b1 => (.v (ev_any (v := .agg #[.int .i64 3, .slice (some ⟨b1, 0, none⟩) 2 2]) G kR (fun _ => by kernel_rfl)) G (.cons (st_lend0 G G G G hbd10 G .n (.c .h .n) (fun w_ hw => graphF 3 (some ⟨b1, 0, none⟩) 2 [(AR.mk 0 1 4 0), (AR.mk 1 2 0 0)] _ _ (Fr.lend hw 0 G lO) ra8) (fun v_q10 C_q10 q10 => ?_)))))))
 obtain ⟨b2, u3, v4, fi5, ed6, x7, y8, W9, p11, p12, p13, rfl, rfl⟩ := q10
 show SP _ _ _ _ _ _ ⟨_, _ :: _ :: _ :: _ :: _ :: _ :: _, _, _⟩
 have hgl := p11.len
 have hgn := p11.ne
 refine .m G G G (.x G G G G (.x G G G G (.x G G G G ?_)))
 refine .x G G G G (.cons (st_alloc G G G G zf29 (fun b14 => (.cons (st_alloc G G G G zf29 (fun b15 => (.a G G G ?_)))))))
 refine .know (row_len 5 G) (fun hv18 => ?_)
 obtain ⟨A16, c17, rfl, hv18_1, hv18_2⟩ := hv18
 unfold maxLen at hv18_2
 refine .cons (st_storea (l' := [.int .i64 3, .slice A16 ((tabF 3 false [(AR.mk 0 1 4 0), (AR.mk 1 2 0 0)]).length) c17]) G G G ty29 G G G (.t .h) G G ?_)
 refine .know (row_len 6 G) (fun hv21 => ?_)
 obtain ⟨A19, c20, rfl, hv21_1, hv21_2⟩ := hv21
 unfold maxLen at hv21_2
 refine .cons (st_storea (l' := [.int .i64 3, .slice A19 W9.length c20]) G G G ty29 G G G (.t .h) G G ?_)
 refine .a G G G (.go idQ (.seq (.region (.m G G G (.know (row_len 3 G) (fun hv24 => ?_))))))
 obtain ⟨A22, c23, rfl, hv24_1, hv24_2⟩ := hv24
 unfold maxLen at hv24_2
 refine .know (row_len 4 G) (fun hv27 => ?_)
 obtain ⟨A25, c26, rfl, hv27_1, hv27_2⟩ := hv27
 unfold maxLen at hv27_2
 refine .cons (st_lend0 G G G G hbd11 G (.c (.t2 .h) .n) (.c (.t2 .h) (.c (.t2 .h) .n)) (fun w_ hw => build_ 3 (tabF 3 false [(AR.mk 0 1 4 0), (AR.mk 1 2 0 0)]) b2 A22 c23 fi5 A25 c26 ed6 _ _ (Fr.lend hw 0 G lO) (Fr.lend hw 1 G lO) (tab_ok ra8) p11 lO) (fun v_q37 C_q37 q37 => ?_))
 obtain ⟨lb28, v129, v230, v331, v432, R33, K34, U35, D36, p38, rfl, rfl⟩ := q37
 show SP _ _ _ _ _ _ ⟨_, _ :: _ :: _ :: _ :: _ :: _ :: _ :: _ :: _ :: _ :: _, _, _⟩
 have hC := lc (tab_ok ra8) p11 p38
 refine .a G G G (.go idQ (.seq (.know (row_len 2 G) (fun hv41 => ?_))))
 obtain ⟨A39, c40, rfl, hv41_1, hv41_2⟩ := hv41
 unfold maxLen at hv41_2
 refine .know (row_len 3 G) (fun hv44 => ?_)
 obtain ⟨A42, c43, rfl, hv44_1, hv44_2⟩ := hv44
 unfold maxLen at hv44_2
 refine .know (row_len 4 G) (fun hv47 => ?_)
 obtain ⟨A45, c46, rfl, hv47_1, hv47_2⟩ := hv47
 unfold maxLen at hv47_2
 refine .know (row_len 5 G) (fun hv50 => ?_)
 obtain ⟨A48, c49, rfl, hv50_1, hv50_2⟩ := hv50
 unfold maxLen at hv50_2
 refine .region (.m G G G (.cons (st_callk G G G G hbd14 G (.c (.t .h) (.c (.t .h) (.c (.t .h) (.c (.t .h) (.c (.t .h) (.c (.t .h) (.c (.t .h) .n))))))) (dist8_ lb28 A39 c40 R33 A42 c43 K34 A45 c46 U35 A48 c49 D36 3 (tabF 3 false [(AR.mk 0 1 4 0), (AR.mk 1 2 0 0)]) 0 2 _ _ hC) (.e G G G G G ?_))))
 refine .m G G G (.w (fun _ => ev_mv G G) G (.cons (st_gcallk G G G G G G hbd14 (fun hb => (lkA1 (lkg G hb) (lkA1 G (lkA1 G lkA0)))) (.c (.t .h) (.c (.t .h) (.c (.t .h) (.c (.t .h) (.c (.t .h) (.c (.t .h) (.c (.t .h) .n))))))) (fun hb => have hp := bT bE hb; dist8_ lb28 A39 c40 R33 A42 c43 K34 A45 c46 U35 A48 c49 D36 3 (tabF 3 false [(AR.mk 0 1 4 0), (AR.mk 1 2 0 0)]) 2 0 _ _ hC) (.w (fun hb => ev_cmp G (lkg G hb) G G) G ?_))))
 refine .v (ev_and G G G G) G (.m G G G (.w (fun _ => ev_mv G G) G ?_))
 rcases Bool.eq_false_or_eq_true (((dsF 3 (tabF 3 false [(AR.mk 0 1 4 0), (AR.mk 1 2 0 0)]) 0 2) == 4) && ((dsF 3 (tabF 3 false [(AR.mk 0 1 4 0), (AR.mk 1 2 0 0)]) 2 0) == (-1))) with hb51 | hb51
 ·
  refine SP.reslot (t := 26) G hb51 ?_
  have hb51_ := bT (bA bE bE) hb51
  refine .cons (.on G G G (st_call0 G G G G hbd13 (lkA1 (lkg G hb51) lkA0) (.c (.t .h) (.c (.t .h) (.c (.t .h) (.c (.t .h) (.c (.t .h) (.c (.t .h) (.c (.t .h) .n))))))) (table_ lb28 A39 c40 R33 A42 c43 K34 A45 c46 U35 A48 c49 D36 3 (tabF 3 false [(AR.mk 0 1 4 0), (AR.mk 1 2 0 0)]) _ _ hC) (fun v_q54 C_q54 q54 => ?_)))
  obtain ⟨u52, W53, p55, rfl, rfl⟩ := q54
  show SP _ _ _ _ _ _ ⟨_, _ :: _ :: _ :: _ :: _ :: _ :: _ :: _ :: _, _, _⟩
  refine .cons (.on G G G (Ev.step (ev_any (v := .int .i64 3) G kR (fun _ => by kernel_rfl)) G G G ?_))
  refine .cons (.on G G G (Ev.step (ev_cmp (r := true) G G G G) G G G ?_))
  refine .v (ev_pickt G G G G) G (.a G G G (.go idQ (.ret idQ (ret1 results9 G .n ⟨(congrArg Value.bool (by first | rfl | exact absurd (And.intro aw8a aw8b) (by assumption))), G⟩))))
 refine SP.reslot (t := 26) G hb51 ?_
 have hb51_ := bF (bA bE bE) hb51
 refine .cons (.off G G G G G G ?_)
 refine .cons (.off G G G G G G ?_)
 refine .cons (.off G G G G G G ?_)
 refine .v (ev_pickf G G G G) G (.a G G G (.go idQ (.ret idQ (ret1 results9 G .n ⟨(congrArg Value.bool (by first | rfl | exact absurd (And.intro aw8a aw8b) (by assumption))), G⟩))))
end Go.Proofs.Ytpjblnmophcdmaa.Sx
set_option maxRecDepth 20000
set_option maxHeartbeats 8000000
set_option maxRecDepth 20000
set_option maxHeartbeats 8000000
set_option maxRecDepth 20000
set_option maxHeartbeats 8000000
set_option maxRecDepth 20000
set_option maxHeartbeats 8000000
set_option maxRecDepth 20000
set_option maxHeartbeats 8000000
set_option maxRecDepth 20000
set_option maxHeartbeats 8000000
set_option maxRecDepth 20000
set_option maxHeartbeats 8000000
set_option maxRecDepth 20000
set_option maxHeartbeats 8000000
namespace Go.Proofs.Ytpjblnmophcdmaa.Sx
open Go Go.SX Go.Proofs Go.Proofs.Try FA FB FC FD FE FF FG FH FI FJ FK FL FM FN FO FP FQ FR FS FCA FCB FCC FCD FCE FCF FCH
theorem least2_ (n : Int) (A : Option Addr) (c : Nat) (l : List Int) (f : Int → Int → Int) (S : Nat → Prop) (wf : World) (hA : Fr eZ S wf A l) (h1 : 1 ≤ n ∧ n ≤ 32) (hM : MF n l f) (hfb0 : ∀ k : Nat, k ≤ 32 → FB (fw f k) 200000000000000000) :
  TR0 prog 19 [.agg #[.int .i64 n, .slice A l.length c]] [] S wf (fun v_ C_ => ∃ (u : Value) (W : List Int), (MF n W (fw f n.toNat)) ∧ v_ = .agg #[.int .i64 n, u] ∧ C_ = [rw_ eZ 3 (u) W]) := by
 have hla := hA.len
 have hsq := sq_le h1
 have hl := hM.len
 refine TR.mk func19 G ntmps19 G G (fun w_ => ?_)
 refine .seq (.region (.cons (st_boxa G G G G G (fun b1 => (.cons (st_alloc G G G G zf29 (fun b2 => (.go idQ (.seq (.region ?_))))))))))
 refine .f fo29_0 0 G G G G (.l ty3 1 G G G G G (.a G G G (.go idQ (.seq (.region ?_)))))
 refine .m G G G (.cons (st_lit eZ (e := 3) (l := []) G G G G kR G G kW (fun b3 => (.f fo29_1 1 G G G G (.l ty27 2 G G G G G ?_)))))
 refine .cons (st_app0 (E := eZ) (m := l) G G G G underlying27 ai3 G G G .h rO (Src.w (Fr.flat hA)) lO G (fun v4 => ?_))
 refine .know (row_len 0 G) (fun hv7 => ?_)
 obtain ⟨A5, c6, rfl, hv7_1, hv7_2⟩ := hv7
 unfold maxLen at hv7_2
 refine .v (ev_any (v := .agg #[.int .i64 n, .slice A5 l.length c6]) G kR (fun _ => by kernel_rfl)) G (.cons (st_alloc G G G G zf29 (fun b8 => (.cons (st_storea (l' := [.int .i64 n, .slice A5 l.length c6]) G G G ty29 G G G .h G G (.go idQ (.seq (.seq (.region ?_)))))))))
 refine .a G G G (.go idQ (.block (.loop (X := Int × (List Int) × Value) (fun ⟨a, X, u_X⟩ => 0 ≤ a ∧ a ≤ n ∧ MF n X (dgf f a)) (fun ⟨a, X, u_X⟩ => [(2, .pointer (some ⟨b2, 0, none⟩)), (3, .int .i64 n), (4, .pointer (some ⟨b8, 0, none⟩)), (5, .int .i64 a)]) (fun ⟨a, X, u_X⟩ => [cel b8 [.int .i64 n, u_X] 29, rw_ eZ 3 (u_X) X, cel b2 [.int .i64 0, .slice none 0 0] 29, cel b1 [.int .i64 n, .slice A l.length c] 29]) (fun _ => S) (fun _ => wf) (fun ⟨a, X, u_X⟩ => (n - a).toNat) (fun a_ w_ hs_ hw_ => ⟨⟨0, l, .slice A5 l.length c6⟩, (by (try dsimp only); exact ⟨oO, oO, (dg_0m hM)⟩), hs_.mono (Sub.get (.c4 G G G G .n)), hw_.keep (.d (.d .n))⟩) (fun ⟨a, X, u_X⟩ ⟨q_0, q_1, q_2⟩ => ?_))))
 try dsimp only
 have hxl := q_2.len
 refine .seq (.seq (.region (.m G G G (.m G G G (.e G G G G G ?_)))))
 refine .go idQ (.condI G bD (fun h9 => ?_) (fun h9 => ?_))
 ·
  refine .skipgo idQ (.seq (.block ?_))
  have hix := idx_rng (n := n) (a := a) (b := a) ⟨by omega, by omega⟩ ⟨by omega, by omega⟩
  refine .region (.f fo29_1 1 G G G G (.l ty27 0 G G G G G (.m G G G ?_)))
  refine .m G G G (.v (ev_mul G G G (r := (a * n)) G oO oO) G (.m G G G (.p (((a * n) + a)) oO oO G G G G G ?_)))
  refine .know (row_len 1 G) (fun hv12 => ?_)
  obtain ⟨A10, c11, rfl, hv12_1, hv12_2⟩ := hv12
  unfold maxLen at hv12_2
  refine .v (ev_ix G underlying27 ty3 G G oO oO (row_adr (i := ((a * n) + a)) 1 G oO oO)) G (.cons (st_setel (E := eZ) (i := ((a * n) + a)) (cs := [.int .i64 0]) (off := 0) 0 G G G ty3 G G G G G (.t .h) lO lO (Nat.le_of_ble_eq_true G) G (.go idQ (.region (.m G G G ?_)))))
  refine .p ((a + 1)) oO oO G G G G G (.a G G G ?_)
  exact SP.nil (SQ.roundb (X := Int × (List Int) × Value) (x := (a, X, (.slice A10 X.length c11))) ⟨(a + 1), (X.set (((a * n) + a)).toNat 0), .slice A10 X.length c11⟩ (by (try dsimp only); exact ⟨oO, oO, (dg_next q_2 ⟨by omega, by omega⟩)⟩) dO (Sub.get (.c4 G G G G .n)) (kp (.c (.t .h) (.d (.c .h .n)))))
 refine .exit idQ ?_
 refine .seq (.seq (.region (.a G G G (.go idQ (.block (.loop (X := Int × (List Int) × Value) (fun ⟨k, Y, u_Y⟩ => 0 ≤ k ∧ k ≤ n ∧ MF n Y (fw f k.toNat)) (fun ⟨k, Y, u_Y⟩ => [(2, .pointer (some ⟨b2, 0, none⟩)), (3, .int .i64 n), (4, .pointer (some ⟨b8, 0, none⟩)), (5, .int .i64 a), (6, .int .i64 k)]) (fun ⟨k, Y, u_Y⟩ => [cel b8 [.int .i64 n, u_Y] 29, rw_ eZ 3 (u_Y) Y, cel b2 [.int .i64 0, .slice none 0 0] 29, cel b1 [.int .i64 n, .slice A l.length c] 29]) (fun _ => S) (fun _ => wf) (fun ⟨k, Y, u_Y⟩ => (n - k).toNat) (fun a_ w_ hs_ hw_ => ⟨⟨0, X, u_X⟩, (by (try dsimp only); exact ⟨oO, oO, (dg_end q_2 oO)⟩), hs_.mono (Sub.get (.c4 G G G G (.c G .n))), hw_.keep (.d (.d .n))⟩) (fun ⟨k, Y, u_Y⟩ ⟨r_0, r_1, r_2⟩ => ?_)))))))
 try dsimp only
 have hyl := r_2.len
 refine .seq (.seq (.region (.m G G G (.m G G G (.e G G G G G ?_)))))
 refine .go idQ (.condI G bD (fun h13 => ?_) (fun h13 => ?_))
 ·
  refine .skipgo idQ (.seq (.block (.seq (.region (.a G G G (.go idQ (.block (.loop (X := Int × (List Int) × Value) (fun ⟨i, Z, u_Z⟩ => 0 ≤ i ∧ i ≤ n ∧ MF n Z (stg (fw f k.toNat) k i 0)) (fun ⟨i, Z, u_Z⟩ => [(2, .pointer (some ⟨b2, 0, none⟩)), (3, .int .i64 n), (4, .pointer (some ⟨b8, 0, none⟩)), (5, .int .i64 a), (6, .int .i64 k), (7, .int .i64 i)]) (fun ⟨i, Z, u_Z⟩ => [cel b8 [.int .i64 n, u_Z] 29, rw_ eZ 3 (u_Z) Z, cel b2 [.int .i64 0, .slice none 0 0] 29, cel b1 [.int .i64 n, .slice A l.length c] 29]) (fun _ => S) (fun _ => wf) (fun ⟨i, Z, u_Z⟩ => (n - i).toNat) (fun a_ w_ hs_ hw_ => ⟨⟨0, Y, u_Y⟩, (by (try dsimp only); exact ⟨oO, oO, (stg_0 r_2)⟩), hs_.mono (Sub.get (.c4 G G G G (.c G (.c G .n)))), hw_.keep (.d (.d .n))⟩) (fun ⟨i, Z, u_Z⟩ ⟨s_0, s_1, s_2⟩ => ?_)))))))))
  try dsimp only
  have hzl := s_2.len
  refine .seq (.seq (.region (.m G G G (.m G G G (.e G G G G G ?_)))))
  refine .go idQ (.condI G bD (fun h14 => ?_) (fun h14 => ?_))
  ·
   refine .skipgo idQ (.seq (.block (.seq (.region (.a G G G (.go idQ (.block (.loop (X := Int × (List Int) × Value) (fun ⟨j, V, u_V⟩ => 0 ≤ j ∧ j ≤ n ∧ MF n V (stg (fw f k.toNat) k i j)) (fun ⟨j, V, u_V⟩ => [(2, .pointer (some ⟨b2, 0, none⟩)), (3, .int .i64 n), (4, .pointer (some ⟨b8, 0, none⟩)), (5, .int .i64 a), (6, .int .i64 k), (7, .int .i64 i), (8, .int .i64 j)]) (fun ⟨j, V, u_V⟩ => [cel b8 [.int .i64 n, u_V] 29, rw_ eZ 3 (u_V) V, cel b2 [.int .i64 0, .slice none 0 0] 29, cel b1 [.int .i64 n, .slice A l.length c] 29]) (fun _ => S) (fun _ => wf) (fun ⟨j, V, u_V⟩ => (n - j).toNat) (fun a_ w_ hs_ hw_ => ⟨⟨0, Z, u_Z⟩, (by (try dsimp only); exact ⟨oO, oO, (by assumption)⟩), hs_.mono (Sub.get (.c4 G G G G (.c G (.c G (.c G .n))))), hw_.keep (.d (.d .n))⟩) (fun ⟨j, V, u_V⟩ ⟨u_0, u_1, u_2⟩ => ?_)))))))))
   try dsimp only
   have hvl := u_2.len
   refine .seq (.seq ?_)
   have hfb := hfb0 k.toNat oO
   refine .region (.m G G G (.m G G G (.e G G G G G ?_)))
   refine .go idQ (.condI G bD (fun h15 => ?_) (fun h15 => ?_))
   ·
    refine .skipgo idQ (.seq (.block (.seq ?_)))
    have hi1 := idx_rng (n := n) (a := i) (b := k) ⟨by omega, by omega⟩ ⟨by omega, by omega⟩
    have hi2 := idx_rng (n := n) (a := k) (b := j) ⟨by omega, by omega⟩ ⟨by omega, by omega⟩
    have hi3 := idx_rng (n := n) (a := i) (b := j) ⟨by omega, by omega⟩ ⟨by omega, by omega⟩
    have hga := stg_a u_2 hfb ⟨by omega, by omega⟩ ⟨by omega, by omega⟩
    have hgb := stg_b u_2 hfb ⟨by omega, by omega⟩ ⟨by omega, by omega⟩
    have hba := hfb.hi i k
    have hbb := hfb.hi k j
    have hbc := hfb.lo i k
    have hbd := hfb.lo k j
    refine .know (row_len 1 G) (fun hv18 => ?_)
    obtain ⟨A16, c17, rfl, hv18_1, hv18_2⟩ := hv18
    unfold maxLen at hv18_2
    refine SC.draw mo [] [] .n (fun _ _ _ => sc0) (fun wf_19 hl_19 hx_19 hR_19 => ?_)
    refine SR.z 0 G G (ev_fa G fo29_1 G (r := 1) G) ?_
    refine SR.z 1 G G (ev_ld1 G ty27 G (At.d (At.lent hR_19 0 G G))) ?_
    refine SR.m 2 G G G G ?_
    refine SR.m 3 G G G G ?_
    refine SR.z 4 G G (ev_mul G G G (r := (i * n)) G oO oO) ?_
    refine SR.m 5 G G G G ?_
    refine SR.z 6 G G (ev_add G G G (r := ((i * n) + k)) G oO oO) ?_
    refine SR.z 7 G G (ev_ix G underlying27 ty3 G G oO oO (fun _ _ => Fr.adr (i := ((i * n) + k)) (Fr.lent (S := S) hR_19 1 G lO) oO oO)) ?_
    refine SR.z 8 G G (ev_ld1 G ty3 G (At.elem1 (At.d (Fr.el (i := ((i * n) + k)) (Fr.lent (S := S) hR_19 1 G lO) oO oO)) 0 G)) ?_
    refine SR.z 9 G G (ev_fa G fo29_1 G (r := 1) G) ?_
    refine SR.z 10 G G (ev_ld1 G ty27 G (At.d (At.lent hR_19 0 G G))) ?_
    refine SR.m 11 G G G G ?_
    refine SR.m 12 G G G G ?_
    refine SR.z 13 G G (ev_mul G G G (r := (k * n)) G oO oO) ?_
    refine SR.m 14 G G G G ?_
    refine SR.z 15 G G (ev_add G G G (r := ((k * n) + j)) G oO oO) ?_
    refine SR.z 16 G G (ev_ix G underlying27 ty3 G G oO oO (fun _ _ => Fr.adr (i := ((k * n) + j)) (Fr.lent (S := S) hR_19 1 G lO) oO oO)) ?_
    refine SR.z 17 G G (ev_ld1 G ty3 G (At.elem1 (At.d (Fr.el (i := ((k * n) + j)) (Fr.lent (S := S) hR_19 1 G lO) oO oO)) 0 G)) ?_
    refine SR.z 18 G G (ev_fa G fo29_1 G (r := 1) G) ?_
    refine SR.z 19 G G (ev_ld1 G ty27 G (At.d (At.lent hR_19 0 G G))) ?_
    refine SR.m 20 G G G G ?_
    refine SR.m 21 G G G G ?_
    refine SR.z 22 G G (ev_mul G G G (r := (i * n)) G oO oO) ?_
    refine SR.m 23 G G G G ?_
    refine SR.z 24 G G (ev_add G G G (r := ((i * n) + j)) G oO oO) ?_
    refine SR.z 25 G G (ev_ix G underlying27 ty3 G G oO oO (fun _ _ => Fr.adr (i := ((i * n) + j)) (Fr.lent (S := S) hR_19 1 G lO) oO oO)) ?_
    refine SR.z 26 G G (ev_ld1 G ty3 G (At.elem1 (At.d (Fr.el (i := ((i * n) + j)) (Fr.lent (S := S) hR_19 1 G lO) oO oO)) 0 G)) ?_
    refine SR.z 27 G G (ev_as G G) ?_
    refine SR.z 28 G G (ev_as G G) ?_
    refine SR.z 29 G G (ev_as G G) ?_
    refine SR.fin kR hl_19 hx_19 hR_19 .n ?_
    refine SQ.go idQ ?_
    refine .seq (.region (.m G G G (.e G G G G G (.m G G G ?_))))
    refine .w (fun _ => ev_mv G G) G (.w (fun hb => ev_cmp G (lkg G hb) G G) G (.v (ev_and G G G G) G (.m G G G ?_)))
    refine .w (fun _ => ev_mv G G) G (.w (fun hb => ev_cmp G (lkg G hb) G G) G (.w (fun hb => ev_mv G (lkg G hb)) G (.cons (Ev.ggstep (b1 := ((decide ((gt V ((i * n) + k)) ≥ 0)) && (decide ((gt V ((k * n) + j)) ≥ 0)))) (b := (decide ((gt V ((i * n) + j)) < 0))) cb_tf (fun hb1 _ => ev_mv G G) G G G G G ?_))))
    refine .cons (Ev.ggstep (b1 := ((decide ((gt V ((i * n) + k)) ≥ 0)) && (decide ((gt V ((k * n) + j)) ≥ 0)))) (b := (decide ((gt V ((i * n) + j)) < 0))) cb_tf (fun hb1 _ => ev_mv G G) G G G G G ?_)
    refine .cons (Ev.ggstep (b1 := ((decide ((gt V ((i * n) + k)) ≥ 0)) && (decide ((gt V ((k * n) + j)) ≥ 0)))) (b := (decide ((gt V ((i * n) + j)) < 0))) cb_tf (fun hb1 hb => have hp := bT (bA (bA bD bD) (bN bD)) hb; ev_add G (lkg G hb) (lkg G hb) (r := ((gt V ((i * n) + k)) + (gt V ((k * n) + j)))) G (by have _h := hp; omega) (by have _h := hp; omega)) G G G G G ?_)
    refine .cons (Ev.ggstep (b1 := ((decide ((gt V ((i * n) + k)) ≥ 0)) && (decide ((gt V ((k * n) + j)) ≥ 0)))) (b := (decide ((gt V ((i * n) + j)) < 0))) cb_tf (fun hb1 _ => ev_mv G G) G G G G G ?_)
    refine .cons (Ev.ggstep (b1 := ((decide ((gt V ((i * n) + k)) ≥ 0)) && (decide ((gt V ((k * n) + j)) ≥ 0)))) (b := (decide ((gt V ((i * n) + j)) < 0))) cb_tf (fun hb1 hb => ev_cmp G (lkg G hb) (lkg G hb) G) G G G G G ?_)
    refine .w (fun hb => ev_or G (lkg G hb) G (lkgn G cb_tf hb)) G (.v (ev_and G G G G) G (.go idQ (.condI G (bA (bA bD bD) (bO bD bD)) (fun h20 => ?_) (fun h20 => ?_))))
    ·
     refine .region (.f fo29_1 1 G G G G (.l ty27 0 G G G G G (.m G G G ?_)))
     refine .m G G G (.v (ev_mul G G G (r := (i * n)) G oO oO) G (.m G G G (.p (((i * n) + j)) oO oO G G G G G ?_)))
     refine .m G G G (.m G G G (.v (ev_add G G G (r := ((gt V ((i * n) + k)) + (gt V ((k * n) + j)))) G oO oO) G (.v (ev_ix G underlying27 ty3 G G oO oO (row_adr (i := ((i * n) + j)) 1 G oO oO)) G ?_)))
     refine .cons (st_setel (E := eZ) (i := ((i * n) + j)) (cs := [.int .i64 ((gt V ((i * n) + k)) + (gt V ((k * n) + j)))]) (off := 0) ((gt V ((i * n) + k)) + (gt V ((k * n) + j))) G G G ty3 G G G G G (.t .h) lO lO (Nat.le_of_ble_eq_true G) G ?_)
     refine .go idQ (.region (.m G G G (.p ((j + 1)) oO oO G G G G G (.a G G G ?_))))
     exact SP.nil (SQ.roundb (X := Int × (List Int) × Value) (x := (j, V, (.slice A16 V.length c17))) ⟨(j + 1), (V.set (((i * n) + j)).toNat ((gt V ((i * n) + k)) + (gt V ((k * n) + j)))), .slice A16 V.length c17⟩ (by (try dsimp only); exact ⟨oO, oO, (stg_yes u_2 hfb ⟨by omega, by omega⟩ ⟨by omega, by omega⟩ ⟨by omega, by omega⟩ h20)⟩) dO (Sub.get (.c4 G G G G (.c G (.c G (.c G .n))))) (kp (.c (.t .h) (.d (.c .h .n)))))
    refine .skipgo idQ (.region (.m G G G (.p ((j + 1)) oO oO G G G G G (.a G G G ?_))))
    exact SP.nil (SQ.roundb (X := Int × (List Int) × Value) (x := (j, V, (.slice A16 V.length c17))) ⟨(j + 1), V, .slice A16 V.length c17⟩ (by (try dsimp only); exact ⟨oO, oO, (stg_no u_2 hfb ⟨by omega, by omega⟩ ⟨by omega, by omega⟩ ⟨by omega, by omega⟩ h20)⟩) dO (Sub.get (.c4 G G G G (.c G (.c G (.c G .n))))) (kp (.d (.d .n))))
   refine .exit idQ ?_
   refine .region (.m G G G (.p ((i + 1)) oO oO G G G G G (.a G G G ?_)))
   exact SP.nil (SQ.roundb (X := Int × (List Int) × Value) (x := (i, Z, u_Z)) ⟨(i + 1), V, u_V⟩ (by (try dsimp only); exact ⟨oO, oO, (stg_row u_2 oO)⟩) dO (Sub.get (.c4 G G G G (.c G (.c G .n)))) (kp (.d (.d .n))))
  refine .exit idQ ?_
  refine .region (.m G G G (.p ((k + 1)) oO oO G G G G G (.a G G G ?_)))
  exact SP.nil (SQ.roundb (X := Int × (List Int) × Value) (x := (k, Y, u_Y)) ⟨(k + 1), Z, u_Z⟩ (by (try dsimp only); exact ⟨oO, oO, (fw_next s_2 oO oO)⟩) dO (Sub.get (.c4 G G G G (.c G .n))) (kp (.d (.d .n))))
 refine .exit idQ ?_
 refine .seq (.region (.d 0 ty29 G G G G (.know (row_len 1 G) (fun hv23 => ?_))))
 obtain ⟨A21, c22, rfl, hv23_1, hv23_2⟩ := hv23
 unfold maxLen at hv23_2
 refine .cons (st_storea (l' := [.int .i64 n, .slice A21 Y.length c22]) G G G ty29 G G G (.t2 .h) G G ?_)
 refine .go idQ (.ret idQ (retv1 results19 (.c 0 G G ty29) (.c (.t2 .h) .n) ⟨.slice A21 Y.length c22, Y, (by rw [show n = k from by omega]; rw [show n = k from by omega] at r_2; exact r_2), G, G⟩))
end Go.Proofs.Ytpjblnmophcdmaa.Sx
set_option maxRecDepth 20000
set_option maxHeartbeats 8000000
set_option maxRecDepth 20000
set_option maxHeartbeats 8000000
set_option maxRecDepth 20000
set_option maxHeartbeats 8000000
set_option maxRecDepth 20000
set_option maxHeartbeats 8000000
set_option maxRecDepth 20000
set_option maxHeartbeats 8000000
set_option maxRecDepth 20000
set_option maxHeartbeats 8000000
namespace Go.Proofs.Ytpjblnmophcdmaa.Sx.FLF
open Go Go.SX Go.Proofs Go.Proofs.Try FA FB FC FD FE FF FG FH FI FJ FK FL FM FN FO FP FQ FR FS FCA FCB FCC FCD FCE FCF FCH
theorem hbd9 : hasBody prog 9 = true := by kernel_rfl
theorem hbd16 : hasBody prog 16 = true := by kernel_rfl
end Go.Proofs.Ytpjblnmophcdmaa.Sx.FLF
namespace Go.Proofs.Ytpjblnmophcdmaa.Sx
open Go Go.SX Go.Proofs Go.Proofs.Try FA FB FC FD FE FF FG FH FI FJ FK FL FM FN FO FP FQ FR FS FCA FCB FCC FCD FCE FCF FCH FLF
theorem climbReachesUInF (n : Int) (A : Option Addr) (c : Nat) (l : List AR) (p : Int) (S : Nat → Prop) (wf : World) (hA : Fr eAR S wf A l) (hR : RoadOk n l) (hp : 0 ≤ p ∧ p < n) :
  TR0 prog 5 [.agg #[.int .i64 n, .slice A l.length c], .int .i64 p, .bool true] [] S wf (fun v_ C_ => v_ = .bool true ∧ C_ = []) := by
 have hla := hA.len
 have hlen := hR.len
 have hnp := hR.pl
 have hto := tab_ok (d := false) hR
 have htl := hto.len
 have hsq := sq_le hnp
 refine TR.mk func5 G ntmps5 G G (fun w_ => ?_)
 refine .seq (.region (.cons (st_boxa G G G G G (fun b1 => (.a G G G (.go idQ (.seq (.seq (.region ?_)))))))))
 refine .cons (st_callk G G G G hbd9 G .n (awake8_ _ _) ?_)
 refine .v (ev_not G G) G (.go idQ (.cond_f G (.skipgo idQ (.seq (.region ?_)))))
 refine .d 0 ty24 G G G G (.cons (st_call0 G G G G hbd10 G .n (graphF n A c l _ _ hA hR) (fun v_q10 C_q10 q10 => ?_)))
 obtain ⟨b2, u3, v4, fi5, ed6, x7, y8, W9, p11, p12, p13, rfl, rfl⟩ := q10
 show SP _ _ _ _ _ _ ⟨_, _ :: _ :: _ :: _ :: _ :: _, _, _⟩
 have hgl := p11.len
 have hgn := p11.ne
 refine .m G G G (.x G G G G (.x G G G G (.x G G G G ?_)))
 refine .x G G G G (.cons (st_alloc G G G G zf29 (fun b14 => (.cons (st_alloc G G G G zf29 (fun b15 => (.a G G G ?_)))))))
 refine .know (row_len 5 G) (fun hv18 => ?_)
 obtain ⟨A16, c17, rfl, hv18_1, hv18_2⟩ := hv18
 unfold maxLen at hv18_2
 refine .cons (st_storea (l' := [.int .i64 n, .slice A16 ((tabF n false l).length) c17]) G G G ty29 G G G (.t .h) G G ?_)
 refine .know (row_len 6 G) (fun hv21 => ?_)
 obtain ⟨A19, c20, rfl, hv21_1, hv21_2⟩ := hv21
 unfold maxLen at hv21_2
 refine .cons (st_storea (l' := [.int .i64 n, .slice A19 W9.length c20]) G G G ty29 G G G (.t .h) G G ?_)
 refine .a G G G (.go idQ (.seq (.seq (.region (.m G G G (.v (ev_not G G) G ?_))))))
 refine .go idQ (.cond_f G (.skipgo idQ (.seq (.region (.m G G G ?_)))))
 refine .know (row_len 3 G) (fun hv24 => ?_)
 obtain ⟨A22, c23, rfl, hv24_1, hv24_2⟩ := hv24
 unfold maxLen at hv24_2
 refine .know (row_len 4 G) (fun hv27 => ?_)
 obtain ⟨A25, c26, rfl, hv27_1, hv27_2⟩ := hv27
 unfold maxLen at hv27_2
 refine .cons (st_lend0 G G G G hbd11 G (.c (.t2 .h) .n) (.c (.t2 .h) (.c (.t2 .h) .n)) (fun w_ hw => build_ n (tabF n false l) b2 A22 c23 fi5 A25 c26 ed6 _ _ (Fr.lend hw 0 G lO) (Fr.lend hw 1 G lO) hto p11 lO) (fun v_q37 C_q37 q37 => ?_))
 obtain ⟨lb28, v129, v230, v331, v432, R33, K34, U35, D36, p38, rfl, rfl⟩ := q37
 show SP _ _ _ _ _ _ ⟨_, _ :: _ :: _ :: _ :: _ :: _ :: _ :: _ :: _ :: _ :: _, _, _⟩
 have hC := lc hto p11 p38
 have hWk := ways_k hto p11 p38
 have hRn := hC.hR
 refine .a G G G (.go idQ (.seq (.know (row_len 2 G) (fun hv41 => ?_))))
 obtain ⟨A39, c40, rfl, hv41_1, hv41_2⟩ := hv41
 unfold maxLen at hv41_2
 refine .know (row_len 3 G) (fun hv44 => ?_)
 obtain ⟨A42, c43, rfl, hv44_1, hv44_2⟩ := hv44
 unfold maxLen at hv44_2
 refine .know (row_len 4 G) (fun hv47 => ?_)
 obtain ⟨A45, c46, rfl, hv47_1, hv47_2⟩ := hv47
 unfold maxLen at hv47_2
 refine .know (row_len 5 G) (fun hv50 => ?_)
 obtain ⟨A48, c49, rfl, hv50_1, hv50_2⟩ := hv50
 unfold maxLen at hv50_2
 refine .region (.m G G G (.m G G G (.m G G G ?_)))
 refine .cons (st_call0 G G G G hbd16 G (.c (.t .h) (.c (.t .h) (.c (.t .h) (.c (.t .h) (.c (.t .h) (.c (.t .h) (.c (.t .h) .n))))))) (reachU lb28 A39 c40 R33 A42 c43 K34 A45 c46 U35 A48 c49 D36 n (tabF n false l) p _ _ hC hp) (fun v_q55 C_q55 q55 => ?_))
 obtain ⟨u51, v52, P53, W54, p56, p57, rfl, rfl⟩ := q55
 show SP _ _ _ _ _ _ ⟨_, _ :: _ :: _ :: _ :: _ :: _ :: _ :: _ :: _ :: _, _, _⟩
 have hrl := rch_len (f := (fU n R33 K34 U35 p)) n.toNat
 have hpl : (P53.length : Int) ≤ n := by rw [p56]; omega
 have hwl2 : W54.length = P53.length := by rw [p56, p57]; exact hrl.2
 refine .m G G G (.x G G G G (.x G G G G (.a G G G ?_)))
 refine .a G G G (.go idQ (.seq (.seq (.region (.m G G G (.e G G G G G ?_))))))
 refine .m G G G (.w (fun _ => ev_mv G G) G (.w (fun _ => ev_fa G fo29_0 G (r := 0) G) G (.w (fun hb => ev_ld1 G ty3 (lkg G hb) (At.own1 12 G G)) G ?_)))
 refine .w (fun hb => ev_cmp G (lkg G hb) (lkg G hb) G) G (.r G G G G G (.go idQ (.condI G (bO bD bD) (fun h58 => ?_) (fun h58 => ?_))))
 ·
  exfalso; omega
 refine .skipgo idQ (.seq (.region (.f fo29_0 0 G G G G (.l ty3 12 G G G G G (.v (ev_any (v := .agg #[.int .i64 n, .slice none 0 0]) G kR (fun _ => by kernel_rfl)) G ?_)))))
 refine .cons (st_alloc G G G G zf29 (fun b59 => ?_))
 refine .cons (st_storea (l' := [.int .i64 n, .slice none 0 0]) G G G ty29 G G G .h G G ?_)
 refine .go idQ (.seq (.seq (.region (.a G G G (.go idQ (.block ?_))))))
 refine SC.nilrow eZ 3 ?_
 refine .loop (X := Int × (List Int) × Value) (fun ⟨k, X, u_X⟩ => 0 ≤ k ∧ k ≤ (n * n) ∧ X = List.replicate k.toNat (-1 : Int)) (fun ⟨k, X, u_X⟩ => [(1, .int .i64 p), (2, .bool true), (6, .bool false), (9, .pointer (some ⟨b15, 0, none⟩)), (11, .pointer (some ⟨lb28, 0, none⟩)), (12, u51), (13, v52), (14, .pointer (some ⟨b59, 0, none⟩)), (15, .int .i64 k)]) (fun ⟨k, X, u_X⟩ => [rw_ eZ 3 (u_X) X, cel b59 [.int .i64 n, u_X] 29, cel lb28 [.slice A39 R33.length c40, .slice A42 K34.length c43, .slice A45 U35.length c46, .slice A48 D36.length c49] 76, rw_ eZ 3 (.slice A39 R33.length c40) R33, rw_ eLK 44 (.slice A42 K34.length c43) K34, rw_ eIL 27 (.slice A45 U35.length c46) U35, rw_ eIL 27 (.slice A48 D36.length c49) D36, nestIL 3 U35, nestIL 3 D36, rw_ eZ 3 (u51) P53, rw_ eZ 3 (v52) W54, cel b2 [.slice A22 fi5.length c23, .slice A25 ed6.length c26] 106, rw_ eZ 3 (.slice A22 fi5.length c23) fi5, rw_ eEG 72 (.slice A25 ed6.length c26) ed6, cel b15 [.int .i64 n, .slice A19 W9.length c20] 29, cel b14 [.int .i64 n, .slice A16 ((tabF n false l).length) c17] 29, rw_ eZ 3 (.slice A16 ((tabF n false l).length) c17) (tabF n false l), rw_ eZ 3 (.slice A19 W9.length c20) W9, cel b1 [.int .i64 n, .slice A l.length c] 24]) (fun _ => S) (fun _ => wf) (fun ⟨k, X, u_X⟩ => ((n * n) - k).toNat) (fun a_ w_ hs_ hw_ => ⟨⟨0, ([] : List Int), .slice none 0 0⟩, (by (try dsimp only); exact ⟨oO, oO, (by rfl)⟩), hs_.mono (Sub.get (.c4 G G G G (.c4 G G G G (.c G .n)))), hw_.keep (.d (.d (.d (.d (.d (.d (.d (.d (.d (.c .h .n))))))))))⟩) (fun ⟨k, X, u_X⟩ ⟨q_0, q_1, q_2⟩ => ?_)
 try dsimp only
 have hxl : X.length = k.toNat := by rw [q_2, List.length_replicate]
 refine .seq (.seq (.region (.m G G G (.f fo29_0 0 G G G G (.l ty3 14 G G G G G ?_)))))
 refine .f fo29_0 0 G G G G (.l ty3 14 G G G G G (.v (ev_mul G G G (r := (n * n)) G oO oO) G (.e G G G G G ?_)))
 refine .go idQ (.condI G bD (fun h60 => ?_) (fun h60 => ?_))
 ·
  refine .skipgo idQ (.seq (.block (.region (.f fo29_1 1 G G G G (.l ty27 1 G G G G G (.cons (st_lit eZ (e := 3) (l := [(-1)]) G G G G kR G G kW (fun b61 => ?_))))))))
  refine .cons (st_app (E := eZ) (m := [(-1)]) G G G G underlying27 ai3 G G G (.t .h) rO (row_src 0 G) lO G (fun v62 => ?_))
  refine .f fo29_1 1 G G G G (.know (row_len 0 G) (fun hv65 => ?_))
  obtain ⟨A63, c64, rfl, hv65_1, hv65_2⟩ := hv65
  unfold maxLen at hv65_2
  refine .cons (st_store1 G G G ty27 G G G (.t2 .h) (.t .h) ?_)
  refine .go idQ (.region (.m G G G (.p ((k + 1)) oO oO G G G G G (.a G G G ?_))))
  exact SP.nil (SQ.roundb (X := Int × (List Int) × Value) (x := (k, X, u_X)) ⟨(k + 1), (X ++ [(-1)]), .slice A63 ((X ++ [(-1)]).length) c64⟩ (by (try dsimp only); exact ⟨oO, oO, (by rw [q_2]; exact (rep_snoc q_0).symm)⟩) dO (Sub.get (.c4 G G G G (.c4 G G G G (.c G .n)))) (kp (.c (.t .h) (.c .h (.c (.t .h) (.c (.t .h) (.c (.t .h) (.c (.t .h) (.c (.t .h) (.c (.t .h) (.c (.t .h) (.c (.t .h) (.c (.t .h) (.c (.t .h) (.c (.t .h) (.c (.t .h) (.c (.t .h) (.c (.t .h) (.c (.t .h) (.c (.t .h) (.c (.t .h) .n)))))))))))))))))))))
 refine .exit idQ ?_
 refine .seq (.seq (.know (row_len 0 G) (fun hv68 => ?_)))
 obtain ⟨A66, c67, rfl, hv68_1, hv68_2⟩ := hv68
 unfold maxLen at hv68_2
 obtain rfl : k = n * n := by omega
 refine .region (.a G G G (.go idQ (.block (.loop (X := Int × (List Int) × Value) (fun ⟨q, Y, u_Y⟩ => 0 ≤ q ∧ q ≤ n ∧ Y = (allP R33 K34 U35 q.toNat).foldl (minSt n) (List.replicate (n * n).toNat (-1 : Int)) ∧ Y.length = (n * n).toNat) (fun ⟨q, Y, u_Y⟩ => [(1, .int .i64 p), (2, .bool true), (6, .bool false), (9, .pointer (some ⟨b15, 0, none⟩)), (11, .pointer (some ⟨lb28, 0, none⟩)), (12, u51), (13, v52), (14, .pointer (some ⟨b59, 0, none⟩)), (15, .int .i64 (n * n)), (16, .int .i64 q)]) (fun ⟨q, Y, u_Y⟩ => [rw_ eZ 3 (u_Y) Y, cel b59 [.int .i64 n, u_Y] 29, cel lb28 [.slice A39 R33.length c40, .slice A42 K34.length c43, .slice A45 U35.length c46, .slice A48 D36.length c49] 76, rw_ eZ 3 (.slice A39 R33.length c40) R33, rw_ eLK 44 (.slice A42 K34.length c43) K34, rw_ eIL 27 (.slice A45 U35.length c46) U35, rw_ eIL 27 (.slice A48 D36.length c49) D36, nestIL 3 U35, nestIL 3 D36, rw_ eZ 3 (u51) P53, rw_ eZ 3 (v52) W54, cel b2 [.slice A22 fi5.length c23, .slice A25 ed6.length c26] 106, rw_ eZ 3 (.slice A22 fi5.length c23) fi5, rw_ eEG 72 (.slice A25 ed6.length c26) ed6, cel b15 [.int .i64 n, .slice A19 W9.length c20] 29, cel b14 [.int .i64 n, .slice A16 ((tabF n false l).length) c17] 29, rw_ eZ 3 (.slice A16 ((tabF n false l).length) c17) (tabF n false l), rw_ eZ 3 (.slice A19 W9.length c20) W9, cel b1 [.int .i64 n, .slice A l.length c] 24]) (fun _ => S) (fun _ => wf) (fun ⟨q, Y, u_Y⟩ => (n - q).toNat) (fun a_ w_ hs_ hw_ => ⟨⟨0, X, .slice A66 X.length c67⟩, (by (try dsimp only); exact ⟨oO, oO, (by exact q_2), oO⟩), hs_.mono (Sub.get (.c4 G G G G (.c4 G G G G (.c G (.c G .n))))), hw_.keep (.d (.d (.d (.d (.d (.d (.d (.d (.d (.c .h .n))))))))))⟩) (fun ⟨q, Y, u_Y⟩ ⟨r_0, r_1, r_2, r_3⟩ => ?_)))))
 try dsimp only
 refine .seq (.seq (.region (.m G G G (.f fo29_0 0 G G G G (.l ty3 14 G G G G G ?_)))))
 refine .e G G G G G (.go idQ (.condI G bD (fun h69 => ?_) (fun h69 => ?_)))
 ·
  refine .skipgo idQ (.seq (.block (.seq (.region (.m G G G (.m G G G (.cons (st_call0 G G G G hbd17 G (.c (.t2 .h) (.c (.t2 .h) (.c (.t2 .h) (.c (.t2 .h) (.c (.t2 .h) (.c (.t2 .h) (.c (.t2 .h) .n))))))) (lup_ lb28 A39 c40 R33 A42 c43 K34 A45 c46 U35 A48 c49 D36 q _ _ hC.hL) (fun v_q71 C_q71 q71 => ?_)))))))))
  obtain ⟨u70, rfl, rfl⟩ := q71
  show SP _ _ _ _ _ _ ⟨_, _ :: _ :: _ :: _ :: _ :: _ :: _ :: _ :: _, _, _⟩
  refine .a G G G (.go idQ (.seq (.seq (.region (.m G G G (.v (ev_not G G) G ?_))))))
  refine .go idQ (.cond_f G (.skipgo idQ (.seq ?_)))
  have hpu := pk_len hC.hL q
  refine .region (.m G G G (.know (row_len 7 G) (fun hv74 => ?_)))
  obtain ⟨A72, c73, rfl, hv74_1, hv74_2⟩ := hv74
  unfold maxLen at hv74_2
  refine .g underlying41 G G G (.m G G G (.go idQ (.block (.loop (X := Int × (List Int) × Value) (fun ⟨i, Z, u_Z⟩ => 0 ≤ i ∧ i ≤ ((pkL R33 K34 U35 q).length : Int) ∧ Z = ((allP R33 K34 U35 q.toNat) ++ (pkL R33 K34 U35 q).take i.toNat).foldl (minSt n) (List.replicate (n * n).toNat (-1 : Int)) ∧ Z.length = (n * n).toNat) (fun ⟨i, Z, u_Z⟩ => [(1, .int .i64 p), (2, .bool true), (6, .bool false), (9, .pointer (some ⟨b15, 0, none⟩)), (11, .pointer (some ⟨lb28, 0, none⟩)), (12, u51), (13, v52), (14, .pointer (some ⟨b59, 0, none⟩)), (15, .int .i64 (n * n)), (16, .int .i64 q), (91, .slice A72 ((pkL R33 K34 U35 q).length) c73), (92, .int .i64 (((pkL R33 K34 U35 q).length : Nat) : Int)), (93, .int .i64 i)]) (fun ⟨i, Z, u_Z⟩ => [cel lb28 [.slice A39 R33.length c40, .slice A42 K34.length c43, .slice A45 U35.length c46, .slice A48 D36.length c49] 76, rw_ eZ 3 (.slice A39 R33.length c40) R33, rw_ eLK 44 (.slice A42 K34.length c43) K34, rw_ eIL 27 (.slice A45 U35.length c46) U35, rw_ eIL 27 (.slice A48 D36.length c49) D36, nestIL 3 U35, nestIL 3 D36, rw_ eLK 44 (.slice A72 ((pkL R33 K34 U35 q).length) c73) (pkL R33 K34 U35 q), rw_ eZ 3 (u_Z) Z, cel b59 [.int .i64 n, u_Z] 29, rw_ eZ 3 (u51) P53, rw_ eZ 3 (v52) W54, cel b2 [.slice A22 fi5.length c23, .slice A25 ed6.length c26] 106, rw_ eZ 3 (.slice A22 fi5.length c23) fi5, rw_ eEG 72 (.slice A25 ed6.length c26) ed6, cel b15 [.int .i64 n, .slice A19 W9.length c20] 29, cel b14 [.int .i64 n, .slice A16 ((tabF n false l).length) c17] 29, rw_ eZ 3 (.slice A16 ((tabF n false l).length) c17) (tabF n false l), rw_ eZ 3 (.slice A19 W9.length c20) W9, cel b1 [.int .i64 n, .slice A l.length c] 24]) (fun _ => S) (fun _ => wf) (fun ⟨i, Z, u_Z⟩ => (((pkL R33 K34 U35 q).length : Int) - i).toNat) (fun a_ w_ hs_ hw_ => ⟨⟨0, Y, u_Y⟩, (by (try dsimp only); exact ⟨oO, oO, (ls2_0 r_2), oO⟩), hs_.mono (Sub.get (.c4 G G G G (.c4 G G G G (.c4 G G G G (.c G .n))))), hw_.keep (.d (.d (.d (.d (.d (.d (.d (.d (.d (.d .n))))))))))⟩) (fun ⟨i, Z, u_Z⟩ ⟨s_0, s_1, s_2, s_3⟩ => ?_)))))
  try dsimp only
  refine .seq (.region (.e G G G G G (.go idQ (.seq (.condI G bD (fun h75 => ?_) (fun h75 => ?_))))))
  ·
   refine .skipgo idQ (.seq (.block (.seq (.region (.v (ev_ix G underlying41 ty44 G G oO oO (row_adr (i := i) 7 G oO lO)) G (.v (ev_lda G G (row_el (E := eLK) (l := (pkL R33 K34 U35 q)) (i := i) 7 G oO lO) ty44) G (.cons (st_alloc G G G G zf44 (fun b76 => ?_)))))))))
   refine .cons (st_storea (l' := [.int .i64 ((gt (pkL R33 K34 U35 q) i).lf), .int .i64 ((gt (pkL R33 K34 U35 q) i).lt), .int .i64 ((gt (pkL R33 K34 U35 q) i).lw), .int .i64 ((gt (pkL R33 K34 U35 q) i).lm)]) G G G ty44 G G G .h G G ?_)
   refine .go idQ (.seq ?_)
   have hxr := hWk.lu q oO oO _ (gtM (l := (pkL R33 K34 U35 q)) (i := i) oO oO)
   unfold lkOk at hxr
   have hix := idx_rng (n := n) (a := (gt (pkL R33 K34 U35 q) i).lf) (b := (gt (pkL R33 K34 U35 q) i).lt) ⟨by omega, by omega⟩ ⟨by omega, by omega⟩
   refine .region (.f fo29_1 1 G G G G (.l ty27 10 G G G G G (.f fo44_0 0 G G G G ?_)))
   refine .l ty3 0 G G G G G (.f fo29_0 0 G G G G (.l ty3 16 G G G G G (.v (ev_mul G G G (r := (((gt (pkL R33 K34 U35 q) i).lf) * n)) G oO oO) G ?_)))
   refine .f fo44_1 1 G G G G (.l ty3 0 G G G G G (.v (ev_add G G G (r := ((((gt (pkL R33 K34 U35 q) i).lf) * n) + ((gt (pkL R33 K34 U35 q) i).lt))) G oO oO) G (.know (row_len 9 G) (fun hv79 => ?_))))
   obtain ⟨A77, c78, rfl, hv79_1, hv79_2⟩ := hv79
   unfold maxLen at hv79_2
   refine .v (ev_ix G underlying27 ty3 G G oO oO (row_adr (i := ((((gt (pkL R33 K34 U35 q) i).lf) * n) + ((gt (pkL R33 K34 U35 q) i).lt))) 9 G oO oO)) G (.a G G G (.go idQ (.seq ?_)))
   refine SC.draw mo [] [] .n (fun _ _ _ => sc0) (fun wf_80 hl_80 hx_80 hR_80 => ?_)
   refine SR.m 0 G G G G ?_
   refine SR.z 1 G G (ev_nil G G) ?_
   refine SR.z 2 G G (ev_ld1 G ty3 G (At.elem1 (At.d (Fr.el (i := ((((gt (pkL R33 K34 U35 q) i).lf) * n) + ((gt (pkL R33 K34 U35 q) i).lt))) (Fr.lent (S := S) hR_80 9 G lO) oO oO)) 0 G)) ?_
   refine SR.z 3 G G (ev_cmp G G G G) ?_
   refine SR.m 4 G G G G ?_
   refine SR.y 5 G G (fun _ => ev_fa G fo44_2 G (r := 2) G) ?_
   refine SR.y 6 G G (fun hb => ev_ld1 G ty3 (lkg G hb) (At.d (At.lent hR_80 0 G G))) ?_
   refine SR.y 7 G G (fun _ => ev_mv G G) ?_
   refine SR.y 8 G G (fun hb => ev_nil G (lkg G hb)) ?_
   refine SR.y 9 G G (fun hb => have hp := bF bD hb; ev_ld1 G ty3 (lkg G hb) (At.elem1 (At.d (Fr.el (i := ((((gt (pkL R33 K34 U35 q) i).lf) * n) + ((gt (pkL R33 K34 U35 q) i).lt))) (Fr.lent (S := S) hR_80 9 G lO) (by have _h := hp; omega) (by have _h := hp; omega))) 0 G)) ?_
   refine SR.y 10 G G (fun hb => ev_cmp G (lkg G hb) (lkg G hb) G) ?_
   refine SR.z 11 G G (ev_or G G G G) ?_
   refine SR.fin kR hl_80 hx_80 hR_80 .n ?_
   refine SQ.go idQ ?_
   refine .condI G (bO bD bD) (fun h81 => ?_) (fun h81 => ?_)
   ·
    refine .region (.m G G G (.f fo44_2 2 G G G G (.l ty3 0 G G G G G ?_)))
    refine .v (ev_nil G G) G (.cons (st_setel (E := eZ) (i := ((((gt (pkL R33 K34 U35 q) i).lf) * n) + ((gt (pkL R33 K34 U35 q) i).lt))) (cs := [.int .i64 ((gt (pkL R33 K34 U35 q) i).lw)]) (off := 0) ((gt (pkL R33 K34 U35 q) i).lw) G G G ty3 G G G G G (.t4 (.t4 (.t .h))) lO lO (Nat.le_of_ble_eq_true G) G (.go idQ (.region (.p ((i + 1)) oO oO G G G G G ?_)))))
    refine .m G G G ?_
    exact SP.nil (SQ.roundb (X := Int × (List Int) × Value) (x := (i, Z, (.slice A77 Z.length c78))) ⟨(i + 1), (Z.set (((((gt (pkL R33 K34 U35 q) i).lf) * n) + ((gt (pkL R33 K34 U35 q) i).lt))).toNat ((gt (pkL R33 K34 U35 q) i).lw)), .slice A77 Z.length c78⟩ (by (try dsimp only); exact ⟨oO, oO, (ls2_yes s_2 oO oO h81), (by (try rw [List.length_set]); exact s_3)⟩) dO (Sub.get (.c4 G G G G (.c4 G G G G (.c4 G G G G (.c G .n))))) (kp (.c (.t2 .h) (.c (.t2 .h) (.c (.t2 .h) (.c (.t2 .h) (.c (.t2 .h) (.c (.t2 .h) (.c (.t2 .h) (.c (.t2 .h) (.c .h (.c (.t .h) (.c (.t .h) (.c (.t .h) (.c (.t .h) (.c (.t .h) (.c (.t .h) (.c (.t .h) (.c (.t .h) (.c (.t .h) (.c (.t .h) (.c (.t .h) .n))))))))))))))))))))))
   refine .skipgo idQ (.region (.p ((i + 1)) oO oO G G G G G (.m G G G ?_)))
   exact SP.nil (SQ.roundb (X := Int × (List Int) × Value) (x := (i, Z, (.slice A77 Z.length c78))) ⟨(i + 1), Z, .slice A77 Z.length c78⟩ (by (try dsimp only); exact ⟨oO, oO, (ls2_no s_2 oO oO h81), (by (try rw [List.length_set]); exact s_3)⟩) dO (Sub.get (.c4 G G G G (.c4 G G G G (.c4 G G G G (.c G .n))))) (kp (.c (.t .h) (.c (.t .h) (.c (.t .h) (.c (.t .h) (.c (.t .h) (.c (.t .h) (.c (.t .h) (.c (.t .h) (.c (.t .h) (.c (.t .h) (.c (.t .h) (.c (.t .h) (.c (.t .h) (.c (.t .h) (.c (.t .h) (.c (.t .h) (.c (.t .h) (.c (.t .h) (.c (.t .h) (.c (.t .h) .n))))))))))))))))))))))
  refine .exit idQ ?_
  refine .region (.m G G G (.p ((q + 1)) oO oO G G G G G (.a G G G ?_)))
  exact SP.nil (SQ.roundb (X := Int × (List Int) × Value) (x := (q, Y, u_Y)) ⟨(q + 1), Z, u_Z⟩ (by (try dsimp only); exact ⟨oO, oO, (ls2_end s_2 oO r_0), (by exact s_3)⟩) dO (Sub.get (.c4 G G G G (.c4 G G G G (.c G (.c G .n))))) (kp (.c (.t4 (.t4 .h)) (.c (.t4 (.t4 .h)) (.d (.d (.d (.c .h (.c (.t .h) (.c (.t .h) (.c (.t .h) (.c (.t .h) (.c (.t .h) (.c (.t .h) (.c (.t .h) (.c (.t .h) (.c (.t .h) (.c (.t .h) .n))))))))))))))))))
 refine .exit idQ ?_
 refine .seq ?_
 have hYT : Y = (upT n R33 K34 U35) := by rw [r_2, show q = n from by omega]; rfl
 have hfb1 := hWk.fu
 rw [← hYT] at hfb1
 refine .region (.d 1 ty29 G G G G (.know (row_len 0 G) (fun hv84 => ?_)))
 obtain ⟨A82, c83, rfl, hv84_1, hv84_2⟩ := hv84
 unfold maxLen at hv84_2
 refine .cons (st_lend0 G G G G hbd19 G .n (.c .h .n) (fun w_ hw => least2_ n A82 c83 Y (clipF n Y) _ _ (Fr.lend hw 0 G lO) hnp (clip_mf oO) hfb1) (fun v_q87 C_q87 q87 => ?_))
 obtain ⟨u85, W86, p88, rfl, rfl⟩ := q87
 show SP _ _ _ _ _ _ ⟨_, _ :: _ :: _, _, _⟩
 refine .know (row_len 0 G) (fun hv91 => ?_)
 obtain ⟨A89, c90, rfl, hv91_1, hv91_2⟩ := hv91
 unfold maxLen at hv91_2
 refine .cons (st_storea (l' := [.int .i64 n, .slice A89 W86.length c90]) G G G ty29 G G G (.t2 .h) G G ?_)
 refine .go idQ (.seq ?_)
 have hM2 : MF n W86 (fU n R33 K34 U35) := by have h_ := p88; rw [hYT] at h_; exact h_
 have hml := hM2.len
 refine .know (row_len 10 G) (fun hv94 => ?_)
 obtain ⟨A92, c93, rfl, hv94_1, hv94_2⟩ := hv94
 unfold maxLen at hv94_2
 refine .know (row_len 11 G) (fun hv97 => ?_)
 obtain ⟨A95, c96, rfl, hv97_1, hv97_2⟩ := hv97
 unfold maxLen at hv97_2
 refine .region (.a G G G (.go idQ (.seq (.seq (.region (.a G G G ?_))))))
 refine .go idQ (.block (.loop (X := Int × Int) (fun ⟨q3, m⟩ => 0 ≤ q3 ∧ q3 ≤ n ∧ m = ((rcP (fU n R33 K34 U35 p) q3.toNat).length : Int)) (fun ⟨q3, m⟩ => [(1, .int .i64 p), (2, .bool true), (9, .pointer (some ⟨b15, 0, none⟩)), (11, .pointer (some ⟨lb28, 0, none⟩)), (12, .slice A92 P53.length c93), (13, .slice A95 W54.length c96), (14, .pointer (some ⟨b59, 0, none⟩)), (15, .int .i64 (n * n)), (16, .int .i64 q), (22, .int .i64 q3), (21, .int .i64 m)]) (fun ⟨q3, m⟩ => [cel b59 [.int .i64 n, .slice A89 W86.length c90] 29, rw_ eZ 3 (.slice A89 W86.length c90) W86, rw_ eZ 3 (.slice A82 Y.length c83) Y, cel lb28 [.slice A39 R33.length c40, .slice A42 K34.length c43, .slice A45 U35.length c46, .slice A48 D36.length c49] 76, rw_ eZ 3 (.slice A39 R33.length c40) R33, rw_ eLK 44 (.slice A42 K34.length c43) K34, rw_ eIL 27 (.slice A45 U35.length c46) U35, rw_ eIL 27 (.slice A48 D36.length c49) D36, nestIL 3 U35, nestIL 3 D36, rw_ eZ 3 (.slice A92 P53.length c93) P53, rw_ eZ 3 (.slice A95 W54.length c96) W54, cel b2 [.slice A22 fi5.length c23, .slice A25 ed6.length c26] 106, rw_ eZ 3 (.slice A22 fi5.length c23) fi5, rw_ eEG 72 (.slice A25 ed6.length c26) ed6, cel b15 [.int .i64 n, .slice A19 W9.length c20] 29, cel b14 [.int .i64 n, .slice A16 ((tabF n false l).length) c17] 29, rw_ eZ 3 (.slice A16 ((tabF n false l).length) c17) (tabF n false l), rw_ eZ 3 (.slice A19 W9.length c20) W9, cel b1 [.int .i64 n, .slice A l.length c] 24]) (fun _ => S) (fun _ => wf) (fun ⟨q3, m⟩ => (n - q3).toNat) (fun a_ w_ hs_ hw_ => ⟨⟨0, 0⟩, (by (try dsimp only); exact ⟨oO, oO, G⟩), hs_.mono (Sub.get (.c4 G G G G (.c4 G G G G (.c G (.c G (.c G .n)))))), hw_.keep (.d (.d (.d (.d (.d (.d (.d (.d (.d (.d .n))))))))))⟩) (fun ⟨q3, m⟩ ⟨u_0, u_1, u_2⟩ => ?_)))
 try dsimp only
 have hmr := rch_len (f := (fU n R33 K34 U35 p)) q3.toNat
 refine .seq (.seq (.region (.m G G G (.f fo29_0 0 G G G G (.l ty3 15 G G G G G ?_)))))
 refine .e G G G G G (.go idQ (.condI G bD (fun h98 => ?_) (fun h98 => ?_)))
 ·
  refine .skipgo idQ (.seq (.block (.seq ?_)))
  have hix1 := idx_rng (n := n) (a := p) (b := q3) ⟨by omega, by omega⟩ ⟨by omega, by omega⟩
  have hix2 := idx_rng (n := n) (a := q3) (b := p) ⟨by omega, by omega⟩ ⟨by omega, by omega⟩
  have hcv : gt W86 (p * n + q3) = (fU n R33 K34 U35 p) q3 := hM2.at_ p q3 oO oO oO oO
  refine .region (.f fo29_1 1 G G G G (.l ty27 0 G G G G G (.m G G G ?_)))
  refine .f fo29_0 0 G G G G (.l ty3 15 G G G G G (.v (ev_mul G G G (r := (p * n)) G oO oO) G (.m G G G ?_)))
  refine .p (((p * n) + q3)) oO oO G G G G G (.v (ev_ix G underlying27 ty3 G G oO oO (row_adr (i := ((p * n) + q3)) 1 G oO oO)) G (.v (ev_ld1 G ty3 G (At.elem1 (row_el (E := eZ) (l := W86) (i := ((p * n) + q3)) 1 G oO oO) 0 G)) G (.a G G G ?_)))
  refine .go idQ (.seq (.seq (.region (.m G G G (.v (ev_not G G) G (.go idQ ?_))))))
  refine .cond_f G ?_
  refine .skipgo idQ (.seq (.seq (.region (.m G G G (.e G G G G G (.go idQ ?_))))))
  refine .condI G bD (fun h99 => ?_) (fun h99 => ?_)
  ·
   refine .exit idQ ?_
   refine .region (.m G G G (.p ((q3 + 1)) oO oO G G G G G (.a G G G ?_)))
   exact SP.nil (SQ.roundb (X := Int × Int) (x := (q3, m)) ⟨(q3 + 1), m⟩ (by (try dsimp only); exact ⟨oO, oO, (by rw [rch_not (f := (fU n R33 K34 U35 p)) oO oO]; exact u_2)⟩) dO (Sub.get (.c4 G G G G (.c4 G G G G (.c G (.c G (.c G .n)))))) (kp (.d (.d (.d (.d (.d (.d (.d (.d (.d (.d .n))))))))))))
  refine .skipgo idQ (.seq (.seq ?_))
  have hra := rch_at (f := (fU n R33 K34 U35 p)) (n := n) (q := q3) oO oO oO
  rw [← p56, ← p57, ← u_2] at hra
  refine .region (.m G G G (.m G G G (.g underlying27 G G G ?_)))
  refine .e G G G G G (.m G G G ?_)
  refine SP.reslot (t := 161) G (decide_eq_false oO) ?_
  refine .cons (.on G G G (Ev.step (ev_mv G G) G G G ?_))
  refine .cons (.on G G G (Ev.step (ev_mv G G) G G G ?_))
  refine .cons (.on G G G (Ev.step (ev_len G underlying27 G) G G G ?_))
  refine .cons (.on G G G (Ev.step (ev_cmp G G G G) G G G ?_))
  refine .v (ev_pickf G G G G) G (.m G G G ?_)
  refine SP.reslot (t := 167) G (decide_eq_false oO) ?_
  refine .cons (.on G G G (Ev.step (ev_mv G G) G G G ?_))
  refine .cons (.on G G G (Ev.step (ev_mv G G) G G G ?_))
  refine .cons (.on G G G (Ev.step (ev_ix G underlying27 ty3 G G oO oO (row_adr (i := m) 10 G oO oO)) G G G ?_))
  refine .cons (.on G G G (Ev.step (ev_ld1 G ty3 G (At.elem1 (row_el (E := eZ) (l := P53) (i := m) 10 G oO oO) 0 G)) G G G ?_))
  refine .cons (.on G G G (Ev.step (ev_mv G G) G G G ?_))
  refine .cons (.on G G G (Ev.step (ev_cmp G G G G) G G G ?_))
  refine .v (ev_pickf G G G G) G (.m G G G ?_)
  refine SP.reslot (t := 175) G (bne_eq_false_iff_eq.2 hra.2.2.1) ?_
  refine .cons (.on G G G (Ev.step (ev_mv G G) G G G ?_))
  refine .cons (.on G G G (Ev.step (ev_mv G G) G G G ?_))
  refine .cons (.on G G G (Ev.step (ev_ix G underlying27 ty3 G G oO oO (row_adr (i := m) 11 G oO oO)) G G G ?_))
  refine .cons (.on G G G (Ev.step (ev_ld1 G ty3 G (At.elem1 (row_el (E := eZ) (l := W54) (i := m) 11 G oO oO) 0 G)) G G G ?_))
  refine .cons (.on G G G (Ev.step (ev_mv G G) G G G ?_))
  refine .cons (.on G G G (Ev.step (ev_cmp G G G G) G G G ?_))
  refine .v (ev_pickf G G G G) G (.go idQ (.condI G bNE (fun h100 => ?_) (fun h100 => ?_)))
  ·
   exfalso; omega
  refine .skipgo idQ (.region (.m G G G (.p ((m + 1)) oO oO G G G G G (.a G G G ?_))))
  refine .go idQ (.region (.m G G G (.p ((q3 + 1)) oO oO G G G G G (.a G G G ?_))))
  exact SP.nil (SQ.roundb (X := Int × Int) (x := (q3, m)) ⟨(q3 + 1), (m + 1)⟩ (by (try dsimp only); exact ⟨oO, oO, (by have h_ := hra.2.2.2.2; omega)⟩) dO (Sub.get (.c4 G G G G (.c4 G G G G (.c G (.c G (.c G .n)))))) (kp (.d (.d (.d (.d (.d (.d (.d (.d (.d (.d .n))))))))))))
 refine .exit idQ ?_
 refine .seq ?_
 have hme : m = (P53.length : Int) := by rw [u_2, p56, show q3 = n from by omega]
 have hme2 : m = (W54.length : Int) := by omega
 refine .region (.m G G G (.m G G G (.g underlying27 G G G ?_)))
 refine .e G G G G G (.m G G G ?_)
 refine SP.reslot (t := 189) G (beq_iff_eq.2 hme) ?_
 refine .cons (.on G G G (Ev.step (ev_mv G G) G G G ?_))
 refine .cons (.on G G G (Ev.step (ev_mv G G) G G G ?_))
 refine .cons (.on G G G (Ev.step (ev_len G underlying27 G) G G G ?_))
 refine .cons (.on G G G (Ev.step (ev_cmp G G G G) G G G ?_))
 refine .v (ev_pickt G G G G) G (.a G G G (.go idQ (.ret idQ (ret1 results5 G .n ⟨(congrArg Value.bool (beq_iff_eq.2 hme2)), G⟩))))
theorem climbReachesUOutF (n : Int) (A : Option Addr) (c : Nat) (l : List AR) (p : Int) (S : Nat → Prop) (wf : World) (hA : Fr eAR S wf A l) (hR : RoadOk n l) (hp : ¬ (0 ≤ p ∧ p < n)) :
  TR0 prog 5 [.agg #[.int .i64 n, .slice A l.length c], .int .i64 p, .bool true] [] S wf (fun v_ C_ => v_ = .bool true ∧ C_ = []) := by
 have hla := hA.len
 have hlen := hR.len
 have hnp := hR.pl
 have hto := tab_ok (d := false) hR
 have htl := hto.len
 have hsq := sq_le hnp
 refine TR.mk func5 G ntmps5 G G (fun w_ => ?_)
 refine .seq (.region (.cons (st_boxa G G G G G (fun b1 => (.a G G G (.go idQ (.seq (.seq (.region ?_)))))))))
 refine .cons (st_callk G G G G hbd9 G .n (awake8_ _ _) ?_)
 refine .v (ev_not G G) G (.go idQ (.cond_f G (.skipgo idQ (.seq (.region ?_)))))
 refine .d 0 ty24 G G G G (.cons (st_call0 G G G G hbd10 G .n (graphF n A c l _ _ hA hR) (fun v_q10 C_q10 q10 => ?_)))
 obtain ⟨b2, u3, v4, fi5, ed6, x7, y8, W9, p11, p12, p13, rfl, rfl⟩ := q10
 show SP _ _ _ _ _ _ ⟨_, _ :: _ :: _ :: _ :: _ :: _, _, _⟩
 have hgl := p11.len
 have hgn := p11.ne
 refine .m G G G (.x G G G G (.x G G G G (.x G G G G ?_)))
 refine .x G G G G (.cons (st_alloc G G G G zf29 (fun b14 => (.cons (st_alloc G G G G zf29 (fun b15 => (.a G G G ?_)))))))
 refine .know (row_len 5 G) (fun hv18 => ?_)
 obtain ⟨A16, c17, rfl, hv18_1, hv18_2⟩ := hv18
 unfold maxLen at hv18_2
 refine .cons (st_storea (l' := [.int .i64 n, .slice A16 ((tabF n false l).length) c17]) G G G ty29 G G G (.t .h) G G ?_)
 refine .know (row_len 6 G) (fun hv21 => ?_)
 obtain ⟨A19, c20, rfl, hv21_1, hv21_2⟩ := hv21
 unfold maxLen at hv21_2
 refine .cons (st_storea (l' := [.int .i64 n, .slice A19 W9.length c20]) G G G ty29 G G G (.t .h) G G ?_)
 refine .a G G G (.go idQ (.seq (.seq (.region (.m G G G (.v (ev_not G G) G ?_))))))
 refine .go idQ (.cond_f G (.skipgo idQ (.seq (.region (.m G G G ?_)))))
 refine .know (row_len 3 G) (fun hv24 => ?_)
 obtain ⟨A22, c23, rfl, hv24_1, hv24_2⟩ := hv24
 unfold maxLen at hv24_2
 refine .know (row_len 4 G) (fun hv27 => ?_)
 obtain ⟨A25, c26, rfl, hv27_1, hv27_2⟩ := hv27
 unfold maxLen at hv27_2
 refine .cons (st_lend0 G G G G hbd11 G (.c (.t2 .h) .n) (.c (.t2 .h) (.c (.t2 .h) .n)) (fun w_ hw => build_ n (tabF n false l) b2 A22 c23 fi5 A25 c26 ed6 _ _ (Fr.lend hw 0 G lO) (Fr.lend hw 1 G lO) hto p11 lO) (fun v_q37 C_q37 q37 => ?_))
 obtain ⟨lb28, v129, v230, v331, v432, R33, K34, U35, D36, p38, rfl, rfl⟩ := q37
 show SP _ _ _ _ _ _ ⟨_, _ :: _ :: _ :: _ :: _ :: _ :: _ :: _ :: _ :: _ :: _, _, _⟩
 have hC := lc hto p11 p38
 have hWk := ways_k hto p11 p38
 have hRn := hC.hR
 refine .a G G G (.go idQ (.seq (.know (row_len 2 G) (fun hv41 => ?_))))
 obtain ⟨A39, c40, rfl, hv41_1, hv41_2⟩ := hv41
 unfold maxLen at hv41_2
 refine .know (row_len 3 G) (fun hv44 => ?_)
 obtain ⟨A42, c43, rfl, hv44_1, hv44_2⟩ := hv44
 unfold maxLen at hv44_2
 refine .know (row_len 4 G) (fun hv47 => ?_)
 obtain ⟨A45, c46, rfl, hv47_1, hv47_2⟩ := hv47
 unfold maxLen at hv47_2
 refine .know (row_len 5 G) (fun hv50 => ?_)
 obtain ⟨A48, c49, rfl, hv50_1, hv50_2⟩ := hv50
 unfold maxLen at hv50_2
 refine .region (.m G G G (.m G G G (.m G G G ?_)))
 refine .cons (st_callk G G G G hbd16 G (.c (.t .h) (.c (.t .h) (.c (.t .h) (.c (.t .h) (.c (.t .h) (.c (.t .h) (.c (.t .h) .n))))))) (reachno_ lb28 A39 c40 R33 A42 c43 K34 A45 c46 U35 A48 c49 D36 n (tabF n false l) p true _ _ hC hp) ?_)
 refine .m G G G (.x G G G G (.x G G G G (.a G G G ?_)))
 refine .a G G G (.go idQ (.seq (.seq (.region (.m G G G (.e G G G G G ?_))))))
 refine .m G G G (.w (fun _ => ev_mv G G) G (.w (fun _ => ev_fa G fo29_0 G (r := 0) G) G (.w (fun hb => ev_ld1 G ty3 (lkg G hb) (At.own1 10 G G)) G ?_)))
 refine .w (fun hb => ev_cmp G (lkg G hb) (lkg G hb) G) G (.r G G G G G (.go idQ (.condI G (bO bD bD) (fun h51 => ?_) (fun h51 => ?_))))
 ·
  refine .seq (.region (.m G G G (.g underlying27 G G G (.v (ev_cmp (r := true) G G G G) G ?_))))
  refine .m G G G (.cons (.on G G G (Ev.step (ev_mv G G) G G G (.cons (.on G G G (Ev.step (ev_len G underlying27 G) G G G (.cons (.on G G G (Ev.step (ev_cmp (r := true) G G G G) G G G ?_)))))))))
  refine .v (ev_pickt G G G G) G (.a G G G (.go idQ (.ret idQ (ret1 results5 G .n ⟨G, G⟩))))
 exfalso; omega
theorem climbReachesUBadF (n : Int) (A : Option Addr) (c : Nat) (l : List AR) (p : Int) (S : Nat → Prop) (wf : World) (hA : Fr eAR S wf A l) (hR : ¬ RoadOk n l) :
  TR0 prog 5 [.agg #[.int .i64 n, .slice A l.length c], .int .i64 p, .bool true] [] S wf (fun v_ C_ => v_ = .bool true ∧ C_ = []) := by
 have hla := hA.len
 refine TR.mk func5 G ntmps5 G G (fun w_ => ?_)
 refine .seq (.region (.cons (st_boxa G G G G G (fun b1 => (.a G G G (.go idQ (.seq (.seq (.region ?_)))))))))
 refine .cons (st_callk G G G G hbd9 G .n (awake8_ _ _) ?_)
 refine .v (ev_not G G) G (.go idQ (.cond_f G (.skipgo idQ (.seq (.region ?_)))))
 refine .d 0 ty24 G G G G (.cons (st_callk G G G G hbd10 G .n (graphbadF n A c l _ _ hA hR) (.m G G G (.x G G G G ?_))))
 refine .x G G G G (.x G G G G (.x G G G G (.cons (st_alloc G G G G zf29 (fun b2 => ?_)))))
 refine .cons (st_alloc G G G G zf29 (fun b3 => ?_))
 refine .a G G G (.cons (st_storea (l' := [.int .i64 0, .slice none 0 0]) G G G ty29 G G G (.t .h) G G (.cons (st_storea (l' := [.int .i64 0, .slice none 0 0]) G G G ty29 G G G (.t .h) G G (.a G G G ?_)))))
 refine .go idQ (.seq (.seq (.region (.m G G G (.v (ev_not G G) G (.go idQ ?_))))))
 refine .cond_t G ?_
 refine .seq (.region (.a G G G (.go idQ (.ret idQ (ret1 results5 G .n ⟨G, G⟩)))))
theorem climbReachesDInF (n : Int) (A : Option Addr) (c : Nat) (l : List AR) (p : Int) (S : Nat → Prop) (wf : World) (hA : Fr eAR S wf A l) (hR : RoadOk n l) (hp : 0 ≤ p ∧ p < n) :
  TR0 prog 5 [.agg #[.int .i64 n, .slice A l.length c], .int .i64 p, .bool false] [] S wf (fun v_ C_ => v_ = .bool true ∧ C_ = []) := by
 have hla := hA.len
 have hlen := hR.len
 have hnp := hR.pl
 have hto := tab_ok (d := false) hR
 have htl := hto.len
 have hsq := sq_le hnp
 refine TR.mk func5 G ntmps5 G G (fun w_ => ?_)
 refine .seq (.region (.cons (st_boxa G G G G G (fun b1 => (.a G G G (.go idQ (.seq (.seq (.region ?_)))))))))
 refine .cons (st_callk G G G G hbd9 G .n (awake8_ _ _) ?_)
 refine .v (ev_not G G) G (.go idQ (.cond_f G (.skipgo idQ (.seq (.region ?_)))))
 refine .d 0 ty24 G G G G (.cons (st_call0 G G G G hbd10 G .n (graphF n A c l _ _ hA hR) (fun v_q10 C_q10 q10 => ?_)))
 obtain ⟨b2, u3, v4, fi5, ed6, x7, y8, W9, p11, p12, p13, rfl, rfl⟩ := q10
 show SP _ _ _ _ _ _ ⟨_, _ :: _ :: _ :: _ :: _ :: _, _, _⟩
 have hgl := p11.len
 have hgn := p11.ne
 refine .m G G G (.x G G G G (.x G G G G (.x G G G G ?_)))
 refine .x G G G G (.cons (st_alloc G G G G zf29 (fun b14 => (.cons (st_alloc G G G G zf29 (fun b15 => (.a G G G ?_)))))))
 refine .know (row_len 5 G) (fun hv18 => ?_)
 obtain ⟨A16, c17, rfl, hv18_1, hv18_2⟩ := hv18
 unfold maxLen at hv18_2
 refine .cons (st_storea (l' := [.int .i64 n, .slice A16 ((tabF n false l).length) c17]) G G G ty29 G G G (.t .h) G G ?_)
 refine .know (row_len 6 G) (fun hv21 => ?_)
 obtain ⟨A19, c20, rfl, hv21_1, hv21_2⟩ := hv21
 unfold maxLen at hv21_2
 refine .cons (st_storea (l' := [.int .i64 n, .slice A19 W9.length c20]) G G G ty29 G G G (.t .h) G G ?_)
 refine .a G G G (.go idQ (.seq (.seq (.region (.m G G G (.v (ev_not G G) G ?_))))))
 refine .go idQ (.cond_f G (.skipgo idQ (.seq (.region (.m G G G ?_)))))
 refine .know (row_len 3 G) (fun hv24 => ?_)
 obtain ⟨A22, c23, rfl, hv24_1, hv24_2⟩ := hv24
 unfold maxLen at hv24_2
 refine .know (row_len 4 G) (fun hv27 => ?_)
 obtain ⟨A25, c26, rfl, hv27_1, hv27_2⟩ := hv27
 unfold maxLen at hv27_2
 refine .cons (st_lend0 G G G G hbd11 G (.c (.t2 .h) .n) (.c (.t2 .h) (.c (.t2 .h) .n)) (fun w_ hw => build_ n (tabF n false l) b2 A22 c23 fi5 A25 c26 ed6 _ _ (Fr.lend hw 0 G lO) (Fr.lend hw 1 G lO) hto p11 lO) (fun v_q37 C_q37 q37 => ?_))
 obtain ⟨lb28, v129, v230, v331, v432, R33, K34, U35, D36, p38, rfl, rfl⟩ := q37
 show SP _ _ _ _ _ _ ⟨_, _ :: _ :: _ :: _ :: _ :: _ :: _ :: _ :: _ :: _ :: _, _, _⟩
 have hC := lc hto p11 p38
 have hWk := ways_k hto p11 p38
 have hRn := hC.hR
 refine .a G G G (.go idQ (.seq (.know (row_len 2 G) (fun hv41 => ?_))))
 obtain ⟨A39, c40, rfl, hv41_1, hv41_2⟩ := hv41
 unfold maxLen at hv41_2
 refine .know (row_len 3 G) (fun hv44 => ?_)
 obtain ⟨A42, c43, rfl, hv44_1, hv44_2⟩ := hv44
 unfold maxLen at hv44_2
 refine .know (row_len 4 G) (fun hv47 => ?_)
 obtain ⟨A45, c46, rfl, hv47_1, hv47_2⟩ := hv47
 unfold maxLen at hv47_2
 refine .know (row_len 5 G) (fun hv50 => ?_)
 obtain ⟨A48, c49, rfl, hv50_1, hv50_2⟩ := hv50
 unfold maxLen at hv50_2
 refine .region (.m G G G (.m G G G (.m G G G ?_)))
 refine .cons (st_call0 G G G G hbd16 G (.c (.t .h) (.c (.t .h) (.c (.t .h) (.c (.t .h) (.c (.t .h) (.c (.t .h) (.c (.t .h) .n))))))) (reachD lb28 A39 c40 R33 A42 c43 K34 A45 c46 U35 A48 c49 D36 n (tabF n false l) p _ _ hC hp) (fun v_q55 C_q55 q55 => ?_))
 obtain ⟨u51, v52, P53, W54, p56, p57, rfl, rfl⟩ := q55
 show SP _ _ _ _ _ _ ⟨_, _ :: _ :: _ :: _ :: _ :: _ :: _ :: _ :: _ :: _, _, _⟩
 have hrl := rch_len (f := (fDn n R33 K34 D36 p)) n.toNat
 have hpl : (P53.length : Int) ≤ n := by rw [p56]; omega
 have hwl2 : W54.length = P53.length := by rw [p56, p57]; exact hrl.2
 refine .m G G G (.x G G G G (.x G G G G (.a G G G ?_)))
 refine .a G G G (.go idQ (.seq (.seq (.region (.m G G G (.e G G G G G ?_))))))
 refine .m G G G (.w (fun _ => ev_mv G G) G (.w (fun _ => ev_fa G fo29_0 G (r := 0) G) G (.w (fun hb => ev_ld1 G ty3 (lkg G hb) (At.own1 12 G G)) G ?_)))
 refine .w (fun hb => ev_cmp G (lkg G hb) (lkg G hb) G) G (.r G G G G G (.go idQ (.condI G (bO bD bD) (fun h58 => ?_) (fun h58 => ?_))))
 ·
  exfalso; omega
 refine .skipgo idQ (.seq (.region (.f fo29_0 0 G G G G (.l ty3 12 G G G G G (.v (ev_any (v := .agg #[.int .i64 n, .slice none 0 0]) G kR (fun _ => by kernel_rfl)) G ?_)))))
 refine .cons (st_alloc G G G G zf29 (fun b59 => ?_))
 refine .cons (st_storea (l' := [.int .i64 n, .slice none 0 0]) G G G ty29 G G G .h G G ?_)
 refine .go idQ (.seq (.seq (.region (.a G G G (.go idQ (.block ?_))))))
 refine SC.nilrow eZ 3 ?_
 refine .loop (X := Int × (List Int) × Value) (fun ⟨k, X, u_X⟩ => 0 ≤ k ∧ k ≤ (n * n) ∧ X = List.replicate k.toNat (-1 : Int)) (fun ⟨k, X, u_X⟩ => [(1, .int .i64 p), (2, .bool false), (6, .bool false), (9, .pointer (some ⟨b15, 0, none⟩)), (11, .pointer (some ⟨lb28, 0, none⟩)), (12, u51), (13, v52), (14, .pointer (some ⟨b59, 0, none⟩)), (15, .int .i64 k)]) (fun ⟨k, X, u_X⟩ => [rw_ eZ 3 (u_X) X, cel b59 [.int .i64 n, u_X] 29, cel lb28 [.slice A39 R33.length c40, .slice A42 K34.length c43, .slice A45 U35.length c46, .slice A48 D36.length c49] 76, rw_ eZ 3 (.slice A39 R33.length c40) R33, rw_ eLK 44 (.slice A42 K34.length c43) K34, rw_ eIL 27 (.slice A45 U35.length c46) U35, rw_ eIL 27 (.slice A48 D36.length c49) D36, nestIL 3 U35, nestIL 3 D36, rw_ eZ 3 (u51) P53, rw_ eZ 3 (v52) W54, cel b2 [.slice A22 fi5.length c23, .slice A25 ed6.length c26] 106, rw_ eZ 3 (.slice A22 fi5.length c23) fi5, rw_ eEG 72 (.slice A25 ed6.length c26) ed6, cel b15 [.int .i64 n, .slice A19 W9.length c20] 29, cel b14 [.int .i64 n, .slice A16 ((tabF n false l).length) c17] 29, rw_ eZ 3 (.slice A16 ((tabF n false l).length) c17) (tabF n false l), rw_ eZ 3 (.slice A19 W9.length c20) W9, cel b1 [.int .i64 n, .slice A l.length c] 24]) (fun _ => S) (fun _ => wf) (fun ⟨k, X, u_X⟩ => ((n * n) - k).toNat) (fun a_ w_ hs_ hw_ => ⟨⟨0, ([] : List Int), .slice none 0 0⟩, (by (try dsimp only); exact ⟨oO, oO, (by rfl)⟩), hs_.mono (Sub.get (.c4 G G G G (.c4 G G G G (.c G .n)))), hw_.keep (.d (.d (.d (.d (.d (.d (.d (.d (.d (.c .h .n))))))))))⟩) (fun ⟨k, X, u_X⟩ ⟨q_0, q_1, q_2⟩ => ?_)
 try dsimp only
 have hxl : X.length = k.toNat := by rw [q_2, List.length_replicate]
 refine .seq (.seq (.region (.m G G G (.f fo29_0 0 G G G G (.l ty3 14 G G G G G ?_)))))
 refine .f fo29_0 0 G G G G (.l ty3 14 G G G G G (.v (ev_mul G G G (r := (n * n)) G oO oO) G (.e G G G G G ?_)))
 refine .go idQ (.condI G bD (fun h60 => ?_) (fun h60 => ?_))
 ·
  refine .skipgo idQ (.seq (.block (.region (.f fo29_1 1 G G G G (.l ty27 1 G G G G G (.cons (st_lit eZ (e := 3) (l := [(-1)]) G G G G kR G G kW (fun b61 => ?_))))))))
  refine .cons (st_app (E := eZ) (m := [(-1)]) G G G G underlying27 ai3 G G G (.t .h) rO (row_src 0 G) lO G (fun v62 => ?_))
  refine .f fo29_1 1 G G G G (.know (row_len 0 G) (fun hv65 => ?_))
  obtain ⟨A63, c64, rfl, hv65_1, hv65_2⟩ := hv65
  unfold maxLen at hv65_2
  refine .cons (st_store1 G G G ty27 G G G (.t2 .h) (.t .h) ?_)
  refine .go idQ (.region (.m G G G (.p ((k + 1)) oO oO G G G G G (.a G G G ?_))))
  exact SP.nil (SQ.roundb (X := Int × (List Int) × Value) (x := (k, X, u_X)) ⟨(k + 1), (X ++ [(-1)]), .slice A63 ((X ++ [(-1)]).length) c64⟩ (by (try dsimp only); exact ⟨oO, oO, (by rw [q_2]; exact (rep_snoc q_0).symm)⟩) dO (Sub.get (.c4 G G G G (.c4 G G G G (.c G .n)))) (kp (.c (.t .h) (.c .h (.c (.t .h) (.c (.t .h) (.c (.t .h) (.c (.t .h) (.c (.t .h) (.c (.t .h) (.c (.t .h) (.c (.t .h) (.c (.t .h) (.c (.t .h) (.c (.t .h) (.c (.t .h) (.c (.t .h) (.c (.t .h) (.c (.t .h) (.c (.t .h) (.c (.t .h) .n)))))))))))))))))))))
 refine .exit idQ ?_
 refine .seq (.seq (.know (row_len 0 G) (fun hv68 => ?_)))
 obtain ⟨A66, c67, rfl, hv68_1, hv68_2⟩ := hv68
 unfold maxLen at hv68_2
 obtain rfl : k = n * n := by omega
 refine .region (.a G G G (.go idQ (.block (.loop (X := Int × (List Int) × Value) (fun ⟨q, Y, u_Y⟩ => 0 ≤ q ∧ q ≤ n ∧ Y = (allP R33 K34 D36 q.toNat).foldl (minSt n) (List.replicate (n * n).toNat (-1 : Int)) ∧ Y.length = (n * n).toNat) (fun ⟨q, Y, u_Y⟩ => [(1, .int .i64 p), (2, .bool false), (6, .bool false), (9, .pointer (some ⟨b15, 0, none⟩)), (11, .pointer (some ⟨lb28, 0, none⟩)), (12, u51), (13, v52), (14, .pointer (some ⟨b59, 0, none⟩)), (15, .int .i64 (n * n)), (16, .int .i64 q)]) (fun ⟨q, Y, u_Y⟩ => [rw_ eZ 3 (u_Y) Y, cel b59 [.int .i64 n, u_Y] 29, cel lb28 [.slice A39 R33.length c40, .slice A42 K34.length c43, .slice A45 U35.length c46, .slice A48 D36.length c49] 76, rw_ eZ 3 (.slice A39 R33.length c40) R33, rw_ eLK 44 (.slice A42 K34.length c43) K34, rw_ eIL 27 (.slice A45 U35.length c46) U35, rw_ eIL 27 (.slice A48 D36.length c49) D36, nestIL 3 U35, nestIL 3 D36, rw_ eZ 3 (u51) P53, rw_ eZ 3 (v52) W54, cel b2 [.slice A22 fi5.length c23, .slice A25 ed6.length c26] 106, rw_ eZ 3 (.slice A22 fi5.length c23) fi5, rw_ eEG 72 (.slice A25 ed6.length c26) ed6, cel b15 [.int .i64 n, .slice A19 W9.length c20] 29, cel b14 [.int .i64 n, .slice A16 ((tabF n false l).length) c17] 29, rw_ eZ 3 (.slice A16 ((tabF n false l).length) c17) (tabF n false l), rw_ eZ 3 (.slice A19 W9.length c20) W9, cel b1 [.int .i64 n, .slice A l.length c] 24]) (fun _ => S) (fun _ => wf) (fun ⟨q, Y, u_Y⟩ => (n - q).toNat) (fun a_ w_ hs_ hw_ => ⟨⟨0, X, .slice A66 X.length c67⟩, (by (try dsimp only); exact ⟨oO, oO, (by exact q_2), oO⟩), hs_.mono (Sub.get (.c4 G G G G (.c4 G G G G (.c G (.c G .n))))), hw_.keep (.d (.d (.d (.d (.d (.d (.d (.d (.d (.c .h .n))))))))))⟩) (fun ⟨q, Y, u_Y⟩ ⟨r_0, r_1, r_2, r_3⟩ => ?_)))))
 try dsimp only
 refine .seq (.seq (.region (.m G G G (.f fo29_0 0 G G G G (.l ty3 14 G G G G G ?_)))))
 refine .e G G G G G (.go idQ (.condI G bD (fun h69 => ?_) (fun h69 => ?_)))
 ·
  refine .skipgo idQ (.seq (.block (.seq (.region (.m G G G (.m G G G (.cons (st_call0 G G G G hbd17 G (.c (.t2 .h) (.c (.t2 .h) (.c (.t2 .h) (.c (.t2 .h) (.c (.t2 .h) (.c (.t2 .h) (.c (.t2 .h) .n))))))) (lup_ lb28 A39 c40 R33 A42 c43 K34 A45 c46 U35 A48 c49 D36 q _ _ hC.hL) (fun v_q71 C_q71 q71 => ?_)))))))))
  obtain ⟨u70, rfl, rfl⟩ := q71
  show SP _ _ _ _ _ _ ⟨_, _ :: _ :: _ :: _ :: _ :: _ :: _ :: _ :: _, _, _⟩
  refine .a G G G (.go idQ (.seq (.seq (.region (.m G G G (.v (ev_not G G) G ?_))))))
  refine .go idQ (.cond_t G (.region (.m G G G ?_)))
  refine .m G G G (.cons (st_call0 G G G G hbd18 G (.d (.d (.d (.c .h .n)))) (ldown_ lb28 A39 c40 R33 A42 c43 K34 A45 c46 U35 A48 c49 D36 q _ _ hC.hL) (fun v_q73 C_q73 q73 => ?_)))
  obtain ⟨u72, rfl, rfl⟩ := q73
  show SP _ _ _ _ _ _ ⟨_, _ :: _ :: _ :: _ :: _ :: _ :: _ :: _ :: _, _, _⟩
  refine .a G G G (.go idQ (.seq ?_))
  have hpu := pk_len hC.hL q
  refine .region (.m G G G (.know (row_len 7 G) (fun hv76 => ?_)))
  obtain ⟨A74, c75, rfl, hv76_1, hv76_2⟩ := hv76
  unfold maxLen at hv76_2
  refine .g underlying41 G G G (.m G G G (.go idQ (.block (.loop (X := Int × (List Int) × Value) (fun ⟨i, Z, u_Z⟩ => 0 ≤ i ∧ i ≤ ((pkL R33 K34 D36 q).length : Int) ∧ Z = ((allP R33 K34 D36 q.toNat) ++ (pkL R33 K34 D36 q).take i.toNat).foldl (minSt n) (List.replicate (n * n).toNat (-1 : Int)) ∧ Z.length = (n * n).toNat) (fun ⟨i, Z, u_Z⟩ => [(1, .int .i64 p), (2, .bool false), (6, .bool false), (9, .pointer (some ⟨b15, 0, none⟩)), (11, .pointer (some ⟨lb28, 0, none⟩)), (12, u51), (13, v52), (14, .pointer (some ⟨b59, 0, none⟩)), (15, .int .i64 (n * n)), (16, .int .i64 q), (91, .slice A74 ((pkL R33 K34 D36 q).length) c75), (92, .int .i64 (((pkL R33 K34 D36 q).length : Nat) : Int)), (93, .int .i64 i)]) (fun ⟨i, Z, u_Z⟩ => [cel lb28 [.slice A39 R33.length c40, .slice A42 K34.length c43, .slice A45 U35.length c46, .slice A48 D36.length c49] 76, rw_ eZ 3 (.slice A39 R33.length c40) R33, rw_ eLK 44 (.slice A42 K34.length c43) K34, rw_ eIL 27 (.slice A45 U35.length c46) U35, rw_ eIL 27 (.slice A48 D36.length c49) D36, nestIL 3 U35, nestIL 3 D36, rw_ eLK 44 (.slice A74 ((pkL R33 K34 D36 q).length) c75) (pkL R33 K34 D36 q), rw_ eLK 44 (v_q71) (pkL R33 K34 U35 q), rw_ eZ 3 (u_Z) Z, cel b59 [.int .i64 n, u_Z] 29, rw_ eZ 3 (u51) P53, rw_ eZ 3 (v52) W54, cel b2 [.slice A22 fi5.length c23, .slice A25 ed6.length c26] 106, rw_ eZ 3 (.slice A22 fi5.length c23) fi5, rw_ eEG 72 (.slice A25 ed6.length c26) ed6, cel b15 [.int .i64 n, .slice A19 W9.length c20] 29, cel b14 [.int .i64 n, .slice A16 ((tabF n false l).length) c17] 29, rw_ eZ 3 (.slice A16 ((tabF n false l).length) c17) (tabF n false l), rw_ eZ 3 (.slice A19 W9.length c20) W9, cel b1 [.int .i64 n, .slice A l.length c] 24]) (fun _ => S) (fun _ => wf) (fun ⟨i, Z, u_Z⟩ => (((pkL R33 K34 D36 q).length : Int) - i).toNat) (fun a_ w_ hs_ hw_ => ⟨⟨0, Y, u_Y⟩, (by (try dsimp only); exact ⟨oO, oO, (ls2_0 r_2), oO⟩), hs_.mono (Sub.get (.c4 G G G G (.c4 G G G G (.c4 G G G G (.c G .n))))), hw_.keep (.d (.d (.d (.d (.d (.d (.d (.d (.d (.d (.c .h .n)))))))))))⟩) (fun ⟨i, Z, u_Z⟩ ⟨s_0, s_1, s_2, s_3⟩ => ?_)))))
  try dsimp only
  refine .seq (.region (.e G G G G G (.go idQ (.seq (.condI G bD (fun h77 => ?_) (fun h77 => ?_))))))
  ·
   refine .skipgo idQ (.seq (.block (.seq (.region (.v (ev_ix G underlying41 ty44 G G oO oO (row_adr (i := i) 7 G oO lO)) G (.v (ev_lda G G (row_el (E := eLK) (l := (pkL R33 K34 D36 q)) (i := i) 7 G oO lO) ty44) G (.cons (st_alloc G G G G zf44 (fun b78 => ?_)))))))))
   refine .cons (st_storea (l' := [.int .i64 ((gt (pkL R33 K34 D36 q) i).lf), .int .i64 ((gt (pkL R33 K34 D36 q) i).lt), .int .i64 ((gt (pkL R33 K34 D36 q) i).lw), .int .i64 ((gt (pkL R33 K34 D36 q) i).lm)]) G G G ty44 G G G .h G G ?_)
   refine .go idQ (.seq ?_)
   have hxr := hWk.ld q oO oO _ (gtM (l := (pkL R33 K34 D36 q)) (i := i) oO oO)
   unfold lkOk at hxr
   have hix := idx_rng (n := n) (a := (gt (pkL R33 K34 D36 q) i).lf) (b := (gt (pkL R33 K34 D36 q) i).lt) ⟨by omega, by omega⟩ ⟨by omega, by omega⟩
   refine .region (.f fo29_1 1 G G G G (.l ty27 11 G G G G G (.f fo44_0 0 G G G G ?_)))
   refine .l ty3 0 G G G G G (.f fo29_0 0 G G G G (.l ty3 17 G G G G G (.v (ev_mul G G G (r := (((gt (pkL R33 K34 D36 q) i).lf) * n)) G oO oO) G ?_)))
   refine .f fo44_1 1 G G G G (.l ty3 0 G G G G G (.v (ev_add G G G (r := ((((gt (pkL R33 K34 D36 q) i).lf) * n) + ((gt (pkL R33 K34 D36 q) i).lt))) G oO oO) G (.know (row_len 10 G) (fun hv81 => ?_))))
   obtain ⟨A79, c80, rfl, hv81_1, hv81_2⟩ := hv81
   unfold maxLen at hv81_2
   refine .v (ev_ix G underlying27 ty3 G G oO oO (row_adr (i := ((((gt (pkL R33 K34 D36 q) i).lf) * n) + ((gt (pkL R33 K34 D36 q) i).lt))) 10 G oO oO)) G (.a G G G (.go idQ (.seq ?_)))
   refine SC.draw mo [] [] .n (fun _ _ _ => sc0) (fun wf_82 hl_82 hx_82 hR_82 => ?_)
   refine SR.m 0 G G G G ?_
   refine SR.z 1 G G (ev_nil G G) ?_
   refine SR.z 2 G G (ev_ld1 G ty3 G (At.elem1 (At.d (Fr.el (i := ((((gt (pkL R33 K34 D36 q) i).lf) * n) + ((gt (pkL R33 K34 D36 q) i).lt))) (Fr.lent (S := S) hR_82 10 G lO) oO oO)) 0 G)) ?_
   refine SR.z 3 G G (ev_cmp G G G G) ?_
   refine SR.m 4 G G G G ?_
   refine SR.y 5 G G (fun _ => ev_fa G fo44_2 G (r := 2) G) ?_
   refine SR.y 6 G G (fun hb => ev_ld1 G ty3 (lkg G hb) (At.d (At.lent hR_82 0 G G))) ?_
   refine SR.y 7 G G (fun _ => ev_mv G G) ?_
   refine SR.y 8 G G (fun hb => ev_nil G (lkg G hb)) ?_
   refine SR.y 9 G G (fun hb => have hp := bF bD hb; ev_ld1 G ty3 (lkg G hb) (At.elem1 (At.d (Fr.el (i := ((((gt (pkL R33 K34 D36 q) i).lf) * n) + ((gt (pkL R33 K34 D36 q) i).lt))) (Fr.lent (S := S) hR_82 10 G lO) (by have _h := hp; omega) (by have _h := hp; omega))) 0 G)) ?_
   refine SR.y 10 G G (fun hb => ev_cmp G (lkg G hb) (lkg G hb) G) ?_
   refine SR.z 11 G G (ev_or G G G G) ?_
   refine SR.fin kR hl_82 hx_82 hR_82 .n ?_
   refine SQ.go idQ ?_
   refine .condI G (bO bD bD) (fun h83 => ?_) (fun h83 => ?_)
   ·
    refine .region (.m G G G (.f fo44_2 2 G G G G (.l ty3 0 G G G G G ?_)))
    refine .v (ev_nil G G) G (.cons (st_setel (E := eZ) (i := ((((gt (pkL R33 K34 D36 q) i).lf) * n) + ((gt (pkL R33 K34 D36 q) i).lt))) (cs := [.int .i64 ((gt (pkL R33 K34 D36 q) i).lw)]) (off := 0) ((gt (pkL R33 K34 D36 q) i).lw) G G G ty3 G G G G G (.t4 (.t4 (.t2 .h))) lO lO (Nat.le_of_ble_eq_true G) G (.go idQ (.region (.p ((i + 1)) oO oO G G G G G ?_)))))
    refine .m G G G ?_
    exact SP.nil (SQ.roundb (X := Int × (List Int) × Value) (x := (i, Z, (.slice A79 Z.length c80))) ⟨(i + 1), (Z.set (((((gt (pkL R33 K34 D36 q) i).lf) * n) + ((gt (pkL R33 K34 D36 q) i).lt))).toNat ((gt (pkL R33 K34 D36 q) i).lw)), .slice A79 Z.length c80⟩ (by (try dsimp only); exact ⟨oO, oO, (ls2_yes s_2 oO oO h83), (by (try rw [List.length_set]); exact s_3)⟩) dO (Sub.get (.c4 G G G G (.c4 G G G G (.c4 G G G G (.c G .n))))) (kp (.c (.t2 .h) (.c (.t2 .h) (.c (.t2 .h) (.c (.t2 .h) (.c (.t2 .h) (.c (.t2 .h) (.c (.t2 .h) (.c (.t2 .h) (.c (.t2 .h) (.c .h (.c (.t .h) (.c (.t .h) (.c (.t .h) (.c (.t .h) (.c (.t .h) (.c (.t .h) (.c (.t .h) (.c (.t .h) (.c (.t .h) (.c (.t .h) (.c (.t .h) .n)))))))))))))))))))))))
   refine .skipgo idQ (.region (.p ((i + 1)) oO oO G G G G G (.m G G G ?_)))
   exact SP.nil (SQ.roundb (X := Int × (List Int) × Value) (x := (i, Z, (.slice A79 Z.length c80))) ⟨(i + 1), Z, .slice A79 Z.length c80⟩ (by (try dsimp only); exact ⟨oO, oO, (ls2_no s_2 oO oO h83), (by (try rw [List.length_set]); exact s_3)⟩) dO (Sub.get (.c4 G G G G (.c4 G G G G (.c4 G G G G (.c G .n))))) (kp (.c (.t .h) (.c (.t .h) (.c (.t .h) (.c (.t .h) (.c (.t .h) (.c (.t .h) (.c (.t .h) (.c (.t .h) (.c (.t .h) (.c (.t .h) (.c (.t .h) (.c (.t .h) (.c (.t .h) (.c (.t .h) (.c (.t .h) (.c (.t .h) (.c (.t .h) (.c (.t .h) (.c (.t .h) (.c (.t .h) (.c (.t .h) .n)))))))))))))))))))))))
  refine .exit idQ ?_
  refine .region (.m G G G (.p ((q + 1)) oO oO G G G G G (.a G G G ?_)))
  exact SP.nil (SQ.roundb (X := Int × (List Int) × Value) (x := (q, Y, u_Y)) ⟨(q + 1), Z, u_Z⟩ (by (try dsimp only); exact ⟨oO, oO, (ls2_end s_2 oO r_0), (by exact s_3)⟩) dO (Sub.get (.c4 G G G G (.c4 G G G G (.c G (.c G .n))))) (kp (.c (.t4 (.t4 (.t .h))) (.c (.t4 (.t4 (.t .h))) (.d (.d (.d (.c .h (.c (.t2 .h) (.c (.t2 .h) (.c (.t2 .h) (.c (.t2 .h) (.c (.t2 .h) (.c (.t2 .h) (.c (.t2 .h) (.c (.t2 .h) (.c (.t2 .h) (.c (.t2 .h) .n))))))))))))))))))
 refine .exit idQ ?_
 refine .seq ?_
 have hYT : Y = (upT n R33 K34 D36) := by rw [r_2, show q = n from by omega]; rfl
 have hfb1 := hWk.fd
 rw [← hYT] at hfb1
 refine .region (.d 1 ty29 G G G G (.know (row_len 0 G) (fun hv86 => ?_)))
 obtain ⟨A84, c85, rfl, hv86_1, hv86_2⟩ := hv86
 unfold maxLen at hv86_2
 refine .cons (st_lend0 G G G G hbd19 G .n (.c .h .n) (fun w_ hw => least2_ n A84 c85 Y (clipF n Y) _ _ (Fr.lend hw 0 G lO) hnp (clip_mf oO) hfb1) (fun v_q89 C_q89 q89 => ?_))
 obtain ⟨u87, W88, p90, rfl, rfl⟩ := q89
 show SP _ _ _ _ _ _ ⟨_, _ :: _ :: _, _, _⟩
 refine .know (row_len 0 G) (fun hv93 => ?_)
 obtain ⟨A91, c92, rfl, hv93_1, hv93_2⟩ := hv93
 unfold maxLen at hv93_2
 refine .cons (st_storea (l' := [.int .i64 n, .slice A91 W88.length c92]) G G G ty29 G G G (.t2 .h) G G ?_)
 refine .go idQ (.seq ?_)
 have hM2 : MF n W88 (fU n R33 K34 D36) := by have h_ := p90; rw [hYT] at h_; exact h_
 have hml := hM2.len
 refine .know (row_len 10 G) (fun hv96 => ?_)
 obtain ⟨A94, c95, rfl, hv96_1, hv96_2⟩ := hv96
 unfold maxLen at hv96_2
 refine .know (row_len 11 G) (fun hv99 => ?_)
 obtain ⟨A97, c98, rfl, hv99_1, hv99_2⟩ := hv99
 unfold maxLen at hv99_2
 refine .region (.a G G G (.go idQ (.seq (.seq (.region (.a G G G ?_))))))
 refine .go idQ (.block (.loop (X := Int × Int) (fun ⟨q3, m⟩ => 0 ≤ q3 ∧ q3 ≤ n ∧ m = ((rcP (fDn n R33 K34 D36 p) q3.toNat).length : Int)) (fun ⟨q3, m⟩ => [(1, .int .i64 p), (2, .bool false), (9, .pointer (some ⟨b15, 0, none⟩)), (11, .pointer (some ⟨lb28, 0, none⟩)), (12, .slice A94 P53.length c95), (13, .slice A97 W54.length c98), (14, .pointer (some ⟨b59, 0, none⟩)), (15, .int .i64 (n * n)), (16, .int .i64 q), (22, .int .i64 q3), (21, .int .i64 m)]) (fun ⟨q3, m⟩ => [cel b59 [.int .i64 n, .slice A91 W88.length c92] 29, rw_ eZ 3 (.slice A91 W88.length c92) W88, rw_ eZ 3 (.slice A84 Y.length c85) Y, cel lb28 [.slice A39 R33.length c40, .slice A42 K34.length c43, .slice A45 U35.length c46, .slice A48 D36.length c49] 76, rw_ eZ 3 (.slice A39 R33.length c40) R33, rw_ eLK 44 (.slice A42 K34.length c43) K34, rw_ eIL 27 (.slice A45 U35.length c46) U35, rw_ eIL 27 (.slice A48 D36.length c49) D36, nestIL 3 U35, nestIL 3 D36, rw_ eZ 3 (.slice A94 P53.length c95) P53, rw_ eZ 3 (.slice A97 W54.length c98) W54, cel b2 [.slice A22 fi5.length c23, .slice A25 ed6.length c26] 106, rw_ eZ 3 (.slice A22 fi5.length c23) fi5, rw_ eEG 72 (.slice A25 ed6.length c26) ed6, cel b15 [.int .i64 n, .slice A19 W9.length c20] 29, cel b14 [.int .i64 n, .slice A16 ((tabF n false l).length) c17] 29, rw_ eZ 3 (.slice A16 ((tabF n false l).length) c17) (tabF n false l), rw_ eZ 3 (.slice A19 W9.length c20) W9, cel b1 [.int .i64 n, .slice A l.length c] 24]) (fun _ => S) (fun _ => wf) (fun ⟨q3, m⟩ => (n - q3).toNat) (fun a_ w_ hs_ hw_ => ⟨⟨0, 0⟩, (by (try dsimp only); exact ⟨oO, oO, G⟩), hs_.mono (Sub.get (.c4 G G G G (.c4 G G G G (.c G (.c G (.c G .n)))))), hw_.keep (.d (.d (.d (.d (.d (.d (.d (.d (.d (.d .n))))))))))⟩) (fun ⟨q3, m⟩ ⟨u_0, u_1, u_2⟩ => ?_)))
 try dsimp only
 have hmr := rch_len (f := (fDn n R33 K34 D36 p)) q3.toNat
 refine .seq (.seq (.region (.m G G G (.f fo29_0 0 G G G G (.l ty3 15 G G G G G ?_)))))
 refine .e G G G G G (.go idQ (.condI G bD (fun h100 => ?_) (fun h100 => ?_)))
 ·
  refine .skipgo idQ (.seq (.block (.seq ?_)))
  have hix1 := idx_rng (n := n) (a := p) (b := q3) ⟨by omega, by omega⟩ ⟨by omega, by omega⟩
  have hix2 := idx_rng (n := n) (a := q3) (b := p) ⟨by omega, by omega⟩ ⟨by omega, by omega⟩
  have hcv : gt W88 (q3 * n + p) = (fDn n R33 K34 D36 p) q3 := hM2.at_ q3 p oO oO oO oO
  refine .region (.f fo29_1 1 G G G G (.l ty27 0 G G G G G (.m G G G ?_)))
  refine .f fo29_0 0 G G G G (.l ty3 15 G G G G G (.v (ev_mul G G G (r := (p * n)) G oO oO) G (.m G G G ?_)))
  refine .p (((p * n) + q3)) oO oO G G G G G (.v (ev_ix G underlying27 ty3 G G oO oO (row_adr (i := ((p * n) + q3)) 1 G oO oO)) G (.v (ev_ld1 G ty3 G (At.elem1 (row_el (E := eZ) (l := W88) (i := ((p * n) + q3)) 1 G oO oO) 0 G)) G (.a G G G ?_)))
  refine .go idQ (.seq (.seq (.region (.m G G G (.v (ev_not G G) G (.go idQ ?_))))))
  refine .cond_t G ?_
  refine .region (.f fo29_1 1 G G G G (.l ty27 0 G G G G G (.m G G G ?_)))
  refine .f fo29_0 0 G G G G (.l ty3 15 G G G G G (.v (ev_mul G G G (r := (q3 * n)) G oO oO) G (.m G G G ?_)))
  refine .p (((q3 * n) + p)) oO oO G G G G G (.v (ev_ix G underlying27 ty3 G G oO oO (row_adr (i := ((q3 * n) + p)) 1 G oO oO)) G (.v (ev_ld1 G ty3 G (At.elem1 (row_el (E := eZ) (l := W88) (i := ((q3 * n) + p)) 1 G oO oO) 0 G)) G (.a G G G ?_)))
  refine .go idQ (.seq (.seq (.region (.m G G G (.e G G G G G (.go idQ ?_))))))
  refine .condI G bD (fun h101 => ?_) (fun h101 => ?_)
  ·
   refine .exit idQ ?_
   refine .region (.m G G G (.p ((q3 + 1)) oO oO G G G G G (.a G G G ?_)))
   exact SP.nil (SQ.roundb (X := Int × Int) (x := (q3, m)) ⟨(q3 + 1), m⟩ (by (try dsimp only); exact ⟨oO, oO, (by rw [rch_not (f := (fDn n R33 K34 D36 p)) oO oO]; exact u_2)⟩) dO (Sub.get (.c4 G G G G (.c4 G G G G (.c G (.c G (.c G .n)))))) (kp (.d (.d (.d (.d (.d (.d (.d (.d (.d (.d .n))))))))))))
  refine .skipgo idQ (.seq (.seq ?_))
  have hra := rch_at (f := (fDn n R33 K34 D36 p)) (n := n) (q := q3) oO oO oO
  rw [← p56, ← p57, ← u_2] at hra
  refine .region (.m G G G (.m G G G (.g underlying27 G G G ?_)))
  refine .e G G G G G (.m G G G ?_)
  refine SP.reslot (t := 161) G (decide_eq_false oO) ?_
  refine .cons (.on G G G (Ev.step (ev_mv G G) G G G ?_))
  refine .cons (.on G G G (Ev.step (ev_mv G G) G G G ?_))
  refine .cons (.on G G G (Ev.step (ev_len G underlying27 G) G G G ?_))
  refine .cons (.on G G G (Ev.step (ev_cmp G G G G) G G G ?_))
  refine .v (ev_pickf G G G G) G (.m G G G ?_)
  refine SP.reslot (t := 167) G (decide_eq_false oO) ?_
  refine .cons (.on G G G (Ev.step (ev_mv G G) G G G ?_))
  refine .cons (.on G G G (Ev.step (ev_mv G G) G G G ?_))
  refine .cons (.on G G G (Ev.step (ev_ix G underlying27 ty3 G G oO oO (row_adr (i := m) 10 G oO oO)) G G G ?_))
  refine .cons (.on G G G (Ev.step (ev_ld1 G ty3 G (At.elem1 (row_el (E := eZ) (l := P53) (i := m) 10 G oO oO) 0 G)) G G G ?_))
  refine .cons (.on G G G (Ev.step (ev_mv G G) G G G ?_))
  refine .cons (.on G G G (Ev.step (ev_cmp G G G G) G G G ?_))
  refine .v (ev_pickf G G G G) G (.m G G G ?_)
  refine SP.reslot (t := 175) G (bne_eq_false_iff_eq.2 hra.2.2.1) ?_
  refine .cons (.on G G G (Ev.step (ev_mv G G) G G G ?_))
  refine .cons (.on G G G (Ev.step (ev_mv G G) G G G ?_))
  refine .cons (.on G G G (Ev.step (ev_ix G underlying27 ty3 G G oO oO (row_adr (i := m) 11 G oO oO)) G G G ?_))
  refine .cons (.on G G G (Ev.step (ev_ld1 G ty3 G (At.elem1 (row_el (E := eZ) (l := W54) (i := m) 11 G oO oO) 0 G)) G G G ?_))
  refine .cons (.on G G G (Ev.step (ev_mv G G) G G G ?_))
  refine .cons (.on G G G (Ev.step (ev_cmp G G G G) G G G ?_))
  refine .v (ev_pickf G G G G) G (.go idQ (.condI G bNE (fun h102 => ?_) (fun h102 => ?_)))
  ·
   exfalso; omega
  refine .skipgo idQ (.region (.m G G G (.p ((m + 1)) oO oO G G G G G (.a G G G ?_))))
  refine .go idQ (.region (.m G G G (.p ((q3 + 1)) oO oO G G G G G (.a G G G ?_))))
  exact SP.nil (SQ.roundb (X := Int × Int) (x := (q3, m)) ⟨(q3 + 1), (m + 1)⟩ (by (try dsimp only); exact ⟨oO, oO, (by have h_ := hra.2.2.2.2; omega)⟩) dO (Sub.get (.c4 G G G G (.c4 G G G G (.c G (.c G (.c G .n)))))) (kp (.d (.d (.d (.d (.d (.d (.d (.d (.d (.d .n))))))))))))
 refine .exit idQ ?_
 refine .seq ?_
 have hme : m = (P53.length : Int) := by rw [u_2, p56, show q3 = n from by omega]
 have hme2 : m = (W54.length : Int) := by omega
 refine .region (.m G G G (.m G G G (.g underlying27 G G G ?_)))
 refine .e G G G G G (.m G G G ?_)
 refine SP.reslot (t := 189) G (beq_iff_eq.2 hme) ?_
 refine .cons (.on G G G (Ev.step (ev_mv G G) G G G ?_))
 refine .cons (.on G G G (Ev.step (ev_mv G G) G G G ?_))
 refine .cons (.on G G G (Ev.step (ev_len G underlying27 G) G G G ?_))
 refine .cons (.on G G G (Ev.step (ev_cmp G G G G) G G G ?_))
 refine .v (ev_pickt G G G G) G (.a G G G (.go idQ (.ret idQ (ret1 results5 G .n ⟨(congrArg Value.bool (beq_iff_eq.2 hme2)), G⟩))))
theorem climbReachesDOutF (n : Int) (A : Option Addr) (c : Nat) (l : List AR) (p : Int) (S : Nat → Prop) (wf : World) (hA : Fr eAR S wf A l) (hR : RoadOk n l) (hp : ¬ (0 ≤ p ∧ p < n)) :
  TR0 prog 5 [.agg #[.int .i64 n, .slice A l.length c], .int .i64 p, .bool false] [] S wf (fun v_ C_ => v_ = .bool true ∧ C_ = []) := by
 have hla := hA.len
 have hlen := hR.len
 have hnp := hR.pl
 have hto := tab_ok (d := false) hR
 have htl := hto.len
 have hsq := sq_le hnp
 refine TR.mk func5 G ntmps5 G G (fun w_ => ?_)
 refine .seq (.region (.cons (st_boxa G G G G G (fun b1 => (.a G G G (.go idQ (.seq (.seq (.region ?_)))))))))
 refine .cons (st_callk G G G G hbd9 G .n (awake8_ _ _) ?_)
 refine .v (ev_not G G) G (.go idQ (.cond_f G (.skipgo idQ (.seq (.region ?_)))))
 refine .d 0 ty24 G G G G (.cons (st_call0 G G G G hbd10 G .n (graphF n A c l _ _ hA hR) (fun v_q10 C_q10 q10 => ?_)))
 obtain ⟨b2, u3, v4, fi5, ed6, x7, y8, W9, p11, p12, p13, rfl, rfl⟩ := q10
 show SP _ _ _ _ _ _ ⟨_, _ :: _ :: _ :: _ :: _ :: _, _, _⟩
 have hgl := p11.len
 have hgn := p11.ne
 refine .m G G G (.x G G G G (.x G G G G (.x G G G G ?_)))
 refine .x G G G G (.cons (st_alloc G G G G zf29 (fun b14 => (.cons (st_alloc G G G G zf29 (fun b15 => (.a G G G ?_)))))))
 refine .know (row_len 5 G) (fun hv18 => ?_)
 obtain ⟨A16, c17, rfl, hv18_1, hv18_2⟩ := hv18
 unfold maxLen at hv18_2
 refine .cons (st_storea (l' := [.int .i64 n, .slice A16 ((tabF n false l).length) c17]) G G G ty29 G G G (.t .h) G G ?_)
 refine .know (row_len 6 G) (fun hv21 => ?_)
 obtain ⟨A19, c20, rfl, hv21_1, hv21_2⟩ := hv21
 unfold maxLen at hv21_2
 refine .cons (st_storea (l' := [.int .i64 n, .slice A19 W9.length c20]) G G G ty29 G G G (.t .h) G G ?_)
 refine .a G G G (.go idQ (.seq (.seq (.region (.m G G G (.v (ev_not G G) G ?_))))))
 refine .go idQ (.cond_f G (.skipgo idQ (.seq (.region (.m G G G ?_)))))
 refine .know (row_len 3 G) (fun hv24 => ?_)
 obtain ⟨A22, c23, rfl, hv24_1, hv24_2⟩ := hv24
 unfold maxLen at hv24_2
 refine .know (row_len 4 G) (fun hv27 => ?_)
 obtain ⟨A25, c26, rfl, hv27_1, hv27_2⟩ := hv27
 unfold maxLen at hv27_2
 refine .cons (st_lend0 G G G G hbd11 G (.c (.t2 .h) .n) (.c (.t2 .h) (.c (.t2 .h) .n)) (fun w_ hw => build_ n (tabF n false l) b2 A22 c23 fi5 A25 c26 ed6 _ _ (Fr.lend hw 0 G lO) (Fr.lend hw 1 G lO) hto p11 lO) (fun v_q37 C_q37 q37 => ?_))
 obtain ⟨lb28, v129, v230, v331, v432, R33, K34, U35, D36, p38, rfl, rfl⟩ := q37
 show SP _ _ _ _ _ _ ⟨_, _ :: _ :: _ :: _ :: _ :: _ :: _ :: _ :: _ :: _ :: _, _, _⟩
 have hC := lc hto p11 p38
 have hWk := ways_k hto p11 p38
 have hRn := hC.hR
 refine .a G G G (.go idQ (.seq (.know (row_len 2 G) (fun hv41 => ?_))))
 obtain ⟨A39, c40, rfl, hv41_1, hv41_2⟩ := hv41
 unfold maxLen at hv41_2
 refine .know (row_len 3 G) (fun hv44 => ?_)
 obtain ⟨A42, c43, rfl, hv44_1, hv44_2⟩ := hv44
 unfold maxLen at hv44_2
 refine .know (row_len 4 G) (fun hv47 => ?_)
 obtain ⟨A45, c46, rfl, hv47_1, hv47_2⟩ := hv47
 unfold maxLen at hv47_2
 refine .know (row_len 5 G) (fun hv50 => ?_)
 obtain ⟨A48, c49, rfl, hv50_1, hv50_2⟩ := hv50
 unfold maxLen at hv50_2
 refine .region (.m G G G (.m G G G (.m G G G ?_)))
 refine .cons (st_callk G G G G hbd16 G (.c (.t .h) (.c (.t .h) (.c (.t .h) (.c (.t .h) (.c (.t .h) (.c (.t .h) (.c (.t .h) .n))))))) (reachno_ lb28 A39 c40 R33 A42 c43 K34 A45 c46 U35 A48 c49 D36 n (tabF n false l) p false _ _ hC hp) ?_)
 refine .m G G G (.x G G G G (.x G G G G (.a G G G ?_)))
 refine .a G G G (.go idQ (.seq (.seq (.region (.m G G G (.e G G G G G ?_))))))
 refine .m G G G (.w (fun _ => ev_mv G G) G (.w (fun _ => ev_fa G fo29_0 G (r := 0) G) G (.w (fun hb => ev_ld1 G ty3 (lkg G hb) (At.own1 10 G G)) G ?_)))
 refine .w (fun hb => ev_cmp G (lkg G hb) (lkg G hb) G) G (.r G G G G G (.go idQ (.condI G (bO bD bD) (fun h51 => ?_) (fun h51 => ?_))))
 ·
  refine .seq (.region (.m G G G (.g underlying27 G G G (.v (ev_cmp (r := true) G G G G) G ?_))))
  refine .m G G G (.cons (.on G G G (Ev.step (ev_mv G G) G G G (.cons (.on G G G (Ev.step (ev_len G underlying27 G) G G G (.cons (.on G G G (Ev.step (ev_cmp (r := true) G G G G) G G G ?_)))))))))
  refine .v (ev_pickt G G G G) G (.a G G G (.go idQ (.ret idQ (ret1 results5 G .n ⟨G, G⟩))))
 exfalso; omega
theorem climbReachesDBadF (n : Int) (A : Option Addr) (c : Nat) (l : List AR) (p : Int) (S : Nat → Prop) (wf : World) (hA : Fr eAR S wf A l) (hR : ¬ RoadOk n l) :
  TR0 prog 5 [.agg #[.int .i64 n, .slice A l.length c], .int .i64 p, .bool false] [] S wf (fun v_ C_ => v_ = .bool true ∧ C_ = []) := by
 have hla := hA.len
 refine TR.mk func5 G ntmps5 G G (fun w_ => ?_)
 refine .seq (.region (.cons (st_boxa G G G G G (fun b1 => (.a G G G (.go idQ (.seq (.seq (.region ?_)))))))))
 refine .cons (st_callk G G G G hbd9 G .n (awake8_ _ _) ?_)
 refine .v (ev_not G G) G (.go idQ (.cond_f G (.skipgo idQ (.seq (.region ?_)))))
 refine .d 0 ty24 G G G G (.cons (st_callk G G G G hbd10 G .n (graphbadF n A c l _ _ hA hR) (.m G G G (.x G G G G ?_))))
 refine .x G G G G (.x G G G G (.x G G G G (.cons (st_alloc G G G G zf29 (fun b2 => ?_)))))
 refine .cons (st_alloc G G G G zf29 (fun b3 => ?_))
 refine .a G G G (.cons (st_storea (l' := [.int .i64 0, .slice none 0 0]) G G G ty29 G G G (.t .h) G G (.cons (st_storea (l' := [.int .i64 0, .slice none 0 0]) G G G ty29 G G G (.t .h) G G (.a G G G ?_)))))
 refine .go idQ (.seq (.seq (.region (.m G G G (.v (ev_not G G) G (.go idQ ?_))))))
 refine .cond_t G ?_
 refine .seq (.region (.a G G G (.go idQ (.ret idQ (ret1 results5 G .n ⟨G, G⟩)))))
end Go.Proofs.Ytpjblnmophcdmaa.Sx
namespace Go.Proofs.Ytpjblnmophcdmaa.Sx
open Go Go.SX Go.Proofs Go.Proofs.Try
theorem climbReaches_ (n : Int) (A : Option Addr) (c : Nat) (l : List AR) (p : Int) (up : Bool) (S : Nat → Prop) (wf : World) (hA : Fr eAR S wf A l) : TR0 prog 5 [.agg #[.int .i64 n, .slice A l.length c], .int .i64 p, .bool up] [] S wf (fun v C => v = .bool true ∧ C = []) :=
 (Classical.em (RoadOk n l)).elim (fun h => (Classical.em (0 ≤ p ∧ p < n)).elim (fun hp => match up with | true => climbReachesUInF n A c l p S wf hA h hp | false => climbReachesDInF n A c l p S wf hA h hp) (fun hp => match up with | true => climbReachesUOutF n A c l p S wf hA h hp | false => climbReachesDOutF n A c l p S wf hA h hp)) (fun h => match up with | true => climbReachesUBadF n A c l p S wf hA h | false => climbReachesDBadF n A c l p S wf hA h)
end Go.Proofs.Ytpjblnmophcdmaa.Sx
namespace Go.SX
open Go Go.RowKit
def TellsW (P : Program) (w : World) (e : TypeId) {α : Type} (E : Enc α) (good : α → Prop) : Prop :=
  ∀ {H : Type} (enc : TypeId × Value → H) (base : Nat) (spare : Nat → Bool) (held : Bool) (n : Nat) (cs : List Value) (y : DataW H × List MemPlace), DataW.trod enc P w base spare held n e cs = some y → (∀ b ∈ y.1.weights P e, b ≤ reachBytes) → ∃ a, cs = E.enc a ∧ good a
section
variable {H : Type} {enc : TypeId × Value → H} {P : Program} {w : World} {base : Nat} {spare : Nat → Bool} {held : Bool}
theorem weightsAll_mem {e : TypeId} {d : DataW H} {b : Nat} : ∀ {l : List (DataW H)}, d ∈ l → b ∈ d.weights P e → b ∈ DataW.weightsAll P e l
  | [], h, _ => by cases h
  | x :: r, h, hb => by
    unfold DataW.weightsAll
    rcases List.mem_cons.1 h with rfl | h
    · exact List.mem_append_left _ hb
    · exact List.mem_append_right _ (weightsAll_mem h hb)
theorem rows_w {α : Type} [Inhabited α] {E : Enc α} {good : α → Prop} {t e : TypeId} {fuel : Nat} {cs : List Value} {x : DataW H × List MemPlace} (ht : P.underlying t = some (.slice e)) (he : P.cellsOf e = E.sz) (hT : TellsW P w e E good) (hbo : 1 ≤ P.bytesOf e)
    (h : DataW.trod enc P w base spare held fuel t cs = some x) (hw : ∀ b ∈ x.1.weights P t, b ≤ reachBytes) :
    ∃ A l cap, cs = [.slice A l.length cap] ∧ Fr E (fun b => b < w.heap.size) w A l ∧ ∀ y ∈ l, good y := by
  rcases DataW.trod_slice ht h with h0 | ⟨a, len, cap, elems, rest, n, hx1, rfl, rfl, hb, hl, hm, hlen, hel, hsp, hns⟩
  · exact ⟨none, [], 0, h0.1, Fr.nil _ _ _ _, by simp⟩
  have hw2 : ∀ b ∈ DataW.weights P t (.slice (elems.map (·.1)) (rest.map (·.1))), b ≤ reachBytes := hw
  have each : ∀ i, i < len → ∃ x : α, good x ∧ w.cells? base (a.add (i * E.sz)) E.sz = some (E.enc x) := by
    intro i hi
    have h1 := hel i hi
    have h2 : elems[i]? = some (elems[i]'(by omega)) := List.getElem?_eq_getElem (by omega)
    rw [h2, he, Option.bind_eq_some_iff] at h1
    obtain ⟨cs', h3, h4⟩ := h1
    obtain ⟨x, rfl, hg⟩ := hT enc base spare held n cs' _ h4 (fun b hb => hw2 b (by
      unfold DataW.weights
      rw [ht]
      exact List.mem_cons_of_mem _ (List.mem_append_left _ (weightsAll_mem (List.mem_map_of_mem (List.getElem_mem (by omega))) hb))))
    exact ⟨x, hg, h3⟩
  let f : Nat → α := fun i => if hi : i < len then (each i hi).choose else default
  have hf : ∀ i (hi : i < len), f i = (each i hi).choose := fun i hi => dif_pos hi
  have hbig : len ≤ 140737488355328 := by
    have h1 := hw2 ((elems.map (·.1)).length + (rest.map (·.1)).length |>.mul (P.bytesOf e)) (by unfold DataW.weights; rw [ht]; exact List.mem_cons_self ..)
    have h11 : elems.length * 1 ≤ ((elems.map (·.1)).length + (rest.map (·.1)).length) * P.bytesOf e := Nat.mul_le_mul (by simp) hbo
    have h12 : reachBytes < 2 ^ 47 := reachBytes_lt
    have h13 : ((elems.map (·.1)).length + (rest.map (·.1)).length) * P.bytesOf e ≤ reachBytes := h1
    omega
  have hgood : ∀ x ∈ (List.range len).map f, good x := by
    intro x hx
    obtain ⟨i, hi, rfl⟩ := List.mem_map.1 hx
    have hlt : i < len := by simpa using hi
    rw [hf i hlt]
    exact (each i hlt).choose_spec.1
  refine ⟨some a, (List.range len).map f, cap, by simp, ⟨by simpa using hbig, ?_⟩, hgood⟩
  rcases Nat.eq_zero_or_pos len with h0 | h0
  · subst h0; exact .inl (by simp)
  have hat : ∀ i, i < len → ∀ j u, (E.enc (f i))[j]? = some u → w.cell? (a.add (i * E.sz + j)) = some u := by
    intro i hi j u hj
    obtain ⟨_, h1, h2⟩ := World.cells?_some (each i hi).choose_spec.2
    rw [← hf i hi] at h1 h2
    have hjs : j < E.sz := by have := (List.getElem?_eq_some_iff.1 hj).1; omega
    rw [← add_zero_add, h2 j hjs, hj]
  have hpos := E.pos
  have hspot : a.spot = none := by
    have h1 : (E.enc (f 0)).length = E.sz := E.len _
    have h2 := hat 0 h0 0 ((E.enc (f 0))[0]'(by omega)) (List.getElem?_eq_getElem (by omega))
    have h3 := World.cell?_spot h2
    simpa [Addr.add] using h3
  obtain ⟨b, off, spot⟩ := a
  simp only at hspot
  subst hspot
  have hall : ∀ i x, ((List.range len).map f)[i]? = some x → At w b (off + i * E.sz) (E.enc x) := fun i x hx j u hu => by
    simp only [List.getElem?_map, Option.map_eq_some_iff] at hx
    obtain ⟨i', hi', rfl⟩ := hx
    have hi2 := List.getElem?_eq_some_iff.1 hi'
    obtain ⟨hlt, heq⟩ := hi2
    simp at heq hlt
    subst heq
    have := hat i hlt j u hu
    rw [show off + i * E.sz + j = off + (i * E.sz + j) from by omega]
    have e1 : (⟨b, off, none⟩ : Addr).add (i * E.sz + j) = ⟨b, off + (i * E.sz + j), none⟩ := by
      unfold Addr.add
      split
      · rename_i h0; rw [h0]; rfl
      · rfl
    rwa [e1] at this
  refine .inr ⟨b, off, rfl, ?_, hall⟩
  have hx := hall 0 (f 0) (by simp [h0])
  have hl1 := E.len (f 0)
  have := hx 0 ((E.enc (f 0))[0]'(by omega)) (List.getElem?_eq_getElem (by omega))
  unfold World.cell? at this
  cases hb1 : w.heap[b]? with
  | none => simp only [hb1] at this; cases this
  | some o => exact lt_of_some hb1
theorem struct_w {t : TypeId} {fuel : Nat} {cs : List Value} {x : DataW H × List MemPlace} {fs : Array Field} (ht : P.underlying t = some (.struct fs)) (h : DataW.trod enc P w base spare held fuel t cs = some x) (hw : ∀ b ∈ x.1.weights P t, b ≤ reachBytes) :
    ∃ n, cs.length = P.cellsOf t ∧ ∀ (i : Nat) (f : Field), fs[i]? = some f → ∃ y : DataW H × List MemPlace, DataW.trod enc P w base spare held n f.type ((cs.drop f.offset).take (P.cellsOf f.type)) = some y ∧ ∀ b ∈ y.1.weights P f.type, b ≤ reachBytes := by
  obtain ⟨xs, n, _, rfl, hl, hx, hf⟩ := DataW.trod_struct ht h
  refine ⟨n, hl, fun i f hi => ?_⟩
  have h1 := hf i f hi
  have hlt : i < fs.size := (Array.getElem?_eq_some_iff.1 hi).1
  rw [List.getElem?_eq_getElem (by omega)] at h1
  refine ⟨xs[i]'(by omega), h1, fun b hb => hw b ?_⟩
  show b ∈ DataW.weights P t (.agg (xs.map (·.1)))
  unfold DataW.weights
  rw [ht]
  exact DataW.weights_mem_each (j := i) (d := (xs[i]'(by omega)).1) (by simp [hi]) (by simp [List.getElem?_eq_getElem (show i < xs.length by omega)]) b hb
end
end Go.SX
set_option maxRecDepth 20000
namespace Go.Proofs.Ytpjblnmophcdmaa.Sx
open Go Go.SX Go.Proofs Go.Proofs.Try
theorem cO24 : prog.cellsOf 24 = 2 := by kernel_rfl
theorem cO54 : prog.cellsOf 54 = 4 := by kernel_rfl
theorem cO22 : prog.cellsOf 22 = 1 := by kernel_rfl
theorem cO3 : prog.cellsOf 3 = 1 := by kernel_rfl
structure RDA where
 n : Int
 A : Option Addr
 c : Nat
 l : List AR
def eRDA : Enc RDA where
 sz := 2
 enc x := [.int .i64 x.n, .slice x.A x.l.length x.c]
 len _ := rfl
 one x u hu := by simp at hu; rcases hu with rfl | rfl <;> rfl
 pos := by decide
section
variable {w : World}
theorem tw54 : TellsW prog w 54 eAR (fun _ => True) := by
 intro H enc base spare held n cs y h hw
 obtain ⟨k, hl, hf⟩ := struct_w underlying54 h hw
 rw [cO54] at hl
 match cs, hl with
 | [v0, v1, v2, v3], _ =>
  obtain ⟨y0, h0, w0⟩ := hf 0 _ rfl
  replace h0 : DataW.trod enc prog w base spare held k 3 (([v0, v1, v2, v3].drop 0).take (prog.cellsOf 3)) = some y0 := h0
  rw [cO3] at h0
  replace h0 : DataW.trod enc prog w base spare held k 3 [v0] = some y0 := h0
  obtain ⟨y1, h1, w1⟩ := hf 1 _ rfl
  replace h1 : DataW.trod enc prog w base spare held k 3 (([v0, v1, v2, v3].drop 1).take (prog.cellsOf 3)) = some y1 := h1
  rw [cO3] at h1
  replace h1 : DataW.trod enc prog w base spare held k 3 [v1] = some y1 := h1
  obtain ⟨y2, h2, w2⟩ := hf 2 _ rfl
  replace h2 : DataW.trod enc prog w base spare held k 3 (([v0, v1, v2, v3].drop 2).take (prog.cellsOf 3)) = some y2 := h2
  rw [cO3] at h2
  replace h2 : DataW.trod enc prog w base spare held k 3 [v2] = some y2 := h2
  obtain ⟨y3, h3, w3⟩ := hf 3 _ rfl
  replace h3 : DataW.trod enc prog w base spare held k 3 (([v0, v1, v2, v3].drop 3).take (prog.cellsOf 3)) = some y3 := h3
  rw [cO3] at h3
  replace h3 : DataW.trod enc prog w base spare held k 3 [v3] = some y3 := h3
  obtain ⟨m0, e0, _, _⟩ := DataW.trod_int underlying3 h0
  simp only [List.cons.injEq, and_true] at e0
  subst e0
  obtain ⟨m1, e1, _, _⟩ := DataW.trod_int underlying3 h1
  simp only [List.cons.injEq, and_true] at e1
  subst e1
  obtain ⟨m2, e2, _, _⟩ := DataW.trod_int underlying3 h2
  simp only [List.cons.injEq, and_true] at e2
  subst e2
  obtain ⟨m3, e3, _, _⟩ := DataW.trod_int underlying3 h3
  simp only [List.cons.injEq, and_true] at e3
  subst e3
  exact ⟨⟨m0, m1, m2, m3⟩, G, trivial⟩
theorem tw24 : TellsW prog w 24 eRDA (fun x => Fr eAR (fun b => b < w.heap.size) w x.A x.l) := by
 intro H enc base spare held n cs y h hw
 obtain ⟨k, hl, hf⟩ := struct_w underlying24 h hw
 rw [cO24] at hl
 match cs, hl with
 | [v0, v1], _ =>
  obtain ⟨y0, h0, w0⟩ := hf 0 _ rfl
  replace h0 : DataW.trod enc prog w base spare held k 3 (([v0, v1].drop 0).take (prog.cellsOf 3)) = some y0 := h0
  rw [cO3] at h0
  replace h0 : DataW.trod enc prog w base spare held k 3 [v0] = some y0 := h0
  obtain ⟨y1, h1, w1⟩ := hf 1 _ rfl
  replace h1 : DataW.trod enc prog w base spare held k 22 (([v0, v1].drop 1).take (prog.cellsOf 22)) = some y1 := h1
  rw [cO22] at h1
  replace h1 : DataW.trod enc prog w base spare held k 22 [v1] = some y1 := h1
  obtain ⟨m0, e0, _, _⟩ := DataW.trod_int underlying3 h0
  simp only [List.cons.injEq, and_true] at e0
  subst e0
  obtain ⟨LA, ll, lc, el, fr, _⟩ := rows_w (E := eAR) underlying22 cO54 tw54 (by decide +kernel) h1 w1
  simp only [List.cons.injEq, and_true] at el
  subst el
  exact ⟨⟨m0, LA, lc, ll⟩, G, fr⟩
end
end Go.Proofs.Ytpjblnmophcdmaa.Sx
