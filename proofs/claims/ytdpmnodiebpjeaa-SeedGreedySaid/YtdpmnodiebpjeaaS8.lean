import Derived.Test.YtdpmnodiebpjeaaProg
import Derived.Test.YtdpmnodiebpjeaaS7
set_option linter.unusedVariables false
set_option linter.unusedSimpArgs false
set_option linter.unusedSectionVars false
set_option maxRecDepth 20000
set_option maxHeartbeats 1000000
namespace Go.Proofs.Ytdpmnodiebpjeaa.Sx.FM
open Go Go.SX Go.Proofs
theorem fo35_0 : fo Try.prog 35 0 = some 0 := by kernel_rfl
theorem ty33 : ty Try.prog 33 = some (false, 1) := by kernel_rfl
theorem ty43 : ty Try.prog 43 = some (true, 2) := by kernel_rfl
theorem fo43_0 : fo Try.prog 43 0 = some 0 := by kernel_rfl
theorem ty3 : ty Try.prog 3 = some (false, 1) := by kernel_rfl
theorem fo43_1 : fo Try.prog 43 1 = some 1 := by kernel_rfl
theorem ty41 : ty Try.prog 41 = some (false, 1) := by kernel_rfl
theorem ty46 : ty Try.prog 46 = some (true, 2) := by kernel_rfl
theorem ai46 : (Try.prog.info? 46).map (fun i => (i.zero, i.size, i.bytes)) = some (some (.agg #[.int .i64 0, .int .i64 0]), 2, 16) := by kernel_rfl
theorem ty54 : ty Try.prog 54 = some (true, 2) := by kernel_rfl
theorem hbd61 : hasBody Try.prog 61 = true := by kernel_rfl
theorem hbd62 : hasBody Try.prog 62 = true := by kernel_rfl
theorem fo54_0 : fo Try.prog 54 0 = some 0 := by kernel_rfl
theorem ty4 : ty Try.prog 4 = some (false, 1) := by kernel_rfl
theorem ai41 : (Try.prog.info? 41).map (fun i => (i.zero, i.size, i.bytes)) = some (some (.slice none 0 0), 1, 24) := by kernel_rfl
theorem ty29 : ty Try.prog 29 = some (true, 8) := by kernel_rfl
theorem hbd28 : hasBody Try.prog 28 = true := by kernel_rfl
theorem zf89 : (Try.prog.info? 89).bind (fun i => i.zero.map Value.cells) = some (List.toArray [.int .i64 0, .slice none 0 0, .int .i64 0, .int .i64 0, .int .i64 0, .int .i64 0, .int .i64 0]) := by kernel_rfl
theorem ty89 : ty Try.prog 89 = some (true, 7) := by kernel_rfl
theorem fo89_6 : fo Try.prog 89 6 = some 6 := by kernel_rfl
theorem fo29_4 : fo Try.prog 29 4 = some 6 := by kernel_rfl
theorem ty26 : ty Try.prog 26 = some (false, 1) := by kernel_rfl
theorem ai54 : (Try.prog.info? 54).map (fun i => (i.zero, i.size, i.bytes)) = some (some (.agg #[.bool false, .int .i64 0]), 2, 16) := by kernel_rfl
theorem fo29_5 : fo Try.prog 29 5 = some 7 := by kernel_rfl
theorem ty27 : ty Try.prog 27 = some (false, 1) := by kernel_rfl
theorem ai4 : (Try.prog.info? 4).map (fun i => (i.zero, i.size, i.bytes)) = some (some (.bool false), 1, 1) := by kernel_rfl
theorem hbd23 : hasBody Try.prog 23 = true := by kernel_rfl
theorem mo : Try.prog.follows .mixedOrders = true := by kernel_rfl
theorem zf35 : (Try.prog.info? 35).bind (fun i => i.zero.map Value.cells) = some (List.toArray [.slice none 0 0]) := by kernel_rfl
theorem ai43 : (Try.prog.info? 43).map (fun i => (i.zero, i.size, i.bytes)) = some (some (.agg #[.int .i64 0, .slice none 0 0]), 2, 32) := by kernel_rfl
theorem ty35 : ty Try.prog 35 = some (true, 1) := by kernel_rfl
end Go.Proofs.Ytdpmnodiebpjeaa.Sx.FM
namespace Go.Proofs.Ytdpmnodiebpjeaa.Sx
open Go Go.SX Go.Proofs FM
theorem rvisits_ (A : Option Addr) (c : Nat) (l : List RT) (v : Int) (S : Nat → Prop) (wf : World) (hA : Fr eRT S wf A l) (hRT : RTF S wf l) (hls : l.length ≤ 15) (hvs : ∀ i : Int, (gt l i).vis.length ≤ 50) (hcp : ∀ i : Int, (gt l i).vis.length ≤ (gt l i).rc) :
  TR0 Try.prog 44 [.agg #[.slice A l.length c], .int .i64 v] [] S wf (fun v_ C_ => ∃ (B : Option Addr) (d : Nat), (Fr eVis S wf B (visR v (l.map rc))) ∧ ((visR v (l.map rc)).length ≤ d) ∧ v_ = .slice B ((visR v (l.map rc)).length) d ∧ C_ = []) := by
 have hla := hA.len
 refine TR.mk Try.func44 rfl Try.ntmps44 rfl rfl (fun w_ => ?_)
 refine .seq (.region (.cons (st_boxa rfl rfl rfl rfl rfl (fun b1 => .a rfl rfl rfl (.go idQ (.seq ?_))))))
 refine .seq (.region (.a rfl rfl rfl (.go idQ (.block ?_))))
 refine .loop (X := Int) (fun i => 0 ≤ i ∧ i ≤ (l.length : Int) ∧ visR v ((l.map rc).drop i.toNat) = visR v (l.map rc)) (fun i => [(1, .int .i64 v), (2, .pointer (some ⟨b1, 0, none⟩)), (5, .int .i64 i)]) (fun i => [cel b1 [.slice A l.length c] 35]) (fun _ => S) (fun _ => wf) (fun i => ((l.length : Int) - i).toNat) (fun a_ w_ hs_ hw_ => ⟨0, (by exact ⟨(by omega), (by omega), rfl⟩), hs_.mono (Sub.get (.c rfl (.c rfl (.c rfl .n)))), hw_.keep (.c .h .n)⟩) (fun i ⟨q_0, q_1, q_2⟩ => ?_)
 try dsimp only
 refine .seq (.seq (.region (.m rfl rfl rfl (.v (ev_fa rfl fo35_0 rfl (r := 0) rfl) rfl (.v (ev_ld1 rfl ty33 rfl (At.own1 0 rfl rfl)) rfl ?_)))))
 refine .v (ev_len rfl Try.underlying33 rfl) rfl (.v (ev_cmp rfl rfl rfl rfl) rfl (.go idQ (.condI rfl bD (fun h2 => ?_) (fun h2 => ?_))))
 ·
  refine .skipgo idQ (.seq (.block (.seq (.region (.v (ev_fa rfl fo35_0 rfl (r := 0) rfl) rfl ?_)))))
  refine .v (ev_ld1 rfl ty33 rfl (At.own1 0 rfl rfl)) rfl (.m rfl rfl rfl (.v (ev_ix rfl Try.underlying33 ty43 rfl rfl (by omega) (by omega) (fun _ _ => Fr.adr (i := i) hA (by omega) (by omega))) rfl (.v (ev_fa rfl fo43_0 rfl (r := ao A + (i).toNat * 2) rfl) rfl (.v (ev_ld1 rfl ty3 rfl (At.elem1 (At.w (Fr.el (i := i) hA (by omega) (by omega))) 0 rfl)) rfl (.m rfl rfl rfl ?_)))))
  refine .v (ev_cmp rfl rfl rfl rfl) rfl (.go idQ (.condI rfl bE (fun h3 => ?_) (fun h3 => ?_)))
  ·
   refine .seq (.region (.v (ev_fa rfl fo35_0 rfl (r := 0) rfl) rfl (.v (ev_ld1 rfl ty33 rfl (At.own1 0 rfl rfl)) rfl (.m rfl rfl rfl (.v (ev_ix rfl Try.underlying33 ty43 rfl rfl (by omega) (by omega) (fun _ _ => Fr.adr (i := i) hA (by omega) (by omega))) rfl ?_)))))
   exact .v (ev_fa rfl fo43_1 rfl (r := ao A + (i).toNat * 2 + 1) rfl) rfl (.v (ev_ld1 rfl ty41 rfl (At.elem1 (At.w (Fr.el (i := i) hA (by omega) (by omega))) 1 rfl)) rfl (.a rfl rfl rfl (.go idQ (.ret idQ (ret1 Try.results44 rfl .n ⟨(gt l i).rA, (gt l i).rc, (by rw [← q_2, drop_rc (i := i) (by omega) (by omega), visR_cons, if_pos (by assumption)]; exact hRT i), (by rw [← q_2, drop_rc (i := i) (by omega) (by omega), visR_cons, if_pos (by assumption)]; exact hcp i), (by rw [← q_2, drop_rc (i := i) (by omega) (by omega), visR_cons, if_pos (by assumption)]), rfl⟩)))))
  exact .skipgo idQ (.region (.m rfl rfl rfl (.v (ev_add rfl rfl rfl (r := (i + 1)) rfl (by omega) (by omega)) rfl (.a rfl rfl rfl (SP.nil (SQ.roundb (X := Int) (x := (i)) (i + 1) (by exact ⟨(by omega), (by omega), (by have hq := q_2; rw [drop_rc (i := i) (by omega) (by omega), visR_cons] at hq; (repeat' split at hq) <;> first | exact hq | contradiction | (exfalso; omega))⟩) (by show (_ : Nat) < _; omega) (Sub.get (.c rfl (.c rfl (.c rfl .n)))) (fun w hw => hw.keep (.c .h .n))))))))
 exact .exit idQ (.seq (.region (.a rfl rfl rfl (.go idQ (.ret idQ (ret1 Try.results44 rfl .n ⟨none, 0, (by rw [← q_2, drop_end (by simp only [List.length_map]; omega)]; exact Fr.nil _ _ _ _), (by rw [← q_2, drop_end (by simp only [List.length_map]; omega)]; exact Nat.le_refl 0), (by rw [← q_2, drop_end (by simp only [List.length_map]; omega)]; rfl), rfl⟩))))))
theorem rput_ (A : Option Addr) (c : Nat) (l : List Vis) (i : Int) (x : Vis) (S : Nat → Prop) (wf : World) (hA : Fr eVis S wf A l) (hi0 : 0 ≤ i) (hi1 : i ≤ (l.length : Int)) (hll : l.length ≤ 100) (hc : l.length ≤ c) :
  TR0 Try.prog 62 [.slice A l.length c, .int .i64 i, .agg #[.int .i64 x.kind, .int .i64 x.item]] [] S wf (fun v_ C_ => ∃ (u : Value), v_ = u ∧ C_ = [rw_ eVis 46 (u) (ins1 l i x)]) := by
 have hla := hA.len
 refine TR.mk Try.func62 rfl Try.ntmps62 rfl rfl (fun w_ => ?_)
 refine .seq (.region (.cons (st_boxa rfl rfl rfl rfl rfl (fun b1 => .a rfl rfl rfl (.go idQ (.seq ?_))))))
 refine .region (.cons (st_lit eVis (e := 46) (l := []) rfl rfl rfl rfl (by kernel_rfl) rfl rfl (fun w => by kernel_rfl) (fun b2 => .m rfl rfl rfl (.m rfl rfl rfl (.v (ev_slc rfl Try.underlying41 ty46 rfl .n (.s rfl (by omega)) (by omega) (by omega)) rfl (.cons (st_app0 (E := eVis) (m := ((l.take (i).toNat).drop 0)) rfl rfl rfl rfl Try.underlying41 ai46 rfl rfl rfl .h (by (try simp only [List.length_take, List.length_drop]) <;> omega) (Src.w (Fr.flat (Fr.view hA 0 (i).toNat 2 rfl (by omega)))) (by first | ((try simp only [List.length_nil, List.length_cons, List.length_append, List.length_set, List.length_singleton, List.length_take, List.length_drop, List.length_reverse, List.length_take, List.length_drop]) <;> omega) | omega) rfl (fun v3 => ?_))))))))
 refine .a rfl rfl rfl (.go idQ (.seq (.region (.m rfl rfl rfl (.v (ev_lda rfl rfl (At.whole 1 rfl) ty46) rfl ?_)))))
 refine .cons (st_lit eVis (e := 46) (l := [x]) rfl rfl rfl rfl (by kernel_rfl) rfl rfl (fun w => by kernel_rfl) (fun b4 => .cons (st_app (E := eVis) (m := [x]) rfl rfl rfl rfl Try.underlying41 ai46 rfl rfl rfl (.t .h) (by first | rfl | omega | simp) (row_src 0 rfl) (by first | ((try simp only [List.length_nil, List.length_cons, List.length_append, List.length_set, List.length_singleton, List.length_take, List.length_drop, List.length_reverse, List.length_take, List.length_drop]) <;> omega) | omega) rfl (fun v5 => .a rfl rfl rfl (.go idQ (.seq (.region ?_)))))))
 refine .m rfl rfl rfl (.m rfl rfl rfl (.m rfl rfl rfl (.v (ev_slc rfl Try.underlying41 ty46 rfl (.s rfl (by omega)) .n (by omega) (by omega)) rfl (.cons (st_app (E := eVis) (m := ((l.take l.length).drop (i).toNat)) rfl rfl rfl rfl Try.underlying41 ai46 rfl rfl rfl .h (by (try simp only [List.length_take, List.length_drop]) <;> omega) (Src.w (Fr.flat (Fr.view hA (i).toNat l.length 2 rfl (by omega)))) (by first | ((try simp only [List.length_nil, List.length_cons, List.length_append, List.length_set, List.length_singleton, List.length_take, List.length_drop, List.length_reverse, List.length_take, List.length_drop]) <;> omega) | omega) rfl (fun v6 => .a rfl rfl rfl ?_))))))
 exact .go idQ (.ret idQ (ret1 Try.results62 rfl (.c .h .n) ⟨v6, rfl, (by simp)⟩))
theorem rways_ (A : Option Addr) (c : Nat) (l : List Vis) (t : TK) (S : Nat → Prop) (wf : World) (hA : Fr eVis S wf A l) (hll : l.length ≤ 48) (hc : l.length ≤ c) :
  TR0 Try.prog 45 [.slice A l.length c, .agg #[.bool t.ship, .int .i64 t.item]] [] S wf (fun v_ C_ => ∃ (u : Value) (Y : List VL), (Y.map VL.vl = waysF l t) ∧ (Y.length ≤ 4900) ∧ v_ = u ∧ C_ = [rw_ eVL 41 (u) Y, nestVL 46 Y]) := by
 have hla := hA.len
 have hv1 : 1 ≤ (visT t).length := by rcases visT_len t with h_ | h_ <;> omega
 refine TR.mk Try.func45 rfl Try.ntmps45 rfl rfl (fun w_ => ?_)
 refine .seq (.region (.cons (st_boxa rfl rfl rfl rfl rfl (fun b1 => .a rfl rfl rfl (.go idQ (.seq ?_))))))
 refine .region (.a rfl rfl rfl (.go idQ (.seq (.region (.v (ev_lda rfl rfl (At.whole 0 rfl) ty54) rfl ?_)))))
 refine .cons (st_call0 rfl rfl rfl rfl hbd61 rfl .n (rvis_ t _ _) (fun v_q3 C_q3 q3 => ?_))
 obtain ⟨u2, rfl, rfl⟩ := q3
 show SP _ _ _ _ _ _ ⟨_, _ :: _, _, _⟩
 refine .a rfl rfl rfl (.go idQ (.seq (.seq (.region (.a rfl rfl rfl ?_)))))
 refine .go idQ (.block ?_)
 refine SC.nilrow eVL 41 ?_
 refine SC.nestVL0 46 ?_
 refine .loop (X := Int × (List VL) × Value) (fun ⟨i, Y, u_Y⟩ => 0 ≤ i ∧ i ≤ (l.length : Int) + 1 ∧ Y.map VL.vl ++ waysI l t ((l.length : Int) + 1 - i).toNat i = waysF l t ∧ (Y.length : Int) ≤ 100 * i) (fun ⟨i, Y, u_Y⟩ => [(0, .slice A l.length c), (3, .pointer (some ⟨b1, 0, none⟩)), (4, .slice none 0 0), (6, v_q3), (7, .int .i64 i), (5, u_Y)]) (fun ⟨i, Y, u_Y⟩ => [nestVL 46 Y, rw_ eVL 41 (u_Y) Y, rw_ eVis 46 (v_q3) (visT t), cel b1 [.bool t.ship, .int .i64 t.item] 54]) (fun _ => S) (fun _ => wf) (fun ⟨i, Y, u_Y⟩ => ((l.length : Int) + 1 - i).toNat) (fun a_ w_ hs_ hw_ => ⟨⟨0, ([] : List VL), .slice none 0 0⟩, (by exact ⟨(by omega), (by omega), (by show _ ++ waysI l t ((l.length : Int) + 1 - 0).toNat 0 = waysI l t (l.length + 1) 0; rw [show ((l.length : Int) + 1 - 0).toNat = l.length + 1 from by omega]; rfl), (by simp)⟩), hs_.mono (Sub.get (.c4 rfl rfl rfl rfl (.c rfl (.c rfl .n)))), hw_.keep (.c .h (.c .h (.c .h (.c .h .n))))⟩) (fun ⟨i, Y, u_Y⟩ ⟨q_0, q_1, q_2, q_3⟩ => ?_)
 show SC _ _ _ _ _ ⟨[(0, .slice A l.length c), (3, .pointer (some ⟨b1, 0, none⟩)), (4, .slice none 0 0), (6, v_q3), (7, .int .i64 i), (5, u_Y)], [nestVL 46 Y, rw_ eVL 41 (u_Y) Y, rw_ eVis 46 (v_q3) (visT t), cel b1 [.bool t.ship, .int .i64 t.item] 54], S, wf⟩
 refine .seq (.seq (.region (.m rfl rfl rfl (.m rfl rfl rfl (.v (ev_len rfl Try.underlying41 rfl) rfl ?_)))))
 refine .v (ev_cmp rfl rfl rfl rfl) rfl (.go idQ (.condI rfl bD (fun h4 => ?_) (fun h4 => ?_)))
 ·
  refine .skipgo idQ (.seq (.block (.seq (.region (.m rfl rfl rfl ?_)))))
  refine .m rfl rfl rfl (.m rfl rfl rfl ?_)
  refine .know (row_len 2 rfl) (fun hv7 => ?_)
  obtain ⟨A5, c6, rfl, hv7_1, hv7_2⟩ := hv7
  unfold maxLen at hv7_2
  refine .v (ev_ix rfl Try.underlying41 ty46 rfl rfl (by omega) (by omega) (row_adr (i := 0) 2 rfl (by omega) (by first | ((try simp only [List.length_nil, List.length_cons, List.length_append, List.length_set, List.length_singleton, List.length_take, List.length_drop, List.length_reverse, List.length_take, List.length_drop]) <;> omega) | omega))) rfl (.v (ev_lda rfl rfl (row_el (E := eVis) (l := (visT t)) (i := 0) 2 rfl (by omega) (by first | ((try simp only [List.length_nil, List.length_cons, List.length_append, List.length_set, List.length_singleton, List.length_take, List.length_drop, List.length_reverse, List.length_take, List.length_drop]) <;> omega) | omega)) ty46) rfl (.cons (st_call0 rfl rfl rfl rfl hbd62 rfl .n (rput_ A c l i (gt (visT t) 0) _ _ hA (by omega) (by first | ((try simp only [List.length_nil, List.length_cons, List.length_append, List.length_set, List.length_singleton, List.length_take, List.length_drop, List.length_reverse, List.length_take, List.length_drop]) <;> omega) | omega) (by first | ((try simp only [List.length_nil, List.length_cons, List.length_append, List.length_set, List.length_singleton, List.length_take, List.length_drop, List.length_reverse, List.length_take, List.length_drop]) <;> omega) | omega) (by first | ((try simp only [List.length_nil, List.length_cons, List.length_append, List.length_set, List.length_singleton, List.length_take, List.length_drop, List.length_reverse, List.length_take, List.length_drop]) <;> omega) | omega)) (fun v_q9 C_q9 q9 => ?_))))
  obtain ⟨u8, rfl, rfl⟩ := q9
  show SP _ _ _ _ _ _ ⟨_, _ :: _, _, _⟩
  refine .a rfl rfl rfl (.go idQ (.seq (.seq ?_)))
  have h1l : (ins1 l i (gt (visT t) 0)).length = l.length + 1 := ins1_len (by omega) (by omega)
  refine .region (.v (ev_fa rfl fo54_0 rfl (r := 0) rfl) rfl (.v (ev_ld1 rfl ty4 rfl (At.own1 4 rfl rfl)) rfl (.v (ev_not rfl rfl) rfl (.go idQ (.condI rfl (bN bV) (fun h10 => ?_) (fun h10 => ?_))))))
  ·
   refine .seq (.region (.m rfl rfl rfl (.m rfl rfl rfl ?_)))
   refine .know (row_len 0 rfl) (fun hv13 => ?_)
   obtain ⟨A11, c12, rfl, hv13_1, hv13_2⟩ := hv13
   unfold maxLen at hv13_2
   refine .cons (st_lit eVL (e := 41) (l := [(VL.mk (ins1 l i (gt (visT t) 0)) A11 c12)]) rfl rfl rfl rfl (by kernel_rfl) rfl rfl (fun w => by kernel_rfl) (fun b14 => .cons (st_app (E := eVL) (m := [(VL.mk (ins1 l i (gt (visT t) 0)) A11 c12)]) rfl rfl rfl rfl Try.underlying51 ai41 rfl rfl rfl (.t (.t (.t .h))) (by first | rfl | omega | simp) (row_src 0 rfl) (by first | ((try simp only [List.length_nil, List.length_cons, List.length_append, List.length_set, List.length_singleton, List.length_take, List.length_drop, List.length_reverse, List.length_take, List.length_drop]) <;> omega) | omega) rfl (fun v15 => .a rfl rfl rfl (.go idQ (.exit idQ ?_))))))
   refine SC.packVL (VL.mk (ins1 l i (gt (visT t) 0)) A11 c12) (.c (.t (.t (.t .h))) (.c (.t (.t .h)) .n)) (by dsimp only; simp only [List.length_append, List.length_take, List.length_drop, List.length_singleton]; omega) ?_
   exact .region (.m rfl rfl rfl (.v (ev_add rfl rfl rfl (r := (i + 1)) rfl (by omega) (by omega)) rfl (.a rfl rfl rfl (SP.nil (SQ.roundb (X := Int × (List VL) × Value) (x := (i, Y, u_Y)) ⟨(i + 1), (Y ++ [(VL.mk (ins1 l i (gt (visT t) 0)) A11 c12)]), v15⟩ (by exact ⟨(by omega), (by omega), (by have hq := q_2; rw [waysI_step (by omega)] at hq; unfold waysO at hq; rw [if_neg (by assumption)] at hq; rw [List.map_append, List.append_assoc]; exact hq), (by (try simp only [List.length_append, List.length_singleton]); omega)⟩) (by dsimp only; omega) (Sub.get (.c4 rfl rfl rfl rfl (.c rfl (.c rfl .n)))) (fun w hw => hw.keep (.c .h (.c .h (.c (.t .h) (.c (.t .h) .n))))))))))
  refine .skipgo idQ (.seq ?_)
  have hsh : t.ship = true := Classical.not_not.1 (by assumption)
  have hv2 : (visT t).length = 2 := by rcases visT_len t with h_ | h_; exact h_.2; exact absurd hsh h_.1
  refine .region (.m rfl rfl rfl (.v (ev_add rfl rfl rfl (r := (i + 1)) rfl (by omega) (by omega)) rfl (.a rfl rfl rfl (.go idQ (.block ?_)))))
  refine .loop (X := Int × (List VL) × Value) (fun ⟨k, Z, u_Z⟩ => Z.map VL.vl ++ waysK (ins1 l i (gt (visT t) 0)) (gt (visT t) 1) ((l.length : Int) + 2 - k).toNat k = Y.map VL.vl ++ waysK (ins1 l i (gt (visT t) 0)) (gt (visT t) 1) ((l.length : Int) + 1 - i).toNat (i + 1) ∧ i + 1 ≤ k ∧ k ≤ (l.length : Int) + 2 ∧ (Z.length : Int) ≤ 100 * i + k) (fun ⟨k, Z, u_Z⟩ => [(0, .slice A l.length c), (3, .pointer (some ⟨b1, 0, none⟩)), (4, .slice none 0 0), (6, .slice A5 ((visT t).length) c6), (7, .int .i64 i), (8, v_q9), (9, .int .i64 k), (5, u_Z)]) (fun ⟨k, Z, u_Z⟩ => [rw_ eVis 46 (v_q9) (ins1 l i (gt (visT t) 0)), nestVL 46 Z, rw_ eVL 41 (u_Z) Z, rw_ eVis 46 (.slice A5 ((visT t).length) c6) (visT t), cel b1 [.bool t.ship, .int .i64 t.item] 54]) (fun _ => S) (fun _ => wf) (fun ⟨k, Z, u_Z⟩ => ((l.length : Int) + 2 - k).toNat) (fun a_ w_ hs_ hw_ => ⟨⟨(i + 1), Y, u_Y⟩, (by exact ⟨(by rw [show ((l.length : Int) + 2 - (i + 1)).toNat = ((l.length : Int) + 1 - i).toNat from by omega]), (by omega), (by omega), (by omega)⟩), hs_.mono (Sub.get (.c4 rfl rfl rfl rfl (.c4 rfl rfl rfl rfl .n))), hw_.keep (.c .h (.c .h (.c .h (.c .h (.c .h .n)))))⟩) (fun ⟨k, Z, u_Z⟩ ⟨r_0, r_1, r_2, r_3⟩ => ?_)
  show SC _ _ _ _ _ ⟨[(0, .slice A l.length c), (3, .pointer (some ⟨b1, 0, none⟩)), (4, .slice none 0 0), (6, .slice A5 ((visT t).length) c6), (7, .int .i64 i), (8, v_q9), (9, .int .i64 k), (5, u_Z)], [rw_ eVis 46 (v_q9) (ins1 l i (gt (visT t) 0)), nestVL 46 Z, rw_ eVL 41 (u_Z) Z, rw_ eVis 46 (.slice A5 ((visT t).length) c6) (visT t), cel b1 [.bool t.ship, .int .i64 t.item] 54], S, wf⟩
  refine .seq (.seq (.region (.m rfl rfl rfl (.m rfl rfl rfl (.v (ev_len rfl Try.underlying41 rfl) rfl ?_)))))
  refine .v (ev_add rfl rfl rfl (r := ((l.length : Int) + 1)) rfl (by omega) (by omega)) rfl (.v (ev_cmp rfl rfl rfl rfl) rfl (.go idQ (.condI rfl bD (fun h16 => ?_) (fun h16 => ?_))))
  ·
   refine .skipgo idQ (.seq (.block (.region (.m rfl rfl rfl (.m rfl rfl rfl ?_)))))
   refine .m rfl rfl rfl (.m rfl rfl rfl (.v (ev_ix rfl Try.underlying41 ty46 rfl rfl (by omega) (by omega) (row_adr (i := 1) 3 rfl (by omega) (by first | ((try simp only [List.length_nil, List.length_cons, List.length_append, List.length_set, List.length_singleton, List.length_take, List.length_drop, List.length_reverse, List.length_take, List.length_drop]) <;> omega) | omega))) rfl (.v (ev_lda rfl rfl (row_el (E := eVis) (l := (visT t)) (i := 1) 3 rfl (by omega) (by first | ((try simp only [List.length_nil, List.length_cons, List.length_append, List.length_set, List.length_singleton, List.length_take, List.length_drop, List.length_reverse, List.length_take, List.length_drop]) <;> omega) | omega)) ty46) rfl ?_)))
   refine .know (row_len 0 rfl) (fun hv19 => ?_)
   obtain ⟨A17, c18, rfl, hv19_1, hv19_2⟩ := hv19
   unfold maxLen at hv19_2
   refine .cons (st_lend0 rfl rfl rfl rfl hbd62 rfl .n (.c .h .n) (fun w_ hw => rput_ A17 c18 (ins1 l i (gt (visT t) 0)) k (gt (visT t) 1) _ _ (Fr.lend hw 0 rfl (by first | ((try simp only [List.length_nil, List.length_cons, List.length_append, List.length_set, List.length_singleton, List.length_take, List.length_drop, List.length_reverse, List.length_take, List.length_drop]) <;> omega) | omega)) (by omega) (by first | ((try simp only [List.length_nil, List.length_cons, List.length_append, List.length_set, List.length_singleton, List.length_take, List.length_drop, List.length_reverse, List.length_take, List.length_drop]) <;> omega) | omega) (by first | ((try simp only [List.length_nil, List.length_cons, List.length_append, List.length_set, List.length_singleton, List.length_take, List.length_drop, List.length_reverse, List.length_take, List.length_drop]) <;> omega) | omega) (by first | ((try simp only [List.length_nil, List.length_cons, List.length_append, List.length_set, List.length_singleton, List.length_take, List.length_drop, List.length_reverse, List.length_take, List.length_drop]) <;> omega) | omega)) (fun v_q21 C_q21 q21 => ?_))
   obtain ⟨u20, rfl, rfl⟩ := q21
   show SP _ _ _ _ _ _ ⟨_, _ :: _ :: _, _, _⟩
   refine .know (row_len 0 rfl) (fun hv24 => ?_)
   obtain ⟨A22, c23, rfl, hv24_1, hv24_2⟩ := hv24
   unfold maxLen at hv24_2
   refine .cons (st_lit eVL (e := 41) (l := [(VL.mk (ins1 (ins1 l i (gt (visT t) 0)) k (gt (visT t) 1)) A22 c23)]) rfl rfl rfl rfl (by kernel_rfl) rfl rfl (fun w => by kernel_rfl) (fun b25 => .cons (st_app (E := eVL) (m := [(VL.mk (ins1 (ins1 l i (gt (visT t) 0)) k (gt (visT t) 1)) A22 c23)]) rfl rfl rfl rfl Try.underlying51 ai41 rfl rfl rfl (.t (.t (.t (.t .h)))) (by first | rfl | omega | simp) (row_src 0 rfl) (by first | ((try simp only [List.length_nil, List.length_cons, List.length_append, List.length_set, List.length_singleton, List.length_take, List.length_drop, List.length_reverse, List.length_take, List.length_drop]) <;> omega) | omega) rfl (fun v26 => .a rfl rfl rfl (.go idQ ?_)))))
   refine SC.packVL (VL.mk (ins1 (ins1 l i (gt (visT t) 0)) k (gt (visT t) 1)) A22 c23) (.c (.t (.t (.t (.t .h)))) (.c (.t (.t .h)) .n)) (by dsimp only; simp only [List.length_append, List.length_take, List.length_drop, List.length_singleton]; omega) ?_
   exact .region (.m rfl rfl rfl (.v (ev_add rfl rfl rfl (r := (k + 1)) rfl (by omega) (by omega)) rfl (.a rfl rfl rfl (SP.nil (SQ.roundb (X := Int × (List VL) × Value) (x := (k, Z, u_Z)) ⟨(k + 1), (Z ++ [(VL.mk (ins1 (ins1 l i (gt (visT t) 0)) k (gt (visT t) 1)) A22 c23)]), v26⟩ (by exact ⟨(by have hq := r_0; rw [waysK_step (n := (l.length : Int) + 2) (by omega)] at hq; rw [List.map_append, List.append_assoc]; exact hq), (by omega), (by omega), (by simp only [List.length_append, List.length_singleton]; omega)⟩) (by dsimp only; omega) (Sub.get (.c4 rfl rfl rfl rfl (.c4 rfl rfl rfl rfl .n))) (fun w hw => hw.keep (.c (.t (.t (.t .h))) (.c .h (.c .h (.c (.t .h) (.c (.t .h) .n)))))))))))
  exact .exit idQ (.region (.m rfl rfl rfl (.v (ev_add rfl rfl rfl (r := (i + 1)) rfl (by omega) (by omega)) rfl (.a rfl rfl rfl (SP.nil (SQ.roundb (X := Int × (List VL) × Value) (x := (i, Y, u_Y)) ⟨(i + 1), Z, u_Z⟩ (by exact ⟨(by omega), (by omega), (by have hq := q_2; rw [waysI_step (by omega)] at hq; unfold waysO at hq; rw [if_pos hsh] at hq; rw [← List.append_assoc] at hq; rw [← hq]; congr 1; rw [← r_0, waysK_end (by omega), List.append_nil]), (by (try simp only [List.length_append, List.length_singleton]); omega)⟩) (by dsimp only; omega) (Sub.get (.c4 rfl rfl rfl rfl (.c rfl (.c rfl .n)))) (fun w hw => hw.keep (.c (.t .h) (.c (.t .h) (.c (.t .h) (.c (.t .h) .n)))))))))))
 refine .exit idQ (.seq (.region (.m rfl rfl rfl (.a rfl rfl rfl (.go idQ ?_)))))
 exact .ret idQ (ret1 Try.results45 rfl (.c (.t .h) (.c .h .n)) ⟨u_Y, Y, (by rw [← q_2, waysI_end (by omega), List.append_nil]), (by omega), rfl, rfl⟩)
theorem rcost_ (p : PB) (k : Int) (A : Option Addr) (c : Nat) (l : List Vis) (S : Nat → Prop) (wf : World) (hA : Fr eVis S wf A l) (hPB : PBF S wf p) (hL : LawP p) (hll : l.length ≤ 50) :
  TR0 Try.prog 43 [.agg #[.int .i64 p.dims, .int .i64 p.tn, .slice p.ptA p.time.length p.ptc, .int .i64 p.dn, .slice p.pdA p.dist.length p.pdc, .slice p.pvA p.vehs.length p.pvc, .slice p.pjA p.jobs.length p.pjc, .slice p.psA p.ships.length p.psc], .int .i64 k, .slice A l.length c] [] S wf (fun v_ C_ => v_ = .tuple #[.int .i64 ((costP p k l).1), .int .i64 ((costP p k l).2)] ∧ C_ = []) := by
 have hla := hA.len
 refine TR.mk Try.func43 rfl Try.ntmps43 rfl rfl (fun w_ => ?_)
 refine .seq (.region (.cons (st_boxa rfl rfl rfl rfl rfl (fun b1 => .a rfl rfl rfl (.a rfl rfl rfl (.go idQ ?_))))))
 refine .seq (.seq (.region (.m rfl rfl rfl (.v (ev_len rfl Try.underlying41 rfl) rfl (.v (ev_cmp rfl rfl rfl rfl) rfl ?_)))))
 refine .go idQ (.condI rfl bE (fun h2 => ?_) (fun h2 => ?_))
 ·
  exact .seq (.region (.a rfl rfl rfl (.a rfl rfl rfl (.go idQ (.ret idQ (ret2 Try.results43 rfl rfl .n ⟨(by unfold costP; rw [if_pos (by omega)] <;> rfl), rfl⟩))))))
 refine .skipgo idQ (.seq (.region (.v (ev_lda rfl rfl (At.whole 0 rfl) ty29) rfl (.m rfl rfl rfl (.m rfl rfl rfl ?_)))))
 refine .cons (st_call00 rfl rfl rfl rfl hbd28 rfl .n (rfit_ p k A c l _ _ hA hPB (by omega) (by first | omega | simp only [LL] <;> omega | simp <;> omega)) (by intro v C h; obtain ⟨_, _, _, _, rfl, rfl⟩ := h; rfl) (fun v_q7 q7 => ?_))
 obtain ⟨vh3, sA4, sn5, sc6, rfl, -⟩ := q7
 refine .m rfl rfl rfl (.v (ev_ext rfl rfl rfl) rfl (.v (ev_ext rfl rfl rfl) rfl (.cons (st_alloc rfl rfl rfl rfl zf89 (fun b8 => .cons (st_storea (l' := [.int .i64 vh3, .slice sA4 sn5 sc6, .int .i64 ((fitV p k l).time), .int .i64 ((fitV p k l).dist), .int .i64 ((fitV p k l).wait), .int .i64 ((fitV p k l).serv), .int .i64 ((fitV p k l).cost)]) rfl rfl rfl ty89 rfl rfl rfl .h rfl rfl (.a rfl rfl rfl ?_)))))))
 refine .go idQ (.seq (.region (.v (ev_fa rfl fo89_6 rfl (r := 6) rfl) rfl (.v (ev_ld1 rfl ty3 rfl (At.own1 0 rfl rfl)) rfl (.m rfl rfl rfl ?_)))))
 exact .a rfl rfl rfl (.a rfl rfl rfl (.go idQ (.ret idQ (ret2 Try.results43 rfl rfl .n ⟨(by unfold costP; rw [if_neg (by omega)] <;> rfl), rfl⟩))))
theorem rtasks_ (p : PB) (S : Nat → Prop) (wf : World) (hPB : PBF S wf p) (hL : LawP p) :
  TR0 Try.prog 20 [.agg #[.int .i64 p.dims, .int .i64 p.tn, .slice p.ptA p.time.length p.ptc, .int .i64 p.dn, .slice p.pdA p.dist.length p.pdc, .slice p.pvA p.vehs.length p.pvc, .slice p.pjA p.jobs.length p.pjc, .slice p.psA p.ships.length p.psc]] [] S wf (fun v_ C_ => ∃ (u : Value), v_ = u ∧ C_ = [rw_ eTK 54 (u) (taskL p)]) := by
 have hlj := hPB.2.2.2.1.1.len
 have hls := hPB.2.2.2.2.1.len
 have hnj := hL.nj
 refine TR.mk Try.func20 rfl Try.ntmps20 rfl rfl (fun w_ => ?_)
 refine .seq (.region (.cons (st_boxa rfl rfl rfl rfl rfl (fun b1 => .a rfl rfl rfl (.go idQ (.seq ?_))))))
 refine .region (.a rfl rfl rfl (.go idQ (.seq (.seq (.region ?_)))))
 refine .a rfl rfl rfl (.go idQ (.block ?_))
 refine SC.nilrow eTK 54 ?_
 refine .loop (X := Int × (List TK) × Value) (fun ⟨i, X, u_X⟩ => 0 ≤ i ∧ i ≤ (p.jobs.length : Int) ∧ X = (List.range i.toNat).map (fun i_ : Nat => (⟨false, (i_ : Int)⟩ : TK)) ∧ (X.length : Int) = i) (fun ⟨i, X, u_X⟩ => [(1, .pointer (some ⟨b1, 0, none⟩)), (2, .slice none 0 0), (4, .int .i64 i), (3, u_X)]) (fun ⟨i, X, u_X⟩ => [rw_ eTK 54 (u_X) X, cel b1 [.int .i64 p.dims, .int .i64 p.tn, .slice p.ptA p.time.length p.ptc, .int .i64 p.dn, .slice p.pdA p.dist.length p.pdc, .slice p.pvA p.vehs.length p.pvc, .slice p.pjA p.jobs.length p.pjc, .slice p.psA p.ships.length p.psc] 29]) (fun _ => S) (fun _ => wf) (fun ⟨i, X, u_X⟩ => ((p.jobs.length : Int) - i).toNat) (fun a_ w_ hs_ hw_ => ⟨⟨0, ([] : List TK), .slice none 0 0⟩, (by exact ⟨(by omega), (by omega), rfl, rfl⟩), hs_.mono (Sub.get (.c4 rfl rfl rfl rfl .n)), hw_.keep (.c .h (.c .h .n))⟩) (fun ⟨i, X, u_X⟩ ⟨q_0, q_1, q_2, q_3⟩ => ?_)
 show SC _ _ _ _ _ ⟨[(1, .pointer (some ⟨b1, 0, none⟩)), (2, .slice none 0 0), (4, .int .i64 i), (3, u_X)], [rw_ eTK 54 (u_X) X, cel b1 [.int .i64 p.dims, .int .i64 p.tn, .slice p.ptA p.time.length p.ptc, .int .i64 p.dn, .slice p.pdA p.dist.length p.pdc, .slice p.pvA p.vehs.length p.pvc, .slice p.pjA p.jobs.length p.pjc, .slice p.psA p.ships.length p.psc] 29], S, wf⟩
 refine .seq (.seq (.region (.m rfl rfl rfl (.v (ev_fa rfl fo29_4 rfl (r := 6) rfl) rfl (.v (ev_ld1 rfl ty26 rfl (At.own1 1 rfl rfl)) rfl ?_)))))
 refine .v (ev_len rfl Try.underlying26 rfl) rfl (.v (ev_cmp rfl rfl rfl rfl) rfl (.go idQ (.condI rfl bD (fun h2 => ?_) (fun h2 => ?_))))
 ·
  refine .skipgo idQ (.seq (.block (.region (.m rfl rfl rfl (.m rfl rfl rfl ?_)))))
  refine .v (ev_any (v := .agg #[.bool false, .int .i64 i]) rfl (by kernel_rfl) (fun _ => by kernel_rfl)) rfl (.cons (st_lit eTK (e := 54) (l := [(TK.mk false i)]) rfl rfl rfl rfl (by kernel_rfl) rfl rfl (fun w => by kernel_rfl) (fun b3 => .cons (st_app (E := eTK) (m := [(TK.mk false i)]) rfl rfl rfl rfl Try.underlying57 ai54 rfl rfl rfl (.t .h) (by first | rfl | omega | simp) (row_src 0 rfl) (by first | omega | simp only [LL] <;> omega | simp <;> omega) rfl (fun v4 => .a rfl rfl rfl (.go idQ (.region ?_)))))))
  exact .m rfl rfl rfl (.v (ev_add rfl rfl rfl (r := (i + 1)) rfl (by omega) (by omega)) rfl (.a rfl rfl rfl (SP.nil (SQ.roundb (X := Int × (List TK) × Value) (x := (i, X, u_X)) ⟨(i + 1), (X ++ [(TK.mk false i)]), v4⟩ (by exact ⟨(by omega), (by omega), (by have hn := range_next (by omega) q_2; rw [← hn]; rw [show ((i.toNat : Nat) : Int) = i from by omega]), (by simp only [List.length_append, List.length_singleton]; omega)⟩) (by dsimp only; omega) (Sub.get (.c4 rfl rfl rfl rfl .n)) (fun w hw => hw.keep (.c .h (.c (.t .h) .n)))))))
 refine .exit idQ (.seq (.seq (.region (.a rfl rfl rfl (.go idQ ?_)))))
 refine .block ?_
 refine .loop (X := Int × (List TK) × Value) (fun ⟨j, Y, u_Y⟩ => 0 ≤ j ∧ j ≤ (p.ships.length : Int) ∧ Y = X ++ (List.range j.toNat).map (fun i_ : Nat => (⟨true, (i_ : Int)⟩ : TK)) ∧ (Y.length : Int) = X.length + j) (fun ⟨j, Y, u_Y⟩ => [(1, .pointer (some ⟨b1, 0, none⟩)), (2, .slice none 0 0), (4, .int .i64 i), (5, .int .i64 j), (3, u_Y)]) (fun ⟨j, Y, u_Y⟩ => [rw_ eTK 54 (u_Y) Y, cel b1 [.int .i64 p.dims, .int .i64 p.tn, .slice p.ptA p.time.length p.ptc, .int .i64 p.dn, .slice p.pdA p.dist.length p.pdc, .slice p.pvA p.vehs.length p.pvc, .slice p.pjA p.jobs.length p.pjc, .slice p.psA p.ships.length p.psc] 29]) (fun _ => S) (fun _ => wf) (fun ⟨j, Y, u_Y⟩ => ((p.ships.length : Int) - j).toNat) (fun a_ w_ hs_ hw_ => ⟨⟨0, X, u_X⟩, (by exact ⟨(by omega), (by omega), (by simp), (by omega)⟩), hs_.mono (Sub.get (.c4 rfl rfl rfl rfl (.c rfl .n))), hw_.keep (.c .h (.c .h .n))⟩) (fun ⟨j, Y, u_Y⟩ ⟨r_0, r_1, r_2, r_3⟩ => ?_)
 show SC _ _ _ _ _ ⟨[(1, .pointer (some ⟨b1, 0, none⟩)), (2, .slice none 0 0), (4, .int .i64 i), (5, .int .i64 j), (3, u_Y)], [rw_ eTK 54 (u_Y) Y, cel b1 [.int .i64 p.dims, .int .i64 p.tn, .slice p.ptA p.time.length p.ptc, .int .i64 p.dn, .slice p.pdA p.dist.length p.pdc, .slice p.pvA p.vehs.length p.pvc, .slice p.pjA p.jobs.length p.pjc, .slice p.psA p.ships.length p.psc] 29], S, wf⟩
 refine .seq (.seq (.region (.m rfl rfl rfl (.v (ev_fa rfl fo29_5 rfl (r := 7) rfl) rfl (.v (ev_ld1 rfl ty27 rfl (At.own1 1 rfl rfl)) rfl ?_)))))
 refine .v (ev_len rfl Try.underlying27 rfl) rfl (.v (ev_cmp rfl rfl rfl rfl) rfl (.go idQ (.condI rfl bD (fun h5 => ?_) (fun h5 => ?_))))
 ·
  refine .skipgo idQ (.seq (.block (.region (.m rfl rfl rfl (.m rfl rfl rfl ?_)))))
  refine .v (ev_any (v := .agg #[.bool true, .int .i64 j]) rfl (by kernel_rfl) (fun _ => by kernel_rfl)) rfl (.cons (st_lit eTK (e := 54) (l := [(TK.mk true j)]) rfl rfl rfl rfl (by kernel_rfl) rfl rfl (fun w => by kernel_rfl) (fun b6 => .cons (st_app (E := eTK) (m := [(TK.mk true j)]) rfl rfl rfl rfl Try.underlying57 ai54 rfl rfl rfl (.t .h) (by first | rfl | omega | simp) (row_src 0 rfl) (by first | omega | simp only [LL] <;> omega | simp <;> omega) rfl (fun v7 => .a rfl rfl rfl (.go idQ (.region ?_)))))))
  exact .m rfl rfl rfl (.v (ev_add rfl rfl rfl (r := (j + 1)) rfl (by omega) (by omega)) rfl (.a rfl rfl rfl (SP.nil (SQ.roundb (X := Int × (List TK) × Value) (x := (j, Y, u_Y)) ⟨(j + 1), (Y ++ [(TK.mk true j)]), v7⟩ (by exact ⟨(by omega), (by omega), (by rw [r_2, List.append_assoc]; congr 1; have hn := range_next (f := fun i_ : Nat => (⟨true, (i_ : Int)⟩ : TK)) (i := j) (by omega) rfl; rw [← hn]; rw [show ((j.toNat : Nat) : Int) = j from by omega]), (by simp only [List.length_append, List.length_singleton]; omega)⟩) (by dsimp only; omega) (Sub.get (.c4 rfl rfl rfl rfl (.c rfl .n))) (fun w hw => hw.keep (.c .h (.c (.t .h) .n)))))))
 refine .exit idQ (.seq ?_)
 have hY : Y = (allT p.jobs.length p.ships.length) := by rw [r_2, q_2, show i.toNat = p.jobs.length from by omega, show j.toNat = p.ships.length from by omega]; rfl
 refine .region (.a rfl rfl rfl (.go idQ (.seq (.region (.m rfl rfl rfl ?_)))))
 refine .know (row_len 0 rfl) (fun hv10 => ?_)
 obtain ⟨A8, c9, rfl, hv10_1, hv10_2⟩ := hv10
 unfold maxLen at hv10_2
 refine .v (ev_len rfl Try.underlying57 rfl) rfl (.cons (st_mkbools (n := Y.length) rfl rfl rfl rfl Try.underlying99 ai4 rfl rfl rfl (by omega) rfl (fun b11 => .a rfl rfl rfl (.go idQ (.seq (.block ?_))))))
 refine SC.nilrow eTK 54 ?_
 refine .loop (X := (List TK) × Value × (List Bool)) (fun ⟨X2, u_X2, U⟩ => SelI (fun t_ : TK => -(prioF p t_)) Y X2 U ∧ X2.length ≤ Y.length) (fun ⟨X2, u_X2, U⟩ => [(1, .pointer (some ⟨b1, 0, none⟩)), (2, .slice none 0 0), (4, .int .i64 i), (5, .int .i64 j), (3, .slice A8 Y.length c9), (7, .slice (some ⟨b11, 0, none⟩) Y.length Y.length), (6, u_X2)]) (fun ⟨X2, u_X2, U⟩ => [rw_ eTK 54 (u_X2) X2, rw_ eB 4 (.slice (some ⟨b11, 0, none⟩) Y.length Y.length) U, rw_ eTK 54 (.slice A8 Y.length c9) Y, cel b1 [.int .i64 p.dims, .int .i64 p.tn, .slice p.ptA p.time.length p.ptc, .int .i64 p.dn, .slice p.pdA p.dist.length p.pdc, .slice p.pvA p.vehs.length p.pvc, .slice p.pjA p.jobs.length p.pjc, .slice p.psA p.ships.length p.psc] 29]) (fun _ => S) (fun _ => wf) (fun ⟨X2, u_X2, U⟩ => (Y.length - X2.length)) (fun a_ w_ hs_ hw_ => ⟨⟨([] : List TK), .slice none 0 0, (List.replicate Y.length false)⟩, (by exact ⟨(sel_init Y), (by simp)⟩), hs_.mono (Sub.get (.c4 rfl rfl rfl rfl (.c rfl (.c rfl (.c rfl .n))))), hw_.keep (.c .h (.c .h (.c .h (.c .h .n))))⟩) (fun ⟨X2, u_X2, U⟩ ⟨s_0, s_1⟩ => ?_)
 show SC _ _ _ _ _ ⟨[(1, .pointer (some ⟨b1, 0, none⟩)), (2, .slice none 0 0), (4, .int .i64 i), (5, .int .i64 j), (3, .slice A8 Y.length c9), (7, .slice (some ⟨b11, 0, none⟩) Y.length Y.length), (6, u_X2)], [rw_ eTK 54 (u_X2) X2, rw_ eB 4 (.slice (some ⟨b11, 0, none⟩) Y.length Y.length) U, rw_ eTK 54 (.slice A8 Y.length c9) Y, cel b1 [.int .i64 p.dims, .int .i64 p.tn, .slice p.ptA p.time.length p.ptc, .int .i64 p.dn, .slice p.pdA p.dist.length p.pdc, .slice p.pvA p.vehs.length p.pvc, .slice p.pjA p.jobs.length p.pjc, .slice p.psA p.ships.length p.psc] 29], S, wf⟩
 refine .seq (.seq (.region (.m rfl rfl rfl ?_)))
 refine .know (row_len 0 rfl) (fun hv14 => ?_)
 obtain ⟨A12, c13, rfl, hv14_1, hv14_2⟩ := hv14
 unfold maxLen at hv14_2
 refine .v (ev_len rfl Try.underlying57 rfl) rfl (.m rfl rfl rfl (.v (ev_len rfl Try.underlying57 rfl) rfl (.v (ev_cmp rfl rfl rfl rfl) rfl (.go idQ (.condI rfl bD (fun h15 => ?_) (fun h15 => ?_))))))
 ·
  refine .skipgo idQ (.block (.seq (.region (.a rfl rfl rfl (.go idQ ?_)))))
  refine .seq (.seq (.region (.a rfl rfl rfl (.go idQ (.block ?_)))))
  refine .loop (X := Int × Int) (fun ⟨i3, bb⟩ => 0 ≤ i3 ∧ i3 ≤ (Y.length : Int) ∧ BestI (fun t_ : TK => -(prioF p t_)) Y U i3 bb ∧ (-1 ≤ bb ∧ bb < i3)) (fun ⟨i3, bb⟩ => [(1, .pointer (some ⟨b1, 0, none⟩)), (2, .slice none 0 0), (4, .int .i64 i), (5, .int .i64 j), (3, .slice A8 Y.length c9), (7, .slice (some ⟨b11, 0, none⟩) Y.length Y.length), (6, .slice A12 X2.length c13), (9, .int .i64 i3), (8, .int .i64 bb)]) (fun ⟨i3, bb⟩ => [rw_ eTK 54 (.slice A12 X2.length c13) X2, rw_ eB 4 (.slice (some ⟨b11, 0, none⟩) Y.length Y.length) U, rw_ eTK 54 (.slice A8 Y.length c9) Y, cel b1 [.int .i64 p.dims, .int .i64 p.tn, .slice p.ptA p.time.length p.ptc, .int .i64 p.dn, .slice p.pdA p.dist.length p.pdc, .slice p.pvA p.vehs.length p.pvc, .slice p.pjA p.jobs.length p.pjc, .slice p.psA p.ships.length p.psc] 29]) (fun _ => S) (fun _ => wf) (fun ⟨i3, bb⟩ => ((Y.length : Int) - i3).toNat) (fun a_ w_ hs_ hw_ => ⟨⟨0, (-1)⟩, (by exact ⟨(by omega), (by omega), best_init, (by omega)⟩), hs_.mono (Sub.get (.c4 rfl rfl rfl rfl (.c4 rfl rfl rfl rfl (.c rfl .n)))), hw_.keep (.c .h (.c .h (.c .h (.c .h .n))))⟩) (fun ⟨i3, bb⟩ ⟨t_0, t_1, t_2, t_3⟩ => ?_)
  show SC _ _ _ _ _ ⟨[(1, .pointer (some ⟨b1, 0, none⟩)), (2, .slice none 0 0), (4, .int .i64 i), (5, .int .i64 j), (3, .slice A8 Y.length c9), (7, .slice (some ⟨b11, 0, none⟩) Y.length Y.length), (6, .slice A12 X2.length c13), (9, .int .i64 i3), (8, .int .i64 bb)], [rw_ eTK 54 (.slice A12 X2.length c13) X2, rw_ eB 4 (.slice (some ⟨b11, 0, none⟩) Y.length Y.length) U, rw_ eTK 54 (.slice A8 Y.length c9) Y, cel b1 [.int .i64 p.dims, .int .i64 p.tn, .slice p.ptA p.time.length p.ptc, .int .i64 p.dn, .slice p.pdA p.dist.length p.pdc, .slice p.pvA p.vehs.length p.pvc, .slice p.pjA p.jobs.length p.pjc, .slice p.psA p.ships.length p.psc] 29], S, wf⟩
  refine .seq (.seq (.region (.m rfl rfl rfl (.m rfl rfl rfl (.v (ev_len rfl Try.underlying57 rfl) rfl ?_)))))
  refine .v (ev_cmp rfl rfl rfl rfl) rfl (.go idQ (.condI rfl bD (fun h16 => ?_) (fun h16 => ?_)))
  ·
   refine .skipgo idQ (.seq (.block (.seq ?_)))
   have hul := s_0.ulen
   refine SC.draw mo [] [] .n (fun _ _ _ => sc0) (fun wf_17 hl_17 hx_17 hR_17 => ?_)
   refine SR.z 0 rfl rfl (ev_lda (cs := [.int .i64 p.dims, .int .i64 p.tn, .slice p.ptA p.time.length p.ptc, .int .i64 p.dn, .slice p.pdA p.dist.length p.pdc, .slice p.pvA p.vehs.length p.pvc, .slice p.pjA p.jobs.length p.pjc, .slice p.psA p.ships.length p.psc]) rfl rfl (At.d (At.lent hR_17 3 rfl rfl)) ty29) (SR.m 1 rfl rfl rfl rfl (SR.m 2 rfl rfl rfl rfl (SR.z 3 rfl rfl (ev_ix rfl Try.underlying57 ty54 rfl rfl (by omega) (by omega) (fun _ _ => Fr.adr (i := i3) (Fr.lent (S := S) hR_17 2 rfl (by first | omega | simp only [LL] <;> omega | simp <;> omega)) (by omega) (by omega))) (SR.z 4 rfl rfl (ev_lda rfl rfl (At.d (Fr.el (i := i3) (Fr.lent (S := S) hR_17 2 rfl (by first | omega | simp only [LL] <;> omega | simp <;> omega)) (by omega) (by omega))) ty54) (SR.o 5 rfl (st_callk rfl rfl rfl rfl hbd23 rfl .n (facts_ p (gt Y i3) _ _ ((hPB).ext hx_17)) ⟨tt0, ?_⟩))))))
   refine SR.m 6 rfl rfl rfl rfl (SR.z 7 rfl rfl (ev_ext rfl rfl rfl) (SR.z 8 rfl rfl (ev_ext rfl rfl rfl) (SR.z 9 rfl rfl (ev_as rfl rfl) (SR.z 10 rfl rfl (ev_as rfl rfl) (SR.fin (by kernel_rfl) hl_17 hx_17 hR_17 .n ?_)))))
   refine SQ.go idQ (.seq (.seq (.region (.m rfl rfl rfl (.m rfl rfl rfl ?_)))))
   refine .v (ev_ix rfl Try.underlying99 ty4 rfl rfl (by omega) (by omega) (fun _ _ => rfl)) rfl (.v (ev_ld1 rfl ty4 rfl (At.elem1 (row_el (E := eB) (l := U) (i := i3) 1 rfl (by omega) (by omega)) 0 rfl)) rfl (.go idQ (.condI rfl bV (fun h18 => ?_) (fun h18 => ?_))))
   ·
    exact .exit idQ (.region (.m rfl rfl rfl (.v (ev_add rfl rfl rfl (r := (i3 + 1)) rfl (by omega) (by omega)) rfl (.a rfl rfl rfl (SP.nil (SQ.roundb (X := Int × Int) (x := (i3, bb)) ⟨(i3 + 1), bb⟩ (by exact ⟨(by omega), (by omega), (best_used t_2 (by assumption)), (by omega)⟩) (by dsimp only; omega) (Sub.get (.c4 rfl rfl rfl rfl (.c4 rfl rfl rfl rfl (.c rfl .n)))) (fun w hw => hw.keep (.c .h (.c .h (.c .h (.c .h .n)))))))))))
   refine .skipgo idQ (.seq (.seq (.region (.m rfl rfl rfl (.v (ev_cmp rfl rfl rfl rfl) rfl ?_)))))
   refine .go idQ (.condI rfl bD (fun h19 => ?_) (fun h19 => ?_))
   ·
    refine .region (.m rfl rfl rfl (.a rfl rfl rfl (.go idQ (.seq ?_))))
    refine SC.draw mo [] [] .n (fun _ _ _ => sc0) (fun wf_20 hl_20 hx_20 hR_20 => ?_)
    refine SR.z 0 rfl rfl (ev_lda (cs := [.int .i64 p.dims, .int .i64 p.tn, .slice p.ptA p.time.length p.ptc, .int .i64 p.dn, .slice p.pdA p.dist.length p.pdc, .slice p.pvA p.vehs.length p.pvc, .slice p.pjA p.jobs.length p.pjc, .slice p.psA p.ships.length p.psc]) rfl rfl (At.d (At.lent hR_20 3 rfl rfl)) ty29) (SR.m 1 rfl rfl rfl rfl (SR.m 2 rfl rfl rfl rfl (SR.z 3 rfl rfl (ev_ix rfl Try.underlying57 ty54 rfl rfl (by omega) (by omega) (fun _ _ => Fr.adr (i := i3) (Fr.lent (S := S) hR_20 2 rfl (by first | omega | simp only [LL] <;> omega | simp <;> omega)) (by omega) (by omega))) (SR.z 4 rfl rfl (ev_lda rfl rfl (At.d (Fr.el (i := i3) (Fr.lent (S := S) hR_20 2 rfl (by first | omega | simp only [LL] <;> omega | simp <;> omega)) (by omega) (by omega))) ty54) (SR.o 5 rfl (st_callk rfl rfl rfl rfl hbd23 rfl .n (facts_ p (gt Y i3) _ _ ((hPB).ext hx_20)) ⟨tt0, ?_⟩))))))
    refine SR.m 6 rfl rfl rfl rfl (SR.z 7 rfl rfl (ev_ext rfl rfl rfl) (SR.z 8 rfl rfl (ev_ext rfl rfl rfl) (SR.z 9 rfl rfl (ev_as rfl rfl) (SR.z 10 rfl rfl (ev_as rfl rfl) (SR.fin (by kernel_rfl) hl_20 hx_20 hR_20 .n ?_)))))
    refine SQ.go idQ (.seq (.region (.m rfl rfl rfl (.m rfl rfl rfl (.v (ev_cmp rfl rfl rfl rfl) rfl ?_)))))
    refine .go idQ (.condI rfl bD (fun h21 => ?_) (fun h21 => ?_))
    ·
     refine .region (.m rfl rfl rfl (.a rfl rfl rfl (.go idQ (.region (.m rfl rfl rfl ?_)))))
     exact .v (ev_add rfl rfl rfl (r := (i3 + 1)) rfl (by omega) (by omega)) rfl (.a rfl rfl rfl (SP.nil (SQ.roundb (X := Int × Int) (x := (i3, bb)) ⟨(i3 + 1), i3⟩ (by exact ⟨(by omega), (by omega), (best_new t_2 (by omega) (by simpa using (by assumption : ¬ gt U i3 = true)) (by first | (left; omega) | (right; show -(prioF p _) < -(prioF p _); omega))), (by omega)⟩) (by dsimp only; omega) (Sub.get (.c4 rfl rfl rfl rfl (.c4 rfl rfl rfl rfl (.c rfl .n)))) (fun w hw => hw.keep (.c .h (.c .h (.c .h (.c .h .n))))))))
    exact .skipgo idQ (.region (.m rfl rfl rfl (.v (ev_add rfl rfl rfl (r := (i3 + 1)) rfl (by omega) (by omega)) rfl (.a rfl rfl rfl (SP.nil (SQ.roundb (X := Int × Int) (x := (i3, bb)) ⟨(i3 + 1), i3⟩ (by exact ⟨(by omega), (by omega), (best_new t_2 (by omega) (by simpa using (by assumption : ¬ gt U i3 = true)) (by first | (left; omega) | (right; show -(prioF p _) < -(prioF p _); omega))), (by omega)⟩) (by dsimp only; omega) (Sub.get (.c4 rfl rfl rfl rfl (.c4 rfl rfl rfl rfl (.c rfl .n)))) (fun w hw => hw.keep (.c .h (.c .h (.c .h (.c .h .n)))))))))))
   refine .skipgo idQ (.seq ?_)
   refine SC.draw mo [] [] .n (fun _ _ _ => sc0) (fun wf_22 hl_22 hx_22 hR_22 => ?_)
   refine SR.z 0 rfl rfl (ev_lda (cs := [.int .i64 p.dims, .int .i64 p.tn, .slice p.ptA p.time.length p.ptc, .int .i64 p.dn, .slice p.pdA p.dist.length p.pdc, .slice p.pvA p.vehs.length p.pvc, .slice p.pjA p.jobs.length p.pjc, .slice p.psA p.ships.length p.psc]) rfl rfl (At.d (At.lent hR_22 3 rfl rfl)) ty29) (SR.m 1 rfl rfl rfl rfl (SR.m 2 rfl rfl rfl rfl (SR.z 3 rfl rfl (ev_ix rfl Try.underlying57 ty54 rfl rfl (by omega) (by omega) (fun _ _ => Fr.adr (i := bb) (Fr.lent (S := S) hR_22 2 rfl (by first | omega | simp only [LL] <;> omega | simp <;> omega)) (by omega) (by omega))) (SR.z 4 rfl rfl (ev_lda rfl rfl (At.d (Fr.el (i := bb) (Fr.lent (S := S) hR_22 2 rfl (by first | omega | simp only [LL] <;> omega | simp <;> omega)) (by omega) (by omega))) ty54) (SR.o 5 rfl (st_callk rfl rfl rfl rfl hbd23 rfl .n (facts_ p (gt Y bb) _ _ ((hPB).ext hx_22)) ⟨tt0, ?_⟩))))))
   refine SR.m 6 rfl rfl rfl rfl (SR.z 7 rfl rfl (ev_ext rfl rfl rfl) (SR.z 8 rfl rfl (ev_ext rfl rfl rfl) (SR.z 9 rfl rfl (ev_as rfl rfl) (SR.z 10 rfl rfl (ev_as rfl rfl) (SR.fin (by kernel_rfl) hl_22 hx_22 hR_22 .n ?_)))))
   refine SQ.go idQ (.seq (.region (.m rfl rfl rfl (.m rfl rfl rfl (.v (ev_cmp rfl rfl rfl rfl) rfl ?_)))))
   refine .go idQ (.condI rfl bD (fun h23 => ?_) (fun h23 => ?_))
   ·
    refine .region (.m rfl rfl rfl (.a rfl rfl rfl (.go idQ (.region (.m rfl rfl rfl ?_)))))
    exact .v (ev_add rfl rfl rfl (r := (i3 + 1)) rfl (by omega) (by omega)) rfl (.a rfl rfl rfl (SP.nil (SQ.roundb (X := Int × Int) (x := (i3, bb)) ⟨(i3 + 1), i3⟩ (by exact ⟨(by omega), (by omega), (best_new t_2 (by omega) (by simpa using (by assumption : ¬ gt U i3 = true)) (by first | (left; omega) | (right; show -(prioF p _) < -(prioF p _); omega))), (by omega)⟩) (by dsimp only; omega) (Sub.get (.c4 rfl rfl rfl rfl (.c4 rfl rfl rfl rfl (.c rfl .n)))) (fun w hw => hw.keep (.c .h (.c .h (.c .h (.c .h .n))))))))
   exact .skipgo idQ (.region (.m rfl rfl rfl (.v (ev_add rfl rfl rfl (r := (i3 + 1)) rfl (by omega) (by omega)) rfl (.a rfl rfl rfl (SP.nil (SQ.roundb (X := Int × Int) (x := (i3, bb)) ⟨(i3 + 1), bb⟩ (by exact ⟨(by omega), (by omega), (best_keep t_2 (by omega) (by omega) (by show ¬ -(prioF p _) < -(prioF p _); omega)), (by omega)⟩) (by dsimp only; omega) (Sub.get (.c4 rfl rfl rfl rfl (.c4 rfl rfl rfl rfl (.c rfl .n)))) (fun w hw => hw.keep (.c .h (.c .h (.c .h (.c .h .n)))))))))))
  refine .exit idQ (.seq ?_)
  have hul := s_0.ulen
  have hbs : 0 ≤ bb ∧ bb < (Y.length : Int) := by have h_ := best_some s_0 t_2 (by omega) (by omega); omega
  refine .region (.m rfl rfl rfl (.m rfl rfl rfl (.v (ev_ix rfl Try.underlying99 ty4 rfl rfl (by omega) (by omega) (fun _ _ => rfl)) rfl (.cons (st_setel (E := eB) (i := bb) (cs := [.bool true]) (off := 0) true rfl rfl rfl ty4 rfl rfl rfl rfl rfl (.t .h) (by first | omega | simp only [LL] <;> omega | simp <;> omega) (by first | omega | simp only [LL] <;> omega | simp <;> omega) (Nat.le_of_ble_eq_true rfl) rfl (.go idQ ?_))))))
  refine .region (.m rfl rfl rfl (.m rfl rfl rfl (.m rfl rfl rfl (.v (ev_ix rfl Try.underlying57 ty54 rfl rfl (by omega) (by omega) (row_adr (i := bb) 2 rfl (by omega) (by omega))) rfl (.v (ev_lda rfl rfl (row_el (E := eTK) (l := Y) (i := bb) 2 rfl (by omega) (by omega)) ty54) rfl ?_)))))
  exact .cons (st_lit eTK (e := 54) (l := [(gt Y bb)]) rfl rfl rfl rfl (by kernel_rfl) rfl rfl (fun w => by kernel_rfl) (fun b24 => .cons (st_app (E := eTK) (m := [(gt Y bb)]) rfl rfl rfl rfl Try.underlying57 ai54 rfl rfl rfl (.t (.t .h)) (by first | rfl | omega | simp) (row_src 0 rfl) (by first | omega | simp only [LL] <;> omega | simp <;> omega) rfl (fun v25 => .a rfl rfl rfl (SP.nil (SQ.roundb (X := (List TK) × Value × (List Bool)) (x := (X2, (.slice A12 X2.length c13), U)) ⟨(X2 ++ [(gt Y bb)]), v25, (U.set (bb).toNat true)⟩ (by exact ⟨(sel_step s_0 t_2 (by omega) (by omega)), (by simp only [List.length_append, List.length_singleton]; omega)⟩) (by show (_ : Nat) < _; simp only [List.length_append, List.length_singleton]; omega) (Sub.get (.c4 rfl rfl rfl rfl (.c rfl (.c rfl (.c rfl .n))))) (fun w hw => hw.keep (.c .h (.c (.t .h) (.c (.t .h) (.c (.t .h) .n)))))))))))
 refine .exit idQ (.seq (.region (.m rfl rfl rfl (.a rfl rfl rfl (.go idQ ?_)))))
 exact .ret idQ (ret1 Try.results20 rfl (.c .h .n) ⟨.slice A12 X2.length c13, rfl, (by rw [sel_end (ltT_key p) s_0 (by omega), hY]; rfl)⟩)
theorem rwith_ (A : Option Addr) (c : Nat) (l : List RT) (v : Int) (B : Option Addr) (d : Nat) (m : List Vis) (S : Nat → Prop) (wf : World) (hA : Fr eRT S wf A l) (hB : Fr eVis S wf B m) (hRT : RTF S wf l) (hls : l.length ≤ 15) (hvs : ∀ i : Int, (gt l i).vis.length ≤ 50) (hm : m.length ≤ 1000) :
  TR0 Try.prog 46 [.agg #[.slice A l.length c], .int .i64 v, .slice B m.length d] [] S wf (fun v_ C_ => ∃ (u : Value) (R : List RT), (R.map rc = withF (l.map rc) v m) ∧ (∀ i : Int, (gt R i).vis.length ≤ (gt R i).rc) ∧ v_ = .agg #[u] ∧ C_ = [rw_ eRT 43 (u) R, nestR 46 R]) := by
 have hla := hA.len
 refine TR.mk Try.func46 rfl Try.ntmps46 rfl rfl (fun w_ => ?_)
 refine .seq (.region (.cons (st_boxa rfl rfl rfl rfl rfl (fun b1 => .cons (st_alloc rfl rfl rfl rfl zf35 (fun b2 => .go idQ (.seq ?_)))))))
 refine .region (.a rfl rfl rfl (.go idQ (.seq (.seq (.region ?_)))))
 refine .a rfl rfl rfl (.go idQ (.block ?_))
 refine SC.nilrow eRT 43 ?_
 refine .loop (X := Int × (List RT) × Value) (fun ⟨i, X, u_X⟩ => 0 ≤ i ∧ i ≤ (l.length : Int) ∧ X.map rc ++ otherR v ((l.map rc).drop i.toNat) = otherR v (l.map rc) ∧ (X.length : Int) ≤ i ∧ RTF S wf X ∧ (∀ i_ : Int, (gt X i_).vis.length ≤ 50)) (fun ⟨i, X, u_X⟩ => [(1, .int .i64 v), (2, .slice B m.length d), (3, .pointer (some ⟨b1, 0, none⟩)), (6, .pointer (some ⟨b2, 0, none⟩)), (8, .int .i64 i), (7, u_X)]) (fun ⟨i, X, u_X⟩ => [rw_ eRT 43 (u_X) X, cel b2 [.slice none 0 0] 35, cel b1 [.slice A l.length c] 35]) (fun _ => S) (fun _ => wf) (fun ⟨i, X, u_X⟩ => ((l.length : Int) - i).toNat) (fun a_ w_ hs_ hw_ => ⟨⟨0, ([] : List RT), .slice none 0 0⟩, (by exact ⟨(by omega), (by omega), rfl, (by simp), RTF.nil, (fun i_ => Nat.zero_le _)⟩), hs_.mono (Sub.get (.c4 rfl rfl rfl rfl (.c rfl (.c rfl .n)))), hw_.keep (.c .h (.c .h (.c .h .n)))⟩) (fun ⟨i, X, u_X⟩ ⟨q_0, q_1, q_2, q_3, q_4, q_5⟩ => ?_)
 show SC _ _ _ _ _ ⟨[(1, .int .i64 v), (2, .slice B m.length d), (3, .pointer (some ⟨b1, 0, none⟩)), (6, .pointer (some ⟨b2, 0, none⟩)), (8, .int .i64 i), (7, u_X)], [rw_ eRT 43 (u_X) X, cel b2 [.slice none 0 0] 35, cel b1 [.slice A l.length c] 35], S, wf⟩
 refine .seq (.seq (.region (.m rfl rfl rfl (.v (ev_fa rfl fo35_0 rfl (r := 0) rfl) rfl (.v (ev_ld1 rfl ty33 rfl (At.own1 2 rfl rfl)) rfl ?_)))))
 refine .v (ev_len rfl Try.underlying33 rfl) rfl (.v (ev_cmp rfl rfl rfl rfl) rfl (.go idQ (.condI rfl bD (fun h3 => ?_) (fun h3 => ?_))))
 ·
  refine .skipgo idQ (.seq (.block (.seq (.region (.v (ev_fa rfl fo35_0 rfl (r := 0) rfl) rfl ?_)))))
  refine .v (ev_ld1 rfl ty33 rfl (At.own1 2 rfl rfl)) rfl (.m rfl rfl rfl (.v (ev_ix rfl Try.underlying33 ty43 rfl rfl (by omega) (by omega) (fun _ _ => Fr.adr (i := i) hA (by omega) (by omega))) rfl (.v (ev_fa rfl fo43_0 rfl (r := ao A + (i).toNat * 2) rfl) rfl (.v (ev_ld1 rfl ty3 rfl (At.elem1 (At.w (Fr.el (i := i) hA (by omega) (by omega))) 0 rfl)) rfl (.m rfl rfl rfl ?_)))))
  refine .v (ev_cmp rfl rfl rfl rfl) rfl (.go idQ (.condI rfl bNE (fun h4 => ?_) (fun h4 => ?_)))
  ·
   refine .region (.m rfl rfl rfl (.v (ev_fa rfl fo35_0 rfl (r := 0) rfl) rfl (.v (ev_ld1 rfl ty33 rfl (At.own1 2 rfl rfl)) rfl (.m rfl rfl rfl (.v (ev_ix rfl Try.underlying33 ty43 rfl rfl (by omega) (by omega) (fun _ _ => Fr.adr (i := i) hA (by omega) (by omega))) rfl ?_)))))
   refine .v (ev_lda rfl rfl (At.w (Fr.el (i := i) hA (by omega) (by omega))) ty43) rfl (.cons (st_lit eRT (e := 43) (l := [(gt l i)]) rfl rfl rfl rfl (by kernel_rfl) rfl rfl (fun w => by kernel_rfl) (fun b5 => .cons (st_app (E := eRT) (m := [(gt l i)]) rfl rfl rfl rfl Try.underlying33 ai43 rfl rfl rfl (.t .h) (by first | rfl | omega | simp) (row_src 0 rfl) (by first | omega | simp only [LL] <;> omega | simp <;> omega) rfl (fun v6 => .a rfl rfl rfl (.go idQ (.region ?_)))))))
   exact .m rfl rfl rfl (.v (ev_add rfl rfl rfl (r := (i + 1)) rfl (by omega) (by omega)) rfl (.a rfl rfl rfl (SP.nil (SQ.roundb (X := Int × (List RT) × Value) (x := (i, X, u_X)) ⟨(i + 1), (X ++ [(gt l i)]), v6⟩ (by exact ⟨(by omega), (by omega), (by have hq := q_2; rw [drop_rc (i := i) (by omega) (by omega), otherR_cons] at hq; (repeat' split at hq) <;> first | (rw [List.map_append, List.append_assoc]; exact hq) | contradiction | (exfalso; omega)), (by (try simp only [List.length_append, List.length_singleton]); omega), (q_4.snoc (hRT i)), (gt_snoc_all (Φ := fun r_ : RT => r_.vis.length ≤ 50) q_5 (hvs i) (Nat.zero_le _))⟩) (by dsimp only; omega) (Sub.get (.c4 rfl rfl rfl rfl (.c rfl (.c rfl .n)))) (fun w hw => hw.keep (.c .h (.c (.t .h) (.c (.t .h) .n))))))))
  exact .skipgo idQ (.region (.m rfl rfl rfl (.v (ev_add rfl rfl rfl (r := (i + 1)) rfl (by omega) (by omega)) rfl (.a rfl rfl rfl (SP.nil (SQ.roundb (X := Int × (List RT) × Value) (x := (i, X, u_X)) ⟨(i + 1), X, u_X⟩ (by exact ⟨(by omega), (by omega), (by have hq := q_2; rw [drop_rc (i := i) (by omega) (by omega), otherR_cons] at hq; (repeat' split at hq) <;> first | exact hq | contradiction | (exfalso; omega)), (by (try simp only [List.length_append, List.length_singleton]); omega), q_4, q_5⟩) (by dsimp only; omega) (Sub.get (.c4 rfl rfl rfl rfl (.c rfl (.c rfl .n)))) (fun w hw => hw.keep (.c .h (.c .h (.c .h .n))))))))))
 refine .exit idQ (.seq (.seq (.region (.m rfl rfl rfl (.v (ev_len rfl Try.underlying41 rfl) rfl ?_)))))
 refine .v (ev_cmp rfl rfl rfl rfl) rfl (.go idQ (.condI rfl bD (fun h7 => ?_) (fun h7 => ?_)))
 ·
  refine .region (.m rfl rfl rfl (.m rfl rfl rfl (.m rfl rfl rfl (.v (ev_any (v := .agg #[.int .i64 v, .slice B m.length d]) rfl (by kernel_rfl) (fun _ => by kernel_rfl)) rfl (.cons (st_lit eRT (e := 43) (l := [(RT.mk v m B d)]) rfl rfl rfl rfl (by kernel_rfl) rfl rfl (fun w => by kernel_rfl) (fun b8 => ?_)))))))
  refine .cons (st_app (E := eRT) (m := [(RT.mk v m B d)]) rfl rfl rfl rfl Try.underlying33 ai43 rfl rfl rfl (.t .h) (by first | rfl | omega | simp) (row_src 0 rfl) (by first | omega | simp only [LL] <;> omega | simp <;> omega) rfl (fun v9 => .a rfl rfl rfl (.go idQ (.seq ?_))))
  have hZ : ((X ++ [(RT.mk v m B d)])).map rc = otherR v (l.map rc) ++ (if m.length > 0 then [(v, m)] else []) := by
   have hq := q_2; rw [drop_end (by simp only [List.length_map]; omega)] at hq; have hq : X.map rc ++ [] = _ := hq; rw [List.append_nil] at hq
   rw [if_pos (by omega), List.map_append, hq]; rfl
  have hZF : RTF S wf ((X ++ [(RT.mk v m B d)])) := (q_4.snoc hB)
  have hZB : ∀ i_ : Int, (gt ((X ++ [(RT.mk v m B d)])) i_).vis.length ≤ 1000 := (gt_snoc_all (Φ := fun r_ : RT => r_.vis.length ≤ 1000) (fun i_ => by have := q_5 i_; omega) hm (Nat.zero_le _))
  have hZL : ((X ++ [(RT.mk v m B d)])).length ≤ 16 := (by simp only [List.length_append, List.length_singleton]; omega)
  generalize (X ++ [(RT.mk v m B d)]) = Z_ at *
  refine .region (.cons (st_alloc rfl rfl rfl rfl zf35 (fun b10 => .go idQ (.seq (.region (.m rfl rfl rfl ?_))))))
  refine .know (row_len 1 rfl) (fun hv13 => ?_)
  obtain ⟨A11, c12, rfl, hv13_1, hv13_2⟩ := hv13
  unfold maxLen at hv13_2
  refine .v (ev_len rfl Try.underlying33 rfl) rfl (.cons (st_mkbools (n := Z_.length) rfl rfl rfl rfl Try.underlying99 ai4 rfl rfl rfl (by omega) rfl (fun b14 => .a rfl rfl rfl (.go idQ (.seq (.block ?_))))))
  refine SC.nilrow eRT 43 ?_
  refine SC.nestR0 46 ?_
  refine .loop (X := (List RT) × Value × (List Bool)) (fun ⟨O, u_O, U⟩ => SelI KV (Z_.map rc) (O.map rc) U ∧ O.length ≤ Z_.length ∧ (∀ i_ : Int, (gt O i_).vis.length ≤ (gt O i_).rc)) (fun ⟨O, u_O, U⟩ => [(1, .int .i64 v), (2, .slice B m.length d), (3, .pointer (some ⟨b1, 0, none⟩)), (6, .pointer (some ⟨b2, 0, none⟩)), (8, .int .i64 i), (7, .slice A11 Z_.length c12), (9, .pointer (some ⟨b10, 0, none⟩)), (10, .slice (some ⟨b14, 0, none⟩) Z_.length Z_.length)]) (fun ⟨O, u_O, U⟩ => [nestR 46 O, rw_ eRT 43 (u_O) O, rw_ eB 4 (.slice (some ⟨b14, 0, none⟩) Z_.length Z_.length) U, cel b10 [u_O] 35, rw_ eRT 43 (.slice A11 Z_.length c12) Z_, rw_ eRT 43 (.slice (some ⟨b8, 0, none⟩) 1 1) [(RT.mk v m B d)], cel b2 [.slice none 0 0] 35, cel b1 [.slice A l.length c] 35]) (fun _ => S) (fun _ => wf) (fun ⟨O, u_O, U⟩ => (Z_.length - O.length)) (fun a_ w_ hs_ hw_ => ⟨⟨([] : List RT), .slice none 0 0, (List.replicate Z_.length false)⟩, (by exact ⟨(selR_init Z_), (by simp), (fun i_ => Nat.le_refl 0)⟩), hs_.mono (Sub.get (.c4 rfl rfl rfl rfl (.c4 rfl rfl rfl rfl .n))), hw_.keep (.c .h (.c .h (.c .h (.c .h (.c .h (.c .h (.c .h (.c .h .n))))))))⟩) (fun ⟨O, u_O, U⟩ ⟨s_0, s_1, s_2⟩ => ?_)
  show SC _ _ _ _ _ ⟨[(1, .int .i64 v), (2, .slice B m.length d), (3, .pointer (some ⟨b1, 0, none⟩)), (6, .pointer (some ⟨b2, 0, none⟩)), (8, .int .i64 i), (7, .slice A11 Z_.length c12), (9, .pointer (some ⟨b10, 0, none⟩)), (10, .slice (some ⟨b14, 0, none⟩) Z_.length Z_.length)], [nestR 46 O, rw_ eRT 43 (u_O) O, rw_ eB 4 (.slice (some ⟨b14, 0, none⟩) Z_.length Z_.length) U, cel b10 [u_O] 35, rw_ eRT 43 (.slice A11 Z_.length c12) Z_, rw_ eRT 43 (.slice (some ⟨b8, 0, none⟩) 1 1) [(RT.mk v m B d)], cel b2 [.slice none 0 0] 35, cel b1 [.slice A l.length c] 35], S, wf⟩
  have hul : U.length = Z_.length := by have h_ := s_0.ulen; rw [List.length_map] at h_; exact h_
  refine .seq (.seq (.region (.v (ev_fa rfl fo35_0 rfl (r := 0) rfl) rfl (.v (ev_ld1 rfl ty33 rfl (At.own1 3 rfl rfl)) rfl ?_))))
  refine .know (row_len 1 rfl) (fun hv17 => ?_)
  obtain ⟨A15, c16, rfl, hv17_1, hv17_2⟩ := hv17
  unfold maxLen at hv17_2
  refine .v (ev_len rfl Try.underlying33 rfl) rfl (.m rfl rfl rfl (.v (ev_len rfl Try.underlying33 rfl) rfl (.v (ev_cmp rfl rfl rfl rfl) rfl (.go idQ (.condI rfl bD (fun h18 => ?_) (fun h18 => ?_))))))
  ·
   refine .skipgo idQ (.block (.seq (.region (.a rfl rfl rfl (.go idQ ?_)))))
   refine .seq (.seq (.region (.a rfl rfl rfl (.go idQ (.block ?_)))))
   refine .loop (X := Int × Int) (fun ⟨i3, bb⟩ => 0 ≤ i3 ∧ i3 ≤ (Z_.length : Int) ∧ BestI KV (Z_.map rc) U i3 bb ∧ (-1 ≤ bb ∧ bb < i3)) (fun ⟨i3, bb⟩ => [(1, .int .i64 v), (2, .slice B m.length d), (3, .pointer (some ⟨b1, 0, none⟩)), (6, .pointer (some ⟨b2, 0, none⟩)), (8, .int .i64 i), (7, .slice A11 Z_.length c12), (9, .pointer (some ⟨b10, 0, none⟩)), (10, .slice (some ⟨b14, 0, none⟩) Z_.length Z_.length), (12, .int .i64 i3), (11, .int .i64 bb)]) (fun ⟨i3, bb⟩ => [nestR 46 O, rw_ eRT 43 (.slice A15 O.length c16) O, rw_ eB 4 (.slice (some ⟨b14, 0, none⟩) Z_.length Z_.length) U, cel b10 [.slice A15 O.length c16] 35, rw_ eRT 43 (.slice A11 Z_.length c12) Z_, rw_ eRT 43 (.slice (some ⟨b8, 0, none⟩) 1 1) [(RT.mk v m B d)], cel b2 [.slice none 0 0] 35, cel b1 [.slice A l.length c] 35]) (fun _ => S) (fun _ => wf) (fun ⟨i3, bb⟩ => ((Z_.length : Int) - i3).toNat) (fun a_ w_ hs_ hw_ => ⟨⟨0, (-1)⟩, (by exact ⟨(by omega), (by omega), best_init, (by omega)⟩), hs_.mono (Sub.get (.c4 rfl rfl rfl rfl (.c4 rfl rfl rfl rfl (.c rfl (.c rfl .n))))), hw_.keep (.c .h (.c .h (.c .h (.c .h (.c .h (.c .h (.c .h (.c .h .n))))))))⟩) (fun ⟨i3, bb⟩ ⟨t_0, t_1, t_2, t_3⟩ => ?_)
   show SC _ _ _ _ _ ⟨[(1, .int .i64 v), (2, .slice B m.length d), (3, .pointer (some ⟨b1, 0, none⟩)), (6, .pointer (some ⟨b2, 0, none⟩)), (8, .int .i64 i), (7, .slice A11 Z_.length c12), (9, .pointer (some ⟨b10, 0, none⟩)), (10, .slice (some ⟨b14, 0, none⟩) Z_.length Z_.length), (12, .int .i64 i3), (11, .int .i64 bb)], [nestR 46 O, rw_ eRT 43 (.slice A15 O.length c16) O, rw_ eB 4 (.slice (some ⟨b14, 0, none⟩) Z_.length Z_.length) U, cel b10 [.slice A15 O.length c16] 35, rw_ eRT 43 (.slice A11 Z_.length c12) Z_, rw_ eRT 43 (.slice (some ⟨b8, 0, none⟩) 1 1) [(RT.mk v m B d)], cel b2 [.slice none 0 0] 35, cel b1 [.slice A l.length c] 35], S, wf⟩
   refine .seq (.seq (.region (.m rfl rfl rfl (.m rfl rfl rfl (.v (ev_len rfl Try.underlying33 rfl) rfl ?_)))))
   refine .v (ev_cmp rfl rfl rfl rfl) rfl (.go idQ (.condI rfl bD (fun h19 => ?_) (fun h19 => ?_)))
   ·
    refine .skipgo idQ (.seq (.block (.seq ?_)))
    refine SC.draw mo [] [] .n (fun _ _ _ => sc0) (fun wf_20 hl_20 hx_20 hR_20 => ?_)
    refine SR.m 0 rfl rfl rfl rfl (SR.m 1 rfl rfl rfl rfl (SR.z 2 rfl rfl (ev_ix rfl Try.underlying99 ty4 rfl rfl (by omega) (by omega) (fun _ _ => Fr.adr (i := i3) (Fr.lent (S := S) hR_20 2 rfl (by first | omega | simp only [LL] <;> omega | simp <;> omega)) (by omega) (by omega))) (SR.z 3 rfl rfl (ev_ld1 rfl ty4 rfl (At.elem1 (At.d (Fr.el (i := i3) (Fr.lent (S := S) hR_20 2 rfl (by first | omega | simp only [LL] <;> omega | simp <;> omega)) (by omega) (by omega))) 0 rfl)) (SR.z 4 rfl rfl (ev_not rfl rfl) (SR.m 5 rfl rfl rfl rfl ?_)))))
    refine SR.y 6 rfl rfl (fun _ => ev_mv rfl rfl) (SR.y 7 rfl rfl (fun hb => ev_cmp rfl (lkg rfl hb) rfl rfl) (SR.y 8 rfl rfl (fun hb => ev_mv rfl (lkg rfl hb)) (SR.ggtake (b1 := (!(gt U i3))) (b := (decide (bb < 0))) 9 cb_tf rfl (by kernel_rfl) (by kernel_rfl) (by kernel_rfl) rfl (fun _ _ _ _ h => h) rfl rfl rfl rfl rfl (fun hb1 _ => ev_mv rfl rfl) (SR.ggtake (b1 := (!(gt U i3))) (b := (decide (bb < 0))) 10 cb_tf rfl (by kernel_rfl) (by kernel_rfl) (by kernel_rfl) rfl (fun _ _ _ _ h => h) rfl rfl rfl rfl rfl (fun hb1 _ => ev_mv rfl rfl) (SR.ggtake (b1 := (!(gt U i3))) (b := (decide (bb < 0))) 11 cb_tf rfl (by kernel_rfl) (by kernel_rfl) (by kernel_rfl) rfl (fun _ _ _ _ h => h) rfl rfl rfl rfl rfl (fun hb1 hb => have hp := bT (bA (bN bV) (bN bD)) hb; ev_ix rfl Try.underlying33 ty43 (lkg rfl hb) (lkg rfl hb) (by have _h := hp; omega) (by have _h := hp; omega) (fun _ _ => Fr.adr (i := i3) (Fr.lent (S := S) hR_20 4 rfl (by first | omega | simp only [LL] <;> omega | simp <;> omega)) (by have _h := hp; omega) (by have _h := hp; omega))) ?_)))))
    refine SR.ggtake (b1 := (!(gt U i3))) (b := (decide (bb < 0))) 12 cb_tf rfl (by kernel_rfl) (by kernel_rfl) (by kernel_rfl) rfl (fun _ _ _ _ h => h) rfl rfl rfl rfl rfl (fun hb1 hb => ev_fa rfl fo43_0 (lkg rfl hb) (r := ao A11 + (i3).toNat * 2) rfl) (SR.ggtake (b1 := (!(gt U i3))) (b := (decide (bb < 0))) 13 cb_tf rfl (by kernel_rfl) (by kernel_rfl) (by kernel_rfl) rfl (fun _ _ _ _ h => h) rfl rfl rfl rfl rfl (fun hb1 hb => have hp := bT (bA (bN bV) (bN bD)) hb; ev_ld1 rfl ty3 (lkg rfl hb) (At.elem1 (At.d (Fr.el (i := i3) (Fr.lent (S := S) hR_20 4 rfl (by first | omega | simp only [LL] <;> omega | simp <;> omega)) (by have _h := hp; omega) (by have _h := hp; omega))) 0 rfl)) (SR.ggtake (b1 := (!(gt U i3))) (b := (decide (bb < 0))) 14 cb_tf rfl (by kernel_rfl) (by kernel_rfl) (by kernel_rfl) rfl (fun _ _ _ _ h => h) rfl rfl rfl rfl rfl (fun hb1 _ => ev_mv rfl rfl) (SR.ggtake (b1 := (!(gt U i3))) (b := (decide (bb < 0))) 15 cb_tf rfl (by kernel_rfl) (by kernel_rfl) (by kernel_rfl) rfl (fun _ _ _ _ h => h) rfl rfl rfl rfl rfl (fun hb1 _ => ev_mv rfl rfl) (SR.ggtake (b1 := (!(gt U i3))) (b := (decide (bb < 0))) 16 cb_tf rfl (by kernel_rfl) (by kernel_rfl) (by kernel_rfl) rfl (fun _ _ _ _ h => h) rfl rfl rfl rfl rfl (fun hb1 hb => have hp := bT (bA (bN bV) (bN bD)) hb; ev_ix rfl Try.underlying33 ty43 (lkg rfl hb) (lkg rfl hb) (by have _h := hp; omega) (by have _h := hp; omega) (fun _ _ => Fr.adr (i := bb) (Fr.lent (S := S) hR_20 4 rfl (by first | omega | simp only [LL] <;> omega | simp <;> omega)) (by have _h := hp; omega) (by have _h := hp; omega))) (SR.ggtake (b1 := (!(gt U i3))) (b := (decide (bb < 0))) 17 cb_tf rfl (by kernel_rfl) (by kernel_rfl) (by kernel_rfl) rfl (fun _ _ _ _ h => h) rfl rfl rfl rfl rfl (fun hb1 hb => ev_fa rfl fo43_0 (lkg rfl hb) (r := ao A11 + (bb).toNat * 2) rfl) ?_)))))
    refine SR.ggtake (b1 := (!(gt U i3))) (b := (decide (bb < 0))) 18 cb_tf rfl (by kernel_rfl) (by kernel_rfl) (by kernel_rfl) rfl (fun _ _ _ _ h => h) rfl rfl rfl rfl rfl (fun hb1 hb => have hp := bT (bA (bN bV) (bN bD)) hb; ev_ld1 rfl ty3 (lkg rfl hb) (At.elem1 (At.d (Fr.el (i := bb) (Fr.lent (S := S) hR_20 4 rfl (by first | omega | simp only [LL] <;> omega | simp <;> omega)) (by have _h := hp; omega) (by have _h := hp; omega))) 0 rfl)) (SR.ggtake (b1 := (!(gt U i3))) (b := (decide (bb < 0))) 19 cb_tf rfl (by kernel_rfl) (by kernel_rfl) (by kernel_rfl) rfl (fun _ _ _ _ h => h) rfl rfl rfl rfl rfl (fun hb1 hb => ev_cmp rfl (lkg rfl hb) (lkg rfl hb) rfl) (SR.y 20 rfl rfl (fun hb => ev_or rfl (lkg rfl hb) rfl (lkgn rfl cb_tf hb)) (SR.z 21 rfl rfl (ev_and rfl rfl rfl rfl) (SR.fin (by kernel_rfl) hl_20 hx_20 hR_20 .n (SQ.go idQ ?_)))))
    refine .condI rfl (bA (bN bV) (bO bD bD)) (fun h21 => ?_) (fun h21 => ?_)
    ·
     refine .region (.m rfl rfl rfl (.a rfl rfl rfl (.go idQ (.region (.m rfl rfl rfl ?_)))))
     exact .v (ev_add rfl rfl rfl (r := (i3 + 1)) rfl (by omega) (by omega)) rfl (.a rfl rfl rfl (SP.nil (SQ.roundb (X := Int × Int) (x := (i3, bb)) ⟨(i3 + 1), i3⟩ (by exact ⟨(by omega), (by omega), (bestR_yes t_2 (by omega) h21), (by omega)⟩) (by dsimp only; omega) (Sub.get (.c4 rfl rfl rfl rfl (.c4 rfl rfl rfl rfl (.c rfl (.c rfl .n))))) (fun w hw => hw.keep (.c .h (.c .h (.c .h (.c .h (.c .h (.c .h (.c .h (.c .h .n))))))))))))
    exact .skipgo idQ (.region (.m rfl rfl rfl (.v (ev_add rfl rfl rfl (r := (i3 + 1)) rfl (by omega) (by omega)) rfl (.a rfl rfl rfl (SP.nil (SQ.roundb (X := Int × Int) (x := (i3, bb)) ⟨(i3 + 1), bb⟩ (by exact ⟨(by omega), (by omega), (bestR_no t_2 (by omega) h21), (by omega)⟩) (by dsimp only; omega) (Sub.get (.c4 rfl rfl rfl rfl (.c4 rfl rfl rfl rfl (.c rfl (.c rfl .n))))) (fun w hw => hw.keep (.c .h (.c .h (.c .h (.c .h (.c .h (.c .h (.c .h (.c .h .n)))))))))))))))
   refine .exit idQ (.seq ?_)
   have hbs : 0 ≤ bb ∧ bb < (Z_.length : Int) := by have h_ := best_some s_0 t_2 (by rw [List.length_map]; omega) (by simp only [List.length_map]; omega); rw [List.length_map] at h_; omega
   have hzb := hZB bb
   refine .region (.m rfl rfl rfl (.m rfl rfl rfl (.v (ev_ix rfl Try.underlying99 ty4 rfl rfl (by omega) (by omega) (fun _ _ => rfl)) rfl (.cons (st_setel (E := eB) (i := bb) (cs := [.bool true]) (off := 0) true rfl rfl rfl ty4 rfl rfl rfl rfl rfl (.t (.t .h)) (by first | omega | simp only [LL] <;> omega | simp <;> omega) (by first | omega | simp only [LL] <;> omega | simp <;> omega) (Nat.le_of_ble_eq_true rfl) rfl (.go idQ ?_))))))
   refine SC.draw mo [rw_ eRT 43 (.slice A15 O.length c16) O, cel b10 [.slice A15 O.length c16] 35] [(18, fun w => At w b10 0 [.slice A15 O.length c16])] (.c (.t (.t .h)) (.c (.t (.t .h)) .n)) (fun w_ _ hw_ => (sc1 (At.whole 1 rfl w_ hw_) sc0)) (fun wf_22 hl_22 hx_22 hR_22 => ?_)
   refine SR.z 0 rfl rfl (ev_fa rfl fo35_0 rfl (r := 0) rfl) (SR.z 1 rfl rfl (ev_ld1 rfl ty33 rfl (At.elem1 (v := .slice A15 O.length c16) (At.ofcs 0 rfl (by kernel_rfl)) 0 rfl)) (SR.m 2 rfl rfl rfl rfl (SR.m 3 rfl rfl rfl rfl (SR.z 4 rfl rfl (ev_ix rfl Try.underlying33 ty43 rfl rfl (by omega) (by omega) (fun _ _ => Fr.adr (i := bb) (Fr.lent (S := S) hR_22 2 rfl (by first | omega | simp only [LL] <;> omega | simp <;> omega)) (by omega) (by omega))) (SR.z 5 rfl rfl (ev_fa rfl fo43_0 rfl (r := ao A11 + (bb).toNat * 2) rfl) ?_)))))
   refine SR.z 6 rfl rfl (ev_ld1 rfl ty3 rfl (At.elem1 (At.d (Fr.el (i := bb) (Fr.lent (S := S) hR_22 2 rfl (by first | omega | simp only [LL] <;> omega | simp <;> omega)) (by omega) (by omega))) 0 rfl)) (SR.m 8 rfl rfl rfl rfl (SR.m 9 rfl rfl rfl rfl (SR.z 10 rfl rfl (ev_ix rfl Try.underlying33 ty43 rfl rfl (by omega) (by omega) (fun _ _ => Fr.adr (i := bb) (Fr.lent (S := S) hR_22 2 rfl (by first | omega | simp only [LL] <;> omega | simp <;> omega)) (by omega) (by omega))) (SR.z 11 rfl rfl (ev_fa rfl fo43_1 rfl (r := ao A11 + (bb).toNat * 2 + 1) rfl) (SR.z 12 rfl rfl (ev_ld1 rfl ty41 rfl (At.elem1 (At.d (Fr.el (i := bb) (Fr.lent (S := S) hR_22 2 rfl (by first | omega | simp only [LL] <;> omega | simp <;> omega)) (by omega) (by omega))) 1 rfl)) ?_)))))
   refine SR.o 7 rfl (st_lit eVis (e := 46) (l := []) rfl rfl rfl rfl (by kernel_rfl) rfl rfl (fun w => by kernel_rfl) (fun b23 => ⟨ttc (fun w_ hw_ => (tc1 (At.whole 2 rfl w_ hw_) tc0)), (SR.o 13 rfl (st_app0 (E := eVis) (m := (gt Z_ bb).vis) rfl rfl rfl rfl Try.underlying41 ai46 rfl rfl rfl .h (by first | rfl | omega | simp) (Src.w (Fr.flat (((hZF).ext hx_22) bb))) (by first | omega | simp only [LL] <;> omega | simp <;> omega) rfl (fun v24 => ⟨ttc (fun w_ hw_ => (tc1 (At.whole 2 rfl w_ hw_) tc0)), ?_⟩)))⟩))
   refine .know (row_len 0 rfl) (fun hv27 => ?_)
   obtain ⟨A25, c26, rfl, hv27_1, hv27_2⟩ := hv27
   unfold maxLen at hv27_2
   refine SR.z 14 rfl rfl (ev_any (v := .agg #[.int .i64 ((gt Z_ bb).veh), .slice A25 (((gt Z_ bb).vis).length) c26]) rfl (by kernel_rfl) (fun _ => by kernel_rfl)) (SR.o 15 rfl (st_lit eRT (e := 43) (l := [(RT.mk ((gt Z_ bb).veh) ((gt Z_ bb).vis) A25 c26)]) rfl rfl rfl rfl (by kernel_rfl) rfl rfl (fun w => by kernel_rfl) (fun b28 => ⟨ttc (fun w_ hw_ => (tc1 (At.whole 3 rfl w_ hw_) tc0)), (SR.o 16 rfl (st_app (E := eRT) (m := [(RT.mk ((gt Z_ bb).veh) ((gt Z_ bb).vis) A25 c26)]) rfl rfl rfl rfl Try.underlying33 ai43 rfl rfl rfl (.t (.t .h)) (by first | rfl | omega | simp) (row_src 0 rfl) (by first | omega | simp only [LL] <;> omega | simp <;> omega) rfl (fun v29 => ⟨ttc (fun w_ hw_ => (tc1 (At.whole 3 rfl w_ hw_) tc0)), (SR.z 17 rfl rfl (ev_fa rfl fo35_0 rfl (r := 0) rfl) ?_)⟩)))⟩)))
   refine .know (row_len 0 rfl) (fun hv32 => ?_)
   obtain ⟨A30, c31, rfl, hv32_1, hv32_2⟩ := hv32
   unfold maxLen at hv32_2
   exact SR.o 18 rfl (st_store1 rfl rfl rfl ty33 rfl rfl rfl (.t (.t (.t .h))) .h ⟨ttc (fun w_ hw_ => (tc2 (by kernel_rfl) tc0)), (SR.fin (by kernel_rfl) hl_22 hx_22 hR_22 (.c (.c (.c (.c .n)))) (SQ.packR (RT.mk ((gt Z_ bb).veh) ((gt Z_ bb).vis) A25 c26) (.c (.t (.t (.t (.t (.t .h))))) (.c (.t (.t (.t .h))) .n)) (by dsimp only; (try simp only [List.length_append, List.length_nil, Nat.zero_add]); omega) (SQ.roundb (X := (List RT) × Value × (List Bool)) (x := (O, (.slice A15 O.length c16), U)) ⟨(O ++ [(RT.mk ((gt Z_ bb).veh) ((gt Z_ bb).vis) A25 c26)]), .slice A30 ((O ++ [(RT.mk ((gt Z_ bb).veh) ((gt Z_ bb).vis) A25 c26)]).length) c31, (U.set (bb).toNat true)⟩ (by exact ⟨(selR_step s_0 t_2 (by omega) (by omega) rfl), (by simp only [List.length_append, List.length_singleton]; omega), (gt_snoc_all (Φ := fun r_ : RT => r_.vis.length ≤ r_.rc) s_2 (by show _ ≤ _; assumption) (Nat.zero_le _))⟩) (by show (_ : Nat) < _; simp only [List.length_append, List.length_singleton]; omega) (Sub.get (.c4 rfl rfl rfl rfl (.c4 rfl rfl rfl rfl .n))) (fun w hw => hw.keep (.c .h (.c (.t .h) (.c (.t (.t .h)) (.c .h (.c (.t .h) (.c (.t .h) (.c (.t .h) (.c (.t .h) .n))))))))))))⟩)
  refine .exit idQ (.seq (.region (.v (ev_lda rfl rfl (At.whole 3 rfl) ty35) rfl (.cons (st_storea (l' := [.slice A15 O.length c16]) rfl rfl rfl ty35 rfl rfl rfl (.t (.t (.t (.t (.t (.t .h)))))) rfl rfl (.go idQ ?_))))))
  exact .ret idQ (retv1 Try.results46 (.c 0 rfl rfl ty35) (.c (.t (.t .h)) (.c (.t .h) .n)) ⟨.slice A15 O.length c16, O, (by rw [sel_end ltV_key s_0 (by simp only [List.length_map]; omega), hZ]; rfl), s_2, rfl, rfl⟩)
 refine .skipgo idQ (.seq ?_)
 have hZ : (X).map rc = otherR v (l.map rc) ++ (if m.length > 0 then [(v, m)] else []) := by
  have hq := q_2; rw [drop_end (by simp only [List.length_map]; omega)] at hq; have hq : X.map rc ++ [] = _ := hq; rw [List.append_nil] at hq
  rw [if_neg (by omega), List.append_nil, hq]
 have hZF : RTF S wf (X) := q_4
 have hZB : ∀ i_ : Int, (gt (X) i_).vis.length ≤ 1000 := (fun i_ => by have := q_5 i_; omega)
 have hZL : (X).length ≤ 16 := (by omega)
 refine .region (.cons (st_alloc rfl rfl rfl rfl zf35 (fun b33 => .go idQ (.seq (.region (.m rfl rfl rfl ?_))))))
 refine .know (row_len 1 rfl) (fun hv36 => ?_)
 obtain ⟨A34, c35, rfl, hv36_1, hv36_2⟩ := hv36
 unfold maxLen at hv36_2
 refine .v (ev_len rfl Try.underlying33 rfl) rfl (.cons (st_mkbools (n := X.length) rfl rfl rfl rfl Try.underlying99 ai4 rfl rfl rfl (by omega) rfl (fun b37 => .a rfl rfl rfl (.go idQ (.seq (.block ?_))))))
 refine SC.nilrow eRT 43 ?_
 refine SC.nestR0 46 ?_
 refine .loop (X := (List RT) × Value × (List Bool)) (fun ⟨O, u_O, U⟩ => SelI KV (X.map rc) (O.map rc) U ∧ O.length ≤ X.length ∧ (∀ i_ : Int, (gt O i_).vis.length ≤ (gt O i_).rc)) (fun ⟨O, u_O, U⟩ => [(1, .int .i64 v), (2, .slice B m.length d), (3, .pointer (some ⟨b1, 0, none⟩)), (6, .pointer (some ⟨b2, 0, none⟩)), (8, .int .i64 i), (7, .slice A34 X.length c35), (9, .pointer (some ⟨b33, 0, none⟩)), (10, .slice (some ⟨b37, 0, none⟩) X.length X.length)]) (fun ⟨O, u_O, U⟩ => [nestR 46 O, rw_ eRT 43 (u_O) O, rw_ eB 4 (.slice (some ⟨b37, 0, none⟩) X.length X.length) U, cel b33 [u_O] 35, rw_ eRT 43 (.slice A34 X.length c35) X, cel b2 [.slice none 0 0] 35, cel b1 [.slice A l.length c] 35]) (fun _ => S) (fun _ => wf) (fun ⟨O, u_O, U⟩ => (X.length - O.length)) (fun a_ w_ hs_ hw_ => ⟨⟨([] : List RT), .slice none 0 0, (List.replicate X.length false)⟩, (by exact ⟨(selR_init X), (by simp), (fun i_ => Nat.le_refl 0)⟩), hs_.mono (Sub.get (.c4 rfl rfl rfl rfl (.c4 rfl rfl rfl rfl .n))), hw_.keep (.c .h (.c .h (.c .h (.c .h (.c .h (.c .h (.c .h .n)))))))⟩) (fun ⟨O, u_O, U⟩ ⟨s_0, s_1, s_2⟩ => ?_)
 show SC _ _ _ _ _ ⟨[(1, .int .i64 v), (2, .slice B m.length d), (3, .pointer (some ⟨b1, 0, none⟩)), (6, .pointer (some ⟨b2, 0, none⟩)), (8, .int .i64 i), (7, .slice A34 X.length c35), (9, .pointer (some ⟨b33, 0, none⟩)), (10, .slice (some ⟨b37, 0, none⟩) X.length X.length)], [nestR 46 O, rw_ eRT 43 (u_O) O, rw_ eB 4 (.slice (some ⟨b37, 0, none⟩) X.length X.length) U, cel b33 [u_O] 35, rw_ eRT 43 (.slice A34 X.length c35) X, cel b2 [.slice none 0 0] 35, cel b1 [.slice A l.length c] 35], S, wf⟩
 have hul : U.length = X.length := by have h_ := s_0.ulen; rw [List.length_map] at h_; exact h_
 refine .seq (.seq (.region (.v (ev_fa rfl fo35_0 rfl (r := 0) rfl) rfl (.v (ev_ld1 rfl ty33 rfl (At.own1 3 rfl rfl)) rfl ?_))))
 refine .know (row_len 1 rfl) (fun hv40 => ?_)
 obtain ⟨A38, c39, rfl, hv40_1, hv40_2⟩ := hv40
 unfold maxLen at hv40_2
 refine .v (ev_len rfl Try.underlying33 rfl) rfl (.m rfl rfl rfl (.v (ev_len rfl Try.underlying33 rfl) rfl (.v (ev_cmp rfl rfl rfl rfl) rfl (.go idQ (.condI rfl bD (fun h41 => ?_) (fun h41 => ?_))))))
 ·
  refine .skipgo idQ (.block (.seq (.region (.a rfl rfl rfl (.go idQ ?_)))))
  refine .seq (.seq (.region (.a rfl rfl rfl (.go idQ (.block ?_)))))
  refine .loop (X := Int × Int) (fun ⟨i3, bb⟩ => 0 ≤ i3 ∧ i3 ≤ (X.length : Int) ∧ BestI KV (X.map rc) U i3 bb ∧ (-1 ≤ bb ∧ bb < i3)) (fun ⟨i3, bb⟩ => [(1, .int .i64 v), (2, .slice B m.length d), (3, .pointer (some ⟨b1, 0, none⟩)), (6, .pointer (some ⟨b2, 0, none⟩)), (8, .int .i64 i), (7, .slice A34 X.length c35), (9, .pointer (some ⟨b33, 0, none⟩)), (10, .slice (some ⟨b37, 0, none⟩) X.length X.length), (12, .int .i64 i3), (11, .int .i64 bb)]) (fun ⟨i3, bb⟩ => [nestR 46 O, rw_ eRT 43 (.slice A38 O.length c39) O, rw_ eB 4 (.slice (some ⟨b37, 0, none⟩) X.length X.length) U, cel b33 [.slice A38 O.length c39] 35, rw_ eRT 43 (.slice A34 X.length c35) X, cel b2 [.slice none 0 0] 35, cel b1 [.slice A l.length c] 35]) (fun _ => S) (fun _ => wf) (fun ⟨i3, bb⟩ => ((X.length : Int) - i3).toNat) (fun a_ w_ hs_ hw_ => ⟨⟨0, (-1)⟩, (by exact ⟨(by omega), (by omega), best_init, (by omega)⟩), hs_.mono (Sub.get (.c4 rfl rfl rfl rfl (.c4 rfl rfl rfl rfl (.c rfl (.c rfl .n))))), hw_.keep (.c .h (.c .h (.c .h (.c .h (.c .h (.c .h (.c .h .n)))))))⟩) (fun ⟨i3, bb⟩ ⟨t_0, t_1, t_2, t_3⟩ => ?_)
  show SC _ _ _ _ _ ⟨[(1, .int .i64 v), (2, .slice B m.length d), (3, .pointer (some ⟨b1, 0, none⟩)), (6, .pointer (some ⟨b2, 0, none⟩)), (8, .int .i64 i), (7, .slice A34 X.length c35), (9, .pointer (some ⟨b33, 0, none⟩)), (10, .slice (some ⟨b37, 0, none⟩) X.length X.length), (12, .int .i64 i3), (11, .int .i64 bb)], [nestR 46 O, rw_ eRT 43 (.slice A38 O.length c39) O, rw_ eB 4 (.slice (some ⟨b37, 0, none⟩) X.length X.length) U, cel b33 [.slice A38 O.length c39] 35, rw_ eRT 43 (.slice A34 X.length c35) X, cel b2 [.slice none 0 0] 35, cel b1 [.slice A l.length c] 35], S, wf⟩
  refine .seq (.seq (.region (.m rfl rfl rfl (.m rfl rfl rfl (.v (ev_len rfl Try.underlying33 rfl) rfl ?_)))))
  refine .v (ev_cmp rfl rfl rfl rfl) rfl (.go idQ (.condI rfl bD (fun h42 => ?_) (fun h42 => ?_)))
  ·
   refine .skipgo idQ (.seq (.block (.seq ?_)))
   refine SC.draw mo [] [] .n (fun _ _ _ => sc0) (fun wf_43 hl_43 hx_43 hR_43 => ?_)
   refine SR.m 0 rfl rfl rfl rfl (SR.m 1 rfl rfl rfl rfl (SR.z 2 rfl rfl (ev_ix rfl Try.underlying99 ty4 rfl rfl (by omega) (by omega) (fun _ _ => Fr.adr (i := i3) (Fr.lent (S := S) hR_43 2 rfl (by first | omega | simp only [LL] <;> omega | simp <;> omega)) (by omega) (by omega))) (SR.z 3 rfl rfl (ev_ld1 rfl ty4 rfl (At.elem1 (At.d (Fr.el (i := i3) (Fr.lent (S := S) hR_43 2 rfl (by first | omega | simp only [LL] <;> omega | simp <;> omega)) (by omega) (by omega))) 0 rfl)) (SR.z 4 rfl rfl (ev_not rfl rfl) (SR.m 5 rfl rfl rfl rfl ?_)))))
   refine SR.y 6 rfl rfl (fun _ => ev_mv rfl rfl) (SR.y 7 rfl rfl (fun hb => ev_cmp rfl (lkg rfl hb) rfl rfl) (SR.y 8 rfl rfl (fun hb => ev_mv rfl (lkg rfl hb)) (SR.ggtake (b1 := (!(gt U i3))) (b := (decide (bb < 0))) 9 cb_tf rfl (by kernel_rfl) (by kernel_rfl) (by kernel_rfl) rfl (fun _ _ _ _ h => h) rfl rfl rfl rfl rfl (fun hb1 _ => ev_mv rfl rfl) (SR.ggtake (b1 := (!(gt U i3))) (b := (decide (bb < 0))) 10 cb_tf rfl (by kernel_rfl) (by kernel_rfl) (by kernel_rfl) rfl (fun _ _ _ _ h => h) rfl rfl rfl rfl rfl (fun hb1 _ => ev_mv rfl rfl) (SR.ggtake (b1 := (!(gt U i3))) (b := (decide (bb < 0))) 11 cb_tf rfl (by kernel_rfl) (by kernel_rfl) (by kernel_rfl) rfl (fun _ _ _ _ h => h) rfl rfl rfl rfl rfl (fun hb1 hb => have hp := bT (bA (bN bV) (bN bD)) hb; ev_ix rfl Try.underlying33 ty43 (lkg rfl hb) (lkg rfl hb) (by have _h := hp; omega) (by have _h := hp; omega) (fun _ _ => Fr.adr (i := i3) (Fr.lent (S := S) hR_43 4 rfl (by first | omega | simp only [LL] <;> omega | simp <;> omega)) (by have _h := hp; omega) (by have _h := hp; omega))) ?_)))))
   refine SR.ggtake (b1 := (!(gt U i3))) (b := (decide (bb < 0))) 12 cb_tf rfl (by kernel_rfl) (by kernel_rfl) (by kernel_rfl) rfl (fun _ _ _ _ h => h) rfl rfl rfl rfl rfl (fun hb1 hb => ev_fa rfl fo43_0 (lkg rfl hb) (r := ao A34 + (i3).toNat * 2) rfl) (SR.ggtake (b1 := (!(gt U i3))) (b := (decide (bb < 0))) 13 cb_tf rfl (by kernel_rfl) (by kernel_rfl) (by kernel_rfl) rfl (fun _ _ _ _ h => h) rfl rfl rfl rfl rfl (fun hb1 hb => have hp := bT (bA (bN bV) (bN bD)) hb; ev_ld1 rfl ty3 (lkg rfl hb) (At.elem1 (At.d (Fr.el (i := i3) (Fr.lent (S := S) hR_43 4 rfl (by first | omega | simp only [LL] <;> omega | simp <;> omega)) (by have _h := hp; omega) (by have _h := hp; omega))) 0 rfl)) (SR.ggtake (b1 := (!(gt U i3))) (b := (decide (bb < 0))) 14 cb_tf rfl (by kernel_rfl) (by kernel_rfl) (by kernel_rfl) rfl (fun _ _ _ _ h => h) rfl rfl rfl rfl rfl (fun hb1 _ => ev_mv rfl rfl) (SR.ggtake (b1 := (!(gt U i3))) (b := (decide (bb < 0))) 15 cb_tf rfl (by kernel_rfl) (by kernel_rfl) (by kernel_rfl) rfl (fun _ _ _ _ h => h) rfl rfl rfl rfl rfl (fun hb1 _ => ev_mv rfl rfl) (SR.ggtake (b1 := (!(gt U i3))) (b := (decide (bb < 0))) 16 cb_tf rfl (by kernel_rfl) (by kernel_rfl) (by kernel_rfl) rfl (fun _ _ _ _ h => h) rfl rfl rfl rfl rfl (fun hb1 hb => have hp := bT (bA (bN bV) (bN bD)) hb; ev_ix rfl Try.underlying33 ty43 (lkg rfl hb) (lkg rfl hb) (by have _h := hp; omega) (by have _h := hp; omega) (fun _ _ => Fr.adr (i := bb) (Fr.lent (S := S) hR_43 4 rfl (by first | omega | simp only [LL] <;> omega | simp <;> omega)) (by have _h := hp; omega) (by have _h := hp; omega))) (SR.ggtake (b1 := (!(gt U i3))) (b := (decide (bb < 0))) 17 cb_tf rfl (by kernel_rfl) (by kernel_rfl) (by kernel_rfl) rfl (fun _ _ _ _ h => h) rfl rfl rfl rfl rfl (fun hb1 hb => ev_fa rfl fo43_0 (lkg rfl hb) (r := ao A34 + (bb).toNat * 2) rfl) ?_)))))
   refine SR.ggtake (b1 := (!(gt U i3))) (b := (decide (bb < 0))) 18 cb_tf rfl (by kernel_rfl) (by kernel_rfl) (by kernel_rfl) rfl (fun _ _ _ _ h => h) rfl rfl rfl rfl rfl (fun hb1 hb => have hp := bT (bA (bN bV) (bN bD)) hb; ev_ld1 rfl ty3 (lkg rfl hb) (At.elem1 (At.d (Fr.el (i := bb) (Fr.lent (S := S) hR_43 4 rfl (by first | omega | simp only [LL] <;> omega | simp <;> omega)) (by have _h := hp; omega) (by have _h := hp; omega))) 0 rfl)) (SR.ggtake (b1 := (!(gt U i3))) (b := (decide (bb < 0))) 19 cb_tf rfl (by kernel_rfl) (by kernel_rfl) (by kernel_rfl) rfl (fun _ _ _ _ h => h) rfl rfl rfl rfl rfl (fun hb1 hb => ev_cmp rfl (lkg rfl hb) (lkg rfl hb) rfl) (SR.y 20 rfl rfl (fun hb => ev_or rfl (lkg rfl hb) rfl (lkgn rfl cb_tf hb)) (SR.z 21 rfl rfl (ev_and rfl rfl rfl rfl) (SR.fin (by kernel_rfl) hl_43 hx_43 hR_43 .n (SQ.go idQ ?_)))))
   refine .condI rfl (bA (bN bV) (bO bD bD)) (fun h44 => ?_) (fun h44 => ?_)
   ·
    refine .region (.m rfl rfl rfl (.a rfl rfl rfl (.go idQ (.region (.m rfl rfl rfl ?_)))))
    exact .v (ev_add rfl rfl rfl (r := (i3 + 1)) rfl (by omega) (by omega)) rfl (.a rfl rfl rfl (SP.nil (SQ.roundb (X := Int × Int) (x := (i3, bb)) ⟨(i3 + 1), i3⟩ (by exact ⟨(by omega), (by omega), (bestR_yes t_2 (by omega) h44), (by omega)⟩) (by dsimp only; omega) (Sub.get (.c4 rfl rfl rfl rfl (.c4 rfl rfl rfl rfl (.c rfl (.c rfl .n))))) (fun w hw => hw.keep (.c .h (.c .h (.c .h (.c .h (.c .h (.c .h (.c .h .n)))))))))))
   exact .skipgo idQ (.region (.m rfl rfl rfl (.v (ev_add rfl rfl rfl (r := (i3 + 1)) rfl (by omega) (by omega)) rfl (.a rfl rfl rfl (SP.nil (SQ.roundb (X := Int × Int) (x := (i3, bb)) ⟨(i3 + 1), bb⟩ (by exact ⟨(by omega), (by omega), (bestR_no t_2 (by omega) h44), (by omega)⟩) (by dsimp only; omega) (Sub.get (.c4 rfl rfl rfl rfl (.c4 rfl rfl rfl rfl (.c rfl (.c rfl .n))))) (fun w hw => hw.keep (.c .h (.c .h (.c .h (.c .h (.c .h (.c .h (.c .h .n))))))))))))))
  refine .exit idQ (.seq ?_)
  have hbs : 0 ≤ bb ∧ bb < (X.length : Int) := by have h_ := best_some s_0 t_2 (by rw [List.length_map]; omega) (by simp only [List.length_map]; omega); rw [List.length_map] at h_; omega
  have hzb := hZB bb
  refine .region (.m rfl rfl rfl (.m rfl rfl rfl (.v (ev_ix rfl Try.underlying99 ty4 rfl rfl (by omega) (by omega) (fun _ _ => rfl)) rfl (.cons (st_setel (E := eB) (i := bb) (cs := [.bool true]) (off := 0) true rfl rfl rfl ty4 rfl rfl rfl rfl rfl (.t (.t .h)) (by first | omega | simp only [LL] <;> omega | simp <;> omega) (by first | omega | simp only [LL] <;> omega | simp <;> omega) (Nat.le_of_ble_eq_true rfl) rfl (.go idQ ?_))))))
  refine SC.draw mo [rw_ eRT 43 (.slice A38 O.length c39) O, cel b33 [.slice A38 O.length c39] 35] [(18, fun w => At w b33 0 [.slice A38 O.length c39])] (.c (.t (.t .h)) (.c (.t (.t .h)) .n)) (fun w_ _ hw_ => (sc1 (At.whole 1 rfl w_ hw_) sc0)) (fun wf_45 hl_45 hx_45 hR_45 => ?_)
  refine SR.z 0 rfl rfl (ev_fa rfl fo35_0 rfl (r := 0) rfl) (SR.z 1 rfl rfl (ev_ld1 rfl ty33 rfl (At.elem1 (v := .slice A38 O.length c39) (At.ofcs 0 rfl (by kernel_rfl)) 0 rfl)) (SR.m 2 rfl rfl rfl rfl (SR.m 3 rfl rfl rfl rfl (SR.z 4 rfl rfl (ev_ix rfl Try.underlying33 ty43 rfl rfl (by omega) (by omega) (fun _ _ => Fr.adr (i := bb) (Fr.lent (S := S) hR_45 2 rfl (by first | omega | simp only [LL] <;> omega | simp <;> omega)) (by omega) (by omega))) (SR.z 5 rfl rfl (ev_fa rfl fo43_0 rfl (r := ao A34 + (bb).toNat * 2) rfl) ?_)))))
  refine SR.z 6 rfl rfl (ev_ld1 rfl ty3 rfl (At.elem1 (At.d (Fr.el (i := bb) (Fr.lent (S := S) hR_45 2 rfl (by first | omega | simp only [LL] <;> omega | simp <;> omega)) (by omega) (by omega))) 0 rfl)) (SR.m 8 rfl rfl rfl rfl (SR.m 9 rfl rfl rfl rfl (SR.z 10 rfl rfl (ev_ix rfl Try.underlying33 ty43 rfl rfl (by omega) (by omega) (fun _ _ => Fr.adr (i := bb) (Fr.lent (S := S) hR_45 2 rfl (by first | omega | simp only [LL] <;> omega | simp <;> omega)) (by omega) (by omega))) (SR.z 11 rfl rfl (ev_fa rfl fo43_1 rfl (r := ao A34 + (bb).toNat * 2 + 1) rfl) (SR.z 12 rfl rfl (ev_ld1 rfl ty41 rfl (At.elem1 (At.d (Fr.el (i := bb) (Fr.lent (S := S) hR_45 2 rfl (by first | omega | simp only [LL] <;> omega | simp <;> omega)) (by omega) (by omega))) 1 rfl)) ?_)))))
  refine SR.o 7 rfl (st_lit eVis (e := 46) (l := []) rfl rfl rfl rfl (by kernel_rfl) rfl rfl (fun w => by kernel_rfl) (fun b46 => ⟨ttc (fun w_ hw_ => (tc1 (At.whole 2 rfl w_ hw_) tc0)), (SR.o 13 rfl (st_app0 (E := eVis) (m := (gt X bb).vis) rfl rfl rfl rfl Try.underlying41 ai46 rfl rfl rfl .h (by first | rfl | omega | simp) (Src.w (Fr.flat (((hZF).ext hx_45) bb))) (by first | omega | simp only [LL] <;> omega | simp <;> omega) rfl (fun v47 => ⟨ttc (fun w_ hw_ => (tc1 (At.whole 2 rfl w_ hw_) tc0)), ?_⟩)))⟩))
  refine .know (row_len 0 rfl) (fun hv50 => ?_)
  obtain ⟨A48, c49, rfl, hv50_1, hv50_2⟩ := hv50
  unfold maxLen at hv50_2
  refine SR.z 14 rfl rfl (ev_any (v := .agg #[.int .i64 ((gt X bb).veh), .slice A48 (((gt X bb).vis).length) c49]) rfl (by kernel_rfl) (fun _ => by kernel_rfl)) (SR.o 15 rfl (st_lit eRT (e := 43) (l := [(RT.mk ((gt X bb).veh) ((gt X bb).vis) A48 c49)]) rfl rfl rfl rfl (by kernel_rfl) rfl rfl (fun w => by kernel_rfl) (fun b51 => ⟨ttc (fun w_ hw_ => (tc1 (At.whole 3 rfl w_ hw_) tc0)), (SR.o 16 rfl (st_app (E := eRT) (m := [(RT.mk ((gt X bb).veh) ((gt X bb).vis) A48 c49)]) rfl rfl rfl rfl Try.underlying33 ai43 rfl rfl rfl (.t (.t .h)) (by first | rfl | omega | simp) (row_src 0 rfl) (by first | omega | simp only [LL] <;> omega | simp <;> omega) rfl (fun v52 => ⟨ttc (fun w_ hw_ => (tc1 (At.whole 3 rfl w_ hw_) tc0)), (SR.z 17 rfl rfl (ev_fa rfl fo35_0 rfl (r := 0) rfl) ?_)⟩)))⟩)))
  refine .know (row_len 0 rfl) (fun hv55 => ?_)
  obtain ⟨A53, c54, rfl, hv55_1, hv55_2⟩ := hv55
  unfold maxLen at hv55_2
  exact SR.o 18 rfl (st_store1 rfl rfl rfl ty33 rfl rfl rfl (.t (.t (.t .h))) .h ⟨ttc (fun w_ hw_ => (tc2 (by kernel_rfl) tc0)), (SR.fin (by kernel_rfl) hl_45 hx_45 hR_45 (.c (.c (.c (.c .n)))) (SQ.packR (RT.mk ((gt X bb).veh) ((gt X bb).vis) A48 c49) (.c (.t (.t (.t (.t (.t .h))))) (.c (.t (.t (.t .h))) .n)) (by dsimp only; (try simp only [List.length_append, List.length_nil, Nat.zero_add]); omega) (SQ.roundb (X := (List RT) × Value × (List Bool)) (x := (O, (.slice A38 O.length c39), U)) ⟨(O ++ [(RT.mk ((gt X bb).veh) ((gt X bb).vis) A48 c49)]), .slice A53 ((O ++ [(RT.mk ((gt X bb).veh) ((gt X bb).vis) A48 c49)]).length) c54, (U.set (bb).toNat true)⟩ (by exact ⟨(selR_step s_0 t_2 (by omega) (by omega) rfl), (by simp only [List.length_append, List.length_singleton]; omega), (gt_snoc_all (Φ := fun r_ : RT => r_.vis.length ≤ r_.rc) s_2 (by show _ ≤ _; assumption) (Nat.zero_le _))⟩) (by show (_ : Nat) < _; simp only [List.length_append, List.length_singleton]; omega) (Sub.get (.c4 rfl rfl rfl rfl (.c4 rfl rfl rfl rfl .n))) (fun w hw => hw.keep (.c .h (.c (.t .h) (.c (.t (.t .h)) (.c .h (.c (.t .h) (.c (.t .h) (.c (.t .h) .n)))))))))))⟩)
 refine .exit idQ (.seq (.region (.v (ev_lda rfl rfl (At.whole 3 rfl) ty35) rfl (.cons (st_storea (l' := [.slice A38 O.length c39]) rfl rfl rfl ty35 rfl rfl rfl (.t (.t (.t (.t (.t .h))))) rfl rfl (.go idQ ?_))))))
 exact .ret idQ (retv1 Try.results46 (.c 0 rfl rfl ty35) (.c (.t (.t .h)) (.c (.t .h) .n)) ⟨.slice A38 O.length c39, O, (by rw [sel_end ltV_key s_0 (by simp only [List.length_map]; omega), hZ]; rfl), s_2, rfl, rfl⟩)
end Go.Proofs.Ytdpmnodiebpjeaa.Sx
set_option maxRecDepth 20000
set_option maxHeartbeats 1000000
namespace Go.Proofs.Ytdpmnodiebpjeaa.Sx.FN
open Go Go.SX Go.Proofs
theorem zf35 : (Try.prog.info? 35).bind (fun i => i.zero.map Value.cells) = some (List.toArray [.slice none 0 0]) := by kernel_rfl
theorem fo29_3 : fo Try.prog 29 3 = some 5 := by kernel_rfl
theorem ty25 : ty Try.prog 25 = some (false, 1) := by kernel_rfl
theorem ty29 : ty Try.prog 29 = some (true, 8) := by kernel_rfl
theorem ty35 : ty Try.prog 35 = some (true, 1) := by kernel_rfl
theorem hbd44 : hasBody Try.prog 44 = true := by kernel_rfl
theorem hbd43 : hasBody Try.prog 43 = true := by kernel_rfl
theorem mo : Try.prog.follows .mixedOrders = true := by kernel_rfl
theorem ty54 : ty Try.prog 54 = some (true, 2) := by kernel_rfl
theorem hbd45 : hasBody Try.prog 45 = true := by kernel_rfl
theorem ty41 : ty Try.prog 41 = some (false, 1) := by kernel_rfl
theorem hbd46 : hasBody Try.prog 46 = true := by kernel_rfl
end Go.Proofs.Ytdpmnodiebpjeaa.Sx.FN
namespace Go.Proofs.Ytdpmnodiebpjeaa.Sx
open Go Go.SX Go.Proofs FN
theorem rinsert_ (p : PB) (A : Option Addr) (c : Nat) (l : List RT) (t : TK) (S : Nat → Prop) (wf : World) (hA : Fr eRT S wf A l) (hPB : PBF S wf p) (hRT : RTF S wf l) (hL : LawP p) (hls : l.length ≤ 13) (hvs : ∀ i : Int, (gt l i).vis.length ≤ 46) (hcp : ∀ i : Int, (gt l i).vis.length ≤ (gt l i).rc) :
  TR0 Try.prog 27 [.agg #[.int .i64 p.dims, .int .i64 p.tn, .slice p.ptA p.time.length p.ptc, .int .i64 p.dn, .slice p.pdA p.dist.length p.pdc, .slice p.pvA p.vehs.length p.pvc, .slice p.pjA p.jobs.length p.pjc, .slice p.psA p.ships.length p.psc], .agg #[.slice A l.length c], .agg #[.bool t.ship, .int .i64 t.item]] [] S wf (fun v_ C_ => ∃ (u : Value) (R : List RT), (R.map rc = (insF p (l.map rc) t).out) ∧ (∀ i : Int, (gt R i).vis.length ≤ (gt R i).rc) ∧ v_ = .tuple #[.agg #[u], .int .i64 ((insF p (l.map rc) t).best), .bool ((insF p (l.map rc) t).found)] ∧ C_ = [rw_ eRT 43 (u) R, nestR 46 R]) := by
 have hla := hA.len
 have hlv := hPB.2.2.1.1.len
 have hRB : RBd 46 (l.map rc) := RBd_of (fun i => by have := hvs i; omega)
 refine TR.mk Try.func27 rfl Try.ntmps27 rfl rfl (fun w_ => ?_)
 refine .seq (.region (.cons (st_boxa rfl rfl rfl rfl rfl (fun b1 => .cons (st_boxa rfl rfl rfl rfl rfl (fun b2 => .cons (st_boxa rfl rfl rfl rfl rfl (fun b3 => .cons (st_alloc rfl rfl rfl rfl zf35 (fun b4 => ?_))))))))))
 refine .a rfl rfl rfl (.a rfl rfl rfl (.go idQ (.seq (.region (.a rfl rfl rfl ?_)))))
 refine .a rfl rfl rfl (.a rfl rfl rfl (.go idQ (.seq (.region (.a rfl rfl rfl ?_)))))
 refine .go idQ (.seq (.seq (.region (.a rfl rfl rfl (.go idQ (.block ?_))))))
 refine SC.nilrow eVis 46 ?_
 refine SC.nestVL0 46 ?_
 refine SC.packVL (default : VL) (.c .h (.c .h .n)) (Nat.zero_le _) ?_
 refine .loop (X := Int × Int × Int × Bool × Int × (List VL)) (fun ⟨v, veh, best, found, jw, D⟩ => 0 ≤ v ∧ v ≤ (p.vehs.length : Int) ∧ insV p (l.map rc) t ((p.vehs.length : Int) - v).toNat v ⟨found, best, (if found = true then withF (l.map rc) veh (gt D jw).vl else [])⟩ = (insF p (l.map rc) t) ∧ (0 ≤ jw ∧ jw < (D.length : Int)) ∧ (gt D jw).vl.length ≤ 48 ∧ (found = true ∨ best = 0)) (fun ⟨v, veh, best, found, jw, D⟩ => [(3, .pointer (some ⟨b1, 0, none⟩)), (4, .pointer (some ⟨b2, 0, none⟩)), (5, .pointer (some ⟨b3, 0, none⟩)), (6, .pointer (some ⟨b4, 0, none⟩)), (7, .int .i64 0), (8, .bool false), (13, .int .i64 v), (9, .int .i64 veh), (10, .int .i64 best), (11, .bool found), (12, .slice ((gt D jw).wlA) ((gt D jw).vl.length) ((gt D jw).wlc))]) (fun ⟨v, veh, best, found, jw, D⟩ => [nestVL 46 D, cel b4 [.slice none 0 0] 35, cel b3 [.bool t.ship, .int .i64 t.item] 54, cel b2 [.slice A l.length c] 35, cel b1 [.int .i64 p.dims, .int .i64 p.tn, .slice p.ptA p.time.length p.ptc, .int .i64 p.dn, .slice p.pdA p.dist.length p.pdc, .slice p.pvA p.vehs.length p.pvc, .slice p.pjA p.jobs.length p.pjc, .slice p.psA p.ships.length p.psc] 29]) (fun _ => S) (fun _ => wf) (fun ⟨v, veh, best, found, jw, D⟩ => ((p.vehs.length : Int) - v).toNat) (fun a_ w_ hs_ hw_ => ⟨⟨0, 0, 0, false, 0, ([] ++ [(default : VL)])⟩, (by exact ⟨(by omega), (by omega), (by unfold insF; rw [show ((p.vehs.length : Int) - 0).toNat = p.vehs.length from by omega]; rfl), (⟨by decide, by decide⟩), (Nat.zero_le _), (.inr rfl)⟩), hs_.mono (Sub.get (.c4 rfl rfl rfl rfl (.c4 rfl rfl rfl rfl (.c rfl (.c rfl (.c rfl .n)))))), hw_.keep (.c .h (.c .h (.c .h (.c .h (.c .h .n)))))⟩) (fun ⟨v, veh, best, found, jw, D⟩ ⟨q_0, q_1, q_2, q_3, q_4, q_5⟩ => ?_)
 show SC _ _ _ _ _ ⟨[(3, .pointer (some ⟨b1, 0, none⟩)), (4, .pointer (some ⟨b2, 0, none⟩)), (5, .pointer (some ⟨b3, 0, none⟩)), (6, .pointer (some ⟨b4, 0, none⟩)), (7, .int .i64 0), (8, .bool false), (13, .int .i64 v), (9, .int .i64 veh), (10, .int .i64 best), (11, .bool found), (12, .slice ((gt D jw).wlA) ((gt D jw).vl.length) ((gt D jw).wlc))], [nestVL 46 D, cel b4 [.slice none 0 0] 35, cel b3 [.bool t.ship, .int .i64 t.item] 54, cel b2 [.slice A l.length c] 35, cel b1 [.int .i64 p.dims, .int .i64 p.tn, .slice p.ptA p.time.length p.ptc, .int .i64 p.dn, .slice p.pdA p.dist.length p.pdc, .slice p.pvA p.vehs.length p.pvc, .slice p.pjA p.jobs.length p.pjc, .slice p.psA p.ships.length p.psc] 29], S, wf⟩
 refine .seq (.seq (.region (.m rfl rfl rfl (.v (ev_fa rfl fo29_3 rfl (r := 5) rfl) rfl (.v (ev_ld1 rfl ty25 rfl (At.own1 4 rfl rfl)) rfl ?_)))))
 refine .v (ev_len rfl Try.underlying25 rfl) rfl (.v (ev_cmp rfl rfl rfl rfl) rfl (.go idQ (.condI rfl bD (fun h5 => ?_) (fun h5 => ?_))))
 ·
  refine .skipgo idQ (.seq (.block (.seq ?_)))
  have hvb := visR_bd (v := v) hRB (by omega)
  refine SC.draw mo [] [] .n (fun _ _ _ => sc0) (fun wf_6 hl_6 hx_6 hR_6 => ?_)
  refine SR.z 0 rfl rfl (ev_lda (cs := [.int .i64 p.dims, .int .i64 p.tn, .slice p.ptA p.time.length p.ptc, .int .i64 p.dn, .slice p.pdA p.dist.length p.pdc, .slice p.pvA p.vehs.length p.pvc, .slice p.pjA p.jobs.length p.pjc, .slice p.psA p.ships.length p.psc]) rfl rfl (At.d (At.lent hR_6 4 rfl rfl)) ty29) (SR.m 1 rfl rfl rfl rfl (SR.z 2 rfl rfl (ev_lda (cs := [.slice A l.length c]) rfl rfl (At.d (At.lent hR_6 3 rfl rfl)) ty35) (SR.m 3 rfl rfl rfl rfl (SR.o 4 rfl (st_call00 rfl rfl rfl rfl hbd44 rfl .n (rvisits_ A c l v _ _ (Fr.ext hA hx_6) ((hRT).ext hx_6) (by first | omega | simp only [LL] <;> omega | simp <;> omega) (fun i_ => by have := hvs i_; omega) hcp) (by intro v C h; obtain ⟨_, _, _, _, rfl, rfl⟩ := h; rfl) (fun v_q9 q9 => ⟨tt0, ?_⟩))))))
  obtain ⟨B7, d8, p10, p11, rfl, -⟩ := q9
  refine SR.o 5 rfl (st_callk rfl rfl rfl rfl hbd43 rfl .n (rcost_ p v B7 d8 (visR v (l.map rc)) _ _ p10 ((hPB).ext hx_6) (by omega) (by first | omega | simp only [LL] <;> omega | simp <;> omega)) ⟨tt0, (SR.m 6 rfl rfl rfl rfl (SR.z 7 rfl rfl (ev_ext rfl rfl rfl) (SR.z 8 rfl rfl (ev_ext rfl rfl rfl) (SR.z 9 rfl rfl (ev_as rfl rfl) (SR.z 10 rfl rfl (ev_as rfl rfl) ?_)))))⟩)
  refine SR.fin (by kernel_rfl) hl_6 hx_6 hR_6 .n (SQ.go idQ (.seq (.seq ?_)))
  have hvb := visR_bd (v := v) hRB (by omega)
  have hcb := cost_bd hL (k := v) (l := (visR v (l.map rc))) (by omega)
  refine .region (.m rfl rfl rfl (.v (ev_cmp rfl rfl rfl rfl) rfl (.go idQ (.condI rfl bNE (fun h12 => ?_) (fun h12 => ?_)))))
  ·
   exact .exit idQ (.region (.m rfl rfl rfl (.v (ev_add rfl rfl rfl (r := (v + 1)) rfl (by omega) (by omega)) rfl (.a rfl rfl rfl (SP.nil (SQ.roundb (X := Int × Int × Int × Bool × Int × (List VL)) (x := (v, veh, best, found, jw, D)) ⟨(v + 1), veh, best, found, jw, D⟩ (by exact ⟨(by omega), (by omega), (by have hq := q_2; rw [insV_step (by omega), if_pos (by assumption)] at hq; exact hq), q_3, q_4, q_5⟩) (by dsimp only; omega) (Sub.get (.c4 rfl rfl rfl rfl (.c4 rfl rfl rfl rfl (.c rfl (.c rfl (.c rfl .n)))))) (fun w hw => hw.keep (.c .h (.c .h (.c .h (.c .h (.c .h .n))))))))))))
  refine .skipgo idQ (.seq ?_)
  have hvb := visR_bd (v := v) hRB (by omega)
  refine SC.draw mo [] [] .n (fun _ _ _ => sc0) (fun wf_13 hl_13 hx_13 hR_13 => ?_)
  refine SR.z 0 rfl rfl (ev_lda (cs := [.slice A l.length c]) rfl rfl (At.d (At.lent hR_13 3 rfl rfl)) ty35) (SR.m 1 rfl rfl rfl rfl (SR.z 3 rfl rfl (ev_lda (cs := [.bool t.ship, .int .i64 t.item]) rfl rfl (At.d (At.lent hR_13 2 rfl rfl)) ty54) (SR.o 2 rfl (st_call00 rfl rfl rfl rfl hbd44 rfl .n (rvisits_ A c l v _ _ (Fr.ext hA hx_13) ((hRT).ext hx_13) (by first | omega | simp only [LL] <;> omega | simp <;> omega) (fun i_ => by have := hvs i_; omega) hcp) (by intro v C h; obtain ⟨_, _, _, _, rfl, rfl⟩ := h; rfl) (fun v_q16 q16 => ⟨tt0, ?_⟩)))))
  obtain ⟨B14, d15, p17, p18, rfl, -⟩ := q16
  refine SR.o 4 rfl (st_call0 rfl rfl rfl rfl hbd45 rfl .n (rways_ B14 d15 (visR v (l.map rc)) t _ _ p17 (by first | omega | simp only [LL] <;> omega | simp <;> omega) (by first | omega | simp only [LL] <;> omega | simp <;> omega)) (fun v_q21 C_q21 q21 => ⟨tt0, ?_⟩))
  obtain ⟨u19, Y20, p22, p23, rfl, rfl⟩ := q21
  show SR _ _ _ _ _ _ _ _ _ ⟨_, _ :: _ :: _, _, _⟩
  have hY := p22
  have hYL := p23
  refine SR.z 5 rfl rfl (ev_as rfl rfl) (SR.fin (by kernel_rfl) hl_13 hx_13 hR_13 (.c (.c .n)) (SQ.go idQ (.seq ?_)))
  refine SC.appVL (D := D) (Y := Y20) (.c (.t (.t .h)) (.c (.t .h) .n)) ?_
  refine SC.reslotv (t := 12) (v := .slice ((gt (D ++ Y20) jw).wlA) ((gt (D ++ Y20) jw).vl.length) ((gt (D ++ Y20) jw).wlc)) rfl (by rw [gt_left (by omega) (by omega)]) ?_
  refine .region (.a rfl rfl rfl (.go idQ (.block ?_)))
  refine .loop (X := Int × Int × Int × Bool × Int) (fun ⟨w, veh2, bst2, fnd2, jw2⟩ => 0 ≤ w ∧ w ≤ (Y20.length : Int) ∧ insW p (l.map rc) v (costP p v (visR v (l.map rc))).1 ((Y20.map VL.vl).drop w.toNat) ⟨fnd2, bst2, (if fnd2 = true then withF (l.map rc) veh2 (gt (D ++ Y20) jw2).vl else [])⟩ = insW p (l.map rc) v (costP p v (visR v (l.map rc))).1 (waysF (visR v (l.map rc)) t) ⟨found, best, (if found = true then withF (l.map rc) veh (gt D jw).vl else [])⟩ ∧ (0 ≤ jw2 ∧ jw2 < ((D ++ Y20).length : Int)) ∧ (gt (D ++ Y20) jw2).vl.length ≤ 48 ∧ (fnd2 = true ∨ bst2 = 0)) (fun ⟨w, veh2, bst2, fnd2, jw2⟩ => [(3, .pointer (some ⟨b1, 0, none⟩)), (4, .pointer (some ⟨b2, 0, none⟩)), (5, .pointer (some ⟨b3, 0, none⟩)), (6, .pointer (some ⟨b4, 0, none⟩)), (7, .int .i64 0), (8, .bool false), (13, .int .i64 v), (14, .int .i64 ((costP p v (visR v (l.map rc))).1)), (16, v_q21), (17, .int .i64 w), (9, .int .i64 veh2), (10, .int .i64 bst2), (11, .bool fnd2), (12, .slice ((gt (D ++ Y20) jw2).wlA) ((gt (D ++ Y20) jw2).vl.length) ((gt (D ++ Y20) jw2).wlc))]) (fun ⟨w, veh2, bst2, fnd2, jw2⟩ => [nestVL 46 (D ++ Y20), rw_ eVL 41 (v_q21) Y20, cel b4 [.slice none 0 0] 35, cel b3 [.bool t.ship, .int .i64 t.item] 54, cel b2 [.slice A l.length c] 35, cel b1 [.int .i64 p.dims, .int .i64 p.tn, .slice p.ptA p.time.length p.ptc, .int .i64 p.dn, .slice p.pdA p.dist.length p.pdc, .slice p.pvA p.vehs.length p.pvc, .slice p.pjA p.jobs.length p.pjc, .slice p.psA p.ships.length p.psc] 29]) (fun _ => S) (fun _ => wf) (fun ⟨w, veh2, bst2, fnd2, jw2⟩ => ((Y20.length : Int) - w).toNat) (fun a_ w_ hs_ hw_ => ⟨⟨0, veh, best, found, jw⟩, (by exact ⟨(by omega), (by omega), (by rw [← hY, gt_left (by omega) (by omega)]; rfl), (by rw [List.length_append]; omega), (by rw [gt_left (by omega) (by omega)]; exact q_4), q_5⟩), hs_.mono (Sub.get (.c4 rfl rfl rfl rfl (.c4 rfl rfl rfl rfl (.c4 rfl rfl rfl rfl (.c rfl (.c rfl .n)))))), hw_.keep (.c .h (.c .h (.c .h (.c .h (.c .h (.c .h .n))))))⟩) (fun ⟨w, veh2, bst2, fnd2, jw2⟩ ⟨r_0, r_1, r_2, r_3, r_4, r_5⟩ => ?_)
  show SC _ _ _ _ _ ⟨[(3, .pointer (some ⟨b1, 0, none⟩)), (4, .pointer (some ⟨b2, 0, none⟩)), (5, .pointer (some ⟨b3, 0, none⟩)), (6, .pointer (some ⟨b4, 0, none⟩)), (7, .int .i64 0), (8, .bool false), (13, .int .i64 v), (14, .int .i64 ((costP p v (visR v (l.map rc))).1)), (16, v_q21), (17, .int .i64 w), (9, .int .i64 veh2), (10, .int .i64 bst2), (11, .bool fnd2), (12, .slice ((gt (D ++ Y20) jw2).wlA) ((gt (D ++ Y20) jw2).vl.length) ((gt (D ++ Y20) jw2).wlc))], [nestVL 46 (D ++ Y20), rw_ eVL 41 (v_q21) Y20, cel b4 [.slice none 0 0] 35, cel b3 [.bool t.ship, .int .i64 t.item] 54, cel b2 [.slice A l.length c] 35, cel b1 [.int .i64 p.dims, .int .i64 p.tn, .slice p.ptA p.time.length p.ptc, .int .i64 p.dn, .slice p.pdA p.dist.length p.pdc, .slice p.pvA p.vehs.length p.pvc, .slice p.pjA p.jobs.length p.pjc, .slice p.psA p.ships.length p.psc] 29], S, wf⟩
  have hwl := ways_at hY (i := w) (by omega)
  refine .seq (.seq (.region (.m rfl rfl rfl (.m rfl rfl rfl ?_))))
  refine .know (row_len 1 rfl) (fun hv26 => ?_)
  obtain ⟨A24, c25, rfl, hv26_1, hv26_2⟩ := hv26
  unfold maxLen at hv26_2
  refine .v (ev_len rfl Try.underlying51 rfl) rfl (.v (ev_cmp rfl rfl rfl rfl) rfl (.go idQ (.condI rfl bD (fun h27 => ?_) (fun h27 => ?_))))
  ·
   refine .skipgo idQ (.seq (.block (.seq ?_)))
   have hwl2 := hwl (by omega)
   refine SC.draw mo [] [] .n (fun _ _ _ => sc0) (fun wf_28 hl_28 hx_28 hR_28 => ?_)
   refine SR.z 0 rfl rfl (ev_lda (cs := [.int .i64 p.dims, .int .i64 p.tn, .slice p.ptA p.time.length p.ptc, .int .i64 p.dn, .slice p.pdA p.dist.length p.pdc, .slice p.pvA p.vehs.length p.pvc, .slice p.pjA p.jobs.length p.pjc, .slice p.psA p.ships.length p.psc]) rfl rfl (At.d (At.lent hR_28 5 rfl rfl)) ty29) (SR.m 1 rfl rfl rfl rfl (SR.m 2 rfl rfl rfl rfl (SR.m 3 rfl rfl rfl rfl (SR.z 4 rfl rfl (ev_ix rfl Try.underlying51 ty41 rfl rfl (by omega) (by omega) (fun _ _ => Fr.adr (i := w) (Fr.lent (S := S) hR_28 1 rfl (by first | omega | simp only [LL] <;> omega | simp <;> omega)) (by omega) (by omega))) (SR.z 5 rfl rfl (ev_ld1 rfl ty41 rfl (At.elem1 (At.d (Fr.el (i := w) (Fr.lent (S := S) hR_28 1 rfl (by first | omega | simp only [LL] <;> omega | simp <;> omega)) (by omega) (by omega))) 0 rfl)) ?_)))))
   refine SR.o 6 rfl (st_callk rfl rfl rfl rfl hbd43 rfl .n (rcost_ p v ((gt Y20 w).wlA) ((gt Y20 w).wlc) ((gt Y20 w).vl) _ _ ((VLF.lent (S := S) hR_28 0 rfl).right w) ((hPB).ext hx_28) (by omega) (by first | omega | simp only [LL] <;> omega | simp <;> omega)) ⟨tt0, (SR.m 7 rfl rfl rfl rfl (SR.z 8 rfl rfl (ev_ext rfl rfl rfl) (SR.z 9 rfl rfl (ev_ext rfl rfl rfl) (SR.z 10 rfl rfl (ev_as rfl rfl) (SR.z 11 rfl rfl (ev_as rfl rfl) ?_)))))⟩)
   refine SR.fin (by kernel_rfl) hl_28 hx_28 hR_28 .n (SQ.go idQ (.seq ?_))
   have hcb2 := cost_bd hL (k := v) (l := (gt Y20 w).vl) (by omega)
   refine .region (.m rfl rfl rfl (.v (ev_cmp rfl rfl rfl rfl) rfl (.m rfl rfl rfl (.w (fun _ => ev_mv rfl rfl) rfl (.w (fun hb => ev_not rfl (lkg rfl hb)) rfl ?_)))))
   refine .w (fun hb => ev_mv rfl (lkg rfl hb)) rfl (.cons (Ev.ggstep (b1 := (((costP p v ((gt Y20 w).vl)).2) == 0)) (b := (!fnd2)) cb_tf (fun hb1 _ => ev_mv rfl rfl) rfl rfl rfl rfl rfl (.cons (Ev.ggstep (b1 := (((costP p v ((gt Y20 w).vl)).2) == 0)) (b := (!fnd2)) cb_tf (fun hb1 _ => ev_mv rfl rfl) rfl rfl rfl rfl rfl (.cons (Ev.ggstep (b1 := (((costP p v ((gt Y20 w).vl)).2) == 0)) (b := (!fnd2)) cb_tf (fun hb1 hb => have hp := bT (bA bE (bN (bN bV))) hb; ev_sub rfl (lkg rfl hb) (lkg rfl hb) (r := (((costP p v ((gt Y20 w).vl)).1) - ((costP p v (visR v (l.map rc))).1))) rfl (by have _h := hp; omega) (by have _h := hp; omega)) rfl rfl rfl rfl rfl (.cons (Ev.ggstep (b1 := (((costP p v ((gt Y20 w).vl)).2) == 0)) (b := (!fnd2)) cb_tf (fun hb1 _ => ev_mv rfl rfl) rfl rfl rfl rfl rfl (.cons (Ev.ggstep (b1 := (((costP p v ((gt Y20 w).vl)).2) == 0)) (b := (!fnd2)) cb_tf (fun hb1 hb => ev_cmp rfl (lkg rfl hb) (lkg rfl hb) rfl) rfl rfl rfl rfl rfl ?_))))))))))
   refine .w (fun hb => ev_or rfl (lkg rfl hb) rfl (lkgn rfl cb_tf hb)) rfl (.v (ev_and rfl rfl rfl rfl) rfl (.go idQ (.condI rfl (bA bE (bO (bN bV) bD)) (fun h29 => ?_) (fun h29 => ?_))))
   ·
    refine .seq (.region (.m rfl rfl rfl (.m rfl rfl rfl (.m rfl rfl rfl (.v (ev_sub rfl rfl rfl (r := (((costP p v ((gt Y20 w).vl)).1) - ((costP p v (visR v (l.map rc))).1))) rfl (by omega) (by omega)) rfl ?_)))))
    refine .a rfl rfl rfl (.a rfl rfl rfl (.a rfl rfl rfl (.go idQ (.region (.m rfl rfl rfl ?_)))))
    refine .m rfl rfl rfl (.v (ev_ix rfl Try.underlying51 ty41 rfl rfl (by omega) (by omega) (row_adr (i := w) 1 rfl (by omega) (by omega))) rfl (.v (ev_ld1 rfl ty41 rfl (At.elem1 (row_el (E := eVL) (l := Y20) (i := w) 1 rfl (by omega) (by omega)) 0 rfl)) rfl (.a rfl rfl rfl (.go idQ (.region ?_)))))
    exact .m rfl rfl rfl (.v (ev_add rfl rfl rfl (r := (w + 1)) rfl (by omega) (by omega)) rfl (.a rfl rfl rfl (SP.nil (SQ.reslotv (t := 12) (v := .slice ((gt (D ++ Y20) (((D.length : Nat) : Int) + w)).wlA) ((gt (D ++ Y20) (((D.length : Nat) : Int) + w)).vl.length) ((gt (D ++ Y20) (((D.length : Nat) : Int) + w)).wlc)) rfl (by rw [gt_right (by omega)]) (SQ.roundb (X := Int × Int × Int × Bool × Int) (x := (w, veh2, bst2, fnd2, jw2)) ⟨(w + 1), v, (((costP p v ((gt Y20 w).vl)).1) - ((costP p v (visR v (l.map rc))).1)), true, (((D.length : Nat) : Int) + w)⟩ (by exact ⟨(by omega), (by omega), (by have hq := r_2; rw [drop_gtv (i := w) (by omega) (by omega), insW_cons, if_pos (by assumption)] at hq; rw [if_pos rfl, gt_right (by omega)]; exact hq), (by (try simp only [List.length_append] at *); omega), (by rw [gt_right (by omega)]; have := hwl (by omega); omega), (.inl rfl)⟩) (by dsimp only; omega) (Sub.get (.c4 rfl rfl rfl rfl (.c4 rfl rfl rfl rfl (.c4 rfl rfl rfl rfl (.c rfl (.c rfl .n)))))) (fun w hw => hw.keep (.c .h (.c .h (.c .h (.c .h (.c .h (.c .h .n))))))))))))
   exact .skipgo idQ (.region (.m rfl rfl rfl (.v (ev_add rfl rfl rfl (r := (w + 1)) rfl (by omega) (by omega)) rfl (.a rfl rfl rfl (SP.nil (SQ.roundb (X := Int × Int × Int × Bool × Int) (x := (w, veh2, bst2, fnd2, jw2)) ⟨(w + 1), veh2, bst2, fnd2, jw2⟩ (by exact ⟨(by omega), (by omega), (by have hq := r_2; rw [drop_gtv (i := w) (by omega) (by omega), insW_cons, if_neg (by assumption)] at hq; exact hq), (by (try simp only [List.length_append] at *); omega), r_4, r_5⟩) (by dsimp only; omega) (Sub.get (.c4 rfl rfl rfl rfl (.c4 rfl rfl rfl rfl (.c4 rfl rfl rfl rfl (.c rfl (.c rfl .n)))))) (fun w hw => hw.keep (.c .h (.c .h (.c .h (.c .h (.c .h (.c .h .n)))))))))))))
  exact .exit idQ (.region (.m rfl rfl rfl (.v (ev_add rfl rfl rfl (r := (v + 1)) rfl (by omega) (by omega)) rfl (.a rfl rfl rfl (SP.nil (SQ.roundb (X := Int × Int × Int × Bool × Int × (List VL)) (x := (v, veh, best, found, jw, D)) ⟨(v + 1), veh2, bst2, fnd2, jw2, (D ++ Y20)⟩ (by exact ⟨(by omega), (by omega), (by have hq := q_2; rw [insV_step (by omega), if_neg (by assumption), ← r_2, drop_end (i := w) (by simp only [List.length_map]; omega)] at hq; exact hq), r_3, r_4, r_5⟩) (by dsimp only; omega) (Sub.get (.c4 rfl rfl rfl rfl (.c4 rfl rfl rfl rfl (.c rfl (.c rfl (.c rfl .n)))))) (fun w hw => hw.keep (.c .h (.c (.t .h) (.c (.t .h) (.c (.t .h) (.c (.t .h) .n))))))))))))
 refine .exit idQ (.seq (.seq (.region (.m rfl rfl rfl (.v (ev_not rfl rfl) rfl ?_)))))
 refine .go idQ (.condI rfl (bN bV) (fun h30 => ?_) (fun h30 => ?_))
 ·
  refine .seq ?_
  refine SC.nestR0 46 ?_
  refine .region (.v (ev_any (v := .agg #[.slice none 0 0]) rfl (by kernel_rfl) (fun _ => by kernel_rfl)) rfl (.cons (st_storea (l' := [.slice none 0 0]) rfl rfl rfl ty35 rfl rfl rfl (.t (.t .h)) rfl rfl (.a rfl rfl rfl (.a rfl rfl rfl (.go idQ ?_))))))
  refine SC.nilrow eRT 43 ?_
  exact .ret idQ (retv3 Try.results27 (.c 1 rfl rfl ty35) (.t rfl) (.t rfl) (.c .h (.c (.t .h) .n)) ⟨(.slice none 0 0), [], (by have hq := q_2; rw [insV_end (by omega)] at hq; rw [← hq, if_neg (by assumption)]; rfl), (fun _ => Nat.le_refl 0), (by have hq := q_2; rw [insV_end (by omega)] at hq; rw [← hq]; have hb0 : best = 0 := (by rcases q_5 with h_ | h_; exact absurd h_ (by assumption); exact h_); have hf0 : found = false := (by simpa using (by assumption : ¬ found = true)); rw [hb0, hf0]), rfl⟩)
 refine .skipgo idQ (.seq (.region (.v (ev_lda rfl rfl (At.whole 3 rfl) ty35) rfl (.m rfl rfl rfl (.m rfl rfl rfl ?_)))))
 refine .cons (st_lend0 rfl rfl rfl rfl hbd46 rfl .n (.c .h .n) (fun w_ hw => rwith_ A c l veh ((gt D jw).wlA) ((gt D jw).wlc) ((gt D jw).vl) _ _ (Fr.ext hA hw.lendx) ((VLF.lend hw 0 rfl) jw) ((hRT).ext hw.lendx) (by first | omega | simp only [LL] <;> omega | simp <;> omega) (fun i_ => by have := hvs i_; omega) (by first | omega | simp only [LL] <;> omega | simp <;> omega)) (fun v_q33 C_q33 q33 => ?_))
 obtain ⟨u31, R32, p34, p35, rfl, rfl⟩ := q33
 show SP _ _ _ _ _ _ ⟨_, _ :: _ :: _ :: _, _, _⟩
 refine .know (row_len 0 rfl) (fun hv38 => ?_)
 obtain ⟨A36, c37, rfl, hv38_1, hv38_2⟩ := hv38
 unfold maxLen at hv38_2
 exact .m rfl rfl rfl (.cons (st_storea (l' := [.slice A36 R32.length c37]) rfl rfl rfl ty35 rfl rfl rfl (.t (.t (.t .h))) rfl rfl (.a rfl rfl rfl (.a rfl rfl rfl (.go idQ (.ret idQ (retv3 Try.results27 (.c 0 rfl rfl ty35) (.t rfl) (.t rfl) (.c (.t .h) (.c (.t .h) .n)) ⟨.slice A36 R32.length c37, R32, (by have hq := q_2; rw [insV_end (by omega)] at hq; rw [← hq, if_pos (by first | assumption | exact Classical.not_not.1 (by assumption))]; exact p34), p35, (by have hq := q_2; rw [insV_end (by omega)] at hq; have hf1 : found = true := (by first | assumption | exact Classical.not_not.1 (by assumption)); rw [← hq, hf1]), rfl⟩)))))))
end Go.Proofs.Ytdpmnodiebpjeaa.Sx
set_option maxRecDepth 20000
set_option maxHeartbeats 1000000
namespace Go.Proofs.Ytdpmnodiebpjeaa.Sx.FO
open Go Go.SX Go.Proofs
theorem zf35 : (Try.prog.info? 35).bind (fun i => i.zero.map Value.cells) = some (List.toArray [.slice none 0 0]) := by kernel_rfl
theorem ty35 : ty Try.prog 35 = some (true, 1) := by kernel_rfl
theorem ty29 : ty Try.prog 29 = some (true, 8) := by kernel_rfl
theorem hbd20 : hasBody Try.prog 20 = true := by kernel_rfl
theorem ty54 : ty Try.prog 54 = some (true, 2) := by kernel_rfl
theorem hbd27 : hasBody Try.prog 27 = true := by kernel_rfl
theorem mo : Try.prog.follows .mixedOrders = true := by kernel_rfl
theorem ty46 : ty Try.prog 46 = some (true, 2) := by kernel_rfl
theorem fo35_0 : fo Try.prog 35 0 = some 0 := by kernel_rfl
theorem ty33 : ty Try.prog 33 = some (false, 1) := by kernel_rfl
theorem ty43 : ty Try.prog 43 = some (true, 2) := by kernel_rfl
theorem fo43_0 : fo Try.prog 43 0 = some 0 := by kernel_rfl
theorem ty3 : ty Try.prog 3 = some (false, 1) := by kernel_rfl
theorem fo43_1 : fo Try.prog 43 1 = some 1 := by kernel_rfl
theorem ty41 : ty Try.prog 41 = some (false, 1) := by kernel_rfl
theorem hbd19 : hasBody Try.prog 19 = true := by kernel_rfl
theorem eqIn46 (d : Nat) (x0 y0 : Int) (x1 y1 : Int) (w : World) : (Op.equalIn (d + 3) 46 (.agg #[(.int .i64 x0), (.int .i64 x1)]) (.agg #[(.int .i64 y0), (.int .i64 y1)])).run Try.prog w = .ok ((x0 == y0) && (x1 == y1)) w := by
 rw [run_equalIn_struct w (d + 2) 46 _ _ (by kernel_rfl) (by kernel_rfl)]
 have hf : (Try.prog.fieldsOf 46).toList = [{ name := "Kind", type := 44, offset := 0, embedded := false, tag := "", pkgPath := "", byteOffset := 0 }, { name := "Item", type := 3, offset := 1, embedded := false, tag := "", pkgPath := "", byteOffset := 8 }] := by kernel_rfl
 rw [hf]
 have h44 : ∀ (x y : Int) (w : World), (Op.equalIn (d + 2) 44 (.int .i64 x) (.int .i64 y)).run Try.prog w = .ok (x == y) w := fun x y w => by
  simp [Op.equalIn, run_underlying Try.underlying44]
 have h3 : ∀ (x y : Int) (w : World), (Op.equalIn (d + 2) 3 (.int .i64 x) (.int .i64 y)).run Try.prog w = .ok (x == y) w := fun x y w => by
  simp [Op.equalIn, run_underlying Try.underlying3]
 have p0 : ∀ (x0 : Int) (x1 : Int) (w : World), (part 44 #[(.int .i64 x0), (.int .i64 x1)] 0).run Try.prog w = .ok (.int .i64 x0) w := fun _ _ _ => by kernel_rfl
 have p1 : ∀ (x0 : Int) (x1 : Int) (w : World), (part 3 #[(.int .i64 x0), (.int .i64 x1)] 1).run Try.prog w = .ok (.int .i64 x1) w := fun _ _ _ => by kernel_rfl
 simp only [Op.eqFields, Sem.run_bind, h44, h3, p0, p1, Result.andThen_ok, Sem.run_ite, ne_eq]
 cases g0 : (x0 == y0) <;> cases g1 : (x1 == y1) <;> simp [g0, g1]
theorem ev46_eql (x y : Operand) (x0 y0 : Int) (x1 y1 : Int) (w : World) : (do eqGuard .eql 46 x y (.agg #[(.int .i64 x0), (.int .i64 x1)]) (.agg #[(.int .i64 y0), (.int .i64 y1)]); binOp .eql 46 (.agg #[(.int .i64 x0), (.int .i64 x1)]) (.agg #[(.int .i64 y0), (.int .i64 y1)]) : Sem Value).run Try.prog w = .ok (.bool (((x0 == y0) && (x1 == y1)))) w := by
 have h1 : (Op.equal 46 (.agg #[(.int .i64 x0), (.int .i64 x1)]) (.agg #[(.int .i64 y0), (.int .i64 y1)])).run Try.prog w = .ok ((x0 == y0) && (x1 == y1)) w := eqIn46 9997 x0 y0 x1 y1 w
 have h2 : (eqGuard .eql 46 x y (.agg #[(.int .i64 x0), (.int .i64 x1)]) (.agg #[(.int .i64 y0), (.int .i64 y1)])).run Try.prog w = .ok () w := by kernel_rfl
 simp only [Sem.run_bind, h2, Result.andThen_ok, binOp, h1]
 rfl
theorem ev46_neq (x y : Operand) (x0 y0 : Int) (x1 y1 : Int) (w : World) : (do eqGuard .neq 46 x y (.agg #[(.int .i64 x0), (.int .i64 x1)]) (.agg #[(.int .i64 y0), (.int .i64 y1)]); binOp .neq 46 (.agg #[(.int .i64 x0), (.int .i64 x1)]) (.agg #[(.int .i64 y0), (.int .i64 y1)]) : Sem Value).run Try.prog w = .ok (.bool (!((x0 == y0) && (x1 == y1)))) w := by
 have h1 : (Op.equal 46 (.agg #[(.int .i64 x0), (.int .i64 x1)]) (.agg #[(.int .i64 y0), (.int .i64 y1)])).run Try.prog w = .ok ((x0 == y0) && (x1 == y1)) w := eqIn46 9997 x0 y0 x1 y1 w
 have h2 : (eqGuard .neq 46 x y (.agg #[(.int .i64 x0), (.int .i64 x1)]) (.agg #[(.int .i64 y0), (.int .i64 y1)])).run Try.prog w = .ok () w := by kernel_rfl
 simp only [Sem.run_bind, h2, Result.andThen_ok, binOp, h1]
 rfl
end Go.Proofs.Ytdpmnodiebpjeaa.Sx.FO
namespace Go.Proofs.Ytdpmnodiebpjeaa.Sx
open Go Go.SX Go.Proofs FO
theorem rgreedy_ (p : PB) (S : Nat → Prop) (wf : World) (hPB : PBF S wf p) (hL : LawP p) :
  TR0 Try.prog 12 [.agg #[.int .i64 p.dims, .int .i64 p.tn, .slice p.ptA p.time.length p.ptc, .int .i64 p.dn, .slice p.pdA p.dist.length p.pdc, .slice p.pvA p.vehs.length p.pvc, .slice p.pjA p.jobs.length p.pjc, .slice p.psA p.ships.length p.psc]] [] S wf (fun v_ C_ => ∃ (u : Value) (R : List RT), (R.map rc = greedyF p) ∧ (∀ i : Int, (gt R i).vis.length ≤ (gt R i).rc) ∧ v_ = .agg #[u] ∧ C_ = [rw_ eRT 43 (u) R, nestR 46 R]) := by
 have htl := taskL_len hL
 have hnj := hL.nj
 refine TR.mk Try.func12 rfl Try.ntmps12 rfl rfl (fun w_ => ?_)
 refine .seq (.region (.cons (st_boxa rfl rfl rfl rfl rfl (fun b1 => .cons (st_alloc rfl rfl rfl rfl zf35 (fun b2 => .go idQ (.seq ?_)))))))
 refine .region (.v (ev_any (v := .agg #[.slice none 0 0]) rfl (by kernel_rfl) (fun _ => by kernel_rfl)) rfl (.cons (st_alloc rfl rfl rfl rfl zf35 (fun b3 => .cons (st_storea (l' := [.slice none 0 0]) rfl rfl rfl ty35 rfl rfl rfl .h rfl rfl (.go idQ (.seq ?_)))))))
 refine .region (.v (ev_lda rfl rfl (At.whole 2 rfl) ty29) rfl (.cons (st_call0 rfl rfl rfl rfl hbd20 rfl .n (rtasks_ p _ _ hPB (by omega)) (fun v_q5 C_q5 q5 => ?_))))
 obtain ⟨u4, rfl, rfl⟩ := q5
 show SP _ _ _ _ _ _ ⟨_, _ :: _, _, _⟩
 refine .a rfl rfl rfl (.go idQ (.seq (.seq (.region (.a rfl rfl rfl ?_)))))
 refine .go idQ (.block ?_)
 refine SC.nilrow eRT 43 ?_
 refine SC.nestR0 46 ?_
 refine .loop (X := Int × (List RT) × Value) (fun ⟨i, G, u_G⟩ => 0 ≤ i ∧ i ≤ (((taskL p).length : Nat) : Int) ∧ greedyR p ((taskL p).drop i.toNat) (G.map rc) = greedyF p ∧ RBd (2 * i) (G.map rc) ∧ (G.length : Int) ≤ i ∧ (∀ i_ : Int, (gt G i_).vis.length ≤ (gt G i_).rc)) (fun ⟨i, G, u_G⟩ => [(1, .pointer (some ⟨b1, 0, none⟩)), (2, .pointer (some ⟨b2, 0, none⟩)), (3, .pointer (some ⟨b3, 0, none⟩)), (4, v_q5), (5, .int .i64 i)]) (fun ⟨i, G, u_G⟩ => [nestR 46 G, rw_ eRT 43 (u_G) G, rw_ eTK 54 (v_q5) (taskL p), cel b3 [u_G] 35, cel b2 [.slice none 0 0] 35, cel b1 [.int .i64 p.dims, .int .i64 p.tn, .slice p.ptA p.time.length p.ptc, .int .i64 p.dn, .slice p.pdA p.dist.length p.pdc, .slice p.pvA p.vehs.length p.pvc, .slice p.pjA p.jobs.length p.pjc, .slice p.psA p.ships.length p.psc] 29]) (fun _ => S) (fun _ => wf) (fun ⟨i, G, u_G⟩ => ((((taskL p).length : Nat) : Int) - i).toNat) (fun a_ w_ hs_ hw_ => ⟨⟨0, ([] : List RT), .slice none 0 0⟩, (by exact ⟨(by omega), (by omega), rfl, (fun r hr => by cases hr), (by simp), (fun i_ => Nat.le_refl 0)⟩), hs_.mono (Sub.get (.c4 rfl rfl rfl rfl (.c rfl .n))), hw_.keep (.c .h (.c .h (.c .h (.c .h (.c .h (.c .h .n))))))⟩) (fun ⟨i, G, u_G⟩ ⟨q_0, q_1, q_2, q_3, q_4, q_5⟩ => ?_)
 show SC _ _ _ _ _ ⟨[(1, .pointer (some ⟨b1, 0, none⟩)), (2, .pointer (some ⟨b2, 0, none⟩)), (3, .pointer (some ⟨b3, 0, none⟩)), (4, v_q5), (5, .int .i64 i)], [nestR 46 G, rw_ eRT 43 (u_G) G, rw_ eTK 54 (v_q5) (taskL p), cel b3 [u_G] 35, cel b2 [.slice none 0 0] 35, cel b1 [.int .i64 p.dims, .int .i64 p.tn, .slice p.ptA p.time.length p.ptc, .int .i64 p.dn, .slice p.pdA p.dist.length p.pdc, .slice p.pvA p.vehs.length p.pvc, .slice p.pjA p.jobs.length p.pjc, .slice p.psA p.ships.length p.psc] 29], S, wf⟩
 refine .seq (.seq (.region (.m rfl rfl rfl (.m rfl rfl rfl ?_))))
 refine .know (row_len 2 rfl) (fun hv8 => ?_)
 obtain ⟨A6, c7, rfl, hv8_1, hv8_2⟩ := hv8
 unfold maxLen at hv8_2
 refine .v (ev_len rfl Try.underlying57 rfl) rfl (.v (ev_cmp rfl rfl rfl rfl) rfl (.go idQ (.condI rfl bD (fun h9 => ?_) (fun h9 => ?_))))
 ·
  refine .skipgo idQ (.seq (.block (.seq ?_)))
  refine .know (row_len 1 rfl) (fun hv12 => ?_)
  obtain ⟨A10, c11, rfl, hv12_1, hv12_2⟩ := hv12
  unfold maxLen at hv12_2
  refine SC.draw mo [] [] .n (fun _ _ _ => sc0) (fun wf_13 hl_13 hx_13 hR_13 => ?_)
  refine SR.z 0 rfl rfl (ev_lda (cs := [.int .i64 p.dims, .int .i64 p.tn, .slice p.ptA p.time.length p.ptc, .int .i64 p.dn, .slice p.pdA p.dist.length p.pdc, .slice p.pvA p.vehs.length p.pvc, .slice p.pjA p.jobs.length p.pjc, .slice p.psA p.ships.length p.psc]) rfl rfl (At.d (At.lent hR_13 5 rfl rfl)) ty29) (SR.z 1 rfl rfl (ev_lda (cs := [.slice A10 G.length c11]) rfl rfl (At.d (At.lent hR_13 3 rfl rfl)) ty35) (SR.m 2 rfl rfl rfl rfl (SR.m 3 rfl rfl rfl rfl (SR.z 4 rfl rfl (ev_ix rfl Try.underlying57 ty54 rfl rfl (by omega) (by omega) (fun _ _ => Fr.adr (i := i) (Fr.lent (S := S) hR_13 2 rfl (by first | omega | simp only [LL] <;> omega | simp <;> omega)) (by omega) (by omega))) (SR.z 5 rfl rfl (ev_lda rfl rfl (At.d (Fr.el (i := i) (Fr.lent (S := S) hR_13 2 rfl (by first | omega | simp only [LL] <;> omega | simp <;> omega)) (by omega) (by omega))) ty54) ?_)))))
  refine SR.two (i := 6) (j := 11) (by kernel_rfl) ⟨_, rfl, ?_⟩ ⟨_, rfl, ?_⟩
  ·
   refine st_call0 rfl rfl rfl rfl hbd27 rfl .n (rinsert_ p A10 c11 G (gt (taskL p) i) _ _ (Fr.lent (S := S) hR_13 1 rfl (by first | omega | simp only [LL] <;> omega | simp <;> omega)) ((hPB).ext hx_13) (RTF.lent (S := S) hR_13 0 rfl) (by omega) (by first | omega | simp only [LL] <;> omega | simp <;> omega) (fun i_ => by have := RBd_gt q_3 (by omega) i_; omega) q_5) (fun v_q16 C_q16 q16 => ⟨tt0, ?_⟩)
   obtain ⟨u14, R15, p17, p18, rfl, rfl⟩ := q16
   show SR _ _ _ _ _ _ _ _ _ ⟨_, _ :: _ :: _, _, _⟩
   refine .know (row_len 0 rfl) (fun hv21 => ?_)
   obtain ⟨A19, c20, rfl, hv21_1, hv21_2⟩ := hv21
   unfold maxLen at hv21_2
   refine SR.m 7 rfl rfl rfl rfl (SR.z 8 rfl rfl (ev_ext rfl rfl rfl) (SR.z 9 rfl rfl (ev_ext rfl rfl rfl) (SR.z 10 rfl rfl (ev_ext rfl rfl rfl) (SR.o 11 rfl (st_alloc rfl rfl rfl rfl zf35 (fun b22 => ⟨tt0, (SR.o 12 rfl (st_storea (l' := [.slice A19 R15.length c20]) rfl rfl rfl ty35 rfl rfl rfl .h rfl rfl ⟨tt0, ?_⟩))⟩))))))
   refine SR.z 13 rfl rfl (ev_as rfl rfl) (SR.z 14 rfl rfl (ev_as rfl rfl) (SR.fin (by kernel_rfl) hl_13 hx_13 hR_13 (.c (.c (.c .n))) (SQ.go idQ (.seq (.region ?_)))))
   refine .m rfl rfl rfl (.go idQ (.condI rfl bV (fun h23 => ?_) (fun h23 => ?_)))
   ·
    refine .region (.v (ev_lda rfl rfl (At.whole 0 rfl) ty35) rfl (.cons (st_storea (l' := [.slice A19 R15.length c20]) rfl rfl rfl ty35 rfl rfl rfl (.t (.t (.t (.t (.t (.t .h)))))) rfl rfl (.go idQ (.region (.m rfl rfl rfl ?_))))))
    exact .v (ev_add rfl rfl rfl (r := (i + 1)) rfl (by omega) (by omega)) rfl (.a rfl rfl rfl (SP.nil (SQ.roundb (X := Int × (List RT) × Value) (x := (i, G, (.slice A10 G.length c11))) ⟨(i + 1), R15, .slice A19 R15.length c20⟩ (by exact ⟨(by omega), (by omega), (by have hq := q_2; rw [drop_gt (x := i) (by omega) (by omega), greedyR_cons, if_pos (by assumption)] at hq; rw [p17]; exact hq), (by rw [p17]; exact RBd_mono (ins_bd q_3 (by omega)).1 (by omega)), (by have h_ := (ins_bd (p := p) (t := gt (taskL p) i) q_3 (by omega)).2; have h2_ := congrArg List.length p17; rw [List.length_map] at h2_; rw [List.length_map] at h_; omega), p18⟩) (by dsimp only; omega) (Sub.get (.c4 rfl rfl rfl rfl (.c rfl .n))) (fun w hw => hw.keep (.c (.t (.t (.t .h))) (.c (.t (.t .h)) (.c (.t (.t (.t (.t .h)))) (.c .h (.c (.t (.t (.t .h))) (.c (.t (.t (.t .h))) .n))))))))))
   exact .skipgo idQ (.region (.m rfl rfl rfl (.v (ev_add rfl rfl rfl (r := (i + 1)) rfl (by omega) (by omega)) rfl (.a rfl rfl rfl (SP.nil (SQ.roundb (X := Int × (List RT) × Value) (x := (i, G, (.slice A10 G.length c11))) ⟨(i + 1), G, .slice A10 G.length c11⟩ (by exact ⟨(by omega), (by omega), (by have hq := q_2; rw [drop_gt (x := i) (by omega) (by omega), greedyR_cons, if_neg (by assumption)] at hq; exact hq), (RBd_mono q_3 (by omega)), (by omega), q_5⟩) (by dsimp only; omega) (Sub.get (.c4 rfl rfl rfl rfl (.c rfl .n))) (fun w hw => hw.keep (.c (.t (.t (.t .h))) (.c (.t (.t (.t .h))) (.c (.t (.t (.t .h))) (.c (.t (.t (.t .h))) (.c (.t (.t (.t .h))) (.c (.t (.t (.t .h))) .n)))))))))))))
  refine st_alloc rfl rfl rfl rfl zf35 (fun b24 => ⟨tt0, (SR.o 6 rfl (st_call0 rfl rfl rfl rfl hbd27 rfl .n (rinsert_ p A10 c11 G (gt (taskL p) i) _ _ (Fr.lent (S := S) hR_13 1 rfl (by first | omega | simp only [LL] <;> omega | simp <;> omega)) ((hPB).ext hx_13) (RTF.lent (S := S) hR_13 0 rfl) (by omega) (by first | omega | simp only [LL] <;> omega | simp <;> omega) (fun i_ => by have := RBd_gt q_3 (by omega) i_; omega) q_5) (fun v_q27 C_q27 q27 => ⟨tt0, ?_⟩)))⟩)
  obtain ⟨u25, R26, p28, p29, rfl, rfl⟩ := q27
  show SR _ _ _ _ _ _ _ _ _ ⟨_, _ :: _ :: _, _, _⟩
  refine .know (row_len 0 rfl) (fun hv32 => ?_)
  obtain ⟨A30, c31, rfl, hv32_1, hv32_2⟩ := hv32
  unfold maxLen at hv32_2
  refine SR.m 7 rfl rfl rfl rfl (SR.z 8 rfl rfl (ev_ext rfl rfl rfl) (SR.z 9 rfl rfl (ev_ext rfl rfl rfl) (SR.z 10 rfl rfl (ev_ext rfl rfl rfl) (SR.o 12 rfl (st_storea (l' := [.slice A30 R26.length c31]) rfl rfl rfl ty35 rfl rfl rfl (.t (.t .h)) rfl rfl ⟨tt0, (SR.z 13 rfl rfl (ev_as rfl rfl) ?_)⟩)))))
  refine SR.z 14 rfl rfl (ev_as rfl rfl) (SR.fin (by kernel_rfl) hl_13 hx_13 hR_13 (.c (.c (.c .n))) (SQ.go idQ (.seq (.region (.m rfl rfl rfl ?_)))))
  refine .go idQ (.condI rfl bV (fun h33 => ?_) (fun h33 => ?_))
  ·
   refine .region (.v (ev_lda rfl rfl (At.whole 0 rfl) ty35) rfl (.cons (st_storea (l' := [.slice A30 R26.length c31]) rfl rfl rfl ty35 rfl rfl rfl (.t (.t (.t (.t (.t (.t .h)))))) rfl rfl (.go idQ (.region (.m rfl rfl rfl ?_))))))
   exact .v (ev_add rfl rfl rfl (r := (i + 1)) rfl (by omega) (by omega)) rfl (.a rfl rfl rfl (SP.nil (SQ.roundb (X := Int × (List RT) × Value) (x := (i, G, (.slice A10 G.length c11))) ⟨(i + 1), R26, .slice A30 R26.length c31⟩ (by exact ⟨(by omega), (by omega), (by have hq := q_2; rw [drop_gt (x := i) (by omega) (by omega), greedyR_cons, if_pos (by assumption)] at hq; rw [p28]; exact hq), (by rw [p28]; exact RBd_mono (ins_bd q_3 (by omega)).1 (by omega)), (by have h_ := (ins_bd (p := p) (t := gt (taskL p) i) q_3 (by omega)).2; have h2_ := congrArg List.length p28; rw [List.length_map] at h2_; rw [List.length_map] at h_; omega), p29⟩) (by dsimp only; omega) (Sub.get (.c4 rfl rfl rfl rfl (.c rfl .n))) (fun w hw => hw.keep (.c (.t (.t (.t .h))) (.c (.t (.t .h)) (.c (.t (.t (.t (.t .h)))) (.c .h (.c (.t (.t (.t .h))) (.c (.t (.t (.t .h))) .n))))))))))
  exact .skipgo idQ (.region (.m rfl rfl rfl (.v (ev_add rfl rfl rfl (r := (i + 1)) rfl (by omega) (by omega)) rfl (.a rfl rfl rfl (SP.nil (SQ.roundb (X := Int × (List RT) × Value) (x := (i, G, (.slice A10 G.length c11))) ⟨(i + 1), G, .slice A10 G.length c11⟩ (by exact ⟨(by omega), (by omega), (by have hq := q_2; rw [drop_gt (x := i) (by omega) (by omega), greedyR_cons, if_neg (by assumption)] at hq; exact hq), (RBd_mono q_3 (by omega)), (by omega), q_5⟩) (by dsimp only; omega) (Sub.get (.c4 rfl rfl rfl rfl (.c rfl .n))) (fun w hw => hw.keep (.c (.t (.t (.t .h))) (.c (.t (.t (.t .h))) (.c (.t (.t (.t .h))) (.c (.t (.t (.t .h))) (.c (.t (.t (.t .h))) (.c (.t (.t (.t .h))) .n)))))))))))))
 refine .exit idQ (.seq (.region (.v (ev_lda rfl rfl (At.whole 3 rfl) ty35) rfl ?_)))
 refine .know (row_len 1 rfl) (fun hv36 => ?_)
 obtain ⟨A34, c35, rfl, hv36_1, hv36_2⟩ := hv36
 unfold maxLen at hv36_2
 exact .cons (st_storea (l' := [.slice A34 G.length c35]) rfl rfl rfl ty35 rfl rfl rfl (.t (.t (.t (.t .h)))) rfl rfl (.go idQ (.ret idQ (retv1 Try.results12 (.c 0 rfl rfl ty35) (.c (.t (.t .h)) (.c (.t .h) .n)) ⟨.slice A34 G.length c35, G, (by have hq := q_2; rw [drop_end (by omega)] at hq; exact hq), q_5, rfl, rfl⟩))))
theorem samev_ (A : Option Addr) (c : Nat) (l : List Vis) (B : Option Addr) (d : Nat) (m : List Vis) (S : Nat → Prop) (wf : World) (hA : Fr eVis S wf A l) (hB : Fr eVis S wf B m) :
  TR0 Try.prog 19 [.slice A l.length c, .slice B m.length d] [] S wf (fun v_ C_ => v_ = .bool (decide (l = m)) ∧ C_ = []) := by
 have hla := hA.len
 have hlb := hB.len
 refine TR.mk Try.func19 rfl Try.ntmps19 rfl rfl (fun w_ => ?_)
 refine .seq (.region (.a rfl rfl rfl (.go idQ (.seq (.seq ?_)))))
 refine .region (.m rfl rfl rfl (.v (ev_len rfl Try.underlying41 rfl) rfl (.m rfl rfl rfl (.v (ev_len rfl Try.underlying41 rfl) rfl (.v (ev_cmp rfl rfl rfl rfl) rfl ?_)))))
 refine .go idQ (.condI rfl bNE (fun h1 => ?_) (fun h1 => ?_))
 ·
  exact .seq (.region (.a rfl rfl rfl (.go idQ (.ret idQ (ret1 Try.results19 rfl .n ⟨(congrArg Value.bool (same_len (by omega))), rfl⟩)))))
 refine .skipgo idQ (.seq (.seq ?_))
 have hlm : l.length = m.length := by omega
 refine .region (.a rfl rfl rfl (.go idQ (.block ?_)))
 refine .loop (X := Int) (fun i => 0 ≤ i ∧ i ≤ (l.length : Int) ∧ l.take i.toNat = m.take i.toNat) (fun i => [(0, .slice A l.length c), (1, .slice B m.length d), (5, .int .i64 i)]) (fun i => []) (fun _ => S) (fun _ => wf) (fun i => ((l.length : Int) - i).toNat) (fun a_ w_ hs_ hw_ => ⟨0, (by exact ⟨(by omega), (by omega), (by simp)⟩), hs_.mono (Sub.get (.c rfl (.c rfl (.c rfl .n)))), hw_.keep .n⟩) (fun i ⟨q_0, q_1, q_2⟩ => ?_)
 try dsimp only
 refine .seq (.seq (.region (.m rfl rfl rfl (.m rfl rfl rfl (.v (ev_len rfl Try.underlying41 rfl) rfl ?_)))))
 refine .v (ev_cmp rfl rfl rfl rfl) rfl (.go idQ (.condI rfl bD (fun h2 => ?_) (fun h2 => ?_)))
 ·
  refine .skipgo idQ (.seq (.block (.seq ?_)))
  refine SC.draw mo [] [] .n (fun _ _ _ => sc0) (fun wf_3 hl_3 hx_3 hR_3 => ?_)
  refine SR.m 0 rfl rfl rfl rfl (SR.m 1 rfl rfl rfl rfl (SR.z 2 rfl rfl (ev_ix rfl Try.underlying41 ty46 rfl rfl (by omega) (by omega) (fun _ _ => Fr.adr (i := i) (Fr.ext hA hx_3) (by omega) (by omega))) (SR.z 3 rfl rfl (ev_lda rfl rfl (At.d (Fr.el (i := i) (Fr.ext hA hx_3) (by omega) (by omega))) ty46) (SR.m 4 rfl rfl rfl rfl (SR.m 5 rfl rfl rfl rfl ?_)))))
  refine SR.z 6 rfl rfl (ev_ix rfl Try.underlying41 ty46 rfl rfl (by omega) (by omega) (fun _ _ => Fr.adr (i := i) (Fr.ext hB hx_3) (by omega) (by omega))) (SR.z 7 rfl rfl (ev_lda rfl rfl (At.d (Fr.el (i := i) (Fr.ext hB hx_3) (by omega) (by omega))) ty46) (SR.z 8 rfl rfl (ev_bin rfl rfl rfl (r := .bool (!((((gt l i).kind) == ((gt m i).kind)) && (((gt l i).item) == ((gt m i).item))))) (ev46_neq _ _ _ _ _ _)) (SR.fin (by kernel_rfl) hl_3 hx_3 hR_3 .n (SQ.go idQ (.condI rfl (bN (bA bE bE)) (fun h4 => ?_) (fun h4 => ?_))))))
  ·
   exact .seq (.region (.a rfl rfl rfl (.go idQ (.ret idQ (ret1 Try.results19 rfl .n ⟨(congrArg Value.bool (same_no q_0 (by omega) (by omega) (by assumption))), rfl⟩)))))
  exact .skipgo idQ (.region (.m rfl rfl rfl (.v (ev_add rfl rfl rfl (r := (i + 1)) rfl (by omega) (by omega)) rfl (.a rfl rfl rfl (SP.nil (SQ.roundb (X := Int) (x := (i)) (i + 1) (by exact ⟨(by omega), (by omega), (same_next q_0 (by omega) (by omega) q_2 (by assumption))⟩) (by show (_ : Nat) < _; omega) (Sub.get (.c rfl (.c rfl (.c rfl .n)))) (fun w hw => hw.keep .n)))))))
 exact .exit idQ (.seq (.region (.a rfl rfl rfl (.go idQ (.ret idQ (ret1 Try.results19 rfl .n ⟨(congrArg Value.bool (same_end (by omega) hlm q_2)), rfl⟩))))))
theorem same15_ (A : Option Addr) (c : Nat) (l : List RT) (B : Option Addr) (d : Nat) (m : List RT) (S : Nat → Prop) (wf : World) (hA : Fr eRT S wf A l) (hB : Fr eRT S wf B m) (hRT : RTF S wf l) (hRTm : RTF S wf m) :
  TR0 Try.prog 9 [.agg #[.slice A l.length c], .agg #[.slice B m.length d]] [] S wf (fun v_ C_ => v_ = .bool (decide (l.map rc = m.map rc)) ∧ C_ = []) := by
 have hla := hA.len
 have hlb := hB.len
 refine TR.mk Try.func9 rfl Try.ntmps9 rfl rfl (fun w_ => ?_)
 refine .seq (.region (.cons (st_boxa rfl rfl rfl rfl rfl (fun b1 => .cons (st_boxa rfl rfl rfl rfl rfl (fun b2 => .a rfl rfl rfl (.go idQ ?_)))))))
 refine .seq (.seq (.region (.v (ev_fa rfl fo35_0 rfl (r := 0) rfl) rfl (.v (ev_ld1 rfl ty33 rfl (At.own1 1 rfl rfl)) rfl (.v (ev_len rfl Try.underlying33 rfl) rfl ?_)))))
 refine .v (ev_fa rfl fo35_0 rfl (r := 0) rfl) rfl (.v (ev_ld1 rfl ty33 rfl (At.own1 0 rfl rfl)) rfl (.v (ev_len rfl Try.underlying33 rfl) rfl (.v (ev_cmp rfl rfl rfl rfl) rfl (.go idQ (.condI rfl bNE (fun h3 => ?_) (fun h3 => ?_))))))
 ·
  exact .seq (.region (.a rfl rfl rfl (.go idQ (.ret idQ (ret1 Try.results9 rfl .n ⟨(congrArg Value.bool (decide_eq_false (fun e_ => by have := congrArg List.length e_; simp only [List.length_map] at this; omega)).symm), rfl⟩)))))
 refine .skipgo idQ (.seq (.seq (.region (.a rfl rfl rfl (.go idQ (.block ?_))))))
 refine .loop (X := Int) (fun i => 0 ≤ i ∧ i ≤ (l.length : Int) ∧ (∀ j : Int, 0 ≤ j → j < i → rc (gt l j) = rc (gt m j))) (fun i => [(2, .pointer (some ⟨b1, 0, none⟩)), (3, .pointer (some ⟨b2, 0, none⟩)), (5, .int .i64 i)]) (fun i => [cel b2 [.slice B m.length d] 35, cel b1 [.slice A l.length c] 35]) (fun _ => S) (fun _ => wf) (fun i => ((l.length : Int) - i).toNat) (fun a_ w_ hs_ hw_ => ⟨0, (by exact ⟨(by omega), (by omega), (fun j h0_ h1_ => by omega)⟩), hs_.mono (Sub.get (.c rfl (.c rfl (.c rfl .n)))), hw_.keep (.c .h (.c .h .n))⟩) (fun i ⟨q_0, q_1, q_2⟩ => ?_)
 try dsimp only
 refine .seq (.seq (.region (.m rfl rfl rfl (.v (ev_fa rfl fo35_0 rfl (r := 0) rfl) rfl (.v (ev_ld1 rfl ty33 rfl (At.own1 1 rfl rfl)) rfl ?_)))))
 refine .v (ev_len rfl Try.underlying33 rfl) rfl (.v (ev_cmp rfl rfl rfl rfl) rfl (.go idQ (.condI rfl bD (fun h4 => ?_) (fun h4 => ?_))))
 ·
  refine .skipgo idQ (.seq (.block (.seq ?_)))
  refine SC.draw mo [] [] .n (fun _ _ _ => sc0) (fun wf_5 hl_5 hx_5 hR_5 => ?_)
  refine SR.z 0 rfl rfl (ev_fa rfl fo35_0 rfl (r := 0) rfl) (SR.z 1 rfl rfl (ev_ld1 rfl ty33 rfl (At.d (At.lent hR_5 1 rfl rfl))) (SR.m 2 rfl rfl rfl rfl (SR.z 3 rfl rfl (ev_ix rfl Try.underlying33 ty43 rfl rfl (by omega) (by omega) (fun _ _ => Fr.adr (i := i) (Fr.ext hA hx_5) (by omega) (by omega))) (SR.z 4 rfl rfl (ev_fa rfl fo43_0 rfl (r := ao A + (i).toNat * 2) rfl) (SR.z 5 rfl rfl (ev_ld1 rfl ty3 rfl (At.elem1 (At.d (Fr.el (i := i) (Fr.ext hA hx_5) (by omega) (by omega))) 0 rfl)) ?_)))))
  refine SR.z 6 rfl rfl (ev_fa rfl fo35_0 rfl (r := 0) rfl) (SR.z 7 rfl rfl (ev_ld1 rfl ty33 rfl (At.d (At.lent hR_5 0 rfl rfl))) (SR.m 8 rfl rfl rfl rfl (SR.z 9 rfl rfl (ev_ix rfl Try.underlying33 ty43 rfl rfl (by omega) (by omega) (fun _ _ => Fr.adr (i := i) (Fr.ext hB hx_5) (by omega) (by omega))) (SR.z 10 rfl rfl (ev_fa rfl fo43_0 rfl (r := ao B + (i).toNat * 2) rfl) (SR.z 11 rfl rfl (ev_ld1 rfl ty3 rfl (At.elem1 (At.d (Fr.el (i := i) (Fr.ext hB hx_5) (by omega) (by omega))) 0 rfl)) ?_)))))
  refine SR.z 12 rfl rfl (ev_cmp rfl rfl rfl rfl) (SR.m 13 rfl rfl rfl rfl (SR.y 14 rfl rfl (fun _ => ev_fa rfl fo35_0 rfl (r := 0) rfl) (SR.y 15 rfl rfl (fun hb => ev_ld1 rfl ty33 (lkg rfl hb) (At.d (At.lent hR_5 1 rfl rfl))) (SR.y 16 rfl rfl (fun _ => ev_mv rfl rfl) (SR.y 17 rfl rfl (fun hb => have hp := bF bNE hb; ev_ix rfl Try.underlying33 ty43 (lkg rfl hb) (lkg rfl hb) (by have _h := hp; omega) (by have _h := hp; omega) (fun _ _ => Fr.adr (i := i) (Fr.ext hA hx_5) (by have _h := hp; omega) (by have _h := hp; omega))) ?_)))))
  refine SR.y 18 rfl rfl (fun hb => ev_fa rfl fo43_1 (lkg rfl hb) (r := ao A + (i).toNat * 2 + 1) rfl) (SR.y 19 rfl rfl (fun hb => have hp := bF bNE hb; ev_ld1 rfl ty41 (lkg rfl hb) (At.elem1 (At.d (Fr.el (i := i) (Fr.ext hA hx_5) (by have _h := hp; omega) (by have _h := hp; omega))) 1 rfl)) (SR.y 20 rfl rfl (fun _ => ev_fa rfl fo35_0 rfl (r := 0) rfl) (SR.y 21 rfl rfl (fun hb => ev_ld1 rfl ty33 (lkg rfl hb) (At.d (At.lent hR_5 0 rfl rfl))) (SR.y 22 rfl rfl (fun _ => ev_mv rfl rfl) (SR.y 23 rfl rfl (fun hb => have hp := bF bNE hb; ev_ix rfl Try.underlying33 ty43 (lkg rfl hb) (lkg rfl hb) (by have _h := hp; omega) (by have _h := hp; omega) (fun _ _ => Fr.adr (i := i) (Fr.ext hB hx_5) (by have _h := hp; omega) (by have _h := hp; omega))) ?_)))))
  refine SR.y 24 rfl rfl (fun hb => ev_fa rfl fo43_1 (lkg rfl hb) (r := ao B + (i).toNat * 2 + 1) rfl) (SR.y 25 rfl rfl (fun hb => have hp := bF bNE hb; ev_ld1 rfl ty41 (lkg rfl hb) (At.elem1 (At.d (Fr.el (i := i) (Fr.ext hB hx_5) (by have _h := hp; omega) (by have _h := hp; omega))) 1 rfl)) (SR.o 26 rfl (st_gcallk rfl rfl rfl rfl rfl rfl hbd19 (fun hb => (lkA1 (lkg rfl hb) (lkA1 (lkg rfl hb) lkA0))) .n (fun hb => have hp := bF bNE hb; samev_ ((gt l i).rA) ((gt l i).rc) ((gt l i).vis) ((gt m i).rA) ((gt m i).rc) ((gt m i).vis) _ _ (((hRT).ext hx_5) i) (((hRTm).ext hx_5) i)) ⟨tt0, (SR.y 27 rfl rfl (fun hb => ev_not rfl (lkg rfl hb)) (SR.z 28 rfl rfl (ev_or rfl rfl rfl rfl) (SR.fin (by kernel_rfl) hl_5 hx_5 hR_5 .n ?_)))⟩)))
  refine SQ.go idQ (.condI rfl (bO bNE (bN bD)) (fun h6 => ?_) (fun h6 => ?_))
  ·
   exact .seq (.region (.a rfl rfl rfl (.go idQ (.ret idQ (ret1 Try.results9 rfl .n ⟨(congrArg Value.bool (decide_eq_false (fun e_ => rcs_ne (by assumption) e_)).symm), rfl⟩)))))
  exact .skipgo idQ (.region (.m rfl rfl rfl (.v (ev_add rfl rfl rfl (r := (i + 1)) rfl (by omega) (by omega)) rfl (.a rfl rfl rfl (SP.nil (SQ.roundb (X := Int) (x := (i)) (i + 1) (by exact ⟨(by omega), (by omega), (rcs_nx q_2 (by assumption))⟩) (by show (_ : Nat) < _; omega) (Sub.get (.c rfl (.c rfl (.c rfl .n)))) (fun w hw => hw.keep (.c .h (.c .h .n)))))))))
 exact .exit idQ (.seq (.region (.a rfl rfl rfl (.go idQ (.ret idQ (ret1 Try.results9 rfl .n ⟨(congrArg Value.bool (decide_eq_true (rcs_eq (by omega) (fun j h0_ h1_ => q_2 j h0_ (by omega)))).symm), rfl⟩))))))
end Go.Proofs.Ytdpmnodiebpjeaa.Sx
