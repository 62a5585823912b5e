import Derived.Test.YteabdapdlfhncaaProg
import Derived.Test.YteabdapdlfhncaaSxWin
import Derived.Test.YteabdapdlfhncaaSx16A
import Derived.Test.YteabdapdlfhncaaSx16S
import Derived.Test.YteabdapdlfhncaaSx16I
set_option maxRecDepth 20000
set_option maxHeartbeats 4000000
set_option linter.unusedVariables false
set_option linter.unusedSimpArgs false
namespace Go.Proofs.Yteabdapdlfhncaa.Sx.FJ
open Go Go.SX Go.Proofs
theorem zf36 : (Try.prog.info? 36).bind (fun i => i.zero.map Value.cells) = some (List.toArray [.int .i64 0, .int .i64 0]) := by kernel_rfl
theorem ty36 : ty Try.prog 36 = some (true, 2) := by kernel_rfl
theorem hb7 : hasBody Try.prog 7 = true := by kernel_rfl
theorem hb16 : hasBody Try.prog 16 = true := by kernel_rfl
theorem hb17 : hasBody Try.prog 17 = true := by kernel_rfl
theorem hb10 : hasBody Try.prog 10 = true := by kernel_rfl
theorem hb9 : hasBody Try.prog 9 = true := by kernel_rfl
theorem mo : Try.prog.follows .mixedOrders = true := by kernel_rfl
theorem hb6 : hasBody Try.prog 6 = true := by kernel_rfl
theorem fo24_1 : fo Try.prog 24 1 = some 1 := by kernel_rfl
theorem ty3 : ty Try.prog 3 = some (false, 1) := by kernel_rfl
theorem fo24_2 : fo Try.prog 24 2 = some 2 := by kernel_rfl
theorem fo24_3 : fo Try.prog 24 3 = some 3 := by kernel_rfl
theorem hb14 : hasBody Try.prog 14 = true := by kernel_rfl
theorem ai36 : (Try.prog.info? 36).map (fun i => (i.zero, i.size, i.bytes)) = some (some (.agg #[.int .i64 0, .int .i64 0]), 2, 16) := by kernel_rfl


end Go.Proofs.Yteabdapdlfhncaa.Sx.FJ
namespace Go.Proofs.Yteabdapdlfhncaa.Sx
open Go Go.SX Go.Proofs FJ



def allF : List Sl := [⟨.func (.func 8) #[] #[], rfl⟩, ⟨.func (.func 13) #[] #[], rfl⟩, ⟨.func (.func 12) #[] #[], rfl⟩, ⟨.func (.func 11) #[] #[], rfl⟩, ⟨.func (.func 16) #[] #[], rfl⟩, ⟨.func (.func 15) #[] #[], rfl⟩]

theorem all_ (S : Nat → Prop) (wf : World) :
    TR0 Try.prog 17 [] [] S wf (fun v_ C_ => ∃ (b : Nat), v_ = .slice (some ⟨b, 0, none⟩) 6 6 ∧ C_ = [rw_ eV 73 (.slice (some ⟨b, 0, none⟩) 6 6) allF]) := by
  refine TR.mk Try.func17 rfl Try.ntmps17 rfl rfl (fun w_ => ?_)
  refine .seq (.region (.cons (Ev.step (ev_as rfl rfl) rfl rfl rfl (.go (fun _ _ h => h) (.seq (.region ?_))))))
  exact .cons (st_lit eV (e := 73) (l := [⟨.func (.func 8) #[] #[], rfl⟩, ⟨.func (.func 13) #[] #[], rfl⟩, ⟨.func (.func 12) #[] #[], rfl⟩, ⟨.func (.func 11) #[] #[], rfl⟩, ⟨.func (.func 16) #[] #[], rfl⟩, ⟨.func (.func 15) #[] #[], rfl⟩]) rfl rfl rfl rfl (by kernel_rfl) rfl rfl (fun w => by kernel_rfl) (fun b1 => .cons (Ev.step (ev_as rfl rfl) rfl rfl rfl (.go (fun _ _ h => h) (.ret (fun _ _ h => h) (ret1 Try.results17 rfl (.c .h .n) ⟨b1, rfl, rfl⟩))))))

theorem awake (S : Nat → Prop) (wf : World) :
    TR0 Try.prog 6 [] [] S wf (fun v_ C_ => v_ = .bool true ∧ C_ = []) := by
  refine TR.mk Try.func6 rfl Try.ntmps6 rfl rfl (fun w_ => ?_)
  refine .seq (.region (.cons (Ev.step (ev_as rfl rfl) rfl rfl rfl (.go (fun _ _ h => h) (.seq (.region ?_))))))
  refine .cons (Ev.step (ev_any (v := .agg #[.int .i64 1, .int .i64 0]) rfl (by kernel_rfl) (fun _ => by kernel_rfl)) rfl rfl rfl (.cons (Ev.step (ev_any (v := .agg #[.int .i64 1, .int .i64 1]) rfl (by kernel_rfl) (fun _ => by kernel_rfl)) rfl rfl rfl (.cons (Ev.step (ev_any (v := .agg #[.int .i64 1, .int .i64 2]) rfl (by kernel_rfl) (fun _ => by kernel_rfl)) rfl rfl rfl (.cons (Ev.step (ev_any (v := .agg #[.int .i64 1, .int .i64 3]) rfl (by kernel_rfl) (fun _ => by kernel_rfl)) rfl rfl rfl (.cons (st_alloc rfl rfl rfl rfl zf36 (fun b1 => .cons (st_alloc rfl rfl rfl rfl zf36 (fun b2 => ?_))))))))))))
  refine .cons (st_alloc rfl rfl rfl rfl zf36 (fun b3 => .cons (st_alloc rfl rfl rfl rfl zf36 (fun b4 => .cons (st_storea (l' := [.int .i64 1, .int .i64 0]) rfl rfl rfl ty36 rfl rfl rfl (.t (.t (.t .h))) rfl rfl (.cons (st_storea (l' := [.int .i64 1, .int .i64 1]) rfl rfl rfl ty36 rfl rfl rfl (.t (.t (.t .h))) rfl rfl (.cons (st_storea (l' := [.int .i64 1, .int .i64 2]) rfl rfl rfl ty36 rfl rfl rfl (.t (.t (.t .h))) rfl rfl (.cons (st_storea (l' := [.int .i64 1, .int .i64 3]) rfl rfl rfl ty36 rfl rfl rfl (.t (.t (.t .h))) rfl rfl ?_)))))))))))
  refine .go (fun _ _ h => h) (.seq (.region (.cons (Ev.step (ev_lda rfl rfl (At.whole 3 rfl) ty36) rfl rfl rfl (.cons (Ev.step (ev_lda rfl rfl (At.whole 2 rfl) ty36) rfl rfl rfl (.cons (Ev.step (ev_lda rfl rfl (At.whole 1 rfl) ty36) rfl rfl rfl ?_))))))))
  refine .cons (Ev.step (ev_lda rfl rfl (At.whole 0 rfl) ty36) rfl rfl rfl (.cons (st_lit eVis (e := 36) (l := [(Vis.mk 1 0), (Vis.mk 1 1), (Vis.mk 1 2), (Vis.mk 1 3)]) rfl rfl rfl rfl (by kernel_rfl) rfl rfl (fun w => by kernel_rfl) (fun b5 => .cons (st_lend0 rfl rfl rfl rfl hb7 rfl .n (.c .h .n) (fun w_ hw => new_ (some ⟨b5, 0, none⟩) 4 [(Vis.mk 1 0), (Vis.mk 1 1), (Vis.mk 1 2), (Vis.mk 1 3)] _ _ (Fr.lend hw 0 rfl (by first | ((try simp only [List.length_nil, List.length_cons, List.length_append, List.length_set, List.length_singleton, List.length_take, List.length_drop, List.length_reverse]) <;> omega) | omega)) (by first | ((try simp only [List.length_nil, List.length_cons, List.length_append, List.length_set, List.length_singleton, List.length_take, List.length_drop, List.length_reverse]) <;> omega) | omega)) (fun v_q8 C_q8 q8 => ?_))))))
  obtain ⟨g6, v7, rfl, rfl⟩ := q8
  show SP _ _ _ _ _ _ ⟨_, _ :: _ :: _ :: _, _, _⟩
  refine .cons (Ev.step (ev_as rfl rfl) rfl rfl rfl (.go (fun _ _ h => h) (.seq (.region (.cons (Ev.step (ev_mv rfl rfl) rfl rfl rfl (.cons (st_call0 rfl rfl rfl rfl hb16 rfl (.c .h (.c .h .n)) (mixed_ g6 v7 [(Vis.mk 1 0), (Vis.mk 1 1), (Vis.mk 1 2), (Vis.mk 1 3)] 0 2 0 _ _ (by first | ((try simp only [List.length_nil, List.length_cons, List.length_append, List.length_set, List.length_singleton, List.length_take, List.length_drop, List.length_reverse]) <;> omega) | omega) (by omega) (by omega) (by omega)) (fun v_q12 C_q12 q12 => ?_)))))))))
  obtain ⟨r9, w10, m11, p13, rfl, rfl⟩ := q12
  show SP _ _ _ _ _ _ ⟨_, _ :: _ :: _, _, _⟩
  obtain ⟨rfl, rfl⟩ : r9 = true ∧ m11 = [(Vis.mk 1 2), (Vis.mk 1 3), (Vis.mk 1 1), (Vis.mk 1 0)] := by have h := p13; rw [show mixedF [(Vis.mk 1 0), (Vis.mk 1 1), (Vis.mk 1 2), (Vis.mk 1 3)] 0 2 = (true, [(Vis.mk 1 2), (Vis.mk 1 3), (Vis.mk 1 1), (Vis.mk 1 0)]) from by decide] at h; injection h with h1 h2; exact ⟨h1, h2⟩
  refine .cons (Ev.step (ev_as rfl rfl) rfl rfl rfl (.go (fun _ _ h => h) (.seq ?_)))
  refine SC.draw mo [cel g6 [w10] 42, rw_ eVis 36 (w10) [(Vis.mk 1 2), (Vis.mk 1 3), (Vis.mk 1 1), (Vis.mk 1 0)]] [] (.c .h (.c .h .n)) (fun _ _ _ c hc => by cases hc) (fun wf_14 hl_14 hx_14 hR_14 => ?_)
  refine SR.take 0 rfl (by kernel_rfl) (by kernel_rfl) (by kernel_rfl) rfl (fun _ _ _ h => h) rfl rfl rfl (ev_mv rfl rfl) (SR.take 1 rfl (by kernel_rfl) (by kernel_rfl) (by kernel_rfl) rfl (fun _ _ _ h => h) rfl rfl rfl (ev_mv rfl rfl) (SR.one (j := 2) (by kernel_rfl) rfl (.on rfl rfl rfl (st_call0 rfl rfl rfl rfl hb17 rfl .n (all_ _ _) (fun v_q16 C_q16 q16 => ⟨tt0, ?_⟩)))))
  obtain ⟨b15, rfl, rfl⟩ := q16
  show SR _ _ _ _ _ _ _ _ _ ⟨_, _ :: _, _, _⟩
  refine SR.gtake 3 rfl (by kernel_rfl) (by kernel_rfl) (by kernel_rfl) rfl (fun _ _ _ _ h => h) rfl rfl rfl rfl rfl (fun _ => ev_len rfl Try.underlying38 rfl) (SR.gtake 4 rfl (by kernel_rfl) (by kernel_rfl) (by kernel_rfl) rfl (fun _ _ _ _ h => h) rfl rfl rfl rfl rfl (fun _ => ev_cmp (r := true) rfl rfl rfl rfl) (SR.take 5 rfl (by kernel_rfl) (by kernel_rfl) (by kernel_rfl) rfl (fun _ _ _ h => h) rfl rfl rfl (ev_pickt rfl rfl rfl rfl) (SR.take 6 rfl (by kernel_rfl) (by kernel_rfl) (by kernel_rfl) rfl (fun _ _ _ h => h) rfl rfl rfl (ev_mv rfl rfl) (SR.gtake 7 rfl (by kernel_rfl) (by kernel_rfl) (by kernel_rfl) rfl (fun _ _ _ _ h => h) rfl rfl rfl rfl rfl (fun _ => ev_mv rfl rfl) (SR.gtake 9 rfl (by kernel_rfl) (by kernel_rfl) (by kernel_rfl) rfl (fun _ _ _ _ h => h) rfl rfl rfl rfl rfl (fun _ => ev_lda (cs := [.int .i64 1, .int .i64 2]) rfl rfl (At.d (At.lent hR_14 2 rfl rfl)) ty36) ?_)))))
  refine SR.gtake 10 rfl (by kernel_rfl) (by kernel_rfl) (by kernel_rfl) rfl (fun _ _ _ _ h => h) rfl rfl rfl rfl rfl (fun _ => ev_lda (cs := [.int .i64 1, .int .i64 3]) rfl rfl (At.d (At.lent hR_14 1 rfl rfl)) ty36) (SR.gtake 11 rfl (by kernel_rfl) (by kernel_rfl) (by kernel_rfl) rfl (fun _ _ _ _ h => h) rfl rfl rfl rfl rfl (fun _ => ev_lda (cs := [.int .i64 1, .int .i64 1]) rfl rfl (At.d (At.lent hR_14 3 rfl rfl)) ty36) (SR.gtake 12 rfl (by kernel_rfl) (by kernel_rfl) (by kernel_rfl) rfl (fun _ _ _ _ h => h) rfl rfl rfl rfl rfl (fun _ => ev_lda (cs := [.int .i64 1, .int .i64 0]) rfl rfl (At.d (At.lent hR_14 4 rfl rfl)) ty36) ?_))
  refine SR.two (i := 8) (j := 13) (by kernel_rfl) ⟨_, rfl, ?_⟩ ⟨_, rfl, ?_⟩
  ·
    refine .on rfl rfl rfl (st_call0 rfl rfl rfl rfl hb10 rfl (.c (.t .h) (.c (.t .h) .n)) (visits_ g6 w10 [(Vis.mk 1 2), (Vis.mk 1 3), (Vis.mk 1 1), (Vis.mk 1 0)] _ _ (by first | ((try simp only [List.length_nil, List.length_cons, List.length_append, List.length_set, List.length_singleton, List.length_take, List.length_drop, List.length_reverse]) <;> omega) | omega)) (fun v_q18 C_q18 q18 => ⟨tt0, ?_⟩))
    obtain ⟨u17, rfl, rfl⟩ := q18
    show SR _ _ _ _ _ _ _ _ _ ⟨_, _ :: _ :: _ :: _, _, _⟩
    refine SR.one (j := 13) (by kernel_rfl) rfl (.on rfl rfl rfl (st_lit eVis (e := 36) (l := [(Vis.mk 1 2), (Vis.mk 1 3), (Vis.mk 1 1), (Vis.mk 1 0)]) rfl rfl rfl rfl (by kernel_rfl) rfl rfl (fun w => by kernel_rfl) (fun b19 => ⟨tt0, ?_⟩)))
    refine .know (row_len 3 rfl) (fun hv22 => ?_)
    obtain ⟨A20, c21, rfl, hv22_1, hv22_2⟩ := hv22
    unfold maxLen at hv22_2
    exact SR.one (j := 14) (by kernel_rfl) rfl (.on rfl rfl rfl (st_lendk rfl rfl rfl rfl hb9 rfl .n (.c (.t (.t (.t .h))) (.c .h .n)) (fun w_ hw => same A20 c21 [(Vis.mk 1 2), (Vis.mk 1 3), (Vis.mk 1 1), (Vis.mk 1 0)] (some ⟨b19, 0, none⟩) 4 [(Vis.mk 1 2), (Vis.mk 1 3), (Vis.mk 1 1), (Vis.mk 1 0)] _ _ (Fr.lend hw 0 rfl (by first | ((try simp only [List.length_nil, List.length_cons, List.length_append, List.length_set, List.length_singleton, List.length_take, List.length_drop, List.length_reverse]) <;> omega) | omega)) (Fr.lend hw 1 rfl (by first | ((try simp only [List.length_nil, List.length_cons, List.length_append, List.length_set, List.length_singleton, List.length_take, List.length_drop, List.length_reverse]) <;> omega) | omega))) ⟨tt0, (SR.take 15 rfl (by kernel_rfl) (by kernel_rfl) (by kernel_rfl) rfl (fun _ _ _ h => h) rfl rfl rfl (ev_pickt rfl rfl rfl rfl) (SR.take 16 rfl (by kernel_rfl) (by kernel_rfl) (by kernel_rfl) rfl (fun _ _ _ h => h) rfl rfl rfl (ev_as rfl rfl) (SR.fin (by kernel_rfl) hl_14 hx_14 hR_14 (.c (.c (.c (.c (.c .n))))) (SQ.go (fun _ _ h => h) (.ret (fun _ _ h => h) (ret1 Try.results6 rfl .n ⟨(congrArg Value.bool (by decide)), rfl⟩))))))⟩))
  ·
    refine .on rfl rfl rfl (st_lit eVis (e := 36) (l := [(Vis.mk 1 2), (Vis.mk 1 3), (Vis.mk 1 1), (Vis.mk 1 0)]) rfl rfl rfl rfl (by kernel_rfl) rfl rfl (fun w => by kernel_rfl) (fun b23 => ⟨tt0, (SR.one (j := 8) (by kernel_rfl) rfl (.on rfl rfl rfl (st_call0 rfl rfl rfl rfl hb10 rfl (.c (.t (.t .h)) (.c (.t (.t .h)) .n)) (visits_ g6 w10 [(Vis.mk 1 2), (Vis.mk 1 3), (Vis.mk 1 1), (Vis.mk 1 0)] _ _ (by first | ((try simp only [List.length_nil, List.length_cons, List.length_append, List.length_set, List.length_singleton, List.length_take, List.length_drop, List.length_reverse]) <;> omega) | omega)) (fun v_q25 C_q25 q25 => ⟨tt0, ?_⟩))))⟩))
    obtain ⟨u24, rfl, rfl⟩ := q25
    show SR _ _ _ _ _ _ _ _ _ ⟨_, _ :: _ :: _ :: _, _, _⟩
    refine .know (row_len 2 rfl) (fun hv28 => ?_)
    obtain ⟨A26, c27, rfl, hv28_1, hv28_2⟩ := hv28
    unfold maxLen at hv28_2
    exact SR.one (j := 14) (by kernel_rfl) rfl (.on rfl rfl rfl (st_lendk rfl rfl rfl rfl hb9 rfl .n (.c (.t (.t .h)) (.c (.t (.t .h)) .n)) (fun w_ hw => same A26 c27 [(Vis.mk 1 2), (Vis.mk 1 3), (Vis.mk 1 1), (Vis.mk 1 0)] (some ⟨b23, 0, none⟩) 4 [(Vis.mk 1 2), (Vis.mk 1 3), (Vis.mk 1 1), (Vis.mk 1 0)] _ _ (Fr.lend hw 0 rfl (by first | ((try simp only [List.length_nil, List.length_cons, List.length_append, List.length_set, List.length_singleton, List.length_take, List.length_drop, List.length_reverse]) <;> omega) | omega)) (Fr.lend hw 1 rfl (by first | ((try simp only [List.length_nil, List.length_cons, List.length_append, List.length_set, List.length_singleton, List.length_take, List.length_drop, List.length_reverse]) <;> omega) | omega))) ⟨tt0, (SR.take 15 rfl (by kernel_rfl) (by kernel_rfl) (by kernel_rfl) rfl (fun _ _ _ h => h) rfl rfl rfl (ev_pickt rfl rfl rfl rfl) (SR.take 16 rfl (by kernel_rfl) (by kernel_rfl) (by kernel_rfl) rfl (fun _ _ _ h => h) rfl rfl rfl (ev_as rfl rfl) (SR.fin (by kernel_rfl) hl_14 hx_14 hR_14 (.c (.c (.c (.c (.c .n))))) (SQ.go (fun _ _ h => h) (.ret (fun _ _ h => h) (ret1 Try.results6 rfl .n ⟨(congrArg Value.bool (by decide)), rfl⟩))))))⟩))

theorem innerOwn (A : Option Addr) (c : Nat) (l : List Vis) (q : Int) (i : Int) (j : Int) (k : Int) (S : Nat → Prop) (wf : World) (hA : Fr eVis S wf A l) (h_i : -9223372036854775808 ≤ i ∧ i ≤ 9223372036854775807) (h_j : -9223372036854775808 ≤ j ∧ j ≤ 9223372036854775807) (h_k : -9223372036854775808 ≤ k ∧ k ≤ 9223372036854775807) :
    TR0 Try.prog 4 [.slice A l.length c, .agg #[.int .i64 q, .int .i64 i, .int .i64 j, .int .i64 k]] [] S wf (fun v_ C_ => v_ = .bool true ∧ C_ = []) := by
  have hl := hA.len
  refine TR.mk Try.func4 rfl Try.ntmps4 rfl rfl (fun w_ => ?_)
  refine .seq (.region (.cons (st_boxa rfl rfl rfl rfl rfl (fun b1 => .cons (Ev.step (ev_as rfl rfl) rfl rfl rfl (.go (fun _ _ h => h) (.seq ?_)))))))
  refine .seq (.region (.cons (st_callk rfl rfl rfl rfl hb6 rfl .n (awake _ _) (.cons (Ev.step (ev_not rfl rfl) rfl rfl rfl (.go (fun _ _ h => h) (.cond_f rfl ?_)))))))
  refine .skipgo (fun _ _ h => h) (.seq (.region (.cons (Ev.step (ev_as rfl rfl) rfl rfl rfl (.go (fun _ _ h => h) (.seq ?_))))))
  refine .seq (.region (.cons (Ev.step (ev_as rfl rfl) rfl rfl rfl (.go (fun _ _ h => h) (.block ?_)))))
  refine .loop (X := Int) (fun x => 0 ≤ x ∧ x ≤ 6) (fun x => [(0, .slice A l.length c), (3, .pointer (some ⟨b1, 0, none⟩)), (5, .pointer none), (6, .int .i64 x)]) (fun x => [cel b1 [.int .i64 q, .int .i64 i, .int .i64 j, .int .i64 k] 24]) (fun _ => S) (fun _ => wf) (fun x => (6 - x).toNat) (fun a_ w_ hs_ hw_ => ⟨0, (by refine ⟨?_, ?_⟩ <;> omega), hs_.mono (Sub.get (.c rfl (.c rfl (.c rfl (.c rfl .n))))), hw_.keep (.c .h .n)⟩) (fun x ⟨hk2_0, hk2_1⟩ => ?_)
  show SC _ _ _ _ _ ⟨[(0, .slice A l.length c), (3, .pointer (some ⟨b1, 0, none⟩)), (5, .pointer none), (6, .int .i64 x)], [cel b1 [.int .i64 q, .int .i64 i, .int .i64 j, .int .i64 k] 24], S, wf⟩
  refine .seq (.seq (.region (.cons (Ev.step (ev_mv rfl rfl) rfl rfl rfl (.cons (Ev.step (ev_cmp rfl rfl rfl rfl) rfl rfl rfl (.go (fun _ _ h => h) ?_)))))))
  refine .condI rfl bD (fun h3 => ?_) (fun h3 => ?_)
  ·
    refine .skipgo (fun _ _ h => h) (.seq (.block (.seq (.region (.cons (Ev.step (ev_mv rfl rfl) rfl rfl rfl ?_))))))
    refine .cons (Ev.step (ev_mv rfl rfl) rfl rfl rfl (.cons (Ev.step (ev_fa rfl fo24_1 rfl (r := 1) rfl) rfl rfl rfl (.cons (Ev.step (ev_ld1 rfl ty3 rfl (At.own1 0 rfl rfl)) rfl rfl rfl (.cons (Ev.step (ev_fa rfl fo24_2 rfl (r := 2) rfl) rfl rfl rfl (.cons (Ev.step (ev_ld1 rfl ty3 rfl (At.own1 0 rfl rfl)) rfl rfl rfl (.cons (Ev.step (ev_fa rfl fo24_3 rfl (r := 3) rfl) rfl rfl rfl ?_)))))))))))
    refine .cons (Ev.step (ev_ld1 rfl ty3 rfl (At.own1 0 rfl rfl)) rfl rfl rfl (.cons (st_callk rfl rfl rfl rfl hb14 rfl .n (play_nil x i j k _ _ (by omega) (by omega) (by omega)) (.cons (Ev.step (ev_mv rfl rfl) rfl rfl rfl (.cons (.on rfl rfl rfl (Ev.step (ev_mv rfl rfl) rfl rfl rfl (.cons (.on rfl rfl rfl (st_callk rfl rfl rfl rfl hb10 rfl .n (visits_nil _ _) (.cons (.on rfl rfl rfl (Ev.step (ev_len rfl Try.underlying22 rfl) rfl rfl rfl ?_))))))))))))))
    refine .cons (.on rfl rfl rfl (Ev.step (ev_cmp (r := false) rfl rfl rfl rfl) rfl rfl rfl (.cons (Ev.step (ev_pickf rfl rfl rfl rfl) rfl rfl rfl (.go (fun _ _ h => h) (.cond_f rfl (.skipgo (fun _ _ h => h) (.region ?_))))))))
    exact .cons (Ev.step (ev_mv rfl rfl) rfl rfl rfl (.cons (Ev.step (ev_add rfl rfl rfl (r := (x + 1)) rfl (by omega) (by omega)) rfl rfl rfl (.cons (Ev.step (ev_as rfl rfl) rfl rfl rfl (SP.nil (SQ.round (X := Int) (x := (x)) (x + 1) (by refine ⟨?_, ?_⟩ <;> omega) (by show (_ : Nat) < _; omega) (Sub.get (.c rfl (.c rfl (.c rfl (.c rfl .n))))) (fun w hw => hw.keep (.c .h .n)))))))))
  ·
    refine .exit (fun _ _ h => h) (.seq (.seq (.region (.cons (Ev.step (ev_mv rfl rfl) rfl rfl rfl (.cons (Ev.step (ev_len rfl Try.underlying22 rfl) rfl rfl rfl ?_)))))))
    refine .cons (Ev.step (ev_cmp rfl rfl rfl rfl) rfl rfl rfl (.go (fun _ _ h => h) (.condI rfl bD (fun h4 => ?_) (fun h4 => ?_))))
    ·
      exact .seq (.region (.cons (Ev.step (ev_as rfl rfl) rfl rfl rfl (.go (fun _ _ h => h) (.ret (fun _ _ h => h) (ret1 Try.results4 rfl .n ⟨rfl, rfl⟩))))))
    ·
      refine .skipgo (fun _ _ h => h) (.seq (.region (.cons (st_lit eVis (e := 36) (l := []) rfl rfl rfl rfl (by kernel_rfl) rfl rfl (fun w => by kernel_rfl) (fun b5 => .cons (Ev.step (ev_mv rfl rfl) rfl rfl rfl (.cons (st_app0 (E := eVis) (m := l) rfl rfl rfl rfl Try.underlying22 ai36 rfl rfl rfl .h (by first | rfl | omega | simp) (Src.w (Fr.flat hA)) (by first | ((try simp only [List.length_nil, List.length_cons, List.length_append, List.length_set, List.length_singleton, List.length_take, List.length_drop, List.length_reverse]) <;> omega) | omega) rfl (fun v6 => ?_)))))))))
      refine .cons (Ev.step (ev_as rfl rfl) rfl rfl rfl (.go (fun _ _ h => h) (.seq (.region (.cons (Ev.step (ev_mv rfl rfl) rfl rfl rfl ?_))))))
      refine .know (row_len 0 rfl) (fun hv9 => ?_)
      obtain ⟨A7, c8, rfl, hv9_1, hv9_2⟩ := hv9
      unfold maxLen at hv9_2
      refine .cons (st_lend0 rfl rfl rfl rfl hb7 rfl .n (.c .h .n) (fun w_ hw => new_ A7 c8 l _ _ (Fr.lend hw 0 rfl (by first | ((try simp only [List.length_nil, List.length_cons, List.length_append, List.length_set, List.length_singleton, List.length_take, List.length_drop, List.length_reverse]) <;> omega) | omega)) (by first | ((try simp only [List.length_nil, List.length_cons, List.length_append, List.length_set, List.length_singleton, List.length_take, List.length_drop, List.length_reverse]) <;> omega) | omega)) (fun v_q12 C_q12 q12 => ?_))
      obtain ⟨g10, v11, rfl, rfl⟩ := q12
      show SP _ _ _ _ _ _ ⟨_, _ :: _ :: _ :: _, _, _⟩
      refine .cons (Ev.step (ev_as rfl rfl) rfl rfl rfl (.go (fun _ _ h => h) (.seq (.region (.cons (Ev.step (ev_mv rfl rfl) rfl rfl rfl (.cons (st_call0 rfl rfl rfl rfl hb10 rfl (.c .h (.c .h .n)) (visits_ g10 v11 l _ _ (by first | ((try simp only [List.length_nil, List.length_cons, List.length_append, List.length_set, List.length_singleton, List.length_take, List.length_drop, List.length_reverse]) <;> omega) | omega)) (fun v_q14 C_q14 q14 => ?_)))))))))
      obtain ⟨u13, rfl, rfl⟩ := q14
      show SP _ _ _ _ _ _ ⟨_, _ :: _ :: _ :: _, _, _⟩
      refine .cons (Ev.step (ev_as rfl rfl) rfl rfl rfl (.go (fun _ _ h => h) (.seq (.seq ?_))))
      refine .know (row_len 2 rfl) (fun hv17 => ?_)
      obtain ⟨A15, c16, rfl, hv17_1, hv17_2⟩ := hv17
      unfold maxLen at hv17_2
      refine .region (.cons (Ev.step (ev_mv rfl rfl) rfl rfl rfl (.cons (Ev.step (ev_len rfl Try.underlying22 rfl) rfl rfl rfl (.cons (Ev.step (ev_mv rfl rfl) rfl rfl rfl (.go (fun _ _ h => h) (.block ?_))))))))
      refine .loop (X := Int × (List Vis) × (List Vis)) (fun ⟨x, X, Y⟩ => 0 ≤ x ∧ X.length = l.length ∧ Y.length = l.length) (fun ⟨x, X, Y⟩ => [(0, .slice A l.length c), (8, .pointer (some ⟨g10, 0, none⟩)), (7, .slice A7 l.length c8), (9, .slice A15 l.length c16), (43, .int .i64 (l.length : Int)), (44, .int .i64 x)]) (fun ⟨x, X, Y⟩ => [cel g10 [v11] 42, rw_ eVis 36 (v11) l, rw_ eVis 36 (.slice A15 l.length c16) Y, rw_ eVis 36 (.slice A7 l.length c8) X, cel b1 [.int .i64 q, .int .i64 i, .int .i64 j, .int .i64 k] 24]) (fun _ => S) (fun _ => wf) (fun ⟨x, X, Y⟩ => (l.length - x.toNat)) (fun a_ w_ hs_ hw_ => ⟨⟨0, l, l⟩, ⟨by omega, by simp, by simp⟩, hs_.mono (Sub.get (.c rfl (.c rfl (.c rfl (.c rfl (.c rfl (.c rfl .n))))))), hw_.keep (.c .h (.c .h (.c .h (.c .h (.c .h .n)))))⟩) (fun ⟨x, X, Y⟩ ⟨hk18_0, hk18_1, hk18_2⟩ => ?_)
      show SC _ _ _ _ _ ⟨[(0, .slice A l.length c), (8, .pointer (some ⟨g10, 0, none⟩)), (7, .slice A7 l.length c8), (9, .slice A15 l.length c16), (43, .int .i64 (l.length : Int)), (44, .int .i64 x)], [cel g10 [v11] 42, rw_ eVis 36 (v11) l, rw_ eVis 36 (.slice A15 l.length c16) Y, rw_ eVis 36 (.slice A7 l.length c8) X, cel b1 [.int .i64 q, .int .i64 i, .int .i64 j, .int .i64 k] 24], S, wf⟩
      refine .seq (.region (.cons (Ev.step (ev_cmp rfl rfl rfl rfl) rfl rfl rfl (.go (fun _ _ h => h) (.seq (.condI rfl bD (fun h19 => ?_) (fun h19 => ?_)))))))
      ·
        refine .skipgo (fun _ _ h => h) (.seq (.block (.seq (.region (.cons (Ev.step (ev_mv rfl rfl) rfl rfl rfl ?_))))))
        refine .cons (Ev.step (ev_as rfl rfl) rfl rfl rfl (.go (fun _ _ h => h) (.region (.cons (Ev.step (ev_mv rfl rfl) rfl rfl rfl (.cons (Ev.step (ev_mv rfl rfl) rfl rfl rfl (.cons (Ev.step (ev_mv rfl rfl) rfl rfl rfl ?_)))))))))
        refine .cons (Ev.step (ev_mv rfl rfl) rfl rfl rfl (.cons (Ev.step (ev_any (v := .agg #[.int .i64 77, .int .i64 0]) rfl (by kernel_rfl) (fun _ => by kernel_rfl)) rfl rfl rfl (.cons (Ev.step (ev_any (v := .agg #[.int .i64 78, .int .i64 0]) rfl (by kernel_rfl) (fun _ => by kernel_rfl)) rfl rfl rfl (.cons (Ev.step (ev_ix rfl Try.underlying22 ty36 rfl rfl (by omega) (by omega) (row_adr (i := x) 3 rfl (by omega) (by omega))) rfl rfl rfl (.cons (st_setel (E := eVis) (i := x) (cs := [.int .i64 77, .int .i64 0]) (off := 0) (Vis.mk 77 0) rfl rfl rfl ty36 rfl rfl rfl rfl rfl (.t (.t (.t .h))) (by first | ((try simp only [List.length_nil, List.length_cons, List.length_append, List.length_set, List.length_singleton, List.length_take, List.length_drop, List.length_reverse]) <;> omega) | omega) (by first | ((try simp only [List.length_nil, List.length_cons, List.length_append, List.length_set, List.length_singleton, List.length_take, List.length_drop, List.length_reverse]) <;> omega) | omega) (Nat.le_of_ble_eq_true rfl) rfl (.cons (Ev.step (ev_ix rfl Try.underlying22 ty36 rfl rfl (by omega) (by omega) (row_adr (i := x) 3 rfl (by omega) (by omega))) rfl rfl rfl ?_)))))))))))
        exact .cons (st_setel (E := eVis) (i := x) (cs := [.int .i64 78, .int .i64 0]) (off := 0) (Vis.mk 78 0) rfl rfl rfl ty36 rfl rfl rfl rfl rfl (.t (.t (.t .h))) (by first | ((try simp only [List.length_nil, List.length_cons, List.length_append, List.length_set, List.length_singleton, List.length_take, List.length_drop, List.length_reverse]) <;> omega) | omega) (by first | ((try simp only [List.length_nil, List.length_cons, List.length_append, List.length_set, List.length_singleton, List.length_take, List.length_drop, List.length_reverse]) <;> omega) | omega) (Nat.le_of_ble_eq_true rfl) rfl (.go (fun _ _ h => h) (.region (.cons (Ev.step (ev_add rfl rfl rfl (r := (x + 1)) rfl (by omega) (by omega)) rfl rfl rfl (.cons (Ev.step (ev_mv rfl rfl) rfl rfl rfl (SP.nil (SQ.round (X := Int × (List Vis) × (List Vis)) (x := (x, X, Y)) ⟨(x + 1), (X.set (x).toNat (Vis.mk 77 0)), (Y.set (x).toNat (Vis.mk 78 0))⟩ (by exact ⟨by omega, by simp only [List.length_set]; assumption, by simp only [List.length_set]; assumption⟩) (by dsimp only; omega) (Sub.get (.c rfl (.c rfl (.c rfl (.c rfl (.c rfl (.c rfl .n))))))) (fun w hw => hw.keep (.c (.t (.t .h)) (.c (.t (.t .h)) (.c .h (.c .h (.c .h .n)))))))))))))))
      ·
        refine .exit (fun _ _ h => h) (.seq (.region (.cons (Ev.step (ev_mv rfl rfl) rfl rfl rfl (.cons (st_call0 rfl rfl rfl rfl hb10 rfl (.c .h (.c .h .n)) (visits_ g10 v11 l _ _ (by first | ((try simp only [List.length_nil, List.length_cons, List.length_append, List.length_set, List.length_singleton, List.length_take, List.length_drop, List.length_reverse]) <;> omega) | omega)) (fun v_q21 C_q21 q21 => ?_)))))))
        obtain ⟨u20, rfl, rfl⟩ := q21
        show SP _ _ _ _ _ _ ⟨_, _ :: _ :: _ :: _, _, _⟩
        refine .cons (Ev.step (ev_mv rfl rfl) rfl rfl rfl ?_)
        refine .know (row_len 2 rfl) (fun hv24 => ?_)
        obtain ⟨A22, c23, rfl, hv24_1, hv24_2⟩ := hv24
        unfold maxLen at hv24_2
        exact .cons (st_lendk rfl rfl rfl rfl hb9 rfl .n (.c (.t (.t .h)) .n) (fun w_ hw => same A22 c23 l A c l _ _ (Fr.lend hw 0 rfl (by first | ((try simp only [List.length_nil, List.length_cons, List.length_append, List.length_set, List.length_singleton, List.length_take, List.length_drop, List.length_reverse]) <;> omega) | omega)) (Fr.ext hA hw.lendx)) (.cons (Ev.step (ev_as rfl rfl) rfl rfl rfl (.go (fun _ _ h => h) (.ret (fun _ _ h => h) (ret1 Try.results4 rfl .n ⟨(congrArg Value.bool (by simp)), rfl⟩))))))

end Go.Proofs.Yteabdapdlfhncaa.Sx
