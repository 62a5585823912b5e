import Derived.Test.YtfmfhkaimhmgdaaProg
import Derived.Test.YtfmfhkaimhmgdaaSxGrow
import Derived.Test.YtfmfhkaimhmgdaaSx17A
import Derived.Test.YtfmfhkaimhmgdaaSx17S
import Derived.Test.YtfmfhkaimhmgdaaSx17I
set_option maxRecDepth 20000
set_option linter.unusedVariables false
set_option linter.unusedSimpArgs false
namespace Go.Proofs.Ytfmfhkaimhmgdaa.Sx.FJ
open Go Go.SX Go.Proofs
theorem hb30 : hasBody Try.prog 30 = true := by kernel_rfl
theorem fo49_0 : fo Try.prog 49 0 = some 0 := by kernel_rfl
theorem ty22 : ty Try.prog 22 = some (false, 1) := by kernel_rfl
theorem ty44 : ty Try.prog 44 = some (true, 2) := by kernel_rfl
theorem hb33 : hasBody Try.prog 33 = true := by kernel_rfl
theorem zf51 : (Try.prog.info? 51).bind (fun i => i.zero.map Value.cells) = some (List.toArray [.bool false, .int .i64 0]) := by kernel_rfl
theorem ty51 : ty Try.prog 51 = some (true, 2) := by kernel_rfl
theorem hb34 : hasBody Try.prog 34 = true := by kernel_rfl
theorem hb35 : hasBody Try.prog 35 = true := by kernel_rfl
theorem hb31 : hasBody Try.prog 31 = true := by kernel_rfl
theorem fo49_1 : fo Try.prog 49 1 = some 1 := by kernel_rfl
theorem hb20 : hasBody Try.prog 20 = true := by kernel_rfl
theorem hb36 : hasBody Try.prog 36 = true := by kernel_rfl
theorem mo : Try.prog.follows .mixedOrders = true := by kernel_rfl


end Go.Proofs.Ytfmfhkaimhmgdaa.Sx.FJ
namespace Go.Proofs.Ytfmfhkaimhmgdaa.Sx
open Go Go.SX Go.Proofs FJ





theorem reloc_ (g : Nat) (v : Value) (w : Value) (a : List Vis) (b : List Vis) (i : Int) (j : Int) (k : Int) (S : Nat → Prop) (wf : World) (ha : a.length ≤ 999990) (hb : b.length ≤ 999990) (h_i : -9223372036854775808 ≤ i ∧ i ≤ 9223372036854775807) (h_j : -9223372036854775808 ≤ j ∧ j ≤ 9223372036854775807) (h_k : -9223372036854775808 ≤ k ∧ k ≤ 9223372036854775807) :
    TR0 Try.prog 19 [.pointer (some ⟨g, 0, none⟩), .int .i64 i, .int .i64 j, .int .i64 k] [cel g [v, w] 49, rw_ eVis 44 (v) a, rw_ eVis 44 (w) b] S wf (fun v_ C_ => ∃ (r : Bool) (x : Value) (y : Value) (p : List Vis) (q : List Vis), ((r, p, q) = relF a b i j k) ∧ v_ = .bool r ∧ C_ = [cel g [x, y] 49, rw_ eVis 44 (x) p, rw_ eVis 44 (y) q]) := by
  refine TR.mk Try.func19 rfl Try.ntmps19 rfl rfl (fun w_ => ?_)
  refine .seq (.region (.cons (Ev.step (ev_as rfl rfl) rfl rfl rfl (.go (fun _ _ h => h) (.seq (.region ?_))))))
  refine .cons (Ev.step (ev_mv rfl rfl) rfl rfl rfl ?_)
  refine .know (row_len 1 rfl) (fun hv3 => ?_)
  obtain ⟨A1, c2, rfl, hv3_1, hv3_2⟩ := hv3
  unfold maxLen at hv3_2
  refine .know (row_len 2 rfl) (fun hv6 => ?_)
  obtain ⟨A4, c5, rfl, hv6_1, hv6_2⟩ := hv6
  unfold maxLen at hv6_2
  refine .cons (st_callk rfl rfl rfl rfl hb30 rfl (.c .h .n) (size_ g A1 a.length c2 A4 b.length c5 _ _) (.cons (Ev.step (ev_mv rfl rfl) rfl rfl rfl (.cons (Ev.step (ev_ext rfl rfl rfl) rfl rfl rfl (.cons (Ev.step (ev_ext rfl rfl rfl) rfl rfl rfl (.cons (Ev.step (ev_as rfl rfl) rfl rfl rfl (.cons (Ev.step (ev_as rfl rfl) rfl rfl rfl ?_)))))))))))
  refine .go (fun _ _ h => h) (.seq (.seq (.region (.cons (Ev.step (ev_mv rfl rfl) rfl rfl rfl (.cons (Ev.step (ev_cmp rfl rfl rfl rfl) rfl rfl rfl ?_)))))))
  refine .cons (Ev.step (ev_mv rfl rfl) rfl rfl rfl (.cons (Ev.gstep (fun _ => ev_mv rfl rfl) rfl rfl rfl rfl rfl (.cons (Ev.gstep (fun _ => ev_mv rfl rfl) rfl rfl rfl rfl rfl (.cons (Ev.gstep (fun hb => ev_cmp rfl (lkg rfl hb) (lkg rfl hb) rfl) rfl rfl rfl rfl rfl (.cons (Ev.step (ev_or rfl rfl rfl rfl) rfl rfl rfl (.go (fun _ _ h => h) ?_))))))))))
  refine .condI rfl (bO bD bD) (fun h7 => ?_) (fun h7 => ?_)
  ·
    exact .seq (.region (.cons (Ev.step (ev_as rfl rfl) rfl rfl rfl (.go (fun _ _ h => h) (.ret (fun _ _ h => h) (ret1 Try.results19 rfl (.c .h (.c .h (.c .h .n))) ⟨false, .slice A1 a.length c2, .slice A4 b.length c5, a, b, (rel_no (by omega)), rfl, rfl⟩))))))
  ·
    refine .skipgo (fun _ _ h => h) (.seq (.region (.cons (Ev.step (ev_mv rfl rfl) rfl rfl rfl (.cons (Ev.step (ev_nil rfl rfl) rfl rfl rfl (.cons (Ev.step (ev_fa rfl fo49_0 rfl (r := 0) rfl) rfl rfl rfl ?_))))))))
    refine .cons (Ev.step (ev_ld1 rfl ty22 rfl (At.own1 0 rfl rfl)) rfl rfl rfl (.cons (Ev.step (ev_mv rfl rfl) rfl rfl rfl (.cons (Ev.step (ev_ix rfl Try.underlying22 ty44 rfl rfl (by omega) (by omega) (row_adr (i := i) 1 rfl (by omega) (by omega))) rfl rfl rfl (.cons (Ev.step (ev_lda rfl rfl (row_el (E := eVis) (l := a) (i := i) 1 rfl (by omega) (by omega)) ty44) rfl rfl rfl (.cons (st_call00 rfl rfl rfl rfl hb33 rfl .n (of_ ((gt a i).kind) ((gt a i).item) _ _) (by intro v C h; obtain ⟨_, _, _, _, rfl, rfl⟩ := h; rfl) (fun v_q11 q11 => ?_))))))))))
    obtain ⟨s8, y9, b10, p12, rfl, -⟩ := q11
    refine .cons (Ev.step (ev_mv rfl rfl) rfl rfl rfl (.cons (Ev.step (ev_ext rfl rfl rfl) rfl rfl rfl (.cons (Ev.step (ev_ext rfl rfl rfl) rfl rfl rfl (.cons (st_alloc rfl rfl rfl rfl zf51 (fun b13 => .cons (st_storea (l' := [.bool s8, .int .i64 y9]) rfl rfl rfl ty51 rfl rfl rfl .h rfl rfl (.cons (Ev.step (ev_as rfl rfl) rfl rfl rfl ?_)))))))))))
    refine .go (fun _ _ h => h) (.seq (.region (.cons (Ev.step (ev_lda rfl rfl (At.whole 0 rfl) ty51) rfl rfl rfl (.cons (st_call0 rfl rfl rfl rfl hb34 rfl .n (mvis_ s8 y9 _ _) (fun v_q16 C_q16 q16 => ?_)))))))
    obtain ⟨u14, m15, p17, rfl, rfl⟩ := q16
    show SP _ _ _ _ _ _ ⟨_, _ :: _, _, _⟩
    have hvl := visF_len p17
    refine .cons (Ev.step (ev_as rfl rfl) rfl rfl rfl (.go (fun _ _ h => h) (.seq (.region (.cons (Ev.step (ev_mv rfl rfl) rfl rfl rfl (.cons (Ev.step (ev_nil rfl rfl) rfl rfl rfl ?_))))))))
    refine .cons (Ev.step (ev_fa rfl fo49_0 rfl (r := 0) rfl) rfl rfl rfl (.cons (Ev.step (ev_ld1 rfl ty22 rfl (At.own1 2 rfl rfl)) rfl rfl rfl (.cons (Ev.step (ev_mv rfl rfl) rfl rfl rfl ?_)))))
    refine .know (row_len 0 rfl) (fun hv20 => ?_)
    obtain ⟨A18, c19, rfl, hv20_1, hv20_2⟩ := hv20
    unfold maxLen at hv20_2
    refine .cons (st_lend0 rfl rfl rfl rfl hb35 rfl .n (.c (.t (.t (.t .h))) (.c .h .n)) (fun w_ hw => taken_ A1 a.length c2 a A18 c19 m15 _ _ (Fr.lend hw 0 rfl (by (try simp only [List.length_nil, List.length_cons, List.length_append, List.length_set, List.length_singleton, List.length_take, List.length_drop, List.length_reverse]) <;> omega)) (Fr.lend hw 1 rfl (by (try simp only [List.length_nil, List.length_cons, List.length_append, List.length_set, List.length_singleton, List.length_take, List.length_drop, List.length_reverse]) <;> omega)) (by (try simp only [List.length_nil, List.length_cons, List.length_append, List.length_set, List.length_singleton, List.length_take, List.length_drop, List.length_reverse]) <;> omega) (by (try simp only [List.length_nil, List.length_cons, List.length_append, List.length_set, List.length_singleton, List.length_take, List.length_drop, List.length_reverse]) <;> omega) (by (try simp only [List.length_nil, List.length_cons, List.length_append, List.length_set, List.length_singleton, List.length_take, List.length_drop, List.length_reverse]) <;> omega)) (fun v_q24 C_q24 q24 => ?_))
    obtain ⟨u21, X22, r23, p25, rfl, rfl⟩ := q24
    show SP _ _ _ _ _ _ ⟨_, _ :: _ :: _ :: _, _, _⟩
    have htl := take_len p25
    refine .cons (Ev.step (ev_mv rfl rfl) rfl rfl rfl (.cons (Ev.step (ev_ext rfl rfl rfl) rfl rfl rfl (.cons (Ev.step (ev_ext rfl rfl rfl) rfl rfl rfl (.cons (Ev.step (ev_as rfl rfl) rfl rfl rfl (.cons (Ev.step (ev_as rfl rfl) rfl rfl rfl (.go (fun _ _ h => h) ?_))))))))))
    refine .seq (.seq ?_)
    rcases b10 with _ | _
    ·
      refine .region (.cons (Ev.step (ev_mv rfl rfl) rfl rfl rfl (.cons (Ev.step (ev_not rfl rfl) rfl rfl rfl (.cons (Ev.step (ev_mv rfl rfl) rfl rfl rfl (.cons (.off rfl rfl rfl rfl rfl rfl (.cons (.off rfl rfl rfl rfl rfl rfl ?_))))))))))
      refine .cons (Ev.step (ev_pickt rfl rfl rfl rfl) rfl rfl rfl (.cons (Ev.step (ev_mv rfl rfl) rfl rfl rfl (.cons (.off rfl rfl rfl rfl rfl rfl (.cons (.off rfl rfl rfl rfl rfl rfl (.cons (.off rfl rfl rfl rfl rfl rfl (.cons (.off rfl rfl rfl rfl rfl rfl ?_)))))))))))
      refine .cons (Ev.step (ev_pickt rfl rfl rfl rfl) rfl rfl rfl (.cons (Ev.step (ev_mv rfl rfl) rfl rfl rfl (.cons (.off rfl rfl rfl rfl rfl rfl (.cons (.off rfl rfl rfl rfl rfl rfl (.cons (.off rfl rfl rfl rfl rfl rfl (.cons (.off rfl rfl rfl rfl rfl rfl ?_)))))))))))
      refine .cons (.offu rfl rfl rfl rfl rfl (.cons (.offu rfl rfl rfl rfl rfl (.cons (.offu rfl rfl rfl rfl rfl (.cons (.offu rfl rfl rfl rfl rfl (.cons (.offu rfl rfl rfl rfl rfl (.cons (.offu rfl rfl rfl rfl rfl ?_)))))))))))
      refine .cons (.offu rfl rfl rfl rfl rfl (.cons (.offu rfl rfl rfl rfl rfl (.cons (.offu rfl rfl rfl rfl rfl (.cons (.off rfl rfl rfl rfl rfl rfl (.cons (Ev.step (ev_pickt rfl rfl rfl rfl) rfl rfl rfl (.go (fun _ _ h => h) ?_))))))))))
      exact .cond_t rfl (.seq (.region (.cons (Ev.step (ev_as rfl rfl) rfl rfl rfl (.go (fun _ _ h => h) (.ret (fun _ _ h => h) (ret1 Try.results19 rfl (.c (.t (.t (.t (.t .h)))) (.c (.t .h) (.c (.t (.t (.t .h))) .n))) ⟨false, .slice A1 a.length c2, .slice A4 b.length c5, a, b, (rel_ (by omega) (by omega) p12 p17 p25 (by unfold relH; rw [if_neg (by simp)])), rfl, rfl⟩)))))))
    ·
      rcases r23 with _ | _
      ·
        refine .region (.cons (Ev.step (ev_mv rfl rfl) rfl rfl rfl (.cons (Ev.step (ev_not rfl rfl) rfl rfl rfl (.cons (Ev.step (ev_mv rfl rfl) rfl rfl rfl (.cons (.on rfl rfl rfl (Ev.step (ev_mv rfl rfl) rfl rfl rfl (.cons (.on rfl rfl rfl (Ev.step (ev_not rfl rfl) rfl rfl rfl ?_))))))))))))
        refine .cons (Ev.step (ev_pickf rfl rfl rfl rfl) rfl rfl rfl (.cons (Ev.step (ev_mv rfl rfl) rfl rfl rfl (.cons (.off rfl rfl rfl rfl rfl rfl (.cons (.off rfl rfl rfl rfl rfl rfl (.cons (.off rfl rfl rfl rfl rfl rfl (.cons (.off rfl rfl rfl rfl rfl rfl ?_)))))))))))
        refine .cons (Ev.step (ev_pickt rfl rfl rfl rfl) rfl rfl rfl (.cons (Ev.step (ev_mv rfl rfl) rfl rfl rfl (.cons (.off rfl rfl rfl rfl rfl rfl (.cons (.off rfl rfl rfl rfl rfl rfl (.cons (.off rfl rfl rfl rfl rfl rfl (.cons (.off rfl rfl rfl rfl rfl rfl ?_)))))))))))
        refine .cons (.offu rfl rfl rfl rfl rfl (.cons (.offu rfl rfl rfl rfl rfl (.cons (.offu rfl rfl rfl rfl rfl (.cons (.offu rfl rfl rfl rfl rfl (.cons (.offu rfl rfl rfl rfl rfl (.cons (.offu rfl rfl rfl rfl rfl ?_)))))))))))
        refine .cons (.offu rfl rfl rfl rfl rfl (.cons (.offu rfl rfl rfl rfl rfl (.cons (.offu rfl rfl rfl rfl rfl (.cons (.off rfl rfl rfl rfl rfl rfl (.cons (Ev.step (ev_pickt rfl rfl rfl rfl) rfl rfl rfl (.go (fun _ _ h => h) ?_))))))))))
        exact .cond_t rfl (.seq (.region (.cons (Ev.step (ev_as rfl rfl) rfl rfl rfl (.go (fun _ _ h => h) (.ret (fun _ _ h => h) (ret1 Try.results19 rfl (.c (.t (.t (.t (.t .h)))) (.c (.t .h) (.c (.t (.t (.t .h))) .n))) ⟨false, .slice A1 a.length c2, .slice A4 b.length c5, a, b, (rel_ (by omega) (by omega) p12 p17 p25 (by unfold relH; rw [if_neg (by simp)])), rfl, rfl⟩)))))))
      ·
        refine .region (.cons (Ev.step (ev_mv rfl rfl) rfl rfl rfl (.cons (Ev.step (ev_not rfl rfl) rfl rfl rfl (.cons (Ev.step (ev_mv rfl rfl) rfl rfl rfl (.cons (.on rfl rfl rfl (Ev.step (ev_mv rfl rfl) rfl rfl rfl (.cons (.on rfl rfl rfl (Ev.step (ev_not rfl rfl) rfl rfl rfl ?_))))))))))))
        refine .cons (Ev.step (ev_pickf rfl rfl rfl rfl) rfl rfl rfl (.cons (Ev.step (ev_mv rfl rfl) rfl rfl rfl (.cons (.on rfl rfl rfl (Ev.step (ev_mv rfl rfl) rfl rfl rfl (.cons (.on rfl rfl rfl (Ev.step (ev_mv rfl rfl) rfl rfl rfl (.cons (.on rfl rfl rfl (st_callk rfl rfl rfl rfl hb31 rfl .n (at_ j (b.length : Int) _ _) (.cons (.on rfl rfl rfl (Ev.step (ev_not rfl rfl) rfl rfl rfl ?_)))))))))))))))
        refine .cons (Ev.step (ev_pickf rfl rfl rfl rfl) rfl rfl rfl (.cons (Ev.step (ev_mv rfl rfl) rfl rfl rfl (.cons (Ev.gstep (fun _ => ev_mv rfl rfl) rfl rfl rfl rfl rfl (.cons (Ev.gstep (fun hb => ev_len rfl Try.underlying22 (lkg rfl hb)) rfl rfl rfl rfl rfl (.cons (Ev.gstep (fun hb => ev_cmp rfl (lkg rfl hb) rfl rfl) rfl rfl rfl rfl rfl (.cons (Ev.gstep (fun hb => ev_mv rfl (lkg rfl hb)) rfl rfl rfl rfl rfl ?_)))))))))))
        rcases Bool.eq_false_or_eq_true (!(decide (j ≥ 0) && decide (j ≤ (b.length : Int)))) with hb26 | hb26
        ·
          have hb26_ := bT (bN (bA bD bD)) hb26
          refine SP.reslotv (t := 67) rfl (gv_off hb26) (.cons (.offu rfl rfl rfl rfl rfl (.cons (.offu rfl rfl rfl rfl rfl (.cons (.offu rfl rfl rfl rfl rfl (.cons (.offu rfl rfl rfl rfl rfl (.cons (.offu rfl rfl rfl rfl rfl ?_))))))))))
          refine .cons (.offu rfl rfl rfl rfl rfl (.cons (.offu rfl rfl rfl rfl rfl (.cons (.offu rfl rfl rfl rfl rfl (.cons (.offu rfl rfl rfl rfl rfl (SP.reslot (t := 63) rfl hb26 (.cons (.off rfl rfl rfl rfl rfl rfl ?_))))))))))
          refine .cons (Ev.step (ev_pickt rfl rfl rfl rfl) rfl rfl rfl (.go (fun _ _ h => h) (.cond_t rfl (.seq (.region (.cons (Ev.step (ev_as rfl rfl) rfl rfl rfl ?_)))))))
          exact .go (fun _ _ h => h) (.ret (fun _ _ h => h) (ret1 Try.results19 rfl (.c (.t (.t (.t (.t .h)))) (.c (.t .h) (.c (.t (.t (.t .h))) .n))) ⟨false, .slice A1 a.length c2, .slice A4 b.length c5, a, b, (rel_ (by omega) (by omega) p12 p17 p25 (by unfold relH; rw [if_pos ⟨rfl, rfl⟩, if_neg (by unfold relOk; omega)])), rfl, rfl⟩))
        ·
          have hb26_ := bF (bN (bA bD bD)) hb26
          refine SP.reslotv (t := 67) rfl (gv_on hb26) (.cons (Ev.gstep (fun _ => ev_mv rfl rfl) rfl rfl rfl rfl rfl (.cons (Ev.gstep (fun _ => ev_mv rfl rfl) rfl rfl rfl rfl rfl (.cons (Ev.gstep (fun hb => ev_cmp rfl (lkg rfl hb) (lkg rfl hb) rfl) rfl rfl rfl rfl rfl (.cons (Ev.gstep (fun hb => ev_mv rfl (lkg rfl hb)) rfl rfl rfl rfl rfl ?_))))))))
          rcases Bool.eq_false_or_eq_true ((m15.length : Int) == 2) with hb27 | hb27
          ·
            have hb27_ := bT bE hb27
            refine SP.reslotv (t := 71) rfl (gv_on hb27) (.cons (Ev.gstep (fun _ => ev_mv rfl rfl) rfl rfl rfl rfl rfl (.cons (Ev.gstep (fun _ => ev_mv rfl rfl) rfl rfl rfl rfl rfl (.cons (Ev.gstep (fun hb => have hp := bF bD hb; ev_add rfl (lkg rfl hb) rfl (r := ((b.length : Int) + 1)) rfl (by have _h := hp; omega) (by have _h := hp; omega)) rfl rfl rfl rfl rfl (.cons (Ev.gstep (fun hb => ev_cmp rfl (lkg rfl hb) (lkg rfl hb) rfl) rfl rfl rfl rfl rfl (SP.reslot (t := 67) rfl hb27 ?_)))))))))
            refine .cons (.on rfl rfl rfl (Ev.step (ev_or rfl rfl rfl rfl) rfl rfl rfl (SP.reslot (t := 63) rfl hb26 (.cons (.on rfl rfl rfl (Ev.step (ev_pickt rfl rfl rfl rfl) rfl rfl rfl (.cons (Ev.step (ev_pickf rfl rfl rfl rfl) rfl rfl rfl (.go (fun _ _ h => h) (.condI rfl (bO bD bD) (fun h28 => ?_) (fun h28 => ?_)))))))))))
            ·
              exact .seq (.region (.cons (Ev.step (ev_as rfl rfl) rfl rfl rfl (.go (fun _ _ h => h) (.ret (fun _ _ h => h) (ret1 Try.results19 rfl (.c (.t (.t (.t (.t .h)))) (.c (.t .h) (.c (.t (.t (.t .h))) .n))) ⟨false, .slice A1 a.length c2, .slice A4 b.length c5, a, b, (rel_ (by omega) (by omega) p12 p17 p25 (by unfold relH; rw [if_pos ⟨rfl, rfl⟩, if_neg (by unfold relOk; omega)])), rfl, rfl⟩))))))
            ·
              refine .skipgo (fun _ _ h => h) (.seq ?_)
              refine SC.draw mo [] [] .n (fun _ _ _ c hc => by cases hc) (fun wf_29 hl_29 hx_29 hR_29 => ?_)
              refine SR.take 0 rfl (by kernel_rfl) (by kernel_rfl) (by kernel_rfl) rfl (fun _ _ _ h => h) rfl rfl rfl (ev_mv rfl rfl) (SR.take 1 rfl (by kernel_rfl) (by kernel_rfl) (by kernel_rfl) rfl (fun _ _ _ h => h) rfl rfl rfl (ev_nil rfl rfl) (SR.take 2 rfl (by kernel_rfl) (by kernel_rfl) (by kernel_rfl) rfl (fun _ _ _ h => h) rfl rfl rfl (ev_fa rfl fo49_1 rfl (r := 1) rfl) (SR.take 3 rfl (by kernel_rfl) (by kernel_rfl) (by kernel_rfl) rfl (fun _ _ _ h => h) rfl rfl rfl (ev_ld1 rfl ty22 rfl (At.d (At.lent hR_29 4 rfl rfl))) (SR.take 5 rfl (by kernel_rfl) (by kernel_rfl) (by kernel_rfl) rfl (fun _ _ _ h => h) rfl rfl rfl (ev_mv rfl rfl) (SR.take 6 rfl (by kernel_rfl) (by kernel_rfl) (by kernel_rfl) rfl (fun _ _ _ h => h) rfl rfl rfl (ev_mv rfl rfl) ?_)))))
              refine SR.take 7 rfl (by kernel_rfl) (by kernel_rfl) (by kernel_rfl) rfl (fun _ _ _ h => h) rfl rfl rfl (ev_ix rfl Try.underlying22 ty44 rfl rfl (by omega) (by omega) (fun _ _ => Fr.adr (i := 0) (Fr.lent (S := S) hR_29 2 rfl (by (try simp only [List.length_nil, List.length_cons, List.length_append, List.length_set, List.length_singleton, List.length_take, List.length_drop, List.length_reverse]) <;> omega)) (by omega) (by omega))) (SR.take 8 rfl (by kernel_rfl) (by kernel_rfl) (by kernel_rfl) rfl (fun _ _ _ h => h) rfl rfl rfl (ev_lda rfl rfl (At.d (Fr.el (i := 0) (Fr.lent (S := S) hR_29 2 rfl (by (try simp only [List.length_nil, List.length_cons, List.length_append, List.length_set, List.length_singleton, List.length_take, List.length_drop, List.length_reverse]) <;> omega)) (by omega) (by omega))) ty44) ?_)
              refine SR.two (i := 4) (j := 9) (by kernel_rfl) ⟨_, rfl, ?_⟩ ⟨_, rfl, ?_⟩
              ·
                refine st_call0 rfl rfl rfl rfl hb20 rfl .n (clone A4 b.length c5 b _ _ (Fr.lent (S := S) hR_29 5 rfl (by (try simp only [List.length_nil, List.length_cons, List.length_append, List.length_set, List.length_singleton, List.length_take, List.length_drop, List.length_reverse]) <;> omega)) (by (try simp only [List.length_nil, List.length_cons, List.length_append, List.length_set, List.length_singleton, List.length_take, List.length_drop, List.length_reverse]) <;> omega) (by (try simp only [List.length_nil, List.length_cons, List.length_append, List.length_set, List.length_singleton, List.length_take, List.length_drop, List.length_reverse]) <;> omega)) (fun v_q31 C_q31 q31 => ⟨tt0, ?_⟩)
                obtain ⟨v30, rfl, rfl⟩ := q31
                show SR _ _ _ _ _ _ _ _ _ ⟨_, _ :: _, _, _⟩
                refine SR.one (j := 9) (by kernel_rfl) rfl (st_lit eVis (e := 44) (l := [(gt m15 0)]) rfl rfl rfl rfl (by kernel_rfl) rfl rfl (fun w => by kernel_rfl) (fun b32 => ⟨tt0, (SR.one (j := 10) (by kernel_rfl) rfl (st_call0 rfl rfl rfl rfl hb36 rfl (.c (.t .h) (.c .h .n)) (insert_ v_q31 b j (.slice (some ⟨b32, 0, none⟩) 1 1) [(gt m15 0)] _ _ (by omega) (by (try simp only [List.length_nil, List.length_cons, List.length_append, List.length_set, List.length_singleton, List.length_take, List.length_drop, List.length_reverse]) <;> omega) (by (try simp only [List.length_nil, List.length_cons, List.length_append, List.length_set, List.length_singleton, List.length_take, List.length_drop, List.length_reverse]) <;> omega) (by (try simp only [List.length_nil, List.length_cons, List.length_append, List.length_set, List.length_singleton, List.length_take, List.length_drop, List.length_reverse]) <;> omega) (by (try simp only [List.length_nil, List.length_cons, List.length_append, List.length_set, List.length_singleton, List.length_take, List.length_drop, List.length_reverse]) <;> omega)) (fun v_q34 C_q34 q34 => ⟨tt0, ?_⟩)))⟩))
                obtain ⟨u33, rfl, rfl⟩ := q34
                show SR _ _ _ _ _ _ _ _ _ ⟨_, _ :: _ :: _, _, _⟩
                refine SR.take 11 rfl (by kernel_rfl) (by kernel_rfl) (by kernel_rfl) rfl (fun _ _ _ h => h) rfl rfl rfl (ev_as rfl rfl) (SR.fin (by kernel_rfl) hl_29 hx_29 hR_29 (.c (.c .n)) (SQ.go (fun _ _ h => h) (.seq (.seq (.region ?_)))))
                refine .cons (Ev.step (ev_mv rfl rfl) rfl rfl rfl (.cons (Ev.step (ev_len rfl Try.underlying22 rfl) rfl rfl rfl (.cons (Ev.step (ev_cmp rfl rfl rfl rfl) rfl rfl rfl (.go (fun _ _ h => h) (.condI rfl bE (fun h35 => ?_) (fun h35 => ?_))))))))
                ·
                  refine .region (.cons (Ev.step (ev_mv rfl rfl) rfl rfl rfl (.cons (Ev.step (ev_mv rfl rfl) rfl rfl rfl (.cons (Ev.step (ev_mv rfl rfl) rfl rfl rfl (.cons (Ev.step (ev_ix rfl Try.underlying22 ty44 rfl rfl (by omega) (by omega) (row_adr (i := 1) 4 rfl (by omega) (by omega))) rfl rfl rfl (.cons (Ev.step (ev_lda rfl rfl (row_el (E := eVis) (l := m15) (i := 1) 4 rfl (by omega) (by omega)) ty44) rfl rfl rfl ?_))))))))))
                  refine .cons (st_lit eVis (e := 44) (l := [(gt m15 1)]) rfl rfl rfl rfl (by kernel_rfl) rfl rfl (fun w => by kernel_rfl) (fun b36 => .cons (st_call0 rfl rfl rfl rfl hb36 rfl (.c (.t .h) (.c .h .n)) (insert_ v_q34 (b.take j.toNat ++ [(gt m15 0)] ++ b.drop j.toNat) k (.slice (some ⟨b36, 0, none⟩) 1 1) [(gt m15 1)] _ _ (by omega) (by (try simp only [List.length_nil, List.length_cons, List.length_append, List.length_set, List.length_singleton, List.length_take, List.length_drop, List.length_reverse]) <;> omega) (by (try simp only [List.length_nil, List.length_cons, List.length_append, List.length_set, List.length_singleton, List.length_take, List.length_drop, List.length_reverse]) <;> omega) (by (try simp only [List.length_nil, List.length_cons, List.length_append, List.length_set, List.length_singleton, List.length_take, List.length_drop, List.length_reverse]) <;> omega) (by (try simp only [List.length_nil, List.length_cons, List.length_append, List.length_set, List.length_singleton, List.length_take, List.length_drop, List.length_reverse]) <;> omega)) (fun v_q38 C_q38 q38 => ?_))))
                  obtain ⟨u37, rfl, rfl⟩ := q38
                  show SP _ _ _ _ _ _ ⟨_, _ :: _ :: _, _, _⟩
                  refine .cons (Ev.step (ev_as rfl rfl) rfl rfl rfl (.go (fun _ _ h => h) (.seq (.region (.cons (Ev.step (ev_mv rfl rfl) rfl rfl rfl (.cons (Ev.step (ev_mv rfl rfl) rfl rfl rfl ?_))))))))
                  refine .cons (Ev.step (ev_mv rfl rfl) rfl rfl rfl (.cons (Ev.step (ev_mv rfl rfl) rfl rfl rfl (.cons (Ev.step (ev_nil rfl rfl) rfl rfl rfl (.cons (Ev.step (ev_fa rfl fo49_0 rfl (r := 0) rfl) rfl rfl rfl ?_)))))))
                  refine .know (row_len 3 rfl) (fun hv41 => ?_)
                  obtain ⟨A39, c40, rfl, hv41_1, hv41_2⟩ := hv41
                  unfold maxLen at hv41_2
                  refine .cons (st_store1 rfl rfl rfl ty22 rfl rfl rfl (.t (.t (.t (.t (.t (.t (.t .h))))))) .h (.cons (Ev.step (ev_nil rfl rfl) rfl rfl rfl (.cons (Ev.step (ev_fa rfl fo49_1 rfl (r := 1) rfl) rfl rfl rfl ?_)))))
                  refine .know (row_len 1 rfl) (fun hv44 => ?_)
                  obtain ⟨A42, c43, rfl, hv44_1, hv44_2⟩ := hv44
                  unfold maxLen at hv44_2
                  refine .cons (st_store1 rfl rfl rfl ty22 rfl rfl rfl .h (.t .h) (.go (fun _ _ h => h) (.seq (.region (.cons (Ev.step (ev_as rfl rfl) rfl rfl rfl (.go (fun _ _ h => h) ?_)))))))
                  exact .ret (fun _ _ h => h) (ret1 Try.results19 rfl (.c .h (.c (.t (.t (.t .h))) (.c .h .n))) ⟨true, .slice A39 X22.length c40, .slice A42 (((b.take j.toNat ++ [(gt m15 0)] ++ b.drop j.toNat).take k.toNat ++ [(gt m15 1)] ++ (b.take j.toNat ++ [(gt m15 0)] ++ b.drop j.toNat).drop k.toNat).length) c43, X22, ((b.take j.toNat ++ [(gt m15 0)] ++ b.drop j.toNat).take k.toNat ++ [(gt m15 1)] ++ (b.take j.toNat ++ [(gt m15 0)] ++ b.drop j.toNat).drop k.toNat), (rel_ (by omega) (by omega) p12 p17 p25 (by unfold relH; rw [if_pos ⟨rfl, rfl⟩, if_pos (by unfold relOk; omega), if_pos (by omega)]; rfl)), rfl, rfl⟩)
                ·
                  refine .skipgo (fun _ _ h => h) (.seq (.region (.cons (Ev.step (ev_mv rfl rfl) rfl rfl rfl (.cons (Ev.step (ev_mv rfl rfl) rfl rfl rfl (.cons (Ev.step (ev_mv rfl rfl) rfl rfl rfl ?_))))))))
                  refine .cons (Ev.step (ev_mv rfl rfl) rfl rfl rfl (.cons (Ev.step (ev_nil rfl rfl) rfl rfl rfl (.cons (Ev.step (ev_fa rfl fo49_0 rfl (r := 0) rfl) rfl rfl rfl ?_)))))
                  refine .know (row_len 2 rfl) (fun hv47 => ?_)
                  obtain ⟨A45, c46, rfl, hv47_1, hv47_2⟩ := hv47
                  unfold maxLen at hv47_2
                  refine .cons (st_store1 rfl rfl rfl ty22 rfl rfl rfl (.t (.t (.t (.t (.t (.t .h)))))) .h (.cons (Ev.step (ev_nil rfl rfl) rfl rfl rfl (.cons (Ev.step (ev_fa rfl fo49_1 rfl (r := 1) rfl) rfl rfl rfl ?_)))))
                  refine .know (row_len 1 rfl) (fun hv50 => ?_)
                  obtain ⟨A48, c49, rfl, hv50_1, hv50_2⟩ := hv50
                  unfold maxLen at hv50_2
                  refine .cons (st_store1 rfl rfl rfl ty22 rfl rfl rfl .h (.t .h) (.go (fun _ _ h => h) (.seq (.region (.cons (Ev.step (ev_as rfl rfl) rfl rfl rfl (.go (fun _ _ h => h) ?_)))))))
                  exact .ret (fun _ _ h => h) (ret1 Try.results19 rfl (.c .h (.c (.t (.t .h)) (.c .h .n))) ⟨true, .slice A45 X22.length c46, .slice A48 ((b.take j.toNat ++ [(gt m15 0)] ++ b.drop j.toNat).length) c49, X22, (b.take j.toNat ++ [(gt m15 0)] ++ b.drop j.toNat), (rel_ (by omega) (by omega) p12 p17 p25 (by unfold relH; rw [if_pos ⟨rfl, rfl⟩, if_pos (by unfold relOk; omega), if_neg (by omega)]; rfl)), rfl, rfl⟩)
              ·
                refine st_lit eVis (e := 44) (l := [(gt m15 0)]) rfl rfl rfl rfl (by kernel_rfl) rfl rfl (fun w => by kernel_rfl) (fun b51 => ⟨tt0, (SR.one (j := 4) (by kernel_rfl) rfl (st_call0 rfl rfl rfl rfl hb20 rfl .n (clone A4 b.length c5 b _ _ (Fr.lent (S := S) hR_29 5 rfl (by (try simp only [List.length_nil, List.length_cons, List.length_append, List.length_set, List.length_singleton, List.length_take, List.length_drop, List.length_reverse]) <;> omega)) (by (try simp only [List.length_nil, List.length_cons, List.length_append, List.length_set, List.length_singleton, List.length_take, List.length_drop, List.length_reverse]) <;> omega) (by (try simp only [List.length_nil, List.length_cons, List.length_append, List.length_set, List.length_singleton, List.length_take, List.length_drop, List.length_reverse]) <;> omega)) (fun v_q53 C_q53 q53 => ⟨tt0, ?_⟩)))⟩)
                obtain ⟨v52, rfl, rfl⟩ := q53
                show SR _ _ _ _ _ _ _ _ _ ⟨_, _ :: _, _, _⟩
                refine SR.one (j := 10) (by kernel_rfl) rfl (st_call0 rfl rfl rfl rfl hb36 rfl (.c .h (.c .h .n)) (insert_ v_q53 b j (.slice (some ⟨b51, 0, none⟩) 1 1) [(gt m15 0)] _ _ (by omega) (by (try simp only [List.length_nil, List.length_cons, List.length_append, List.length_set, List.length_singleton, List.length_take, List.length_drop, List.length_reverse]) <;> omega) (by (try simp only [List.length_nil, List.length_cons, List.length_append, List.length_set, List.length_singleton, List.length_take, List.length_drop, List.length_reverse]) <;> omega) (by (try simp only [List.length_nil, List.length_cons, List.length_append, List.length_set, List.length_singleton, List.length_take, List.length_drop, List.length_reverse]) <;> omega) (by (try simp only [List.length_nil, List.length_cons, List.length_append, List.length_set, List.length_singleton, List.length_take, List.length_drop, List.length_reverse]) <;> omega)) (fun v_q55 C_q55 q55 => ⟨tt0, ?_⟩))
                obtain ⟨u54, rfl, rfl⟩ := q55
                show SR _ _ _ _ _ _ _ _ _ ⟨_, _ :: _ :: _, _, _⟩
                refine SR.take 11 rfl (by kernel_rfl) (by kernel_rfl) (by kernel_rfl) rfl (fun _ _ _ h => h) rfl rfl rfl (ev_as rfl rfl) (SR.fin (by kernel_rfl) hl_29 hx_29 hR_29 (.c (.c .n)) (SQ.go (fun _ _ h => h) (.seq (.seq (.region ?_)))))
                refine .cons (Ev.step (ev_mv rfl rfl) rfl rfl rfl (.cons (Ev.step (ev_len rfl Try.underlying22 rfl) rfl rfl rfl (.cons (Ev.step (ev_cmp rfl rfl rfl rfl) rfl rfl rfl (.go (fun _ _ h => h) (.condI rfl bE (fun h56 => ?_) (fun h56 => ?_))))))))
                ·
                  refine .region (.cons (Ev.step (ev_mv rfl rfl) rfl rfl rfl (.cons (Ev.step (ev_mv rfl rfl) rfl rfl rfl (.cons (Ev.step (ev_mv rfl rfl) rfl rfl rfl (.cons (Ev.step (ev_ix rfl Try.underlying22 ty44 rfl rfl (by omega) (by omega) (row_adr (i := 1) 4 rfl (by omega) (by omega))) rfl rfl rfl (.cons (Ev.step (ev_lda rfl rfl (row_el (E := eVis) (l := m15) (i := 1) 4 rfl (by omega) (by omega)) ty44) rfl rfl rfl ?_))))))))))
                  refine .cons (st_lit eVis (e := 44) (l := [(gt m15 1)]) rfl rfl rfl rfl (by kernel_rfl) rfl rfl (fun w => by kernel_rfl) (fun b57 => .cons (st_call0 rfl rfl rfl rfl hb36 rfl (.c (.t .h) (.c .h .n)) (insert_ v_q55 (b.take j.toNat ++ [(gt m15 0)] ++ b.drop j.toNat) k (.slice (some ⟨b57, 0, none⟩) 1 1) [(gt m15 1)] _ _ (by omega) (by (try simp only [List.length_nil, List.length_cons, List.length_append, List.length_set, List.length_singleton, List.length_take, List.length_drop, List.length_reverse]) <;> omega) (by (try simp only [List.length_nil, List.length_cons, List.length_append, List.length_set, List.length_singleton, List.length_take, List.length_drop, List.length_reverse]) <;> omega) (by (try simp only [List.length_nil, List.length_cons, List.length_append, List.length_set, List.length_singleton, List.length_take, List.length_drop, List.length_reverse]) <;> omega) (by (try simp only [List.length_nil, List.length_cons, List.length_append, List.length_set, List.length_singleton, List.length_take, List.length_drop, List.length_reverse]) <;> omega)) (fun v_q59 C_q59 q59 => ?_))))
                  obtain ⟨u58, rfl, rfl⟩ := q59
                  show SP _ _ _ _ _ _ ⟨_, _ :: _ :: _, _, _⟩
                  refine .cons (Ev.step (ev_as rfl rfl) rfl rfl rfl (.go (fun _ _ h => h) (.seq (.region (.cons (Ev.step (ev_mv rfl rfl) rfl rfl rfl (.cons (Ev.step (ev_mv rfl rfl) rfl rfl rfl ?_))))))))
                  refine .cons (Ev.step (ev_mv rfl rfl) rfl rfl rfl (.cons (Ev.step (ev_mv rfl rfl) rfl rfl rfl (.cons (Ev.step (ev_nil rfl rfl) rfl rfl rfl (.cons (Ev.step (ev_fa rfl fo49_0 rfl (r := 0) rfl) rfl rfl rfl ?_)))))))
                  refine .know (row_len 3 rfl) (fun hv62 => ?_)
                  obtain ⟨A60, c61, rfl, hv62_1, hv62_2⟩ := hv62
                  unfold maxLen at hv62_2
                  refine .cons (st_store1 rfl rfl rfl ty22 rfl rfl rfl (.t (.t (.t (.t (.t (.t (.t .h))))))) .h (.cons (Ev.step (ev_nil rfl rfl) rfl rfl rfl (.cons (Ev.step (ev_fa rfl fo49_1 rfl (r := 1) rfl) rfl rfl rfl ?_)))))
                  refine .know (row_len 1 rfl) (fun hv65 => ?_)
                  obtain ⟨A63, c64, rfl, hv65_1, hv65_2⟩ := hv65
                  unfold maxLen at hv65_2
                  refine .cons (st_store1 rfl rfl rfl ty22 rfl rfl rfl .h (.t .h) (.go (fun _ _ h => h) (.seq (.region (.cons (Ev.step (ev_as rfl rfl) rfl rfl rfl (.go (fun _ _ h => h) ?_)))))))
                  exact .ret (fun _ _ h => h) (ret1 Try.results19 rfl (.c .h (.c (.t (.t (.t .h))) (.c .h .n))) ⟨true, .slice A60 X22.length c61, .slice A63 (((b.take j.toNat ++ [(gt m15 0)] ++ b.drop j.toNat).take k.toNat ++ [(gt m15 1)] ++ (b.take j.toNat ++ [(gt m15 0)] ++ b.drop j.toNat).drop k.toNat).length) c64, X22, ((b.take j.toNat ++ [(gt m15 0)] ++ b.drop j.toNat).take k.toNat ++ [(gt m15 1)] ++ (b.take j.toNat ++ [(gt m15 0)] ++ b.drop j.toNat).drop k.toNat), (rel_ (by omega) (by omega) p12 p17 p25 (by unfold relH; rw [if_pos ⟨rfl, rfl⟩, if_pos (by unfold relOk; omega), if_pos (by omega)]; rfl)), rfl, rfl⟩)
                ·
                  refine .skipgo (fun _ _ h => h) (.seq (.region (.cons (Ev.step (ev_mv rfl rfl) rfl rfl rfl (.cons (Ev.step (ev_mv rfl rfl) rfl rfl rfl (.cons (Ev.step (ev_mv rfl rfl) rfl rfl rfl ?_))))))))
                  refine .cons (Ev.step (ev_mv rfl rfl) rfl rfl rfl (.cons (Ev.step (ev_nil rfl rfl) rfl rfl rfl (.cons (Ev.step (ev_fa rfl fo49_0 rfl (r := 0) rfl) rfl rfl rfl ?_)))))
                  refine .know (row_len 2 rfl) (fun hv68 => ?_)
                  obtain ⟨A66, c67, rfl, hv68_1, hv68_2⟩ := hv68
                  unfold maxLen at hv68_2
                  refine .cons (st_store1 rfl rfl rfl ty22 rfl rfl rfl (.t (.t (.t (.t (.t (.t .h)))))) .h (.cons (Ev.step (ev_nil rfl rfl) rfl rfl rfl (.cons (Ev.step (ev_fa rfl fo49_1 rfl (r := 1) rfl) rfl rfl rfl ?_)))))
                  refine .know (row_len 1 rfl) (fun hv71 => ?_)
                  obtain ⟨A69, c70, rfl, hv71_1, hv71_2⟩ := hv71
                  unfold maxLen at hv71_2
                  refine .cons (st_store1 rfl rfl rfl ty22 rfl rfl rfl .h (.t .h) (.go (fun _ _ h => h) (.seq (.region (.cons (Ev.step (ev_as rfl rfl) rfl rfl rfl (.go (fun _ _ h => h) ?_)))))))
                  exact .ret (fun _ _ h => h) (ret1 Try.results19 rfl (.c .h (.c (.t (.t .h)) (.c .h .n))) ⟨true, .slice A66 X22.length c67, .slice A69 ((b.take j.toNat ++ [(gt m15 0)] ++ b.drop j.toNat).length) c70, X22, (b.take j.toNat ++ [(gt m15 0)] ++ b.drop j.toNat), (rel_ (by omega) (by omega) p12 p17 p25 (by unfold relH; rw [if_pos ⟨rfl, rfl⟩, if_pos (by unfold relOk; omega), if_neg (by omega)]; rfl)), rfl, rfl⟩)
          ·
            have hb27_ := bF bE hb27
            refine SP.reslotv (t := 71) rfl (gv_off hb27) (.cons (.offu rfl rfl rfl rfl rfl (.cons (.offu rfl rfl rfl rfl rfl (.cons (.offu rfl rfl rfl rfl rfl (.cons (.offu rfl rfl rfl rfl rfl (SP.reslot (t := 67) rfl hb27 ?_)))))))))
            refine .cons (.off rfl rfl rfl rfl rfl rfl (SP.reslot (t := 63) rfl hb26 (.cons (.on rfl rfl rfl (Ev.step (ev_pickf rfl rfl rfl rfl) rfl rfl rfl (.cons (Ev.step (ev_pickf rfl rfl rfl rfl) rfl rfl rfl (.go (fun _ _ h => h) (.cond_f rfl ?_)))))))))
            refine .skipgo (fun _ _ h => h) (.seq ?_)
            refine SC.draw mo [] [] .n (fun _ _ _ c hc => by cases hc) (fun wf_72 hl_72 hx_72 hR_72 => ?_)
            refine SR.take 0 rfl (by kernel_rfl) (by kernel_rfl) (by kernel_rfl) rfl (fun _ _ _ h => h) rfl rfl rfl (ev_mv rfl rfl) (SR.take 1 rfl (by kernel_rfl) (by kernel_rfl) (by kernel_rfl) rfl (fun _ _ _ h => h) rfl rfl rfl (ev_nil rfl rfl) (SR.take 2 rfl (by kernel_rfl) (by kernel_rfl) (by kernel_rfl) rfl (fun _ _ _ h => h) rfl rfl rfl (ev_fa rfl fo49_1 rfl (r := 1) rfl) (SR.take 3 rfl (by kernel_rfl) (by kernel_rfl) (by kernel_rfl) rfl (fun _ _ _ h => h) rfl rfl rfl (ev_ld1 rfl ty22 rfl (At.d (At.lent hR_72 4 rfl rfl))) (SR.take 5 rfl (by kernel_rfl) (by kernel_rfl) (by kernel_rfl) rfl (fun _ _ _ h => h) rfl rfl rfl (ev_mv rfl rfl) (SR.take 6 rfl (by kernel_rfl) (by kernel_rfl) (by kernel_rfl) rfl (fun _ _ _ h => h) rfl rfl rfl (ev_mv rfl rfl) ?_)))))
            refine SR.take 7 rfl (by kernel_rfl) (by kernel_rfl) (by kernel_rfl) rfl (fun _ _ _ h => h) rfl rfl rfl (ev_ix rfl Try.underlying22 ty44 rfl rfl (by omega) (by omega) (fun _ _ => Fr.adr (i := 0) (Fr.lent (S := S) hR_72 2 rfl (by (try simp only [List.length_nil, List.length_cons, List.length_append, List.length_set, List.length_singleton, List.length_take, List.length_drop, List.length_reverse]) <;> omega)) (by omega) (by omega))) (SR.take 8 rfl (by kernel_rfl) (by kernel_rfl) (by kernel_rfl) rfl (fun _ _ _ h => h) rfl rfl rfl (ev_lda rfl rfl (At.d (Fr.el (i := 0) (Fr.lent (S := S) hR_72 2 rfl (by (try simp only [List.length_nil, List.length_cons, List.length_append, List.length_set, List.length_singleton, List.length_take, List.length_drop, List.length_reverse]) <;> omega)) (by omega) (by omega))) ty44) ?_)
            refine SR.two (i := 4) (j := 9) (by kernel_rfl) ⟨_, rfl, ?_⟩ ⟨_, rfl, ?_⟩
            ·
              refine st_call0 rfl rfl rfl rfl hb20 rfl .n (clone A4 b.length c5 b _ _ (Fr.lent (S := S) hR_72 5 rfl (by (try simp only [List.length_nil, List.length_cons, List.length_append, List.length_set, List.length_singleton, List.length_take, List.length_drop, List.length_reverse]) <;> omega)) (by (try simp only [List.length_nil, List.length_cons, List.length_append, List.length_set, List.length_singleton, List.length_take, List.length_drop, List.length_reverse]) <;> omega) (by (try simp only [List.length_nil, List.length_cons, List.length_append, List.length_set, List.length_singleton, List.length_take, List.length_drop, List.length_reverse]) <;> omega)) (fun v_q74 C_q74 q74 => ⟨tt0, ?_⟩)
              obtain ⟨v73, rfl, rfl⟩ := q74
              show SR _ _ _ _ _ _ _ _ _ ⟨_, _ :: _, _, _⟩
              refine SR.one (j := 9) (by kernel_rfl) rfl (st_lit eVis (e := 44) (l := [(gt m15 0)]) rfl rfl rfl rfl (by kernel_rfl) rfl rfl (fun w => by kernel_rfl) (fun b75 => ⟨tt0, (SR.one (j := 10) (by kernel_rfl) rfl (st_call0 rfl rfl rfl rfl hb36 rfl (.c (.t .h) (.c .h .n)) (insert_ v_q74 b j (.slice (some ⟨b75, 0, none⟩) 1 1) [(gt m15 0)] _ _ (by omega) (by (try simp only [List.length_nil, List.length_cons, List.length_append, List.length_set, List.length_singleton, List.length_take, List.length_drop, List.length_reverse]) <;> omega) (by (try simp only [List.length_nil, List.length_cons, List.length_append, List.length_set, List.length_singleton, List.length_take, List.length_drop, List.length_reverse]) <;> omega) (by (try simp only [List.length_nil, List.length_cons, List.length_append, List.length_set, List.length_singleton, List.length_take, List.length_drop, List.length_reverse]) <;> omega) (by (try simp only [List.length_nil, List.length_cons, List.length_append, List.length_set, List.length_singleton, List.length_take, List.length_drop, List.length_reverse]) <;> omega)) (fun v_q77 C_q77 q77 => ⟨tt0, ?_⟩)))⟩))
              obtain ⟨u76, rfl, rfl⟩ := q77
              show SR _ _ _ _ _ _ _ _ _ ⟨_, _ :: _ :: _, _, _⟩
              refine SR.take 11 rfl (by kernel_rfl) (by kernel_rfl) (by kernel_rfl) rfl (fun _ _ _ h => h) rfl rfl rfl (ev_as rfl rfl) (SR.fin (by kernel_rfl) hl_72 hx_72 hR_72 (.c (.c .n)) (SQ.go (fun _ _ h => h) (.seq (.seq (.region ?_)))))
              refine .cons (Ev.step (ev_mv rfl rfl) rfl rfl rfl (.cons (Ev.step (ev_len rfl Try.underlying22 rfl) rfl rfl rfl (.cons (Ev.step (ev_cmp rfl rfl rfl rfl) rfl rfl rfl (.go (fun _ _ h => h) (.condI rfl bE (fun h78 => ?_) (fun h78 => ?_))))))))
              ·
                refine .region (.cons (Ev.step (ev_mv rfl rfl) rfl rfl rfl (.cons (Ev.step (ev_mv rfl rfl) rfl rfl rfl (.cons (Ev.step (ev_mv rfl rfl) rfl rfl rfl (.cons (Ev.step (ev_ix rfl Try.underlying22 ty44 rfl rfl (by omega) (by omega) (row_adr (i := 1) 4 rfl (by omega) (by omega))) rfl rfl rfl (.cons (Ev.step (ev_lda rfl rfl (row_el (E := eVis) (l := m15) (i := 1) 4 rfl (by omega) (by omega)) ty44) rfl rfl rfl ?_))))))))))
                refine .cons (st_lit eVis (e := 44) (l := [(gt m15 1)]) rfl rfl rfl rfl (by kernel_rfl) rfl rfl (fun w => by kernel_rfl) (fun b79 => .cons (st_call0 rfl rfl rfl rfl hb36 rfl (.c (.t .h) (.c .h .n)) (insert_ v_q77 (b.take j.toNat ++ [(gt m15 0)] ++ b.drop j.toNat) k (.slice (some ⟨b79, 0, none⟩) 1 1) [(gt m15 1)] _ _ (by omega) (by (try simp only [List.length_nil, List.length_cons, List.length_append, List.length_set, List.length_singleton, List.length_take, List.length_drop, List.length_reverse]) <;> omega) (by (try simp only [List.length_nil, List.length_cons, List.length_append, List.length_set, List.length_singleton, List.length_take, List.length_drop, List.length_reverse]) <;> omega) (by (try simp only [List.length_nil, List.length_cons, List.length_append, List.length_set, List.length_singleton, List.length_take, List.length_drop, List.length_reverse]) <;> omega) (by (try simp only [List.length_nil, List.length_cons, List.length_append, List.length_set, List.length_singleton, List.length_take, List.length_drop, List.length_reverse]) <;> omega)) (fun v_q81 C_q81 q81 => ?_))))
                obtain ⟨u80, rfl, rfl⟩ := q81
                show SP _ _ _ _ _ _ ⟨_, _ :: _ :: _, _, _⟩
                refine .cons (Ev.step (ev_as rfl rfl) rfl rfl rfl (.go (fun _ _ h => h) (.seq (.region (.cons (Ev.step (ev_mv rfl rfl) rfl rfl rfl (.cons (Ev.step (ev_mv rfl rfl) rfl rfl rfl ?_))))))))
                refine .cons (Ev.step (ev_mv rfl rfl) rfl rfl rfl (.cons (Ev.step (ev_mv rfl rfl) rfl rfl rfl (.cons (Ev.step (ev_nil rfl rfl) rfl rfl rfl (.cons (Ev.step (ev_fa rfl fo49_0 rfl (r := 0) rfl) rfl rfl rfl ?_)))))))
                refine .know (row_len 3 rfl) (fun hv84 => ?_)
                obtain ⟨A82, c83, rfl, hv84_1, hv84_2⟩ := hv84
                unfold maxLen at hv84_2
                refine .cons (st_store1 rfl rfl rfl ty22 rfl rfl rfl (.t (.t (.t (.t (.t (.t (.t .h))))))) .h (.cons (Ev.step (ev_nil rfl rfl) rfl rfl rfl (.cons (Ev.step (ev_fa rfl fo49_1 rfl (r := 1) rfl) rfl rfl rfl ?_)))))
                refine .know (row_len 1 rfl) (fun hv87 => ?_)
                obtain ⟨A85, c86, rfl, hv87_1, hv87_2⟩ := hv87
                unfold maxLen at hv87_2
                refine .cons (st_store1 rfl rfl rfl ty22 rfl rfl rfl .h (.t .h) (.go (fun _ _ h => h) (.seq (.region (.cons (Ev.step (ev_as rfl rfl) rfl rfl rfl (.go (fun _ _ h => h) ?_)))))))
                exact .ret (fun _ _ h => h) (ret1 Try.results19 rfl (.c .h (.c (.t (.t (.t .h))) (.c .h .n))) ⟨true, .slice A82 X22.length c83, .slice A85 (((b.take j.toNat ++ [(gt m15 0)] ++ b.drop j.toNat).take k.toNat ++ [(gt m15 1)] ++ (b.take j.toNat ++ [(gt m15 0)] ++ b.drop j.toNat).drop k.toNat).length) c86, X22, ((b.take j.toNat ++ [(gt m15 0)] ++ b.drop j.toNat).take k.toNat ++ [(gt m15 1)] ++ (b.take j.toNat ++ [(gt m15 0)] ++ b.drop j.toNat).drop k.toNat), (rel_ (by omega) (by omega) p12 p17 p25 (by unfold relH; rw [if_pos ⟨rfl, rfl⟩, if_pos (by unfold relOk; omega), if_pos (by omega)]; rfl)), rfl, rfl⟩)
              ·
                refine .skipgo (fun _ _ h => h) (.seq (.region (.cons (Ev.step (ev_mv rfl rfl) rfl rfl rfl (.cons (Ev.step (ev_mv rfl rfl) rfl rfl rfl (.cons (Ev.step (ev_mv rfl rfl) rfl rfl rfl ?_))))))))
                refine .cons (Ev.step (ev_mv rfl rfl) rfl rfl rfl (.cons (Ev.step (ev_nil rfl rfl) rfl rfl rfl (.cons (Ev.step (ev_fa rfl fo49_0 rfl (r := 0) rfl) rfl rfl rfl ?_)))))
                refine .know (row_len 2 rfl) (fun hv90 => ?_)
                obtain ⟨A88, c89, rfl, hv90_1, hv90_2⟩ := hv90
                unfold maxLen at hv90_2
                refine .cons (st_store1 rfl rfl rfl ty22 rfl rfl rfl (.t (.t (.t (.t (.t (.t .h)))))) .h (.cons (Ev.step (ev_nil rfl rfl) rfl rfl rfl (.cons (Ev.step (ev_fa rfl fo49_1 rfl (r := 1) rfl) rfl rfl rfl ?_)))))
                refine .know (row_len 1 rfl) (fun hv93 => ?_)
                obtain ⟨A91, c92, rfl, hv93_1, hv93_2⟩ := hv93
                unfold maxLen at hv93_2
                refine .cons (st_store1 rfl rfl rfl ty22 rfl rfl rfl .h (.t .h) (.go (fun _ _ h => h) (.seq (.region (.cons (Ev.step (ev_as rfl rfl) rfl rfl rfl (.go (fun _ _ h => h) ?_)))))))
                exact .ret (fun _ _ h => h) (ret1 Try.results19 rfl (.c .h (.c (.t (.t .h)) (.c .h .n))) ⟨true, .slice A88 X22.length c89, .slice A91 ((b.take j.toNat ++ [(gt m15 0)] ++ b.drop j.toNat).length) c92, X22, (b.take j.toNat ++ [(gt m15 0)] ++ b.drop j.toNat), (rel_ (by omega) (by omega) p12 p17 p25 (by unfold relH; rw [if_pos ⟨rfl, rfl⟩, if_pos (by unfold relOk; omega), if_neg (by omega)]; rfl)), rfl, rfl⟩)
            ·
              refine st_lit eVis (e := 44) (l := [(gt m15 0)]) rfl rfl rfl rfl (by kernel_rfl) rfl rfl (fun w => by kernel_rfl) (fun b94 => ⟨tt0, (SR.one (j := 4) (by kernel_rfl) rfl (st_call0 rfl rfl rfl rfl hb20 rfl .n (clone A4 b.length c5 b _ _ (Fr.lent (S := S) hR_72 5 rfl (by (try simp only [List.length_nil, List.length_cons, List.length_append, List.length_set, List.length_singleton, List.length_take, List.length_drop, List.length_reverse]) <;> omega)) (by (try simp only [List.length_nil, List.length_cons, List.length_append, List.length_set, List.length_singleton, List.length_take, List.length_drop, List.length_reverse]) <;> omega) (by (try simp only [List.length_nil, List.length_cons, List.length_append, List.length_set, List.length_singleton, List.length_take, List.length_drop, List.length_reverse]) <;> omega)) (fun v_q96 C_q96 q96 => ⟨tt0, ?_⟩)))⟩)
              obtain ⟨v95, rfl, rfl⟩ := q96
              show SR _ _ _ _ _ _ _ _ _ ⟨_, _ :: _, _, _⟩
              refine SR.one (j := 10) (by kernel_rfl) rfl (st_call0 rfl rfl rfl rfl hb36 rfl (.c .h (.c .h .n)) (insert_ v_q96 b j (.slice (some ⟨b94, 0, none⟩) 1 1) [(gt m15 0)] _ _ (by omega) (by (try simp only [List.length_nil, List.length_cons, List.length_append, List.length_set, List.length_singleton, List.length_take, List.length_drop, List.length_reverse]) <;> omega) (by (try simp only [List.length_nil, List.length_cons, List.length_append, List.length_set, List.length_singleton, List.length_take, List.length_drop, List.length_reverse]) <;> omega) (by (try simp only [List.length_nil, List.length_cons, List.length_append, List.length_set, List.length_singleton, List.length_take, List.length_drop, List.length_reverse]) <;> omega) (by (try simp only [List.length_nil, List.length_cons, List.length_append, List.length_set, List.length_singleton, List.length_take, List.length_drop, List.length_reverse]) <;> omega)) (fun v_q98 C_q98 q98 => ⟨tt0, ?_⟩))
              obtain ⟨u97, rfl, rfl⟩ := q98
              show SR _ _ _ _ _ _ _ _ _ ⟨_, _ :: _ :: _, _, _⟩
              refine SR.take 11 rfl (by kernel_rfl) (by kernel_rfl) (by kernel_rfl) rfl (fun _ _ _ h => h) rfl rfl rfl (ev_as rfl rfl) (SR.fin (by kernel_rfl) hl_72 hx_72 hR_72 (.c (.c .n)) (SQ.go (fun _ _ h => h) (.seq (.seq (.region ?_)))))
              refine .cons (Ev.step (ev_mv rfl rfl) rfl rfl rfl (.cons (Ev.step (ev_len rfl Try.underlying22 rfl) rfl rfl rfl (.cons (Ev.step (ev_cmp rfl rfl rfl rfl) rfl rfl rfl (.go (fun _ _ h => h) (.condI rfl bE (fun h99 => ?_) (fun h99 => ?_))))))))
              ·
                refine .region (.cons (Ev.step (ev_mv rfl rfl) rfl rfl rfl (.cons (Ev.step (ev_mv rfl rfl) rfl rfl rfl (.cons (Ev.step (ev_mv rfl rfl) rfl rfl rfl (.cons (Ev.step (ev_ix rfl Try.underlying22 ty44 rfl rfl (by omega) (by omega) (row_adr (i := 1) 4 rfl (by omega) (by omega))) rfl rfl rfl (.cons (Ev.step (ev_lda rfl rfl (row_el (E := eVis) (l := m15) (i := 1) 4 rfl (by omega) (by omega)) ty44) rfl rfl rfl ?_))))))))))
                refine .cons (st_lit eVis (e := 44) (l := [(gt m15 1)]) rfl rfl rfl rfl (by kernel_rfl) rfl rfl (fun w => by kernel_rfl) (fun b100 => .cons (st_call0 rfl rfl rfl rfl hb36 rfl (.c (.t .h) (.c .h .n)) (insert_ v_q98 (b.take j.toNat ++ [(gt m15 0)] ++ b.drop j.toNat) k (.slice (some ⟨b100, 0, none⟩) 1 1) [(gt m15 1)] _ _ (by omega) (by (try simp only [List.length_nil, List.length_cons, List.length_append, List.length_set, List.length_singleton, List.length_take, List.length_drop, List.length_reverse]) <;> omega) (by (try simp only [List.length_nil, List.length_cons, List.length_append, List.length_set, List.length_singleton, List.length_take, List.length_drop, List.length_reverse]) <;> omega) (by (try simp only [List.length_nil, List.length_cons, List.length_append, List.length_set, List.length_singleton, List.length_take, List.length_drop, List.length_reverse]) <;> omega) (by (try simp only [List.length_nil, List.length_cons, List.length_append, List.length_set, List.length_singleton, List.length_take, List.length_drop, List.length_reverse]) <;> omega)) (fun v_q102 C_q102 q102 => ?_))))
                obtain ⟨u101, rfl, rfl⟩ := q102
                show SP _ _ _ _ _ _ ⟨_, _ :: _ :: _, _, _⟩
                refine .cons (Ev.step (ev_as rfl rfl) rfl rfl rfl (.go (fun _ _ h => h) (.seq (.region (.cons (Ev.step (ev_mv rfl rfl) rfl rfl rfl (.cons (Ev.step (ev_mv rfl rfl) rfl rfl rfl ?_))))))))
                refine .cons (Ev.step (ev_mv rfl rfl) rfl rfl rfl (.cons (Ev.step (ev_mv rfl rfl) rfl rfl rfl (.cons (Ev.step (ev_nil rfl rfl) rfl rfl rfl (.cons (Ev.step (ev_fa rfl fo49_0 rfl (r := 0) rfl) rfl rfl rfl ?_)))))))
                refine .know (row_len 3 rfl) (fun hv105 => ?_)
                obtain ⟨A103, c104, rfl, hv105_1, hv105_2⟩ := hv105
                unfold maxLen at hv105_2
                refine .cons (st_store1 rfl rfl rfl ty22 rfl rfl rfl (.t (.t (.t (.t (.t (.t (.t .h))))))) .h (.cons (Ev.step (ev_nil rfl rfl) rfl rfl rfl (.cons (Ev.step (ev_fa rfl fo49_1 rfl (r := 1) rfl) rfl rfl rfl ?_)))))
                refine .know (row_len 1 rfl) (fun hv108 => ?_)
                obtain ⟨A106, c107, rfl, hv108_1, hv108_2⟩ := hv108
                unfold maxLen at hv108_2
                refine .cons (st_store1 rfl rfl rfl ty22 rfl rfl rfl .h (.t .h) (.go (fun _ _ h => h) (.seq (.region (.cons (Ev.step (ev_as rfl rfl) rfl rfl rfl (.go (fun _ _ h => h) ?_)))))))
                exact .ret (fun _ _ h => h) (ret1 Try.results19 rfl (.c .h (.c (.t (.t (.t .h))) (.c .h .n))) ⟨true, .slice A103 X22.length c104, .slice A106 (((b.take j.toNat ++ [(gt m15 0)] ++ b.drop j.toNat).take k.toNat ++ [(gt m15 1)] ++ (b.take j.toNat ++ [(gt m15 0)] ++ b.drop j.toNat).drop k.toNat).length) c107, X22, ((b.take j.toNat ++ [(gt m15 0)] ++ b.drop j.toNat).take k.toNat ++ [(gt m15 1)] ++ (b.take j.toNat ++ [(gt m15 0)] ++ b.drop j.toNat).drop k.toNat), (rel_ (by omega) (by omega) p12 p17 p25 (by unfold relH; rw [if_pos ⟨rfl, rfl⟩, if_pos (by unfold relOk; omega), if_pos (by omega)]; rfl)), rfl, rfl⟩)
              ·
                refine .skipgo (fun _ _ h => h) (.seq (.region (.cons (Ev.step (ev_mv rfl rfl) rfl rfl rfl (.cons (Ev.step (ev_mv rfl rfl) rfl rfl rfl (.cons (Ev.step (ev_mv rfl rfl) rfl rfl rfl ?_))))))))
                refine .cons (Ev.step (ev_mv rfl rfl) rfl rfl rfl (.cons (Ev.step (ev_nil rfl rfl) rfl rfl rfl (.cons (Ev.step (ev_fa rfl fo49_0 rfl (r := 0) rfl) rfl rfl rfl ?_)))))
                refine .know (row_len 2 rfl) (fun hv111 => ?_)
                obtain ⟨A109, c110, rfl, hv111_1, hv111_2⟩ := hv111
                unfold maxLen at hv111_2
                refine .cons (st_store1 rfl rfl rfl ty22 rfl rfl rfl (.t (.t (.t (.t (.t (.t .h)))))) .h (.cons (Ev.step (ev_nil rfl rfl) rfl rfl rfl (.cons (Ev.step (ev_fa rfl fo49_1 rfl (r := 1) rfl) rfl rfl rfl ?_)))))
                refine .know (row_len 1 rfl) (fun hv114 => ?_)
                obtain ⟨A112, c113, rfl, hv114_1, hv114_2⟩ := hv114
                unfold maxLen at hv114_2
                refine .cons (st_store1 rfl rfl rfl ty22 rfl rfl rfl .h (.t .h) (.go (fun _ _ h => h) (.seq (.region (.cons (Ev.step (ev_as rfl rfl) rfl rfl rfl (.go (fun _ _ h => h) ?_)))))))
                exact .ret (fun _ _ h => h) (ret1 Try.results19 rfl (.c .h (.c (.t (.t .h)) (.c .h .n))) ⟨true, .slice A109 X22.length c110, .slice A112 ((b.take j.toNat ++ [(gt m15 0)] ++ b.drop j.toNat).length) c113, X22, (b.take j.toNat ++ [(gt m15 0)] ++ b.drop j.toNat), (rel_ (by omega) (by omega) p12 p17 p25 (by unfold relH; rw [if_pos ⟨rfl, rfl⟩, if_pos (by unfold relOk; omega), if_neg (by omega)]; rfl)), rfl, rfl⟩)

end Go.Proofs.Ytfmfhkaimhmgdaa.Sx
