import Derived.Test.YthmkelkefmfmgaaProg
import Derived.Test.YthmkelkefmfmgaaSxLaw22
import Derived.Test.YthmkelkefmfmgaaSxWin
import Derived.Test.YthmkelkefmfmgaaSx22A
import Derived.Test.YthmkelkefmfmgaaSx22B
import Derived.Test.YthmkelkefmfmgaaSx22W
import Derived.Test.YthmkelkefmfmgaaSx22M
import Derived.Test.YthmkelkefmfmgaaSx22F
import Derived.Test.YthmkelkefmfmgaaSx22X
import Derived.Test.YthmkelkefmfmgaaSx22G
import Derived.Test.YthmkelkefmfmgaaSx22H
import Derived.Test.YthmkelkefmfmgaaSx22K
import Derived.Test.YthmkelkefmfmgaaSx22R
import Derived.Test.YthmkelkefmfmgaaSx22E
import Derived.Test.YthmkelkefmfmgaaSx22L
import Derived.Test.YthmkelkefmfmgaaSx22N
import Derived.Test.YthmkelkefmfmgaaSx22O
import Derived.Test.YthmkelkefmfmgaaSx22U
import Derived.Test.YthmkelkefmfmgaaSx22V
import Derived.Test.YthmkelkefmfmgaaSx22Y
import Derived.Test.YthmkelkefmfmgaaSx22Z
import Derived.Test.YthmkelkefmfmgaaSx22AA
set_option maxRecDepth 20000
set_option maxHeartbeats 4000000
set_option linter.unusedVariables false
set_option linter.unusedSimpArgs false
namespace Go.Proofs.Ythmkelkefmfmgaa.Sx.FAB
open Go Go.SX Go.Proofs
theorem hbd8 : hasBody Try.prog 8 = true := by kernel_rfl
theorem ty30 : ty Try.prog 30 = some (true, 14) := by kernel_rfl
theorem hbd9 : hasBody Try.prog 9 = true := by kernel_rfl
theorem fo30_0 : fo Try.prog 30 0 = some 0 := by kernel_rfl
theorem fo24_0 : fo Try.prog 24 0 = some 0 := by kernel_rfl
theorem ty22 : ty Try.prog 22 = some (false, 1) := by kernel_rfl
theorem hbd16 : hasBody Try.prog 16 = true := by kernel_rfl
theorem hbd11 : hasBody Try.prog 11 = true := by kernel_rfl
theorem hbd17 : hasBody Try.prog 17 = true := by kernel_rfl
theorem zf30 : (Try.prog.info? 30).bind (fun i => i.zero.map Value.cells) = some (List.toArray [.int .i64 0, .int .i64 0, .string ⟨#[]⟩, .bool false, .int .i64 0, .int .i64 0, .int .i64 0, .int .i64 0, .int .i64 0, .int .i64 0, .int .i64 0, .int .i64 0, .slice none 0 0, .slice none 0 0]) := by kernel_rfl
theorem hbd18 : hasBody Try.prog 18 = true := by kernel_rfl


end Go.Proofs.Ythmkelkefmfmgaa.Sx.FAB
namespace Go.Proofs.Ythmkelkefmfmgaa.Sx
open Go Go.SX Go.Proofs FAB





theorem replyBackF (cd : Int) (at_ : Int) (path : ByteArray) (op : Bool) (x0 : Int) (x1 : Int) (x2 : Int) (x3 : Int) (x4 : Int) (x5 : Int) (x6 : Int) (x7 : Int) (pA : Option Addr) (pc : Nat) (ps : List PV) (kA : Option Addr) (kc : Nat) (lf : List TK) (S : Nat → Prop) (wf : World) (hP : Fr ePL S wf pA ps) (hK : Fr eTK S wf kA lf) (hN : NP S wf ps) (hc : cd ≠ 0) :
    TR0 Try.prog 5 [.agg #[.int .i64 cd, .int .i64 at_, .string path, .bool op, .int .i64 x0, .int .i64 x1, .int .i64 x2, .int .i64 x3, .int .i64 x4, .int .i64 x5, .int .i64 x6, .int .i64 x7, .slice pA ps.length pc, .slice kA lf.length kc]] [] S wf (fun v_ C_ => v_ = .bool true ∧ C_ = []) := by
  have hla := hP.len
  have hlk := hK.len
  refine TR.mk Try.func5 rfl Try.ntmps5 rfl rfl (fun w_ => ?_)
  refine .seq (.region (.cons (st_boxa rfl rfl rfl rfl rfl (fun b1 => .cons (Ev.step (ev_as rfl rfl) rfl rfl rfl (.go (fun _ _ h => h) (.seq ?_)))))))
  refine .seq (.region (.cons (st_callk rfl rfl rfl rfl hbd8 rfl .n (awake _ _) (.cons (Ev.step (ev_not rfl rfl) rfl rfl rfl (.go (fun _ _ h => h) (.cond_f rfl ?_)))))))
  refine .skipgo (fun _ _ h => h) (.seq (.seq (.region (.cons (Ev.step (ev_lda rfl rfl (At.whole 0 rfl) ty30) rfl rfl rfl (.cons (st_call00 rfl rfl rfl rfl hbd9 rfl .n (long_ cd at_ path op x0 x1 x2 x3 x4 x5 x6 x7 pA pc ps kA kc lf _ _ hP hN) (by intro v C h; obtain ⟨_, _, rfl, rfl⟩ := h; rfl) (fun v_q3 q3 => ?_))))))))
  obtain ⟨r2, p4, rfl, -⟩ := q3
  refine .cons (Ev.step (ev_mv rfl rfl) rfl rfl rfl (.cons (Ev.gstep (fun _ => ev_fa rfl fo30_0 rfl (r := 0) rfl) rfl rfl rfl rfl rfl (.cons (Ev.gstep (fun hb => ev_fa rfl fo24_0 (lkg rfl hb) (r := 0) rfl) rfl rfl rfl rfl rfl (.cons (Ev.gstep (fun hb => ev_ld1 rfl ty22 (lkg rfl hb) (At.own1 0 rfl rfl)) rfl rfl rfl rfl rfl (.cons (Ev.gstep (fun hb => ev_cmp rfl (lkg rfl hb) rfl rfl) rfl rfl rfl rfl rfl (.cons (Ev.gstep (fun hb => ev_mv rfl (lkg rfl hb)) rfl rfl rfl rfl rfl ?_)))))))))))
  rcases Bool.eq_false_or_eq_true r2 with hb5 | hb5
  ·
    refine SP.reslotv (t := 14) rfl (gv_off hb5) (.cons (.offu rfl rfl rfl rfl rfl (.cons (.offu rfl rfl rfl rfl rfl (.cons (.offu rfl rfl rfl rfl rfl (SP.reslot (t := 9) rfl hb5 (.cons (.off rfl rfl rfl rfl rfl rfl ?_)))))))))
    refine .cons (Ev.step (ev_pickt rfl rfl rfl rfl) rfl rfl rfl (.go (fun _ _ h => h) (.cond_t rfl (.seq (.region (.cons (Ev.step (ev_as rfl rfl) rfl rfl rfl ?_)))))))
    exact .go (fun _ _ h => h) (.ret (fun _ _ h => h) (ret1 Try.results5 rfl .n ⟨rfl, rfl⟩))
  ·
    refine SP.reslotv (t := 14) rfl (gv_on hb5) (.cons (Ev.gstep (fun _ => ev_lda rfl rfl (At.whole 0 rfl) ty30) rfl rfl rfl rfl rfl ?_))
    rcases Bool.eq_false_or_eq_true (cd == 0) with hb6 | hb6
    ·
      refine SP.reslot (t := 14) rfl hb6 ?_
      have hb6_ := bT bE hb6
      refine .cons (.on rfl rfl rfl (st_call00 rfl rfl rfl rfl hbd16 (lkA1 (lkg rfl hb6) lkA0) .n (kindsOk cd at_ path op x0 x1 x2 x3 x4 x5 x6 x7 pA pc ps kA kc lf _ _ hP hN) (by intro v C h; obtain ⟨_, _, rfl, rfl⟩ := h; rfl) (fun v_q8 q8 => ?_)))
      obtain ⟨r7, p9, rfl, -⟩ := q8
      refine .cons (.on rfl rfl rfl (Ev.step (ev_not rfl rfl) rfl rfl rfl (SP.reslot (t := 9) rfl hb5 (.cons (.on rfl rfl rfl (Ev.step (ev_pickt rfl rfl rfl rfl) rfl rfl rfl (.cons (Ev.step (ev_pickf rfl rfl rfl rfl) rfl rfl rfl (.go (fun _ _ h => h) (.condI rfl (bN bV) (fun h10 => ?_) (fun h10 => ?_)))))))))))
      ·
        exact .seq (.region (.cons (Ev.step (ev_as rfl rfl) rfl rfl rfl (.go (fun _ _ h => h) (.ret (fun _ _ h => h) (ret1 Try.results5 rfl .n ⟨rfl, rfl⟩))))))
      ·
        refine .skipgo (fun _ _ h => h) (.seq ?_)
        have hlo := p4 (by simp_all)
        obtain ⟨b1_, b2_, b3_, b4_⟩ := hlo
        refine .region (.cons (Ev.step (ev_lda rfl rfl (At.whole 0 rfl) ty30) rfl rfl rfl (.cons (st_call0 rfl rfl rfl rfl hbd11 rfl .n (tree_g cd at_ path op x0 x1 x2 x3 x4 x5 x6 x7 pA pc ps kA kc lf _ _ hc) (fun v_q13 C_q13 q13 => ?_)))))
        obtain ⟨u11, L12, p14, rfl, rfl⟩ := q13
        show SP _ _ _ _ _ _ ⟨_, _ :: _ :: _, _, _⟩
        have h5 : L12.length = 5 := (fault_read p14).1
        refine .know (row_len 0 rfl) (fun hv17 => ?_)
        obtain ⟨A15, c16, rfl, hv17_1, hv17_2⟩ := hv17
        unfold maxLen at hv17_2
        refine .cons (st_lendk rfl rfl rfl rfl hbd17 rfl .n (.c .h (.c .h .n)) (fun w_ hw => read_f A15 L12.length c16 L12 cd at_ path _ _ (Fr.lend hw 0 rfl (by first | ((try simp only [List.length_nil, List.length_cons, List.length_append, List.length_set, List.length_singleton, List.length_take, List.length_drop, List.length_reverse]) <;> omega) | omega)) (NT.lend hw 1 rfl) (by first | ((try simp only [List.length_nil, List.length_cons, List.length_append, List.length_set, List.length_singleton, List.length_take, List.length_drop, List.length_reverse]) <;> omega) | omega) p14 hc) (.cons (Ev.step (ev_mv rfl rfl) rfl rfl rfl (.cons (Ev.step (ev_ext rfl rfl rfl) rfl rfl rfl (.cons (Ev.step (ev_ext rfl rfl rfl) rfl rfl rfl (.cons (st_alloc rfl rfl rfl rfl zf30 (fun b18 => .cons (st_storea (l' := [.int .i64 cd, .int .i64 at_, .string path, .bool false, .int .i64 0, .int .i64 0, .int .i64 0, .int .i64 0, .int .i64 0, .int .i64 0, .int .i64 0, .int .i64 0, .slice none 0 0, .slice none 0 0]) rfl rfl rfl ty30 rfl rfl rfl .h rfl rfl ?_)))))))))))
        refine .cons (Ev.step (ev_as rfl rfl) rfl rfl rfl (.go (fun _ _ h => h) (.seq (.region (.cons (Ev.step (ev_mv rfl rfl) rfl rfl rfl (.cons (Ev.step (ev_mv rfl rfl) rfl rfl rfl ?_))))))))
        refine .cons (.on rfl rfl rfl (Ev.step (ev_lda rfl rfl (At.whole 0 rfl) ty30) rfl rfl rfl (.cons (.on rfl rfl rfl (Ev.step (ev_lda rfl rfl (At.whole 3 rfl) ty30) rfl rfl rfl (.cons (.on rfl rfl rfl (st_callk rfl rfl rfl rfl hbd18 rfl .n (sameF cd at_ path op x0 x1 x2 x3 x4 x5 x6 x7 pA pc ps kA kc lf _ _ hc) (.cons (Ev.step (ev_pickt rfl rfl rfl rfl) rfl rfl rfl (.cons (Ev.step (ev_as rfl rfl) rfl rfl rfl (.go (fun _ _ h => h) ?_)))))))))))))
        exact .ret (fun _ _ h => h) (ret1 Try.results5 rfl .n ⟨rfl, rfl⟩)
    ·
      refine SP.reslot (t := 14) rfl hb6 ?_
      have hb6_ := bF bE hb6
      refine .cons (.off rfl rfl rfl rfl rfl rfl (.cons (.off rfl rfl rfl rfl rfl rfl (SP.reslot (t := 9) rfl hb5 (.cons (.on rfl rfl rfl (Ev.step (ev_pickf rfl rfl rfl rfl) rfl rfl rfl (.cons (Ev.step (ev_pickf rfl rfl rfl rfl) rfl rfl rfl (.go (fun _ _ h => h) ?_))))))))))
      refine .cond_f rfl (.skipgo (fun _ _ h => h) (.seq ?_))
      have hlo := p4 (by simp_all)
      obtain ⟨b1_, b2_, b3_, b4_⟩ := hlo
      refine .region (.cons (Ev.step (ev_lda rfl rfl (At.whole 0 rfl) ty30) rfl rfl rfl (.cons (st_call0 rfl rfl rfl rfl hbd11 rfl .n (tree_g cd at_ path op x0 x1 x2 x3 x4 x5 x6 x7 pA pc ps kA kc lf _ _ hc) (fun v_q21 C_q21 q21 => ?_)))))
      obtain ⟨u19, L20, p22, rfl, rfl⟩ := q21
      show SP _ _ _ _ _ _ ⟨_, _ :: _ :: _, _, _⟩
      have h5 : L20.length = 5 := (fault_read p22).1
      refine .know (row_len 0 rfl) (fun hv25 => ?_)
      obtain ⟨A23, c24, rfl, hv25_1, hv25_2⟩ := hv25
      unfold maxLen at hv25_2
      refine .cons (st_lendk rfl rfl rfl rfl hbd17 rfl .n (.c .h (.c .h .n)) (fun w_ hw => read_f A23 L20.length c24 L20 cd at_ path _ _ (Fr.lend hw 0 rfl (by first | ((try simp only [List.length_nil, List.length_cons, List.length_append, List.length_set, List.length_singleton, List.length_take, List.length_drop, List.length_reverse]) <;> omega) | omega)) (NT.lend hw 1 rfl) (by first | ((try simp only [List.length_nil, List.length_cons, List.length_append, List.length_set, List.length_singleton, List.length_take, List.length_drop, List.length_reverse]) <;> omega) | omega) p22 hc) (.cons (Ev.step (ev_mv rfl rfl) rfl rfl rfl (.cons (Ev.step (ev_ext rfl rfl rfl) rfl rfl rfl (.cons (Ev.step (ev_ext rfl rfl rfl) rfl rfl rfl (.cons (st_alloc rfl rfl rfl rfl zf30 (fun b26 => .cons (st_storea (l' := [.int .i64 cd, .int .i64 at_, .string path, .bool false, .int .i64 0, .int .i64 0, .int .i64 0, .int .i64 0, .int .i64 0, .int .i64 0, .int .i64 0, .int .i64 0, .slice none 0 0, .slice none 0 0]) rfl rfl rfl ty30 rfl rfl rfl .h rfl rfl ?_)))))))))))
      refine .cons (Ev.step (ev_as rfl rfl) rfl rfl rfl (.go (fun _ _ h => h) (.seq (.region (.cons (Ev.step (ev_mv rfl rfl) rfl rfl rfl (.cons (Ev.step (ev_mv rfl rfl) rfl rfl rfl ?_))))))))
      refine .cons (.on rfl rfl rfl (Ev.step (ev_lda rfl rfl (At.whole 0 rfl) ty30) rfl rfl rfl (.cons (.on rfl rfl rfl (Ev.step (ev_lda rfl rfl (At.whole 3 rfl) ty30) rfl rfl rfl (.cons (.on rfl rfl rfl (st_callk rfl rfl rfl rfl hbd18 rfl .n (sameF cd at_ path op x0 x1 x2 x3 x4 x5 x6 x7 pA pc ps kA kc lf _ _ hc) (.cons (Ev.step (ev_pickt rfl rfl rfl rfl) rfl rfl rfl (.cons (Ev.step (ev_as rfl rfl) rfl rfl rfl (.go (fun _ _ h => h) ?_)))))))))))))
      exact .ret (fun _ _ h => h) (ret1 Try.results5 rfl .n ⟨rfl, rfl⟩)

theorem replyBackR (cd : Int) (at_ : Int) (path : ByteArray) (op : Bool) (x0 : Int) (x1 : Int) (x2 : Int) (x3 : Int) (x4 : Int) (x5 : Int) (x6 : Int) (x7 : Int) (pA : Option Addr) (pc : Nat) (ps : List PV) (kA : Option Addr) (kc : Nat) (lf : List TK) (S : Nat → Prop) (wf : World) (hP : Fr ePL S wf pA ps) (hK : Fr eTK S wf kA lf) (hN : NP S wf ps) (hc : cd = 0) :
    TR0 Try.prog 5 [.agg #[.int .i64 cd, .int .i64 at_, .string path, .bool op, .int .i64 x0, .int .i64 x1, .int .i64 x2, .int .i64 x3, .int .i64 x4, .int .i64 x5, .int .i64 x6, .int .i64 x7, .slice pA ps.length pc, .slice kA lf.length kc]] [] S wf (fun v_ C_ => v_ = .bool true ∧ C_ = []) := by
  have hla := hP.len
  have hlk := hK.len
  refine TR.mk Try.func5 rfl Try.ntmps5 rfl rfl (fun w_ => ?_)
  refine .seq (.region (.cons (st_boxa rfl rfl rfl rfl rfl (fun b1 => .cons (Ev.step (ev_as rfl rfl) rfl rfl rfl (.go (fun _ _ h => h) (.seq ?_)))))))
  refine .seq (.region (.cons (st_callk rfl rfl rfl rfl hbd8 rfl .n (awake _ _) (.cons (Ev.step (ev_not rfl rfl) rfl rfl rfl (.go (fun _ _ h => h) (.cond_f rfl ?_)))))))
  refine .skipgo (fun _ _ h => h) (.seq (.seq (.region (.cons (Ev.step (ev_lda rfl rfl (At.whole 0 rfl) ty30) rfl rfl rfl (.cons (st_call00 rfl rfl rfl rfl hbd9 rfl .n (long_ cd at_ path op x0 x1 x2 x3 x4 x5 x6 x7 pA pc ps kA kc lf _ _ hP hN) (by intro v C h; obtain ⟨_, _, rfl, rfl⟩ := h; rfl) (fun v_q3 q3 => ?_))))))))
  obtain ⟨r2, p4, rfl, -⟩ := q3
  refine .cons (Ev.step (ev_mv rfl rfl) rfl rfl rfl (.cons (Ev.gstep (fun _ => ev_fa rfl fo30_0 rfl (r := 0) rfl) rfl rfl rfl rfl rfl (.cons (Ev.gstep (fun hb => ev_fa rfl fo24_0 (lkg rfl hb) (r := 0) rfl) rfl rfl rfl rfl rfl (.cons (Ev.gstep (fun hb => ev_ld1 rfl ty22 (lkg rfl hb) (At.own1 0 rfl rfl)) rfl rfl rfl rfl rfl (.cons (Ev.gstep (fun hb => ev_cmp rfl (lkg rfl hb) rfl rfl) rfl rfl rfl rfl rfl (.cons (Ev.gstep (fun hb => ev_mv rfl (lkg rfl hb)) rfl rfl rfl rfl rfl ?_)))))))))))
  rcases Bool.eq_false_or_eq_true r2 with hb5 | hb5
  ·
    refine SP.reslotv (t := 14) rfl (gv_off hb5) (.cons (.offu rfl rfl rfl rfl rfl (.cons (.offu rfl rfl rfl rfl rfl (.cons (.offu rfl rfl rfl rfl rfl (SP.reslot (t := 9) rfl hb5 (.cons (.off rfl rfl rfl rfl rfl rfl ?_)))))))))
    refine .cons (Ev.step (ev_pickt rfl rfl rfl rfl) rfl rfl rfl (.go (fun _ _ h => h) (.cond_t rfl (.seq (.region (.cons (Ev.step (ev_as rfl rfl) rfl rfl rfl ?_)))))))
    exact .go (fun _ _ h => h) (.ret (fun _ _ h => h) (ret1 Try.results5 rfl .n ⟨rfl, rfl⟩))
  ·
    refine SP.reslotv (t := 14) rfl (gv_on hb5) (.cons (Ev.gstep (fun _ => ev_lda rfl rfl (At.whole 0 rfl) ty30) rfl rfl rfl rfl rfl ?_))
    rcases Bool.eq_false_or_eq_true (cd == 0) with hb6 | hb6
    ·
      refine SP.reslot (t := 14) rfl hb6 ?_
      have hb6_ := bT bE hb6
      refine .cons (.on rfl rfl rfl (st_call00 rfl rfl rfl rfl hbd16 (lkA1 (lkg rfl hb6) lkA0) .n (kindsOk cd at_ path op x0 x1 x2 x3 x4 x5 x6 x7 pA pc ps kA kc lf _ _ hP hN) (by intro v C h; obtain ⟨_, _, rfl, rfl⟩ := h; rfl) (fun v_q8 q8 => ?_)))
      obtain ⟨r7, p9, rfl, -⟩ := q8
      refine .cons (.on rfl rfl rfl (Ev.step (ev_not rfl rfl) rfl rfl rfl (SP.reslot (t := 9) rfl hb5 (.cons (.on rfl rfl rfl (Ev.step (ev_pickt rfl rfl rfl rfl) rfl rfl rfl (.cons (Ev.step (ev_pickf rfl rfl rfl rfl) rfl rfl rfl (.go (fun _ _ h => h) (.condI rfl (bN bV) (fun h10 => ?_) (fun h10 => ?_)))))))))))
      ·
        exact .seq (.region (.cons (Ev.step (ev_as rfl rfl) rfl rfl rfl (.go (fun _ _ h => h) (.ret (fun _ _ h => h) (ret1 Try.results5 rfl .n ⟨rfl, rfl⟩))))))
      ·
        refine .skipgo (fun _ _ h => h) (.seq ?_)
        have hlo := p4 (by simp_all)
        obtain ⟨b1_, b2_, b3_, b4_⟩ := hlo
        have hko := p9 (by simp_all)
        have hSb : ∀ p ∈ ps, p.steps.length ≤ 60 ∧ ∀ t ∈ p.steps, (1 ≤ t.kind ∧ t.kind ≤ 6) ∧ t.load.length ≤ 10 := fun p hp => ⟨(b4_ p hp).1, fun t ht => ⟨hko p hp t ht, (b4_ p hp).2 t ht⟩⟩
        have hSc : ∀ p ∈ ps, bP p := fun p hp => ⟨(b4_ p hp).1, fun t ht => ⟨⟨by have := (hko p hp t ht).1; omega, by have := (hko p hp t ht).2; omega⟩, (b4_ p hp).2 t ht⟩⟩
        refine .region (.cons (Ev.step (ev_lda rfl rfl (At.whole 0 rfl) ty30) rfl rfl rfl (.cons (st_call0 rfl rfl rfl rfl hbd11 rfl .n (tree_ cd at_ path op x0 x1 x2 x3 x4 x5 x6 x7 pA pc ps kA kc lf _ _ hP hK hN hc b1_ b2_ hSc) (fun v_q13 C_q13 q13 => ?_)))))
        obtain ⟨u11, L12, p14, p15, rfl, rfl⟩ := q13
        show SP _ _ _ _ _ _ ⟨_, _ :: _ :: _, _, _⟩
        have hLb := p15
        have hwr := whole_read p14 b1_ b2_ hSb
        obtain ⟨hn0, hW, he, hpsr, hlfr⟩ := hwr
        refine .know (row_len 0 rfl) (fun hv18 => ?_)
        obtain ⟨A16, c17, rfl, hv18_1, hv18_2⟩ := hv18
        unfold maxLen at hv18_2
        refine .cons (st_lend0 rfl rfl rfl rfl hbd17 rfl .n (.c .h (.c .h .n)) (fun w_ hw => read_ A16 L12.length c17 L12 op x0 x1 x2 x3 x4 x5 x6 x7 ps lf _ _ (Fr.lend hw 0 rfl (by first | ((try simp only [List.length_nil, List.length_cons, List.length_append, List.length_set, List.length_singleton, List.length_take, List.length_drop, List.length_reverse]) <;> omega) | omega)) (NT.lend hw 1 rfl) (by first | ((try simp only [List.length_nil, List.length_cons, List.length_append, List.length_set, List.length_singleton, List.length_take, List.length_drop, List.length_reverse]) <;> omega) | omega) hn0 hW he hpsr hlfr p14 b1_ b2_ hSc) (fun v_q25 C_q25 q25 => ?_))
        obtain ⟨pA19, pc20, Ps21, kA22, kc23, Lt24, p26, p27, rfl, rfl⟩ := q25
        show SP _ _ _ _ _ _ ⟨_, _ :: _ :: _ :: _ :: _ :: _, _, _⟩
        have hPl_ : Ps21.length = ps.length := by have h_ := congrArg List.length p26; simpa using h_
        have hLl_ := congrArg List.length p27
        refine .cons (Ev.step (ev_mv rfl rfl) rfl rfl rfl (.cons (Ev.step (ev_ext rfl rfl rfl) rfl rfl rfl (.cons (Ev.step (ev_ext rfl rfl rfl) rfl rfl rfl (.cons (st_alloc rfl rfl rfl rfl zf30 (fun b28 => .cons (st_storea (l' := [.int .i64 0, .int .i64 0, .string ⟨#[]⟩, .bool op, .int .i64 x0, .int .i64 x1, .int .i64 x2, .int .i64 x3, .int .i64 x4, .int .i64 x5, .int .i64 x6, .int .i64 x7, .slice pA19 Ps21.length pc20, .slice kA22 Lt24.length kc23]) rfl rfl rfl ty30 rfl rfl rfl .h rfl rfl (.cons (Ev.step (ev_as rfl rfl) rfl rfl rfl ?_)))))))))))
        refine .go (fun _ _ h => h) (.seq (.region (.cons (Ev.step (ev_mv rfl rfl) rfl rfl rfl (.cons (Ev.step (ev_mv rfl rfl) rfl rfl rfl (.cons (.on rfl rfl rfl (Ev.step (ev_lda rfl rfl (At.whole 0 rfl) ty30) rfl rfl rfl ?_)))))))))
        exact .cons (.on rfl rfl rfl (Ev.step (ev_lda rfl rfl (At.whole 6 rfl) ty30) rfl rfl rfl (.cons (.on rfl rfl rfl (st_lendk rfl rfl rfl rfl hbd18 rfl .n (.c (.t .h) (.c (.t (.t .h)) (.c (.t .h) .n))) (fun w_ hw => sameR 0 0 ⟨#[]⟩ op x0 x1 x2 x3 x4 x5 x6 x7 pA19 pc20 Ps21 kA22 kc23 Lt24 cd at_ path op x0 x1 x2 x3 x4 x5 x6 x7 pA pc ps kA kc lf _ _ (Fr.lend hw 0 rfl (by first | ((try simp only [List.length_nil, List.length_cons, List.length_append, List.length_set, List.length_singleton, List.length_take, List.length_drop, List.length_reverse]) <;> omega) | omega)) (Fr.ext hP hw.lendx) (Fr.lend hw 1 rfl (by first | ((try simp only [List.length_nil, List.length_cons, List.length_append, List.length_set, List.length_singleton, List.length_take, List.length_drop, List.length_reverse]) <;> omega) | omega)) (Fr.ext hK hw.lendx) (NP.lend hw 2 rfl) ((hN).ext hw.lendx) ⟨rfl, hc⟩ ⟨rfl, rfl, rfl, rfl, rfl, rfl, rfl, rfl, rfl⟩ p26 p27) (.cons (Ev.step (ev_pickt rfl rfl rfl rfl) rfl rfl rfl (.cons (Ev.step (ev_as rfl rfl) rfl rfl rfl (.go (fun _ _ h => h) (.ret (fun _ _ h => h) (ret1 Try.results5 rfl .n ⟨rfl, rfl⟩))))))))))))
    ·
      refine SP.reslot (t := 14) rfl hb6 ?_
      have hb6_ := bF bE hb6
      refine .cons (.off rfl rfl rfl rfl rfl rfl (.cons (.off rfl rfl rfl rfl rfl rfl (SP.reslot (t := 9) rfl hb5 (.cons (.on rfl rfl rfl (Ev.step (ev_pickf rfl rfl rfl rfl) rfl rfl rfl (.cons (Ev.step (ev_pickf rfl rfl rfl rfl) rfl rfl rfl (.go (fun _ _ h => h) ?_))))))))))
      refine .cond_f rfl (.skipgo (fun _ _ h => h) (.seq ?_))
      exfalso; simp_all

end Go.Proofs.Ythmkelkefmfmgaa.Sx
