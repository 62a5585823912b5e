import Derived.Test.YteabdapdlfhncaaProg
import Derived.Test.YteabdapdlfhncaaSxWin
import Derived.Test.YteabdapdlfhncaaSx16A
import Derived.Test.YteabdapdlfhncaaSx16S
import Derived.Test.YteabdapdlfhncaaSx16I
import Derived.Test.YteabdapdlfhncaaSx16J
set_option maxRecDepth 20000
set_option linter.unusedVariables false
set_option linter.unusedSimpArgs false
namespace Go.Proofs.Yteabdapdlfhncaa.Sx.FK
open Go Go.SX Go.Proofs
theorem hb6 : hasBody Try.prog 6 = true := by kernel_rfl
theorem ai36 : (Try.prog.info? 36).map (fun i => (i.zero, i.size, i.bytes)) = some (some (.agg #[.int .i64 0, .int .i64 0]), 2, 16) := by kernel_rfl
theorem hb7 : hasBody Try.prog 7 = true := by kernel_rfl
theorem fo24_0 : fo Try.prog 24 0 = some 0 := by kernel_rfl
theorem ty3 : ty Try.prog 3 = some (false, 1) := by kernel_rfl
theorem fo24_1 : fo Try.prog 24 1 = some 1 := by kernel_rfl
theorem fo24_2 : fo Try.prog 24 2 = some 2 := by kernel_rfl
theorem hb8 : hasBody Try.prog 8 = true := by kernel_rfl
theorem hb10 : hasBody Try.prog 10 = true := by kernel_rfl
theorem hb9 : hasBody Try.prog 9 = true := by kernel_rfl
theorem mo : Try.prog.follows .mixedOrders = true := by kernel_rfl
theorem hb11 : hasBody Try.prog 11 = true := by kernel_rfl
theorem hb12 : hasBody Try.prog 12 = true := by kernel_rfl
theorem fo24_3 : fo Try.prog 24 3 = some 3 := by kernel_rfl
theorem hb13 : hasBody Try.prog 13 = true := by kernel_rfl


end Go.Proofs.Yteabdapdlfhncaa.Sx.FK
namespace Go.Proofs.Yteabdapdlfhncaa.Sx
open Go Go.SX Go.Proofs FK





theorem innerBack (A : Option Addr) (c : Nat) (l : List Vis) (q : Int) (i : Int) (j : Int) (k : Int) (S : Nat → Prop) (wf : World) (hA : Fr eVis S wf A l) (h_q : -9223372036854775808 ≤ q ∧ q ≤ 9223372036854775807) (h_i : -9223372036854775808 ≤ i ∧ i ≤ 9223372036854775807) (h_j : -9223372036854775808 ≤ j ∧ j ≤ 9223372036854775807) (h_k : -9223372036854775808 ≤ k ∧ k ≤ 9223372036854775807) :
    TR0 Try.prog 3 [.slice A l.length c, .agg #[.int .i64 q, .int .i64 i, .int .i64 j, .int .i64 k]] [] S wf (fun v_ C_ => v_ = .bool true ∧ C_ = []) := by
  have hl := hA.len
  refine TR.mk Try.func3 rfl Try.ntmps3 rfl rfl (fun w => ?_)
  refine .seq (.region (.cons (st_boxa rfl rfl rfl rfl rfl (fun b1 => .cons (Ev.step (ev_as rfl rfl) rfl rfl rfl (.go (fun _ _ h => h) (.seq ?_)))))))
  refine .seq (.region (.cons (st_callk rfl rfl rfl rfl hb6 rfl .n (awake _ _) (.cons (Ev.step (ev_not rfl rfl) rfl rfl rfl (.go (fun _ _ h => h) (.cond_f rfl ?_)))))))
  refine .skipgo (fun _ _ h => h) (.seq (.seq (.region (.cons (Ev.step (ev_mv rfl rfl) rfl rfl rfl (.cons (Ev.step (ev_len rfl Try.underlying22 rfl) rfl rfl rfl ?_)))))))
  refine .cons (Ev.step (ev_cmp rfl rfl rfl rfl) rfl rfl rfl (.go (fun _ _ h => h) (.condI rfl bD (fun h2 => ?_) (fun h2 => ?_))))
  ·
    exact .seq (.region (.cons (Ev.step (ev_as rfl rfl) rfl rfl rfl (.go (fun _ _ h => h) (.ret (fun _ _ h => h) (ret1 Try.results3 rfl .n ⟨rfl, rfl⟩))))))
  ·
    refine .skipgo (fun _ _ h => h) (.seq (.region (.cons (st_lit eVis (e := 36) (l := []) rfl rfl rfl rfl (by kernel_rfl) rfl rfl (fun w => by kernel_rfl) (fun b3 => .cons (Ev.step (ev_mv rfl rfl) rfl rfl rfl (.cons (st_app0 (E := eVis) (m := l) rfl rfl rfl rfl Try.underlying22 ai36 rfl rfl rfl .h (by first | rfl | omega | simp) (Src.w (Fr.flat hA)) (by (try simp only [List.length_nil, List.length_cons, List.length_append, List.length_set, List.length_singleton, List.length_take, List.length_drop]) <;> omega) rfl (fun v4 => ?_)))))))))
    refine .know (row_len 0 rfl) (fun hv7 => ?_)
    obtain ⟨A5, c6, rfl, hv7_1, hv7_2⟩ := hv7
    unfold maxLen at hv7_2
    refine .cons (st_lend0 rfl rfl rfl rfl hb7 rfl .n (.c .h .n) (fun w hw => new_ A5 c6 l _ _ (Fr.lend hw 0 rfl (by (try simp only [List.length_nil, List.length_cons, List.length_append, List.length_set, List.length_singleton, List.length_take, List.length_drop]) <;> omega)) (by (try simp only [List.length_nil, List.length_cons, List.length_append, List.length_set, List.length_singleton, List.length_take, List.length_drop]) <;> omega)) (fun v_q10 C_q10 q10 => ?_))
    obtain ⟨g8, v9, rfl, rfl⟩ := q10
    show SP _ _ _ _ _ _ ⟨_, _ :: _ :: _ :: _, _, _⟩
    refine .cons (Ev.step (ev_as rfl rfl) rfl rfl rfl (.go (fun _ _ h => h) (.seq (.seq (.region (.cons (Ev.step (ev_fa rfl fo24_0 rfl (r := 0) rfl) rfl rfl rfl ?_)))))))
    refine .cons (Ev.step (ev_ld1 rfl ty3 rfl (At.own1 3 rfl rfl)) rfl rfl rfl (.cons (Ev.step (ev_cv rfl Try.underlying3 Try.underlying28 rfl rfl) rfl rfl rfl (.cons (Ev.step (ev_rem rfl rfl rfl (by omega)) rfl rfl rfl (.go (fun _ _ h => h) (.block (.seq ?_))))))))
    refine .region (.cons (Ev.step (ev_cmp rfl rfl rfl rfl) rfl rfl rfl (.cons (Ev.step (ev_as rfl rfl) rfl rfl rfl (.go (fun _ _ h => h) (.condI rfl bE (fun h11 => ?_) (fun h11 => ?_)))))))
    ·
      refine .seq ?_
      refine SC.draw mo [cel g8 [v9] 42, rw_ eVis 36 (v9) l] [] (.c .h (.c .h .n)) (fun _ _ _ c hc => by cases hc) (fun wf_12 hl_12 hx_12 hR_12 => ?_)
      refine SR.take 0 rfl (by kernel_rfl) (by kernel_rfl) (by kernel_rfl) rfl (fun _ _ _ h => h) rfl rfl rfl (ev_mv rfl rfl) (SR.take 1 rfl (by kernel_rfl) (by kernel_rfl) (by kernel_rfl) rfl (fun _ _ _ h => h) rfl rfl rfl (ev_fa rfl fo24_1 rfl (r := 1) rfl) (SR.take 2 rfl (by kernel_rfl) (by kernel_rfl) (by kernel_rfl) rfl (fun _ _ _ h => h) rfl rfl rfl (ev_ld1 rfl ty3 rfl (At.d (At.lent hR_12 1 rfl rfl))) (SR.take 3 rfl (by kernel_rfl) (by kernel_rfl) (by kernel_rfl) rfl (fun _ _ _ h => h) rfl rfl rfl (ev_fa rfl fo24_2 rfl (r := 2) rfl) (SR.take 4 rfl (by kernel_rfl) (by kernel_rfl) (by kernel_rfl) rfl (fun _ _ _ h => h) rfl rfl rfl (ev_ld1 rfl ty3 rfl (At.d (At.lent hR_12 1 rfl rfl))) (SR.take 6 rfl (by kernel_rfl) (by kernel_rfl) (by kernel_rfl) rfl (fun _ _ _ h => h) rfl rfl rfl (ev_mv rfl rfl) ?_)))))
      refine SR.take 7 rfl (by kernel_rfl) (by kernel_rfl) (by kernel_rfl) rfl (fun _ _ _ h => h) rfl rfl rfl (ev_fa rfl fo24_1 rfl (r := 1) rfl) (SR.take 8 rfl (by kernel_rfl) (by kernel_rfl) (by kernel_rfl) rfl (fun _ _ _ h => h) rfl rfl rfl (ev_ld1 rfl ty3 rfl (At.d (At.lent hR_12 1 rfl rfl))) (SR.take 9 rfl (by kernel_rfl) (by kernel_rfl) (by kernel_rfl) rfl (fun _ _ _ h => h) rfl rfl rfl (ev_fa rfl fo24_2 rfl (r := 2) rfl) (SR.take 10 rfl (by kernel_rfl) (by kernel_rfl) (by kernel_rfl) rfl (fun _ _ _ h => h) rfl rfl rfl (ev_ld1 rfl ty3 rfl (At.d (At.lent hR_12 1 rfl rfl))) (SR.one (j := 5) (by kernel_rfl) rfl (st_call0 rfl rfl rfl rfl hb8 rfl (.c .h (.c .h .n)) (twoopt_ g8 v9 l i j 0 _ _ (by (try simp only [List.length_nil, List.length_cons, List.length_append, List.length_set, List.length_singleton, List.length_take, List.length_drop]) <;> omega) (by omega) (by omega) (by omega)) (fun v_q16 C_q16 q16 => ⟨tt0, ?_⟩))))))
      obtain ⟨r13, w14, m15, p17, rfl, rfl⟩ := q16
      show SR _ _ _ _ _ _ _ _ _ ⟨_, _ :: _ :: _, _, _⟩
      have hlen_ := two_len p17
      refine SR.one (j := 11) (by kernel_rfl) rfl (st_call0 rfl rfl rfl rfl hb8 rfl (.c .h (.c .h .n)) (twoopt_ g8 w14 m15 i j 0 _ _ (by (try simp only [List.length_nil, List.length_cons, List.length_append, List.length_set, List.length_singleton, List.length_take, List.length_drop]) <;> omega) (by omega) (by omega) (by omega)) (fun v_q21 C_q21 q21 => ⟨tt0, ?_⟩))
      obtain ⟨r18, w19, m20, p22, rfl, rfl⟩ := q21
      show SR _ _ _ _ _ _ _ _ _ ⟨_, _ :: _ :: _, _, _⟩
      obtain ⟨rfl, q23⟩ := two_back p17 p22
      replace q23 := Eq.symm q23
      subst q23
      refine SR.take 12 rfl (by kernel_rfl) (by kernel_rfl) (by kernel_rfl) rfl (fun _ _ _ h => h) rfl rfl rfl (ev_bcmp (r := true) rfl Try.underlying4 rfl rfl (by simp [boolB])) (SR.take 13 rfl (by kernel_rfl) (by kernel_rfl) (by kernel_rfl) rfl (fun _ _ _ h => h) rfl rfl rfl (ev_mv rfl rfl) (SR.gtake 14 rfl (by kernel_rfl) (by kernel_rfl) (by kernel_rfl) rfl (fun _ _ _ _ h => h) rfl rfl rfl rfl rfl (fun _ => ev_mv rfl rfl) (SR.gtake 16 rfl (by kernel_rfl) (by kernel_rfl) (by kernel_rfl) rfl (fun _ _ _ _ h => h) rfl rfl rfl rfl rfl (fun _ => ev_mv rfl rfl) (SR.one (j := 15) (by kernel_rfl) rfl (.on rfl rfl rfl (st_call0 rfl rfl rfl rfl hb10 rfl (.c .h (.c .h .n)) (visits_ g8 w19 l _ _ (by (try simp only [List.length_nil, List.length_cons, List.length_append, List.length_set, List.length_singleton, List.length_take, List.length_drop]) <;> omega)) (fun v_q25 C_q25 q25 => ⟨tt0, ?_⟩)))))))
      obtain ⟨u24, rfl, rfl⟩ := q25
      show SR _ _ _ _ _ _ _ _ _ ⟨_, _ :: _ :: _ :: _, _, _⟩
      refine .know (row_len 2 rfl) (fun hv28 => ?_)
      obtain ⟨A26, c27, rfl, hv28_1, hv28_2⟩ := hv28
      unfold maxLen at hv28_2
      exact SR.one (j := 17) (by kernel_rfl) rfl (.on rfl rfl rfl (st_lendk rfl rfl rfl rfl hb9 rfl .n (.c (.t (.t .h)) .n) (fun w hw => same A26 c27 l A c l _ _ (Fr.lend hw 0 rfl (by (try simp only [List.length_nil, List.length_cons, List.length_append, List.length_set, List.length_singleton, List.length_take, List.length_drop]) <;> omega)) (Fr.ext (Fr.ext hA hx_12) hw.lendx)) ⟨tt0, (SR.take 18 rfl (by kernel_rfl) (by kernel_rfl) (by kernel_rfl) rfl (fun _ _ _ h => h) rfl rfl rfl (ev_pickt rfl rfl rfl rfl) (SR.take 19 rfl (by kernel_rfl) (by kernel_rfl) (by kernel_rfl) rfl (fun _ _ _ h => h) rfl rfl rfl (ev_as rfl rfl) (SR.fin (by kernel_rfl) hl_12 hx_12 hR_12 (.c (.c (.c .n))) (SQ.go (fun _ _ h => h) (.ret (fun _ _ h => h) (ret1 Try.results3 rfl .n ⟨(congrArg Value.bool (by simp)), rfl⟩))))))⟩))
    ·
      refine .seq (.region (.cons (Ev.step (ev_cmp rfl rfl rfl rfl) rfl rfl rfl (.cons (Ev.step (ev_as rfl rfl) rfl rfl rfl (.go (fun _ _ h => h) (.condI rfl bE (fun h29 => ?_) (fun h29 => ?_))))))))
      ·
        refine .seq ?_
        refine SC.draw mo [cel g8 [v9] 42, rw_ eVis 36 (v9) l] [] (.c .h (.c .h .n)) (fun _ _ _ c hc => by cases hc) (fun wf_30 hl_30 hx_30 hR_30 => ?_)
        refine SR.take 0 rfl (by kernel_rfl) (by kernel_rfl) (by kernel_rfl) rfl (fun _ _ _ h => h) rfl rfl rfl (ev_mv rfl rfl) (SR.take 1 rfl (by kernel_rfl) (by kernel_rfl) (by kernel_rfl) rfl (fun _ _ _ h => h) rfl rfl rfl (ev_fa rfl fo24_1 rfl (r := 1) rfl) (SR.take 2 rfl (by kernel_rfl) (by kernel_rfl) (by kernel_rfl) rfl (fun _ _ _ h => h) rfl rfl rfl (ev_ld1 rfl ty3 rfl (At.d (At.lent hR_30 1 rfl rfl))) (SR.take 3 rfl (by kernel_rfl) (by kernel_rfl) (by kernel_rfl) rfl (fun _ _ _ h => h) rfl rfl rfl (ev_fa rfl fo24_2 rfl (r := 2) rfl) (SR.take 4 rfl (by kernel_rfl) (by kernel_rfl) (by kernel_rfl) rfl (fun _ _ _ h => h) rfl rfl rfl (ev_ld1 rfl ty3 rfl (At.d (At.lent hR_30 1 rfl rfl))) (SR.take 6 rfl (by kernel_rfl) (by kernel_rfl) (by kernel_rfl) rfl (fun _ _ _ h => h) rfl rfl rfl (ev_mv rfl rfl) ?_)))))
        refine SR.take 7 rfl (by kernel_rfl) (by kernel_rfl) (by kernel_rfl) rfl (fun _ _ _ h => h) rfl rfl rfl (ev_fa rfl fo24_1 rfl (r := 1) rfl) (SR.take 8 rfl (by kernel_rfl) (by kernel_rfl) (by kernel_rfl) rfl (fun _ _ _ h => h) rfl rfl rfl (ev_ld1 rfl ty3 rfl (At.d (At.lent hR_30 1 rfl rfl))) (SR.take 9 rfl (by kernel_rfl) (by kernel_rfl) (by kernel_rfl) rfl (fun _ _ _ h => h) rfl rfl rfl (ev_fa rfl fo24_2 rfl (r := 2) rfl) (SR.take 10 rfl (by kernel_rfl) (by kernel_rfl) (by kernel_rfl) rfl (fun _ _ _ h => h) rfl rfl rfl (ev_ld1 rfl ty3 rfl (At.d (At.lent hR_30 1 rfl rfl))) (SR.one (j := 5) (by kernel_rfl) rfl (st_call0 rfl rfl rfl rfl hb11 rfl (.c .h (.c .h .n)) (exch_ g8 v9 l i j 0 _ _ (by (try simp only [List.length_nil, List.length_cons, List.length_append, List.length_set, List.length_singleton, List.length_take, List.length_drop]) <;> omega) (by omega) (by omega) (by omega)) (fun v_q34 C_q34 q34 => ⟨tt0, ?_⟩))))))
        obtain ⟨r31, w32, m33, p35, rfl, rfl⟩ := q34
        show SR _ _ _ _ _ _ _ _ _ ⟨_, _ :: _ :: _, _, _⟩
        have hlen_ := ex_len p35
        refine SR.one (j := 11) (by kernel_rfl) rfl (st_call0 rfl rfl rfl rfl hb11 rfl (.c .h (.c .h .n)) (exch_ g8 w32 m33 i j 0 _ _ (by (try simp only [List.length_nil, List.length_cons, List.length_append, List.length_set, List.length_singleton, List.length_take, List.length_drop]) <;> omega) (by omega) (by omega) (by omega)) (fun v_q39 C_q39 q39 => ⟨tt0, ?_⟩))
        obtain ⟨r36, w37, m38, p40, rfl, rfl⟩ := q39
        show SR _ _ _ _ _ _ _ _ _ ⟨_, _ :: _ :: _, _, _⟩
        obtain ⟨rfl, q41⟩ := ex_back p35 p40
        replace q41 := Eq.symm q41
        subst q41
        refine SR.take 12 rfl (by kernel_rfl) (by kernel_rfl) (by kernel_rfl) rfl (fun _ _ _ h => h) rfl rfl rfl (ev_bcmp (r := true) rfl Try.underlying4 rfl rfl (by simp [boolB])) (SR.take 13 rfl (by kernel_rfl) (by kernel_rfl) (by kernel_rfl) rfl (fun _ _ _ h => h) rfl rfl rfl (ev_mv rfl rfl) (SR.gtake 14 rfl (by kernel_rfl) (by kernel_rfl) (by kernel_rfl) rfl (fun _ _ _ _ h => h) rfl rfl rfl rfl rfl (fun _ => ev_mv rfl rfl) (SR.gtake 16 rfl (by kernel_rfl) (by kernel_rfl) (by kernel_rfl) rfl (fun _ _ _ _ h => h) rfl rfl rfl rfl rfl (fun _ => ev_mv rfl rfl) (SR.one (j := 15) (by kernel_rfl) rfl (.on rfl rfl rfl (st_call0 rfl rfl rfl rfl hb10 rfl (.c .h (.c .h .n)) (visits_ g8 w37 l _ _ (by (try simp only [List.length_nil, List.length_cons, List.length_append, List.length_set, List.length_singleton, List.length_take, List.length_drop]) <;> omega)) (fun v_q43 C_q43 q43 => ⟨tt0, ?_⟩)))))))
        obtain ⟨u42, rfl, rfl⟩ := q43
        show SR _ _ _ _ _ _ _ _ _ ⟨_, _ :: _ :: _ :: _, _, _⟩
        refine .know (row_len 2 rfl) (fun hv46 => ?_)
        obtain ⟨A44, c45, rfl, hv46_1, hv46_2⟩ := hv46
        unfold maxLen at hv46_2
        exact SR.one (j := 17) (by kernel_rfl) rfl (.on rfl rfl rfl (st_lendk rfl rfl rfl rfl hb9 rfl .n (.c (.t (.t .h)) .n) (fun w hw => same A44 c45 l A c l _ _ (Fr.lend hw 0 rfl (by (try simp only [List.length_nil, List.length_cons, List.length_append, List.length_set, List.length_singleton, List.length_take, List.length_drop]) <;> omega)) (Fr.ext (Fr.ext hA hx_30) hw.lendx)) ⟨tt0, (SR.take 18 rfl (by kernel_rfl) (by kernel_rfl) (by kernel_rfl) rfl (fun _ _ _ h => h) rfl rfl rfl (ev_pickt rfl rfl rfl rfl) (SR.take 19 rfl (by kernel_rfl) (by kernel_rfl) (by kernel_rfl) rfl (fun _ _ _ h => h) rfl rfl rfl (ev_as rfl rfl) (SR.fin (by kernel_rfl) hl_30 hx_30 hR_30 (.c (.c (.c .n))) (SQ.go (fun _ _ h => h) (.ret (fun _ _ h => h) (ret1 Try.results3 rfl .n ⟨(congrArg Value.bool (by simp)), rfl⟩))))))⟩))
      ·
        refine .seq (.region (.cons (Ev.step (ev_cmp rfl rfl rfl rfl) rfl rfl rfl (.cons (Ev.step (ev_as rfl rfl) rfl rfl rfl (.go (fun _ _ h => h) (.condI rfl bE (fun h47 => ?_) (fun h47 => ?_))))))))
        ·
          refine .seq ?_
          refine SC.draw mo [cel g8 [v9] 42, rw_ eVis 36 (v9) l] [] (.c .h (.c .h .n)) (fun _ _ _ c hc => by cases hc) (fun wf_48 hl_48 hx_48 hR_48 => ?_)
          refine SR.take 0 rfl (by kernel_rfl) (by kernel_rfl) (by kernel_rfl) rfl (fun _ _ _ h => h) rfl rfl rfl (ev_mv rfl rfl) (SR.take 1 rfl (by kernel_rfl) (by kernel_rfl) (by kernel_rfl) rfl (fun _ _ _ h => h) rfl rfl rfl (ev_fa rfl fo24_1 rfl (r := 1) rfl) (SR.take 2 rfl (by kernel_rfl) (by kernel_rfl) (by kernel_rfl) rfl (fun _ _ _ h => h) rfl rfl rfl (ev_ld1 rfl ty3 rfl (At.d (At.lent hR_48 1 rfl rfl))) (SR.take 3 rfl (by kernel_rfl) (by kernel_rfl) (by kernel_rfl) rfl (fun _ _ _ h => h) rfl rfl rfl (ev_fa rfl fo24_2 rfl (r := 2) rfl) (SR.take 4 rfl (by kernel_rfl) (by kernel_rfl) (by kernel_rfl) rfl (fun _ _ _ h => h) rfl rfl rfl (ev_ld1 rfl ty3 rfl (At.d (At.lent hR_48 1 rfl rfl))) (SR.take 6 rfl (by kernel_rfl) (by kernel_rfl) (by kernel_rfl) rfl (fun _ _ _ h => h) rfl rfl rfl (ev_mv rfl rfl) ?_)))))
          refine SR.take 7 rfl (by kernel_rfl) (by kernel_rfl) (by kernel_rfl) rfl (fun _ _ _ h => h) rfl rfl rfl (ev_fa rfl fo24_2 rfl (r := 2) rfl) (SR.take 8 rfl (by kernel_rfl) (by kernel_rfl) (by kernel_rfl) rfl (fun _ _ _ h => h) rfl rfl rfl (ev_ld1 rfl ty3 rfl (At.d (At.lent hR_48 1 rfl rfl))) (SR.take 9 rfl (by kernel_rfl) (by kernel_rfl) (by kernel_rfl) rfl (fun _ _ _ h => h) rfl rfl rfl (ev_fa rfl fo24_1 rfl (r := 1) rfl) (SR.take 10 rfl (by kernel_rfl) (by kernel_rfl) (by kernel_rfl) rfl (fun _ _ _ h => h) rfl rfl rfl (ev_ld1 rfl ty3 rfl (At.d (At.lent hR_48 1 rfl rfl))) (SR.one (j := 5) (by kernel_rfl) rfl (st_call0 rfl rfl rfl rfl hb12 rfl (.c .h (.c .h .n)) (reloc_ g8 v9 l i j 0 _ _ (by (try simp only [List.length_nil, List.length_cons, List.length_append, List.length_set, List.length_singleton, List.length_take, List.length_drop]) <;> omega) (by omega) (by omega) (by omega)) (fun v_q52 C_q52 q52 => ⟨tt0, ?_⟩))))))
          obtain ⟨r49, w50, m51, p53, rfl, rfl⟩ := q52
          show SR _ _ _ _ _ _ _ _ _ ⟨_, _ :: _ :: _, _, _⟩
          have hlen_ := or_len p53
          refine SR.one (j := 11) (by kernel_rfl) rfl (st_call0 rfl rfl rfl rfl hb12 rfl (.c .h (.c .h .n)) (reloc_ g8 w50 m51 j i 0 _ _ (by (try simp only [List.length_nil, List.length_cons, List.length_append, List.length_set, List.length_singleton, List.length_take, List.length_drop]) <;> omega) (by omega) (by omega) (by omega)) (fun v_q57 C_q57 q57 => ⟨tt0, ?_⟩))
          obtain ⟨r54, w55, m56, p58, rfl, rfl⟩ := q57
          show SR _ _ _ _ _ _ _ _ _ ⟨_, _ :: _ :: _, _, _⟩
          obtain ⟨rfl, q59⟩ := or_back p53 p58
          replace q59 := Eq.symm q59
          subst q59
          refine SR.take 12 rfl (by kernel_rfl) (by kernel_rfl) (by kernel_rfl) rfl (fun _ _ _ h => h) rfl rfl rfl (ev_bcmp (r := true) rfl Try.underlying4 rfl rfl (by simp [boolB])) (SR.take 13 rfl (by kernel_rfl) (by kernel_rfl) (by kernel_rfl) rfl (fun _ _ _ h => h) rfl rfl rfl (ev_mv rfl rfl) (SR.gtake 14 rfl (by kernel_rfl) (by kernel_rfl) (by kernel_rfl) rfl (fun _ _ _ _ h => h) rfl rfl rfl rfl rfl (fun _ => ev_mv rfl rfl) (SR.gtake 16 rfl (by kernel_rfl) (by kernel_rfl) (by kernel_rfl) rfl (fun _ _ _ _ h => h) rfl rfl rfl rfl rfl (fun _ => ev_mv rfl rfl) (SR.one (j := 15) (by kernel_rfl) rfl (.on rfl rfl rfl (st_call0 rfl rfl rfl rfl hb10 rfl (.c .h (.c .h .n)) (visits_ g8 w55 l _ _ (by (try simp only [List.length_nil, List.length_cons, List.length_append, List.length_set, List.length_singleton, List.length_take, List.length_drop]) <;> omega)) (fun v_q61 C_q61 q61 => ⟨tt0, ?_⟩)))))))
          obtain ⟨u60, rfl, rfl⟩ := q61
          show SR _ _ _ _ _ _ _ _ _ ⟨_, _ :: _ :: _ :: _, _, _⟩
          refine .know (row_len 2 rfl) (fun hv64 => ?_)
          obtain ⟨A62, c63, rfl, hv64_1, hv64_2⟩ := hv64
          unfold maxLen at hv64_2
          exact SR.one (j := 17) (by kernel_rfl) rfl (.on rfl rfl rfl (st_lendk rfl rfl rfl rfl hb9 rfl .n (.c (.t (.t .h)) .n) (fun w hw => same A62 c63 l A c l _ _ (Fr.lend hw 0 rfl (by (try simp only [List.length_nil, List.length_cons, List.length_append, List.length_set, List.length_singleton, List.length_take, List.length_drop]) <;> omega)) (Fr.ext (Fr.ext hA hx_48) hw.lendx)) ⟨tt0, (SR.take 18 rfl (by kernel_rfl) (by kernel_rfl) (by kernel_rfl) rfl (fun _ _ _ h => h) rfl rfl rfl (ev_pickt rfl rfl rfl rfl) (SR.take 19 rfl (by kernel_rfl) (by kernel_rfl) (by kernel_rfl) rfl (fun _ _ _ h => h) rfl rfl rfl (ev_as rfl rfl) (SR.fin (by kernel_rfl) hl_48 hx_48 hR_48 (.c (.c (.c .n))) (SQ.go (fun _ _ h => h) (.ret (fun _ _ h => h) (ret1 Try.results3 rfl .n ⟨(congrArg Value.bool (by simp)), rfl⟩))))))⟩))
        ·
          refine .skipgo (fun _ _ h => h) (.seq ?_)
          refine SC.draw mo [cel g8 [v9] 42, rw_ eVis 36 (v9) l] [] (.c .h (.c .h .n)) (fun _ _ _ c hc => by cases hc) (fun wf_65 hl_65 hx_65 hR_65 => ?_)
          refine SR.take 0 rfl (by kernel_rfl) (by kernel_rfl) (by kernel_rfl) rfl (fun _ _ _ h => h) rfl rfl rfl (ev_mv rfl rfl) (SR.take 1 rfl (by kernel_rfl) (by kernel_rfl) (by kernel_rfl) rfl (fun _ _ _ h => h) rfl rfl rfl (ev_fa rfl fo24_1 rfl (r := 1) rfl) (SR.take 2 rfl (by kernel_rfl) (by kernel_rfl) (by kernel_rfl) rfl (fun _ _ _ h => h) rfl rfl rfl (ev_ld1 rfl ty3 rfl (At.d (At.lent hR_65 1 rfl rfl))) (SR.take 3 rfl (by kernel_rfl) (by kernel_rfl) (by kernel_rfl) rfl (fun _ _ _ h => h) rfl rfl rfl (ev_fa rfl fo24_2 rfl (r := 2) rfl) (SR.take 4 rfl (by kernel_rfl) (by kernel_rfl) (by kernel_rfl) rfl (fun _ _ _ h => h) rfl rfl rfl (ev_ld1 rfl ty3 rfl (At.d (At.lent hR_65 1 rfl rfl))) (SR.take 5 rfl (by kernel_rfl) (by kernel_rfl) (by kernel_rfl) rfl (fun _ _ _ h => h) rfl rfl rfl (ev_fa rfl fo24_3 rfl (r := 3) rfl) ?_)))))
          refine SR.take 6 rfl (by kernel_rfl) (by kernel_rfl) (by kernel_rfl) rfl (fun _ _ _ h => h) rfl rfl rfl (ev_ld1 rfl ty3 rfl (At.d (At.lent hR_65 1 rfl rfl))) (SR.take 8 rfl (by kernel_rfl) (by kernel_rfl) (by kernel_rfl) rfl (fun _ _ _ h => h) rfl rfl rfl (ev_mv rfl rfl) (SR.take 9 rfl (by kernel_rfl) (by kernel_rfl) (by kernel_rfl) rfl (fun _ _ _ h => h) rfl rfl rfl (ev_fa rfl fo24_2 rfl (r := 2) rfl) (SR.take 10 rfl (by kernel_rfl) (by kernel_rfl) (by kernel_rfl) rfl (fun _ _ _ h => h) rfl rfl rfl (ev_ld1 rfl ty3 rfl (At.d (At.lent hR_65 1 rfl rfl))) (SR.take 11 rfl (by kernel_rfl) (by kernel_rfl) (by kernel_rfl) rfl (fun _ _ _ h => h) rfl rfl rfl (ev_fa rfl fo24_1 rfl (r := 1) rfl) (SR.take 12 rfl (by kernel_rfl) (by kernel_rfl) (by kernel_rfl) rfl (fun _ _ _ h => h) rfl rfl rfl (ev_ld1 rfl ty3 rfl (At.d (At.lent hR_65 1 rfl rfl))) ?_)))))
          refine SR.take 13 rfl (by kernel_rfl) (by kernel_rfl) (by kernel_rfl) rfl (fun _ _ _ h => h) rfl rfl rfl (ev_fa rfl fo24_3 rfl (r := 3) rfl) (SR.take 14 rfl (by kernel_rfl) (by kernel_rfl) (by kernel_rfl) rfl (fun _ _ _ h => h) rfl rfl rfl (ev_ld1 rfl ty3 rfl (At.d (At.lent hR_65 1 rfl rfl))) (SR.one (j := 7) (by kernel_rfl) rfl (st_call0 rfl rfl rfl rfl hb13 rfl (.c .h (.c .h .n)) (oropt_ g8 v9 l i j k _ _ (by (try simp only [List.length_nil, List.length_cons, List.length_append, List.length_set, List.length_singleton, List.length_take, List.length_drop]) <;> omega) (by omega) (by omega) (by omega)) (fun v_q69 C_q69 q69 => ⟨tt0, ?_⟩))))
          obtain ⟨r66, w67, m68, p70, rfl, rfl⟩ := q69
          show SR _ _ _ _ _ _ _ _ _ ⟨_, _ :: _ :: _, _, _⟩
          have hlen_ := or_len p70
          refine SR.one (j := 15) (by kernel_rfl) rfl (st_call0 rfl rfl rfl rfl hb13 rfl (.c .h (.c .h .n)) (oropt_ g8 w67 m68 j i k _ _ (by (try simp only [List.length_nil, List.length_cons, List.length_append, List.length_set, List.length_singleton, List.length_take, List.length_drop]) <;> omega) (by omega) (by omega) (by omega)) (fun v_q74 C_q74 q74 => ⟨tt0, ?_⟩))
          obtain ⟨r71, w72, m73, p75, rfl, rfl⟩ := q74
          show SR _ _ _ _ _ _ _ _ _ ⟨_, _ :: _ :: _, _, _⟩
          obtain ⟨rfl, q76⟩ := or_back p70 p75
          replace q76 := Eq.symm q76
          subst q76
          refine SR.take 16 rfl (by kernel_rfl) (by kernel_rfl) (by kernel_rfl) rfl (fun _ _ _ h => h) rfl rfl rfl (ev_bcmp (r := true) rfl Try.underlying4 rfl rfl (by simp [boolB])) (SR.take 17 rfl (by kernel_rfl) (by kernel_rfl) (by kernel_rfl) rfl (fun _ _ _ h => h) rfl rfl rfl (ev_mv rfl rfl) (SR.gtake 18 rfl (by kernel_rfl) (by kernel_rfl) (by kernel_rfl) rfl (fun _ _ _ _ h => h) rfl rfl rfl rfl rfl (fun _ => ev_mv rfl rfl) (SR.gtake 20 rfl (by kernel_rfl) (by kernel_rfl) (by kernel_rfl) rfl (fun _ _ _ _ h => h) rfl rfl rfl rfl rfl (fun _ => ev_mv rfl rfl) (SR.one (j := 19) (by kernel_rfl) rfl (.on rfl rfl rfl (st_call0 rfl rfl rfl rfl hb10 rfl (.c .h (.c .h .n)) (visits_ g8 w72 l _ _ (by (try simp only [List.length_nil, List.length_cons, List.length_append, List.length_set, List.length_singleton, List.length_take, List.length_drop]) <;> omega)) (fun v_q78 C_q78 q78 => ⟨tt0, ?_⟩)))))))
          obtain ⟨u77, rfl, rfl⟩ := q78
          show SR _ _ _ _ _ _ _ _ _ ⟨_, _ :: _ :: _ :: _, _, _⟩
          refine .know (row_len 2 rfl) (fun hv81 => ?_)
          obtain ⟨A79, c80, rfl, hv81_1, hv81_2⟩ := hv81
          unfold maxLen at hv81_2
          exact SR.one (j := 21) (by kernel_rfl) rfl (.on rfl rfl rfl (st_lendk rfl rfl rfl rfl hb9 rfl .n (.c (.t (.t .h)) .n) (fun w hw => same A79 c80 l A c l _ _ (Fr.lend hw 0 rfl (by (try simp only [List.length_nil, List.length_cons, List.length_append, List.length_set, List.length_singleton, List.length_take, List.length_drop]) <;> omega)) (Fr.ext (Fr.ext hA hx_65) hw.lendx)) ⟨tt0, (SR.take 22 rfl (by kernel_rfl) (by kernel_rfl) (by kernel_rfl) rfl (fun _ _ _ h => h) rfl rfl rfl (ev_pickt rfl rfl rfl rfl) (SR.take 23 rfl (by kernel_rfl) (by kernel_rfl) (by kernel_rfl) rfl (fun _ _ _ h => h) rfl rfl rfl (ev_as rfl rfl) (SR.fin (by kernel_rfl) hl_65 hx_65 hR_65 (.c (.c (.c .n))) (SQ.go (fun _ _ h => h) (.ret (fun _ _ h => h) (ret1 Try.results3 rfl .n ⟨(congrArg Value.bool (by simp)), rfl⟩))))))⟩))

end Go.Proofs.Yteabdapdlfhncaa.Sx
