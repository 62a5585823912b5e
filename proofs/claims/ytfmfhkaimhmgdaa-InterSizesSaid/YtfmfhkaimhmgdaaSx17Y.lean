import Derived.Test.YtfmfhkaimhmgdaaProg
import Derived.Test.YtfmfhkaimhmgdaaSxGrow
import Derived.Test.YtfmfhkaimhmgdaaSx17A
import Derived.Test.YtfmfhkaimhmgdaaSx17S
import Derived.Test.YtfmfhkaimhmgdaaSx17I
import Derived.Test.YtfmfhkaimhmgdaaSx17J
import Derived.Test.YtfmfhkaimhmgdaaSx17K
import Derived.Test.YtfmfhkaimhmgdaaSx17L
import Derived.Test.YtfmfhkaimhmgdaaSx17N
import Derived.Test.YtfmfhkaimhmgdaaSx17W
import Derived.Test.YtfmfhkaimhmgdaaSx17X
set_option maxRecDepth 20000
set_option linter.unusedVariables false
set_option linter.unusedSimpArgs false
namespace Go.Proofs.Ytfmfhkaimhmgdaa.Sx.FY
open Go Go.SX Go.Proofs
theorem hb9 : hasBody Try.prog 9 = true := by kernel_rfl
theorem ai44 : (Try.prog.info? 44).map (fun i => (i.zero, i.size, i.bytes)) = some (some (.agg #[.int .i64 0, .int .i64 0]), 2, 16) := by kernel_rfl
theorem hb10 : hasBody Try.prog 10 = true := by kernel_rfl
theorem fo24_0 : fo Try.prog 24 0 = some 0 := by kernel_rfl
theorem ty3 : ty Try.prog 3 = some (false, 1) := by kernel_rfl
theorem fo24_1 : fo Try.prog 24 1 = some 1 := by kernel_rfl
theorem fo24_2 : fo Try.prog 24 2 = some 2 := by kernel_rfl
theorem hb16 : hasBody Try.prog 16 = true := by kernel_rfl
theorem mo : Try.prog.follows .mixedOrders = true := by kernel_rfl
theorem hb12 : hasBody Try.prog 12 = true := by kernel_rfl
theorem hb14 : hasBody Try.prog 14 = true := by kernel_rfl
theorem hb17 : hasBody Try.prog 17 = true := by kernel_rfl
theorem hb18 : hasBody Try.prog 18 = true := by kernel_rfl


end Go.Proofs.Ytfmfhkaimhmgdaa.Sx.FY
namespace Go.Proofs.Ytfmfhkaimhmgdaa.Sx
open Go Go.SX Go.Proofs FY





theorem interBack (A : Option Addr) (c : Nat) (a : List Vis) (B : Option Addr) (d : Nat) (b : List Vis) (q : Int) (i : Int) (j : Int) (k : Int) (S : Nat → Prop) (wf : World) (hA : Fr eVis S wf A a) (hB : Fr eVis S wf B b) (h_q : -9223372036854775808 ≤ q ∧ q ≤ 9223372036854775807) (h_i : -9223372036854775808 ≤ i ∧ i ≤ 9223372036854775807) (h_j : -9223372036854775808 ≤ j ∧ j ≤ 9223372036854775807) (h_k : -9223372036854775808 ≤ k ∧ k ≤ 9223372036854775807) :
    TR0 Try.prog 6 [.slice A a.length c, .slice B b.length d, .agg #[.int .i64 q, .int .i64 i, .int .i64 j, .int .i64 k]] [] S wf (fun v_ C_ => v_ = .bool true ∧ C_ = []) := by
  have hla := hA.len
  have hlb := hB.len
  refine TR.mk Try.func6 rfl Try.ntmps6 rfl rfl (fun w => ?_)
  refine .seq (.region (.cons (st_boxa rfl rfl rfl rfl rfl (fun b1 => .cons (Ev.step (ev_as rfl rfl) rfl rfl rfl (.go (fun _ _ h => h) (.seq ?_)))))))
  refine .seq (.region (.cons (st_callk rfl rfl rfl rfl hb9 rfl .n (awake _ _) (.cons (Ev.step (ev_not rfl rfl) rfl rfl rfl (.go (fun _ _ h => h) (.cond_f rfl ?_)))))))
  refine .skipgo (fun _ _ h => h) (.seq (.seq (.region (.cons (Ev.step (ev_mv rfl rfl) rfl rfl rfl (.cons (Ev.step (ev_len rfl Try.underlying22 rfl) rfl rfl rfl ?_)))))))
  refine .cons (Ev.step (ev_cmp rfl rfl rfl rfl) rfl rfl rfl (.cons (Ev.step (ev_mv rfl rfl) rfl rfl rfl (.cons (Ev.gstep (fun _ => ev_mv rfl rfl) rfl rfl rfl rfl rfl (.cons (Ev.gstep (fun hb => ev_len rfl Try.underlying22 (lkg rfl hb)) rfl rfl rfl rfl rfl (.cons (Ev.gstep (fun hb => ev_cmp rfl (lkg rfl hb) rfl rfl) rfl rfl rfl rfl rfl (.cons (Ev.step (ev_or rfl rfl rfl rfl) rfl rfl rfl ?_)))))))))))
  refine .go (fun _ _ h => h) (.condI rfl (bO bD bD) (fun h2 => ?_) (fun h2 => ?_))
  ·
    exact .seq (.region (.cons (Ev.step (ev_as rfl rfl) rfl rfl rfl (.go (fun _ _ h => h) (.ret (fun _ _ h => h) (ret1 Try.results6 rfl .n ⟨rfl, rfl⟩))))))
  ·
    refine .skipgo (fun _ _ h => h) (.seq (.region (.cons (st_lit eVis (e := 44) (l := []) rfl rfl rfl rfl (by kernel_rfl) rfl rfl (fun w => by kernel_rfl) (fun b3 => .cons (Ev.step (ev_mv rfl rfl) rfl rfl rfl (.cons (st_app0 (E := eVis) (m := a) rfl rfl rfl rfl Try.underlying22 ai44 rfl rfl rfl .h (by first | rfl | omega | simp) (Src.w (Fr.flat hA)) (by (try simp only [List.length_nil, List.length_cons, List.length_append, List.length_set, List.length_singleton, List.length_take, List.length_drop, List.length_reverse]) <;> omega) rfl (fun v4 => ?_)))))))))
    refine .cons (st_lit eVis (e := 44) (l := []) rfl rfl rfl rfl (by kernel_rfl) rfl rfl (fun w => by kernel_rfl) (fun b5 => .cons (Ev.step (ev_mv rfl rfl) rfl rfl rfl (.cons (st_app0 (E := eVis) (m := b) rfl rfl rfl rfl Try.underlying22 ai44 rfl rfl rfl .h (by first | rfl | omega | simp) (Src.w (Fr.flat hB)) (by (try simp only [List.length_nil, List.length_cons, List.length_append, List.length_set, List.length_singleton, List.length_take, List.length_drop, List.length_reverse]) <;> omega) rfl (fun v6 => ?_))))))
    refine .know (row_len 1 rfl) (fun hv9 => ?_)
    obtain ⟨A7, c8, rfl, hv9_1, hv9_2⟩ := hv9
    unfold maxLen at hv9_2
    refine .know (row_len 0 rfl) (fun hv12 => ?_)
    obtain ⟨A10, c11, rfl, hv12_1, hv12_2⟩ := hv12
    unfold maxLen at hv12_2
    refine .cons (st_lend0 rfl rfl rfl rfl hb10 rfl .n (.c (.t .h) (.c .h .n)) (fun w_ hw => new_ A7 c8 a A10 c11 b _ _ (Fr.lend hw 0 rfl (by (try simp only [List.length_nil, List.length_cons, List.length_append, List.length_set, List.length_singleton, List.length_take, List.length_drop, List.length_reverse]) <;> omega)) (Fr.lend hw 1 rfl (by (try simp only [List.length_nil, List.length_cons, List.length_append, List.length_set, List.length_singleton, List.length_take, List.length_drop, List.length_reverse]) <;> omega)) (by (try simp only [List.length_nil, List.length_cons, List.length_append, List.length_set, List.length_singleton, List.length_take, List.length_drop, List.length_reverse]) <;> omega) (by (try simp only [List.length_nil, List.length_cons, List.length_append, List.length_set, List.length_singleton, List.length_take, List.length_drop, List.length_reverse]) <;> omega)) (fun v_q16 C_q16 q16 => ?_))
    obtain ⟨g13, v14, w15, rfl, rfl⟩ := q16
    show SP _ _ _ _ _ _ ⟨_, _ :: _ :: _ :: _ :: _ :: _, _, _⟩
    refine .cons (Ev.step (ev_as rfl rfl) rfl rfl rfl (.go (fun _ _ h => h) (.seq (.region (.cons (Ev.step (ev_as rfl rfl) rfl rfl rfl (.cons (Ev.step (ev_as rfl rfl) rfl rfl rfl ?_))))))))
    refine .go (fun _ _ h => h) (.seq (.seq (.region (.cons (Ev.step (ev_fa rfl fo24_0 rfl (r := 0) rfl) rfl rfl rfl (.cons (Ev.step (ev_ld1 rfl ty3 rfl (At.own1 5 rfl rfl)) rfl rfl rfl ?_)))))))
    refine .cons (Ev.step (ev_cv rfl Try.underlying3 Try.underlying28 rfl rfl) rfl rfl rfl (.cons (Ev.step (ev_rem rfl rfl rfl (by omega)) rfl rfl rfl (.go (fun _ _ h => h) (.block (.seq (.region ?_)))))))
    refine .cons (Ev.step (ev_cmp rfl rfl rfl rfl) rfl rfl rfl (.cons (Ev.step (ev_as rfl rfl) rfl rfl rfl (.go (fun _ _ h => h) (.condI rfl bE (fun h17 => ?_) (fun h17 => ?_))))))
    ·
      refine SC.draw mo [cel g13 [v14, w15] 49, rw_ eVis 44 (v14) a, rw_ eVis 44 (w15) b] [] (.c .h (.c .h (.c .h .n))) (fun _ _ _ c hc => by cases hc) (fun wf_18 hl_18 hx_18 hR_18 => ?_)
      refine SR.take 0 rfl (by kernel_rfl) (by kernel_rfl) (by kernel_rfl) rfl (fun _ _ _ h => h) rfl rfl rfl (ev_mv rfl rfl) (SR.take 1 rfl (by kernel_rfl) (by kernel_rfl) (by kernel_rfl) rfl (fun _ _ _ h => h) rfl rfl rfl (ev_fa rfl fo24_1 rfl (r := 1) rfl) (SR.take 2 rfl (by kernel_rfl) (by kernel_rfl) (by kernel_rfl) rfl (fun _ _ _ h => h) rfl rfl rfl (ev_ld1 rfl ty3 rfl (At.d (At.lent hR_18 2 rfl rfl))) (SR.take 3 rfl (by kernel_rfl) (by kernel_rfl) (by kernel_rfl) rfl (fun _ _ _ h => h) rfl rfl rfl (ev_fa rfl fo24_2 rfl (r := 2) rfl) (SR.take 4 rfl (by kernel_rfl) (by kernel_rfl) (by kernel_rfl) rfl (fun _ _ _ h => h) rfl rfl rfl (ev_ld1 rfl ty3 rfl (At.d (At.lent hR_18 2 rfl rfl))) (SR.take 6 rfl (by kernel_rfl) (by kernel_rfl) (by kernel_rfl) rfl (fun _ _ _ h => h) rfl rfl rfl (ev_mv rfl rfl) ?_)))))
      refine SR.take 7 rfl (by kernel_rfl) (by kernel_rfl) (by kernel_rfl) rfl (fun _ _ _ h => h) rfl rfl rfl (ev_fa rfl fo24_1 rfl (r := 1) rfl) (SR.take 8 rfl (by kernel_rfl) (by kernel_rfl) (by kernel_rfl) rfl (fun _ _ _ h => h) rfl rfl rfl (ev_ld1 rfl ty3 rfl (At.d (At.lent hR_18 2 rfl rfl))) (SR.take 9 rfl (by kernel_rfl) (by kernel_rfl) (by kernel_rfl) rfl (fun _ _ _ h => h) rfl rfl rfl (ev_fa rfl fo24_2 rfl (r := 2) rfl) (SR.take 10 rfl (by kernel_rfl) (by kernel_rfl) (by kernel_rfl) rfl (fun _ _ _ h => h) rfl rfl rfl (ev_ld1 rfl ty3 rfl (At.d (At.lent hR_18 2 rfl rfl))) (SR.one (j := 5) (by kernel_rfl) rfl (st_call0 rfl rfl rfl rfl hb16 rfl (.c .h (.c .h (.c .h .n))) (exch_ g13 v14 w15 a b i j 0 _ _ (by (try simp only [List.length_nil, List.length_cons, List.length_append, List.length_set, List.length_singleton, List.length_take, List.length_drop, List.length_reverse]) <;> omega) (by (try simp only [List.length_nil, List.length_cons, List.length_append, List.length_set, List.length_singleton, List.length_take, List.length_drop, List.length_reverse]) <;> omega) (by omega) (by omega) (by omega)) (fun v_q24 C_q24 q24 => ⟨tt0, ?_⟩))))))
      obtain ⟨r19, x20, y21, p22, q23, p25, rfl, rfl⟩ := q24
      show SR _ _ _ _ _ _ _ _ _ ⟨_, _ :: _ :: _ :: _, _, _⟩
      have hlen_ := ex2_len p25
      refine SR.one (j := 11) (by kernel_rfl) rfl (st_call0 rfl rfl rfl rfl hb16 rfl (.c .h (.c .h (.c .h .n))) (exch_ g13 x20 y21 p22 q23 i j 0 _ _ (by (try simp only [List.length_nil, List.length_cons, List.length_append, List.length_set, List.length_singleton, List.length_take, List.length_drop, List.length_reverse]) <;> omega) (by (try simp only [List.length_nil, List.length_cons, List.length_append, List.length_set, List.length_singleton, List.length_take, List.length_drop, List.length_reverse]) <;> omega) (by omega) (by omega) (by omega)) (fun v_q31 C_q31 q31 => ⟨tt0, ?_⟩))
      obtain ⟨r26, x27, y28, p29, q30, p32, rfl, rfl⟩ := q31
      show SR _ _ _ _ _ _ _ _ _ ⟨_, _ :: _ :: _ :: _, _, _⟩
      obtain ⟨rfl, q33, q34⟩ := ex2_back p25 p32
      replace q33 := Eq.symm q33
      replace q34 := Eq.symm q34
      subst q33
      subst q34
      refine SR.take 12 rfl (by kernel_rfl) (by kernel_rfl) (by kernel_rfl) rfl (fun _ _ _ h => h) rfl rfl rfl (ev_as rfl rfl) (SR.take 13 rfl (by kernel_rfl) (by kernel_rfl) (by kernel_rfl) rfl (fun _ _ _ h => h) rfl rfl rfl (ev_as rfl rfl) (SR.fin (by kernel_rfl) hl_18 hx_18 hR_18 (.c (.c (.c .n))) (SQ.go (fun _ _ h => h) (.seq (.region ?_)))))
      refine .cons (Ev.step (ev_mv rfl rfl) rfl rfl rfl (.cons (st_call0 rfl rfl rfl rfl hb12 rfl (.c .h (.c .h (.c .h .n))) (visits_ g13 x27 y28 a b _ _ (by (try simp only [List.length_nil, List.length_cons, List.length_append, List.length_set, List.length_singleton, List.length_take, List.length_drop, List.length_reverse]) <;> omega) (by (try simp only [List.length_nil, List.length_cons, List.length_append, List.length_set, List.length_singleton, List.length_take, List.length_drop, List.length_reverse]) <;> omega)) (fun v_q37 C_q37 q37 => ?_))))
      obtain ⟨x35, y36, rfl, rfl⟩ := q37
      show SP _ _ _ _ _ _ ⟨_, _ :: _ :: _ :: _ :: _ :: _, _, _⟩
      refine .cons (Ev.step (ev_mv rfl rfl) rfl rfl rfl (.cons (Ev.step (ev_ext rfl rfl rfl) rfl rfl rfl (.cons (Ev.step (ev_ext rfl rfl rfl) rfl rfl rfl (.cons (Ev.step (ev_as rfl rfl) rfl rfl rfl (.cons (Ev.step (ev_as rfl rfl) rfl rfl rfl (.go (fun _ _ h => h) ?_))))))))))
      refine .seq (.region (.cons (Ev.step (ev_mv rfl rfl) rfl rfl rfl (.cons (Ev.step (ev_mv rfl rfl) rfl rfl rfl (.cons (Ev.step (ev_bcmp (r := true) rfl Try.underlying4 rfl rfl (by simp [boolB])) rfl rfl rfl (.cons (Ev.step (ev_mv rfl rfl) rfl rfl rfl ?_)))))))))
      refine .cons (.on rfl rfl rfl (Ev.step (ev_mv rfl rfl) rfl rfl rfl (.cons (.on rfl rfl rfl (Ev.step (ev_mv rfl rfl) rfl rfl rfl ?_)))))
      refine .know (row_len 3 rfl) (fun hv40 => ?_)
      obtain ⟨A38, c39, rfl, hv40_1, hv40_2⟩ := hv40
      unfold maxLen at hv40_2
      refine .cons (.on rfl rfl rfl (st_lendk rfl rfl rfl rfl hb14 rfl .n (.c (.t (.t (.t .h))) .n) (fun w_ hw => same A38 c39 a A c a _ _ (Fr.lend hw 0 rfl (by (try simp only [List.length_nil, List.length_cons, List.length_append, List.length_set, List.length_singleton, List.length_take, List.length_drop, List.length_reverse]) <;> omega)) (Fr.ext hA hw.lendx)) (.cons (Ev.step (ev_pickt rfl rfl rfl rfl) rfl rfl rfl (.cons (Ev.step (ev_mv rfl rfl) rfl rfl rfl (.cons (Ev.gstep (fun _ => ev_mv rfl rfl) rfl rfl rfl rfl rfl (.cons (Ev.gstep (fun _ => ev_mv rfl rfl) rfl rfl rfl rfl rfl ?_))))))))))
      refine .know (row_len 4 rfl) (fun hv43 => ?_)
      obtain ⟨A41, c42, rfl, hv43_1, hv43_2⟩ := hv43
      unfold maxLen at hv43_2
      exact .cons (st_glendk rfl rfl rfl rfl rfl rfl hb14 (fun hb => (lkA1 (lkg rfl hb) (lkA1 (lkg rfl hb) lkA0))) .n (.c (.t (.t (.t (.t .h)))) .n) (fun hb w_ hw => have hp := bT bV hb; same A41 c42 b B d b _ _ (Fr.lend hw 0 rfl (by (try simp only [List.length_nil, List.length_cons, List.length_append, List.length_set, List.length_singleton, List.length_take, List.length_drop, List.length_reverse]) <;> omega)) (Fr.ext hB hw.lendx)) (.cons (Ev.step (ev_and rfl rfl rfl rfl) rfl rfl rfl (.cons (Ev.step (ev_as rfl rfl) rfl rfl rfl (.go (fun _ _ h => h) (.ret (fun _ _ h => h) (ret1 Try.results6 rfl .n ⟨(congrArg Value.bool (by simp)), rfl⟩))))))))
    ·
      refine .seq (.region (.cons (Ev.step (ev_cmp rfl rfl rfl rfl) rfl rfl rfl (.cons (Ev.step (ev_as rfl rfl) rfl rfl rfl (.go (fun _ _ h => h) (.condI rfl bE (fun h44 => ?_) (fun h44 => ?_))))))))
      ·
        refine SC.draw mo [cel g13 [v14, w15] 49, rw_ eVis 44 (v14) a, rw_ eVis 44 (w15) b] [] (.c .h (.c .h (.c .h .n))) (fun _ _ _ c hc => by cases hc) (fun wf_45 hl_45 hx_45 hR_45 => ?_)
        refine SR.take 0 rfl (by kernel_rfl) (by kernel_rfl) (by kernel_rfl) rfl (fun _ _ _ h => h) rfl rfl rfl (ev_mv rfl rfl) (SR.take 1 rfl (by kernel_rfl) (by kernel_rfl) (by kernel_rfl) rfl (fun _ _ _ h => h) rfl rfl rfl (ev_fa rfl fo24_1 rfl (r := 1) rfl) (SR.take 2 rfl (by kernel_rfl) (by kernel_rfl) (by kernel_rfl) rfl (fun _ _ _ h => h) rfl rfl rfl (ev_ld1 rfl ty3 rfl (At.d (At.lent hR_45 2 rfl rfl))) (SR.take 3 rfl (by kernel_rfl) (by kernel_rfl) (by kernel_rfl) rfl (fun _ _ _ h => h) rfl rfl rfl (ev_fa rfl fo24_2 rfl (r := 2) rfl) (SR.take 4 rfl (by kernel_rfl) (by kernel_rfl) (by kernel_rfl) rfl (fun _ _ _ h => h) rfl rfl rfl (ev_ld1 rfl ty3 rfl (At.d (At.lent hR_45 2 rfl rfl))) (SR.take 6 rfl (by kernel_rfl) (by kernel_rfl) (by kernel_rfl) rfl (fun _ _ _ h => h) rfl rfl rfl (ev_mv rfl rfl) ?_)))))
        refine SR.take 7 rfl (by kernel_rfl) (by kernel_rfl) (by kernel_rfl) rfl (fun _ _ _ h => h) rfl rfl rfl (ev_fa rfl fo24_1 rfl (r := 1) rfl) (SR.take 8 rfl (by kernel_rfl) (by kernel_rfl) (by kernel_rfl) rfl (fun _ _ _ h => h) rfl rfl rfl (ev_ld1 rfl ty3 rfl (At.d (At.lent hR_45 2 rfl rfl))) (SR.take 9 rfl (by kernel_rfl) (by kernel_rfl) (by kernel_rfl) rfl (fun _ _ _ h => h) rfl rfl rfl (ev_fa rfl fo24_2 rfl (r := 2) rfl) (SR.take 10 rfl (by kernel_rfl) (by kernel_rfl) (by kernel_rfl) rfl (fun _ _ _ h => h) rfl rfl rfl (ev_ld1 rfl ty3 rfl (At.d (At.lent hR_45 2 rfl rfl))) (SR.one (j := 5) (by kernel_rfl) rfl (st_call0 rfl rfl rfl rfl hb17 rfl (.c .h (.c .h (.c .h .n))) (cross_ g13 v14 w15 a b i j 0 _ _ (by (try simp only [List.length_nil, List.length_cons, List.length_append, List.length_set, List.length_singleton, List.length_take, List.length_drop, List.length_reverse]) <;> omega) (by (try simp only [List.length_nil, List.length_cons, List.length_append, List.length_set, List.length_singleton, List.length_take, List.length_drop, List.length_reverse]) <;> omega) (by omega) (by omega) (by omega)) (fun v_q51 C_q51 q51 => ⟨tt0, ?_⟩))))))
        obtain ⟨r46, x47, y48, p49, q50, p52, rfl, rfl⟩ := q51
        show SR _ _ _ _ _ _ _ _ _ ⟨_, _ :: _ :: _ :: _, _, _⟩
        have hlen_ := cross_len p52
        refine SR.one (j := 11) (by kernel_rfl) rfl (st_call0 rfl rfl rfl rfl hb17 rfl (.c .h (.c .h (.c .h .n))) (cross_ g13 x47 y48 p49 q50 i j 0 _ _ (by (try simp only [List.length_nil, List.length_cons, List.length_append, List.length_set, List.length_singleton, List.length_take, List.length_drop, List.length_reverse]) <;> omega) (by (try simp only [List.length_nil, List.length_cons, List.length_append, List.length_set, List.length_singleton, List.length_take, List.length_drop, List.length_reverse]) <;> omega) (by omega) (by omega) (by omega)) (fun v_q58 C_q58 q58 => ⟨tt0, ?_⟩))
        obtain ⟨r53, x54, y55, p56, q57, p59, rfl, rfl⟩ := q58
        show SR _ _ _ _ _ _ _ _ _ ⟨_, _ :: _ :: _ :: _, _, _⟩
        obtain ⟨rfl, q60, q61⟩ := cross_back p52 p59
        replace q60 := Eq.symm q60
        replace q61 := Eq.symm q61
        subst q60
        subst q61
        refine SR.take 12 rfl (by kernel_rfl) (by kernel_rfl) (by kernel_rfl) rfl (fun _ _ _ h => h) rfl rfl rfl (ev_as rfl rfl) (SR.take 13 rfl (by kernel_rfl) (by kernel_rfl) (by kernel_rfl) rfl (fun _ _ _ h => h) rfl rfl rfl (ev_as rfl rfl) (SR.fin (by kernel_rfl) hl_45 hx_45 hR_45 (.c (.c (.c .n))) (SQ.go (fun _ _ h => h) (.seq (.region ?_)))))
        refine .cons (Ev.step (ev_mv rfl rfl) rfl rfl rfl (.cons (st_call0 rfl rfl rfl rfl hb12 rfl (.c .h (.c .h (.c .h .n))) (visits_ g13 x54 y55 a b _ _ (by (try simp only [List.length_nil, List.length_cons, List.length_append, List.length_set, List.length_singleton, List.length_take, List.length_drop, List.length_reverse]) <;> omega) (by (try simp only [List.length_nil, List.length_cons, List.length_append, List.length_set, List.length_singleton, List.length_take, List.length_drop, List.length_reverse]) <;> omega)) (fun v_q64 C_q64 q64 => ?_))))
        obtain ⟨x62, y63, rfl, rfl⟩ := q64
        show SP _ _ _ _ _ _ ⟨_, _ :: _ :: _ :: _ :: _ :: _, _, _⟩
        refine .cons (Ev.step (ev_mv rfl rfl) rfl rfl rfl (.cons (Ev.step (ev_ext rfl rfl rfl) rfl rfl rfl (.cons (Ev.step (ev_ext rfl rfl rfl) rfl rfl rfl (.cons (Ev.step (ev_as rfl rfl) rfl rfl rfl (.cons (Ev.step (ev_as rfl rfl) rfl rfl rfl (.go (fun _ _ h => h) ?_))))))))))
        refine .seq (.region (.cons (Ev.step (ev_mv rfl rfl) rfl rfl rfl (.cons (Ev.step (ev_mv rfl rfl) rfl rfl rfl (.cons (Ev.step (ev_bcmp (r := true) rfl Try.underlying4 rfl rfl (by simp [boolB])) rfl rfl rfl (.cons (Ev.step (ev_mv rfl rfl) rfl rfl rfl ?_)))))))))
        refine .cons (.on rfl rfl rfl (Ev.step (ev_mv rfl rfl) rfl rfl rfl (.cons (.on rfl rfl rfl (Ev.step (ev_mv rfl rfl) rfl rfl rfl ?_)))))
        refine .know (row_len 3 rfl) (fun hv67 => ?_)
        obtain ⟨A65, c66, rfl, hv67_1, hv67_2⟩ := hv67
        unfold maxLen at hv67_2
        refine .cons (.on rfl rfl rfl (st_lendk rfl rfl rfl rfl hb14 rfl .n (.c (.t (.t (.t .h))) .n) (fun w_ hw => same A65 c66 a A c a _ _ (Fr.lend hw 0 rfl (by (try simp only [List.length_nil, List.length_cons, List.length_append, List.length_set, List.length_singleton, List.length_take, List.length_drop, List.length_reverse]) <;> omega)) (Fr.ext hA hw.lendx)) (.cons (Ev.step (ev_pickt rfl rfl rfl rfl) rfl rfl rfl (.cons (Ev.step (ev_mv rfl rfl) rfl rfl rfl (.cons (Ev.gstep (fun _ => ev_mv rfl rfl) rfl rfl rfl rfl rfl (.cons (Ev.gstep (fun _ => ev_mv rfl rfl) rfl rfl rfl rfl rfl ?_))))))))))
        refine .know (row_len 4 rfl) (fun hv70 => ?_)
        obtain ⟨A68, c69, rfl, hv70_1, hv70_2⟩ := hv70
        unfold maxLen at hv70_2
        exact .cons (st_glendk rfl rfl rfl rfl rfl rfl hb14 (fun hb => (lkA1 (lkg rfl hb) (lkA1 (lkg rfl hb) lkA0))) .n (.c (.t (.t (.t (.t .h)))) .n) (fun hb w_ hw => have hp := bT bV hb; same A68 c69 b B d b _ _ (Fr.lend hw 0 rfl (by (try simp only [List.length_nil, List.length_cons, List.length_append, List.length_set, List.length_singleton, List.length_take, List.length_drop, List.length_reverse]) <;> omega)) (Fr.ext hB hw.lendx)) (.cons (Ev.step (ev_and rfl rfl rfl rfl) rfl rfl rfl (.cons (Ev.step (ev_as rfl rfl) rfl rfl rfl (.go (fun _ _ h => h) (.ret (fun _ _ h => h) (ret1 Try.results6 rfl .n ⟨(congrArg Value.bool (by simp)), rfl⟩))))))))
      ·
        refine .seq (.region (.cons (Ev.step (ev_mv rfl rfl) rfl rfl rfl (.cons (Ev.step (ev_fa rfl fo24_1 rfl (r := 1) rfl) rfl rfl rfl (.cons (Ev.step (ev_ld1 rfl ty3 rfl (At.own1 5 rfl rfl)) rfl rfl rfl (.cons (Ev.step (ev_fa rfl fo24_2 rfl (r := 2) rfl) rfl rfl rfl ?_)))))))))
        refine .cons (Ev.step (ev_ld1 rfl ty3 rfl (At.own1 5 rfl rfl)) rfl rfl rfl (.cons (st_call0 rfl rfl rfl rfl hb18 rfl (.c .h (.c .h (.c .h .n))) (tails_ g13 v14 w15 a b i j 0 _ _ (by (try simp only [List.length_nil, List.length_cons, List.length_append, List.length_set, List.length_singleton, List.length_take, List.length_drop, List.length_reverse]) <;> omega) (by (try simp only [List.length_nil, List.length_cons, List.length_append, List.length_set, List.length_singleton, List.length_take, List.length_drop, List.length_reverse]) <;> omega) (by omega) (by omega) (by omega)) (fun v_q76 C_q76 q76 => ?_))))
        obtain ⟨r71, x72, y73, p74, q75, p77, rfl, rfl⟩ := q76
        show SP _ _ _ _ _ _ ⟨_, _ :: _ :: _ :: _, _, _⟩
        have hlen_ := tails_len p77
        refine .cons (Ev.step (ev_as rfl rfl) rfl rfl rfl (.go (fun _ _ h => h) (.seq (.region (.cons (Ev.step (ev_mv rfl rfl) rfl rfl rfl (.cons (st_call0 rfl rfl rfl rfl hb12 rfl (.c .h (.c .h (.c .h .n))) (visits_ g13 x72 y73 p74 q75 _ _ (by (try simp only [List.length_nil, List.length_cons, List.length_append, List.length_set, List.length_singleton, List.length_take, List.length_drop, List.length_reverse]) <;> omega) (by (try simp only [List.length_nil, List.length_cons, List.length_append, List.length_set, List.length_singleton, List.length_take, List.length_drop, List.length_reverse]) <;> omega)) (fun v_q80 C_q80 q80 => ?_)))))))))
        obtain ⟨x78, y79, rfl, rfl⟩ := q80
        show SP _ _ _ _ _ _ ⟨_, _ :: _ :: _ :: _ :: _ :: _, _, _⟩
        refine .cons (Ev.step (ev_mv rfl rfl) rfl rfl rfl (.cons (Ev.step (ev_ext rfl rfl rfl) rfl rfl rfl (.cons (Ev.step (ev_ext rfl rfl rfl) rfl rfl rfl (.cons (Ev.step (ev_as rfl rfl) rfl rfl rfl (.cons (Ev.step (ev_as rfl rfl) rfl rfl rfl (.go (fun _ _ h => h) ?_))))))))))
        refine .seq (.seq ?_)
        rcases r71 with _ | _
        ·
          refine .region (.cons (Ev.step (ev_mv rfl rfl) rfl rfl rfl (.cons (Ev.step (ev_not rfl rfl) rfl rfl rfl (.cons (Ev.step (ev_mv rfl rfl) rfl rfl rfl (.cons (.off rfl rfl rfl rfl rfl rfl (.cons (.off rfl rfl rfl rfl rfl rfl ?_))))))))))
          refine .cons (.off rfl rfl rfl rfl rfl rfl (.cons (.off rfl rfl rfl rfl rfl rfl (.cons (.off rfl rfl rfl rfl rfl rfl (.cons (.off rfl rfl rfl rfl rfl rfl (.cons (.offu rfl rfl rfl rfl rfl (.cons (.offu rfl rfl rfl rfl rfl ?_)))))))))))
          refine .cons (.offu rfl rfl rfl rfl rfl (.cons (.offu rfl rfl rfl rfl rfl (.cons (.offu rfl rfl rfl rfl rfl (.cons (.off rfl rfl rfl rfl rfl rfl (.cons (Ev.step (ev_pickt rfl rfl rfl rfl) rfl rfl rfl (.go (fun _ _ h => h) ?_))))))))))
          exact .cond_t rfl (.seq (.region (.cons (Ev.step (ev_as rfl rfl) rfl rfl rfl (.go (fun _ _ h => h) (.ret (fun _ _ h => h) (ret1 Try.results6 rfl .n ⟨rfl, rfl⟩)))))))
        ·
          refine .region (.cons (Ev.step (ev_mv rfl rfl) rfl rfl rfl (.cons (Ev.step (ev_not rfl rfl) rfl rfl rfl (.cons (Ev.step (ev_mv rfl rfl) rfl rfl rfl (.cons (.on rfl rfl rfl (Ev.step (ev_fa rfl fo24_1 rfl (r := 1) rfl) rfl rfl rfl (.cons (.on rfl rfl rfl (Ev.step (ev_ld1 rfl ty3 rfl (At.own1 7 rfl rfl)) rfl rfl rfl ?_))))))))))))
          refine .cons (.on rfl rfl rfl (Ev.step (ev_mv rfl rfl) rfl rfl rfl ?_))
          refine .know (row_len 3 rfl) (fun hv83 => ?_)
          obtain ⟨A81, c82, rfl, hv83_1, hv83_2⟩ := hv83
          unfold maxLen at hv83_2
          refine .cons (.on rfl rfl rfl (Ev.step (ev_len rfl Try.underlying22 rfl) rfl rfl rfl (.cons (.on rfl rfl rfl (Ev.step (ev_cmp rfl rfl rfl rfl) rfl rfl rfl (.cons (.on rfl rfl rfl (Ev.step (ev_mv rfl rfl) rfl rfl rfl (.cons (Ev.gstep (fun _ => ev_fa rfl fo24_2 rfl (r := 2) rfl) rfl rfl rfl rfl rfl (.cons (Ev.gstep (fun hb => ev_ld1 rfl ty3 (lkg rfl hb) (At.own1 7 rfl rfl)) rfl rfl rfl rfl rfl (.cons (Ev.gstep (fun _ => ev_mv rfl rfl) rfl rfl rfl rfl rfl ?_))))))))))))))
          refine .know (row_len 4 rfl) (fun hv86 => ?_)
          obtain ⟨A84, c85, rfl, hv86_1, hv86_2⟩ := hv86
          unfold maxLen at hv86_2
          refine .cons (Ev.gstep (fun hb => ev_len rfl Try.underlying22 (lkg rfl hb)) rfl rfl rfl rfl rfl (.cons (Ev.gstep (fun hb => ev_cmp rfl (lkg rfl hb) (lkg rfl hb) rfl) rfl rfl rfl rfl rfl (.cons (.on rfl rfl rfl (Ev.step (ev_and rfl rfl rfl rfl) rfl rfl rfl (.cons (Ev.step (ev_pickf rfl rfl rfl rfl) rfl rfl rfl (.go (fun _ _ h => h) (.condI rfl (bA bE bE) (fun h87 => ?_) (fun h87 => ?_)))))))))))
          ·
            exact .seq (.region (.cons (Ev.step (ev_as rfl rfl) rfl rfl rfl (.go (fun _ _ h => h) (.ret (fun _ _ h => h) (ret1 Try.results6 rfl .n ⟨rfl, rfl⟩))))))
          ·
            refine .skipgo (fun _ _ h => h) (.region (.cons (Ev.step (ev_mv rfl rfl) rfl rfl rfl (.cons (Ev.step (ev_fa rfl fo24_1 rfl (r := 1) rfl) rfl rfl rfl (.cons (Ev.step (ev_ld1 rfl ty3 rfl (At.own1 7 rfl rfl)) rfl rfl rfl (.cons (Ev.step (ev_fa rfl fo24_2 rfl (r := 2) rfl) rfl rfl rfl ?_)))))))))
            refine .cons (Ev.step (ev_ld1 rfl ty3 rfl (At.own1 7 rfl rfl)) rfl rfl rfl (.cons (st_call0 rfl rfl rfl rfl hb18 rfl (.c .h (.c .h (.c .h .n))) (tails_ g13 x72 y73 p74 q75 i j 0 _ _ (by (try simp only [List.length_nil, List.length_cons, List.length_append, List.length_set, List.length_singleton, List.length_take, List.length_drop, List.length_reverse]) <;> omega) (by (try simp only [List.length_nil, List.length_cons, List.length_append, List.length_set, List.length_singleton, List.length_take, List.length_drop, List.length_reverse]) <;> omega) (by omega) (by omega) (by omega)) (fun v_q93 C_q93 q93 => ?_))))
            obtain ⟨r88, x89, y90, p91, q92, p94, rfl, rfl⟩ := q93
            show SP _ _ _ _ _ _ ⟨_, _ :: _ :: _ :: _, _, _⟩
            obtain ⟨rfl, q95, q96⟩ := tails_back p77 p94 (by omega)
            replace q95 := Eq.symm q95
            replace q96 := Eq.symm q96
            subst q95
            subst q96
            refine .cons (Ev.step (ev_as rfl rfl) rfl rfl rfl (.go (fun _ _ h => h) (.seq (.region (.cons (Ev.step (ev_mv rfl rfl) rfl rfl rfl (.cons (st_call0 rfl rfl rfl rfl hb12 rfl (.c .h (.c .h (.c .h .n))) (visits_ g13 x89 y90 a b _ _ (by (try simp only [List.length_nil, List.length_cons, List.length_append, List.length_set, List.length_singleton, List.length_take, List.length_drop, List.length_reverse]) <;> omega) (by (try simp only [List.length_nil, List.length_cons, List.length_append, List.length_set, List.length_singleton, List.length_take, List.length_drop, List.length_reverse]) <;> omega)) (fun v_q99 C_q99 q99 => ?_)))))))))
            obtain ⟨x97, y98, rfl, rfl⟩ := q99
            show SP _ _ _ _ _ _ ⟨_, _ :: _ :: _ :: _ :: _ :: _, _, _⟩
            refine .cons (Ev.step (ev_mv rfl rfl) rfl rfl rfl (.cons (Ev.step (ev_ext rfl rfl rfl) rfl rfl rfl (.cons (Ev.step (ev_ext rfl rfl rfl) rfl rfl rfl (.cons (Ev.step (ev_as rfl rfl) rfl rfl rfl (.cons (Ev.step (ev_as rfl rfl) rfl rfl rfl (.go (fun _ _ h => h) ?_))))))))))
            refine .seq (.region (.cons (Ev.step (ev_mv rfl rfl) rfl rfl rfl (.cons (Ev.step (ev_mv rfl rfl) rfl rfl rfl (.cons (Ev.step (ev_bcmp (r := true) rfl Try.underlying4 rfl rfl (by simp [boolB])) rfl rfl rfl (.cons (Ev.step (ev_mv rfl rfl) rfl rfl rfl ?_)))))))))
            refine .cons (.on rfl rfl rfl (Ev.step (ev_mv rfl rfl) rfl rfl rfl (.cons (.on rfl rfl rfl (Ev.step (ev_mv rfl rfl) rfl rfl rfl ?_)))))
            refine .know (row_len 3 rfl) (fun hv102 => ?_)
            obtain ⟨A100, c101, rfl, hv102_1, hv102_2⟩ := hv102
            unfold maxLen at hv102_2
            refine .cons (.on rfl rfl rfl (st_lendk rfl rfl rfl rfl hb14 rfl .n (.c (.t (.t (.t .h))) .n) (fun w_ hw => same A100 c101 a A c a _ _ (Fr.lend hw 0 rfl (by (try simp only [List.length_nil, List.length_cons, List.length_append, List.length_set, List.length_singleton, List.length_take, List.length_drop, List.length_reverse]) <;> omega)) (Fr.ext hA hw.lendx)) (.cons (Ev.step (ev_pickt rfl rfl rfl rfl) rfl rfl rfl (.cons (Ev.step (ev_mv rfl rfl) rfl rfl rfl (.cons (Ev.gstep (fun _ => ev_mv rfl rfl) rfl rfl rfl rfl rfl (.cons (Ev.gstep (fun _ => ev_mv rfl rfl) rfl rfl rfl rfl rfl ?_))))))))))
            refine .know (row_len 4 rfl) (fun hv105 => ?_)
            obtain ⟨A103, c104, rfl, hv105_1, hv105_2⟩ := hv105
            unfold maxLen at hv105_2
            exact .cons (st_glendk rfl rfl rfl rfl rfl rfl hb14 (fun hb => (lkA1 (lkg rfl hb) (lkA1 (lkg rfl hb) lkA0))) .n (.c (.t (.t (.t (.t .h)))) .n) (fun hb w_ hw => have hp := bT bV hb; same A103 c104 b B d b _ _ (Fr.lend hw 0 rfl (by (try simp only [List.length_nil, List.length_cons, List.length_append, List.length_set, List.length_singleton, List.length_take, List.length_drop, List.length_reverse]) <;> omega)) (Fr.ext hB hw.lendx)) (.cons (Ev.step (ev_and rfl rfl rfl rfl) rfl rfl rfl (.cons (Ev.step (ev_as rfl rfl) rfl rfl rfl (.go (fun _ _ h => h) (.ret (fun _ _ h => h) (ret1 Try.results6 rfl .n ⟨(congrArg Value.bool (by simp)), rfl⟩))))))))

end Go.Proofs.Ytfmfhkaimhmgdaa.Sx
