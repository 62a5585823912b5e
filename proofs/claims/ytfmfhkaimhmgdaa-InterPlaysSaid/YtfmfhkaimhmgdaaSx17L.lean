import Derived.Test.YtfmfhkaimhmgdaaProg
import Derived.Test.YtfmfhkaimhmgdaaSxGrow
import Derived.Test.YtfmfhkaimhmgdaaSx17A
import Derived.Test.YtfmfhkaimhmgdaaSx17S
import Derived.Test.YtfmfhkaimhmgdaaSx17I
import Derived.Test.YtfmfhkaimhmgdaaSx17J
import Derived.Test.YtfmfhkaimhmgdaaSx17K
set_option maxRecDepth 20000
set_option linter.unusedVariables false
set_option linter.unusedSimpArgs false
namespace Go.Proofs.Ytfmfhkaimhmgdaa.Sx.FL
open Go Go.SX Go.Proofs
theorem hb19 : hasBody Try.prog 19 = true := by kernel_rfl
theorem hb16 : hasBody Try.prog 16 = true := by kernel_rfl
theorem hb17 : hasBody Try.prog 17 = true := by kernel_rfl
theorem hb18 : hasBody Try.prog 18 = true := by kernel_rfl
theorem hb21 : hasBody Try.prog 21 = true := by kernel_rfl
theorem hb22 : hasBody Try.prog 22 = true := by kernel_rfl


end Go.Proofs.Ytfmfhkaimhmgdaa.Sx.FL
namespace Go.Proofs.Ytfmfhkaimhmgdaa.Sx
open Go Go.SX Go.Proofs FL





theorem play_ (g : Nat) (v : Value) (w : Value) (a : List Vis) (b : List Vis) (c : Int) (i : Int) (j : Int) (k : Int) (S : Nat → Prop) (wf : World) (ha : a.length ≤ 999990) (hb : b.length ≤ 999990) (h_i : -9223372036854775808 ≤ i ∧ i ≤ 9223372036854775807) (h_j : -9223372036854775808 ≤ j ∧ j ≤ 9223372036854775807) (h_k : -9223372036854775808 ≤ k ∧ k ≤ 9223372036854775807) :
    TR0 Try.prog 11 [.pointer (some ⟨g, 0, none⟩), .int .i64 c, .int .i64 i, .int .i64 j, .int .i64 k] [cel g [v, w] 49, rw_ eVis 44 (v) a, rw_ eVis 44 (w) b] S wf (fun v_ C_ => ∃ (r : Bool) (x : Value) (y : Value) (p : List Vis) (q : List Vis), ((r, p, q) = playF a b c i j k) ∧ v_ = .bool r ∧ C_ = [cel g [x, y] 49, rw_ eVis 44 (x) p, rw_ eVis 44 (y) q]) := by
  refine TR.mk Try.func11 rfl Try.ntmps11 rfl rfl (fun w_ => ?_)
  refine .seq (.region (.cons (Ev.step (ev_as rfl rfl) rfl rfl rfl (.go (fun _ _ h => h) (.seq (.seq ?_))))))
  refine .region (.cons (Ev.step (ev_mv rfl rfl) rfl rfl rfl (.go (fun _ _ h => h) (.block (.seq (.region ?_))))))
  refine .cons (Ev.step (ev_cmp rfl rfl rfl rfl) rfl rfl rfl (.cons (Ev.step (ev_as rfl rfl) rfl rfl rfl (.go (fun _ _ h => h) (.condI rfl bE (fun h1 => ?_) (fun h1 => ?_))))))
  ·
    refine .seq (.region (.cons (Ev.step (ev_mv rfl rfl) rfl rfl rfl (.cons (Ev.step (ev_mv rfl rfl) rfl rfl rfl (.cons (Ev.step (ev_mv rfl rfl) rfl rfl rfl (.cons (Ev.step (ev_mv rfl rfl) rfl rfl rfl ?_)))))))))
    refine .cons (st_call0 rfl rfl rfl rfl hb19 rfl (.c .h (.c .h (.c .h .n))) (reloc_ g v w a b i j k _ _ (by (try simp only [List.length_nil, List.length_cons, List.length_append, List.length_set, List.length_singleton, List.length_take, List.length_drop, List.length_reverse]) <;> omega) (by (try simp only [List.length_nil, List.length_cons, List.length_append, List.length_set, List.length_singleton, List.length_take, List.length_drop, List.length_reverse]) <;> omega) (by omega) (by omega) (by omega)) (fun v_q7 C_q7 q7 => ?_))
    obtain ⟨r2, x3, y4, p5, q6, p8, rfl, rfl⟩ := q7
    show SP _ _ _ _ _ _ ⟨_, _ :: _ :: _ :: _, _, _⟩
    exact .cons (Ev.step (ev_as rfl rfl) rfl rfl rfl (.go (fun _ _ h => h) (.ret (fun _ _ h => h) (ret1 Try.results11 rfl (.c .h (.c .h (.c .h .n))) ⟨r2, x3, y4, p5, q6, (by unfold playF; rw [if_pos h1]; exact p8), rfl, rfl⟩))))
  ·
    refine .seq (.region (.cons (Ev.step (ev_cmp rfl rfl rfl rfl) rfl rfl rfl (.cons (Ev.step (ev_as rfl rfl) rfl rfl rfl (.go (fun _ _ h => h) (.condI rfl bE (fun h9 => ?_) (fun h9 => ?_))))))))
    ·
      refine .seq (.region (.cons (Ev.step (ev_mv rfl rfl) rfl rfl rfl (.cons (Ev.step (ev_mv rfl rfl) rfl rfl rfl (.cons (Ev.step (ev_mv rfl rfl) rfl rfl rfl (.cons (Ev.step (ev_mv rfl rfl) rfl rfl rfl ?_)))))))))
      refine .cons (st_call0 rfl rfl rfl rfl hb16 rfl (.c .h (.c .h (.c .h .n))) (exch_ g v w a b i j k _ _ (by (try simp only [List.length_nil, List.length_cons, List.length_append, List.length_set, List.length_singleton, List.length_take, List.length_drop, List.length_reverse]) <;> omega) (by (try simp only [List.length_nil, List.length_cons, List.length_append, List.length_set, List.length_singleton, List.length_take, List.length_drop, List.length_reverse]) <;> omega) (by omega) (by omega) (by omega)) (fun v_q15 C_q15 q15 => ?_))
      obtain ⟨r10, x11, y12, p13, q14, p16, rfl, rfl⟩ := q15
      show SP _ _ _ _ _ _ ⟨_, _ :: _ :: _ :: _, _, _⟩
      exact .cons (Ev.step (ev_as rfl rfl) rfl rfl rfl (.go (fun _ _ h => h) (.ret (fun _ _ h => h) (ret1 Try.results11 rfl (.c .h (.c .h (.c .h .n))) ⟨r10, x11, y12, p13, q14, (by unfold playF; rw [if_neg h1, if_pos h9]; exact p16), rfl, rfl⟩))))
    ·
      refine .seq (.region (.cons (Ev.step (ev_cmp rfl rfl rfl rfl) rfl rfl rfl (.cons (Ev.step (ev_as rfl rfl) rfl rfl rfl (.go (fun _ _ h => h) (.condI rfl bE (fun h17 => ?_) (fun h17 => ?_))))))))
      ·
        refine .seq (.region (.cons (Ev.step (ev_mv rfl rfl) rfl rfl rfl (.cons (Ev.step (ev_mv rfl rfl) rfl rfl rfl (.cons (Ev.step (ev_mv rfl rfl) rfl rfl rfl (.cons (Ev.step (ev_mv rfl rfl) rfl rfl rfl ?_)))))))))
        refine .cons (st_call0 rfl rfl rfl rfl hb17 rfl (.c .h (.c .h (.c .h .n))) (cross_ g v w a b i j k _ _ (by (try simp only [List.length_nil, List.length_cons, List.length_append, List.length_set, List.length_singleton, List.length_take, List.length_drop, List.length_reverse]) <;> omega) (by (try simp only [List.length_nil, List.length_cons, List.length_append, List.length_set, List.length_singleton, List.length_take, List.length_drop, List.length_reverse]) <;> omega) (by omega) (by omega) (by omega)) (fun v_q23 C_q23 q23 => ?_))
        obtain ⟨r18, x19, y20, p21, q22, p24, rfl, rfl⟩ := q23
        show SP _ _ _ _ _ _ ⟨_, _ :: _ :: _ :: _, _, _⟩
        exact .cons (Ev.step (ev_as rfl rfl) rfl rfl rfl (.go (fun _ _ h => h) (.ret (fun _ _ h => h) (ret1 Try.results11 rfl (.c .h (.c .h (.c .h .n))) ⟨r18, x19, y20, p21, q22, (by unfold playF; rw [if_neg h1, if_neg h9, if_pos h17]; exact p24), rfl, rfl⟩))))
      ·
        refine .seq (.region (.cons (Ev.step (ev_cmp rfl rfl rfl rfl) rfl rfl rfl (.cons (Ev.step (ev_as rfl rfl) rfl rfl rfl (.go (fun _ _ h => h) (.condI rfl bE (fun h25 => ?_) (fun h25 => ?_))))))))
        ·
          refine .seq (.region (.cons (Ev.step (ev_mv rfl rfl) rfl rfl rfl (.cons (Ev.step (ev_mv rfl rfl) rfl rfl rfl (.cons (Ev.step (ev_mv rfl rfl) rfl rfl rfl (.cons (Ev.step (ev_mv rfl rfl) rfl rfl rfl ?_)))))))))
          refine .cons (st_call0 rfl rfl rfl rfl hb18 rfl (.c .h (.c .h (.c .h .n))) (tails_ g v w a b i j k _ _ (by (try simp only [List.length_nil, List.length_cons, List.length_append, List.length_set, List.length_singleton, List.length_take, List.length_drop, List.length_reverse]) <;> omega) (by (try simp only [List.length_nil, List.length_cons, List.length_append, List.length_set, List.length_singleton, List.length_take, List.length_drop, List.length_reverse]) <;> omega) (by omega) (by omega) (by omega)) (fun v_q31 C_q31 q31 => ?_))
          obtain ⟨r26, x27, y28, p29, q30, p32, rfl, rfl⟩ := q31
          show SP _ _ _ _ _ _ ⟨_, _ :: _ :: _ :: _, _, _⟩
          exact .cons (Ev.step (ev_as rfl rfl) rfl rfl rfl (.go (fun _ _ h => h) (.ret (fun _ _ h => h) (ret1 Try.results11 rfl (.c .h (.c .h (.c .h .n))) ⟨r26, x27, y28, p29, q30, (by unfold playF; rw [if_neg h1, if_neg h9, if_neg h17, if_pos h25]; exact p32), rfl, rfl⟩))))
        ·
          refine .seq (.region (.cons (Ev.step (ev_cmp rfl rfl rfl rfl) rfl rfl rfl (.cons (Ev.step (ev_as rfl rfl) rfl rfl rfl (.go (fun _ _ h => h) (.condI rfl bE (fun h33 => ?_) (fun h33 => ?_))))))))
          ·
            refine .seq (.region (.cons (Ev.step (ev_mv rfl rfl) rfl rfl rfl (.cons (Ev.step (ev_mv rfl rfl) rfl rfl rfl (.cons (Ev.step (ev_mv rfl rfl) rfl rfl rfl (.cons (Ev.step (ev_mv rfl rfl) rfl rfl rfl ?_)))))))))
            refine .cons (st_call0 rfl rfl rfl rfl hb21 rfl (.c .h (.c .h (.c .h .n))) (turn_ g v w a b i j k _ _ (by (try simp only [List.length_nil, List.length_cons, List.length_append, List.length_set, List.length_singleton, List.length_take, List.length_drop, List.length_reverse]) <;> omega) (by (try simp only [List.length_nil, List.length_cons, List.length_append, List.length_set, List.length_singleton, List.length_take, List.length_drop, List.length_reverse]) <;> omega) (by omega) (by omega) (by omega)) (fun v_q39 C_q39 q39 => ?_))
            obtain ⟨r34, x35, y36, p37, q38, p40, rfl, rfl⟩ := q39
            show SP _ _ _ _ _ _ ⟨_, _ :: _ :: _ :: _, _, _⟩
            exact .cons (Ev.step (ev_as rfl rfl) rfl rfl rfl (.go (fun _ _ h => h) (.ret (fun _ _ h => h) (ret1 Try.results11 rfl (.c .h (.c .h (.c .h .n))) ⟨r34, x35, y36, p37, q38, (by unfold playF; rw [if_neg h1, if_neg h9, if_neg h17, if_neg h25, if_pos h33]; exact p40), rfl, rfl⟩))))
          ·
            refine .skipgo (fun _ _ h => h) (.seq (.region (.cons (Ev.step (ev_mv rfl rfl) rfl rfl rfl (.cons (Ev.step (ev_mv rfl rfl) rfl rfl rfl (.cons (Ev.step (ev_mv rfl rfl) rfl rfl rfl ?_))))))))
            refine .cons (Ev.step (ev_mv rfl rfl) rfl rfl rfl (.cons (st_call0 rfl rfl rfl rfl hb22 rfl (.c .h (.c .h (.c .h .n))) (swap_s g v w a b i j k _ _ (by (try simp only [List.length_nil, List.length_cons, List.length_append, List.length_set, List.length_singleton, List.length_take, List.length_drop, List.length_reverse]) <;> omega) (by (try simp only [List.length_nil, List.length_cons, List.length_append, List.length_set, List.length_singleton, List.length_take, List.length_drop, List.length_reverse]) <;> omega) (by omega) (by omega) (by omega)) (fun v_q46 C_q46 q46 => ?_))))
            obtain ⟨r41, x42, y43, p44, q45, p47, rfl, rfl⟩ := q46
            show SP _ _ _ _ _ _ ⟨_, _ :: _ :: _ :: _, _, _⟩
            exact .cons (Ev.step (ev_as rfl rfl) rfl rfl rfl (.go (fun _ _ h => h) (.ret (fun _ _ h => h) (ret1 Try.results11 rfl (.c .h (.c .h (.c .h .n))) ⟨r41, x42, y43, p44, q45, (by unfold playF; rw [if_neg h1, if_neg h9, if_neg h17, if_neg h25, if_neg h33]; exact p47), rfl, rfl⟩))))

end Go.Proofs.Ytfmfhkaimhmgdaa.Sx
