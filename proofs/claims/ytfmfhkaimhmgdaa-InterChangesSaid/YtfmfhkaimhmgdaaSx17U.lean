import Derived.Test.YtfmfhkaimhmgdaaProg
import Derived.Test.YtfmfhkaimhmgdaaSxChg
import Derived.Test.YtfmfhkaimhmgdaaSx17A
import Derived.Test.YtfmfhkaimhmgdaaSx17S
import Derived.Test.YtfmfhkaimhmgdaaSx17I
import Derived.Test.YtfmfhkaimhmgdaaSx17J
import Derived.Test.YtfmfhkaimhmgdaaSx17K
import Derived.Test.YtfmfhkaimhmgdaaSx17L
import Derived.Test.YtfmfhkaimhmgdaaSx17N
import Derived.Test.YtfmfhkaimhmgdaaSx17R
import Derived.Test.YtfmfhkaimhmgdaaSx17B
import Derived.Test.YtfmfhkaimhmgdaaSx17C
import Derived.Test.YtfmfhkaimhmgdaaSx17W
set_option maxRecDepth 20000
set_option maxHeartbeats 4000000
set_option linter.unusedVariables false
set_option linter.unusedSimpArgs false
namespace Go.Proofs.Ytfmfhkaimhmgdaa.Sx.FU
open Go Go.SX Go.Proofs
theorem hb9 : hasBody Try.prog 9 = true := by kernel_rfl
theorem ai44 : (Try.prog.info? 44).map (fun i => (i.zero, i.size, i.bytes)) = some (some (.agg #[.int .i64 0, .int .i64 0]), 2, 16) := by kernel_rfl
theorem hb10 : hasBody Try.prog 10 = true := by kernel_rfl
theorem fo24_0 : fo Try.prog 24 0 = some 0 := by kernel_rfl
theorem ty3 : ty Try.prog 3 = some (false, 1) := by kernel_rfl
theorem fo24_1 : fo Try.prog 24 1 = some 1 := by kernel_rfl
theorem fo24_2 : fo Try.prog 24 2 = some 2 := by kernel_rfl
theorem fo24_3 : fo Try.prog 24 3 = some 3 := by kernel_rfl
theorem hb11 : hasBody Try.prog 11 = true := by kernel_rfl
theorem hb12 : hasBody Try.prog 12 = true := by kernel_rfl
theorem hb13 : hasBody Try.prog 13 = true := by kernel_rfl
theorem hb14 : hasBody Try.prog 14 = true := by kernel_rfl


end Go.Proofs.Ytfmfhkaimhmgdaa.Sx.FU
namespace Go.Proofs.Ytfmfhkaimhmgdaa.Sx
open Go Go.SX Go.Proofs FU





theorem interChanges (A : Option Addr) (c : Nat) (a : List Vis) (B : Option Addr) (d : Nat) (b : List Vis) (q : Int) (i : Int) (j : Int) (k : Int) (S : Nat → Prop) (wf : World) (hA : Fr eVis S wf A a) (hB : Fr eVis S wf B b) (h_q : -9223372036854775808 ≤ q ∧ q ≤ 9223372036854775807) (h_i : -9223372036854775808 ≤ i ∧ i ≤ 9223372036854775807) (h_j : -9223372036854775808 ≤ j ∧ j ≤ 9223372036854775807) (h_k : -9223372036854775808 ≤ k ∧ k ≤ 9223372036854775807) (hac : a.length ≤ c) (hbd : b.length ≤ d) :
    TR0 Try.prog 3 [.slice A a.length c, .slice B b.length d, .agg #[.int .i64 q, .int .i64 i, .int .i64 j, .int .i64 k]] [] S wf (fun v_ C_ => v_ = .bool true ∧ C_ = []) := by
  have hla := hA.len
  have hlb := hB.len
  refine TR.mk Try.func3 rfl Try.ntmps3 rfl rfl (fun w_ => ?_)
  refine .seq (.region (.cons (st_boxa rfl rfl rfl rfl rfl (fun b1 => .cons (Ev.step (ev_as rfl rfl) rfl rfl rfl (.go (fun _ _ h => h) (.seq ?_)))))))
  refine .seq (.region (.cons (st_callk rfl rfl rfl rfl hb9 rfl .n (awake _ _) (.cons (Ev.step (ev_not rfl rfl) rfl rfl rfl (.go (fun _ _ h => h) (.cond_f rfl ?_)))))))
  refine .skipgo (fun _ _ h => h) (.seq (.seq (.region (.cons (Ev.step (ev_mv rfl rfl) rfl rfl rfl (.cons (Ev.step (ev_len rfl Try.underlying22 rfl) rfl rfl rfl ?_)))))))
  refine .cons (Ev.step (ev_cmp rfl rfl rfl rfl) rfl rfl rfl (.cons (Ev.step (ev_mv rfl rfl) rfl rfl rfl (.cons (Ev.gstep (fun _ => ev_mv rfl rfl) rfl rfl rfl rfl rfl (.cons (Ev.gstep (fun hb => ev_len rfl Try.underlying22 (lkg rfl hb)) rfl rfl rfl rfl rfl (.cons (Ev.gstep (fun hb => ev_cmp rfl (lkg rfl hb) rfl rfl) rfl rfl rfl rfl rfl (.cons (Ev.step (ev_or rfl rfl rfl rfl) rfl rfl rfl ?_)))))))))))
  refine .go (fun _ _ h => h) (.condI rfl (bO bD bD) (fun h2 => ?_) (fun h2 => ?_))
  ·
    exact .seq (.region (.cons (Ev.step (ev_as rfl rfl) rfl rfl rfl (.go (fun _ _ h => h) (.ret (fun _ _ h => h) (ret1 Try.results3 rfl .n ⟨rfl, rfl⟩))))))
  ·
    refine .skipgo (fun _ _ h => h) (.seq (.region (.cons (st_lit eVis (e := 44) (l := []) rfl rfl rfl rfl (by kernel_rfl) rfl rfl (fun w => by kernel_rfl) (fun b3 => .cons (Ev.step (ev_mv rfl rfl) rfl rfl rfl (.cons (st_app0 (E := eVis) (m := a) rfl rfl rfl rfl Try.underlying22 ai44 rfl rfl rfl .h (by first | rfl | omega | simp) (Src.w (Fr.flat hA)) (by first | ((try simp only [List.length_nil, List.length_cons, List.length_append, List.length_set, List.length_singleton, List.length_take, List.length_drop, List.length_reverse]) <;> omega) | omega) rfl (fun v4 => ?_)))))))))
    refine .cons (st_lit eVis (e := 44) (l := []) rfl rfl rfl rfl (by kernel_rfl) rfl rfl (fun w => by kernel_rfl) (fun b5 => .cons (Ev.step (ev_mv rfl rfl) rfl rfl rfl (.cons (st_app0 (E := eVis) (m := b) rfl rfl rfl rfl Try.underlying22 ai44 rfl rfl rfl .h (by first | rfl | omega | simp) (Src.w (Fr.flat hB)) (by first | ((try simp only [List.length_nil, List.length_cons, List.length_append, List.length_set, List.length_singleton, List.length_take, List.length_drop, List.length_reverse]) <;> omega) | omega) rfl (fun v6 => ?_))))))
    refine .know (row_len 1 rfl) (fun hv9 => ?_)
    obtain ⟨A7, c8, rfl, hv9_1, hv9_2⟩ := hv9
    unfold maxLen at hv9_2
    refine .know (row_len 0 rfl) (fun hv12 => ?_)
    obtain ⟨A10, c11, rfl, hv12_1, hv12_2⟩ := hv12
    unfold maxLen at hv12_2
    refine .cons (st_lend0 rfl rfl rfl rfl hb10 rfl .n (.c (.t .h) (.c .h .n)) (fun w_ hw => new_ A7 c8 a A10 c11 b _ _ (Fr.lend hw 0 rfl (by first | ((try simp only [List.length_nil, List.length_cons, List.length_append, List.length_set, List.length_singleton, List.length_take, List.length_drop, List.length_reverse]) <;> omega) | omega)) (Fr.lend hw 1 rfl (by first | ((try simp only [List.length_nil, List.length_cons, List.length_append, List.length_set, List.length_singleton, List.length_take, List.length_drop, List.length_reverse]) <;> omega) | omega)) (by first | ((try simp only [List.length_nil, List.length_cons, List.length_append, List.length_set, List.length_singleton, List.length_take, List.length_drop, List.length_reverse]) <;> omega) | omega) (by first | ((try simp only [List.length_nil, List.length_cons, List.length_append, List.length_set, List.length_singleton, List.length_take, List.length_drop, List.length_reverse]) <;> omega) | omega)) (fun v_q16 C_q16 q16 => ?_))
    obtain ⟨g13, v14, w15, rfl, rfl⟩ := q16
    show SP _ _ _ _ _ _ ⟨_, _ :: _ :: _ :: _ :: _ :: _, _, _⟩
    refine .cons (Ev.step (ev_as rfl rfl) rfl rfl rfl (.go (fun _ _ h => h) (.seq (.region (.cons (Ev.step (ev_fa rfl fo24_0 rfl (r := 0) rfl) rfl rfl rfl (.cons (Ev.step (ev_ld1 rfl ty3 rfl (At.own1 5 rfl rfl)) rfl rfl rfl ?_))))))))
    refine .cons (Ev.step (ev_cv rfl Try.underlying3 Try.underlying28 rfl rfl) rfl rfl rfl (.cons (Ev.step (ev_rem rfl rfl rfl (by omega)) rfl rfl rfl (.cons (Ev.step (ev_cv rfl Try.underlying28 Try.underlying3 rfl rfl) rfl rfl rfl (.cons (Ev.step (ev_as rfl rfl) rfl rfl rfl (.go (fun _ _ h => h) (.seq ?_)))))))))
    refine .region (.cons (Ev.step (ev_mv rfl rfl) rfl rfl rfl (.cons (Ev.step (ev_mv rfl rfl) rfl rfl rfl (.cons (Ev.step (ev_fa rfl fo24_1 rfl (r := 1) rfl) rfl rfl rfl (.cons (Ev.step (ev_ld1 rfl ty3 rfl (At.own1 5 rfl rfl)) rfl rfl rfl (.cons (Ev.step (ev_fa rfl fo24_2 rfl (r := 2) rfl) rfl rfl rfl ?_))))))))))
    refine .cons (Ev.step (ev_ld1 rfl ty3 rfl (At.own1 5 rfl rfl)) rfl rfl rfl (.cons (Ev.step (ev_fa rfl fo24_3 rfl (r := 3) rfl) rfl rfl rfl (.cons (Ev.step (ev_ld1 rfl ty3 rfl (At.own1 5 rfl rfl)) rfl rfl rfl (.cons (st_call0 rfl rfl rfl rfl hb11 rfl (.c .h (.c .h (.c .h .n))) (play_ g13 v14 w15 a b (IntKind.i64.wrap (Int.tmod (IntKind.u64.wrap q) 6)) i j k _ _ (by first | ((try simp only [List.length_nil, List.length_cons, List.length_append, List.length_set, List.length_singleton, List.length_take, List.length_drop, List.length_reverse]) <;> omega) | omega) (by first | ((try simp only [List.length_nil, List.length_cons, List.length_append, List.length_set, List.length_singleton, List.length_take, List.length_drop, List.length_reverse]) <;> omega) | omega) (by omega) (by omega) (by omega)) (fun v_q22 C_q22 q22 => ?_))))))))
    obtain ⟨r17, x18, y19, p20, q21, p23, rfl, rfl⟩ := q22
    show SP _ _ _ _ _ _ ⟨_, _ :: _ :: _ :: _, _, _⟩
    obtain ⟨hs1_, -, -, -, -⟩ := sized_play p23
    refine .cons (Ev.step (ev_as rfl rfl) rfl rfl rfl (.go (fun _ _ h => h) (.seq (.region (.cons (Ev.step (ev_mv rfl rfl) rfl rfl rfl (.cons (st_call0 rfl rfl rfl rfl hb12 rfl (.c .h (.c .h (.c .h .n))) (visits_ g13 x18 y19 p20 q21 _ _ (by first | ((try simp only [List.length_nil, List.length_cons, List.length_append, List.length_set, List.length_singleton, List.length_take, List.length_drop, List.length_reverse]) <;> omega) | omega) (by first | ((try simp only [List.length_nil, List.length_cons, List.length_append, List.length_set, List.length_singleton, List.length_take, List.length_drop, List.length_reverse]) <;> omega) | omega)) (fun v_q26 C_q26 q26 => ?_)))))))))
    obtain ⟨x24, y25, rfl, rfl⟩ := q26
    show SP _ _ _ _ _ _ ⟨_, _ :: _ :: _ :: _ :: _ :: _, _, _⟩
    refine .cons (Ev.step (ev_mv rfl rfl) rfl rfl rfl (.cons (Ev.step (ev_ext rfl rfl rfl) rfl rfl rfl (.cons (Ev.step (ev_ext rfl rfl rfl) rfl rfl rfl (.cons (Ev.step (ev_as rfl rfl) rfl rfl rfl (.cons (Ev.step (ev_as rfl rfl) rfl rfl rfl (.go (fun _ _ h => h) ?_))))))))))
    refine .seq (.region (.cons (Ev.step (ev_mv rfl rfl) rfl rfl rfl (.cons (Ev.step (ev_mv rfl rfl) rfl rfl rfl (.cons (Ev.step (ev_mv rfl rfl) rfl rfl rfl (.cons (Ev.step (ev_fa rfl fo24_1 rfl (r := 1) rfl) rfl rfl rfl ?_)))))))))
    refine .cons (Ev.step (ev_ld1 rfl ty3 rfl (At.own1 7 rfl rfl)) rfl rfl rfl (.cons (Ev.step (ev_fa rfl fo24_2 rfl (r := 2) rfl) rfl rfl rfl (.cons (Ev.step (ev_ld1 rfl ty3 rfl (At.own1 7 rfl rfl)) rfl rfl rfl (.cons (Ev.step (ev_fa rfl fo24_3 rfl (r := 3) rfl) rfl rfl rfl (.cons (Ev.step (ev_ld1 rfl ty3 rfl (At.own1 7 rfl rfl)) rfl rfl rfl (.cons (st_call0 rfl rfl rfl rfl hb13 rfl .n (r_inter A a.length c a B b.length d b (IntKind.i64.wrap (Int.tmod (IntKind.u64.wrap q) 6)) i j k _ _ hA hB (by first | ((try simp only [List.length_nil, List.length_cons, List.length_append, List.length_set, List.length_singleton, List.length_take, List.length_drop, List.length_reverse]) <;> omega) | omega) (by first | ((try simp only [List.length_nil, List.length_cons, List.length_append, List.length_set, List.length_singleton, List.length_take, List.length_drop, List.length_reverse]) <;> omega) | omega) (by first | ((try simp only [List.length_nil, List.length_cons, List.length_append, List.length_set, List.length_singleton, List.length_take, List.length_drop, List.length_reverse]) <;> omega) | omega) (by first | ((try simp only [List.length_nil, List.length_cons, List.length_append, List.length_set, List.length_singleton, List.length_take, List.length_drop, List.length_reverse]) <;> omega) | omega) (by first | ((try simp only [List.length_nil, List.length_cons, List.length_append, List.length_set, List.length_singleton, List.length_take, List.length_drop, List.length_reverse]) <;> omega) | omega) (by first | ((try simp only [List.length_nil, List.length_cons, List.length_append, List.length_set, List.length_singleton, List.length_take, List.length_drop, List.length_reverse]) <;> omega) | omega) (mod6 _).1 (mod6 _).2 (by omega) (by omega) (by omega)) (fun v_q32 C_q32 q32 => ?_))))))))))))
    obtain ⟨x27, y28, p29, q30, r31, p33, rfl, rfl⟩ := q32
    show SP _ _ _ _ _ _ ⟨_, _ :: _ :: _, _, _⟩
    obtain ⟨rfl, q34, q35⟩ := chg_same (mod6 _) p23 p33
    replace q34 := Eq.symm q34
    replace q35 := Eq.symm q35
    subst q34
    subst q35
    refine .cons (Ev.step (ev_mv rfl rfl) rfl rfl rfl (.cons (Ev.step (ev_ext rfl rfl rfl) rfl rfl rfl (.cons (Ev.step (ev_ext rfl rfl rfl) rfl rfl rfl (.cons (Ev.step (ev_ext rfl rfl rfl) rfl rfl rfl (.cons (Ev.step (ev_as rfl rfl) rfl rfl rfl (.cons (Ev.step (ev_as rfl rfl) rfl rfl rfl ?_)))))))))))
    refine .cons (Ev.step (ev_as rfl rfl) rfl rfl rfl (.go (fun _ _ h => h) (.seq (.region (.cons (Ev.step (ev_mv rfl rfl) rfl rfl rfl (.cons (Ev.step (ev_mv rfl rfl) rfl rfl rfl ?_))))))))
    refine .cons (Ev.step (ev_bcmp (r := true) rfl Try.underlying4 rfl rfl (by simp [boolB])) rfl rfl rfl (.cons (Ev.step (ev_mv rfl rfl) rfl rfl rfl (.cons (.on rfl rfl rfl (Ev.step (ev_mv rfl rfl) rfl rfl rfl (.cons (.on rfl rfl rfl (Ev.step (ev_mv rfl rfl) rfl rfl rfl ?_)))))))))
    refine .know (row_len 5 rfl) (fun hv38 => ?_)
    obtain ⟨A36, c37, rfl, hv38_1, hv38_2⟩ := hv38
    unfold maxLen at hv38_2
    refine .know (row_len 0 rfl) (fun hv41 => ?_)
    obtain ⟨A39, c40, rfl, hv41_1, hv41_2⟩ := hv41
    unfold maxLen at hv41_2
    refine .cons (.on rfl rfl rfl (st_lendk rfl rfl rfl rfl hb14 rfl .n (.c (.t (.t (.t (.t (.t .h))))) (.c .h .n)) (fun w_ hw => same A36 c37 p20 A39 c40 p20 _ _ (Fr.lend hw 0 rfl (by first | ((try simp only [List.length_nil, List.length_cons, List.length_append, List.length_set, List.length_singleton, List.length_take, List.length_drop, List.length_reverse]) <;> omega) | omega)) (Fr.lend hw 1 rfl (by first | ((try simp only [List.length_nil, List.length_cons, List.length_append, List.length_set, List.length_singleton, List.length_take, List.length_drop, List.length_reverse]) <;> omega) | omega))) (.cons (Ev.step (ev_pickt rfl rfl rfl rfl) rfl rfl rfl (.cons (Ev.step (ev_mv rfl rfl) rfl rfl rfl (.cons (Ev.gstep (fun _ => ev_mv rfl rfl) rfl rfl rfl rfl rfl (.cons (Ev.gstep (fun _ => ev_mv rfl rfl) rfl rfl rfl rfl rfl ?_))))))))))
    refine .know (row_len 6 rfl) (fun hv44 => ?_)
    obtain ⟨A42, c43, rfl, hv44_1, hv44_2⟩ := hv44
    unfold maxLen at hv44_2
    refine .know (row_len 1 rfl) (fun hv47 => ?_)
    obtain ⟨A45, c46, rfl, hv47_1, hv47_2⟩ := hv47
    unfold maxLen at hv47_2
    exact .cons (st_glendk rfl rfl rfl rfl rfl rfl hb14 (fun hb => (lkA1 (lkg rfl hb) (lkA1 (lkg rfl hb) lkA0))) .n (.c (.t (.t (.t (.t (.t (.t .h)))))) (.c (.t .h) .n)) (fun hb w_ hw => have hp := bT bV hb; same A42 c43 q21 A45 c46 q21 _ _ (Fr.lend hw 0 rfl (by first | ((try simp only [List.length_nil, List.length_cons, List.length_append, List.length_set, List.length_singleton, List.length_take, List.length_drop, List.length_reverse]) <;> omega) | omega)) (Fr.lend hw 1 rfl (by first | ((try simp only [List.length_nil, List.length_cons, List.length_append, List.length_set, List.length_singleton, List.length_take, List.length_drop, List.length_reverse]) <;> omega) | omega))) (.cons (Ev.step (ev_and rfl rfl rfl rfl) rfl rfl rfl (.cons (Ev.step (ev_as rfl rfl) rfl rfl rfl (.go (fun _ _ h => h) (.ret (fun _ _ h => h) (ret1 Try.results3 rfl .n ⟨(congrArg Value.bool (by simp)), rfl⟩))))))))

end Go.Proofs.Ytfmfhkaimhmgdaa.Sx
