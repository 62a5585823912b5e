import Derived.Test.YtfmfhkaimhmgdaaProg
import Derived.Test.YtfmfhkaimhmgdaaSxGrow
import Derived.Test.YtfmfhkaimhmgdaaSx17A
import Derived.Test.YtfmfhkaimhmgdaaSx17S
import Derived.Test.YtfmfhkaimhmgdaaSx17I
import Derived.Test.YtfmfhkaimhmgdaaSx17J
import Derived.Test.YtfmfhkaimhmgdaaSx17K
import Derived.Test.YtfmfhkaimhmgdaaSx17L
import Derived.Test.YtfmfhkaimhmgdaaSx17N
set_option maxRecDepth 20000
set_option linter.unusedVariables false
set_option linter.unusedSimpArgs false
namespace Go.Proofs.Ytfmfhkaimhmgdaa.Sx.FW
open Go Go.SX Go.Proofs
theorem zf44 : (Try.prog.info? 44).bind (fun i => i.zero.map Value.cells) = some (List.toArray [.int .i64 0, .int .i64 0]) := by kernel_rfl
theorem ty44 : ty Try.prog 44 = some (true, 2) := by kernel_rfl
theorem hb10 : hasBody Try.prog 10 = true := by kernel_rfl
theorem hb19 : hasBody Try.prog 19 = true := by kernel_rfl
theorem hb12 : hasBody Try.prog 12 = true := by kernel_rfl
theorem hb15 : hasBody Try.prog 15 = true := by kernel_rfl
theorem hb14 : hasBody Try.prog 14 = true := by kernel_rfl


end Go.Proofs.Ytfmfhkaimhmgdaa.Sx.FW
namespace Go.Proofs.Ytfmfhkaimhmgdaa.Sx
open Go Go.SX Go.Proofs FW



def allF : List Sl := [⟨.func (.func 19) #[] #[], rfl⟩, ⟨.func (.func 16) #[] #[], rfl⟩, ⟨.func (.func 17) #[] #[], rfl⟩, ⟨.func (.func 18) #[] #[], rfl⟩, ⟨.func (.func 21) #[] #[], rfl⟩, ⟨.func (.func 22) #[] #[], rfl⟩]

theorem all_ (S : Nat → Prop) (wf : World) :
    TR0 Try.prog 15 [] [] S wf (fun v_ C_ => ∃ (b : Nat), v_ = .slice (some ⟨b, 0, none⟩) 6 6 ∧ C_ = [rw_ eV 39 (.slice (some ⟨b, 0, none⟩) 6 6) allF]) := by
  refine TR.mk Try.func15 rfl Try.ntmps15 rfl rfl (fun w_ => ?_)
  refine .seq (.region (.cons (Ev.step (ev_as rfl rfl) rfl rfl rfl (.go (fun _ _ h => h) (.seq (.region ?_))))))
  exact .cons (st_lit eV (e := 39) (l := [⟨.func (.func 19) #[] #[], rfl⟩, ⟨.func (.func 16) #[] #[], rfl⟩, ⟨.func (.func 17) #[] #[], rfl⟩, ⟨.func (.func 18) #[] #[], rfl⟩, ⟨.func (.func 21) #[] #[], rfl⟩, ⟨.func (.func 22) #[] #[], rfl⟩]) rfl rfl rfl rfl (by kernel_rfl) rfl rfl (fun w => by kernel_rfl) (fun b1 => .cons (Ev.step (ev_as rfl rfl) rfl rfl rfl (.go (fun _ _ h => h) (.ret (fun _ _ h => h) (ret1 Try.results15 rfl (.c .h .n) ⟨b1, rfl, rfl⟩))))))

theorem awake (S : Nat → Prop) (wf : World) :
    TR0 Try.prog 9 [] [] S wf (fun v_ C_ => v_ = .bool true ∧ C_ = []) := by
  refine TR.mk Try.func9 rfl Try.ntmps9 rfl rfl (fun w_ => ?_)
  refine .seq (.region (.cons (Ev.step (ev_as rfl rfl) rfl rfl rfl (.go (fun _ _ h => h) (.seq (.region ?_))))))
  refine .cons (Ev.step (ev_any (v := .agg #[.int .i64 1, .int .i64 0]) rfl (by kernel_rfl) (fun _ => by kernel_rfl)) rfl rfl rfl (.cons (Ev.step (ev_any (v := .agg #[.int .i64 1, .int .i64 1]) rfl (by kernel_rfl) (fun _ => by kernel_rfl)) rfl rfl rfl (.cons (Ev.step (ev_any (v := .agg #[.int .i64 1, .int .i64 2]) rfl (by kernel_rfl) (fun _ => by kernel_rfl)) rfl rfl rfl (.cons (Ev.step (ev_any (v := .agg #[.int .i64 1, .int .i64 3]) rfl (by kernel_rfl) (fun _ => by kernel_rfl)) rfl rfl rfl (.cons (st_alloc rfl rfl rfl rfl zf44 (fun b1 => .cons (st_alloc rfl rfl rfl rfl zf44 (fun b2 => ?_))))))))))))
  refine .cons (st_alloc rfl rfl rfl rfl zf44 (fun b3 => .cons (st_alloc rfl rfl rfl rfl zf44 (fun b4 => .cons (st_storea (l' := [.int .i64 1, .int .i64 0]) rfl rfl rfl ty44 rfl rfl rfl (.t (.t (.t .h))) rfl rfl (.cons (st_storea (l' := [.int .i64 1, .int .i64 1]) rfl rfl rfl ty44 rfl rfl rfl (.t (.t (.t .h))) rfl rfl (.cons (st_storea (l' := [.int .i64 1, .int .i64 2]) rfl rfl rfl ty44 rfl rfl rfl (.t (.t (.t .h))) rfl rfl (.cons (st_storea (l' := [.int .i64 1, .int .i64 3]) rfl rfl rfl ty44 rfl rfl rfl (.t (.t (.t .h))) rfl rfl ?_)))))))))))
  refine .go (fun _ _ h => h) (.seq (.region (.cons (Ev.step (ev_lda rfl rfl (At.whole 3 rfl) ty44) rfl rfl rfl (.cons (Ev.step (ev_lda rfl rfl (At.whole 2 rfl) ty44) rfl rfl rfl (.cons (st_lit eVis (e := 44) (l := [(Vis.mk 1 0), (Vis.mk 1 1)]) rfl rfl rfl rfl (by kernel_rfl) rfl rfl (fun w => by kernel_rfl) (fun b5 => ?_)))))))))
  refine .cons (Ev.step (ev_lda rfl rfl (At.whole 2 rfl) ty44) rfl rfl rfl (.cons (Ev.step (ev_lda rfl rfl (At.whole 1 rfl) ty44) rfl rfl rfl (.cons (st_lit eVis (e := 44) (l := [(Vis.mk 1 2), (Vis.mk 1 3)]) rfl rfl rfl rfl (by kernel_rfl) rfl rfl (fun w => by kernel_rfl) (fun b6 => .cons (st_lend0 rfl rfl rfl rfl hb10 rfl .n (.c (.t .h) (.c .h .n)) (fun w_ hw => new_ (some ⟨b5, 0, none⟩) 2 [(Vis.mk 1 0), (Vis.mk 1 1)] (some ⟨b6, 0, none⟩) 2 [(Vis.mk 1 2), (Vis.mk 1 3)] _ _ (Fr.lend hw 0 rfl (by (try simp only [List.length_nil, List.length_cons, List.length_append, List.length_set, List.length_singleton, List.length_take, List.length_drop, List.length_reverse]) <;> omega)) (Fr.lend hw 1 rfl (by (try simp only [List.length_nil, List.length_cons, List.length_append, List.length_set, List.length_singleton, List.length_take, List.length_drop, List.length_reverse]) <;> omega)) (by (try simp only [List.length_nil, List.length_cons, List.length_append, List.length_set, List.length_singleton, List.length_take, List.length_drop, List.length_reverse]) <;> omega) (by (try simp only [List.length_nil, List.length_cons, List.length_append, List.length_set, List.length_singleton, List.length_take, List.length_drop, List.length_reverse]) <;> omega)) (fun v_q10 C_q10 q10 => ?_))))))))
  obtain ⟨g7, v8, w9, rfl, rfl⟩ := q10
  show SP _ _ _ _ _ _ ⟨_, _ :: _ :: _ :: _ :: _ :: _, _, _⟩
  refine .cons (Ev.step (ev_as rfl rfl) rfl rfl rfl (.go (fun _ _ h => h) (.seq (.region (.cons (Ev.step (ev_mv rfl rfl) rfl rfl rfl (.cons (st_call0 rfl rfl rfl rfl hb19 rfl (.c .h (.c .h (.c .h .n))) (reloc_ g7 v8 w9 [(Vis.mk 1 0), (Vis.mk 1 1)] [(Vis.mk 1 2), (Vis.mk 1 3)] 0 1 0 _ _ (by (try simp only [List.length_nil, List.length_cons, List.length_append, List.length_set, List.length_singleton, List.length_take, List.length_drop, List.length_reverse]) <;> omega) (by (try simp only [List.length_nil, List.length_cons, List.length_append, List.length_set, List.length_singleton, List.length_take, List.length_drop, List.length_reverse]) <;> omega) (by omega) (by omega) (by omega)) (fun v_q16 C_q16 q16 => ?_)))))))))
  obtain ⟨r11, x12, y13, p14, q15, p17, rfl, rfl⟩ := q16
  show SP _ _ _ _ _ _ ⟨_, _ :: _ :: _ :: _, _, _⟩
  obtain ⟨rfl, rfl, rfl⟩ : r11 = true ∧ p14 = [(Vis.mk 1 1)] ∧ q15 = [(Vis.mk 1 2), (Vis.mk 1 0), (Vis.mk 1 3)] := by have h := p17; rw [show relF [(Vis.mk 1 0), (Vis.mk 1 1)] [(Vis.mk 1 2), (Vis.mk 1 3)] 0 1 0 = (true, [(Vis.mk 1 1)], [(Vis.mk 1 2), (Vis.mk 1 0), (Vis.mk 1 3)]) from by decide] at h; injection h with h1 h2; injection h2 with h2 h3; exact ⟨h1, h2, h3⟩
  refine .cons (Ev.step (ev_as rfl rfl) rfl rfl rfl (.go (fun _ _ h => h) (.seq (.region (.cons (Ev.step (ev_mv rfl rfl) rfl rfl rfl (.cons (st_call0 rfl rfl rfl rfl hb12 rfl (.c .h (.c .h (.c .h .n))) (visits_ g7 x12 y13 [(Vis.mk 1 1)] [(Vis.mk 1 2), (Vis.mk 1 0), (Vis.mk 1 3)] _ _ (by (try simp only [List.length_nil, List.length_cons, List.length_append, List.length_set, List.length_singleton, List.length_take, List.length_drop, List.length_reverse]) <;> omega) (by (try simp only [List.length_nil, List.length_cons, List.length_append, List.length_set, List.length_singleton, List.length_take, List.length_drop, List.length_reverse]) <;> omega)) (fun v_q20 C_q20 q20 => ?_)))))))))
  obtain ⟨x18, y19, rfl, rfl⟩ := q20
  show SP _ _ _ _ _ _ ⟨_, _ :: _ :: _ :: _ :: _ :: _, _, _⟩
  refine .cons (Ev.step (ev_mv rfl rfl) rfl rfl rfl (.cons (Ev.step (ev_ext rfl rfl rfl) rfl rfl rfl (.cons (Ev.step (ev_ext rfl rfl rfl) rfl rfl rfl (.cons (Ev.step (ev_as rfl rfl) rfl rfl rfl (.cons (Ev.step (ev_as rfl rfl) rfl rfl rfl (.go (fun _ _ h => h) ?_))))))))))
  refine .seq (.region (.cons (Ev.step (ev_mv rfl rfl) rfl rfl rfl (.cons (Ev.step (ev_mv rfl rfl) rfl rfl rfl (.cons (.on rfl rfl rfl (st_call0 rfl rfl rfl rfl hb15 rfl .n (all_ _ _) (fun v_q22 C_q22 q22 => ?_)))))))))
  obtain ⟨b21, rfl, rfl⟩ := q22
  show SP _ _ _ _ _ _ ⟨_, _ :: _, _, _⟩
  refine .cons (.on rfl rfl rfl (Ev.step (ev_len rfl Try.underlying36 rfl) rfl rfl rfl (.cons (.on rfl rfl rfl (Ev.step (ev_cmp (r := true) rfl rfl rfl rfl) rfl rfl rfl (.cons (Ev.step (ev_pickt rfl rfl rfl rfl) rfl rfl rfl (.cons (Ev.step (ev_mv rfl rfl) rfl rfl rfl (.cons (.on rfl rfl rfl (Ev.step (ev_mv rfl rfl) rfl rfl rfl (.cons (.on rfl rfl rfl (Ev.step (ev_lda rfl rfl (At.whole 10 rfl) ty44) rfl rfl rfl ?_)))))))))))))))
  refine .cons (.on rfl rfl rfl (st_lit eVis (e := 44) (l := [(Vis.mk 1 1)]) rfl rfl rfl rfl (by kernel_rfl) rfl rfl (fun w => by kernel_rfl) (fun b23 => ?_)))
  refine .know (row_len 5 rfl) (fun hv26 => ?_)
  obtain ⟨A24, c25, rfl, hv26_1, hv26_2⟩ := hv26
  unfold maxLen at hv26_2
  refine .cons (.on rfl rfl rfl (st_lendk rfl rfl rfl rfl hb14 rfl .n (.c (.t (.t (.t (.t (.t .h))))) (.c .h .n)) (fun w_ hw => same A24 c25 [(Vis.mk 1 1)] (some ⟨b23, 0, none⟩) 1 [(Vis.mk 1 1)] _ _ (Fr.lend hw 0 rfl (by (try simp only [List.length_nil, List.length_cons, List.length_append, List.length_set, List.length_singleton, List.length_take, List.length_drop, List.length_reverse]) <;> omega)) (Fr.lend hw 1 rfl (by (try simp only [List.length_nil, List.length_cons, List.length_append, List.length_set, List.length_singleton, List.length_take, List.length_drop, List.length_reverse]) <;> omega))) (.cons (Ev.step (ev_pickt rfl rfl rfl rfl) rfl rfl rfl (.cons (Ev.step (ev_mv rfl rfl) rfl rfl rfl (.cons (Ev.gstep (fun _ => ev_mv rfl rfl) rfl rfl rfl rfl rfl (.cons (Ev.gstep (fun _ => ev_lda rfl rfl (At.whole 10 rfl) ty44) rfl rfl rfl rfl rfl (.cons (Ev.gstep (fun _ => ev_lda rfl rfl (At.whole 12 rfl) ty44) rfl rfl rfl rfl rfl ?_))))))))))))
  refine .cons (Ev.gstep (fun _ => ev_lda rfl rfl (At.whole 9 rfl) ty44) rfl rfl rfl rfl rfl ?_)
  rcases Bool.eq_false_or_eq_true (decide ([(Vis.mk 1 1)] = [(Vis.mk 1 1)])) with hb27 | hb27
  ·
    refine SP.reslot (t := 39) rfl hb27 ?_
    refine .cons (.on rfl rfl rfl (st_lit eVis (e := 44) (l := [(Vis.mk 1 2), (Vis.mk 1 0), (Vis.mk 1 3)]) rfl rfl rfl rfl (by kernel_rfl) rfl rfl (fun w => by kernel_rfl) (fun b28 => ?_)))
    refine .know (row_len 7 rfl) (fun hv31 => ?_)
    obtain ⟨A29, c30, rfl, hv31_1, hv31_2⟩ := hv31
    unfold maxLen at hv31_2
    exact .cons (.on rfl rfl rfl (st_lendk rfl rfl rfl rfl hb14 (lkA1 (lkg rfl hb27) (lkA1 rfl lkA0)) .n (.c (.t (.t (.t (.t (.t (.t (.t .h))))))) (.c .h .n)) (fun w_ hw => same A29 c30 [(Vis.mk 1 2), (Vis.mk 1 0), (Vis.mk 1 3)] (some ⟨b28, 0, none⟩) 3 [(Vis.mk 1 2), (Vis.mk 1 0), (Vis.mk 1 3)] _ _ (Fr.lend hw 0 rfl (by (try simp only [List.length_nil, List.length_cons, List.length_append, List.length_set, List.length_singleton, List.length_take, List.length_drop, List.length_reverse]) <;> omega)) (Fr.lend hw 1 rfl (by (try simp only [List.length_nil, List.length_cons, List.length_append, List.length_set, List.length_singleton, List.length_take, List.length_drop, List.length_reverse]) <;> omega))) (.cons (Ev.step (ev_pickt rfl rfl rfl rfl) rfl rfl rfl (.cons (Ev.step (ev_as rfl rfl) rfl rfl rfl (.go (fun _ _ h => h) (.ret (fun _ _ h => h) (ret1 Try.results9 rfl .n ⟨(congrArg Value.bool (by decide)), rfl⟩)))))))))
  ·
    refine SP.reslot (t := 39) rfl hb27 ?_
    exact absurd hb27 (by decide)

end Go.Proofs.Ytfmfhkaimhmgdaa.Sx
