import Derived.Test.YtfmfhkaimhmgdaaProg
import Derived.Test.YtfmfhkaimhmgdaaSxGrow
import Derived.Test.YtfmfhkaimhmgdaaSx17A
import Derived.Test.YtfmfhkaimhmgdaaSx17S
set_option maxRecDepth 20000
set_option linter.unusedVariables false
set_option linter.unusedSimpArgs false
namespace Go.Proofs.Ytfmfhkaimhmgdaa.Sx.FI
open Go Go.SX Go.Proofs
theorem fo49_0 : fo Try.prog 49 0 = some 0 := by kernel_rfl
theorem ty22 : ty Try.prog 22 = some (false, 1) := by kernel_rfl
theorem fo49_1 : fo Try.prog 49 1 = some 1 := by kernel_rfl
theorem mo : Try.prog.follows .mixedOrders = true := by kernel_rfl
theorem hb20 : hasBody Try.prog 20 = true := by kernel_rfl
theorem ty44 : ty Try.prog 44 = some (true, 2) := by kernel_rfl
theorem zf44 : (Try.prog.info? 44).bind (fun i => i.zero.map Value.cells) = some (List.toArray [.int .i64 0, .int .i64 0]) := by kernel_rfl
theorem hb41 : hasBody Try.prog 41 = true := by kernel_rfl
theorem hb42 : hasBody Try.prog 42 = true := by kernel_rfl
theorem hb43 : hasBody Try.prog 43 = true := by kernel_rfl


end Go.Proofs.Ytfmfhkaimhmgdaa.Sx.FI
namespace Go.Proofs.Ytfmfhkaimhmgdaa.Sx
open Go Go.SX Go.Proofs FI





theorem at_ (i : Int) (n : Int) (S : Nat → Prop) (wf : World) :
    TR0 Try.prog 31 [.int .i64 i, .int .i64 n] [] S wf (fun v_ C_ => v_ = .bool (decide (i ≥ 0) && decide (i ≤ n)) ∧ C_ = []) := by
  refine TR.mk Try.func31 rfl Try.ntmps31 rfl rfl (fun w_ => ?_)
  refine .seq (.region (.cons (Ev.step (ev_as rfl rfl) rfl rfl rfl (.go (fun _ _ h => h) (.seq (.region ?_))))))
  refine .cons (Ev.step (ev_mv rfl rfl) rfl rfl rfl (.cons (Ev.step (ev_cmp rfl rfl rfl rfl) rfl rfl rfl (.cons (Ev.step (ev_mv rfl rfl) rfl rfl rfl (.cons (Ev.gstep (fun _ => ev_mv rfl rfl) rfl rfl rfl rfl rfl (.cons (Ev.gstep (fun _ => ev_mv rfl rfl) rfl rfl rfl rfl rfl (.cons (Ev.gstep (fun hb => ev_cmp rfl (lkg rfl hb) (lkg rfl hb) rfl) rfl rfl rfl rfl rfl ?_)))))))))))
  exact .cons (Ev.step (ev_and rfl rfl rfl rfl) rfl rfl rfl (.cons (Ev.step (ev_as rfl rfl) rfl rfl rfl (.go (fun _ _ h => h) (.ret (fun _ _ h => h) (ret1 Try.results31 rfl .n ⟨rfl, rfl⟩))))))

theorem size_nil (S : Nat → Prop) (wf : World) :
    TR0 Try.prog 30 [.pointer none] [] S wf (fun v_ C_ => v_ = .tuple #[.int .i64 0, .int .i64 0] ∧ C_ = []) := by
  refine TR.mk Try.func30 rfl Try.ntmps30 rfl rfl (fun w_ => ?_)
  refine .seq (.region (.cons (Ev.step (ev_as rfl rfl) rfl rfl rfl (.cons (Ev.step (ev_as rfl rfl) rfl rfl rfl (.go (fun _ _ h => h) (.seq ?_)))))))
  refine .seq (.region (.cons (Ev.step (ev_mv rfl rfl) rfl rfl rfl (.cons (Ev.step (ev_bin rfl rfl rfl (r := .bool true) (fun _ => by kernel_rfl)) rfl rfl rfl (.go (fun _ _ h => h) (.cond_t rfl ?_)))))))
  exact .seq (.region (.cons (Ev.step (ev_as rfl rfl) rfl rfl rfl (.cons (Ev.step (ev_as rfl rfl) rfl rfl rfl (.go (fun _ _ h => h) (.ret (fun _ _ h => h) (ret2 Try.results30 rfl rfl .n ⟨rfl, rfl⟩))))))))

theorem size_ (g : Nat) (A : Option Addr) (n : Nat) (c : Nat) (B : Option Addr) (m : Nat) (d : Nat) (S : Nat → Prop) (wf : World) :
    TR0 Try.prog 30 [.pointer (some ⟨g, 0, none⟩)] [cel g [.slice A n c, .slice B m d] 49] S wf (fun v_ C_ => v_ = .tuple #[.int .i64 (n : Int), .int .i64 (m : Int)] ∧ C_ = [cel g [.slice A n c, .slice B m d] 49]) := by
  refine TR.mk Try.func30 rfl Try.ntmps30 rfl rfl (fun w_ => ?_)
  refine .seq (.region (.cons (Ev.step (ev_as rfl rfl) rfl rfl rfl (.cons (Ev.step (ev_as rfl rfl) rfl rfl rfl (.go (fun _ _ h => h) (.seq ?_)))))))
  refine .seq (.region (.cons (Ev.step (ev_mv rfl rfl) rfl rfl rfl (.cons (Ev.step (ev_bin rfl rfl rfl (r := .bool false) (fun _ => by kernel_rfl)) rfl rfl rfl (.go (fun _ _ h => h) (.cond_f rfl ?_)))))))
  refine .skipgo (fun _ _ h => h) (.seq ?_)
  refine SC.draw mo [] [] .n (fun _ _ _ c hc => by cases hc) (fun wf_1 hl_1 hx_1 hR_1 => ?_)
  refine SR.take 0 rfl (by kernel_rfl) (by kernel_rfl) (by kernel_rfl) rfl (fun _ _ _ h => h) rfl rfl rfl (ev_mv rfl rfl) (SR.take 1 rfl (by kernel_rfl) (by kernel_rfl) (by kernel_rfl) rfl (fun _ _ _ h => h) rfl rfl rfl (ev_nil rfl rfl) (SR.take 2 rfl (by kernel_rfl) (by kernel_rfl) (by kernel_rfl) rfl (fun _ _ _ h => h) rfl rfl rfl (ev_fa rfl fo49_0 rfl (r := 0) rfl) (SR.take 3 rfl (by kernel_rfl) (by kernel_rfl) (by kernel_rfl) rfl (fun _ _ _ h => h) rfl rfl rfl (ev_ld1 rfl ty22 rfl (At.d (At.lent hR_1 0 rfl rfl))) (SR.take 4 rfl (by kernel_rfl) (by kernel_rfl) (by kernel_rfl) rfl (fun _ _ _ h => h) rfl rfl rfl (ev_len rfl Try.underlying22 rfl) (SR.take 5 rfl (by kernel_rfl) (by kernel_rfl) (by kernel_rfl) rfl (fun _ _ _ h => h) rfl rfl rfl (ev_mv rfl rfl) ?_)))))
  refine SR.take 6 rfl (by kernel_rfl) (by kernel_rfl) (by kernel_rfl) rfl (fun _ _ _ h => h) rfl rfl rfl (ev_nil rfl rfl) (SR.take 7 rfl (by kernel_rfl) (by kernel_rfl) (by kernel_rfl) rfl (fun _ _ _ h => h) rfl rfl rfl (ev_fa rfl fo49_1 rfl (r := 1) rfl) (SR.take 8 rfl (by kernel_rfl) (by kernel_rfl) (by kernel_rfl) rfl (fun _ _ _ h => h) rfl rfl rfl (ev_ld1 rfl ty22 rfl (At.d (At.lent hR_1 0 rfl rfl))) (SR.take 9 rfl (by kernel_rfl) (by kernel_rfl) (by kernel_rfl) rfl (fun _ _ _ h => h) rfl rfl rfl (ev_len rfl Try.underlying22 rfl) (SR.take 10 rfl (by kernel_rfl) (by kernel_rfl) (by kernel_rfl) rfl (fun _ _ _ h => h) rfl rfl rfl (ev_as rfl rfl) (SR.take 11 rfl (by kernel_rfl) (by kernel_rfl) (by kernel_rfl) rfl (fun _ _ _ h => h) rfl rfl rfl (ev_as rfl rfl) ?_)))))
  exact SR.fin (by kernel_rfl) hl_1 hx_1 hR_1 .n (SQ.go (fun _ _ h => h) (.ret (fun _ _ h => h) (ret2 Try.results30 rfl rfl (.c .h .n) ⟨rfl, rfl⟩)))

theorem new_ (A : Option Addr) (c : Nat) (a : List Vis) (B : Option Addr) (d : Nat) (b : List Vis) (S : Nat → Prop) (wf : World) (hA : Fr eVis S wf A a) (hB : Fr eVis S wf B b) (ha : a.length ≤ 1000000) (hb : b.length ≤ 1000000) :
    TR0 Try.prog 10 [.slice A a.length c, .slice B b.length d] [] S wf (fun v_ C_ => ∃ (g : Nat) (v : Value) (w : Value), v_ = .pointer (some ⟨g, 0, none⟩) ∧ C_ = [cel g [v, w] 49, rw_ eVis 44 (v) a, rw_ eVis 44 (w) b]) := by
  refine TR.mk Try.func10 rfl Try.ntmps10 rfl rfl (fun w_ => ?_)
  refine .seq (.region (.cons (Ev.step (ev_as rfl rfl) rfl rfl rfl (.go (fun _ _ h => h) (.seq (.region ?_))))))
  refine .cons (Ev.step (ev_mv rfl rfl) rfl rfl rfl (.cons (st_call0 rfl rfl rfl rfl hb20 rfl .n (clone A a.length c a _ _ hA (by (try simp only [List.length_nil, List.length_cons, List.length_append, List.length_set, List.length_singleton, List.length_take, List.length_drop, List.length_reverse]) <;> omega) (by (try simp only [List.length_nil, List.length_cons, List.length_append, List.length_set, List.length_singleton, List.length_take, List.length_drop, List.length_reverse]) <;> omega)) (fun v_q2 C_q2 q2 => ?_))))
  obtain ⟨v1, rfl, rfl⟩ := q2
  show SP _ _ _ _ _ _ ⟨_, _ :: _, _, _⟩
  refine .cons (Ev.step (ev_mv rfl rfl) rfl rfl rfl (.cons (st_call0 rfl rfl rfl rfl hb20 rfl .n (clone B b.length d b _ _ hB (by (try simp only [List.length_nil, List.length_cons, List.length_append, List.length_set, List.length_singleton, List.length_take, List.length_drop, List.length_reverse]) <;> omega) (by (try simp only [List.length_nil, List.length_cons, List.length_append, List.length_set, List.length_singleton, List.length_take, List.length_drop, List.length_reverse]) <;> omega)) (fun v_q4 C_q4 q4 => ?_))))
  obtain ⟨v3, rfl, rfl⟩ := q4
  show SP _ _ _ _ _ _ ⟨_, _ :: _, _, _⟩
  refine .know (row_len 1 rfl) (fun hv7 => ?_)
  obtain ⟨A5, c6, rfl, hv7_1, hv7_2⟩ := hv7
  unfold maxLen at hv7_2
  refine .know (row_len 0 rfl) (fun hv10 => ?_)
  obtain ⟨A8, c9, rfl, hv10_1, hv10_2⟩ := hv10
  unfold maxLen at hv10_2
  exact .cons (Ev.step (ev_any (v := .agg #[.slice A5 a.length c6, .slice A8 b.length c9]) rfl (by kernel_rfl) (fun _ => by kernel_rfl)) rfl rfl rfl (.cons (st_boxa rfl rfl rfl rfl rfl (fun b11 => .cons (Ev.step (ev_as rfl rfl) rfl rfl rfl (.go (fun _ _ h => h) (.ret (fun _ _ h => h) (ret1 Try.results10 rfl (.c .h (.c (.t .h) (.c .h .n))) ⟨b11, .slice A5 a.length c6, .slice A8 b.length c9, rfl, rfl⟩))))))))

theorem visits_ (g : Nat) (v : Value) (w : Value) (a : List Vis) (b : List Vis) (S : Nat → Prop) (wf : World) (ha : a.length ≤ 1000000) (hb : b.length ≤ 1000000) :
    TR0 Try.prog 12 [.pointer (some ⟨g, 0, none⟩)] [cel g [v, w] 49, rw_ eVis 44 (v) a, rw_ eVis 44 (w) b] S wf (fun v_ C_ => ∃ (x : Value) (y : Value), v_ = .tuple #[x, y] ∧ C_ = [cel g [v, w] 49, rw_ eVis 44 (v) a, rw_ eVis 44 (w) b, rw_ eVis 44 (x) a, rw_ eVis 44 (y) b]) := by
  refine TR.mk Try.func12 rfl Try.ntmps12 rfl rfl (fun w_ => ?_)
  refine .seq (.region (.cons (Ev.step (ev_as rfl rfl) rfl rfl rfl (.cons (Ev.step (ev_as rfl rfl) rfl rfl rfl (.go (fun _ _ h => h) (.seq ?_)))))))
  refine .seq (.region (.cons (Ev.step (ev_mv rfl rfl) rfl rfl rfl (.cons (Ev.step (ev_bin rfl rfl rfl (r := .bool false) (fun _ => by kernel_rfl)) rfl rfl rfl (.go (fun _ _ h => h) (.cond_f rfl ?_)))))))
  refine .skipgo (fun _ _ h => h) (.seq ?_)
  refine .know (row_len 1 rfl) (fun hv3 => ?_)
  obtain ⟨A1, c2, rfl, hv3_1, hv3_2⟩ := hv3
  unfold maxLen at hv3_2
  refine .know (row_len 2 rfl) (fun hv6 => ?_)
  obtain ⟨A4, c5, rfl, hv6_1, hv6_2⟩ := hv6
  unfold maxLen at hv6_2
  refine SC.draw mo [] [] .n (fun _ _ _ c hc => by cases hc) (fun wf_7 hl_7 hx_7 hR_7 => ?_)
  refine SR.take 0 rfl (by kernel_rfl) (by kernel_rfl) (by kernel_rfl) rfl (fun _ _ _ h => h) rfl rfl rfl (ev_mv rfl rfl) (SR.take 1 rfl (by kernel_rfl) (by kernel_rfl) (by kernel_rfl) rfl (fun _ _ _ h => h) rfl rfl rfl (ev_nil rfl rfl) (SR.take 2 rfl (by kernel_rfl) (by kernel_rfl) (by kernel_rfl) rfl (fun _ _ _ h => h) rfl rfl rfl (ev_fa rfl fo49_0 rfl (r := 0) rfl) (SR.take 3 rfl (by kernel_rfl) (by kernel_rfl) (by kernel_rfl) rfl (fun _ _ _ h => h) rfl rfl rfl (ev_ld1 rfl ty22 rfl (At.d (At.lent hR_7 0 rfl rfl))) (SR.take 5 rfl (by kernel_rfl) (by kernel_rfl) (by kernel_rfl) rfl (fun _ _ _ h => h) rfl rfl rfl (ev_mv rfl rfl) (SR.take 6 rfl (by kernel_rfl) (by kernel_rfl) (by kernel_rfl) rfl (fun _ _ _ h => h) rfl rfl rfl (ev_nil rfl rfl) ?_)))))
  refine SR.take 7 rfl (by kernel_rfl) (by kernel_rfl) (by kernel_rfl) rfl (fun _ _ _ h => h) rfl rfl rfl (ev_fa rfl fo49_1 rfl (r := 1) rfl) (SR.take 8 rfl (by kernel_rfl) (by kernel_rfl) (by kernel_rfl) rfl (fun _ _ _ h => h) rfl rfl rfl (ev_ld1 rfl ty22 rfl (At.d (At.lent hR_7 0 rfl rfl))) (SR.one (j := 4) (by kernel_rfl) rfl (st_call0 rfl rfl rfl rfl hb20 rfl .n (clone A1 a.length c2 a _ _ (Fr.lent (S := S) hR_7 1 rfl (by (try simp only [List.length_nil, List.length_cons, List.length_append, List.length_set, List.length_singleton, List.length_take, List.length_drop, List.length_reverse]) <;> omega)) (by (try simp only [List.length_nil, List.length_cons, List.length_append, List.length_set, List.length_singleton, List.length_take, List.length_drop, List.length_reverse]) <;> omega) (by (try simp only [List.length_nil, List.length_cons, List.length_append, List.length_set, List.length_singleton, List.length_take, List.length_drop, List.length_reverse]) <;> omega)) (fun v_q9 C_q9 q9 => ⟨tt0, ?_⟩))))
  obtain ⟨v8, rfl, rfl⟩ := q9
  show SR _ _ _ _ _ _ _ _ _ ⟨_, _ :: _, _, _⟩
  refine SR.one (j := 9) (by kernel_rfl) rfl (st_call0 rfl rfl rfl rfl hb20 rfl .n (clone A4 b.length c5 b _ _ (Fr.lent (S := S) hR_7 2 rfl (by (try simp only [List.length_nil, List.length_cons, List.length_append, List.length_set, List.length_singleton, List.length_take, List.length_drop, List.length_reverse]) <;> omega)) (by (try simp only [List.length_nil, List.length_cons, List.length_append, List.length_set, List.length_singleton, List.length_take, List.length_drop, List.length_reverse]) <;> omega) (by (try simp only [List.length_nil, List.length_cons, List.length_append, List.length_set, List.length_singleton, List.length_take, List.length_drop, List.length_reverse]) <;> omega)) (fun v_q11 C_q11 q11 => ⟨tt0, ?_⟩))
  obtain ⟨v10, rfl, rfl⟩ := q11
  show SR _ _ _ _ _ _ _ _ _ ⟨_, _ :: _, _, _⟩
  exact SR.take 10 rfl (by kernel_rfl) (by kernel_rfl) (by kernel_rfl) rfl (fun _ _ _ h => h) rfl rfl rfl (ev_as rfl rfl) (SR.take 11 rfl (by kernel_rfl) (by kernel_rfl) (by kernel_rfl) rfl (fun _ _ _ h => h) rfl rfl rfl (ev_as rfl rfl) (SR.fin (by kernel_rfl) hl_7 hx_7 hR_7 (.c (.c .n)) (SQ.go (fun _ _ h => h) (.ret (fun _ _ h => h) (ret2 Try.results12 rfl rfl (.c (.t (.t .h)) (.c (.t (.t .h)) (.c (.t (.t .h)) (.c (.t .h) (.c .h .n))))) ⟨v_q9, v_q11, rfl, rfl⟩)))))

theorem visits_nil (S : Nat → Prop) (wf : World) :
    TR0 Try.prog 12 [.pointer none] [] S wf (fun v_ C_ => v_ = .tuple #[.slice none 0 0, .slice none 0 0] ∧ C_ = []) := by
  refine TR.mk Try.func12 rfl Try.ntmps12 rfl rfl (fun w_ => ?_)
  refine .seq (.region (.cons (Ev.step (ev_as rfl rfl) rfl rfl rfl (.cons (Ev.step (ev_as rfl rfl) rfl rfl rfl (.go (fun _ _ h => h) (.seq ?_)))))))
  refine .seq (.region (.cons (Ev.step (ev_mv rfl rfl) rfl rfl rfl (.cons (Ev.step (ev_bin rfl rfl rfl (r := .bool true) (fun _ => by kernel_rfl)) rfl rfl rfl (.go (fun _ _ h => h) (.cond_t rfl ?_)))))))
  exact .seq (.region (.cons (Ev.step (ev_as rfl rfl) rfl rfl rfl (.cons (Ev.step (ev_as rfl rfl) rfl rfl rfl (.go (fun _ _ h => h) (.ret (fun _ _ h => h) (ret2 Try.results12 rfl rfl .n ⟨rfl, rfl⟩))))))))

theorem taken_ (A : Option Addr) (n : Nat) (c : Nat) (l : List Vis) (B : Option Addr) (d : Nat) (m : List Vis) (S : Nat → Prop) (wf : World) (hA : Fr eVis S wf A l) (hB : Fr eVis S wf B m) (hn : l.length = n) (hl : l.length ≤ 1000000) (hm : m.length ≤ 1000000) :
    TR0 Try.prog 35 [.slice A n c, .slice B m.length d] [] S wf (fun v_ C_ => ∃ (u : Value) (X : List Vis) (r : Bool), ((X, r) = takeG l m) ∧ v_ = .tuple #[u, .bool r] ∧ C_ = [rw_ eVis 44 (u) X]) := by
  refine TR.mk Try.func35 rfl Try.ntmps35 rfl rfl (fun w_ => ?_)
  refine .seq (.region (.cons (Ev.step (ev_as rfl rfl) rfl rfl rfl (.cons (Ev.step (ev_as rfl rfl) rfl rfl rfl (.go (fun _ _ h => h) (.seq ?_)))))))
  refine .region (.cons (Ev.step (ev_mv rfl rfl) rfl rfl rfl (.cons (st_call0 rfl rfl rfl rfl hb20 rfl .n (clone A n c l _ _ hA (by (try simp only [List.length_nil, List.length_cons, List.length_append, List.length_set, List.length_singleton, List.length_take, List.length_drop, List.length_reverse]) <;> omega) (by (try simp only [List.length_nil, List.length_cons, List.length_append, List.length_set, List.length_singleton, List.length_take, List.length_drop, List.length_reverse]) <;> omega)) (fun v_q2 C_q2 q2 => ?_)))))
  obtain ⟨v1, rfl, rfl⟩ := q2
  show SP _ _ _ _ _ _ ⟨_, _ :: _, _, _⟩
  refine .cons (Ev.step (ev_as rfl rfl) rfl rfl rfl (.go (fun _ _ h => h) (.seq (.seq (.region (.cons (Ev.step (ev_mv rfl rfl) rfl rfl rfl ?_)))))))
  refine .cons (Ev.step (ev_len rfl Try.underlying22 rfl) rfl rfl rfl (.cons (Ev.step (ev_mv rfl rfl) rfl rfl rfl (.go (fun _ _ h => h) (.block ?_)))))
  refine .loop (X := Int × (List Vis) × Value) (fun ⟨x, X, U⟩ => 0 ≤ x ∧ x ≤ m.length ∧ X.length ≤ 1000000 ∧ takeG X (m.drop x.toNat) = takeG l m) (fun ⟨x, X, U⟩ => [(12, .slice B m.length d), (13, .int .i64 (m.length : Int)), (14, .int .i64 x), (6, U)]) (fun ⟨x, X, U⟩ => [rw_ eVis 44 (U) X]) (fun _ => S) (fun _ => wf) (fun ⟨x, X, U⟩ => (m.length - x.toNat)) (fun a_ w_ hs_ hw_ => ⟨⟨0, l, v_q2⟩, ⟨by omega, by omega, by omega, by simp⟩, hs_.mono (Sub.get (.c rfl (.c rfl (.c rfl (.c rfl .n))))), hw_.keep (.c .h .n)⟩) (fun ⟨x, X, U⟩ ⟨q_0, q_1, q_2, q_3⟩ => ?_)
  show SC _ _ _ _ _ ⟨[(12, .slice B m.length d), (13, .int .i64 (m.length : Int)), (14, .int .i64 x), (6, U)], [rw_ eVis 44 (U) X], S, wf⟩
  have hix := idx_lt (l := X) (v := ⟨(gt m x).kind, (gt m x).item⟩)
  refine .seq (.region (.cons (Ev.step (ev_cmp rfl rfl rfl rfl) rfl rfl rfl (.go (fun _ _ h => h) (.seq (.condI rfl bD (fun h3 => ?_) (fun h3 => ?_)))))))
  ·
    refine .skipgo (fun _ _ h => h) (.seq (.block (.seq (.region (.cons (Ev.step (ev_ix rfl Try.underlying22 ty44 rfl rfl (by omega) (by omega) (fun _ _ => Fr.adr (i := x) hB (by omega) (by omega))) rfl rfl rfl ?_))))))
    refine .cons (Ev.step (ev_lda rfl rfl (At.w (Fr.el (i := x) hB (by omega) (by omega))) ty44) rfl rfl rfl (.cons (st_alloc rfl rfl rfl rfl zf44 (fun b4 => .cons (st_storea (l' := [.int .i64 ((gt m x).kind), .int .i64 ((gt m x).item)]) rfl rfl rfl ty44 rfl rfl rfl .h rfl rfl (.go (fun _ _ h => h) (.seq (.region ?_))))))))
    refine .cons (Ev.step (ev_mv rfl rfl) rfl rfl rfl (.cons (Ev.step (ev_lda rfl rfl (At.whole 0 rfl) ty44) rfl rfl rfl ?_)))
    refine .know (row_len 1 rfl) (fun hv7 => ?_)
    obtain ⟨A5, c6, rfl, hv7_1, hv7_2⟩ := hv7
    unfold maxLen at hv7_2
    refine .cons (st_lendk rfl rfl rfl rfl hb41 rfl .n (.c (.t .h) .n) (fun w_ hw => index_ A5 X.length c6 X ((gt m x).kind) ((gt m x).item) _ _ (Fr.lend hw 0 rfl (by (try simp only [List.length_nil, List.length_cons, List.length_append, List.length_set, List.length_singleton, List.length_take, List.length_drop, List.length_reverse]) <;> omega)) (by (try simp only [List.length_nil, List.length_cons, List.length_append, List.length_set, List.length_singleton, List.length_take, List.length_drop, List.length_reverse]) <;> omega) (by (try simp only [List.length_nil, List.length_cons, List.length_append, List.length_set, List.length_singleton, List.length_take, List.length_drop, List.length_reverse]) <;> omega)) (.cons (Ev.step (ev_as rfl rfl) rfl rfl rfl (.go (fun _ _ h => h) (.seq (.seq ?_))))))
    refine SC.draw mo [] [] .n (fun _ _ _ c hc => by cases hc) (fun wf_8 hl_8 hx_8 hR_8 => ?_)
    refine SR.take 0 rfl (by kernel_rfl) (by kernel_rfl) (by kernel_rfl) rfl (fun _ _ _ h => h) rfl rfl rfl (ev_mv rfl rfl) (SR.take 1 rfl (by kernel_rfl) (by kernel_rfl) (by kernel_rfl) rfl (fun _ _ _ h => h) rfl rfl rfl (ev_cmp rfl rfl rfl rfl) (SR.take 2 rfl (by kernel_rfl) (by kernel_rfl) (by kernel_rfl) rfl (fun _ _ _ h => h) rfl rfl rfl (ev_mv rfl rfl) (SR.gtake 3 rfl (by kernel_rfl) (by kernel_rfl) (by kernel_rfl) rfl (fun _ _ _ _ h => h) rfl rfl rfl rfl rfl (fun _ => ev_mv rfl rfl) (SR.gtake 4 rfl (by kernel_rfl) (by kernel_rfl) (by kernel_rfl) rfl (fun _ _ _ _ h => h) rfl rfl rfl rfl rfl (fun _ => ev_mv rfl rfl) (SR.gtake 5 rfl (by kernel_rfl) (by kernel_rfl) (by kernel_rfl) rfl (fun _ _ _ _ h => h) rfl rfl rfl rfl rfl (fun hb => have hp := bF bD hb; ev_add rfl (lkg rfl hb) rfl (r := ((idxV X ⟨((gt m x).kind), ((gt m x).item)⟩) + 1)) rfl (by have _h := hp; omega) (by have _h := hp; omega)) ?_)))))
    refine SR.gtake 6 rfl (by kernel_rfl) (by kernel_rfl) (by kernel_rfl) rfl (fun _ _ _ _ h => h) rfl rfl rfl rfl rfl (fun hb => have hp := bF bD hb; ev_slc rfl Try.underlying22 ty44 (lkg rfl hb) (.s (lkg rfl hb) (by have _h := hp; omega)) .n (by have _h := hp; omega) (by have _h := hp; omega)) (SR.gtake 7 rfl (by kernel_rfl) (by kernel_rfl) (by kernel_rfl) rfl (fun _ _ _ _ h => h) rfl rfl rfl rfl rfl (fun _ => ev_lda (cs := [.int .i64 ((gt m x).kind), .int .i64 ((gt m x).item)]) rfl rfl (At.d (At.lent hR_8 0 rfl rfl)) ty44) (SR.one (j := 8) (by kernel_rfl) rfl (st_gcallk rfl rfl rfl rfl rfl rfl hb42 (fun hb => (lkA1 (lkg rfl hb) (lkA1 (lkg rfl hb) lkA0))) .n (fun hb => have hp := bF bD hb; contains_ (cutA A5 c6 (((idxV X ⟨((gt m x).kind), ((gt m x).item)⟩) + 1)).toNat 2) (X.length - (((idxV X ⟨((gt m x).kind), ((gt m x).item)⟩) + 1)).toNat) (c6 - (((idxV X ⟨((gt m x).kind), ((gt m x).item)⟩) + 1)).toNat) ((X.take X.length).drop (((idxV X ⟨((gt m x).kind), ((gt m x).item)⟩) + 1)).toNat) ((gt m x).kind) ((gt m x).item) _ _ (Fr.view (Fr.lent (S := S) hR_8 1 rfl (by (try simp only [List.length_nil, List.length_cons, List.length_append, List.length_set, List.length_singleton, List.length_take, List.length_drop, List.length_reverse]) <;> omega)) (((idxV X ⟨((gt m x).kind), ((gt m x).item)⟩) + 1)).toNat X.length 2 rfl (by have _h := hp; omega)) (by (try simp only [List.length_nil, List.length_cons, List.length_append, List.length_set, List.length_singleton, List.length_take, List.length_drop, List.length_reverse]) <;> omega) (by (try simp only [List.length_nil, List.length_cons, List.length_append, List.length_set, List.length_singleton, List.length_take, List.length_drop, List.length_reverse]) <;> omega)) ⟨tt0, (SR.take 9 rfl (by kernel_rfl) (by kernel_rfl) (by kernel_rfl) rfl (fun _ _ _ h => h) rfl rfl rfl (ev_or rfl rfl rfl rfl) (SR.fin (by kernel_rfl) hl_8 hx_8 hR_8 .n (SQ.go (fun _ _ h => h) ?_)))⟩)))
    refine .condI rfl (bO bD bD) (fun h9 => ?_) (fun h9 => ?_)
    ·
      refine .seq (.region (.cons (Ev.step (ev_as rfl rfl) rfl rfl rfl (.cons (Ev.step (ev_as rfl rfl) rfl rfl rfl (.go (fun _ _ h => h) ?_))))))
      refine SC.nilrow eVis 44 ?_
      exact .ret (fun _ _ h => h) (ret2 Try.results35 rfl rfl (.c .h .n) ⟨.slice none 0 0, [], false, (tk_no q_3 (by omega) (by omega) (by assumption)), rfl, rfl⟩)
    ·
      refine .skipgo (fun _ _ h => h) (.region (.cons (Ev.step (ev_mv rfl rfl) rfl rfl rfl (.cons (Ev.step (ev_mv rfl rfl) rfl rfl rfl (.cons (Ev.step (ev_mv rfl rfl) rfl rfl rfl (.cons (Ev.step (ev_add rfl rfl rfl (r := ((idxV X ⟨((gt m x).kind), ((gt m x).item)⟩) + 1)) rfl (by omega) (by omega)) rfl rfl rfl ?_)))))))))
      refine .cons (st_call0 rfl rfl rfl rfl hb43 rfl (.c (.t .h) .n) (delete_ (.slice A5 X.length c6) X (idxV X ⟨((gt m x).kind), ((gt m x).item)⟩) ((idxV X ⟨((gt m x).kind), ((gt m x).item)⟩) + 1) _ _ (by omega) (by omega) (by (try simp only [List.length_nil, List.length_cons, List.length_append, List.length_set, List.length_singleton, List.length_take, List.length_drop, List.length_reverse]) <;> omega) (by (try simp only [List.length_nil, List.length_cons, List.length_append, List.length_set, List.length_singleton, List.length_take, List.length_drop, List.length_reverse]) <;> omega)) (fun v_q11 C_q11 q11 => ?_))
      obtain ⟨u10, rfl, rfl⟩ := q11
      show SP _ _ _ _ _ _ ⟨_, _ :: _, _, _⟩
      exact .cons (Ev.step (ev_as rfl rfl) rfl rfl rfl (.go (fun _ _ h => h) (.region (.cons (Ev.step (ev_add rfl rfl rfl (r := (x + 1)) rfl (by omega) (by omega)) rfl rfl rfl (.cons (Ev.step (ev_mv rfl rfl) rfl rfl rfl (SP.nil (SQ.round (X := Int × (List Vis) × Value) (x := (x, X, (.slice A5 X.length c6))) ⟨(x + 1), (X.take (idxV X ⟨((gt m x).kind), ((gt m x).item)⟩).toNat ++ X.drop ((idxV X ⟨((gt m x).kind), ((gt m x).item)⟩) + 1).toNat), v_q11⟩ (by exact ⟨by omega, by omega, by simp only [List.length_append, List.length_take, List.length_drop]; omega, tk_next q_3 (by omega) (by omega) (by assumption)⟩) (by dsimp only; omega) (Sub.get (.c rfl (.c rfl (.c rfl (.c rfl .n))))) (fun w hw => hw.keep (.c .h .n)))))))))))
  ·
    refine .exit (fun _ _ h => h) (.seq (.region (.cons (Ev.step (ev_mv rfl rfl) rfl rfl rfl (.cons (Ev.step (ev_as rfl rfl) rfl rfl rfl (.cons (Ev.step (ev_as rfl rfl) rfl rfl rfl ?_))))))))
    exact .go (fun _ _ h => h) (.ret (fun _ _ h => h) (ret2 Try.results35 rfl rfl (.c .h .n) ⟨U, X, true, (tk_end q_3 (by assumption)), rfl, rfl⟩))

end Go.Proofs.Ytfmfhkaimhmgdaa.Sx
