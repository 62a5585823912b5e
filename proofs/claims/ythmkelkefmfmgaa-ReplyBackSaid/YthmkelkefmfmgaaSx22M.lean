import Derived.Test.YthmkelkefmfmgaaProg
import Derived.Test.YthmkelkefmfmgaaSxShow
import Derived.Test.YthmkelkefmfmgaaSx22A
import Derived.Test.YthmkelkefmfmgaaSx22B
import Derived.Test.YthmkelkefmfmgaaSx22W
set_option maxRecDepth 20000
set_option maxHeartbeats 4000000
set_option linter.unusedVariables false
set_option linter.unusedSimpArgs false
namespace Go.Proofs.Ythmkelkefmfmgaa.Sx.FM
open Go Go.SX Go.Proofs
theorem fo65_0 : fo Try.prog 65 0 = some 0 := by kernel_rfl
theorem ty34 : ty Try.prog 34 = some (false, 1) := by kernel_rfl
theorem ty90 : ty Try.prog 90 = some (true, 6) := by kernel_rfl
theorem ai90 : (Try.prog.info? 90).map (fun i => (i.zero, i.size, i.bytes)) = some (some (.agg #[.int .i64 0, .bool false, .int .i64 0, .string ⟨#[]⟩, .slice none 0 0, .slice none 0 0]), 6, 88) := by kernel_rfl
theorem mo : Try.prog.follows .mixedOrders = true := by kernel_rfl
theorem hbd48 : hasBody Try.prog 48 = true := by kernel_rfl
theorem zf90 : (Try.prog.info? 90).bind (fun i => i.zero.map Value.cells) = some (List.toArray [.int .i64 0, .bool false, .int .i64 0, .string ⟨#[]⟩, .slice none 0 0, .slice none 0 0]) := by kernel_rfl
theorem ty69 : ty Try.prog 69 = some (true, 2) := by kernel_rfl
theorem zf69 : (Try.prog.info? 69).bind (fun i => i.zero.map Value.cells) = some (List.toArray [.string ⟨#[]⟩, .int .i64 0]) := by kernel_rfl
theorem fo90_4 : fo Try.prog 90 4 = some 4 := by kernel_rfl
theorem ty82 : ty Try.prog 82 = some (false, 1) := by kernel_rfl
theorem fo69_0 : fo Try.prog 69 0 = some 0 := by kernel_rfl
theorem ty9 : ty Try.prog 9 = some (false, 1) := by kernel_rfl
theorem ai9 : (Try.prog.info? 9).map (fun i => (i.zero, i.size, i.bytes)) = some (some (.string ⟨#[]⟩), 1, 16) := by kernel_rfl
theorem fo90_5 : fo Try.prog 90 5 = some 5 := by kernel_rfl
theorem ty56 : ty Try.prog 56 = some (false, 1) := by kernel_rfl
theorem fo69_1 : fo Try.prog 69 1 = some 1 := by kernel_rfl
theorem ty3 : ty Try.prog 3 = some (false, 1) := by kernel_rfl
theorem ai3 : (Try.prog.info? 3).map (fun i => (i.zero, i.size, i.bytes)) = some (some (.int .i64 0), 1, 8) := by kernel_rfl


end Go.Proofs.Ythmkelkefmfmgaa.Sx.FM
namespace Go.Proofs.Ythmkelkefmfmgaa.Sx
open Go Go.SX Go.Proofs FM





theorem put_ (g : Nat) (v : Value) (l : List TV) (k : Int) (b : Bool) (n : Int) (s : ByteArray) (nA : Option Addr) (nc : Nat) (ns : List ByteArray) (kA : Option Addr) (kc : Nat) (ks : List Int) (S : Nat → Prop) (wf : World) (hl : l.length ≤ 100000) :
    TR0 Try.prog 48 [.pointer (some ⟨g, 0, none⟩), .agg #[.int .i64 k, .bool b, .int .i64 n, .string s, .slice nA ns.length nc, .slice kA ks.length kc]] [cel g [v] 65, rw_ eTV 90 (v) l] S wf (fun v_ C_ => ∃ (u : Value), v_ = .int .i64 (l.length : Int) ∧ C_ = [cel g [u] 65, rw_ eTV 90 (u) (l ++ [(TV.mk (TN.mk k b n s ns ks) nA nc kA kc)])]) := by
  refine TR.mk Try.func48 rfl Try.ntmps48 rfl rfl (fun w_ => ?_)
  refine .seq (.region (.cons (st_boxa rfl rfl rfl rfl rfl (fun b1 => .cons (Ev.step (ev_as rfl rfl) rfl rfl rfl (.go (fun _ _ h => h) (.seq ?_)))))))
  refine SC.draw mo [cel g [v] 65, rw_ eTV 90 (v) l] [(10, fun w => At w g 0 [v])] (.c (.t .h) (.c (.t .h) .n)) (fun w_ _ hw_ => (sc1 (At.whole 0 rfl w_ hw_) sc0)) (fun wf_2 hl_2 hx_2 hR_2 => ?_)
  refine SR.take 0 rfl (by kernel_rfl) (by kernel_rfl) (by kernel_rfl) rfl (fun _ _ _ h => h) rfl rfl rfl (ev_mv rfl rfl) (SR.take 1 rfl (by kernel_rfl) (by kernel_rfl) (by kernel_rfl) rfl (fun _ _ _ h => h) rfl rfl rfl (ev_mv rfl rfl) (SR.take 2 rfl (by kernel_rfl) (by kernel_rfl) (by kernel_rfl) rfl (fun _ _ _ h => h) rfl rfl rfl (ev_nil rfl rfl) (SR.take 3 rfl (by kernel_rfl) (by kernel_rfl) (by kernel_rfl) rfl (fun _ _ _ h => h) rfl rfl rfl (ev_fa rfl fo65_0 rfl (r := 0) rfl) (SR.take 4 rfl (by kernel_rfl) (by kernel_rfl) (by kernel_rfl) rfl (fun _ _ _ h => h) rfl rfl rfl (ev_ld1 rfl ty34 rfl (At.elem1 (v := v) (At.ofcs 0 rfl (by kernel_rfl)) 0 rfl)) (SR.take 5 rfl (by kernel_rfl) (by kernel_rfl) (by kernel_rfl) rfl (fun _ _ _ h => h) rfl rfl rfl (ev_lda (cs := [.int .i64 k, .bool b, .int .i64 n, .string s, .slice nA ns.length nc, .slice kA ks.length kc]) rfl rfl (At.d (At.lent hR_2 0 rfl rfl)) ty90) ?_)))))
  refine SR.one (j := 6) (by kernel_rfl) rfl (st_lit eTV (e := 90) (l := [(TV.mk (TN.mk k b n s ns ks) nA nc kA kc)]) rfl rfl rfl rfl (by kernel_rfl) rfl rfl (fun w => by kernel_rfl) (fun b3 => ⟨ttc (fun w_ hw_ => (tc1 (by first | exact At.whole 0 rfl w_ hw_ | exact At.whole 1 rfl w_ hw_ | exact At.whole 2 rfl w_ hw_ | exact At.whole 3 rfl w_ hw_ | exact At.whole 4 rfl w_ hw_ | exact At.whole 5 rfl w_ hw_ | exact At.whole 6 rfl w_ hw_) tc0)), (SR.one (j := 7) (by kernel_rfl) rfl (st_app (E := eTV) (m := [(TV.mk (TN.mk k b n s ns ks) nA nc kA kc)]) rfl rfl rfl rfl Try.underlying34 ai90 rfl rfl rfl (.t (.t .h)) (by first | rfl | omega | simp) (row_src 0 rfl) (by first | ((try simp only [List.length_nil, List.length_cons, List.length_append, List.length_set, List.length_singleton, List.length_take, List.length_drop, List.length_reverse]) <;> omega) | omega) rfl (fun v4 => ⟨ttc (fun w_ hw_ => (tc1 (by first | exact At.whole 0 rfl w_ hw_ | exact At.whole 1 rfl w_ hw_ | exact At.whole 2 rfl w_ hw_ | exact At.whole 3 rfl w_ hw_ | exact At.whole 4 rfl w_ hw_ | exact At.whole 5 rfl w_ hw_ | exact At.whole 6 rfl w_ hw_) tc0)), (SR.take 8 rfl (by kernel_rfl) (by kernel_rfl) (by kernel_rfl) rfl (fun _ _ _ h => h) rfl rfl rfl (ev_nil rfl rfl) (SR.take 9 rfl (by kernel_rfl) (by kernel_rfl) (by kernel_rfl) rfl (fun _ _ _ h => h) rfl rfl rfl (ev_fa rfl fo65_0 rfl (r := 0) rfl) ?_))⟩)))⟩))
  refine .know (row_len 0 rfl) (fun hv7 => ?_)
  obtain ⟨A5, c6, rfl, hv7_1, hv7_2⟩ := hv7
  unfold maxLen at hv7_2
  refine SR.one (j := 10) (by kernel_rfl) rfl (st_store1 rfl rfl rfl ty34 rfl rfl rfl (.t (.t .h)) .h ⟨ttc (fun w_ hw_ => (tc2 (by kernel_rfl) tc0)), (SR.fin (by kernel_rfl) hl_2 hx_2 hR_2 (.c (.c (.c .n))) (SQ.go (fun _ _ h => h) (.seq (.region (.cons (Ev.step (ev_mv rfl rfl) rfl rfl rfl ?_))))))⟩)
  refine .cons (Ev.step (ev_nil rfl rfl) rfl rfl rfl (.cons (Ev.step (ev_fa rfl fo65_0 rfl (r := 0) rfl) rfl rfl rfl (.cons (Ev.step (ev_ld1 rfl ty34 rfl (At.own1 0 rfl rfl)) rfl rfl rfl (.cons (Ev.step (ev_len rfl Try.underlying34 rfl) rfl rfl rfl (.cons (Ev.step (ev_sub rfl rfl rfl (r := ((((l ++ [(TV.mk (TN.mk k b n s ns ks) nA nc kA kc)]).length : Nat) : Int) - 1)) rfl (by omega) (by omega)) rfl rfl rfl (.cons (Ev.step (ev_as rfl rfl) rfl rfl rfl ?_)))))))))))
  exact .go (fun _ _ h => h) (.ret (fun _ _ h => h) (ret1 Try.results48 rfl (.c .h (.c .h .n)) ⟨.slice A5 ((l ++ [(TV.mk (TN.mk k b n s ns ks) nA nc kA kc)]).length) c6, (congrArg (Value.int .i64) (by simp)), rfl⟩))

theorem mnum (g : Nat) (v : Value) (l : List TV) (n : Int) (S : Nat → Prop) (wf : World) (hl : l.length ≤ 100000) :
    TR0 Try.prog 23 [.pointer (some ⟨g, 0, none⟩), .int .i64 n] [cel g [v] 65, rw_ eTV 90 (v) l] S wf (fun v_ C_ => ∃ (u : Value), v_ = .int .i64 (l.length : Int) ∧ C_ = [cel g [u] 65, rw_ eTV 90 (u) (l ++ [TV.mk (TN.mk 3 false n ⟨#[]⟩ [] []) none 0 none 0])]) := by
  refine TR.mk Try.func23 rfl Try.ntmps23 rfl rfl (fun w_ => ?_)
  refine .seq (.region (.cons (Ev.step (ev_as rfl rfl) rfl rfl rfl (.go (fun _ _ h => h) (.seq (.region ?_))))))
  refine .cons (Ev.step (ev_mv rfl rfl) rfl rfl rfl (.cons (Ev.step (ev_mv rfl rfl) rfl rfl rfl (.cons (Ev.step (ev_any (v := .agg #[.int .i64 3, .bool false, .int .i64 n, .string ⟨#[]⟩, .slice none 0 0, .slice none 0 0]) rfl (by kernel_rfl) (fun _ => by kernel_rfl)) rfl rfl rfl (.cons (st_call0 rfl rfl rfl rfl hbd48 rfl (.c .h (.c .h .n)) (put_ g v l 3 false n ⟨#[]⟩ none 0 ([] : List ByteArray) none 0 ([] : List Int) _ _ (by first | ((try simp only [List.length_nil, List.length_cons, List.length_append, List.length_set, List.length_singleton, List.length_take, List.length_drop, List.length_reverse]) <;> omega) | omega)) (fun v_q2 C_q2 q2 => ?_))))))))
  obtain ⟨u1, rfl, rfl⟩ := q2
  show SP _ _ _ _ _ _ ⟨_, _ :: _ :: _, _, _⟩
  exact .cons (Ev.step (ev_as rfl rfl) rfl rfl rfl (.go (fun _ _ h => h) (.ret (fun _ _ h => h) (ret1 Try.results23 rfl (.c .h (.c .h .n)) ⟨u1, rfl, rfl⟩))))

theorem mtext (g : Nat) (v : Value) (l : List TV) (s : ByteArray) (S : Nat → Prop) (wf : World) (hl : l.length ≤ 100000) :
    TR0 Try.prog 22 [.pointer (some ⟨g, 0, none⟩), .string s] [cel g [v] 65, rw_ eTV 90 (v) l] S wf (fun v_ C_ => ∃ (u : Value), v_ = .int .i64 (l.length : Int) ∧ C_ = [cel g [u] 65, rw_ eTV 90 (u) (l ++ [TV.mk (TN.mk 4 false 0 s [] []) none 0 none 0])]) := by
  refine TR.mk Try.func22 rfl Try.ntmps22 rfl rfl (fun w_ => ?_)
  refine .seq (.region (.cons (Ev.step (ev_as rfl rfl) rfl rfl rfl (.go (fun _ _ h => h) (.seq (.region ?_))))))
  refine .cons (Ev.step (ev_mv rfl rfl) rfl rfl rfl (.cons (Ev.step (ev_mv rfl rfl) rfl rfl rfl (.cons (Ev.step (ev_any (v := .agg #[.int .i64 4, .bool false, .int .i64 0, .string s, .slice none 0 0, .slice none 0 0]) rfl (by kernel_rfl) (fun _ => by kernel_rfl)) rfl rfl rfl (.cons (st_call0 rfl rfl rfl rfl hbd48 rfl (.c .h (.c .h .n)) (put_ g v l 4 false 0 s none 0 ([] : List ByteArray) none 0 ([] : List Int) _ _ (by first | ((try simp only [List.length_nil, List.length_cons, List.length_append, List.length_set, List.length_singleton, List.length_take, List.length_drop, List.length_reverse]) <;> omega) | omega)) (fun v_q2 C_q2 q2 => ?_))))))))
  obtain ⟨u1, rfl, rfl⟩ := q2
  show SP _ _ _ _ _ _ ⟨_, _ :: _ :: _, _, _⟩
  exact .cons (Ev.step (ev_as rfl rfl) rfl rfl rfl (.go (fun _ _ h => h) (.ret (fun _ _ h => h) (ret1 Try.results22 rfl (.c .h (.c .h .n)) ⟨u1, rfl, rfl⟩))))

theorem mtruth (g : Nat) (v : Value) (l : List TV) (b : Bool) (S : Nat → Prop) (wf : World) (hl : l.length ≤ 100000) :
    TR0 Try.prog 24 [.pointer (some ⟨g, 0, none⟩), .bool b] [cel g [v] 65, rw_ eTV 90 (v) l] S wf (fun v_ C_ => ∃ (u : Value), v_ = .int .i64 (l.length : Int) ∧ C_ = [cel g [u] 65, rw_ eTV 90 (u) (l ++ [TV.mk (TN.mk 2 b 0 ⟨#[]⟩ [] []) none 0 none 0])]) := by
  refine TR.mk Try.func24 rfl Try.ntmps24 rfl rfl (fun w_ => ?_)
  refine .seq (.region (.cons (Ev.step (ev_as rfl rfl) rfl rfl rfl (.go (fun _ _ h => h) (.seq (.region ?_))))))
  refine .cons (Ev.step (ev_mv rfl rfl) rfl rfl rfl (.cons (Ev.step (ev_mv rfl rfl) rfl rfl rfl (.cons (Ev.step (ev_any (v := .agg #[.int .i64 2, .bool b, .int .i64 0, .string ⟨#[]⟩, .slice none 0 0, .slice none 0 0]) rfl (by kernel_rfl) (fun _ => by kernel_rfl)) rfl rfl rfl (.cons (st_call0 rfl rfl rfl rfl hbd48 rfl (.c .h (.c .h .n)) (put_ g v l 2 b 0 ⟨#[]⟩ none 0 ([] : List ByteArray) none 0 ([] : List Int) _ _ (by first | ((try simp only [List.length_nil, List.length_cons, List.length_append, List.length_set, List.length_singleton, List.length_take, List.length_drop, List.length_reverse]) <;> omega) | omega)) (fun v_q2 C_q2 q2 => ?_))))))))
  obtain ⟨u1, rfl, rfl⟩ := q2
  show SP _ _ _ _ _ _ ⟨_, _ :: _ :: _, _, _⟩
  exact .cons (Ev.step (ev_as rfl rfl) rfl rfl rfl (.go (fun _ _ h => h) (.ret (fun _ _ h => h) (ret1 Try.results24 rfl (.c .h (.c .h .n)) ⟨u1, rfl, rfl⟩))))

theorem mlist (g : Nat) (v : Value) (l : List TV) (kA : Option Addr) (kc : Nat) (ks : List Int) (S : Nat → Prop) (wf : World) (hl : l.length ≤ 100000) :
    TR0 Try.prog 27 [.pointer (some ⟨g, 0, none⟩), .slice kA ks.length kc] [cel g [v] 65, rw_ eTV 90 (v) l] S wf (fun v_ C_ => ∃ (u : Value), v_ = .int .i64 (l.length : Int) ∧ C_ = [cel g [u] 65, rw_ eTV 90 (u) (l ++ [TV.mk (TN.mk 5 false 0 ⟨#[]⟩ [] ks) none 0 kA kc])]) := by
  refine TR.mk Try.func27 rfl Try.ntmps27 rfl rfl (fun w_ => ?_)
  refine .seq (.region (.cons (Ev.step (ev_as rfl rfl) rfl rfl rfl (.go (fun _ _ h => h) (.seq (.region ?_))))))
  refine .cons (Ev.step (ev_mv rfl rfl) rfl rfl rfl (.cons (Ev.step (ev_mv rfl rfl) rfl rfl rfl (.cons (Ev.step (ev_any (v := .agg #[.int .i64 5, .bool false, .int .i64 0, .string ⟨#[]⟩, .slice none 0 0, .slice kA ks.length kc]) rfl (by kernel_rfl) (fun _ => by kernel_rfl)) rfl rfl rfl (.cons (st_call0 rfl rfl rfl rfl hbd48 rfl (.c .h (.c .h .n)) (put_ g v l 5 false 0 ⟨#[]⟩ none 0 ([] : List ByteArray) kA kc ks _ _ (by first | ((try simp only [List.length_nil, List.length_cons, List.length_append, List.length_set, List.length_singleton, List.length_take, List.length_drop, List.length_reverse]) <;> omega) | omega)) (fun v_q2 C_q2 q2 => ?_))))))))
  obtain ⟨u1, rfl, rfl⟩ := q2
  show SP _ _ _ _ _ _ ⟨_, _ :: _ :: _, _, _⟩
  exact .cons (Ev.step (ev_as rfl rfl) rfl rfl rfl (.go (fun _ _ h => h) (.ret (fun _ _ h => h) (ret1 Try.results27 rfl (.c .h (.c .h .n)) ⟨u1, rfl, rfl⟩))))

theorem mobject (g : Nat) (v : Value) (l : List TV) (A : Option Addr) (n : Nat) (c : Nat) (ps : List Pr) (S : Nat → Prop) (wf : World) (hP : Fr ePr S wf A ps) (hl : l.length ≤ 100000) (hn : ps.length = n) (hps : ps.length ≤ 1000) :
    TR0 Try.prog 21 [.pointer (some ⟨g, 0, none⟩), .slice A n c] [cel g [v] 65, rw_ eTV 90 (v) l] S wf (fun v_ C_ => ∃ (u : Value) (nA : Option Addr) (nc : Nat) (kA : Option Addr) (kc : Nat), v_ = .int .i64 (l.length : Int) ∧ C_ = [cel g [u] 65, rw_ eTV 90 (u) (l ++ [TV.mk (TN.mk 6 false 0 ⟨#[]⟩ (ps.map Pr.name) (ps.map Pr.pos)) nA nc kA kc]), rw_ eS 9 (.slice nA ((ps.map Pr.name).length) nc) (ps.map Pr.name), rw_ eZ 3 (.slice kA ((ps.map Pr.pos).length) kc) (ps.map Pr.pos)]) := by
  refine TR.mk Try.func21 rfl Try.ntmps21 rfl rfl (fun w_ => ?_)
  refine .seq (.region (.cons (Ev.step (ev_as rfl rfl) rfl rfl rfl (.go (fun _ _ h => h) (.seq (.region ?_))))))
  refine .cons (Ev.step (ev_any (v := .agg #[.int .i64 6, .bool false, .int .i64 0, .string ⟨#[]⟩, .slice none 0 0, .slice none 0 0]) rfl (by kernel_rfl) (fun _ => by kernel_rfl)) rfl rfl rfl (.cons (st_alloc rfl rfl rfl rfl zf90 (fun b1 => .cons (st_storea (l' := [.int .i64 6, .bool false, .int .i64 0, .string ⟨#[]⟩, .slice none 0 0, .slice none 0 0]) rfl rfl rfl ty90 rfl rfl rfl .h rfl rfl (.go (fun _ _ h => h) (.seq (.seq ?_))))))))
  refine SC.nilrow eS 9 ?_
  refine SC.nilrow eZ 3 ?_
  refine .region (.cons (Ev.step (ev_mv rfl rfl) rfl rfl rfl (.cons (Ev.step (ev_len rfl Try.underlying99 rfl) rfl rfl rfl (.cons (Ev.step (ev_mv rfl rfl) rfl rfl rfl (.go (fun _ _ h => h) (.block ?_))))))))
  refine .loop (X := Int × Value × Value × (List ByteArray) × (List Int)) (fun ⟨i, NV, KV, X, Y⟩ => 0 ≤ i ∧ i ≤ ps.length ∧ X = (ps.take i.toNat).map Pr.name ∧ Y = (ps.take i.toNat).map Pr.pos ∧ (X.length : Int) = i ∧ (Y.length : Int) = i) (fun ⟨i, NV, KV, X, Y⟩ => [(0, .pointer (some ⟨g, 0, none⟩)), (5, .pointer (some ⟨b1, 0, none⟩)), (9, .slice A n c), (10, .int .i64 (n : Int)), (11, .int .i64 i)]) (fun ⟨i, NV, KV, X, Y⟩ => [cel b1 [.int .i64 6, .bool false, .int .i64 0, .string ⟨#[]⟩, NV, KV] 90, rw_ eS 9 (NV) X, rw_ eZ 3 (KV) Y, cel g [v] 65, rw_ eTV 90 (v) l]) (fun _ => S) (fun _ => wf) (fun ⟨i, NV, KV, X, Y⟩ => (ps.length - i.toNat)) (fun a_ w_ hs_ hw_ => ⟨⟨0, (.slice none 0 0), (.slice none 0 0), ([] : List ByteArray), ([] : List Int)⟩, (by exact ⟨by omega, by omega, rfl, rfl, rfl, rfl⟩), hs_.mono (Sub.get (.c rfl (.c rfl (.c rfl (.c rfl (.c rfl .n)))))), hw_.keep (.c (.t (.t .h)) (.c (.t .h) (.c .h (.c .h (.c .h .n)))))⟩) (fun ⟨i, NV, KV, X, Y⟩ ⟨q_0, q_1, q_2, q_3, q_4, q_5⟩ => ?_)
  show SC _ _ _ _ _ ⟨[(0, .pointer (some ⟨g, 0, none⟩)), (5, .pointer (some ⟨b1, 0, none⟩)), (9, .slice A n c), (10, .int .i64 (n : Int)), (11, .int .i64 i)], [cel b1 [.int .i64 6, .bool false, .int .i64 0, .string ⟨#[]⟩, NV, KV] 90, rw_ eS 9 (NV) X, rw_ eZ 3 (KV) Y, cel g [v] 65, rw_ eTV 90 (v) l], S, wf⟩
  refine .seq (.region (.cons (Ev.step (ev_cmp rfl rfl rfl rfl) rfl rfl rfl (.go (fun _ _ h => h) (.seq (.condI rfl bD (fun h2 => ?_) (fun h2 => ?_)))))))
  ·
    refine .skipgo (fun _ _ h => h) (.seq (.block (.seq (.region (.cons (Ev.step (ev_ix rfl Try.underlying99 ty69 rfl rfl (by omega) (by omega) (fun _ _ => Fr.adr (i := i) hP (by omega) (by omega))) rfl rfl rfl ?_))))))
    refine .cons (Ev.step (ev_lda rfl rfl (At.w (Fr.el (i := i) hP (by omega) (by omega))) ty69) rfl rfl rfl (.cons (st_alloc rfl rfl rfl rfl zf69 (fun b3 => .cons (st_storea (l' := [.string ((gt ps i).name), .int .i64 ((gt ps i).pos)]) rfl rfl rfl ty69 rfl rfl rfl .h rfl rfl (.go (fun _ _ h => h) ?_))))))
    refine SC.draw mo [cel b1 [.int .i64 6, .bool false, .int .i64 0, .string ⟨#[]⟩, NV, KV] 90, rw_ eS 9 (NV) X, rw_ eZ 3 (KV) Y] [(13, fun w => At w b1 0 [.int .i64 6, .bool false, .int .i64 0, .string ⟨#[]⟩, NV, KV])] (.c (.t .h) (.c (.t .h) (.c (.t .h) .n))) (fun w_ _ hw_ => (sc1 (At.whole 0 rfl w_ hw_) sc0)) (fun wf_4 hl_4 hx_4 hR_4 => ?_)
    refine SR.take 0 rfl (by kernel_rfl) (by kernel_rfl) (by kernel_rfl) rfl (fun _ _ _ h => h) rfl rfl rfl (ev_fa rfl fo90_4 rfl (r := 4) rfl) (SR.take 1 rfl (by kernel_rfl) (by kernel_rfl) (by kernel_rfl) rfl (fun _ _ _ h => h) rfl rfl rfl (ev_ld1 rfl ty82 rfl (At.elem1 (v := NV) (At.ofcs 0 rfl (by kernel_rfl)) 4 rfl)) (SR.take 2 rfl (by kernel_rfl) (by kernel_rfl) (by kernel_rfl) rfl (fun _ _ _ h => h) rfl rfl rfl (ev_fa rfl fo69_0 rfl (r := 0) rfl) (SR.take 3 rfl (by kernel_rfl) (by kernel_rfl) (by kernel_rfl) rfl (fun _ _ _ h => h) rfl rfl rfl (ev_ld1 rfl ty9 rfl (At.d (At.lent hR_4 0 rfl rfl))) (SR.take 6 rfl (by kernel_rfl) (by kernel_rfl) (by kernel_rfl) rfl (fun _ _ _ h => h) rfl rfl rfl (ev_fa rfl fo90_5 rfl (r := 5) rfl) (SR.take 7 rfl (by kernel_rfl) (by kernel_rfl) (by kernel_rfl) rfl (fun _ _ _ h => h) rfl rfl rfl (ev_ld1 rfl ty56 rfl (At.elem1 (v := KV) (At.ofcs 0 rfl (by kernel_rfl)) 5 rfl)) ?_)))))
    refine SR.take 8 rfl (by kernel_rfl) (by kernel_rfl) (by kernel_rfl) rfl (fun _ _ _ h => h) rfl rfl rfl (ev_fa rfl fo69_1 rfl (r := 1) rfl) (SR.take 9 rfl (by kernel_rfl) (by kernel_rfl) (by kernel_rfl) rfl (fun _ _ _ h => h) rfl rfl rfl (ev_ld1 rfl ty3 rfl (At.d (At.lent hR_4 0 rfl rfl))) ?_)
    refine SR.two (i := 4) (j := 10) (by kernel_rfl) ⟨_, rfl, ?_⟩ ⟨_, rfl, ?_⟩
    ·
      refine st_lit eS (e := 9) (l := [(gt ps i).name]) rfl rfl rfl rfl (by kernel_rfl) rfl rfl (fun w => by kernel_rfl) (fun b5 => ⟨ttc (fun w_ hw_ => (tc1 (by first | exact At.whole 0 rfl w_ hw_ | exact At.whole 1 rfl w_ hw_ | exact At.whole 2 rfl w_ hw_ | exact At.whole 3 rfl w_ hw_ | exact At.whole 4 rfl w_ hw_ | exact At.whole 5 rfl w_ hw_ | exact At.whole 6 rfl w_ hw_) tc0)), ?_⟩)
      refine SR.two (i := 5) (j := 10) (by kernel_rfl) ⟨_, rfl, ?_⟩ ⟨_, rfl, ?_⟩
      ·
        refine st_app (E := eS) (m := [(gt ps i).name]) rfl rfl rfl rfl Try.underlying82 ai9 rfl rfl rfl (.t (.t .h)) (by first | rfl | omega | simp) (row_src 0 rfl) (by first | ((try simp only [List.length_nil, List.length_cons, List.length_append, List.length_set, List.length_singleton, List.length_take, List.length_drop, List.length_reverse]) <;> omega) | omega) rfl (fun v6 => ⟨ttc (fun w_ hw_ => (tc1 (by first | exact At.whole 0 rfl w_ hw_ | exact At.whole 1 rfl w_ hw_ | exact At.whole 2 rfl w_ hw_ | exact At.whole 3 rfl w_ hw_ | exact At.whole 4 rfl w_ hw_ | exact At.whole 5 rfl w_ hw_ | exact At.whole 6 rfl w_ hw_) tc0)), (SR.take 12 rfl (by kernel_rfl) (by kernel_rfl) (by kernel_rfl) rfl (fun _ _ _ h => h) rfl rfl rfl (ev_fa rfl fo90_4 rfl (r := 4) rfl) (SR.one (j := 10) (by kernel_rfl) rfl (st_lit eZ (e := 3) (l := [(gt ps i).pos]) rfl rfl rfl rfl (by kernel_rfl) rfl rfl (fun w => by kernel_rfl) (fun b7 => ⟨ttc (fun w_ hw_ => (tc1 (by first | exact At.whole 0 rfl w_ hw_ | exact At.whole 1 rfl w_ hw_ | exact At.whole 2 rfl w_ hw_ | exact At.whole 3 rfl w_ hw_ | exact At.whole 4 rfl w_ hw_ | exact At.whole 5 rfl w_ hw_ | exact At.whole 6 rfl w_ hw_) tc0)), (SR.one (j := 11) (by kernel_rfl) rfl (st_app (E := eZ) (m := [(gt ps i).pos]) rfl rfl rfl rfl Try.underlying56 ai3 rfl rfl rfl (.t (.t (.t (.t .h)))) (by first | rfl | omega | simp) (row_src 0 rfl) (by first | ((try simp only [List.length_nil, List.length_cons, List.length_append, List.length_set, List.length_singleton, List.length_take, List.length_drop, List.length_reverse]) <;> omega) | omega) rfl (fun v8 => ⟨ttc (fun w_ hw_ => (tc1 (by first | exact At.whole 0 rfl w_ hw_ | exact At.whole 1 rfl w_ hw_ | exact At.whole 2 rfl w_ hw_ | exact At.whole 3 rfl w_ hw_ | exact At.whole 4 rfl w_ hw_ | exact At.whole 5 rfl w_ hw_ | exact At.whole 6 rfl w_ hw_) tc0)), ?_⟩)))⟩))))⟩)
        refine .know (row_len 2 rfl) (fun hv11 => ?_)
        obtain ⟨A9, c10, rfl, hv11_1, hv11_2⟩ := hv11
        unfold maxLen at hv11_2
        refine SR.one (j := 13) (by kernel_rfl) rfl (st_store1 rfl rfl rfl ty82 rfl rfl rfl (.t (.t (.t (.t .h)))) (.t (.t (.t (.t .h)))) ⟨ttc (fun w_ hw_ => (tc2 (by kernel_rfl) tc0)), (SR.take 14 rfl (by kernel_rfl) (by kernel_rfl) (by kernel_rfl) rfl (fun _ _ _ h => h) rfl rfl rfl (ev_fa rfl fo90_5 rfl (r := 5) rfl) ?_)⟩)
        refine .know (row_len 1 rfl) (fun hv14 => ?_)
        obtain ⟨A12, c13, rfl, hv14_1, hv14_2⟩ := hv14
        unfold maxLen at hv14_2
        refine SR.one (j := 15) (by kernel_rfl) rfl (st_store1 rfl rfl rfl ty56 rfl rfl rfl .h (.t (.t (.t (.t (.t .h))))) ⟨ttc (fun w_ hw_ => (tc2 (by kernel_rfl) tc0)), (SR.fin (by kernel_rfl) hl_4 hx_4 hR_4 (.c (.c (.c (.c (.c .n))))) (SQ.go (fun _ _ h => h) (.region (.cons (Ev.step (ev_add rfl rfl rfl (r := (i + 1)) rfl (by omega) (by omega)) rfl rfl rfl (.cons (Ev.step (ev_mv rfl rfl) rfl rfl rfl ?_)))))))⟩)
        exact SP.nil (SQ.roundb (X := Int × Value × Value × (List ByteArray) × (List Int)) (x := (i, NV, KV, X, Y)) ⟨(i + 1), .slice A9 ((X ++ [(gt ps i).name]).length) c10, .slice A12 ((Y ++ [(gt ps i).pos]).length) c13, (X ++ [(gt ps i).name]), (Y ++ [(gt ps i).pos])⟩ (by exact ⟨by omega, by omega, map_next q_2 (by omega) (by omega), map_next q_3 (by omega) (by omega), by rw [List.length_append]; simp; omega, by rw [List.length_append]; simp; omega⟩) (by dsimp only; omega) (Sub.get (.c rfl (.c rfl (.c rfl (.c rfl (.c rfl .n)))))) (fun w hw => hw.keep (.c .h (.c (.t (.t .h)) (.c .h (.c (.t (.t (.t .h))) (.c (.t (.t (.t .h))) .n)))))))
      ·
        refine st_lit eZ (e := 3) (l := [(gt ps i).pos]) rfl rfl rfl rfl (by kernel_rfl) rfl rfl (fun w => by kernel_rfl) (fun b15 => ⟨ttc (fun w_ hw_ => (tc1 (by first | exact At.whole 0 rfl w_ hw_ | exact At.whole 1 rfl w_ hw_ | exact At.whole 2 rfl w_ hw_ | exact At.whole 3 rfl w_ hw_ | exact At.whole 4 rfl w_ hw_ | exact At.whole 5 rfl w_ hw_ | exact At.whole 6 rfl w_ hw_) tc0)), (SR.one (j := 5) (by kernel_rfl) rfl (st_app (E := eS) (m := [(gt ps i).name]) rfl rfl rfl rfl Try.underlying82 ai9 rfl rfl rfl (.t (.t (.t .h))) (by first | rfl | omega | simp) (row_src 1 rfl) (by first | ((try simp only [List.length_nil, List.length_cons, List.length_append, List.length_set, List.length_singleton, List.length_take, List.length_drop, List.length_reverse]) <;> omega) | omega) rfl (fun v16 => ⟨ttc (fun w_ hw_ => (tc1 (by first | exact At.whole 0 rfl w_ hw_ | exact At.whole 1 rfl w_ hw_ | exact At.whole 2 rfl w_ hw_ | exact At.whole 3 rfl w_ hw_ | exact At.whole 4 rfl w_ hw_ | exact At.whole 5 rfl w_ hw_ | exact At.whole 6 rfl w_ hw_) tc0)), (SR.take 12 rfl (by kernel_rfl) (by kernel_rfl) (by kernel_rfl) rfl (fun _ _ _ h => h) rfl rfl rfl (ev_fa rfl fo90_4 rfl (r := 4) rfl) (SR.one (j := 11) (by kernel_rfl) rfl (st_app (E := eZ) (m := [(gt ps i).pos]) rfl rfl rfl rfl Try.underlying56 ai3 rfl rfl rfl (.t (.t (.t (.t .h)))) (by first | rfl | omega | simp) (row_src 1 rfl) (by first | ((try simp only [List.length_nil, List.length_cons, List.length_append, List.length_set, List.length_singleton, List.length_take, List.length_drop, List.length_reverse]) <;> omega) | omega) rfl (fun v17 => ⟨ttc (fun w_ hw_ => (tc1 (by first | exact At.whole 0 rfl w_ hw_ | exact At.whole 1 rfl w_ hw_ | exact At.whole 2 rfl w_ hw_ | exact At.whole 3 rfl w_ hw_ | exact At.whole 4 rfl w_ hw_ | exact At.whole 5 rfl w_ hw_ | exact At.whole 6 rfl w_ hw_) tc0)), ?_⟩))))⟩)))⟩)
        refine .know (row_len 1 rfl) (fun hv20 => ?_)
        obtain ⟨A18, c19, rfl, hv20_1, hv20_2⟩ := hv20
        unfold maxLen at hv20_2
        refine SR.one (j := 13) (by kernel_rfl) rfl (st_store1 rfl rfl rfl ty82 rfl rfl rfl (.t (.t (.t (.t .h)))) (.t (.t (.t (.t .h)))) ⟨ttc (fun w_ hw_ => (tc2 (by kernel_rfl) tc0)), (SR.take 14 rfl (by kernel_rfl) (by kernel_rfl) (by kernel_rfl) rfl (fun _ _ _ h => h) rfl rfl rfl (ev_fa rfl fo90_5 rfl (r := 5) rfl) ?_)⟩)
        refine .know (row_len 1 rfl) (fun hv23 => ?_)
        obtain ⟨A21, c22, rfl, hv23_1, hv23_2⟩ := hv23
        unfold maxLen at hv23_2
        refine SR.one (j := 15) (by kernel_rfl) rfl (st_store1 rfl rfl rfl ty56 rfl rfl rfl .h (.t (.t (.t (.t (.t .h))))) ⟨ttc (fun w_ hw_ => (tc2 (by kernel_rfl) tc0)), (SR.fin (by kernel_rfl) hl_4 hx_4 hR_4 (.c (.c (.c (.c (.c .n))))) (SQ.go (fun _ _ h => h) (.region (.cons (Ev.step (ev_add rfl rfl rfl (r := (i + 1)) rfl (by omega) (by omega)) rfl rfl rfl (.cons (Ev.step (ev_mv rfl rfl) rfl rfl rfl ?_)))))))⟩)
        exact SP.nil (SQ.roundb (X := Int × Value × Value × (List ByteArray) × (List Int)) (x := (i, NV, KV, X, Y)) ⟨(i + 1), .slice A18 ((X ++ [(gt ps i).name]).length) c19, .slice A21 ((Y ++ [(gt ps i).pos]).length) c22, (X ++ [(gt ps i).name]), (Y ++ [(gt ps i).pos])⟩ (by exact ⟨by omega, by omega, map_next q_2 (by omega) (by omega), map_next q_3 (by omega) (by omega), by rw [List.length_append]; simp; omega, by rw [List.length_append]; simp; omega⟩) (by dsimp only; omega) (Sub.get (.c rfl (.c rfl (.c rfl (.c rfl (.c rfl .n)))))) (fun w hw => hw.keep (.c .h (.c (.t .h) (.c .h (.c (.t (.t (.t .h))) (.c (.t (.t (.t .h))) .n)))))))
    ·
      refine st_lit eZ (e := 3) (l := [(gt ps i).pos]) rfl rfl rfl rfl (by kernel_rfl) rfl rfl (fun w => by kernel_rfl) (fun b24 => ⟨ttc (fun w_ hw_ => (tc1 (by first | exact At.whole 0 rfl w_ hw_ | exact At.whole 1 rfl w_ hw_ | exact At.whole 2 rfl w_ hw_ | exact At.whole 3 rfl w_ hw_ | exact At.whole 4 rfl w_ hw_ | exact At.whole 5 rfl w_ hw_ | exact At.whole 6 rfl w_ hw_) tc0)), (SR.one (j := 4) (by kernel_rfl) rfl (st_lit eS (e := 9) (l := [(gt ps i).name]) rfl rfl rfl rfl (by kernel_rfl) rfl rfl (fun w => by kernel_rfl) (fun b25 => ⟨ttc (fun w_ hw_ => (tc1 (by first | exact At.whole 0 rfl w_ hw_ | exact At.whole 1 rfl w_ hw_ | exact At.whole 2 rfl w_ hw_ | exact At.whole 3 rfl w_ hw_ | exact At.whole 4 rfl w_ hw_ | exact At.whole 5 rfl w_ hw_ | exact At.whole 6 rfl w_ hw_) tc0)), (SR.one (j := 5) (by kernel_rfl) rfl (st_app (E := eS) (m := [(gt ps i).name]) rfl rfl rfl rfl Try.underlying82 ai9 rfl rfl rfl (.t (.t (.t .h))) (by first | rfl | omega | simp) (row_src 0 rfl) (by first | ((try simp only [List.length_nil, List.length_cons, List.length_append, List.length_set, List.length_singleton, List.length_take, List.length_drop, List.length_reverse]) <;> omega) | omega) rfl (fun v26 => ⟨ttc (fun w_ hw_ => (tc1 (by first | exact At.whole 0 rfl w_ hw_ | exact At.whole 1 rfl w_ hw_ | exact At.whole 2 rfl w_ hw_ | exact At.whole 3 rfl w_ hw_ | exact At.whole 4 rfl w_ hw_ | exact At.whole 5 rfl w_ hw_ | exact At.whole 6 rfl w_ hw_) tc0)), (SR.take 12 rfl (by kernel_rfl) (by kernel_rfl) (by kernel_rfl) rfl (fun _ _ _ h => h) rfl rfl rfl (ev_fa rfl fo90_4 rfl (r := 4) rfl) (SR.one (j := 11) (by kernel_rfl) rfl (st_app (E := eZ) (m := [(gt ps i).pos]) rfl rfl rfl rfl Try.underlying56 ai3 rfl rfl rfl (.t (.t (.t (.t .h)))) (by first | rfl | omega | simp) (row_src 2 rfl) (by first | ((try simp only [List.length_nil, List.length_cons, List.length_append, List.length_set, List.length_singleton, List.length_take, List.length_drop, List.length_reverse]) <;> omega) | omega) rfl (fun v27 => ⟨ttc (fun w_ hw_ => (tc1 (by first | exact At.whole 0 rfl w_ hw_ | exact At.whole 1 rfl w_ hw_ | exact At.whole 2 rfl w_ hw_ | exact At.whole 3 rfl w_ hw_ | exact At.whole 4 rfl w_ hw_ | exact At.whole 5 rfl w_ hw_ | exact At.whole 6 rfl w_ hw_) tc0)), ?_⟩))))⟩)))⟩)))⟩)
      refine .know (row_len 1 rfl) (fun hv30 => ?_)
      obtain ⟨A28, c29, rfl, hv30_1, hv30_2⟩ := hv30
      unfold maxLen at hv30_2
      refine SR.one (j := 13) (by kernel_rfl) rfl (st_store1 rfl rfl rfl ty82 rfl rfl rfl (.t (.t (.t (.t .h)))) (.t (.t (.t (.t .h)))) ⟨ttc (fun w_ hw_ => (tc2 (by kernel_rfl) tc0)), (SR.take 14 rfl (by kernel_rfl) (by kernel_rfl) (by kernel_rfl) rfl (fun _ _ _ h => h) rfl rfl rfl (ev_fa rfl fo90_5 rfl (r := 5) rfl) ?_)⟩)
      refine .know (row_len 1 rfl) (fun hv33 => ?_)
      obtain ⟨A31, c32, rfl, hv33_1, hv33_2⟩ := hv33
      unfold maxLen at hv33_2
      refine SR.one (j := 15) (by kernel_rfl) rfl (st_store1 rfl rfl rfl ty56 rfl rfl rfl .h (.t (.t (.t (.t (.t .h))))) ⟨ttc (fun w_ hw_ => (tc2 (by kernel_rfl) tc0)), (SR.fin (by kernel_rfl) hl_4 hx_4 hR_4 (.c (.c (.c (.c (.c .n))))) (SQ.go (fun _ _ h => h) (.region (.cons (Ev.step (ev_add rfl rfl rfl (r := (i + 1)) rfl (by omega) (by omega)) rfl rfl rfl (.cons (Ev.step (ev_mv rfl rfl) rfl rfl rfl ?_)))))))⟩)
      exact SP.nil (SQ.roundb (X := Int × Value × Value × (List ByteArray) × (List Int)) (x := (i, NV, KV, X, Y)) ⟨(i + 1), .slice A28 ((X ++ [(gt ps i).name]).length) c29, .slice A31 ((Y ++ [(gt ps i).pos]).length) c32, (X ++ [(gt ps i).name]), (Y ++ [(gt ps i).pos])⟩ (by exact ⟨by omega, by omega, map_next q_2 (by omega) (by omega), map_next q_3 (by omega) (by omega), by rw [List.length_append]; simp; omega, by rw [List.length_append]; simp; omega⟩) (by dsimp only; omega) (Sub.get (.c rfl (.c rfl (.c rfl (.c rfl (.c rfl .n)))))) (fun w hw => hw.keep (.c .h (.c (.t .h) (.c .h (.c (.t (.t (.t .h))) (.c (.t (.t (.t .h))) .n)))))))
  ·
    refine .exit (fun _ _ h => h) (.seq ?_)
    refine .know (row_len 1 rfl) (fun hv36 => ?_)
    obtain ⟨A34, c35, rfl, hv36_1, hv36_2⟩ := hv36
    unfold maxLen at hv36_2
    refine .know (row_len 2 rfl) (fun hv39 => ?_)
    obtain ⟨A37, c38, rfl, hv39_1, hv39_2⟩ := hv39
    unfold maxLen at hv39_2
    have hX := map_end q_2 (by omega)
    have hY := map_end q_3 (by omega)
    subst hX
    subst hY
    refine .region (.cons (Ev.step (ev_mv rfl rfl) rfl rfl rfl (.cons (Ev.step (ev_lda rfl rfl (At.whole 0 rfl) ty90) rfl rfl rfl (.cons (st_call0 rfl rfl rfl rfl hbd48 rfl (.c (.t (.t (.t .h))) (.c (.t (.t (.t .h))) .n)) (put_ g v l 6 false 0 ⟨#[]⟩ A34 c35 (ps.map Pr.name) A37 c38 (ps.map Pr.pos) _ _ (by first | ((try simp only [List.length_nil, List.length_cons, List.length_append, List.length_set, List.length_singleton, List.length_take, List.length_drop, List.length_reverse]) <;> omega) | omega)) (fun v_q41 C_q41 q41 => ?_)))))))
    obtain ⟨u40, rfl, rfl⟩ := q41
    show SP _ _ _ _ _ _ ⟨_, _ :: _ :: _, _, _⟩
    exact .cons (Ev.step (ev_as rfl rfl) rfl rfl rfl (.go (fun _ _ h => h) (.ret (fun _ _ h => h) (ret1 Try.results21 rfl (.c .h (.c .h (.c (.t .h) (.c (.t .h) .n)))) ⟨u40, A34, c35, A37, c38, rfl, rfl⟩))))

end Go.Proofs.Ythmkelkefmfmgaa.Sx
