import Derived.Test.YthmkelkefmfmgaaProg
import Derived.Test.YthmkelkefmfmgaaSxShow
import Derived.Test.YthmkelkefmfmgaaSx22A
import Derived.Test.YthmkelkefmfmgaaSx22B
set_option maxRecDepth 20000
set_option maxHeartbeats 4000000
set_option linter.unusedVariables false
set_option linter.unusedSimpArgs false
namespace Go.Proofs.Ythmkelkefmfmgaa.Sx.FW
open Go Go.SX Go.Proofs
theorem ty90 : ty Try.prog 90 = some (true, 6) := by kernel_rfl
theorem zf90 : (Try.prog.info? 90).bind (fun i => i.zero.map Value.cells) = some (List.toArray [.int .i64 0, .bool false, .int .i64 0, .string ⟨#[]⟩, .slice none 0 0, .slice none 0 0]) := by kernel_rfl
theorem fo90_0 : fo Try.prog 90 0 = some 0 := by kernel_rfl
theorem ty88 : ty Try.prog 88 = some (false, 1) := by kernel_rfl
theorem ai5 : (Try.prog.info? 5).map (fun i => (i.zero, i.size, i.bytes)) = some (some (.int .u8 0), 1, 1) := by kernel_rfl
theorem fo90_1 : fo Try.prog 90 1 = some 1 := by kernel_rfl
theorem ty4 : ty Try.prog 4 = some (false, 1) := by kernel_rfl
theorem fo90_2 : fo Try.prog 90 2 = some 2 := by kernel_rfl
theorem ty3 : ty Try.prog 3 = some (false, 1) := by kernel_rfl
theorem hb51 : hasBody Try.prog 51 = true := by kernel_rfl
theorem fo90_3 : fo Try.prog 90 3 = some 3 := by kernel_rfl
theorem ty9 : ty Try.prog 9 = some (false, 1) := by kernel_rfl
theorem hb52 : hasBody Try.prog 52 = true := by kernel_rfl
theorem fo90_5 : fo Try.prog 90 5 = some 5 := by kernel_rfl
theorem ty56 : ty Try.prog 56 = some (false, 1) := by kernel_rfl
theorem fo90_4 : fo Try.prog 90 4 = some 4 := by kernel_rfl
theorem ty82 : ty Try.prog 82 = some (false, 1) := by kernel_rfl
theorem hb30 : hasBody Try.prog 30 = true := by kernel_rfl
theorem hb29 : hasBody Try.prog 29 = true := by kernel_rfl


end Go.Proofs.Ythmkelkefmfmgaa.Sx.FW
namespace Go.Proofs.Ythmkelkefmfmgaa.Sx
open Go Go.SX Go.Proofs FW





theorem write_ : ∀ (f : Nat) (A : Option Addr) (c : Nat) (l : List TV) (v : Value) (o : List Int) (i0 : Int) (S : Nat → Prop) (wf : World) (hA : Fr eTV S wf A l) (hN : NT S wf l) (hB : ∀ t ∈ l, TB t.v) (hV : Valid l) (h0 : 0 ≤ i0) (h1 : i0 < l.length) (hf : i0 < f) (hsz : o.length + (wF f (vs l) i0).length ≤ 1000000000),
    TR0 Try.prog 30 [v, .slice A l.length c, .int .i64 i0] [rw_ eY 5 (v) o] S wf (fun v_ C_ => ∃ (u : Value), v_ = u ∧ C_ = [rw_ eY 5 (u) (o ++ wF f (vs l) i0)]) := by
  refine nat_ind ?_ (fun f ih => ?_)
  · intro A c l v o i0 S wf hA hN hB hV h0 h1 hf hsz; exfalso; omega
  intro A c l v o i0 S wf hA hN hB hV h0 h1 hf hsz
  have hla := hA.len
  have hBi := hB _ (gt_mem (i := i0) h0 (by omega))
  unfold TB at hBi
  refine TR.mk Try.func30 rfl Try.ntmps30 rfl rfl (fun w_ => ?_)
  refine .seq (.region (.cons (Ev.step (ev_as rfl rfl) rfl rfl rfl (.go (fun _ _ h => h) (.seq (.region ?_))))))
  refine .cons (Ev.step (ev_mv rfl rfl) rfl rfl rfl (.cons (Ev.step (ev_mv rfl rfl) rfl rfl rfl (.cons (Ev.step (ev_ix rfl Try.underlying34 ty90 rfl rfl (by omega) (by omega) (fun _ _ => Fr.adr (i := i0) hA (by omega) (by omega))) rfl rfl rfl (.cons (Ev.step (ev_lda rfl rfl (At.w (Fr.el (i := i0) hA (by omega) (by omega))) ty90) rfl rfl rfl (.cons (st_alloc rfl rfl rfl rfl zf90 (fun b1 => .cons (st_storea (l' := [.int .i64 ((gt l i0).v.kind), .bool ((gt l i0).v.truth), .int .i64 ((gt l i0).v.num), .string ((gt l i0).v.text), .slice ((gt l i0).nA) ((gt l i0).v.ns.length) ((gt l i0).nc), .slice ((gt l i0).kA) ((gt l i0).v.ks.length) ((gt l i0).kc)]) rfl rfl rfl ty90 rfl rfl rfl .h rfl rfl ?_)))))))))))
  refine .go (fun _ _ h => h) (.seq (.seq (.region (.cons (Ev.step (ev_fa rfl fo90_0 rfl (r := 0) rfl) rfl rfl rfl (.cons (Ev.step (ev_ld1 rfl ty88 rfl (At.own1 0 rfl rfl)) rfl rfl rfl ?_)))))))
  refine .go (fun _ _ h => h) (.block (.seq (.region (.cons (Ev.step (ev_cmp rfl rfl rfl rfl) rfl rfl rfl (.cons (Ev.step (ev_as rfl rfl) rfl rfl rfl ?_)))))))
  refine .go (fun _ _ h => h) (.condI rfl bE (fun h2 => ?_) (fun h2 => ?_))
  ·
    refine .seq (.region (.cons (Ev.step (ev_mv rfl rfl) rfl rfl rfl (.cons (st_apps rfl rfl rfl rfl Try.underlying36 Try.underlying9 ai5 rfl rfl (.t .h) (by show _ + (4 : Nat) ≤ 140737488355328; first | ((try simp only [List.length_nil, List.length_cons, List.length_append, List.length_set, List.length_singleton, List.length_take, List.length_drop, List.length_reverse]) <;> omega) | omega) (fun v3 => .cons (Ev.step (ev_as rfl rfl) rfl rfl rfl (.go (fun _ _ h => h) ?_))))))))
    exact .ret (fun _ _ h => h) (ret1 Try.results30 rfl (.c .h .n) ⟨v3, rfl, (by rw [w_1 h0 (by omega) (by omega)]; rfl)⟩)
  ·
    refine .seq (.region (.cons (Ev.step (ev_cmp rfl rfl rfl rfl) rfl rfl rfl (.cons (Ev.step (ev_as rfl rfl) rfl rfl rfl (.go (fun _ _ h => h) (.condI rfl bE (fun h4 => ?_) (fun h4 => ?_))))))))
    ·
      refine .seq (.seq (.region (.cons (Ev.step (ev_fa rfl fo90_1 rfl (r := 1) rfl) rfl rfl rfl (.cons (Ev.step (ev_ld1 rfl ty4 rfl (At.own1 0 rfl rfl)) rfl rfl rfl (.go (fun _ _ h => h) ?_)))))))
      refine .condI rfl bV (fun h5 => ?_) (fun h5 => ?_)
      ·
        refine .seq (.region (.cons (Ev.step (ev_mv rfl rfl) rfl rfl rfl (.cons (st_apps rfl rfl rfl rfl Try.underlying36 Try.underlying9 ai5 rfl rfl (.t .h) (by show _ + (4 : Nat) ≤ 140737488355328; first | ((try simp only [List.length_nil, List.length_cons, List.length_append, List.length_set, List.length_singleton, List.length_take, List.length_drop, List.length_reverse]) <;> omega) | omega) (fun v6 => .cons (Ev.step (ev_as rfl rfl) rfl rfl rfl (.go (fun _ _ h => h) ?_))))))))
        exact .ret (fun _ _ h => h) (ret1 Try.results30 rfl (.c .h .n) ⟨v6, rfl, (by rw [w_2t h0 (by omega) (by omega) (by assumption)]; rfl)⟩)
      ·
        refine .skipgo (fun _ _ h => h) (.seq (.region (.cons (Ev.step (ev_mv rfl rfl) rfl rfl rfl (.cons (st_apps rfl rfl rfl rfl Try.underlying36 Try.underlying9 ai5 rfl rfl (.t .h) (by show _ + (5 : Nat) ≤ 140737488355328; first | ((try simp only [List.length_nil, List.length_cons, List.length_append, List.length_set, List.length_singleton, List.length_take, List.length_drop, List.length_reverse]) <;> omega) | omega) (fun v7 => .cons (Ev.step (ev_as rfl rfl) rfl rfl rfl ?_))))))))
        exact .go (fun _ _ h => h) (.ret (fun _ _ h => h) (ret1 Try.results30 rfl (.c .h .n) ⟨v7, rfl, (by rw [w_2f h0 (by omega) (by omega) (by assumption)]; rfl)⟩))
    ·
      refine .seq (.region (.cons (Ev.step (ev_cmp rfl rfl rfl rfl) rfl rfl rfl (.cons (Ev.step (ev_as rfl rfl) rfl rfl rfl (.go (fun _ _ h => h) (.condI rfl bE (fun h8 => ?_) (fun h8 => ?_))))))))
      ·
        refine .seq ?_
        have hns := numS_size (a := (gt l i0).v.num) (by omega) (by omega)
        refine .region (.cons (Ev.step (ev_mv rfl rfl) rfl rfl rfl (.cons (Ev.step (ev_fa rfl fo90_2 rfl (r := 2) rfl) rfl rfl rfl (.cons (Ev.step (ev_ld1 rfl ty3 rfl (At.own1 0 rfl rfl)) rfl rfl rfl (.cons (st_callk rfl rfl rfl rfl hb51 rfl .n (numtxt ((gt l i0).v.num) _ _ (by omega)) (.cons (st_apps rfl rfl rfl rfl Try.underlying36 Try.underlying9 ai5 rfl rfl (.t .h) (by first | ((try simp only [List.length_nil, List.length_cons, List.length_append, List.length_set, List.length_singleton, List.length_take, List.length_drop, List.length_reverse]) <;> omega) | omega) (fun v9 => ?_)))))))))))
        exact .cons (Ev.step (ev_as rfl rfl) rfl rfl rfl (.go (fun _ _ h => h) (.ret (fun _ _ h => h) (ret1 Try.results30 rfl (.c .h .n) ⟨v9, rfl, (by rw [w_3 h0 (by omega) (by omega), ← bs_numS])⟩))))
      ·
        refine .seq (.region (.cons (Ev.step (ev_cmp rfl rfl rfl rfl) rfl rfl rfl (.cons (Ev.step (ev_as rfl rfl) rfl rfl rfl (.go (fun _ _ h => h) (.condI rfl bE (fun h10 => ?_) (fun h10 => ?_))))))))
        ·
          refine .seq (.region (.cons (Ev.step (ev_mv rfl rfl) rfl rfl rfl (.cons (Ev.step (ev_fa rfl fo90_3 rfl (r := 3) rfl) rfl rfl rfl (.cons (Ev.step (ev_ld1 rfl ty9 rfl (At.own1 0 rfl rfl)) rfl rfl rfl (.cons (st_call0 rfl rfl rfl rfl hb52 rfl (.c (.t .h) .n) (quote_ v o ((gt l i0).v.text) _ _ (by first | exact Nat.le_trans (hBi.2.1 _ (gt_mem (by omega) (by omega))) (by decide) | omega) (by first | omega | ((try simp only [List.length_append, List.length_cons, List.length_nil]); (repeat' split at hup) <;> omega))) (fun v_q12 C_q12 q12 => ?_))))))))))
          obtain ⟨u11, rfl, rfl⟩ := q12
          show SP _ _ _ _ _ _ ⟨_, _ :: _, _, _⟩
          exact .cons (Ev.step (ev_as rfl rfl) rfl rfl rfl (.go (fun _ _ h => h) (.ret (fun _ _ h => h) (ret1 Try.results30 rfl (.c .h .n) ⟨v_q12, rfl, (by rw [w_4 h0 (by omega) (by omega)])⟩))))
        ·
          refine .skipgo (fun _ _ h => h) (.seq ?_)
          have hk1 : ¬ (gt l i0).v.kind = 1 := h2
          have hk2 : ¬ (gt l i0).v.kind = 2 := h4
          have hk3 : ¬ (gt l i0).v.kind = 3 := h8
          have hk4 : ¬ (gt l i0).v.kind = 4 := h10
          have hwl := w_5len (f := f) h0 (by omega) hk1 hk2 hk3 hk4
          refine .region (.cons (Ev.step (ev_as rfl rfl) rfl rfl rfl (.go (fun _ _ h => h) (.seq (.seq (.region ?_))))))
          refine .cons (Ev.step (ev_fa rfl fo90_0 rfl (r := 0) rfl) rfl rfl rfl (.cons (Ev.step (ev_ld1 rfl ty88 rfl (At.own1 0 rfl rfl)) rfl rfl rfl (.cons (Ev.step (ev_cmp rfl rfl rfl rfl) rfl rfl rfl (.go (fun _ _ h => h) (.condI rfl bE (fun h13 => ?_) (fun h13 => ?_))))))))
          ·
            refine .region (.cons (Ev.step (ev_as rfl rfl) rfl rfl rfl (.go (fun _ _ h => h) (.seq ?_))))
            have hk6 := h13
            refine .region (.cons (Ev.step (ev_mv rfl rfl) rfl rfl rfl (.cons (Ev.step (ev_mv rfl rfl) rfl rfl rfl (.cons (Ev.step (ev_ixs rfl Try.underlying9 rfl rfl (by omega) (by show _ < ((2 : Nat) : Int); omega)) rfl rfl rfl (.cons (st_lit eY (e := 5) (l := [(gt (bs ⟨#[123, 125]⟩) 0)]) rfl rfl rfl rfl (by kernel_rfl) rfl rfl (fun w => by kernel_rfl) (fun b14 => .cons (st_app (E := eY) (m := [(gt (bs ⟨#[123, 125]⟩) 0)]) rfl rfl rfl rfl Try.underlying36 ai5 rfl rfl rfl (.t (.t .h)) (by first | rfl | omega | simp) (row_src 0 rfl) (by first | ((try simp only [List.length_nil, List.length_cons, List.length_append, List.length_set, List.length_singleton, List.length_take, List.length_drop, List.length_reverse]) <;> omega) | omega) rfl (fun v15 => ?_)))))))))))
            refine .cons (Ev.step (ev_as rfl rfl) rfl rfl rfl (.go (fun _ _ h => h) (.seq (.seq (.region (.cons (Ev.step (ev_as rfl rfl) rfl rfl rfl ?_)))))))
            refine .go (fun _ _ h => h) (.block ?_)
            refine .loop (X := Int × (List Int) × Value) (fun ⟨x, X, U⟩ => 0 ≤ x ∧ x ≤ (gt l i0).v.ks.length ∧ X = (o ++ [(gt (bs ⟨#[123, 125]⟩) 0)]) ++ upTo (itemF (gt l i0).v (wF f (vs l))) x.toNat) (fun ⟨x, X, U⟩ => [(0, U), (1, .slice A l.length c), (7, .pointer (some ⟨b1, 0, none⟩)), (8, .string ⟨#[123, 125]⟩), (9, .int .i64 x)]) (fun ⟨x, X, U⟩ => [rw_ eY 5 (U) X, cel b1 [.int .i64 ((gt l i0).v.kind), .bool ((gt l i0).v.truth), .int .i64 ((gt l i0).v.num), .string ((gt l i0).v.text), .slice ((gt l i0).nA) ((gt l i0).v.ns.length) ((gt l i0).nc), .slice ((gt l i0).kA) ((gt l i0).v.ks.length) ((gt l i0).kc)] 90]) (fun _ => S) (fun _ => wf) (fun ⟨x, X, U⟩ => ((gt l i0).v.ks.length - x.toNat)) (fun a_ w_ hs_ hw_ => ⟨⟨0, (o ++ [(gt (bs ⟨#[123, 125]⟩) 0)]), v15⟩, (by exact ⟨by omega, by omega, by rw [show (0 : Int).toNat = 0 from rfl, upTo, List.append_nil]⟩), hs_.mono (Sub.get (.c rfl (.c rfl (.c rfl (.c rfl (.c rfl .n)))))), hw_.keep (.c .h (.c (.t .h) .n))⟩) (fun ⟨x, X, U⟩ ⟨q_0, q_1, q_2⟩ => ?_)
            show SC _ _ _ _ _ ⟨[(0, U), (1, .slice A l.length c), (7, .pointer (some ⟨b1, 0, none⟩)), (8, .string ⟨#[123, 125]⟩), (9, .int .i64 x)], [rw_ eY 5 (U) X, cel b1 [.int .i64 ((gt l i0).v.kind), .bool ((gt l i0).v.truth), .int .i64 ((gt l i0).v.num), .string ((gt l i0).v.text), .slice ((gt l i0).nA) ((gt l i0).v.ns.length) ((gt l i0).nc), .slice ((gt l i0).kA) ((gt l i0).v.ks.length) ((gt l i0).kc)] 90], S, wf⟩
            refine .seq (.seq (.region (.cons (Ev.step (ev_mv rfl rfl) rfl rfl rfl (.cons (Ev.step (ev_fa rfl fo90_5 rfl (r := 5) rfl) rfl rfl rfl (.cons (Ev.step (ev_ld1 rfl ty56 rfl (At.own1 1 rfl rfl)) rfl rfl rfl ?_))))))))
            refine .cons (Ev.step (ev_len rfl Try.underlying56 rfl) rfl rfl rfl (.cons (Ev.step (ev_cmp rfl rfl rfl rfl) rfl rfl rfl (.go (fun _ _ h => h) (.condI rfl bD (fun h16 => ?_) (fun h16 => ?_))))))
            ·
              refine .skipgo (fun _ _ h => h) (.seq (.block (.seq (.seq ?_))))
              have hup := up_le (f := (itemF (gt l i0).v (wF f (vs l)))) q_0 (by assumption)
              rw [item_len, if_pos hk6] at hup
              have hXl : X.length = o.length + 1 + (upTo (itemF (gt l i0).v (wF f (vs l))) x.toNat).length := by rw [q_2]; simp; omega
              have hkr := (hV i0 h0 (by omega)).1 _ (gt_mem (l := (gt l i0).v.ks) (i := x) q_0 (by omega))
              have hnl := (hV i0 h0 (by omega)).2
              refine .region (.cons (Ev.step (ev_mv rfl rfl) rfl rfl rfl (.cons (Ev.step (ev_cmp rfl rfl rfl rfl) rfl rfl rfl (.go (fun _ _ h => h) (.condI rfl bD (fun h17 => ?_) (fun h17 => ?_)))))))
              ·
                refine .region (.cons (Ev.step (ev_mv rfl rfl) rfl rfl rfl (.cons (st_lit eY (e := 5) (l := [44]) rfl rfl rfl rfl (by kernel_rfl) rfl rfl (fun w => by kernel_rfl) (fun b18 => .cons (st_app (E := eY) (m := [44]) rfl rfl rfl rfl Try.underlying36 ai5 rfl rfl rfl (.t .h) (by first | rfl | omega | simp) (row_src 0 rfl) (by first | ((try simp only [List.length_nil, List.length_cons, List.length_append, List.length_set, List.length_singleton, List.length_take, List.length_drop, List.length_reverse]) <;> omega) | omega) rfl (fun v19 => .cons (Ev.step (ev_as rfl rfl) rfl rfl rfl (.go (fun _ _ h => h) ?_)))))))))
                refine .seq (.seq (.region (.cons (Ev.step (ev_fa rfl fo90_0 rfl (r := 0) rfl) rfl rfl rfl (.cons (Ev.step (ev_ld1 rfl ty88 rfl (At.own1 2 rfl rfl)) rfl rfl rfl (.cons (Ev.step (ev_cmp rfl rfl rfl rfl) rfl rfl rfl ?_))))))))
                refine .go (fun _ _ h => h) (.condI rfl bE (fun h20 => ?_) (fun h20 => ?_))
                ·
                  refine .region (.cons (Ev.step (ev_mv rfl rfl) rfl rfl rfl (.cons (Ev.step (ev_fa rfl fo90_4 rfl (r := 4) rfl) rfl rfl rfl (.cons (Ev.step (ev_ld1 rfl ty82 rfl (At.own1 2 rfl rfl)) rfl rfl rfl (.cons (Ev.step (ev_mv rfl rfl) rfl rfl rfl (.cons (Ev.step (ev_ix rfl Try.underlying82 ty9 rfl rfl (by omega) (by omega) (fun _ _ => Fr.adr (i := x) (hN _ (gt_mem (i := i0) (by omega) (by omega))).1 (by omega) (by omega))) rfl rfl rfl ?_))))))))))
                  refine .cons (Ev.step (ev_ld1 rfl ty9 rfl (At.elem1 (At.w (Fr.el (i := x) (hN _ (gt_mem (i := i0) (by omega) (by omega))).1 (by omega) (by omega))) 0 rfl)) rfl rfl rfl (.cons (st_call0 rfl rfl rfl rfl hb52 rfl (.c .h .n) (quote_ v19 (X ++ [44]) (gt ((gt l i0).v.ns) x) _ _ (by first | exact Nat.le_trans (hBi.2.1 _ (gt_mem (by omega) (by omega))) (by decide) | omega) (by first | omega | ((try simp only [List.length_append, List.length_cons, List.length_nil]); (repeat' split at hup) <;> omega))) (fun v_q22 C_q22 q22 => ?_))))
                  obtain ⟨u21, rfl, rfl⟩ := q22
                  show SP _ _ _ _ _ _ ⟨_, _ :: _, _, _⟩
                  refine .cons (st_lit eY (e := 5) (l := [58]) rfl rfl rfl rfl (by kernel_rfl) rfl rfl (fun w => by kernel_rfl) (fun b23 => .cons (st_app (E := eY) (m := [58]) rfl rfl rfl rfl Try.underlying36 ai5 rfl rfl rfl (.t .h) (by first | rfl | omega | simp) (row_src 0 rfl) (by first | ((try simp only [List.length_nil, List.length_cons, List.length_append, List.length_set, List.length_singleton, List.length_take, List.length_drop, List.length_reverse]) <;> omega) | omega) rfl (fun v24 => .cons (Ev.step (ev_as rfl rfl) rfl rfl rfl (.go (fun _ _ h => h) (.region (.cons (Ev.step (ev_mv rfl rfl) rfl rfl rfl ?_)))))))))
                  refine .cons (Ev.step (ev_mv rfl rfl) rfl rfl rfl (.cons (Ev.step (ev_fa rfl fo90_5 rfl (r := 5) rfl) rfl rfl rfl (.cons (Ev.step (ev_ld1 rfl ty56 rfl (At.own1 3 rfl rfl)) rfl rfl rfl (.cons (Ev.step (ev_mv rfl rfl) rfl rfl rfl (.cons (Ev.step (ev_ix rfl Try.underlying56 ty3 rfl rfl (by omega) (by omega) (fun _ _ => Fr.adr (i := x) (hN _ (gt_mem (i := i0) (by omega) (by omega))).2 (by omega) (by omega))) rfl rfl rfl (.cons (Ev.step (ev_ld1 rfl ty3 rfl (At.elem1 (At.w (Fr.el (i := x) (hN _ (gt_mem (i := i0) (by omega) (by omega))).2 (by omega) (by omega))) 0 rfl)) rfl rfl rfl ?_)))))))))))
                  refine .cons (st_call0 rfl rfl rfl rfl hb30 rfl (.c .h .n) (ih A c l v24 (((X ++ [44]) ++ quoteF (gt ((gt l i0).v.ns) x)) ++ [58]) (gt ((gt l i0).v.ks) x) _ _ hA hN hB hV (by omega) (by first | ((try simp only [List.length_nil, List.length_cons, List.length_append, List.length_set, List.length_singleton, List.length_take, List.length_drop, List.length_reverse]) <;> omega) | omega) (by omega) (by first | omega | ((try simp only [List.length_append, List.length_cons, List.length_nil]); (repeat' split at hup) <;> omega))) (fun v_q26 C_q26 q26 => ?_))
                  obtain ⟨u25, rfl, rfl⟩ := q26
                  show SP _ _ _ _ _ _ ⟨_, _ :: _, _, _⟩
                  refine .cons (Ev.step (ev_as rfl rfl) rfl rfl rfl (.go (fun _ _ h => h) (.region (.cons (Ev.step (ev_mv rfl rfl) rfl rfl rfl (.cons (Ev.step (ev_add rfl rfl rfl (r := (x + 1)) rfl (by omega) (by omega)) rfl rfl rfl (.cons (Ev.step (ev_as rfl rfl) rfl rfl rfl ?_)))))))))
                  exact SP.nil (SQ.roundb (X := Int × (List Int) × Value) (x := (x, X, U)) ⟨(x + 1), ((((X ++ [44]) ++ quoteF (gt ((gt l i0).v.ns) x)) ++ [58]) ++ wF f (vs l) (gt ((gt l i0).v.ks) x)), v_q26⟩ (by exact ⟨by omega, by omega, w_next q_2 q_0 (by unfold itemF; rw [if_pos (by omega), if_pos (by omega)]; simp)⟩) (by dsimp only; omega) (Sub.get (.c rfl (.c rfl (.c rfl (.c rfl (.c rfl .n)))))) (fun w hw => hw.keep (.c .h (.c (.t (.t .h)) .n))))
                ·
                  refine .skipgo (fun _ _ h => h) (.region (.cons (Ev.step (ev_mv rfl rfl) rfl rfl rfl (.cons (Ev.step (ev_mv rfl rfl) rfl rfl rfl (.cons (Ev.step (ev_fa rfl fo90_5 rfl (r := 5) rfl) rfl rfl rfl (.cons (Ev.step (ev_ld1 rfl ty56 rfl (At.own1 2 rfl rfl)) rfl rfl rfl ?_)))))))))
                  refine .cons (Ev.step (ev_mv rfl rfl) rfl rfl rfl (.cons (Ev.step (ev_ix rfl Try.underlying56 ty3 rfl rfl (by omega) (by omega) (fun _ _ => Fr.adr (i := x) (hN _ (gt_mem (i := i0) (by omega) (by omega))).2 (by omega) (by omega))) rfl rfl rfl (.cons (Ev.step (ev_ld1 rfl ty3 rfl (At.elem1 (At.w (Fr.el (i := x) (hN _ (gt_mem (i := i0) (by omega) (by omega))).2 (by omega) (by omega))) 0 rfl)) rfl rfl rfl (.cons (st_call0 rfl rfl rfl rfl hb30 rfl (.c .h .n) (ih A c l v19 (X ++ [44]) (gt ((gt l i0).v.ks) x) _ _ hA hN hB hV (by omega) (by first | ((try simp only [List.length_nil, List.length_cons, List.length_append, List.length_set, List.length_singleton, List.length_take, List.length_drop, List.length_reverse]) <;> omega) | omega) (by omega) (by first | omega | ((try simp only [List.length_append, List.length_cons, List.length_nil]); (repeat' split at hup) <;> omega))) (fun v_q28 C_q28 q28 => ?_))))))))
                  obtain ⟨u27, rfl, rfl⟩ := q28
                  show SP _ _ _ _ _ _ ⟨_, _ :: _, _, _⟩
                  refine .cons (Ev.step (ev_as rfl rfl) rfl rfl rfl (.go (fun _ _ h => h) (.region (.cons (Ev.step (ev_mv rfl rfl) rfl rfl rfl (.cons (Ev.step (ev_add rfl rfl rfl (r := (x + 1)) rfl (by omega) (by omega)) rfl rfl rfl (.cons (Ev.step (ev_as rfl rfl) rfl rfl rfl ?_)))))))))
                  exact SP.nil (SQ.roundb (X := Int × (List Int) × Value) (x := (x, X, U)) ⟨(x + 1), ((X ++ [44]) ++ wF f (vs l) (gt ((gt l i0).v.ks) x)), v_q28⟩ (by exact ⟨by omega, by omega, w_next q_2 q_0 (by unfold itemF; rw [if_pos (by omega), if_neg (by omega)]; simp)⟩) (by dsimp only; omega) (Sub.get (.c rfl (.c rfl (.c rfl (.c rfl (.c rfl .n)))))) (fun w hw => hw.keep (.c .h (.c (.t .h) .n))))
              ·
                refine .skipgo (fun _ _ h => h) (.seq (.seq (.region (.cons (Ev.step (ev_fa rfl fo90_0 rfl (r := 0) rfl) rfl rfl rfl (.cons (Ev.step (ev_ld1 rfl ty88 rfl (At.own1 1 rfl rfl)) rfl rfl rfl ?_)))))))
                refine .cons (Ev.step (ev_cmp rfl rfl rfl rfl) rfl rfl rfl (.go (fun _ _ h => h) (.condI rfl bE (fun h29 => ?_) (fun h29 => ?_))))
                ·
                  refine .region (.cons (Ev.step (ev_mv rfl rfl) rfl rfl rfl (.cons (Ev.step (ev_fa rfl fo90_4 rfl (r := 4) rfl) rfl rfl rfl (.cons (Ev.step (ev_ld1 rfl ty82 rfl (At.own1 1 rfl rfl)) rfl rfl rfl (.cons (Ev.step (ev_mv rfl rfl) rfl rfl rfl (.cons (Ev.step (ev_ix rfl Try.underlying82 ty9 rfl rfl (by omega) (by omega) (fun _ _ => Fr.adr (i := x) (hN _ (gt_mem (i := i0) (by omega) (by omega))).1 (by omega) (by omega))) rfl rfl rfl ?_))))))))))
                  refine .cons (Ev.step (ev_ld1 rfl ty9 rfl (At.elem1 (At.w (Fr.el (i := x) (hN _ (gt_mem (i := i0) (by omega) (by omega))).1 (by omega) (by omega))) 0 rfl)) rfl rfl rfl (.cons (st_call0 rfl rfl rfl rfl hb52 rfl (.c .h .n) (quote_ U X (gt ((gt l i0).v.ns) x) _ _ (by first | exact Nat.le_trans (hBi.2.1 _ (gt_mem (by omega) (by omega))) (by decide) | omega) (by first | omega | ((try simp only [List.length_append, List.length_cons, List.length_nil]); (repeat' split at hup) <;> omega))) (fun v_q31 C_q31 q31 => ?_))))
                  obtain ⟨u30, rfl, rfl⟩ := q31
                  show SP _ _ _ _ _ _ ⟨_, _ :: _, _, _⟩
                  refine .cons (st_lit eY (e := 5) (l := [58]) rfl rfl rfl rfl (by kernel_rfl) rfl rfl (fun w => by kernel_rfl) (fun b32 => .cons (st_app (E := eY) (m := [58]) rfl rfl rfl rfl Try.underlying36 ai5 rfl rfl rfl (.t .h) (by first | rfl | omega | simp) (row_src 0 rfl) (by first | ((try simp only [List.length_nil, List.length_cons, List.length_append, List.length_set, List.length_singleton, List.length_take, List.length_drop, List.length_reverse]) <;> omega) | omega) rfl (fun v33 => .cons (Ev.step (ev_as rfl rfl) rfl rfl rfl (.go (fun _ _ h => h) (.region (.cons (Ev.step (ev_mv rfl rfl) rfl rfl rfl ?_)))))))))
                  refine .cons (Ev.step (ev_mv rfl rfl) rfl rfl rfl (.cons (Ev.step (ev_fa rfl fo90_5 rfl (r := 5) rfl) rfl rfl rfl (.cons (Ev.step (ev_ld1 rfl ty56 rfl (At.own1 2 rfl rfl)) rfl rfl rfl (.cons (Ev.step (ev_mv rfl rfl) rfl rfl rfl (.cons (Ev.step (ev_ix rfl Try.underlying56 ty3 rfl rfl (by omega) (by omega) (fun _ _ => Fr.adr (i := x) (hN _ (gt_mem (i := i0) (by omega) (by omega))).2 (by omega) (by omega))) rfl rfl rfl (.cons (Ev.step (ev_ld1 rfl ty3 rfl (At.elem1 (At.w (Fr.el (i := x) (hN _ (gt_mem (i := i0) (by omega) (by omega))).2 (by omega) (by omega))) 0 rfl)) rfl rfl rfl ?_)))))))))))
                  refine .cons (st_call0 rfl rfl rfl rfl hb30 rfl (.c .h .n) (ih A c l v33 ((X ++ quoteF (gt ((gt l i0).v.ns) x)) ++ [58]) (gt ((gt l i0).v.ks) x) _ _ hA hN hB hV (by omega) (by first | ((try simp only [List.length_nil, List.length_cons, List.length_append, List.length_set, List.length_singleton, List.length_take, List.length_drop, List.length_reverse]) <;> omega) | omega) (by omega) (by first | omega | ((try simp only [List.length_append, List.length_cons, List.length_nil]); (repeat' split at hup) <;> omega))) (fun v_q35 C_q35 q35 => ?_))
                  obtain ⟨u34, rfl, rfl⟩ := q35
                  show SP _ _ _ _ _ _ ⟨_, _ :: _, _, _⟩
                  refine .cons (Ev.step (ev_as rfl rfl) rfl rfl rfl (.go (fun _ _ h => h) (.region (.cons (Ev.step (ev_mv rfl rfl) rfl rfl rfl (.cons (Ev.step (ev_add rfl rfl rfl (r := (x + 1)) rfl (by omega) (by omega)) rfl rfl rfl (.cons (Ev.step (ev_as rfl rfl) rfl rfl rfl ?_)))))))))
                  exact SP.nil (SQ.roundb (X := Int × (List Int) × Value) (x := (x, X, U)) ⟨(x + 1), (((X ++ quoteF (gt ((gt l i0).v.ns) x)) ++ [58]) ++ wF f (vs l) (gt ((gt l i0).v.ks) x)), v_q35⟩ (by exact ⟨by omega, by omega, w_next q_2 q_0 (by unfold itemF; rw [if_neg (by omega), if_pos (by omega)]; simp)⟩) (by dsimp only; omega) (Sub.get (.c rfl (.c rfl (.c rfl (.c rfl (.c rfl .n)))))) (fun w hw => hw.keep (.c .h (.c (.t .h) .n))))
                ·
                  refine .skipgo (fun _ _ h => h) (.region (.cons (Ev.step (ev_mv rfl rfl) rfl rfl rfl (.cons (Ev.step (ev_mv rfl rfl) rfl rfl rfl (.cons (Ev.step (ev_fa rfl fo90_5 rfl (r := 5) rfl) rfl rfl rfl (.cons (Ev.step (ev_ld1 rfl ty56 rfl (At.own1 1 rfl rfl)) rfl rfl rfl ?_)))))))))
                  refine .cons (Ev.step (ev_mv rfl rfl) rfl rfl rfl (.cons (Ev.step (ev_ix rfl Try.underlying56 ty3 rfl rfl (by omega) (by omega) (fun _ _ => Fr.adr (i := x) (hN _ (gt_mem (i := i0) (by omega) (by omega))).2 (by omega) (by omega))) rfl rfl rfl (.cons (Ev.step (ev_ld1 rfl ty3 rfl (At.elem1 (At.w (Fr.el (i := x) (hN _ (gt_mem (i := i0) (by omega) (by omega))).2 (by omega) (by omega))) 0 rfl)) rfl rfl rfl (.cons (st_call0 rfl rfl rfl rfl hb30 rfl (.c .h .n) (ih A c l U X (gt ((gt l i0).v.ks) x) _ _ hA hN hB hV (by omega) (by first | ((try simp only [List.length_nil, List.length_cons, List.length_append, List.length_set, List.length_singleton, List.length_take, List.length_drop, List.length_reverse]) <;> omega) | omega) (by omega) (by first | omega | ((try simp only [List.length_append, List.length_cons, List.length_nil]); (repeat' split at hup) <;> omega))) (fun v_q37 C_q37 q37 => ?_))))))))
                  obtain ⟨u36, rfl, rfl⟩ := q37
                  show SP _ _ _ _ _ _ ⟨_, _ :: _, _, _⟩
                  refine .cons (Ev.step (ev_as rfl rfl) rfl rfl rfl (.go (fun _ _ h => h) (.region (.cons (Ev.step (ev_mv rfl rfl) rfl rfl rfl (.cons (Ev.step (ev_add rfl rfl rfl (r := (x + 1)) rfl (by omega) (by omega)) rfl rfl rfl (.cons (Ev.step (ev_as rfl rfl) rfl rfl rfl ?_)))))))))
                  exact SP.nil (SQ.roundb (X := Int × (List Int) × Value) (x := (x, X, U)) ⟨(x + 1), (X ++ wF f (vs l) (gt ((gt l i0).v.ks) x)), v_q37⟩ (by exact ⟨by omega, by omega, w_next q_2 q_0 (by unfold itemF; rw [if_neg (by omega), if_neg (by omega)]; simp)⟩) (by dsimp only; omega) (Sub.get (.c rfl (.c rfl (.c rfl (.c rfl (.c rfl .n)))))) (fun w hw => hw.keep (.c .h (.c .h .n))))
            ·
              refine .exit (fun _ _ h => h) (.seq ?_)
              have hXl : X.length = o.length + 1 + (upTo (itemF (gt l i0).v (wF f (vs l))) x.toNat).length := by rw [q_2]; simp; omega
              have hum := up_mono (f := (itemF (gt l i0).v (wF f (vs l)))) (a := x.toNat) (b := (gt l i0).v.ks.length) (by omega)
              refine .region (.cons (Ev.step (ev_mv rfl rfl) rfl rfl rfl (.cons (Ev.step (ev_mv rfl rfl) rfl rfl rfl (.cons (Ev.step (ev_ixs rfl Try.underlying9 rfl rfl (by omega) (by show _ < ((2 : Nat) : Int); omega)) rfl rfl rfl (.cons (st_lit eY (e := 5) (l := [(gt (bs ⟨#[123, 125]⟩) 1)]) rfl rfl rfl rfl (by kernel_rfl) rfl rfl (fun w => by kernel_rfl) (fun b38 => .cons (st_app (E := eY) (m := [(gt (bs ⟨#[123, 125]⟩) 1)]) rfl rfl rfl rfl Try.underlying36 ai5 rfl rfl rfl (.t .h) (by first | rfl | omega | simp) (row_src 0 rfl) (by first | ((try simp only [List.length_nil, List.length_cons, List.length_append, List.length_set, List.length_singleton, List.length_take, List.length_drop, List.length_reverse]) <;> omega) | omega) rfl (fun v39 => ?_)))))))))))
              exact .cons (Ev.step (ev_as rfl rfl) rfl rfl rfl (.go (fun _ _ h => h) (.ret (fun _ _ h => h) (ret1 Try.results30 rfl (.c .h .n) ⟨v39, rfl, (by rw [w_5 h0 (by omega) hk1 hk2 hk3 hk4, q_2, show x.toNat = (gt l i0).v.ks.length from by omega]; unfold markO markC; rw [if_pos hk6, if_pos hk6]; simp; rfl)⟩))))
          ·
            refine .skipgo (fun _ _ h => h) (.seq ?_)
            have hk6 := h13
            refine .region (.cons (Ev.step (ev_mv rfl rfl) rfl rfl rfl (.cons (Ev.step (ev_mv rfl rfl) rfl rfl rfl (.cons (Ev.step (ev_ixs rfl Try.underlying9 rfl rfl (by omega) (by show _ < ((2 : Nat) : Int); omega)) rfl rfl rfl (.cons (st_lit eY (e := 5) (l := [(gt (bs ⟨#[91, 93]⟩) 0)]) rfl rfl rfl rfl (by kernel_rfl) rfl rfl (fun w => by kernel_rfl) (fun b40 => .cons (st_app (E := eY) (m := [(gt (bs ⟨#[91, 93]⟩) 0)]) rfl rfl rfl rfl Try.underlying36 ai5 rfl rfl rfl (.t (.t .h)) (by first | rfl | omega | simp) (row_src 0 rfl) (by first | ((try simp only [List.length_nil, List.length_cons, List.length_append, List.length_set, List.length_singleton, List.length_take, List.length_drop, List.length_reverse]) <;> omega) | omega) rfl (fun v41 => ?_)))))))))))
            refine .cons (Ev.step (ev_as rfl rfl) rfl rfl rfl (.go (fun _ _ h => h) (.seq (.seq (.region (.cons (Ev.step (ev_as rfl rfl) rfl rfl rfl ?_)))))))
            refine .go (fun _ _ h => h) (.block ?_)
            refine .loop (X := Int × (List Int) × Value) (fun ⟨x, X, U⟩ => 0 ≤ x ∧ x ≤ (gt l i0).v.ks.length ∧ X = (o ++ [(gt (bs ⟨#[91, 93]⟩) 0)]) ++ upTo (itemF (gt l i0).v (wF f (vs l))) x.toNat) (fun ⟨x, X, U⟩ => [(0, U), (1, .slice A l.length c), (7, .pointer (some ⟨b1, 0, none⟩)), (8, .string ⟨#[91, 93]⟩), (9, .int .i64 x)]) (fun ⟨x, X, U⟩ => [rw_ eY 5 (U) X, cel b1 [.int .i64 ((gt l i0).v.kind), .bool ((gt l i0).v.truth), .int .i64 ((gt l i0).v.num), .string ((gt l i0).v.text), .slice ((gt l i0).nA) ((gt l i0).v.ns.length) ((gt l i0).nc), .slice ((gt l i0).kA) ((gt l i0).v.ks.length) ((gt l i0).kc)] 90]) (fun _ => S) (fun _ => wf) (fun ⟨x, X, U⟩ => ((gt l i0).v.ks.length - x.toNat)) (fun a_ w_ hs_ hw_ => ⟨⟨0, (o ++ [(gt (bs ⟨#[91, 93]⟩) 0)]), v41⟩, (by exact ⟨by omega, by omega, by rw [show (0 : Int).toNat = 0 from rfl, upTo, List.append_nil]⟩), hs_.mono (Sub.get (.c rfl (.c rfl (.c rfl (.c rfl (.c rfl .n)))))), hw_.keep (.c .h (.c (.t .h) .n))⟩) (fun ⟨x, X, U⟩ ⟨q_0, q_1, q_2⟩ => ?_)
            show SC _ _ _ _ _ ⟨[(0, U), (1, .slice A l.length c), (7, .pointer (some ⟨b1, 0, none⟩)), (8, .string ⟨#[91, 93]⟩), (9, .int .i64 x)], [rw_ eY 5 (U) X, cel b1 [.int .i64 ((gt l i0).v.kind), .bool ((gt l i0).v.truth), .int .i64 ((gt l i0).v.num), .string ((gt l i0).v.text), .slice ((gt l i0).nA) ((gt l i0).v.ns.length) ((gt l i0).nc), .slice ((gt l i0).kA) ((gt l i0).v.ks.length) ((gt l i0).kc)] 90], S, wf⟩
            refine .seq (.seq (.region (.cons (Ev.step (ev_mv rfl rfl) rfl rfl rfl (.cons (Ev.step (ev_fa rfl fo90_5 rfl (r := 5) rfl) rfl rfl rfl (.cons (Ev.step (ev_ld1 rfl ty56 rfl (At.own1 1 rfl rfl)) rfl rfl rfl ?_))))))))
            refine .cons (Ev.step (ev_len rfl Try.underlying56 rfl) rfl rfl rfl (.cons (Ev.step (ev_cmp rfl rfl rfl rfl) rfl rfl rfl (.go (fun _ _ h => h) (.condI rfl bD (fun h42 => ?_) (fun h42 => ?_))))))
            ·
              refine .skipgo (fun _ _ h => h) (.seq (.block (.seq (.seq ?_))))
              have hup := up_le (f := (itemF (gt l i0).v (wF f (vs l)))) q_0 (by assumption)
              rw [item_len, if_neg hk6] at hup
              have hXl : X.length = o.length + 1 + (upTo (itemF (gt l i0).v (wF f (vs l))) x.toNat).length := by rw [q_2]; simp; omega
              have hkr := (hV i0 h0 (by omega)).1 _ (gt_mem (l := (gt l i0).v.ks) (i := x) q_0 (by omega))
              have hnl := (hV i0 h0 (by omega)).2
              refine .region (.cons (Ev.step (ev_mv rfl rfl) rfl rfl rfl (.cons (Ev.step (ev_cmp rfl rfl rfl rfl) rfl rfl rfl (.go (fun _ _ h => h) (.condI rfl bD (fun h43 => ?_) (fun h43 => ?_)))))))
              ·
                refine .region (.cons (Ev.step (ev_mv rfl rfl) rfl rfl rfl (.cons (st_lit eY (e := 5) (l := [44]) rfl rfl rfl rfl (by kernel_rfl) rfl rfl (fun w => by kernel_rfl) (fun b44 => .cons (st_app (E := eY) (m := [44]) rfl rfl rfl rfl Try.underlying36 ai5 rfl rfl rfl (.t .h) (by first | rfl | omega | simp) (row_src 0 rfl) (by first | ((try simp only [List.length_nil, List.length_cons, List.length_append, List.length_set, List.length_singleton, List.length_take, List.length_drop, List.length_reverse]) <;> omega) | omega) rfl (fun v45 => .cons (Ev.step (ev_as rfl rfl) rfl rfl rfl (.go (fun _ _ h => h) ?_)))))))))
                refine .seq (.seq (.region (.cons (Ev.step (ev_fa rfl fo90_0 rfl (r := 0) rfl) rfl rfl rfl (.cons (Ev.step (ev_ld1 rfl ty88 rfl (At.own1 2 rfl rfl)) rfl rfl rfl (.cons (Ev.step (ev_cmp rfl rfl rfl rfl) rfl rfl rfl ?_))))))))
                refine .go (fun _ _ h => h) (.condI rfl bE (fun h46 => ?_) (fun h46 => ?_))
                ·
                  refine .region (.cons (Ev.step (ev_mv rfl rfl) rfl rfl rfl (.cons (Ev.step (ev_fa rfl fo90_4 rfl (r := 4) rfl) rfl rfl rfl (.cons (Ev.step (ev_ld1 rfl ty82 rfl (At.own1 2 rfl rfl)) rfl rfl rfl (.cons (Ev.step (ev_mv rfl rfl) rfl rfl rfl (.cons (Ev.step (ev_ix rfl Try.underlying82 ty9 rfl rfl (by omega) (by omega) (fun _ _ => Fr.adr (i := x) (hN _ (gt_mem (i := i0) (by omega) (by omega))).1 (by omega) (by omega))) rfl rfl rfl ?_))))))))))
                  refine .cons (Ev.step (ev_ld1 rfl ty9 rfl (At.elem1 (At.w (Fr.el (i := x) (hN _ (gt_mem (i := i0) (by omega) (by omega))).1 (by omega) (by omega))) 0 rfl)) rfl rfl rfl (.cons (st_call0 rfl rfl rfl rfl hb52 rfl (.c .h .n) (quote_ v45 (X ++ [44]) (gt ((gt l i0).v.ns) x) _ _ (by first | exact Nat.le_trans (hBi.2.1 _ (gt_mem (by omega) (by omega))) (by decide) | omega) (by first | omega | ((try simp only [List.length_append, List.length_cons, List.length_nil]); (repeat' split at hup) <;> omega))) (fun v_q48 C_q48 q48 => ?_))))
                  obtain ⟨u47, rfl, rfl⟩ := q48
                  show SP _ _ _ _ _ _ ⟨_, _ :: _, _, _⟩
                  refine .cons (st_lit eY (e := 5) (l := [58]) rfl rfl rfl rfl (by kernel_rfl) rfl rfl (fun w => by kernel_rfl) (fun b49 => .cons (st_app (E := eY) (m := [58]) rfl rfl rfl rfl Try.underlying36 ai5 rfl rfl rfl (.t .h) (by first | rfl | omega | simp) (row_src 0 rfl) (by first | ((try simp only [List.length_nil, List.length_cons, List.length_append, List.length_set, List.length_singleton, List.length_take, List.length_drop, List.length_reverse]) <;> omega) | omega) rfl (fun v50 => .cons (Ev.step (ev_as rfl rfl) rfl rfl rfl (.go (fun _ _ h => h) (.region (.cons (Ev.step (ev_mv rfl rfl) rfl rfl rfl ?_)))))))))
                  refine .cons (Ev.step (ev_mv rfl rfl) rfl rfl rfl (.cons (Ev.step (ev_fa rfl fo90_5 rfl (r := 5) rfl) rfl rfl rfl (.cons (Ev.step (ev_ld1 rfl ty56 rfl (At.own1 3 rfl rfl)) rfl rfl rfl (.cons (Ev.step (ev_mv rfl rfl) rfl rfl rfl (.cons (Ev.step (ev_ix rfl Try.underlying56 ty3 rfl rfl (by omega) (by omega) (fun _ _ => Fr.adr (i := x) (hN _ (gt_mem (i := i0) (by omega) (by omega))).2 (by omega) (by omega))) rfl rfl rfl (.cons (Ev.step (ev_ld1 rfl ty3 rfl (At.elem1 (At.w (Fr.el (i := x) (hN _ (gt_mem (i := i0) (by omega) (by omega))).2 (by omega) (by omega))) 0 rfl)) rfl rfl rfl ?_)))))))))))
                  refine .cons (st_call0 rfl rfl rfl rfl hb30 rfl (.c .h .n) (ih A c l v50 (((X ++ [44]) ++ quoteF (gt ((gt l i0).v.ns) x)) ++ [58]) (gt ((gt l i0).v.ks) x) _ _ hA hN hB hV (by omega) (by first | ((try simp only [List.length_nil, List.length_cons, List.length_append, List.length_set, List.length_singleton, List.length_take, List.length_drop, List.length_reverse]) <;> omega) | omega) (by omega) (by first | omega | ((try simp only [List.length_append, List.length_cons, List.length_nil]); (repeat' split at hup) <;> omega))) (fun v_q52 C_q52 q52 => ?_))
                  obtain ⟨u51, rfl, rfl⟩ := q52
                  show SP _ _ _ _ _ _ ⟨_, _ :: _, _, _⟩
                  refine .cons (Ev.step (ev_as rfl rfl) rfl rfl rfl (.go (fun _ _ h => h) (.region (.cons (Ev.step (ev_mv rfl rfl) rfl rfl rfl (.cons (Ev.step (ev_add rfl rfl rfl (r := (x + 1)) rfl (by omega) (by omega)) rfl rfl rfl (.cons (Ev.step (ev_as rfl rfl) rfl rfl rfl ?_)))))))))
                  exact SP.nil (SQ.roundb (X := Int × (List Int) × Value) (x := (x, X, U)) ⟨(x + 1), ((((X ++ [44]) ++ quoteF (gt ((gt l i0).v.ns) x)) ++ [58]) ++ wF f (vs l) (gt ((gt l i0).v.ks) x)), v_q52⟩ (by exact ⟨by omega, by omega, w_next q_2 q_0 (by unfold itemF; rw [if_pos (by omega), if_pos (by omega)]; simp)⟩) (by dsimp only; omega) (Sub.get (.c rfl (.c rfl (.c rfl (.c rfl (.c rfl .n)))))) (fun w hw => hw.keep (.c .h (.c (.t (.t .h)) .n))))
                ·
                  refine .skipgo (fun _ _ h => h) (.region (.cons (Ev.step (ev_mv rfl rfl) rfl rfl rfl (.cons (Ev.step (ev_mv rfl rfl) rfl rfl rfl (.cons (Ev.step (ev_fa rfl fo90_5 rfl (r := 5) rfl) rfl rfl rfl (.cons (Ev.step (ev_ld1 rfl ty56 rfl (At.own1 2 rfl rfl)) rfl rfl rfl ?_)))))))))
                  refine .cons (Ev.step (ev_mv rfl rfl) rfl rfl rfl (.cons (Ev.step (ev_ix rfl Try.underlying56 ty3 rfl rfl (by omega) (by omega) (fun _ _ => Fr.adr (i := x) (hN _ (gt_mem (i := i0) (by omega) (by omega))).2 (by omega) (by omega))) rfl rfl rfl (.cons (Ev.step (ev_ld1 rfl ty3 rfl (At.elem1 (At.w (Fr.el (i := x) (hN _ (gt_mem (i := i0) (by omega) (by omega))).2 (by omega) (by omega))) 0 rfl)) rfl rfl rfl (.cons (st_call0 rfl rfl rfl rfl hb30 rfl (.c .h .n) (ih A c l v45 (X ++ [44]) (gt ((gt l i0).v.ks) x) _ _ hA hN hB hV (by omega) (by first | ((try simp only [List.length_nil, List.length_cons, List.length_append, List.length_set, List.length_singleton, List.length_take, List.length_drop, List.length_reverse]) <;> omega) | omega) (by omega) (by first | omega | ((try simp only [List.length_append, List.length_cons, List.length_nil]); (repeat' split at hup) <;> omega))) (fun v_q54 C_q54 q54 => ?_))))))))
                  obtain ⟨u53, rfl, rfl⟩ := q54
                  show SP _ _ _ _ _ _ ⟨_, _ :: _, _, _⟩
                  refine .cons (Ev.step (ev_as rfl rfl) rfl rfl rfl (.go (fun _ _ h => h) (.region (.cons (Ev.step (ev_mv rfl rfl) rfl rfl rfl (.cons (Ev.step (ev_add rfl rfl rfl (r := (x + 1)) rfl (by omega) (by omega)) rfl rfl rfl (.cons (Ev.step (ev_as rfl rfl) rfl rfl rfl ?_)))))))))
                  exact SP.nil (SQ.roundb (X := Int × (List Int) × Value) (x := (x, X, U)) ⟨(x + 1), ((X ++ [44]) ++ wF f (vs l) (gt ((gt l i0).v.ks) x)), v_q54⟩ (by exact ⟨by omega, by omega, w_next q_2 q_0 (by unfold itemF; rw [if_pos (by omega), if_neg (by omega)]; simp)⟩) (by dsimp only; omega) (Sub.get (.c rfl (.c rfl (.c rfl (.c rfl (.c rfl .n)))))) (fun w hw => hw.keep (.c .h (.c (.t .h) .n))))
              ·
                refine .skipgo (fun _ _ h => h) (.seq (.seq (.region (.cons (Ev.step (ev_fa rfl fo90_0 rfl (r := 0) rfl) rfl rfl rfl (.cons (Ev.step (ev_ld1 rfl ty88 rfl (At.own1 1 rfl rfl)) rfl rfl rfl ?_)))))))
                refine .cons (Ev.step (ev_cmp rfl rfl rfl rfl) rfl rfl rfl (.go (fun _ _ h => h) (.condI rfl bE (fun h55 => ?_) (fun h55 => ?_))))
                ·
                  refine .region (.cons (Ev.step (ev_mv rfl rfl) rfl rfl rfl (.cons (Ev.step (ev_fa rfl fo90_4 rfl (r := 4) rfl) rfl rfl rfl (.cons (Ev.step (ev_ld1 rfl ty82 rfl (At.own1 1 rfl rfl)) rfl rfl rfl (.cons (Ev.step (ev_mv rfl rfl) rfl rfl rfl (.cons (Ev.step (ev_ix rfl Try.underlying82 ty9 rfl rfl (by omega) (by omega) (fun _ _ => Fr.adr (i := x) (hN _ (gt_mem (i := i0) (by omega) (by omega))).1 (by omega) (by omega))) rfl rfl rfl ?_))))))))))
                  refine .cons (Ev.step (ev_ld1 rfl ty9 rfl (At.elem1 (At.w (Fr.el (i := x) (hN _ (gt_mem (i := i0) (by omega) (by omega))).1 (by omega) (by omega))) 0 rfl)) rfl rfl rfl (.cons (st_call0 rfl rfl rfl rfl hb52 rfl (.c .h .n) (quote_ U X (gt ((gt l i0).v.ns) x) _ _ (by first | exact Nat.le_trans (hBi.2.1 _ (gt_mem (by omega) (by omega))) (by decide) | omega) (by first | omega | ((try simp only [List.length_append, List.length_cons, List.length_nil]); (repeat' split at hup) <;> omega))) (fun v_q57 C_q57 q57 => ?_))))
                  obtain ⟨u56, rfl, rfl⟩ := q57
                  show SP _ _ _ _ _ _ ⟨_, _ :: _, _, _⟩
                  refine .cons (st_lit eY (e := 5) (l := [58]) rfl rfl rfl rfl (by kernel_rfl) rfl rfl (fun w => by kernel_rfl) (fun b58 => .cons (st_app (E := eY) (m := [58]) rfl rfl rfl rfl Try.underlying36 ai5 rfl rfl rfl (.t .h) (by first | rfl | omega | simp) (row_src 0 rfl) (by first | ((try simp only [List.length_nil, List.length_cons, List.length_append, List.length_set, List.length_singleton, List.length_take, List.length_drop, List.length_reverse]) <;> omega) | omega) rfl (fun v59 => .cons (Ev.step (ev_as rfl rfl) rfl rfl rfl (.go (fun _ _ h => h) (.region (.cons (Ev.step (ev_mv rfl rfl) rfl rfl rfl ?_)))))))))
                  refine .cons (Ev.step (ev_mv rfl rfl) rfl rfl rfl (.cons (Ev.step (ev_fa rfl fo90_5 rfl (r := 5) rfl) rfl rfl rfl (.cons (Ev.step (ev_ld1 rfl ty56 rfl (At.own1 2 rfl rfl)) rfl rfl rfl (.cons (Ev.step (ev_mv rfl rfl) rfl rfl rfl (.cons (Ev.step (ev_ix rfl Try.underlying56 ty3 rfl rfl (by omega) (by omega) (fun _ _ => Fr.adr (i := x) (hN _ (gt_mem (i := i0) (by omega) (by omega))).2 (by omega) (by omega))) rfl rfl rfl (.cons (Ev.step (ev_ld1 rfl ty3 rfl (At.elem1 (At.w (Fr.el (i := x) (hN _ (gt_mem (i := i0) (by omega) (by omega))).2 (by omega) (by omega))) 0 rfl)) rfl rfl rfl ?_)))))))))))
                  refine .cons (st_call0 rfl rfl rfl rfl hb30 rfl (.c .h .n) (ih A c l v59 ((X ++ quoteF (gt ((gt l i0).v.ns) x)) ++ [58]) (gt ((gt l i0).v.ks) x) _ _ hA hN hB hV (by omega) (by first | ((try simp only [List.length_nil, List.length_cons, List.length_append, List.length_set, List.length_singleton, List.length_take, List.length_drop, List.length_reverse]) <;> omega) | omega) (by omega) (by first | omega | ((try simp only [List.length_append, List.length_cons, List.length_nil]); (repeat' split at hup) <;> omega))) (fun v_q61 C_q61 q61 => ?_))
                  obtain ⟨u60, rfl, rfl⟩ := q61
                  show SP _ _ _ _ _ _ ⟨_, _ :: _, _, _⟩
                  refine .cons (Ev.step (ev_as rfl rfl) rfl rfl rfl (.go (fun _ _ h => h) (.region (.cons (Ev.step (ev_mv rfl rfl) rfl rfl rfl (.cons (Ev.step (ev_add rfl rfl rfl (r := (x + 1)) rfl (by omega) (by omega)) rfl rfl rfl (.cons (Ev.step (ev_as rfl rfl) rfl rfl rfl ?_)))))))))
                  exact SP.nil (SQ.roundb (X := Int × (List Int) × Value) (x := (x, X, U)) ⟨(x + 1), (((X ++ quoteF (gt ((gt l i0).v.ns) x)) ++ [58]) ++ wF f (vs l) (gt ((gt l i0).v.ks) x)), v_q61⟩ (by exact ⟨by omega, by omega, w_next q_2 q_0 (by unfold itemF; rw [if_neg (by omega), if_pos (by omega)]; simp)⟩) (by dsimp only; omega) (Sub.get (.c rfl (.c rfl (.c rfl (.c rfl (.c rfl .n)))))) (fun w hw => hw.keep (.c .h (.c (.t .h) .n))))
                ·
                  refine .skipgo (fun _ _ h => h) (.region (.cons (Ev.step (ev_mv rfl rfl) rfl rfl rfl (.cons (Ev.step (ev_mv rfl rfl) rfl rfl rfl (.cons (Ev.step (ev_fa rfl fo90_5 rfl (r := 5) rfl) rfl rfl rfl (.cons (Ev.step (ev_ld1 rfl ty56 rfl (At.own1 1 rfl rfl)) rfl rfl rfl ?_)))))))))
                  refine .cons (Ev.step (ev_mv rfl rfl) rfl rfl rfl (.cons (Ev.step (ev_ix rfl Try.underlying56 ty3 rfl rfl (by omega) (by omega) (fun _ _ => Fr.adr (i := x) (hN _ (gt_mem (i := i0) (by omega) (by omega))).2 (by omega) (by omega))) rfl rfl rfl (.cons (Ev.step (ev_ld1 rfl ty3 rfl (At.elem1 (At.w (Fr.el (i := x) (hN _ (gt_mem (i := i0) (by omega) (by omega))).2 (by omega) (by omega))) 0 rfl)) rfl rfl rfl (.cons (st_call0 rfl rfl rfl rfl hb30 rfl (.c .h .n) (ih A c l U X (gt ((gt l i0).v.ks) x) _ _ hA hN hB hV (by omega) (by first | ((try simp only [List.length_nil, List.length_cons, List.length_append, List.length_set, List.length_singleton, List.length_take, List.length_drop, List.length_reverse]) <;> omega) | omega) (by omega) (by first | omega | ((try simp only [List.length_append, List.length_cons, List.length_nil]); (repeat' split at hup) <;> omega))) (fun v_q63 C_q63 q63 => ?_))))))))
                  obtain ⟨u62, rfl, rfl⟩ := q63
                  show SP _ _ _ _ _ _ ⟨_, _ :: _, _, _⟩
                  refine .cons (Ev.step (ev_as rfl rfl) rfl rfl rfl (.go (fun _ _ h => h) (.region (.cons (Ev.step (ev_mv rfl rfl) rfl rfl rfl (.cons (Ev.step (ev_add rfl rfl rfl (r := (x + 1)) rfl (by omega) (by omega)) rfl rfl rfl (.cons (Ev.step (ev_as rfl rfl) rfl rfl rfl ?_)))))))))
                  exact SP.nil (SQ.roundb (X := Int × (List Int) × Value) (x := (x, X, U)) ⟨(x + 1), (X ++ wF f (vs l) (gt ((gt l i0).v.ks) x)), v_q63⟩ (by exact ⟨by omega, by omega, w_next q_2 q_0 (by unfold itemF; rw [if_neg (by omega), if_neg (by omega)]; simp)⟩) (by dsimp only; omega) (Sub.get (.c rfl (.c rfl (.c rfl (.c rfl (.c rfl .n)))))) (fun w hw => hw.keep (.c .h (.c .h .n))))
            ·
              refine .exit (fun _ _ h => h) (.seq ?_)
              have hXl : X.length = o.length + 1 + (upTo (itemF (gt l i0).v (wF f (vs l))) x.toNat).length := by rw [q_2]; simp; omega
              have hum := up_mono (f := (itemF (gt l i0).v (wF f (vs l)))) (a := x.toNat) (b := (gt l i0).v.ks.length) (by omega)
              refine .region (.cons (Ev.step (ev_mv rfl rfl) rfl rfl rfl (.cons (Ev.step (ev_mv rfl rfl) rfl rfl rfl (.cons (Ev.step (ev_ixs rfl Try.underlying9 rfl rfl (by omega) (by show _ < ((2 : Nat) : Int); omega)) rfl rfl rfl (.cons (st_lit eY (e := 5) (l := [(gt (bs ⟨#[91, 93]⟩) 1)]) rfl rfl rfl rfl (by kernel_rfl) rfl rfl (fun w => by kernel_rfl) (fun b64 => .cons (st_app (E := eY) (m := [(gt (bs ⟨#[91, 93]⟩) 1)]) rfl rfl rfl rfl Try.underlying36 ai5 rfl rfl rfl (.t .h) (by first | rfl | omega | simp) (row_src 0 rfl) (by first | ((try simp only [List.length_nil, List.length_cons, List.length_append, List.length_set, List.length_singleton, List.length_take, List.length_drop, List.length_reverse]) <;> omega) | omega) rfl (fun v65 => ?_)))))))))))
              exact .cons (Ev.step (ev_as rfl rfl) rfl rfl rfl (.go (fun _ _ h => h) (.ret (fun _ _ h => h) (ret1 Try.results30 rfl (.c .h .n) ⟨v65, rfl, (by rw [w_5 h0 (by omega) hk1 hk2 hk3 hk4, q_2, show x.toNat = (gt l i0).v.ks.length from by omega]; unfold markO markC; rw [if_neg hk6, if_neg hk6]; simp; rfl)⟩))))

theorem print_ (A : Option Addr) (c : Nat) (l : List TV) (S : Nat → Prop) (wf : World) (hA : Fr eTV S wf A l) (hN : NT S wf l) (hB : ∀ t ∈ l, TB t.v) (hsz : (showF (vs l)).length ≤ 1000000000) :
    TR0 Try.prog 12 [.slice A l.length c] [] S wf (fun v_ C_ => ∃ (u : Value) (e : Int) (m : List Int), (e = checkF (vs l)) ∧ (m = if e = 0 then showF (vs l) else []) ∧ v_ = .tuple #[u, .int .i64 e] ∧ C_ = [rw_ eY 5 (u) m]) := by
  have hla := hA.len
  refine TR.mk Try.func12 rfl Try.ntmps12 rfl rfl (fun w_ => ?_)
  refine .seq (.region (.cons (Ev.step (ev_as rfl rfl) rfl rfl rfl (.cons (Ev.step (ev_as rfl rfl) rfl rfl rfl (.go (fun _ _ h => h) (.seq ?_)))))))
  refine .region (.cons (Ev.step (ev_mv rfl rfl) rfl rfl rfl (.cons (st_callk rfl rfl rfl rfl hb29 rfl .n (check_ A c l _ _ hA hN hB) (.cons (Ev.step (ev_as rfl rfl) rfl rfl rfl (.go (fun _ _ h => h) (.seq ?_))))))))
  refine .seq (.region (.cons (Ev.step (ev_mv rfl rfl) rfl rfl rfl (.cons (Ev.step (ev_cmp rfl rfl rfl rfl) rfl rfl rfl (.go (fun _ _ h => h) (.condI rfl bNE (fun h1 => ?_) (fun h1 => ?_))))))))
  ·
    refine .seq (.region (.cons (Ev.step (ev_mv rfl rfl) rfl rfl rfl (.cons (Ev.step (ev_as rfl rfl) rfl rfl rfl (.cons (Ev.step (ev_as rfl rfl) rfl rfl rfl (.go (fun _ _ h => h) ?_))))))))
    refine SC.nilrow eY 5 ?_
    exact .ret (fun _ _ h => h) (ret2 Try.results12 rfl rfl (.c .h .n) ⟨.slice none 0 0, (checkF (vs l)), [], rfl, (by rw [if_neg (by omega)]), rfl, rfl⟩)
  ·
    refine .skipgo (fun _ _ h => h) (.seq ?_)
    refine SC.nilrow eY 5 ?_
    obtain ⟨hlp, hV⟩ := check_valid (l := l) (by omega)
    refine .region (.cons (Ev.step (ev_mv rfl rfl) rfl rfl rfl (.cons (Ev.step (ev_mv rfl rfl) rfl rfl rfl (.cons (Ev.step (ev_len rfl Try.underlying34 rfl) rfl rfl rfl (.cons (Ev.step (ev_sub rfl rfl rfl (r := ((l.length : Int) - 1)) rfl (by omega) (by omega)) rfl rfl rfl (.cons (st_call0 rfl rfl rfl rfl hb30 rfl (.c .h .n) (write_ l.length A c l (.slice none 0 0) ([] : List Int) ((l.length : Int) - 1) _ _ hA hN hB hV (by first | ((try simp only [List.length_nil, List.length_cons, List.length_append, List.length_set, List.length_singleton, List.length_take, List.length_drop, List.length_reverse]) <;> omega) | omega) (by first | ((try simp only [List.length_nil, List.length_cons, List.length_append, List.length_set, List.length_singleton, List.length_take, List.length_drop, List.length_reverse]) <;> omega) | omega) (by first | ((try simp only [List.length_nil, List.length_cons, List.length_append, List.length_set, List.length_singleton, List.length_take, List.length_drop, List.length_reverse]) <;> omega) | omega) (by show 0 + _ ≤ _; unfold showF at hsz; rw [vs_len] at hsz; omega)) (fun v_q3 C_q3 q3 => ?_)))))))))))
    obtain ⟨u2, rfl, rfl⟩ := q3
    show SP _ _ _ _ _ _ ⟨_, _ :: _, _, _⟩
    exact .cons (Ev.step (ev_as rfl rfl) rfl rfl rfl (.cons (Ev.step (ev_as rfl rfl) rfl rfl rfl (.go (fun _ _ h => h) (.ret (fun _ _ h => h) (ret2 Try.results12 rfl rfl (.c .h .n) ⟨v_q3, 0, showF (vs l), (by omega), (by rw [if_pos rfl]), rfl, (by rw [List.nil_append]; unfold showF; rw [vs_len])⟩))))))

end Go.Proofs.Ythmkelkefmfmgaa.Sx
