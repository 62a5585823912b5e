import Derived.Test.YthmkelkefmfmgaaProg
import Derived.Test.YthmkelkefmfmgaaS2
set_option linter.unusedVariables false
set_option linter.unusedSimpArgs false
set_option linter.unusedSectionVars false
set_option maxRecDepth 20000
set_option maxHeartbeats 4000000
namespace Go.Proofs.Ythmkelkefmfmgaa.Sx.FW
open Go Go.SX Go.Proofs
theorem ty90 : ty Try.prog 90 = some (true, 6) := by kernel_rfl
theorem zf90 : (Try.prog.info? 90).bind (fun i => i.zero.map Value.cells) = some (List.toArray [.int .i64 0, .bool false, .int .i64 0, .string ⟨#[]⟩, .slice none 0 0, .slice none 0 0]) := by kernel_rfl
theorem fo90_0 : fo Try.prog 90 0 = some 0 := by kernel_rfl
theorem ty88 : ty Try.prog 88 = some (false, 1) := by kernel_rfl
theorem ai5 : (Try.prog.info? 5).map (fun i => (i.zero, i.size, i.bytes)) = some (some (.int .u8 0), 1, 1) := by kernel_rfl
theorem fo90_1 : fo Try.prog 90 1 = some 1 := by kernel_rfl
theorem ty4 : ty Try.prog 4 = some (false, 1) := by kernel_rfl
theorem fo90_2 : fo Try.prog 90 2 = some 2 := by kernel_rfl
theorem ty3 : ty Try.prog 3 = some (false, 1) := by kernel_rfl
theorem hbd51 : hasBody Try.prog 51 = true := by kernel_rfl
theorem fo90_3 : fo Try.prog 90 3 = some 3 := by kernel_rfl
theorem ty9 : ty Try.prog 9 = some (false, 1) := by kernel_rfl
theorem hbd52 : hasBody Try.prog 52 = true := by kernel_rfl
theorem fo90_5 : fo Try.prog 90 5 = some 5 := by kernel_rfl
theorem ty56 : ty Try.prog 56 = some (false, 1) := by kernel_rfl
theorem fo90_4 : fo Try.prog 90 4 = some 4 := by kernel_rfl
theorem ty82 : ty Try.prog 82 = some (false, 1) := by kernel_rfl
theorem hbd30 : hasBody Try.prog 30 = true := by kernel_rfl
theorem hbd29 : hasBody Try.prog 29 = true := by kernel_rfl
end Go.Proofs.Ythmkelkefmfmgaa.Sx.FW
namespace Go.Proofs.Ythmkelkefmfmgaa.Sx
open Go Go.SX Go.Proofs FW
theorem write_ : ∀ (f : Nat) (A : Option Addr) (c : Nat) (l : List TV) (v : Value) (o : List Int) (i0 : Int) (S : Nat → Prop) (wf : World) (hA : Fr eTV S wf A l) (hN : NT S wf l) (hB : ∀ t ∈ l, TB t.v) (hV : Valid l) (h0 : 0 ≤ i0) (h1 : i0 < l.length) (hf : i0 < f) (hsz : o.length + (wF f (vs l) i0).length ≤ 1000000000),
  TR0 Try.prog 30 [v, .slice A l.length c, .int .i64 i0] [rw_ eY 5 (v) o] S wf (fun v_ C_ => ∃ (u : Value), v_ = u ∧ C_ = [rw_ eY 5 (u) (o ++ wF f (vs l) i0)]) := by
 refine nat_ind ?_ (fun f ih => ?_)
 · intro A c l v o i0 S wf hA hN hB hV h0 h1 hf hsz; exfalso; omega
 intro A c l v o i0 S wf hA hN hB hV h0 h1 hf hsz
 have hla := hA.len
 have hBi := hB _ (gt_mem (i := i0) h0 (by omega))
 unfold TB at hBi
 refine TR.mk Try.func30 rfl Try.ntmps30 rfl rfl (fun w_ => ?_)
 refine .seq (.region ?_)
 refine .v (ev_as rfl rfl) rfl ?_
 refine .go idQ (.seq (.region ?_))
 refine .v (ev_mv rfl rfl) rfl ?_
 refine .v (ev_mv rfl rfl) rfl ?_
 refine .v (ev_ix rfl Try.underlying34 ty90 rfl rfl (by omega) (by omega) (fun _ _ => Fr.adr (i := i0) hA (by omega) (by omega))) rfl ?_
 refine .v (ev_lda rfl rfl (At.w (Fr.el (i := i0) hA (by omega) (by omega))) ty90) rfl ?_
 refine .cons (st_alloc rfl rfl rfl rfl zf90 (fun b1 => ?_))
 refine .cons (st_storea (l' := [.int .i64 ((gt l i0).v.kind), .bool ((gt l i0).v.truth), .int .i64 ((gt l i0).v.num), .string ((gt l i0).v.text), .slice ((gt l i0).nA) ((gt l i0).v.ns.length) ((gt l i0).nc), .slice ((gt l i0).kA) ((gt l i0).v.ks.length) ((gt l i0).kc)]) rfl rfl rfl ty90 rfl rfl rfl .h rfl rfl ?_)
 refine .go idQ (.seq (.seq (.region ?_)))
 refine .v (ev_fa rfl fo90_0 rfl (r := 0) rfl) rfl ?_
 refine .v (ev_ld1 rfl ty88 rfl (At.own1 0 rfl rfl)) rfl ?_
 refine .go idQ (.block (.seq (.region ?_)))
 refine .v (ev_cmp rfl rfl rfl rfl) rfl ?_
 refine .v (ev_as rfl rfl) rfl ?_
 refine .go idQ ?_
 refine .condI rfl bE (fun h2 => ?_) (fun h2 => ?_)
 ·
  refine .seq (.region ?_)
  refine .v (ev_mv rfl rfl) rfl ?_
  refine .cons (st_apps rfl rfl rfl rfl Try.underlying36 Try.underlying9 ai5 rfl rfl (.t .h) (by show _ + (4 : Nat) ≤ 140737488355328; first | ((try simp only [List.length_nil, List.length_cons, List.length_append, List.length_set, List.length_singleton, List.length_take, List.length_drop, List.length_reverse]) <;> omega) | omega) (fun v3 => ?_))
  refine .v (ev_as rfl rfl) rfl ?_
  refine .go idQ ?_
  exact .ret idQ (ret1 Try.results30 rfl (.c .h .n) ⟨v3, rfl, (by rw [w_1 h0 (by omega) (by omega)]; rfl)⟩)
 refine .seq (.region ?_)
 refine .v (ev_cmp rfl rfl rfl rfl) rfl ?_
 refine .v (ev_as rfl rfl) rfl ?_
 refine .go idQ ?_
 refine .condI rfl bE (fun h4 => ?_) (fun h4 => ?_)
 ·
  refine .seq (.seq (.region ?_))
  refine .v (ev_fa rfl fo90_1 rfl (r := 1) rfl) rfl ?_
  refine .v (ev_ld1 rfl ty4 rfl (At.own1 0 rfl rfl)) rfl ?_
  refine .go idQ ?_
  refine .condI rfl bV (fun h5 => ?_) (fun h5 => ?_)
  ·
   refine .seq (.region ?_)
   refine .v (ev_mv rfl rfl) rfl ?_
   refine .cons (st_apps rfl rfl rfl rfl Try.underlying36 Try.underlying9 ai5 rfl rfl (.t .h) (by show _ + (4 : Nat) ≤ 140737488355328; first | ((try simp only [List.length_nil, List.length_cons, List.length_append, List.length_set, List.length_singleton, List.length_take, List.length_drop, List.length_reverse]) <;> omega) | omega) (fun v6 => ?_))
   refine .v (ev_as rfl rfl) rfl ?_
   refine .go idQ ?_
   exact .ret idQ (ret1 Try.results30 rfl (.c .h .n) ⟨v6, rfl, (by rw [w_2t h0 (by omega) (by omega) (by assumption)]; rfl)⟩)
  refine .skipgo idQ (.seq (.region ?_))
  refine .v (ev_mv rfl rfl) rfl ?_
  refine .cons (st_apps rfl rfl rfl rfl Try.underlying36 Try.underlying9 ai5 rfl rfl (.t .h) (by show _ + (5 : Nat) ≤ 140737488355328; first | ((try simp only [List.length_nil, List.length_cons, List.length_append, List.length_set, List.length_singleton, List.length_take, List.length_drop, List.length_reverse]) <;> omega) | omega) (fun v7 => ?_))
  refine .v (ev_as rfl rfl) rfl ?_
  refine .go idQ ?_
  exact .ret idQ (ret1 Try.results30 rfl (.c .h .n) ⟨v7, rfl, (by rw [w_2f h0 (by omega) (by omega) (by assumption)]; rfl)⟩)
 refine .seq (.region ?_)
 refine .v (ev_cmp rfl rfl rfl rfl) rfl ?_
 refine .v (ev_as rfl rfl) rfl ?_
 refine .go idQ ?_
 refine .condI rfl bE (fun h8 => ?_) (fun h8 => ?_)
 ·
  refine .seq ?_
  have hns := numS_size (a := (gt l i0).v.num) (by omega) (by omega)
  refine .region ?_
  refine .v (ev_mv rfl rfl) rfl ?_
  refine .v (ev_fa rfl fo90_2 rfl (r := 2) rfl) rfl ?_
  refine .v (ev_ld1 rfl ty3 rfl (At.own1 0 rfl rfl)) rfl ?_
  refine .cons (st_callk rfl rfl rfl rfl hbd51 rfl .n (numtxt ((gt l i0).v.num) _ _ (by omega)) ?_)
  refine .cons (st_apps rfl rfl rfl rfl Try.underlying36 Try.underlying9 ai5 rfl rfl (.t .h) (by first | omega | simp only [LL] <;> omega | simp <;> omega) (fun v9 => ?_))
  refine .v (ev_as rfl rfl) rfl ?_
  refine .go idQ ?_
  exact .ret idQ (ret1 Try.results30 rfl (.c .h .n) ⟨v9, rfl, (by rw [w_3 h0 (by omega) (by omega), ← bs_numS])⟩)
 refine .seq (.region ?_)
 refine .v (ev_cmp rfl rfl rfl rfl) rfl ?_
 refine .v (ev_as rfl rfl) rfl ?_
 refine .go idQ ?_
 refine .condI rfl bE (fun h10 => ?_) (fun h10 => ?_)
 ·
  refine .seq (.region ?_)
  refine .v (ev_mv rfl rfl) rfl ?_
  refine .v (ev_fa rfl fo90_3 rfl (r := 3) rfl) rfl ?_
  refine .v (ev_ld1 rfl ty9 rfl (At.own1 0 rfl rfl)) rfl ?_
  refine .cons (st_call0 rfl rfl rfl rfl hbd52 rfl (.c (.t .h) .n) (quote_ v o ((gt l i0).v.text) _ _ (by first | exact Nat.le_trans (hBi.2.1 _ (gt_mem (by omega) (by omega))) (by decide) | omega) (by first | omega | ((try simp only [List.length_append, List.length_cons, List.length_nil]); (repeat' split at hup) <;> omega))) (fun v_q12 C_q12 q12 => ?_))
  obtain ⟨u11, rfl, rfl⟩ := q12
  show SP _ _ _ _ _ _ ⟨_, _ :: _, _, _⟩
  refine .v (ev_as rfl rfl) rfl ?_
  refine .go idQ ?_
  exact .ret idQ (ret1 Try.results30 rfl (.c .h .n) ⟨v_q12, rfl, (by rw [w_4 h0 (by omega) (by omega)])⟩)
 refine .skipgo idQ (.seq ?_)
 have hk1 : ¬ (gt l i0).v.kind = 1 := h2
 have hk2 : ¬ (gt l i0).v.kind = 2 := h4
 have hk3 : ¬ (gt l i0).v.kind = 3 := h8
 have hk4 : ¬ (gt l i0).v.kind = 4 := h10
 have hwl := w_5len (f := f) h0 (by omega) hk1 hk2 hk3 hk4
 refine .region ?_
 refine .v (ev_as rfl rfl) rfl ?_
 refine .go idQ (.seq (.seq (.region ?_)))
 refine .v (ev_fa rfl fo90_0 rfl (r := 0) rfl) rfl ?_
 refine .v (ev_ld1 rfl ty88 rfl (At.own1 0 rfl rfl)) rfl ?_
 refine .v (ev_cmp rfl rfl rfl rfl) rfl ?_
 refine .go idQ ?_
 refine .condI rfl bE (fun h13 => ?_) (fun h13 => ?_)
 ·
  refine .region ?_
  refine .v (ev_as rfl rfl) rfl ?_
  refine .go idQ (.seq ?_)
  have hk6 := h13
  refine .region ?_
  refine .v (ev_mv rfl rfl) rfl ?_
  refine .v (ev_mv rfl rfl) rfl ?_
  refine .v (ev_ixs rfl Try.underlying9 rfl rfl (by omega) (by show _ < ((2 : Nat) : Int); omega)) rfl ?_
  refine .cons (st_lit eY (e := 5) (l := [(gt (bs ⟨#[123, 125]⟩) 0)]) rfl rfl rfl rfl (by kernel_rfl) rfl rfl (fun w => by kernel_rfl) (fun b14 => ?_))
  refine .cons (st_app (E := eY) (m := [(gt (bs ⟨#[123, 125]⟩) 0)]) rfl rfl rfl rfl Try.underlying36 ai5 rfl rfl rfl (.t (.t .h)) (by first | rfl | omega | simp) (row_src 0 rfl) (by first | omega | simp only [LL] <;> omega | simp <;> omega) rfl (fun v15 => ?_))
  refine .v (ev_as rfl rfl) rfl ?_
  refine .go idQ (.seq (.seq (.region ?_)))
  refine .v (ev_as rfl rfl) rfl ?_
  refine .go idQ (.block ?_)
  refine .loop (X := Int × (List Int) × Value) (fun ⟨x, X, U⟩ => 0 ≤ x ∧ x ≤ (gt l i0).v.ks.length ∧ X = (o ++ [(gt (bs ⟨#[123, 125]⟩) 0)]) ++ upTo (itemF (gt l i0).v (wF f (vs l))) x.toNat) (fun ⟨x, X, U⟩ => [(0, U), (1, .slice A l.length c), (7, .pointer (some ⟨b1, 0, none⟩)), (8, .string ⟨#[123, 125]⟩), (9, .int .i64 x)]) (fun ⟨x, X, U⟩ => [rw_ eY 5 (U) X, cel b1 [.int .i64 ((gt l i0).v.kind), .bool ((gt l i0).v.truth), .int .i64 ((gt l i0).v.num), .string ((gt l i0).v.text), .slice ((gt l i0).nA) ((gt l i0).v.ns.length) ((gt l i0).nc), .slice ((gt l i0).kA) ((gt l i0).v.ks.length) ((gt l i0).kc)] 90]) (fun _ => S) (fun _ => wf) (fun ⟨x, X, U⟩ => ((gt l i0).v.ks.length - x.toNat)) (fun a_ w_ hs_ hw_ => ⟨⟨0, (o ++ [(gt (bs ⟨#[123, 125]⟩) 0)]), v15⟩, (by exact ⟨by omega, by omega, by rw [show (0 : Int).toNat = 0 from rfl, upTo, List.append_nil]⟩), hs_.mono (Sub.get (.c rfl (.c rfl (.c rfl (.c rfl (.c rfl .n)))))), hw_.keep (.c .h (.c (.t .h) .n))⟩) (fun ⟨x, X, U⟩ ⟨q_0, q_1, q_2⟩ => ?_)
  show SC _ _ _ _ _ ⟨[(0, U), (1, .slice A l.length c), (7, .pointer (some ⟨b1, 0, none⟩)), (8, .string ⟨#[123, 125]⟩), (9, .int .i64 x)], [rw_ eY 5 (U) X, cel b1 [.int .i64 ((gt l i0).v.kind), .bool ((gt l i0).v.truth), .int .i64 ((gt l i0).v.num), .string ((gt l i0).v.text), .slice ((gt l i0).nA) ((gt l i0).v.ns.length) ((gt l i0).nc), .slice ((gt l i0).kA) ((gt l i0).v.ks.length) ((gt l i0).kc)] 90], S, wf⟩
  refine .seq (.seq (.region ?_))
  refine .v (ev_mv rfl rfl) rfl ?_
  refine .v (ev_fa rfl fo90_5 rfl (r := 5) rfl) rfl ?_
  refine .v (ev_ld1 rfl ty56 rfl (At.own1 1 rfl rfl)) rfl ?_
  refine .v (ev_len rfl Try.underlying56 rfl) rfl ?_
  refine .v (ev_cmp rfl rfl rfl rfl) rfl ?_
  refine .go idQ ?_
  refine .condI rfl bD (fun h16 => ?_) (fun h16 => ?_)
  ·
   refine .skipgo idQ (.seq (.block (.seq (.seq ?_))))
   have hup := up_le (f := (itemF (gt l i0).v (wF f (vs l)))) q_0 (by assumption)
   rw [item_len, if_pos hk6] at hup
   have hXl : X.length = o.length + 1 + (upTo (itemF (gt l i0).v (wF f (vs l))) x.toNat).length := by rw [q_2]; simp; omega
   have hkr := (hV i0 h0 (by omega)).1 _ (gt_mem (l := (gt l i0).v.ks) (i := x) q_0 (by omega))
   have hnl := (hV i0 h0 (by omega)).2
   refine .region ?_
   refine .v (ev_mv rfl rfl) rfl ?_
   refine .v (ev_cmp rfl rfl rfl rfl) rfl ?_
   refine .go idQ ?_
   refine .condI rfl bD (fun h17 => ?_) (fun h17 => ?_)
   ·
    refine .region ?_
    refine .v (ev_mv rfl rfl) rfl ?_
    refine .cons (st_lit eY (e := 5) (l := [44]) rfl rfl rfl rfl (by kernel_rfl) rfl rfl (fun w => by kernel_rfl) (fun b18 => ?_))
    refine .cons (st_app (E := eY) (m := [44]) rfl rfl rfl rfl Try.underlying36 ai5 rfl rfl rfl (.t .h) (by first | rfl | omega | simp) (row_src 0 rfl) (by first | omega | simp only [LL] <;> omega | simp <;> omega) rfl (fun v19 => ?_))
    refine .v (ev_as rfl rfl) rfl ?_
    refine .go idQ (.seq (.seq (.region ?_)))
    refine .v (ev_fa rfl fo90_0 rfl (r := 0) rfl) rfl ?_
    refine .v (ev_ld1 rfl ty88 rfl (At.own1 2 rfl rfl)) rfl ?_
    refine .v (ev_cmp rfl rfl rfl rfl) rfl ?_
    refine .go idQ ?_
    refine .condI rfl bE (fun h20 => ?_) (fun h20 => ?_)
    ·
     refine .region ?_
     refine .v (ev_mv rfl rfl) rfl ?_
     refine .v (ev_fa rfl fo90_4 rfl (r := 4) rfl) rfl ?_
     refine .v (ev_ld1 rfl ty82 rfl (At.own1 2 rfl rfl)) rfl ?_
     refine .v (ev_mv rfl rfl) rfl ?_
     refine .v (ev_ix rfl Try.underlying82 ty9 rfl rfl (by omega) (by omega) (fun _ _ => Fr.adr (i := x) (hN _ (gt_mem (i := i0) (by omega) (by omega))).1 (by omega) (by omega))) rfl ?_
     refine .v (ev_ld1 rfl ty9 rfl (At.elem1 (At.w (Fr.el (i := x) (hN _ (gt_mem (i := i0) (by omega) (by omega))).1 (by omega) (by omega))) 0 rfl)) rfl ?_
     refine .cons (st_call0 rfl rfl rfl rfl hbd52 rfl (.c .h .n) (quote_ v19 (X ++ [44]) (gt ((gt l i0).v.ns) x) _ _ (by first | exact Nat.le_trans (hBi.2.1 _ (gt_mem (by omega) (by omega))) (by decide) | omega) (by first | omega | ((try simp only [List.length_append, List.length_cons, List.length_nil]); (repeat' split at hup) <;> omega))) (fun v_q22 C_q22 q22 => ?_))
     obtain ⟨u21, rfl, rfl⟩ := q22
     show SP _ _ _ _ _ _ ⟨_, _ :: _, _, _⟩
     refine .cons (st_lit eY (e := 5) (l := [58]) rfl rfl rfl rfl (by kernel_rfl) rfl rfl (fun w => by kernel_rfl) (fun b23 => ?_))
     refine .cons (st_app (E := eY) (m := [58]) rfl rfl rfl rfl Try.underlying36 ai5 rfl rfl rfl (.t .h) (by first | rfl | omega | simp) (row_src 0 rfl) (by first | omega | simp only [LL] <;> omega | simp <;> omega) rfl (fun v24 => ?_))
     refine .v (ev_as rfl rfl) rfl ?_
     refine .go idQ (.region ?_)
     refine .v (ev_mv rfl rfl) rfl ?_
     refine .v (ev_mv rfl rfl) rfl ?_
     refine .v (ev_fa rfl fo90_5 rfl (r := 5) rfl) rfl ?_
     refine .v (ev_ld1 rfl ty56 rfl (At.own1 3 rfl rfl)) rfl ?_
     refine .v (ev_mv rfl rfl) rfl ?_
     refine .v (ev_ix rfl Try.underlying56 ty3 rfl rfl (by omega) (by omega) (fun _ _ => Fr.adr (i := x) (hN _ (gt_mem (i := i0) (by omega) (by omega))).2 (by omega) (by omega))) rfl ?_
     refine .v (ev_ld1 rfl ty3 rfl (At.elem1 (At.w (Fr.el (i := x) (hN _ (gt_mem (i := i0) (by omega) (by omega))).2 (by omega) (by omega))) 0 rfl)) rfl ?_
     refine .cons (st_call0 rfl rfl rfl rfl hbd30 rfl (.c .h .n) (ih A c l v24 (((X ++ [44]) ++ quoteF (gt ((gt l i0).v.ns) x)) ++ [58]) (gt ((gt l i0).v.ks) x) _ _ hA hN hB hV (by omega) (by first | omega | simp only [LL] <;> omega | simp <;> omega) (by omega) (by first | omega | ((try simp only [List.length_append, List.length_cons, List.length_nil]); (repeat' split at hup) <;> omega))) (fun v_q26 C_q26 q26 => ?_))
     obtain ⟨u25, rfl, rfl⟩ := q26
     show SP _ _ _ _ _ _ ⟨_, _ :: _, _, _⟩
     refine .v (ev_as rfl rfl) rfl ?_
     refine .go idQ (.region ?_)
     refine .v (ev_mv rfl rfl) rfl ?_
     refine .v (ev_add rfl rfl rfl (r := (x + 1)) rfl (by omega) (by omega)) rfl ?_
     refine .v (ev_as rfl rfl) rfl ?_
     exact SP.nil (SQ.roundb (X := Int × (List Int) × Value) (x := (x, X, U)) ⟨(x + 1), ((((X ++ [44]) ++ quoteF (gt ((gt l i0).v.ns) x)) ++ [58]) ++ wF f (vs l) (gt ((gt l i0).v.ks) x)), v_q26⟩ (by exact ⟨by omega, by omega, w_next q_2 q_0 (by unfold itemF; rw [if_pos (by omega), if_pos (by omega)]; simp)⟩) (by dsimp only; omega) (Sub.get (.c rfl (.c rfl (.c rfl (.c rfl (.c rfl .n)))))) (fun w hw => hw.keep (.c .h (.c (.t (.t .h)) .n))))
    refine .skipgo idQ (.region ?_)
    refine .v (ev_mv rfl rfl) rfl ?_
    refine .v (ev_mv rfl rfl) rfl ?_
    refine .v (ev_fa rfl fo90_5 rfl (r := 5) rfl) rfl ?_
    refine .v (ev_ld1 rfl ty56 rfl (At.own1 2 rfl rfl)) rfl ?_
    refine .v (ev_mv rfl rfl) rfl ?_
    refine .v (ev_ix rfl Try.underlying56 ty3 rfl rfl (by omega) (by omega) (fun _ _ => Fr.adr (i := x) (hN _ (gt_mem (i := i0) (by omega) (by omega))).2 (by omega) (by omega))) rfl ?_
    refine .v (ev_ld1 rfl ty3 rfl (At.elem1 (At.w (Fr.el (i := x) (hN _ (gt_mem (i := i0) (by omega) (by omega))).2 (by omega) (by omega))) 0 rfl)) rfl ?_
    refine .cons (st_call0 rfl rfl rfl rfl hbd30 rfl (.c .h .n) (ih A c l v19 (X ++ [44]) (gt ((gt l i0).v.ks) x) _ _ hA hN hB hV (by omega) (by first | omega | simp only [LL] <;> omega | simp <;> omega) (by omega) (by first | omega | ((try simp only [List.length_append, List.length_cons, List.length_nil]); (repeat' split at hup) <;> omega))) (fun v_q28 C_q28 q28 => ?_))
    obtain ⟨u27, rfl, rfl⟩ := q28
    show SP _ _ _ _ _ _ ⟨_, _ :: _, _, _⟩
    refine .v (ev_as rfl rfl) rfl ?_
    refine .go idQ (.region ?_)
    refine .v (ev_mv rfl rfl) rfl ?_
    refine .v (ev_add rfl rfl rfl (r := (x + 1)) rfl (by omega) (by omega)) rfl ?_
    refine .v (ev_as rfl rfl) rfl ?_
    exact SP.nil (SQ.roundb (X := Int × (List Int) × Value) (x := (x, X, U)) ⟨(x + 1), ((X ++ [44]) ++ wF f (vs l) (gt ((gt l i0).v.ks) x)), v_q28⟩ (by exact ⟨by omega, by omega, w_next q_2 q_0 (by unfold itemF; rw [if_pos (by omega), if_neg (by omega)]; simp)⟩) (by dsimp only; omega) (Sub.get (.c rfl (.c rfl (.c rfl (.c rfl (.c rfl .n)))))) (fun w hw => hw.keep (.c .h (.c (.t .h) .n))))
   refine .skipgo idQ (.seq (.seq (.region ?_)))
   refine .v (ev_fa rfl fo90_0 rfl (r := 0) rfl) rfl ?_
   refine .v (ev_ld1 rfl ty88 rfl (At.own1 1 rfl rfl)) rfl ?_
   refine .v (ev_cmp rfl rfl rfl rfl) rfl ?_
   refine .go idQ ?_
   refine .condI rfl bE (fun h29 => ?_) (fun h29 => ?_)
   ·
    refine .region ?_
    refine .v (ev_mv rfl rfl) rfl ?_
    refine .v (ev_fa rfl fo90_4 rfl (r := 4) rfl) rfl ?_
    refine .v (ev_ld1 rfl ty82 rfl (At.own1 1 rfl rfl)) rfl ?_
    refine .v (ev_mv rfl rfl) rfl ?_
    refine .v (ev_ix rfl Try.underlying82 ty9 rfl rfl (by omega) (by omega) (fun _ _ => Fr.adr (i := x) (hN _ (gt_mem (i := i0) (by omega) (by omega))).1 (by omega) (by omega))) rfl ?_
    refine .v (ev_ld1 rfl ty9 rfl (At.elem1 (At.w (Fr.el (i := x) (hN _ (gt_mem (i := i0) (by omega) (by omega))).1 (by omega) (by omega))) 0 rfl)) rfl ?_
    refine .cons (st_call0 rfl rfl rfl rfl hbd52 rfl (.c .h .n) (quote_ U X (gt ((gt l i0).v.ns) x) _ _ (by first | exact Nat.le_trans (hBi.2.1 _ (gt_mem (by omega) (by omega))) (by decide) | omega) (by first | omega | ((try simp only [List.length_append, List.length_cons, List.length_nil]); (repeat' split at hup) <;> omega))) (fun v_q31 C_q31 q31 => ?_))
    obtain ⟨u30, rfl, rfl⟩ := q31
    show SP _ _ _ _ _ _ ⟨_, _ :: _, _, _⟩
    refine .cons (st_lit eY (e := 5) (l := [58]) rfl rfl rfl rfl (by kernel_rfl) rfl rfl (fun w => by kernel_rfl) (fun b32 => ?_))
    refine .cons (st_app (E := eY) (m := [58]) rfl rfl rfl rfl Try.underlying36 ai5 rfl rfl rfl (.t .h) (by first | rfl | omega | simp) (row_src 0 rfl) (by first | omega | simp only [LL] <;> omega | simp <;> omega) rfl (fun v33 => ?_))
    refine .v (ev_as rfl rfl) rfl ?_
    refine .go idQ (.region ?_)
    refine .v (ev_mv rfl rfl) rfl ?_
    refine .v (ev_mv rfl rfl) rfl ?_
    refine .v (ev_fa rfl fo90_5 rfl (r := 5) rfl) rfl ?_
    refine .v (ev_ld1 rfl ty56 rfl (At.own1 2 rfl rfl)) rfl ?_
    refine .v (ev_mv rfl rfl) rfl ?_
    refine .v (ev_ix rfl Try.underlying56 ty3 rfl rfl (by omega) (by omega) (fun _ _ => Fr.adr (i := x) (hN _ (gt_mem (i := i0) (by omega) (by omega))).2 (by omega) (by omega))) rfl ?_
    refine .v (ev_ld1 rfl ty3 rfl (At.elem1 (At.w (Fr.el (i := x) (hN _ (gt_mem (i := i0) (by omega) (by omega))).2 (by omega) (by omega))) 0 rfl)) rfl ?_
    refine .cons (st_call0 rfl rfl rfl rfl hbd30 rfl (.c .h .n) (ih A c l v33 ((X ++ quoteF (gt ((gt l i0).v.ns) x)) ++ [58]) (gt ((gt l i0).v.ks) x) _ _ hA hN hB hV (by omega) (by first | omega | simp only [LL] <;> omega | simp <;> omega) (by omega) (by first | omega | ((try simp only [List.length_append, List.length_cons, List.length_nil]); (repeat' split at hup) <;> omega))) (fun v_q35 C_q35 q35 => ?_))
    obtain ⟨u34, rfl, rfl⟩ := q35
    show SP _ _ _ _ _ _ ⟨_, _ :: _, _, _⟩
    refine .v (ev_as rfl rfl) rfl ?_
    refine .go idQ (.region ?_)
    refine .v (ev_mv rfl rfl) rfl ?_
    refine .v (ev_add rfl rfl rfl (r := (x + 1)) rfl (by omega) (by omega)) rfl ?_
    refine .v (ev_as rfl rfl) rfl ?_
    exact SP.nil (SQ.roundb (X := Int × (List Int) × Value) (x := (x, X, U)) ⟨(x + 1), (((X ++ quoteF (gt ((gt l i0).v.ns) x)) ++ [58]) ++ wF f (vs l) (gt ((gt l i0).v.ks) x)), v_q35⟩ (by exact ⟨by omega, by omega, w_next q_2 q_0 (by unfold itemF; rw [if_neg (by omega), if_pos (by omega)]; simp)⟩) (by dsimp only; omega) (Sub.get (.c rfl (.c rfl (.c rfl (.c rfl (.c rfl .n)))))) (fun w hw => hw.keep (.c .h (.c (.t .h) .n))))
   refine .skipgo idQ (.region ?_)
   refine .v (ev_mv rfl rfl) rfl ?_
   refine .v (ev_mv rfl rfl) rfl ?_
   refine .v (ev_fa rfl fo90_5 rfl (r := 5) rfl) rfl ?_
   refine .v (ev_ld1 rfl ty56 rfl (At.own1 1 rfl rfl)) rfl ?_
   refine .v (ev_mv rfl rfl) rfl ?_
   refine .v (ev_ix rfl Try.underlying56 ty3 rfl rfl (by omega) (by omega) (fun _ _ => Fr.adr (i := x) (hN _ (gt_mem (i := i0) (by omega) (by omega))).2 (by omega) (by omega))) rfl ?_
   refine .v (ev_ld1 rfl ty3 rfl (At.elem1 (At.w (Fr.el (i := x) (hN _ (gt_mem (i := i0) (by omega) (by omega))).2 (by omega) (by omega))) 0 rfl)) rfl ?_
   refine .cons (st_call0 rfl rfl rfl rfl hbd30 rfl (.c .h .n) (ih A c l U X (gt ((gt l i0).v.ks) x) _ _ hA hN hB hV (by omega) (by first | omega | simp only [LL] <;> omega | simp <;> omega) (by omega) (by first | omega | ((try simp only [List.length_append, List.length_cons, List.length_nil]); (repeat' split at hup) <;> omega))) (fun v_q37 C_q37 q37 => ?_))
   obtain ⟨u36, rfl, rfl⟩ := q37
   show SP _ _ _ _ _ _ ⟨_, _ :: _, _, _⟩
   refine .v (ev_as rfl rfl) rfl ?_
   refine .go idQ (.region ?_)
   refine .v (ev_mv rfl rfl) rfl ?_
   refine .v (ev_add rfl rfl rfl (r := (x + 1)) rfl (by omega) (by omega)) rfl ?_
   refine .v (ev_as rfl rfl) rfl ?_
   exact SP.nil (SQ.roundb (X := Int × (List Int) × Value) (x := (x, X, U)) ⟨(x + 1), (X ++ wF f (vs l) (gt ((gt l i0).v.ks) x)), v_q37⟩ (by exact ⟨by omega, by omega, w_next q_2 q_0 (by unfold itemF; rw [if_neg (by omega), if_neg (by omega)]; simp)⟩) (by dsimp only; omega) (Sub.get (.c rfl (.c rfl (.c rfl (.c rfl (.c rfl .n)))))) (fun w hw => hw.keep (.c .h (.c .h .n))))
  refine .exit idQ ?_
  refine .seq ?_
  have hXl : X.length = o.length + 1 + (upTo (itemF (gt l i0).v (wF f (vs l))) x.toNat).length := by rw [q_2]; simp; omega
  have hum := up_mono (f := (itemF (gt l i0).v (wF f (vs l)))) (a := x.toNat) (b := (gt l i0).v.ks.length) (by omega)
  refine .region ?_
  refine .v (ev_mv rfl rfl) rfl ?_
  refine .v (ev_mv rfl rfl) rfl ?_
  refine .v (ev_ixs rfl Try.underlying9 rfl rfl (by omega) (by show _ < ((2 : Nat) : Int); omega)) rfl ?_
  refine .cons (st_lit eY (e := 5) (l := [(gt (bs ⟨#[123, 125]⟩) 1)]) rfl rfl rfl rfl (by kernel_rfl) rfl rfl (fun w => by kernel_rfl) (fun b38 => ?_))
  refine .cons (st_app (E := eY) (m := [(gt (bs ⟨#[123, 125]⟩) 1)]) rfl rfl rfl rfl Try.underlying36 ai5 rfl rfl rfl (.t .h) (by first | rfl | omega | simp) (row_src 0 rfl) (by first | omega | simp only [LL] <;> omega | simp <;> omega) rfl (fun v39 => ?_))
  refine .v (ev_as rfl rfl) rfl ?_
  refine .go idQ ?_
  exact .ret idQ (ret1 Try.results30 rfl (.c .h .n) ⟨v39, rfl, (by rw [w_5 h0 (by omega) hk1 hk2 hk3 hk4, q_2, show x.toNat = (gt l i0).v.ks.length from by omega]; unfold markO markC; rw [if_pos hk6, if_pos hk6]; simp; rfl)⟩)
 refine .skipgo idQ (.seq ?_)
 have hk6 := h13
 refine .region ?_
 refine .v (ev_mv rfl rfl) rfl ?_
 refine .v (ev_mv rfl rfl) rfl ?_
 refine .v (ev_ixs rfl Try.underlying9 rfl rfl (by omega) (by show _ < ((2 : Nat) : Int); omega)) rfl ?_
 refine .cons (st_lit eY (e := 5) (l := [(gt (bs ⟨#[91, 93]⟩) 0)]) rfl rfl rfl rfl (by kernel_rfl) rfl rfl (fun w => by kernel_rfl) (fun b40 => ?_))
 refine .cons (st_app (E := eY) (m := [(gt (bs ⟨#[91, 93]⟩) 0)]) rfl rfl rfl rfl Try.underlying36 ai5 rfl rfl rfl (.t (.t .h)) (by first | rfl | omega | simp) (row_src 0 rfl) (by first | omega | simp only [LL] <;> omega | simp <;> omega) rfl (fun v41 => ?_))
 refine .v (ev_as rfl rfl) rfl ?_
 refine .go idQ (.seq (.seq (.region ?_)))
 refine .v (ev_as rfl rfl) rfl ?_
 refine .go idQ (.block ?_)
 refine .loop (X := Int × (List Int) × Value) (fun ⟨x, X, U⟩ => 0 ≤ x ∧ x ≤ (gt l i0).v.ks.length ∧ X = (o ++ [(gt (bs ⟨#[91, 93]⟩) 0)]) ++ upTo (itemF (gt l i0).v (wF f (vs l))) x.toNat) (fun ⟨x, X, U⟩ => [(0, U), (1, .slice A l.length c), (7, .pointer (some ⟨b1, 0, none⟩)), (8, .string ⟨#[91, 93]⟩), (9, .int .i64 x)]) (fun ⟨x, X, U⟩ => [rw_ eY 5 (U) X, cel b1 [.int .i64 ((gt l i0).v.kind), .bool ((gt l i0).v.truth), .int .i64 ((gt l i0).v.num), .string ((gt l i0).v.text), .slice ((gt l i0).nA) ((gt l i0).v.ns.length) ((gt l i0).nc), .slice ((gt l i0).kA) ((gt l i0).v.ks.length) ((gt l i0).kc)] 90]) (fun _ => S) (fun _ => wf) (fun ⟨x, X, U⟩ => ((gt l i0).v.ks.length - x.toNat)) (fun a_ w_ hs_ hw_ => ⟨⟨0, (o ++ [(gt (bs ⟨#[91, 93]⟩) 0)]), v41⟩, (by exact ⟨by omega, by omega, by rw [show (0 : Int).toNat = 0 from rfl, upTo, List.append_nil]⟩), hs_.mono (Sub.get (.c rfl (.c rfl (.c rfl (.c rfl (.c rfl .n)))))), hw_.keep (.c .h (.c (.t .h) .n))⟩) (fun ⟨x, X, U⟩ ⟨q_0, q_1, q_2⟩ => ?_)
 show SC _ _ _ _ _ ⟨[(0, U), (1, .slice A l.length c), (7, .pointer (some ⟨b1, 0, none⟩)), (8, .string ⟨#[91, 93]⟩), (9, .int .i64 x)], [rw_ eY 5 (U) X, cel b1 [.int .i64 ((gt l i0).v.kind), .bool ((gt l i0).v.truth), .int .i64 ((gt l i0).v.num), .string ((gt l i0).v.text), .slice ((gt l i0).nA) ((gt l i0).v.ns.length) ((gt l i0).nc), .slice ((gt l i0).kA) ((gt l i0).v.ks.length) ((gt l i0).kc)] 90], S, wf⟩
 refine .seq (.seq (.region ?_))
 refine .v (ev_mv rfl rfl) rfl ?_
 refine .v (ev_fa rfl fo90_5 rfl (r := 5) rfl) rfl ?_
 refine .v (ev_ld1 rfl ty56 rfl (At.own1 1 rfl rfl)) rfl ?_
 refine .v (ev_len rfl Try.underlying56 rfl) rfl ?_
 refine .v (ev_cmp rfl rfl rfl rfl) rfl ?_
 refine .go idQ ?_
 refine .condI rfl bD (fun h42 => ?_) (fun h42 => ?_)
 ·
  refine .skipgo idQ (.seq (.block (.seq (.seq ?_))))
  have hup := up_le (f := (itemF (gt l i0).v (wF f (vs l)))) q_0 (by assumption)
  rw [item_len, if_neg hk6] at hup
  have hXl : X.length = o.length + 1 + (upTo (itemF (gt l i0).v (wF f (vs l))) x.toNat).length := by rw [q_2]; simp; omega
  have hkr := (hV i0 h0 (by omega)).1 _ (gt_mem (l := (gt l i0).v.ks) (i := x) q_0 (by omega))
  have hnl := (hV i0 h0 (by omega)).2
  refine .region ?_
  refine .v (ev_mv rfl rfl) rfl ?_
  refine .v (ev_cmp rfl rfl rfl rfl) rfl ?_
  refine .go idQ ?_
  refine .condI rfl bD (fun h43 => ?_) (fun h43 => ?_)
  ·
   refine .region ?_
   refine .v (ev_mv rfl rfl) rfl ?_
   refine .cons (st_lit eY (e := 5) (l := [44]) rfl rfl rfl rfl (by kernel_rfl) rfl rfl (fun w => by kernel_rfl) (fun b44 => ?_))
   refine .cons (st_app (E := eY) (m := [44]) rfl rfl rfl rfl Try.underlying36 ai5 rfl rfl rfl (.t .h) (by first | rfl | omega | simp) (row_src 0 rfl) (by first | omega | simp only [LL] <;> omega | simp <;> omega) rfl (fun v45 => ?_))
   refine .v (ev_as rfl rfl) rfl ?_
   refine .go idQ (.seq (.seq (.region ?_)))
   refine .v (ev_fa rfl fo90_0 rfl (r := 0) rfl) rfl ?_
   refine .v (ev_ld1 rfl ty88 rfl (At.own1 2 rfl rfl)) rfl ?_
   refine .v (ev_cmp rfl rfl rfl rfl) rfl ?_
   refine .go idQ ?_
   refine .condI rfl bE (fun h46 => ?_) (fun h46 => ?_)
   ·
    refine .region ?_
    refine .v (ev_mv rfl rfl) rfl ?_
    refine .v (ev_fa rfl fo90_4 rfl (r := 4) rfl) rfl ?_
    refine .v (ev_ld1 rfl ty82 rfl (At.own1 2 rfl rfl)) rfl ?_
    refine .v (ev_mv rfl rfl) rfl ?_
    refine .v (ev_ix rfl Try.underlying82 ty9 rfl rfl (by omega) (by omega) (fun _ _ => Fr.adr (i := x) (hN _ (gt_mem (i := i0) (by omega) (by omega))).1 (by omega) (by omega))) rfl ?_
    refine .v (ev_ld1 rfl ty9 rfl (At.elem1 (At.w (Fr.el (i := x) (hN _ (gt_mem (i := i0) (by omega) (by omega))).1 (by omega) (by omega))) 0 rfl)) rfl ?_
    refine .cons (st_call0 rfl rfl rfl rfl hbd52 rfl (.c .h .n) (quote_ v45 (X ++ [44]) (gt ((gt l i0).v.ns) x) _ _ (by first | exact Nat.le_trans (hBi.2.1 _ (gt_mem (by omega) (by omega))) (by decide) | omega) (by first | omega | ((try simp only [List.length_append, List.length_cons, List.length_nil]); (repeat' split at hup) <;> omega))) (fun v_q48 C_q48 q48 => ?_))
    obtain ⟨u47, rfl, rfl⟩ := q48
    show SP _ _ _ _ _ _ ⟨_, _ :: _, _, _⟩
    refine .cons (st_lit eY (e := 5) (l := [58]) rfl rfl rfl rfl (by kernel_rfl) rfl rfl (fun w => by kernel_rfl) (fun b49 => ?_))
    refine .cons (st_app (E := eY) (m := [58]) rfl rfl rfl rfl Try.underlying36 ai5 rfl rfl rfl (.t .h) (by first | rfl | omega | simp) (row_src 0 rfl) (by first | omega | simp only [LL] <;> omega | simp <;> omega) rfl (fun v50 => ?_))
    refine .v (ev_as rfl rfl) rfl ?_
    refine .go idQ (.region ?_)
    refine .v (ev_mv rfl rfl) rfl ?_
    refine .v (ev_mv rfl rfl) rfl ?_
    refine .v (ev_fa rfl fo90_5 rfl (r := 5) rfl) rfl ?_
    refine .v (ev_ld1 rfl ty56 rfl (At.own1 3 rfl rfl)) rfl ?_
    refine .v (ev_mv rfl rfl) rfl ?_
    refine .v (ev_ix rfl Try.underlying56 ty3 rfl rfl (by omega) (by omega) (fun _ _ => Fr.adr (i := x) (hN _ (gt_mem (i := i0) (by omega) (by omega))).2 (by omega) (by omega))) rfl ?_
    refine .v (ev_ld1 rfl ty3 rfl (At.elem1 (At.w (Fr.el (i := x) (hN _ (gt_mem (i := i0) (by omega) (by omega))).2 (by omega) (by omega))) 0 rfl)) rfl ?_
    refine .cons (st_call0 rfl rfl rfl rfl hbd30 rfl (.c .h .n) (ih A c l v50 (((X ++ [44]) ++ quoteF (gt ((gt l i0).v.ns) x)) ++ [58]) (gt ((gt l i0).v.ks) x) _ _ hA hN hB hV (by omega) (by first | omega | simp only [LL] <;> omega | simp <;> omega) (by omega) (by first | omega | ((try simp only [List.length_append, List.length_cons, List.length_nil]); (repeat' split at hup) <;> omega))) (fun v_q52 C_q52 q52 => ?_))
    obtain ⟨u51, rfl, rfl⟩ := q52
    show SP _ _ _ _ _ _ ⟨_, _ :: _, _, _⟩
    refine .v (ev_as rfl rfl) rfl ?_
    refine .go idQ (.region ?_)
    refine .v (ev_mv rfl rfl) rfl ?_
    refine .v (ev_add rfl rfl rfl (r := (x + 1)) rfl (by omega) (by omega)) rfl ?_
    refine .v (ev_as rfl rfl) rfl ?_
    exact SP.nil (SQ.roundb (X := Int × (List Int) × Value) (x := (x, X, U)) ⟨(x + 1), ((((X ++ [44]) ++ quoteF (gt ((gt l i0).v.ns) x)) ++ [58]) ++ wF f (vs l) (gt ((gt l i0).v.ks) x)), v_q52⟩ (by exact ⟨by omega, by omega, w_next q_2 q_0 (by unfold itemF; rw [if_pos (by omega), if_pos (by omega)]; simp)⟩) (by dsimp only; omega) (Sub.get (.c rfl (.c rfl (.c rfl (.c rfl (.c rfl .n)))))) (fun w hw => hw.keep (.c .h (.c (.t (.t .h)) .n))))
   refine .skipgo idQ (.region ?_)
   refine .v (ev_mv rfl rfl) rfl ?_
   refine .v (ev_mv rfl rfl) rfl ?_
   refine .v (ev_fa rfl fo90_5 rfl (r := 5) rfl) rfl ?_
   refine .v (ev_ld1 rfl ty56 rfl (At.own1 2 rfl rfl)) rfl ?_
   refine .v (ev_mv rfl rfl) rfl ?_
   refine .v (ev_ix rfl Try.underlying56 ty3 rfl rfl (by omega) (by omega) (fun _ _ => Fr.adr (i := x) (hN _ (gt_mem (i := i0) (by omega) (by omega))).2 (by omega) (by omega))) rfl ?_
   refine .v (ev_ld1 rfl ty3 rfl (At.elem1 (At.w (Fr.el (i := x) (hN _ (gt_mem (i := i0) (by omega) (by omega))).2 (by omega) (by omega))) 0 rfl)) rfl ?_
   refine .cons (st_call0 rfl rfl rfl rfl hbd30 rfl (.c .h .n) (ih A c l v45 (X ++ [44]) (gt ((gt l i0).v.ks) x) _ _ hA hN hB hV (by omega) (by first | omega | simp only [LL] <;> omega | simp <;> omega) (by omega) (by first | omega | ((try simp only [List.length_append, List.length_cons, List.length_nil]); (repeat' split at hup) <;> omega))) (fun v_q54 C_q54 q54 => ?_))
   obtain ⟨u53, rfl, rfl⟩ := q54
   show SP _ _ _ _ _ _ ⟨_, _ :: _, _, _⟩
   refine .v (ev_as rfl rfl) rfl ?_
   refine .go idQ (.region ?_)
   refine .v (ev_mv rfl rfl) rfl ?_
   refine .v (ev_add rfl rfl rfl (r := (x + 1)) rfl (by omega) (by omega)) rfl ?_
   refine .v (ev_as rfl rfl) rfl ?_
   exact SP.nil (SQ.roundb (X := Int × (List Int) × Value) (x := (x, X, U)) ⟨(x + 1), ((X ++ [44]) ++ wF f (vs l) (gt ((gt l i0).v.ks) x)), v_q54⟩ (by exact ⟨by omega, by omega, w_next q_2 q_0 (by unfold itemF; rw [if_pos (by omega), if_neg (by omega)]; simp)⟩) (by dsimp only; omega) (Sub.get (.c rfl (.c rfl (.c rfl (.c rfl (.c rfl .n)))))) (fun w hw => hw.keep (.c .h (.c (.t .h) .n))))
  refine .skipgo idQ (.seq (.seq (.region ?_)))
  refine .v (ev_fa rfl fo90_0 rfl (r := 0) rfl) rfl ?_
  refine .v (ev_ld1 rfl ty88 rfl (At.own1 1 rfl rfl)) rfl ?_
  refine .v (ev_cmp rfl rfl rfl rfl) rfl ?_
  refine .go idQ ?_
  refine .condI rfl bE (fun h55 => ?_) (fun h55 => ?_)
  ·
   refine .region ?_
   refine .v (ev_mv rfl rfl) rfl ?_
   refine .v (ev_fa rfl fo90_4 rfl (r := 4) rfl) rfl ?_
   refine .v (ev_ld1 rfl ty82 rfl (At.own1 1 rfl rfl)) rfl ?_
   refine .v (ev_mv rfl rfl) rfl ?_
   refine .v (ev_ix rfl Try.underlying82 ty9 rfl rfl (by omega) (by omega) (fun _ _ => Fr.adr (i := x) (hN _ (gt_mem (i := i0) (by omega) (by omega))).1 (by omega) (by omega))) rfl ?_
   refine .v (ev_ld1 rfl ty9 rfl (At.elem1 (At.w (Fr.el (i := x) (hN _ (gt_mem (i := i0) (by omega) (by omega))).1 (by omega) (by omega))) 0 rfl)) rfl ?_
   refine .cons (st_call0 rfl rfl rfl rfl hbd52 rfl (.c .h .n) (quote_ U X (gt ((gt l i0).v.ns) x) _ _ (by first | exact Nat.le_trans (hBi.2.1 _ (gt_mem (by omega) (by omega))) (by decide) | omega) (by first | omega | ((try simp only [List.length_append, List.length_cons, List.length_nil]); (repeat' split at hup) <;> omega))) (fun v_q57 C_q57 q57 => ?_))
   obtain ⟨u56, rfl, rfl⟩ := q57
   show SP _ _ _ _ _ _ ⟨_, _ :: _, _, _⟩
   refine .cons (st_lit eY (e := 5) (l := [58]) rfl rfl rfl rfl (by kernel_rfl) rfl rfl (fun w => by kernel_rfl) (fun b58 => ?_))
   refine .cons (st_app (E := eY) (m := [58]) rfl rfl rfl rfl Try.underlying36 ai5 rfl rfl rfl (.t .h) (by first | rfl | omega | simp) (row_src 0 rfl) (by first | omega | simp only [LL] <;> omega | simp <;> omega) rfl (fun v59 => ?_))
   refine .v (ev_as rfl rfl) rfl ?_
   refine .go idQ (.region ?_)
   refine .v (ev_mv rfl rfl) rfl ?_
   refine .v (ev_mv rfl rfl) rfl ?_
   refine .v (ev_fa rfl fo90_5 rfl (r := 5) rfl) rfl ?_
   refine .v (ev_ld1 rfl ty56 rfl (At.own1 2 rfl rfl)) rfl ?_
   refine .v (ev_mv rfl rfl) rfl ?_
   refine .v (ev_ix rfl Try.underlying56 ty3 rfl rfl (by omega) (by omega) (fun _ _ => Fr.adr (i := x) (hN _ (gt_mem (i := i0) (by omega) (by omega))).2 (by omega) (by omega))) rfl ?_
   refine .v (ev_ld1 rfl ty3 rfl (At.elem1 (At.w (Fr.el (i := x) (hN _ (gt_mem (i := i0) (by omega) (by omega))).2 (by omega) (by omega))) 0 rfl)) rfl ?_
   refine .cons (st_call0 rfl rfl rfl rfl hbd30 rfl (.c .h .n) (ih A c l v59 ((X ++ quoteF (gt ((gt l i0).v.ns) x)) ++ [58]) (gt ((gt l i0).v.ks) x) _ _ hA hN hB hV (by omega) (by first | omega | simp only [LL] <;> omega | simp <;> omega) (by omega) (by first | omega | ((try simp only [List.length_append, List.length_cons, List.length_nil]); (repeat' split at hup) <;> omega))) (fun v_q61 C_q61 q61 => ?_))
   obtain ⟨u60, rfl, rfl⟩ := q61
   show SP _ _ _ _ _ _ ⟨_, _ :: _, _, _⟩
   refine .v (ev_as rfl rfl) rfl ?_
   refine .go idQ (.region ?_)
   refine .v (ev_mv rfl rfl) rfl ?_
   refine .v (ev_add rfl rfl rfl (r := (x + 1)) rfl (by omega) (by omega)) rfl ?_
   refine .v (ev_as rfl rfl) rfl ?_
   exact SP.nil (SQ.roundb (X := Int × (List Int) × Value) (x := (x, X, U)) ⟨(x + 1), (((X ++ quoteF (gt ((gt l i0).v.ns) x)) ++ [58]) ++ wF f (vs l) (gt ((gt l i0).v.ks) x)), v_q61⟩ (by exact ⟨by omega, by omega, w_next q_2 q_0 (by unfold itemF; rw [if_neg (by omega), if_pos (by omega)]; simp)⟩) (by dsimp only; omega) (Sub.get (.c rfl (.c rfl (.c rfl (.c rfl (.c rfl .n)))))) (fun w hw => hw.keep (.c .h (.c (.t .h) .n))))
  refine .skipgo idQ (.region ?_)
  refine .v (ev_mv rfl rfl) rfl ?_
  refine .v (ev_mv rfl rfl) rfl ?_
  refine .v (ev_fa rfl fo90_5 rfl (r := 5) rfl) rfl ?_
  refine .v (ev_ld1 rfl ty56 rfl (At.own1 1 rfl rfl)) rfl ?_
  refine .v (ev_mv rfl rfl) rfl ?_
  refine .v (ev_ix rfl Try.underlying56 ty3 rfl rfl (by omega) (by omega) (fun _ _ => Fr.adr (i := x) (hN _ (gt_mem (i := i0) (by omega) (by omega))).2 (by omega) (by omega))) rfl ?_
  refine .v (ev_ld1 rfl ty3 rfl (At.elem1 (At.w (Fr.el (i := x) (hN _ (gt_mem (i := i0) (by omega) (by omega))).2 (by omega) (by omega))) 0 rfl)) rfl ?_
  refine .cons (st_call0 rfl rfl rfl rfl hbd30 rfl (.c .h .n) (ih A c l U X (gt ((gt l i0).v.ks) x) _ _ hA hN hB hV (by omega) (by first | omega | simp only [LL] <;> omega | simp <;> omega) (by omega) (by first | omega | ((try simp only [List.length_append, List.length_cons, List.length_nil]); (repeat' split at hup) <;> omega))) (fun v_q63 C_q63 q63 => ?_))
  obtain ⟨u62, rfl, rfl⟩ := q63
  show SP _ _ _ _ _ _ ⟨_, _ :: _, _, _⟩
  refine .v (ev_as rfl rfl) rfl ?_
  refine .go idQ (.region ?_)
  refine .v (ev_mv rfl rfl) rfl ?_
  refine .v (ev_add rfl rfl rfl (r := (x + 1)) rfl (by omega) (by omega)) rfl ?_
  refine .v (ev_as rfl rfl) rfl ?_
  exact SP.nil (SQ.roundb (X := Int × (List Int) × Value) (x := (x, X, U)) ⟨(x + 1), (X ++ wF f (vs l) (gt ((gt l i0).v.ks) x)), v_q63⟩ (by exact ⟨by omega, by omega, w_next q_2 q_0 (by unfold itemF; rw [if_neg (by omega), if_neg (by omega)]; simp)⟩) (by dsimp only; omega) (Sub.get (.c rfl (.c rfl (.c rfl (.c rfl (.c rfl .n)))))) (fun w hw => hw.keep (.c .h (.c .h .n))))
 refine .exit idQ ?_
 refine .seq ?_
 have hXl : X.length = o.length + 1 + (upTo (itemF (gt l i0).v (wF f (vs l))) x.toNat).length := by rw [q_2]; simp; omega
 have hum := up_mono (f := (itemF (gt l i0).v (wF f (vs l)))) (a := x.toNat) (b := (gt l i0).v.ks.length) (by omega)
 refine .region ?_
 refine .v (ev_mv rfl rfl) rfl ?_
 refine .v (ev_mv rfl rfl) rfl ?_
 refine .v (ev_ixs rfl Try.underlying9 rfl rfl (by omega) (by show _ < ((2 : Nat) : Int); omega)) rfl ?_
 refine .cons (st_lit eY (e := 5) (l := [(gt (bs ⟨#[91, 93]⟩) 1)]) rfl rfl rfl rfl (by kernel_rfl) rfl rfl (fun w => by kernel_rfl) (fun b64 => ?_))
 refine .cons (st_app (E := eY) (m := [(gt (bs ⟨#[91, 93]⟩) 1)]) rfl rfl rfl rfl Try.underlying36 ai5 rfl rfl rfl (.t .h) (by first | rfl | omega | simp) (row_src 0 rfl) (by first | omega | simp only [LL] <;> omega | simp <;> omega) rfl (fun v65 => ?_))
 refine .v (ev_as rfl rfl) rfl ?_
 refine .go idQ ?_
 exact .ret idQ (ret1 Try.results30 rfl (.c .h .n) ⟨v65, rfl, (by rw [w_5 h0 (by omega) hk1 hk2 hk3 hk4, q_2, show x.toNat = (gt l i0).v.ks.length from by omega]; unfold markO markC; rw [if_neg hk6, if_neg hk6]; simp; rfl)⟩)
theorem print_ (A : Option Addr) (c : Nat) (l : List TV) (S : Nat → Prop) (wf : World) (hA : Fr eTV S wf A l) (hN : NT S wf l) (hB : ∀ t ∈ l, TB t.v) (hsz : (showF (vs l)).length ≤ 1000000000) :
  TR0 Try.prog 12 [.slice A l.length c] [] S wf (fun v_ C_ => ∃ (u : Value) (e : Int) (m : List Int), (e = checkF (vs l)) ∧ (m = if e = 0 then showF (vs l) else []) ∧ v_ = .tuple #[u, .int .i64 e] ∧ C_ = [rw_ eY 5 (u) m]) := by
 have hla := hA.len
 refine TR.mk Try.func12 rfl Try.ntmps12 rfl rfl (fun w_ => ?_)
 refine .seq (.region ?_)
 refine .v (ev_as rfl rfl) rfl ?_
 refine .v (ev_as rfl rfl) rfl ?_
 refine .go idQ (.seq (.region ?_))
 refine .v (ev_mv rfl rfl) rfl ?_
 refine .cons (st_callk rfl rfl rfl rfl hbd29 rfl .n (check_ A c l _ _ hA hN hB) ?_)
 refine .v (ev_as rfl rfl) rfl ?_
 refine .go idQ (.seq (.seq (.region ?_)))
 refine .v (ev_mv rfl rfl) rfl ?_
 refine .v (ev_cmp rfl rfl rfl rfl) rfl ?_
 refine .go idQ ?_
 refine .condI rfl bNE (fun h1 => ?_) (fun h1 => ?_)
 ·
  refine .seq (.region ?_)
  refine .v (ev_mv rfl rfl) rfl ?_
  refine .v (ev_as rfl rfl) rfl ?_
  refine .v (ev_as rfl rfl) rfl ?_
  refine .go idQ ?_
  refine SC.nilrow eY 5 ?_
  exact .ret idQ (ret2 Try.results12 rfl rfl (.c .h .n) ⟨.slice none 0 0, (checkF (vs l)), [], rfl, (by rw [if_neg (by omega)]), rfl, rfl⟩)
 refine .skipgo idQ (.seq ?_)
 refine SC.nilrow eY 5 ?_
 obtain ⟨hlp, hV⟩ := check_valid (l := l) (by omega)
 refine .region ?_
 refine .v (ev_mv rfl rfl) rfl ?_
 refine .v (ev_mv rfl rfl) rfl ?_
 refine .v (ev_len rfl Try.underlying34 rfl) rfl ?_
 refine .v (ev_sub rfl rfl rfl (r := ((l.length : Int) - 1)) rfl (by omega) (by omega)) rfl ?_
 refine .cons (st_call0 rfl rfl rfl rfl hbd30 rfl (.c .h .n) (write_ l.length A c l (.slice none 0 0) ([] : List Int) ((l.length : Int) - 1) _ _ hA hN hB hV (by first | omega | simp only [LL] <;> omega | simp <;> omega) (by first | omega | simp only [LL] <;> omega | simp <;> omega) (by first | omega | simp only [LL] <;> omega | simp <;> omega) (by show 0 + _ ≤ _; unfold showF at hsz; rw [vs_len] at hsz; omega)) (fun v_q3 C_q3 q3 => ?_))
 obtain ⟨u2, rfl, rfl⟩ := q3
 show SP _ _ _ _ _ _ ⟨_, _ :: _, _, _⟩
 refine .v (ev_as rfl rfl) rfl ?_
 refine .v (ev_as rfl rfl) rfl ?_
 refine .go idQ ?_
 exact .ret idQ (ret2 Try.results12 rfl rfl (.c .h .n) ⟨v_q3, 0, showF (vs l), (by omega), (by rw [if_pos rfl]), rfl, (by rw [List.nil_append]; unfold showF; rw [vs_len])⟩)
end Go.Proofs.Ythmkelkefmfmgaa.Sx
set_option maxRecDepth 20000
set_option maxHeartbeats 4000000
namespace Go.Proofs.Ythmkelkefmfmgaa.Sx.FM
open Go Go.SX Go.Proofs
theorem fo65_0 : fo Try.prog 65 0 = some 0 := by kernel_rfl
theorem ty34 : ty Try.prog 34 = some (false, 1) := by kernel_rfl
theorem ty90 : ty Try.prog 90 = some (true, 6) := by kernel_rfl
theorem ai90 : (Try.prog.info? 90).map (fun i => (i.zero, i.size, i.bytes)) = some (some (.agg #[.int .i64 0, .bool false, .int .i64 0, .string ⟨#[]⟩, .slice none 0 0, .slice none 0 0]), 6, 88) := by kernel_rfl
theorem mo : Try.prog.follows .mixedOrders = true := by kernel_rfl
theorem hbd48 : hasBody Try.prog 48 = true := by kernel_rfl
theorem zf90 : (Try.prog.info? 90).bind (fun i => i.zero.map Value.cells) = some (List.toArray [.int .i64 0, .bool false, .int .i64 0, .string ⟨#[]⟩, .slice none 0 0, .slice none 0 0]) := by kernel_rfl
theorem ty69 : ty Try.prog 69 = some (true, 2) := by kernel_rfl
theorem zf69 : (Try.prog.info? 69).bind (fun i => i.zero.map Value.cells) = some (List.toArray [.string ⟨#[]⟩, .int .i64 0]) := by kernel_rfl
theorem fo90_4 : fo Try.prog 90 4 = some 4 := by kernel_rfl
theorem ty82 : ty Try.prog 82 = some (false, 1) := by kernel_rfl
theorem fo69_0 : fo Try.prog 69 0 = some 0 := by kernel_rfl
theorem ty9 : ty Try.prog 9 = some (false, 1) := by kernel_rfl
theorem ai9 : (Try.prog.info? 9).map (fun i => (i.zero, i.size, i.bytes)) = some (some (.string ⟨#[]⟩), 1, 16) := by kernel_rfl
theorem fo90_5 : fo Try.prog 90 5 = some 5 := by kernel_rfl
theorem ty56 : ty Try.prog 56 = some (false, 1) := by kernel_rfl
theorem fo69_1 : fo Try.prog 69 1 = some 1 := by kernel_rfl
theorem ty3 : ty Try.prog 3 = some (false, 1) := by kernel_rfl
theorem ai3 : (Try.prog.info? 3).map (fun i => (i.zero, i.size, i.bytes)) = some (some (.int .i64 0), 1, 8) := by kernel_rfl
end Go.Proofs.Ythmkelkefmfmgaa.Sx.FM
namespace Go.Proofs.Ythmkelkefmfmgaa.Sx
open Go Go.SX Go.Proofs FM
theorem put_ (g : Nat) (v : Value) (l : List TV) (k : Int) (b : Bool) (n : Int) (s : ByteArray) (nA : Option Addr) (nc : Nat) (ns : List ByteArray) (kA : Option Addr) (kc : Nat) (ks : List Int) (S : Nat → Prop) (wf : World) (hl : l.length ≤ 1590000000000) :
  TR0 Try.prog 48 [.pointer (some ⟨g, 0, none⟩), .agg #[.int .i64 k, .bool b, .int .i64 n, .string s, .slice nA ns.length nc, .slice kA ks.length kc]] [cel g [v] 65, rw_ eTV 90 (v) l] S wf (fun v_ C_ => ∃ (u : Value), v_ = .int .i64 (l.length : Int) ∧ C_ = [cel g [u] 65, rw_ eTV 90 (u) (l ++ [(TV.mk (TN.mk k b n s ns ks) nA nc kA kc)])]) := by
 refine TR.mk Try.func48 rfl Try.ntmps48 rfl rfl (fun w_ => ?_)
 refine .seq (.region ?_)
 refine .cons (st_boxa rfl rfl rfl rfl rfl (fun b1 => ?_))
 refine .v (ev_as rfl rfl) rfl ?_
 refine .go idQ (.seq ?_)
 refine SC.draw mo [cel g [v] 65, rw_ eTV 90 (v) l] [(10, fun w => At w g 0 [v])] (.c (.t .h) (.c (.t .h) .n)) (fun w_ _ hw_ => (sc1 (At.whole 0 rfl w_ hw_) sc0)) (fun wf_2 hl_2 hx_2 hR_2 => ?_)
 refine SR.k 0 rfl (by kernel_rfl) rfl (ev_mv rfl rfl) ?_
 refine SR.k 1 rfl (by kernel_rfl) rfl (ev_mv rfl rfl) ?_
 refine SR.k 2 rfl (by kernel_rfl) rfl (ev_nil rfl rfl) ?_
 refine SR.k 3 rfl (by kernel_rfl) rfl (ev_fa rfl fo65_0 rfl (r := 0) rfl) ?_
 refine SR.k 4 rfl (by kernel_rfl) rfl (ev_ld1 rfl ty34 rfl (At.elem1 (v := v) (At.ofcs 0 rfl (by kernel_rfl)) 0 rfl)) ?_
 refine SR.k 5 rfl (by kernel_rfl) rfl (ev_lda (cs := [.int .i64 k, .bool b, .int .i64 n, .string s, .slice nA ns.length nc, .slice kA ks.length kc]) rfl rfl (At.d (At.lent hR_2 0 rfl rfl)) ty90) ?_
 refine SR.one (j := 6) (by kernel_rfl) rfl (st_lit eTV (e := 90) (l := [(TV.mk (TN.mk k b n s ns ks) nA nc kA kc)]) rfl rfl rfl rfl (by kernel_rfl) rfl rfl (fun w => by kernel_rfl) (fun b3 => ⟨ttc (fun w_ hw_ => (tc1 (by first | exact At.whole 0 rfl w_ hw_ | exact At.whole 1 rfl w_ hw_ | exact At.whole 2 rfl w_ hw_ | exact At.whole 3 rfl w_ hw_ | exact At.whole 4 rfl w_ hw_ | exact At.whole 5 rfl w_ hw_ | exact At.whole 6 rfl w_ hw_) tc0)), ?_⟩))
 refine SR.one (j := 7) (by kernel_rfl) rfl (st_app (E := eTV) (m := [(TV.mk (TN.mk k b n s ns ks) nA nc kA kc)]) rfl rfl rfl rfl Try.underlying34 ai90 rfl rfl rfl (.t (.t .h)) (by first | rfl | omega | simp) (row_src 0 rfl) (by first | omega | simp only [LL] <;> omega | simp <;> omega) rfl (fun v4 => ⟨ttc (fun w_ hw_ => (tc1 (by first | exact At.whole 0 rfl w_ hw_ | exact At.whole 1 rfl w_ hw_ | exact At.whole 2 rfl w_ hw_ | exact At.whole 3 rfl w_ hw_ | exact At.whole 4 rfl w_ hw_ | exact At.whole 5 rfl w_ hw_ | exact At.whole 6 rfl w_ hw_) tc0)), ?_⟩))
 refine SR.k 8 rfl (by kernel_rfl) rfl (ev_nil rfl rfl) ?_
 refine SR.k 9 rfl (by kernel_rfl) rfl (ev_fa rfl fo65_0 rfl (r := 0) rfl) ?_
 refine .know (row_len 0 rfl) (fun hv7 => ?_)
 obtain ⟨A5, c6, rfl, hv7_1, hv7_2⟩ := hv7
 unfold maxLen at hv7_2
 refine SR.one (j := 10) (by kernel_rfl) rfl (st_store1 rfl rfl rfl ty34 rfl rfl rfl (.t (.t .h)) .h ⟨ttc (fun w_ hw_ => (tc2 (by kernel_rfl) tc0)), ?_⟩)
 refine SR.fin (by kernel_rfl) hl_2 hx_2 hR_2 (.c (.c (.c .n))) ?_
 refine SQ.go idQ ?_
 refine .seq (.region ?_)
 refine .v (ev_mv rfl rfl) rfl ?_
 refine .v (ev_nil rfl rfl) rfl ?_
 refine .v (ev_fa rfl fo65_0 rfl (r := 0) rfl) rfl ?_
 refine .v (ev_ld1 rfl ty34 rfl (At.own1 0 rfl rfl)) rfl ?_
 refine .v (ev_len rfl Try.underlying34 rfl) rfl ?_
 refine .v (ev_sub rfl rfl rfl (r := ((((l ++ [(TV.mk (TN.mk k b n s ns ks) nA nc kA kc)]).length : Nat) : Int) - 1)) rfl (by omega) (by omega)) rfl ?_
 refine .v (ev_as rfl rfl) rfl ?_
 refine .go idQ ?_
 exact .ret idQ (ret1 Try.results48 rfl (.c .h (.c .h .n)) ⟨.slice A5 ((l ++ [(TV.mk (TN.mk k b n s ns ks) nA nc kA kc)]).length) c6, (congrArg (Value.int .i64) (by simp)), rfl⟩)
theorem mnum (g : Nat) (v : Value) (l : List TV) (n : Int) (S : Nat → Prop) (wf : World) (hl : l.length ≤ 1590000000000) :
  TR0 Try.prog 23 [.pointer (some ⟨g, 0, none⟩), .int .i64 n] [cel g [v] 65, rw_ eTV 90 (v) l] S wf (fun v_ C_ => ∃ (u : Value), v_ = .int .i64 (l.length : Int) ∧ C_ = [cel g [u] 65, rw_ eTV 90 (u) (l ++ [nT n])]) := by
 refine TR.mk Try.func23 rfl Try.ntmps23 rfl rfl (fun w_ => ?_)
 refine .seq (.region ?_)
 refine .v (ev_as rfl rfl) rfl ?_
 refine .go idQ (.seq (.region ?_))
 refine .v (ev_mv rfl rfl) rfl ?_
 refine .v (ev_mv rfl rfl) rfl ?_
 refine .v (ev_any (v := .agg #[.int .i64 3, .bool false, .int .i64 n, .string ⟨#[]⟩, .slice none 0 0, .slice none 0 0]) rfl (by kernel_rfl) (fun _ => by kernel_rfl)) rfl ?_
 refine .cons (st_call0 rfl rfl rfl rfl hbd48 rfl (.c .h (.c .h .n)) (put_ g v l 3 false n ⟨#[]⟩ none 0 ([] : List ByteArray) none 0 ([] : List Int) _ _ (by first | omega | simp only [LL] <;> omega | simp <;> omega)) (fun v_q2 C_q2 q2 => ?_))
 obtain ⟨u1, rfl, rfl⟩ := q2
 show SP _ _ _ _ _ _ ⟨_, _ :: _ :: _, _, _⟩
 refine .v (ev_as rfl rfl) rfl ?_
 refine .go idQ ?_
 exact .ret idQ (ret1 Try.results23 rfl (.c .h (.c .h .n)) ⟨u1, rfl, rfl⟩)
theorem mtext (g : Nat) (v : Value) (l : List TV) (s : ByteArray) (S : Nat → Prop) (wf : World) (hl : l.length ≤ 1590000000000) :
  TR0 Try.prog 22 [.pointer (some ⟨g, 0, none⟩), .string s] [cel g [v] 65, rw_ eTV 90 (v) l] S wf (fun v_ C_ => ∃ (u : Value), v_ = .int .i64 (l.length : Int) ∧ C_ = [cel g [u] 65, rw_ eTV 90 (u) (l ++ [sT s])]) := by
 refine TR.mk Try.func22 rfl Try.ntmps22 rfl rfl (fun w_ => ?_)
 refine .seq (.region ?_)
 refine .v (ev_as rfl rfl) rfl ?_
 refine .go idQ (.seq (.region ?_))
 refine .v (ev_mv rfl rfl) rfl ?_
 refine .v (ev_mv rfl rfl) rfl ?_
 refine .v (ev_any (v := .agg #[.int .i64 4, .bool false, .int .i64 0, .string s, .slice none 0 0, .slice none 0 0]) rfl (by kernel_rfl) (fun _ => by kernel_rfl)) rfl ?_
 refine .cons (st_call0 rfl rfl rfl rfl hbd48 rfl (.c .h (.c .h .n)) (put_ g v l 4 false 0 s none 0 ([] : List ByteArray) none 0 ([] : List Int) _ _ (by first | omega | simp only [LL] <;> omega | simp <;> omega)) (fun v_q2 C_q2 q2 => ?_))
 obtain ⟨u1, rfl, rfl⟩ := q2
 show SP _ _ _ _ _ _ ⟨_, _ :: _ :: _, _, _⟩
 refine .v (ev_as rfl rfl) rfl ?_
 refine .go idQ ?_
 exact .ret idQ (ret1 Try.results22 rfl (.c .h (.c .h .n)) ⟨u1, rfl, rfl⟩)
theorem mtruth (g : Nat) (v : Value) (l : List TV) (b : Bool) (S : Nat → Prop) (wf : World) (hl : l.length ≤ 1590000000000) :
  TR0 Try.prog 24 [.pointer (some ⟨g, 0, none⟩), .bool b] [cel g [v] 65, rw_ eTV 90 (v) l] S wf (fun v_ C_ => ∃ (u : Value), v_ = .int .i64 (l.length : Int) ∧ C_ = [cel g [u] 65, rw_ eTV 90 (u) (l ++ [TV.mk (TN.mk 2 b 0 ⟨#[]⟩ [] []) none 0 none 0])]) := by
 refine TR.mk Try.func24 rfl Try.ntmps24 rfl rfl (fun w_ => ?_)
 refine .seq (.region ?_)
 refine .v (ev_as rfl rfl) rfl ?_
 refine .go idQ (.seq (.region ?_))
 refine .v (ev_mv rfl rfl) rfl ?_
 refine .v (ev_mv rfl rfl) rfl ?_
 refine .v (ev_any (v := .agg #[.int .i64 2, .bool b, .int .i64 0, .string ⟨#[]⟩, .slice none 0 0, .slice none 0 0]) rfl (by kernel_rfl) (fun _ => by kernel_rfl)) rfl ?_
 refine .cons (st_call0 rfl rfl rfl rfl hbd48 rfl (.c .h (.c .h .n)) (put_ g v l 2 b 0 ⟨#[]⟩ none 0 ([] : List ByteArray) none 0 ([] : List Int) _ _ (by first | omega | simp only [LL] <;> omega | simp <;> omega)) (fun v_q2 C_q2 q2 => ?_))
 obtain ⟨u1, rfl, rfl⟩ := q2
 show SP _ _ _ _ _ _ ⟨_, _ :: _ :: _, _, _⟩
 refine .v (ev_as rfl rfl) rfl ?_
 refine .go idQ ?_
 exact .ret idQ (ret1 Try.results24 rfl (.c .h (.c .h .n)) ⟨u1, rfl, rfl⟩)
theorem mlist (g : Nat) (v : Value) (l : List TV) (kA : Option Addr) (kc : Nat) (ks : List Int) (S : Nat → Prop) (wf : World) (hl : l.length ≤ 1590000000000) :
  TR0 Try.prog 27 [.pointer (some ⟨g, 0, none⟩), .slice kA ks.length kc] [cel g [v] 65, rw_ eTV 90 (v) l] S wf (fun v_ C_ => ∃ (u : Value), v_ = .int .i64 (l.length : Int) ∧ C_ = [cel g [u] 65, rw_ eTV 90 (u) (l ++ [TV.mk (TN.mk 5 false 0 ⟨#[]⟩ [] ks) none 0 kA kc])]) := by
 refine TR.mk Try.func27 rfl Try.ntmps27 rfl rfl (fun w_ => ?_)
 refine .seq (.region ?_)
 refine .v (ev_as rfl rfl) rfl ?_
 refine .go idQ (.seq (.region ?_))
 refine .v (ev_mv rfl rfl) rfl ?_
 refine .v (ev_mv rfl rfl) rfl ?_
 refine .v (ev_any (v := .agg #[.int .i64 5, .bool false, .int .i64 0, .string ⟨#[]⟩, .slice none 0 0, .slice kA ks.length kc]) rfl (by kernel_rfl) (fun _ => by kernel_rfl)) rfl ?_
 refine .cons (st_call0 rfl rfl rfl rfl hbd48 rfl (.c .h (.c .h .n)) (put_ g v l 5 false 0 ⟨#[]⟩ none 0 ([] : List ByteArray) kA kc ks _ _ (by first | omega | simp only [LL] <;> omega | simp <;> omega)) (fun v_q2 C_q2 q2 => ?_))
 obtain ⟨u1, rfl, rfl⟩ := q2
 show SP _ _ _ _ _ _ ⟨_, _ :: _ :: _, _, _⟩
 refine .v (ev_as rfl rfl) rfl ?_
 refine .go idQ ?_
 exact .ret idQ (ret1 Try.results27 rfl (.c .h (.c .h .n)) ⟨u1, rfl, rfl⟩)
theorem mobject (g : Nat) (v : Value) (l : List TV) (A : Option Addr) (n : Nat) (c : Nat) (ps : List Pr) (S : Nat → Prop) (wf : World) (hP : Fr ePr S wf A ps) (hl : l.length ≤ 1590000000000) (hn : ps.length = n) (hps : ps.length ≤ 1000) :
  TR0 Try.prog 21 [.pointer (some ⟨g, 0, none⟩), .slice A n c] [cel g [v] 65, rw_ eTV 90 (v) l] S wf (fun v_ C_ => ∃ (u : Value) (nA : Option Addr) (nc : Nat) (kA : Option Addr) (kc : Nat), v_ = .int .i64 (l.length : Int) ∧ C_ = [cel g [u] 65, rw_ eTV 90 (u) (l ++ [TV.mk (TN.mk 6 false 0 ⟨#[]⟩ (ps.map Pr.name) (ps.map Pr.pos)) nA nc kA kc]), rw_ eS 9 (.slice nA ((ps.map Pr.name).length) nc) (ps.map Pr.name), rw_ eZ 3 (.slice kA ((ps.map Pr.pos).length) kc) (ps.map Pr.pos)]) := by
 refine TR.mk Try.func21 rfl Try.ntmps21 rfl rfl (fun w_ => ?_)
 refine .seq (.region ?_)
 refine .v (ev_as rfl rfl) rfl ?_
 refine .go idQ (.seq (.region ?_))
 refine .v (ev_any (v := .agg #[.int .i64 6, .bool false, .int .i64 0, .string ⟨#[]⟩, .slice none 0 0, .slice none 0 0]) rfl (by kernel_rfl) (fun _ => by kernel_rfl)) rfl ?_
 refine .cons (st_alloc rfl rfl rfl rfl zf90 (fun b1 => ?_))
 refine .cons (st_storea (l' := [.int .i64 6, .bool false, .int .i64 0, .string ⟨#[]⟩, .slice none 0 0, .slice none 0 0]) rfl rfl rfl ty90 rfl rfl rfl .h rfl rfl ?_)
 refine .go idQ (.seq (.seq ?_))
 refine SC.nilrow eS 9 ?_
 refine SC.nilrow eZ 3 ?_
 refine .region ?_
 refine .v (ev_mv rfl rfl) rfl ?_
 refine .v (ev_len rfl Try.underlying99 rfl) rfl ?_
 refine .v (ev_mv rfl rfl) rfl ?_
 refine .go idQ (.block ?_)
 refine .loop (X := Int × Value × Value × (List ByteArray) × (List Int)) (fun ⟨i, NV, KV, X, Y⟩ => 0 ≤ i ∧ i ≤ ps.length ∧ X = (ps.take i.toNat).map Pr.name ∧ Y = (ps.take i.toNat).map Pr.pos ∧ (X.length : Int) = i ∧ (Y.length : Int) = i) (fun ⟨i, NV, KV, X, Y⟩ => [(0, .pointer (some ⟨g, 0, none⟩)), (5, .pointer (some ⟨b1, 0, none⟩)), (9, .slice A n c), (10, .int .i64 (n : Int)), (11, .int .i64 i)]) (fun ⟨i, NV, KV, X, Y⟩ => [cel b1 [.int .i64 6, .bool false, .int .i64 0, .string ⟨#[]⟩, NV, KV] 90, rw_ eS 9 (NV) X, rw_ eZ 3 (KV) Y, cel g [v] 65, rw_ eTV 90 (v) l]) (fun _ => S) (fun _ => wf) (fun ⟨i, NV, KV, X, Y⟩ => (ps.length - i.toNat)) (fun a_ w_ hs_ hw_ => ⟨⟨0, (.slice none 0 0), (.slice none 0 0), ([] : List ByteArray), ([] : List Int)⟩, (by exact ⟨by omega, by omega, rfl, rfl, rfl, rfl⟩), hs_.mono (Sub.get (.c rfl (.c rfl (.c rfl (.c rfl (.c rfl .n)))))), hw_.keep (.c (.t (.t .h)) (.c (.t .h) (.c .h (.c .h (.c .h .n)))))⟩) (fun ⟨i, NV, KV, X, Y⟩ ⟨q_0, q_1, q_2, q_3, q_4, q_5⟩ => ?_)
 show SC _ _ _ _ _ ⟨[(0, .pointer (some ⟨g, 0, none⟩)), (5, .pointer (some ⟨b1, 0, none⟩)), (9, .slice A n c), (10, .int .i64 (n : Int)), (11, .int .i64 i)], [cel b1 [.int .i64 6, .bool false, .int .i64 0, .string ⟨#[]⟩, NV, KV] 90, rw_ eS 9 (NV) X, rw_ eZ 3 (KV) Y, cel g [v] 65, rw_ eTV 90 (v) l], S, wf⟩
 refine .seq (.region ?_)
 refine .v (ev_cmp rfl rfl rfl rfl) rfl ?_
 refine .go idQ (.seq ?_)
 refine .condI rfl bD (fun h2 => ?_) (fun h2 => ?_)
 ·
  refine .skipgo idQ (.seq (.block (.seq (.region ?_))))
  refine .v (ev_ix rfl Try.underlying99 ty69 rfl rfl (by omega) (by omega) (fun _ _ => Fr.adr (i := i) hP (by omega) (by omega))) rfl ?_
  refine .v (ev_lda rfl rfl (At.w (Fr.el (i := i) hP (by omega) (by omega))) ty69) rfl ?_
  refine .cons (st_alloc rfl rfl rfl rfl zf69 (fun b3 => ?_))
  refine .cons (st_storea (l' := [.string ((gt ps i).name), .int .i64 ((gt ps i).pos)]) rfl rfl rfl ty69 rfl rfl rfl .h rfl rfl ?_)
  refine .go idQ ?_
  refine SC.draw mo [cel b1 [.int .i64 6, .bool false, .int .i64 0, .string ⟨#[]⟩, NV, KV] 90, rw_ eS 9 (NV) X, rw_ eZ 3 (KV) Y] [(13, fun w => At w b1 0 [.int .i64 6, .bool false, .int .i64 0, .string ⟨#[]⟩, NV, KV])] (.c (.t .h) (.c (.t .h) (.c (.t .h) .n))) (fun w_ _ hw_ => (sc1 (At.whole 0 rfl w_ hw_) sc0)) (fun wf_4 hl_4 hx_4 hR_4 => ?_)
  refine SR.k 0 rfl (by kernel_rfl) rfl (ev_fa rfl fo90_4 rfl (r := 4) rfl) ?_
  refine SR.k 1 rfl (by kernel_rfl) rfl (ev_ld1 rfl ty82 rfl (At.elem1 (v := NV) (At.ofcs 0 rfl (by kernel_rfl)) 4 rfl)) ?_
  refine SR.k 2 rfl (by kernel_rfl) rfl (ev_fa rfl fo69_0 rfl (r := 0) rfl) ?_
  refine SR.k 3 rfl (by kernel_rfl) rfl (ev_ld1 rfl ty9 rfl (At.d (At.lent hR_4 0 rfl rfl))) ?_
  refine SR.k 6 rfl (by kernel_rfl) rfl (ev_fa rfl fo90_5 rfl (r := 5) rfl) ?_
  refine SR.k 7 rfl (by kernel_rfl) rfl (ev_ld1 rfl ty56 rfl (At.elem1 (v := KV) (At.ofcs 0 rfl (by kernel_rfl)) 5 rfl)) ?_
  refine SR.k 8 rfl (by kernel_rfl) rfl (ev_fa rfl fo69_1 rfl (r := 1) rfl) ?_
  refine SR.k 9 rfl (by kernel_rfl) rfl (ev_ld1 rfl ty3 rfl (At.d (At.lent hR_4 0 rfl rfl))) ?_
  refine SR.two (i := 4) (j := 10) (by kernel_rfl) ⟨_, rfl, ?_⟩ ⟨_, rfl, ?_⟩
  ·
   refine st_lit eS (e := 9) (l := [(gt ps i).name]) rfl rfl rfl rfl (by kernel_rfl) rfl rfl (fun w => by kernel_rfl) (fun b5 => ⟨ttc (fun w_ hw_ => (tc1 (by first | exact At.whole 0 rfl w_ hw_ | exact At.whole 1 rfl w_ hw_ | exact At.whole 2 rfl w_ hw_ | exact At.whole 3 rfl w_ hw_ | exact At.whole 4 rfl w_ hw_ | exact At.whole 5 rfl w_ hw_ | exact At.whole 6 rfl w_ hw_) tc0)), ?_⟩)
   refine SR.two (i := 5) (j := 10) (by kernel_rfl) ⟨_, rfl, ?_⟩ ⟨_, rfl, ?_⟩
   ·
    refine st_app (E := eS) (m := [(gt ps i).name]) rfl rfl rfl rfl Try.underlying82 ai9 rfl rfl rfl (.t (.t .h)) (by first | rfl | omega | simp) (row_src 0 rfl) (by first | omega | simp only [LL] <;> omega | simp <;> omega) rfl (fun v6 => ⟨ttc (fun w_ hw_ => (tc1 (by first | exact At.whole 0 rfl w_ hw_ | exact At.whole 1 rfl w_ hw_ | exact At.whole 2 rfl w_ hw_ | exact At.whole 3 rfl w_ hw_ | exact At.whole 4 rfl w_ hw_ | exact At.whole 5 rfl w_ hw_ | exact At.whole 6 rfl w_ hw_) tc0)), ?_⟩)
    refine SR.k 12 rfl (by kernel_rfl) rfl (ev_fa rfl fo90_4 rfl (r := 4) rfl) ?_
    refine SR.one (j := 10) (by kernel_rfl) rfl (st_lit eZ (e := 3) (l := [(gt ps i).pos]) rfl rfl rfl rfl (by kernel_rfl) rfl rfl (fun w => by kernel_rfl) (fun b7 => ⟨ttc (fun w_ hw_ => (tc1 (by first | exact At.whole 0 rfl w_ hw_ | exact At.whole 1 rfl w_ hw_ | exact At.whole 2 rfl w_ hw_ | exact At.whole 3 rfl w_ hw_ | exact At.whole 4 rfl w_ hw_ | exact At.whole 5 rfl w_ hw_ | exact At.whole 6 rfl w_ hw_) tc0)), ?_⟩))
    refine SR.one (j := 11) (by kernel_rfl) rfl (st_app (E := eZ) (m := [(gt ps i).pos]) rfl rfl rfl rfl Try.underlying56 ai3 rfl rfl rfl (.t (.t (.t (.t .h)))) (by first | rfl | omega | simp) (row_src 0 rfl) (by first | omega | simp only [LL] <;> omega | simp <;> omega) rfl (fun v8 => ⟨ttc (fun w_ hw_ => (tc1 (by first | exact At.whole 0 rfl w_ hw_ | exact At.whole 1 rfl w_ hw_ | exact At.whole 2 rfl w_ hw_ | exact At.whole 3 rfl w_ hw_ | exact At.whole 4 rfl w_ hw_ | exact At.whole 5 rfl w_ hw_ | exact At.whole 6 rfl w_ hw_) tc0)), ?_⟩))
    refine .know (row_len 2 rfl) (fun hv11 => ?_)
    obtain ⟨A9, c10, rfl, hv11_1, hv11_2⟩ := hv11
    unfold maxLen at hv11_2
    refine SR.one (j := 13) (by kernel_rfl) rfl (st_store1 rfl rfl rfl ty82 rfl rfl rfl (.t (.t (.t (.t .h)))) (.t (.t (.t (.t .h)))) ⟨ttc (fun w_ hw_ => (tc2 (by kernel_rfl) tc0)), ?_⟩)
    refine SR.k 14 rfl (by kernel_rfl) rfl (ev_fa rfl fo90_5 rfl (r := 5) rfl) ?_
    refine .know (row_len 1 rfl) (fun hv14 => ?_)
    obtain ⟨A12, c13, rfl, hv14_1, hv14_2⟩ := hv14
    unfold maxLen at hv14_2
    refine SR.one (j := 15) (by kernel_rfl) rfl (st_store1 rfl rfl rfl ty56 rfl rfl rfl .h (.t (.t (.t (.t (.t .h))))) ⟨ttc (fun w_ hw_ => (tc2 (by kernel_rfl) tc0)), ?_⟩)
    refine SR.fin (by kernel_rfl) hl_4 hx_4 hR_4 (.c (.c (.c (.c (.c .n))))) ?_
    refine SQ.go idQ ?_
    refine .region ?_
    refine .v (ev_add rfl rfl rfl (r := (i + 1)) rfl (by omega) (by omega)) rfl ?_
    refine .v (ev_mv rfl rfl) rfl ?_
    exact SP.nil (SQ.roundb (X := Int × Value × Value × (List ByteArray) × (List Int)) (x := (i, NV, KV, X, Y)) ⟨(i + 1), .slice A9 ((X ++ [(gt ps i).name]).length) c10, .slice A12 ((Y ++ [(gt ps i).pos]).length) c13, (X ++ [(gt ps i).name]), (Y ++ [(gt ps i).pos])⟩ (by exact ⟨by omega, by omega, map_next q_2 (by omega) (by omega), map_next q_3 (by omega) (by omega), by rw [List.length_append]; simp; omega, by rw [List.length_append]; simp; omega⟩) (by dsimp only; omega) (Sub.get (.c rfl (.c rfl (.c rfl (.c rfl (.c rfl .n)))))) (fun w hw => hw.keep (.c .h (.c (.t (.t .h)) (.c .h (.c (.t (.t (.t .h))) (.c (.t (.t (.t .h))) .n)))))))
   refine st_lit eZ (e := 3) (l := [(gt ps i).pos]) rfl rfl rfl rfl (by kernel_rfl) rfl rfl (fun w => by kernel_rfl) (fun b15 => ⟨ttc (fun w_ hw_ => (tc1 (by first | exact At.whole 0 rfl w_ hw_ | exact At.whole 1 rfl w_ hw_ | exact At.whole 2 rfl w_ hw_ | exact At.whole 3 rfl w_ hw_ | exact At.whole 4 rfl w_ hw_ | exact At.whole 5 rfl w_ hw_ | exact At.whole 6 rfl w_ hw_) tc0)), ?_⟩)
   refine SR.one (j := 5) (by kernel_rfl) rfl (st_app (E := eS) (m := [(gt ps i).name]) rfl rfl rfl rfl Try.underlying82 ai9 rfl rfl rfl (.t (.t (.t .h))) (by first | rfl | omega | simp) (row_src 1 rfl) (by first | omega | simp only [LL] <;> omega | simp <;> omega) rfl (fun v16 => ⟨ttc (fun w_ hw_ => (tc1 (by first | exact At.whole 0 rfl w_ hw_ | exact At.whole 1 rfl w_ hw_ | exact At.whole 2 rfl w_ hw_ | exact At.whole 3 rfl w_ hw_ | exact At.whole 4 rfl w_ hw_ | exact At.whole 5 rfl w_ hw_ | exact At.whole 6 rfl w_ hw_) tc0)), ?_⟩))
   refine SR.k 12 rfl (by kernel_rfl) rfl (ev_fa rfl fo90_4 rfl (r := 4) rfl) ?_
   refine SR.one (j := 11) (by kernel_rfl) rfl (st_app (E := eZ) (m := [(gt ps i).pos]) rfl rfl rfl rfl Try.underlying56 ai3 rfl rfl rfl (.t (.t (.t (.t .h)))) (by first | rfl | omega | simp) (row_src 1 rfl) (by first | omega | simp only [LL] <;> omega | simp <;> omega) rfl (fun v17 => ⟨ttc (fun w_ hw_ => (tc1 (by first | exact At.whole 0 rfl w_ hw_ | exact At.whole 1 rfl w_ hw_ | exact At.whole 2 rfl w_ hw_ | exact At.whole 3 rfl w_ hw_ | exact At.whole 4 rfl w_ hw_ | exact At.whole 5 rfl w_ hw_ | exact At.whole 6 rfl w_ hw_) tc0)), ?_⟩))
   refine .know (row_len 1 rfl) (fun hv20 => ?_)
   obtain ⟨A18, c19, rfl, hv20_1, hv20_2⟩ := hv20
   unfold maxLen at hv20_2
   refine SR.one (j := 13) (by kernel_rfl) rfl (st_store1 rfl rfl rfl ty82 rfl rfl rfl (.t (.t (.t (.t .h)))) (.t (.t (.t (.t .h)))) ⟨ttc (fun w_ hw_ => (tc2 (by kernel_rfl) tc0)), ?_⟩)
   refine SR.k 14 rfl (by kernel_rfl) rfl (ev_fa rfl fo90_5 rfl (r := 5) rfl) ?_
   refine .know (row_len 1 rfl) (fun hv23 => ?_)
   obtain ⟨A21, c22, rfl, hv23_1, hv23_2⟩ := hv23
   unfold maxLen at hv23_2
   refine SR.one (j := 15) (by kernel_rfl) rfl (st_store1 rfl rfl rfl ty56 rfl rfl rfl .h (.t (.t (.t (.t (.t .h))))) ⟨ttc (fun w_ hw_ => (tc2 (by kernel_rfl) tc0)), ?_⟩)
   refine SR.fin (by kernel_rfl) hl_4 hx_4 hR_4 (.c (.c (.c (.c (.c .n))))) ?_
   refine SQ.go idQ ?_
   refine .region ?_
   refine .v (ev_add rfl rfl rfl (r := (i + 1)) rfl (by omega) (by omega)) rfl ?_
   refine .v (ev_mv rfl rfl) rfl ?_
   exact SP.nil (SQ.roundb (X := Int × Value × Value × (List ByteArray) × (List Int)) (x := (i, NV, KV, X, Y)) ⟨(i + 1), .slice A18 ((X ++ [(gt ps i).name]).length) c19, .slice A21 ((Y ++ [(gt ps i).pos]).length) c22, (X ++ [(gt ps i).name]), (Y ++ [(gt ps i).pos])⟩ (by exact ⟨by omega, by omega, map_next q_2 (by omega) (by omega), map_next q_3 (by omega) (by omega), by rw [List.length_append]; simp; omega, by rw [List.length_append]; simp; omega⟩) (by dsimp only; omega) (Sub.get (.c rfl (.c rfl (.c rfl (.c rfl (.c rfl .n)))))) (fun w hw => hw.keep (.c .h (.c (.t .h) (.c .h (.c (.t (.t (.t .h))) (.c (.t (.t (.t .h))) .n)))))))
  refine st_lit eZ (e := 3) (l := [(gt ps i).pos]) rfl rfl rfl rfl (by kernel_rfl) rfl rfl (fun w => by kernel_rfl) (fun b24 => ⟨ttc (fun w_ hw_ => (tc1 (by first | exact At.whole 0 rfl w_ hw_ | exact At.whole 1 rfl w_ hw_ | exact At.whole 2 rfl w_ hw_ | exact At.whole 3 rfl w_ hw_ | exact At.whole 4 rfl w_ hw_ | exact At.whole 5 rfl w_ hw_ | exact At.whole 6 rfl w_ hw_) tc0)), ?_⟩)
  refine SR.one (j := 4) (by kernel_rfl) rfl (st_lit eS (e := 9) (l := [(gt ps i).name]) rfl rfl rfl rfl (by kernel_rfl) rfl rfl (fun w => by kernel_rfl) (fun b25 => ⟨ttc (fun w_ hw_ => (tc1 (by first | exact At.whole 0 rfl w_ hw_ | exact At.whole 1 rfl w_ hw_ | exact At.whole 2 rfl w_ hw_ | exact At.whole 3 rfl w_ hw_ | exact At.whole 4 rfl w_ hw_ | exact At.whole 5 rfl w_ hw_ | exact At.whole 6 rfl w_ hw_) tc0)), ?_⟩))
  refine SR.one (j := 5) (by kernel_rfl) rfl (st_app (E := eS) (m := [(gt ps i).name]) rfl rfl rfl rfl Try.underlying82 ai9 rfl rfl rfl (.t (.t (.t .h))) (by first | rfl | omega | simp) (row_src 0 rfl) (by first | omega | simp only [LL] <;> omega | simp <;> omega) rfl (fun v26 => ⟨ttc (fun w_ hw_ => (tc1 (by first | exact At.whole 0 rfl w_ hw_ | exact At.whole 1 rfl w_ hw_ | exact At.whole 2 rfl w_ hw_ | exact At.whole 3 rfl w_ hw_ | exact At.whole 4 rfl w_ hw_ | exact At.whole 5 rfl w_ hw_ | exact At.whole 6 rfl w_ hw_) tc0)), ?_⟩))
  refine SR.k 12 rfl (by kernel_rfl) rfl (ev_fa rfl fo90_4 rfl (r := 4) rfl) ?_
  refine SR.one (j := 11) (by kernel_rfl) rfl (st_app (E := eZ) (m := [(gt ps i).pos]) rfl rfl rfl rfl Try.underlying56 ai3 rfl rfl rfl (.t (.t (.t (.t .h)))) (by first | rfl | omega | simp) (row_src 2 rfl) (by first | omega | simp only [LL] <;> omega | simp <;> omega) rfl (fun v27 => ⟨ttc (fun w_ hw_ => (tc1 (by first | exact At.whole 0 rfl w_ hw_ | exact At.whole 1 rfl w_ hw_ | exact At.whole 2 rfl w_ hw_ | exact At.whole 3 rfl w_ hw_ | exact At.whole 4 rfl w_ hw_ | exact At.whole 5 rfl w_ hw_ | exact At.whole 6 rfl w_ hw_) tc0)), ?_⟩))
  refine .know (row_len 1 rfl) (fun hv30 => ?_)
  obtain ⟨A28, c29, rfl, hv30_1, hv30_2⟩ := hv30
  unfold maxLen at hv30_2
  refine SR.one (j := 13) (by kernel_rfl) rfl (st_store1 rfl rfl rfl ty82 rfl rfl rfl (.t (.t (.t (.t .h)))) (.t (.t (.t (.t .h)))) ⟨ttc (fun w_ hw_ => (tc2 (by kernel_rfl) tc0)), ?_⟩)
  refine SR.k 14 rfl (by kernel_rfl) rfl (ev_fa rfl fo90_5 rfl (r := 5) rfl) ?_
  refine .know (row_len 1 rfl) (fun hv33 => ?_)
  obtain ⟨A31, c32, rfl, hv33_1, hv33_2⟩ := hv33
  unfold maxLen at hv33_2
  refine SR.one (j := 15) (by kernel_rfl) rfl (st_store1 rfl rfl rfl ty56 rfl rfl rfl .h (.t (.t (.t (.t (.t .h))))) ⟨ttc (fun w_ hw_ => (tc2 (by kernel_rfl) tc0)), ?_⟩)
  refine SR.fin (by kernel_rfl) hl_4 hx_4 hR_4 (.c (.c (.c (.c (.c .n))))) ?_
  refine SQ.go idQ ?_
  refine .region ?_
  refine .v (ev_add rfl rfl rfl (r := (i + 1)) rfl (by omega) (by omega)) rfl ?_
  refine .v (ev_mv rfl rfl) rfl ?_
  exact SP.nil (SQ.roundb (X := Int × Value × Value × (List ByteArray) × (List Int)) (x := (i, NV, KV, X, Y)) ⟨(i + 1), .slice A28 ((X ++ [(gt ps i).name]).length) c29, .slice A31 ((Y ++ [(gt ps i).pos]).length) c32, (X ++ [(gt ps i).name]), (Y ++ [(gt ps i).pos])⟩ (by exact ⟨by omega, by omega, map_next q_2 (by omega) (by omega), map_next q_3 (by omega) (by omega), by rw [List.length_append]; simp; omega, by rw [List.length_append]; simp; omega⟩) (by dsimp only; omega) (Sub.get (.c rfl (.c rfl (.c rfl (.c rfl (.c rfl .n)))))) (fun w hw => hw.keep (.c .h (.c (.t .h) (.c .h (.c (.t (.t (.t .h))) (.c (.t (.t (.t .h))) .n)))))))
 refine .exit idQ ?_
 refine .seq ?_
 refine .know (row_len 1 rfl) (fun hv36 => ?_)
 obtain ⟨A34, c35, rfl, hv36_1, hv36_2⟩ := hv36
 unfold maxLen at hv36_2
 refine .know (row_len 2 rfl) (fun hv39 => ?_)
 obtain ⟨A37, c38, rfl, hv39_1, hv39_2⟩ := hv39
 unfold maxLen at hv39_2
 have hX := map_end q_2 (by omega)
 have hY := map_end q_3 (by omega)
 subst hX
 subst hY
 refine .region ?_
 refine .v (ev_mv rfl rfl) rfl ?_
 refine .v (ev_lda rfl rfl (At.whole 0 rfl) ty90) rfl ?_
 refine .cons (st_call0 rfl rfl rfl rfl hbd48 rfl (.c (.t (.t (.t .h))) (.c (.t (.t (.t .h))) .n)) (put_ g v l 6 false 0 ⟨#[]⟩ A34 c35 (ps.map Pr.name) A37 c38 (ps.map Pr.pos) _ _ (by first | omega | simp only [LL] <;> omega | simp <;> omega)) (fun v_q41 C_q41 q41 => ?_))
 obtain ⟨u40, rfl, rfl⟩ := q41
 show SP _ _ _ _ _ _ ⟨_, _ :: _ :: _, _, _⟩
 refine .v (ev_as rfl rfl) rfl ?_
 refine .go idQ ?_
 exact .ret idQ (ret1 Try.results21 rfl (.c .h (.c .h (.c (.t .h) (.c (.t .h) .n)))) ⟨u40, A34, c35, A37, c38, rfl, rfl⟩)
end Go.Proofs.Ythmkelkefmfmgaa.Sx
set_option maxRecDepth 20000
set_option maxHeartbeats 4000000
namespace Go.Proofs.Ythmkelkefmfmgaa.Sx.FF
open Go Go.SX Go.Proofs
theorem fo30_3 : fo Try.prog 30 3 = some 12 := by kernel_rfl
theorem ty27 : ty Try.prog 27 = some (false, 1) := by kernel_rfl
theorem fo30_4 : fo Try.prog 30 4 = some 13 := by kernel_rfl
theorem ty28 : ty Try.prog 28 = some (false, 1) := by kernel_rfl
theorem fo30_0 : fo Try.prog 30 0 = some 0 := by kernel_rfl
theorem fo24_2 : fo Try.prog 24 2 = some 2 := by kernel_rfl
theorem ty9 : ty Try.prog 9 = some (false, 1) := by kernel_rfl
theorem ty3 : ty Try.prog 3 = some (false, 1) := by kernel_rfl
theorem hbd47 : hasBody Try.prog 47 = true := by kernel_rfl
theorem fo24_0 : fo Try.prog 24 0 = some 0 := by kernel_rfl
theorem ty22 : ty Try.prog 22 = some (false, 1) := by kernel_rfl
theorem hbd19 : hasBody Try.prog 19 = true := by kernel_rfl
theorem fo24_1 : fo Try.prog 24 1 = some 1 := by kernel_rfl
theorem hbd20 : hasBody Try.prog 20 = true := by kernel_rfl
theorem hbd22 : hasBody Try.prog 22 = true := by kernel_rfl
theorem hbd23 : hasBody Try.prog 23 = true := by kernel_rfl
theorem hbd21 : hasBody Try.prog 21 = true := by kernel_rfl
theorem mo : Try.prog.follows .mixedOrders = true := by kernel_rfl
theorem fo65_0 : fo Try.prog 65 0 = some 0 := by kernel_rfl
theorem ty34 : ty Try.prog 34 = some (false, 1) := by kernel_rfl
end Go.Proofs.Ythmkelkefmfmgaa.Sx.FF
namespace Go.Proofs.Ythmkelkefmfmgaa.Sx
open Go Go.SX Go.Proofs FF
theorem all_ (A : Option Addr) (n : Nat) (c : Nat) (l : List Int) (S : Nat → Prop) (wf : World) (hA : Fr eZ S wf A l) (hn : l.length = n) :
  TR0 Try.prog 20 [.slice A n c] [] S wf (fun v_ C_ => ∃ (r : Bool), (r = true ↔ ∀ x ∈ l, fitP x) ∧ v_ = .bool r ∧ C_ = []) := by
 have hla := hA.len
 refine TR.mk Try.func20 rfl Try.ntmps20 rfl rfl (fun w_ => ?_)
 refine .seq (.region ?_)
 refine .v (ev_as rfl rfl) rfl ?_
 refine .go idQ (.seq (.seq (.region ?_)))
 refine .v (ev_mv rfl rfl) rfl ?_
 refine .v (ev_len rfl Try.underlying56 rfl) rfl ?_
 refine .v (ev_mv rfl rfl) rfl ?_
 refine .go idQ (.block ?_)
 refine .loop (X := Int) (fun i => 0 ≤ i ∧ i ≤ l.length ∧ (∀ x ∈ l.take i.toNat, fitP x)) (fun i => [(5, .slice A n c), (6, .int .i64 (n : Int)), (7, .int .i64 i)]) (fun i => []) (fun _ => S) (fun _ => wf) (fun i => (l.length - i.toNat)) (fun a_ w_ hs_ hw_ => ⟨0, (by exact ⟨by omega, by omega, by simp⟩), hs_.mono (Sub.get (.c rfl (.c rfl (.c rfl .n)))), hw_.keep .n⟩) (fun i ⟨q_0, q_1, q_2⟩ => ?_)
 show SC _ _ _ _ _ ⟨[(5, .slice A n c), (6, .int .i64 (n : Int)), (7, .int .i64 i)], [], S, wf⟩
 refine .seq (.region ?_)
 refine .v (ev_cmp rfl rfl rfl rfl) rfl ?_
 refine .go idQ (.seq ?_)
 refine .condI rfl bD (fun h1 => ?_) (fun h1 => ?_)
 ·
  refine .skipgo idQ (.seq (.block (.seq (.region ?_))))
  refine .v (ev_ix rfl Try.underlying56 ty3 rfl rfl (by omega) (by omega) (fun _ _ => Fr.adr (i := i) hA (by omega) (by omega))) rfl ?_
  refine .v (ev_ld1 rfl ty3 rfl (At.elem1 (At.w (Fr.el (i := i) hA (by omega) (by omega))) 0 rfl)) rfl ?_
  refine .v (ev_as rfl rfl) rfl ?_
  refine .go idQ (.seq (.region ?_))
  refine .v (ev_mv rfl rfl) rfl ?_
  refine .cons (st_callk rfl rfl rfl rfl hbd47 rfl .n (fits1 (gt l i) _ _) ?_)
  refine .v (ev_not rfl rfl) rfl ?_
  refine .go idQ ?_
  refine .condI rfl (bN (bA bD bD)) (fun h2 => ?_) (fun h2 => ?_)
  ·
   refine .seq (.region ?_)
   refine .v (ev_as rfl rfl) rfl ?_
   refine .go idQ ?_
   exact .ret idQ (ret1 Try.results20 rfl .n ⟨false, ⟨fun e => (by cases e), fun e => absurd (e _ (gt_mem (i := i) (by omega) (by omega))) (by unfold fitP; omega)⟩, rfl, rfl⟩)
  refine .skipgo idQ (.region ?_)
  refine .v (ev_add rfl rfl rfl (r := (i + 1)) rfl (by omega) (by omega)) rfl ?_
  refine .v (ev_mv rfl rfl) rfl ?_
  exact SP.nil (SQ.roundb (X := Int) (x := (i)) (i + 1) (by exact ⟨by omega, by omega, all_step q_2 (by omega) (by omega) (by unfold fitP; omega)⟩) (by show (_ : Nat) < _; omega) (Sub.get (.c rfl (.c rfl (.c rfl .n)))) (fun w hw => hw.keep .n))
 refine .exit idQ ?_
 refine .seq (.region ?_)
 refine .v (ev_as rfl rfl) rfl ?_
 refine .go idQ ?_
 exact .ret idQ (ret1 Try.results20 rfl .n ⟨true, (by rw [List.take_of_length_le (by omega)] at q_2; exact ⟨fun _ => q_2, fun _ => rfl⟩), rfl, rfl⟩)
theorem tree_f (cd : Int) (at_ : Int) (path : ByteArray) (S : Nat → Prop) (wf : World) (hc : cd ≠ 0) :
  TR0 Try.prog 11 [.agg #[.int .i64 cd, .int .i64 at_, .string path, .bool false, .int .i64 0, .int .i64 0, .int .i64 0, .int .i64 0, .int .i64 0, .int .i64 0, .int .i64 0, .int .i64 0, .slice none 0 0, .slice none 0 0]] [] S wf (fun v_ C_ => ∃ (u : Value) (L : List TV), (vs L = faultT cd at_ path) ∧ v_ = u ∧ C_ = [rw_ eTV 90 (u) L, nest 9 3 L]) := by
 refine TR.mk Try.func11 rfl Try.ntmps11 rfl rfl (fun w_ => ?_)
 refine .seq (.region ?_)
 refine .cons (st_boxa rfl rfl rfl rfl rfl (fun b1 => ?_))
 refine .v (ev_as rfl rfl) rfl ?_
 refine .go idQ (.seq (.region ?_))
 refine .v (ev_any (v := .agg #[.slice none 0 0]) rfl (by kernel_rfl) (fun _ => by kernel_rfl)) rfl ?_
 refine .cons (st_boxa rfl rfl rfl rfl rfl (fun b2 => ?_))
 refine .v (ev_as rfl rfl) rfl ?_
 refine .go idQ (.seq (.seq ?_))
 refine SC.nilrow eTV 90 ?_
 refine .region ?_
 refine .v (ev_fa rfl fo30_0 rfl (r := 0) rfl) rfl ?_
 refine .v (ev_fa rfl fo24_0 rfl (r := 0) rfl) rfl ?_
 refine .v (ev_ld1 rfl ty22 rfl (At.own1 2 rfl rfl)) rfl ?_
 refine .v (ev_cmp rfl rfl rfl rfl) rfl ?_
 refine .go idQ ?_
 refine .condI rfl bNE (fun h3 => ?_) (fun h3 => ?_)
 ·
  refine .seq ?_
  refine SC.draw mo [rw_ eTV 90 (.slice none 0 0) ([] : List TV), cel b2 [.slice none 0 0] 65] [] (.c .h (.c .h .n)) (fun _ _ _ c hc => by cases hc) (fun wf_4 hl_4 hx_4 hR_4 => ?_)
  refine SR.k 0 rfl (by kernel_rfl) rfl (ev_mv rfl rfl) ?_
  refine SR.k 1 rfl (by kernel_rfl) rfl (ev_mv rfl rfl) ?_
  refine SR.k 4 rfl (by kernel_rfl) rfl (ev_mv rfl rfl) ?_
  refine SR.k 5 rfl (by kernel_rfl) rfl (ev_fa rfl fo30_0 rfl (r := 0) rfl) ?_
  refine SR.k 6 rfl (by kernel_rfl) rfl (ev_fa rfl fo24_0 rfl (r := 0) rfl) ?_
  refine SR.k 7 rfl (by kernel_rfl) rfl (ev_ld1 rfl ty22 rfl (At.d (At.lent hR_4 0 rfl rfl))) ?_
  refine SR.k 10 rfl (by kernel_rfl) rfl (ev_mv rfl rfl) ?_
  refine SR.k 11 rfl (by kernel_rfl) rfl (ev_fa rfl fo30_0 rfl (r := 0) rfl) ?_
  refine SR.k 12 rfl (by kernel_rfl) rfl (ev_fa rfl fo24_1 rfl (r := 1) rfl) ?_
  refine SR.k 13 rfl (by kernel_rfl) rfl (ev_ld1 rfl ty3 rfl (At.d (At.lent hR_4 0 rfl rfl))) ?_
  refine SR.k 16 rfl (by kernel_rfl) rfl (ev_mv rfl rfl) ?_
  refine SR.k 17 rfl (by kernel_rfl) rfl (ev_fa rfl fo30_0 rfl (r := 0) rfl) ?_
  refine SR.k 18 rfl (by kernel_rfl) rfl (ev_fa rfl fo24_2 rfl (r := 2) rfl) ?_
  refine SR.k 19 rfl (by kernel_rfl) rfl (ev_ld1 rfl ty9 rfl (At.d (At.lent hR_4 0 rfl rfl))) ?_
  refine SR.one (j := 2) (by kernel_rfl) rfl (st_call0 rfl rfl rfl rfl hbd22 rfl (.c (.t .h) (.c .h .n)) (mtext b2 (.slice none 0 0) ([] : List TV) ⟨#[101, 114, 114, 111, 114]⟩ _ _ (by first | omega | simp only [LL] <;> omega | simp <;> omega)) (fun v_q6 C_q6 q6 => ⟨tt0, ?_⟩))
  obtain ⟨u5, rfl, rfl⟩ := q6
  show SR _ _ _ _ _ _ _ _ _ ⟨_, _ :: _ :: _, _, _⟩
  refine SR.k 3 rfl (by kernel_rfl) rfl (ev_any (v := .agg #[.string ⟨#[115, 116, 97, 116, 117, 115]⟩, .int .i64 (([] : List TV).length : Int)]) rfl (by kernel_rfl) (fun _ => by kernel_rfl)) ?_
  refine SR.one (j := 8) (by kernel_rfl) rfl (st_call0 rfl rfl rfl rfl hbd23 rfl (.c .h (.c .h .n)) (mnum b2 u5 (([] : List TV) ++ [sT ⟨#[101, 114, 114, 111, 114]⟩]) cd _ _ (by first | omega | simp only [LL] <;> omega | simp <;> omega)) (fun v_q8 C_q8 q8 => ⟨tt0, ?_⟩))
  obtain ⟨u7, rfl, rfl⟩ := q8
  show SR _ _ _ _ _ _ _ _ _ ⟨_, _ :: _ :: _, _, _⟩
  refine SR.k 9 rfl (by kernel_rfl) rfl (ev_any (v := .agg #[.string ⟨#[99, 111, 100, 101]⟩, .int .i64 ((([] : List TV) ++ [sT ⟨#[101, 114, 114, 111, 114]⟩]).length : Int)]) rfl (by kernel_rfl) (fun _ => by kernel_rfl)) ?_
  refine SR.one (j := 14) (by kernel_rfl) rfl (st_call0 rfl rfl rfl rfl hbd23 rfl (.c .h (.c .h .n)) (mnum b2 u7 ((([] : List TV) ++ [sT ⟨#[101, 114, 114, 111, 114]⟩]) ++ [nT cd]) at_ _ _ (by first | omega | simp only [LL] <;> omega | simp <;> omega)) (fun v_q10 C_q10 q10 => ⟨tt0, ?_⟩))
  obtain ⟨u9, rfl, rfl⟩ := q10
  show SR _ _ _ _ _ _ _ _ _ ⟨_, _ :: _ :: _, _, _⟩
  refine SR.k 15 rfl (by kernel_rfl) rfl (ev_any (v := .agg #[.string ⟨#[97, 116]⟩, .int .i64 (((([] : List TV) ++ [sT ⟨#[101, 114, 114, 111, 114]⟩]) ++ [nT cd]).length : Int)]) rfl (by kernel_rfl) (fun _ => by kernel_rfl)) ?_
  refine SR.one (j := 20) (by kernel_rfl) rfl (st_call0 rfl rfl rfl rfl hbd22 rfl (.c .h (.c .h .n)) (mtext b2 u9 (((([] : List TV) ++ [sT ⟨#[101, 114, 114, 111, 114]⟩]) ++ [nT cd]) ++ [nT at_]) path _ _ (by first | omega | simp only [LL] <;> omega | simp <;> omega)) (fun v_q12 C_q12 q12 => ⟨tt0, ?_⟩))
  obtain ⟨u11, rfl, rfl⟩ := q12
  show SR _ _ _ _ _ _ _ _ _ ⟨_, _ :: _ :: _, _, _⟩
  refine SR.k 21 rfl (by kernel_rfl) rfl (ev_any (v := .agg #[.string ⟨#[112, 97, 116, 104]⟩, .int .i64 ((((([] : List TV) ++ [sT ⟨#[101, 114, 114, 111, 114]⟩]) ++ [nT cd]) ++ [nT at_]).length : Int)]) rfl (by kernel_rfl) (fun _ => by kernel_rfl)) ?_
  refine SR.one (j := 22) (by kernel_rfl) rfl (st_lit ePr (e := 69) (l := [(Pr.mk ⟨#[115, 116, 97, 116, 117, 115]⟩ (([] : List TV).length : Int)), (Pr.mk ⟨#[99, 111, 100, 101]⟩ ((([] : List TV) ++ [sT ⟨#[101, 114, 114, 111, 114]⟩]).length : Int)), (Pr.mk ⟨#[97, 116]⟩ (((([] : List TV) ++ [sT ⟨#[101, 114, 114, 111, 114]⟩]) ++ [nT cd]).length : Int)), (Pr.mk ⟨#[112, 97, 116, 104]⟩ ((((([] : List TV) ++ [sT ⟨#[101, 114, 114, 111, 114]⟩]) ++ [nT cd]) ++ [nT at_]).length : Int))]) rfl rfl rfl rfl (by kernel_rfl) rfl rfl (fun w => by kernel_rfl) (fun b13 => ⟨tt0, ?_⟩))
  refine SR.one (j := 23) (by kernel_rfl) rfl (st_lend0 rfl rfl rfl rfl hbd21 rfl (.c (.t .h) (.c (.t .h) .n)) (.c .h .n) (fun w_ hw => mobject b2 u11 ((((([] : List TV) ++ [sT ⟨#[101, 114, 114, 111, 114]⟩]) ++ [nT cd]) ++ [nT at_]) ++ [sT path]) (some ⟨b13, 0, none⟩) 4 4 [(Pr.mk ⟨#[115, 116, 97, 116, 117, 115]⟩ (([] : List TV).length : Int)), (Pr.mk ⟨#[99, 111, 100, 101]⟩ ((([] : List TV) ++ [sT ⟨#[101, 114, 114, 111, 114]⟩]).length : Int)), (Pr.mk ⟨#[97, 116]⟩ (((([] : List TV) ++ [sT ⟨#[101, 114, 114, 111, 114]⟩]) ++ [nT cd]).length : Int)), (Pr.mk ⟨#[112, 97, 116, 104]⟩ ((((([] : List TV) ++ [sT ⟨#[101, 114, 114, 111, 114]⟩]) ++ [nT cd]) ++ [nT at_]).length : Int))] _ _ (Fr.lend hw 0 rfl (by first | omega | simp only [LL] <;> omega | simp <;> omega)) (by first | omega | simp only [LL] <;> omega | simp <;> omega) (by first | omega | simp only [LL] <;> omega | simp <;> omega) (by first | omega | simp only [LL] <;> omega | simp <;> omega)) (fun v_q19 C_q19 q19 => ⟨tt0, ?_⟩))
  obtain ⟨u14, nA15, nc16, kA17, kc18, rfl, rfl⟩ := q19
  show SR _ _ _ _ _ _ _ _ _ ⟨_, _ :: _ :: _ :: _ :: _ :: _, _, _⟩
  refine SR.fin (by kernel_rfl) hl_4 hx_4 hR_4 (.c (.c (.c (.c (.c .n))))) ?_
  refine SQ.go idQ ?_
  refine .seq (.region ?_)
  refine .v (ev_mv rfl rfl) rfl ?_
  refine .v (ev_nil rfl rfl) rfl ?_
  refine .v (ev_fa rfl fo65_0 rfl (r := 0) rfl) rfl ?_
  refine .v (ev_ld1 rfl ty34 rfl (At.own1 0 rfl rfl)) rfl ?_
  refine .v (ev_as rfl rfl) rfl ?_
  refine .go idQ ?_
  refine SC.nest0 9 3 ?_
  refine SC.packl (TN.mk 4 false 0 ⟨#[101, 114, 114, 111, 114]⟩ [] []) .h rfl rfl ?_
  refine SC.packl (TN.mk 3 false cd ⟨#[]⟩ [] []) .h rfl rfl ?_
  refine SC.packl (TN.mk 3 false at_ ⟨#[]⟩ [] []) .h rfl rfl ?_
  refine SC.packl (TN.mk 4 false 0 path [] []) .h rfl rfl ?_
  refine SC.pack (TV.mk (TN.mk 6 false 0 ⟨#[]⟩ ([(Pr.mk ⟨#[115, 116, 97, 116, 117, 115]⟩ (([] : List TV).length : Int)), (Pr.mk ⟨#[99, 111, 100, 101]⟩ ((([] : List TV) ++ [sT ⟨#[101, 114, 114, 111, 114]⟩]).length : Int)), (Pr.mk ⟨#[97, 116]⟩ (((([] : List TV) ++ [sT ⟨#[101, 114, 114, 111, 114]⟩]) ++ [nT cd]).length : Int)), (Pr.mk ⟨#[112, 97, 116, 104]⟩ ((((([] : List TV) ++ [sT ⟨#[101, 114, 114, 111, 114]⟩]) ++ [nT cd]) ++ [nT at_]).length : Int))].map Pr.name) ([(Pr.mk ⟨#[115, 116, 97, 116, 117, 115]⟩ (([] : List TV).length : Int)), (Pr.mk ⟨#[99, 111, 100, 101]⟩ ((([] : List TV) ++ [sT ⟨#[101, 114, 114, 111, 114]⟩]).length : Int)), (Pr.mk ⟨#[97, 116]⟩ (((([] : List TV) ++ [sT ⟨#[101, 114, 114, 111, 114]⟩]) ++ [nT cd]).length : Int)), (Pr.mk ⟨#[112, 97, 116, 104]⟩ ((((([] : List TV) ++ [sT ⟨#[101, 114, 114, 111, 114]⟩]) ++ [nT cd]) ++ [nT at_]).length : Int))].map Pr.pos)) nA15 nc16 kA17 kc18) (.c .h (.c (.t (.t .h)) (.c (.t (.t .h)) .n))) (by simp) (by simp) ?_
  exact .ret idQ (ret1 Try.results11 rfl (.c (.t (.t .h)) (.c .h .n)) ⟨u14, (((((([] : List TV) ++ [sT ⟨#[101, 114, 114, 111, 114]⟩]) ++ [nT cd]) ++ [nT at_]) ++ [sT path]) ++ [TV.mk (TN.mk 6 false 0 ⟨#[]⟩ ([(Pr.mk ⟨#[115, 116, 97, 116, 117, 115]⟩ (([] : List TV).length : Int)), (Pr.mk ⟨#[99, 111, 100, 101]⟩ ((([] : List TV) ++ [sT ⟨#[101, 114, 114, 111, 114]⟩]).length : Int)), (Pr.mk ⟨#[97, 116]⟩ (((([] : List TV) ++ [sT ⟨#[101, 114, 114, 111, 114]⟩]) ++ [nT cd]).length : Int)), (Pr.mk ⟨#[112, 97, 116, 104]⟩ ((((([] : List TV) ++ [sT ⟨#[101, 114, 114, 111, 114]⟩]) ++ [nT cd]) ++ [nT at_]).length : Int))].map Pr.name) ([(Pr.mk ⟨#[115, 116, 97, 116, 117, 115]⟩ (([] : List TV).length : Int)), (Pr.mk ⟨#[99, 111, 100, 101]⟩ ((([] : List TV) ++ [sT ⟨#[101, 114, 114, 111, 114]⟩]).length : Int)), (Pr.mk ⟨#[97, 116]⟩ (((([] : List TV) ++ [sT ⟨#[101, 114, 114, 111, 114]⟩]) ++ [nT cd]).length : Int)), (Pr.mk ⟨#[112, 97, 116, 104]⟩ ((((([] : List TV) ++ [sT ⟨#[101, 114, 114, 111, 114]⟩]) ++ [nT cd]) ++ [nT at_]).length : Int))].map Pr.pos)) nA15 nc16 kA17 kc18]), rfl, rfl, rfl⟩)
 exact absurd hc (by assumption)
end Go.Proofs.Ythmkelkefmfmgaa.Sx
set_option maxRecDepth 20000
set_option maxHeartbeats 4000000
namespace Go.Proofs.Ythmkelkefmfmgaa.Sx.FX
open Go Go.SX Go.Proofs
theorem hbd11 : hasBody Try.prog 11 = true := by kernel_rfl
theorem hbd12 : hasBody Try.prog 12 = true := by kernel_rfl
theorem hbd8 : hasBody Try.prog 8 = true := by kernel_rfl
theorem ty30 : ty Try.prog 30 = some (true, 14) := by kernel_rfl
theorem mo : Try.prog.follows .mixedOrders = true := by kernel_rfl
theorem fo24_0 : fo Try.prog 24 0 = some 0 := by kernel_rfl
theorem ty22 : ty Try.prog 22 = some (false, 1) := by kernel_rfl
theorem hbd9 : hasBody Try.prog 9 = true := by kernel_rfl
theorem hbd10 : hasBody Try.prog 10 = true := by kernel_rfl
end Go.Proofs.Ythmkelkefmfmgaa.Sx.FX
namespace Go.Proofs.Ythmkelkefmfmgaa.Sx
open Go Go.SX Go.Proofs FX
theorem awake (S : Nat → Prop) (wf : World) :
  TR0 Try.prog 8 [] [] S wf (fun v_ C_ => v_ = .bool true ∧ C_ = []) := by
 refine TR.mk Try.func8 rfl Try.ntmps8 rfl rfl (fun w_ => ?_)
 refine .seq (.region ?_)
 refine .v (ev_as rfl rfl) rfl ?_
 refine .go idQ (.seq (.region ?_))
 refine .v (ev_any (v := .agg #[.int .i64 21, .int .i64 3, .string ⟨#[]⟩]) rfl (by kernel_rfl) (fun _ => by kernel_rfl)) rfl ?_
 refine .v (ev_any (v := .agg #[.int .i64 21, .int .i64 3, .string ⟨#[]⟩, .bool false, .int .i64 0, .int .i64 0, .int .i64 0, .int .i64 0, .int .i64 0, .int .i64 0, .int .i64 0, .int .i64 0, .slice none 0 0, .slice none 0 0]) rfl (by kernel_rfl) (fun _ => by kernel_rfl)) rfl ?_
 refine .cons (st_call0 rfl rfl rfl rfl hbd11 rfl .n (tree_f 21 3 ⟨#[]⟩ _ _ (by decide)) (fun v_q3 C_q3 q3 => ?_))
 obtain ⟨u1, L2, p4, rfl, rfl⟩ := q3
 show SP _ _ _ _ _ _ ⟨_, _ :: _ :: _, _, _⟩
 have hLl5 : L2.length = 5 := by rw [← vs_len, p4]; rfl
 refine .know (row_len 0 rfl) (fun hv8 => ?_)
 obtain ⟨A6, c7, rfl, hv8_1, hv8_2⟩ := hv8
 unfold maxLen at hv8_2
 refine .cons (st_lend0 rfl rfl rfl rfl hbd12 rfl .n (.c .h (.c .h .n)) (fun w_ hw => print_ A6 c7 L2 _ _ (Fr.lend hw 0 rfl (by first | omega | simp only [LL] <;> omega | simp <;> omega)) (NT.lend hw 1 rfl) (fault_TB p4 (show (⟨#[]⟩ : ByteArray).size ≤ 1000000 from by decide) (by omega) (by omega)) (by rw [p4, fault_show]; have h_ := fault_len (cd := 21) (at_ := 3) (path := ⟨#[]⟩) (by omega) (by omega); have h2_ := (show (⟨#[]⟩ : ByteArray).size ≤ 1000000 from by decide); omega)) (fun v_q12 C_q12 q12 => ?_))
 obtain ⟨u9, e10, m11, p13, p14, rfl, rfl⟩ := q12
 show SP _ _ _ _ _ _ ⟨_, _ :: _ :: _ :: _, _, _⟩
 have hz15 : e10 = 0 := by rw [p13, p4]; exact fault_check (by unfold fitP; omega) (by unfold fitP; omega) (utf_lit (by decide))
 have hm16 := p14
 rw [if_pos hz15, p4, fault_show] at hm16
 clear p13 p14
 subst hz15
 subst hm16
 have hfl17 := fault_len (cd := 21) (at_ := 3) (path := ⟨#[]⟩) (by omega) (by omega)
 refine .v (ev_mv rfl rfl) rfl ?_
 refine .v (ev_ext rfl rfl rfl) rfl ?_
 refine .v (ev_ext rfl rfl rfl) rfl ?_
 refine .v (ev_as rfl rfl) rfl ?_
 refine .v (ev_as rfl rfl) rfl ?_
 refine .go idQ (.seq (.region ?_))
 refine .v (ev_mv rfl rfl) rfl ?_
 refine .v (ev_cmp (r := true) rfl rfl rfl rfl) rfl ?_
 refine .v (ev_mv rfl rfl) rfl ?_
 refine .cons (.on rfl rfl rfl (Ev.step (ev_mv rfl rfl) rfl rfl rfl ?_))
 refine .know (row_len 0 rfl) (fun hv20 => ?_)
 obtain ⟨A18, c19, rfl, hv20_1, hv20_2⟩ := hv20
 unfold maxLen at hv20_2
 refine .cons (.on rfl rfl rfl (Ev.step (ev_b2s (l := (faultL 21 3 ⟨#[]⟩)) rfl Try.underlying36 Try.underlying5 Try.underlying9 rfl (by first | rfl | assumption | omega | ((try simp only [List.length_take, List.length_drop, List.length_append, List.length_cons, List.length_nil]) <;> omega)) (row_src 0 rfl)) rfl rfl rfl ?_))
 refine .cons (.on rfl rfl rfl (Ev.step (ev_scmp rfl rfl rfl rfl) rfl rfl rfl ?_))
 refine .v (ev_pickt rfl rfl rfl rfl) rfl ?_
 refine .v (ev_as rfl rfl) rfl ?_
 refine .go idQ ?_
 exact .ret idQ (ret1 Try.results8 rfl .n ⟨(congrArg Value.bool awake_text), rfl⟩)
end Go.Proofs.Ythmkelkefmfmgaa.Sx
