import Derived.Test.YthmkelkefmfmgaaProg
import Derived.Test.YthmkelkefmfmgaaS3
set_option linter.unusedVariables false
set_option linter.unusedSimpArgs false
set_option linter.unusedSectionVars false
set_option maxRecDepth 20000
set_option maxHeartbeats 4000000
namespace Go.Proofs.Ythmkelkefmfmgaa.Sx.FG
open Go Go.SX Go.Proofs
theorem fo62_0 : fo Try.prog 62 0 = some 0 := by kernel_rfl
theorem ty4 : ty Try.prog 4 = some (false, 1) := by kernel_rfl
theorem ty3 : ty Try.prog 3 = some (false, 1) := by kernel_rfl
theorem hbd23 : hasBody Try.prog 23 = true := by kernel_rfl
theorem ai3 : (Try.prog.info? 3).map (fun i => (i.zero, i.size, i.bytes)) = some (some (.int .i64 0), 1, 8) := by kernel_rfl
theorem hbd27 : hasBody Try.prog 27 = true := by kernel_rfl
theorem fo26_0 : fo Try.prog 26 0 = some 0 := by kernel_rfl
theorem fo26_1 : fo Try.prog 26 1 = some 1 := by kernel_rfl
theorem fo26_2 : fo Try.prog 26 2 = some 2 := by kernel_rfl
theorem fo26_3 : fo Try.prog 26 3 = some 3 := by kernel_rfl
theorem fo26_4 : fo Try.prog 26 4 = some 4 := by kernel_rfl
theorem fo26_5 : fo Try.prog 26 5 = some 5 := by kernel_rfl
theorem fo26_6 : fo Try.prog 26 6 = some 6 := by kernel_rfl
theorem fo26_7 : fo Try.prog 26 7 = some 7 := by kernel_rfl
theorem hbd21 : hasBody Try.prog 21 = true := by kernel_rfl
theorem mo : Try.prog.follows .mixedOrders = true := by kernel_rfl
theorem fo58_0 : fo Try.prog 58 0 = some 0 := by kernel_rfl
theorem fo55_0 : fo Try.prog 55 0 = some 0 := by kernel_rfl
theorem ty53 : ty Try.prog 53 = some (false, 1) := by kernel_rfl
theorem hbd66 : hasBody Try.prog 66 = true := by kernel_rfl
theorem ty9 : ty Try.prog 9 = some (false, 1) := by kernel_rfl
theorem hbd22 : hasBody Try.prog 22 = true := by kernel_rfl
theorem fo55_1 : fo Try.prog 55 1 = some 1 := by kernel_rfl
theorem fo58_1 : fo Try.prog 58 1 = some 2 := by kernel_rfl
theorem fo58_2 : fo Try.prog 58 2 = some 3 := by kernel_rfl
theorem fo58_3 : fo Try.prog 58 3 = some 4 := by kernel_rfl
theorem fo58_4 : fo Try.prog 58 4 = some 5 := by kernel_rfl
theorem fo58_5 : fo Try.prog 58 5 = some 6 := by kernel_rfl
theorem ty56 : ty Try.prog 56 = some (false, 1) := by kernel_rfl
theorem hbd67 : hasBody Try.prog 67 = true := by kernel_rfl
theorem fo58_6 : fo Try.prog 58 6 = some 7 := by kernel_rfl
theorem fo58_7 : fo Try.prog 58 7 = some 8 := by kernel_rfl
end Go.Proofs.Ythmkelkefmfmgaa.Sx.FG
namespace Go.Proofs.Ythmkelkefmfmgaa.Sx
open Go Go.SX Go.Proofs FG
theorem word_ (b : Bool) (i : Int) (S : Nat → Prop) (wf : World) :
  TR0 Try.prog 28 [.agg #[.bool b, .int .i64 i]] [] S wf (fun v_ C_ => v_ = .string (wordT b) ∧ C_ = []) := by
 refine TR.mk Try.func28 rfl Try.ntmps28 rfl rfl (fun w_ => ?_)
 refine .seq (.region ?_)
 refine .cons (st_boxa rfl rfl rfl rfl rfl (fun b1 => ?_))
 refine .v (ev_as rfl rfl) rfl ?_
 refine .go idQ (.seq (.seq (.region ?_)))
 refine .v (ev_fa rfl fo62_0 rfl (r := 0) rfl) rfl ?_
 refine .v (ev_ld1 rfl ty4 rfl (At.own1 0 rfl rfl)) rfl ?_
 refine .go idQ ?_
 refine .condI rfl bV (fun h2 => ?_) (fun h2 => ?_)
 ·
  refine .seq (.region ?_)
  refine .v (ev_as rfl rfl) rfl ?_
  refine .go idQ ?_
  exact .ret idQ (ret1 Try.results28 rfl .n ⟨(by unfold wordT; simp_all), rfl⟩)
 refine .skipgo idQ (.seq (.region ?_))
 refine .v (ev_as rfl rfl) rfl ?_
 refine .go idQ ?_
 exact .ret idQ (ret1 Try.results28 rfl .n ⟨(by unfold wordT; simp_all), rfl⟩)
theorem mnums (g : Nat) (v : Value) (l : List TV) (A : Option Addr) (n : Nat) (c : Nat) (m : List Int) (S : Nat → Prop) (wf : World) (hA : Fr eZ S wf A m) (hl : l.length ≤ 1589000000000) (hn : m.length = n) (hm : m.length ≤ 8192) :
  TR0 Try.prog 67 [.pointer (some ⟨g, 0, none⟩), .slice A n c] [cel g [v] 65, rw_ eTV 90 (v) l] S wf (fun v_ C_ => ∃ (u : Value) (L : List TV) (M : List TV), (L = l ++ M) ∧ (vs M = numsF l.length m) ∧ v_ = .int .i64 ((l.length : Int) + m.length) ∧ C_ = [cel g [u] 65, rw_ eTV 90 (u) L, nest 9 3 M]) := by
 have hla := hA.len
 refine TR.mk Try.func67 rfl Try.ntmps67 rfl rfl (fun w_ => ?_)
 refine .seq (.region ?_)
 refine .v (ev_as rfl rfl) rfl ?_
 refine .go idQ (.seq (.region ?_))
 refine .v (ev_as rfl rfl) rfl ?_
 refine .go idQ (.seq (.seq ?_))
 refine SC.nilrow eZ 3 ?_
 refine SC.nest0 9 3 ?_
 refine .region ?_
 refine .v (ev_mv rfl rfl) rfl ?_
 refine .v (ev_len rfl Try.underlying56 rfl) rfl ?_
 refine .v (ev_mv rfl rfl) rfl ?_
 refine .go idQ (.block ?_)
 refine .loop (X := Int × Value × Value × (List TV) × (List TV) × (List Int)) (fun ⟨i, W, KV, LL, M, X⟩ => 0 ≤ i ∧ i ≤ m.length ∧ LL = l ++ M ∧ vs M = (m.take i.toNat).map numN ∧ X = seqI l.length i.toNat ∧ (LL.length : Int) = l.length + i ∧ (X.length : Int) = i) (fun ⟨i, W, KV, LL, M, X⟩ => [(0, .pointer (some ⟨g, 0, none⟩)), (5, KV), (8, .slice A n c), (9, .int .i64 (n : Int)), (10, .int .i64 i)]) (fun ⟨i, W, KV, LL, M, X⟩ => [cel g [W] 65, rw_ eTV 90 (W) LL, nest 9 3 M, rw_ eZ 3 (KV) X]) (fun _ => S) (fun _ => wf) (fun ⟨i, W, KV, LL, M, X⟩ => (m.length - i.toNat)) (fun a_ w_ hs_ hw_ => ⟨⟨0, v, (.slice none 0 0), l, ([] : List TV), ([] : List Int)⟩, (by exact ⟨by omega, by omega, by simp, rfl, rfl, by simp, rfl⟩), hs_.mono (Sub.get (.c rfl (.c rfl (.c rfl (.c rfl (.c rfl .n)))))), hw_.keep (.c (.t (.t .h)) (.c (.t (.t .h)) (.c .h (.c .h .n))))⟩) (fun ⟨i, W, KV, LL, M, X⟩ ⟨q_0, q_1, q_2, q_3, q_4, q_5, q_6⟩ => ?_)
 show SC _ _ _ _ _ ⟨[(0, .pointer (some ⟨g, 0, none⟩)), (5, KV), (8, .slice A n c), (9, .int .i64 (n : Int)), (10, .int .i64 i)], [cel g [W] 65, rw_ eTV 90 (W) LL, nest 9 3 M, rw_ eZ 3 (KV) X], S, wf⟩
 refine .seq (.region ?_)
 refine .v (ev_cmp rfl rfl rfl rfl) rfl ?_
 refine .go idQ (.seq ?_)
 refine .condI rfl bD (fun h1 => ?_) (fun h1 => ?_)
 ·
  refine .skipgo idQ (.seq (.block (.seq (.region ?_))))
  refine .v (ev_ix rfl Try.underlying56 ty3 rfl rfl (by omega) (by omega) (fun _ _ => Fr.adr (i := i) hA (by omega) (by omega))) rfl ?_
  refine .v (ev_ld1 rfl ty3 rfl (At.elem1 (At.w (Fr.el (i := i) hA (by omega) (by omega))) 0 rfl)) rfl ?_
  refine .v (ev_as rfl rfl) rfl ?_
  refine .go idQ (.region ?_)
  refine .v (ev_mv rfl rfl) rfl ?_
  refine .v (ev_mv rfl rfl) rfl ?_
  refine .v (ev_mv rfl rfl) rfl ?_
  refine .cons (st_call0 rfl rfl rfl rfl hbd23 rfl (.c .h (.c .h .n)) (mnum g W LL (gt m i) _ _ (by first | omega | simp only [LL] <;> omega | simp <;> omega)) (fun v_q3 C_q3 q3 => ?_))
  obtain ⟨u2, rfl, rfl⟩ := q3
  show SP _ _ _ _ _ _ ⟨_, _ :: _ :: _, _, _⟩
  refine .cons (st_lit eZ (e := 3) (l := [(LL.length : Int)]) rfl rfl rfl rfl (by kernel_rfl) rfl rfl (fun w => by kernel_rfl) (fun b4 => ?_))
  refine .cons (st_app (E := eZ) (m := [(LL.length : Int)]) rfl rfl rfl rfl Try.underlying56 ai3 rfl rfl rfl (.t (.t (.t (.t .h)))) (by first | rfl | omega | simp) (row_src 0 rfl) (by first | omega | simp only [LL] <;> omega | simp <;> omega) rfl (fun v5 => ?_))
  refine .v (ev_as rfl rfl) rfl ?_
  refine .go idQ ?_
  refine SC.packl (TN.mk 3 false (gt m i) ⟨#[]⟩ [] []) (.t (.t (.t (.t .h)))) rfl rfl ?_
  refine .region ?_
  refine .v (ev_add rfl rfl rfl (r := (i + 1)) rfl (by omega) (by omega)) rfl ?_
  refine .v (ev_mv rfl rfl) rfl ?_
  exact SP.nil (SQ.roundb (X := Int × Value × Value × (List TV) × (List TV) × (List Int)) (x := (i, W, KV, LL, M, X)) ⟨(i + 1), u2, v5, (LL ++ [nT (gt m i)]), (M ++ [nT (gt m i)]), (X ++ [(LL.length : Int)])⟩ (by exact ⟨by omega, by omega, by rw [q_2, List.append_assoc], nums_next q_3 (by omega) (by omega), by rw [seqI_next (by omega), ← q_4, show (l.length : Int) + i = LL.length from by omega], by rw [List.length_append]; simp; omega, by rw [List.length_append]; simp; omega⟩) (by dsimp only; omega) (Sub.get (.c rfl (.c rfl (.c rfl (.c rfl (.c rfl .n)))))) (fun w hw => hw.keep (.c (.t (.t (.t .h))) (.c (.t (.t (.t .h))) (.c .h (.c .h .n))))))
 refine .exit idQ ?_
 refine .seq (.region ?_)
 refine .v (ev_mv rfl rfl) rfl ?_
 refine .v (ev_mv rfl rfl) rfl ?_
 refine .know (row_len 3 rfl) (fun hv8 => ?_)
 obtain ⟨A6, c7, rfl, hv8_1, hv8_2⟩ := hv8
 unfold maxLen at hv8_2
 refine .cons (st_call0 rfl rfl rfl rfl hbd27 rfl (.c .h (.c .h .n)) (mlist g W LL A6 c7 X _ _ (by first | omega | simp only [LL] <;> omega | simp <;> omega)) (fun v_q10 C_q10 q10 => ?_))
 obtain ⟨u9, rfl, rfl⟩ := q10
 show SP _ _ _ _ _ _ ⟨_, _ :: _ :: _, _, _⟩
 refine .v (ev_as rfl rfl) rfl ?_
 refine .go idQ ?_
 refine SC.nilrow eS 9 ?_
 refine SC.pack (TV.mk (TN.mk 5 false 0 ⟨#[]⟩ [] X) none 0 A6 c7) (.c (.t (.t (.t .h))) (.c .h (.c (.t (.t .h)) .n))) (by first | omega | (simp; done) | (simp; omega)) (by first | omega | (simp; done) | (simp; omega)) ?_
 exact .ret idQ (ret1 Try.results67 rfl (.c (.t .h) (.c (.t .h) (.c .h .n))) ⟨u9, (LL ++ [TV.mk (TN.mk 5 false 0 ⟨#[]⟩ [] X) none 0 A6 c7]), (M ++ [TV.mk (TN.mk 5 false 0 ⟨#[]⟩ [] X) none 0 A6 c7]), (by rw [q_2, List.append_assoc]), (nums_end q_3 q_4 (by omega) (by omega)), (congrArg (Value.int .i64) (by omega)), rfl⟩)
theorem msums (g : Nat) (v : Value) (l : List TV) (x0 : Int) (x1 : Int) (x2 : Int) (x3 : Int) (x4 : Int) (x5 : Int) (x6 : Int) (x7 : Int) (S : Nat → Prop) (wf : World) (hl : l.length ≤ 1589000000000) :
  TR0 Try.prog 25 [.pointer (some ⟨g, 0, none⟩), .agg #[.int .i64 x0, .int .i64 x1, .int .i64 x2, .int .i64 x3, .int .i64 x4, .int .i64 x5, .int .i64 x6, .int .i64 x7]] [cel g [v] 65, rw_ eTV 90 (v) l] S wf (fun v_ C_ => ∃ (u : Value) (L : List TV) (M : List TV), (L = l ++ M) ∧ (vs M = sumsF l.length ⟨x0, x1, x2, x3, x4, x5, x6, x7⟩) ∧ v_ = .int .i64 ((l.length : Int) + 8) ∧ C_ = [cel g [u] 65, rw_ eTV 90 (u) L, nest 9 3 M]) := by
 refine TR.mk Try.func25 rfl Try.ntmps25 rfl rfl (fun w_ => ?_)
 refine .seq (.region ?_)
 refine .cons (st_boxa rfl rfl rfl rfl rfl (fun b1 => ?_))
 refine .v (ev_as rfl rfl) rfl ?_
 refine .go idQ (.seq ?_)
 refine SC.draw mo [cel g [v] 65, rw_ eTV 90 (v) l] [] (.c (.t .h) (.c (.t .h) .n)) (fun _ _ _ c hc => by cases hc) (fun wf_2 hl_2 hx_2 hR_2 => ?_)
 refine SR.k 0 rfl (by kernel_rfl) rfl (ev_mv rfl rfl) ?_
 refine SR.k 1 rfl (by kernel_rfl) rfl (ev_mv rfl rfl) ?_
 refine SR.k 2 rfl (by kernel_rfl) rfl (ev_fa rfl fo26_0 rfl (r := 0) rfl) ?_
 refine SR.k 3 rfl (by kernel_rfl) rfl (ev_ld1 rfl ty3 rfl (At.d (At.lent hR_2 0 rfl rfl))) ?_
 refine SR.k 6 rfl (by kernel_rfl) rfl (ev_mv rfl rfl) ?_
 refine SR.k 7 rfl (by kernel_rfl) rfl (ev_fa rfl fo26_1 rfl (r := 1) rfl) ?_
 refine SR.k 8 rfl (by kernel_rfl) rfl (ev_ld1 rfl ty3 rfl (At.d (At.lent hR_2 0 rfl rfl))) ?_
 refine SR.k 11 rfl (by kernel_rfl) rfl (ev_mv rfl rfl) ?_
 refine SR.k 12 rfl (by kernel_rfl) rfl (ev_fa rfl fo26_2 rfl (r := 2) rfl) ?_
 refine SR.k 13 rfl (by kernel_rfl) rfl (ev_ld1 rfl ty3 rfl (At.d (At.lent hR_2 0 rfl rfl))) ?_
 refine SR.k 16 rfl (by kernel_rfl) rfl (ev_mv rfl rfl) ?_
 refine SR.k 17 rfl (by kernel_rfl) rfl (ev_fa rfl fo26_3 rfl (r := 3) rfl) ?_
 refine SR.k 18 rfl (by kernel_rfl) rfl (ev_ld1 rfl ty3 rfl (At.d (At.lent hR_2 0 rfl rfl))) ?_
 refine SR.k 21 rfl (by kernel_rfl) rfl (ev_mv rfl rfl) ?_
 refine SR.k 22 rfl (by kernel_rfl) rfl (ev_fa rfl fo26_4 rfl (r := 4) rfl) ?_
 refine SR.k 23 rfl (by kernel_rfl) rfl (ev_ld1 rfl ty3 rfl (At.d (At.lent hR_2 0 rfl rfl))) ?_
 refine SR.k 26 rfl (by kernel_rfl) rfl (ev_mv rfl rfl) ?_
 refine SR.k 27 rfl (by kernel_rfl) rfl (ev_fa rfl fo26_5 rfl (r := 5) rfl) ?_
 refine SR.k 28 rfl (by kernel_rfl) rfl (ev_ld1 rfl ty3 rfl (At.d (At.lent hR_2 0 rfl rfl))) ?_
 refine SR.k 31 rfl (by kernel_rfl) rfl (ev_mv rfl rfl) ?_
 refine SR.k 32 rfl (by kernel_rfl) rfl (ev_fa rfl fo26_6 rfl (r := 6) rfl) ?_
 refine SR.k 33 rfl (by kernel_rfl) rfl (ev_ld1 rfl ty3 rfl (At.d (At.lent hR_2 0 rfl rfl))) ?_
 refine SR.k 36 rfl (by kernel_rfl) rfl (ev_mv rfl rfl) ?_
 refine SR.k 37 rfl (by kernel_rfl) rfl (ev_fa rfl fo26_7 rfl (r := 7) rfl) ?_
 refine SR.k 38 rfl (by kernel_rfl) rfl (ev_ld1 rfl ty3 rfl (At.d (At.lent hR_2 0 rfl rfl))) ?_
 refine SR.one (j := 4) (by kernel_rfl) rfl (st_call0 rfl rfl rfl rfl hbd23 rfl (.c .h (.c .h .n)) (mnum g v l x0 _ _ (by first | omega | simp only [LL] <;> omega | simp <;> omega)) (fun v_q4 C_q4 q4 => ⟨tt0, ?_⟩))
 obtain ⟨u3, rfl, rfl⟩ := q4
 show SR _ _ _ _ _ _ _ _ _ ⟨_, _ :: _ :: _, _, _⟩
 refine SR.k 5 rfl (by kernel_rfl) rfl (ev_any (v := .agg #[.string ⟨#[114, 111, 117, 116, 101, 115]⟩, .int .i64 (l.length : Int)]) rfl (by kernel_rfl) (fun _ => by kernel_rfl)) ?_
 refine SR.one (j := 9) (by kernel_rfl) rfl (st_call0 rfl rfl rfl rfl hbd23 rfl (.c .h (.c .h .n)) (mnum g u3 (l ++ [nT x0]) x1 _ _ (by first | omega | simp only [LL] <;> omega | simp <;> omega)) (fun v_q6 C_q6 q6 => ⟨tt0, ?_⟩))
 obtain ⟨u5, rfl, rfl⟩ := q6
 show SR _ _ _ _ _ _ _ _ _ ⟨_, _ :: _ :: _, _, _⟩
 refine SR.k 10 rfl (by kernel_rfl) rfl (ev_any (v := .agg #[.string ⟨#[118, 97, 108, 117, 101]⟩, .int .i64 ((l ++ [nT x0]).length : Int)]) rfl (by kernel_rfl) (fun _ => by kernel_rfl)) ?_
 refine SR.one (j := 14) (by kernel_rfl) rfl (st_call0 rfl rfl rfl rfl hbd23 rfl (.c .h (.c .h .n)) (mnum g u5 ((l ++ [nT x0]) ++ [nT x1]) x2 _ _ (by first | omega | simp only [LL] <;> omega | simp <;> omega)) (fun v_q8 C_q8 q8 => ⟨tt0, ?_⟩))
 obtain ⟨u7, rfl, rfl⟩ := q8
 show SR _ _ _ _ _ _ _ _ _ ⟨_, _ :: _ :: _, _, _⟩
 refine SR.k 15 rfl (by kernel_rfl) rfl (ev_any (v := .agg #[.string ⟨#[99, 111, 115, 116]⟩, .int .i64 (((l ++ [nT x0]) ++ [nT x1]).length : Int)]) rfl (by kernel_rfl) (fun _ => by kernel_rfl)) ?_
 refine SR.one (j := 19) (by kernel_rfl) rfl (st_call0 rfl rfl rfl rfl hbd23 rfl (.c .h (.c .h .n)) (mnum g u7 (((l ++ [nT x0]) ++ [nT x1]) ++ [nT x2]) x3 _ _ (by first | omega | simp only [LL] <;> omega | simp <;> omega)) (fun v_q10 C_q10 q10 => ⟨tt0, ?_⟩))
 obtain ⟨u9, rfl, rfl⟩ := q10
 show SR _ _ _ _ _ _ _ _ _ ⟨_, _ :: _ :: _, _, _⟩
 refine SR.k 20 rfl (by kernel_rfl) rfl (ev_any (v := .agg #[.string ⟨#[116, 105, 109, 101]⟩, .int .i64 ((((l ++ [nT x0]) ++ [nT x1]) ++ [nT x2]).length : Int)]) rfl (by kernel_rfl) (fun _ => by kernel_rfl)) ?_
 refine SR.one (j := 24) (by kernel_rfl) rfl (st_call0 rfl rfl rfl rfl hbd23 rfl (.c .h (.c .h .n)) (mnum g u9 ((((l ++ [nT x0]) ++ [nT x1]) ++ [nT x2]) ++ [nT x3]) x4 _ _ (by first | omega | simp only [LL] <;> omega | simp <;> omega)) (fun v_q12 C_q12 q12 => ⟨tt0, ?_⟩))
 obtain ⟨u11, rfl, rfl⟩ := q12
 show SR _ _ _ _ _ _ _ _ _ ⟨_, _ :: _ :: _, _, _⟩
 refine SR.k 25 rfl (by kernel_rfl) rfl (ev_any (v := .agg #[.string ⟨#[100, 105, 115, 116]⟩, .int .i64 (((((l ++ [nT x0]) ++ [nT x1]) ++ [nT x2]) ++ [nT x3]).length : Int)]) rfl (by kernel_rfl) (fun _ => by kernel_rfl)) ?_
 refine SR.one (j := 29) (by kernel_rfl) rfl (st_call0 rfl rfl rfl rfl hbd23 rfl (.c .h (.c .h .n)) (mnum g u11 (((((l ++ [nT x0]) ++ [nT x1]) ++ [nT x2]) ++ [nT x3]) ++ [nT x4]) x5 _ _ (by first | omega | simp only [LL] <;> omega | simp <;> omega)) (fun v_q14 C_q14 q14 => ⟨tt0, ?_⟩))
 obtain ⟨u13, rfl, rfl⟩ := q14
 show SR _ _ _ _ _ _ _ _ _ ⟨_, _ :: _ :: _, _, _⟩
 refine SR.k 30 rfl (by kernel_rfl) rfl (ev_any (v := .agg #[.string ⟨#[119, 97, 105, 116]⟩, .int .i64 ((((((l ++ [nT x0]) ++ [nT x1]) ++ [nT x2]) ++ [nT x3]) ++ [nT x4]).length : Int)]) rfl (by kernel_rfl) (fun _ => by kernel_rfl)) ?_
 refine SR.one (j := 34) (by kernel_rfl) rfl (st_call0 rfl rfl rfl rfl hbd23 rfl (.c .h (.c .h .n)) (mnum g u13 ((((((l ++ [nT x0]) ++ [nT x1]) ++ [nT x2]) ++ [nT x3]) ++ [nT x4]) ++ [nT x5]) x6 _ _ (by first | omega | simp only [LL] <;> omega | simp <;> omega)) (fun v_q16 C_q16 q16 => ⟨tt0, ?_⟩))
 obtain ⟨u15, rfl, rfl⟩ := q16
 show SR _ _ _ _ _ _ _ _ _ ⟨_, _ :: _ :: _, _, _⟩
 refine SR.k 35 rfl (by kernel_rfl) rfl (ev_any (v := .agg #[.string ⟨#[115, 101, 114, 118, 105, 99, 101]⟩, .int .i64 (((((((l ++ [nT x0]) ++ [nT x1]) ++ [nT x2]) ++ [nT x3]) ++ [nT x4]) ++ [nT x5]).length : Int)]) rfl (by kernel_rfl) (fun _ => by kernel_rfl)) ?_
 refine SR.one (j := 39) (by kernel_rfl) rfl (st_call0 rfl rfl rfl rfl hbd23 rfl (.c .h (.c .h .n)) (mnum g u15 (((((((l ++ [nT x0]) ++ [nT x1]) ++ [nT x2]) ++ [nT x3]) ++ [nT x4]) ++ [nT x5]) ++ [nT x6]) x7 _ _ (by first | omega | simp only [LL] <;> omega | simp <;> omega)) (fun v_q18 C_q18 q18 => ⟨tt0, ?_⟩))
 obtain ⟨u17, rfl, rfl⟩ := q18
 show SR _ _ _ _ _ _ _ _ _ ⟨_, _ :: _ :: _, _, _⟩
 refine SR.k 40 rfl (by kernel_rfl) rfl (ev_any (v := .agg #[.string ⟨#[108, 101, 102, 116]⟩, .int .i64 ((((((((l ++ [nT x0]) ++ [nT x1]) ++ [nT x2]) ++ [nT x3]) ++ [nT x4]) ++ [nT x5]) ++ [nT x6]).length : Int)]) rfl (by kernel_rfl) (fun _ => by kernel_rfl)) ?_
 refine SR.one (j := 41) (by kernel_rfl) rfl (st_lit ePr (e := 69) (l := [(Pr.mk ⟨#[114, 111, 117, 116, 101, 115]⟩ (l.length : Int)), (Pr.mk ⟨#[118, 97, 108, 117, 101]⟩ ((l ++ [nT x0]).length : Int)), (Pr.mk ⟨#[99, 111, 115, 116]⟩ (((l ++ [nT x0]) ++ [nT x1]).length : Int)), (Pr.mk ⟨#[116, 105, 109, 101]⟩ ((((l ++ [nT x0]) ++ [nT x1]) ++ [nT x2]).length : Int)), (Pr.mk ⟨#[100, 105, 115, 116]⟩ (((((l ++ [nT x0]) ++ [nT x1]) ++ [nT x2]) ++ [nT x3]).length : Int)), (Pr.mk ⟨#[119, 97, 105, 116]⟩ ((((((l ++ [nT x0]) ++ [nT x1]) ++ [nT x2]) ++ [nT x3]) ++ [nT x4]).length : Int)), (Pr.mk ⟨#[115, 101, 114, 118, 105, 99, 101]⟩ (((((((l ++ [nT x0]) ++ [nT x1]) ++ [nT x2]) ++ [nT x3]) ++ [nT x4]) ++ [nT x5]).length : Int)), (Pr.mk ⟨#[108, 101, 102, 116]⟩ ((((((((l ++ [nT x0]) ++ [nT x1]) ++ [nT x2]) ++ [nT x3]) ++ [nT x4]) ++ [nT x5]) ++ [nT x6]).length : Int))]) rfl rfl rfl rfl (by kernel_rfl) rfl rfl (fun w => by kernel_rfl) (fun b19 => ⟨tt0, ?_⟩))
 refine SR.one (j := 42) (by kernel_rfl) rfl (st_lend0 rfl rfl rfl rfl hbd21 rfl (.c (.t .h) (.c (.t .h) .n)) (.c .h .n) (fun w_ hw => mobject g u17 ((((((((l ++ [nT x0]) ++ [nT x1]) ++ [nT x2]) ++ [nT x3]) ++ [nT x4]) ++ [nT x5]) ++ [nT x6]) ++ [nT x7]) (some ⟨b19, 0, none⟩) 8 8 [(Pr.mk ⟨#[114, 111, 117, 116, 101, 115]⟩ (l.length : Int)), (Pr.mk ⟨#[118, 97, 108, 117, 101]⟩ ((l ++ [nT x0]).length : Int)), (Pr.mk ⟨#[99, 111, 115, 116]⟩ (((l ++ [nT x0]) ++ [nT x1]).length : Int)), (Pr.mk ⟨#[116, 105, 109, 101]⟩ ((((l ++ [nT x0]) ++ [nT x1]) ++ [nT x2]).length : Int)), (Pr.mk ⟨#[100, 105, 115, 116]⟩ (((((l ++ [nT x0]) ++ [nT x1]) ++ [nT x2]) ++ [nT x3]).length : Int)), (Pr.mk ⟨#[119, 97, 105, 116]⟩ ((((((l ++ [nT x0]) ++ [nT x1]) ++ [nT x2]) ++ [nT x3]) ++ [nT x4]).length : Int)), (Pr.mk ⟨#[115, 101, 114, 118, 105, 99, 101]⟩ (((((((l ++ [nT x0]) ++ [nT x1]) ++ [nT x2]) ++ [nT x3]) ++ [nT x4]) ++ [nT x5]).length : Int)), (Pr.mk ⟨#[108, 101, 102, 116]⟩ ((((((((l ++ [nT x0]) ++ [nT x1]) ++ [nT x2]) ++ [nT x3]) ++ [nT x4]) ++ [nT x5]) ++ [nT x6]).length : Int))] _ _ (Fr.lend hw 0 rfl (by first | omega | simp only [LL] <;> omega | simp <;> omega)) (by first | omega | simp only [LL] <;> omega | simp <;> omega) (by first | omega | simp only [LL] <;> omega | simp <;> omega) (by first | omega | simp only [LL] <;> omega | simp <;> omega)) (fun v_q25 C_q25 q25 => ⟨tt0, ?_⟩))
 obtain ⟨u20, nA21, nc22, kA23, kc24, rfl, rfl⟩ := q25
 show SR _ _ _ _ _ _ _ _ _ ⟨_, _ :: _ :: _ :: _ :: _ :: _, _, _⟩
 refine SR.k 43 rfl (by kernel_rfl) rfl (ev_as rfl rfl) ?_
 refine SR.fin (by kernel_rfl) hl_2 hx_2 hR_2 (.c (.c (.c (.c (.c .n))))) ?_
 refine SQ.go idQ ?_
 refine SC.nest0 9 3 ?_
 refine SC.packl (TN.mk 3 false x0 ⟨#[]⟩ [] []) .h rfl rfl ?_
 refine SC.packl (TN.mk 3 false x1 ⟨#[]⟩ [] []) .h rfl rfl ?_
 refine SC.packl (TN.mk 3 false x2 ⟨#[]⟩ [] []) .h rfl rfl ?_
 refine SC.packl (TN.mk 3 false x3 ⟨#[]⟩ [] []) .h rfl rfl ?_
 refine SC.packl (TN.mk 3 false x4 ⟨#[]⟩ [] []) .h rfl rfl ?_
 refine SC.packl (TN.mk 3 false x5 ⟨#[]⟩ [] []) .h rfl rfl ?_
 refine SC.packl (TN.mk 3 false x6 ⟨#[]⟩ [] []) .h rfl rfl ?_
 refine SC.packl (TN.mk 3 false x7 ⟨#[]⟩ [] []) .h rfl rfl ?_
 refine SC.pack (TV.mk (TN.mk 6 false 0 ⟨#[]⟩ ([(Pr.mk ⟨#[114, 111, 117, 116, 101, 115]⟩ (l.length : Int)), (Pr.mk ⟨#[118, 97, 108, 117, 101]⟩ ((l ++ [nT x0]).length : Int)), (Pr.mk ⟨#[99, 111, 115, 116]⟩ (((l ++ [nT x0]) ++ [nT x1]).length : Int)), (Pr.mk ⟨#[116, 105, 109, 101]⟩ ((((l ++ [nT x0]) ++ [nT x1]) ++ [nT x2]).length : Int)), (Pr.mk ⟨#[100, 105, 115, 116]⟩ (((((l ++ [nT x0]) ++ [nT x1]) ++ [nT x2]) ++ [nT x3]).length : Int)), (Pr.mk ⟨#[119, 97, 105, 116]⟩ ((((((l ++ [nT x0]) ++ [nT x1]) ++ [nT x2]) ++ [nT x3]) ++ [nT x4]).length : Int)), (Pr.mk ⟨#[115, 101, 114, 118, 105, 99, 101]⟩ (((((((l ++ [nT x0]) ++ [nT x1]) ++ [nT x2]) ++ [nT x3]) ++ [nT x4]) ++ [nT x5]).length : Int)), (Pr.mk ⟨#[108, 101, 102, 116]⟩ ((((((((l ++ [nT x0]) ++ [nT x1]) ++ [nT x2]) ++ [nT x3]) ++ [nT x4]) ++ [nT x5]) ++ [nT x6]).length : Int))].map Pr.name) ([(Pr.mk ⟨#[114, 111, 117, 116, 101, 115]⟩ (l.length : Int)), (Pr.mk ⟨#[118, 97, 108, 117, 101]⟩ ((l ++ [nT x0]).length : Int)), (Pr.mk ⟨#[99, 111, 115, 116]⟩ (((l ++ [nT x0]) ++ [nT x1]).length : Int)), (Pr.mk ⟨#[116, 105, 109, 101]⟩ ((((l ++ [nT x0]) ++ [nT x1]) ++ [nT x2]).length : Int)), (Pr.mk ⟨#[100, 105, 115, 116]⟩ (((((l ++ [nT x0]) ++ [nT x1]) ++ [nT x2]) ++ [nT x3]).length : Int)), (Pr.mk ⟨#[119, 97, 105, 116]⟩ ((((((l ++ [nT x0]) ++ [nT x1]) ++ [nT x2]) ++ [nT x3]) ++ [nT x4]).length : Int)), (Pr.mk ⟨#[115, 101, 114, 118, 105, 99, 101]⟩ (((((((l ++ [nT x0]) ++ [nT x1]) ++ [nT x2]) ++ [nT x3]) ++ [nT x4]) ++ [nT x5]).length : Int)), (Pr.mk ⟨#[108, 101, 102, 116]⟩ ((((((((l ++ [nT x0]) ++ [nT x1]) ++ [nT x2]) ++ [nT x3]) ++ [nT x4]) ++ [nT x5]) ++ [nT x6]).length : Int))].map Pr.pos)) nA21 nc22 kA23 kc24) (.c .h (.c (.t (.t .h)) (.c (.t (.t .h)) .n))) (by first | omega | (simp; done) | (simp; omega)) (by first | omega | (simp; done) | (simp; omega)) ?_
 exact .ret idQ (ret1 Try.results25 rfl (.c (.t .h) (.c (.t .h) (.c .h .n))) ⟨u20, (((((((((l ++ [nT x0]) ++ [nT x1]) ++ [nT x2]) ++ [nT x3]) ++ [nT x4]) ++ [nT x5]) ++ [nT x6]) ++ [nT x7]) ++ [TV.mk (TN.mk 6 false 0 ⟨#[]⟩ ([(Pr.mk ⟨#[114, 111, 117, 116, 101, 115]⟩ (l.length : Int)), (Pr.mk ⟨#[118, 97, 108, 117, 101]⟩ ((l ++ [nT x0]).length : Int)), (Pr.mk ⟨#[99, 111, 115, 116]⟩ (((l ++ [nT x0]) ++ [nT x1]).length : Int)), (Pr.mk ⟨#[116, 105, 109, 101]⟩ ((((l ++ [nT x0]) ++ [nT x1]) ++ [nT x2]).length : Int)), (Pr.mk ⟨#[100, 105, 115, 116]⟩ (((((l ++ [nT x0]) ++ [nT x1]) ++ [nT x2]) ++ [nT x3]).length : Int)), (Pr.mk ⟨#[119, 97, 105, 116]⟩ ((((((l ++ [nT x0]) ++ [nT x1]) ++ [nT x2]) ++ [nT x3]) ++ [nT x4]).length : Int)), (Pr.mk ⟨#[115, 101, 114, 118, 105, 99, 101]⟩ (((((((l ++ [nT x0]) ++ [nT x1]) ++ [nT x2]) ++ [nT x3]) ++ [nT x4]) ++ [nT x5]).length : Int)), (Pr.mk ⟨#[108, 101, 102, 116]⟩ ((((((((l ++ [nT x0]) ++ [nT x1]) ++ [nT x2]) ++ [nT x3]) ++ [nT x4]) ++ [nT x5]) ++ [nT x6]).length : Int))].map Pr.name) ([(Pr.mk ⟨#[114, 111, 117, 116, 101, 115]⟩ (l.length : Int)), (Pr.mk ⟨#[118, 97, 108, 117, 101]⟩ ((l ++ [nT x0]).length : Int)), (Pr.mk ⟨#[99, 111, 115, 116]⟩ (((l ++ [nT x0]) ++ [nT x1]).length : Int)), (Pr.mk ⟨#[116, 105, 109, 101]⟩ ((((l ++ [nT x0]) ++ [nT x1]) ++ [nT x2]).length : Int)), (Pr.mk ⟨#[100, 105, 115, 116]⟩ (((((l ++ [nT x0]) ++ [nT x1]) ++ [nT x2]) ++ [nT x3]).length : Int)), (Pr.mk ⟨#[119, 97, 105, 116]⟩ ((((((l ++ [nT x0]) ++ [nT x1]) ++ [nT x2]) ++ [nT x3]) ++ [nT x4]).length : Int)), (Pr.mk ⟨#[115, 101, 114, 118, 105, 99, 101]⟩ (((((((l ++ [nT x0]) ++ [nT x1]) ++ [nT x2]) ++ [nT x3]) ++ [nT x4]) ++ [nT x5]).length : Int)), (Pr.mk ⟨#[108, 101, 102, 116]⟩ ((((((((l ++ [nT x0]) ++ [nT x1]) ++ [nT x2]) ++ [nT x3]) ++ [nT x4]) ++ [nT x5]) ++ [nT x6]).length : Int))].map Pr.pos)) nA21 nc22 kA23 kc24]), (((((((((([] : List TV) ++ [nT x0]) ++ [nT x1]) ++ [nT x2]) ++ [nT x3]) ++ [nT x4]) ++ [nT x5]) ++ [nT x6]) ++ [nT x7]) ++ [TV.mk (TN.mk 6 false 0 ⟨#[]⟩ ([(Pr.mk ⟨#[114, 111, 117, 116, 101, 115]⟩ (l.length : Int)), (Pr.mk ⟨#[118, 97, 108, 117, 101]⟩ ((l ++ [nT x0]).length : Int)), (Pr.mk ⟨#[99, 111, 115, 116]⟩ (((l ++ [nT x0]) ++ [nT x1]).length : Int)), (Pr.mk ⟨#[116, 105, 109, 101]⟩ ((((l ++ [nT x0]) ++ [nT x1]) ++ [nT x2]).length : Int)), (Pr.mk ⟨#[100, 105, 115, 116]⟩ (((((l ++ [nT x0]) ++ [nT x1]) ++ [nT x2]) ++ [nT x3]).length : Int)), (Pr.mk ⟨#[119, 97, 105, 116]⟩ ((((((l ++ [nT x0]) ++ [nT x1]) ++ [nT x2]) ++ [nT x3]) ++ [nT x4]).length : Int)), (Pr.mk ⟨#[115, 101, 114, 118, 105, 99, 101]⟩ (((((((l ++ [nT x0]) ++ [nT x1]) ++ [nT x2]) ++ [nT x3]) ++ [nT x4]) ++ [nT x5]).length : Int)), (Pr.mk ⟨#[108, 101, 102, 116]⟩ ((((((((l ++ [nT x0]) ++ [nT x1]) ++ [nT x2]) ++ [nT x3]) ++ [nT x4]) ++ [nT x5]) ++ [nT x6]).length : Int))].map Pr.name) ([(Pr.mk ⟨#[114, 111, 117, 116, 101, 115]⟩ (l.length : Int)), (Pr.mk ⟨#[118, 97, 108, 117, 101]⟩ ((l ++ [nT x0]).length : Int)), (Pr.mk ⟨#[99, 111, 115, 116]⟩ (((l ++ [nT x0]) ++ [nT x1]).length : Int)), (Pr.mk ⟨#[116, 105, 109, 101]⟩ ((((l ++ [nT x0]) ++ [nT x1]) ++ [nT x2]).length : Int)), (Pr.mk ⟨#[100, 105, 115, 116]⟩ (((((l ++ [nT x0]) ++ [nT x1]) ++ [nT x2]) ++ [nT x3]).length : Int)), (Pr.mk ⟨#[119, 97, 105, 116]⟩ ((((((l ++ [nT x0]) ++ [nT x1]) ++ [nT x2]) ++ [nT x3]) ++ [nT x4]).length : Int)), (Pr.mk ⟨#[115, 101, 114, 118, 105, 99, 101]⟩ (((((((l ++ [nT x0]) ++ [nT x1]) ++ [nT x2]) ++ [nT x3]) ++ [nT x4]) ++ [nT x5]).length : Int)), (Pr.mk ⟨#[108, 101, 102, 116]⟩ ((((((((l ++ [nT x0]) ++ [nT x1]) ++ [nT x2]) ++ [nT x3]) ++ [nT x4]) ++ [nT x5]) ++ [nT x6]).length : Int))].map Pr.pos)) nA21 nc22 kA23 kc24]), (by simp only [List.append_assoc, List.nil_append]), (by simp [vs, sumsF, numN, objN, sumNs] <;> omega), (congrArg (Value.int .i64) (by simp <;> omega)), rfl⟩)
theorem kinds_ (S : Nat → Prop) (wf : World) :
  TR0 Try.prog 66 [] [] S wf (fun v_ C_ => ∃ (A : Option Addr) (c : Nat), v_ = .slice A 6 c ∧ C_ = [rw_ eS 9 (.slice A 6 c) kindsL]) := by
 refine TR.mk Try.func66 rfl Try.ntmps66 rfl rfl (fun w_ => ?_)
 refine .seq (.region ?_)
 refine .v (ev_as rfl rfl) rfl ?_
 refine .go idQ (.seq (.region ?_))
 refine .cons (st_lit eS (e := 9) (l := [⟨#[106, 111, 98]⟩, ⟨#[112, 105, 99, 107, 117, 112]⟩, ⟨#[100, 101, 108, 105, 118, 101, 114, 121]⟩, ⟨#[98, 114, 101, 97, 107]⟩, ⟨#[115, 116, 97, 114, 116]⟩, ⟨#[101, 110, 100]⟩]) rfl rfl rfl rfl (by kernel_rfl) rfl rfl (fun w => by kernel_rfl) (fun b1 => ?_))
 refine .v (ev_as rfl rfl) rfl ?_
 refine .go idQ ?_
 exact .ret idQ (ret1 Try.results66 rfl (.c .h .n) ⟨some ⟨b1, 0, none⟩, 6, rfl, rfl⟩)
theorem mstep (g : Nat) (v : Value) (l : List TV) (k : Int) (it : Int) (pl : Int) (ar : Int) (wt : Int) (sv : Int) (lA : Option Addr) (lc : Nat) (load : List Int) (tm : Int) (ds : Int) (S : Nat → Prop) (wf : World) (hA : Fr eZ S wf lA load) (hl : l.length ≤ 1588000000000) (hk : -9223372036854775808 ≤ k ∧ k ≤ 9223372036854775807) (hm : load.length ≤ 8192) :
  TR0 Try.prog 49 [.pointer (some ⟨g, 0, none⟩), .agg #[.int .i64 k, .int .i64 it, .int .i64 pl, .int .i64 ar, .int .i64 wt, .int .i64 sv, .slice lA load.length lc, .int .i64 tm, .int .i64 ds]] [cel g [v] 65, rw_ eTV 90 (v) l] S wf (fun v_ C_ => ∃ (u : Value) (L : List TV) (M : List TV), (L = l ++ M) ∧ (vs M = stepF l.length (ST.mk k it pl ar wt sv load tm ds lA lc)) ∧ v_ = .int .i64 ((l.length : Int) + load.length + 9) ∧ C_ = [cel g [u] 65, rw_ eTV 90 (u) L, nest 9 3 M]) := by
 have hla := hA.len
 have hkl : kindsL.length = 6 := rfl
 refine TR.mk Try.func49 rfl Try.ntmps49 rfl rfl (fun w_ => ?_)
 refine .seq (.region ?_)
 refine .cons (st_boxa rfl rfl rfl rfl rfl (fun b1 => ?_))
 refine .v (ev_as rfl rfl) rfl ?_
 refine .go idQ (.seq (.region ?_))
 refine .v (ev_as rfl rfl) rfl ?_
 refine .go idQ (.seq (.seq (.region ?_)))
 refine .v (ev_fa rfl fo58_0 rfl (r := 0) rfl) rfl ?_
 refine .v (ev_fa rfl fo55_0 rfl (r := 0) rfl) rfl ?_
 refine .v (ev_ld1 rfl ty53 rfl (At.own1 0 rfl rfl)) rfl ?_
 refine .v (ev_subw (r := kz k) rfl rfl rfl rfl) rfl ?_
 refine .v (ev_as rfl rfl) rfl ?_
 refine .go idQ (.seq ?_)
 have hkz := kz_or hk
 refine .region ?_
 refine .v (ev_mv rfl rfl) rfl ?_
 refine .v (ev_cmp rfl rfl rfl rfl) rfl ?_
 refine .v (ev_mv rfl rfl) rfl ?_
 refine .w (fun _ => ev_mv rfl rfl) rfl ?_
 rcases Bool.eq_false_or_eq_true (decide ((kz k) ≥ 0)) with hb2 | hb2
 ·
  refine SP.reslot (t := 13) rfl hb2 ?_
  have hb2_ := bT bD hb2
  refine .cons (.on rfl rfl rfl (st_call0 rfl rfl rfl rfl hbd66 rfl .n (kinds_ _ _) (fun v_q5 C_q5 q5 => ?_)))
  obtain ⟨A3, c4, rfl, rfl⟩ := q5
  show SP _ _ _ _ _ _ ⟨_, _ :: _, _, _⟩
  refine .cons (.on rfl rfl rfl (Ev.step (ev_len rfl Try.underlying82 rfl) rfl rfl rfl ?_))
  refine .cons (.on rfl rfl rfl (Ev.step (ev_cmp rfl (lkg rfl hb2) rfl rfl) rfl rfl rfl ?_))
  refine .v (ev_pickt rfl rfl rfl rfl) rfl ?_
  refine .go idQ ?_
  refine .condI rfl bD (fun h6 => ?_) (fun h6 => ?_)
  ·
   refine .region ?_
   refine .cons (st_call0 rfl rfl rfl rfl hbd66 rfl .n (kinds_ _ _) (fun v_q9 C_q9 q9 => ?_))
   obtain ⟨A7, c8, rfl, rfl⟩ := q9
   show SP _ _ _ _ _ _ ⟨_, _ :: _, _, _⟩
   refine .v (ev_mv rfl rfl) rfl ?_
   refine .v (ev_ix rfl Try.underlying82 ty9 rfl rfl (by omega) (by omega) (row_adr (i := (kz k)) 0 rfl (by omega) (by omega))) rfl ?_
   refine .v (ev_ld1 rfl ty9 rfl (At.elem1 (row_el (E := eS) (l := kindsL) (i := (kz k)) 0 rfl (by omega) (by omega)) 0 rfl)) rfl ?_
   refine .v (ev_as rfl rfl) rfl ?_
   refine .go idQ (.seq ?_)
   refine SC.draw mo [cel g [v] 65, rw_ eTV 90 (v) l] [] (.c (.t (.t (.t .h))) (.c (.t (.t (.t .h))) .n)) (fun _ _ _ c hc => by cases hc) (fun wf_10 hl_10 hx_10 hR_10 => ?_)
   refine SR.k 0 rfl (by kernel_rfl) rfl (ev_mv rfl rfl) ?_
   refine SR.k 1 rfl (by kernel_rfl) rfl (ev_mv rfl rfl) ?_
   refine SR.k 2 rfl (by kernel_rfl) rfl (ev_mv rfl rfl) ?_
   refine SR.k 5 rfl (by kernel_rfl) rfl (ev_mv rfl rfl) ?_
   refine SR.k 6 rfl (by kernel_rfl) rfl (ev_fa rfl fo58_0 rfl (r := 0) rfl) ?_
   refine SR.k 7 rfl (by kernel_rfl) rfl (ev_fa rfl fo55_1 rfl (r := 1) rfl) ?_
   refine SR.k 8 rfl (by kernel_rfl) rfl (ev_ld1 rfl ty3 rfl (At.d (At.lent hR_10 2 rfl rfl))) ?_
   refine SR.k 11 rfl (by kernel_rfl) rfl (ev_mv rfl rfl) ?_
   refine SR.k 12 rfl (by kernel_rfl) rfl (ev_fa rfl fo58_1 rfl (r := 2) rfl) ?_
   refine SR.k 13 rfl (by kernel_rfl) rfl (ev_ld1 rfl ty3 rfl (At.d (At.lent hR_10 2 rfl rfl))) ?_
   refine SR.k 16 rfl (by kernel_rfl) rfl (ev_mv rfl rfl) ?_
   refine SR.k 17 rfl (by kernel_rfl) rfl (ev_fa rfl fo58_2 rfl (r := 3) rfl) ?_
   refine SR.k 18 rfl (by kernel_rfl) rfl (ev_ld1 rfl ty3 rfl (At.d (At.lent hR_10 2 rfl rfl))) ?_
   refine SR.k 21 rfl (by kernel_rfl) rfl (ev_mv rfl rfl) ?_
   refine SR.k 22 rfl (by kernel_rfl) rfl (ev_fa rfl fo58_3 rfl (r := 4) rfl) ?_
   refine SR.k 23 rfl (by kernel_rfl) rfl (ev_ld1 rfl ty3 rfl (At.d (At.lent hR_10 2 rfl rfl))) ?_
   refine SR.k 26 rfl (by kernel_rfl) rfl (ev_mv rfl rfl) ?_
   refine SR.k 27 rfl (by kernel_rfl) rfl (ev_fa rfl fo58_4 rfl (r := 5) rfl) ?_
   refine SR.k 28 rfl (by kernel_rfl) rfl (ev_ld1 rfl ty3 rfl (At.d (At.lent hR_10 2 rfl rfl))) ?_
   refine SR.k 31 rfl (by kernel_rfl) rfl (ev_mv rfl rfl) ?_
   refine SR.k 32 rfl (by kernel_rfl) rfl (ev_fa rfl fo58_5 rfl (r := 6) rfl) ?_
   refine SR.k 33 rfl (by kernel_rfl) rfl (ev_ld1 rfl ty56 rfl (At.d (At.lent hR_10 2 rfl rfl))) ?_
   refine SR.k 36 rfl (by kernel_rfl) rfl (ev_mv rfl rfl) ?_
   refine SR.k 37 rfl (by kernel_rfl) rfl (ev_fa rfl fo58_6 rfl (r := 7) rfl) ?_
   refine SR.k 38 rfl (by kernel_rfl) rfl (ev_ld1 rfl ty3 rfl (At.d (At.lent hR_10 2 rfl rfl))) ?_
   refine SR.k 41 rfl (by kernel_rfl) rfl (ev_mv rfl rfl) ?_
   refine SR.k 42 rfl (by kernel_rfl) rfl (ev_fa rfl fo58_7 rfl (r := 8) rfl) ?_
   refine SR.k 43 rfl (by kernel_rfl) rfl (ev_ld1 rfl ty3 rfl (At.d (At.lent hR_10 2 rfl rfl))) ?_
   refine SR.one (j := 3) (by kernel_rfl) rfl (st_call0 rfl rfl rfl rfl hbd22 rfl (.c .h (.c .h .n)) (mtext g v l (gt kindsL (kz k)) _ _ (by first | omega | simp only [LL] <;> omega | simp <;> omega)) (fun v_q12 C_q12 q12 => ⟨tt0, ?_⟩))
   obtain ⟨u11, rfl, rfl⟩ := q12
   show SR _ _ _ _ _ _ _ _ _ ⟨_, _ :: _ :: _, _, _⟩
   refine SR.k 4 rfl (by kernel_rfl) rfl (ev_any (v := .agg #[.string ⟨#[116, 121, 112, 101]⟩, .int .i64 (l.length : Int)]) rfl (by kernel_rfl) (fun _ => by kernel_rfl)) ?_
   refine SR.one (j := 9) (by kernel_rfl) rfl (st_call0 rfl rfl rfl rfl hbd23 rfl (.c .h (.c .h .n)) (mnum g u11 (l ++ [sT (gt kindsL (kz k))]) it _ _ (by first | omega | simp only [LL] <;> omega | simp <;> omega)) (fun v_q14 C_q14 q14 => ⟨tt0, ?_⟩))
   obtain ⟨u13, rfl, rfl⟩ := q14
   show SR _ _ _ _ _ _ _ _ _ ⟨_, _ :: _ :: _, _, _⟩
   refine SR.k 10 rfl (by kernel_rfl) rfl (ev_any (v := .agg #[.string ⟨#[105, 116, 101, 109]⟩, .int .i64 ((l ++ [sT (gt kindsL (kz k))]).length : Int)]) rfl (by kernel_rfl) (fun _ => by kernel_rfl)) ?_
   refine SR.one (j := 14) (by kernel_rfl) rfl (st_call0 rfl rfl rfl rfl hbd23 rfl (.c .h (.c .h .n)) (mnum g u13 ((l ++ [sT (gt kindsL (kz k))]) ++ [nT it]) pl _ _ (by first | omega | simp only [LL] <;> omega | simp <;> omega)) (fun v_q16 C_q16 q16 => ⟨tt0, ?_⟩))
   obtain ⟨u15, rfl, rfl⟩ := q16
   show SR _ _ _ _ _ _ _ _ _ ⟨_, _ :: _ :: _, _, _⟩
   refine SR.k 15 rfl (by kernel_rfl) rfl (ev_any (v := .agg #[.string ⟨#[112, 108, 97, 99, 101]⟩, .int .i64 (((l ++ [sT (gt kindsL (kz k))]) ++ [nT it]).length : Int)]) rfl (by kernel_rfl) (fun _ => by kernel_rfl)) ?_
   refine SR.one (j := 19) (by kernel_rfl) rfl (st_call0 rfl rfl rfl rfl hbd23 rfl (.c .h (.c .h .n)) (mnum g u15 (((l ++ [sT (gt kindsL (kz k))]) ++ [nT it]) ++ [nT pl]) ar _ _ (by first | omega | simp only [LL] <;> omega | simp <;> omega)) (fun v_q18 C_q18 q18 => ⟨tt0, ?_⟩))
   obtain ⟨u17, rfl, rfl⟩ := q18
   show SR _ _ _ _ _ _ _ _ _ ⟨_, _ :: _ :: _, _, _⟩
   refine SR.k 20 rfl (by kernel_rfl) rfl (ev_any (v := .agg #[.string ⟨#[97, 114, 114, 105, 118, 97, 108]⟩, .int .i64 ((((l ++ [sT (gt kindsL (kz k))]) ++ [nT it]) ++ [nT pl]).length : Int)]) rfl (by kernel_rfl) (fun _ => by kernel_rfl)) ?_
   refine SR.one (j := 24) (by kernel_rfl) rfl (st_call0 rfl rfl rfl rfl hbd23 rfl (.c .h (.c .h .n)) (mnum g u17 ((((l ++ [sT (gt kindsL (kz k))]) ++ [nT it]) ++ [nT pl]) ++ [nT ar]) wt _ _ (by first | omega | simp only [LL] <;> omega | simp <;> omega)) (fun v_q20 C_q20 q20 => ⟨tt0, ?_⟩))
   obtain ⟨u19, rfl, rfl⟩ := q20
   show SR _ _ _ _ _ _ _ _ _ ⟨_, _ :: _ :: _, _, _⟩
   refine SR.k 25 rfl (by kernel_rfl) rfl (ev_any (v := .agg #[.string ⟨#[119, 97, 105, 116]⟩, .int .i64 (((((l ++ [sT (gt kindsL (kz k))]) ++ [nT it]) ++ [nT pl]) ++ [nT ar]).length : Int)]) rfl (by kernel_rfl) (fun _ => by kernel_rfl)) ?_
   refine SR.one (j := 29) (by kernel_rfl) rfl (st_call0 rfl rfl rfl rfl hbd23 rfl (.c .h (.c .h .n)) (mnum g u19 (((((l ++ [sT (gt kindsL (kz k))]) ++ [nT it]) ++ [nT pl]) ++ [nT ar]) ++ [nT wt]) sv _ _ (by first | omega | simp only [LL] <;> omega | simp <;> omega)) (fun v_q22 C_q22 q22 => ⟨tt0, ?_⟩))
   obtain ⟨u21, rfl, rfl⟩ := q22
   show SR _ _ _ _ _ _ _ _ _ ⟨_, _ :: _ :: _, _, _⟩
   refine SR.k 30 rfl (by kernel_rfl) rfl (ev_any (v := .agg #[.string ⟨#[115, 101, 114, 118, 105, 99, 101]⟩, .int .i64 ((((((l ++ [sT (gt kindsL (kz k))]) ++ [nT it]) ++ [nT pl]) ++ [nT ar]) ++ [nT wt]).length : Int)]) rfl (by kernel_rfl) (fun _ => by kernel_rfl)) ?_
   refine SR.one (j := 34) (by kernel_rfl) rfl (st_call0 rfl rfl rfl rfl hbd67 rfl (.c .h (.c .h .n)) (mnums g u21 ((((((l ++ [sT (gt kindsL (kz k))]) ++ [nT it]) ++ [nT pl]) ++ [nT ar]) ++ [nT wt]) ++ [nT sv]) lA load.length lc load _ _ (Fr.ext hA hx_10) (by first | omega | simp only [LL] <;> omega | simp <;> omega) (by first | omega | simp only [LL] <;> omega | simp <;> omega) (by first | omega | simp only [LL] <;> omega | simp <;> omega)) (fun v_q26 C_q26 q26 => ⟨tt0, ?_⟩))
   obtain ⟨u23, L24, M25, p27, p28, rfl, rfl⟩ := q26
   show SR _ _ _ _ _ _ _ _ _ ⟨_, _ :: _ :: _ :: _, _, _⟩
   subst p27
   have hM29 : M25.length = load.length + 1 := (vs_len M25).symm.trans ((congrArg List.length p28).trans (numsF_len _ _))
   refine SR.k 35 rfl (by kernel_rfl) rfl (ev_any (v := .agg #[.string ⟨#[108, 111, 97, 100]⟩, .int .i64 ((((((((l ++ [sT (gt kindsL (kz k))]) ++ [nT it]) ++ [nT pl]) ++ [nT ar]) ++ [nT wt]) ++ [nT sv]).length : Int) + load.length)]) rfl (by kernel_rfl) (fun _ => by kernel_rfl)) ?_
   refine SR.one (j := 39) (by kernel_rfl) rfl (st_call0 rfl rfl rfl rfl hbd23 rfl (.c .h (.c .h .n)) (mnum g u23 (((((((l ++ [sT (gt kindsL (kz k))]) ++ [nT it]) ++ [nT pl]) ++ [nT ar]) ++ [nT wt]) ++ [nT sv]) ++ M25) tm _ _ (by first | omega | simp only [LL] <;> omega | simp <;> omega)) (fun v_q31 C_q31 q31 => ⟨tt0, ?_⟩))
   obtain ⟨u30, rfl, rfl⟩ := q31
   show SR _ _ _ _ _ _ _ _ _ ⟨_, _ :: _ :: _, _, _⟩
   refine SR.k 40 rfl (by kernel_rfl) rfl (ev_any (v := .agg #[.string ⟨#[116, 105, 109, 101]⟩, .int .i64 ((((((((l ++ [sT (gt kindsL (kz k))]) ++ [nT it]) ++ [nT pl]) ++ [nT ar]) ++ [nT wt]) ++ [nT sv]) ++ M25).length : Int)]) rfl (by kernel_rfl) (fun _ => by kernel_rfl)) ?_
   refine SR.one (j := 44) (by kernel_rfl) rfl (st_call0 rfl rfl rfl rfl hbd23 rfl (.c .h (.c .h .n)) (mnum g u30 ((((((((l ++ [sT (gt kindsL (kz k))]) ++ [nT it]) ++ [nT pl]) ++ [nT ar]) ++ [nT wt]) ++ [nT sv]) ++ M25) ++ [nT tm]) ds _ _ (by first | omega | simp only [LL] <;> omega | simp <;> omega)) (fun v_q33 C_q33 q33 => ⟨tt0, ?_⟩))
   obtain ⟨u32, rfl, rfl⟩ := q33
   show SR _ _ _ _ _ _ _ _ _ ⟨_, _ :: _ :: _, _, _⟩
   refine SR.k 45 rfl (by kernel_rfl) rfl (ev_any (v := .agg #[.string ⟨#[100, 105, 115, 116]⟩, .int .i64 (((((((((l ++ [sT (gt kindsL (kz k))]) ++ [nT it]) ++ [nT pl]) ++ [nT ar]) ++ [nT wt]) ++ [nT sv]) ++ M25) ++ [nT tm]).length : Int)]) rfl (by kernel_rfl) (fun _ => by kernel_rfl)) ?_
   refine SR.one (j := 46) (by kernel_rfl) rfl (st_lit ePr (e := 69) (l := [(Pr.mk ⟨#[116, 121, 112, 101]⟩ (l.length : Int)), (Pr.mk ⟨#[105, 116, 101, 109]⟩ ((l ++ [sT (gt kindsL (kz k))]).length : Int)), (Pr.mk ⟨#[112, 108, 97, 99, 101]⟩ (((l ++ [sT (gt kindsL (kz k))]) ++ [nT it]).length : Int)), (Pr.mk ⟨#[97, 114, 114, 105, 118, 97, 108]⟩ ((((l ++ [sT (gt kindsL (kz k))]) ++ [nT it]) ++ [nT pl]).length : Int)), (Pr.mk ⟨#[119, 97, 105, 116]⟩ (((((l ++ [sT (gt kindsL (kz k))]) ++ [nT it]) ++ [nT pl]) ++ [nT ar]).length : Int)), (Pr.mk ⟨#[115, 101, 114, 118, 105, 99, 101]⟩ ((((((l ++ [sT (gt kindsL (kz k))]) ++ [nT it]) ++ [nT pl]) ++ [nT ar]) ++ [nT wt]).length : Int)), (Pr.mk ⟨#[108, 111, 97, 100]⟩ ((((((((l ++ [sT (gt kindsL (kz k))]) ++ [nT it]) ++ [nT pl]) ++ [nT ar]) ++ [nT wt]) ++ [nT sv]).length : Int) + load.length)), (Pr.mk ⟨#[116, 105, 109, 101]⟩ ((((((((l ++ [sT (gt kindsL (kz k))]) ++ [nT it]) ++ [nT pl]) ++ [nT ar]) ++ [nT wt]) ++ [nT sv]) ++ M25).length : Int)), (Pr.mk ⟨#[100, 105, 115, 116]⟩ (((((((((l ++ [sT (gt kindsL (kz k))]) ++ [nT it]) ++ [nT pl]) ++ [nT ar]) ++ [nT wt]) ++ [nT sv]) ++ M25) ++ [nT tm]).length : Int))]) rfl rfl rfl rfl (by kernel_rfl) rfl rfl (fun w => by kernel_rfl) (fun b34 => ⟨tt0, ?_⟩))
   refine SR.one (j := 47) (by kernel_rfl) rfl (st_lend0 rfl rfl rfl rfl hbd21 rfl (.c (.t .h) (.c (.t .h) .n)) (.c .h .n) (fun w_ hw => mobject g u32 (((((((((l ++ [sT (gt kindsL (kz k))]) ++ [nT it]) ++ [nT pl]) ++ [nT ar]) ++ [nT wt]) ++ [nT sv]) ++ M25) ++ [nT tm]) ++ [nT ds]) (some ⟨b34, 0, none⟩) 9 9 [(Pr.mk ⟨#[116, 121, 112, 101]⟩ (l.length : Int)), (Pr.mk ⟨#[105, 116, 101, 109]⟩ ((l ++ [sT (gt kindsL (kz k))]).length : Int)), (Pr.mk ⟨#[112, 108, 97, 99, 101]⟩ (((l ++ [sT (gt kindsL (kz k))]) ++ [nT it]).length : Int)), (Pr.mk ⟨#[97, 114, 114, 105, 118, 97, 108]⟩ ((((l ++ [sT (gt kindsL (kz k))]) ++ [nT it]) ++ [nT pl]).length : Int)), (Pr.mk ⟨#[119, 97, 105, 116]⟩ (((((l ++ [sT (gt kindsL (kz k))]) ++ [nT it]) ++ [nT pl]) ++ [nT ar]).length : Int)), (Pr.mk ⟨#[115, 101, 114, 118, 105, 99, 101]⟩ ((((((l ++ [sT (gt kindsL (kz k))]) ++ [nT it]) ++ [nT pl]) ++ [nT ar]) ++ [nT wt]).length : Int)), (Pr.mk ⟨#[108, 111, 97, 100]⟩ ((((((((l ++ [sT (gt kindsL (kz k))]) ++ [nT it]) ++ [nT pl]) ++ [nT ar]) ++ [nT wt]) ++ [nT sv]).length : Int) + load.length)), (Pr.mk ⟨#[116, 105, 109, 101]⟩ ((((((((l ++ [sT (gt kindsL (kz k))]) ++ [nT it]) ++ [nT pl]) ++ [nT ar]) ++ [nT wt]) ++ [nT sv]) ++ M25).length : Int)), (Pr.mk ⟨#[100, 105, 115, 116]⟩ (((((((((l ++ [sT (gt kindsL (kz k))]) ++ [nT it]) ++ [nT pl]) ++ [nT ar]) ++ [nT wt]) ++ [nT sv]) ++ M25) ++ [nT tm]).length : Int))] _ _ (Fr.lend hw 0 rfl (by first | omega | simp only [LL] <;> omega | simp <;> omega)) (by first | omega | simp only [LL] <;> omega | simp <;> omega) (by first | omega | simp only [LL] <;> omega | simp <;> omega) (by first | omega | simp only [LL] <;> omega | simp <;> omega)) (fun v_q40 C_q40 q40 => ⟨tt0, ?_⟩))
   obtain ⟨u35, nA36, nc37, kA38, kc39, rfl, rfl⟩ := q40
   show SR _ _ _ _ _ _ _ _ _ ⟨_, _ :: _ :: _ :: _ :: _ :: _, _, _⟩
   refine SR.k 48 rfl (by kernel_rfl) rfl (ev_as rfl rfl) ?_
   refine SR.fin (by kernel_rfl) hl_10 hx_10 hR_10 (.c (.c (.c (.c (.c (.c .n)))))) ?_
   refine SQ.go idQ ?_
   refine SC.nest0 9 3 ?_
   refine SC.packl (TN.mk 4 false 0 (gt kindsL (kz k)) [] []) .h rfl rfl ?_
   refine SC.packl (TN.mk 3 false it ⟨#[]⟩ [] []) .h rfl rfl ?_
   refine SC.packl (TN.mk 3 false pl ⟨#[]⟩ [] []) .h rfl rfl ?_
   refine SC.packl (TN.mk 3 false ar ⟨#[]⟩ [] []) .h rfl rfl ?_
   refine SC.packl (TN.mk 3 false wt ⟨#[]⟩ [] []) .h rfl rfl ?_
   refine SC.packl (TN.mk 3 false sv ⟨#[]⟩ [] []) .h rfl rfl ?_
   refine SC.nestapp (.c .h (.c (.t (.t (.t (.t (.t .h))))) .n)) ?_
   refine SC.packl (TN.mk 3 false tm ⟨#[]⟩ [] []) .h rfl rfl ?_
   refine SC.packl (TN.mk 3 false ds ⟨#[]⟩ [] []) .h rfl rfl ?_
   refine SC.pack (TV.mk (TN.mk 6 false 0 ⟨#[]⟩ ([(Pr.mk ⟨#[116, 121, 112, 101]⟩ (l.length : Int)), (Pr.mk ⟨#[105, 116, 101, 109]⟩ ((l ++ [sT (gt kindsL (kz k))]).length : Int)), (Pr.mk ⟨#[112, 108, 97, 99, 101]⟩ (((l ++ [sT (gt kindsL (kz k))]) ++ [nT it]).length : Int)), (Pr.mk ⟨#[97, 114, 114, 105, 118, 97, 108]⟩ ((((l ++ [sT (gt kindsL (kz k))]) ++ [nT it]) ++ [nT pl]).length : Int)), (Pr.mk ⟨#[119, 97, 105, 116]⟩ (((((l ++ [sT (gt kindsL (kz k))]) ++ [nT it]) ++ [nT pl]) ++ [nT ar]).length : Int)), (Pr.mk ⟨#[115, 101, 114, 118, 105, 99, 101]⟩ ((((((l ++ [sT (gt kindsL (kz k))]) ++ [nT it]) ++ [nT pl]) ++ [nT ar]) ++ [nT wt]).length : Int)), (Pr.mk ⟨#[108, 111, 97, 100]⟩ ((((((((l ++ [sT (gt kindsL (kz k))]) ++ [nT it]) ++ [nT pl]) ++ [nT ar]) ++ [nT wt]) ++ [nT sv]).length : Int) + load.length)), (Pr.mk ⟨#[116, 105, 109, 101]⟩ ((((((((l ++ [sT (gt kindsL (kz k))]) ++ [nT it]) ++ [nT pl]) ++ [nT ar]) ++ [nT wt]) ++ [nT sv]) ++ M25).length : Int)), (Pr.mk ⟨#[100, 105, 115, 116]⟩ (((((((((l ++ [sT (gt kindsL (kz k))]) ++ [nT it]) ++ [nT pl]) ++ [nT ar]) ++ [nT wt]) ++ [nT sv]) ++ M25) ++ [nT tm]).length : Int))].map Pr.name) ([(Pr.mk ⟨#[116, 121, 112, 101]⟩ (l.length : Int)), (Pr.mk ⟨#[105, 116, 101, 109]⟩ ((l ++ [sT (gt kindsL (kz k))]).length : Int)), (Pr.mk ⟨#[112, 108, 97, 99, 101]⟩ (((l ++ [sT (gt kindsL (kz k))]) ++ [nT it]).length : Int)), (Pr.mk ⟨#[97, 114, 114, 105, 118, 97, 108]⟩ ((((l ++ [sT (gt kindsL (kz k))]) ++ [nT it]) ++ [nT pl]).length : Int)), (Pr.mk ⟨#[119, 97, 105, 116]⟩ (((((l ++ [sT (gt kindsL (kz k))]) ++ [nT it]) ++ [nT pl]) ++ [nT ar]).length : Int)), (Pr.mk ⟨#[115, 101, 114, 118, 105, 99, 101]⟩ ((((((l ++ [sT (gt kindsL (kz k))]) ++ [nT it]) ++ [nT pl]) ++ [nT ar]) ++ [nT wt]).length : Int)), (Pr.mk ⟨#[108, 111, 97, 100]⟩ ((((((((l ++ [sT (gt kindsL (kz k))]) ++ [nT it]) ++ [nT pl]) ++ [nT ar]) ++ [nT wt]) ++ [nT sv]).length : Int) + load.length)), (Pr.mk ⟨#[116, 105, 109, 101]⟩ ((((((((l ++ [sT (gt kindsL (kz k))]) ++ [nT it]) ++ [nT pl]) ++ [nT ar]) ++ [nT wt]) ++ [nT sv]) ++ M25).length : Int)), (Pr.mk ⟨#[100, 105, 115, 116]⟩ (((((((((l ++ [sT (gt kindsL (kz k))]) ++ [nT it]) ++ [nT pl]) ++ [nT ar]) ++ [nT wt]) ++ [nT sv]) ++ M25) ++ [nT tm]).length : Int))].map Pr.pos)) nA36 nc37 kA38 kc39) (.c .h (.c (.t (.t .h)) (.c (.t (.t .h)) .n))) (by first | omega | (simp; done) | (simp; omega)) (by first | omega | (simp; done) | (simp; omega)) ?_
   exact .ret idQ (ret1 Try.results49 rfl (.c (.t .h) (.c (.t .h) (.c .h .n))) ⟨u35, ((((((((((l ++ [sT (gt kindsL (kz k))]) ++ [nT it]) ++ [nT pl]) ++ [nT ar]) ++ [nT wt]) ++ [nT sv]) ++ M25) ++ [nT tm]) ++ [nT ds]) ++ [TV.mk (TN.mk 6 false 0 ⟨#[]⟩ ([(Pr.mk ⟨#[116, 121, 112, 101]⟩ (l.length : Int)), (Pr.mk ⟨#[105, 116, 101, 109]⟩ ((l ++ [sT (gt kindsL (kz k))]).length : Int)), (Pr.mk ⟨#[112, 108, 97, 99, 101]⟩ (((l ++ [sT (gt kindsL (kz k))]) ++ [nT it]).length : Int)), (Pr.mk ⟨#[97, 114, 114, 105, 118, 97, 108]⟩ ((((l ++ [sT (gt kindsL (kz k))]) ++ [nT it]) ++ [nT pl]).length : Int)), (Pr.mk ⟨#[119, 97, 105, 116]⟩ (((((l ++ [sT (gt kindsL (kz k))]) ++ [nT it]) ++ [nT pl]) ++ [nT ar]).length : Int)), (Pr.mk ⟨#[115, 101, 114, 118, 105, 99, 101]⟩ ((((((l ++ [sT (gt kindsL (kz k))]) ++ [nT it]) ++ [nT pl]) ++ [nT ar]) ++ [nT wt]).length : Int)), (Pr.mk ⟨#[108, 111, 97, 100]⟩ ((((((((l ++ [sT (gt kindsL (kz k))]) ++ [nT it]) ++ [nT pl]) ++ [nT ar]) ++ [nT wt]) ++ [nT sv]).length : Int) + load.length)), (Pr.mk ⟨#[116, 105, 109, 101]⟩ ((((((((l ++ [sT (gt kindsL (kz k))]) ++ [nT it]) ++ [nT pl]) ++ [nT ar]) ++ [nT wt]) ++ [nT sv]) ++ M25).length : Int)), (Pr.mk ⟨#[100, 105, 115, 116]⟩ (((((((((l ++ [sT (gt kindsL (kz k))]) ++ [nT it]) ++ [nT pl]) ++ [nT ar]) ++ [nT wt]) ++ [nT sv]) ++ M25) ++ [nT tm]).length : Int))].map Pr.name) ([(Pr.mk ⟨#[116, 121, 112, 101]⟩ (l.length : Int)), (Pr.mk ⟨#[105, 116, 101, 109]⟩ ((l ++ [sT (gt kindsL (kz k))]).length : Int)), (Pr.mk ⟨#[112, 108, 97, 99, 101]⟩ (((l ++ [sT (gt kindsL (kz k))]) ++ [nT it]).length : Int)), (Pr.mk ⟨#[97, 114, 114, 105, 118, 97, 108]⟩ ((((l ++ [sT (gt kindsL (kz k))]) ++ [nT it]) ++ [nT pl]).length : Int)), (Pr.mk ⟨#[119, 97, 105, 116]⟩ (((((l ++ [sT (gt kindsL (kz k))]) ++ [nT it]) ++ [nT pl]) ++ [nT ar]).length : Int)), (Pr.mk ⟨#[115, 101, 114, 118, 105, 99, 101]⟩ ((((((l ++ [sT (gt kindsL (kz k))]) ++ [nT it]) ++ [nT pl]) ++ [nT ar]) ++ [nT wt]).length : Int)), (Pr.mk ⟨#[108, 111, 97, 100]⟩ ((((((((l ++ [sT (gt kindsL (kz k))]) ++ [nT it]) ++ [nT pl]) ++ [nT ar]) ++ [nT wt]) ++ [nT sv]).length : Int) + load.length)), (Pr.mk ⟨#[116, 105, 109, 101]⟩ ((((((((l ++ [sT (gt kindsL (kz k))]) ++ [nT it]) ++ [nT pl]) ++ [nT ar]) ++ [nT wt]) ++ [nT sv]) ++ M25).length : Int)), (Pr.mk ⟨#[100, 105, 115, 116]⟩ (((((((((l ++ [sT (gt kindsL (kz k))]) ++ [nT it]) ++ [nT pl]) ++ [nT ar]) ++ [nT wt]) ++ [nT sv]) ++ M25) ++ [nT tm]).length : Int))].map Pr.pos)) nA36 nc37 kA38 kc39]), ((((((((((([] : List TV) ++ [sT (gt kindsL (kz k))]) ++ [nT it]) ++ [nT pl]) ++ [nT ar]) ++ [nT wt]) ++ [nT sv]) ++ M25) ++ [nT tm]) ++ [nT ds]) ++ [TV.mk (TN.mk 6 false 0 ⟨#[]⟩ ([(Pr.mk ⟨#[116, 121, 112, 101]⟩ (l.length : Int)), (Pr.mk ⟨#[105, 116, 101, 109]⟩ ((l ++ [sT (gt kindsL (kz k))]).length : Int)), (Pr.mk ⟨#[112, 108, 97, 99, 101]⟩ (((l ++ [sT (gt kindsL (kz k))]) ++ [nT it]).length : Int)), (Pr.mk ⟨#[97, 114, 114, 105, 118, 97, 108]⟩ ((((l ++ [sT (gt kindsL (kz k))]) ++ [nT it]) ++ [nT pl]).length : Int)), (Pr.mk ⟨#[119, 97, 105, 116]⟩ (((((l ++ [sT (gt kindsL (kz k))]) ++ [nT it]) ++ [nT pl]) ++ [nT ar]).length : Int)), (Pr.mk ⟨#[115, 101, 114, 118, 105, 99, 101]⟩ ((((((l ++ [sT (gt kindsL (kz k))]) ++ [nT it]) ++ [nT pl]) ++ [nT ar]) ++ [nT wt]).length : Int)), (Pr.mk ⟨#[108, 111, 97, 100]⟩ ((((((((l ++ [sT (gt kindsL (kz k))]) ++ [nT it]) ++ [nT pl]) ++ [nT ar]) ++ [nT wt]) ++ [nT sv]).length : Int) + load.length)), (Pr.mk ⟨#[116, 105, 109, 101]⟩ ((((((((l ++ [sT (gt kindsL (kz k))]) ++ [nT it]) ++ [nT pl]) ++ [nT ar]) ++ [nT wt]) ++ [nT sv]) ++ M25).length : Int)), (Pr.mk ⟨#[100, 105, 115, 116]⟩ (((((((((l ++ [sT (gt kindsL (kz k))]) ++ [nT it]) ++ [nT pl]) ++ [nT ar]) ++ [nT wt]) ++ [nT sv]) ++ M25) ++ [nT tm]).length : Int))].map Pr.name) ([(Pr.mk ⟨#[116, 121, 112, 101]⟩ (l.length : Int)), (Pr.mk ⟨#[105, 116, 101, 109]⟩ ((l ++ [sT (gt kindsL (kz k))]).length : Int)), (Pr.mk ⟨#[112, 108, 97, 99, 101]⟩ (((l ++ [sT (gt kindsL (kz k))]) ++ [nT it]).length : Int)), (Pr.mk ⟨#[97, 114, 114, 105, 118, 97, 108]⟩ ((((l ++ [sT (gt kindsL (kz k))]) ++ [nT it]) ++ [nT pl]).length : Int)), (Pr.mk ⟨#[119, 97, 105, 116]⟩ (((((l ++ [sT (gt kindsL (kz k))]) ++ [nT it]) ++ [nT pl]) ++ [nT ar]).length : Int)), (Pr.mk ⟨#[115, 101, 114, 118, 105, 99, 101]⟩ ((((((l ++ [sT (gt kindsL (kz k))]) ++ [nT it]) ++ [nT pl]) ++ [nT ar]) ++ [nT wt]).length : Int)), (Pr.mk ⟨#[108, 111, 97, 100]⟩ ((((((((l ++ [sT (gt kindsL (kz k))]) ++ [nT it]) ++ [nT pl]) ++ [nT ar]) ++ [nT wt]) ++ [nT sv]).length : Int) + load.length)), (Pr.mk ⟨#[116, 105, 109, 101]⟩ ((((((((l ++ [sT (gt kindsL (kz k))]) ++ [nT it]) ++ [nT pl]) ++ [nT ar]) ++ [nT wt]) ++ [nT sv]) ++ M25).length : Int)), (Pr.mk ⟨#[100, 105, 115, 116]⟩ (((((((((l ++ [sT (gt kindsL (kz k))]) ++ [nT it]) ++ [nT pl]) ++ [nT ar]) ++ [nT wt]) ++ [nT sv]) ++ M25) ++ [nT tm]).length : Int))].map Pr.pos)) nA36 nc37 kA38 kc39]), (by simp only [List.append_assoc, List.nil_append]), (step_lay (ST.mk k it pl ar wt sv load tm ds lA lc) p28 (by simp <;> omega) (by show _ = wordK k; unfold wordK; first | (rw [if_pos (by omega), show kz k = k - 1 by omega]) | rw [if_pos (by omega)] | rw [if_neg (by omega)]) rfl (by simp only [List.map_cons, List.map_nil, List.length_append, List.length_cons, List.length_nil, List.cons.injEq, and_true, true_and]; and_intros <;> omega)), (congrArg (Value.int .i64) (by simp <;> omega)), rfl⟩)
  refine .skipgo idQ (.seq ?_)
  refine SC.draw mo [cel g [v] 65, rw_ eTV 90 (v) l] [] (.c (.t (.t .h)) (.c (.t (.t .h)) .n)) (fun _ _ _ c hc => by cases hc) (fun wf_41 hl_41 hx_41 hR_41 => ?_)
  refine SR.k 0 rfl (by kernel_rfl) rfl (ev_mv rfl rfl) ?_
  refine SR.k 1 rfl (by kernel_rfl) rfl (ev_mv rfl rfl) ?_
  refine SR.k 2 rfl (by kernel_rfl) rfl (ev_mv rfl rfl) ?_
  refine SR.k 5 rfl (by kernel_rfl) rfl (ev_mv rfl rfl) ?_
  refine SR.k 6 rfl (by kernel_rfl) rfl (ev_fa rfl fo58_0 rfl (r := 0) rfl) ?_
  refine SR.k 7 rfl (by kernel_rfl) rfl (ev_fa rfl fo55_1 rfl (r := 1) rfl) ?_
  refine SR.k 8 rfl (by kernel_rfl) rfl (ev_ld1 rfl ty3 rfl (At.d (At.lent hR_41 1 rfl rfl))) ?_
  refine SR.k 11 rfl (by kernel_rfl) rfl (ev_mv rfl rfl) ?_
  refine SR.k 12 rfl (by kernel_rfl) rfl (ev_fa rfl fo58_1 rfl (r := 2) rfl) ?_
  refine SR.k 13 rfl (by kernel_rfl) rfl (ev_ld1 rfl ty3 rfl (At.d (At.lent hR_41 1 rfl rfl))) ?_
  refine SR.k 16 rfl (by kernel_rfl) rfl (ev_mv rfl rfl) ?_
  refine SR.k 17 rfl (by kernel_rfl) rfl (ev_fa rfl fo58_2 rfl (r := 3) rfl) ?_
  refine SR.k 18 rfl (by kernel_rfl) rfl (ev_ld1 rfl ty3 rfl (At.d (At.lent hR_41 1 rfl rfl))) ?_
  refine SR.k 21 rfl (by kernel_rfl) rfl (ev_mv rfl rfl) ?_
  refine SR.k 22 rfl (by kernel_rfl) rfl (ev_fa rfl fo58_3 rfl (r := 4) rfl) ?_
  refine SR.k 23 rfl (by kernel_rfl) rfl (ev_ld1 rfl ty3 rfl (At.d (At.lent hR_41 1 rfl rfl))) ?_
  refine SR.k 26 rfl (by kernel_rfl) rfl (ev_mv rfl rfl) ?_
  refine SR.k 27 rfl (by kernel_rfl) rfl (ev_fa rfl fo58_4 rfl (r := 5) rfl) ?_
  refine SR.k 28 rfl (by kernel_rfl) rfl (ev_ld1 rfl ty3 rfl (At.d (At.lent hR_41 1 rfl rfl))) ?_
  refine SR.k 31 rfl (by kernel_rfl) rfl (ev_mv rfl rfl) ?_
  refine SR.k 32 rfl (by kernel_rfl) rfl (ev_fa rfl fo58_5 rfl (r := 6) rfl) ?_
  refine SR.k 33 rfl (by kernel_rfl) rfl (ev_ld1 rfl ty56 rfl (At.d (At.lent hR_41 1 rfl rfl))) ?_
  refine SR.k 36 rfl (by kernel_rfl) rfl (ev_mv rfl rfl) ?_
  refine SR.k 37 rfl (by kernel_rfl) rfl (ev_fa rfl fo58_6 rfl (r := 7) rfl) ?_
  refine SR.k 38 rfl (by kernel_rfl) rfl (ev_ld1 rfl ty3 rfl (At.d (At.lent hR_41 1 rfl rfl))) ?_
  refine SR.k 41 rfl (by kernel_rfl) rfl (ev_mv rfl rfl) ?_
  refine SR.k 42 rfl (by kernel_rfl) rfl (ev_fa rfl fo58_7 rfl (r := 8) rfl) ?_
  refine SR.k 43 rfl (by kernel_rfl) rfl (ev_ld1 rfl ty3 rfl (At.d (At.lent hR_41 1 rfl rfl))) ?_
  refine SR.one (j := 3) (by kernel_rfl) rfl (st_call0 rfl rfl rfl rfl hbd22 rfl (.c .h (.c .h .n)) (mtext g v l ⟨#[63]⟩ _ _ (by first | omega | simp only [LL] <;> omega | simp <;> omega)) (fun v_q43 C_q43 q43 => ⟨tt0, ?_⟩))
  obtain ⟨u42, rfl, rfl⟩ := q43
  show SR _ _ _ _ _ _ _ _ _ ⟨_, _ :: _ :: _, _, _⟩
  refine SR.k 4 rfl (by kernel_rfl) rfl (ev_any (v := .agg #[.string ⟨#[116, 121, 112, 101]⟩, .int .i64 (l.length : Int)]) rfl (by kernel_rfl) (fun _ => by kernel_rfl)) ?_
  refine SR.one (j := 9) (by kernel_rfl) rfl (st_call0 rfl rfl rfl rfl hbd23 rfl (.c .h (.c .h .n)) (mnum g u42 (l ++ [sT ⟨#[63]⟩]) it _ _ (by first | omega | simp only [LL] <;> omega | simp <;> omega)) (fun v_q45 C_q45 q45 => ⟨tt0, ?_⟩))
  obtain ⟨u44, rfl, rfl⟩ := q45
  show SR _ _ _ _ _ _ _ _ _ ⟨_, _ :: _ :: _, _, _⟩
  refine SR.k 10 rfl (by kernel_rfl) rfl (ev_any (v := .agg #[.string ⟨#[105, 116, 101, 109]⟩, .int .i64 ((l ++ [sT ⟨#[63]⟩]).length : Int)]) rfl (by kernel_rfl) (fun _ => by kernel_rfl)) ?_
  refine SR.one (j := 14) (by kernel_rfl) rfl (st_call0 rfl rfl rfl rfl hbd23 rfl (.c .h (.c .h .n)) (mnum g u44 ((l ++ [sT ⟨#[63]⟩]) ++ [nT it]) pl _ _ (by first | omega | simp only [LL] <;> omega | simp <;> omega)) (fun v_q47 C_q47 q47 => ⟨tt0, ?_⟩))
  obtain ⟨u46, rfl, rfl⟩ := q47
  show SR _ _ _ _ _ _ _ _ _ ⟨_, _ :: _ :: _, _, _⟩
  refine SR.k 15 rfl (by kernel_rfl) rfl (ev_any (v := .agg #[.string ⟨#[112, 108, 97, 99, 101]⟩, .int .i64 (((l ++ [sT ⟨#[63]⟩]) ++ [nT it]).length : Int)]) rfl (by kernel_rfl) (fun _ => by kernel_rfl)) ?_
  refine SR.one (j := 19) (by kernel_rfl) rfl (st_call0 rfl rfl rfl rfl hbd23 rfl (.c .h (.c .h .n)) (mnum g u46 (((l ++ [sT ⟨#[63]⟩]) ++ [nT it]) ++ [nT pl]) ar _ _ (by first | omega | simp only [LL] <;> omega | simp <;> omega)) (fun v_q49 C_q49 q49 => ⟨tt0, ?_⟩))
  obtain ⟨u48, rfl, rfl⟩ := q49
  show SR _ _ _ _ _ _ _ _ _ ⟨_, _ :: _ :: _, _, _⟩
  refine SR.k 20 rfl (by kernel_rfl) rfl (ev_any (v := .agg #[.string ⟨#[97, 114, 114, 105, 118, 97, 108]⟩, .int .i64 ((((l ++ [sT ⟨#[63]⟩]) ++ [nT it]) ++ [nT pl]).length : Int)]) rfl (by kernel_rfl) (fun _ => by kernel_rfl)) ?_
  refine SR.one (j := 24) (by kernel_rfl) rfl (st_call0 rfl rfl rfl rfl hbd23 rfl (.c .h (.c .h .n)) (mnum g u48 ((((l ++ [sT ⟨#[63]⟩]) ++ [nT it]) ++ [nT pl]) ++ [nT ar]) wt _ _ (by first | omega | simp only [LL] <;> omega | simp <;> omega)) (fun v_q51 C_q51 q51 => ⟨tt0, ?_⟩))
  obtain ⟨u50, rfl, rfl⟩ := q51
  show SR _ _ _ _ _ _ _ _ _ ⟨_, _ :: _ :: _, _, _⟩
  refine SR.k 25 rfl (by kernel_rfl) rfl (ev_any (v := .agg #[.string ⟨#[119, 97, 105, 116]⟩, .int .i64 (((((l ++ [sT ⟨#[63]⟩]) ++ [nT it]) ++ [nT pl]) ++ [nT ar]).length : Int)]) rfl (by kernel_rfl) (fun _ => by kernel_rfl)) ?_
  refine SR.one (j := 29) (by kernel_rfl) rfl (st_call0 rfl rfl rfl rfl hbd23 rfl (.c .h (.c .h .n)) (mnum g u50 (((((l ++ [sT ⟨#[63]⟩]) ++ [nT it]) ++ [nT pl]) ++ [nT ar]) ++ [nT wt]) sv _ _ (by first | omega | simp only [LL] <;> omega | simp <;> omega)) (fun v_q53 C_q53 q53 => ⟨tt0, ?_⟩))
  obtain ⟨u52, rfl, rfl⟩ := q53
  show SR _ _ _ _ _ _ _ _ _ ⟨_, _ :: _ :: _, _, _⟩
  refine SR.k 30 rfl (by kernel_rfl) rfl (ev_any (v := .agg #[.string ⟨#[115, 101, 114, 118, 105, 99, 101]⟩, .int .i64 ((((((l ++ [sT ⟨#[63]⟩]) ++ [nT it]) ++ [nT pl]) ++ [nT ar]) ++ [nT wt]).length : Int)]) rfl (by kernel_rfl) (fun _ => by kernel_rfl)) ?_
  refine SR.one (j := 34) (by kernel_rfl) rfl (st_call0 rfl rfl rfl rfl hbd67 rfl (.c .h (.c .h .n)) (mnums g u52 ((((((l ++ [sT ⟨#[63]⟩]) ++ [nT it]) ++ [nT pl]) ++ [nT ar]) ++ [nT wt]) ++ [nT sv]) lA load.length lc load _ _ (Fr.ext hA hx_41) (by first | omega | simp only [LL] <;> omega | simp <;> omega) (by first | omega | simp only [LL] <;> omega | simp <;> omega) (by first | omega | simp only [LL] <;> omega | simp <;> omega)) (fun v_q57 C_q57 q57 => ⟨tt0, ?_⟩))
  obtain ⟨u54, L55, M56, p58, p59, rfl, rfl⟩ := q57
  show SR _ _ _ _ _ _ _ _ _ ⟨_, _ :: _ :: _ :: _, _, _⟩
  subst p58
  have hM60 : M56.length = load.length + 1 := (vs_len M56).symm.trans ((congrArg List.length p59).trans (numsF_len _ _))
  refine SR.k 35 rfl (by kernel_rfl) rfl (ev_any (v := .agg #[.string ⟨#[108, 111, 97, 100]⟩, .int .i64 ((((((((l ++ [sT ⟨#[63]⟩]) ++ [nT it]) ++ [nT pl]) ++ [nT ar]) ++ [nT wt]) ++ [nT sv]).length : Int) + load.length)]) rfl (by kernel_rfl) (fun _ => by kernel_rfl)) ?_
  refine SR.one (j := 39) (by kernel_rfl) rfl (st_call0 rfl rfl rfl rfl hbd23 rfl (.c .h (.c .h .n)) (mnum g u54 (((((((l ++ [sT ⟨#[63]⟩]) ++ [nT it]) ++ [nT pl]) ++ [nT ar]) ++ [nT wt]) ++ [nT sv]) ++ M56) tm _ _ (by first | omega | simp only [LL] <;> omega | simp <;> omega)) (fun v_q62 C_q62 q62 => ⟨tt0, ?_⟩))
  obtain ⟨u61, rfl, rfl⟩ := q62
  show SR _ _ _ _ _ _ _ _ _ ⟨_, _ :: _ :: _, _, _⟩
  refine SR.k 40 rfl (by kernel_rfl) rfl (ev_any (v := .agg #[.string ⟨#[116, 105, 109, 101]⟩, .int .i64 ((((((((l ++ [sT ⟨#[63]⟩]) ++ [nT it]) ++ [nT pl]) ++ [nT ar]) ++ [nT wt]) ++ [nT sv]) ++ M56).length : Int)]) rfl (by kernel_rfl) (fun _ => by kernel_rfl)) ?_
  refine SR.one (j := 44) (by kernel_rfl) rfl (st_call0 rfl rfl rfl rfl hbd23 rfl (.c .h (.c .h .n)) (mnum g u61 ((((((((l ++ [sT ⟨#[63]⟩]) ++ [nT it]) ++ [nT pl]) ++ [nT ar]) ++ [nT wt]) ++ [nT sv]) ++ M56) ++ [nT tm]) ds _ _ (by first | omega | simp only [LL] <;> omega | simp <;> omega)) (fun v_q64 C_q64 q64 => ⟨tt0, ?_⟩))
  obtain ⟨u63, rfl, rfl⟩ := q64
  show SR _ _ _ _ _ _ _ _ _ ⟨_, _ :: _ :: _, _, _⟩
  refine SR.k 45 rfl (by kernel_rfl) rfl (ev_any (v := .agg #[.string ⟨#[100, 105, 115, 116]⟩, .int .i64 (((((((((l ++ [sT ⟨#[63]⟩]) ++ [nT it]) ++ [nT pl]) ++ [nT ar]) ++ [nT wt]) ++ [nT sv]) ++ M56) ++ [nT tm]).length : Int)]) rfl (by kernel_rfl) (fun _ => by kernel_rfl)) ?_
  refine SR.one (j := 46) (by kernel_rfl) rfl (st_lit ePr (e := 69) (l := [(Pr.mk ⟨#[116, 121, 112, 101]⟩ (l.length : Int)), (Pr.mk ⟨#[105, 116, 101, 109]⟩ ((l ++ [sT ⟨#[63]⟩]).length : Int)), (Pr.mk ⟨#[112, 108, 97, 99, 101]⟩ (((l ++ [sT ⟨#[63]⟩]) ++ [nT it]).length : Int)), (Pr.mk ⟨#[97, 114, 114, 105, 118, 97, 108]⟩ ((((l ++ [sT ⟨#[63]⟩]) ++ [nT it]) ++ [nT pl]).length : Int)), (Pr.mk ⟨#[119, 97, 105, 116]⟩ (((((l ++ [sT ⟨#[63]⟩]) ++ [nT it]) ++ [nT pl]) ++ [nT ar]).length : Int)), (Pr.mk ⟨#[115, 101, 114, 118, 105, 99, 101]⟩ ((((((l ++ [sT ⟨#[63]⟩]) ++ [nT it]) ++ [nT pl]) ++ [nT ar]) ++ [nT wt]).length : Int)), (Pr.mk ⟨#[108, 111, 97, 100]⟩ ((((((((l ++ [sT ⟨#[63]⟩]) ++ [nT it]) ++ [nT pl]) ++ [nT ar]) ++ [nT wt]) ++ [nT sv]).length : Int) + load.length)), (Pr.mk ⟨#[116, 105, 109, 101]⟩ ((((((((l ++ [sT ⟨#[63]⟩]) ++ [nT it]) ++ [nT pl]) ++ [nT ar]) ++ [nT wt]) ++ [nT sv]) ++ M56).length : Int)), (Pr.mk ⟨#[100, 105, 115, 116]⟩ (((((((((l ++ [sT ⟨#[63]⟩]) ++ [nT it]) ++ [nT pl]) ++ [nT ar]) ++ [nT wt]) ++ [nT sv]) ++ M56) ++ [nT tm]).length : Int))]) rfl rfl rfl rfl (by kernel_rfl) rfl rfl (fun w => by kernel_rfl) (fun b65 => ⟨tt0, ?_⟩))
  refine SR.one (j := 47) (by kernel_rfl) rfl (st_lend0 rfl rfl rfl rfl hbd21 rfl (.c (.t .h) (.c (.t .h) .n)) (.c .h .n) (fun w_ hw => mobject g u63 (((((((((l ++ [sT ⟨#[63]⟩]) ++ [nT it]) ++ [nT pl]) ++ [nT ar]) ++ [nT wt]) ++ [nT sv]) ++ M56) ++ [nT tm]) ++ [nT ds]) (some ⟨b65, 0, none⟩) 9 9 [(Pr.mk ⟨#[116, 121, 112, 101]⟩ (l.length : Int)), (Pr.mk ⟨#[105, 116, 101, 109]⟩ ((l ++ [sT ⟨#[63]⟩]).length : Int)), (Pr.mk ⟨#[112, 108, 97, 99, 101]⟩ (((l ++ [sT ⟨#[63]⟩]) ++ [nT it]).length : Int)), (Pr.mk ⟨#[97, 114, 114, 105, 118, 97, 108]⟩ ((((l ++ [sT ⟨#[63]⟩]) ++ [nT it]) ++ [nT pl]).length : Int)), (Pr.mk ⟨#[119, 97, 105, 116]⟩ (((((l ++ [sT ⟨#[63]⟩]) ++ [nT it]) ++ [nT pl]) ++ [nT ar]).length : Int)), (Pr.mk ⟨#[115, 101, 114, 118, 105, 99, 101]⟩ ((((((l ++ [sT ⟨#[63]⟩]) ++ [nT it]) ++ [nT pl]) ++ [nT ar]) ++ [nT wt]).length : Int)), (Pr.mk ⟨#[108, 111, 97, 100]⟩ ((((((((l ++ [sT ⟨#[63]⟩]) ++ [nT it]) ++ [nT pl]) ++ [nT ar]) ++ [nT wt]) ++ [nT sv]).length : Int) + load.length)), (Pr.mk ⟨#[116, 105, 109, 101]⟩ ((((((((l ++ [sT ⟨#[63]⟩]) ++ [nT it]) ++ [nT pl]) ++ [nT ar]) ++ [nT wt]) ++ [nT sv]) ++ M56).length : Int)), (Pr.mk ⟨#[100, 105, 115, 116]⟩ (((((((((l ++ [sT ⟨#[63]⟩]) ++ [nT it]) ++ [nT pl]) ++ [nT ar]) ++ [nT wt]) ++ [nT sv]) ++ M56) ++ [nT tm]).length : Int))] _ _ (Fr.lend hw 0 rfl (by first | omega | simp only [LL] <;> omega | simp <;> omega)) (by first | omega | simp only [LL] <;> omega | simp <;> omega) (by first | omega | simp only [LL] <;> omega | simp <;> omega) (by first | omega | simp only [LL] <;> omega | simp <;> omega)) (fun v_q71 C_q71 q71 => ⟨tt0, ?_⟩))
  obtain ⟨u66, nA67, nc68, kA69, kc70, rfl, rfl⟩ := q71
  show SR _ _ _ _ _ _ _ _ _ ⟨_, _ :: _ :: _ :: _ :: _ :: _, _, _⟩
  refine SR.k 48 rfl (by kernel_rfl) rfl (ev_as rfl rfl) ?_
  refine SR.fin (by kernel_rfl) hl_41 hx_41 hR_41 (.c (.c (.c (.c (.c (.c .n)))))) ?_
  refine SQ.go idQ ?_
  refine SC.nest0 9 3 ?_
  refine SC.packl (TN.mk 4 false 0 ⟨#[63]⟩ [] []) .h rfl rfl ?_
  refine SC.packl (TN.mk 3 false it ⟨#[]⟩ [] []) .h rfl rfl ?_
  refine SC.packl (TN.mk 3 false pl ⟨#[]⟩ [] []) .h rfl rfl ?_
  refine SC.packl (TN.mk 3 false ar ⟨#[]⟩ [] []) .h rfl rfl ?_
  refine SC.packl (TN.mk 3 false wt ⟨#[]⟩ [] []) .h rfl rfl ?_
  refine SC.packl (TN.mk 3 false sv ⟨#[]⟩ [] []) .h rfl rfl ?_
  refine SC.nestapp (.c .h (.c (.t (.t (.t (.t (.t .h))))) .n)) ?_
  refine SC.packl (TN.mk 3 false tm ⟨#[]⟩ [] []) .h rfl rfl ?_
  refine SC.packl (TN.mk 3 false ds ⟨#[]⟩ [] []) .h rfl rfl ?_
  refine SC.pack (TV.mk (TN.mk 6 false 0 ⟨#[]⟩ ([(Pr.mk ⟨#[116, 121, 112, 101]⟩ (l.length : Int)), (Pr.mk ⟨#[105, 116, 101, 109]⟩ ((l ++ [sT ⟨#[63]⟩]).length : Int)), (Pr.mk ⟨#[112, 108, 97, 99, 101]⟩ (((l ++ [sT ⟨#[63]⟩]) ++ [nT it]).length : Int)), (Pr.mk ⟨#[97, 114, 114, 105, 118, 97, 108]⟩ ((((l ++ [sT ⟨#[63]⟩]) ++ [nT it]) ++ [nT pl]).length : Int)), (Pr.mk ⟨#[119, 97, 105, 116]⟩ (((((l ++ [sT ⟨#[63]⟩]) ++ [nT it]) ++ [nT pl]) ++ [nT ar]).length : Int)), (Pr.mk ⟨#[115, 101, 114, 118, 105, 99, 101]⟩ ((((((l ++ [sT ⟨#[63]⟩]) ++ [nT it]) ++ [nT pl]) ++ [nT ar]) ++ [nT wt]).length : Int)), (Pr.mk ⟨#[108, 111, 97, 100]⟩ ((((((((l ++ [sT ⟨#[63]⟩]) ++ [nT it]) ++ [nT pl]) ++ [nT ar]) ++ [nT wt]) ++ [nT sv]).length : Int) + load.length)), (Pr.mk ⟨#[116, 105, 109, 101]⟩ ((((((((l ++ [sT ⟨#[63]⟩]) ++ [nT it]) ++ [nT pl]) ++ [nT ar]) ++ [nT wt]) ++ [nT sv]) ++ M56).length : Int)), (Pr.mk ⟨#[100, 105, 115, 116]⟩ (((((((((l ++ [sT ⟨#[63]⟩]) ++ [nT it]) ++ [nT pl]) ++ [nT ar]) ++ [nT wt]) ++ [nT sv]) ++ M56) ++ [nT tm]).length : Int))].map Pr.name) ([(Pr.mk ⟨#[116, 121, 112, 101]⟩ (l.length : Int)), (Pr.mk ⟨#[105, 116, 101, 109]⟩ ((l ++ [sT ⟨#[63]⟩]).length : Int)), (Pr.mk ⟨#[112, 108, 97, 99, 101]⟩ (((l ++ [sT ⟨#[63]⟩]) ++ [nT it]).length : Int)), (Pr.mk ⟨#[97, 114, 114, 105, 118, 97, 108]⟩ ((((l ++ [sT ⟨#[63]⟩]) ++ [nT it]) ++ [nT pl]).length : Int)), (Pr.mk ⟨#[119, 97, 105, 116]⟩ (((((l ++ [sT ⟨#[63]⟩]) ++ [nT it]) ++ [nT pl]) ++ [nT ar]).length : Int)), (Pr.mk ⟨#[115, 101, 114, 118, 105, 99, 101]⟩ ((((((l ++ [sT ⟨#[63]⟩]) ++ [nT it]) ++ [nT pl]) ++ [nT ar]) ++ [nT wt]).length : Int)), (Pr.mk ⟨#[108, 111, 97, 100]⟩ ((((((((l ++ [sT ⟨#[63]⟩]) ++ [nT it]) ++ [nT pl]) ++ [nT ar]) ++ [nT wt]) ++ [nT sv]).length : Int) + load.length)), (Pr.mk ⟨#[116, 105, 109, 101]⟩ ((((((((l ++ [sT ⟨#[63]⟩]) ++ [nT it]) ++ [nT pl]) ++ [nT ar]) ++ [nT wt]) ++ [nT sv]) ++ M56).length : Int)), (Pr.mk ⟨#[100, 105, 115, 116]⟩ (((((((((l ++ [sT ⟨#[63]⟩]) ++ [nT it]) ++ [nT pl]) ++ [nT ar]) ++ [nT wt]) ++ [nT sv]) ++ M56) ++ [nT tm]).length : Int))].map Pr.pos)) nA67 nc68 kA69 kc70) (.c .h (.c (.t (.t .h)) (.c (.t (.t .h)) .n))) (by first | omega | (simp; done) | (simp; omega)) (by first | omega | (simp; done) | (simp; omega)) ?_
  exact .ret idQ (ret1 Try.results49 rfl (.c (.t .h) (.c (.t .h) (.c .h .n))) ⟨u66, ((((((((((l ++ [sT ⟨#[63]⟩]) ++ [nT it]) ++ [nT pl]) ++ [nT ar]) ++ [nT wt]) ++ [nT sv]) ++ M56) ++ [nT tm]) ++ [nT ds]) ++ [TV.mk (TN.mk 6 false 0 ⟨#[]⟩ ([(Pr.mk ⟨#[116, 121, 112, 101]⟩ (l.length : Int)), (Pr.mk ⟨#[105, 116, 101, 109]⟩ ((l ++ [sT ⟨#[63]⟩]).length : Int)), (Pr.mk ⟨#[112, 108, 97, 99, 101]⟩ (((l ++ [sT ⟨#[63]⟩]) ++ [nT it]).length : Int)), (Pr.mk ⟨#[97, 114, 114, 105, 118, 97, 108]⟩ ((((l ++ [sT ⟨#[63]⟩]) ++ [nT it]) ++ [nT pl]).length : Int)), (Pr.mk ⟨#[119, 97, 105, 116]⟩ (((((l ++ [sT ⟨#[63]⟩]) ++ [nT it]) ++ [nT pl]) ++ [nT ar]).length : Int)), (Pr.mk ⟨#[115, 101, 114, 118, 105, 99, 101]⟩ ((((((l ++ [sT ⟨#[63]⟩]) ++ [nT it]) ++ [nT pl]) ++ [nT ar]) ++ [nT wt]).length : Int)), (Pr.mk ⟨#[108, 111, 97, 100]⟩ ((((((((l ++ [sT ⟨#[63]⟩]) ++ [nT it]) ++ [nT pl]) ++ [nT ar]) ++ [nT wt]) ++ [nT sv]).length : Int) + load.length)), (Pr.mk ⟨#[116, 105, 109, 101]⟩ ((((((((l ++ [sT ⟨#[63]⟩]) ++ [nT it]) ++ [nT pl]) ++ [nT ar]) ++ [nT wt]) ++ [nT sv]) ++ M56).length : Int)), (Pr.mk ⟨#[100, 105, 115, 116]⟩ (((((((((l ++ [sT ⟨#[63]⟩]) ++ [nT it]) ++ [nT pl]) ++ [nT ar]) ++ [nT wt]) ++ [nT sv]) ++ M56) ++ [nT tm]).length : Int))].map Pr.name) ([(Pr.mk ⟨#[116, 121, 112, 101]⟩ (l.length : Int)), (Pr.mk ⟨#[105, 116, 101, 109]⟩ ((l ++ [sT ⟨#[63]⟩]).length : Int)), (Pr.mk ⟨#[112, 108, 97, 99, 101]⟩ (((l ++ [sT ⟨#[63]⟩]) ++ [nT it]).length : Int)), (Pr.mk ⟨#[97, 114, 114, 105, 118, 97, 108]⟩ ((((l ++ [sT ⟨#[63]⟩]) ++ [nT it]) ++ [nT pl]).length : Int)), (Pr.mk ⟨#[119, 97, 105, 116]⟩ (((((l ++ [sT ⟨#[63]⟩]) ++ [nT it]) ++ [nT pl]) ++ [nT ar]).length : Int)), (Pr.mk ⟨#[115, 101, 114, 118, 105, 99, 101]⟩ ((((((l ++ [sT ⟨#[63]⟩]) ++ [nT it]) ++ [nT pl]) ++ [nT ar]) ++ [nT wt]).length : Int)), (Pr.mk ⟨#[108, 111, 97, 100]⟩ ((((((((l ++ [sT ⟨#[63]⟩]) ++ [nT it]) ++ [nT pl]) ++ [nT ar]) ++ [nT wt]) ++ [nT sv]).length : Int) + load.length)), (Pr.mk ⟨#[116, 105, 109, 101]⟩ ((((((((l ++ [sT ⟨#[63]⟩]) ++ [nT it]) ++ [nT pl]) ++ [nT ar]) ++ [nT wt]) ++ [nT sv]) ++ M56).length : Int)), (Pr.mk ⟨#[100, 105, 115, 116]⟩ (((((((((l ++ [sT ⟨#[63]⟩]) ++ [nT it]) ++ [nT pl]) ++ [nT ar]) ++ [nT wt]) ++ [nT sv]) ++ M56) ++ [nT tm]).length : Int))].map Pr.pos)) nA67 nc68 kA69 kc70]), ((((((((((([] : List TV) ++ [sT ⟨#[63]⟩]) ++ [nT it]) ++ [nT pl]) ++ [nT ar]) ++ [nT wt]) ++ [nT sv]) ++ M56) ++ [nT tm]) ++ [nT ds]) ++ [TV.mk (TN.mk 6 false 0 ⟨#[]⟩ ([(Pr.mk ⟨#[116, 121, 112, 101]⟩ (l.length : Int)), (Pr.mk ⟨#[105, 116, 101, 109]⟩ ((l ++ [sT ⟨#[63]⟩]).length : Int)), (Pr.mk ⟨#[112, 108, 97, 99, 101]⟩ (((l ++ [sT ⟨#[63]⟩]) ++ [nT it]).length : Int)), (Pr.mk ⟨#[97, 114, 114, 105, 118, 97, 108]⟩ ((((l ++ [sT ⟨#[63]⟩]) ++ [nT it]) ++ [nT pl]).length : Int)), (Pr.mk ⟨#[119, 97, 105, 116]⟩ (((((l ++ [sT ⟨#[63]⟩]) ++ [nT it]) ++ [nT pl]) ++ [nT ar]).length : Int)), (Pr.mk ⟨#[115, 101, 114, 118, 105, 99, 101]⟩ ((((((l ++ [sT ⟨#[63]⟩]) ++ [nT it]) ++ [nT pl]) ++ [nT ar]) ++ [nT wt]).length : Int)), (Pr.mk ⟨#[108, 111, 97, 100]⟩ ((((((((l ++ [sT ⟨#[63]⟩]) ++ [nT it]) ++ [nT pl]) ++ [nT ar]) ++ [nT wt]) ++ [nT sv]).length : Int) + load.length)), (Pr.mk ⟨#[116, 105, 109, 101]⟩ ((((((((l ++ [sT ⟨#[63]⟩]) ++ [nT it]) ++ [nT pl]) ++ [nT ar]) ++ [nT wt]) ++ [nT sv]) ++ M56).length : Int)), (Pr.mk ⟨#[100, 105, 115, 116]⟩ (((((((((l ++ [sT ⟨#[63]⟩]) ++ [nT it]) ++ [nT pl]) ++ [nT ar]) ++ [nT wt]) ++ [nT sv]) ++ M56) ++ [nT tm]).length : Int))].map Pr.name) ([(Pr.mk ⟨#[116, 121, 112, 101]⟩ (l.length : Int)), (Pr.mk ⟨#[105, 116, 101, 109]⟩ ((l ++ [sT ⟨#[63]⟩]).length : Int)), (Pr.mk ⟨#[112, 108, 97, 99, 101]⟩ (((l ++ [sT ⟨#[63]⟩]) ++ [nT it]).length : Int)), (Pr.mk ⟨#[97, 114, 114, 105, 118, 97, 108]⟩ ((((l ++ [sT ⟨#[63]⟩]) ++ [nT it]) ++ [nT pl]).length : Int)), (Pr.mk ⟨#[119, 97, 105, 116]⟩ (((((l ++ [sT ⟨#[63]⟩]) ++ [nT it]) ++ [nT pl]) ++ [nT ar]).length : Int)), (Pr.mk ⟨#[115, 101, 114, 118, 105, 99, 101]⟩ ((((((l ++ [sT ⟨#[63]⟩]) ++ [nT it]) ++ [nT pl]) ++ [nT ar]) ++ [nT wt]).length : Int)), (Pr.mk ⟨#[108, 111, 97, 100]⟩ ((((((((l ++ [sT ⟨#[63]⟩]) ++ [nT it]) ++ [nT pl]) ++ [nT ar]) ++ [nT wt]) ++ [nT sv]).length : Int) + load.length)), (Pr.mk ⟨#[116, 105, 109, 101]⟩ ((((((((l ++ [sT ⟨#[63]⟩]) ++ [nT it]) ++ [nT pl]) ++ [nT ar]) ++ [nT wt]) ++ [nT sv]) ++ M56).length : Int)), (Pr.mk ⟨#[100, 105, 115, 116]⟩ (((((((((l ++ [sT ⟨#[63]⟩]) ++ [nT it]) ++ [nT pl]) ++ [nT ar]) ++ [nT wt]) ++ [nT sv]) ++ M56) ++ [nT tm]).length : Int))].map Pr.pos)) nA67 nc68 kA69 kc70]), (by simp only [List.append_assoc, List.nil_append]), (step_lay (ST.mk k it pl ar wt sv load tm ds lA lc) p59 (by simp <;> omega) (by show _ = wordK k; unfold wordK; first | (rw [if_pos (by omega), show kz k = k - 1 by omega]) | rw [if_pos (by omega)] | rw [if_neg (by omega)]) rfl (by simp only [List.map_cons, List.map_nil, List.length_append, List.length_cons, List.length_nil, List.cons.injEq, and_true, true_and]; and_intros <;> omega)), (congrArg (Value.int .i64) (by simp <;> omega)), rfl⟩)
 refine SP.reslot (t := 13) rfl hb2 ?_
 have hb2_ := bF bD hb2
 refine .cons (.off rfl rfl rfl rfl rfl rfl ?_)
 refine .cons (.off rfl rfl rfl rfl rfl rfl ?_)
 refine .cons (.off rfl rfl rfl rfl rfl rfl ?_)
 refine .v (ev_pickf rfl rfl rfl rfl) rfl ?_
 refine .go idQ ?_
 refine .cond_f rfl ?_
 refine .skipgo idQ (.seq ?_)
 refine SC.draw mo [cel g [v] 65, rw_ eTV 90 (v) l] [] (.c (.t .h) (.c (.t .h) .n)) (fun _ _ _ c hc => by cases hc) (fun wf_72 hl_72 hx_72 hR_72 => ?_)
 refine SR.k 0 rfl (by kernel_rfl) rfl (ev_mv rfl rfl) ?_
 refine SR.k 1 rfl (by kernel_rfl) rfl (ev_mv rfl rfl) ?_
 refine SR.k 2 rfl (by kernel_rfl) rfl (ev_mv rfl rfl) ?_
 refine SR.k 5 rfl (by kernel_rfl) rfl (ev_mv rfl rfl) ?_
 refine SR.k 6 rfl (by kernel_rfl) rfl (ev_fa rfl fo58_0 rfl (r := 0) rfl) ?_
 refine SR.k 7 rfl (by kernel_rfl) rfl (ev_fa rfl fo55_1 rfl (r := 1) rfl) ?_
 refine SR.k 8 rfl (by kernel_rfl) rfl (ev_ld1 rfl ty3 rfl (At.d (At.lent hR_72 0 rfl rfl))) ?_
 refine SR.k 11 rfl (by kernel_rfl) rfl (ev_mv rfl rfl) ?_
 refine SR.k 12 rfl (by kernel_rfl) rfl (ev_fa rfl fo58_1 rfl (r := 2) rfl) ?_
 refine SR.k 13 rfl (by kernel_rfl) rfl (ev_ld1 rfl ty3 rfl (At.d (At.lent hR_72 0 rfl rfl))) ?_
 refine SR.k 16 rfl (by kernel_rfl) rfl (ev_mv rfl rfl) ?_
 refine SR.k 17 rfl (by kernel_rfl) rfl (ev_fa rfl fo58_2 rfl (r := 3) rfl) ?_
 refine SR.k 18 rfl (by kernel_rfl) rfl (ev_ld1 rfl ty3 rfl (At.d (At.lent hR_72 0 rfl rfl))) ?_
 refine SR.k 21 rfl (by kernel_rfl) rfl (ev_mv rfl rfl) ?_
 refine SR.k 22 rfl (by kernel_rfl) rfl (ev_fa rfl fo58_3 rfl (r := 4) rfl) ?_
 refine SR.k 23 rfl (by kernel_rfl) rfl (ev_ld1 rfl ty3 rfl (At.d (At.lent hR_72 0 rfl rfl))) ?_
 refine SR.k 26 rfl (by kernel_rfl) rfl (ev_mv rfl rfl) ?_
 refine SR.k 27 rfl (by kernel_rfl) rfl (ev_fa rfl fo58_4 rfl (r := 5) rfl) ?_
 refine SR.k 28 rfl (by kernel_rfl) rfl (ev_ld1 rfl ty3 rfl (At.d (At.lent hR_72 0 rfl rfl))) ?_
 refine SR.k 31 rfl (by kernel_rfl) rfl (ev_mv rfl rfl) ?_
 refine SR.k 32 rfl (by kernel_rfl) rfl (ev_fa rfl fo58_5 rfl (r := 6) rfl) ?_
 refine SR.k 33 rfl (by kernel_rfl) rfl (ev_ld1 rfl ty56 rfl (At.d (At.lent hR_72 0 rfl rfl))) ?_
 refine SR.k 36 rfl (by kernel_rfl) rfl (ev_mv rfl rfl) ?_
 refine SR.k 37 rfl (by kernel_rfl) rfl (ev_fa rfl fo58_6 rfl (r := 7) rfl) ?_
 refine SR.k 38 rfl (by kernel_rfl) rfl (ev_ld1 rfl ty3 rfl (At.d (At.lent hR_72 0 rfl rfl))) ?_
 refine SR.k 41 rfl (by kernel_rfl) rfl (ev_mv rfl rfl) ?_
 refine SR.k 42 rfl (by kernel_rfl) rfl (ev_fa rfl fo58_7 rfl (r := 8) rfl) ?_
 refine SR.k 43 rfl (by kernel_rfl) rfl (ev_ld1 rfl ty3 rfl (At.d (At.lent hR_72 0 rfl rfl))) ?_
 refine SR.one (j := 3) (by kernel_rfl) rfl (st_call0 rfl rfl rfl rfl hbd22 rfl (.c .h (.c .h .n)) (mtext g v l ⟨#[63]⟩ _ _ (by first | omega | simp only [LL] <;> omega | simp <;> omega)) (fun v_q74 C_q74 q74 => ⟨tt0, ?_⟩))
 obtain ⟨u73, rfl, rfl⟩ := q74
 show SR _ _ _ _ _ _ _ _ _ ⟨_, _ :: _ :: _, _, _⟩
 refine SR.k 4 rfl (by kernel_rfl) rfl (ev_any (v := .agg #[.string ⟨#[116, 121, 112, 101]⟩, .int .i64 (l.length : Int)]) rfl (by kernel_rfl) (fun _ => by kernel_rfl)) ?_
 refine SR.one (j := 9) (by kernel_rfl) rfl (st_call0 rfl rfl rfl rfl hbd23 rfl (.c .h (.c .h .n)) (mnum g u73 (l ++ [sT ⟨#[63]⟩]) it _ _ (by first | omega | simp only [LL] <;> omega | simp <;> omega)) (fun v_q76 C_q76 q76 => ⟨tt0, ?_⟩))
 obtain ⟨u75, rfl, rfl⟩ := q76
 show SR _ _ _ _ _ _ _ _ _ ⟨_, _ :: _ :: _, _, _⟩
 refine SR.k 10 rfl (by kernel_rfl) rfl (ev_any (v := .agg #[.string ⟨#[105, 116, 101, 109]⟩, .int .i64 ((l ++ [sT ⟨#[63]⟩]).length : Int)]) rfl (by kernel_rfl) (fun _ => by kernel_rfl)) ?_
 refine SR.one (j := 14) (by kernel_rfl) rfl (st_call0 rfl rfl rfl rfl hbd23 rfl (.c .h (.c .h .n)) (mnum g u75 ((l ++ [sT ⟨#[63]⟩]) ++ [nT it]) pl _ _ (by first | omega | simp only [LL] <;> omega | simp <;> omega)) (fun v_q78 C_q78 q78 => ⟨tt0, ?_⟩))
 obtain ⟨u77, rfl, rfl⟩ := q78
 show SR _ _ _ _ _ _ _ _ _ ⟨_, _ :: _ :: _, _, _⟩
 refine SR.k 15 rfl (by kernel_rfl) rfl (ev_any (v := .agg #[.string ⟨#[112, 108, 97, 99, 101]⟩, .int .i64 (((l ++ [sT ⟨#[63]⟩]) ++ [nT it]).length : Int)]) rfl (by kernel_rfl) (fun _ => by kernel_rfl)) ?_
 refine SR.one (j := 19) (by kernel_rfl) rfl (st_call0 rfl rfl rfl rfl hbd23 rfl (.c .h (.c .h .n)) (mnum g u77 (((l ++ [sT ⟨#[63]⟩]) ++ [nT it]) ++ [nT pl]) ar _ _ (by first | omega | simp only [LL] <;> omega | simp <;> omega)) (fun v_q80 C_q80 q80 => ⟨tt0, ?_⟩))
 obtain ⟨u79, rfl, rfl⟩ := q80
 show SR _ _ _ _ _ _ _ _ _ ⟨_, _ :: _ :: _, _, _⟩
 refine SR.k 20 rfl (by kernel_rfl) rfl (ev_any (v := .agg #[.string ⟨#[97, 114, 114, 105, 118, 97, 108]⟩, .int .i64 ((((l ++ [sT ⟨#[63]⟩]) ++ [nT it]) ++ [nT pl]).length : Int)]) rfl (by kernel_rfl) (fun _ => by kernel_rfl)) ?_
 refine SR.one (j := 24) (by kernel_rfl) rfl (st_call0 rfl rfl rfl rfl hbd23 rfl (.c .h (.c .h .n)) (mnum g u79 ((((l ++ [sT ⟨#[63]⟩]) ++ [nT it]) ++ [nT pl]) ++ [nT ar]) wt _ _ (by first | omega | simp only [LL] <;> omega | simp <;> omega)) (fun v_q82 C_q82 q82 => ⟨tt0, ?_⟩))
 obtain ⟨u81, rfl, rfl⟩ := q82
 show SR _ _ _ _ _ _ _ _ _ ⟨_, _ :: _ :: _, _, _⟩
 refine SR.k 25 rfl (by kernel_rfl) rfl (ev_any (v := .agg #[.string ⟨#[119, 97, 105, 116]⟩, .int .i64 (((((l ++ [sT ⟨#[63]⟩]) ++ [nT it]) ++ [nT pl]) ++ [nT ar]).length : Int)]) rfl (by kernel_rfl) (fun _ => by kernel_rfl)) ?_
 refine SR.one (j := 29) (by kernel_rfl) rfl (st_call0 rfl rfl rfl rfl hbd23 rfl (.c .h (.c .h .n)) (mnum g u81 (((((l ++ [sT ⟨#[63]⟩]) ++ [nT it]) ++ [nT pl]) ++ [nT ar]) ++ [nT wt]) sv _ _ (by first | omega | simp only [LL] <;> omega | simp <;> omega)) (fun v_q84 C_q84 q84 => ⟨tt0, ?_⟩))
 obtain ⟨u83, rfl, rfl⟩ := q84
 show SR _ _ _ _ _ _ _ _ _ ⟨_, _ :: _ :: _, _, _⟩
 refine SR.k 30 rfl (by kernel_rfl) rfl (ev_any (v := .agg #[.string ⟨#[115, 101, 114, 118, 105, 99, 101]⟩, .int .i64 ((((((l ++ [sT ⟨#[63]⟩]) ++ [nT it]) ++ [nT pl]) ++ [nT ar]) ++ [nT wt]).length : Int)]) rfl (by kernel_rfl) (fun _ => by kernel_rfl)) ?_
 refine SR.one (j := 34) (by kernel_rfl) rfl (st_call0 rfl rfl rfl rfl hbd67 rfl (.c .h (.c .h .n)) (mnums g u83 ((((((l ++ [sT ⟨#[63]⟩]) ++ [nT it]) ++ [nT pl]) ++ [nT ar]) ++ [nT wt]) ++ [nT sv]) lA load.length lc load _ _ (Fr.ext hA hx_72) (by first | omega | simp only [LL] <;> omega | simp <;> omega) (by first | omega | simp only [LL] <;> omega | simp <;> omega) (by first | omega | simp only [LL] <;> omega | simp <;> omega)) (fun v_q88 C_q88 q88 => ⟨tt0, ?_⟩))
 obtain ⟨u85, L86, M87, p89, p90, rfl, rfl⟩ := q88
 show SR _ _ _ _ _ _ _ _ _ ⟨_, _ :: _ :: _ :: _, _, _⟩
 subst p89
 have hM91 : M87.length = load.length + 1 := (vs_len M87).symm.trans ((congrArg List.length p90).trans (numsF_len _ _))
 refine SR.k 35 rfl (by kernel_rfl) rfl (ev_any (v := .agg #[.string ⟨#[108, 111, 97, 100]⟩, .int .i64 ((((((((l ++ [sT ⟨#[63]⟩]) ++ [nT it]) ++ [nT pl]) ++ [nT ar]) ++ [nT wt]) ++ [nT sv]).length : Int) + load.length)]) rfl (by kernel_rfl) (fun _ => by kernel_rfl)) ?_
 refine SR.one (j := 39) (by kernel_rfl) rfl (st_call0 rfl rfl rfl rfl hbd23 rfl (.c .h (.c .h .n)) (mnum g u85 (((((((l ++ [sT ⟨#[63]⟩]) ++ [nT it]) ++ [nT pl]) ++ [nT ar]) ++ [nT wt]) ++ [nT sv]) ++ M87) tm _ _ (by first | omega | simp only [LL] <;> omega | simp <;> omega)) (fun v_q93 C_q93 q93 => ⟨tt0, ?_⟩))
 obtain ⟨u92, rfl, rfl⟩ := q93
 show SR _ _ _ _ _ _ _ _ _ ⟨_, _ :: _ :: _, _, _⟩
 refine SR.k 40 rfl (by kernel_rfl) rfl (ev_any (v := .agg #[.string ⟨#[116, 105, 109, 101]⟩, .int .i64 ((((((((l ++ [sT ⟨#[63]⟩]) ++ [nT it]) ++ [nT pl]) ++ [nT ar]) ++ [nT wt]) ++ [nT sv]) ++ M87).length : Int)]) rfl (by kernel_rfl) (fun _ => by kernel_rfl)) ?_
 refine SR.one (j := 44) (by kernel_rfl) rfl (st_call0 rfl rfl rfl rfl hbd23 rfl (.c .h (.c .h .n)) (mnum g u92 ((((((((l ++ [sT ⟨#[63]⟩]) ++ [nT it]) ++ [nT pl]) ++ [nT ar]) ++ [nT wt]) ++ [nT sv]) ++ M87) ++ [nT tm]) ds _ _ (by first | omega | simp only [LL] <;> omega | simp <;> omega)) (fun v_q95 C_q95 q95 => ⟨tt0, ?_⟩))
 obtain ⟨u94, rfl, rfl⟩ := q95
 show SR _ _ _ _ _ _ _ _ _ ⟨_, _ :: _ :: _, _, _⟩
 refine SR.k 45 rfl (by kernel_rfl) rfl (ev_any (v := .agg #[.string ⟨#[100, 105, 115, 116]⟩, .int .i64 (((((((((l ++ [sT ⟨#[63]⟩]) ++ [nT it]) ++ [nT pl]) ++ [nT ar]) ++ [nT wt]) ++ [nT sv]) ++ M87) ++ [nT tm]).length : Int)]) rfl (by kernel_rfl) (fun _ => by kernel_rfl)) ?_
 refine SR.one (j := 46) (by kernel_rfl) rfl (st_lit ePr (e := 69) (l := [(Pr.mk ⟨#[116, 121, 112, 101]⟩ (l.length : Int)), (Pr.mk ⟨#[105, 116, 101, 109]⟩ ((l ++ [sT ⟨#[63]⟩]).length : Int)), (Pr.mk ⟨#[112, 108, 97, 99, 101]⟩ (((l ++ [sT ⟨#[63]⟩]) ++ [nT it]).length : Int)), (Pr.mk ⟨#[97, 114, 114, 105, 118, 97, 108]⟩ ((((l ++ [sT ⟨#[63]⟩]) ++ [nT it]) ++ [nT pl]).length : Int)), (Pr.mk ⟨#[119, 97, 105, 116]⟩ (((((l ++ [sT ⟨#[63]⟩]) ++ [nT it]) ++ [nT pl]) ++ [nT ar]).length : Int)), (Pr.mk ⟨#[115, 101, 114, 118, 105, 99, 101]⟩ ((((((l ++ [sT ⟨#[63]⟩]) ++ [nT it]) ++ [nT pl]) ++ [nT ar]) ++ [nT wt]).length : Int)), (Pr.mk ⟨#[108, 111, 97, 100]⟩ ((((((((l ++ [sT ⟨#[63]⟩]) ++ [nT it]) ++ [nT pl]) ++ [nT ar]) ++ [nT wt]) ++ [nT sv]).length : Int) + load.length)), (Pr.mk ⟨#[116, 105, 109, 101]⟩ ((((((((l ++ [sT ⟨#[63]⟩]) ++ [nT it]) ++ [nT pl]) ++ [nT ar]) ++ [nT wt]) ++ [nT sv]) ++ M87).length : Int)), (Pr.mk ⟨#[100, 105, 115, 116]⟩ (((((((((l ++ [sT ⟨#[63]⟩]) ++ [nT it]) ++ [nT pl]) ++ [nT ar]) ++ [nT wt]) ++ [nT sv]) ++ M87) ++ [nT tm]).length : Int))]) rfl rfl rfl rfl (by kernel_rfl) rfl rfl (fun w => by kernel_rfl) (fun b96 => ⟨tt0, ?_⟩))
 refine SR.one (j := 47) (by kernel_rfl) rfl (st_lend0 rfl rfl rfl rfl hbd21 rfl (.c (.t .h) (.c (.t .h) .n)) (.c .h .n) (fun w_ hw => mobject g u94 (((((((((l ++ [sT ⟨#[63]⟩]) ++ [nT it]) ++ [nT pl]) ++ [nT ar]) ++ [nT wt]) ++ [nT sv]) ++ M87) ++ [nT tm]) ++ [nT ds]) (some ⟨b96, 0, none⟩) 9 9 [(Pr.mk ⟨#[116, 121, 112, 101]⟩ (l.length : Int)), (Pr.mk ⟨#[105, 116, 101, 109]⟩ ((l ++ [sT ⟨#[63]⟩]).length : Int)), (Pr.mk ⟨#[112, 108, 97, 99, 101]⟩ (((l ++ [sT ⟨#[63]⟩]) ++ [nT it]).length : Int)), (Pr.mk ⟨#[97, 114, 114, 105, 118, 97, 108]⟩ ((((l ++ [sT ⟨#[63]⟩]) ++ [nT it]) ++ [nT pl]).length : Int)), (Pr.mk ⟨#[119, 97, 105, 116]⟩ (((((l ++ [sT ⟨#[63]⟩]) ++ [nT it]) ++ [nT pl]) ++ [nT ar]).length : Int)), (Pr.mk ⟨#[115, 101, 114, 118, 105, 99, 101]⟩ ((((((l ++ [sT ⟨#[63]⟩]) ++ [nT it]) ++ [nT pl]) ++ [nT ar]) ++ [nT wt]).length : Int)), (Pr.mk ⟨#[108, 111, 97, 100]⟩ ((((((((l ++ [sT ⟨#[63]⟩]) ++ [nT it]) ++ [nT pl]) ++ [nT ar]) ++ [nT wt]) ++ [nT sv]).length : Int) + load.length)), (Pr.mk ⟨#[116, 105, 109, 101]⟩ ((((((((l ++ [sT ⟨#[63]⟩]) ++ [nT it]) ++ [nT pl]) ++ [nT ar]) ++ [nT wt]) ++ [nT sv]) ++ M87).length : Int)), (Pr.mk ⟨#[100, 105, 115, 116]⟩ (((((((((l ++ [sT ⟨#[63]⟩]) ++ [nT it]) ++ [nT pl]) ++ [nT ar]) ++ [nT wt]) ++ [nT sv]) ++ M87) ++ [nT tm]).length : Int))] _ _ (Fr.lend hw 0 rfl (by first | omega | simp only [LL] <;> omega | simp <;> omega)) (by first | omega | simp only [LL] <;> omega | simp <;> omega) (by first | omega | simp only [LL] <;> omega | simp <;> omega) (by first | omega | simp only [LL] <;> omega | simp <;> omega)) (fun v_q102 C_q102 q102 => ⟨tt0, ?_⟩))
 obtain ⟨u97, nA98, nc99, kA100, kc101, rfl, rfl⟩ := q102
 show SR _ _ _ _ _ _ _ _ _ ⟨_, _ :: _ :: _ :: _ :: _ :: _, _, _⟩
 refine SR.k 48 rfl (by kernel_rfl) rfl (ev_as rfl rfl) ?_
 refine SR.fin (by kernel_rfl) hl_72 hx_72 hR_72 (.c (.c (.c (.c (.c (.c .n)))))) ?_
 refine SQ.go idQ ?_
 refine SC.nest0 9 3 ?_
 refine SC.packl (TN.mk 4 false 0 ⟨#[63]⟩ [] []) .h rfl rfl ?_
 refine SC.packl (TN.mk 3 false it ⟨#[]⟩ [] []) .h rfl rfl ?_
 refine SC.packl (TN.mk 3 false pl ⟨#[]⟩ [] []) .h rfl rfl ?_
 refine SC.packl (TN.mk 3 false ar ⟨#[]⟩ [] []) .h rfl rfl ?_
 refine SC.packl (TN.mk 3 false wt ⟨#[]⟩ [] []) .h rfl rfl ?_
 refine SC.packl (TN.mk 3 false sv ⟨#[]⟩ [] []) .h rfl rfl ?_
 refine SC.nestapp (.c .h (.c (.t (.t (.t (.t (.t .h))))) .n)) ?_
 refine SC.packl (TN.mk 3 false tm ⟨#[]⟩ [] []) .h rfl rfl ?_
 refine SC.packl (TN.mk 3 false ds ⟨#[]⟩ [] []) .h rfl rfl ?_
 refine SC.pack (TV.mk (TN.mk 6 false 0 ⟨#[]⟩ ([(Pr.mk ⟨#[116, 121, 112, 101]⟩ (l.length : Int)), (Pr.mk ⟨#[105, 116, 101, 109]⟩ ((l ++ [sT ⟨#[63]⟩]).length : Int)), (Pr.mk ⟨#[112, 108, 97, 99, 101]⟩ (((l ++ [sT ⟨#[63]⟩]) ++ [nT it]).length : Int)), (Pr.mk ⟨#[97, 114, 114, 105, 118, 97, 108]⟩ ((((l ++ [sT ⟨#[63]⟩]) ++ [nT it]) ++ [nT pl]).length : Int)), (Pr.mk ⟨#[119, 97, 105, 116]⟩ (((((l ++ [sT ⟨#[63]⟩]) ++ [nT it]) ++ [nT pl]) ++ [nT ar]).length : Int)), (Pr.mk ⟨#[115, 101, 114, 118, 105, 99, 101]⟩ ((((((l ++ [sT ⟨#[63]⟩]) ++ [nT it]) ++ [nT pl]) ++ [nT ar]) ++ [nT wt]).length : Int)), (Pr.mk ⟨#[108, 111, 97, 100]⟩ ((((((((l ++ [sT ⟨#[63]⟩]) ++ [nT it]) ++ [nT pl]) ++ [nT ar]) ++ [nT wt]) ++ [nT sv]).length : Int) + load.length)), (Pr.mk ⟨#[116, 105, 109, 101]⟩ ((((((((l ++ [sT ⟨#[63]⟩]) ++ [nT it]) ++ [nT pl]) ++ [nT ar]) ++ [nT wt]) ++ [nT sv]) ++ M87).length : Int)), (Pr.mk ⟨#[100, 105, 115, 116]⟩ (((((((((l ++ [sT ⟨#[63]⟩]) ++ [nT it]) ++ [nT pl]) ++ [nT ar]) ++ [nT wt]) ++ [nT sv]) ++ M87) ++ [nT tm]).length : Int))].map Pr.name) ([(Pr.mk ⟨#[116, 121, 112, 101]⟩ (l.length : Int)), (Pr.mk ⟨#[105, 116, 101, 109]⟩ ((l ++ [sT ⟨#[63]⟩]).length : Int)), (Pr.mk ⟨#[112, 108, 97, 99, 101]⟩ (((l ++ [sT ⟨#[63]⟩]) ++ [nT it]).length : Int)), (Pr.mk ⟨#[97, 114, 114, 105, 118, 97, 108]⟩ ((((l ++ [sT ⟨#[63]⟩]) ++ [nT it]) ++ [nT pl]).length : Int)), (Pr.mk ⟨#[119, 97, 105, 116]⟩ (((((l ++ [sT ⟨#[63]⟩]) ++ [nT it]) ++ [nT pl]) ++ [nT ar]).length : Int)), (Pr.mk ⟨#[115, 101, 114, 118, 105, 99, 101]⟩ ((((((l ++ [sT ⟨#[63]⟩]) ++ [nT it]) ++ [nT pl]) ++ [nT ar]) ++ [nT wt]).length : Int)), (Pr.mk ⟨#[108, 111, 97, 100]⟩ ((((((((l ++ [sT ⟨#[63]⟩]) ++ [nT it]) ++ [nT pl]) ++ [nT ar]) ++ [nT wt]) ++ [nT sv]).length : Int) + load.length)), (Pr.mk ⟨#[116, 105, 109, 101]⟩ ((((((((l ++ [sT ⟨#[63]⟩]) ++ [nT it]) ++ [nT pl]) ++ [nT ar]) ++ [nT wt]) ++ [nT sv]) ++ M87).length : Int)), (Pr.mk ⟨#[100, 105, 115, 116]⟩ (((((((((l ++ [sT ⟨#[63]⟩]) ++ [nT it]) ++ [nT pl]) ++ [nT ar]) ++ [nT wt]) ++ [nT sv]) ++ M87) ++ [nT tm]).length : Int))].map Pr.pos)) nA98 nc99 kA100 kc101) (.c .h (.c (.t (.t .h)) (.c (.t (.t .h)) .n))) (by first | omega | (simp; done) | (simp; omega)) (by first | omega | (simp; done) | (simp; omega)) ?_
 exact .ret idQ (ret1 Try.results49 rfl (.c (.t .h) (.c (.t .h) (.c .h .n))) ⟨u97, ((((((((((l ++ [sT ⟨#[63]⟩]) ++ [nT it]) ++ [nT pl]) ++ [nT ar]) ++ [nT wt]) ++ [nT sv]) ++ M87) ++ [nT tm]) ++ [nT ds]) ++ [TV.mk (TN.mk 6 false 0 ⟨#[]⟩ ([(Pr.mk ⟨#[116, 121, 112, 101]⟩ (l.length : Int)), (Pr.mk ⟨#[105, 116, 101, 109]⟩ ((l ++ [sT ⟨#[63]⟩]).length : Int)), (Pr.mk ⟨#[112, 108, 97, 99, 101]⟩ (((l ++ [sT ⟨#[63]⟩]) ++ [nT it]).length : Int)), (Pr.mk ⟨#[97, 114, 114, 105, 118, 97, 108]⟩ ((((l ++ [sT ⟨#[63]⟩]) ++ [nT it]) ++ [nT pl]).length : Int)), (Pr.mk ⟨#[119, 97, 105, 116]⟩ (((((l ++ [sT ⟨#[63]⟩]) ++ [nT it]) ++ [nT pl]) ++ [nT ar]).length : Int)), (Pr.mk ⟨#[115, 101, 114, 118, 105, 99, 101]⟩ ((((((l ++ [sT ⟨#[63]⟩]) ++ [nT it]) ++ [nT pl]) ++ [nT ar]) ++ [nT wt]).length : Int)), (Pr.mk ⟨#[108, 111, 97, 100]⟩ ((((((((l ++ [sT ⟨#[63]⟩]) ++ [nT it]) ++ [nT pl]) ++ [nT ar]) ++ [nT wt]) ++ [nT sv]).length : Int) + load.length)), (Pr.mk ⟨#[116, 105, 109, 101]⟩ ((((((((l ++ [sT ⟨#[63]⟩]) ++ [nT it]) ++ [nT pl]) ++ [nT ar]) ++ [nT wt]) ++ [nT sv]) ++ M87).length : Int)), (Pr.mk ⟨#[100, 105, 115, 116]⟩ (((((((((l ++ [sT ⟨#[63]⟩]) ++ [nT it]) ++ [nT pl]) ++ [nT ar]) ++ [nT wt]) ++ [nT sv]) ++ M87) ++ [nT tm]).length : Int))].map Pr.name) ([(Pr.mk ⟨#[116, 121, 112, 101]⟩ (l.length : Int)), (Pr.mk ⟨#[105, 116, 101, 109]⟩ ((l ++ [sT ⟨#[63]⟩]).length : Int)), (Pr.mk ⟨#[112, 108, 97, 99, 101]⟩ (((l ++ [sT ⟨#[63]⟩]) ++ [nT it]).length : Int)), (Pr.mk ⟨#[97, 114, 114, 105, 118, 97, 108]⟩ ((((l ++ [sT ⟨#[63]⟩]) ++ [nT it]) ++ [nT pl]).length : Int)), (Pr.mk ⟨#[119, 97, 105, 116]⟩ (((((l ++ [sT ⟨#[63]⟩]) ++ [nT it]) ++ [nT pl]) ++ [nT ar]).length : Int)), (Pr.mk ⟨#[115, 101, 114, 118, 105, 99, 101]⟩ ((((((l ++ [sT ⟨#[63]⟩]) ++ [nT it]) ++ [nT pl]) ++ [nT ar]) ++ [nT wt]).length : Int)), (Pr.mk ⟨#[108, 111, 97, 100]⟩ ((((((((l ++ [sT ⟨#[63]⟩]) ++ [nT it]) ++ [nT pl]) ++ [nT ar]) ++ [nT wt]) ++ [nT sv]).length : Int) + load.length)), (Pr.mk ⟨#[116, 105, 109, 101]⟩ ((((((((l ++ [sT ⟨#[63]⟩]) ++ [nT it]) ++ [nT pl]) ++ [nT ar]) ++ [nT wt]) ++ [nT sv]) ++ M87).length : Int)), (Pr.mk ⟨#[100, 105, 115, 116]⟩ (((((((((l ++ [sT ⟨#[63]⟩]) ++ [nT it]) ++ [nT pl]) ++ [nT ar]) ++ [nT wt]) ++ [nT sv]) ++ M87) ++ [nT tm]).length : Int))].map Pr.pos)) nA98 nc99 kA100 kc101]), ((((((((((([] : List TV) ++ [sT ⟨#[63]⟩]) ++ [nT it]) ++ [nT pl]) ++ [nT ar]) ++ [nT wt]) ++ [nT sv]) ++ M87) ++ [nT tm]) ++ [nT ds]) ++ [TV.mk (TN.mk 6 false 0 ⟨#[]⟩ ([(Pr.mk ⟨#[116, 121, 112, 101]⟩ (l.length : Int)), (Pr.mk ⟨#[105, 116, 101, 109]⟩ ((l ++ [sT ⟨#[63]⟩]).length : Int)), (Pr.mk ⟨#[112, 108, 97, 99, 101]⟩ (((l ++ [sT ⟨#[63]⟩]) ++ [nT it]).length : Int)), (Pr.mk ⟨#[97, 114, 114, 105, 118, 97, 108]⟩ ((((l ++ [sT ⟨#[63]⟩]) ++ [nT it]) ++ [nT pl]).length : Int)), (Pr.mk ⟨#[119, 97, 105, 116]⟩ (((((l ++ [sT ⟨#[63]⟩]) ++ [nT it]) ++ [nT pl]) ++ [nT ar]).length : Int)), (Pr.mk ⟨#[115, 101, 114, 118, 105, 99, 101]⟩ ((((((l ++ [sT ⟨#[63]⟩]) ++ [nT it]) ++ [nT pl]) ++ [nT ar]) ++ [nT wt]).length : Int)), (Pr.mk ⟨#[108, 111, 97, 100]⟩ ((((((((l ++ [sT ⟨#[63]⟩]) ++ [nT it]) ++ [nT pl]) ++ [nT ar]) ++ [nT wt]) ++ [nT sv]).length : Int) + load.length)), (Pr.mk ⟨#[116, 105, 109, 101]⟩ ((((((((l ++ [sT ⟨#[63]⟩]) ++ [nT it]) ++ [nT pl]) ++ [nT ar]) ++ [nT wt]) ++ [nT sv]) ++ M87).length : Int)), (Pr.mk ⟨#[100, 105, 115, 116]⟩ (((((((((l ++ [sT ⟨#[63]⟩]) ++ [nT it]) ++ [nT pl]) ++ [nT ar]) ++ [nT wt]) ++ [nT sv]) ++ M87) ++ [nT tm]).length : Int))].map Pr.name) ([(Pr.mk ⟨#[116, 121, 112, 101]⟩ (l.length : Int)), (Pr.mk ⟨#[105, 116, 101, 109]⟩ ((l ++ [sT ⟨#[63]⟩]).length : Int)), (Pr.mk ⟨#[112, 108, 97, 99, 101]⟩ (((l ++ [sT ⟨#[63]⟩]) ++ [nT it]).length : Int)), (Pr.mk ⟨#[97, 114, 114, 105, 118, 97, 108]⟩ ((((l ++ [sT ⟨#[63]⟩]) ++ [nT it]) ++ [nT pl]).length : Int)), (Pr.mk ⟨#[119, 97, 105, 116]⟩ (((((l ++ [sT ⟨#[63]⟩]) ++ [nT it]) ++ [nT pl]) ++ [nT ar]).length : Int)), (Pr.mk ⟨#[115, 101, 114, 118, 105, 99, 101]⟩ ((((((l ++ [sT ⟨#[63]⟩]) ++ [nT it]) ++ [nT pl]) ++ [nT ar]) ++ [nT wt]).length : Int)), (Pr.mk ⟨#[108, 111, 97, 100]⟩ ((((((((l ++ [sT ⟨#[63]⟩]) ++ [nT it]) ++ [nT pl]) ++ [nT ar]) ++ [nT wt]) ++ [nT sv]).length : Int) + load.length)), (Pr.mk ⟨#[116, 105, 109, 101]⟩ ((((((((l ++ [sT ⟨#[63]⟩]) ++ [nT it]) ++ [nT pl]) ++ [nT ar]) ++ [nT wt]) ++ [nT sv]) ++ M87).length : Int)), (Pr.mk ⟨#[100, 105, 115, 116]⟩ (((((((((l ++ [sT ⟨#[63]⟩]) ++ [nT it]) ++ [nT pl]) ++ [nT ar]) ++ [nT wt]) ++ [nT sv]) ++ M87) ++ [nT tm]).length : Int))].map Pr.pos)) nA98 nc99 kA100 kc101]), (by simp only [List.append_assoc, List.nil_append]), (step_lay (ST.mk k it pl ar wt sv load tm ds lA lc) p90 (by simp <;> omega) (by show _ = wordK k; unfold wordK; first | (rw [if_pos (by omega), show kz k = k - 1 by omega]) | rw [if_pos (by omega)] | rw [if_neg (by omega)]) rfl (by simp only [List.map_cons, List.map_nil, List.length_append, List.length_cons, List.length_nil, List.cons.injEq, and_true, true_and]; and_intros <;> omega)), (congrArg (Value.int .i64) (by simp <;> omega)), rfl⟩)
end Go.Proofs.Ythmkelkefmfmgaa.Sx
set_option maxRecDepth 20000
set_option maxHeartbeats 4000000
namespace Go.Proofs.Ythmkelkefmfmgaa.Sx.FH
open Go Go.SX Go.Proofs
theorem fo52_0 : fo Try.prog 52 0 = some 0 := by kernel_rfl
theorem ty3 : ty Try.prog 3 = some (false, 1) := by kernel_rfl
theorem hbd23 : hasBody Try.prog 23 = true := by kernel_rfl
theorem fo52_6 : fo Try.prog 52 6 = some 6 := by kernel_rfl
theorem fo52_2 : fo Try.prog 52 2 = some 2 := by kernel_rfl
theorem fo52_3 : fo Try.prog 52 3 = some 3 := by kernel_rfl
theorem fo52_4 : fo Try.prog 52 4 = some 4 := by kernel_rfl
theorem fo52_5 : fo Try.prog 52 5 = some 5 := by kernel_rfl
theorem mo : Try.prog.follows .mixedOrders = true := by kernel_rfl
theorem fo52_1 : fo Try.prog 52 1 = some 1 := by kernel_rfl
theorem ty50 : ty Try.prog 50 = some (false, 1) := by kernel_rfl
theorem ty58 : ty Try.prog 58 = some (true, 9) := by kernel_rfl
theorem zf58 : (Try.prog.info? 58).bind (fun i => i.zero.map Value.cells) = some (List.toArray [.int .i64 0, .int .i64 0, .int .i64 0, .int .i64 0, .int .i64 0, .int .i64 0, .slice none 0 0, .int .i64 0, .int .i64 0]) := by kernel_rfl
theorem hbd49 : hasBody Try.prog 49 = true := by kernel_rfl
theorem ai3 : (Try.prog.info? 3).map (fun i => (i.zero, i.size, i.bytes)) = some (some (.int .i64 0), 1, 8) := by kernel_rfl
theorem hbd27 : hasBody Try.prog 27 = true := by kernel_rfl
theorem ai69 : (Try.prog.info? 69).map (fun i => (i.zero, i.size, i.bytes)) = some (some (.agg #[.string ⟨#[]⟩, .int .i64 0]), 2, 24) := by kernel_rfl
theorem hbd21 : hasBody Try.prog 21 = true := by kernel_rfl
end Go.Proofs.Ythmkelkefmfmgaa.Sx.FH
namespace Go.Proofs.Ythmkelkefmfmgaa.Sx
open Go Go.SX Go.Proofs FH
theorem mplan (g : Nat) (v : Value) (l : List TV) (ve : Int) (sA : Option Addr) (sc : Nat) (steps : List ST) (tm : Int) (ds : Int) (wt : Int) (sv : Int) (co : Int) (S : Nat → Prop) (wf : World) (hA : Fr eST S wf sA steps) (hN : NS S wf steps) (hl : l.length ≤ 1580000000000) (hs : steps.length ≤ 8192) (hS : ∀ s ∈ steps, (-9223372036854775808 ≤ s.kind ∧ s.kind ≤ 9223372036854775807) ∧ s.load.length ≤ 8192) :
  TR0 Try.prog 26 [.pointer (some ⟨g, 0, none⟩), .agg #[.int .i64 ve, .slice sA steps.length sc, .int .i64 tm, .int .i64 ds, .int .i64 wt, .int .i64 sv, .int .i64 co]] [cel g [v] 65, rw_ eTV 90 (v) l] S wf (fun v_ C_ => ∃ (u : Value) (L : List TV) (M : List TV), (L = l ++ M) ∧ (vs M = planF l.length (PV.mk ve steps tm ds wt sv co sA sc)) ∧ (M.length ≤ 67200000) ∧ v_ = .int .i64 ((L.length : Int) - 1) ∧ C_ = [cel g [u] 65, rw_ eTV 90 (u) L, nest 9 3 M]) := by
 have hla := hA.len
 refine TR.mk Try.func26 rfl Try.ntmps26 rfl rfl (fun w_ => ?_)
 refine .seq (.region ?_)
 refine .cons (st_boxa rfl rfl rfl rfl rfl (fun b1 => ?_))
 refine .v (ev_as rfl rfl) rfl ?_
 refine .go idQ (.seq ?_)
 refine SC.draw mo [cel g [v] 65, rw_ eTV 90 (v) l] [] (.c (.t .h) (.c (.t .h) .n)) (fun _ _ _ c hc => by cases hc) (fun wf_2 hl_2 hx_2 hR_2 => ?_)
 refine SR.k 0 rfl (by kernel_rfl) rfl (ev_mv rfl rfl) ?_
 refine SR.k 1 rfl (by kernel_rfl) rfl (ev_fa rfl fo52_0 rfl (r := 0) rfl) ?_
 refine SR.k 2 rfl (by kernel_rfl) rfl (ev_ld1 rfl ty3 rfl (At.d (At.lent hR_2 0 rfl rfl))) ?_
 refine SR.k 5 rfl (by kernel_rfl) rfl (ev_mv rfl rfl) ?_
 refine SR.k 6 rfl (by kernel_rfl) rfl (ev_fa rfl fo52_6 rfl (r := 6) rfl) ?_
 refine SR.k 7 rfl (by kernel_rfl) rfl (ev_ld1 rfl ty3 rfl (At.d (At.lent hR_2 0 rfl rfl))) ?_
 refine SR.k 10 rfl (by kernel_rfl) rfl (ev_mv rfl rfl) ?_
 refine SR.k 11 rfl (by kernel_rfl) rfl (ev_fa rfl fo52_2 rfl (r := 2) rfl) ?_
 refine SR.k 12 rfl (by kernel_rfl) rfl (ev_ld1 rfl ty3 rfl (At.d (At.lent hR_2 0 rfl rfl))) ?_
 refine SR.k 15 rfl (by kernel_rfl) rfl (ev_mv rfl rfl) ?_
 refine SR.k 16 rfl (by kernel_rfl) rfl (ev_fa rfl fo52_3 rfl (r := 3) rfl) ?_
 refine SR.k 17 rfl (by kernel_rfl) rfl (ev_ld1 rfl ty3 rfl (At.d (At.lent hR_2 0 rfl rfl))) ?_
 refine SR.k 20 rfl (by kernel_rfl) rfl (ev_mv rfl rfl) ?_
 refine SR.k 21 rfl (by kernel_rfl) rfl (ev_fa rfl fo52_4 rfl (r := 4) rfl) ?_
 refine SR.k 22 rfl (by kernel_rfl) rfl (ev_ld1 rfl ty3 rfl (At.d (At.lent hR_2 0 rfl rfl))) ?_
 refine SR.k 25 rfl (by kernel_rfl) rfl (ev_mv rfl rfl) ?_
 refine SR.k 26 rfl (by kernel_rfl) rfl (ev_fa rfl fo52_5 rfl (r := 5) rfl) ?_
 refine SR.k 27 rfl (by kernel_rfl) rfl (ev_ld1 rfl ty3 rfl (At.d (At.lent hR_2 0 rfl rfl))) ?_
 refine SR.one (j := 3) (by kernel_rfl) rfl (st_call0 rfl rfl rfl rfl hbd23 rfl (.c .h (.c .h .n)) (mnum g v l ve _ _ (by first | omega | simp only [LL] <;> omega | simp <;> omega)) (fun v_q4 C_q4 q4 => ⟨tt0, ?_⟩))
 obtain ⟨u3, rfl, rfl⟩ := q4
 show SR _ _ _ _ _ _ _ _ _ ⟨_, _ :: _ :: _, _, _⟩
 refine SR.k 4 rfl (by kernel_rfl) rfl (ev_any (v := .agg #[.string ⟨#[118, 101, 104, 105, 99, 108, 101]⟩, .int .i64 (l.length : Int)]) rfl (by kernel_rfl) (fun _ => by kernel_rfl)) ?_
 refine SR.one (j := 8) (by kernel_rfl) rfl (st_call0 rfl rfl rfl rfl hbd23 rfl (.c .h (.c .h .n)) (mnum g u3 (l ++ [nT ve]) co _ _ (by first | omega | simp only [LL] <;> omega | simp <;> omega)) (fun v_q6 C_q6 q6 => ⟨tt0, ?_⟩))
 obtain ⟨u5, rfl, rfl⟩ := q6
 show SR _ _ _ _ _ _ _ _ _ ⟨_, _ :: _ :: _, _, _⟩
 refine SR.k 9 rfl (by kernel_rfl) rfl (ev_any (v := .agg #[.string ⟨#[99, 111, 115, 116]⟩, .int .i64 ((l ++ [nT ve]).length : Int)]) rfl (by kernel_rfl) (fun _ => by kernel_rfl)) ?_
 refine SR.one (j := 13) (by kernel_rfl) rfl (st_call0 rfl rfl rfl rfl hbd23 rfl (.c .h (.c .h .n)) (mnum g u5 ((l ++ [nT ve]) ++ [nT co]) tm _ _ (by first | omega | simp only [LL] <;> omega | simp <;> omega)) (fun v_q8 C_q8 q8 => ⟨tt0, ?_⟩))
 obtain ⟨u7, rfl, rfl⟩ := q8
 show SR _ _ _ _ _ _ _ _ _ ⟨_, _ :: _ :: _, _, _⟩
 refine SR.k 14 rfl (by kernel_rfl) rfl (ev_any (v := .agg #[.string ⟨#[116, 105, 109, 101]⟩, .int .i64 (((l ++ [nT ve]) ++ [nT co]).length : Int)]) rfl (by kernel_rfl) (fun _ => by kernel_rfl)) ?_
 refine SR.one (j := 18) (by kernel_rfl) rfl (st_call0 rfl rfl rfl rfl hbd23 rfl (.c .h (.c .h .n)) (mnum g u7 (((l ++ [nT ve]) ++ [nT co]) ++ [nT tm]) ds _ _ (by first | omega | simp only [LL] <;> omega | simp <;> omega)) (fun v_q10 C_q10 q10 => ⟨tt0, ?_⟩))
 obtain ⟨u9, rfl, rfl⟩ := q10
 show SR _ _ _ _ _ _ _ _ _ ⟨_, _ :: _ :: _, _, _⟩
 refine SR.k 19 rfl (by kernel_rfl) rfl (ev_any (v := .agg #[.string ⟨#[100, 105, 115, 116]⟩, .int .i64 ((((l ++ [nT ve]) ++ [nT co]) ++ [nT tm]).length : Int)]) rfl (by kernel_rfl) (fun _ => by kernel_rfl)) ?_
 refine SR.one (j := 23) (by kernel_rfl) rfl (st_call0 rfl rfl rfl rfl hbd23 rfl (.c .h (.c .h .n)) (mnum g u9 ((((l ++ [nT ve]) ++ [nT co]) ++ [nT tm]) ++ [nT ds]) wt _ _ (by first | omega | simp only [LL] <;> omega | simp <;> omega)) (fun v_q12 C_q12 q12 => ⟨tt0, ?_⟩))
 obtain ⟨u11, rfl, rfl⟩ := q12
 show SR _ _ _ _ _ _ _ _ _ ⟨_, _ :: _ :: _, _, _⟩
 refine SR.k 24 rfl (by kernel_rfl) rfl (ev_any (v := .agg #[.string ⟨#[119, 97, 105, 116]⟩, .int .i64 (((((l ++ [nT ve]) ++ [nT co]) ++ [nT tm]) ++ [nT ds]).length : Int)]) rfl (by kernel_rfl) (fun _ => by kernel_rfl)) ?_
 refine SR.one (j := 28) (by kernel_rfl) rfl (st_call0 rfl rfl rfl rfl hbd23 rfl (.c .h (.c .h .n)) (mnum g u11 (((((l ++ [nT ve]) ++ [nT co]) ++ [nT tm]) ++ [nT ds]) ++ [nT wt]) sv _ _ (by first | omega | simp only [LL] <;> omega | simp <;> omega)) (fun v_q14 C_q14 q14 => ⟨tt0, ?_⟩))
 obtain ⟨u13, rfl, rfl⟩ := q14
 show SR _ _ _ _ _ _ _ _ _ ⟨_, _ :: _ :: _, _, _⟩
 refine SR.k 29 rfl (by kernel_rfl) rfl (ev_any (v := .agg #[.string ⟨#[115, 101, 114, 118, 105, 99, 101]⟩, .int .i64 ((((((l ++ [nT ve]) ++ [nT co]) ++ [nT tm]) ++ [nT ds]) ++ [nT wt]).length : Int)]) rfl (by kernel_rfl) (fun _ => by kernel_rfl)) ?_
 refine SR.one (j := 30) (by kernel_rfl) rfl (st_lit ePr (e := 69) (l := [(Pr.mk ⟨#[118, 101, 104, 105, 99, 108, 101]⟩ (l.length : Int)), (Pr.mk ⟨#[99, 111, 115, 116]⟩ ((l ++ [nT ve]).length : Int)), (Pr.mk ⟨#[116, 105, 109, 101]⟩ (((l ++ [nT ve]) ++ [nT co]).length : Int)), (Pr.mk ⟨#[100, 105, 115, 116]⟩ ((((l ++ [nT ve]) ++ [nT co]) ++ [nT tm]).length : Int)), (Pr.mk ⟨#[119, 97, 105, 116]⟩ (((((l ++ [nT ve]) ++ [nT co]) ++ [nT tm]) ++ [nT ds]).length : Int)), (Pr.mk ⟨#[115, 101, 114, 118, 105, 99, 101]⟩ ((((((l ++ [nT ve]) ++ [nT co]) ++ [nT tm]) ++ [nT ds]) ++ [nT wt]).length : Int))]) rfl rfl rfl rfl (by kernel_rfl) rfl rfl (fun w => by kernel_rfl) (fun b15 => ⟨tt0, ?_⟩))
 refine SR.k 31 rfl (by kernel_rfl) rfl (ev_as rfl rfl) ?_
 refine SR.fin (by kernel_rfl) hl_2 hx_2 hR_2 (.c (.c (.c .n))) ?_
 refine SQ.go idQ ?_
 refine .seq (.region ?_)
 refine .v (ev_as rfl rfl) rfl ?_
 refine .go idQ (.seq (.seq ?_))
 refine SC.nilrow eZ 3 ?_
 refine SC.nest0 9 3 ?_
 refine .region ?_
 refine .v (ev_fa rfl fo52_1 rfl (r := 1) rfl) rfl ?_
 refine .v (ev_ld1 rfl ty50 rfl (At.own1 5 rfl rfl)) rfl ?_
 refine .v (ev_len rfl Try.underlying50 rfl) rfl ?_
 refine .v (ev_mv rfl rfl) rfl ?_
 refine .go idQ (.block ?_)
 refine .loop (X := Int × Value × Value × (List TV) × (List TV) × (List Int)) (fun ⟨i, W, KV, LL, M, X⟩ => 0 ≤ i ∧ i ≤ steps.length ∧ LL = ((((((l ++ [nT ve]) ++ [nT co]) ++ [nT tm]) ++ [nT ds]) ++ [nT wt]) ++ [nT sv]) ++ M ∧ stepsF (((((((l ++ [nT ve]) ++ [nT co]) ++ [nT tm]) ++ [nT ds]) ++ [nT wt]) ++ [nT sv])).length (steps.take i.toNat) ([], []) = (vs M, X) ∧ (LL.length : Int) = l.length + 6 + M.length ∧ (X.length : Int) = i ∧ (M.length : Int) ≤ 8202 * i) (fun ⟨i, W, KV, LL, M, X⟩ => [(0, .pointer (some ⟨g, 0, none⟩)), (5, .slice (some ⟨b15, 0, none⟩) 6 6), (6, KV), (41, .slice sA steps.length sc), (42, .int .i64 (steps.length : Int)), (43, .int .i64 i)]) (fun ⟨i, W, KV, LL, M, X⟩ => [cel g [W] 65, rw_ eTV 90 (W) LL, nest 9 3 M, rw_ eZ 3 (KV) X, rw_ ePr 69 (.slice (some ⟨b15, 0, none⟩) 6 6) [(Pr.mk ⟨#[118, 101, 104, 105, 99, 108, 101]⟩ (l.length : Int)), (Pr.mk ⟨#[99, 111, 115, 116]⟩ ((l ++ [nT ve]).length : Int)), (Pr.mk ⟨#[116, 105, 109, 101]⟩ (((l ++ [nT ve]) ++ [nT co]).length : Int)), (Pr.mk ⟨#[100, 105, 115, 116]⟩ ((((l ++ [nT ve]) ++ [nT co]) ++ [nT tm]).length : Int)), (Pr.mk ⟨#[119, 97, 105, 116]⟩ (((((l ++ [nT ve]) ++ [nT co]) ++ [nT tm]) ++ [nT ds]).length : Int)), (Pr.mk ⟨#[115, 101, 114, 118, 105, 99, 101]⟩ ((((((l ++ [nT ve]) ++ [nT co]) ++ [nT tm]) ++ [nT ds]) ++ [nT wt]).length : Int))]]) (fun _ => S) (fun _ => wf) (fun ⟨i, W, KV, LL, M, X⟩ => (steps.length - i.toNat)) (fun a_ w_ hs_ hw_ => ⟨⟨0, u13, (.slice none 0 0), ((((((l ++ [nT ve]) ++ [nT co]) ++ [nT tm]) ++ [nT ds]) ++ [nT wt]) ++ [nT sv]), ([] : List TV), ([] : List Int)⟩, (by exact ⟨by omega, by omega, by simp, rfl, by simp, rfl, by simp⟩), hs_.mono (Sub.get (.c rfl (.c rfl (.c rfl (.c rfl (.c rfl (.c rfl .n))))))), hw_.keep (.c (.t (.t (.t .h))) (.c (.t (.t (.t .h))) (.c .h (.c .h (.c .h .n)))))⟩) (fun ⟨i, W, KV, LL, M, X⟩ ⟨q_0, q_1, q_2, q_3, q_4, q_5, q_6⟩ => ?_)
 show SC _ _ _ _ _ ⟨[(0, .pointer (some ⟨g, 0, none⟩)), (5, .slice (some ⟨b15, 0, none⟩) 6 6), (6, KV), (41, .slice sA steps.length sc), (42, .int .i64 (steps.length : Int)), (43, .int .i64 i)], [cel g [W] 65, rw_ eTV 90 (W) LL, nest 9 3 M, rw_ eZ 3 (KV) X, rw_ ePr 69 (.slice (some ⟨b15, 0, none⟩) 6 6) [(Pr.mk ⟨#[118, 101, 104, 105, 99, 108, 101]⟩ (l.length : Int)), (Pr.mk ⟨#[99, 111, 115, 116]⟩ ((l ++ [nT ve]).length : Int)), (Pr.mk ⟨#[116, 105, 109, 101]⟩ (((l ++ [nT ve]) ++ [nT co]).length : Int)), (Pr.mk ⟨#[100, 105, 115, 116]⟩ ((((l ++ [nT ve]) ++ [nT co]) ++ [nT tm]).length : Int)), (Pr.mk ⟨#[119, 97, 105, 116]⟩ (((((l ++ [nT ve]) ++ [nT co]) ++ [nT tm]) ++ [nT ds]).length : Int)), (Pr.mk ⟨#[115, 101, 114, 118, 105, 99, 101]⟩ ((((((l ++ [nT ve]) ++ [nT co]) ++ [nT tm]) ++ [nT ds]) ++ [nT wt]).length : Int))]], S, wf⟩
 refine .seq (.region ?_)
 refine .v (ev_cmp rfl rfl rfl rfl) rfl ?_
 refine .go idQ (.seq ?_)
 refine .condI rfl bD (fun h16 => ?_) (fun h16 => ?_)
 ·
  refine .skipgo idQ (.seq (.block (.seq (.region ?_))))
  refine .v (ev_ix rfl Try.underlying50 ty58 rfl rfl (by omega) (by omega) (fun _ _ => Fr.adr (i := i) hA (by omega) (by omega))) rfl ?_
  refine .v (ev_lda rfl rfl (At.w (Fr.el (i := i) hA (by omega) (by omega))) ty58) rfl ?_
  refine .cons (st_alloc rfl rfl rfl rfl zf58 (fun b17 => ?_))
  refine .cons (st_storea (l' := [.int .i64 ((gt steps i).kind), .int .i64 ((gt steps i).item), .int .i64 ((gt steps i).place), .int .i64 ((gt steps i).arr), .int .i64 ((gt steps i).wait), .int .i64 ((gt steps i).serv), .slice ((gt steps i).lA) ((gt steps i).load.length) ((gt steps i).lc), .int .i64 ((gt steps i).time), .int .i64 ((gt steps i).dist)]) rfl rfl rfl ty58 rfl rfl rfl .h rfl rfl ?_)
  refine .go idQ (.region ?_)
  refine .v (ev_mv rfl rfl) rfl ?_
  refine .v (ev_mv rfl rfl) rfl ?_
  refine .v (ev_lda rfl rfl (At.whole 0 rfl) ty58) rfl ?_
  refine .cons (st_call0 rfl rfl rfl rfl hbd49 rfl (.c (.t .h) (.c (.t .h) .n)) (mstep g W LL ((gt steps i).kind) ((gt steps i).item) ((gt steps i).place) ((gt steps i).arr) ((gt steps i).wait) ((gt steps i).serv) ((gt steps i).lA) ((gt steps i).lc) ((gt steps i).load) ((gt steps i).time) ((gt steps i).dist) _ _ (hN _ (gt_mem (i := i) (by omega) (by omega))) (by first | omega | simp only [LL] <;> omega | simp <;> omega) (hS _ (gt_mem (i := i) (by omega) (by omega))).1 (by have h_ := (hS _ (gt_mem (i := i) (by omega) (by omega))).2; omega)) (fun v_q21 C_q21 q21 => ?_))
  obtain ⟨u18, L19, M20, p22, p23, rfl, rfl⟩ := q21
  show SP _ _ _ _ _ _ ⟨_, _ :: _ :: _ :: _, _, _⟩
  subst p22
  have hM24 : M20.length = ((gt steps i).load).length + 10 := (vs_len M20).symm.trans ((congrArg List.length p23).trans (stepF_len _ _))
  refine .cons (st_lit eZ (e := 3) (l := [((LL.length : Int) + ((gt steps i).load).length + 9)]) rfl rfl rfl rfl (by kernel_rfl) rfl rfl (fun w => by kernel_rfl) (fun b25 => ?_))
  refine .cons (st_app (E := eZ) (m := [((LL.length : Int) + ((gt steps i).load).length + 9)]) rfl rfl rfl rfl Try.underlying56 ai3 rfl rfl rfl (.t (.t (.t (.t (.t (.t .h)))))) (by first | rfl | omega | simp) (row_src 0 rfl) (by first | omega | simp only [LL] <;> omega | simp <;> omega) rfl (fun v26 => ?_))
  refine .v (ev_as rfl rfl) rfl ?_
  refine .go idQ ?_
  refine SC.nestapp (.c (.t (.t (.t (.t (.t (.t .h)))))) (.c (.t (.t (.t (.t .h)))) .n)) ?_
  refine .region ?_
  refine .v (ev_add rfl rfl rfl (r := (i + 1)) rfl (by omega) (by omega)) rfl ?_
  refine .v (ev_mv rfl rfl) rfl ?_
  exact SP.nil (SQ.roundb (X := Int × Value × Value × (List TV) × (List TV) × (List Int)) (x := (i, W, KV, LL, M, X)) ⟨(i + 1), u18, v26, (LL ++ M20), (M ++ M20), (X ++ [((LL.length : Int) + ((gt steps i).load).length + 9)])⟩ (by exact ⟨by omega, by omega, by rw [q_2, List.append_assoc], steps_next q_3 p23 (by simp only [List.length_append, List.length_cons, List.length_nil]; omega) (by simp <;> omega) (by omega) (by omega), by simp only [List.length_append]; omega, by rw [List.length_append]; simp; omega, by have h_ := (hS _ (gt_mem (i := i) (by omega) (by omega))).2; rw [List.length_append]; omega⟩) (by dsimp only; omega) (Sub.get (.c rfl (.c rfl (.c rfl (.c rfl (.c rfl (.c rfl .n))))))) (fun w hw => hw.keep (.c (.t (.t (.t .h))) (.c (.t (.t (.t .h))) (.c .h (.c .h (.c (.t (.t .h)) .n)))))))
 refine .exit idQ ?_
 refine .seq (.region ?_)
 refine .v (ev_mv rfl rfl) rfl ?_
 refine .v (ev_mv rfl rfl) rfl ?_
 refine .v (ev_mv rfl rfl) rfl ?_
 refine .v (ev_mv rfl rfl) rfl ?_
 refine .know (row_len 3 rfl) (fun hv29 => ?_)
 obtain ⟨A27, c28, rfl, hv29_1, hv29_2⟩ := hv29
 unfold maxLen at hv29_2
 refine .cons (st_call0 rfl rfl rfl rfl hbd27 rfl (.c .h (.c .h .n)) (mlist g W LL A27 c28 X _ _ (by first | omega | simp only [LL] <;> omega | simp <;> omega)) (fun v_q31 C_q31 q31 => ?_))
 obtain ⟨u30, rfl, rfl⟩ := q31
 show SP _ _ _ _ _ _ ⟨_, _ :: _ :: _, _, _⟩
 refine .v (ev_any (v := .agg #[.string ⟨#[115, 116, 101, 112, 115]⟩, .int .i64 (LL.length : Int)]) rfl (by kernel_rfl) (fun _ => by kernel_rfl)) rfl ?_
 refine .cons (st_lit ePr (e := 69) (l := [(Pr.mk ⟨#[115, 116, 101, 112, 115]⟩ (LL.length : Int))]) rfl rfl rfl rfl (by kernel_rfl) rfl rfl (fun w => by kernel_rfl) (fun b32 => ?_))
 refine .cons (st_app (E := ePr) (m := [(Pr.mk ⟨#[115, 116, 101, 112, 115]⟩ (LL.length : Int))]) rfl rfl rfl rfl Try.underlying99 ai69 rfl rfl rfl (.t (.t (.t (.t (.t .h))))) (by first | rfl | omega | simp) (row_src 0 rfl) (by first | omega | simp only [LL] <;> omega | simp <;> omega) rfl (fun v33 => ?_))
 refine .know (row_len 0 rfl) (fun hv36 => ?_)
 obtain ⟨A34, c35, rfl, hv36_1, hv36_2⟩ := hv36
 unfold maxLen at hv36_2
 refine .cons (st_lend0 rfl rfl rfl rfl hbd21 rfl (.c (.t (.t .h)) (.c (.t (.t .h)) .n)) (.c .h .n) (fun w_ hw => mobject g u30 (LL ++ [TV.mk (TN.mk 5 false 0 ⟨#[]⟩ [] X) none 0 A27 c28]) A34 (([(Pr.mk ⟨#[118, 101, 104, 105, 99, 108, 101]⟩ (l.length : Int)), (Pr.mk ⟨#[99, 111, 115, 116]⟩ ((l ++ [nT ve]).length : Int)), (Pr.mk ⟨#[116, 105, 109, 101]⟩ (((l ++ [nT ve]) ++ [nT co]).length : Int)), (Pr.mk ⟨#[100, 105, 115, 116]⟩ ((((l ++ [nT ve]) ++ [nT co]) ++ [nT tm]).length : Int)), (Pr.mk ⟨#[119, 97, 105, 116]⟩ (((((l ++ [nT ve]) ++ [nT co]) ++ [nT tm]) ++ [nT ds]).length : Int)), (Pr.mk ⟨#[115, 101, 114, 118, 105, 99, 101]⟩ ((((((l ++ [nT ve]) ++ [nT co]) ++ [nT tm]) ++ [nT ds]) ++ [nT wt]).length : Int))] ++ [(Pr.mk ⟨#[115, 116, 101, 112, 115]⟩ (LL.length : Int))]).length) c35 ([(Pr.mk ⟨#[118, 101, 104, 105, 99, 108, 101]⟩ (l.length : Int)), (Pr.mk ⟨#[99, 111, 115, 116]⟩ ((l ++ [nT ve]).length : Int)), (Pr.mk ⟨#[116, 105, 109, 101]⟩ (((l ++ [nT ve]) ++ [nT co]).length : Int)), (Pr.mk ⟨#[100, 105, 115, 116]⟩ ((((l ++ [nT ve]) ++ [nT co]) ++ [nT tm]).length : Int)), (Pr.mk ⟨#[119, 97, 105, 116]⟩ (((((l ++ [nT ve]) ++ [nT co]) ++ [nT tm]) ++ [nT ds]).length : Int)), (Pr.mk ⟨#[115, 101, 114, 118, 105, 99, 101]⟩ ((((((l ++ [nT ve]) ++ [nT co]) ++ [nT tm]) ++ [nT ds]) ++ [nT wt]).length : Int))] ++ [(Pr.mk ⟨#[115, 116, 101, 112, 115]⟩ (LL.length : Int))]) _ _ (Fr.lend hw 0 rfl (by first | omega | simp only [LL] <;> omega | simp <;> omega)) (by first | omega | simp only [LL] <;> omega | simp <;> omega) (by first | omega | simp only [LL] <;> omega | simp <;> omega) (by first | omega | simp only [LL] <;> omega | simp <;> omega)) (fun v_q42 C_q42 q42 => ?_))
 obtain ⟨u37, nA38, nc39, kA40, kc41, rfl, rfl⟩ := q42
 show SP _ _ _ _ _ _ ⟨_, _ :: _ :: _ :: _ :: _ :: _, _, _⟩
 refine .v (ev_as rfl rfl) rfl ?_
 refine .go idQ ?_
 subst q_2
 refine SC.nest0 9 3 ?_
 refine SC.packl (TN.mk 3 false ve ⟨#[]⟩ [] []) .h rfl rfl ?_
 refine SC.packl (TN.mk 3 false co ⟨#[]⟩ [] []) .h rfl rfl ?_
 refine SC.packl (TN.mk 3 false tm ⟨#[]⟩ [] []) .h rfl rfl ?_
 refine SC.packl (TN.mk 3 false ds ⟨#[]⟩ [] []) .h rfl rfl ?_
 refine SC.packl (TN.mk 3 false wt ⟨#[]⟩ [] []) .h rfl rfl ?_
 refine SC.packl (TN.mk 3 false sv ⟨#[]⟩ [] []) .h rfl rfl ?_
 refine SC.nestapp (.c .h (.c (.t (.t (.t (.t (.t (.t .h)))))) .n)) ?_
 refine SC.nilrow eS 9 ?_
 refine SC.pack (TV.mk (TN.mk 5 false 0 ⟨#[]⟩ [] X) none 0 A27 c28) (.c (.t .h) (.c .h (.c (.t (.t (.t (.t (.t (.t .h)))))) .n))) (by first | omega | (simp; done) | (simp; omega)) (by first | omega | (simp; done) | (simp; omega)) ?_
 refine SC.pack (TV.mk (TN.mk 6 false 0 ⟨#[]⟩ (([(Pr.mk ⟨#[118, 101, 104, 105, 99, 108, 101]⟩ (l.length : Int)), (Pr.mk ⟨#[99, 111, 115, 116]⟩ ((l ++ [nT ve]).length : Int)), (Pr.mk ⟨#[116, 105, 109, 101]⟩ (((l ++ [nT ve]) ++ [nT co]).length : Int)), (Pr.mk ⟨#[100, 105, 115, 116]⟩ ((((l ++ [nT ve]) ++ [nT co]) ++ [nT tm]).length : Int)), (Pr.mk ⟨#[119, 97, 105, 116]⟩ (((((l ++ [nT ve]) ++ [nT co]) ++ [nT tm]) ++ [nT ds]).length : Int)), (Pr.mk ⟨#[115, 101, 114, 118, 105, 99, 101]⟩ ((((((l ++ [nT ve]) ++ [nT co]) ++ [nT tm]) ++ [nT ds]) ++ [nT wt]).length : Int))] ++ [(Pr.mk ⟨#[115, 116, 101, 112, 115]⟩ ((((((((l ++ [nT ve]) ++ [nT co]) ++ [nT tm]) ++ [nT ds]) ++ [nT wt]) ++ [nT sv]) ++ M).length : Int))]).map Pr.name) (([(Pr.mk ⟨#[118, 101, 104, 105, 99, 108, 101]⟩ (l.length : Int)), (Pr.mk ⟨#[99, 111, 115, 116]⟩ ((l ++ [nT ve]).length : Int)), (Pr.mk ⟨#[116, 105, 109, 101]⟩ (((l ++ [nT ve]) ++ [nT co]).length : Int)), (Pr.mk ⟨#[100, 105, 115, 116]⟩ ((((l ++ [nT ve]) ++ [nT co]) ++ [nT tm]).length : Int)), (Pr.mk ⟨#[119, 97, 105, 116]⟩ (((((l ++ [nT ve]) ++ [nT co]) ++ [nT tm]) ++ [nT ds]).length : Int)), (Pr.mk ⟨#[115, 101, 114, 118, 105, 99, 101]⟩ ((((((l ++ [nT ve]) ++ [nT co]) ++ [nT tm]) ++ [nT ds]) ++ [nT wt]).length : Int))] ++ [(Pr.mk ⟨#[115, 116, 101, 112, 115]⟩ ((((((((l ++ [nT ve]) ++ [nT co]) ++ [nT tm]) ++ [nT ds]) ++ [nT wt]) ++ [nT sv]) ++ M).length : Int))]).map Pr.pos)) nA38 nc39 kA40 kc41) (.c .h (.c (.t (.t .h)) (.c (.t (.t .h)) .n))) (by first | omega | (simp; done) | (simp; omega)) (by first | omega | (simp; done) | (simp; omega)) ?_
 exact .ret idQ (ret1 Try.results26 rfl (.c (.t .h) (.c (.t .h) (.c .h .n))) ⟨u37, (((((((((l ++ [nT ve]) ++ [nT co]) ++ [nT tm]) ++ [nT ds]) ++ [nT wt]) ++ [nT sv]) ++ M) ++ [TV.mk (TN.mk 5 false 0 ⟨#[]⟩ [] X) none 0 A27 c28]) ++ [TV.mk (TN.mk 6 false 0 ⟨#[]⟩ (([(Pr.mk ⟨#[118, 101, 104, 105, 99, 108, 101]⟩ (l.length : Int)), (Pr.mk ⟨#[99, 111, 115, 116]⟩ ((l ++ [nT ve]).length : Int)), (Pr.mk ⟨#[116, 105, 109, 101]⟩ (((l ++ [nT ve]) ++ [nT co]).length : Int)), (Pr.mk ⟨#[100, 105, 115, 116]⟩ ((((l ++ [nT ve]) ++ [nT co]) ++ [nT tm]).length : Int)), (Pr.mk ⟨#[119, 97, 105, 116]⟩ (((((l ++ [nT ve]) ++ [nT co]) ++ [nT tm]) ++ [nT ds]).length : Int)), (Pr.mk ⟨#[115, 101, 114, 118, 105, 99, 101]⟩ ((((((l ++ [nT ve]) ++ [nT co]) ++ [nT tm]) ++ [nT ds]) ++ [nT wt]).length : Int))] ++ [(Pr.mk ⟨#[115, 116, 101, 112, 115]⟩ ((((((((l ++ [nT ve]) ++ [nT co]) ++ [nT tm]) ++ [nT ds]) ++ [nT wt]) ++ [nT sv]) ++ M).length : Int))]).map Pr.name) (([(Pr.mk ⟨#[118, 101, 104, 105, 99, 108, 101]⟩ (l.length : Int)), (Pr.mk ⟨#[99, 111, 115, 116]⟩ ((l ++ [nT ve]).length : Int)), (Pr.mk ⟨#[116, 105, 109, 101]⟩ (((l ++ [nT ve]) ++ [nT co]).length : Int)), (Pr.mk ⟨#[100, 105, 115, 116]⟩ ((((l ++ [nT ve]) ++ [nT co]) ++ [nT tm]).length : Int)), (Pr.mk ⟨#[119, 97, 105, 116]⟩ (((((l ++ [nT ve]) ++ [nT co]) ++ [nT tm]) ++ [nT ds]).length : Int)), (Pr.mk ⟨#[115, 101, 114, 118, 105, 99, 101]⟩ ((((((l ++ [nT ve]) ++ [nT co]) ++ [nT tm]) ++ [nT ds]) ++ [nT wt]).length : Int))] ++ [(Pr.mk ⟨#[115, 116, 101, 112, 115]⟩ ((((((((l ++ [nT ve]) ++ [nT co]) ++ [nT tm]) ++ [nT ds]) ++ [nT wt]) ++ [nT sv]) ++ M).length : Int))]).map Pr.pos)) nA38 nc39 kA40 kc41]), (((((((((([] : List TV) ++ [nT ve]) ++ [nT co]) ++ [nT tm]) ++ [nT ds]) ++ [nT wt]) ++ [nT sv]) ++ M) ++ [TV.mk (TN.mk 5 false 0 ⟨#[]⟩ [] X) none 0 A27 c28]) ++ [TV.mk (TN.mk 6 false 0 ⟨#[]⟩ (([(Pr.mk ⟨#[118, 101, 104, 105, 99, 108, 101]⟩ (l.length : Int)), (Pr.mk ⟨#[99, 111, 115, 116]⟩ ((l ++ [nT ve]).length : Int)), (Pr.mk ⟨#[116, 105, 109, 101]⟩ (((l ++ [nT ve]) ++ [nT co]).length : Int)), (Pr.mk ⟨#[100, 105, 115, 116]⟩ ((((l ++ [nT ve]) ++ [nT co]) ++ [nT tm]).length : Int)), (Pr.mk ⟨#[119, 97, 105, 116]⟩ (((((l ++ [nT ve]) ++ [nT co]) ++ [nT tm]) ++ [nT ds]).length : Int)), (Pr.mk ⟨#[115, 101, 114, 118, 105, 99, 101]⟩ ((((((l ++ [nT ve]) ++ [nT co]) ++ [nT tm]) ++ [nT ds]) ++ [nT wt]).length : Int))] ++ [(Pr.mk ⟨#[115, 116, 101, 112, 115]⟩ ((((((((l ++ [nT ve]) ++ [nT co]) ++ [nT tm]) ++ [nT ds]) ++ [nT wt]) ++ [nT sv]) ++ M).length : Int))]).map Pr.name) (([(Pr.mk ⟨#[118, 101, 104, 105, 99, 108, 101]⟩ (l.length : Int)), (Pr.mk ⟨#[99, 111, 115, 116]⟩ ((l ++ [nT ve]).length : Int)), (Pr.mk ⟨#[116, 105, 109, 101]⟩ (((l ++ [nT ve]) ++ [nT co]).length : Int)), (Pr.mk ⟨#[100, 105, 115, 116]⟩ ((((l ++ [nT ve]) ++ [nT co]) ++ [nT tm]).length : Int)), (Pr.mk ⟨#[119, 97, 105, 116]⟩ (((((l ++ [nT ve]) ++ [nT co]) ++ [nT tm]) ++ [nT ds]).length : Int)), (Pr.mk ⟨#[115, 101, 114, 118, 105, 99, 101]⟩ ((((((l ++ [nT ve]) ++ [nT co]) ++ [nT tm]) ++ [nT ds]) ++ [nT wt]).length : Int))] ++ [(Pr.mk ⟨#[115, 116, 101, 112, 115]⟩ ((((((((l ++ [nT ve]) ++ [nT co]) ++ [nT tm]) ++ [nT ds]) ++ [nT wt]) ++ [nT sv]) ++ M).length : Int))]).map Pr.pos)) nA38 nc39 kA40 kc41]), (by simp only [List.append_assoc, List.nil_append]), (plan_lay (PV.mk ve steps tm ds wt sv co sA sc) (by have h_ := q_3; rw [List.take_of_length_le (by omega)] at h_; exact h_) (by simp <;> omega) rfl (by simp only [List.map_cons, List.map_nil, List.map_append, List.length_append, List.length_cons, List.length_nil, List.cons_append, List.nil_append, List.cons.injEq, and_true, true_and]; and_intros <;> omega)), (by simp only [List.length_append, List.length_cons, List.length_nil]; omega), (congrArg (Value.int .i64) (by simp <;> omega)), rfl⟩)
end Go.Proofs.Ythmkelkefmfmgaa.Sx
set_option maxRecDepth 20000
set_option maxHeartbeats 4000000
namespace Go.Proofs.Ythmkelkefmfmgaa.Sx.FK
open Go Go.SX Go.Proofs
theorem fo30_0 : fo Try.prog 30 0 = some 0 := by kernel_rfl
theorem fo24_0 : fo Try.prog 24 0 = some 0 := by kernel_rfl
theorem ty22 : ty Try.prog 22 = some (false, 1) := by kernel_rfl
theorem hbd22 : hasBody Try.prog 22 = true := by kernel_rfl
theorem fo30_1 : fo Try.prog 30 1 = some 3 := by kernel_rfl
theorem ty4 : ty Try.prog 4 = some (false, 1) := by kernel_rfl
theorem hbd24 : hasBody Try.prog 24 = true := by kernel_rfl
theorem fo30_2 : fo Try.prog 30 2 = some 4 := by kernel_rfl
theorem ty26 : ty Try.prog 26 = some (true, 8) := by kernel_rfl
theorem hbd25 : hasBody Try.prog 25 = true := by kernel_rfl
theorem mo : Try.prog.follows .mixedOrders = true := by kernel_rfl
theorem fo30_3 : fo Try.prog 30 3 = some 12 := by kernel_rfl
theorem ty27 : ty Try.prog 27 = some (false, 1) := by kernel_rfl
theorem ty52 : ty Try.prog 52 = some (true, 7) := by kernel_rfl
theorem zf52 : (Try.prog.info? 52).bind (fun i => i.zero.map Value.cells) = some (List.toArray [.int .i64 0, .slice none 0 0, .int .i64 0, .int .i64 0, .int .i64 0, .int .i64 0, .int .i64 0]) := by kernel_rfl
theorem hbd26 : hasBody Try.prog 26 = true := by kernel_rfl
theorem ai3 : (Try.prog.info? 3).map (fun i => (i.zero, i.size, i.bytes)) = some (some (.int .i64 0), 1, 8) := by kernel_rfl
theorem hbd27 : hasBody Try.prog 27 = true := by kernel_rfl
theorem fo30_4 : fo Try.prog 30 4 = some 13 := by kernel_rfl
theorem ty28 : ty Try.prog 28 = some (false, 1) := by kernel_rfl
theorem ty62 : ty Try.prog 62 = some (true, 2) := by kernel_rfl
theorem zf62 : (Try.prog.info? 62).bind (fun i => i.zero.map Value.cells) = some (List.toArray [.bool false, .int .i64 0]) := by kernel_rfl
theorem hbd28 : hasBody Try.prog 28 = true := by kernel_rfl
theorem fo62_1 : fo Try.prog 62 1 = some 1 := by kernel_rfl
theorem ty3 : ty Try.prog 3 = some (false, 1) := by kernel_rfl
theorem hbd23 : hasBody Try.prog 23 = true := by kernel_rfl
theorem hbd21 : hasBody Try.prog 21 = true := by kernel_rfl
theorem fo65_0 : fo Try.prog 65 0 = some 0 := by kernel_rfl
theorem ty34 : ty Try.prog 34 = some (false, 1) := by kernel_rfl
end Go.Proofs.Ythmkelkefmfmgaa.Sx.FK
namespace Go.Proofs.Ythmkelkefmfmgaa.Sx
open Go Go.SX Go.Proofs FK
theorem tree_ (cd : Int) (at_ : Int) (path : ByteArray) (op : Bool) (x0 : Int) (x1 : Int) (x2 : Int) (x3 : Int) (x4 : Int) (x5 : Int) (x6 : Int) (x7 : Int) (pA : Option Addr) (pc : Nat) (ps : List PV) (kA : Option Addr) (kc : Nat) (lf : List TK) (S : Nat → Prop) (wf : World) (hP : Fr ePL S wf pA ps) (hK : Fr eTK S wf kA lf) (hN : NP S wf ps) (hc : cd = 0) (hps : ps.length ≤ 8192) (hlf : lf.length ≤ 8192) (hS : ∀ p ∈ ps, p.steps.length ≤ 8192 ∧ ∀ s ∈ p.steps, (-9223372036854775808 ≤ s.kind ∧ s.kind ≤ 9223372036854775807) ∧ s.load.length ≤ 8192) :
  TR0 Try.prog 11 [.agg #[.int .i64 cd, .int .i64 at_, .string path, .bool op, .int .i64 x0, .int .i64 x1, .int .i64 x2, .int .i64 x3, .int .i64 x4, .int .i64 x5, .int .i64 x6, .int .i64 x7, .slice pA ps.length pc, .slice kA lf.length kc]] [] S wf (fun v_ C_ => ∃ (u : Value) (L : List TV), (vs L = okT op ⟨x0, x1, x2, x3, x4, x5, x6, x7⟩ ps lf) ∧ (L.length ≤ 1000000000000) ∧ v_ = u ∧ C_ = [rw_ eTV 90 (u) L, nest 9 3 L]) := by
 have hla := hP.len
 have hlk := hK.len
 refine TR.mk Try.func11 rfl Try.ntmps11 rfl rfl (fun w_ => ?_)
 refine .seq (.region ?_)
 refine .cons (st_boxa rfl rfl rfl rfl rfl (fun b1 => ?_))
 refine .v (ev_as rfl rfl) rfl ?_
 refine .go idQ (.seq (.region ?_))
 refine .v (ev_any (v := .agg #[.slice none 0 0]) rfl (by kernel_rfl) (fun _ => by kernel_rfl)) rfl ?_
 refine .cons (st_boxa rfl rfl rfl rfl rfl (fun b2 => ?_))
 refine .v (ev_as rfl rfl) rfl ?_
 refine .go idQ (.seq (.seq ?_))
 refine SC.nilrow eTV 90 ?_
 refine .region ?_
 refine .v (ev_fa rfl fo30_0 rfl (r := 0) rfl) rfl ?_
 refine .v (ev_fa rfl fo24_0 rfl (r := 0) rfl) rfl ?_
 refine .v (ev_ld1 rfl ty22 rfl (At.own1 2 rfl rfl)) rfl ?_
 refine .v (ev_cmp rfl rfl rfl rfl) rfl ?_
 refine .go idQ ?_
 refine .condI rfl bNE (fun h3 => ?_) (fun h3 => ?_)
 ·
  simp_all
 refine .skipgo idQ (.seq ?_)
 refine SC.draw mo [rw_ eTV 90 (.slice none 0 0) ([] : List TV), cel b2 [.slice none 0 0] 65] [] (.c .h (.c .h .n)) (fun _ _ _ c hc => by cases hc) (fun wf_4 hl_4 hx_4 hR_4 => ?_)
 refine SR.k 0 rfl (by kernel_rfl) rfl (ev_mv rfl rfl) ?_
 refine SR.k 2 rfl (by kernel_rfl) rfl (ev_mv rfl rfl) ?_
 refine SR.k 3 rfl (by kernel_rfl) rfl (ev_fa rfl fo30_1 rfl (r := 3) rfl) ?_
 refine SR.k 4 rfl (by kernel_rfl) rfl (ev_ld1 rfl ty4 rfl (At.d (At.lent hR_4 0 rfl rfl))) ?_
 refine SR.k 6 rfl (by kernel_rfl) rfl (ev_mv rfl rfl) ?_
 refine SR.k 7 rfl (by kernel_rfl) rfl (ev_fa rfl fo30_2 rfl (r := 4) rfl) ?_
 refine SR.k 8 rfl (by kernel_rfl) rfl (ev_lda (cs := [.int .i64 x0, .int .i64 x1, .int .i64 x2, .int .i64 x3, .int .i64 x4, .int .i64 x5, .int .i64 x6, .int .i64 x7]) rfl rfl (At.d (At.lent hR_4 0 rfl rfl)) ty26) ?_
 refine SR.one (j := 1) (by kernel_rfl) rfl (st_call0 rfl rfl rfl rfl hbd22 rfl (.c (.t .h) (.c .h .n)) (mtext b2 (.slice none 0 0) ([] : List TV) ⟨#[111, 107]⟩ _ _ (by first | omega | simp only [LL] <;> omega | simp <;> omega)) (fun v_q6 C_q6 q6 => ⟨tt0, ?_⟩))
 obtain ⟨u5, rfl, rfl⟩ := q6
 show SR _ _ _ _ _ _ _ _ _ ⟨_, _ :: _ :: _, _, _⟩
 refine SR.one (j := 5) (by kernel_rfl) rfl (st_call0 rfl rfl rfl rfl hbd24 rfl (.c .h (.c .h .n)) (mtruth b2 u5 (([] : List TV) ++ [sT ⟨#[111, 107]⟩]) op _ _ (by first | omega | simp only [LL] <;> omega | simp <;> omega)) (fun v_q8 C_q8 q8 => ⟨tt0, ?_⟩))
 obtain ⟨u7, rfl, rfl⟩ := q8
 show SR _ _ _ _ _ _ _ _ _ ⟨_, _ :: _ :: _, _, _⟩
 refine SR.one (j := 9) (by kernel_rfl) rfl (st_call0 rfl rfl rfl rfl hbd25 rfl (.c .h (.c .h .n)) (msums b2 u7 ((([] : List TV) ++ [sT ⟨#[111, 107]⟩]) ++ [TV.mk (TN.mk 2 op 0 ⟨#[]⟩ [] []) none 0 none 0]) x0 x1 x2 x3 x4 x5 x6 x7 _ _ (by first | omega | simp only [LL] <;> omega | simp <;> omega)) (fun v_q12 C_q12 q12 => ⟨tt0, ?_⟩))
 obtain ⟨u9, L10, M11, p13, p14, rfl, rfl⟩ := q12
 show SR _ _ _ _ _ _ _ _ _ ⟨_, _ :: _ :: _ :: _, _, _⟩
 subst p13
 have hM15 : M11.length = 9 := (vs_len M11).symm.trans ((congrArg List.length p14).trans rfl)
 refine SR.k 10 rfl (by kernel_rfl) rfl (ev_as rfl rfl) ?_
 refine SR.k 11 rfl (by kernel_rfl) rfl (ev_as rfl rfl) ?_
 refine SR.k 12 rfl (by kernel_rfl) rfl (ev_as rfl rfl) ?_
 refine SR.fin (by kernel_rfl) hl_4 hx_4 hR_4 (.c (.c (.c .n))) ?_
 refine SQ.go idQ ?_
 refine .seq ?_
 refine SC.nest0 9 3 ?_
 refine SC.packl (TN.mk 4 false 0 ⟨#[111, 107]⟩ [] []) .h rfl rfl ?_
 refine SC.packl (TN.mk 2 op 0 ⟨#[]⟩ [] []) .h rfl rfl ?_
 refine SC.nestapp (.c .h (.c (.t (.t .h)) .n)) ?_
 refine .region ?_
 refine .v (ev_as rfl rfl) rfl ?_
 refine .v (ev_as rfl rfl) rfl ?_
 refine .go idQ (.seq (.seq ?_))
 refine SC.nilrow eZ 3 ?_
 refine SC.nest0 9 3 ?_
 refine .region ?_
 refine .v (ev_fa rfl fo30_3 rfl (r := 12) rfl) rfl ?_
 refine .v (ev_ld1 rfl ty27 rfl (At.own1 5 rfl rfl)) rfl ?_
 refine .v (ev_len rfl Try.underlying27 rfl) rfl ?_
 refine .v (ev_mv rfl rfl) rfl ?_
 refine .go idQ (.block ?_)
 refine .loop (X := Int × Value × Value × (List TV) × (List TV) × (List Int)) (fun ⟨i, W, KV, LL, M, X⟩ => 0 ≤ i ∧ i ≤ ps.length ∧ LL = (((([] : List TV) ++ [sT ⟨#[111, 107]⟩]) ++ [TV.mk (TN.mk 2 op 0 ⟨#[]⟩ [] []) none 0 none 0]) ++ M11) ++ M ∧ plansF ((((([] : List TV) ++ [sT ⟨#[111, 107]⟩]) ++ [TV.mk (TN.mk 2 op 0 ⟨#[]⟩ [] []) none 0 none 0]) ++ M11)).length (ps.take i.toNat) ([], []) = (vs M, X) ∧ (LL.length : Int) = 11 + M.length ∧ (X.length : Int) = i ∧ (M.length : Int) ≤ 67200000 * i) (fun ⟨i, W, KV, LL, M, X⟩ => [(1, .pointer (some ⟨b1, 0, none⟩)), (3, .pointer (some ⟨b2, 0, none⟩)), (4, .int .i64 (([] : List TV).length : Int)), (5, .int .i64 ((([] : List TV) ++ [sT ⟨#[111, 107]⟩]).length : Int)), (6, .int .i64 ((((([] : List TV) ++ [sT ⟨#[111, 107]⟩]) ++ [TV.mk (TN.mk 2 op 0 ⟨#[]⟩ [] []) none 0 none 0]).length : Int) + 8)), (7, KV), (8, .slice none 0 0), (59, .slice pA ps.length pc), (60, .int .i64 (ps.length : Int)), (61, .int .i64 i)]) (fun ⟨i, W, KV, LL, M, X⟩ => [cel b2 [W] 65, rw_ eTV 90 (W) LL, nest 9 3 M, rw_ eZ 3 (KV) X, nest 9 3 (((([] : List TV) ++ [sT ⟨#[111, 107]⟩]) ++ [TV.mk (TN.mk 2 op 0 ⟨#[]⟩ [] []) none 0 none 0]) ++ M11), cel b1 [.int .i64 cd, .int .i64 at_, .string path, .bool op, .int .i64 x0, .int .i64 x1, .int .i64 x2, .int .i64 x3, .int .i64 x4, .int .i64 x5, .int .i64 x6, .int .i64 x7, .slice pA ps.length pc, .slice kA lf.length kc] 30]) (fun _ => S) (fun _ => wf) (fun ⟨i, W, KV, LL, M, X⟩ => (ps.length - i.toNat)) (fun a_ w_ hs_ hw_ => ⟨⟨0, u9, (.slice none 0 0), (((([] : List TV) ++ [sT ⟨#[111, 107]⟩]) ++ [TV.mk (TN.mk 2 op 0 ⟨#[]⟩ [] []) none 0 none 0]) ++ M11), ([] : List TV), ([] : List Int)⟩, (by exact ⟨by omega, by omega, by simp, rfl, by simp; omega, rfl, by simp⟩), hs_.mono (Sub.get (.c rfl (.c rfl (.c rfl (.c rfl (.c rfl (.c rfl (.c rfl (.c rfl (.c rfl (.c rfl .n))))))))))), hw_.keep (.c (.t (.t (.t .h))) (.c (.t (.t (.t .h))) (.c .h (.c .h (.c .h (.c .h .n))))))⟩) (fun ⟨i, W, KV, LL, M, X⟩ ⟨q_0, q_1, q_2, q_3, q_4, q_5, q_6⟩ => ?_)
 show SC _ _ _ _ _ ⟨[(1, .pointer (some ⟨b1, 0, none⟩)), (3, .pointer (some ⟨b2, 0, none⟩)), (4, .int .i64 (([] : List TV).length : Int)), (5, .int .i64 ((([] : List TV) ++ [sT ⟨#[111, 107]⟩]).length : Int)), (6, .int .i64 ((((([] : List TV) ++ [sT ⟨#[111, 107]⟩]) ++ [TV.mk (TN.mk 2 op 0 ⟨#[]⟩ [] []) none 0 none 0]).length : Int) + 8)), (7, KV), (8, .slice none 0 0), (59, .slice pA ps.length pc), (60, .int .i64 (ps.length : Int)), (61, .int .i64 i)], [cel b2 [W] 65, rw_ eTV 90 (W) LL, nest 9 3 M, rw_ eZ 3 (KV) X, nest 9 3 (((([] : List TV) ++ [sT ⟨#[111, 107]⟩]) ++ [TV.mk (TN.mk 2 op 0 ⟨#[]⟩ [] []) none 0 none 0]) ++ M11), cel b1 [.int .i64 cd, .int .i64 at_, .string path, .bool op, .int .i64 x0, .int .i64 x1, .int .i64 x2, .int .i64 x3, .int .i64 x4, .int .i64 x5, .int .i64 x6, .int .i64 x7, .slice pA ps.length pc, .slice kA lf.length kc] 30], S, wf⟩
 refine .seq (.region ?_)
 refine .v (ev_cmp rfl rfl rfl rfl) rfl ?_
 refine .go idQ (.seq ?_)
 refine .condI rfl bD (fun h16 => ?_) (fun h16 => ?_)
 ·
  refine .skipgo idQ (.seq (.block (.seq (.region ?_))))
  refine .v (ev_ix rfl Try.underlying27 ty52 rfl rfl (by omega) (by omega) (fun _ _ => Fr.adr (i := i) hP (by omega) (by omega))) rfl ?_
  refine .v (ev_lda rfl rfl (At.w (Fr.el (i := i) hP (by omega) (by omega))) ty52) rfl ?_
  refine .cons (st_alloc rfl rfl rfl rfl zf52 (fun b17 => ?_))
  refine .cons (st_storea (l' := [.int .i64 ((gt ps i).veh), .slice ((gt ps i).sA) ((gt ps i).steps.length) ((gt ps i).sc), .int .i64 ((gt ps i).time), .int .i64 ((gt ps i).dist), .int .i64 ((gt ps i).wait), .int .i64 ((gt ps i).serv), .int .i64 ((gt ps i).cost)]) rfl rfl rfl ty52 rfl rfl rfl .h rfl rfl ?_)
  refine .go idQ (.region ?_)
  refine .v (ev_mv rfl rfl) rfl ?_
  refine .v (ev_mv rfl rfl) rfl ?_
  refine .v (ev_lda rfl rfl (At.whole 0 rfl) ty52) rfl ?_
  refine .cons (st_call0 rfl rfl rfl rfl hbd26 rfl (.c (.t .h) (.c (.t .h) .n)) (mplan b2 W LL ((gt ps i).veh) ((gt ps i).sA) ((gt ps i).sc) ((gt ps i).steps) ((gt ps i).time) ((gt ps i).dist) ((gt ps i).wait) ((gt ps i).serv) ((gt ps i).cost) _ _ ((hN _ (gt_mem (i := i) (by omega) (by omega))).1) ((hN _ (gt_mem (i := i) (by omega) (by omega))).2) (by first | omega | simp only [LL] <;> omega | simp <;> omega) (hS _ (gt_mem (i := i) (by omega) (by omega))).1 (hS _ (gt_mem (i := i) (by omega) (by omega))).2) (fun v_q21 C_q21 q21 => ?_))
  obtain ⟨u18, L19, M20, p22, p23, p24, rfl, rfl⟩ := q21
  show SP _ _ _ _ _ _ ⟨_, _ :: _ :: _ :: _, _, _⟩
  subst p22
  refine .cons (st_lit eZ (e := 3) (l := [(((LL ++ M20).length : Int) - 1)]) rfl rfl rfl rfl (by kernel_rfl) rfl rfl (fun w => by kernel_rfl) (fun b25 => ?_))
  refine .cons (st_app (E := eZ) (m := [(((LL ++ M20).length : Int) - 1)]) rfl rfl rfl rfl Try.underlying56 ai3 rfl rfl rfl (.t (.t (.t (.t (.t (.t .h)))))) (by first | rfl | omega | simp) (row_src 0 rfl) (by first | omega | simp only [LL] <;> omega | simp <;> omega) rfl (fun v26 => ?_))
  refine .v (ev_as rfl rfl) rfl ?_
  refine .go idQ ?_
  refine SC.nestapp (.c (.t (.t (.t (.t (.t (.t .h)))))) (.c (.t (.t (.t (.t .h)))) .n)) ?_
  refine .region ?_
  refine .v (ev_add rfl rfl rfl (r := (i + 1)) rfl (by omega) (by omega)) rfl ?_
  refine .v (ev_mv rfl rfl) rfl ?_
  exact SP.nil (SQ.roundb (X := Int × Value × Value × (List TV) × (List TV) × (List Int)) (x := (i, W, KV, LL, M, X)) ⟨(i + 1), u18, v26, (LL ++ M20), (M ++ M20), (X ++ [(((LL ++ M20).length : Int) - 1)])⟩ (by exact ⟨by omega, by omega, by rw [q_2, List.append_assoc], plans_next q_3 p23 (by simp only [List.length_append, List.length_cons, List.length_nil]; omega) (by simp only [List.length_append]; omega) (by omega) (by omega), by simp only [List.length_append]; omega, by rw [List.length_append]; simp; omega, by rw [List.length_append]; omega⟩) (by dsimp only; omega) (Sub.get (.c rfl (.c rfl (.c rfl (.c rfl (.c rfl (.c rfl (.c rfl (.c rfl (.c rfl (.c rfl .n))))))))))) (fun w hw => hw.keep (.c (.t (.t (.t .h))) (.c (.t (.t (.t .h))) (.c .h (.c .h (.c (.t (.t .h)) (.c (.t (.t .h)) .n))))))))
 refine .exit idQ ?_
 refine .seq (.region ?_)
 refine .v (ev_mv rfl rfl) rfl ?_
 refine .v (ev_mv rfl rfl) rfl ?_
 refine .know (row_len 3 rfl) (fun hv29 => ?_)
 obtain ⟨A27, c28, rfl, hv29_1, hv29_2⟩ := hv29
 unfold maxLen at hv29_2
 refine .cons (st_call0 rfl rfl rfl rfl hbd27 rfl (.c .h (.c .h .n)) (mlist b2 W LL A27 c28 X _ _ (by first | omega | simp only [LL] <;> omega | simp <;> omega)) (fun v_q31 C_q31 q31 => ?_))
 obtain ⟨u30, rfl, rfl⟩ := q31
 show SP _ _ _ _ _ _ ⟨_, _ :: _ :: _, _, _⟩
 refine .v (ev_as rfl rfl) rfl ?_
 refine .go idQ (.seq (.seq ?_))
 have hq3 : plansF ((((([] : List TV) ++ [sT ⟨#[111, 107]⟩]) ++ [TV.mk (TN.mk 2 op 0 ⟨#[]⟩ [] []) none 0 none 0]) ++ M11)).length ps ([], []) = (vs M, X) := by have h_ := q_3; rw [List.take_of_length_le (by omega)] at h_; exact h_
 have hq5 : (X.length : Int) = ps.length := by omega
 subst q_2
 clear q_0 q_1 q_3
 have hML : (M.length : Int) ≤ 67200000 * 8192 := by omega
 refine SC.nestapp (.c (.t (.t (.t (.t .h)))) (.c (.t (.t .h)) .n)) ?_
 refine SC.nilrow eS 9 ?_
 refine SC.pack (TV.mk (TN.mk 5 false 0 ⟨#[]⟩ [] X) none 0 A27 c28) (.c (.t .h) (.c .h (.c (.t (.t .h)) .n))) (by first | omega | (simp; done) | (simp; omega)) (by first | omega | (simp; done) | (simp; omega)) ?_
 refine SC.nilrow eZ 3 ?_
 refine SC.nest0 9 3 ?_
 refine .region ?_
 refine .v (ev_fa rfl fo30_4 rfl (r := 13) rfl) rfl ?_
 refine .v (ev_ld1 rfl ty28 rfl (At.own1 5 rfl rfl)) rfl ?_
 refine .v (ev_len rfl Try.underlying28 rfl) rfl ?_
 refine .v (ev_mv rfl rfl) rfl ?_
 refine .go idQ (.block ?_)
 refine .loop (X := Int × Value × Value × (List TV) × (List TV) × (List Int)) (fun ⟨i, W, KV, LM, M2, X2⟩ => 0 ≤ i ∧ i ≤ lf.length ∧ LM = (((((([] : List TV) ++ [sT ⟨#[111, 107]⟩]) ++ [TV.mk (TN.mk 2 op 0 ⟨#[]⟩ [] []) none 0 none 0]) ++ M11) ++ M) ++ [TV.mk (TN.mk 5 false 0 ⟨#[]⟩ [] X) none 0 A27 c28]) ++ M2 ∧ tasksF ((((((([] : List TV) ++ [sT ⟨#[111, 107]⟩]) ++ [TV.mk (TN.mk 2 op 0 ⟨#[]⟩ [] []) none 0 none 0]) ++ M11) ++ M) ++ [TV.mk (TN.mk 5 false 0 ⟨#[]⟩ [] X) none 0 A27 c28])).length (lf.take i.toNat) ([], []) = (vs M2, X2) ∧ (LM.length : Int) = 12 + M.length + M2.length ∧ (X2.length : Int) = i ∧ (M2.length : Int) = 3 * i) (fun ⟨i, W, KV, LM, M2, X2⟩ => [(3, .pointer (some ⟨b2, 0, none⟩)), (4, .int .i64 (([] : List TV).length : Int)), (5, .int .i64 ((([] : List TV) ++ [sT ⟨#[111, 107]⟩]).length : Int)), (6, .int .i64 ((((([] : List TV) ++ [sT ⟨#[111, 107]⟩]) ++ [TV.mk (TN.mk 2 op 0 ⟨#[]⟩ [] []) none 0 none 0]).length : Int) + 8)), (8, KV), (11, .int .i64 (((((([] : List TV) ++ [sT ⟨#[111, 107]⟩]) ++ [TV.mk (TN.mk 2 op 0 ⟨#[]⟩ [] []) none 0 none 0]) ++ M11) ++ M).length : Int)), (76, .slice kA lf.length kc), (77, .int .i64 (lf.length : Int)), (78, .int .i64 i)]) (fun ⟨i, W, KV, LM, M2, X2⟩ => [cel b2 [W] 65, rw_ eTV 90 (W) LM, nest 9 3 M2, rw_ eZ 3 (KV) X2, nest 9 3 (((((([] : List TV) ++ [sT ⟨#[111, 107]⟩]) ++ [TV.mk (TN.mk 2 op 0 ⟨#[]⟩ [] []) none 0 none 0]) ++ M11) ++ M) ++ [TV.mk (TN.mk 5 false 0 ⟨#[]⟩ [] X) none 0 A27 c28])]) (fun _ => S) (fun _ => wf) (fun ⟨i, W, KV, LM, M2, X2⟩ => (lf.length - i.toNat)) (fun a_ w_ hs_ hw_ => ⟨⟨0, u30, (.slice none 0 0), (((((([] : List TV) ++ [sT ⟨#[111, 107]⟩]) ++ [TV.mk (TN.mk 2 op 0 ⟨#[]⟩ [] []) none 0 none 0]) ++ M11) ++ M) ++ [TV.mk (TN.mk 5 false 0 ⟨#[]⟩ [] X) none 0 A27 c28]), ([] : List TV), ([] : List Int)⟩, (by exact ⟨by omega, by omega, by simp, rfl, by simp; omega, rfl, by simp⟩), hs_.mono (Sub.get (.c rfl (.c rfl (.c rfl (.c rfl (.c rfl (.c rfl (.c rfl (.c rfl (.c rfl .n)))))))))), hw_.keep (.c (.t (.t (.t .h))) (.c (.t (.t (.t .h))) (.c .h (.c .h (.c .h .n)))))⟩) (fun ⟨i, W, KV, LM, M2, X2⟩ ⟨r_0, r_1, r_2, r_3, r_4, r_5, r_6⟩ => ?_)
 show SC _ _ _ _ _ ⟨[(3, .pointer (some ⟨b2, 0, none⟩)), (4, .int .i64 (([] : List TV).length : Int)), (5, .int .i64 ((([] : List TV) ++ [sT ⟨#[111, 107]⟩]).length : Int)), (6, .int .i64 ((((([] : List TV) ++ [sT ⟨#[111, 107]⟩]) ++ [TV.mk (TN.mk 2 op 0 ⟨#[]⟩ [] []) none 0 none 0]).length : Int) + 8)), (8, KV), (11, .int .i64 (((((([] : List TV) ++ [sT ⟨#[111, 107]⟩]) ++ [TV.mk (TN.mk 2 op 0 ⟨#[]⟩ [] []) none 0 none 0]) ++ M11) ++ M).length : Int)), (76, .slice kA lf.length kc), (77, .int .i64 (lf.length : Int)), (78, .int .i64 i)], [cel b2 [W] 65, rw_ eTV 90 (W) LM, nest 9 3 M2, rw_ eZ 3 (KV) X2, nest 9 3 (((((([] : List TV) ++ [sT ⟨#[111, 107]⟩]) ++ [TV.mk (TN.mk 2 op 0 ⟨#[]⟩ [] []) none 0 none 0]) ++ M11) ++ M) ++ [TV.mk (TN.mk 5 false 0 ⟨#[]⟩ [] X) none 0 A27 c28])], S, wf⟩
 refine .seq (.region ?_)
 refine .v (ev_cmp rfl rfl rfl rfl) rfl ?_
 refine .go idQ (.seq ?_)
 refine .condI rfl bD (fun h32 => ?_) (fun h32 => ?_)
 ·
  refine .skipgo idQ (.seq (.block (.seq (.region ?_))))
  refine .v (ev_ix rfl Try.underlying28 ty62 rfl rfl (by omega) (by omega) (fun _ _ => Fr.adr (i := i) hK (by omega) (by omega))) rfl ?_
  refine .v (ev_lda rfl rfl (At.w (Fr.el (i := i) hK (by omega) (by omega))) ty62) rfl ?_
  refine .cons (st_alloc rfl rfl rfl rfl zf62 (fun b33 => ?_))
  refine .cons (st_storea (l' := [.bool ((gt lf i).ship), .int .i64 ((gt lf i).item)]) rfl rfl rfl ty62 rfl rfl rfl .h rfl rfl ?_)
  refine .go idQ ?_
  refine SC.draw mo [cel b2 [W] 65, rw_ eTV 90 (W) LM, rw_ eZ 3 (KV) X2] [] (.c (.t .h) (.c (.t .h) (.c (.t (.t .h)) .n))) (fun _ _ _ c hc => by cases hc) (fun wf_34 hl_34 hx_34 hR_34 => ?_)
  refine SR.k 0 rfl (by kernel_rfl) rfl (ev_mv rfl rfl) ?_
  refine SR.k 1 rfl (by kernel_rfl) rfl (ev_mv rfl rfl) ?_
  refine SR.k 2 rfl (by kernel_rfl) rfl (ev_mv rfl rfl) ?_
  refine SR.k 3 rfl (by kernel_rfl) rfl (ev_lda (cs := [.bool ((gt lf i).ship), .int .i64 ((gt lf i).item)]) rfl rfl (At.d (At.lent hR_34 0 rfl rfl)) ty62) ?_
  refine SR.k 7 rfl (by kernel_rfl) rfl (ev_mv rfl rfl) ?_
  refine SR.k 8 rfl (by kernel_rfl) rfl (ev_fa rfl fo62_1 rfl (r := 1) rfl) ?_
  refine SR.k 9 rfl (by kernel_rfl) rfl (ev_ld1 rfl ty3 rfl (At.d (At.lent hR_34 0 rfl rfl))) ?_
  refine SR.one (j := 4) (by kernel_rfl) rfl (st_callk rfl rfl rfl rfl hbd28 rfl .n (word_ ((gt lf i).ship) ((gt lf i).item) _ _) ⟨tt0, ?_⟩)
  refine SR.one (j := 5) (by kernel_rfl) rfl (st_call0 rfl rfl rfl rfl hbd22 rfl (.c .h (.c .h .n)) (mtext b2 W LM (wordT ((gt lf i).ship)) _ _ (by first | omega | simp only [LL] <;> omega | simp <;> omega)) (fun v_q36 C_q36 q36 => ⟨tt0, ?_⟩))
  obtain ⟨u35, rfl, rfl⟩ := q36
  show SR _ _ _ _ _ _ _ _ _ ⟨_, _ :: _ :: _, _, _⟩
  refine SR.k 6 rfl (by kernel_rfl) rfl (ev_any (v := .agg #[.string ⟨#[116, 121, 112, 101]⟩, .int .i64 (LM.length : Int)]) rfl (by kernel_rfl) (fun _ => by kernel_rfl)) ?_
  refine SR.one (j := 10) (by kernel_rfl) rfl (st_call0 rfl rfl rfl rfl hbd23 rfl (.c .h (.c .h .n)) (mnum b2 u35 (LM ++ [sT (wordT ((gt lf i).ship))]) ((gt lf i).item) _ _ (by first | omega | simp only [LL] <;> omega | simp <;> omega)) (fun v_q38 C_q38 q38 => ⟨tt0, ?_⟩))
  obtain ⟨u37, rfl, rfl⟩ := q38
  show SR _ _ _ _ _ _ _ _ _ ⟨_, _ :: _ :: _, _, _⟩
  refine SR.k 11 rfl (by kernel_rfl) rfl (ev_any (v := .agg #[.string ⟨#[105, 116, 101, 109]⟩, .int .i64 ((LM ++ [sT (wordT ((gt lf i).ship))]).length : Int)]) rfl (by kernel_rfl) (fun _ => by kernel_rfl)) ?_
  refine SR.one (j := 12) (by kernel_rfl) rfl (st_lit ePr (e := 69) (l := [(Pr.mk ⟨#[116, 121, 112, 101]⟩ (LM.length : Int)), (Pr.mk ⟨#[105, 116, 101, 109]⟩ ((LM ++ [sT (wordT ((gt lf i).ship))]).length : Int))]) rfl rfl rfl rfl (by kernel_rfl) rfl rfl (fun w => by kernel_rfl) (fun b39 => ⟨tt0, ?_⟩))
  refine SR.one (j := 13) (by kernel_rfl) rfl (st_lend0 rfl rfl rfl rfl hbd21 rfl (.c (.t .h) (.c (.t .h) .n)) (.c .h .n) (fun w_ hw => mobject b2 u37 ((LM ++ [sT (wordT ((gt lf i).ship))]) ++ [nT ((gt lf i).item)]) (some ⟨b39, 0, none⟩) 2 2 [(Pr.mk ⟨#[116, 121, 112, 101]⟩ (LM.length : Int)), (Pr.mk ⟨#[105, 116, 101, 109]⟩ ((LM ++ [sT (wordT ((gt lf i).ship))]).length : Int))] _ _ (Fr.lend hw 0 rfl (by first | omega | simp only [LL] <;> omega | simp <;> omega)) (by first | omega | simp only [LL] <;> omega | simp <;> omega) (by first | omega | simp only [LL] <;> omega | simp <;> omega) (by first | omega | simp only [LL] <;> omega | simp <;> omega)) (fun v_q45 C_q45 q45 => ⟨tt0, ?_⟩))
  obtain ⟨u40, nA41, nc42, kA43, kc44, rfl, rfl⟩ := q45
  show SR _ _ _ _ _ _ _ _ _ ⟨_, _ :: _ :: _ :: _ :: _ :: _, _, _⟩
  refine SR.one (j := 14) (by kernel_rfl) rfl (st_lit eZ (e := 3) (l := [(((LM ++ [sT (wordT ((gt lf i).ship))]) ++ [nT ((gt lf i).item)]).length : Int)]) rfl rfl rfl rfl (by kernel_rfl) rfl rfl (fun w => by kernel_rfl) (fun b46 => ⟨tt0, ?_⟩))
  refine SR.one (j := 15) (by kernel_rfl) rfl (st_app (E := eZ) (m := [(((LM ++ [sT (wordT ((gt lf i).ship))]) ++ [nT ((gt lf i).item)]).length : Int)]) rfl rfl rfl rfl Try.underlying56 ai3 rfl rfl rfl (.t (.t (.t (.t (.t (.t .h)))))) (by first | rfl | omega | simp) (row_src 0 rfl) (by first | omega | simp only [LL] <;> omega | simp <;> omega) rfl (fun v47 => ⟨tt0, ?_⟩))
  refine SR.k 16 rfl (by kernel_rfl) rfl (ev_as rfl rfl) ?_
  refine SR.fin (by kernel_rfl) hl_34 hx_34 hR_34 (.c (.c (.c (.c (.c (.c (.c .n))))))) ?_
  refine SQ.go idQ ?_
  refine SC.packl (TN.mk 4 false 0 (wordT ((gt lf i).ship)) [] []) (.t (.t (.t (.t (.t (.t (.t (.t .h)))))))) rfl rfl ?_
  refine SC.packl (TN.mk 3 false ((gt lf i).item) ⟨#[]⟩ [] []) .h rfl rfl ?_
  refine SC.pack (TV.mk (TN.mk 6 false 0 ⟨#[]⟩ ([(Pr.mk ⟨#[116, 121, 112, 101]⟩ (LM.length : Int)), (Pr.mk ⟨#[105, 116, 101, 109]⟩ ((LM ++ [sT (wordT ((gt lf i).ship))]).length : Int))].map Pr.name) ([(Pr.mk ⟨#[116, 121, 112, 101]⟩ (LM.length : Int)), (Pr.mk ⟨#[105, 116, 101, 109]⟩ ((LM ++ [sT (wordT ((gt lf i).ship))]).length : Int))].map Pr.pos)) nA41 nc42 kA43 kc44) (.c .h (.c (.t (.t (.t (.t .h)))) (.c (.t (.t (.t (.t .h)))) .n))) (by first | omega | (simp; done) | (simp; omega)) (by first | omega | (simp; done) | (simp; omega)) ?_
  refine .region ?_
  refine .v (ev_add rfl rfl rfl (r := (i + 1)) rfl (by omega) (by omega)) rfl ?_
  refine .v (ev_mv rfl rfl) rfl ?_
  exact SP.nil (SQ.roundb (X := Int × Value × Value × (List TV) × (List TV) × (List Int)) (x := (i, W, (.slice A27 X.length c28), LM, M2, X2)) ⟨(i + 1), u40, v47, (((LM ++ [sT (wordT ((gt lf i).ship))]) ++ [nT ((gt lf i).item)]) ++ [TV.mk (TN.mk 6 false 0 ⟨#[]⟩ ([(Pr.mk ⟨#[116, 121, 112, 101]⟩ (LM.length : Int)), (Pr.mk ⟨#[105, 116, 101, 109]⟩ ((LM ++ [sT (wordT ((gt lf i).ship))]).length : Int))].map Pr.name) ([(Pr.mk ⟨#[116, 121, 112, 101]⟩ (LM.length : Int)), (Pr.mk ⟨#[105, 116, 101, 109]⟩ ((LM ++ [sT (wordT ((gt lf i).ship))]).length : Int))].map Pr.pos)) nA41 nc42 kA43 kc44]), (((M2 ++ [sT (wordT ((gt lf i).ship))]) ++ [nT ((gt lf i).item)]) ++ [TV.mk (TN.mk 6 false 0 ⟨#[]⟩ ([(Pr.mk ⟨#[116, 121, 112, 101]⟩ (LM.length : Int)), (Pr.mk ⟨#[105, 116, 101, 109]⟩ ((LM ++ [sT (wordT ((gt lf i).ship))]).length : Int))].map Pr.name) ([(Pr.mk ⟨#[116, 121, 112, 101]⟩ (LM.length : Int)), (Pr.mk ⟨#[105, 116, 101, 109]⟩ ((LM ++ [sT (wordT ((gt lf i).ship))]).length : Int))].map Pr.pos)) nA41 nc42 kA43 kc44]), (X2 ++ [(((LM ++ [sT (wordT ((gt lf i).ship))]) ++ [nT ((gt lf i).item)]).length : Int)])⟩ (by exact ⟨by omega, by omega, by rw [r_2]; simp only [List.append_assoc], tasks_next (b := (LM.length : Int)) r_3 (by simp only [List.length_append, List.length_cons, List.length_nil]; omega) rfl (by simp only [List.map_cons, List.map_nil, List.map_append, List.length_append, List.length_cons, List.length_nil, List.cons_append, List.nil_append, List.cons.injEq, and_true, true_and]; and_intros <;> omega) (by simp <;> omega) (by omega) (by omega), by simp only [List.length_append, List.length_cons, List.length_nil]; omega, by rw [List.length_append]; simp; omega, by simp only [List.length_append, List.length_cons, List.length_nil]; omega⟩) (by dsimp only; omega) (Sub.get (.c rfl (.c rfl (.c rfl (.c rfl (.c rfl (.c rfl (.c rfl (.c rfl (.c rfl .n)))))))))) (fun w hw => hw.keep (.c (.t (.t (.t .h))) (.c (.t (.t (.t .h))) (.c .h (.c .h (.c (.t (.t (.t .h))) .n)))))))
 refine .exit idQ ?_
 refine .seq (.region ?_)
 refine .v (ev_mv rfl rfl) rfl ?_
 refine .v (ev_mv rfl rfl) rfl ?_
 refine .v (ev_any (v := .agg #[.string ⟨#[115, 116, 97, 116, 117, 115]⟩, .int .i64 (([] : List TV).length : Int)]) rfl (by kernel_rfl) (fun _ => by kernel_rfl)) rfl ?_
 refine .v (ev_mv rfl rfl) rfl ?_
 refine .v (ev_any (v := .agg #[.string ⟨#[111, 112, 116, 105, 109, 97, 108]⟩, .int .i64 ((([] : List TV) ++ [sT ⟨#[111, 107]⟩]).length : Int)]) rfl (by kernel_rfl) (fun _ => by kernel_rfl)) rfl ?_
 refine .v (ev_mv rfl rfl) rfl ?_
 refine .v (ev_any (v := .agg #[.string ⟨#[115, 117, 109, 109, 97, 114, 121]⟩, .int .i64 ((((([] : List TV) ++ [sT ⟨#[111, 107]⟩]) ++ [TV.mk (TN.mk 2 op 0 ⟨#[]⟩ [] []) none 0 none 0]).length : Int) + 8)]) rfl (by kernel_rfl) (fun _ => by kernel_rfl)) rfl ?_
 refine .v (ev_mv rfl rfl) rfl ?_
 refine .v (ev_any (v := .agg #[.string ⟨#[114, 111, 117, 116, 101, 115]⟩, .int .i64 (((((([] : List TV) ++ [sT ⟨#[111, 107]⟩]) ++ [TV.mk (TN.mk 2 op 0 ⟨#[]⟩ [] []) none 0 none 0]) ++ M11) ++ M).length : Int)]) rfl (by kernel_rfl) (fun _ => by kernel_rfl)) rfl ?_
 refine .v (ev_mv rfl rfl) rfl ?_
 refine .v (ev_mv rfl rfl) rfl ?_
 refine .know (row_len 3 rfl) (fun hv50 => ?_)
 obtain ⟨A48, c49, rfl, hv50_1, hv50_2⟩ := hv50
 unfold maxLen at hv50_2
 refine .cons (st_call0 rfl rfl rfl rfl hbd27 rfl (.c .h (.c .h .n)) (mlist b2 W LM A48 c49 X2 _ _ (by first | omega | simp only [LL] <;> omega | simp <;> omega)) (fun v_q52 C_q52 q52 => ?_))
 obtain ⟨u51, rfl, rfl⟩ := q52
 show SP _ _ _ _ _ _ ⟨_, _ :: _ :: _, _, _⟩
 refine .v (ev_any (v := .agg #[.string ⟨#[117, 110, 97, 115, 115, 105, 103, 110, 101, 100]⟩, .int .i64 (LM.length : Int)]) rfl (by kernel_rfl) (fun _ => by kernel_rfl)) rfl ?_
 refine .cons (st_lit ePr (e := 69) (l := [(Pr.mk ⟨#[115, 116, 97, 116, 117, 115]⟩ (([] : List TV).length : Int)), (Pr.mk ⟨#[111, 112, 116, 105, 109, 97, 108]⟩ ((([] : List TV) ++ [sT ⟨#[111, 107]⟩]).length : Int)), (Pr.mk ⟨#[115, 117, 109, 109, 97, 114, 121]⟩ ((((([] : List TV) ++ [sT ⟨#[111, 107]⟩]) ++ [TV.mk (TN.mk 2 op 0 ⟨#[]⟩ [] []) none 0 none 0]).length : Int) + 8)), (Pr.mk ⟨#[114, 111, 117, 116, 101, 115]⟩ (((((([] : List TV) ++ [sT ⟨#[111, 107]⟩]) ++ [TV.mk (TN.mk 2 op 0 ⟨#[]⟩ [] []) none 0 none 0]) ++ M11) ++ M).length : Int)), (Pr.mk ⟨#[117, 110, 97, 115, 115, 105, 103, 110, 101, 100]⟩ (LM.length : Int))]) rfl rfl rfl rfl (by kernel_rfl) rfl rfl (fun w => by kernel_rfl) (fun b53 => ?_))
 refine .cons (st_lend0 rfl rfl rfl rfl hbd21 rfl (.c (.t .h) (.c (.t .h) .n)) (.c .h .n) (fun w_ hw => mobject b2 u51 (LM ++ [TV.mk (TN.mk 5 false 0 ⟨#[]⟩ [] X2) none 0 A48 c49]) (some ⟨b53, 0, none⟩) 5 5 [(Pr.mk ⟨#[115, 116, 97, 116, 117, 115]⟩ (([] : List TV).length : Int)), (Pr.mk ⟨#[111, 112, 116, 105, 109, 97, 108]⟩ ((([] : List TV) ++ [sT ⟨#[111, 107]⟩]).length : Int)), (Pr.mk ⟨#[115, 117, 109, 109, 97, 114, 121]⟩ ((((([] : List TV) ++ [sT ⟨#[111, 107]⟩]) ++ [TV.mk (TN.mk 2 op 0 ⟨#[]⟩ [] []) none 0 none 0]).length : Int) + 8)), (Pr.mk ⟨#[114, 111, 117, 116, 101, 115]⟩ (((((([] : List TV) ++ [sT ⟨#[111, 107]⟩]) ++ [TV.mk (TN.mk 2 op 0 ⟨#[]⟩ [] []) none 0 none 0]) ++ M11) ++ M).length : Int)), (Pr.mk ⟨#[117, 110, 97, 115, 115, 105, 103, 110, 101, 100]⟩ (LM.length : Int))] _ _ (Fr.lend hw 0 rfl (by first | omega | simp only [LL] <;> omega | simp <;> omega)) (by first | omega | simp only [LL] <;> omega | simp <;> omega) (by first | omega | simp only [LL] <;> omega | simp <;> omega) (by first | omega | simp only [LL] <;> omega | simp <;> omega)) (fun v_q59 C_q59 q59 => ?_))
 obtain ⟨u54, nA55, nc56, kA57, kc58, rfl, rfl⟩ := q59
 show SP _ _ _ _ _ _ ⟨_, _ :: _ :: _ :: _ :: _ :: _, _, _⟩
 refine .go idQ (.seq (.region ?_))
 refine .v (ev_mv rfl rfl) rfl ?_
 refine .v (ev_nil rfl rfl) rfl ?_
 refine .v (ev_fa rfl fo65_0 rfl (r := 0) rfl) rfl ?_
 refine .v (ev_ld1 rfl ty34 rfl (At.own1 0 rfl rfl)) rfl ?_
 refine .v (ev_as rfl rfl) rfl ?_
 refine .go idQ ?_
 subst r_2
 refine SC.nestapp (.c (.t (.t (.t (.t (.t (.t (.t .h))))))) (.c (.t (.t (.t (.t (.t .h))))) .n)) ?_
 refine SC.nilrow eS 9 ?_
 refine SC.pack (TV.mk (TN.mk 5 false 0 ⟨#[]⟩ [] X2) none 0 A48 c49) (.c (.t .h) (.c .h (.c (.t (.t (.t (.t (.t .h))))) .n))) (by first | omega | (simp; done) | (simp; omega)) (by first | omega | (simp; done) | (simp; omega)) ?_
 refine SC.pack (TV.mk (TN.mk 6 false 0 ⟨#[]⟩ ([(Pr.mk ⟨#[115, 116, 97, 116, 117, 115]⟩ (([] : List TV).length : Int)), (Pr.mk ⟨#[111, 112, 116, 105, 109, 97, 108]⟩ ((([] : List TV) ++ [sT ⟨#[111, 107]⟩]).length : Int)), (Pr.mk ⟨#[115, 117, 109, 109, 97, 114, 121]⟩ ((((([] : List TV) ++ [sT ⟨#[111, 107]⟩]) ++ [TV.mk (TN.mk 2 op 0 ⟨#[]⟩ [] []) none 0 none 0]).length : Int) + 8)), (Pr.mk ⟨#[114, 111, 117, 116, 101, 115]⟩ (((((([] : List TV) ++ [sT ⟨#[111, 107]⟩]) ++ [TV.mk (TN.mk 2 op 0 ⟨#[]⟩ [] []) none 0 none 0]) ++ M11) ++ M).length : Int)), (Pr.mk ⟨#[117, 110, 97, 115, 115, 105, 103, 110, 101, 100]⟩ (((((((([] : List TV) ++ [sT ⟨#[111, 107]⟩]) ++ [TV.mk (TN.mk 2 op 0 ⟨#[]⟩ [] []) none 0 none 0]) ++ M11) ++ M) ++ [TV.mk (TN.mk 5 false 0 ⟨#[]⟩ [] X) none 0 A27 c28]) ++ M2).length : Int))].map Pr.name) ([(Pr.mk ⟨#[115, 116, 97, 116, 117, 115]⟩ (([] : List TV).length : Int)), (Pr.mk ⟨#[111, 112, 116, 105, 109, 97, 108]⟩ ((([] : List TV) ++ [sT ⟨#[111, 107]⟩]).length : Int)), (Pr.mk ⟨#[115, 117, 109, 109, 97, 114, 121]⟩ ((((([] : List TV) ++ [sT ⟨#[111, 107]⟩]) ++ [TV.mk (TN.mk 2 op 0 ⟨#[]⟩ [] []) none 0 none 0]).length : Int) + 8)), (Pr.mk ⟨#[114, 111, 117, 116, 101, 115]⟩ (((((([] : List TV) ++ [sT ⟨#[111, 107]⟩]) ++ [TV.mk (TN.mk 2 op 0 ⟨#[]⟩ [] []) none 0 none 0]) ++ M11) ++ M).length : Int)), (Pr.mk ⟨#[117, 110, 97, 115, 115, 105, 103, 110, 101, 100]⟩ (((((((([] : List TV) ++ [sT ⟨#[111, 107]⟩]) ++ [TV.mk (TN.mk 2 op 0 ⟨#[]⟩ [] []) none 0 none 0]) ++ M11) ++ M) ++ [TV.mk (TN.mk 5 false 0 ⟨#[]⟩ [] X) none 0 A27 c28]) ++ M2).length : Int))].map Pr.pos)) nA55 nc56 kA57 kc58) (.c .h (.c (.t (.t .h)) (.c (.t (.t .h)) .n))) (by first | omega | (simp; done) | (simp; omega)) (by first | omega | (simp; done) | (simp; omega)) ?_
 exact .ret idQ (ret1 Try.results11 rfl (.c (.t (.t .h)) (.c .h .n)) ⟨u54, ((((((((([] : List TV) ++ [sT ⟨#[111, 107]⟩]) ++ [TV.mk (TN.mk 2 op 0 ⟨#[]⟩ [] []) none 0 none 0]) ++ M11) ++ M) ++ [TV.mk (TN.mk 5 false 0 ⟨#[]⟩ [] X) none 0 A27 c28]) ++ M2) ++ [TV.mk (TN.mk 5 false 0 ⟨#[]⟩ [] X2) none 0 A48 c49]) ++ [TV.mk (TN.mk 6 false 0 ⟨#[]⟩ ([(Pr.mk ⟨#[115, 116, 97, 116, 117, 115]⟩ (([] : List TV).length : Int)), (Pr.mk ⟨#[111, 112, 116, 105, 109, 97, 108]⟩ ((([] : List TV) ++ [sT ⟨#[111, 107]⟩]).length : Int)), (Pr.mk ⟨#[115, 117, 109, 109, 97, 114, 121]⟩ ((((([] : List TV) ++ [sT ⟨#[111, 107]⟩]) ++ [TV.mk (TN.mk 2 op 0 ⟨#[]⟩ [] []) none 0 none 0]).length : Int) + 8)), (Pr.mk ⟨#[114, 111, 117, 116, 101, 115]⟩ (((((([] : List TV) ++ [sT ⟨#[111, 107]⟩]) ++ [TV.mk (TN.mk 2 op 0 ⟨#[]⟩ [] []) none 0 none 0]) ++ M11) ++ M).length : Int)), (Pr.mk ⟨#[117, 110, 97, 115, 115, 105, 103, 110, 101, 100]⟩ (((((((([] : List TV) ++ [sT ⟨#[111, 107]⟩]) ++ [TV.mk (TN.mk 2 op 0 ⟨#[]⟩ [] []) none 0 none 0]) ++ M11) ++ M) ++ [TV.mk (TN.mk 5 false 0 ⟨#[]⟩ [] X) none 0 A27 c28]) ++ M2).length : Int))].map Pr.name) ([(Pr.mk ⟨#[115, 116, 97, 116, 117, 115]⟩ (([] : List TV).length : Int)), (Pr.mk ⟨#[111, 112, 116, 105, 109, 97, 108]⟩ ((([] : List TV) ++ [sT ⟨#[111, 107]⟩]).length : Int)), (Pr.mk ⟨#[115, 117, 109, 109, 97, 114, 121]⟩ ((((([] : List TV) ++ [sT ⟨#[111, 107]⟩]) ++ [TV.mk (TN.mk 2 op 0 ⟨#[]⟩ [] []) none 0 none 0]).length : Int) + 8)), (Pr.mk ⟨#[114, 111, 117, 116, 101, 115]⟩ (((((([] : List TV) ++ [sT ⟨#[111, 107]⟩]) ++ [TV.mk (TN.mk 2 op 0 ⟨#[]⟩ [] []) none 0 none 0]) ++ M11) ++ M).length : Int)), (Pr.mk ⟨#[117, 110, 97, 115, 115, 105, 103, 110, 101, 100]⟩ (((((((([] : List TV) ++ [sT ⟨#[111, 107]⟩]) ++ [TV.mk (TN.mk 2 op 0 ⟨#[]⟩ [] []) none 0 none 0]) ++ M11) ++ M) ++ [TV.mk (TN.mk 5 false 0 ⟨#[]⟩ [] X) none 0 A27 c28]) ++ M2).length : Int))].map Pr.pos)) nA55 nc56 kA57 kc58]), (tree_lay p14 (by simp <;> omega) hq3 (by simp <;> omega) (by have h_ := r_3; rw [List.take_of_length_le (by omega)] at h_; exact h_) (by simp <;> omega) rfl (by simp only [List.map_cons, List.map_nil, List.map_append, List.length_append, List.length_cons, List.length_nil, List.cons_append, List.nil_append, List.cons.injEq, and_true, true_and]; and_intros <;> omega)), (by simp only [List.length_append, List.length_cons, List.length_nil]; omega), rfl, rfl⟩)
end Go.Proofs.Ythmkelkefmfmgaa.Sx
set_option maxRecDepth 20000
set_option maxHeartbeats 4000000
namespace Go.Proofs.Ythmkelkefmfmgaa.Sx.FR
open Go Go.SX Go.Proofs
theorem zf90 : (Try.prog.info? 90).bind (fun i => i.zero.map Value.cells) = some (List.toArray [.int .i64 0, .bool false, .int .i64 0, .string ⟨#[]⟩, .slice none 0 0, .slice none 0 0]) := by kernel_rfl
theorem ty34 : ty Try.prog 34 = some (false, 1) := by kernel_rfl
theorem ty3 : ty Try.prog 3 = some (false, 1) := by kernel_rfl
theorem ty90 : ty Try.prog 90 = some (true, 6) := by kernel_rfl
theorem fo90_5 : fo Try.prog 90 5 = some 5 := by kernel_rfl
theorem ty56 : ty Try.prog 56 = some (false, 1) := by kernel_rfl
theorem mo : Try.prog.follows .mixedOrders = true := by kernel_rfl
theorem ty9 : ty Try.prog 9 = some (false, 1) := by kernel_rfl
end Go.Proofs.Ythmkelkefmfmgaa.Sx.FR
set_option maxRecDepth 20000
set_option maxHeartbeats 4000000
namespace Go.Proofs.Ythmkelkefmfmgaa.Sx.FE
open Go Go.SX Go.Proofs
theorem fo90_0 : fo Try.prog 90 0 = some 0 := by kernel_rfl
theorem ty88 : ty Try.prog 88 = some (false, 1) := by kernel_rfl
theorem fo90_1 : fo Try.prog 90 1 = some 1 := by kernel_rfl
theorem ty4 : ty Try.prog 4 = some (false, 1) := by kernel_rfl
theorem fo90_2 : fo Try.prog 90 2 = some 2 := by kernel_rfl
theorem ty3 : ty Try.prog 3 = some (false, 1) := by kernel_rfl
theorem fo90_3 : fo Try.prog 90 3 = some 3 := by kernel_rfl
theorem ty9 : ty Try.prog 9 = some (false, 1) := by kernel_rfl
theorem fo90_4 : fo Try.prog 90 4 = some 4 := by kernel_rfl
theorem ty82 : ty Try.prog 82 = some (false, 1) := by kernel_rfl
theorem fo90_5 : fo Try.prog 90 5 = some 5 := by kernel_rfl
theorem ty56 : ty Try.prog 56 = some (false, 1) := by kernel_rfl
theorem ty90 : ty Try.prog 90 = some (true, 6) := by kernel_rfl
theorem zf90 : (Try.prog.info? 90).bind (fun i => i.zero.map Value.cells) = some (List.toArray [.int .i64 0, .bool false, .int .i64 0, .string ⟨#[]⟩, .slice none 0 0, .slice none 0 0]) := by kernel_rfl
end Go.Proofs.Ythmkelkefmfmgaa.Sx.FE
set_option maxRecDepth 20000
set_option maxHeartbeats 4000000
namespace Go.Proofs.Ythmkelkefmfmgaa.Sx.FL
open Go Go.SX Go.Proofs
theorem fo30_3 : fo Try.prog 30 3 = some 12 := by kernel_rfl
theorem ty27 : ty Try.prog 27 = some (false, 1) := by kernel_rfl
theorem fo30_4 : fo Try.prog 30 4 = some 13 := by kernel_rfl
theorem ty28 : ty Try.prog 28 = some (false, 1) := by kernel_rfl
theorem fo30_0 : fo Try.prog 30 0 = some 0 := by kernel_rfl
theorem fo24_2 : fo Try.prog 24 2 = some 2 := by kernel_rfl
theorem ty9 : ty Try.prog 9 = some (false, 1) := by kernel_rfl
theorem ty52 : ty Try.prog 52 = some (true, 7) := by kernel_rfl
theorem fo52_1 : fo Try.prog 52 1 = some 1 := by kernel_rfl
theorem ty50 : ty Try.prog 50 = some (false, 1) := by kernel_rfl
theorem ty58 : ty Try.prog 58 = some (true, 9) := by kernel_rfl
theorem fo58_5 : fo Try.prog 58 5 = some 6 := by kernel_rfl
theorem ty56 : ty Try.prog 56 = some (false, 1) := by kernel_rfl
theorem zf52 : (Try.prog.info? 52).bind (fun i => i.zero.map Value.cells) = some (List.toArray [.int .i64 0, .slice none 0 0, .int .i64 0, .int .i64 0, .int .i64 0, .int .i64 0, .int .i64 0]) := by kernel_rfl
theorem zf58 : (Try.prog.info? 58).bind (fun i => i.zero.map Value.cells) = some (List.toArray [.int .i64 0, .int .i64 0, .int .i64 0, .int .i64 0, .int .i64 0, .int .i64 0, .slice none 0 0, .int .i64 0, .int .i64 0]) := by kernel_rfl
theorem fo58_0 : fo Try.prog 58 0 = some 0 := by kernel_rfl
theorem fo55_0 : fo Try.prog 55 0 = some 0 := by kernel_rfl
theorem ty53 : ty Try.prog 53 = some (false, 1) := by kernel_rfl
theorem ty62 : ty Try.prog 62 = some (true, 2) := by kernel_rfl
theorem mo : Try.prog.follows .mixedOrders = true := by kernel_rfl
theorem ty3 : ty Try.prog 3 = some (false, 1) := by kernel_rfl
end Go.Proofs.Ythmkelkefmfmgaa.Sx.FL
namespace Go.Proofs.Ythmkelkefmfmgaa.Sx
open Go Go.SX Go.Proofs FL
theorem long_ (cd : Int) (at_ : Int) (path : ByteArray) (op : Bool) (x0 : Int) (x1 : Int) (x2 : Int) (x3 : Int) (x4 : Int) (x5 : Int) (x6 : Int) (x7 : Int) (pA : Option Addr) (pc : Nat) (ps : List PV) (kA : Option Addr) (kc : Nat) (lf : List TK) (S : Nat → Prop) (wf : World) (hP : Fr ePL S wf pA ps) (hN : NP S wf ps) :
  TR0 Try.prog 9 [.agg #[.int .i64 cd, .int .i64 at_, .string path, .bool op, .int .i64 x0, .int .i64 x1, .int .i64 x2, .int .i64 x3, .int .i64 x4, .int .i64 x5, .int .i64 x6, .int .i64 x7, .slice pA ps.length pc, .slice kA lf.length kc]] [] S wf (fun v_ C_ => ∃ (r : Bool), (r = false → ps.length ≤ 8 ∧ lf.length ≤ 50 ∧ path.size ≤ 2000 ∧ ∀ p ∈ ps, p.steps.length ≤ 60 ∧ ∀ s ∈ p.steps, s.load.length ≤ 10) ∧ v_ = .bool r ∧ C_ = []) := by
 have hla := hP.len
 refine TR.mk Try.func9 rfl Try.ntmps9 rfl rfl (fun w_ => ?_)
 refine .seq (.region ?_)
 refine .cons (st_boxa rfl rfl rfl rfl rfl (fun b1 => ?_))
 refine .v (ev_as rfl rfl) rfl ?_
 refine .go idQ (.seq (.seq (.region ?_)))
 refine .v (ev_fa rfl fo30_3 rfl (r := 12) rfl) rfl ?_
 refine .v (ev_ld1 rfl ty27 rfl (At.own1 0 rfl rfl)) rfl ?_
 refine .v (ev_len rfl Try.underlying27 rfl) rfl ?_
 refine .v (ev_cmp rfl rfl rfl rfl) rfl ?_
 refine .v (ev_mv rfl rfl) rfl ?_
 refine .w (fun _ => ev_fa rfl fo30_4 rfl (r := 13) rfl) rfl ?_
 refine .w (fun hb => ev_ld1 rfl ty28 (lkg rfl hb) (At.own1 0 rfl rfl)) rfl ?_
 refine .w (fun hb => ev_len rfl Try.underlying28 (lkg rfl hb)) rfl ?_
 refine .w (fun hb => ev_cmp rfl (lkg rfl hb) rfl rfl) rfl ?_
 refine .v (ev_or rfl rfl rfl rfl) rfl ?_
 refine .v (ev_mv rfl rfl) rfl ?_
 refine .w (fun _ => ev_fa rfl fo30_0 rfl (r := 0) rfl) rfl ?_
 refine .w (fun hb => ev_fa rfl fo24_2 (lkg rfl hb) (r := 2) rfl) rfl ?_
 refine .w (fun hb => ev_ld1 rfl ty9 (lkg rfl hb) (At.own1 0 rfl rfl)) rfl ?_
 refine .w (fun hb => ev_lens rfl Try.underlying9 (lkg rfl hb)) rfl ?_
 refine .w (fun hb => ev_cmp rfl (lkg rfl hb) rfl rfl) rfl ?_
 refine .v (ev_or rfl rfl rfl rfl) rfl ?_
 refine .go idQ ?_
 refine .condI rfl (bO (bO bD bD) bD) (fun h2 => ?_) (fun h2 => ?_)
 ·
  refine .seq (.region ?_)
  refine .v (ev_as rfl rfl) rfl ?_
  refine .go idQ ?_
  exact .ret idQ (ret1 Try.results9 rfl .n ⟨true, (fun h_ => by cases h_), rfl, rfl⟩)
 refine .skipgo idQ (.seq (.seq (.region ?_)))
 refine .v (ev_fa rfl fo30_3 rfl (r := 12) rfl) rfl ?_
 refine .v (ev_ld1 rfl ty27 rfl (At.own1 0 rfl rfl)) rfl ?_
 refine .v (ev_len rfl Try.underlying27 rfl) rfl ?_
 refine .v (ev_mv rfl rfl) rfl ?_
 refine .go idQ (.block ?_)
 refine .loop (X := Int) (fun i => 0 ≤ i ∧ i ≤ ps.length ∧ ∀ p ∈ ps.take i.toNat, p.steps.length ≤ 60 ∧ ∀ s ∈ p.steps, s.load.length ≤ 10) (fun i => [(1, .pointer (some ⟨b1, 0, none⟩)), (24, .int .i64 (ps.length : Int)), (25, .int .i64 i)]) (fun i => [cel b1 [.int .i64 cd, .int .i64 at_, .string path, .bool op, .int .i64 x0, .int .i64 x1, .int .i64 x2, .int .i64 x3, .int .i64 x4, .int .i64 x5, .int .i64 x6, .int .i64 x7, .slice pA ps.length pc, .slice kA lf.length kc] 30]) (fun _ => S) (fun _ => wf) (fun i => (ps.length - i.toNat)) (fun a_ w_ hs_ hw_ => ⟨0, (by exact ⟨by omega, by omega, by simp⟩), hs_.mono (Sub.get (.c rfl (.c rfl (.c rfl .n)))), hw_.keep (.c .h .n)⟩) (fun i ⟨q_0, q_1, q_2⟩ => ?_)
 show SC _ _ _ _ _ ⟨[(1, .pointer (some ⟨b1, 0, none⟩)), (24, .int .i64 (ps.length : Int)), (25, .int .i64 i)], [cel b1 [.int .i64 cd, .int .i64 at_, .string path, .bool op, .int .i64 x0, .int .i64 x1, .int .i64 x2, .int .i64 x3, .int .i64 x4, .int .i64 x5, .int .i64 x6, .int .i64 x7, .slice pA ps.length pc, .slice kA lf.length kc] 30], S, wf⟩
 refine .seq (.region ?_)
 refine .v (ev_cmp rfl rfl rfl rfl) rfl ?_
 refine .go idQ (.seq ?_)
 refine .condI rfl bD (fun h3 => ?_) (fun h3 => ?_)
 ·
  refine .skipgo idQ (.seq (.block (.seq (.region ?_))))
  refine .v (ev_mv rfl rfl) rfl ?_
  refine .v (ev_as rfl rfl) rfl ?_
  refine .go idQ (.seq (.seq (.region ?_)))
  refine .v (ev_fa rfl fo30_3 rfl (r := 12) rfl) rfl ?_
  refine .v (ev_ld1 rfl ty27 rfl (At.own1 0 rfl rfl)) rfl ?_
  refine .v (ev_mv rfl rfl) rfl ?_
  refine .v (ev_ix rfl Try.underlying27 ty52 rfl rfl (by omega) (by omega) (fun _ _ => Fr.adr (i := i) hP (by omega) (by omega))) rfl ?_
  refine .v (ev_fa rfl fo52_1 rfl (r := ao pA + (i).toNat * 7 + 1) rfl) rfl ?_
  refine .v (ev_ld1 rfl ty50 rfl (At.elem1 (At.w (Fr.el (i := i) hP (by omega) (by omega))) 1 rfl)) rfl ?_
  refine .v (ev_len rfl Try.underlying50 rfl) rfl ?_
  refine .v (ev_cmp rfl rfl rfl rfl) rfl ?_
  refine .go idQ ?_
  refine .condI rfl bD (fun h4 => ?_) (fun h4 => ?_)
  ·
   refine .seq (.region ?_)
   refine .v (ev_as rfl rfl) rfl ?_
   refine .go idQ ?_
   exact .ret idQ (ret1 Try.results9 rfl .n ⟨true, (fun h_ => by cases h_), rfl, rfl⟩)
  refine .skipgo idQ (.seq (.region ?_))
  refine .v (ev_fa rfl fo30_3 rfl (r := 12) rfl) rfl ?_
  refine .v (ev_ld1 rfl ty27 rfl (At.own1 0 rfl rfl)) rfl ?_
  refine .v (ev_mv rfl rfl) rfl ?_
  refine .v (ev_ix rfl Try.underlying27 ty52 rfl rfl (by omega) (by omega) (fun _ _ => Fr.adr (i := i) hP (by omega) (by omega))) rfl ?_
  refine .v (ev_fa rfl fo52_1 rfl (r := ao pA + (i).toNat * 7 + 1) rfl) rfl ?_
  refine .v (ev_ld1 rfl ty50 rfl (At.elem1 (At.w (Fr.el (i := i) hP (by omega) (by omega))) 1 rfl)) rfl ?_
  refine .v (ev_len rfl Try.underlying50 rfl) rfl ?_
  refine .v (ev_mv rfl rfl) rfl ?_
  refine .go idQ (.block ?_)
  refine .loop (X := Int) (fun j => 0 ≤ j ∧ j ≤ (gt ps i).steps.length ∧ ∀ s ∈ (gt ps i).steps.take j.toNat, s.load.length ≤ 10) (fun j => [(1, .pointer (some ⟨b1, 0, none⟩)), (3, .int .i64 i), (24, .int .i64 (ps.length : Int)), (25, .int .i64 i), (42, .int .i64 (((gt ps i).steps.length : Nat) : Int)), (43, .int .i64 j)]) (fun j => [cel b1 [.int .i64 cd, .int .i64 at_, .string path, .bool op, .int .i64 x0, .int .i64 x1, .int .i64 x2, .int .i64 x3, .int .i64 x4, .int .i64 x5, .int .i64 x6, .int .i64 x7, .slice pA ps.length pc, .slice kA lf.length kc] 30]) (fun _ => S) (fun _ => wf) (fun j => ((gt ps i).steps.length - j.toNat)) (fun a_ w_ hs_ hw_ => ⟨0, (by exact ⟨by omega, by omega, by simp⟩), hs_.mono (Sub.get (.c rfl (.c rfl (.c rfl (.c rfl (.c rfl (.c rfl .n))))))), hw_.keep (.c .h .n)⟩) (fun j ⟨r_0, r_1, r_2⟩ => ?_)
  show SC _ _ _ _ _ ⟨[(1, .pointer (some ⟨b1, 0, none⟩)), (3, .int .i64 i), (24, .int .i64 (ps.length : Int)), (25, .int .i64 i), (42, .int .i64 (((gt ps i).steps.length : Nat) : Int)), (43, .int .i64 j)], [cel b1 [.int .i64 cd, .int .i64 at_, .string path, .bool op, .int .i64 x0, .int .i64 x1, .int .i64 x2, .int .i64 x3, .int .i64 x4, .int .i64 x5, .int .i64 x6, .int .i64 x7, .slice pA ps.length pc, .slice kA lf.length kc] 30], S, wf⟩
  refine .seq (.region ?_)
  refine .v (ev_cmp rfl rfl rfl rfl) rfl ?_
  refine .go idQ (.seq ?_)
  refine .condI rfl bD (fun h5 => ?_) (fun h5 => ?_)
  ·
   refine .skipgo idQ (.seq (.block (.seq (.region ?_))))
   refine .v (ev_mv rfl rfl) rfl ?_
   refine .v (ev_as rfl rfl) rfl ?_
   refine .go idQ (.seq (.region ?_))
   refine .v (ev_fa rfl fo30_3 rfl (r := 12) rfl) rfl ?_
   refine .v (ev_ld1 rfl ty27 rfl (At.own1 0 rfl rfl)) rfl ?_
   refine .v (ev_mv rfl rfl) rfl ?_
   refine .v (ev_ix rfl Try.underlying27 ty52 rfl rfl (by omega) (by omega) (fun _ _ => Fr.adr (i := i) hP (by omega) (by omega))) rfl ?_
   refine .v (ev_fa rfl fo52_1 rfl (r := ao pA + (i).toNat * 7 + 1) rfl) rfl ?_
   refine .v (ev_ld1 rfl ty50 rfl (At.elem1 (At.w (Fr.el (i := i) hP (by omega) (by omega))) 1 rfl)) rfl ?_
   refine .v (ev_mv rfl rfl) rfl ?_
   refine .v (ev_ix rfl Try.underlying50 ty58 rfl rfl (by omega) (by omega) (fun _ _ => Fr.adr (i := j) (hN _ (gt_mem (i := i) (by omega) (by omega))).1 (by omega) (by omega))) rfl ?_
   refine .v (ev_fa rfl fo58_5 rfl (r := ao ((gt ps i).sA) + (j).toNat * 9 + 6) rfl) rfl ?_
   refine .v (ev_ld1 rfl ty56 rfl (At.elem1 (At.w (Fr.el (i := j) (hN _ (gt_mem (i := i) (by omega) (by omega))).1 (by omega) (by omega))) 6 rfl)) rfl ?_
   refine .v (ev_len rfl Try.underlying56 rfl) rfl ?_
   refine .v (ev_cmp rfl rfl rfl rfl) rfl ?_
   refine .go idQ ?_
   refine .condI rfl bD (fun h6 => ?_) (fun h6 => ?_)
   ·
    refine .seq (.region ?_)
    refine .v (ev_as rfl rfl) rfl ?_
    refine .go idQ ?_
    exact .ret idQ (ret1 Try.results9 rfl .n ⟨true, (fun h_ => by cases h_), rfl, rfl⟩)
   refine .skipgo idQ (.region ?_)
   refine .v (ev_add rfl rfl rfl (r := (j + 1)) rfl (by omega) (by omega)) rfl ?_
   refine .v (ev_mv rfl rfl) rfl ?_
   exact SP.nil (SQ.roundb (X := Int) (x := (j)) (j + 1) (by exact ⟨by omega, by omega, all_next r_2 (by omega) (by omega) (by omega)⟩) (by show (_ : Nat) < _; omega) (Sub.get (.c rfl (.c rfl (.c rfl (.c rfl (.c rfl (.c rfl .n))))))) (fun w hw => hw.keep (.c .h .n)))
  refine .exit idQ ?_
  refine .region ?_
  refine .v (ev_add rfl rfl rfl (r := (i + 1)) rfl (by omega) (by omega)) rfl ?_
  refine .v (ev_mv rfl rfl) rfl ?_
  exact SP.nil (SQ.roundb (X := Int) (x := (i)) (i + 1) (by exact ⟨by omega, by omega, all_next q_2 (by omega) (by omega) ⟨by omega, all_end r_2 (by omega)⟩⟩) (by show (_ : Nat) < _; omega) (Sub.get (.c rfl (.c rfl (.c rfl .n)))) (fun w hw => hw.keep (.c .h .n)))
 refine .exit idQ ?_
 refine .seq (.region ?_)
 refine .v (ev_as rfl rfl) rfl ?_
 refine .go idQ ?_
 exact .ret idQ (ret1 Try.results9 rfl .n ⟨false, (fun _ => ⟨by simp_all <;> omega, by simp_all <;> omega, by simp_all <;> omega, all_end q_2 (by omega)⟩), rfl, rfl⟩)
end Go.Proofs.Ythmkelkefmfmgaa.Sx
