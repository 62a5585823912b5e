import Derived.Test.YthmkelkefmfmgaaProg
import Derived.Test.YthmkelkefmfmgaaS6
set_option linter.unusedVariables false
set_option linter.unusedSimpArgs false
set_option linter.unusedSectionVars false
set_option maxRecDepth 20000
set_option maxHeartbeats 4000000
namespace Go.Proofs.Ythmkelkefmfmgaa.Sx.FGB
open Go Go.SX Go.Proofs
theorem zf52 : (Try.prog.info? 52).bind (fun i => i.zero.map Value.cells) = some (List.toArray [.int .i64 0, .slice none 0 0, .int .i64 0, .int .i64 0, .int .i64 0, .int .i64 0, .int .i64 0]) := by kernel_rfl
theorem ty112 : ty Try.prog 112 = some (true, 2) := by kernel_rfl
theorem hbd62 : hasBody Try.prog 62 = true := by kernel_rfl
theorem ty52 : ty Try.prog 52 = some (true, 7) := by kernel_rfl
theorem mo : Try.prog.follows .mixedOrders = true := by kernel_rfl
theorem hbd60 : hasBody Try.prog 60 = true := by kernel_rfl
theorem hbd63 : hasBody Try.prog 63 = true := by kernel_rfl
theorem zf112 : (Try.prog.info? 112).bind (fun i => i.zero.map Value.cells) = some (List.toArray [.slice none 0 0, .int .i64 0]) := by kernel_rfl
theorem zf58 : (Try.prog.info? 58).bind (fun i => i.zero.map Value.cells) = some (List.toArray [.int .i64 0, .int .i64 0, .int .i64 0, .int .i64 0, .int .i64 0, .int .i64 0, .slice none 0 0, .int .i64 0, .int .i64 0]) := by kernel_rfl
theorem ty58 : ty Try.prog 58 = some (true, 9) := by kernel_rfl
theorem hbd66 : hasBody Try.prog 66 = true := by kernel_rfl
theorem hbd61 : hasBody Try.prog 61 = true := by kernel_rfl
theorem hbd73 : hasBody Try.prog 73 = true := by kernel_rfl
theorem fo58_0 : fo Try.prog 58 0 = some 0 := by kernel_rfl
theorem ty55 : ty Try.prog 55 = some (true, 2) := by kernel_rfl
theorem fo58_5 : fo Try.prog 58 5 = some 6 := by kernel_rfl
theorem ty56 : ty Try.prog 56 = some (false, 1) := by kernel_rfl
theorem ai3 : (Try.prog.info? 3).map (fun i => (i.zero, i.size, i.bytes)) = some (some (.int .i64 0), 1, 8) := by kernel_rfl
theorem fo52_1 : fo Try.prog 52 1 = some 1 := by kernel_rfl
theorem ty50 : ty Try.prog 50 = some (false, 1) := by kernel_rfl
theorem ai58 : (Try.prog.info? 58).map (fun i => (i.zero, i.size, i.bytes)) = some (some (.agg #[.int .i64 0, .int .i64 0, .int .i64 0, .int .i64 0, .int .i64 0, .int .i64 0, .slice none 0 0, .int .i64 0, .int .i64 0]), 9, 88) := by kernel_rfl
end Go.Proofs.Ythmkelkefmfmgaa.Sx.FGB
namespace Go.Proofs.Ythmkelkefmfmgaa.Sx
open Go Go.SX Go.Proofs FGB
theorem route_g (A : Option Addr) (n : Nat) (c : Nat) (l : List TV) (i : Int) (S : Nat → Prop) (wf : World) (hP : Fr eTV S wf A l) (hN : NT S wf l) (hn : l.length = n) (hi : 0 ≤ i ∧ i < n) (hKW : KW l) :
  TR0 Try.prog 64 [.agg #[.slice A n c, .int .i64 i]] [] S wf (fun v_ C_ => ∃ (sA : Option Addr) (sc : Nat) (Ls : List ST), (Ls.length ≤ 8192) ∧ ((∀ s ∈ Ls, ((-9223372036854775808 < s.kind ∧ s.kind ≤ 9223372036854775807) ∧ s.load.length ≤ 8192))) ∧ v_ = .agg #[.int .i64 (numG l i 0), .slice sA Ls.length sc, .int .i64 (numG l i 2), .int .i64 (numG l i 3), .int .i64 (numG l i 4), .int .i64 (numG l i 5), .int .i64 (numG l i 1)] ∧ C_ = [rw_ eST 58 (.slice sA Ls.length sc) Ls, nestS 3 Ls]) := by
 have hla := hP.len
 have hkl : kindsL.length = 6 := rfl
 refine TR.mk Try.func64 rfl Try.ntmps64 rfl rfl (fun w_ => ?_)
 refine .seq (.region ?_)
 refine .cons (st_boxa rfl rfl rfl rfl rfl (fun b1 => ?_))
 refine .cons (st_alloc rfl rfl rfl rfl zf52 (fun b2 => ?_))
 refine .go idQ (.seq ?_)
 refine SC.draw mo [] [] .n (fun _ _ _ c hc => by cases hc) (fun wf_3 hl_3 hx_3 hR_3 => ?_)
 refine SR.cut (fun bb4 => ([(0, .agg #[.slice A n c, .int .i64 i]), (1, .pointer (some ⟨b1, 0, none⟩)), (2, .pointer (some ⟨b2, 0, none⟩)), (9, .agg #[.slice A n c, .int .i64 i]), (10, .int .i64 (numG l i 0)), (11, .agg #[.slice A n c, .int .i64 i]), (12, .int .i64 (numG l i 1)), (13, .agg #[.slice A n c, .int .i64 i]), (14, .int .i64 (numG l i 2)), (15, .agg #[.slice A n c, .int .i64 i]), (16, .int .i64 (numG l i 3)), (17, .agg #[.slice A n c, .int .i64 i]), (18, .int .i64 (numG l i 4)), (19, .agg #[.slice A n c, .int .i64 i]), (20, .int .i64 (numG l i 5)), (21, .agg #[.int .i64 (numG l i 0), .slice none 0 0, .int .i64 (numG l i 2), .int .i64 (numG l i 3), .int .i64 (numG l i 4), .int .i64 (numG l i 5), .int .i64 (numG l i 1)]), (3, .pointer (some ⟨bb4, 0, none⟩))], [cel bb4 [.int .i64 (numG l i 0), .slice none 0 0, .int .i64 (numG l i 2), .int .i64 (numG l i 3), .int .i64 (numG l i 4), .int .i64 (numG l i 5), .int .i64 (numG l i 1)] 52, cel b2 [.int .i64 0, .slice none 0 0, .int .i64 0, .int .i64 0, .int .i64 0, .int .i64 0, .int .i64 0] 52, cel b1 [.slice A n c, .int .i64 i] 112])) S wf (fun bb4 => ?_) (fun key5 => ?_)
 ·
  show SQ _ _ _ ⟨[(0, .agg #[.slice A n c, .int .i64 i]), (1, .pointer (some ⟨b1, 0, none⟩)), (2, .pointer (some ⟨b2, 0, none⟩)), (9, .agg #[.slice A n c, .int .i64 i]), (10, .int .i64 (numG l i 0)), (11, .agg #[.slice A n c, .int .i64 i]), (12, .int .i64 (numG l i 1)), (13, .agg #[.slice A n c, .int .i64 i]), (14, .int .i64 (numG l i 2)), (15, .agg #[.slice A n c, .int .i64 i]), (16, .int .i64 (numG l i 3)), (17, .agg #[.slice A n c, .int .i64 i]), (18, .int .i64 (numG l i 4)), (19, .agg #[.slice A n c, .int .i64 i]), (20, .int .i64 (numG l i 5)), (21, .agg #[.int .i64 (numG l i 0), .slice none 0 0, .int .i64 (numG l i 2), .int .i64 (numG l i 3), .int .i64 (numG l i 4), .int .i64 (numG l i 5), .int .i64 (numG l i 1)]), (3, .pointer (some ⟨bb4, 0, none⟩))], [cel bb4 [.int .i64 (numG l i 0), .slice none 0 0, .int .i64 (numG l i 2), .int .i64 (numG l i 3), .int .i64 (numG l i 4), .int .i64 (numG l i 5), .int .i64 (numG l i 1)] 52, cel b2 [.int .i64 0, .slice none 0 0, .int .i64 0, .int .i64 0, .int .i64 0, .int .i64 0, .int .i64 0] 52, cel b1 [.slice A n c, .int .i64 i] 112], S, wf⟩
  refine SQ.go idQ ?_
  refine .seq (.seq ?_)
  refine SC.nilrow eST 58 ?_
  refine SC.nestS0 3 ?_
  refine .region ?_
  refine .v (ev_lda rfl rfl (At.whole 4 rfl) ty112) rfl ?_
  refine .cons (st_call0 rfl rfl rfl rfl hbd60 rfl .n (kid_g A n c l i 6 _ _ hP hN (by first | omega | simp only [LL] <;> omega | simp <;> omega) (by omega) (by omega)) (fun v_q8 C_q8 q8 => ?_))
  obtain ⟨A26, c27, p9, rfl, rfl⟩ := q8
  show SP _ _ _ _ _ _ ⟨_, _ :: _, _, _⟩
  have hkr10 := kid_rng (l := l) (i := i) (k := 6) (by omega)
  have hkl11 := kid_len (l := l) (i := i) (k := 6) (by omega) (by omega)
  refine .cons (st_lend0 rfl rfl rfl rfl hbd63 rfl .n (.c .h .n) (fun w_ hw => kids_ A26 ((kidL l i 6).length) c27 (kidL l i 6) (kidI l i 6) _ _ (Fr.lendm hw 0 rfl (kid_len (l := l) (i := i) (k := 6) (by omega) (by omega)).1 (kid_fr p9 hP)) (((kid_nt hN)).ext hw.lendx) (by first | omega | simp only [LL] <;> omega | simp <;> omega) (by first | omega | simp only [LL] <;> omega | simp <;> omega) (KW.ks (by first | exact kid_kw (kid_kw hKW) | exact kid_kw hKW) (by first | (exact kid_rng (by omega)) | omega)) (Nat.le_trans (KW.len (by first | exact kid_kw (kid_kw hKW) | exact kid_kw hKW) (by first | (exact kid_rng (by omega)) | omega)) (by decide))) (fun v_q13 C_q13 q13 => ?_))
  obtain ⟨u12, rfl, rfl⟩ := q13
  show SP _ _ _ _ _ _ ⟨_, _ :: _ :: _, _, _⟩
  refine .know (row_len 0 rfl) (fun hv16 => ?_)
  obtain ⟨A14, c15, rfl, hv16_1, hv16_2⟩ := hv16
  unfold maxLen at hv16_2
  refine .v (ev_len rfl Try.underlying115 rfl) rfl ?_
  refine .v (ev_mv rfl rfl) rfl ?_
  refine .go idQ (.block ?_)
  have hk6l := KW.len (kid_kw (l := l) (i := i) (k := 6) hKW) (kid_rng (l := l) (i := i) (k := 6) (by omega))
  refine .loop (X := Int × Value × (List ST)) (fun ⟨j, SV, Ls⟩ => 0 ≤ j ∧ j ≤ (gt (kidL l i 6) (kidI l i 6)).v.ks.length ∧ (Ls.length : Int) = j ∧ (∀ s ∈ Ls, ((-9223372036854775808 < s.kind ∧ s.kind ≤ 9223372036854775807) ∧ s.load.length ≤ 8192))) (fun ⟨j, SV, Ls⟩ => [(2, .pointer (some ⟨b2, 0, none⟩)), (3, .pointer (some ⟨bb4, 0, none⟩)), (24, .slice A14 (((gt (kidL l i 6) (kidI l i 6)).v.ks).length) c15), (25, .int .i64 ((((gt (kidL l i 6) (kidI l i 6)).v.ks).length : Nat) : Int)), (26, .int .i64 j)]) (fun ⟨j, SV, Ls⟩ => [cel bb4 [.int .i64 (numG l i 0), SV, .int .i64 (numG l i 2), .int .i64 (numG l i 3), .int .i64 (numG l i 4), .int .i64 (numG l i 5), .int .i64 (numG l i 1)] 52, rw_ eST 58 (SV) Ls, nestS 3 Ls, rw_ (ePt A26 ((kidL l i 6).length) c27) 112 (.slice A14 (((gt (kidL l i 6) (kidI l i 6)).v.ks).length) c15) ((gt (kidL l i 6) (kidI l i 6)).v.ks), cel b2 [.int .i64 0, .slice none 0 0, .int .i64 0, .int .i64 0, .int .i64 0, .int .i64 0, .int .i64 0] 52]) (fun _ => S) (fun _ => wf) (fun ⟨j, SV, Ls⟩ => ((gt (kidL l i 6) (kidI l i 6)).v.ks.length - j.toNat)) (fun a_ w_ hs_ hw_ => ⟨⟨0, (.slice none 0 0), ([] : List ST)⟩, (by exact ⟨by omega, by omega, rfl, fun s hs => (by cases hs)⟩), hs_.mono (Sub.get (.c rfl (.c rfl (.c rfl (.c rfl (.c rfl .n)))))), hw_.keep (.c (.t (.t (.t (.t .h)))) (.c (.t (.t (.t .h))) (.c (.t (.t .h)) (.c .h (.c (.t .h) .n)))))⟩) (fun ⟨j, SV, Ls⟩ ⟨q_0, q_1, q_2, q_3⟩ => ?_)
  show SC _ _ _ _ _ ⟨[(2, .pointer (some ⟨b2, 0, none⟩)), (3, .pointer (some ⟨bb4, 0, none⟩)), (24, .slice A14 (((gt (kidL l i 6) (kidI l i 6)).v.ks).length) c15), (25, .int .i64 ((((gt (kidL l i 6) (kidI l i 6)).v.ks).length : Nat) : Int)), (26, .int .i64 j)], [cel bb4 [.int .i64 (numG l i 0), SV, .int .i64 (numG l i 2), .int .i64 (numG l i 3), .int .i64 (numG l i 4), .int .i64 (numG l i 5), .int .i64 (numG l i 1)] 52, rw_ eST 58 (SV) Ls, nestS 3 Ls, rw_ (ePt A26 ((kidL l i 6).length) c27) 112 (.slice A14 (((gt (kidL l i 6) (kidI l i 6)).v.ks).length) c15) ((gt (kidL l i 6) (kidI l i 6)).v.ks), cel b2 [.int .i64 0, .slice none 0 0, .int .i64 0, .int .i64 0, .int .i64 0, .int .i64 0, .int .i64 0] 52], S, wf⟩
  refine .seq (.region ?_)
  refine .v (ev_cmp rfl rfl rfl rfl) rfl ?_
  refine .go idQ (.seq ?_)
  refine .condI rfl bD (fun h17 => ?_) (fun h17 => ?_)
  ·
   refine .skipgo idQ (.seq (.block (.seq ?_)))
   have hqr := (KW.ks (kid_kw hKW) (kid_rng (l := l) (i := i) (k := 6) (by omega)) j (by omega) (by omega)).rng (n := (kidL l i 6).length) (kid_rng (l := l) (i := i) (k := 6) (by omega))
   unfold kidT at hqr
   have hfz18 := kid_fr (S := S) (wf := wf) p9 hP (kid_own (l := l) (i := i) (k := 6) (j := j) (by omega))
   refine .region ?_
   refine .v (ev_ix rfl Try.underlying115 ty112 rfl rfl (by omega) (by omega) (row_adr (i := j) 3 rfl (by omega) (by first | omega | simp only [LL] <;> omega | simp <;> omega))) rfl ?_
   refine .v (ev_lda rfl rfl (row_el (E := (ePt A26 ((kidL l i 6).length) c27)) (l := (gt (kidL l i 6) (kidI l i 6)).v.ks) (i := j) 3 rfl (by omega) (by first | omega | simp only [LL] <;> omega | simp <;> omega)) ty112) rfl ?_
   refine .cons (st_alloc rfl rfl rfl rfl zf112 (fun b19 => ?_))
   refine .cons (st_storea (l' := [.slice A26 ((kidL l i 6).length) c27, .int .i64 (gt ((gt (kidL l i 6) (kidI l i 6)).v.ks) j)]) rfl rfl rfl ty112 rfl rfl rfl .h rfl rfl ?_)
   refine .go idQ (.seq ?_)
   refine SC.draw mo [] [] .n (fun _ _ _ c hc => by cases hc) (fun wf_20 hl_20 hx_20 hR_20 => ?_)
   refine SR.cut (fun bb21 => ([(2, .pointer (some ⟨b2, 0, none⟩)), (3, .pointer (some ⟨bb4, 0, none⟩)), (24, .slice A14 (((gt (kidL l i 6) (kidI l i 6)).v.ks).length) c15), (25, .int .i64 ((((gt (kidL l i 6) (kidI l i 6)).v.ks).length : Nat) : Int)), (26, .int .i64 j), (27, .bool (decide (j < ((((gt (kidL l i 6) (kidI l i 6)).v.ks).length : Nat) : Int)))), (28, .pointer (some ⟨(ab A14), ao A14 + (j).toNat * 2, none⟩)), (29, .agg #[.slice A26 ((kidL l i 6).length) c27, .int .i64 (gt ((gt (kidL l i 6) (kidI l i 6)).v.ks) j)]), (5, .pointer (some ⟨b19, 0, none⟩)), (30, .agg #[.slice A26 ((kidL l i 6).length) c27, .int .i64 (gt ((gt (kidL l i 6) (kidI l i 6)).v.ks) j)]), (31, .int .i64 (gI l i j 2)), (32, .agg #[.slice A26 ((kidL l i 6).length) c27, .int .i64 (gt ((gt (kidL l i 6) (kidI l i 6)).v.ks) j)]), (33, .int .i64 (gI l i j 3)), (34, .agg #[.slice A26 ((kidL l i 6).length) c27, .int .i64 (gt ((gt (kidL l i 6) (kidI l i 6)).v.ks) j)]), (35, .int .i64 (gI l i j 4)), (36, .agg #[.slice A26 ((kidL l i 6).length) c27, .int .i64 (gt ((gt (kidL l i 6) (kidI l i 6)).v.ks) j)]), (37, .int .i64 (gI l i j 5)), (38, .agg #[.slice A26 ((kidL l i 6).length) c27, .int .i64 (gt ((gt (kidL l i 6) (kidI l i 6)).v.ks) j)]), (39, .int .i64 (gI l i j 7)), (40, .agg #[.slice A26 ((kidL l i 6).length) c27, .int .i64 (gt ((gt (kidL l i 6) (kidI l i 6)).v.ks) j)]), (41, .int .i64 (gI l i j 8)), (42, .agg #[.int .i64 0, .int .i64 0, .int .i64 (gI l i j 2), .int .i64 (gI l i j 3), .int .i64 (gI l i j 4), .int .i64 (gI l i j 5), .slice none 0 0, .int .i64 (gI l i j 7), .int .i64 (gI l i j 8)]), (6, .pointer (some ⟨bb21, 0, none⟩))], [cel bb21 [.int .i64 0, .int .i64 0, .int .i64 (gI l i j 2), .int .i64 (gI l i j 3), .int .i64 (gI l i j 4), .int .i64 (gI l i j 5), .slice none 0 0, .int .i64 (gI l i j 7), .int .i64 (gI l i j 8)] 58, cel b19 [.slice A26 ((kidL l i 6).length) c27, .int .i64 (gt ((gt (kidL l i 6) (kidI l i 6)).v.ks) j)] 112, cel bb4 [.int .i64 (numG l i 0), SV, .int .i64 (numG l i 2), .int .i64 (numG l i 3), .int .i64 (numG l i 4), .int .i64 (numG l i 5), .int .i64 (numG l i 1)] 52, rw_ eST 58 (SV) Ls, nestS 3 Ls, rw_ (ePt A26 ((kidL l i 6).length) c27) 112 (.slice A14 (((gt (kidL l i 6) (kidI l i 6)).v.ks).length) c15) ((gt (kidL l i 6) (kidI l i 6)).v.ks), cel b2 [.int .i64 0, .slice none 0 0, .int .i64 0, .int .i64 0, .int .i64 0, .int .i64 0, .int .i64 0] 52])) S wf (fun bb21 => ?_) (fun key22 => ?_)
   ·
    show SQ _ _ _ ⟨[(2, .pointer (some ⟨b2, 0, none⟩)), (3, .pointer (some ⟨bb4, 0, none⟩)), (24, .slice A14 (((gt (kidL l i 6) (kidI l i 6)).v.ks).length) c15), (25, .int .i64 ((((gt (kidL l i 6) (kidI l i 6)).v.ks).length : Nat) : Int)), (26, .int .i64 j), (27, .bool (decide (j < ((((gt (kidL l i 6) (kidI l i 6)).v.ks).length : Nat) : Int)))), (28, .pointer (some ⟨(ab A14), ao A14 + (j).toNat * 2, none⟩)), (29, .agg #[.slice A26 ((kidL l i 6).length) c27, .int .i64 (gt ((gt (kidL l i 6) (kidI l i 6)).v.ks) j)]), (5, .pointer (some ⟨b19, 0, none⟩)), (30, .agg #[.slice A26 ((kidL l i 6).length) c27, .int .i64 (gt ((gt (kidL l i 6) (kidI l i 6)).v.ks) j)]), (31, .int .i64 (gI l i j 2)), (32, .agg #[.slice A26 ((kidL l i 6).length) c27, .int .i64 (gt ((gt (kidL l i 6) (kidI l i 6)).v.ks) j)]), (33, .int .i64 (gI l i j 3)), (34, .agg #[.slice A26 ((kidL l i 6).length) c27, .int .i64 (gt ((gt (kidL l i 6) (kidI l i 6)).v.ks) j)]), (35, .int .i64 (gI l i j 4)), (36, .agg #[.slice A26 ((kidL l i 6).length) c27, .int .i64 (gt ((gt (kidL l i 6) (kidI l i 6)).v.ks) j)]), (37, .int .i64 (gI l i j 5)), (38, .agg #[.slice A26 ((kidL l i 6).length) c27, .int .i64 (gt ((gt (kidL l i 6) (kidI l i 6)).v.ks) j)]), (39, .int .i64 (gI l i j 7)), (40, .agg #[.slice A26 ((kidL l i 6).length) c27, .int .i64 (gt ((gt (kidL l i 6) (kidI l i 6)).v.ks) j)]), (41, .int .i64 (gI l i j 8)), (42, .agg #[.int .i64 0, .int .i64 0, .int .i64 (gI l i j 2), .int .i64 (gI l i j 3), .int .i64 (gI l i j 4), .int .i64 (gI l i j 5), .slice none 0 0, .int .i64 (gI l i j 7), .int .i64 (gI l i j 8)]), (6, .pointer (some ⟨bb21, 0, none⟩))], [cel bb21 [.int .i64 0, .int .i64 0, .int .i64 (gI l i j 2), .int .i64 (gI l i j 3), .int .i64 (gI l i j 4), .int .i64 (gI l i j 5), .slice none 0 0, .int .i64 (gI l i j 7), .int .i64 (gI l i j 8)] 58, cel b19 [.slice A26 ((kidL l i 6).length) c27, .int .i64 (gt ((gt (kidL l i 6) (kidI l i 6)).v.ks) j)] 112, cel bb4 [.int .i64 (numG l i 0), SV, .int .i64 (numG l i 2), .int .i64 (numG l i 3), .int .i64 (numG l i 4), .int .i64 (numG l i 5), .int .i64 (numG l i 1)] 52, rw_ eST 58 (SV) Ls, nestS 3 Ls, rw_ (ePt A26 ((kidL l i 6).length) c27) 112 (.slice A14 (((gt (kidL l i 6) (kidI l i 6)).v.ks).length) c15) ((gt (kidL l i 6) (kidI l i 6)).v.ks), cel b2 [.int .i64 0, .slice none 0 0, .int .i64 0, .int .i64 0, .int .i64 0, .int .i64 0, .int .i64 0] 52], S, wf⟩
    refine SQ.go idQ ?_
    refine .seq ?_
    refine SC.draw mo [cel bb21 [.int .i64 0, .int .i64 0, .int .i64 (gI l i j 2), .int .i64 (gI l i j 3), .int .i64 (gI l i j 4), .int .i64 (gI l i j 5), .slice none 0 0, .int .i64 (gI l i j 7), .int .i64 (gI l i j 8)] 58] [] (.c .h .n) (fun _ _ _ c hc => by cases hc) (fun wf_23 hl_23 hx_23 hR_23 => ?_)
    refine SR.k 1 rfl (by kernel_rfl) rfl (ev_lda (cs := [.slice A26 ((kidL l i 6).length) c27, .int .i64 (gt ((gt (kidL l i 6) (kidI l i 6)).v.ks) j)]) rfl rfl (At.d (At.lent hR_23 0 rfl rfl)) ty112) ?_
    refine SR.k 7 rfl (by kernel_rfl) rfl (ev_lda (cs := [.slice A26 ((kidL l i 6).length) c27, .int .i64 (gt ((gt (kidL l i 6) (kidI l i 6)).v.ks) j)]) rfl rfl (At.d (At.lent hR_23 0 rfl rfl)) ty112) ?_
    refine SR.one (j := 0) (by kernel_rfl) rfl (st_call0 rfl rfl rfl rfl hbd66 rfl .n (kinds_ _ _) (fun v_q26 C_q26 q26 => ⟨tt0, ?_⟩))
    obtain ⟨A24, c25, rfl, rfl⟩ := q26
    show SR _ _ _ _ _ _ _ _ _ ⟨_, _ :: _, _, _⟩
    refine SR.one (j := 2) (by kernel_rfl) rfl (st_call0 rfl rfl rfl rfl hbd60 rfl .n (kid_g A26 ((kidL l i 6).length) c27 (kidL l i 6) (gt ((gt (kidL l i 6) (kidI l i 6)).v.ks) j) 0 _ _ (Fr.ext hfz18 hx_23) (((kid_nt hN)).ext hx_23) (by first | omega | simp only [LL] <;> omega | simp <;> omega) (by first | omega | simp only [LL] <;> omega | simp <;> omega) (by omega)) (fun v_q29 C_q29 q29 => ⟨tt0, ?_⟩))
    obtain ⟨A227, c228, p30, rfl, rfl⟩ := q29
    show SR _ _ _ _ _ _ _ _ _ ⟨_, _ :: _, _, _⟩
    have hkr31 := kid_rng (l := (kidL l i 6)) (i := (gt ((gt (kidL l i 6) (kidI l i 6)).v.ks) j)) (k := 0) (by omega)
    have hkl32 := kid_len (l := (kidL l i 6)) (i := (gt ((gt (kidL l i 6) (kidI l i 6)).v.ks) j)) (k := 0) (by omega) (by omega)
    refine SR.one (j := 3) (by kernel_rfl) rfl (st_lendk rfl rfl rfl rfl hbd61 rfl .n (.c .h .n) (fun w_ hw => value_ A227 ((kidL (kidL l i 6) (gt ((gt (kidL l i 6) (kidI l i 6)).v.ks) j) 0).length) c228 (kidL (kidL l i 6) (gt ((gt (kidL l i 6) (kidI l i 6)).v.ks) j) 0) (kidI (kidL l i 6) (gt ((gt (kidL l i 6) (kidI l i 6)).v.ks) j) 0) _ _ (Fr.lendm hw 0 rfl (kid_len (l := (kidL l i 6)) (i := (gt ((gt (kidL l i 6) (kidI l i 6)).v.ks) j)) (k := 0) (by omega) (by omega)).1 (kid_fr p30 (Fr.ext hfz18 hx_23))) (by first | omega | simp only [LL] <;> omega | simp <;> omega) (by first | omega | simp only [LL] <;> omega | simp <;> omega)) ⟨tt0, ?_⟩)
    refine SR.k 4 rfl (by kernel_rfl) rfl (ev_any (v := .string ((gt (kidL (kidL l i 6) (gt ((gt (kidL l i 6) (kidI l i 6)).v.ks) j) 0) (kidI (kidL l i 6) (gt ((gt (kidL l i 6) (kidI l i 6)).v.ks) j) 0)).v.text)) rfl (by kernel_rfl) (fun _ => by kernel_rfl)) ?_
    refine SR.one (j := 5) (by kernel_rfl) rfl (st_lend0 rfl rfl rfl rfl hbd73 rfl .n (.c (.t .h) .n) (fun w_ hw => index_ A24 6 c25 kindsL ((gt (kidL (kidL l i 6) (gt ((gt (kidL l i 6) (kidI l i 6)).v.ks) j) 0) (kidI (kidL l i 6) (gt ((gt (kidL l i 6) (kidI l i 6)).v.ks) j) 0)).v.text) _ _ (Fr.lend hw 0 rfl (by first | omega | simp only [LL] <;> omega | simp <;> omega)) (by first | omega | simp only [LL] <;> omega | simp <;> omega)) (fun v_q34 C_q34 q34 => ⟨tt0, ?_⟩))
    obtain ⟨r33, p35, rfl, rfl⟩ := q34
    show SR _ _ _ _ _ _ _ _ _ ⟨_, _ :: _, _, _⟩
    refine SR.k 6 rfl (by kernel_rfl) rfl (ev_add rfl rfl rfl (r := (r33 + 1)) rfl (by omega) (by omega)) ?_
    refine SR.one (j := 8) (by kernel_rfl) rfl (st_callk rfl rfl rfl rfl hbd62 rfl .n (num_g A26 ((kidL l i 6).length) c27 (kidL l i 6) (gt ((gt (kidL l i 6) (kidI l i 6)).v.ks) j) 1 _ _ (Fr.ext hfz18 hx_23) (((kid_nt hN)).ext hx_23) (by first | omega | simp only [LL] <;> omega | simp <;> omega) (by first | omega | simp only [LL] <;> omega | simp <;> omega) (by omega)) ⟨tt0, ?_⟩)
    refine SR.k 9 rfl (by kernel_rfl) rfl (ev_any (v := .agg #[.int .i64 (r33 + 1), .int .i64 (gI l i j 1)]) rfl (by kernel_rfl) (fun _ => by kernel_rfl)) ?_
    refine SR.k 10 rfl (by kernel_rfl) rfl (ev_fa rfl fo58_0 rfl (r := 0) rfl) ?_
    refine SR.one (j := 11) (by kernel_rfl) rfl (st_storea (l' := [.int .i64 (r33 + 1), .int .i64 (gI l i j 1), .int .i64 (gI l i j 2), .int .i64 (gI l i j 3), .int .i64 (gI l i j 4), .int .i64 (gI l i j 5), .slice none 0 0, .int .i64 (gI l i j 7), .int .i64 (gI l i j 8)]) rfl rfl rfl ty55 rfl rfl rfl (.t (.t .h)) rfl rfl ⟨tt0, ?_⟩)
    refine SR.fin (by kernel_rfl) hl_23 hx_23 hR_23 (.c (.c (.c .n))) ?_
    refine SQ.go idQ ?_
    refine .seq (.seq ?_)
    refine SC.nilrow eZ 3 ?_
    refine .region ?_
    refine .v (ev_lda rfl rfl (At.whole 4 rfl) ty112) rfl ?_
    refine .cons (st_call0 rfl rfl rfl rfl hbd60 rfl .n (kid_g A26 ((kidL l i 6).length) c27 (kidL l i 6) (gt ((gt (kidL l i 6) (kidI l i 6)).v.ks) j) 6 _ _ hfz18 (kid_nt hN) (by first | omega | simp only [LL] <;> omega | simp <;> omega) (by first | omega | simp only [LL] <;> omega | simp <;> omega) (by omega)) (fun v_q38 C_q38 q38 => ?_))
    obtain ⟨A236, c237, p39, rfl, rfl⟩ := q38
    show SP _ _ _ _ _ _ ⟨_, _ :: _, _, _⟩
    have hkr40 := kid_rng (l := (kidL l i 6)) (i := (gt ((gt (kidL l i 6) (kidI l i 6)).v.ks) j)) (k := 6) (by omega)
    have hkl41 := kid_len (l := (kidL l i 6)) (i := (gt ((gt (kidL l i 6) (kidI l i 6)).v.ks) j)) (k := 6) (by omega) (by omega)
    refine .cons (st_lend0 rfl rfl rfl rfl hbd63 rfl .n (.c .h .n) (fun w_ hw => kids_ A236 ((kidL (kidL l i 6) (gt ((gt (kidL l i 6) (kidI l i 6)).v.ks) j) 6).length) c237 (kidL (kidL l i 6) (gt ((gt (kidL l i 6) (kidI l i 6)).v.ks) j) 6) (kidI (kidL l i 6) (gt ((gt (kidL l i 6) (kidI l i 6)).v.ks) j) 6) _ _ (Fr.lendm hw 0 rfl (kid_len (l := (kidL l i 6)) (i := (gt ((gt (kidL l i 6) (kidI l i 6)).v.ks) j)) (k := 6) (by omega) (by omega)).1 (kid_fr p39 hfz18)) (((kid_nt (kid_nt hN))).ext hw.lendx) (by first | omega | simp only [LL] <;> omega | simp <;> omega) (by first | omega | simp only [LL] <;> omega | simp <;> omega) (KW.ks (by first | exact kid_kw (kid_kw hKW) | exact kid_kw hKW) (by first | (exact kid_rng (by omega)) | omega)) (Nat.le_trans (KW.len (by first | exact kid_kw (kid_kw hKW) | exact kid_kw hKW) (by first | (exact kid_rng (by omega)) | omega)) (by decide))) (fun v_q43 C_q43 q43 => ?_))
    obtain ⟨u42, rfl, rfl⟩ := q43
    show SP _ _ _ _ _ _ ⟨_, _ :: _ :: _, _, _⟩
    refine .know (row_len 0 rfl) (fun hv46 => ?_)
    obtain ⟨A44, c45, rfl, hv46_1, hv46_2⟩ := hv46
    unfold maxLen at hv46_2
    refine .v (ev_len rfl Try.underlying115 rfl) rfl ?_
    refine .v (ev_mv rfl rfl) rfl ?_
    refine .go idQ (.block ?_)
    have hzl := KW.len (kid_kw (l := (kidL l i 6)) (i := (gt (gt (kidL l i 6) (kidI l i 6)).v.ks j)) (k := 6) (kid_kw (l := l) (i := i) (k := 6) hKW)) (kid_rng (l := (kidL l i 6)) (i := (gt (gt (kidL l i 6) (kidI l i 6)).v.ks j)) (k := 6) (by omega))
    refine .loop (X := Int × Value × (List Int)) (fun ⟨z, LV, Z⟩ => 0 ≤ z ∧ z ≤ (gt (kidL (kidL l i 6) (gt (gt (kidL l i 6) (kidI l i 6)).v.ks j) 6) (kidI (kidL l i 6) (gt (gt (kidL l i 6) (kidI l i 6)).v.ks j) 6)).v.ks.length ∧ (Z.length : Int) = z) (fun ⟨z, LV, Z⟩ => [(2, .pointer (some ⟨b2, 0, none⟩)), (3, .pointer (some ⟨bb4, 0, none⟩)), (6, .pointer (some ⟨bb21, 0, none⟩)), (24, .slice A14 (((gt (kidL l i 6) (kidI l i 6)).v.ks).length) c15), (25, .int .i64 ((((gt (kidL l i 6) (kidI l i 6)).v.ks).length : Nat) : Int)), (26, .int .i64 j), (56, .slice A44 (((gt (kidL (kidL l i 6) (gt ((gt (kidL l i 6) (kidI l i 6)).v.ks) j) 6) (kidI (kidL l i 6) (gt ((gt (kidL l i 6) (kidI l i 6)).v.ks) j) 6)).v.ks).length) c45), (57, .int .i64 ((((gt (kidL (kidL l i 6) (gt ((gt (kidL l i 6) (kidI l i 6)).v.ks) j) 6) (kidI (kidL l i 6) (gt ((gt (kidL l i 6) (kidI l i 6)).v.ks) j) 6)).v.ks).length : Nat) : Int)), (58, .int .i64 z)]) (fun ⟨z, LV, Z⟩ => [cel bb21 [.int .i64 (r33 + 1), .int .i64 (gI l i j 1), .int .i64 (gI l i j 2), .int .i64 (gI l i j 3), .int .i64 (gI l i j 4), .int .i64 (gI l i j 5), LV, .int .i64 (gI l i j 7), .int .i64 (gI l i j 8)] 58, rw_ eZ 3 (LV) Z, rw_ (ePt A236 ((kidL (kidL l i 6) (gt ((gt (kidL l i 6) (kidI l i 6)).v.ks) j) 6).length) c237) 112 (.slice A44 (((gt (kidL (kidL l i 6) (gt ((gt (kidL l i 6) (kidI l i 6)).v.ks) j) 6) (kidI (kidL l i 6) (gt ((gt (kidL l i 6) (kidI l i 6)).v.ks) j) 6)).v.ks).length) c45) ((gt (kidL (kidL l i 6) (gt ((gt (kidL l i 6) (kidI l i 6)).v.ks) j) 6) (kidI (kidL l i 6) (gt ((gt (kidL l i 6) (kidI l i 6)).v.ks) j) 6)).v.ks), rw_ (ePt A26 ((kidL l i 6).length) c27) 112 (.slice A14 (((gt (kidL l i 6) (kidI l i 6)).v.ks).length) c15) ((gt (kidL l i 6) (kidI l i 6)).v.ks), rw_ eST 58 (SV) Ls, nestS 3 Ls, cel bb4 [.int .i64 (numG l i 0), SV, .int .i64 (numG l i 2), .int .i64 (numG l i 3), .int .i64 (numG l i 4), .int .i64 (numG l i 5), .int .i64 (numG l i 1)] 52, cel b2 [.int .i64 0, .slice none 0 0, .int .i64 0, .int .i64 0, .int .i64 0, .int .i64 0, .int .i64 0] 52]) (fun _ => S) (fun _ => wf) (fun ⟨z, LV, Z⟩ => ((gt (kidL (kidL l i 6) (gt (gt (kidL l i 6) (kidI l i 6)).v.ks j) 6) (kidI (kidL l i 6) (gt (gt (kidL l i 6) (kidI l i 6)).v.ks j) 6)).v.ks.length - z.toNat)) (fun a_ w_ hs_ hw_ => ⟨⟨0, (.slice none 0 0), ([] : List Int)⟩, (by exact ⟨by omega, by omega, rfl⟩), hs_.mono (Sub.get (.c rfl (.c rfl (.c rfl (.c rfl (.c rfl (.c rfl (.c rfl (.c rfl (.c rfl .n)))))))))), hw_.keep (.c (.t (.t (.t .h))) (.c (.t (.t .h)) (.c .h (.c (.t (.t (.t (.t (.t (.t (.t .h))))))) (.c (.t (.t (.t (.t (.t .h))))) (.c (.t (.t (.t (.t (.t .h))))) (.c (.t (.t (.t (.t .h)))) (.c (.t (.t (.t (.t .h)))) .n))))))))⟩) (fun ⟨z, LV, Z⟩ ⟨r_0, r_1, r_2⟩ => ?_)
    show SC _ _ _ _ _ ⟨[(2, .pointer (some ⟨b2, 0, none⟩)), (3, .pointer (some ⟨bb4, 0, none⟩)), (6, .pointer (some ⟨bb21, 0, none⟩)), (24, .slice A14 (((gt (kidL l i 6) (kidI l i 6)).v.ks).length) c15), (25, .int .i64 ((((gt (kidL l i 6) (kidI l i 6)).v.ks).length : Nat) : Int)), (26, .int .i64 j), (56, .slice A44 (((gt (kidL (kidL l i 6) (gt ((gt (kidL l i 6) (kidI l i 6)).v.ks) j) 6) (kidI (kidL l i 6) (gt ((gt (kidL l i 6) (kidI l i 6)).v.ks) j) 6)).v.ks).length) c45), (57, .int .i64 ((((gt (kidL (kidL l i 6) (gt ((gt (kidL l i 6) (kidI l i 6)).v.ks) j) 6) (kidI (kidL l i 6) (gt ((gt (kidL l i 6) (kidI l i 6)).v.ks) j) 6)).v.ks).length : Nat) : Int)), (58, .int .i64 z)], [cel bb21 [.int .i64 (r33 + 1), .int .i64 (gI l i j 1), .int .i64 (gI l i j 2), .int .i64 (gI l i j 3), .int .i64 (gI l i j 4), .int .i64 (gI l i j 5), LV, .int .i64 (gI l i j 7), .int .i64 (gI l i j 8)] 58, rw_ eZ 3 (LV) Z, rw_ (ePt A236 ((kidL (kidL l i 6) (gt ((gt (kidL l i 6) (kidI l i 6)).v.ks) j) 6).length) c237) 112 (.slice A44 (((gt (kidL (kidL l i 6) (gt ((gt (kidL l i 6) (kidI l i 6)).v.ks) j) 6) (kidI (kidL l i 6) (gt ((gt (kidL l i 6) (kidI l i 6)).v.ks) j) 6)).v.ks).length) c45) ((gt (kidL (kidL l i 6) (gt ((gt (kidL l i 6) (kidI l i 6)).v.ks) j) 6) (kidI (kidL l i 6) (gt ((gt (kidL l i 6) (kidI l i 6)).v.ks) j) 6)).v.ks), rw_ (ePt A26 ((kidL l i 6).length) c27) 112 (.slice A14 (((gt (kidL l i 6) (kidI l i 6)).v.ks).length) c15) ((gt (kidL l i 6) (kidI l i 6)).v.ks), rw_ eST 58 (SV) Ls, nestS 3 Ls, cel bb4 [.int .i64 (numG l i 0), SV, .int .i64 (numG l i 2), .int .i64 (numG l i 3), .int .i64 (numG l i 4), .int .i64 (numG l i 5), .int .i64 (numG l i 1)] 52, cel b2 [.int .i64 0, .slice none 0 0, .int .i64 0, .int .i64 0, .int .i64 0, .int .i64 0, .int .i64 0] 52], S, wf⟩
    refine .seq (.region ?_)
    refine .v (ev_cmp rfl rfl rfl rfl) rfl ?_
    refine .go idQ (.seq ?_)
    refine .condI rfl bD (fun h47 => ?_) (fun h47 => ?_)
    ·
     refine .skipgo idQ (.seq (.block (.seq ?_)))
     have hzr := (KW.ks (kid_kw (kid_kw hKW)) (kid_rng (l := (kidL l i 6)) (i := (gt (gt (kidL l i 6) (kidI l i 6)).v.ks j)) (k := 6) (by omega)) z (by omega) (by omega)).rng (n := (kidL (kidL l i 6) (gt (gt (kidL l i 6) (kidI l i 6)).v.ks j) 6).length) (kid_rng (l := (kidL l i 6)) (i := (gt (gt (kidL l i 6) (kidI l i 6)).v.ks j)) (k := 6) (by omega))
     unfold kidT at hzr
     have hfz48 := kid_fr (S := S) (wf := wf) p39 hfz18 (kid_own (l := (kidL l i 6)) (i := (gt ((gt (kidL l i 6) (kidI l i 6)).v.ks) j)) (k := 6) (j := z) (by omega))
     refine .region ?_
     refine .v (ev_ix rfl Try.underlying115 ty112 rfl rfl (by omega) (by omega) (row_adr (i := z) 2 rfl (by omega) (by first | omega | simp only [LL] <;> omega | simp <;> omega))) rfl ?_
     refine .v (ev_lda rfl rfl (row_el (E := (ePt A236 ((kidL (kidL l i 6) (gt ((gt (kidL l i 6) (kidI l i 6)).v.ks) j) 6).length) c237)) (l := (gt (kidL (kidL l i 6) (gt ((gt (kidL l i 6) (kidI l i 6)).v.ks) j) 6) (kidI (kidL l i 6) (gt ((gt (kidL l i 6) (kidI l i 6)).v.ks) j) 6)).v.ks) (i := z) 2 rfl (by omega) (by first | omega | simp only [LL] <;> omega | simp <;> omega)) ty112) rfl ?_
     refine .cons (st_alloc rfl rfl rfl rfl zf112 (fun b49 => ?_))
     refine .cons (st_storea (l' := [.slice A236 ((kidL (kidL l i 6) (gt ((gt (kidL l i 6) (kidI l i 6)).v.ks) j) 6).length) c237, .int .i64 (gt ((gt (kidL (kidL l i 6) (gt ((gt (kidL l i 6) (kidI l i 6)).v.ks) j) 6) (kidI (kidL l i 6) (gt ((gt (kidL l i 6) (kidI l i 6)).v.ks) j) 6)).v.ks) z)]) rfl rfl rfl ty112 rfl rfl rfl .h rfl rfl ?_)
     refine .go idQ ?_
     refine SC.draw mo [cel bb21 [.int .i64 (r33 + 1), .int .i64 (gI l i j 1), .int .i64 (gI l i j 2), .int .i64 (gI l i j 3), .int .i64 (gI l i j 4), .int .i64 (gI l i j 5), LV, .int .i64 (gI l i j 7), .int .i64 (gI l i j 8)] 58, rw_ eZ 3 (LV) Z] [(8, fun w => At w bb21 0 [.int .i64 (r33 + 1), .int .i64 (gI l i j 1), .int .i64 (gI l i j 2), .int .i64 (gI l i j 3), .int .i64 (gI l i j 4), .int .i64 (gI l i j 5), LV, .int .i64 (gI l i j 7), .int .i64 (gI l i j 8)])] (.c (.t .h) (.c (.t .h) .n)) (fun w_ _ hw_ => (sc1 (At.whole 0 rfl w_ hw_) sc0)) (fun wf_50 hl_50 hx_50 hR_50 => ?_)
     refine SR.k 0 rfl (by kernel_rfl) rfl (ev_fa rfl fo58_5 rfl (r := 6) rfl) ?_
     refine SR.k 1 rfl (by kernel_rfl) rfl (ev_ld1 rfl ty56 rfl (At.elem1 (v := LV) (At.ofcs 0 rfl (by kernel_rfl)) 6 rfl)) ?_
     refine SR.k 2 rfl (by kernel_rfl) rfl (ev_lda (cs := [.slice A236 ((kidL (kidL l i 6) (gt ((gt (kidL l i 6) (kidI l i 6)).v.ks) j) 6).length) c237, .int .i64 (gt ((gt (kidL (kidL l i 6) (gt ((gt (kidL l i 6) (kidI l i 6)).v.ks) j) 6) (kidI (kidL l i 6) (gt ((gt (kidL l i 6) (kidI l i 6)).v.ks) j) 6)).v.ks) z)]) rfl rfl (At.d (At.lent hR_50 0 rfl rfl)) ty112) ?_
     refine SR.one (j := 3) (by kernel_rfl) rfl (st_callk rfl rfl rfl rfl hbd61 rfl .n (value_ A236 ((kidL (kidL l i 6) (gt ((gt (kidL l i 6) (kidI l i 6)).v.ks) j) 6).length) c237 (kidL (kidL l i 6) (gt ((gt (kidL l i 6) (kidI l i 6)).v.ks) j) 6) (gt ((gt (kidL (kidL l i 6) (gt ((gt (kidL l i 6) (kidI l i 6)).v.ks) j) 6) (kidI (kidL l i 6) (gt ((gt (kidL l i 6) (kidI l i 6)).v.ks) j) 6)).v.ks) z) _ _ (Fr.ext hfz48 hx_50) (by first | omega | simp only [LL] <;> omega | simp <;> omega) (by first | omega | simp only [LL] <;> omega | simp <;> omega)) ⟨ttc (fun w_ hw_ => (tc1 (by first | exact At.whole 0 rfl w_ hw_ | exact At.whole 1 rfl w_ hw_ | exact At.whole 2 rfl w_ hw_ | exact At.whole 3 rfl w_ hw_ | exact At.whole 4 rfl w_ hw_ | exact At.whole 5 rfl w_ hw_ | exact At.whole 6 rfl w_ hw_) tc0)), ?_⟩)
     refine SR.k 4 rfl (by kernel_rfl) rfl (ev_any (v := .int .i64 ((gt (kidL (kidL l i 6) (gt ((gt (kidL l i 6) (kidI l i 6)).v.ks) j) 6) (gt ((gt (kidL (kidL l i 6) (gt ((gt (kidL l i 6) (kidI l i 6)).v.ks) j) 6) (kidI (kidL l i 6) (gt ((gt (kidL l i 6) (kidI l i 6)).v.ks) j) 6)).v.ks) z)).v.num)) rfl (by kernel_rfl) (fun _ => by kernel_rfl)) ?_
     refine SR.one (j := 5) (by kernel_rfl) rfl (st_lit eZ (e := 3) (l := [(gt (kidL (kidL l i 6) (gt ((gt (kidL l i 6) (kidI l i 6)).v.ks) j) 6) (gt ((gt (kidL (kidL l i 6) (gt ((gt (kidL l i 6) (kidI l i 6)).v.ks) j) 6) (kidI (kidL l i 6) (gt ((gt (kidL l i 6) (kidI l i 6)).v.ks) j) 6)).v.ks) z)).v.num]) rfl rfl rfl rfl (by kernel_rfl) rfl rfl (fun w => by kernel_rfl) (fun b51 => ⟨ttc (fun w_ hw_ => (tc1 (by first | exact At.whole 0 rfl w_ hw_ | exact At.whole 1 rfl w_ hw_ | exact At.whole 2 rfl w_ hw_ | exact At.whole 3 rfl w_ hw_ | exact At.whole 4 rfl w_ hw_ | exact At.whole 5 rfl w_ hw_ | exact At.whole 6 rfl w_ hw_) tc0)), ?_⟩))
     refine SR.one (j := 6) (by kernel_rfl) rfl (st_app (E := eZ) (m := [(gt (kidL (kidL l i 6) (gt ((gt (kidL l i 6) (kidI l i 6)).v.ks) j) 6) (gt ((gt (kidL (kidL l i 6) (gt ((gt (kidL l i 6) (kidI l i 6)).v.ks) j) 6) (kidI (kidL l i 6) (gt ((gt (kidL l i 6) (kidI l i 6)).v.ks) j) 6)).v.ks) z)).v.num]) rfl rfl rfl rfl Try.underlying56 ai3 rfl rfl rfl (.t (.t .h)) (by first | rfl | omega | simp) (row_src 0 rfl) (by first | omega | simp only [LL] <;> omega | simp <;> omega) rfl (fun v52 => ⟨ttc (fun w_ hw_ => (tc1 (by first | exact At.whole 0 rfl w_ hw_ | exact At.whole 1 rfl w_ hw_ | exact At.whole 2 rfl w_ hw_ | exact At.whole 3 rfl w_ hw_ | exact At.whole 4 rfl w_ hw_ | exact At.whole 5 rfl w_ hw_ | exact At.whole 6 rfl w_ hw_) tc0)), ?_⟩))
     refine SR.k 7 rfl (by kernel_rfl) rfl (ev_fa rfl fo58_5 rfl (r := 6) rfl) ?_
     refine .know (row_len 0 rfl) (fun hv55 => ?_)
     obtain ⟨A53, c54, rfl, hv55_1, hv55_2⟩ := hv55
     unfold maxLen at hv55_2
     refine SR.one (j := 8) (by kernel_rfl) rfl (st_store1 rfl rfl rfl ty56 rfl rfl rfl (.t (.t .h)) (.t (.t (.t (.t (.t (.t .h)))))) ⟨ttc (fun w_ hw_ => (tc2 (by kernel_rfl) tc0)), ?_⟩)
     refine SR.fin (by kernel_rfl) hl_50 hx_50 hR_50 (.c (.c (.c .n))) ?_
     refine SQ.go idQ ?_
     refine .region ?_
     refine .v (ev_add rfl rfl rfl (r := (z + 1)) rfl (by omega) (by omega)) rfl ?_
     refine .v (ev_mv rfl rfl) rfl ?_
     exact SP.nil (SQ.roundb (X := Int × Value × (List Int)) (x := (z, LV, Z)) ⟨(z + 1), .slice A53 ((Z ++ [(gt (kidL (kidL l i 6) (gt ((gt (kidL l i 6) (kidI l i 6)).v.ks) j) 6) (gt ((gt (kidL (kidL l i 6) (gt ((gt (kidL l i 6) (kidI l i 6)).v.ks) j) 6) (kidI (kidL l i 6) (gt ((gt (kidL l i 6) (kidI l i 6)).v.ks) j) 6)).v.ks) z)).v.num]).length) c54, (Z ++ [(gt (kidL (kidL l i 6) (gt ((gt (kidL l i 6) (kidI l i 6)).v.ks) j) 6) (gt ((gt (kidL (kidL l i 6) (gt ((gt (kidL l i 6) (kidI l i 6)).v.ks) j) 6) (kidI (kidL l i 6) (gt ((gt (kidL l i 6) (kidI l i 6)).v.ks) j) 6)).v.ks) z)).v.num])⟩ (by exact ⟨by omega, by omega, by rw [List.length_append]; simp; omega⟩) (by dsimp only; omega) (Sub.get (.c rfl (.c rfl (.c rfl (.c rfl (.c rfl (.c rfl (.c rfl (.c rfl (.c rfl .n)))))))))) (fun w hw => hw.keep (.c .h (.c .h (.c (.t (.t .h)) (.c (.t (.t .h)) (.c (.t (.t .h)) (.c (.t (.t .h)) (.c (.t (.t .h)) (.c (.t (.t .h)) .n))))))))))
    refine .exit idQ ?_
    refine .region ?_
    refine .v (ev_fa rfl fo52_1 rfl (r := 1) rfl) rfl ?_
    refine .v (ev_ld1 rfl ty50 rfl (At.own1 6 rfl rfl)) rfl ?_
    refine .v (ev_lda rfl rfl (At.whole 0 rfl) ty58) rfl ?_
    refine .know (row_len 1 rfl) (fun hv58 => ?_)
    obtain ⟨A56, c57, rfl, hv58_1, hv58_2⟩ := hv58
    unfold maxLen at hv58_2
    refine .cons (st_lit eST (e := 58) (l := [(ST.mk (r33 + 1) (gI l i j 1) (gI l i j 2) (gI l i j 3) (gI l i j 4) (gI l i j 5) Z (gI l i j 7) (gI l i j 8) A56 c57)]) rfl rfl rfl rfl (by kernel_rfl) rfl rfl (fun w => by kernel_rfl) (fun b59 => ?_))
    refine .cons (st_app (E := eST) (m := [(ST.mk (r33 + 1) (gI l i j 1) (gI l i j 2) (gI l i j 3) (gI l i j 4) (gI l i j 5) Z (gI l i j 7) (gI l i j 8) A56 c57)]) rfl rfl rfl rfl Try.underlying50 ai58 rfl rfl rfl (.t (.t (.t (.t (.t .h))))) (by first | rfl | omega | simp) (row_src 0 rfl) (by first | omega | simp only [LL] <;> omega | simp <;> omega) rfl (fun v60 => ?_))
    refine .v (ev_fa rfl fo52_1 rfl (r := 1) rfl) rfl ?_
    refine .know (row_len 0 rfl) (fun hv63 => ?_)
    obtain ⟨A61, c62, rfl, hv63_1, hv63_2⟩ := hv63
    unfold maxLen at hv63_2
    refine .cons (st_store1 rfl rfl rfl ty50 rfl rfl rfl (.t (.t (.t (.t (.t (.t (.t .h))))))) (.t .h) ?_)
    refine .go idQ ?_
    refine SC.packS (ST.mk (r33 + 1) (gI l i j 1) (gI l i j 2) (gI l i j 3) (gI l i j 4) (gI l i j 5) Z (gI l i j 7) (gI l i j 8) A56 c57) (.c (.t (.t (.t (.t (.t (.t (.t .h))))))) (.c (.t (.t (.t (.t .h)))) .n)) (by first | omega | (simp; omega)) ?_
    refine .region ?_
    refine .v (ev_add rfl rfl rfl (r := (j + 1)) rfl (by omega) (by omega)) rfl ?_
    refine .v (ev_mv rfl rfl) rfl ?_
    exact SP.nil (SQ.roundb (X := Int × Value × (List ST)) (x := (j, SV, Ls)) ⟨(j + 1), .slice A61 ((Ls ++ [(ST.mk (r33 + 1) (gI l i j 1) (gI l i j 2) (gI l i j 3) (gI l i j 4) (gI l i j 5) Z (gI l i j 7) (gI l i j 8) A56 c57)]).length) c62, (Ls ++ [(ST.mk (r33 + 1) (gI l i j 1) (gI l i j 2) (gI l i j 3) (gI l i j 4) (gI l i j 5) Z (gI l i j 7) (gI l i j 8) A56 c57)])⟩ (by exact ⟨by omega, by omega, by rw [List.length_append]; simp; omega, fun s hs => by rcases List.mem_append.1 hs with hs | hs; exact q_3 s hs; simp only [List.mem_singleton] at hs; subst hs; exact ⟨by dsimp only; omega, by dsimp only; omega⟩⟩) (by dsimp only; omega) (Sub.get (.c rfl (.c rfl (.c rfl (.c rfl (.c rfl .n)))))) (fun w hw => hw.keep (.c (.t .h) (.c (.t .h) (.c .h (.c (.t (.t (.t .h))) (.c (.t (.t (.t .h))) .n)))))))
   refine SR.k 0 rfl (by kernel_rfl) rfl (ev_lda (cs := [.slice A26 ((kidL l i 6).length) c27, .int .i64 (gt ((gt (kidL l i 6) (kidI l i 6)).v.ks) j)]) rfl rfl (At.d (At.lent hR_20 0 rfl rfl)) ty112) ?_
   refine SR.k 2 rfl (by kernel_rfl) rfl (ev_lda (cs := [.slice A26 ((kidL l i 6).length) c27, .int .i64 (gt ((gt (kidL l i 6) (kidI l i 6)).v.ks) j)]) rfl rfl (At.d (At.lent hR_20 0 rfl rfl)) ty112) ?_
   refine SR.k 4 rfl (by kernel_rfl) rfl (ev_lda (cs := [.slice A26 ((kidL l i 6).length) c27, .int .i64 (gt ((gt (kidL l i 6) (kidI l i 6)).v.ks) j)]) rfl rfl (At.d (At.lent hR_20 0 rfl rfl)) ty112) ?_
   refine SR.k 6 rfl (by kernel_rfl) rfl (ev_lda (cs := [.slice A26 ((kidL l i 6).length) c27, .int .i64 (gt ((gt (kidL l i 6) (kidI l i 6)).v.ks) j)]) rfl rfl (At.d (At.lent hR_20 0 rfl rfl)) ty112) ?_
   refine SR.k 8 rfl (by kernel_rfl) rfl (ev_lda (cs := [.slice A26 ((kidL l i 6).length) c27, .int .i64 (gt ((gt (kidL l i 6) (kidI l i 6)).v.ks) j)]) rfl rfl (At.d (At.lent hR_20 0 rfl rfl)) ty112) ?_
   refine SR.k 10 rfl (by kernel_rfl) rfl (ev_lda (cs := [.slice A26 ((kidL l i 6).length) c27, .int .i64 (gt ((gt (kidL l i 6) (kidI l i 6)).v.ks) j)]) rfl rfl (At.d (At.lent hR_20 0 rfl rfl)) ty112) ?_
   refine SR.two (i := 1) (j := 13) (by kernel_rfl) ⟨_, rfl, ?_⟩ ⟨_, rfl, ?_⟩
   ·
    refine st_callk rfl rfl rfl rfl hbd62 rfl .n (num_g A26 ((kidL l i 6).length) c27 (kidL l i 6) (gt ((gt (kidL l i 6) (kidI l i 6)).v.ks) j) 2 _ _ (Fr.ext hfz18 hx_20) (((kid_nt hN)).ext hx_20) (by first | omega | simp only [LL] <;> omega | simp <;> omega) (by first | omega | simp only [LL] <;> omega | simp <;> omega) (by omega)) ⟨tt0, ?_⟩
    refine SR.two (i := 3) (j := 13) (by kernel_rfl) ⟨_, rfl, ?_⟩ ⟨_, rfl, ?_⟩
    ·
     refine st_callk rfl rfl rfl rfl hbd62 rfl .n (num_g A26 ((kidL l i 6).length) c27 (kidL l i 6) (gt ((gt (kidL l i 6) (kidI l i 6)).v.ks) j) 3 _ _ (Fr.ext hfz18 hx_20) (((kid_nt hN)).ext hx_20) (by first | omega | simp only [LL] <;> omega | simp <;> omega) (by first | omega | simp only [LL] <;> omega | simp <;> omega) (by omega)) ⟨tt0, ?_⟩
     refine SR.two (i := 5) (j := 13) (by kernel_rfl) ⟨_, rfl, ?_⟩ ⟨_, rfl, ?_⟩
     ·
      refine st_callk rfl rfl rfl rfl hbd62 rfl .n (num_g A26 ((kidL l i 6).length) c27 (kidL l i 6) (gt ((gt (kidL l i 6) (kidI l i 6)).v.ks) j) 4 _ _ (Fr.ext hfz18 hx_20) (((kid_nt hN)).ext hx_20) (by first | omega | simp only [LL] <;> omega | simp <;> omega) (by first | omega | simp only [LL] <;> omega | simp <;> omega) (by omega)) ⟨tt0, ?_⟩
      refine SR.two (i := 7) (j := 13) (by kernel_rfl) ⟨_, rfl, ?_⟩ ⟨_, rfl, ?_⟩
      ·
       refine st_callk rfl rfl rfl rfl hbd62 rfl .n (num_g A26 ((kidL l i 6).length) c27 (kidL l i 6) (gt ((gt (kidL l i 6) (kidI l i 6)).v.ks) j) 5 _ _ (Fr.ext hfz18 hx_20) (((kid_nt hN)).ext hx_20) (by first | omega | simp only [LL] <;> omega | simp <;> omega) (by first | omega | simp only [LL] <;> omega | simp <;> omega) (by omega)) ⟨tt0, ?_⟩
       refine SR.two (i := 9) (j := 13) (by kernel_rfl) ⟨_, rfl, ?_⟩ ⟨_, rfl, ?_⟩
       ·
        refine st_callk rfl rfl rfl rfl hbd62 rfl .n (num_g A26 ((kidL l i 6).length) c27 (kidL l i 6) (gt ((gt (kidL l i 6) (kidI l i 6)).v.ks) j) 7 _ _ (Fr.ext hfz18 hx_20) (((kid_nt hN)).ext hx_20) (by first | omega | simp only [LL] <;> omega | simp <;> omega) (by first | omega | simp only [LL] <;> omega | simp <;> omega) (by omega)) ⟨tt0, ?_⟩
        refine SR.two (i := 11) (j := 13) (by kernel_rfl) ⟨_, rfl, ?_⟩ ⟨_, rfl, ?_⟩
        ·
         refine st_callk rfl rfl rfl rfl hbd62 rfl .n (num_g A26 ((kidL l i 6).length) c27 (kidL l i 6) (gt ((gt (kidL l i 6) (kidI l i 6)).v.ks) j) 8 _ _ (Fr.ext hfz18 hx_20) (((kid_nt hN)).ext hx_20) (by first | omega | simp only [LL] <;> omega | simp <;> omega) (by first | omega | simp only [LL] <;> omega | simp <;> omega) (by omega)) ⟨tt0, ?_⟩
         refine SR.k 12 rfl (by kernel_rfl) rfl (ev_any (v := .agg #[.int .i64 0, .int .i64 0, .int .i64 (gI l i j 2), .int .i64 (gI l i j 3), .int .i64 (gI l i j 4), .int .i64 (gI l i j 5), .slice none 0 0, .int .i64 (gI l i j 7), .int .i64 (gI l i j 8)]) rfl (by kernel_rfl) (fun _ => by kernel_rfl)) ?_
         refine SR.one (j := 13) (by kernel_rfl) rfl (st_alloc rfl rfl rfl rfl zf58 (fun b64 => ⟨tt0, ?_⟩))
         refine SR.one (j := 14) (by kernel_rfl) rfl (st_storea (l' := [.int .i64 0, .int .i64 0, .int .i64 (gI l i j 2), .int .i64 (gI l i j 3), .int .i64 (gI l i j 4), .int .i64 (gI l i j 5), .slice none 0 0, .int .i64 (gI l i j 7), .int .i64 (gI l i j 8)]) rfl rfl rfl ty58 rfl rfl rfl .h rfl rfl ⟨tt0, ?_⟩)
         refine SR.fin (by kernel_rfl) hl_20 hx_20 hR_20 (.c .n) ?_
         exact SQ.weak (key22 b64) (Sub.get (.c rfl (.c rfl (.c rfl (.c rfl (.c rfl (.c rfl (.c rfl (.c rfl (.c rfl (.c rfl (.c rfl (.c rfl (.c rfl (.c rfl (.c rfl (.c rfl (.c rfl (.c rfl (.c rfl (.c rfl (.c rfl (.c rfl (.c rfl .n)))))))))))))))))))))))) (fun w hw => hw.keep (.c .h (.c .h (.c .h (.c .h (.c .h (.c .h (.c .h .n))))))))
        refine st_alloc rfl rfl rfl rfl zf58 (fun b65 => ⟨tt0, ?_⟩)
        refine SR.one (j := 11) (by kernel_rfl) rfl (st_callk rfl rfl rfl rfl hbd62 rfl .n (num_g A26 ((kidL l i 6).length) c27 (kidL l i 6) (gt ((gt (kidL l i 6) (kidI l i 6)).v.ks) j) 8 _ _ (Fr.ext hfz18 hx_20) (((kid_nt hN)).ext hx_20) (by first | omega | simp only [LL] <;> omega | simp <;> omega) (by first | omega | simp only [LL] <;> omega | simp <;> omega) (by omega)) ⟨tt0, ?_⟩)
        refine SR.k 12 rfl (by kernel_rfl) rfl (ev_any (v := .agg #[.int .i64 0, .int .i64 0, .int .i64 (gI l i j 2), .int .i64 (gI l i j 3), .int .i64 (gI l i j 4), .int .i64 (gI l i j 5), .slice none 0 0, .int .i64 (gI l i j 7), .int .i64 (gI l i j 8)]) rfl (by kernel_rfl) (fun _ => by kernel_rfl)) ?_
        refine SR.one (j := 14) (by kernel_rfl) rfl (st_storea (l' := [.int .i64 0, .int .i64 0, .int .i64 (gI l i j 2), .int .i64 (gI l i j 3), .int .i64 (gI l i j 4), .int .i64 (gI l i j 5), .slice none 0 0, .int .i64 (gI l i j 7), .int .i64 (gI l i j 8)]) rfl rfl rfl ty58 rfl rfl rfl .h rfl rfl ⟨tt0, ?_⟩)
        refine SR.fin (by kernel_rfl) hl_20 hx_20 hR_20 (.c .n) ?_
        exact SQ.weak (key22 b65) (Sub.get (.c rfl (.c rfl (.c rfl (.c rfl (.c rfl (.c rfl (.c rfl (.c rfl (.c rfl (.c rfl (.c rfl (.c rfl (.c rfl (.c rfl (.c rfl (.c rfl (.c rfl (.c rfl (.c rfl (.c rfl (.c rfl (.c rfl (.c rfl .n)))))))))))))))))))))))) (fun w hw => hw.keep (.c .h (.c .h (.c .h (.c .h (.c .h (.c .h (.c .h .n))))))))
       refine st_alloc rfl rfl rfl rfl zf58 (fun b66 => ⟨tt0, ?_⟩)
       refine SR.one (j := 9) (by kernel_rfl) rfl (st_callk rfl rfl rfl rfl hbd62 rfl .n (num_g A26 ((kidL l i 6).length) c27 (kidL l i 6) (gt ((gt (kidL l i 6) (kidI l i 6)).v.ks) j) 7 _ _ (Fr.ext hfz18 hx_20) (((kid_nt hN)).ext hx_20) (by first | omega | simp only [LL] <;> omega | simp <;> omega) (by first | omega | simp only [LL] <;> omega | simp <;> omega) (by omega)) ⟨tt0, ?_⟩)
       refine SR.one (j := 11) (by kernel_rfl) rfl (st_callk rfl rfl rfl rfl hbd62 rfl .n (num_g A26 ((kidL l i 6).length) c27 (kidL l i 6) (gt ((gt (kidL l i 6) (kidI l i 6)).v.ks) j) 8 _ _ (Fr.ext hfz18 hx_20) (((kid_nt hN)).ext hx_20) (by first | omega | simp only [LL] <;> omega | simp <;> omega) (by first | omega | simp only [LL] <;> omega | simp <;> omega) (by omega)) ⟨tt0, ?_⟩)
       refine SR.k 12 rfl (by kernel_rfl) rfl (ev_any (v := .agg #[.int .i64 0, .int .i64 0, .int .i64 (gI l i j 2), .int .i64 (gI l i j 3), .int .i64 (gI l i j 4), .int .i64 (gI l i j 5), .slice none 0 0, .int .i64 (gI l i j 7), .int .i64 (gI l i j 8)]) rfl (by kernel_rfl) (fun _ => by kernel_rfl)) ?_
       refine SR.one (j := 14) (by kernel_rfl) rfl (st_storea (l' := [.int .i64 0, .int .i64 0, .int .i64 (gI l i j 2), .int .i64 (gI l i j 3), .int .i64 (gI l i j 4), .int .i64 (gI l i j 5), .slice none 0 0, .int .i64 (gI l i j 7), .int .i64 (gI l i j 8)]) rfl rfl rfl ty58 rfl rfl rfl .h rfl rfl ⟨tt0, ?_⟩)
       refine SR.fin (by kernel_rfl) hl_20 hx_20 hR_20 (.c .n) ?_
       exact SQ.weak (key22 b66) (Sub.get (.c rfl (.c rfl (.c rfl (.c rfl (.c rfl (.c rfl (.c rfl (.c rfl (.c rfl (.c rfl (.c rfl (.c rfl (.c rfl (.c rfl (.c rfl (.c rfl (.c rfl (.c rfl (.c rfl (.c rfl (.c rfl (.c rfl (.c rfl .n)))))))))))))))))))))))) (fun w hw => hw.keep (.c .h (.c .h (.c .h (.c .h (.c .h (.c .h (.c .h .n))))))))
      refine st_alloc rfl rfl rfl rfl zf58 (fun b67 => ⟨tt0, ?_⟩)
      refine SR.one (j := 7) (by kernel_rfl) rfl (st_callk rfl rfl rfl rfl hbd62 rfl .n (num_g A26 ((kidL l i 6).length) c27 (kidL l i 6) (gt ((gt (kidL l i 6) (kidI l i 6)).v.ks) j) 5 _ _ (Fr.ext hfz18 hx_20) (((kid_nt hN)).ext hx_20) (by first | omega | simp only [LL] <;> omega | simp <;> omega) (by first | omega | simp only [LL] <;> omega | simp <;> omega) (by omega)) ⟨tt0, ?_⟩)
      refine SR.one (j := 9) (by kernel_rfl) rfl (st_callk rfl rfl rfl rfl hbd62 rfl .n (num_g A26 ((kidL l i 6).length) c27 (kidL l i 6) (gt ((gt (kidL l i 6) (kidI l i 6)).v.ks) j) 7 _ _ (Fr.ext hfz18 hx_20) (((kid_nt hN)).ext hx_20) (by first | omega | simp only [LL] <;> omega | simp <;> omega) (by first | omega | simp only [LL] <;> omega | simp <;> omega) (by omega)) ⟨tt0, ?_⟩)
      refine SR.one (j := 11) (by kernel_rfl) rfl (st_callk rfl rfl rfl rfl hbd62 rfl .n (num_g A26 ((kidL l i 6).length) c27 (kidL l i 6) (gt ((gt (kidL l i 6) (kidI l i 6)).v.ks) j) 8 _ _ (Fr.ext hfz18 hx_20) (((kid_nt hN)).ext hx_20) (by first | omega | simp only [LL] <;> omega | simp <;> omega) (by first | omega | simp only [LL] <;> omega | simp <;> omega) (by omega)) ⟨tt0, ?_⟩)
      refine SR.k 12 rfl (by kernel_rfl) rfl (ev_any (v := .agg #[.int .i64 0, .int .i64 0, .int .i64 (gI l i j 2), .int .i64 (gI l i j 3), .int .i64 (gI l i j 4), .int .i64 (gI l i j 5), .slice none 0 0, .int .i64 (gI l i j 7), .int .i64 (gI l i j 8)]) rfl (by kernel_rfl) (fun _ => by kernel_rfl)) ?_
      refine SR.one (j := 14) (by kernel_rfl) rfl (st_storea (l' := [.int .i64 0, .int .i64 0, .int .i64 (gI l i j 2), .int .i64 (gI l i j 3), .int .i64 (gI l i j 4), .int .i64 (gI l i j 5), .slice none 0 0, .int .i64 (gI l i j 7), .int .i64 (gI l i j 8)]) rfl rfl rfl ty58 rfl rfl rfl .h rfl rfl ⟨tt0, ?_⟩)
      refine SR.fin (by kernel_rfl) hl_20 hx_20 hR_20 (.c .n) ?_
      exact SQ.weak (key22 b67) (Sub.get (.c rfl (.c rfl (.c rfl (.c rfl (.c rfl (.c rfl (.c rfl (.c rfl (.c rfl (.c rfl (.c rfl (.c rfl (.c rfl (.c rfl (.c rfl (.c rfl (.c rfl (.c rfl (.c rfl (.c rfl (.c rfl (.c rfl (.c rfl .n)))))))))))))))))))))))) (fun w hw => hw.keep (.c .h (.c .h (.c .h (.c .h (.c .h (.c .h (.c .h .n))))))))
     refine st_alloc rfl rfl rfl rfl zf58 (fun b68 => ⟨tt0, ?_⟩)
     refine SR.one (j := 5) (by kernel_rfl) rfl (st_callk rfl rfl rfl rfl hbd62 rfl .n (num_g A26 ((kidL l i 6).length) c27 (kidL l i 6) (gt ((gt (kidL l i 6) (kidI l i 6)).v.ks) j) 4 _ _ (Fr.ext hfz18 hx_20) (((kid_nt hN)).ext hx_20) (by first | omega | simp only [LL] <;> omega | simp <;> omega) (by first | omega | simp only [LL] <;> omega | simp <;> omega) (by omega)) ⟨tt0, ?_⟩)
     refine SR.one (j := 7) (by kernel_rfl) rfl (st_callk rfl rfl rfl rfl hbd62 rfl .n (num_g A26 ((kidL l i 6).length) c27 (kidL l i 6) (gt ((gt (kidL l i 6) (kidI l i 6)).v.ks) j) 5 _ _ (Fr.ext hfz18 hx_20) (((kid_nt hN)).ext hx_20) (by first | omega | simp only [LL] <;> omega | simp <;> omega) (by first | omega | simp only [LL] <;> omega | simp <;> omega) (by omega)) ⟨tt0, ?_⟩)
     refine SR.one (j := 9) (by kernel_rfl) rfl (st_callk rfl rfl rfl rfl hbd62 rfl .n (num_g A26 ((kidL l i 6).length) c27 (kidL l i 6) (gt ((gt (kidL l i 6) (kidI l i 6)).v.ks) j) 7 _ _ (Fr.ext hfz18 hx_20) (((kid_nt hN)).ext hx_20) (by first | omega | simp only [LL] <;> omega | simp <;> omega) (by first | omega | simp only [LL] <;> omega | simp <;> omega) (by omega)) ⟨tt0, ?_⟩)
     refine SR.one (j := 11) (by kernel_rfl) rfl (st_callk rfl rfl rfl rfl hbd62 rfl .n (num_g A26 ((kidL l i 6).length) c27 (kidL l i 6) (gt ((gt (kidL l i 6) (kidI l i 6)).v.ks) j) 8 _ _ (Fr.ext hfz18 hx_20) (((kid_nt hN)).ext hx_20) (by first | omega | simp only [LL] <;> omega | simp <;> omega) (by first | omega | simp only [LL] <;> omega | simp <;> omega) (by omega)) ⟨tt0, ?_⟩)
     refine SR.k 12 rfl (by kernel_rfl) rfl (ev_any (v := .agg #[.int .i64 0, .int .i64 0, .int .i64 (gI l i j 2), .int .i64 (gI l i j 3), .int .i64 (gI l i j 4), .int .i64 (gI l i j 5), .slice none 0 0, .int .i64 (gI l i j 7), .int .i64 (gI l i j 8)]) rfl (by kernel_rfl) (fun _ => by kernel_rfl)) ?_
     refine SR.one (j := 14) (by kernel_rfl) rfl (st_storea (l' := [.int .i64 0, .int .i64 0, .int .i64 (gI l i j 2), .int .i64 (gI l i j 3), .int .i64 (gI l i j 4), .int .i64 (gI l i j 5), .slice none 0 0, .int .i64 (gI l i j 7), .int .i64 (gI l i j 8)]) rfl rfl rfl ty58 rfl rfl rfl .h rfl rfl ⟨tt0, ?_⟩)
     refine SR.fin (by kernel_rfl) hl_20 hx_20 hR_20 (.c .n) ?_
     exact SQ.weak (key22 b68) (Sub.get (.c rfl (.c rfl (.c rfl (.c rfl (.c rfl (.c rfl (.c rfl (.c rfl (.c rfl (.c rfl (.c rfl (.c rfl (.c rfl (.c rfl (.c rfl (.c rfl (.c rfl (.c rfl (.c rfl (.c rfl (.c rfl (.c rfl (.c rfl .n)))))))))))))))))))))))) (fun w hw => hw.keep (.c .h (.c .h (.c .h (.c .h (.c .h (.c .h (.c .h .n))))))))
    refine st_alloc rfl rfl rfl rfl zf58 (fun b69 => ⟨tt0, ?_⟩)
    refine SR.one (j := 3) (by kernel_rfl) rfl (st_callk rfl rfl rfl rfl hbd62 rfl .n (num_g A26 ((kidL l i 6).length) c27 (kidL l i 6) (gt ((gt (kidL l i 6) (kidI l i 6)).v.ks) j) 3 _ _ (Fr.ext hfz18 hx_20) (((kid_nt hN)).ext hx_20) (by first | omega | simp only [LL] <;> omega | simp <;> omega) (by first | omega | simp only [LL] <;> omega | simp <;> omega) (by omega)) ⟨tt0, ?_⟩)
    refine SR.one (j := 5) (by kernel_rfl) rfl (st_callk rfl rfl rfl rfl hbd62 rfl .n (num_g A26 ((kidL l i 6).length) c27 (kidL l i 6) (gt ((gt (kidL l i 6) (kidI l i 6)).v.ks) j) 4 _ _ (Fr.ext hfz18 hx_20) (((kid_nt hN)).ext hx_20) (by first | omega | simp only [LL] <;> omega | simp <;> omega) (by first | omega | simp only [LL] <;> omega | simp <;> omega) (by omega)) ⟨tt0, ?_⟩)
    refine SR.one (j := 7) (by kernel_rfl) rfl (st_callk rfl rfl rfl rfl hbd62 rfl .n (num_g A26 ((kidL l i 6).length) c27 (kidL l i 6) (gt ((gt (kidL l i 6) (kidI l i 6)).v.ks) j) 5 _ _ (Fr.ext hfz18 hx_20) (((kid_nt hN)).ext hx_20) (by first | omega | simp only [LL] <;> omega | simp <;> omega) (by first | omega | simp only [LL] <;> omega | simp <;> omega) (by omega)) ⟨tt0, ?_⟩)
    refine SR.one (j := 9) (by kernel_rfl) rfl (st_callk rfl rfl rfl rfl hbd62 rfl .n (num_g A26 ((kidL l i 6).length) c27 (kidL l i 6) (gt ((gt (kidL l i 6) (kidI l i 6)).v.ks) j) 7 _ _ (Fr.ext hfz18 hx_20) (((kid_nt hN)).ext hx_20) (by first | omega | simp only [LL] <;> omega | simp <;> omega) (by first | omega | simp only [LL] <;> omega | simp <;> omega) (by omega)) ⟨tt0, ?_⟩)
    refine SR.one (j := 11) (by kernel_rfl) rfl (st_callk rfl rfl rfl rfl hbd62 rfl .n (num_g A26 ((kidL l i 6).length) c27 (kidL l i 6) (gt ((gt (kidL l i 6) (kidI l i 6)).v.ks) j) 8 _ _ (Fr.ext hfz18 hx_20) (((kid_nt hN)).ext hx_20) (by first | omega | simp only [LL] <;> omega | simp <;> omega) (by first | omega | simp only [LL] <;> omega | simp <;> omega) (by omega)) ⟨tt0, ?_⟩)
    refine SR.k 12 rfl (by kernel_rfl) rfl (ev_any (v := .agg #[.int .i64 0, .int .i64 0, .int .i64 (gI l i j 2), .int .i64 (gI l i j 3), .int .i64 (gI l i j 4), .int .i64 (gI l i j 5), .slice none 0 0, .int .i64 (gI l i j 7), .int .i64 (gI l i j 8)]) rfl (by kernel_rfl) (fun _ => by kernel_rfl)) ?_
    refine SR.one (j := 14) (by kernel_rfl) rfl (st_storea (l' := [.int .i64 0, .int .i64 0, .int .i64 (gI l i j 2), .int .i64 (gI l i j 3), .int .i64 (gI l i j 4), .int .i64 (gI l i j 5), .slice none 0 0, .int .i64 (gI l i j 7), .int .i64 (gI l i j 8)]) rfl rfl rfl ty58 rfl rfl rfl .h rfl rfl ⟨tt0, ?_⟩)
    refine SR.fin (by kernel_rfl) hl_20 hx_20 hR_20 (.c .n) ?_
    exact SQ.weak (key22 b69) (Sub.get (.c rfl (.c rfl (.c rfl (.c rfl (.c rfl (.c rfl (.c rfl (.c rfl (.c rfl (.c rfl (.c rfl (.c rfl (.c rfl (.c rfl (.c rfl (.c rfl (.c rfl (.c rfl (.c rfl (.c rfl (.c rfl (.c rfl (.c rfl .n)))))))))))))))))))))))) (fun w hw => hw.keep (.c .h (.c .h (.c .h (.c .h (.c .h (.c .h (.c .h .n))))))))
   refine st_alloc rfl rfl rfl rfl zf58 (fun b70 => ⟨tt0, ?_⟩)
   refine SR.one (j := 1) (by kernel_rfl) rfl (st_callk rfl rfl rfl rfl hbd62 rfl .n (num_g A26 ((kidL l i 6).length) c27 (kidL l i 6) (gt ((gt (kidL l i 6) (kidI l i 6)).v.ks) j) 2 _ _ (Fr.ext hfz18 hx_20) (((kid_nt hN)).ext hx_20) (by first | omega | simp only [LL] <;> omega | simp <;> omega) (by first | omega | simp only [LL] <;> omega | simp <;> omega) (by omega)) ⟨tt0, ?_⟩)
   refine SR.one (j := 3) (by kernel_rfl) rfl (st_callk rfl rfl rfl rfl hbd62 rfl .n (num_g A26 ((kidL l i 6).length) c27 (kidL l i 6) (gt ((gt (kidL l i 6) (kidI l i 6)).v.ks) j) 3 _ _ (Fr.ext hfz18 hx_20) (((kid_nt hN)).ext hx_20) (by first | omega | simp only [LL] <;> omega | simp <;> omega) (by first | omega | simp only [LL] <;> omega | simp <;> omega) (by omega)) ⟨tt0, ?_⟩)
   refine SR.one (j := 5) (by kernel_rfl) rfl (st_callk rfl rfl rfl rfl hbd62 rfl .n (num_g A26 ((kidL l i 6).length) c27 (kidL l i 6) (gt ((gt (kidL l i 6) (kidI l i 6)).v.ks) j) 4 _ _ (Fr.ext hfz18 hx_20) (((kid_nt hN)).ext hx_20) (by first | omega | simp only [LL] <;> omega | simp <;> omega) (by first | omega | simp only [LL] <;> omega | simp <;> omega) (by omega)) ⟨tt0, ?_⟩)
   refine SR.one (j := 7) (by kernel_rfl) rfl (st_callk rfl rfl rfl rfl hbd62 rfl .n (num_g A26 ((kidL l i 6).length) c27 (kidL l i 6) (gt ((gt (kidL l i 6) (kidI l i 6)).v.ks) j) 5 _ _ (Fr.ext hfz18 hx_20) (((kid_nt hN)).ext hx_20) (by first | omega | simp only [LL] <;> omega | simp <;> omega) (by first | omega | simp only [LL] <;> omega | simp <;> omega) (by omega)) ⟨tt0, ?_⟩)
   refine SR.one (j := 9) (by kernel_rfl) rfl (st_callk rfl rfl rfl rfl hbd62 rfl .n (num_g A26 ((kidL l i 6).length) c27 (kidL l i 6) (gt ((gt (kidL l i 6) (kidI l i 6)).v.ks) j) 7 _ _ (Fr.ext hfz18 hx_20) (((kid_nt hN)).ext hx_20) (by first | omega | simp only [LL] <;> omega | simp <;> omega) (by first | omega | simp only [LL] <;> omega | simp <;> omega) (by omega)) ⟨tt0, ?_⟩)
   refine SR.one (j := 11) (by kernel_rfl) rfl (st_callk rfl rfl rfl rfl hbd62 rfl .n (num_g A26 ((kidL l i 6).length) c27 (kidL l i 6) (gt ((gt (kidL l i 6) (kidI l i 6)).v.ks) j) 8 _ _ (Fr.ext hfz18 hx_20) (((kid_nt hN)).ext hx_20) (by first | omega | simp only [LL] <;> omega | simp <;> omega) (by first | omega | simp only [LL] <;> omega | simp <;> omega) (by omega)) ⟨tt0, ?_⟩)
   refine SR.k 12 rfl (by kernel_rfl) rfl (ev_any (v := .agg #[.int .i64 0, .int .i64 0, .int .i64 (gI l i j 2), .int .i64 (gI l i j 3), .int .i64 (gI l i j 4), .int .i64 (gI l i j 5), .slice none 0 0, .int .i64 (gI l i j 7), .int .i64 (gI l i j 8)]) rfl (by kernel_rfl) (fun _ => by kernel_rfl)) ?_
   refine SR.one (j := 14) (by kernel_rfl) rfl (st_storea (l' := [.int .i64 0, .int .i64 0, .int .i64 (gI l i j 2), .int .i64 (gI l i j 3), .int .i64 (gI l i j 4), .int .i64 (gI l i j 5), .slice none 0 0, .int .i64 (gI l i j 7), .int .i64 (gI l i j 8)]) rfl rfl rfl ty58 rfl rfl rfl .h rfl rfl ⟨tt0, ?_⟩)
   refine SR.fin (by kernel_rfl) hl_20 hx_20 hR_20 (.c .n) ?_
   exact SQ.weak (key22 b70) (Sub.get (.c rfl (.c rfl (.c rfl (.c rfl (.c rfl (.c rfl (.c rfl (.c rfl (.c rfl (.c rfl (.c rfl (.c rfl (.c rfl (.c rfl (.c rfl (.c rfl (.c rfl (.c rfl (.c rfl (.c rfl (.c rfl (.c rfl (.c rfl .n)))))))))))))))))))))))) (fun w hw => hw.keep (.c .h (.c .h (.c .h (.c .h (.c .h (.c .h (.c .h .n))))))))
  refine .exit idQ ?_
  refine .seq ?_
  refine .know (row_len 1 rfl) (fun hv73 => ?_)
  obtain ⟨A71, c72, rfl, hv73_1, hv73_2⟩ := hv73
  unfold maxLen at hv73_2
  refine .region ?_
  refine .v (ev_lda rfl rfl (At.whole 0 rfl) ty52) rfl ?_
  refine .cons (st_storea (l' := [.int .i64 (numG l i 0), .slice A71 Ls.length c72, .int .i64 (numG l i 2), .int .i64 (numG l i 3), .int .i64 (numG l i 4), .int .i64 (numG l i 5), .int .i64 (numG l i 1)]) rfl rfl rfl ty52 rfl rfl rfl (.t (.t (.t (.t .h)))) rfl rfl ?_)
  refine .go idQ ?_
  exact .ret idQ (retv1 Try.results64 (.c 0 rfl rfl ty52) (.c (.t (.t .h)) (.c (.t (.t .h)) .n)) ⟨A71, c72, Ls, (by omega), q_3, rfl, rfl⟩)
 refine SR.k 0 rfl (by kernel_rfl) rfl (ev_lda (cs := [.slice A n c, .int .i64 i]) rfl rfl (At.d (At.lent hR_3 1 rfl rfl)) ty112) ?_
 refine SR.k 2 rfl (by kernel_rfl) rfl (ev_lda (cs := [.slice A n c, .int .i64 i]) rfl rfl (At.d (At.lent hR_3 1 rfl rfl)) ty112) ?_
 refine SR.k 4 rfl (by kernel_rfl) rfl (ev_lda (cs := [.slice A n c, .int .i64 i]) rfl rfl (At.d (At.lent hR_3 1 rfl rfl)) ty112) ?_
 refine SR.k 6 rfl (by kernel_rfl) rfl (ev_lda (cs := [.slice A n c, .int .i64 i]) rfl rfl (At.d (At.lent hR_3 1 rfl rfl)) ty112) ?_
 refine SR.k 8 rfl (by kernel_rfl) rfl (ev_lda (cs := [.slice A n c, .int .i64 i]) rfl rfl (At.d (At.lent hR_3 1 rfl rfl)) ty112) ?_
 refine SR.k 10 rfl (by kernel_rfl) rfl (ev_lda (cs := [.slice A n c, .int .i64 i]) rfl rfl (At.d (At.lent hR_3 1 rfl rfl)) ty112) ?_
 refine SR.two (i := 1) (j := 13) (by kernel_rfl) ⟨_, rfl, ?_⟩ ⟨_, rfl, ?_⟩
 ·
  refine st_callk rfl rfl rfl rfl hbd62 rfl .n (num_g A n c l i 0 _ _ (Fr.ext hP hx_3) ((hN).ext hx_3) (by first | omega | simp only [LL] <;> omega | simp <;> omega) (by omega) (by omega)) ⟨tt0, ?_⟩
  refine SR.two (i := 3) (j := 13) (by kernel_rfl) ⟨_, rfl, ?_⟩ ⟨_, rfl, ?_⟩
  ·
   refine st_callk rfl rfl rfl rfl hbd62 rfl .n (num_g A n c l i 1 _ _ (Fr.ext hP hx_3) ((hN).ext hx_3) (by first | omega | simp only [LL] <;> omega | simp <;> omega) (by omega) (by omega)) ⟨tt0, ?_⟩
   refine SR.two (i := 5) (j := 13) (by kernel_rfl) ⟨_, rfl, ?_⟩ ⟨_, rfl, ?_⟩
   ·
    refine st_callk rfl rfl rfl rfl hbd62 rfl .n (num_g A n c l i 2 _ _ (Fr.ext hP hx_3) ((hN).ext hx_3) (by first | omega | simp only [LL] <;> omega | simp <;> omega) (by omega) (by omega)) ⟨tt0, ?_⟩
    refine SR.two (i := 7) (j := 13) (by kernel_rfl) ⟨_, rfl, ?_⟩ ⟨_, rfl, ?_⟩
    ·
     refine st_callk rfl rfl rfl rfl hbd62 rfl .n (num_g A n c l i 3 _ _ (Fr.ext hP hx_3) ((hN).ext hx_3) (by first | omega | simp only [LL] <;> omega | simp <;> omega) (by omega) (by omega)) ⟨tt0, ?_⟩
     refine SR.two (i := 9) (j := 13) (by kernel_rfl) ⟨_, rfl, ?_⟩ ⟨_, rfl, ?_⟩
     ·
      refine st_callk rfl rfl rfl rfl hbd62 rfl .n (num_g A n c l i 4 _ _ (Fr.ext hP hx_3) ((hN).ext hx_3) (by first | omega | simp only [LL] <;> omega | simp <;> omega) (by omega) (by omega)) ⟨tt0, ?_⟩
      refine SR.two (i := 11) (j := 13) (by kernel_rfl) ⟨_, rfl, ?_⟩ ⟨_, rfl, ?_⟩
      ·
       refine st_callk rfl rfl rfl rfl hbd62 rfl .n (num_g A n c l i 5 _ _ (Fr.ext hP hx_3) ((hN).ext hx_3) (by first | omega | simp only [LL] <;> omega | simp <;> omega) (by omega) (by omega)) ⟨tt0, ?_⟩
       refine SR.k 12 rfl (by kernel_rfl) rfl (ev_any (v := .agg #[.int .i64 (numG l i 0), .slice none 0 0, .int .i64 (numG l i 2), .int .i64 (numG l i 3), .int .i64 (numG l i 4), .int .i64 (numG l i 5), .int .i64 (numG l i 1)]) rfl (by kernel_rfl) (fun _ => by kernel_rfl)) ?_
       refine SR.one (j := 13) (by kernel_rfl) rfl (st_alloc rfl rfl rfl rfl zf52 (fun b74 => ⟨tt0, ?_⟩))
       refine SR.one (j := 14) (by kernel_rfl) rfl (st_storea (l' := [.int .i64 (numG l i 0), .slice none 0 0, .int .i64 (numG l i 2), .int .i64 (numG l i 3), .int .i64 (numG l i 4), .int .i64 (numG l i 5), .int .i64 (numG l i 1)]) rfl rfl rfl ty52 rfl rfl rfl .h rfl rfl ⟨tt0, ?_⟩)
       refine SR.fin (by kernel_rfl) hl_3 hx_3 hR_3 (.c .n) ?_
       exact SQ.weak (key5 b74) (Sub.get (.c rfl (.c rfl (.c rfl (.c rfl (.c rfl (.c rfl (.c rfl (.c rfl (.c rfl (.c rfl (.c rfl (.c rfl (.c rfl (.c rfl (.c rfl (.c rfl (.c rfl .n)))))))))))))))))) (fun w hw => hw.keep (.c .h (.c .h (.c .h .n))))
      refine st_alloc rfl rfl rfl rfl zf52 (fun b75 => ⟨tt0, ?_⟩)
      refine SR.one (j := 11) (by kernel_rfl) rfl (st_callk rfl rfl rfl rfl hbd62 rfl .n (num_g A n c l i 5 _ _ (Fr.ext hP hx_3) ((hN).ext hx_3) (by first | omega | simp only [LL] <;> omega | simp <;> omega) (by omega) (by omega)) ⟨tt0, ?_⟩)
      refine SR.k 12 rfl (by kernel_rfl) rfl (ev_any (v := .agg #[.int .i64 (numG l i 0), .slice none 0 0, .int .i64 (numG l i 2), .int .i64 (numG l i 3), .int .i64 (numG l i 4), .int .i64 (numG l i 5), .int .i64 (numG l i 1)]) rfl (by kernel_rfl) (fun _ => by kernel_rfl)) ?_
      refine SR.one (j := 14) (by kernel_rfl) rfl (st_storea (l' := [.int .i64 (numG l i 0), .slice none 0 0, .int .i64 (numG l i 2), .int .i64 (numG l i 3), .int .i64 (numG l i 4), .int .i64 (numG l i 5), .int .i64 (numG l i 1)]) rfl rfl rfl ty52 rfl rfl rfl .h rfl rfl ⟨tt0, ?_⟩)
      refine SR.fin (by kernel_rfl) hl_3 hx_3 hR_3 (.c .n) ?_
      exact SQ.weak (key5 b75) (Sub.get (.c rfl (.c rfl (.c rfl (.c rfl (.c rfl (.c rfl (.c rfl (.c rfl (.c rfl (.c rfl (.c rfl (.c rfl (.c rfl (.c rfl (.c rfl (.c rfl (.c rfl .n)))))))))))))))))) (fun w hw => hw.keep (.c .h (.c .h (.c .h .n))))
     refine st_alloc rfl rfl rfl rfl zf52 (fun b76 => ⟨tt0, ?_⟩)
     refine SR.one (j := 9) (by kernel_rfl) rfl (st_callk rfl rfl rfl rfl hbd62 rfl .n (num_g A n c l i 4 _ _ (Fr.ext hP hx_3) ((hN).ext hx_3) (by first | omega | simp only [LL] <;> omega | simp <;> omega) (by omega) (by omega)) ⟨tt0, ?_⟩)
     refine SR.one (j := 11) (by kernel_rfl) rfl (st_callk rfl rfl rfl rfl hbd62 rfl .n (num_g A n c l i 5 _ _ (Fr.ext hP hx_3) ((hN).ext hx_3) (by first | omega | simp only [LL] <;> omega | simp <;> omega) (by omega) (by omega)) ⟨tt0, ?_⟩)
     refine SR.k 12 rfl (by kernel_rfl) rfl (ev_any (v := .agg #[.int .i64 (numG l i 0), .slice none 0 0, .int .i64 (numG l i 2), .int .i64 (numG l i 3), .int .i64 (numG l i 4), .int .i64 (numG l i 5), .int .i64 (numG l i 1)]) rfl (by kernel_rfl) (fun _ => by kernel_rfl)) ?_
     refine SR.one (j := 14) (by kernel_rfl) rfl (st_storea (l' := [.int .i64 (numG l i 0), .slice none 0 0, .int .i64 (numG l i 2), .int .i64 (numG l i 3), .int .i64 (numG l i 4), .int .i64 (numG l i 5), .int .i64 (numG l i 1)]) rfl rfl rfl ty52 rfl rfl rfl .h rfl rfl ⟨tt0, ?_⟩)
     refine SR.fin (by kernel_rfl) hl_3 hx_3 hR_3 (.c .n) ?_
     exact SQ.weak (key5 b76) (Sub.get (.c rfl (.c rfl (.c rfl (.c rfl (.c rfl (.c rfl (.c rfl (.c rfl (.c rfl (.c rfl (.c rfl (.c rfl (.c rfl (.c rfl (.c rfl (.c rfl (.c rfl .n)))))))))))))))))) (fun w hw => hw.keep (.c .h (.c .h (.c .h .n))))
    refine st_alloc rfl rfl rfl rfl zf52 (fun b77 => ⟨tt0, ?_⟩)
    refine SR.one (j := 7) (by kernel_rfl) rfl (st_callk rfl rfl rfl rfl hbd62 rfl .n (num_g A n c l i 3 _ _ (Fr.ext hP hx_3) ((hN).ext hx_3) (by first | omega | simp only [LL] <;> omega | simp <;> omega) (by omega) (by omega)) ⟨tt0, ?_⟩)
    refine SR.one (j := 9) (by kernel_rfl) rfl (st_callk rfl rfl rfl rfl hbd62 rfl .n (num_g A n c l i 4 _ _ (Fr.ext hP hx_3) ((hN).ext hx_3) (by first | omega | simp only [LL] <;> omega | simp <;> omega) (by omega) (by omega)) ⟨tt0, ?_⟩)
    refine SR.one (j := 11) (by kernel_rfl) rfl (st_callk rfl rfl rfl rfl hbd62 rfl .n (num_g A n c l i 5 _ _ (Fr.ext hP hx_3) ((hN).ext hx_3) (by first | omega | simp only [LL] <;> omega | simp <;> omega) (by omega) (by omega)) ⟨tt0, ?_⟩)
    refine SR.k 12 rfl (by kernel_rfl) rfl (ev_any (v := .agg #[.int .i64 (numG l i 0), .slice none 0 0, .int .i64 (numG l i 2), .int .i64 (numG l i 3), .int .i64 (numG l i 4), .int .i64 (numG l i 5), .int .i64 (numG l i 1)]) rfl (by kernel_rfl) (fun _ => by kernel_rfl)) ?_
    refine SR.one (j := 14) (by kernel_rfl) rfl (st_storea (l' := [.int .i64 (numG l i 0), .slice none 0 0, .int .i64 (numG l i 2), .int .i64 (numG l i 3), .int .i64 (numG l i 4), .int .i64 (numG l i 5), .int .i64 (numG l i 1)]) rfl rfl rfl ty52 rfl rfl rfl .h rfl rfl ⟨tt0, ?_⟩)
    refine SR.fin (by kernel_rfl) hl_3 hx_3 hR_3 (.c .n) ?_
    exact SQ.weak (key5 b77) (Sub.get (.c rfl (.c rfl (.c rfl (.c rfl (.c rfl (.c rfl (.c rfl (.c rfl (.c rfl (.c rfl (.c rfl (.c rfl (.c rfl (.c rfl (.c rfl (.c rfl (.c rfl .n)))))))))))))))))) (fun w hw => hw.keep (.c .h (.c .h (.c .h .n))))
   refine st_alloc rfl rfl rfl rfl zf52 (fun b78 => ⟨tt0, ?_⟩)
   refine SR.one (j := 5) (by kernel_rfl) rfl (st_callk rfl rfl rfl rfl hbd62 rfl .n (num_g A n c l i 2 _ _ (Fr.ext hP hx_3) ((hN).ext hx_3) (by first | omega | simp only [LL] <;> omega | simp <;> omega) (by omega) (by omega)) ⟨tt0, ?_⟩)
   refine SR.one (j := 7) (by kernel_rfl) rfl (st_callk rfl rfl rfl rfl hbd62 rfl .n (num_g A n c l i 3 _ _ (Fr.ext hP hx_3) ((hN).ext hx_3) (by first | omega | simp only [LL] <;> omega | simp <;> omega) (by omega) (by omega)) ⟨tt0, ?_⟩)
   refine SR.one (j := 9) (by kernel_rfl) rfl (st_callk rfl rfl rfl rfl hbd62 rfl .n (num_g A n c l i 4 _ _ (Fr.ext hP hx_3) ((hN).ext hx_3) (by first | omega | simp only [LL] <;> omega | simp <;> omega) (by omega) (by omega)) ⟨tt0, ?_⟩)
   refine SR.one (j := 11) (by kernel_rfl) rfl (st_callk rfl rfl rfl rfl hbd62 rfl .n (num_g A n c l i 5 _ _ (Fr.ext hP hx_3) ((hN).ext hx_3) (by first | omega | simp only [LL] <;> omega | simp <;> omega) (by omega) (by omega)) ⟨tt0, ?_⟩)
   refine SR.k 12 rfl (by kernel_rfl) rfl (ev_any (v := .agg #[.int .i64 (numG l i 0), .slice none 0 0, .int .i64 (numG l i 2), .int .i64 (numG l i 3), .int .i64 (numG l i 4), .int .i64 (numG l i 5), .int .i64 (numG l i 1)]) rfl (by kernel_rfl) (fun _ => by kernel_rfl)) ?_
   refine SR.one (j := 14) (by kernel_rfl) rfl (st_storea (l' := [.int .i64 (numG l i 0), .slice none 0 0, .int .i64 (numG l i 2), .int .i64 (numG l i 3), .int .i64 (numG l i 4), .int .i64 (numG l i 5), .int .i64 (numG l i 1)]) rfl rfl rfl ty52 rfl rfl rfl .h rfl rfl ⟨tt0, ?_⟩)
   refine SR.fin (by kernel_rfl) hl_3 hx_3 hR_3 (.c .n) ?_
   exact SQ.weak (key5 b78) (Sub.get (.c rfl (.c rfl (.c rfl (.c rfl (.c rfl (.c rfl (.c rfl (.c rfl (.c rfl (.c rfl (.c rfl (.c rfl (.c rfl (.c rfl (.c rfl (.c rfl (.c rfl .n)))))))))))))))))) (fun w hw => hw.keep (.c .h (.c .h (.c .h .n))))
  refine st_alloc rfl rfl rfl rfl zf52 (fun b79 => ⟨tt0, ?_⟩)
  refine SR.one (j := 3) (by kernel_rfl) rfl (st_callk rfl rfl rfl rfl hbd62 rfl .n (num_g A n c l i 1 _ _ (Fr.ext hP hx_3) ((hN).ext hx_3) (by first | omega | simp only [LL] <;> omega | simp <;> omega) (by omega) (by omega)) ⟨tt0, ?_⟩)
  refine SR.one (j := 5) (by kernel_rfl) rfl (st_callk rfl rfl rfl rfl hbd62 rfl .n (num_g A n c l i 2 _ _ (Fr.ext hP hx_3) ((hN).ext hx_3) (by first | omega | simp only [LL] <;> omega | simp <;> omega) (by omega) (by omega)) ⟨tt0, ?_⟩)
  refine SR.one (j := 7) (by kernel_rfl) rfl (st_callk rfl rfl rfl rfl hbd62 rfl .n (num_g A n c l i 3 _ _ (Fr.ext hP hx_3) ((hN).ext hx_3) (by first | omega | simp only [LL] <;> omega | simp <;> omega) (by omega) (by omega)) ⟨tt0, ?_⟩)
  refine SR.one (j := 9) (by kernel_rfl) rfl (st_callk rfl rfl rfl rfl hbd62 rfl .n (num_g A n c l i 4 _ _ (Fr.ext hP hx_3) ((hN).ext hx_3) (by first | omega | simp only [LL] <;> omega | simp <;> omega) (by omega) (by omega)) ⟨tt0, ?_⟩)
  refine SR.one (j := 11) (by kernel_rfl) rfl (st_callk rfl rfl rfl rfl hbd62 rfl .n (num_g A n c l i 5 _ _ (Fr.ext hP hx_3) ((hN).ext hx_3) (by first | omega | simp only [LL] <;> omega | simp <;> omega) (by omega) (by omega)) ⟨tt0, ?_⟩)
  refine SR.k 12 rfl (by kernel_rfl) rfl (ev_any (v := .agg #[.int .i64 (numG l i 0), .slice none 0 0, .int .i64 (numG l i 2), .int .i64 (numG l i 3), .int .i64 (numG l i 4), .int .i64 (numG l i 5), .int .i64 (numG l i 1)]) rfl (by kernel_rfl) (fun _ => by kernel_rfl)) ?_
  refine SR.one (j := 14) (by kernel_rfl) rfl (st_storea (l' := [.int .i64 (numG l i 0), .slice none 0 0, .int .i64 (numG l i 2), .int .i64 (numG l i 3), .int .i64 (numG l i 4), .int .i64 (numG l i 5), .int .i64 (numG l i 1)]) rfl rfl rfl ty52 rfl rfl rfl .h rfl rfl ⟨tt0, ?_⟩)
  refine SR.fin (by kernel_rfl) hl_3 hx_3 hR_3 (.c .n) ?_
  exact SQ.weak (key5 b79) (Sub.get (.c rfl (.c rfl (.c rfl (.c rfl (.c rfl (.c rfl (.c rfl (.c rfl (.c rfl (.c rfl (.c rfl (.c rfl (.c rfl (.c rfl (.c rfl (.c rfl (.c rfl .n)))))))))))))))))) (fun w hw => hw.keep (.c .h (.c .h (.c .h .n))))
 refine st_alloc rfl rfl rfl rfl zf52 (fun b80 => ⟨tt0, ?_⟩)
 refine SR.one (j := 1) (by kernel_rfl) rfl (st_callk rfl rfl rfl rfl hbd62 rfl .n (num_g A n c l i 0 _ _ (Fr.ext hP hx_3) ((hN).ext hx_3) (by first | omega | simp only [LL] <;> omega | simp <;> omega) (by omega) (by omega)) ⟨tt0, ?_⟩)
 refine SR.one (j := 3) (by kernel_rfl) rfl (st_callk rfl rfl rfl rfl hbd62 rfl .n (num_g A n c l i 1 _ _ (Fr.ext hP hx_3) ((hN).ext hx_3) (by first | omega | simp only [LL] <;> omega | simp <;> omega) (by omega) (by omega)) ⟨tt0, ?_⟩)
 refine SR.one (j := 5) (by kernel_rfl) rfl (st_callk rfl rfl rfl rfl hbd62 rfl .n (num_g A n c l i 2 _ _ (Fr.ext hP hx_3) ((hN).ext hx_3) (by first | omega | simp only [LL] <;> omega | simp <;> omega) (by omega) (by omega)) ⟨tt0, ?_⟩)
 refine SR.one (j := 7) (by kernel_rfl) rfl (st_callk rfl rfl rfl rfl hbd62 rfl .n (num_g A n c l i 3 _ _ (Fr.ext hP hx_3) ((hN).ext hx_3) (by first | omega | simp only [LL] <;> omega | simp <;> omega) (by omega) (by omega)) ⟨tt0, ?_⟩)
 refine SR.one (j := 9) (by kernel_rfl) rfl (st_callk rfl rfl rfl rfl hbd62 rfl .n (num_g A n c l i 4 _ _ (Fr.ext hP hx_3) ((hN).ext hx_3) (by first | omega | simp only [LL] <;> omega | simp <;> omega) (by omega) (by omega)) ⟨tt0, ?_⟩)
 refine SR.one (j := 11) (by kernel_rfl) rfl (st_callk rfl rfl rfl rfl hbd62 rfl .n (num_g A n c l i 5 _ _ (Fr.ext hP hx_3) ((hN).ext hx_3) (by first | omega | simp only [LL] <;> omega | simp <;> omega) (by omega) (by omega)) ⟨tt0, ?_⟩)
 refine SR.k 12 rfl (by kernel_rfl) rfl (ev_any (v := .agg #[.int .i64 (numG l i 0), .slice none 0 0, .int .i64 (numG l i 2), .int .i64 (numG l i 3), .int .i64 (numG l i 4), .int .i64 (numG l i 5), .int .i64 (numG l i 1)]) rfl (by kernel_rfl) (fun _ => by kernel_rfl)) ?_
 refine SR.one (j := 14) (by kernel_rfl) rfl (st_storea (l' := [.int .i64 (numG l i 0), .slice none 0 0, .int .i64 (numG l i 2), .int .i64 (numG l i 3), .int .i64 (numG l i 4), .int .i64 (numG l i 5), .int .i64 (numG l i 1)]) rfl rfl rfl ty52 rfl rfl rfl .h rfl rfl ⟨tt0, ?_⟩)
 refine SR.fin (by kernel_rfl) hl_3 hx_3 hR_3 (.c .n) ?_
 exact SQ.weak (key5 b80) (Sub.get (.c rfl (.c rfl (.c rfl (.c rfl (.c rfl (.c rfl (.c rfl (.c rfl (.c rfl (.c rfl (.c rfl (.c rfl (.c rfl (.c rfl (.c rfl (.c rfl (.c rfl .n)))))))))))))))))) (fun w hw => hw.keep (.c .h (.c .h (.c .h .n))))
end Go.Proofs.Ythmkelkefmfmgaa.Sx
