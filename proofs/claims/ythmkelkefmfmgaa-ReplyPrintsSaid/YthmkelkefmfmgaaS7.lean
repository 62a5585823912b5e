import Derived.Test.YthmkelkefmfmgaaProg
import Derived.Test.YthmkelkefmfmgaaS6
set_option linter.unusedVariables false
set_option linter.unusedSimpArgs false
set_option linter.unusedSectionVars false
set_option maxRecDepth 20000
set_option maxHeartbeats 4000000
namespace Go.Proofs.Ythmkelkefmfmgaa.Sx.FQD
open Go Go.SX Go.Proofs
theorem fo30_0 : fo Try.prog 30 0 = some 0 := by kernel_rfl
theorem fo24_0 : fo Try.prog 24 0 = some 0 := by kernel_rfl
theorem ty22 : ty Try.prog 22 = some (false, 1) := by kernel_rfl
theorem hbd32 : hasBody Try.prog 32 = true := by kernel_rfl
theorem hbd33 : hasBody Try.prog 33 = true := by kernel_rfl
theorem fo24_1 : fo Try.prog 24 1 = some 1 := by kernel_rfl
theorem ty3 : ty Try.prog 3 = some (false, 1) := by kernel_rfl
theorem fo24_2 : fo Try.prog 24 2 = some 2 := by kernel_rfl
theorem ty9 : ty Try.prog 9 = some (false, 1) := by kernel_rfl
theorem hbd34 : hasBody Try.prog 34 = true := by kernel_rfl
theorem hbd31 : hasBody Try.prog 31 = true := by kernel_rfl
theorem mo : Try.prog.follows .mixedOrders = true := by kernel_rfl
theorem fo30_1 : fo Try.prog 30 1 = some 3 := by kernel_rfl
theorem ty4 : ty Try.prog 4 = some (false, 1) := by kernel_rfl
theorem fo30_2 : fo Try.prog 30 2 = some 4 := by kernel_rfl
theorem ty26 : ty Try.prog 26 = some (true, 8) := by kernel_rfl
theorem zf26 : (Try.prog.info? 26).bind (fun i => i.zero.map Value.cells) = some (List.toArray [.int .i64 0, .int .i64 0, .int .i64 0, .int .i64 0, .int .i64 0, .int .i64 0, .int .i64 0, .int .i64 0]) := by kernel_rfl
theorem fo26_0 : fo Try.prog 26 0 = some 0 := by kernel_rfl
theorem fo26_1 : fo Try.prog 26 1 = some 1 := by kernel_rfl
theorem fo26_2 : fo Try.prog 26 2 = some 2 := by kernel_rfl
theorem fo26_3 : fo Try.prog 26 3 = some 3 := by kernel_rfl
theorem fo26_4 : fo Try.prog 26 4 = some 4 := by kernel_rfl
theorem fo26_5 : fo Try.prog 26 5 = some 5 := by kernel_rfl
theorem fo26_6 : fo Try.prog 26 6 = some 6 := by kernel_rfl
theorem fo26_7 : fo Try.prog 26 7 = some 7 := by kernel_rfl
theorem fo30_3 : fo Try.prog 30 3 = some 12 := by kernel_rfl
theorem ty27 : ty Try.prog 27 = some (false, 1) := by kernel_rfl
theorem ty52 : ty Try.prog 52 = some (true, 7) := by kernel_rfl
theorem hbd35 : hasBody Try.prog 35 = true := by kernel_rfl
theorem ai9 : (Try.prog.info? 9).map (fun i => (i.zero, i.size, i.bytes)) = some (some (.string ⟨#[]⟩), 1, 16) := by kernel_rfl
theorem fo30_4 : fo Try.prog 30 4 = some 13 := by kernel_rfl
theorem ty28 : ty Try.prog 28 = some (false, 1) := by kernel_rfl
theorem ty62 : ty Try.prog 62 = some (true, 2) := by kernel_rfl
theorem fo62_0 : fo Try.prog 62 0 = some 0 := by kernel_rfl
theorem fo62_1 : fo Try.prog 62 1 = some 1 := by kernel_rfl
end Go.Proofs.Ythmkelkefmfmgaa.Sx.FQD
namespace Go.Proofs.Ythmkelkefmfmgaa.Sx
open Go Go.SX Go.Proofs FQD
theorem text_ (cd : Int) (at_ : Int) (path : ByteArray) (op : Bool) (x0 : Int) (x1 : Int) (x2 : Int) (x3 : Int) (x4 : Int) (x5 : Int) (x6 : Int) (x7 : Int) (pA : Option Addr) (pc : Nat) (ps : List PV) (kA : Option Addr) (kc : Nat) (lf : List TK) (S : Nat → Prop) (wf : World) (hP : Fr ePL S wf pA ps) (hK : Fr eTK S wf kA lf) (hN : NP S wf ps) (hps : ps.length ≤ 8) (hlf : lf.length ≤ 50) (hpa : path.size ≤ 2000) (hst : ∀ p ∈ ps, p.steps.length ≤ 60 ∧ ∀ s ∈ p.steps, s.load.length ≤ 10) (hfit : fitR cd at_ path ⟨x0, x1, x2, x3, x4, x5, x6, x7⟩ ps lf) :
  TR0 Try.prog 13 [.agg #[.int .i64 cd, .int .i64 at_, .string path, .bool op, .int .i64 x0, .int .i64 x1, .int .i64 x2, .int .i64 x3, .int .i64 x4, .int .i64 x5, .int .i64 x6, .int .i64 x7, .slice pA ps.length pc, .slice kA lf.length kc]] [] S wf (fun v_ C_ => ∃ (o : ByteArray), (bs o = txt (replyJ cd at_ path op ⟨x0, x1, x2, x3, x4, x5, x6, x7⟩ ps lf)) ∧ (o.size ≤ 100000000) ∧ v_ = .string o ∧ C_ = []) := by
 have hla := hP.len
 have hlk := hK.len
 refine TR.mk Try.func13 rfl Try.ntmps13 rfl rfl (fun w_ => ?_)
 refine .seq (.region ?_)
 refine .cons (st_boxa rfl rfl rfl rfl rfl (fun b1 => ?_))
 refine .v (ev_as rfl rfl) rfl ?_
 refine .go idQ (.seq (.seq (.region ?_)))
 refine .v (ev_fa rfl fo30_0 rfl (r := 0) rfl) rfl ?_
 refine .v (ev_fa rfl fo24_0 rfl (r := 0) rfl) rfl ?_
 refine .v (ev_ld1 rfl ty22 rfl (At.own1 0 rfl rfl)) rfl ?_
 refine .v (ev_cmp rfl rfl rfl rfl) rfl ?_
 refine .go idQ ?_
 refine .condI rfl bNE (fun h2 => ?_) (fun h2 => ?_)
 ·
  refine .seq ?_
  have hc_ : cd ≠ 0 := by first | assumption | omega
  obtain ⟨_, hcd_, hat_⟩ := hfit.1 hc_
  have hcd2_ := fit_i64 hcd_
  have hat2_ := fit_i64 hat_
  refine SC.draw mo [] [] .n (fun _ _ _ c hc => by cases hc) (fun wf_3 hl_3 hx_3 hR_3 => ?_)
  refine SR.k 1 rfl (by kernel_rfl) rfl (ev_fa rfl fo30_0 rfl (r := 0) rfl) ?_
  refine SR.k 2 rfl (by kernel_rfl) rfl (ev_fa rfl fo24_0 rfl (r := 0) rfl) ?_
  refine SR.k 3 rfl (by kernel_rfl) rfl (ev_ld1 rfl ty22 rfl (At.d (At.lent hR_3 0 rfl rfl))) ?_
  refine SR.k 5 rfl (by kernel_rfl) rfl (ev_fa rfl fo30_0 rfl (r := 0) rfl) ?_
  refine SR.k 6 rfl (by kernel_rfl) rfl (ev_fa rfl fo24_1 rfl (r := 1) rfl) ?_
  refine SR.k 7 rfl (by kernel_rfl) rfl (ev_ld1 rfl ty3 rfl (At.d (At.lent hR_3 0 rfl rfl))) ?_
  refine SR.k 9 rfl (by kernel_rfl) rfl (ev_fa rfl fo30_0 rfl (r := 0) rfl) ?_
  refine SR.k 10 rfl (by kernel_rfl) rfl (ev_fa rfl fo24_2 rfl (r := 2) rfl) ?_
  refine SR.k 11 rfl (by kernel_rfl) rfl (ev_ld1 rfl ty9 rfl (At.d (At.lent hR_3 0 rfl rfl))) ?_
  refine SR.one (j := 0) (by kernel_rfl) rfl (st_call00 rfl rfl rfl rfl hbd32 rfl .n (field_ ⟨#[115, 116, 97, 116, 117, 115]⟩ ⟨#[34, 101, 114, 114, 111, 114, 34]⟩ _ _ (by decide) (by (try simp only [ByteArray.size_append]); show 7 ≤ _; omega)) (by intro v C h; obtain ⟨_, _, _, rfl, rfl⟩ := h; rfl) (fun v_q5 q5 => ⟨tt0, ?_⟩))
  obtain ⟨o4, p6, p7, rfl, -⟩ := q5
  have hz8 : o4.size ≤ 7 + 65 := by have h_ := p7; (try simp only [ByteArray.size_append] at h_); exact h_
  refine SR.one (j := 4) (by kernel_rfl) rfl (st_call00 rfl rfl rfl rfl hbd33 rfl .n (number22 ⟨#[99, 111, 100, 101]⟩ cd _ _ (by decide) (by omega)) (by intro v C h; obtain ⟨_, _, _, rfl, rfl⟩ := h; rfl) (fun v_q10 q10 => ⟨tt0, ?_⟩))
  obtain ⟨o9, p11, p12, rfl, -⟩ := q10
  refine SR.one (j := 8) (by kernel_rfl) rfl (st_call00 rfl rfl rfl rfl hbd33 rfl .n (number22 ⟨#[97, 116]⟩ at_ _ _ (by decide) (by omega)) (by intro v C h; obtain ⟨_, _, _, rfl, rfl⟩ := h; rfl) (fun v_q14 q14 => ⟨tt0, ?_⟩))
  obtain ⟨o13, p15, p16, rfl, -⟩ := q14
  refine SR.one (j := 12) (by kernel_rfl) rfl (st_call00 rfl rfl rfl rfl hbd34 rfl .n (quoteS path _ _ (by omega)) (by intro v C h; obtain ⟨_, _, _, rfl, rfl⟩ := h; rfl) (fun v_q18 q18 => ⟨tt0, ?_⟩))
  obtain ⟨o17, p19, p20, rfl, -⟩ := q18
  refine SR.one (j := 13) (by kernel_rfl) rfl (st_call00 rfl rfl rfl rfl hbd32 rfl .n (field_ ⟨#[112, 97, 116, 104]⟩ o17 _ _ (by decide) (by (try simp only [ByteArray.size_append]); show o17.size ≤ _; omega)) (by intro v C h; obtain ⟨_, _, _, rfl, rfl⟩ := h; rfl) (fun v_q22 q22 => ⟨tt0, ?_⟩))
  obtain ⟨o21, p23, p24, rfl, -⟩ := q22
  have hz25 : o21.size ≤ o17.size + 65 := by have h_ := p24; (try simp only [ByteArray.size_append] at h_); exact h_
  refine SR.one (j := 14) (by kernel_rfl) rfl (st_lit eS (e := 9) (l := [o4, o9, o13, o21]) rfl rfl rfl rfl (by kernel_rfl) rfl rfl (fun w => by kernel_rfl) (fun b26 => ⟨tt0, ?_⟩))
  refine SR.one (j := 15) (by kernel_rfl) rfl (st_lend0 rfl rfl rfl rfl hbd31 rfl .n (.c .h .n) (fun w_ hw => all_s (some ⟨b26, 0, none⟩) 4 4 [o4, o9, o13, o21] _ _ (Fr.lend hw 0 rfl (by first | omega | simp only [LL] <;> omega | simp <;> omega)) (by first | omega | simp only [LL] <;> omega | simp <;> omega) (Nat.le_trans (m := 52004) (join_m (B := 13000) (n := 4) (by simp only [List.forall_mem_cons, List.not_mem_nil, false_implies, implies_true, and_true]; omega) (Nat.le_refl _) (by decide)) (by decide))) (fun v_q28 C_q28 q28 => ⟨tt0, ?_⟩))
  obtain ⟨o27, p29, p30, rfl, rfl⟩ := q28
  show SR _ _ _ _ _ _ _ _ _ ⟨_, _ :: _, _, _⟩
  have hz31 : o27.size ≤ 52004 := by rw [p30]; exact (join_m (B := 13000) (n := 4) (by simp only [List.forall_mem_cons, List.not_mem_nil, false_implies, implies_true, and_true]; omega) (Nat.le_refl _) (by decide))
  refine SR.k 16 rfl (by kernel_rfl) rfl (ev_sadd rfl rfl rfl (by (try simp only [ByteArray.size_append]); show (((1 : Nat) + (o27.size : Nat) : Nat) : Int) ≤ 9223372036854775807; omega)) ?_
  refine SR.k 17 rfl (by kernel_rfl) rfl (ev_sadd rfl rfl rfl (by (try simp only [ByteArray.size_append]); show ((((1 + o27.size) : Nat) + (1 : Nat) : Nat) : Int) ≤ 9223372036854775807; omega)) ?_
  refine SR.k 18 rfl (by kernel_rfl) rfl (ev_as rfl rfl) ?_
  refine SR.fin (by kernel_rfl) hl_3 hx_3 hR_3 (.c .n) ?_
  refine SQ.go idQ ?_
  exact .ret idQ (ret1 Try.results13 rfl .n ⟨((((⟨#[123]⟩ : ByteArray) ++ (o27 : ByteArray)) : ByteArray) ++ (⟨#[125]⟩ : ByteArray)), (by unfold replyJ; rw [if_pos hc_]; unfold faultJ; exact obj_text p29 (by simp only [sStatus, sCode, sAt, sPath, List.map_cons, List.map_nil, List.zip_cons_cons, List.zip_nil_right, txt_num, txt_str, txt_boo, quote_error, p6, p11, p15, p19, p23, p29]) rfl), (by simp only [ByteArray.size_append]; show ((1 + o27.size) + 1) ≤ _; omega), rfl, rfl⟩)
 refine .skipgo idQ (.seq ?_)
 have hc_ : cd = 0 := by first | assumption | omega
 have hR := hfit.2 hc_
 have hf_x0 := fit_i64 (fit_sums hR x0 (by simp [sumsZ]))
 have hf_x1 := fit_i64 (fit_sums hR x1 (by simp [sumsZ]))
 have hf_x2 := fit_i64 (fit_sums hR x2 (by simp [sumsZ]))
 have hf_x3 := fit_i64 (fit_sums hR x3 (by simp [sumsZ]))
 have hf_x4 := fit_i64 (fit_sums hR x4 (by simp [sumsZ]))
 have hf_x5 := fit_i64 (fit_sums hR x5 (by simp [sumsZ]))
 have hf_x6 := fit_i64 (fit_sums hR x6 (by simp [sumsZ]))
 have hf_x7 := fit_i64 (fit_sums hR x7 (by simp [sumsZ]))
 refine .region ?_
 refine .v (ev_as rfl rfl) rfl ?_
 refine .go idQ (.seq (.seq (.region ?_)))
 refine .v (ev_fa rfl fo30_1 rfl (r := 3) rfl) rfl ?_
 refine .v (ev_ld1 rfl ty4 rfl (At.own1 0 rfl rfl)) rfl ?_
 refine .go idQ ?_
 refine .condI rfl bV (fun h32 => ?_) (fun h32 => ?_)
 ·
  refine .region ?_
  refine .v (ev_as rfl rfl) rfl ?_
  refine .go idQ (.seq (.region ?_))
  refine .v (ev_fa rfl fo30_2 rfl (r := 4) rfl) rfl ?_
  refine .v (ev_lda (cs := [.int .i64 x0, .int .i64 x1, .int .i64 x2, .int .i64 x3, .int .i64 x4, .int .i64 x5, .int .i64 x6, .int .i64 x7]) rfl rfl (At.own 0 rfl rfl) ty26) rfl ?_
  refine .cons (st_alloc rfl rfl rfl rfl zf26 (fun b33 => ?_))
  refine .cons (st_storea (l' := [.int .i64 x0, .int .i64 x1, .int .i64 x2, .int .i64 x3, .int .i64 x4, .int .i64 x5, .int .i64 x6, .int .i64 x7]) rfl rfl rfl ty26 rfl rfl rfl .h rfl rfl ?_)
  refine .go idQ (.seq ?_)
  refine SC.draw mo [] [] .n (fun _ _ _ c hc => by cases hc) (fun wf_34 hl_34 hx_34 hR_34 => ?_)
  refine SR.k 0 rfl (by kernel_rfl) rfl (ev_fa rfl fo26_0 rfl (r := 0) rfl) ?_
  refine SR.k 1 rfl (by kernel_rfl) rfl (ev_ld1 rfl ty3 rfl (At.d (At.lent hR_34 0 rfl rfl))) ?_
  refine SR.k 3 rfl (by kernel_rfl) rfl (ev_fa rfl fo26_1 rfl (r := 1) rfl) ?_
  refine SR.k 4 rfl (by kernel_rfl) rfl (ev_ld1 rfl ty3 rfl (At.d (At.lent hR_34 0 rfl rfl))) ?_
  refine SR.k 6 rfl (by kernel_rfl) rfl (ev_fa rfl fo26_2 rfl (r := 2) rfl) ?_
  refine SR.k 7 rfl (by kernel_rfl) rfl (ev_ld1 rfl ty3 rfl (At.d (At.lent hR_34 0 rfl rfl))) ?_
  refine SR.k 9 rfl (by kernel_rfl) rfl (ev_fa rfl fo26_3 rfl (r := 3) rfl) ?_
  refine SR.k 10 rfl (by kernel_rfl) rfl (ev_ld1 rfl ty3 rfl (At.d (At.lent hR_34 0 rfl rfl))) ?_
  refine SR.k 12 rfl (by kernel_rfl) rfl (ev_fa rfl fo26_4 rfl (r := 4) rfl) ?_
  refine SR.k 13 rfl (by kernel_rfl) rfl (ev_ld1 rfl ty3 rfl (At.d (At.lent hR_34 0 rfl rfl))) ?_
  refine SR.k 15 rfl (by kernel_rfl) rfl (ev_fa rfl fo26_5 rfl (r := 5) rfl) ?_
  refine SR.k 16 rfl (by kernel_rfl) rfl (ev_ld1 rfl ty3 rfl (At.d (At.lent hR_34 0 rfl rfl))) ?_
  refine SR.k 18 rfl (by kernel_rfl) rfl (ev_fa rfl fo26_6 rfl (r := 6) rfl) ?_
  refine SR.k 19 rfl (by kernel_rfl) rfl (ev_ld1 rfl ty3 rfl (At.d (At.lent hR_34 0 rfl rfl))) ?_
  refine SR.k 21 rfl (by kernel_rfl) rfl (ev_fa rfl fo26_7 rfl (r := 7) rfl) ?_
  refine SR.k 22 rfl (by kernel_rfl) rfl (ev_ld1 rfl ty3 rfl (At.d (At.lent hR_34 0 rfl rfl))) ?_
  refine SR.one (j := 2) (by kernel_rfl) rfl (st_call00 rfl rfl rfl rfl hbd33 rfl .n (number22 ⟨#[114, 111, 117, 116, 101, 115]⟩ x0 _ _ (by decide) (by omega)) (by intro v C h; obtain ⟨_, _, _, rfl, rfl⟩ := h; rfl) (fun v_q36 q36 => ⟨tt0, ?_⟩))
  obtain ⟨o35, p37, p38, rfl, -⟩ := q36
  refine SR.one (j := 5) (by kernel_rfl) rfl (st_call00 rfl rfl rfl rfl hbd33 rfl .n (number22 ⟨#[118, 97, 108, 117, 101]⟩ x1 _ _ (by decide) (by omega)) (by intro v C h; obtain ⟨_, _, _, rfl, rfl⟩ := h; rfl) (fun v_q40 q40 => ⟨tt0, ?_⟩))
  obtain ⟨o39, p41, p42, rfl, -⟩ := q40
  refine SR.one (j := 8) (by kernel_rfl) rfl (st_call00 rfl rfl rfl rfl hbd33 rfl .n (number22 ⟨#[99, 111, 115, 116]⟩ x2 _ _ (by decide) (by omega)) (by intro v C h; obtain ⟨_, _, _, rfl, rfl⟩ := h; rfl) (fun v_q44 q44 => ⟨tt0, ?_⟩))
  obtain ⟨o43, p45, p46, rfl, -⟩ := q44
  refine SR.one (j := 11) (by kernel_rfl) rfl (st_call00 rfl rfl rfl rfl hbd33 rfl .n (number22 ⟨#[116, 105, 109, 101]⟩ x3 _ _ (by decide) (by omega)) (by intro v C h; obtain ⟨_, _, _, rfl, rfl⟩ := h; rfl) (fun v_q48 q48 => ⟨tt0, ?_⟩))
  obtain ⟨o47, p49, p50, rfl, -⟩ := q48
  refine SR.one (j := 14) (by kernel_rfl) rfl (st_call00 rfl rfl rfl rfl hbd33 rfl .n (number22 ⟨#[100, 105, 115, 116]⟩ x4 _ _ (by decide) (by omega)) (by intro v C h; obtain ⟨_, _, _, rfl, rfl⟩ := h; rfl) (fun v_q52 q52 => ⟨tt0, ?_⟩))
  obtain ⟨o51, p53, p54, rfl, -⟩ := q52
  refine SR.one (j := 17) (by kernel_rfl) rfl (st_call00 rfl rfl rfl rfl hbd33 rfl .n (number22 ⟨#[119, 97, 105, 116]⟩ x5 _ _ (by decide) (by omega)) (by intro v C h; obtain ⟨_, _, _, rfl, rfl⟩ := h; rfl) (fun v_q56 q56 => ⟨tt0, ?_⟩))
  obtain ⟨o55, p57, p58, rfl, -⟩ := q56
  refine SR.one (j := 20) (by kernel_rfl) rfl (st_call00 rfl rfl rfl rfl hbd33 rfl .n (number22 ⟨#[115, 101, 114, 118, 105, 99, 101]⟩ x6 _ _ (by decide) (by omega)) (by intro v C h; obtain ⟨_, _, _, rfl, rfl⟩ := h; rfl) (fun v_q60 q60 => ⟨tt0, ?_⟩))
  obtain ⟨o59, p61, p62, rfl, -⟩ := q60
  refine SR.one (j := 23) (by kernel_rfl) rfl (st_call00 rfl rfl rfl rfl hbd33 rfl .n (number22 ⟨#[108, 101, 102, 116]⟩ x7 _ _ (by decide) (by omega)) (by intro v C h; obtain ⟨_, _, _, rfl, rfl⟩ := h; rfl) (fun v_q64 q64 => ⟨tt0, ?_⟩))
  obtain ⟨o63, p65, p66, rfl, -⟩ := q64
  refine SR.one (j := 24) (by kernel_rfl) rfl (st_lit eS (e := 9) (l := [o35, o39, o43, o47, o51, o55, o59, o63]) rfl rfl rfl rfl (by kernel_rfl) rfl rfl (fun w => by kernel_rfl) (fun b67 => ⟨tt0, ?_⟩))
  refine SR.one (j := 25) (by kernel_rfl) rfl (st_lend0 rfl rfl rfl rfl hbd31 rfl .n (.c .h .n) (fun w_ hw => all_s (some ⟨b67, 0, none⟩) 8 8 [o35, o39, o43, o47, o51, o55, o59, o63] _ _ (Fr.lend hw 0 rfl (by first | omega | simp only [LL] <;> omega | simp <;> omega)) (by first | omega | simp only [LL] <;> omega | simp <;> omega) (Nat.le_trans (m := 768) (join_m (B := 95) (n := 8) (by simp only [List.forall_mem_cons, List.not_mem_nil, false_implies, implies_true, and_true]; omega) (Nat.le_refl _) (by decide)) (by decide))) (fun v_q69 C_q69 q69 => ⟨tt0, ?_⟩))
  obtain ⟨o68, p70, p71, rfl, rfl⟩ := q69
  show SR _ _ _ _ _ _ _ _ _ ⟨_, _ :: _, _, _⟩
  have hz72 : o68.size ≤ 768 := by rw [p71]; exact (join_m (B := 95) (n := 8) (by simp only [List.forall_mem_cons, List.not_mem_nil, false_implies, implies_true, and_true]; omega) (Nat.le_refl _) (by decide))
  refine SR.k 26 rfl (by kernel_rfl) rfl (ev_sadd rfl rfl rfl (by (try simp only [ByteArray.size_append]); show (((1 : Nat) + (o68.size : Nat) : Nat) : Int) ≤ 9223372036854775807; omega)) ?_
  refine SR.k 27 rfl (by kernel_rfl) rfl (ev_sadd rfl rfl rfl (by (try simp only [ByteArray.size_append]); show ((((1 + o68.size) : Nat) + (1 : Nat) : Nat) : Int) ≤ 9223372036854775807; omega)) ?_
  refine SR.k 28 rfl (by kernel_rfl) rfl (ev_as rfl rfl) ?_
  refine SR.fin (by kernel_rfl) hl_34 hx_34 hR_34 (.c .n) ?_
  refine SQ.go idQ ?_
  refine .seq ?_
  have hsum_ : bs (((((⟨#[123]⟩ : ByteArray) ++ (o68 : ByteArray)) : ByteArray) ++ (⟨#[125]⟩ : ByteArray))) = txt (sumsJ ⟨x0, x1, x2, x3, x4, x5, x6, x7⟩) := by unfold sumsJ; exact obj_text p70 (by simp only [sumNs, List.map_cons, List.map_nil, List.zip_cons_cons, List.zip_nil_right, txt_num, txt_str, txt_boo, p37, p41, p45, p49, p53, p57, p61, p65, p70]) rfl
  have hsz_ : (((((⟨#[123]⟩ : ByteArray) ++ (o68 : ByteArray)) : ByteArray) ++ (⟨#[125]⟩ : ByteArray)) : ByteArray).size ≤ 1000 := by (try simp only [ByteArray.size_append]); show ((1 + o68.size) + 1) ≤ _; omega
  refine .region ?_
  refine .v (ev_as rfl rfl) rfl ?_
  refine .v (ev_as rfl rfl) rfl ?_
  refine .go idQ (.seq (.seq ?_))
  refine SC.nilrow eS 9 ?_
  refine .region ?_
  refine .v (ev_as rfl rfl) rfl ?_
  refine .go idQ (.block ?_)
  refine .loop (X := Int × Value × (List ByteArray)) (fun ⟨i, U, X⟩ => 0 ≤ i ∧ i ≤ ps.length ∧ X.map bs = (ps.take i.toNat).map (fun p => txt (planJ p)) ∧ (X.length : Int) = i ∧ ∀ x ∈ X, x.size ≤ 1500000) (fun ⟨i, U, X⟩ => [(1, .pointer (some ⟨b1, 0, none⟩)), (3, .string ⟨#[116, 114, 117, 101]⟩), (5, .string ((((⟨#[123]⟩ : ByteArray) ++ (o68 : ByteArray)) : ByteArray) ++ (⟨#[125]⟩ : ByteArray))), (6, U), (7, .slice none 0 0), (8, .int .i64 i)]) (fun ⟨i, U, X⟩ => [rw_ eS 9 (U) X, cel b1 [.int .i64 cd, .int .i64 at_, .string path, .bool op, .int .i64 x0, .int .i64 x1, .int .i64 x2, .int .i64 x3, .int .i64 x4, .int .i64 x5, .int .i64 x6, .int .i64 x7, .slice pA ps.length pc, .slice kA lf.length kc] 30]) (fun _ => S) (fun _ => wf) (fun ⟨i, U, X⟩ => (ps.length - i.toNat)) (fun a_ w_ hs_ hw_ => ⟨⟨0, (.slice none 0 0), ([] : List ByteArray)⟩, (by exact ⟨by omega, by omega, rfl, rfl, fun x hx => by cases hx⟩), hs_.mono (Sub.get (.c rfl (.c rfl (.c rfl (.c rfl (.c rfl (.c rfl .n))))))), hw_.keep (.c .h (.c (.t (.t .h)) .n))⟩) (fun ⟨i, U, X⟩ ⟨q_0, q_1, q_2, q_3, q_4⟩ => ?_)
  show SC _ _ _ _ _ ⟨[(1, .pointer (some ⟨b1, 0, none⟩)), (3, .string ⟨#[116, 114, 117, 101]⟩), (5, .string ((((⟨#[123]⟩ : ByteArray) ++ (o68 : ByteArray)) : ByteArray) ++ (⟨#[125]⟩ : ByteArray))), (6, U), (7, .slice none 0 0), (8, .int .i64 i)], [rw_ eS 9 (U) X, cel b1 [.int .i64 cd, .int .i64 at_, .string path, .bool op, .int .i64 x0, .int .i64 x1, .int .i64 x2, .int .i64 x3, .int .i64 x4, .int .i64 x5, .int .i64 x6, .int .i64 x7, .slice pA ps.length pc, .slice kA lf.length kc] 30], S, wf⟩
  refine .seq (.seq (.region ?_))
  refine .v (ev_mv rfl rfl) rfl ?_
  refine .v (ev_fa rfl fo30_3 rfl (r := 12) rfl) rfl ?_
  refine .v (ev_ld1 rfl ty27 rfl (At.own1 1 rfl rfl)) rfl ?_
  refine .v (ev_len rfl Try.underlying27 rfl) rfl ?_
  refine .v (ev_cmp rfl rfl rfl rfl) rfl ?_
  refine .go idQ ?_
  refine .condI rfl bD (fun h73 => ?_) (fun h73 => ?_)
  ·
   refine .skipgo idQ (.seq (.block (.region ?_)))
   refine .v (ev_mv rfl rfl) rfl ?_
   refine .v (ev_fa rfl fo30_3 rfl (r := 12) rfl) rfl ?_
   refine .v (ev_ld1 rfl ty27 rfl (At.own1 1 rfl rfl)) rfl ?_
   refine .v (ev_mv rfl rfl) rfl ?_
   refine .v (ev_ix rfl Try.underlying27 ty52 rfl rfl (by omega) (by omega) (fun _ _ => Fr.adr (i := i) hP (by omega) (by omega))) rfl ?_
   refine .v (ev_lda rfl rfl (At.w (Fr.el (i := i) hP (by omega) (by omega))) ty52) rfl ?_
   refine .cons (st_call00 rfl rfl rfl rfl hbd35 rfl .n (plan_t ((gt ps i).veh) ((gt ps i).sA) ((gt ps i).sc) ((gt ps i).steps) ((gt ps i).time) ((gt ps i).dist) ((gt ps i).wait) ((gt ps i).serv) ((gt ps i).cost) _ _ ((hN _ (gt_mem (i := i) (by omega) (by omega))).1) ((hN _ (gt_mem (i := i) (by omega) (by omega))).2) (hst _ (gt_mem (i := i) (by omega) (by omega))).1 (hst _ (gt_mem (i := i) (by omega) (by omega))).2 (fit_plan hR _ (gt_mem (i := i) (by omega) (by omega)))) (by intro v C h; obtain ⟨_, _, _, rfl, rfl⟩ := h; rfl) (fun v_q75 q75 => ?_))
   obtain ⟨o74, p76, p77, rfl, -⟩ := q75
   refine .cons (st_lit eS (e := 9) (l := [o74]) rfl rfl rfl rfl (by kernel_rfl) rfl rfl (fun w => by kernel_rfl) (fun b78 => ?_))
   refine .cons (st_app (E := eS) (m := [o74]) rfl rfl rfl rfl Try.underlying82 ai9 rfl rfl rfl (.t .h) (by first | rfl | omega | simp) (row_src 0 rfl) (by first | omega | simp only [LL] <;> omega | simp <;> omega) rfl (fun v79 => ?_))
   refine .v (ev_as rfl rfl) rfl ?_
   refine .go idQ (.region ?_)
   refine .v (ev_mv rfl rfl) rfl ?_
   refine .v (ev_add rfl rfl rfl (r := (i + 1)) rfl (by omega) (by omega)) rfl ?_
   refine .v (ev_as rfl rfl) rfl ?_
   exact SP.nil (SQ.roundb (X := Int × Value × (List ByteArray)) (x := (i, U, X)) ⟨(i + 1), v79, (X ++ [o74])⟩ (by exact ⟨by omega, by omega, tx_next q_2 (by omega) (by omega) p76, by rw [List.length_append]; simp; omega, all_snoc q_4 p77⟩) (by dsimp only; omega) (Sub.get (.c rfl (.c rfl (.c rfl (.c rfl (.c rfl (.c rfl .n))))))) (fun w hw => hw.keep (.c .h (.c (.t .h) .n))))
  refine .exit idQ ?_
  refine .seq (.seq ?_)
  refine .know (row_len 0 rfl) (fun hv82 => ?_)
  obtain ⟨A80, c81, rfl, hv82_1, hv82_2⟩ := hv82
  unfold maxLen at hv82_2
  have hX := tx_end q_2 (by omega)
  have hXb := q_4
  have hXl : X.length ≤ 8 := by omega
  refine SC.nilrow eS 9 ?_
  refine .region ?_
  refine .v (ev_as rfl rfl) rfl ?_
  refine .go idQ (.block ?_)
  refine .loop (X := Int × Value × (List ByteArray)) (fun ⟨j, W, Y⟩ => 0 ≤ j ∧ j ≤ lf.length ∧ Y.map bs = (lf.take j.toNat).map (fun t => txt (taskJ t)) ∧ (Y.length : Int) = j ∧ ∀ x ∈ Y, x.size ≤ 300) (fun ⟨j, W, Y⟩ => [(1, .pointer (some ⟨b1, 0, none⟩)), (3, .string ⟨#[116, 114, 117, 101]⟩), (5, .string ((((⟨#[123]⟩ : ByteArray) ++ (o68 : ByteArray)) : ByteArray) ++ (⟨#[125]⟩ : ByteArray))), (6, .slice A80 X.length c81), (7, W), (9, .int .i64 j)]) (fun ⟨j, W, Y⟩ => [rw_ eS 9 (W) Y, rw_ eS 9 (.slice A80 X.length c81) X, cel b1 [.int .i64 cd, .int .i64 at_, .string path, .bool op, .int .i64 x0, .int .i64 x1, .int .i64 x2, .int .i64 x3, .int .i64 x4, .int .i64 x5, .int .i64 x6, .int .i64 x7, .slice pA ps.length pc, .slice kA lf.length kc] 30]) (fun _ => S) (fun _ => wf) (fun ⟨j, W, Y⟩ => (lf.length - j.toNat)) (fun a_ w_ hs_ hw_ => ⟨⟨0, (.slice none 0 0), ([] : List ByteArray)⟩, (by exact ⟨by omega, by omega, rfl, rfl, fun x hx => by cases hx⟩), hs_.mono (Sub.get (.c rfl (.c rfl (.c rfl (.c rfl (.c rfl (.c rfl .n))))))), hw_.keep (.c .h (.c .h (.c .h .n)))⟩) (fun ⟨j, W, Y⟩ ⟨r_0, r_1, r_2, r_3, r_4⟩ => ?_)
  show SC _ _ _ _ _ ⟨[(1, .pointer (some ⟨b1, 0, none⟩)), (3, .string ⟨#[116, 114, 117, 101]⟩), (5, .string ((((⟨#[123]⟩ : ByteArray) ++ (o68 : ByteArray)) : ByteArray) ++ (⟨#[125]⟩ : ByteArray))), (6, .slice A80 X.length c81), (7, W), (9, .int .i64 j)], [rw_ eS 9 (W) Y, rw_ eS 9 (.slice A80 X.length c81) X, cel b1 [.int .i64 cd, .int .i64 at_, .string path, .bool op, .int .i64 x0, .int .i64 x1, .int .i64 x2, .int .i64 x3, .int .i64 x4, .int .i64 x5, .int .i64 x6, .int .i64 x7, .slice pA ps.length pc, .slice kA lf.length kc] 30], S, wf⟩
  refine .seq (.seq (.region ?_))
  refine .v (ev_mv rfl rfl) rfl ?_
  refine .v (ev_fa rfl fo30_4 rfl (r := 13) rfl) rfl ?_
  refine .v (ev_ld1 rfl ty28 rfl (At.own1 2 rfl rfl)) rfl ?_
  refine .v (ev_len rfl Try.underlying28 rfl) rfl ?_
  refine .v (ev_cmp rfl rfl rfl rfl) rfl ?_
  refine .go idQ ?_
  refine .condI rfl bD (fun h83 => ?_) (fun h83 => ?_)
  ·
   refine .skipgo idQ (.seq (.block (.seq (.region ?_))))
   refine .v (ev_as rfl rfl) rfl ?_
   refine .go idQ (.seq (.seq (.region ?_)))
   refine .v (ev_fa rfl fo30_4 rfl (r := 13) rfl) rfl ?_
   refine .v (ev_ld1 rfl ty28 rfl (At.own1 2 rfl rfl)) rfl ?_
   refine .v (ev_mv rfl rfl) rfl ?_
   refine .v (ev_ix rfl Try.underlying28 ty62 rfl rfl (by omega) (by omega) (fun _ _ => Fr.adr (i := j) hK (by omega) (by omega))) rfl ?_
   refine .v (ev_fa rfl fo62_0 rfl (r := ao kA + (j).toNat * 2) rfl) rfl ?_
   refine .v (ev_ld1 rfl ty4 rfl (At.elem1 (At.w (Fr.el (i := j) hK (by omega) (by omega))) 0 rfl)) rfl ?_
   refine .go idQ ?_
   refine .condI rfl bV (fun h84 => ?_) (fun h84 => ?_)
   ·
    refine .region ?_
    refine .v (ev_as rfl rfl) rfl ?_
    refine .go idQ ?_
    have hft := fit_i64 (fit_task hR _ (gt_mem (i := j) (by omega) (by omega)))
    refine SC.draw mo [rw_ eS 9 (W) Y] [] (.c .h .n) (fun _ _ _ c hc => by cases hc) (fun wf_85 hl_85 hx_85 hR_85 => ?_)
    refine SR.k 0 rfl (by kernel_rfl) rfl (ev_mv rfl rfl) ?_
    refine SR.k 1 rfl (by kernel_rfl) rfl (ev_mv rfl rfl) ?_
    refine SR.k 5 rfl (by kernel_rfl) rfl (ev_fa rfl fo30_4 rfl (r := 13) rfl) ?_
    refine SR.k 6 rfl (by kernel_rfl) rfl (ev_ld1 rfl ty28 rfl (At.d (At.lent hR_85 1 rfl rfl))) ?_
    refine SR.k 7 rfl (by kernel_rfl) rfl (ev_mv rfl rfl) ?_
    refine SR.k 8 rfl (by kernel_rfl) rfl (ev_ix rfl Try.underlying28 ty62 rfl rfl (by omega) (by omega) (fun _ _ => Fr.adr (i := j) (Fr.ext hK hx_85) (by omega) (by omega))) ?_
    refine SR.k 9 rfl (by kernel_rfl) rfl (ev_fa rfl fo62_1 rfl (r := ao kA + (j).toNat * 2 + 1) rfl) ?_
    refine SR.k 10 rfl (by kernel_rfl) rfl (ev_ld1 rfl ty3 rfl (At.elem1 (At.d (Fr.el (i := j) (Fr.ext hK hx_85) (by omega) (by omega))) 1 rfl)) ?_
    refine SR.one (j := 2) (by kernel_rfl) rfl (st_call00 rfl rfl rfl rfl hbd32 rfl .n (field_ ⟨#[116, 121, 112, 101]⟩ ⟨#[34, 115, 104, 105, 112, 109, 101, 110, 116, 34]⟩ _ _ (by decide) (by (try simp only [ByteArray.size_append]); show 10 ≤ _; omega)) (by intro v C h; obtain ⟨_, _, _, rfl, rfl⟩ := h; rfl) (fun v_q87 q87 => ⟨tt0, ?_⟩))
    obtain ⟨o86, p88, p89, rfl, -⟩ := q87
    have hz90 : o86.size ≤ 10 + 65 := by have h_ := p89; (try simp only [ByteArray.size_append] at h_); exact h_
    refine SR.k 3 rfl (by kernel_rfl) rfl (ev_sadd rfl rfl rfl (by (try simp only [ByteArray.size_append]); show (((1 : Nat) + (o86.size : Nat) : Nat) : Int) ≤ 9223372036854775807; omega)) ?_
    refine SR.k 4 rfl (by kernel_rfl) rfl (ev_sadd rfl rfl rfl (by (try simp only [ByteArray.size_append]); show ((((1 + o86.size) : Nat) + (1 : Nat) : Nat) : Int) ≤ 9223372036854775807; omega)) ?_
    refine SR.one (j := 11) (by kernel_rfl) rfl (st_call00 rfl rfl rfl rfl hbd33 rfl .n (number22 ⟨#[105, 116, 101, 109]⟩ ((gt lf j).item) _ _ (by decide) (by omega)) (by intro v C h; obtain ⟨_, _, _, rfl, rfl⟩ := h; rfl) (fun v_q92 q92 => ⟨tt0, ?_⟩))
    obtain ⟨o91, p93, p94, rfl, -⟩ := q92
    refine SR.k 12 rfl (by kernel_rfl) rfl (ev_sadd rfl rfl rfl (by (try simp only [ByteArray.size_append]); show (((((1 + o86.size) + 1) : Nat) + (o91.size : Nat) : Nat) : Int) ≤ 9223372036854775807; omega)) ?_
    refine SR.k 13 rfl (by kernel_rfl) rfl (ev_sadd rfl rfl rfl (by (try simp only [ByteArray.size_append]); show ((((((1 + o86.size) + 1) + o91.size) : Nat) + (1 : Nat) : Nat) : Int) ≤ 9223372036854775807; omega)) ?_
    refine SR.one (j := 14) (by kernel_rfl) rfl (st_lit eS (e := 9) (l := [((((((((⟨#[123]⟩ : ByteArray) ++ (o86 : ByteArray)) : ByteArray) ++ (⟨#[44]⟩ : ByteArray)) : ByteArray) ++ (o91 : ByteArray)) : ByteArray) ++ (⟨#[125]⟩ : ByteArray))]) rfl rfl rfl rfl (by kernel_rfl) rfl rfl (fun w => by kernel_rfl) (fun b95 => ⟨tt0, ?_⟩))
    refine SR.one (j := 15) (by kernel_rfl) rfl (st_app (E := eS) (m := [((((((((⟨#[123]⟩ : ByteArray) ++ (o86 : ByteArray)) : ByteArray) ++ (⟨#[44]⟩ : ByteArray)) : ByteArray) ++ (o91 : ByteArray)) : ByteArray) ++ (⟨#[125]⟩ : ByteArray))]) rfl rfl rfl rfl Try.underlying82 ai9 rfl rfl rfl (.t .h) (by first | rfl | omega | simp) (row_src 0 rfl) (by first | omega | simp only [LL] <;> omega | simp <;> omega) rfl (fun v96 => ⟨tt0, ?_⟩))
    refine SR.k 16 rfl (by kernel_rfl) rfl (ev_as rfl rfl) ?_
    refine SR.fin (by kernel_rfl) hl_85 hx_85 hR_85 (.c (.c .n)) ?_
    refine SQ.go idQ ?_
    refine .region ?_
    refine .v (ev_mv rfl rfl) rfl ?_
    refine .v (ev_add rfl rfl rfl (r := (j + 1)) rfl (by omega) (by omega)) rfl ?_
    refine .v (ev_as rfl rfl) rfl ?_
    exact SP.nil (SQ.roundb (X := Int × Value × (List ByteArray)) (x := (j, W, Y)) ⟨(j + 1), v96, (Y ++ [((((((((⟨#[123]⟩ : ByteArray) ++ (o86 : ByteArray)) : ByteArray) ++ (⟨#[44]⟩ : ByteArray)) : ByteArray) ++ (o91 : ByteArray)) : ByteArray) ++ (⟨#[125]⟩ : ByteArray))])⟩ (by exact ⟨by omega, by omega, tx_next r_2 (by omega) (by omega) (task_text (t := gt lf j) p88 (by rw [show (gt lf j).ship = true by first | assumption | exact Bool.eq_false_iff.2 (by assumption)]; exact quote_ship) p93), by rw [List.length_append]; simp; omega, all_snoc r_4 (by simp only [ByteArray.size_append]; show ((((1 + o86.size) + 1) + o91.size) + 1) ≤ _; omega)⟩) (by dsimp only; omega) (Sub.get (.c rfl (.c rfl (.c rfl (.c rfl (.c rfl (.c rfl .n))))))) (fun w hw => hw.keep (.c .h (.c (.t .h) (.c (.t .h) .n)))))
   refine .skipgo idQ ?_
   have hft := fit_i64 (fit_task hR _ (gt_mem (i := j) (by omega) (by omega)))
   refine SC.draw mo [rw_ eS 9 (W) Y] [] (.c .h .n) (fun _ _ _ c hc => by cases hc) (fun wf_97 hl_97 hx_97 hR_97 => ?_)
   refine SR.k 0 rfl (by kernel_rfl) rfl (ev_mv rfl rfl) ?_
   refine SR.k 1 rfl (by kernel_rfl) rfl (ev_mv rfl rfl) ?_
   refine SR.k 5 rfl (by kernel_rfl) rfl (ev_fa rfl fo30_4 rfl (r := 13) rfl) ?_
   refine SR.k 6 rfl (by kernel_rfl) rfl (ev_ld1 rfl ty28 rfl (At.d (At.lent hR_97 1 rfl rfl))) ?_
   refine SR.k 7 rfl (by kernel_rfl) rfl (ev_mv rfl rfl) ?_
   refine SR.k 8 rfl (by kernel_rfl) rfl (ev_ix rfl Try.underlying28 ty62 rfl rfl (by omega) (by omega) (fun _ _ => Fr.adr (i := j) (Fr.ext hK hx_97) (by omega) (by omega))) ?_
   refine SR.k 9 rfl (by kernel_rfl) rfl (ev_fa rfl fo62_1 rfl (r := ao kA + (j).toNat * 2 + 1) rfl) ?_
   refine SR.k 10 rfl (by kernel_rfl) rfl (ev_ld1 rfl ty3 rfl (At.elem1 (At.d (Fr.el (i := j) (Fr.ext hK hx_97) (by omega) (by omega))) 1 rfl)) ?_
   refine SR.one (j := 2) (by kernel_rfl) rfl (st_call00 rfl rfl rfl rfl hbd32 rfl .n (field_ ⟨#[116, 121, 112, 101]⟩ ⟨#[34, 106, 111, 98, 34]⟩ _ _ (by decide) (by (try simp only [ByteArray.size_append]); show 5 ≤ _; omega)) (by intro v C h; obtain ⟨_, _, _, rfl, rfl⟩ := h; rfl) (fun v_q99 q99 => ⟨tt0, ?_⟩))
   obtain ⟨o98, p100, p101, rfl, -⟩ := q99
   have hz102 : o98.size ≤ 5 + 65 := by have h_ := p101; (try simp only [ByteArray.size_append] at h_); exact h_
   refine SR.k 3 rfl (by kernel_rfl) rfl (ev_sadd rfl rfl rfl (by (try simp only [ByteArray.size_append]); show (((1 : Nat) + (o98.size : Nat) : Nat) : Int) ≤ 9223372036854775807; omega)) ?_
   refine SR.k 4 rfl (by kernel_rfl) rfl (ev_sadd rfl rfl rfl (by (try simp only [ByteArray.size_append]); show ((((1 + o98.size) : Nat) + (1 : Nat) : Nat) : Int) ≤ 9223372036854775807; omega)) ?_
   refine SR.one (j := 11) (by kernel_rfl) rfl (st_call00 rfl rfl rfl rfl hbd33 rfl .n (number22 ⟨#[105, 116, 101, 109]⟩ ((gt lf j).item) _ _ (by decide) (by omega)) (by intro v C h; obtain ⟨_, _, _, rfl, rfl⟩ := h; rfl) (fun v_q104 q104 => ⟨tt0, ?_⟩))
   obtain ⟨o103, p105, p106, rfl, -⟩ := q104
   refine SR.k 12 rfl (by kernel_rfl) rfl (ev_sadd rfl rfl rfl (by (try simp only [ByteArray.size_append]); show (((((1 + o98.size) + 1) : Nat) + (o103.size : Nat) : Nat) : Int) ≤ 9223372036854775807; omega)) ?_
   refine SR.k 13 rfl (by kernel_rfl) rfl (ev_sadd rfl rfl rfl (by (try simp only [ByteArray.size_append]); show ((((((1 + o98.size) + 1) + o103.size) : Nat) + (1 : Nat) : Nat) : Int) ≤ 9223372036854775807; omega)) ?_
   refine SR.one (j := 14) (by kernel_rfl) rfl (st_lit eS (e := 9) (l := [((((((((⟨#[123]⟩ : ByteArray) ++ (o98 : ByteArray)) : ByteArray) ++ (⟨#[44]⟩ : ByteArray)) : ByteArray) ++ (o103 : ByteArray)) : ByteArray) ++ (⟨#[125]⟩ : ByteArray))]) rfl rfl rfl rfl (by kernel_rfl) rfl rfl (fun w => by kernel_rfl) (fun b107 => ⟨tt0, ?_⟩))
   refine SR.one (j := 15) (by kernel_rfl) rfl (st_app (E := eS) (m := [((((((((⟨#[123]⟩ : ByteArray) ++ (o98 : ByteArray)) : ByteArray) ++ (⟨#[44]⟩ : ByteArray)) : ByteArray) ++ (o103 : ByteArray)) : ByteArray) ++ (⟨#[125]⟩ : ByteArray))]) rfl rfl rfl rfl Try.underlying82 ai9 rfl rfl rfl (.t .h) (by first | rfl | omega | simp) (row_src 0 rfl) (by first | omega | simp only [LL] <;> omega | simp <;> omega) rfl (fun v108 => ⟨tt0, ?_⟩))
   refine SR.k 16 rfl (by kernel_rfl) rfl (ev_as rfl rfl) ?_
   refine SR.fin (by kernel_rfl) hl_97 hx_97 hR_97 (.c (.c .n)) ?_
   refine SQ.go idQ ?_
   refine .region ?_
   refine .v (ev_mv rfl rfl) rfl ?_
   refine .v (ev_add rfl rfl rfl (r := (j + 1)) rfl (by omega) (by omega)) rfl ?_
   refine .v (ev_as rfl rfl) rfl ?_
   exact SP.nil (SQ.roundb (X := Int × Value × (List ByteArray)) (x := (j, W, Y)) ⟨(j + 1), v108, (Y ++ [((((((((⟨#[123]⟩ : ByteArray) ++ (o98 : ByteArray)) : ByteArray) ++ (⟨#[44]⟩ : ByteArray)) : ByteArray) ++ (o103 : ByteArray)) : ByteArray) ++ (⟨#[125]⟩ : ByteArray))])⟩ (by exact ⟨by omega, by omega, tx_next r_2 (by omega) (by omega) (task_text (t := gt lf j) p100 (by rw [show (gt lf j).ship = false by first | assumption | exact Bool.eq_false_iff.2 (by assumption)]; exact quote_job) p105), by rw [List.length_append]; simp; omega, all_snoc r_4 (by simp only [ByteArray.size_append]; show ((((1 + o98.size) + 1) + o103.size) + 1) ≤ _; omega)⟩) (by dsimp only; omega) (Sub.get (.c rfl (.c rfl (.c rfl (.c rfl (.c rfl (.c rfl .n))))))) (fun w hw => hw.keep (.c .h (.c (.t .h) (.c (.t .h) .n)))))
  refine .exit idQ ?_
  refine .seq ?_
  refine .know (row_len 0 rfl) (fun hv111 => ?_)
  obtain ⟨A109, c110, rfl, hv111_1, hv111_2⟩ := hv111
  unfold maxLen at hv111_2
  have hY := tx_end r_2 (by omega)
  refine .region ?_
  refine .cons (st_call00 rfl rfl rfl rfl hbd32 rfl .n (field_ ⟨#[115, 116, 97, 116, 117, 115]⟩ ⟨#[34, 111, 107, 34]⟩ _ _ (by decide) (by (try simp only [ByteArray.size_append]); show 4 ≤ _; omega)) (by intro v C h; obtain ⟨_, _, _, rfl, rfl⟩ := h; rfl) (fun v_q113 q113 => ?_))
  obtain ⟨o112, p114, p115, rfl, -⟩ := q113
  have hz116 : o112.size ≤ 4 + 65 := by have h_ := p115; (try simp only [ByteArray.size_append] at h_); exact h_
  refine .v (ev_mv rfl rfl) rfl ?_
  refine .cons (st_call00 rfl rfl rfl rfl hbd32 rfl .n (field_ ⟨#[111, 112, 116, 105, 109, 97, 108]⟩ ⟨#[116, 114, 117, 101]⟩ _ _ (by decide) (by (try simp only [ByteArray.size_append]); show 4 ≤ _; omega)) (by intro v C h; obtain ⟨_, _, _, rfl, rfl⟩ := h; rfl) (fun v_q118 q118 => ?_))
  obtain ⟨o117, p119, p120, rfl, -⟩ := q118
  have hz121 : o117.size ≤ 4 + 65 := by have h_ := p120; (try simp only [ByteArray.size_append] at h_); exact h_
  refine .v (ev_mv rfl rfl) rfl ?_
  refine .cons (st_call00 rfl rfl rfl rfl hbd32 rfl .n (field_ ⟨#[115, 117, 109, 109, 97, 114, 121]⟩ ((((⟨#[123]⟩ : ByteArray) ++ (o68 : ByteArray)) : ByteArray) ++ (⟨#[125]⟩ : ByteArray)) _ _ (by decide) (by (try simp only [ByteArray.size_append]); show ((1 + o68.size) + 1) ≤ _; omega)) (by intro v C h; obtain ⟨_, _, _, rfl, rfl⟩ := h; rfl) (fun v_q123 q123 => ?_))
  obtain ⟨o122, p124, p125, rfl, -⟩ := q123
  have hz126 : o122.size ≤ ((1 + o68.size) + 1) + 65 := by have h_ := p125; (try simp only [ByteArray.size_append] at h_); exact h_
  refine .v (ev_mv rfl rfl) rfl ?_
  refine .cons (st_lend0 rfl rfl rfl rfl hbd31 rfl .n (.c (.t .h) .n) (fun w_ hw => all_s A80 X.length c81 X _ _ (Fr.lend hw 0 rfl (by first | omega | simp only [LL] <;> omega | simp <;> omega)) (by first | omega | simp only [LL] <;> omega | simp <;> omega) (Nat.le_trans (m := 12000008) (join_m (B := 1500000) (n := 8) hXb hXl (by decide)) (by decide))) (fun v_q128 C_q128 q128 => ?_))
  obtain ⟨o127, p129, p130, rfl, rfl⟩ := q128
  show SP _ _ _ _ _ _ ⟨_, _ :: _, _, _⟩
  have hz131 : o127.size ≤ 12000008 := by rw [p130]; exact (join_m (B := 1500000) (n := 8) hXb hXl (by decide))
  refine .v (ev_sadd rfl rfl rfl (by (try simp only [ByteArray.size_append]); show (((1 : Nat) + (o127.size : Nat) : Nat) : Int) ≤ 9223372036854775807; omega)) rfl ?_
  refine .v (ev_sadd rfl rfl rfl (by (try simp only [ByteArray.size_append]); show ((((1 + o127.size) : Nat) + (1 : Nat) : Nat) : Int) ≤ 9223372036854775807; omega)) rfl ?_
  refine .cons (st_call00 rfl rfl rfl rfl hbd32 rfl .n (field_ ⟨#[114, 111, 117, 116, 101, 115]⟩ ((((⟨#[91]⟩ : ByteArray) ++ (o127 : ByteArray)) : ByteArray) ++ (⟨#[93]⟩ : ByteArray)) _ _ (by decide) (by (try simp only [ByteArray.size_append]); show ((1 + o127.size) + 1) ≤ _; omega)) (by intro v C h; obtain ⟨_, _, _, rfl, rfl⟩ := h; rfl) (fun v_q133 q133 => ?_))
  obtain ⟨o132, p134, p135, rfl, -⟩ := q133
  have hz136 : o132.size ≤ ((1 + o127.size) + 1) + 65 := by have h_ := p135; (try simp only [ByteArray.size_append] at h_); exact h_
  refine .v (ev_mv rfl rfl) rfl ?_
  refine .cons (st_lend0 rfl rfl rfl rfl hbd31 rfl .n (.c (.t .h) .n) (fun w_ hw => all_s A109 Y.length c110 Y _ _ (Fr.lend hw 0 rfl (by first | omega | simp only [LL] <;> omega | simp <;> omega)) (by first | omega | simp only [LL] <;> omega | simp <;> omega) (Nat.le_trans (m := 15050) (join_m (B := 300) (n := 50) r_4 (by omega) (by decide)) (by decide))) (fun v_q138 C_q138 q138 => ?_))
  obtain ⟨o137, p139, p140, rfl, rfl⟩ := q138
  show SP _ _ _ _ _ _ ⟨_, _ :: _, _, _⟩
  have hz141 : o137.size ≤ 15050 := by rw [p140]; exact (join_m (B := 300) (n := 50) r_4 (by omega) (by decide))
  refine .v (ev_sadd rfl rfl rfl (by (try simp only [ByteArray.size_append]); show (((1 : Nat) + (o137.size : Nat) : Nat) : Int) ≤ 9223372036854775807; omega)) rfl ?_
  refine .v (ev_sadd rfl rfl rfl (by (try simp only [ByteArray.size_append]); show ((((1 + o137.size) : Nat) + (1 : Nat) : Nat) : Int) ≤ 9223372036854775807; omega)) rfl ?_
  refine .cons (st_call00 rfl rfl rfl rfl hbd32 rfl .n (field_ ⟨#[117, 110, 97, 115, 115, 105, 103, 110, 101, 100]⟩ ((((⟨#[91]⟩ : ByteArray) ++ (o137 : ByteArray)) : ByteArray) ++ (⟨#[93]⟩ : ByteArray)) _ _ (by decide) (by (try simp only [ByteArray.size_append]); show ((1 + o137.size) + 1) ≤ _; omega)) (by intro v C h; obtain ⟨_, _, _, rfl, rfl⟩ := h; rfl) (fun v_q143 q143 => ?_))
  obtain ⟨o142, p144, p145, rfl, -⟩ := q143
  have hz146 : o142.size ≤ ((1 + o137.size) + 1) + 65 := by have h_ := p145; (try simp only [ByteArray.size_append] at h_); exact h_
  refine .cons (st_lit eS (e := 9) (l := [o112, o117, o122, o132, o142]) rfl rfl rfl rfl (by kernel_rfl) rfl rfl (fun w => by kernel_rfl) (fun b147 => ?_))
  refine .cons (st_lend0 rfl rfl rfl rfl hbd31 rfl .n (.c .h .n) (fun w_ hw => all_s (some ⟨b147, 0, none⟩) 5 5 [o112, o117, o122, o132, o142] _ _ (Fr.lend hw 0 rfl (by first | omega | simp only [LL] <;> omega | simp <;> omega)) (by first | omega | simp only [LL] <;> omega | simp <;> omega) (Nat.le_trans (m := 65000005) (join_m (B := 13000000) (n := 5) (by simp only [List.forall_mem_cons, List.not_mem_nil, false_implies, implies_true, and_true]; omega) (Nat.le_refl _) (by decide)) (by decide))) (fun v_q149 C_q149 q149 => ?_))
  obtain ⟨o148, p150, p151, rfl, rfl⟩ := q149
  show SP _ _ _ _ _ _ ⟨_, _ :: _, _, _⟩
  have hz152 : o148.size ≤ 65000005 := by rw [p151]; exact (join_m (B := 13000000) (n := 5) (by simp only [List.forall_mem_cons, List.not_mem_nil, false_implies, implies_true, and_true]; omega) (Nat.le_refl _) (by decide))
  refine .v (ev_sadd rfl rfl rfl (by (try simp only [ByteArray.size_append]); show (((1 : Nat) + (o148.size : Nat) : Nat) : Int) ≤ 9223372036854775807; omega)) rfl ?_
  refine .v (ev_sadd rfl rfl rfl (by (try simp only [ByteArray.size_append]); show ((((1 + o148.size) : Nat) + (1 : Nat) : Nat) : Int) ≤ 9223372036854775807; omega)) rfl ?_
  refine .v (ev_as rfl rfl) rfl ?_
  refine .go idQ ?_
  exact .ret idQ (ret1 Try.results13 rfl .n ⟨((((⟨#[123]⟩ : ByteArray) ++ (o148 : ByteArray)) : ByteArray) ++ (⟨#[125]⟩ : ByteArray)), (by have hb_ : bs ⟨#[116, 114, 117, 101]⟩ = txt (.boo op) := (by rw [txt_boo]; first | (rw [if_pos (by assumption)]; rfl) | (rw [if_neg (by assumption)]; rfl) | (rw [if_neg (Bool.eq_false_iff.1 (by assumption))]; rfl)); have hp_ := lst_text (ns := []) (js := ps.map planJ) p129 (by rw [hX, List.map_map]; rfl); have hk_ := lst_text (ns := []) (js := lf.map taskJ) p139 (by rw [hY, List.map_map]; rfl); unfold replyJ; rw [if_neg (by omega)]; unfold okJ; exact obj_text p150 (by simp only [wholeNs, List.map_cons, List.map_nil, List.zip_cons_cons, List.zip_nil_right, txt_str, quote_ok, hb_, hsum_, hp_, hk_, p37, p41, p45, p49, p53, p57, p61, p65, p70, p114, p119, p124, p129, p134, p139, p144, p150]) rfl), (by simp only [ByteArray.size_append]; show ((1 + o148.size) + 1) ≤ _; omega), rfl, rfl⟩)
 refine .skipgo idQ (.seq (.region ?_))
 refine .v (ev_fa rfl fo30_2 rfl (r := 4) rfl) rfl ?_
 refine .v (ev_lda (cs := [.int .i64 x0, .int .i64 x1, .int .i64 x2, .int .i64 x3, .int .i64 x4, .int .i64 x5, .int .i64 x6, .int .i64 x7]) rfl rfl (At.own 0 rfl rfl) ty26) rfl ?_
 refine .cons (st_alloc rfl rfl rfl rfl zf26 (fun b153 => ?_))
 refine .cons (st_storea (l' := [.int .i64 x0, .int .i64 x1, .int .i64 x2, .int .i64 x3, .int .i64 x4, .int .i64 x5, .int .i64 x6, .int .i64 x7]) rfl rfl rfl ty26 rfl rfl rfl .h rfl rfl ?_)
 refine .go idQ (.seq ?_)
 refine SC.draw mo [] [] .n (fun _ _ _ c hc => by cases hc) (fun wf_154 hl_154 hx_154 hR_154 => ?_)
 refine SR.k 0 rfl (by kernel_rfl) rfl (ev_fa rfl fo26_0 rfl (r := 0) rfl) ?_
 refine SR.k 1 rfl (by kernel_rfl) rfl (ev_ld1 rfl ty3 rfl (At.d (At.lent hR_154 0 rfl rfl))) ?_
 refine SR.k 3 rfl (by kernel_rfl) rfl (ev_fa rfl fo26_1 rfl (r := 1) rfl) ?_
 refine SR.k 4 rfl (by kernel_rfl) rfl (ev_ld1 rfl ty3 rfl (At.d (At.lent hR_154 0 rfl rfl))) ?_
 refine SR.k 6 rfl (by kernel_rfl) rfl (ev_fa rfl fo26_2 rfl (r := 2) rfl) ?_
 refine SR.k 7 rfl (by kernel_rfl) rfl (ev_ld1 rfl ty3 rfl (At.d (At.lent hR_154 0 rfl rfl))) ?_
 refine SR.k 9 rfl (by kernel_rfl) rfl (ev_fa rfl fo26_3 rfl (r := 3) rfl) ?_
 refine SR.k 10 rfl (by kernel_rfl) rfl (ev_ld1 rfl ty3 rfl (At.d (At.lent hR_154 0 rfl rfl))) ?_
 refine SR.k 12 rfl (by kernel_rfl) rfl (ev_fa rfl fo26_4 rfl (r := 4) rfl) ?_
 refine SR.k 13 rfl (by kernel_rfl) rfl (ev_ld1 rfl ty3 rfl (At.d (At.lent hR_154 0 rfl rfl))) ?_
 refine SR.k 15 rfl (by kernel_rfl) rfl (ev_fa rfl fo26_5 rfl (r := 5) rfl) ?_
 refine SR.k 16 rfl (by kernel_rfl) rfl (ev_ld1 rfl ty3 rfl (At.d (At.lent hR_154 0 rfl rfl))) ?_
 refine SR.k 18 rfl (by kernel_rfl) rfl (ev_fa rfl fo26_6 rfl (r := 6) rfl) ?_
 refine SR.k 19 rfl (by kernel_rfl) rfl (ev_ld1 rfl ty3 rfl (At.d (At.lent hR_154 0 rfl rfl))) ?_
 refine SR.k 21 rfl (by kernel_rfl) rfl (ev_fa rfl fo26_7 rfl (r := 7) rfl) ?_
 refine SR.k 22 rfl (by kernel_rfl) rfl (ev_ld1 rfl ty3 rfl (At.d (At.lent hR_154 0 rfl rfl))) ?_
 refine SR.one (j := 2) (by kernel_rfl) rfl (st_call00 rfl rfl rfl rfl hbd33 rfl .n (number22 ⟨#[114, 111, 117, 116, 101, 115]⟩ x0 _ _ (by decide) (by omega)) (by intro v C h; obtain ⟨_, _, _, rfl, rfl⟩ := h; rfl) (fun v_q156 q156 => ⟨tt0, ?_⟩))
 obtain ⟨o155, p157, p158, rfl, -⟩ := q156
 refine SR.one (j := 5) (by kernel_rfl) rfl (st_call00 rfl rfl rfl rfl hbd33 rfl .n (number22 ⟨#[118, 97, 108, 117, 101]⟩ x1 _ _ (by decide) (by omega)) (by intro v C h; obtain ⟨_, _, _, rfl, rfl⟩ := h; rfl) (fun v_q160 q160 => ⟨tt0, ?_⟩))
 obtain ⟨o159, p161, p162, rfl, -⟩ := q160
 refine SR.one (j := 8) (by kernel_rfl) rfl (st_call00 rfl rfl rfl rfl hbd33 rfl .n (number22 ⟨#[99, 111, 115, 116]⟩ x2 _ _ (by decide) (by omega)) (by intro v C h; obtain ⟨_, _, _, rfl, rfl⟩ := h; rfl) (fun v_q164 q164 => ⟨tt0, ?_⟩))
 obtain ⟨o163, p165, p166, rfl, -⟩ := q164
 refine SR.one (j := 11) (by kernel_rfl) rfl (st_call00 rfl rfl rfl rfl hbd33 rfl .n (number22 ⟨#[116, 105, 109, 101]⟩ x3 _ _ (by decide) (by omega)) (by intro v C h; obtain ⟨_, _, _, rfl, rfl⟩ := h; rfl) (fun v_q168 q168 => ⟨tt0, ?_⟩))
 obtain ⟨o167, p169, p170, rfl, -⟩ := q168
 refine SR.one (j := 14) (by kernel_rfl) rfl (st_call00 rfl rfl rfl rfl hbd33 rfl .n (number22 ⟨#[100, 105, 115, 116]⟩ x4 _ _ (by decide) (by omega)) (by intro v C h; obtain ⟨_, _, _, rfl, rfl⟩ := h; rfl) (fun v_q172 q172 => ⟨tt0, ?_⟩))
 obtain ⟨o171, p173, p174, rfl, -⟩ := q172
 refine SR.one (j := 17) (by kernel_rfl) rfl (st_call00 rfl rfl rfl rfl hbd33 rfl .n (number22 ⟨#[119, 97, 105, 116]⟩ x5 _ _ (by decide) (by omega)) (by intro v C h; obtain ⟨_, _, _, rfl, rfl⟩ := h; rfl) (fun v_q176 q176 => ⟨tt0, ?_⟩))
 obtain ⟨o175, p177, p178, rfl, -⟩ := q176
 refine SR.one (j := 20) (by kernel_rfl) rfl (st_call00 rfl rfl rfl rfl hbd33 rfl .n (number22 ⟨#[115, 101, 114, 118, 105, 99, 101]⟩ x6 _ _ (by decide) (by omega)) (by intro v C h; obtain ⟨_, _, _, rfl, rfl⟩ := h; rfl) (fun v_q180 q180 => ⟨tt0, ?_⟩))
 obtain ⟨o179, p181, p182, rfl, -⟩ := q180
 refine SR.one (j := 23) (by kernel_rfl) rfl (st_call00 rfl rfl rfl rfl hbd33 rfl .n (number22 ⟨#[108, 101, 102, 116]⟩ x7 _ _ (by decide) (by omega)) (by intro v C h; obtain ⟨_, _, _, rfl, rfl⟩ := h; rfl) (fun v_q184 q184 => ⟨tt0, ?_⟩))
 obtain ⟨o183, p185, p186, rfl, -⟩ := q184
 refine SR.one (j := 24) (by kernel_rfl) rfl (st_lit eS (e := 9) (l := [o155, o159, o163, o167, o171, o175, o179, o183]) rfl rfl rfl rfl (by kernel_rfl) rfl rfl (fun w => by kernel_rfl) (fun b187 => ⟨tt0, ?_⟩))
 refine SR.one (j := 25) (by kernel_rfl) rfl (st_lend0 rfl rfl rfl rfl hbd31 rfl .n (.c .h .n) (fun w_ hw => all_s (some ⟨b187, 0, none⟩) 8 8 [o155, o159, o163, o167, o171, o175, o179, o183] _ _ (Fr.lend hw 0 rfl (by first | omega | simp only [LL] <;> omega | simp <;> omega)) (by first | omega | simp only [LL] <;> omega | simp <;> omega) (Nat.le_trans (m := 768) (join_m (B := 95) (n := 8) (by simp only [List.forall_mem_cons, List.not_mem_nil, false_implies, implies_true, and_true]; omega) (Nat.le_refl _) (by decide)) (by decide))) (fun v_q189 C_q189 q189 => ⟨tt0, ?_⟩))
 obtain ⟨o188, p190, p191, rfl, rfl⟩ := q189
 show SR _ _ _ _ _ _ _ _ _ ⟨_, _ :: _, _, _⟩
 have hz192 : o188.size ≤ 768 := by rw [p191]; exact (join_m (B := 95) (n := 8) (by simp only [List.forall_mem_cons, List.not_mem_nil, false_implies, implies_true, and_true]; omega) (Nat.le_refl _) (by decide))
 refine SR.k 26 rfl (by kernel_rfl) rfl (ev_sadd rfl rfl rfl (by (try simp only [ByteArray.size_append]); show (((1 : Nat) + (o188.size : Nat) : Nat) : Int) ≤ 9223372036854775807; omega)) ?_
 refine SR.k 27 rfl (by kernel_rfl) rfl (ev_sadd rfl rfl rfl (by (try simp only [ByteArray.size_append]); show ((((1 + o188.size) : Nat) + (1 : Nat) : Nat) : Int) ≤ 9223372036854775807; omega)) ?_
 refine SR.k 28 rfl (by kernel_rfl) rfl (ev_as rfl rfl) ?_
 refine SR.fin (by kernel_rfl) hl_154 hx_154 hR_154 (.c .n) ?_
 refine SQ.go idQ ?_
 refine .seq ?_
 have hsum_ : bs (((((⟨#[123]⟩ : ByteArray) ++ (o188 : ByteArray)) : ByteArray) ++ (⟨#[125]⟩ : ByteArray))) = txt (sumsJ ⟨x0, x1, x2, x3, x4, x5, x6, x7⟩) := by unfold sumsJ; exact obj_text p190 (by simp only [sumNs, List.map_cons, List.map_nil, List.zip_cons_cons, List.zip_nil_right, txt_num, txt_str, txt_boo, p157, p161, p165, p169, p173, p177, p181, p185, p190]) rfl
 have hsz_ : (((((⟨#[123]⟩ : ByteArray) ++ (o188 : ByteArray)) : ByteArray) ++ (⟨#[125]⟩ : ByteArray)) : ByteArray).size ≤ 1000 := by (try simp only [ByteArray.size_append]); show ((1 + o188.size) + 1) ≤ _; omega
 refine .region ?_
 refine .v (ev_as rfl rfl) rfl ?_
 refine .v (ev_as rfl rfl) rfl ?_
 refine .go idQ (.seq (.seq ?_))
 refine SC.nilrow eS 9 ?_
 refine .region ?_
 refine .v (ev_as rfl rfl) rfl ?_
 refine .go idQ (.block ?_)
 refine .loop (X := Int × Value × (List ByteArray)) (fun ⟨i, U, X⟩ => 0 ≤ i ∧ i ≤ ps.length ∧ X.map bs = (ps.take i.toNat).map (fun p => txt (planJ p)) ∧ (X.length : Int) = i ∧ ∀ x ∈ X, x.size ≤ 1500000) (fun ⟨i, U, X⟩ => [(1, .pointer (some ⟨b1, 0, none⟩)), (3, .string ⟨#[102, 97, 108, 115, 101]⟩), (5, .string ((((⟨#[123]⟩ : ByteArray) ++ (o188 : ByteArray)) : ByteArray) ++ (⟨#[125]⟩ : ByteArray))), (6, U), (7, .slice none 0 0), (8, .int .i64 i)]) (fun ⟨i, U, X⟩ => [rw_ eS 9 (U) X, cel b1 [.int .i64 cd, .int .i64 at_, .string path, .bool op, .int .i64 x0, .int .i64 x1, .int .i64 x2, .int .i64 x3, .int .i64 x4, .int .i64 x5, .int .i64 x6, .int .i64 x7, .slice pA ps.length pc, .slice kA lf.length kc] 30]) (fun _ => S) (fun _ => wf) (fun ⟨i, U, X⟩ => (ps.length - i.toNat)) (fun a_ w_ hs_ hw_ => ⟨⟨0, (.slice none 0 0), ([] : List ByteArray)⟩, (by exact ⟨by omega, by omega, rfl, rfl, fun x hx => by cases hx⟩), hs_.mono (Sub.get (.c rfl (.c rfl (.c rfl (.c rfl (.c rfl (.c rfl .n))))))), hw_.keep (.c .h (.c (.t (.t .h)) .n))⟩) (fun ⟨i, U, X⟩ ⟨q_0, q_1, q_2, q_3, q_4⟩ => ?_)
 show SC _ _ _ _ _ ⟨[(1, .pointer (some ⟨b1, 0, none⟩)), (3, .string ⟨#[102, 97, 108, 115, 101]⟩), (5, .string ((((⟨#[123]⟩ : ByteArray) ++ (o188 : ByteArray)) : ByteArray) ++ (⟨#[125]⟩ : ByteArray))), (6, U), (7, .slice none 0 0), (8, .int .i64 i)], [rw_ eS 9 (U) X, cel b1 [.int .i64 cd, .int .i64 at_, .string path, .bool op, .int .i64 x0, .int .i64 x1, .int .i64 x2, .int .i64 x3, .int .i64 x4, .int .i64 x5, .int .i64 x6, .int .i64 x7, .slice pA ps.length pc, .slice kA lf.length kc] 30], S, wf⟩
 refine .seq (.seq (.region ?_))
 refine .v (ev_mv rfl rfl) rfl ?_
 refine .v (ev_fa rfl fo30_3 rfl (r := 12) rfl) rfl ?_
 refine .v (ev_ld1 rfl ty27 rfl (At.own1 1 rfl rfl)) rfl ?_
 refine .v (ev_len rfl Try.underlying27 rfl) rfl ?_
 refine .v (ev_cmp rfl rfl rfl rfl) rfl ?_
 refine .go idQ ?_
 refine .condI rfl bD (fun h193 => ?_) (fun h193 => ?_)
 ·
  refine .skipgo idQ (.seq (.block (.region ?_)))
  refine .v (ev_mv rfl rfl) rfl ?_
  refine .v (ev_fa rfl fo30_3 rfl (r := 12) rfl) rfl ?_
  refine .v (ev_ld1 rfl ty27 rfl (At.own1 1 rfl rfl)) rfl ?_
  refine .v (ev_mv rfl rfl) rfl ?_
  refine .v (ev_ix rfl Try.underlying27 ty52 rfl rfl (by omega) (by omega) (fun _ _ => Fr.adr (i := i) hP (by omega) (by omega))) rfl ?_
  refine .v (ev_lda rfl rfl (At.w (Fr.el (i := i) hP (by omega) (by omega))) ty52) rfl ?_
  refine .cons (st_call00 rfl rfl rfl rfl hbd35 rfl .n (plan_t ((gt ps i).veh) ((gt ps i).sA) ((gt ps i).sc) ((gt ps i).steps) ((gt ps i).time) ((gt ps i).dist) ((gt ps i).wait) ((gt ps i).serv) ((gt ps i).cost) _ _ ((hN _ (gt_mem (i := i) (by omega) (by omega))).1) ((hN _ (gt_mem (i := i) (by omega) (by omega))).2) (hst _ (gt_mem (i := i) (by omega) (by omega))).1 (hst _ (gt_mem (i := i) (by omega) (by omega))).2 (fit_plan hR _ (gt_mem (i := i) (by omega) (by omega)))) (by intro v C h; obtain ⟨_, _, _, rfl, rfl⟩ := h; rfl) (fun v_q195 q195 => ?_))
  obtain ⟨o194, p196, p197, rfl, -⟩ := q195
  refine .cons (st_lit eS (e := 9) (l := [o194]) rfl rfl rfl rfl (by kernel_rfl) rfl rfl (fun w => by kernel_rfl) (fun b198 => ?_))
  refine .cons (st_app (E := eS) (m := [o194]) rfl rfl rfl rfl Try.underlying82 ai9 rfl rfl rfl (.t .h) (by first | rfl | omega | simp) (row_src 0 rfl) (by first | omega | simp only [LL] <;> omega | simp <;> omega) rfl (fun v199 => ?_))
  refine .v (ev_as rfl rfl) rfl ?_
  refine .go idQ (.region ?_)
  refine .v (ev_mv rfl rfl) rfl ?_
  refine .v (ev_add rfl rfl rfl (r := (i + 1)) rfl (by omega) (by omega)) rfl ?_
  refine .v (ev_as rfl rfl) rfl ?_
  exact SP.nil (SQ.roundb (X := Int × Value × (List ByteArray)) (x := (i, U, X)) ⟨(i + 1), v199, (X ++ [o194])⟩ (by exact ⟨by omega, by omega, tx_next q_2 (by omega) (by omega) p196, by rw [List.length_append]; simp; omega, all_snoc q_4 p197⟩) (by dsimp only; omega) (Sub.get (.c rfl (.c rfl (.c rfl (.c rfl (.c rfl (.c rfl .n))))))) (fun w hw => hw.keep (.c .h (.c (.t .h) .n))))
 refine .exit idQ ?_
 refine .seq (.seq ?_)
 refine .know (row_len 0 rfl) (fun hv202 => ?_)
 obtain ⟨A200, c201, rfl, hv202_1, hv202_2⟩ := hv202
 unfold maxLen at hv202_2
 have hX := tx_end q_2 (by omega)
 have hXb := q_4
 have hXl : X.length ≤ 8 := by omega
 refine SC.nilrow eS 9 ?_
 refine .region ?_
 refine .v (ev_as rfl rfl) rfl ?_
 refine .go idQ (.block ?_)
 refine .loop (X := Int × Value × (List ByteArray)) (fun ⟨j, W, Y⟩ => 0 ≤ j ∧ j ≤ lf.length ∧ Y.map bs = (lf.take j.toNat).map (fun t => txt (taskJ t)) ∧ (Y.length : Int) = j ∧ ∀ x ∈ Y, x.size ≤ 300) (fun ⟨j, W, Y⟩ => [(1, .pointer (some ⟨b1, 0, none⟩)), (3, .string ⟨#[102, 97, 108, 115, 101]⟩), (5, .string ((((⟨#[123]⟩ : ByteArray) ++ (o188 : ByteArray)) : ByteArray) ++ (⟨#[125]⟩ : ByteArray))), (6, .slice A200 X.length c201), (7, W), (9, .int .i64 j)]) (fun ⟨j, W, Y⟩ => [rw_ eS 9 (W) Y, rw_ eS 9 (.slice A200 X.length c201) X, cel b1 [.int .i64 cd, .int .i64 at_, .string path, .bool op, .int .i64 x0, .int .i64 x1, .int .i64 x2, .int .i64 x3, .int .i64 x4, .int .i64 x5, .int .i64 x6, .int .i64 x7, .slice pA ps.length pc, .slice kA lf.length kc] 30]) (fun _ => S) (fun _ => wf) (fun ⟨j, W, Y⟩ => (lf.length - j.toNat)) (fun a_ w_ hs_ hw_ => ⟨⟨0, (.slice none 0 0), ([] : List ByteArray)⟩, (by exact ⟨by omega, by omega, rfl, rfl, fun x hx => by cases hx⟩), hs_.mono (Sub.get (.c rfl (.c rfl (.c rfl (.c rfl (.c rfl (.c rfl .n))))))), hw_.keep (.c .h (.c .h (.c .h .n)))⟩) (fun ⟨j, W, Y⟩ ⟨r_0, r_1, r_2, r_3, r_4⟩ => ?_)
 show SC _ _ _ _ _ ⟨[(1, .pointer (some ⟨b1, 0, none⟩)), (3, .string ⟨#[102, 97, 108, 115, 101]⟩), (5, .string ((((⟨#[123]⟩ : ByteArray) ++ (o188 : ByteArray)) : ByteArray) ++ (⟨#[125]⟩ : ByteArray))), (6, .slice A200 X.length c201), (7, W), (9, .int .i64 j)], [rw_ eS 9 (W) Y, rw_ eS 9 (.slice A200 X.length c201) X, cel b1 [.int .i64 cd, .int .i64 at_, .string path, .bool op, .int .i64 x0, .int .i64 x1, .int .i64 x2, .int .i64 x3, .int .i64 x4, .int .i64 x5, .int .i64 x6, .int .i64 x7, .slice pA ps.length pc, .slice kA lf.length kc] 30], S, wf⟩
 refine .seq (.seq (.region ?_))
 refine .v (ev_mv rfl rfl) rfl ?_
 refine .v (ev_fa rfl fo30_4 rfl (r := 13) rfl) rfl ?_
 refine .v (ev_ld1 rfl ty28 rfl (At.own1 2 rfl rfl)) rfl ?_
 refine .v (ev_len rfl Try.underlying28 rfl) rfl ?_
 refine .v (ev_cmp rfl rfl rfl rfl) rfl ?_
 refine .go idQ ?_
 refine .condI rfl bD (fun h203 => ?_) (fun h203 => ?_)
 ·
  refine .skipgo idQ (.seq (.block (.seq (.region ?_))))
  refine .v (ev_as rfl rfl) rfl ?_
  refine .go idQ (.seq (.seq (.region ?_)))
  refine .v (ev_fa rfl fo30_4 rfl (r := 13) rfl) rfl ?_
  refine .v (ev_ld1 rfl ty28 rfl (At.own1 2 rfl rfl)) rfl ?_
  refine .v (ev_mv rfl rfl) rfl ?_
  refine .v (ev_ix rfl Try.underlying28 ty62 rfl rfl (by omega) (by omega) (fun _ _ => Fr.adr (i := j) hK (by omega) (by omega))) rfl ?_
  refine .v (ev_fa rfl fo62_0 rfl (r := ao kA + (j).toNat * 2) rfl) rfl ?_
  refine .v (ev_ld1 rfl ty4 rfl (At.elem1 (At.w (Fr.el (i := j) hK (by omega) (by omega))) 0 rfl)) rfl ?_
  refine .go idQ ?_
  refine .condI rfl bV (fun h204 => ?_) (fun h204 => ?_)
  ·
   refine .region ?_
   refine .v (ev_as rfl rfl) rfl ?_
   refine .go idQ ?_
   have hft := fit_i64 (fit_task hR _ (gt_mem (i := j) (by omega) (by omega)))
   refine SC.draw mo [rw_ eS 9 (W) Y] [] (.c .h .n) (fun _ _ _ c hc => by cases hc) (fun wf_205 hl_205 hx_205 hR_205 => ?_)
   refine SR.k 0 rfl (by kernel_rfl) rfl (ev_mv rfl rfl) ?_
   refine SR.k 1 rfl (by kernel_rfl) rfl (ev_mv rfl rfl) ?_
   refine SR.k 5 rfl (by kernel_rfl) rfl (ev_fa rfl fo30_4 rfl (r := 13) rfl) ?_
   refine SR.k 6 rfl (by kernel_rfl) rfl (ev_ld1 rfl ty28 rfl (At.d (At.lent hR_205 1 rfl rfl))) ?_
   refine SR.k 7 rfl (by kernel_rfl) rfl (ev_mv rfl rfl) ?_
   refine SR.k 8 rfl (by kernel_rfl) rfl (ev_ix rfl Try.underlying28 ty62 rfl rfl (by omega) (by omega) (fun _ _ => Fr.adr (i := j) (Fr.ext hK hx_205) (by omega) (by omega))) ?_
   refine SR.k 9 rfl (by kernel_rfl) rfl (ev_fa rfl fo62_1 rfl (r := ao kA + (j).toNat * 2 + 1) rfl) ?_
   refine SR.k 10 rfl (by kernel_rfl) rfl (ev_ld1 rfl ty3 rfl (At.elem1 (At.d (Fr.el (i := j) (Fr.ext hK hx_205) (by omega) (by omega))) 1 rfl)) ?_
   refine SR.one (j := 2) (by kernel_rfl) rfl (st_call00 rfl rfl rfl rfl hbd32 rfl .n (field_ ⟨#[116, 121, 112, 101]⟩ ⟨#[34, 115, 104, 105, 112, 109, 101, 110, 116, 34]⟩ _ _ (by decide) (by (try simp only [ByteArray.size_append]); show 10 ≤ _; omega)) (by intro v C h; obtain ⟨_, _, _, rfl, rfl⟩ := h; rfl) (fun v_q207 q207 => ⟨tt0, ?_⟩))
   obtain ⟨o206, p208, p209, rfl, -⟩ := q207
   have hz210 : o206.size ≤ 10 + 65 := by have h_ := p209; (try simp only [ByteArray.size_append] at h_); exact h_
   refine SR.k 3 rfl (by kernel_rfl) rfl (ev_sadd rfl rfl rfl (by (try simp only [ByteArray.size_append]); show (((1 : Nat) + (o206.size : Nat) : Nat) : Int) ≤ 9223372036854775807; omega)) ?_
   refine SR.k 4 rfl (by kernel_rfl) rfl (ev_sadd rfl rfl rfl (by (try simp only [ByteArray.size_append]); show ((((1 + o206.size) : Nat) + (1 : Nat) : Nat) : Int) ≤ 9223372036854775807; omega)) ?_
   refine SR.one (j := 11) (by kernel_rfl) rfl (st_call00 rfl rfl rfl rfl hbd33 rfl .n (number22 ⟨#[105, 116, 101, 109]⟩ ((gt lf j).item) _ _ (by decide) (by omega)) (by intro v C h; obtain ⟨_, _, _, rfl, rfl⟩ := h; rfl) (fun v_q212 q212 => ⟨tt0, ?_⟩))
   obtain ⟨o211, p213, p214, rfl, -⟩ := q212
   refine SR.k 12 rfl (by kernel_rfl) rfl (ev_sadd rfl rfl rfl (by (try simp only [ByteArray.size_append]); show (((((1 + o206.size) + 1) : Nat) + (o211.size : Nat) : Nat) : Int) ≤ 9223372036854775807; omega)) ?_
   refine SR.k 13 rfl (by kernel_rfl) rfl (ev_sadd rfl rfl rfl (by (try simp only [ByteArray.size_append]); show ((((((1 + o206.size) + 1) + o211.size) : Nat) + (1 : Nat) : Nat) : Int) ≤ 9223372036854775807; omega)) ?_
   refine SR.one (j := 14) (by kernel_rfl) rfl (st_lit eS (e := 9) (l := [((((((((⟨#[123]⟩ : ByteArray) ++ (o206 : ByteArray)) : ByteArray) ++ (⟨#[44]⟩ : ByteArray)) : ByteArray) ++ (o211 : ByteArray)) : ByteArray) ++ (⟨#[125]⟩ : ByteArray))]) rfl rfl rfl rfl (by kernel_rfl) rfl rfl (fun w => by kernel_rfl) (fun b215 => ⟨tt0, ?_⟩))
   refine SR.one (j := 15) (by kernel_rfl) rfl (st_app (E := eS) (m := [((((((((⟨#[123]⟩ : ByteArray) ++ (o206 : ByteArray)) : ByteArray) ++ (⟨#[44]⟩ : ByteArray)) : ByteArray) ++ (o211 : ByteArray)) : ByteArray) ++ (⟨#[125]⟩ : ByteArray))]) rfl rfl rfl rfl Try.underlying82 ai9 rfl rfl rfl (.t .h) (by first | rfl | omega | simp) (row_src 0 rfl) (by first | omega | simp only [LL] <;> omega | simp <;> omega) rfl (fun v216 => ⟨tt0, ?_⟩))
   refine SR.k 16 rfl (by kernel_rfl) rfl (ev_as rfl rfl) ?_
   refine SR.fin (by kernel_rfl) hl_205 hx_205 hR_205 (.c (.c .n)) ?_
   refine SQ.go idQ ?_
   refine .region ?_
   refine .v (ev_mv rfl rfl) rfl ?_
   refine .v (ev_add rfl rfl rfl (r := (j + 1)) rfl (by omega) (by omega)) rfl ?_
   refine .v (ev_as rfl rfl) rfl ?_
   exact SP.nil (SQ.roundb (X := Int × Value × (List ByteArray)) (x := (j, W, Y)) ⟨(j + 1), v216, (Y ++ [((((((((⟨#[123]⟩ : ByteArray) ++ (o206 : ByteArray)) : ByteArray) ++ (⟨#[44]⟩ : ByteArray)) : ByteArray) ++ (o211 : ByteArray)) : ByteArray) ++ (⟨#[125]⟩ : ByteArray))])⟩ (by exact ⟨by omega, by omega, tx_next r_2 (by omega) (by omega) (task_text (t := gt lf j) p208 (by rw [show (gt lf j).ship = true by first | assumption | exact Bool.eq_false_iff.2 (by assumption)]; exact quote_ship) p213), by rw [List.length_append]; simp; omega, all_snoc r_4 (by simp only [ByteArray.size_append]; show ((((1 + o206.size) + 1) + o211.size) + 1) ≤ _; omega)⟩) (by dsimp only; omega) (Sub.get (.c rfl (.c rfl (.c rfl (.c rfl (.c rfl (.c rfl .n))))))) (fun w hw => hw.keep (.c .h (.c (.t .h) (.c (.t .h) .n)))))
  refine .skipgo idQ ?_
  have hft := fit_i64 (fit_task hR _ (gt_mem (i := j) (by omega) (by omega)))
  refine SC.draw mo [rw_ eS 9 (W) Y] [] (.c .h .n) (fun _ _ _ c hc => by cases hc) (fun wf_217 hl_217 hx_217 hR_217 => ?_)
  refine SR.k 0 rfl (by kernel_rfl) rfl (ev_mv rfl rfl) ?_
  refine SR.k 1 rfl (by kernel_rfl) rfl (ev_mv rfl rfl) ?_
  refine SR.k 5 rfl (by kernel_rfl) rfl (ev_fa rfl fo30_4 rfl (r := 13) rfl) ?_
  refine SR.k 6 rfl (by kernel_rfl) rfl (ev_ld1 rfl ty28 rfl (At.d (At.lent hR_217 1 rfl rfl))) ?_
  refine SR.k 7 rfl (by kernel_rfl) rfl (ev_mv rfl rfl) ?_
  refine SR.k 8 rfl (by kernel_rfl) rfl (ev_ix rfl Try.underlying28 ty62 rfl rfl (by omega) (by omega) (fun _ _ => Fr.adr (i := j) (Fr.ext hK hx_217) (by omega) (by omega))) ?_
  refine SR.k 9 rfl (by kernel_rfl) rfl (ev_fa rfl fo62_1 rfl (r := ao kA + (j).toNat * 2 + 1) rfl) ?_
  refine SR.k 10 rfl (by kernel_rfl) rfl (ev_ld1 rfl ty3 rfl (At.elem1 (At.d (Fr.el (i := j) (Fr.ext hK hx_217) (by omega) (by omega))) 1 rfl)) ?_
  refine SR.one (j := 2) (by kernel_rfl) rfl (st_call00 rfl rfl rfl rfl hbd32 rfl .n (field_ ⟨#[116, 121, 112, 101]⟩ ⟨#[34, 106, 111, 98, 34]⟩ _ _ (by decide) (by (try simp only [ByteArray.size_append]); show 5 ≤ _; omega)) (by intro v C h; obtain ⟨_, _, _, rfl, rfl⟩ := h; rfl) (fun v_q219 q219 => ⟨tt0, ?_⟩))
  obtain ⟨o218, p220, p221, rfl, -⟩ := q219
  have hz222 : o218.size ≤ 5 + 65 := by have h_ := p221; (try simp only [ByteArray.size_append] at h_); exact h_
  refine SR.k 3 rfl (by kernel_rfl) rfl (ev_sadd rfl rfl rfl (by (try simp only [ByteArray.size_append]); show (((1 : Nat) + (o218.size : Nat) : Nat) : Int) ≤ 9223372036854775807; omega)) ?_
  refine SR.k 4 rfl (by kernel_rfl) rfl (ev_sadd rfl rfl rfl (by (try simp only [ByteArray.size_append]); show ((((1 + o218.size) : Nat) + (1 : Nat) : Nat) : Int) ≤ 9223372036854775807; omega)) ?_
  refine SR.one (j := 11) (by kernel_rfl) rfl (st_call00 rfl rfl rfl rfl hbd33 rfl .n (number22 ⟨#[105, 116, 101, 109]⟩ ((gt lf j).item) _ _ (by decide) (by omega)) (by intro v C h; obtain ⟨_, _, _, rfl, rfl⟩ := h; rfl) (fun v_q224 q224 => ⟨tt0, ?_⟩))
  obtain ⟨o223, p225, p226, rfl, -⟩ := q224
  refine SR.k 12 rfl (by kernel_rfl) rfl (ev_sadd rfl rfl rfl (by (try simp only [ByteArray.size_append]); show (((((1 + o218.size) + 1) : Nat) + (o223.size : Nat) : Nat) : Int) ≤ 9223372036854775807; omega)) ?_
  refine SR.k 13 rfl (by kernel_rfl) rfl (ev_sadd rfl rfl rfl (by (try simp only [ByteArray.size_append]); show ((((((1 + o218.size) + 1) + o223.size) : Nat) + (1 : Nat) : Nat) : Int) ≤ 9223372036854775807; omega)) ?_
  refine SR.one (j := 14) (by kernel_rfl) rfl (st_lit eS (e := 9) (l := [((((((((⟨#[123]⟩ : ByteArray) ++ (o218 : ByteArray)) : ByteArray) ++ (⟨#[44]⟩ : ByteArray)) : ByteArray) ++ (o223 : ByteArray)) : ByteArray) ++ (⟨#[125]⟩ : ByteArray))]) rfl rfl rfl rfl (by kernel_rfl) rfl rfl (fun w => by kernel_rfl) (fun b227 => ⟨tt0, ?_⟩))
  refine SR.one (j := 15) (by kernel_rfl) rfl (st_app (E := eS) (m := [((((((((⟨#[123]⟩ : ByteArray) ++ (o218 : ByteArray)) : ByteArray) ++ (⟨#[44]⟩ : ByteArray)) : ByteArray) ++ (o223 : ByteArray)) : ByteArray) ++ (⟨#[125]⟩ : ByteArray))]) rfl rfl rfl rfl Try.underlying82 ai9 rfl rfl rfl (.t .h) (by first | rfl | omega | simp) (row_src 0 rfl) (by first | omega | simp only [LL] <;> omega | simp <;> omega) rfl (fun v228 => ⟨tt0, ?_⟩))
  refine SR.k 16 rfl (by kernel_rfl) rfl (ev_as rfl rfl) ?_
  refine SR.fin (by kernel_rfl) hl_217 hx_217 hR_217 (.c (.c .n)) ?_
  refine SQ.go idQ ?_
  refine .region ?_
  refine .v (ev_mv rfl rfl) rfl ?_
  refine .v (ev_add rfl rfl rfl (r := (j + 1)) rfl (by omega) (by omega)) rfl ?_
  refine .v (ev_as rfl rfl) rfl ?_
  exact SP.nil (SQ.roundb (X := Int × Value × (List ByteArray)) (x := (j, W, Y)) ⟨(j + 1), v228, (Y ++ [((((((((⟨#[123]⟩ : ByteArray) ++ (o218 : ByteArray)) : ByteArray) ++ (⟨#[44]⟩ : ByteArray)) : ByteArray) ++ (o223 : ByteArray)) : ByteArray) ++ (⟨#[125]⟩ : ByteArray))])⟩ (by exact ⟨by omega, by omega, tx_next r_2 (by omega) (by omega) (task_text (t := gt lf j) p220 (by rw [show (gt lf j).ship = false by first | assumption | exact Bool.eq_false_iff.2 (by assumption)]; exact quote_job) p225), by rw [List.length_append]; simp; omega, all_snoc r_4 (by simp only [ByteArray.size_append]; show ((((1 + o218.size) + 1) + o223.size) + 1) ≤ _; omega)⟩) (by dsimp only; omega) (Sub.get (.c rfl (.c rfl (.c rfl (.c rfl (.c rfl (.c rfl .n))))))) (fun w hw => hw.keep (.c .h (.c (.t .h) (.c (.t .h) .n)))))
 refine .exit idQ ?_
 refine .seq ?_
 refine .know (row_len 0 rfl) (fun hv231 => ?_)
 obtain ⟨A229, c230, rfl, hv231_1, hv231_2⟩ := hv231
 unfold maxLen at hv231_2
 have hY := tx_end r_2 (by omega)
 refine .region ?_
 refine .cons (st_call00 rfl rfl rfl rfl hbd32 rfl .n (field_ ⟨#[115, 116, 97, 116, 117, 115]⟩ ⟨#[34, 111, 107, 34]⟩ _ _ (by decide) (by (try simp only [ByteArray.size_append]); show 4 ≤ _; omega)) (by intro v C h; obtain ⟨_, _, _, rfl, rfl⟩ := h; rfl) (fun v_q233 q233 => ?_))
 obtain ⟨o232, p234, p235, rfl, -⟩ := q233
 have hz236 : o232.size ≤ 4 + 65 := by have h_ := p235; (try simp only [ByteArray.size_append] at h_); exact h_
 refine .v (ev_mv rfl rfl) rfl ?_
 refine .cons (st_call00 rfl rfl rfl rfl hbd32 rfl .n (field_ ⟨#[111, 112, 116, 105, 109, 97, 108]⟩ ⟨#[102, 97, 108, 115, 101]⟩ _ _ (by decide) (by (try simp only [ByteArray.size_append]); show 5 ≤ _; omega)) (by intro v C h; obtain ⟨_, _, _, rfl, rfl⟩ := h; rfl) (fun v_q238 q238 => ?_))
 obtain ⟨o237, p239, p240, rfl, -⟩ := q238
 have hz241 : o237.size ≤ 5 + 65 := by have h_ := p240; (try simp only [ByteArray.size_append] at h_); exact h_
 refine .v (ev_mv rfl rfl) rfl ?_
 refine .cons (st_call00 rfl rfl rfl rfl hbd32 rfl .n (field_ ⟨#[115, 117, 109, 109, 97, 114, 121]⟩ ((((⟨#[123]⟩ : ByteArray) ++ (o188 : ByteArray)) : ByteArray) ++ (⟨#[125]⟩ : ByteArray)) _ _ (by decide) (by (try simp only [ByteArray.size_append]); show ((1 + o188.size) + 1) ≤ _; omega)) (by intro v C h; obtain ⟨_, _, _, rfl, rfl⟩ := h; rfl) (fun v_q243 q243 => ?_))
 obtain ⟨o242, p244, p245, rfl, -⟩ := q243
 have hz246 : o242.size ≤ ((1 + o188.size) + 1) + 65 := by have h_ := p245; (try simp only [ByteArray.size_append] at h_); exact h_
 refine .v (ev_mv rfl rfl) rfl ?_
 refine .cons (st_lend0 rfl rfl rfl rfl hbd31 rfl .n (.c (.t .h) .n) (fun w_ hw => all_s A200 X.length c201 X _ _ (Fr.lend hw 0 rfl (by first | omega | simp only [LL] <;> omega | simp <;> omega)) (by first | omega | simp only [LL] <;> omega | simp <;> omega) (Nat.le_trans (m := 12000008) (join_m (B := 1500000) (n := 8) hXb hXl (by decide)) (by decide))) (fun v_q248 C_q248 q248 => ?_))
 obtain ⟨o247, p249, p250, rfl, rfl⟩ := q248
 show SP _ _ _ _ _ _ ⟨_, _ :: _, _, _⟩
 have hz251 : o247.size ≤ 12000008 := by rw [p250]; exact (join_m (B := 1500000) (n := 8) hXb hXl (by decide))
 refine .v (ev_sadd rfl rfl rfl (by (try simp only [ByteArray.size_append]); show (((1 : Nat) + (o247.size : Nat) : Nat) : Int) ≤ 9223372036854775807; omega)) rfl ?_
 refine .v (ev_sadd rfl rfl rfl (by (try simp only [ByteArray.size_append]); show ((((1 + o247.size) : Nat) + (1 : Nat) : Nat) : Int) ≤ 9223372036854775807; omega)) rfl ?_
 refine .cons (st_call00 rfl rfl rfl rfl hbd32 rfl .n (field_ ⟨#[114, 111, 117, 116, 101, 115]⟩ ((((⟨#[91]⟩ : ByteArray) ++ (o247 : ByteArray)) : ByteArray) ++ (⟨#[93]⟩ : ByteArray)) _ _ (by decide) (by (try simp only [ByteArray.size_append]); show ((1 + o247.size) + 1) ≤ _; omega)) (by intro v C h; obtain ⟨_, _, _, rfl, rfl⟩ := h; rfl) (fun v_q253 q253 => ?_))
 obtain ⟨o252, p254, p255, rfl, -⟩ := q253
 have hz256 : o252.size ≤ ((1 + o247.size) + 1) + 65 := by have h_ := p255; (try simp only [ByteArray.size_append] at h_); exact h_
 refine .v (ev_mv rfl rfl) rfl ?_
 refine .cons (st_lend0 rfl rfl rfl rfl hbd31 rfl .n (.c (.t .h) .n) (fun w_ hw => all_s A229 Y.length c230 Y _ _ (Fr.lend hw 0 rfl (by first | omega | simp only [LL] <;> omega | simp <;> omega)) (by first | omega | simp only [LL] <;> omega | simp <;> omega) (Nat.le_trans (m := 15050) (join_m (B := 300) (n := 50) r_4 (by omega) (by decide)) (by decide))) (fun v_q258 C_q258 q258 => ?_))
 obtain ⟨o257, p259, p260, rfl, rfl⟩ := q258
 show SP _ _ _ _ _ _ ⟨_, _ :: _, _, _⟩
 have hz261 : o257.size ≤ 15050 := by rw [p260]; exact (join_m (B := 300) (n := 50) r_4 (by omega) (by decide))
 refine .v (ev_sadd rfl rfl rfl (by (try simp only [ByteArray.size_append]); show (((1 : Nat) + (o257.size : Nat) : Nat) : Int) ≤ 9223372036854775807; omega)) rfl ?_
 refine .v (ev_sadd rfl rfl rfl (by (try simp only [ByteArray.size_append]); show ((((1 + o257.size) : Nat) + (1 : Nat) : Nat) : Int) ≤ 9223372036854775807; omega)) rfl ?_
 refine .cons (st_call00 rfl rfl rfl rfl hbd32 rfl .n (field_ ⟨#[117, 110, 97, 115, 115, 105, 103, 110, 101, 100]⟩ ((((⟨#[91]⟩ : ByteArray) ++ (o257 : ByteArray)) : ByteArray) ++ (⟨#[93]⟩ : ByteArray)) _ _ (by decide) (by (try simp only [ByteArray.size_append]); show ((1 + o257.size) + 1) ≤ _; omega)) (by intro v C h; obtain ⟨_, _, _, rfl, rfl⟩ := h; rfl) (fun v_q263 q263 => ?_))
 obtain ⟨o262, p264, p265, rfl, -⟩ := q263
 have hz266 : o262.size ≤ ((1 + o257.size) + 1) + 65 := by have h_ := p265; (try simp only [ByteArray.size_append] at h_); exact h_
 refine .cons (st_lit eS (e := 9) (l := [o232, o237, o242, o252, o262]) rfl rfl rfl rfl (by kernel_rfl) rfl rfl (fun w => by kernel_rfl) (fun b267 => ?_))
 refine .cons (st_lend0 rfl rfl rfl rfl hbd31 rfl .n (.c .h .n) (fun w_ hw => all_s (some ⟨b267, 0, none⟩) 5 5 [o232, o237, o242, o252, o262] _ _ (Fr.lend hw 0 rfl (by first | omega | simp only [LL] <;> omega | simp <;> omega)) (by first | omega | simp only [LL] <;> omega | simp <;> omega) (Nat.le_trans (m := 65000005) (join_m (B := 13000000) (n := 5) (by simp only [List.forall_mem_cons, List.not_mem_nil, false_implies, implies_true, and_true]; omega) (Nat.le_refl _) (by decide)) (by decide))) (fun v_q269 C_q269 q269 => ?_))
 obtain ⟨o268, p270, p271, rfl, rfl⟩ := q269
 show SP _ _ _ _ _ _ ⟨_, _ :: _, _, _⟩
 have hz272 : o268.size ≤ 65000005 := by rw [p271]; exact (join_m (B := 13000000) (n := 5) (by simp only [List.forall_mem_cons, List.not_mem_nil, false_implies, implies_true, and_true]; omega) (Nat.le_refl _) (by decide))
 refine .v (ev_sadd rfl rfl rfl (by (try simp only [ByteArray.size_append]); show (((1 : Nat) + (o268.size : Nat) : Nat) : Int) ≤ 9223372036854775807; omega)) rfl ?_
 refine .v (ev_sadd rfl rfl rfl (by (try simp only [ByteArray.size_append]); show ((((1 + o268.size) : Nat) + (1 : Nat) : Nat) : Int) ≤ 9223372036854775807; omega)) rfl ?_
 refine .v (ev_as rfl rfl) rfl ?_
 refine .go idQ ?_
 exact .ret idQ (ret1 Try.results13 rfl .n ⟨((((⟨#[123]⟩ : ByteArray) ++ (o268 : ByteArray)) : ByteArray) ++ (⟨#[125]⟩ : ByteArray)), (by have hb_ : bs ⟨#[102, 97, 108, 115, 101]⟩ = txt (.boo op) := (by rw [txt_boo]; first | (rw [if_pos (by assumption)]; rfl) | (rw [if_neg (by assumption)]; rfl) | (rw [if_neg (Bool.eq_false_iff.1 (by assumption))]; rfl)); have hp_ := lst_text (ns := []) (js := ps.map planJ) p249 (by rw [hX, List.map_map]; rfl); have hk_ := lst_text (ns := []) (js := lf.map taskJ) p259 (by rw [hY, List.map_map]; rfl); unfold replyJ; rw [if_neg (by omega)]; unfold okJ; exact obj_text p270 (by simp only [wholeNs, List.map_cons, List.map_nil, List.zip_cons_cons, List.zip_nil_right, txt_str, quote_ok, hb_, hsum_, hp_, hk_, p157, p161, p165, p169, p173, p177, p181, p185, p190, p234, p239, p244, p249, p254, p259, p264, p270]) rfl), (by simp only [ByteArray.size_append]; show ((1 + o268.size) + 1) ≤ _; omega), rfl, rfl⟩)
end Go.Proofs.Ythmkelkefmfmgaa.Sx
set_option maxRecDepth 20000
set_option maxHeartbeats 4000000
namespace Go.Proofs.Ythmkelkefmfmgaa.Sx.FQE
open Go Go.SX Go.Proofs
theorem fo30_0 : fo Try.prog 30 0 = some 0 := by kernel_rfl
theorem fo24_0 : fo Try.prog 24 0 = some 0 := by kernel_rfl
theorem ty22 : ty Try.prog 22 = some (false, 1) := by kernel_rfl
theorem fo24_2 : fo Try.prog 24 2 = some 2 := by kernel_rfl
theorem ty9 : ty Try.prog 9 = some (false, 1) := by kernel_rfl
theorem hbd19 : hasBody Try.prog 19 = true := by kernel_rfl
theorem fo24_1 : fo Try.prog 24 1 = some 1 := by kernel_rfl
theorem ty3 : ty Try.prog 3 = some (false, 1) := by kernel_rfl
theorem hbd20 : hasBody Try.prog 20 = true := by kernel_rfl
theorem fo30_2 : fo Try.prog 30 2 = some 4 := by kernel_rfl
theorem ty26 : ty Try.prog 26 = some (true, 8) := by kernel_rfl
theorem zf26 : (Try.prog.info? 26).bind (fun i => i.zero.map Value.cells) = some (List.toArray [.int .i64 0, .int .i64 0, .int .i64 0, .int .i64 0, .int .i64 0, .int .i64 0, .int .i64 0, .int .i64 0]) := by kernel_rfl
theorem fo26_0 : fo Try.prog 26 0 = some 0 := by kernel_rfl
theorem fo26_1 : fo Try.prog 26 1 = some 1 := by kernel_rfl
theorem fo26_2 : fo Try.prog 26 2 = some 2 := by kernel_rfl
theorem fo26_3 : fo Try.prog 26 3 = some 3 := by kernel_rfl
theorem fo26_4 : fo Try.prog 26 4 = some 4 := by kernel_rfl
theorem fo26_5 : fo Try.prog 26 5 = some 5 := by kernel_rfl
theorem fo26_6 : fo Try.prog 26 6 = some 6 := by kernel_rfl
theorem fo26_7 : fo Try.prog 26 7 = some 7 := by kernel_rfl
theorem fo30_3 : fo Try.prog 30 3 = some 12 := by kernel_rfl
theorem ty27 : ty Try.prog 27 = some (false, 1) := by kernel_rfl
theorem ty52 : ty Try.prog 52 = some (true, 7) := by kernel_rfl
theorem zf52 : (Try.prog.info? 52).bind (fun i => i.zero.map Value.cells) = some (List.toArray [.int .i64 0, .slice none 0 0, .int .i64 0, .int .i64 0, .int .i64 0, .int .i64 0, .int .i64 0]) := by kernel_rfl
theorem fo52_0 : fo Try.prog 52 0 = some 0 := by kernel_rfl
theorem fo52_6 : fo Try.prog 52 6 = some 6 := by kernel_rfl
theorem fo52_2 : fo Try.prog 52 2 = some 2 := by kernel_rfl
theorem fo52_3 : fo Try.prog 52 3 = some 3 := by kernel_rfl
theorem fo52_4 : fo Try.prog 52 4 = some 4 := by kernel_rfl
theorem fo52_5 : fo Try.prog 52 5 = some 5 := by kernel_rfl
theorem ai3 : (Try.prog.info? 3).map (fun i => (i.zero, i.size, i.bytes)) = some (some (.int .i64 0), 1, 8) := by kernel_rfl
theorem fo52_1 : fo Try.prog 52 1 = some 1 := by kernel_rfl
theorem ty50 : ty Try.prog 50 = some (false, 1) := by kernel_rfl
theorem ty58 : ty Try.prog 58 = some (true, 9) := by kernel_rfl
theorem zf58 : (Try.prog.info? 58).bind (fun i => i.zero.map Value.cells) = some (List.toArray [.int .i64 0, .int .i64 0, .int .i64 0, .int .i64 0, .int .i64 0, .int .i64 0, .slice none 0 0, .int .i64 0, .int .i64 0]) := by kernel_rfl
theorem fo58_0 : fo Try.prog 58 0 = some 0 := by kernel_rfl
theorem fo55_1 : fo Try.prog 55 1 = some 1 := by kernel_rfl
theorem fo58_1 : fo Try.prog 58 1 = some 2 := by kernel_rfl
theorem fo58_2 : fo Try.prog 58 2 = some 3 := by kernel_rfl
theorem fo58_3 : fo Try.prog 58 3 = some 4 := by kernel_rfl
theorem fo58_4 : fo Try.prog 58 4 = some 5 := by kernel_rfl
theorem fo58_6 : fo Try.prog 58 6 = some 7 := by kernel_rfl
theorem fo58_7 : fo Try.prog 58 7 = some 8 := by kernel_rfl
theorem fo58_5 : fo Try.prog 58 5 = some 6 := by kernel_rfl
theorem ty56 : ty Try.prog 56 = some (false, 1) := by kernel_rfl
theorem mo : Try.prog.follows .mixedOrders = true := by kernel_rfl
theorem fo30_4 : fo Try.prog 30 4 = some 13 := by kernel_rfl
theorem ty28 : ty Try.prog 28 = some (false, 1) := by kernel_rfl
theorem ty62 : ty Try.prog 62 = some (true, 2) := by kernel_rfl
theorem zf62 : (Try.prog.info? 62).bind (fun i => i.zero.map Value.cells) = some (List.toArray [.bool false, .int .i64 0]) := by kernel_rfl
theorem fo62_1 : fo Try.prog 62 1 = some 1 := by kernel_rfl
end Go.Proofs.Ythmkelkefmfmgaa.Sx.FQE
namespace Go.Proofs.Ythmkelkefmfmgaa.Sx
open Go Go.SX Go.Proofs FQE
theorem fits_g (cd : Int) (at_ : Int) (path : ByteArray) (op : Bool) (x0 : Int) (x1 : Int) (x2 : Int) (x3 : Int) (x4 : Int) (x5 : Int) (x6 : Int) (x7 : Int) (pA : Option Addr) (pc : Nat) (ps : List PV) (kA : Option Addr) (kc : Nat) (lf : List TK) (S : Nat → Prop) (wf : World) (hP : Fr ePL S wf pA ps) (hK : Fr eTK S wf kA lf) (hN : NP S wf ps) (hps : ps.length ≤ 8) (hlf : lf.length ≤ 50) (hpa : path.size ≤ 2000) (hst : ∀ p ∈ ps, p.steps.length ≤ 60 ∧ ∀ s ∈ p.steps, s.load.length ≤ 10) :
  TR0 Try.prog 10 [.agg #[.int .i64 cd, .int .i64 at_, .string path, .bool op, .int .i64 x0, .int .i64 x1, .int .i64 x2, .int .i64 x3, .int .i64 x4, .int .i64 x5, .int .i64 x6, .int .i64 x7, .slice pA ps.length pc, .slice kA lf.length kc]] [] S wf (fun v_ C_ => ∃ (r : Bool), (r = true → fitR cd at_ path ⟨x0, x1, x2, x3, x4, x5, x6, x7⟩ ps lf) ∧ v_ = .bool r ∧ C_ = []) := by
 have hla := hP.len
 have hlk := hK.len
 refine TR.mk Try.func10 rfl Try.ntmps10 rfl rfl (fun w_ => ?_)
 refine .seq (.region ?_)
 refine .cons (st_boxa rfl rfl rfl rfl rfl (fun b1 => ?_))
 refine .v (ev_as rfl rfl) rfl ?_
 refine .go idQ (.seq (.seq (.region ?_)))
 refine .v (ev_fa rfl fo30_0 rfl (r := 0) rfl) rfl ?_
 refine .v (ev_fa rfl fo24_0 rfl (r := 0) rfl) rfl ?_
 refine .v (ev_ld1 rfl ty22 rfl (At.own1 0 rfl rfl)) rfl ?_
 refine .v (ev_cmp rfl rfl rfl rfl) rfl ?_
 refine .go idQ ?_
 refine .condI rfl bNE (fun h2 => ?_) (fun h2 => ?_)
 ·
  refine .seq (.region ?_)
  refine .v (ev_fa rfl fo30_0 rfl (r := 0) rfl) rfl ?_
  refine .v (ev_fa rfl fo24_2 rfl (r := 2) rfl) rfl ?_
  refine .v (ev_ld1 rfl ty9 rfl (At.own1 0 rfl rfl)) rfl ?_
  refine .cons (st_callk rfl rfl rfl rfl hbd19 rfl .n (utf path _ _ (by omega)) ?_)
  refine .v (ev_mv rfl rfl) rfl ?_
  refine .w (fun _ => ev_fa rfl fo30_0 rfl (r := 0) rfl) rfl ?_
  refine .w (fun hb => ev_fa rfl fo24_0 (lkg rfl hb) (r := 0) rfl) rfl ?_
  refine .w (fun hb => ev_ld1 rfl ty22 (lkg rfl hb) (At.own1 0 rfl rfl)) rfl ?_
  refine .w (fun _ => ev_fa rfl fo30_0 rfl (r := 0) rfl) rfl ?_
  refine .w (fun hb => ev_fa rfl fo24_1 (lkg rfl hb) (r := 1) rfl) rfl ?_
  refine .w (fun hb => ev_ld1 rfl ty3 (lkg rfl hb) (At.own1 0 rfl rfl)) rfl ?_
  rcases Bool.eq_false_or_eq_true (utfF (bs path)) with hb3 | hb3
  ·
   refine SP.reslot (t := 19) rfl hb3 ?_
   refine SP.reslotv (t := 22) rfl (gv_on hb3) ?_
   refine SP.reslotv (t := 25) rfl (gv_on hb3) ?_
   refine .cons (.on rfl rfl rfl (st_lit eZ (e := 3) (l := [cd, at_]) rfl rfl rfl rfl (by kernel_rfl) rfl rfl (fun w => by kernel_rfl) (fun b4 => ?_)))
   refine .cons (.on rfl rfl rfl (st_lend0 rfl rfl rfl rfl hbd20 rfl .n (.c .h .n) (fun w_ hw => all_ (some ⟨b4, 0, none⟩) 2 2 [cd, at_] _ _ (Fr.lend hw 0 rfl (by first | omega | simp only [LL] <;> omega | simp <;> omega)) (by first | omega | simp only [LL] <;> omega | simp <;> omega)) (fun v_q6 C_q6 q6 => ?_)))
   obtain ⟨r5, p7, rfl, rfl⟩ := q6
   show SP _ _ _ _ _ _ ⟨_, _ :: _, _, _⟩
   refine .v (ev_pickt rfl rfl rfl rfl) rfl ?_
   refine .v (ev_as rfl rfl) rfl ?_
   refine .go idQ ?_
   exact .ret idQ (ret1 Try.results10 rfl .n ⟨r5, (fun h_ => ⟨fun _ => ((by rw [p7]; simp_all : r5 = true ↔ (utfF (bs path) = true ∧ fitP cd ∧ fitP at_)).1 h_), fun e_ => absurd e_ (by first | assumption | omega)⟩), rfl, rfl⟩)
  refine SP.reslot (t := 19) rfl hb3 ?_
  refine .cons (.off rfl rfl rfl rfl rfl rfl ?_)
  refine .cons (.off rfl rfl rfl rfl rfl rfl ?_)
  refine .v (ev_pickf rfl rfl rfl rfl) rfl ?_
  refine .v (ev_as rfl rfl) rfl ?_
  refine .go idQ ?_
  exact .ret idQ (ret1 Try.results10 rfl .n ⟨false, (fun h_ => ⟨fun _ => ((by simp_all : false = true ↔ (utfF (bs path) = true ∧ fitP cd ∧ fitP at_)).1 h_), fun e_ => absurd e_ (by first | assumption | omega)⟩), rfl, rfl⟩)
 refine .skipgo idQ (.seq (.region ?_))
 refine .v (ev_fa rfl fo30_2 rfl (r := 4) rfl) rfl ?_
 refine .v (ev_lda (cs := [.int .i64 x0, .int .i64 x1, .int .i64 x2, .int .i64 x3, .int .i64 x4, .int .i64 x5, .int .i64 x6, .int .i64 x7]) rfl rfl (At.own 0 rfl rfl) ty26) rfl ?_
 refine .cons (st_alloc rfl rfl rfl rfl zf26 (fun b8 => ?_))
 refine .cons (st_storea (l' := [.int .i64 x0, .int .i64 x1, .int .i64 x2, .int .i64 x3, .int .i64 x4, .int .i64 x5, .int .i64 x6, .int .i64 x7]) rfl rfl rfl ty26 rfl rfl rfl .h rfl rfl ?_)
 refine .go idQ (.seq (.region ?_))
 refine .v (ev_fa rfl fo26_0 rfl (r := 0) rfl) rfl ?_
 refine .v (ev_ld1 rfl ty3 rfl (At.own1 0 rfl rfl)) rfl ?_
 refine .v (ev_fa rfl fo26_1 rfl (r := 1) rfl) rfl ?_
 refine .v (ev_ld1 rfl ty3 rfl (At.own1 0 rfl rfl)) rfl ?_
 refine .v (ev_fa rfl fo26_2 rfl (r := 2) rfl) rfl ?_
 refine .v (ev_ld1 rfl ty3 rfl (At.own1 0 rfl rfl)) rfl ?_
 refine .v (ev_fa rfl fo26_3 rfl (r := 3) rfl) rfl ?_
 refine .v (ev_ld1 rfl ty3 rfl (At.own1 0 rfl rfl)) rfl ?_
 refine .v (ev_fa rfl fo26_4 rfl (r := 4) rfl) rfl ?_
 refine .v (ev_ld1 rfl ty3 rfl (At.own1 0 rfl rfl)) rfl ?_
 refine .v (ev_fa rfl fo26_5 rfl (r := 5) rfl) rfl ?_
 refine .v (ev_ld1 rfl ty3 rfl (At.own1 0 rfl rfl)) rfl ?_
 refine .v (ev_fa rfl fo26_6 rfl (r := 6) rfl) rfl ?_
 refine .v (ev_ld1 rfl ty3 rfl (At.own1 0 rfl rfl)) rfl ?_
 refine .v (ev_fa rfl fo26_7 rfl (r := 7) rfl) rfl ?_
 refine .v (ev_ld1 rfl ty3 rfl (At.own1 0 rfl rfl)) rfl ?_
 refine .cons (st_lit eZ (e := 3) (l := [x0, x1, x2, x3, x4, x5, x6, x7]) rfl rfl rfl rfl (by kernel_rfl) rfl rfl (fun w => by kernel_rfl) (fun b9 => ?_))
 refine .v (ev_as rfl rfl) rfl ?_
 refine .go idQ (.seq (.seq (.region ?_)))
 refine .v (ev_fa rfl fo30_3 rfl (r := 12) rfl) rfl ?_
 refine .v (ev_ld1 rfl ty27 rfl (At.own1 2 rfl rfl)) rfl ?_
 refine .v (ev_len rfl Try.underlying27 rfl) rfl ?_
 refine .v (ev_mv rfl rfl) rfl ?_
 refine .go idQ (.block ?_)
 refine .loop (X := Int × Value × (List Int)) (fun ⟨i, U, X⟩ => 0 ≤ i ∧ i ≤ ps.length ∧ X = sumsZ ⟨x0, x1, x2, x3, x4, x5, x6, x7⟩ ++ (ps.take i.toNat).flatMap planZ ∧ (X.length : Int) ≤ 8 + 1100 * i) (fun ⟨i, U, X⟩ => [(1, .pointer (some ⟨b1, 0, none⟩)), (4, U), (49, .slice pA ps.length pc), (50, .int .i64 (ps.length : Int)), (51, .int .i64 i)]) (fun ⟨i, U, X⟩ => [rw_ eZ 3 (U) X, cel b1 [.int .i64 cd, .int .i64 at_, .string path, .bool op, .int .i64 x0, .int .i64 x1, .int .i64 x2, .int .i64 x3, .int .i64 x4, .int .i64 x5, .int .i64 x6, .int .i64 x7, .slice pA ps.length pc, .slice kA lf.length kc] 30]) (fun _ => S) (fun _ => wf) (fun ⟨i, U, X⟩ => (ps.length - i.toNat)) (fun a_ w_ hs_ hw_ => ⟨⟨0, .slice (some ⟨b9, 0, none⟩) 8 8, [x0, x1, x2, x3, x4, x5, x6, x7]⟩, (by exact ⟨by omega, by omega, by simp [sumsZ], by show ((8 : Nat) : Int) ≤ _; omega⟩), hs_.mono (Sub.get (.c rfl (.c rfl (.c rfl (.c rfl (.c rfl .n)))))), hw_.keep (.c .h (.c (.t .h) .n))⟩) (fun ⟨i, U, X⟩ ⟨q_0, q_1, q_2, q_3⟩ => ?_)
 show SC _ _ _ _ _ ⟨[(1, .pointer (some ⟨b1, 0, none⟩)), (4, U), (49, .slice pA ps.length pc), (50, .int .i64 (ps.length : Int)), (51, .int .i64 i)], [rw_ eZ 3 (U) X, cel b1 [.int .i64 cd, .int .i64 at_, .string path, .bool op, .int .i64 x0, .int .i64 x1, .int .i64 x2, .int .i64 x3, .int .i64 x4, .int .i64 x5, .int .i64 x6, .int .i64 x7, .slice pA ps.length pc, .slice kA lf.length kc] 30], S, wf⟩
 refine .seq (.region ?_)
 refine .v (ev_cmp rfl rfl rfl rfl) rfl ?_
 refine .go idQ (.seq ?_)
 refine .condI rfl bD (fun h10 => ?_) (fun h10 => ?_)
 ·
  refine .skipgo idQ (.seq (.block (.seq ?_)))
  have hsp := hst _ (gt_mem (l := ps) (i := i) (by omega) (by omega))
  refine .region ?_
  refine .v (ev_ix rfl Try.underlying27 ty52 rfl rfl (by omega) (by omega) (fun _ _ => Fr.adr (i := i) hP (by omega) (by omega))) rfl ?_
  refine .v (ev_lda rfl rfl (At.w (Fr.el (i := i) hP (by omega) (by omega))) ty52) rfl ?_
  refine .cons (st_alloc rfl rfl rfl rfl zf52 (fun b11 => ?_))
  refine .cons (st_storea (l' := [.int .i64 ((gt ps i).veh), .slice ((gt ps i).sA) ((gt ps i).steps.length) ((gt ps i).sc), .int .i64 ((gt ps i).time), .int .i64 ((gt ps i).dist), .int .i64 ((gt ps i).wait), .int .i64 ((gt ps i).serv), .int .i64 ((gt ps i).cost)]) rfl rfl rfl ty52 rfl rfl rfl .h rfl rfl ?_)
  refine .go idQ (.seq (.region ?_))
  refine .v (ev_mv rfl rfl) rfl ?_
  refine .v (ev_fa rfl fo52_0 rfl (r := 0) rfl) rfl ?_
  refine .v (ev_ld1 rfl ty3 rfl (At.own1 0 rfl rfl)) rfl ?_
  refine .v (ev_fa rfl fo52_6 rfl (r := 6) rfl) rfl ?_
  refine .v (ev_ld1 rfl ty3 rfl (At.own1 0 rfl rfl)) rfl ?_
  refine .v (ev_fa rfl fo52_2 rfl (r := 2) rfl) rfl ?_
  refine .v (ev_ld1 rfl ty3 rfl (At.own1 0 rfl rfl)) rfl ?_
  refine .v (ev_fa rfl fo52_3 rfl (r := 3) rfl) rfl ?_
  refine .v (ev_ld1 rfl ty3 rfl (At.own1 0 rfl rfl)) rfl ?_
  refine .v (ev_fa rfl fo52_4 rfl (r := 4) rfl) rfl ?_
  refine .v (ev_ld1 rfl ty3 rfl (At.own1 0 rfl rfl)) rfl ?_
  refine .v (ev_fa rfl fo52_5 rfl (r := 5) rfl) rfl ?_
  refine .v (ev_ld1 rfl ty3 rfl (At.own1 0 rfl rfl)) rfl ?_
  refine .cons (st_lit eZ (e := 3) (l := [(gt ps i).veh, (gt ps i).cost, (gt ps i).time, (gt ps i).dist, (gt ps i).wait, (gt ps i).serv]) rfl rfl rfl rfl (by kernel_rfl) rfl rfl (fun w => by kernel_rfl) (fun b12 => ?_))
  refine .cons (st_app (E := eZ) (m := [(gt ps i).veh, (gt ps i).cost, (gt ps i).time, (gt ps i).dist, (gt ps i).wait, (gt ps i).serv]) rfl rfl rfl rfl Try.underlying56 ai3 rfl rfl rfl (.t (.t .h)) (by first | rfl | omega | simp) (row_src 0 rfl) (by first | omega | simp only [LL] <;> omega | simp <;> omega) rfl (fun v13 => ?_))
  refine .v (ev_as rfl rfl) rfl ?_
  refine .go idQ (.seq (.region ?_))
  refine .v (ev_fa rfl fo52_1 rfl (r := 1) rfl) rfl ?_
  refine .v (ev_ld1 rfl ty50 rfl (At.own1 2 rfl rfl)) rfl ?_
  refine .v (ev_len rfl Try.underlying50 rfl) rfl ?_
  refine .v (ev_mv rfl rfl) rfl ?_
  refine .go idQ (.block ?_)
  refine .loop (X := Int × Value × (List Int)) (fun ⟨j, W, Y⟩ => 0 ≤ j ∧ j ≤ (gt ps i).steps.length ∧ Y = X ++ headZ (gt ps i) ++ ((gt ps i).steps.take j.toNat).flatMap stepZ ∧ (Y.length : Int) ≤ X.length + 6 + 17 * j) (fun ⟨j, W, Y⟩ => [(1, .pointer (some ⟨b1, 0, none⟩)), (4, W), (49, .slice pA ps.length pc), (50, .int .i64 (ps.length : Int)), (51, .int .i64 i), (71, .slice ((gt ps i).sA) ((gt ps i).steps.length) ((gt ps i).sc)), (72, .int .i64 (((gt ps i).steps.length : Nat) : Int)), (73, .int .i64 j)]) (fun ⟨j, W, Y⟩ => [rw_ eZ 3 (W) Y, cel b1 [.int .i64 cd, .int .i64 at_, .string path, .bool op, .int .i64 x0, .int .i64 x1, .int .i64 x2, .int .i64 x3, .int .i64 x4, .int .i64 x5, .int .i64 x6, .int .i64 x7, .slice pA ps.length pc, .slice kA lf.length kc] 30]) (fun _ => S) (fun _ => wf) (fun ⟨j, W, Y⟩ => ((gt ps i).steps.length - j.toNat)) (fun a_ w_ hs_ hw_ => ⟨⟨0, v13, (X ++ [(gt ps i).veh, (gt ps i).cost, (gt ps i).time, (gt ps i).dist, (gt ps i).wait, (gt ps i).serv])⟩, (by exact ⟨by omega, by omega, by simp [headZ], by rw [List.length_append]; simp⟩), hs_.mono (Sub.get (.c rfl (.c rfl (.c rfl (.c rfl (.c rfl (.c rfl (.c rfl (.c rfl .n))))))))), hw_.keep (.c .h (.c (.t (.t .h)) .n))⟩) (fun ⟨j, W, Y⟩ ⟨p_0, p_1, p_2, p_3⟩ => ?_)
  show SC _ _ _ _ _ ⟨[(1, .pointer (some ⟨b1, 0, none⟩)), (4, W), (49, .slice pA ps.length pc), (50, .int .i64 (ps.length : Int)), (51, .int .i64 i), (71, .slice ((gt ps i).sA) ((gt ps i).steps.length) ((gt ps i).sc)), (72, .int .i64 (((gt ps i).steps.length : Nat) : Int)), (73, .int .i64 j)], [rw_ eZ 3 (W) Y, cel b1 [.int .i64 cd, .int .i64 at_, .string path, .bool op, .int .i64 x0, .int .i64 x1, .int .i64 x2, .int .i64 x3, .int .i64 x4, .int .i64 x5, .int .i64 x6, .int .i64 x7, .slice pA ps.length pc, .slice kA lf.length kc] 30], S, wf⟩
  refine .seq (.region ?_)
  refine .v (ev_cmp rfl rfl rfl rfl) rfl ?_
  refine .go idQ (.seq ?_)
  refine .condI rfl bD (fun h14 => ?_) (fun h14 => ?_)
  ·
   refine .skipgo idQ (.seq (.block (.seq ?_)))
   have hNs := (hN _ (gt_mem (l := ps) (i := i) (by omega) (by omega))).2
   have hsl := hsp.2 _ (gt_mem (l := (gt ps i).steps) (i := j) (by omega) (by omega))
   refine .region ?_
   refine .v (ev_ix rfl Try.underlying50 ty58 rfl rfl (by omega) (by omega) (fun _ _ => Fr.adr (i := j) (hN _ (gt_mem (i := i) (by omega) (by omega))).1 (by omega) (by omega))) rfl ?_
   refine .v (ev_lda rfl rfl (At.w (Fr.el (i := j) (hN _ (gt_mem (i := i) (by omega) (by omega))).1 (by omega) (by omega))) ty58) rfl ?_
   refine .cons (st_alloc rfl rfl rfl rfl zf58 (fun b15 => ?_))
   refine .cons (st_storea (l' := [.int .i64 ((gt ((gt ps i).steps) j).kind), .int .i64 ((gt ((gt ps i).steps) j).item), .int .i64 ((gt ((gt ps i).steps) j).place), .int .i64 ((gt ((gt ps i).steps) j).arr), .int .i64 ((gt ((gt ps i).steps) j).wait), .int .i64 ((gt ((gt ps i).steps) j).serv), .slice ((gt ((gt ps i).steps) j).lA) ((gt ((gt ps i).steps) j).load.length) ((gt ((gt ps i).steps) j).lc), .int .i64 ((gt ((gt ps i).steps) j).time), .int .i64 ((gt ((gt ps i).steps) j).dist)]) rfl rfl rfl ty58 rfl rfl rfl .h rfl rfl ?_)
   refine .go idQ ?_
   refine SC.draw mo [rw_ eZ 3 (W) Y] [] (.c (.t .h) .n) (fun _ _ _ c hc => by cases hc) (fun wf_16 hl_16 hx_16 hR_16 => ?_)
   refine SR.k 0 rfl (by kernel_rfl) rfl (ev_mv rfl rfl) ?_
   refine SR.k 1 rfl (by kernel_rfl) rfl (ev_fa rfl fo58_0 rfl (r := 0) rfl) ?_
   refine SR.k 2 rfl (by kernel_rfl) rfl (ev_fa rfl fo55_1 rfl (r := 1) rfl) ?_
   refine SR.k 3 rfl (by kernel_rfl) rfl (ev_ld1 rfl ty3 rfl (At.d (At.lent hR_16 0 rfl rfl))) ?_
   refine SR.k 4 rfl (by kernel_rfl) rfl (ev_fa rfl fo58_1 rfl (r := 2) rfl) ?_
   refine SR.k 5 rfl (by kernel_rfl) rfl (ev_ld1 rfl ty3 rfl (At.d (At.lent hR_16 0 rfl rfl))) ?_
   refine SR.k 6 rfl (by kernel_rfl) rfl (ev_fa rfl fo58_2 rfl (r := 3) rfl) ?_
   refine SR.k 7 rfl (by kernel_rfl) rfl (ev_ld1 rfl ty3 rfl (At.d (At.lent hR_16 0 rfl rfl))) ?_
   refine SR.k 8 rfl (by kernel_rfl) rfl (ev_fa rfl fo58_3 rfl (r := 4) rfl) ?_
   refine SR.k 9 rfl (by kernel_rfl) rfl (ev_ld1 rfl ty3 rfl (At.d (At.lent hR_16 0 rfl rfl))) ?_
   refine SR.k 10 rfl (by kernel_rfl) rfl (ev_fa rfl fo58_4 rfl (r := 5) rfl) ?_
   refine SR.k 11 rfl (by kernel_rfl) rfl (ev_ld1 rfl ty3 rfl (At.d (At.lent hR_16 0 rfl rfl))) ?_
   refine SR.k 12 rfl (by kernel_rfl) rfl (ev_fa rfl fo58_6 rfl (r := 7) rfl) ?_
   refine SR.k 13 rfl (by kernel_rfl) rfl (ev_ld1 rfl ty3 rfl (At.d (At.lent hR_16 0 rfl rfl))) ?_
   refine SR.k 14 rfl (by kernel_rfl) rfl (ev_fa rfl fo58_7 rfl (r := 8) rfl) ?_
   refine SR.k 15 rfl (by kernel_rfl) rfl (ev_ld1 rfl ty3 rfl (At.d (At.lent hR_16 0 rfl rfl))) ?_
   refine SR.k 18 rfl (by kernel_rfl) rfl (ev_fa rfl fo58_5 rfl (r := 6) rfl) ?_
   refine SR.k 19 rfl (by kernel_rfl) rfl (ev_ld1 rfl ty56 rfl (At.d (At.lent hR_16 0 rfl rfl))) ?_
   refine SR.one (j := 16) (by kernel_rfl) rfl (st_lit eZ (e := 3) (l := [(gt ((gt ps i).steps) j).item, (gt ((gt ps i).steps) j).place, (gt ((gt ps i).steps) j).arr, (gt ((gt ps i).steps) j).wait, (gt ((gt ps i).steps) j).serv, (gt ((gt ps i).steps) j).time, (gt ((gt ps i).steps) j).dist]) rfl rfl rfl rfl (by kernel_rfl) rfl rfl (fun w => by kernel_rfl) (fun b17 => ⟨tt0, ?_⟩))
   refine SR.one (j := 17) (by kernel_rfl) rfl (st_app (E := eZ) (m := [(gt ((gt ps i).steps) j).item, (gt ((gt ps i).steps) j).place, (gt ((gt ps i).steps) j).arr, (gt ((gt ps i).steps) j).wait, (gt ((gt ps i).steps) j).serv, (gt ((gt ps i).steps) j).time, (gt ((gt ps i).steps) j).dist]) rfl rfl rfl rfl Try.underlying56 ai3 rfl rfl rfl (.t .h) (by first | rfl | omega | simp) (row_src 0 rfl) (by first | omega | simp only [LL] <;> omega | simp <;> omega) rfl (fun v18 => ⟨tt0, ?_⟩))
   refine SR.one (j := 20) (by kernel_rfl) rfl (st_app (E := eZ) (m := (gt ((gt ps i).steps) j).load) rfl rfl rfl rfl Try.underlying56 ai3 rfl rfl rfl .h (by first | rfl | omega | simp) (Src.w (Fr.flat (((hNs).ext hx_16) _ (gt_mem (i := j) (by omega) (by first | omega | simp only [LL] <;> omega | simp <;> omega))))) (by first | omega | simp only [LL] <;> omega | simp <;> omega) rfl (fun v19 => ⟨tt0, ?_⟩))
   refine SR.k 21 rfl (by kernel_rfl) rfl (ev_as rfl rfl) ?_
   refine SR.fin (by kernel_rfl) hl_16 hx_16 hR_16 (.c (.c .n)) ?_
   refine SQ.go idQ ?_
   refine .region ?_
   refine .v (ev_add rfl rfl rfl (r := (j + 1)) rfl (by omega) (by omega)) rfl ?_
   refine .v (ev_mv rfl rfl) rfl ?_
   exact SP.nil (SQ.roundb (X := Int × Value × (List Int)) (x := (j, W, Y)) ⟨(j + 1), v19, ((Y ++ [(gt ((gt ps i).steps) j).item, (gt ((gt ps i).steps) j).place, (gt ((gt ps i).steps) j).arr, (gt ((gt ps i).steps) j).wait, (gt ((gt ps i).steps) j).serv, (gt ((gt ps i).steps) j).time, (gt ((gt ps i).steps) j).dist]) ++ ((gt ((gt ps i).steps) j).load))⟩ (by exact ⟨by omega, by omega, by rw [p_2, fm_next p_0 (by omega)]; simp only [stepZ, List.append_assoc], by simp only [List.length_append, List.length_cons, List.length_nil]; omega⟩) (by dsimp only; omega) (Sub.get (.c rfl (.c rfl (.c rfl (.c rfl (.c rfl (.c rfl (.c rfl (.c rfl .n))))))))) (fun w hw => hw.keep (.c .h (.c (.t (.t .h)) .n))))
  refine .exit idQ ?_
  refine .region ?_
  refine .v (ev_add rfl rfl rfl (r := (i + 1)) rfl (by omega) (by omega)) rfl ?_
  refine .v (ev_mv rfl rfl) rfl ?_
  exact SP.nil (SQ.roundb (X := Int × Value × (List Int)) (x := (i, U, X)) ⟨(i + 1), W, Y⟩ (by exact ⟨by omega, by omega, by rw [p_2, fm_end (by omega), q_2, fm_next q_0 (by omega)]; simp only [planZ, List.append_assoc], by omega⟩) (by dsimp only; omega) (Sub.get (.c rfl (.c rfl (.c rfl (.c rfl (.c rfl .n)))))) (fun w hw => hw.keep (.c .h (.c .h .n))))
 refine .exit idQ ?_
 refine .seq (.seq (.region ?_))
 refine .v (ev_fa rfl fo30_4 rfl (r := 13) rfl) rfl ?_
 refine .v (ev_ld1 rfl ty28 rfl (At.own1 1 rfl rfl)) rfl ?_
 refine .v (ev_len rfl Try.underlying28 rfl) rfl ?_
 refine .v (ev_mv rfl rfl) rfl ?_
 refine .go idQ (.block ?_)
 refine .loop (X := Int × Value × (List Int)) (fun ⟨k, W, Y⟩ => 0 ≤ k ∧ k ≤ lf.length ∧ Y = sumsZ ⟨x0, x1, x2, x3, x4, x5, x6, x7⟩ ++ ps.flatMap planZ ++ (lf.take k.toNat).flatMap (fun t => [t.item]) ∧ (Y.length : Int) ≤ 8808 + k) (fun ⟨k, W, Y⟩ => [(4, W), (1, .pointer (some ⟨b1, 0, none⟩)), (101, .slice kA lf.length kc), (102, .int .i64 (lf.length : Int)), (103, .int .i64 k)]) (fun ⟨k, W, Y⟩ => [rw_ eZ 3 (W) Y, cel b1 [.int .i64 cd, .int .i64 at_, .string path, .bool op, .int .i64 x0, .int .i64 x1, .int .i64 x2, .int .i64 x3, .int .i64 x4, .int .i64 x5, .int .i64 x6, .int .i64 x7, .slice pA ps.length pc, .slice kA lf.length kc] 30]) (fun _ => S) (fun _ => wf) (fun ⟨k, W, Y⟩ => (lf.length - k.toNat)) (fun a_ w_ hs_ hw_ => ⟨⟨0, U, X⟩, (by exact ⟨by omega, by omega, by rw [q_2, fm_end (by omega)]; simp, by omega⟩), hs_.mono (Sub.get (.c rfl (.c rfl (.c rfl (.c rfl (.c rfl .n)))))), hw_.keep (.c .h (.c .h .n))⟩) (fun ⟨k, W, Y⟩ ⟨r_0, r_1, r_2, r_3⟩ => ?_)
 show SC _ _ _ _ _ ⟨[(4, W), (1, .pointer (some ⟨b1, 0, none⟩)), (101, .slice kA lf.length kc), (102, .int .i64 (lf.length : Int)), (103, .int .i64 k)], [rw_ eZ 3 (W) Y, cel b1 [.int .i64 cd, .int .i64 at_, .string path, .bool op, .int .i64 x0, .int .i64 x1, .int .i64 x2, .int .i64 x3, .int .i64 x4, .int .i64 x5, .int .i64 x6, .int .i64 x7, .slice pA ps.length pc, .slice kA lf.length kc] 30], S, wf⟩
 refine .seq (.region ?_)
 refine .v (ev_cmp rfl rfl rfl rfl) rfl ?_
 refine .go idQ (.seq ?_)
 refine .condI rfl bD (fun h20 => ?_) (fun h20 => ?_)
 ·
  refine .skipgo idQ (.seq (.block (.seq (.region ?_))))
  refine .v (ev_ix rfl Try.underlying28 ty62 rfl rfl (by omega) (by omega) (fun _ _ => Fr.adr (i := k) hK (by omega) (by omega))) rfl ?_
  refine .v (ev_lda rfl rfl (At.w (Fr.el (i := k) hK (by omega) (by omega))) ty62) rfl ?_
  refine .cons (st_alloc rfl rfl rfl rfl zf62 (fun b21 => ?_))
  refine .cons (st_storea (l' := [.bool ((gt lf k).ship), .int .i64 ((gt lf k).item)]) rfl rfl rfl ty62 rfl rfl rfl .h rfl rfl ?_)
  refine .go idQ (.region ?_)
  refine .v (ev_mv rfl rfl) rfl ?_
  refine .v (ev_fa rfl fo62_1 rfl (r := 1) rfl) rfl ?_
  refine .v (ev_ld1 rfl ty3 rfl (At.own1 0 rfl rfl)) rfl ?_
  refine .cons (st_lit eZ (e := 3) (l := [(gt lf k).item]) rfl rfl rfl rfl (by kernel_rfl) rfl rfl (fun w => by kernel_rfl) (fun b22 => ?_))
  refine .cons (st_app (E := eZ) (m := [(gt lf k).item]) rfl rfl rfl rfl Try.underlying56 ai3 rfl rfl rfl (.t (.t .h)) (by first | rfl | omega | simp) (row_src 0 rfl) (by first | omega | simp only [LL] <;> omega | simp <;> omega) rfl (fun v23 => ?_))
  refine .v (ev_as rfl rfl) rfl ?_
  refine .go idQ (.region ?_)
  refine .v (ev_add rfl rfl rfl (r := (k + 1)) rfl (by omega) (by omega)) rfl ?_
  refine .v (ev_mv rfl rfl) rfl ?_
  exact SP.nil (SQ.roundb (X := Int × Value × (List Int)) (x := (k, W, Y)) ⟨(k + 1), v23, (Y ++ [(gt lf k).item])⟩ (by exact ⟨by omega, by omega, by rw [r_2, fm_next r_0 (by omega)]; simp only [List.append_assoc], by simp only [List.length_append, List.length_cons, List.length_nil]; omega⟩) (by dsimp only; omega) (Sub.get (.c rfl (.c rfl (.c rfl (.c rfl (.c rfl .n)))))) (fun w hw => hw.keep (.c .h (.c (.t (.t .h)) .n))))
 refine .exit idQ ?_
 refine .seq (.region ?_)
 refine .v (ev_mv rfl rfl) rfl ?_
 refine .know (row_len 0 rfl) (fun hv26 => ?_)
 obtain ⟨A24, c25, rfl, hv26_1, hv26_2⟩ := hv26
 unfold maxLen at hv26_2
 refine .cons (st_lend0 rfl rfl rfl rfl hbd20 rfl .n (.c .h .n) (fun w_ hw => all_ A24 Y.length c25 Y _ _ (Fr.lend hw 0 rfl (by first | omega | simp only [LL] <;> omega | simp <;> omega)) (by first | omega | simp only [LL] <;> omega | simp <;> omega)) (fun v_q28 C_q28 q28 => ?_))
 obtain ⟨r27, p29, rfl, rfl⟩ := q28
 show SP _ _ _ _ _ _ ⟨_, _ :: _, _, _⟩
 refine .v (ev_as rfl rfl) rfl ?_
 refine .go idQ ?_
 exact .ret idQ (ret1 Try.results10 rfl .n ⟨r27, (fun h_ => ⟨fun e_ => absurd (show cd = 0 by first | assumption | omega) e_, fun _ => fit_end r_2 (by omega) (p29.1 h_)⟩), rfl, rfl⟩)
end Go.Proofs.Ythmkelkefmfmgaa.Sx
set_option maxRecDepth 20000
set_option maxHeartbeats 4000000
namespace Go.Proofs.Ythmkelkefmfmgaa.Sx.FQF
open Go Go.SX Go.Proofs
theorem ty62 : ty Try.prog 62 = some (true, 2) := by kernel_rfl
theorem mo : Try.prog.follows .mixedOrders = true := by kernel_rfl
theorem ty3 : ty Try.prog 3 = some (false, 1) := by kernel_rfl
theorem fo52_0 : fo Try.prog 52 0 = some 0 := by kernel_rfl
theorem fo52_2 : fo Try.prog 52 2 = some 2 := by kernel_rfl
theorem fo52_3 : fo Try.prog 52 3 = some 3 := by kernel_rfl
theorem fo52_4 : fo Try.prog 52 4 = some 4 := by kernel_rfl
theorem fo52_5 : fo Try.prog 52 5 = some 5 := by kernel_rfl
theorem fo52_6 : fo Try.prog 52 6 = some 6 := by kernel_rfl
theorem fo52_1 : fo Try.prog 52 1 = some 1 := by kernel_rfl
theorem ty50 : ty Try.prog 50 = some (false, 1) := by kernel_rfl
theorem ty58 : ty Try.prog 58 = some (true, 9) := by kernel_rfl
theorem zf58 : (Try.prog.info? 58).bind (fun i => i.zero.map Value.cells) = some (List.toArray [.int .i64 0, .int .i64 0, .int .i64 0, .int .i64 0, .int .i64 0, .int .i64 0, .slice none 0 0, .int .i64 0, .int .i64 0]) := by kernel_rfl
theorem fo58_0 : fo Try.prog 58 0 = some 0 := by kernel_rfl
theorem fo58_1 : fo Try.prog 58 1 = some 2 := by kernel_rfl
theorem fo58_2 : fo Try.prog 58 2 = some 3 := by kernel_rfl
theorem fo58_3 : fo Try.prog 58 3 = some 4 := by kernel_rfl
theorem fo58_4 : fo Try.prog 58 4 = some 5 := by kernel_rfl
theorem fo58_6 : fo Try.prog 58 6 = some 7 := by kernel_rfl
theorem fo58_7 : fo Try.prog 58 7 = some 8 := by kernel_rfl
theorem fo58_5 : fo Try.prog 58 5 = some 6 := by kernel_rfl
theorem ty56 : ty Try.prog 56 = some (false, 1) := by kernel_rfl
end Go.Proofs.Ythmkelkefmfmgaa.Sx.FQF
set_option maxRecDepth 20000
set_option maxHeartbeats 4000000
namespace Go.Proofs.Ythmkelkefmfmgaa.Sx.FQG
open Go Go.SX Go.Proofs
theorem fo30_0 : fo Try.prog 30 0 = some 0 := by kernel_rfl
theorem fo24_0 : fo Try.prog 24 0 = some 0 := by kernel_rfl
theorem ty22 : ty Try.prog 22 = some (false, 1) := by kernel_rfl
theorem fo30_1 : fo Try.prog 30 1 = some 3 := by kernel_rfl
theorem ty4 : ty Try.prog 4 = some (false, 1) := by kernel_rfl
theorem fo30_2 : fo Try.prog 30 2 = some 4 := by kernel_rfl
theorem ty26 : ty Try.prog 26 = some (true, 8) := by kernel_rfl
theorem fo30_3 : fo Try.prog 30 3 = some 12 := by kernel_rfl
theorem ty27 : ty Try.prog 27 = some (false, 1) := by kernel_rfl
theorem fo30_4 : fo Try.prog 30 4 = some 13 := by kernel_rfl
theorem ty28 : ty Try.prog 28 = some (false, 1) := by kernel_rfl
theorem ty52 : ty Try.prog 52 = some (true, 7) := by kernel_rfl
theorem mo : Try.prog.follows .mixedOrders = true := by kernel_rfl
end Go.Proofs.Ythmkelkefmfmgaa.Sx.FQG
set_option maxRecDepth 20000
set_option maxHeartbeats 4000000
namespace Go.Proofs.Ythmkelkefmfmgaa.Sx.FQH
open Go Go.SX Go.Proofs
theorem hbd8 : hasBody Try.prog 8 = true := by kernel_rfl
theorem ty30 : ty Try.prog 30 = some (true, 14) := by kernel_rfl
theorem hbd9 : hasBody Try.prog 9 = true := by kernel_rfl
theorem hbd10 : hasBody Try.prog 10 = true := by kernel_rfl
theorem fo30_0 : fo Try.prog 30 0 = some 0 := by kernel_rfl
theorem fo24_2 : fo Try.prog 24 2 = some 2 := by kernel_rfl
theorem ty9 : ty Try.prog 9 = some (false, 1) := by kernel_rfl
theorem hbd13 : hasBody Try.prog 13 = true := by kernel_rfl
theorem ty5 : ty Try.prog 5 = some (false, 1) := by kernel_rfl
theorem hbd14 : hasBody Try.prog 14 = true := by kernel_rfl
theorem fo24_0 : fo Try.prog 24 0 = some 0 := by kernel_rfl
theorem ty22 : ty Try.prog 22 = some (false, 1) := by kernel_rfl
end Go.Proofs.Ythmkelkefmfmgaa.Sx.FQH
set_option maxRecDepth 20000
set_option maxHeartbeats 4000000
namespace Go.Proofs.Ythmkelkefmfmgaa.Sx.FQI
open Go Go.SX Go.Proofs
theorem hbd8 : hasBody Try.prog 8 = true := by kernel_rfl
theorem ty30 : ty Try.prog 30 = some (true, 14) := by kernel_rfl
theorem hbd9 : hasBody Try.prog 9 = true := by kernel_rfl
theorem hbd10 : hasBody Try.prog 10 = true := by kernel_rfl
theorem hbd11 : hasBody Try.prog 11 = true := by kernel_rfl
theorem hbd12 : hasBody Try.prog 12 = true := by kernel_rfl
theorem hbd13 : hasBody Try.prog 13 = true := by kernel_rfl
theorem mo : Try.prog.follows .mixedOrders = true := by kernel_rfl
theorem hbd14 : hasBody Try.prog 14 = true := by kernel_rfl
theorem hbd15 : hasBody Try.prog 15 = true := by kernel_rfl
end Go.Proofs.Ythmkelkefmfmgaa.Sx.FQI
namespace Go.Proofs.Ythmkelkefmfmgaa.Sx
open Go Go.SX Go.Proofs FQI
theorem replyPrints (cd : Int) (at_ : Int) (path : ByteArray) (op : Bool) (x0 : Int) (x1 : Int) (x2 : Int) (x3 : Int) (x4 : Int) (x5 : Int) (x6 : Int) (x7 : Int) (pA : Option Addr) (pc : Nat) (ps : List PV) (kA : Option Addr) (kc : Nat) (lf : List TK) (S : Nat → Prop) (wf : World) (hP : Fr ePL S wf pA ps) (hK : Fr eTK S wf kA lf) (hN : NP S wf ps) (hkr : ∀ p ∈ ps, ∀ s ∈ p.steps, -9223372036854775808 ≤ s.kind ∧ s.kind ≤ 9223372036854775807) :
  TR0 Try.prog 3 [.agg #[.int .i64 cd, .int .i64 at_, .string path, .bool op, .int .i64 x0, .int .i64 x1, .int .i64 x2, .int .i64 x3, .int .i64 x4, .int .i64 x5, .int .i64 x6, .int .i64 x7, .slice pA ps.length pc, .slice kA lf.length kc]] [] S wf (fun v_ C_ => v_ = .bool true ∧ C_ = []) := by
 have hla := hP.len
 have hlk := hK.len
 refine TR.mk Try.func3 rfl Try.ntmps3 rfl rfl (fun w_ => ?_)
 refine .seq (.region ?_)
 refine .cons (st_boxa rfl rfl rfl rfl rfl (fun b1 => ?_))
 refine .v (ev_as rfl rfl) rfl ?_
 refine .go idQ (.seq (.seq (.region ?_)))
 refine .cons (st_callk rfl rfl rfl rfl hbd8 rfl .n (awake _ _) ?_)
 refine .v (ev_not rfl rfl) rfl ?_
 refine .go idQ ?_
 refine .cond_f rfl ?_
 refine .skipgo idQ (.seq (.seq (.region ?_)))
 refine .v (ev_lda rfl rfl (At.whole 0 rfl) ty30) rfl ?_
 refine .cons (st_call00 rfl rfl rfl rfl hbd9 rfl .n (long_ cd at_ path op x0 x1 x2 x3 x4 x5 x6 x7 pA pc ps kA kc lf _ _ hP hN) (by intro v C h; obtain ⟨_, _, rfl, rfl⟩ := h; rfl) (fun v_q3 q3 => ?_))
 obtain ⟨r2, p4, rfl, -⟩ := q3
 refine .v (ev_mv rfl rfl) rfl ?_
 refine .w (fun _ => ev_lda rfl rfl (At.whole 0 rfl) ty30) rfl ?_
 rcases Bool.eq_false_or_eq_true r2 with hb5 | hb5
 ·
  refine SP.reslot (t := 13) rfl hb5 ?_
  refine .cons (.off rfl rfl rfl rfl rfl rfl ?_)
  refine .cons (.off rfl rfl rfl rfl rfl rfl ?_)
  refine .v (ev_pickt rfl rfl rfl rfl) rfl ?_
  refine .go idQ ?_
  refine .cond_t rfl ?_
  refine .seq (.region ?_)
  refine .v (ev_as rfl rfl) rfl ?_
  refine .go idQ ?_
  exact .ret idQ (ret1 Try.results3 rfl .n ⟨rfl, rfl⟩)
 refine SP.reslot (t := 13) rfl hb5 ?_
 refine .cons (.on rfl rfl rfl (st_call00 rfl rfl rfl rfl hbd10 (lkA1 (lkg rfl hb5) lkA0) .n (fits_g cd at_ path op x0 x1 x2 x3 x4 x5 x6 x7 pA pc ps kA kc lf _ _ hP hK hN (p4 (by first | assumption | simp_all)).1 (p4 (by first | assumption | simp_all)).2.1 (p4 (by first | assumption | simp_all)).2.2.1 (p4 (by first | assumption | simp_all)).2.2.2) (by intro v C h; obtain ⟨_, _, rfl, rfl⟩ := h; rfl) (fun v_q7 q7 => ?_)))
 obtain ⟨r6, p8, rfl, -⟩ := q7
 refine .cons (.on rfl rfl rfl (Ev.step (ev_not rfl rfl) rfl rfl rfl ?_))
 refine .v (ev_pickf rfl rfl rfl rfl) rfl ?_
 refine .go idQ ?_
 refine .condI rfl (bN bV) (fun h9 => ?_) (fun h9 => ?_)
 ·
  refine .seq (.region ?_)
  refine .v (ev_as rfl rfl) rfl ?_
  refine .go idQ ?_
  exact .ret idQ (ret1 Try.results3 rfl .n ⟨rfl, rfl⟩)
 refine .skipgo idQ (.seq ?_)
 obtain ⟨b1_, b2_, b3_, b4_⟩ := p4 (by simp_all)
 have hfit := p8 (by simp_all)
 have hSc : ∀ p ∈ ps, bP p := fun p hp => ⟨by have := (b4_ p hp).1; omega, fun t ht => ⟨hkr p hp t ht, by have := (b4_ p hp).2 t ht; omega⟩⟩
 refine .region ?_
 refine .v (ev_lda rfl rfl (At.whole 0 rfl) ty30) rfl ?_
 refine .cons (st_call0 rfl rfl rfl rfl hbd11 rfl .n (tree_any cd at_ path op x0 x1 x2 x3 x4 x5 x6 x7 pA pc ps kA kc lf _ _ hP hK hN (by omega) (by omega) hSc) (fun v_q12 C_q12 q12 => ?_))
 obtain ⟨u10, L11, p13, p14, rfl, rfl⟩ := q12
 show SP _ _ _ _ _ _ ⟨_, _ :: _ :: _, _, _⟩
 refine .v (ev_as rfl rfl) rfl ?_
 refine .go idQ (.seq (.seq (.region ?_)))
 refine .v (ev_mv rfl rfl) rfl ?_
 refine .know (row_len 0 rfl) (fun hv17 => ?_)
 obtain ⟨A15, c16, rfl, hv17_1, hv17_2⟩ := hv17
 unfold maxLen at hv17_2
 refine .v (ev_len rfl Try.underlying34 rfl) rfl ?_
 refine .v (ev_cmp rfl rfl rfl rfl) rfl ?_
 refine .go idQ ?_
 refine .condI rfl bD (fun h18 => ?_) (fun h18 => ?_)
 ·
  refine .seq (.region ?_)
  refine .v (ev_as rfl rfl) rfl ?_
  refine .go idQ ?_
  exact .ret idQ (ret1 Try.results3 rfl .n ⟨rfl, rfl⟩)
 refine .skipgo idQ (.seq (.region ?_))
 refine .v (ev_mv rfl rfl) rfl ?_
 refine .cons (st_lend0 rfl rfl rfl rfl hbd12 rfl .n (.c .h (.c .h .n)) (fun w_ hw => print_ A15 c16 L11 _ _ (Fr.lend hw 0 rfl (by first | omega | simp only [LL] <;> omega | simp <;> omega)) (NT.lend hw 1 rfl) (rp_TB p13 (by omega) hfit b3_) (rp_size p13 (by omega) hfit b3_)) (fun v_q22 C_q22 q22 => ?_))
 obtain ⟨u19, e20, m21, p23, p24, rfl, rfl⟩ := q22
 show SP _ _ _ _ _ _ ⟨_, _ :: _ :: _ :: _, _, _⟩
 have hz25 : e20 = 0 := by rw [p23]; exact rp_check p13 (by omega) hfit
 have hm26 := p24
 rw [if_pos hz25] at hm26
 clear p23 p24
 subst hz25
 subst hm26
 have hsz_ := rp_size p13 (by omega) hfit b3_
 refine .v (ev_mv rfl rfl) rfl ?_
 refine .v (ev_ext rfl rfl rfl) rfl ?_
 refine .v (ev_ext rfl rfl rfl) rfl ?_
 refine .v (ev_as rfl rfl) rfl ?_
 refine .v (ev_as rfl rfl) rfl ?_
 refine .go idQ (.seq (.seq ?_))
 refine .know (row_len 0 rfl) (fun hv29 => ?_)
 obtain ⟨A27, c28, rfl, hv29_1, hv29_2⟩ := hv29
 unfold maxLen at hv29_2
 refine SC.draw mo [] [] .n (fun _ _ _ c hc => by cases hc) (fun wf_30 hl_30 hx_30 hR_30 => ?_)
 refine SR.k 0 rfl (by kernel_rfl) rfl (ev_mv rfl rfl) ?_
 refine SR.k 1 rfl (by kernel_rfl) rfl (ev_cmp (r := false) rfl rfl rfl rfl) ?_
 refine SR.k 2 rfl (by kernel_rfl) rfl (ev_mv rfl rfl) ?_
 refine SR.gtake 3 rfl (by kernel_rfl) (by kernel_rfl) (by kernel_rfl) rfl (fun _ _ _ _ h => h) rfl rfl rfl rfl rfl (fun _ => ev_mv rfl rfl) ?_
 refine SR.gtake 4 rfl (by kernel_rfl) (by kernel_rfl) (by kernel_rfl) rfl (fun _ _ _ _ h => h) rfl rfl rfl rfl rfl (fun _ => ev_b2s (l := (showF (vs L11))) rfl Try.underlying36 Try.underlying5 Try.underlying9 rfl (by first | rfl | assumption | omega | ((try simp only [List.length_take, List.length_drop, List.length_append, List.length_cons, List.length_nil]) <;> omega)) (Src.d (Fr.flat (Fr.lent (S := S) hR_30 0 rfl (by first | omega | simp only [LL] <;> omega | simp <;> omega))))) ?_
 refine SR.gtake 5 rfl (by kernel_rfl) (by kernel_rfl) (by kernel_rfl) rfl (fun _ _ _ _ h => h) rfl rfl rfl rfl rfl (fun _ => ev_lda (cs := [.int .i64 cd, .int .i64 at_, .string path, .bool op, .int .i64 x0, .int .i64 x1, .int .i64 x2, .int .i64 x3, .int .i64 x4, .int .i64 x5, .int .i64 x6, .int .i64 x7, .slice pA ps.length pc, .slice kA lf.length kc]) rfl rfl (At.d (At.lent hR_30 3 rfl rfl)) ty30) ?_
 refine SR.one (j := 6) (by kernel_rfl) rfl (.on rfl rfl rfl (st_call00 rfl rfl rfl rfl hbd13 rfl .n (text_ cd at_ path op x0 x1 x2 x3 x4 x5 x6 x7 pA pc ps kA kc lf _ _ (Fr.ext hP hx_30) (Fr.ext hK hx_30) ((hN).ext hx_30) b1_ b2_ b3_ b4_ hfit) (by intro v C h; obtain ⟨_, _, _, rfl, rfl⟩ := h; rfl) (fun v_q32 q32 => ⟨tt0, ?_⟩)))
 obtain ⟨o31, p33, p34, rfl, -⟩ := q32
 have htx_ : mkS (showF (vs L11)) = o31 := rp_text p13 hfit p33
 have hrg_ : ∀ x ∈ showF (vs L11), isB x := by rw [rp_show p13 hfit, ← p33]; exact bs_range _
 refine SR.gtake 7 rfl (by kernel_rfl) (by kernel_rfl) (by kernel_rfl) rfl (fun _ _ _ _ h => h) rfl rfl rfl rfl rfl (fun _ => ev_scmp rfl rfl rfl rfl) ?_
 refine SR.k 8 rfl (by kernel_rfl) rfl (ev_pickf rfl rfl rfl rfl) ?_
 refine SR.fin (by kernel_rfl) hl_30 hx_30 hR_30 .n ?_
 refine SQ.go idQ ?_
 refine .condI rfl bV (fun h35 => ?_) (fun h35 => ?_)
 ·
  exact absurd (show (!((mkS (showF (vs L11))).toList == o31.toList)) = true by assumption) (by rw [htx_]; simp)
 refine .skipgo idQ (.seq (.region ?_))
 refine .v (ev_mv rfl rfl) rfl ?_
 refine .cons (st_lend0 rfl rfl rfl rfl hbd14 rfl .n (.c .h .n) (fun w_ hw => parse_ A27 ((showF (vs L11)).length) c28 (showF (vs L11)) _ _ (Fr.lend hw 0 rfl (by first | omega | simp only [LL] <;> omega | simp <;> omega)) (by first | omega | simp only [LL] <;> omega | simp <;> omega) hrg_ (by first | omega | simp only [LL] <;> omega | simp <;> omega)) (fun v_q40 C_q40 q40 => ?_))
 obtain ⟨at_36, e37, u38, L39, p41, p42, p43, p44, rfl, rfl⟩ := q40
 show SP _ _ _ _ _ _ ⟨_, _ :: _ :: _ :: _, _, _⟩
 have hpf_ := fun h_ => rp_parse p13 (by omega) hfit h_
 refine .v (ev_mv rfl rfl) rfl ?_
 refine .v (ev_ext rfl rfl rfl) rfl ?_
 refine .v (ev_ext rfl rfl rfl) rfl ?_
 refine .v (ev_ext rfl rfl rfl) rfl ?_
 refine .v (ev_as rfl rfl) rfl ?_
 refine .v (ev_as rfl rfl) rfl ?_
 refine .v (ev_as rfl rfl) rfl ?_
 refine .go idQ (.seq (.region ?_))
 refine .v (ev_mv rfl rfl) rfl ?_
 refine .v (ev_len rfl Try.underlying36 rfl) rfl ?_
 refine .v (ev_cmp rfl rfl rfl rfl) rfl ?_
 refine .v (ev_mv rfl rfl) rfl ?_
 refine .w (fun _ => ev_mv rfl rfl) rfl ?_
 refine .w (fun hb => ev_cmp rfl (lkg rfl hb) rfl rfl) rfl ?_
 refine .w (fun hb => ev_mv rfl (lkg rfl hb)) rfl ?_
 rcases Bool.eq_false_or_eq_true (decide ((((showF (vs L11)).length : Nat) : Int) > 65536)) with hb45 | hb45
 ·
  have hb45_ := bT bD hb45
  refine SP.reslotv (t := 49) rfl (gv_off hb45) ?_
  refine .cons (.offu rfl rfl rfl rfl rfl ?_)
  refine .cons (.offu rfl rfl rfl rfl rfl ?_)
  refine .cons (.offu rfl rfl rfl rfl rfl ?_)
  refine SP.reslot (t := 46) rfl hb45 ?_
  refine .cons (.off rfl rfl rfl rfl rfl rfl ?_)
  refine .v (ev_pickt rfl rfl rfl rfl) rfl ?_
  refine .v (ev_as rfl rfl) rfl ?_
  refine .go idQ ?_
  exact .ret idQ (ret1 Try.results3 rfl .n ⟨rfl, rfl⟩)
 have hb45_ := bF bD hb45
 refine SP.reslotv (t := 49) rfl (gv_on hb45) ?_
 refine .w (fun _ => ev_mv rfl rfl) rfl ?_
 refine .w (fun _ => ev_mv rfl rfl) rfl ?_
 refine .know (row_len 0 rfl) (fun hv48 => ?_)
 obtain ⟨A46, c47, rfl, hv48_1, hv48_2⟩ := hv48
 unfold maxLen at hv48_2
 refine .cons (st_glendk rfl rfl rfl rfl rfl rfl hbd15 (fun hb => (lkA1 (lkg rfl hb) (lkA1 (lkg rfl hb) lkA0))) .n (.c (.t (.t (.t .h))) (.c .h (.c (.t (.t .h)) (.c .h .n)))) (fun hb w_ hw => have hp := bT bE hb; same02 A15 L11.length c16 L11 A46 L39.length c47 L39 _ _ (Fr.lend hw 0 rfl (by first | omega | simp only [LL] <;> omega | simp <;> omega)) (Fr.lend hw 1 rfl (by first | omega | simp only [LL] <;> omega | simp <;> omega)) (NT.lend hw 2 rfl) (NT.lend hw 3 rfl) (by first | omega | simp only [LL] <;> omega | simp <;> omega) (by first | omega | simp only [LL] <;> omega | simp <;> omega) (by rw [p42, (hpf_ (by omega)).2])) ?_)
 refine SP.reslot (t := 46) rfl hb45 ?_
 refine .cons (.on rfl rfl rfl (Ev.step (ev_and rfl rfl rfl rfl) rfl rfl rfl ?_))
 refine .v (ev_pickf rfl rfl rfl rfl) rfl ?_
 refine .v (ev_as rfl rfl) rfl ?_
 refine .go idQ ?_
 exact .ret idQ (ret1 Try.results3 rfl .n ⟨(by simp_all), rfl⟩)
end Go.Proofs.Ythmkelkefmfmgaa.Sx
set_option maxRecDepth 20000
namespace Go.Proofs.Ythmkelkefmfmgaa.Sx
open Go Go.SX Go.Proofs
theorem cO58 : Try.prog.cellsOf 58 = 9 := by kernel_rfl
theorem cO52 : Try.prog.cellsOf 52 = 7 := by kernel_rfl
theorem cO62 : Try.prog.cellsOf 62 = 2 := by kernel_rfl
theorem cO30 : Try.prog.cellsOf 30 = 14 := by kernel_rfl
theorem cO24 : Try.prog.cellsOf 24 = 3 := by kernel_rfl
theorem cO26 : Try.prog.cellsOf 26 = 8 := by kernel_rfl
theorem cO55 : Try.prog.cellsOf 55 = 2 := by kernel_rfl
theorem cO22 : Try.prog.cellsOf 22 = 1 := by kernel_rfl
theorem cO3 : Try.prog.cellsOf 3 = 1 := by kernel_rfl
theorem cO9 : Try.prog.cellsOf 9 = 1 := by kernel_rfl
theorem cO4 : Try.prog.cellsOf 4 = 1 := by kernel_rfl
theorem cO53 : Try.prog.cellsOf 53 = 1 := by kernel_rfl
theorem cO56 : Try.prog.cellsOf 56 = 1 := by kernel_rfl
theorem cO50 : Try.prog.cellsOf 50 = 1 := by kernel_rfl
theorem cO27 : Try.prog.cellsOf 27 = 1 := by kernel_rfl
theorem cO28 : Try.prog.cellsOf 28 = 1 := by kernel_rfl
def eSU : Enc SU where
 sz := 8
 enc x := [.int .i64 x.routes, .int .i64 x.value, .int .i64 x.cost, .int .i64 x.time, .int .i64 x.dist, .int .i64 x.wait, .int .i64 x.serv, .int .i64 x.left]
 len _ := rfl
 one x u hu := by simp at hu; rcases hu with rfl | rfl | rfl | rfl | rfl | rfl | rfl | rfl <;> rfl
 pos := by decide
structure Fl where
 cd : Int
 at_ : Int
 path : ByteArray
def eFl : Enc Fl where
 sz := 3
 enc x := [.int .i64 x.cd, .int .i64 x.at_, .string x.path]
 len _ := rfl
 one x u hu := by simp at hu; rcases hu with rfl | rfl | rfl <;> rfl
 pos := by decide
section
variable {w : World}
theorem tw55 : TellsW Try.prog w 55 eVis (fun a => i64 a.kind) := by
 intro H enc base spare held n cs y h hw
 obtain ⟨k, hl, hf⟩ := struct_w Try.underlying55 h hw
 rw [cO55] at hl
 match cs, hl with
 | [v0, v1], _ =>
  obtain ⟨y0, h0, w0⟩ := hf 0 _ rfl
  replace h0 : DataW.trod enc Try.prog w base spare held k 53 (([v0, v1].drop 0).take (Try.prog.cellsOf 53)) = some y0 := h0
  rw [cO53] at h0
  replace h0 : DataW.trod enc Try.prog w base spare held k 53 [v0] = some y0 := h0
  obtain ⟨y1, h1, w1⟩ := hf 1 _ rfl
  replace h1 : DataW.trod enc Try.prog w base spare held k 3 (([v0, v1].drop 1).take (Try.prog.cellsOf 3)) = some y1 := h1
  rw [cO3] at h1
  replace h1 : DataW.trod enc Try.prog w base spare held k 3 [v1] = some y1 := h1
  obtain ⟨m0, e0, _, f0⟩ := DataW.trod_int Try.underlying53 h0
  simp only [List.cons.injEq, and_true] at e0
  subst e0
  obtain ⟨m1, e1, _, _⟩ := DataW.trod_int Try.underlying3 h1
  simp only [List.cons.injEq, and_true] at e1
  subst e1
  exact ⟨⟨m0, m1⟩, rfl, wf_i64 f0⟩
theorem tw26 : TellsW Try.prog w 26 eSU (fun _ => True) := by
 intro H enc base spare held n cs y h hw
 obtain ⟨k, hl, hf⟩ := struct_w Try.underlying26 h hw
 rw [cO26] at hl
 match cs, hl with
 | [v0, v1, v2, v3, v4, v5, v6, v7], _ =>
  obtain ⟨y0, h0, w0⟩ := hf 0 _ rfl
  replace h0 : DataW.trod enc Try.prog w base spare held k 3 (([v0, v1, v2, v3, v4, v5, v6, v7].drop 0).take (Try.prog.cellsOf 3)) = some y0 := h0
  rw [cO3] at h0
  replace h0 : DataW.trod enc Try.prog w base spare held k 3 [v0] = some y0 := h0
  obtain ⟨y1, h1, w1⟩ := hf 1 _ rfl
  replace h1 : DataW.trod enc Try.prog w base spare held k 3 (([v0, v1, v2, v3, v4, v5, v6, v7].drop 1).take (Try.prog.cellsOf 3)) = some y1 := h1
  rw [cO3] at h1
  replace h1 : DataW.trod enc Try.prog w base spare held k 3 [v1] = some y1 := h1
  obtain ⟨y2, h2, w2⟩ := hf 2 _ rfl
  replace h2 : DataW.trod enc Try.prog w base spare held k 3 (([v0, v1, v2, v3, v4, v5, v6, v7].drop 2).take (Try.prog.cellsOf 3)) = some y2 := h2
  rw [cO3] at h2
  replace h2 : DataW.trod enc Try.prog w base spare held k 3 [v2] = some y2 := h2
  obtain ⟨y3, h3, w3⟩ := hf 3 _ rfl
  replace h3 : DataW.trod enc Try.prog w base spare held k 3 (([v0, v1, v2, v3, v4, v5, v6, v7].drop 3).take (Try.prog.cellsOf 3)) = some y3 := h3
  rw [cO3] at h3
  replace h3 : DataW.trod enc Try.prog w base spare held k 3 [v3] = some y3 := h3
  obtain ⟨y4, h4, w4⟩ := hf 4 _ rfl
  replace h4 : DataW.trod enc Try.prog w base spare held k 3 (([v0, v1, v2, v3, v4, v5, v6, v7].drop 4).take (Try.prog.cellsOf 3)) = some y4 := h4
  rw [cO3] at h4
  replace h4 : DataW.trod enc Try.prog w base spare held k 3 [v4] = some y4 := h4
  obtain ⟨y5, h5, w5⟩ := hf 5 _ rfl
  replace h5 : DataW.trod enc Try.prog w base spare held k 3 (([v0, v1, v2, v3, v4, v5, v6, v7].drop 5).take (Try.prog.cellsOf 3)) = some y5 := h5
  rw [cO3] at h5
  replace h5 : DataW.trod enc Try.prog w base spare held k 3 [v5] = some y5 := h5
  obtain ⟨y6, h6, w6⟩ := hf 6 _ rfl
  replace h6 : DataW.trod enc Try.prog w base spare held k 3 (([v0, v1, v2, v3, v4, v5, v6, v7].drop 6).take (Try.prog.cellsOf 3)) = some y6 := h6
  rw [cO3] at h6
  replace h6 : DataW.trod enc Try.prog w base spare held k 3 [v6] = some y6 := h6
  obtain ⟨y7, h7, w7⟩ := hf 7 _ rfl
  replace h7 : DataW.trod enc Try.prog w base spare held k 3 (([v0, v1, v2, v3, v4, v5, v6, v7].drop 7).take (Try.prog.cellsOf 3)) = some y7 := h7
  rw [cO3] at h7
  replace h7 : DataW.trod enc Try.prog w base spare held k 3 [v7] = some y7 := h7
  obtain ⟨m0, e0, _, _⟩ := DataW.trod_int Try.underlying3 h0
  simp only [List.cons.injEq, and_true] at e0
  subst e0
  obtain ⟨m1, e1, _, _⟩ := DataW.trod_int Try.underlying3 h1
  simp only [List.cons.injEq, and_true] at e1
  subst e1
  obtain ⟨m2, e2, _, _⟩ := DataW.trod_int Try.underlying3 h2
  simp only [List.cons.injEq, and_true] at e2
  subst e2
  obtain ⟨m3, e3, _, _⟩ := DataW.trod_int Try.underlying3 h3
  simp only [List.cons.injEq, and_true] at e3
  subst e3
  obtain ⟨m4, e4, _, _⟩ := DataW.trod_int Try.underlying3 h4
  simp only [List.cons.injEq, and_true] at e4
  subst e4
  obtain ⟨m5, e5, _, _⟩ := DataW.trod_int Try.underlying3 h5
  simp only [List.cons.injEq, and_true] at e5
  subst e5
  obtain ⟨m6, e6, _, _⟩ := DataW.trod_int Try.underlying3 h6
  simp only [List.cons.injEq, and_true] at e6
  subst e6
  obtain ⟨m7, e7, _, _⟩ := DataW.trod_int Try.underlying3 h7
  simp only [List.cons.injEq, and_true] at e7
  subst e7
  exact ⟨⟨m0, m1, m2, m3, m4, m5, m6, m7⟩, rfl, trivial⟩
theorem tw24 : TellsW Try.prog w 24 eFl (fun _ => True) := by
 intro H enc base spare held n cs y h hw
 obtain ⟨k, hl, hf⟩ := struct_w Try.underlying24 h hw
 rw [cO24] at hl
 match cs, hl with
 | [v0, v1, v2], _ =>
  obtain ⟨y0, h0, w0⟩ := hf 0 _ rfl
  replace h0 : DataW.trod enc Try.prog w base spare held k 22 (([v0, v1, v2].drop 0).take (Try.prog.cellsOf 22)) = some y0 := h0
  rw [cO22] at h0
  replace h0 : DataW.trod enc Try.prog w base spare held k 22 [v0] = some y0 := h0
  obtain ⟨y1, h1, w1⟩ := hf 1 _ rfl
  replace h1 : DataW.trod enc Try.prog w base spare held k 3 (([v0, v1, v2].drop 1).take (Try.prog.cellsOf 3)) = some y1 := h1
  rw [cO3] at h1
  replace h1 : DataW.trod enc Try.prog w base spare held k 3 [v1] = some y1 := h1
  obtain ⟨y2, h2, w2⟩ := hf 2 _ rfl
  replace h2 : DataW.trod enc Try.prog w base spare held k 9 (([v0, v1, v2].drop 2).take (Try.prog.cellsOf 9)) = some y2 := h2
  rw [cO9] at h2
  replace h2 : DataW.trod enc Try.prog w base spare held k 9 [v2] = some y2 := h2
  obtain ⟨m0, e0, _, _⟩ := DataW.trod_int Try.underlying22 h0
  simp only [List.cons.injEq, and_true] at e0
  subst e0
  obtain ⟨m1, e1, _, _⟩ := DataW.trod_int Try.underlying3 h1
  simp only [List.cons.injEq, and_true] at e1
  subst e1
  obtain ⟨m2, e2, _, _⟩ := DataW.trod_string Try.underlying9 h2
  simp only [List.cons.injEq, and_true] at e2
  subst e2
  exact ⟨⟨m0, m1, m2⟩, rfl, trivial⟩
theorem tw62 : TellsW Try.prog w 62 eTK (fun _ => True) := by
 intro H enc base spare held n cs y h hw
 obtain ⟨k, hl, hf⟩ := struct_w Try.underlying62 h hw
 rw [cO62] at hl
 match cs, hl with
 | [v0, v1], _ =>
  obtain ⟨y0, h0, w0⟩ := hf 0 _ rfl
  replace h0 : DataW.trod enc Try.prog w base spare held k 4 (([v0, v1].drop 0).take (Try.prog.cellsOf 4)) = some y0 := h0
  rw [cO4] at h0
  replace h0 : DataW.trod enc Try.prog w base spare held k 4 [v0] = some y0 := h0
  obtain ⟨y1, h1, w1⟩ := hf 1 _ rfl
  replace h1 : DataW.trod enc Try.prog w base spare held k 3 (([v0, v1].drop 1).take (Try.prog.cellsOf 3)) = some y1 := h1
  rw [cO3] at h1
  replace h1 : DataW.trod enc Try.prog w base spare held k 3 [v1] = some y1 := h1
  obtain ⟨m0, e0, _⟩ := DataW.trod_bool Try.underlying4 h0
  simp only [List.cons.injEq, and_true] at e0
  subst e0
  obtain ⟨m1, e1, _, _⟩ := DataW.trod_int Try.underlying3 h1
  simp only [List.cons.injEq, and_true] at e1
  subst e1
  exact ⟨⟨m0, m1⟩, rfl, trivial⟩
theorem tw58 : TellsW Try.prog w 58 eST (fun s => Fr eZ (fun b => b < w.heap.size) w s.lA s.load ∧ i64 s.kind) := by
 intro H enc base spare held n cs y h hw
 obtain ⟨k, hl, hf⟩ := struct_w Try.underlying58 h hw
 rw [cO58] at hl
 match cs, hl with
 | [v0, v1, v2, v3, v4, v5, v6, v7, v8], _ =>
  obtain ⟨y0, h0, w0⟩ := hf 0 _ rfl
  replace h0 : DataW.trod enc Try.prog w base spare held k 55 (([v0, v1, v2, v3, v4, v5, v6, v7, v8].drop 0).take (Try.prog.cellsOf 55)) = some y0 := h0
  rw [cO55] at h0
  replace h0 : DataW.trod enc Try.prog w base spare held k 55 [v0, v1] = some y0 := h0
  obtain ⟨y1, h1, w1⟩ := hf 1 _ rfl
  replace h1 : DataW.trod enc Try.prog w base spare held k 3 (([v0, v1, v2, v3, v4, v5, v6, v7, v8].drop 2).take (Try.prog.cellsOf 3)) = some y1 := h1
  rw [cO3] at h1
  replace h1 : DataW.trod enc Try.prog w base spare held k 3 [v2] = some y1 := h1
  obtain ⟨y2, h2, w2⟩ := hf 2 _ rfl
  replace h2 : DataW.trod enc Try.prog w base spare held k 3 (([v0, v1, v2, v3, v4, v5, v6, v7, v8].drop 3).take (Try.prog.cellsOf 3)) = some y2 := h2
  rw [cO3] at h2
  replace h2 : DataW.trod enc Try.prog w base spare held k 3 [v3] = some y2 := h2
  obtain ⟨y3, h3, w3⟩ := hf 3 _ rfl
  replace h3 : DataW.trod enc Try.prog w base spare held k 3 (([v0, v1, v2, v3, v4, v5, v6, v7, v8].drop 4).take (Try.prog.cellsOf 3)) = some y3 := h3
  rw [cO3] at h3
  replace h3 : DataW.trod enc Try.prog w base spare held k 3 [v4] = some y3 := h3
  obtain ⟨y4, h4, w4⟩ := hf 4 _ rfl
  replace h4 : DataW.trod enc Try.prog w base spare held k 3 (([v0, v1, v2, v3, v4, v5, v6, v7, v8].drop 5).take (Try.prog.cellsOf 3)) = some y4 := h4
  rw [cO3] at h4
  replace h4 : DataW.trod enc Try.prog w base spare held k 3 [v5] = some y4 := h4
  obtain ⟨y5, h5, w5⟩ := hf 5 _ rfl
  replace h5 : DataW.trod enc Try.prog w base spare held k 56 (([v0, v1, v2, v3, v4, v5, v6, v7, v8].drop 6).take (Try.prog.cellsOf 56)) = some y5 := h5
  rw [cO56] at h5
  replace h5 : DataW.trod enc Try.prog w base spare held k 56 [v6] = some y5 := h5
  obtain ⟨y6, h6, w6⟩ := hf 6 _ rfl
  replace h6 : DataW.trod enc Try.prog w base spare held k 3 (([v0, v1, v2, v3, v4, v5, v6, v7, v8].drop 7).take (Try.prog.cellsOf 3)) = some y6 := h6
  rw [cO3] at h6
  replace h6 : DataW.trod enc Try.prog w base spare held k 3 [v7] = some y6 := h6
  obtain ⟨y7, h7, w7⟩ := hf 7 _ rfl
  replace h7 : DataW.trod enc Try.prog w base spare held k 3 (([v0, v1, v2, v3, v4, v5, v6, v7, v8].drop 8).take (Try.prog.cellsOf 3)) = some y7 := h7
  rw [cO3] at h7
  replace h7 : DataW.trod enc Try.prog w base spare held k 3 [v8] = some y7 := h7
  obtain ⟨m1, e1, _, _⟩ := DataW.trod_int Try.underlying3 h1
  simp only [List.cons.injEq, and_true] at e1
  subst e1
  obtain ⟨m2, e2, _, _⟩ := DataW.trod_int Try.underlying3 h2
  simp only [List.cons.injEq, and_true] at e2
  subst e2
  obtain ⟨m3, e3, _, _⟩ := DataW.trod_int Try.underlying3 h3
  simp only [List.cons.injEq, and_true] at e3
  subst e3
  obtain ⟨m4, e4, _, _⟩ := DataW.trod_int Try.underlying3 h4
  simp only [List.cons.injEq, and_true] at e4
  subst e4
  obtain ⟨m6, e6, _, _⟩ := DataW.trod_int Try.underlying3 h6
  simp only [List.cons.injEq, and_true] at e6
  subst e6
  obtain ⟨m7, e7, _, _⟩ := DataW.trod_int Try.underlying3 h7
  simp only [List.cons.injEq, and_true] at e7
  subst e7
  obtain ⟨a, ea, ga⟩ := tw55 enc base spare held k _ _ h0 w0
  simp only [eVis, List.cons.injEq, and_true] at ea
  obtain ⟨rfl, rfl⟩ := ea
  obtain ⟨LA, ll, lc, el, fr, _⟩ := rows_w (E := eZ) Try.underlying56 cO3 (int_w Try.underlying3) (by decide +kernel) h5 w5
  simp only [List.cons.injEq, and_true] at el
  subst el
  exact ⟨⟨a.kind, a.item, m1, m2, m3, m4, ll, m6, m7, LA, lc⟩, rfl, fr, ga⟩
theorem tw52 : TellsW Try.prog w 52 ePL (fun p => Fr eST (fun b => b < w.heap.size) w p.sA p.steps ∧ NS (fun b => b < w.heap.size) w p.steps ∧ ∀ s ∈ p.steps, i64 s.kind) := by
 intro H enc base spare held n cs y h hw
 obtain ⟨k, hl, hf⟩ := struct_w Try.underlying52 h hw
 rw [cO52] at hl
 match cs, hl with
 | [v0, v1, v2, v3, v4, v5, v6], _ =>
  obtain ⟨y0, h0, w0⟩ := hf 0 _ rfl
  replace h0 : DataW.trod enc Try.prog w base spare held k 3 (([v0, v1, v2, v3, v4, v5, v6].drop 0).take (Try.prog.cellsOf 3)) = some y0 := h0
  rw [cO3] at h0
  replace h0 : DataW.trod enc Try.prog w base spare held k 3 [v0] = some y0 := h0
  obtain ⟨y1, h1, w1⟩ := hf 1 _ rfl
  replace h1 : DataW.trod enc Try.prog w base spare held k 50 (([v0, v1, v2, v3, v4, v5, v6].drop 1).take (Try.prog.cellsOf 50)) = some y1 := h1
  rw [cO50] at h1
  replace h1 : DataW.trod enc Try.prog w base spare held k 50 [v1] = some y1 := h1
  obtain ⟨y2, h2, w2⟩ := hf 2 _ rfl
  replace h2 : DataW.trod enc Try.prog w base spare held k 3 (([v0, v1, v2, v3, v4, v5, v6].drop 2).take (Try.prog.cellsOf 3)) = some y2 := h2
  rw [cO3] at h2
  replace h2 : DataW.trod enc Try.prog w base spare held k 3 [v2] = some y2 := h2
  obtain ⟨y3, h3, w3⟩ := hf 3 _ rfl
  replace h3 : DataW.trod enc Try.prog w base spare held k 3 (([v0, v1, v2, v3, v4, v5, v6].drop 3).take (Try.prog.cellsOf 3)) = some y3 := h3
  rw [cO3] at h3
  replace h3 : DataW.trod enc Try.prog w base spare held k 3 [v3] = some y3 := h3
  obtain ⟨y4, h4, w4⟩ := hf 4 _ rfl
  replace h4 : DataW.trod enc Try.prog w base spare held k 3 (([v0, v1, v2, v3, v4, v5, v6].drop 4).take (Try.prog.cellsOf 3)) = some y4 := h4
  rw [cO3] at h4
  replace h4 : DataW.trod enc Try.prog w base spare held k 3 [v4] = some y4 := h4
  obtain ⟨y5, h5, w5⟩ := hf 5 _ rfl
  replace h5 : DataW.trod enc Try.prog w base spare held k 3 (([v0, v1, v2, v3, v4, v5, v6].drop 5).take (Try.prog.cellsOf 3)) = some y5 := h5
  rw [cO3] at h5
  replace h5 : DataW.trod enc Try.prog w base spare held k 3 [v5] = some y5 := h5
  obtain ⟨y6, h6, w6⟩ := hf 6 _ rfl
  replace h6 : DataW.trod enc Try.prog w base spare held k 3 (([v0, v1, v2, v3, v4, v5, v6].drop 6).take (Try.prog.cellsOf 3)) = some y6 := h6
  rw [cO3] at h6
  replace h6 : DataW.trod enc Try.prog w base spare held k 3 [v6] = some y6 := h6
  obtain ⟨m0, e0, _, _⟩ := DataW.trod_int Try.underlying3 h0
  simp only [List.cons.injEq, and_true] at e0
  subst e0
  obtain ⟨m2, e2, _, _⟩ := DataW.trod_int Try.underlying3 h2
  simp only [List.cons.injEq, and_true] at e2
  subst e2
  obtain ⟨m3, e3, _, _⟩ := DataW.trod_int Try.underlying3 h3
  simp only [List.cons.injEq, and_true] at e3
  subst e3
  obtain ⟨m4, e4, _, _⟩ := DataW.trod_int Try.underlying3 h4
  simp only [List.cons.injEq, and_true] at e4
  subst e4
  obtain ⟨m5, e5, _, _⟩ := DataW.trod_int Try.underlying3 h5
  simp only [List.cons.injEq, and_true] at e5
  subst e5
  obtain ⟨m6, e6, _, _⟩ := DataW.trod_int Try.underlying3 h6
  simp only [List.cons.injEq, and_true] at e6
  subst e6
  obtain ⟨LA, ll, lc, el, fr, gd⟩ := rows_w (E := eST) Try.underlying50 cO58 tw58 (by decide +kernel) h1 w1
  simp only [List.cons.injEq, and_true] at el
  subst el
  exact ⟨⟨m0, ll, m2, m3, m4, m5, m6, LA, lc⟩, rfl, fr, fun s hs => (gd s hs).1, fun s hs => (gd s hs).2⟩
structure RP where
 cd : Int
 at_ : Int
 path : ByteArray
 op : Bool
 s : SU
 pA : Option Addr
 pc : Nat
 ps : List PV
 kA : Option Addr
 kc : Nat
 lf : List TK
def eRP : Enc RP where
 sz := 14
 enc x := [.int .i64 x.cd, .int .i64 x.at_, .string x.path, .bool x.op, .int .i64 x.s.routes, .int .i64 x.s.value, .int .i64 x.s.cost, .int .i64 x.s.time, .int .i64 x.s.dist, .int .i64 x.s.wait, .int .i64 x.s.serv, .int .i64 x.s.left, .slice x.pA x.ps.length x.pc, .slice x.kA x.lf.length x.kc]
 len _ := rfl
 one x u hu := by simp at hu; rcases hu with rfl | rfl | rfl | rfl | rfl | rfl | rfl | rfl | rfl | rfl | rfl | rfl | rfl | rfl <;> rfl
 pos := by decide
theorem tw30 : TellsW Try.prog w 30 eRP (fun x => Fr ePL (fun b => b < w.heap.size) w x.pA x.ps ∧ NP (fun b => b < w.heap.size) w x.ps ∧ Fr eTK (fun b => b < w.heap.size) w x.kA x.lf ∧ ∀ p ∈ x.ps, ∀ s ∈ p.steps, i64 s.kind) := by
 intro H enc base spare held n cs y h hw
 obtain ⟨k, hl, hf⟩ := struct_w Try.underlying30 h hw
 rw [cO30] at hl
 match cs, hl with
 | [v0, v1, v2, v3, v4, v5, v6, v7, v8, v9, v10, v11, v12, v13], _ =>
  obtain ⟨y0, h0, w0⟩ := hf 0 _ rfl
  replace h0 : DataW.trod enc Try.prog w base spare held k 24 (([v0, v1, v2, v3, v4, v5, v6, v7, v8, v9, v10, v11, v12, v13].drop 0).take (Try.prog.cellsOf 24)) = some y0 := h0
  rw [cO24] at h0
  replace h0 : DataW.trod enc Try.prog w base spare held k 24 [v0, v1, v2] = some y0 := h0
  obtain ⟨y1, h1, w1⟩ := hf 1 _ rfl
  replace h1 : DataW.trod enc Try.prog w base spare held k 4 (([v0, v1, v2, v3, v4, v5, v6, v7, v8, v9, v10, v11, v12, v13].drop 3).take (Try.prog.cellsOf 4)) = some y1 := h1
  rw [cO4] at h1
  replace h1 : DataW.trod enc Try.prog w base spare held k 4 [v3] = some y1 := h1
  obtain ⟨y2, h2, w2⟩ := hf 2 _ rfl
  replace h2 : DataW.trod enc Try.prog w base spare held k 26 (([v0, v1, v2, v3, v4, v5, v6, v7, v8, v9, v10, v11, v12, v13].drop 4).take (Try.prog.cellsOf 26)) = some y2 := h2
  rw [cO26] at h2
  replace h2 : DataW.trod enc Try.prog w base spare held k 26 [v4, v5, v6, v7, v8, v9, v10, v11] = some y2 := h2
  obtain ⟨y3, h3, w3⟩ := hf 3 _ rfl
  replace h3 : DataW.trod enc Try.prog w base spare held k 27 (([v0, v1, v2, v3, v4, v5, v6, v7, v8, v9, v10, v11, v12, v13].drop 12).take (Try.prog.cellsOf 27)) = some y3 := h3
  rw [cO27] at h3
  replace h3 : DataW.trod enc Try.prog w base spare held k 27 [v12] = some y3 := h3
  obtain ⟨y4, h4, w4⟩ := hf 4 _ rfl
  replace h4 : DataW.trod enc Try.prog w base spare held k 28 (([v0, v1, v2, v3, v4, v5, v6, v7, v8, v9, v10, v11, v12, v13].drop 13).take (Try.prog.cellsOf 28)) = some y4 := h4
  rw [cO28] at h4
  replace h4 : DataW.trod enc Try.prog w base spare held k 28 [v13] = some y4 := h4
  obtain ⟨m1, e1, _⟩ := DataW.trod_bool Try.underlying4 h1
  simp only [List.cons.injEq, and_true] at e1
  subst e1
  obtain ⟨a, ea, _⟩ := tw24 enc base spare held k _ _ h0 w0
  simp only [eFl, List.cons.injEq, and_true] at ea
  obtain ⟨rfl, rfl, rfl⟩ := ea
  obtain ⟨b, eb, _⟩ := tw26 enc base spare held k _ _ h2 w2
  simp only [eSU, List.cons.injEq, and_true] at eb
  obtain ⟨rfl, rfl, rfl, rfl, rfl, rfl, rfl, rfl⟩ := eb
  obtain ⟨PA, pl, pc, ep, frp, gp⟩ := rows_w (E := ePL) Try.underlying27 cO52 tw52 (by decide +kernel) h3 w3
  simp only [List.cons.injEq, and_true] at ep
  subst ep
  obtain ⟨KA, kl, kc, ek, frk, _⟩ := rows_w (E := eTK) Try.underlying28 cO62 tw62 (by decide +kernel) h4 w4
  simp only [List.cons.injEq, and_true] at ek
  subst ek
  exact ⟨⟨a.cd, a.at_, a.path, m1, b, PA, pc, pl, KA, kc, kl⟩, rfl, frp, fun p hp => ⟨(gp p hp).1, (gp p hp).2.1⟩, frk, fun p hp => (gp p hp).2.2⟩
end
end Go.Proofs.Ythmkelkefmfmgaa.Sx
