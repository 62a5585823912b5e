import Derived.Test.YthmkelkefmfmgaaProg
import Derived.Test.YthmkelkefmfmgaaS7
set_option linter.unusedVariables false
set_option linter.unusedSimpArgs false
set_option linter.unusedSectionVars false
set_option maxRecDepth 20000
set_option maxHeartbeats 4000000
namespace Go.Proofs.Ythmkelkefmfmgaa.Sx.FGC
open Go Go.SX Go.Proofs
theorem zf30 : (Try.prog.info? 30).bind (fun i => i.zero.map Value.cells) = some (List.toArray [.int .i64 0, .int .i64 0, .string ⟨#[]⟩, .bool false, .int .i64 0, .int .i64 0, .int .i64 0, .int .i64 0, .int .i64 0, .int .i64 0, .int .i64 0, .int .i64 0, .slice none 0 0, .slice none 0 0]) := by kernel_rfl
theorem zf112 : (Try.prog.info? 112).bind (fun i => i.zero.map Value.cells) = some (List.toArray [.slice none 0 0, .int .i64 0]) := by kernel_rfl
theorem ty112 : ty Try.prog 112 = some (true, 2) := by kernel_rfl
theorem hbd60 : hasBody Try.prog 60 = true := by kernel_rfl
theorem hbd61 : hasBody Try.prog 61 = true := by kernel_rfl
theorem hbd62 : hasBody Try.prog 62 = true := by kernel_rfl
theorem ty30 : ty Try.prog 30 = some (true, 14) := by kernel_rfl
theorem mo : Try.prog.follows .mixedOrders = true := by kernel_rfl
theorem hbd63 : hasBody Try.prog 63 = true := by kernel_rfl
theorem fo30_3 : fo Try.prog 30 3 = some 12 := by kernel_rfl
theorem ty27 : ty Try.prog 27 = some (false, 1) := by kernel_rfl
theorem hbd64 : hasBody Try.prog 64 = true := by kernel_rfl
theorem ai52 : (Try.prog.info? 52).map (fun i => (i.zero, i.size, i.bytes)) = some (some (.agg #[.int .i64 0, .slice none 0 0, .int .i64 0, .int .i64 0, .int .i64 0, .int .i64 0, .int .i64 0]), 7, 72) := by kernel_rfl
theorem fo30_4 : fo Try.prog 30 4 = some 13 := by kernel_rfl
theorem ty28 : ty Try.prog 28 = some (false, 1) := by kernel_rfl
theorem ai62 : (Try.prog.info? 62).map (fun i => (i.zero, i.size, i.bytes)) = some (some (.agg #[.bool false, .int .i64 0]), 2, 16) := by kernel_rfl
end Go.Proofs.Ythmkelkefmfmgaa.Sx.FGC
namespace Go.Proofs.Ythmkelkefmfmgaa.Sx
open Go Go.SX Go.Proofs FGC
theorem whole_g (A : Option Addr) (n : Nat) (c : Nat) (l : List TV) (S : Nat → Prop) (wf : World) (hP : Fr eTV S wf A l) (hN : NT S wf l) (hn : l.length = n) (hn0 : 0 < n) (hKW : KW l) :
  TR0 Try.prog 39 [.slice A n c] [] S wf (fun v_ C_ => ∃ (cd : Int) (at_ : Int) (path : ByteArray) (op : Bool) (x0 : Int) (x1 : Int) (x2 : Int) (x3 : Int) (x4 : Int) (x5 : Int) (x6 : Int) (x7 : Int) (pA : Option Addr) (pc : Nat) (Ps : List PV) (kA : Option Addr) (kc : Nat) (Lt : List TK) (ok : Bool), (Ps.length ≤ 8192) ∧ (Lt.length ≤ 8192) ∧ (∀ p ∈ Ps, bP p) ∧ v_ = .tuple #[.agg #[.int .i64 cd, .int .i64 at_, .string path, .bool op, .int .i64 x0, .int .i64 x1, .int .i64 x2, .int .i64 x3, .int .i64 x4, .int .i64 x5, .int .i64 x6, .int .i64 x7, .slice pA Ps.length pc, .slice kA Lt.length kc], .bool ok] ∧ C_ = [rw_ ePL 52 (.slice pA Ps.length pc) Ps, nestP 58 3 Ps, rw_ eTK 62 (.slice kA Lt.length kc) Lt]) := by
 have hla := hP.len
 refine TR.mk Try.func39 rfl Try.ntmps39 rfl rfl (fun w_ => ?_)
 refine .seq (.region ?_)
 refine .cons (st_alloc rfl rfl rfl rfl zf30 (fun b1 => ?_))
 refine .v (ev_as rfl rfl) rfl ?_
 refine .go idQ (.seq (.region ?_))
 refine .v (ev_mv rfl rfl) rfl ?_
 refine .v (ev_mv rfl rfl) rfl ?_
 refine .v (ev_len rfl Try.underlying34 rfl) rfl ?_
 refine .v (ev_sub rfl rfl rfl (r := ((n : Int) - 1)) rfl (by omega) (by omega)) rfl ?_
 refine .v (ev_any (v := .agg #[.slice A n c, .int .i64 ((n : Int) - 1)]) rfl (by kernel_rfl) (fun _ => by kernel_rfl)) rfl ?_
 refine .cons (st_alloc rfl rfl rfl rfl zf112 (fun b2 => ?_))
 refine .cons (st_storea (l' := [.slice A n c, .int .i64 ((n : Int) - 1)]) rfl rfl rfl ty112 rfl rfl rfl .h rfl rfl ?_)
 refine .go idQ (.seq (.seq (.region ?_)))
 refine .v (ev_lda rfl rfl (At.whole 0 rfl) ty112) rfl ?_
 refine .cons (st_call0 rfl rfl rfl rfl hbd60 rfl .n (kid_g A n c l ((n : Int) - 1) 0 _ _ hP hN (by first | omega | simp only [LL] <;> omega | simp <;> omega) (by omega) (by omega)) (fun v_q5 C_q5 q5 => ?_))
 obtain ⟨A23, c24, p6, rfl, rfl⟩ := q5
 show SP _ _ _ _ _ _ ⟨_, _ :: _, _, _⟩
 have hkr7 := kid_rng (l := l) (i := ((n : Int) - 1)) (k := 0) (by omega)
 have hkl8 := kid_len (l := l) (i := ((n : Int) - 1)) (k := 0) (by omega) (by omega)
 refine .cons (st_lendk rfl rfl rfl rfl hbd61 rfl .n (.c .h .n) (fun w_ hw => value_ A23 ((kidL l ((n : Int) - 1) 0).length) c24 (kidL l ((n : Int) - 1) 0) (kidI l ((n : Int) - 1) 0) _ _ (Fr.lendm hw 0 rfl (kid_len (l := l) (i := ((n : Int) - 1)) (k := 0) (by omega) (by omega)).1 (kid_fr p6 hP)) (by first | omega | simp only [LL] <;> omega | simp <;> omega) (by first | omega | simp only [LL] <;> omega | simp <;> omega)) ?_)
 refine .v (ev_any (v := .string ((gt (kidL l ((n : Int) - 1) 0) (kidI l ((n : Int) - 1) 0)).v.text)) rfl (by kernel_rfl) (fun _ => by kernel_rfl)) rfl ?_
 refine .go idQ (.block (.seq (.region ?_)))
 refine .v (ev_scmp rfl rfl rfl rfl) rfl ?_
 refine .v (ev_as rfl rfl) rfl ?_
 refine .go idQ ?_
 refine .condI rfl bV (fun h9 => ?_) (fun h9 => ?_)
 ·
  refine .seq ?_
  refine SC.draw mo [cel b1 [.int .i64 0, .int .i64 0, .string ⟨#[]⟩, .bool false, .int .i64 0, .int .i64 0, .int .i64 0, .int .i64 0, .int .i64 0, .int .i64 0, .int .i64 0, .int .i64 0, .slice none 0 0, .slice none 0 0] 30] [] (.c (.t (.t .h)) .n) (fun _ _ _ c hc => by cases hc) (fun wf_10 hl_10 hx_10 hR_10 => ?_)
  refine SR.k 0 rfl (by kernel_rfl) rfl (ev_lda (cs := [.slice A n c, .int .i64 ((n : Int) - 1)]) rfl rfl (At.d (At.lent hR_10 1 rfl rfl)) ty112) ?_
  refine SR.k 2 rfl (by kernel_rfl) rfl (ev_lda (cs := [.slice A n c, .int .i64 ((n : Int) - 1)]) rfl rfl (At.d (At.lent hR_10 1 rfl rfl)) ty112) ?_
  refine SR.k 4 rfl (by kernel_rfl) rfl (ev_lda (cs := [.slice A n c, .int .i64 ((n : Int) - 1)]) rfl rfl (At.d (At.lent hR_10 1 rfl rfl)) ty112) ?_
  refine SR.k 10 rfl (by kernel_rfl) rfl (ev_lda (cs := [.slice A n c, .int .i64 ((n : Int) - 1)]) rfl rfl (At.d (At.lent hR_10 1 rfl rfl)) ty112) ?_
  refine SR.one (j := 1) (by kernel_rfl) rfl (st_callk rfl rfl rfl rfl hbd62 rfl .n (num_g A n c l ((n : Int) - 1) 1 _ _ (Fr.ext hP hx_10) ((hN).ext hx_10) (by first | omega | simp only [LL] <;> omega | simp <;> omega) (by omega) (by omega)) ⟨tt0, ?_⟩)
  refine SR.one (j := 3) (by kernel_rfl) rfl (st_callk rfl rfl rfl rfl hbd62 rfl .n (num_g A n c l ((n : Int) - 1) 2 _ _ (Fr.ext hP hx_10) ((hN).ext hx_10) (by first | omega | simp only [LL] <;> omega | simp <;> omega) (by omega) (by omega)) ⟨tt0, ?_⟩)
  refine SR.one (j := 5) (by kernel_rfl) rfl (st_call0 rfl rfl rfl rfl hbd60 rfl .n (kid_g A n c l ((n : Int) - 1) 3 _ _ (Fr.ext hP hx_10) ((hN).ext hx_10) (by first | omega | simp only [LL] <;> omega | simp <;> omega) (by omega) (by omega)) (fun v_q13 C_q13 q13 => ⟨tt0, ?_⟩))
  obtain ⟨A211, c212, p14, rfl, rfl⟩ := q13
  show SR _ _ _ _ _ _ _ _ _ ⟨_, _ :: _, _, _⟩
  have hkr15 := kid_rng (l := l) (i := ((n : Int) - 1)) (k := 3) (by omega)
  have hkl16 := kid_len (l := l) (i := ((n : Int) - 1)) (k := 3) (by omega) (by omega)
  refine SR.one (j := 6) (by kernel_rfl) rfl (st_lendk rfl rfl rfl rfl hbd61 rfl .n (.c .h .n) (fun w_ hw => value_ A211 ((kidL l ((n : Int) - 1) 3).length) c212 (kidL l ((n : Int) - 1) 3) (kidI l ((n : Int) - 1) 3) _ _ (Fr.lendm hw 0 rfl (kid_len (l := l) (i := ((n : Int) - 1)) (k := 3) (by omega) (by omega)).1 (kid_fr p14 (Fr.ext hP hx_10))) (by first | omega | simp only [LL] <;> omega | simp <;> omega) (by first | omega | simp only [LL] <;> omega | simp <;> omega)) ⟨tt0, ?_⟩)
  refine SR.k 7 rfl (by kernel_rfl) rfl (ev_any (v := .string ((gt (kidL l ((n : Int) - 1) 3) (kidI l ((n : Int) - 1) 3)).v.text)) rfl (by kernel_rfl) (fun _ => by kernel_rfl)) ?_
  refine SR.k 8 rfl (by kernel_rfl) rfl (ev_any (v := .agg #[.int .i64 (numG l ((n : Int) - 1) 1), .int .i64 (numG l ((n : Int) - 1) 2), .string ((gt (kidL l ((n : Int) - 1) 3) (kidI l ((n : Int) - 1) 3)).v.text)]) rfl (by kernel_rfl) (fun _ => by kernel_rfl)) ?_
  refine SR.k 9 rfl (by kernel_rfl) rfl (ev_any (v := .agg #[.int .i64 (numG l ((n : Int) - 1) 1), .int .i64 (numG l ((n : Int) - 1) 2), .string ((gt (kidL l ((n : Int) - 1) 3) (kidI l ((n : Int) - 1) 3)).v.text), .bool false, .int .i64 0, .int .i64 0, .int .i64 0, .int .i64 0, .int .i64 0, .int .i64 0, .int .i64 0, .int .i64 0, .slice none 0 0, .slice none 0 0]) rfl (by kernel_rfl) (fun _ => by kernel_rfl)) ?_
  refine SR.one (j := 11) (by kernel_rfl) rfl (st_callk rfl rfl rfl rfl hbd62 rfl .n (num_g A n c l ((n : Int) - 1) 1 _ _ (Fr.ext hP hx_10) ((hN).ext hx_10) (by first | omega | simp only [LL] <;> omega | simp <;> omega) (by omega) (by omega)) ⟨tt0, ?_⟩)
  refine SR.k 12 rfl (by kernel_rfl) rfl (ev_cmp rfl rfl rfl rfl) ?_
  refine SR.one (j := 13) (by kernel_rfl) rfl (st_storea (l' := [.int .i64 (numG l ((n : Int) - 1) 1), .int .i64 (numG l ((n : Int) - 1) 2), .string ((gt (kidL l ((n : Int) - 1) 3) (kidI l ((n : Int) - 1) 3)).v.text), .bool false, .int .i64 0, .int .i64 0, .int .i64 0, .int .i64 0, .int .i64 0, .int .i64 0, .int .i64 0, .int .i64 0, .slice none 0 0, .slice none 0 0]) rfl rfl rfl ty30 rfl rfl rfl (.t .h) rfl rfl ⟨tt0, ?_⟩)
  refine SR.k 14 rfl (by kernel_rfl) rfl (ev_as rfl rfl) ?_
  refine SR.fin (by kernel_rfl) hl_10 hx_10 hR_10 (.c (.c .n)) ?_
  refine SQ.go idQ ?_
  refine SC.nilrow ePL 52 ?_
  refine SC.nestP0 58 3 ?_
  refine SC.nilrow eTK 62 ?_
  exact .ret idQ (retv2 Try.results39 (.c 3 rfl rfl ty30) (.t rfl) (.c (.t (.t .h)) (.c (.t .h) (.c .h .n))) ⟨(numG l ((n : Int) - 1) 1), (numG l ((n : Int) - 1) 2), (gt (kidL l ((n : Int) - 1) 3) (kidI l ((n : Int) - 1) 3)).v.text, false, 0, 0, 0, 0, 0, 0, 0, 0, none, 0, ([] : List PV), none, 0, ([] : List TK), ((numG l ((n : Int) - 1) 1) != 0), (by decide), (by decide), (fun p hp => by cases hp), rfl, rfl⟩)
 refine .seq (.region ?_)
 refine .v (ev_scmp rfl rfl rfl rfl) rfl ?_
 refine .v (ev_as rfl rfl) rfl ?_
 refine .go idQ ?_
 refine .condI rfl bV (fun h17 => ?_) (fun h17 => ?_)
 ·
  refine .seq (.region ?_)
  refine .v (ev_lda rfl rfl (At.whole 1 rfl) ty112) rfl ?_
  refine .cons (st_call0 rfl rfl rfl rfl hbd60 rfl .n (kid_g A n c l ((n : Int) - 1) 2 _ _ hP hN (by first | omega | simp only [LL] <;> omega | simp <;> omega) (by omega) (by omega)) (fun v_q20 C_q20 q20 => ?_))
  obtain ⟨A218, c219, p21, rfl, rfl⟩ := q20
  show SP _ _ _ _ _ _ ⟨_, _ :: _, _, _⟩
  have hkr22 := kid_rng (l := l) (i := ((n : Int) - 1)) (k := 2) (by omega)
  have hkl23 := kid_len (l := l) (i := ((n : Int) - 1)) (k := 2) (by omega) (by omega)
  refine .cons (st_alloc rfl rfl rfl rfl zf112 (fun b24 => ?_))
  refine .cons (st_storea (l' := [.slice A218 ((kidL l ((n : Int) - 1) 2).length) c219, .int .i64 (kidI l ((n : Int) - 1) 2)]) rfl rfl rfl ty112 rfl rfl rfl .h rfl rfl ?_)
  refine .go idQ (.seq ?_)
  refine SC.draw mo [] [] .n (fun _ _ _ c hc => by cases hc) (fun wf_25 hl_25 hx_25 hR_25 => ?_)
  refine SR.cut (fun bb26 => ([(0, .slice A n c), (2, .pointer (some ⟨b1, 0, none⟩)), (3, .bool false), (11, .slice A n c), (12, .slice A n c), (13, .int .i64 (n : Int)), (14, .int .i64 ((n : Int) - 1)), (15, .agg #[.slice A n c, .int .i64 ((n : Int) - 1)]), (4, .pointer (some ⟨b2, 0, none⟩)), (16, .agg #[.slice A n c, .int .i64 ((n : Int) - 1)]), (17, .agg #[.slice A23 ((kidL l ((n : Int) - 1) 0).length) c24, .int .i64 (kidI l ((n : Int) - 1) 0)]), (18, .agg #[.int .i64 ((gt (kidL l ((n : Int) - 1) 0) (kidI l ((n : Int) - 1) 0)).v.kind), .bool ((gt (kidL l ((n : Int) - 1) 0) (kidI l ((n : Int) - 1) 0)).v.truth), .int .i64 ((gt (kidL l ((n : Int) - 1) 0) (kidI l ((n : Int) - 1) 0)).v.num), .string ((gt (kidL l ((n : Int) - 1) 0) (kidI l ((n : Int) - 1) 0)).v.text), .slice ((gt (kidL l ((n : Int) - 1) 0) (kidI l ((n : Int) - 1) 0)).nA) ((gt (kidL l ((n : Int) - 1) 0) (kidI l ((n : Int) - 1) 0)).v.ns.length) ((gt (kidL l ((n : Int) - 1) 0) (kidI l ((n : Int) - 1) 0)).nc), .slice ((gt (kidL l ((n : Int) - 1) 0) (kidI l ((n : Int) - 1) 0)).kA) ((gt (kidL l ((n : Int) - 1) 0) (kidI l ((n : Int) - 1) 0)).v.ks.length) ((gt (kidL l ((n : Int) - 1) 0) (kidI l ((n : Int) - 1) 0)).kc)]), (19, .string ((gt (kidL l ((n : Int) - 1) 0) (kidI l ((n : Int) - 1) 0)).v.text)), (21, .bool (((gt (kidL l ((n : Int) - 1) 0) (kidI l ((n : Int) - 1) 0)).v.text).toList == (⟨#[101, 114, 114, 111, 114]⟩ : ByteArray).toList)), (20, .bool (((gt (kidL l ((n : Int) - 1) 0) (kidI l ((n : Int) - 1) 0)).v.text).toList == (⟨#[101, 114, 114, 111, 114]⟩ : ByteArray).toList)), (36, .bool (((gt (kidL l ((n : Int) - 1) 0) (kidI l ((n : Int) - 1) 0)).v.text).toList == (⟨#[111, 107]⟩ : ByteArray).toList)), (35, .bool (((gt (kidL l ((n : Int) - 1) 0) (kidI l ((n : Int) - 1) 0)).v.text).toList == (⟨#[111, 107]⟩ : ByteArray).toList)), (37, .agg #[.slice A n c, .int .i64 ((n : Int) - 1)]), (38, .agg #[.slice A218 ((kidL l ((n : Int) - 1) 2).length) c219, .int .i64 (kidI l ((n : Int) - 1) 2)]), (5, .pointer (some ⟨b24, 0, none⟩)), (39, .agg #[.slice A n c, .int .i64 ((n : Int) - 1)]), (41, .agg #[.int .i64 ((gt (kidL l ((n : Int) - 1) 1) (kidI l ((n : Int) - 1) 1)).v.kind), .bool ((gt (kidL l ((n : Int) - 1) 1) (kidI l ((n : Int) - 1) 1)).v.truth), .int .i64 ((gt (kidL l ((n : Int) - 1) 1) (kidI l ((n : Int) - 1) 1)).v.num), .string ((gt (kidL l ((n : Int) - 1) 1) (kidI l ((n : Int) - 1) 1)).v.text), .slice ((gt (kidL l ((n : Int) - 1) 1) (kidI l ((n : Int) - 1) 1)).nA) ((gt (kidL l ((n : Int) - 1) 1) (kidI l ((n : Int) - 1) 1)).v.ns.length) ((gt (kidL l ((n : Int) - 1) 1) (kidI l ((n : Int) - 1) 1)).nc), .slice ((gt (kidL l ((n : Int) - 1) 1) (kidI l ((n : Int) - 1) 1)).kA) ((gt (kidL l ((n : Int) - 1) 1) (kidI l ((n : Int) - 1) 1)).v.ks.length) ((gt (kidL l ((n : Int) - 1) 1) (kidI l ((n : Int) - 1) 1)).kc)]), (42, .bool ((gt (kidL l ((n : Int) - 1) 1) (kidI l ((n : Int) - 1) 1)).v.truth)), (43, .agg #[.slice A218 ((kidL l ((n : Int) - 1) 2).length) c219, .int .i64 (kidI l ((n : Int) - 1) 2)]), (44, .int .i64 (gN l n 0)), (45, .agg #[.slice A218 ((kidL l ((n : Int) - 1) 2).length) c219, .int .i64 (kidI l ((n : Int) - 1) 2)]), (46, .int .i64 (gN l n 1)), (47, .agg #[.slice A218 ((kidL l ((n : Int) - 1) 2).length) c219, .int .i64 (kidI l ((n : Int) - 1) 2)]), (48, .int .i64 (gN l n 2)), (49, .agg #[.slice A218 ((kidL l ((n : Int) - 1) 2).length) c219, .int .i64 (kidI l ((n : Int) - 1) 2)]), (50, .int .i64 (gN l n 3)), (51, .agg #[.slice A218 ((kidL l ((n : Int) - 1) 2).length) c219, .int .i64 (kidI l ((n : Int) - 1) 2)]), (52, .int .i64 (gN l n 4)), (53, .agg #[.slice A218 ((kidL l ((n : Int) - 1) 2).length) c219, .int .i64 (kidI l ((n : Int) - 1) 2)]), (54, .int .i64 (gN l n 5)), (55, .agg #[.slice A218 ((kidL l ((n : Int) - 1) 2).length) c219, .int .i64 (kidI l ((n : Int) - 1) 2)]), (56, .int .i64 (gN l n 6)), (57, .agg #[.slice A218 ((kidL l ((n : Int) - 1) 2).length) c219, .int .i64 (kidI l ((n : Int) - 1) 2)]), (58, .int .i64 (gN l n 7)), (59, .agg #[.int .i64 (gN l n 0), .int .i64 (gN l n 1), .int .i64 (gN l n 2), .int .i64 (gN l n 3), .int .i64 (gN l n 4), .int .i64 (gN l n 5), .int .i64 (gN l n 6), .int .i64 (gN l n 7)]), (60, .agg #[.int .i64 0, .int .i64 0, .string ⟨#[]⟩, .bool ((gt (kidL l ((n : Int) - 1) 1) (kidI l ((n : Int) - 1) 1)).v.truth), .int .i64 (gN l n 0), .int .i64 (gN l n 1), .int .i64 (gN l n 2), .int .i64 (gN l n 3), .int .i64 (gN l n 4), .int .i64 (gN l n 5), .int .i64 (gN l n 6), .int .i64 (gN l n 7), .slice none 0 0, .slice none 0 0]), (6, .pointer (some ⟨bb26, 0, none⟩))], [cel bb26 [.int .i64 0, .int .i64 0, .string ⟨#[]⟩, .bool ((gt (kidL l ((n : Int) - 1) 1) (kidI l ((n : Int) - 1) 1)).v.truth), .int .i64 (gN l n 0), .int .i64 (gN l n 1), .int .i64 (gN l n 2), .int .i64 (gN l n 3), .int .i64 (gN l n 4), .int .i64 (gN l n 5), .int .i64 (gN l n 6), .int .i64 (gN l n 7), .slice none 0 0, .slice none 0 0] 30, cel b24 [.slice A218 ((kidL l ((n : Int) - 1) 2).length) c219, .int .i64 (kidI l ((n : Int) - 1) 2)] 112, mb (kidN l ((n : Int) - 1) 2) (rw_ eTV 90 (.slice A218 ((kidL l ((n : Int) - 1) 2).length) c219) (kidL l ((n : Int) - 1) 2)), mb (kidN l ((n : Int) - 1) 0) (rw_ eTV 90 (.slice A23 ((kidL l ((n : Int) - 1) 0).length) c24) (kidL l ((n : Int) - 1) 0)), cel b2 [.slice A n c, .int .i64 ((n : Int) - 1)] 112, cel b1 [.int .i64 0, .int .i64 0, .string ⟨#[]⟩, .bool false, .int .i64 0, .int .i64 0, .int .i64 0, .int .i64 0, .int .i64 0, .int .i64 0, .int .i64 0, .int .i64 0, .slice none 0 0, .slice none 0 0] 30])) S wf (fun bb26 => ?_) (fun key27 => ?_)
  ·
   show SQ _ _ _ ⟨[(0, .slice A n c), (2, .pointer (some ⟨b1, 0, none⟩)), (3, .bool false), (11, .slice A n c), (12, .slice A n c), (13, .int .i64 (n : Int)), (14, .int .i64 ((n : Int) - 1)), (15, .agg #[.slice A n c, .int .i64 ((n : Int) - 1)]), (4, .pointer (some ⟨b2, 0, none⟩)), (16, .agg #[.slice A n c, .int .i64 ((n : Int) - 1)]), (17, .agg #[.slice A23 ((kidL l ((n : Int) - 1) 0).length) c24, .int .i64 (kidI l ((n : Int) - 1) 0)]), (18, .agg #[.int .i64 ((gt (kidL l ((n : Int) - 1) 0) (kidI l ((n : Int) - 1) 0)).v.kind), .bool ((gt (kidL l ((n : Int) - 1) 0) (kidI l ((n : Int) - 1) 0)).v.truth), .int .i64 ((gt (kidL l ((n : Int) - 1) 0) (kidI l ((n : Int) - 1) 0)).v.num), .string ((gt (kidL l ((n : Int) - 1) 0) (kidI l ((n : Int) - 1) 0)).v.text), .slice ((gt (kidL l ((n : Int) - 1) 0) (kidI l ((n : Int) - 1) 0)).nA) ((gt (kidL l ((n : Int) - 1) 0) (kidI l ((n : Int) - 1) 0)).v.ns.length) ((gt (kidL l ((n : Int) - 1) 0) (kidI l ((n : Int) - 1) 0)).nc), .slice ((gt (kidL l ((n : Int) - 1) 0) (kidI l ((n : Int) - 1) 0)).kA) ((gt (kidL l ((n : Int) - 1) 0) (kidI l ((n : Int) - 1) 0)).v.ks.length) ((gt (kidL l ((n : Int) - 1) 0) (kidI l ((n : Int) - 1) 0)).kc)]), (19, .string ((gt (kidL l ((n : Int) - 1) 0) (kidI l ((n : Int) - 1) 0)).v.text)), (21, .bool (((gt (kidL l ((n : Int) - 1) 0) (kidI l ((n : Int) - 1) 0)).v.text).toList == (⟨#[101, 114, 114, 111, 114]⟩ : ByteArray).toList)), (20, .bool (((gt (kidL l ((n : Int) - 1) 0) (kidI l ((n : Int) - 1) 0)).v.text).toList == (⟨#[101, 114, 114, 111, 114]⟩ : ByteArray).toList)), (36, .bool (((gt (kidL l ((n : Int) - 1) 0) (kidI l ((n : Int) - 1) 0)).v.text).toList == (⟨#[111, 107]⟩ : ByteArray).toList)), (35, .bool (((gt (kidL l ((n : Int) - 1) 0) (kidI l ((n : Int) - 1) 0)).v.text).toList == (⟨#[111, 107]⟩ : ByteArray).toList)), (37, .agg #[.slice A n c, .int .i64 ((n : Int) - 1)]), (38, .agg #[.slice A218 ((kidL l ((n : Int) - 1) 2).length) c219, .int .i64 (kidI l ((n : Int) - 1) 2)]), (5, .pointer (some ⟨b24, 0, none⟩)), (39, .agg #[.slice A n c, .int .i64 ((n : Int) - 1)]), (41, .agg #[.int .i64 ((gt (kidL l ((n : Int) - 1) 1) (kidI l ((n : Int) - 1) 1)).v.kind), .bool ((gt (kidL l ((n : Int) - 1) 1) (kidI l ((n : Int) - 1) 1)).v.truth), .int .i64 ((gt (kidL l ((n : Int) - 1) 1) (kidI l ((n : Int) - 1) 1)).v.num), .string ((gt (kidL l ((n : Int) - 1) 1) (kidI l ((n : Int) - 1) 1)).v.text), .slice ((gt (kidL l ((n : Int) - 1) 1) (kidI l ((n : Int) - 1) 1)).nA) ((gt (kidL l ((n : Int) - 1) 1) (kidI l ((n : Int) - 1) 1)).v.ns.length) ((gt (kidL l ((n : Int) - 1) 1) (kidI l ((n : Int) - 1) 1)).nc), .slice ((gt (kidL l ((n : Int) - 1) 1) (kidI l ((n : Int) - 1) 1)).kA) ((gt (kidL l ((n : Int) - 1) 1) (kidI l ((n : Int) - 1) 1)).v.ks.length) ((gt (kidL l ((n : Int) - 1) 1) (kidI l ((n : Int) - 1) 1)).kc)]), (42, .bool ((gt (kidL l ((n : Int) - 1) 1) (kidI l ((n : Int) - 1) 1)).v.truth)), (43, .agg #[.slice A218 ((kidL l ((n : Int) - 1) 2).length) c219, .int .i64 (kidI l ((n : Int) - 1) 2)]), (44, .int .i64 (gN l n 0)), (45, .agg #[.slice A218 ((kidL l ((n : Int) - 1) 2).length) c219, .int .i64 (kidI l ((n : Int) - 1) 2)]), (46, .int .i64 (gN l n 1)), (47, .agg #[.slice A218 ((kidL l ((n : Int) - 1) 2).length) c219, .int .i64 (kidI l ((n : Int) - 1) 2)]), (48, .int .i64 (gN l n 2)), (49, .agg #[.slice A218 ((kidL l ((n : Int) - 1) 2).length) c219, .int .i64 (kidI l ((n : Int) - 1) 2)]), (50, .int .i64 (gN l n 3)), (51, .agg #[.slice A218 ((kidL l ((n : Int) - 1) 2).length) c219, .int .i64 (kidI l ((n : Int) - 1) 2)]), (52, .int .i64 (gN l n 4)), (53, .agg #[.slice A218 ((kidL l ((n : Int) - 1) 2).length) c219, .int .i64 (kidI l ((n : Int) - 1) 2)]), (54, .int .i64 (gN l n 5)), (55, .agg #[.slice A218 ((kidL l ((n : Int) - 1) 2).length) c219, .int .i64 (kidI l ((n : Int) - 1) 2)]), (56, .int .i64 (gN l n 6)), (57, .agg #[.slice A218 ((kidL l ((n : Int) - 1) 2).length) c219, .int .i64 (kidI l ((n : Int) - 1) 2)]), (58, .int .i64 (gN l n 7)), (59, .agg #[.int .i64 (gN l n 0), .int .i64 (gN l n 1), .int .i64 (gN l n 2), .int .i64 (gN l n 3), .int .i64 (gN l n 4), .int .i64 (gN l n 5), .int .i64 (gN l n 6), .int .i64 (gN l n 7)]), (60, .agg #[.int .i64 0, .int .i64 0, .string ⟨#[]⟩, .bool ((gt (kidL l ((n : Int) - 1) 1) (kidI l ((n : Int) - 1) 1)).v.truth), .int .i64 (gN l n 0), .int .i64 (gN l n 1), .int .i64 (gN l n 2), .int .i64 (gN l n 3), .int .i64 (gN l n 4), .int .i64 (gN l n 5), .int .i64 (gN l n 6), .int .i64 (gN l n 7), .slice none 0 0, .slice none 0 0]), (6, .pointer (some ⟨bb26, 0, none⟩))], [cel bb26 [.int .i64 0, .int .i64 0, .string ⟨#[]⟩, .bool ((gt (kidL l ((n : Int) - 1) 1) (kidI l ((n : Int) - 1) 1)).v.truth), .int .i64 (gN l n 0), .int .i64 (gN l n 1), .int .i64 (gN l n 2), .int .i64 (gN l n 3), .int .i64 (gN l n 4), .int .i64 (gN l n 5), .int .i64 (gN l n 6), .int .i64 (gN l n 7), .slice none 0 0, .slice none 0 0] 30, cel b24 [.slice A218 ((kidL l ((n : Int) - 1) 2).length) c219, .int .i64 (kidI l ((n : Int) - 1) 2)] 112, mb (kidN l ((n : Int) - 1) 2) (rw_ eTV 90 (.slice A218 ((kidL l ((n : Int) - 1) 2).length) c219) (kidL l ((n : Int) - 1) 2)), mb (kidN l ((n : Int) - 1) 0) (rw_ eTV 90 (.slice A23 ((kidL l ((n : Int) - 1) 0).length) c24) (kidL l ((n : Int) - 1) 0)), cel b2 [.slice A n c, .int .i64 ((n : Int) - 1)] 112, cel b1 [.int .i64 0, .int .i64 0, .string ⟨#[]⟩, .bool false, .int .i64 0, .int .i64 0, .int .i64 0, .int .i64 0, .int .i64 0, .int .i64 0, .int .i64 0, .int .i64 0, .slice none 0 0, .slice none 0 0] 30], S, wf⟩
   refine SQ.go idQ ?_
   refine .seq (.seq ?_)
   refine SC.nilrow ePL 52 ?_
   refine SC.nestP0 58 3 ?_
   refine .region ?_
   refine .v (ev_lda rfl rfl (At.whole 6 rfl) ty112) rfl ?_
   refine .cons (st_call0 rfl rfl rfl rfl hbd60 rfl .n (kid_g A n c l ((n : Int) - 1) 3 _ _ hP hN (by first | omega | simp only [LL] <;> omega | simp <;> omega) (by omega) (by omega)) (fun v_q30 C_q30 q30 => ?_))
   obtain ⟨A228, c229, p31, rfl, rfl⟩ := q30
   show SP _ _ _ _ _ _ ⟨_, _ :: _, _, _⟩
   have hkr32 := kid_rng (l := l) (i := ((n : Int) - 1)) (k := 3) (by omega)
   have hkl33 := kid_len (l := l) (i := ((n : Int) - 1)) (k := 3) (by omega) (by omega)
   refine .cons (st_lend0 rfl rfl rfl rfl hbd63 rfl .n (.c .h .n) (fun w_ hw => kids_ A228 ((kidL l ((n : Int) - 1) 3).length) c229 (kidL l ((n : Int) - 1) 3) (kidI l ((n : Int) - 1) 3) _ _ (Fr.lendm hw 0 rfl (kid_len (l := l) (i := ((n : Int) - 1)) (k := 3) (by omega) (by omega)).1 (kid_fr p31 hP)) (((kid_nt hN)).ext hw.lendx) (by first | omega | simp only [LL] <;> omega | simp <;> omega) (by first | omega | simp only [LL] <;> omega | simp <;> omega) (KW.ks (by first | exact kid_kw (kid_kw hKW) | exact kid_kw hKW) (by first | (exact kid_rng (by omega)) | omega)) (Nat.le_trans (KW.len (by first | exact kid_kw (kid_kw hKW) | exact kid_kw hKW) (by first | (exact kid_rng (by omega)) | omega)) (by decide))) (fun v_q35 C_q35 q35 => ?_))
   obtain ⟨u34, rfl, rfl⟩ := q35
   show SP _ _ _ _ _ _ ⟨_, _ :: _ :: _, _, _⟩
   refine .know (row_len 0 rfl) (fun hv38 => ?_)
   obtain ⟨A36, c37, rfl, hv38_1, hv38_2⟩ := hv38
   unfold maxLen at hv38_2
   refine .v (ev_len rfl Try.underlying115 rfl) rfl ?_
   refine .v (ev_mv rfl rfl) rfl ?_
   refine .go idQ (.block ?_)
   have hk3l := KW.len (kid_kw (l := l) (i := ((n : Int) - 1)) (k := 3) hKW) (kid_rng (l := l) (i := ((n : Int) - 1)) (k := 3) (by omega))
   refine .loop (X := Int × Value × (List PV)) (fun ⟨j, SV, Ls⟩ => 0 ≤ j ∧ j ≤ (gt (kidL l ((n : Int) - 1) 3) (kidI l ((n : Int) - 1) 3)).v.ks.length ∧ (Ls.length : Int) = j ∧ (∀ p ∈ Ls, bP p)) (fun ⟨j, SV, Ls⟩ => [(2, .pointer (some ⟨b1, 0, none⟩)), (4, .pointer (some ⟨b2, 0, none⟩)), (6, .pointer (some ⟨bb26, 0, none⟩)), (63, .slice A36 (((gt (kidL l ((n : Int) - 1) 3) (kidI l ((n : Int) - 1) 3)).v.ks).length) c37), (64, .int .i64 ((((gt (kidL l ((n : Int) - 1) 3) (kidI l ((n : Int) - 1) 3)).v.ks).length : Nat) : Int)), (65, .int .i64 j)]) (fun ⟨j, SV, Ls⟩ => [cel bb26 [.int .i64 0, .int .i64 0, .string ⟨#[]⟩, .bool ((gt (kidL l ((n : Int) - 1) 1) (kidI l ((n : Int) - 1) 1)).v.truth), .int .i64 (gN l n 0), .int .i64 (gN l n 1), .int .i64 (gN l n 2), .int .i64 (gN l n 3), .int .i64 (gN l n 4), .int .i64 (gN l n 5), .int .i64 (gN l n 6), .int .i64 (gN l n 7), SV, .slice none 0 0] 30, rw_ ePL 52 (SV) Ls, nestP 58 3 Ls, rw_ (ePt A228 ((kidL l ((n : Int) - 1) 3).length) c229) 112 (.slice A36 (((gt (kidL l ((n : Int) - 1) 3) (kidI l ((n : Int) - 1) 3)).v.ks).length) c37) ((gt (kidL l ((n : Int) - 1) 3) (kidI l ((n : Int) - 1) 3)).v.ks), cel b2 [.slice A n c, .int .i64 ((n : Int) - 1)] 112, cel b1 [.int .i64 0, .int .i64 0, .string ⟨#[]⟩, .bool false, .int .i64 0, .int .i64 0, .int .i64 0, .int .i64 0, .int .i64 0, .int .i64 0, .int .i64 0, .int .i64 0, .slice none 0 0, .slice none 0 0] 30]) (fun _ => S) (fun _ => wf) (fun ⟨j, SV, Ls⟩ => ((gt (kidL l ((n : Int) - 1) 3) (kidI l ((n : Int) - 1) 3)).v.ks.length - j.toNat)) (fun a_ w_ hs_ hw_ => ⟨⟨0, (.slice none 0 0), ([] : List PV)⟩, (by exact ⟨by omega, by omega, rfl, fun p hp => (by cases hp)⟩), hs_.mono (Sub.get (.c rfl (.c rfl (.c rfl (.c rfl (.c rfl (.c rfl .n))))))), hw_.keep (.c (.t (.t (.t (.t .h)))) (.c (.t (.t (.t .h))) (.c (.t (.t .h)) (.c .h (.c (.t (.t (.t (.t .h)))) (.c (.t (.t (.t (.t .h)))) .n))))))⟩) (fun ⟨j, SV, Ls⟩ ⟨q_0, q_1, q_2, q_3⟩ => ?_)
   show SC _ _ _ _ _ ⟨[(2, .pointer (some ⟨b1, 0, none⟩)), (4, .pointer (some ⟨b2, 0, none⟩)), (6, .pointer (some ⟨bb26, 0, none⟩)), (63, .slice A36 (((gt (kidL l ((n : Int) - 1) 3) (kidI l ((n : Int) - 1) 3)).v.ks).length) c37), (64, .int .i64 ((((gt (kidL l ((n : Int) - 1) 3) (kidI l ((n : Int) - 1) 3)).v.ks).length : Nat) : Int)), (65, .int .i64 j)], [cel bb26 [.int .i64 0, .int .i64 0, .string ⟨#[]⟩, .bool ((gt (kidL l ((n : Int) - 1) 1) (kidI l ((n : Int) - 1) 1)).v.truth), .int .i64 (gN l n 0), .int .i64 (gN l n 1), .int .i64 (gN l n 2), .int .i64 (gN l n 3), .int .i64 (gN l n 4), .int .i64 (gN l n 5), .int .i64 (gN l n 6), .int .i64 (gN l n 7), SV, .slice none 0 0] 30, rw_ ePL 52 (SV) Ls, nestP 58 3 Ls, rw_ (ePt A228 ((kidL l ((n : Int) - 1) 3).length) c229) 112 (.slice A36 (((gt (kidL l ((n : Int) - 1) 3) (kidI l ((n : Int) - 1) 3)).v.ks).length) c37) ((gt (kidL l ((n : Int) - 1) 3) (kidI l ((n : Int) - 1) 3)).v.ks), cel b2 [.slice A n c, .int .i64 ((n : Int) - 1)] 112, cel b1 [.int .i64 0, .int .i64 0, .string ⟨#[]⟩, .bool false, .int .i64 0, .int .i64 0, .int .i64 0, .int .i64 0, .int .i64 0, .int .i64 0, .int .i64 0, .int .i64 0, .slice none 0 0, .slice none 0 0] 30], S, wf⟩
   refine .seq (.region ?_)
   refine .v (ev_cmp rfl rfl rfl rfl) rfl ?_
   refine .go idQ (.seq ?_)
   refine .condI rfl bD (fun h39 => ?_) (fun h39 => ?_)
   ·
    refine .skipgo idQ (.seq (.block (.seq ?_)))
    have hqr := (KW.ks (kid_kw (l := l) (i := ((n : Int) - 1)) (k := 3) hKW) (kid_rng (l := l) (i := ((n : Int) - 1)) (k := 3) (by omega)) j (by omega) (by omega)).rng (n := (kidL l ((n : Int) - 1) 3).length) (kid_rng (l := l) (i := ((n : Int) - 1)) (k := 3) (by omega))
    unfold kidT at hqr
    have hfz40 := kid_fr (S := S) (wf := wf) p31 hP (kid_own (l := l) (i := ((n : Int) - 1)) (k := 3) (j := j) (by omega))
    refine .region ?_
    refine .v (ev_ix rfl Try.underlying115 ty112 rfl rfl (by omega) (by omega) (row_adr (i := j) 3 rfl (by omega) (by first | omega | simp only [LL] <;> omega | simp <;> omega))) rfl ?_
    refine .v (ev_lda rfl rfl (row_el (E := (ePt A228 ((kidL l ((n : Int) - 1) 3).length) c229)) (l := (gt (kidL l ((n : Int) - 1) 3) (kidI l ((n : Int) - 1) 3)).v.ks) (i := j) 3 rfl (by omega) (by first | omega | simp only [LL] <;> omega | simp <;> omega)) ty112) rfl ?_
    refine .cons (st_alloc rfl rfl rfl rfl zf112 (fun b41 => ?_))
    refine .cons (st_storea (l' := [.slice A228 ((kidL l ((n : Int) - 1) 3).length) c229, .int .i64 (gt ((gt (kidL l ((n : Int) - 1) 3) (kidI l ((n : Int) - 1) 3)).v.ks) j)]) rfl rfl rfl ty112 rfl rfl rfl .h rfl rfl ?_)
    refine .go idQ ?_
    refine SC.draw mo [cel bb26 [.int .i64 0, .int .i64 0, .string ⟨#[]⟩, .bool ((gt (kidL l ((n : Int) - 1) 1) (kidI l ((n : Int) - 1) 1)).v.truth), .int .i64 (gN l n 0), .int .i64 (gN l n 1), .int .i64 (gN l n 2), .int .i64 (gN l n 3), .int .i64 (gN l n 4), .int .i64 (gN l n 5), .int .i64 (gN l n 6), .int .i64 (gN l n 7), SV, .slice none 0 0] 30, rw_ ePL 52 (SV) Ls] [(7, fun w => At w bb26 0 [.int .i64 0, .int .i64 0, .string ⟨#[]⟩, .bool ((gt (kidL l ((n : Int) - 1) 1) (kidI l ((n : Int) - 1) 1)).v.truth), .int .i64 (gN l n 0), .int .i64 (gN l n 1), .int .i64 (gN l n 2), .int .i64 (gN l n 3), .int .i64 (gN l n 4), .int .i64 (gN l n 5), .int .i64 (gN l n 6), .int .i64 (gN l n 7), SV, .slice none 0 0])] (.c (.t .h) (.c (.t .h) .n)) (fun w_ _ hw_ => (sc1 (At.whole 0 rfl w_ hw_) sc0)) (fun wf_42 hl_42 hx_42 hR_42 => ?_)
    refine SR.k 0 rfl (by kernel_rfl) rfl (ev_fa rfl fo30_3 rfl (r := 12) rfl) ?_
    refine SR.k 1 rfl (by kernel_rfl) rfl (ev_ld1 rfl ty27 rfl (At.elem1 (v := SV) (At.ofcs 0 rfl (by kernel_rfl)) 12 rfl)) ?_
    refine SR.k 2 rfl (by kernel_rfl) rfl (ev_lda (cs := [.slice A228 ((kidL l ((n : Int) - 1) 3).length) c229, .int .i64 (gt ((gt (kidL l ((n : Int) - 1) 3) (kidI l ((n : Int) - 1) 3)).v.ks) j)]) rfl rfl (At.d (At.lent hR_42 0 rfl rfl)) ty112) ?_
    refine SR.one (j := 3) (by kernel_rfl) rfl (st_call0 rfl rfl rfl rfl hbd64 rfl .n (route_g A228 ((kidL l ((n : Int) - 1) 3).length) c229 (kidL l ((n : Int) - 1) 3) (gt ((gt (kidL l ((n : Int) - 1) 3) (kidI l ((n : Int) - 1) 3)).v.ks) j) _ _ (Fr.ext hfz40 hx_42) (((kid_nt hN)).ext hx_42) (by first | omega | simp only [LL] <;> omega | simp <;> omega) (by first | omega | simp only [LL] <;> omega | simp <;> omega) (kid_kw hKW)) (fun v_q46 C_q46 q46 => ⟨ttc (fun w_ hw_ => (tc1 (by obtain ⟨_, _, _, _, _, rfl, rfl⟩ := q46; first | exact At.whole 0 rfl w_ hw_ | exact At.whole 1 rfl w_ hw_ | exact At.whole 2 rfl w_ hw_ | exact At.whole 3 rfl w_ hw_ | exact At.whole 4 rfl w_ hw_ | exact At.whole 5 rfl w_ hw_ | exact At.whole 6 rfl w_ hw_) tc0)), ?_⟩))
    obtain ⟨sA43, sc44, Ls45, p47, p48, rfl, rfl⟩ := q46
    show SR _ _ _ _ _ _ _ _ _ ⟨_, _ :: _ :: _, _, _⟩
    refine SR.one (j := 4) (by kernel_rfl) rfl (st_lit ePL (e := 52) (l := [(PV.mk (numG (kidL l ((n : Int) - 1) 3) (gt ((gt (kidL l ((n : Int) - 1) 3) (kidI l ((n : Int) - 1) 3)).v.ks) j) 0) Ls45 (numG (kidL l ((n : Int) - 1) 3) (gt ((gt (kidL l ((n : Int) - 1) 3) (kidI l ((n : Int) - 1) 3)).v.ks) j) 2) (numG (kidL l ((n : Int) - 1) 3) (gt ((gt (kidL l ((n : Int) - 1) 3) (kidI l ((n : Int) - 1) 3)).v.ks) j) 3) (numG (kidL l ((n : Int) - 1) 3) (gt ((gt (kidL l ((n : Int) - 1) 3) (kidI l ((n : Int) - 1) 3)).v.ks) j) 4) (numG (kidL l ((n : Int) - 1) 3) (gt ((gt (kidL l ((n : Int) - 1) 3) (kidI l ((n : Int) - 1) 3)).v.ks) j) 5) (numG (kidL l ((n : Int) - 1) 3) (gt ((gt (kidL l ((n : Int) - 1) 3) (kidI l ((n : Int) - 1) 3)).v.ks) j) 1) sA43 sc44)]) rfl rfl rfl rfl (by kernel_rfl) rfl rfl (fun w => by kernel_rfl) (fun b49 => ⟨ttc (fun w_ hw_ => (tc1 (by first | exact At.whole 0 rfl w_ hw_ | exact At.whole 1 rfl w_ hw_ | exact At.whole 2 rfl w_ hw_ | exact At.whole 3 rfl w_ hw_ | exact At.whole 4 rfl w_ hw_ | exact At.whole 5 rfl w_ hw_ | exact At.whole 6 rfl w_ hw_) tc0)), ?_⟩))
    refine SR.one (j := 5) (by kernel_rfl) rfl (st_app (E := ePL) (m := [(PV.mk (numG (kidL l ((n : Int) - 1) 3) (gt ((gt (kidL l ((n : Int) - 1) 3) (kidI l ((n : Int) - 1) 3)).v.ks) j) 0) Ls45 (numG (kidL l ((n : Int) - 1) 3) (gt ((gt (kidL l ((n : Int) - 1) 3) (kidI l ((n : Int) - 1) 3)).v.ks) j) 2) (numG (kidL l ((n : Int) - 1) 3) (gt ((gt (kidL l ((n : Int) - 1) 3) (kidI l ((n : Int) - 1) 3)).v.ks) j) 3) (numG (kidL l ((n : Int) - 1) 3) (gt ((gt (kidL l ((n : Int) - 1) 3) (kidI l ((n : Int) - 1) 3)).v.ks) j) 4) (numG (kidL l ((n : Int) - 1) 3) (gt ((gt (kidL l ((n : Int) - 1) 3) (kidI l ((n : Int) - 1) 3)).v.ks) j) 5) (numG (kidL l ((n : Int) - 1) 3) (gt ((gt (kidL l ((n : Int) - 1) 3) (kidI l ((n : Int) - 1) 3)).v.ks) j) 1) sA43 sc44)]) rfl rfl rfl rfl Try.underlying27 ai52 rfl rfl rfl (.t (.t (.t (.t .h)))) (by first | rfl | omega | simp) (row_src 0 rfl) (by first | omega | simp only [LL] <;> omega | simp <;> omega) rfl (fun v50 => ⟨ttc (fun w_ hw_ => (tc1 (by first | exact At.whole 0 rfl w_ hw_ | exact At.whole 1 rfl w_ hw_ | exact At.whole 2 rfl w_ hw_ | exact At.whole 3 rfl w_ hw_ | exact At.whole 4 rfl w_ hw_ | exact At.whole 5 rfl w_ hw_ | exact At.whole 6 rfl w_ hw_) tc0)), ?_⟩))
    refine SR.k 6 rfl (by kernel_rfl) rfl (ev_fa rfl fo30_3 rfl (r := 12) rfl) ?_
    refine .know (row_len 0 rfl) (fun hv53 => ?_)
    obtain ⟨A51, c52, rfl, hv53_1, hv53_2⟩ := hv53
    unfold maxLen at hv53_2
    refine SR.one (j := 7) (by kernel_rfl) rfl (st_store1 rfl rfl rfl ty27 rfl rfl rfl (.t (.t (.t (.t .h)))) (.t (.t (.t (.t (.t (.t (.t (.t (.t (.t (.t (.t .h)))))))))))) ⟨ttc (fun w_ hw_ => (tc2 (by kernel_rfl) tc0)), ?_⟩)
    refine SR.fin (by kernel_rfl) hl_42 hx_42 hR_42 (.c (.c (.c (.c (.c .n))))) ?_
    refine SQ.go idQ ?_
    refine SC.packP (PV.mk (numG (kidL l ((n : Int) - 1) 3) (gt ((gt (kidL l ((n : Int) - 1) 3) (kidI l ((n : Int) - 1) 3)).v.ks) j) 0) Ls45 (numG (kidL l ((n : Int) - 1) 3) (gt ((gt (kidL l ((n : Int) - 1) 3) (kidI l ((n : Int) - 1) 3)).v.ks) j) 2) (numG (kidL l ((n : Int) - 1) 3) (gt ((gt (kidL l ((n : Int) - 1) 3) (kidI l ((n : Int) - 1) 3)).v.ks) j) 3) (numG (kidL l ((n : Int) - 1) 3) (gt ((gt (kidL l ((n : Int) - 1) 3) (kidI l ((n : Int) - 1) 3)).v.ks) j) 4) (numG (kidL l ((n : Int) - 1) 3) (gt ((gt (kidL l ((n : Int) - 1) 3) (kidI l ((n : Int) - 1) 3)).v.ks) j) 5) (numG (kidL l ((n : Int) - 1) 3) (gt ((gt (kidL l ((n : Int) - 1) 3) (kidI l ((n : Int) - 1) 3)).v.ks) j) 1) sA43 sc44) (.c (.t (.t (.t (.t (.t (.t .h)))))) (.c (.t (.t (.t .h))) (.c (.t (.t (.t .h))) .n))) (by first | omega | (simp; omega)) ?_
    refine .region ?_
    refine .v (ev_add rfl rfl rfl (r := (j + 1)) rfl (by omega) (by omega)) rfl ?_
    refine .v (ev_mv rfl rfl) rfl ?_
    exact SP.nil (SQ.roundb (X := Int × Value × (List PV)) (x := (j, SV, Ls)) ⟨(j + 1), .slice A51 ((Ls ++ [(PV.mk (numG (kidL l ((n : Int) - 1) 3) (gt ((gt (kidL l ((n : Int) - 1) 3) (kidI l ((n : Int) - 1) 3)).v.ks) j) 0) Ls45 (numG (kidL l ((n : Int) - 1) 3) (gt ((gt (kidL l ((n : Int) - 1) 3) (kidI l ((n : Int) - 1) 3)).v.ks) j) 2) (numG (kidL l ((n : Int) - 1) 3) (gt ((gt (kidL l ((n : Int) - 1) 3) (kidI l ((n : Int) - 1) 3)).v.ks) j) 3) (numG (kidL l ((n : Int) - 1) 3) (gt ((gt (kidL l ((n : Int) - 1) 3) (kidI l ((n : Int) - 1) 3)).v.ks) j) 4) (numG (kidL l ((n : Int) - 1) 3) (gt ((gt (kidL l ((n : Int) - 1) 3) (kidI l ((n : Int) - 1) 3)).v.ks) j) 5) (numG (kidL l ((n : Int) - 1) 3) (gt ((gt (kidL l ((n : Int) - 1) 3) (kidI l ((n : Int) - 1) 3)).v.ks) j) 1) sA43 sc44)]).length) c52, (Ls ++ [(PV.mk (numG (kidL l ((n : Int) - 1) 3) (gt ((gt (kidL l ((n : Int) - 1) 3) (kidI l ((n : Int) - 1) 3)).v.ks) j) 0) Ls45 (numG (kidL l ((n : Int) - 1) 3) (gt ((gt (kidL l ((n : Int) - 1) 3) (kidI l ((n : Int) - 1) 3)).v.ks) j) 2) (numG (kidL l ((n : Int) - 1) 3) (gt ((gt (kidL l ((n : Int) - 1) 3) (kidI l ((n : Int) - 1) 3)).v.ks) j) 3) (numG (kidL l ((n : Int) - 1) 3) (gt ((gt (kidL l ((n : Int) - 1) 3) (kidI l ((n : Int) - 1) 3)).v.ks) j) 4) (numG (kidL l ((n : Int) - 1) 3) (gt ((gt (kidL l ((n : Int) - 1) 3) (kidI l ((n : Int) - 1) 3)).v.ks) j) 5) (numG (kidL l ((n : Int) - 1) 3) (gt ((gt (kidL l ((n : Int) - 1) 3) (kidI l ((n : Int) - 1) 3)).v.ks) j) 1) sA43 sc44)])⟩ (by exact ⟨by omega, by omega, by rw [List.length_append]; simp; omega, fun p hp => by rcases List.mem_append.1 hp with hp | hp; exact q_3 p hp; simp only [List.mem_singleton] at hp; subst hp; exact ⟨p47, p48⟩⟩) (by dsimp only; omega) (Sub.get (.c rfl (.c rfl (.c rfl (.c rfl (.c rfl (.c rfl .n))))))) (fun w hw => hw.keep (.c (.t .h) (.c (.t .h) (.c .h (.c (.t (.t .h)) (.c (.t (.t .h)) (.c (.t (.t .h)) .n))))))))
   refine .exit idQ ?_
   refine .seq (.seq ?_)
   have hPl : Ls.length ≤ 8192 := by omega
   have hPb := q_3
   refine SC.nilrow eTK 62 ?_
   refine .region ?_
   refine .v (ev_lda rfl rfl (At.whole 5 rfl) ty112) rfl ?_
   refine .cons (st_call0 rfl rfl rfl rfl hbd60 rfl .n (kid_g A n c l ((n : Int) - 1) 4 _ _ hP hN (by first | omega | simp only [LL] <;> omega | simp <;> omega) (by omega) (by omega)) (fun v_q56 C_q56 q56 => ?_))
   obtain ⟨A254, c255, p57, rfl, rfl⟩ := q56
   show SP _ _ _ _ _ _ ⟨_, _ :: _, _, _⟩
   have hkr58 := kid_rng (l := l) (i := ((n : Int) - 1)) (k := 4) (by omega)
   have hkl59 := kid_len (l := l) (i := ((n : Int) - 1)) (k := 4) (by omega) (by omega)
   refine .cons (st_lend0 rfl rfl rfl rfl hbd63 rfl .n (.c .h .n) (fun w_ hw => kids_ A254 ((kidL l ((n : Int) - 1) 4).length) c255 (kidL l ((n : Int) - 1) 4) (kidI l ((n : Int) - 1) 4) _ _ (Fr.lendm hw 0 rfl (kid_len (l := l) (i := ((n : Int) - 1)) (k := 4) (by omega) (by omega)).1 (kid_fr p57 hP)) (((kid_nt hN)).ext hw.lendx) (by first | omega | simp only [LL] <;> omega | simp <;> omega) (by first | omega | simp only [LL] <;> omega | simp <;> omega) (KW.ks (by first | exact kid_kw (kid_kw hKW) | exact kid_kw hKW) (by first | (exact kid_rng (by omega)) | omega)) (Nat.le_trans (KW.len (by first | exact kid_kw (kid_kw hKW) | exact kid_kw hKW) (by first | (exact kid_rng (by omega)) | omega)) (by decide))) (fun v_q61 C_q61 q61 => ?_))
   obtain ⟨u60, rfl, rfl⟩ := q61
   show SP _ _ _ _ _ _ ⟨_, _ :: _ :: _, _, _⟩
   refine .know (row_len 0 rfl) (fun hv64 => ?_)
   obtain ⟨A62, c63, rfl, hv64_1, hv64_2⟩ := hv64
   unfold maxLen at hv64_2
   refine .v (ev_len rfl Try.underlying115 rfl) rfl ?_
   refine .v (ev_mv rfl rfl) rfl ?_
   refine .go idQ (.block ?_)
   have hk4l := KW.len (kid_kw (l := l) (i := ((n : Int) - 1)) (k := 4) hKW) (kid_rng (l := l) (i := ((n : Int) - 1)) (k := 4) (by omega))
   refine .loop (X := Int × Value × (List TK)) (fun ⟨j, TW, Lt⟩ => 0 ≤ j ∧ j ≤ (gt (kidL l ((n : Int) - 1) 4) (kidI l ((n : Int) - 1) 4)).v.ks.length ∧ (Lt.length : Int) = j) (fun ⟨j, TW, Lt⟩ => [(2, .pointer (some ⟨b1, 0, none⟩)), (6, .pointer (some ⟨bb26, 0, none⟩)), (79, .slice A62 (((gt (kidL l ((n : Int) - 1) 4) (kidI l ((n : Int) - 1) 4)).v.ks).length) c63), (80, .int .i64 ((((gt (kidL l ((n : Int) - 1) 4) (kidI l ((n : Int) - 1) 4)).v.ks).length : Nat) : Int)), (81, .int .i64 j)]) (fun ⟨j, TW, Lt⟩ => [cel bb26 [.int .i64 0, .int .i64 0, .string ⟨#[]⟩, .bool ((gt (kidL l ((n : Int) - 1) 1) (kidI l ((n : Int) - 1) 1)).v.truth), .int .i64 (gN l n 0), .int .i64 (gN l n 1), .int .i64 (gN l n 2), .int .i64 (gN l n 3), .int .i64 (gN l n 4), .int .i64 (gN l n 5), .int .i64 (gN l n 6), .int .i64 (gN l n 7), SV, TW] 30, rw_ eTK 62 (TW) Lt, rw_ (ePt A254 ((kidL l ((n : Int) - 1) 4).length) c255) 112 (.slice A62 (((gt (kidL l ((n : Int) - 1) 4) (kidI l ((n : Int) - 1) 4)).v.ks).length) c63) ((gt (kidL l ((n : Int) - 1) 4) (kidI l ((n : Int) - 1) 4)).v.ks), cel b1 [.int .i64 0, .int .i64 0, .string ⟨#[]⟩, .bool false, .int .i64 0, .int .i64 0, .int .i64 0, .int .i64 0, .int .i64 0, .int .i64 0, .int .i64 0, .int .i64 0, .slice none 0 0, .slice none 0 0] 30, rw_ ePL 52 (SV) Ls, nestP 58 3 Ls]) (fun _ => S) (fun _ => wf) (fun ⟨j, TW, Lt⟩ => ((gt (kidL l ((n : Int) - 1) 4) (kidI l ((n : Int) - 1) 4)).v.ks.length - j.toNat)) (fun a_ w_ hs_ hw_ => ⟨⟨0, (.slice none 0 0), ([] : List TK)⟩, (by exact ⟨by omega, by omega, rfl⟩), hs_.mono (Sub.get (.c rfl (.c rfl (.c rfl (.c rfl (.c rfl .n)))))), hw_.keep (.c (.t (.t (.t .h))) (.c (.t (.t .h)) (.c .h (.c (.t (.t (.t (.t (.t .h))))) (.c (.t .h) (.c (.t .h) .n))))))⟩) (fun ⟨j, TW, Lt⟩ ⟨r_0, r_1, r_2⟩ => ?_)
   show SC _ _ _ _ _ ⟨[(2, .pointer (some ⟨b1, 0, none⟩)), (6, .pointer (some ⟨bb26, 0, none⟩)), (79, .slice A62 (((gt (kidL l ((n : Int) - 1) 4) (kidI l ((n : Int) - 1) 4)).v.ks).length) c63), (80, .int .i64 ((((gt (kidL l ((n : Int) - 1) 4) (kidI l ((n : Int) - 1) 4)).v.ks).length : Nat) : Int)), (81, .int .i64 j)], [cel bb26 [.int .i64 0, .int .i64 0, .string ⟨#[]⟩, .bool ((gt (kidL l ((n : Int) - 1) 1) (kidI l ((n : Int) - 1) 1)).v.truth), .int .i64 (gN l n 0), .int .i64 (gN l n 1), .int .i64 (gN l n 2), .int .i64 (gN l n 3), .int .i64 (gN l n 4), .int .i64 (gN l n 5), .int .i64 (gN l n 6), .int .i64 (gN l n 7), SV, TW] 30, rw_ eTK 62 (TW) Lt, rw_ (ePt A254 ((kidL l ((n : Int) - 1) 4).length) c255) 112 (.slice A62 (((gt (kidL l ((n : Int) - 1) 4) (kidI l ((n : Int) - 1) 4)).v.ks).length) c63) ((gt (kidL l ((n : Int) - 1) 4) (kidI l ((n : Int) - 1) 4)).v.ks), cel b1 [.int .i64 0, .int .i64 0, .string ⟨#[]⟩, .bool false, .int .i64 0, .int .i64 0, .int .i64 0, .int .i64 0, .int .i64 0, .int .i64 0, .int .i64 0, .int .i64 0, .slice none 0 0, .slice none 0 0] 30, rw_ ePL 52 (SV) Ls, nestP 58 3 Ls], S, wf⟩
   refine .seq (.region ?_)
   refine .v (ev_cmp rfl rfl rfl rfl) rfl ?_
   refine .go idQ (.seq ?_)
   refine .condI rfl bD (fun h65 => ?_) (fun h65 => ?_)
   ·
    refine .skipgo idQ (.seq (.block (.seq ?_)))
    have hqr := (KW.ks (kid_kw (l := l) (i := ((n : Int) - 1)) (k := 4) hKW) (kid_rng (l := l) (i := ((n : Int) - 1)) (k := 4) (by omega)) j (by omega) (by omega)).rng (n := (kidL l ((n : Int) - 1) 4).length) (kid_rng (l := l) (i := ((n : Int) - 1)) (k := 4) (by omega))
    unfold kidT at hqr
    have hfz66 := kid_fr (S := S) (wf := wf) p57 hP (kid_own (l := l) (i := ((n : Int) - 1)) (k := 4) (j := j) (by omega))
    refine .region ?_
    refine .v (ev_ix rfl Try.underlying115 ty112 rfl rfl (by omega) (by omega) (row_adr (i := j) 2 rfl (by omega) (by first | omega | simp only [LL] <;> omega | simp <;> omega))) rfl ?_
    refine .v (ev_lda rfl rfl (row_el (E := (ePt A254 ((kidL l ((n : Int) - 1) 4).length) c255)) (l := (gt (kidL l ((n : Int) - 1) 4) (kidI l ((n : Int) - 1) 4)).v.ks) (i := j) 2 rfl (by omega) (by first | omega | simp only [LL] <;> omega | simp <;> omega)) ty112) rfl ?_
    refine .cons (st_alloc rfl rfl rfl rfl zf112 (fun b67 => ?_))
    refine .cons (st_storea (l' := [.slice A254 ((kidL l ((n : Int) - 1) 4).length) c255, .int .i64 (gt ((gt (kidL l ((n : Int) - 1) 4) (kidI l ((n : Int) - 1) 4)).v.ks) j)]) rfl rfl rfl ty112 rfl rfl rfl .h rfl rfl ?_)
    refine .go idQ ?_
    refine SC.draw mo [cel bb26 [.int .i64 0, .int .i64 0, .string ⟨#[]⟩, .bool ((gt (kidL l ((n : Int) - 1) 1) (kidI l ((n : Int) - 1) 1)).v.truth), .int .i64 (gN l n 0), .int .i64 (gN l n 1), .int .i64 (gN l n 2), .int .i64 (gN l n 3), .int .i64 (gN l n 4), .int .i64 (gN l n 5), .int .i64 (gN l n 6), .int .i64 (gN l n 7), SV, TW] 30, rw_ eTK 62 (TW) Lt] [(13, fun w => At w bb26 0 [.int .i64 0, .int .i64 0, .string ⟨#[]⟩, .bool ((gt (kidL l ((n : Int) - 1) 1) (kidI l ((n : Int) - 1) 1)).v.truth), .int .i64 (gN l n 0), .int .i64 (gN l n 1), .int .i64 (gN l n 2), .int .i64 (gN l n 3), .int .i64 (gN l n 4), .int .i64 (gN l n 5), .int .i64 (gN l n 6), .int .i64 (gN l n 7), SV, TW])] (.c (.t .h) (.c (.t .h) .n)) (fun w_ _ hw_ => (sc1 (At.whole 0 rfl w_ hw_) sc0)) (fun wf_68 hl_68 hx_68 hR_68 => ?_)
    refine SR.k 0 rfl (by kernel_rfl) rfl (ev_fa rfl fo30_4 rfl (r := 13) rfl) ?_
    refine SR.k 1 rfl (by kernel_rfl) rfl (ev_ld1 rfl ty28 rfl (At.elem1 (v := TW) (At.ofcs 0 rfl (by kernel_rfl)) 13 rfl)) ?_
    refine SR.k 2 rfl (by kernel_rfl) rfl (ev_lda (cs := [.slice A254 ((kidL l ((n : Int) - 1) 4).length) c255, .int .i64 (gt ((gt (kidL l ((n : Int) - 1) 4) (kidI l ((n : Int) - 1) 4)).v.ks) j)]) rfl rfl (At.d (At.lent hR_68 0 rfl rfl)) ty112) ?_
    refine SR.k 7 rfl (by kernel_rfl) rfl (ev_lda (cs := [.slice A254 ((kidL l ((n : Int) - 1) 4).length) c255, .int .i64 (gt ((gt (kidL l ((n : Int) - 1) 4) (kidI l ((n : Int) - 1) 4)).v.ks) j)]) rfl rfl (At.d (At.lent hR_68 0 rfl rfl)) ty112) ?_
    refine SR.one (j := 3) (by kernel_rfl) rfl (st_call0 rfl rfl rfl rfl hbd60 rfl .n (kid_g A254 ((kidL l ((n : Int) - 1) 4).length) c255 (kidL l ((n : Int) - 1) 4) (gt ((gt (kidL l ((n : Int) - 1) 4) (kidI l ((n : Int) - 1) 4)).v.ks) j) 0 _ _ (Fr.ext hfz66 hx_68) (((kid_nt hN)).ext hx_68) (by first | omega | simp only [LL] <;> omega | simp <;> omega) (by first | omega | simp only [LL] <;> omega | simp <;> omega) (by omega)) (fun v_q71 C_q71 q71 => ⟨ttc (fun w_ hw_ => (tc1 (by obtain ⟨_, _, _, rfl, rfl⟩ := q71; first | exact At.whole 0 rfl w_ hw_ | exact At.whole 1 rfl w_ hw_ | exact At.whole 2 rfl w_ hw_ | exact At.whole 3 rfl w_ hw_ | exact At.whole 4 rfl w_ hw_ | exact At.whole 5 rfl w_ hw_ | exact At.whole 6 rfl w_ hw_) tc0)), ?_⟩))
    obtain ⟨A269, c270, p72, rfl, rfl⟩ := q71
    show SR _ _ _ _ _ _ _ _ _ ⟨_, _ :: _, _, _⟩
    have hkr73 := kid_rng (l := (kidL l ((n : Int) - 1) 4)) (i := (gt ((gt (kidL l ((n : Int) - 1) 4) (kidI l ((n : Int) - 1) 4)).v.ks) j)) (k := 0) (by omega)
    have hkl74 := kid_len (l := (kidL l ((n : Int) - 1) 4)) (i := (gt ((gt (kidL l ((n : Int) - 1) 4) (kidI l ((n : Int) - 1) 4)).v.ks) j)) (k := 0) (by omega) (by omega)
    refine SR.one (j := 4) (by kernel_rfl) rfl (st_lendk rfl rfl rfl rfl hbd61 rfl .n (.c .h .n) (fun w_ hw => value_ A269 ((kidL (kidL l ((n : Int) - 1) 4) (gt ((gt (kidL l ((n : Int) - 1) 4) (kidI l ((n : Int) - 1) 4)).v.ks) j) 0).length) c270 (kidL (kidL l ((n : Int) - 1) 4) (gt ((gt (kidL l ((n : Int) - 1) 4) (kidI l ((n : Int) - 1) 4)).v.ks) j) 0) (kidI (kidL l ((n : Int) - 1) 4) (gt ((gt (kidL l ((n : Int) - 1) 4) (kidI l ((n : Int) - 1) 4)).v.ks) j) 0) _ _ (Fr.lendm hw 0 rfl (kid_len (l := (kidL l ((n : Int) - 1) 4)) (i := (gt ((gt (kidL l ((n : Int) - 1) 4) (kidI l ((n : Int) - 1) 4)).v.ks) j)) (k := 0) (by omega) (by omega)).1 (kid_fr p72 (Fr.ext hfz66 hx_68))) (by first | omega | simp only [LL] <;> omega | simp <;> omega) (by first | omega | simp only [LL] <;> omega | simp <;> omega)) ⟨ttc (fun w_ hw_ => (tc1 (by first | exact At.whole 0 rfl w_ hw_ | exact At.whole 1 rfl w_ hw_ | exact At.whole 2 rfl w_ hw_ | exact At.whole 3 rfl w_ hw_ | exact At.whole 4 rfl w_ hw_ | exact At.whole 5 rfl w_ hw_ | exact At.whole 6 rfl w_ hw_) tc0)), ?_⟩)
    refine SR.k 5 rfl (by kernel_rfl) rfl (ev_any (v := .string ((gt (kidL (kidL l ((n : Int) - 1) 4) (gt ((gt (kidL l ((n : Int) - 1) 4) (kidI l ((n : Int) - 1) 4)).v.ks) j) 0) (kidI (kidL l ((n : Int) - 1) 4) (gt ((gt (kidL l ((n : Int) - 1) 4) (kidI l ((n : Int) - 1) 4)).v.ks) j) 0)).v.text)) rfl (by kernel_rfl) (fun _ => by kernel_rfl)) ?_
    refine SR.k 6 rfl (by kernel_rfl) rfl (ev_scmp rfl rfl rfl rfl) ?_
    refine SR.one (j := 8) (by kernel_rfl) rfl (st_callk rfl rfl rfl rfl hbd62 rfl .n (num_g A254 ((kidL l ((n : Int) - 1) 4).length) c255 (kidL l ((n : Int) - 1) 4) (gt ((gt (kidL l ((n : Int) - 1) 4) (kidI l ((n : Int) - 1) 4)).v.ks) j) 1 _ _ (Fr.ext hfz66 hx_68) (((kid_nt hN)).ext hx_68) (by first | omega | simp only [LL] <;> omega | simp <;> omega) (by first | omega | simp only [LL] <;> omega | simp <;> omega) (by omega)) ⟨ttc (fun w_ hw_ => (tc1 (by first | exact At.whole 0 rfl w_ hw_ | exact At.whole 1 rfl w_ hw_ | exact At.whole 2 rfl w_ hw_ | exact At.whole 3 rfl w_ hw_ | exact At.whole 4 rfl w_ hw_ | exact At.whole 5 rfl w_ hw_ | exact At.whole 6 rfl w_ hw_) tc0)), ?_⟩)
    refine SR.k 9 rfl (by kernel_rfl) rfl (ev_any (v := .agg #[.bool (((gt (kidL (kidL l ((n : Int) - 1) 4) (gt ((gt (kidL l ((n : Int) - 1) 4) (kidI l ((n : Int) - 1) 4)).v.ks) j) 0) (kidI (kidL l ((n : Int) - 1) 4) (gt ((gt (kidL l ((n : Int) - 1) 4) (kidI l ((n : Int) - 1) 4)).v.ks) j) 0)).v.text).toList == (⟨#[115, 104, 105, 112, 109, 101, 110, 116]⟩ : ByteArray).toList), .int .i64 (numG (kidL l ((n : Int) - 1) 4) (gt ((gt (kidL l ((n : Int) - 1) 4) (kidI l ((n : Int) - 1) 4)).v.ks) j) 1)]) rfl (by kernel_rfl) (fun _ => by kernel_rfl)) ?_
    refine SR.one (j := 10) (by kernel_rfl) rfl (st_lit eTK (e := 62) (l := [(TK.mk (((gt (kidL (kidL l ((n : Int) - 1) 4) (gt ((gt (kidL l ((n : Int) - 1) 4) (kidI l ((n : Int) - 1) 4)).v.ks) j) 0) (kidI (kidL l ((n : Int) - 1) 4) (gt ((gt (kidL l ((n : Int) - 1) 4) (kidI l ((n : Int) - 1) 4)).v.ks) j) 0)).v.text).toList == (⟨#[115, 104, 105, 112, 109, 101, 110, 116]⟩ : ByteArray).toList) (numG (kidL l ((n : Int) - 1) 4) (gt ((gt (kidL l ((n : Int) - 1) 4) (kidI l ((n : Int) - 1) 4)).v.ks) j) 1))]) rfl rfl rfl rfl (by kernel_rfl) rfl rfl (fun w => by kernel_rfl) (fun b75 => ⟨ttc (fun w_ hw_ => (tc1 (by first | exact At.whole 0 rfl w_ hw_ | exact At.whole 1 rfl w_ hw_ | exact At.whole 2 rfl w_ hw_ | exact At.whole 3 rfl w_ hw_ | exact At.whole 4 rfl w_ hw_ | exact At.whole 5 rfl w_ hw_ | exact At.whole 6 rfl w_ hw_) tc0)), ?_⟩))
    refine SR.one (j := 11) (by kernel_rfl) rfl (st_app (E := eTK) (m := [(TK.mk (((gt (kidL (kidL l ((n : Int) - 1) 4) (gt ((gt (kidL l ((n : Int) - 1) 4) (kidI l ((n : Int) - 1) 4)).v.ks) j) 0) (kidI (kidL l ((n : Int) - 1) 4) (gt ((gt (kidL l ((n : Int) - 1) 4) (kidI l ((n : Int) - 1) 4)).v.ks) j) 0)).v.text).toList == (⟨#[115, 104, 105, 112, 109, 101, 110, 116]⟩ : ByteArray).toList) (numG (kidL l ((n : Int) - 1) 4) (gt ((gt (kidL l ((n : Int) - 1) 4) (kidI l ((n : Int) - 1) 4)).v.ks) j) 1))]) rfl rfl rfl rfl Try.underlying28 ai62 rfl rfl rfl (.t (.t (.t .h))) (by first | rfl | omega | simp) (row_src 0 rfl) (by first | omega | simp only [LL] <;> omega | simp <;> omega) rfl (fun v76 => ⟨ttc (fun w_ hw_ => (tc1 (by first | exact At.whole 0 rfl w_ hw_ | exact At.whole 1 rfl w_ hw_ | exact At.whole 2 rfl w_ hw_ | exact At.whole 3 rfl w_ hw_ | exact At.whole 4 rfl w_ hw_ | exact At.whole 5 rfl w_ hw_ | exact At.whole 6 rfl w_ hw_) tc0)), ?_⟩))
    refine SR.k 12 rfl (by kernel_rfl) rfl (ev_fa rfl fo30_4 rfl (r := 13) rfl) ?_
    refine .know (row_len 0 rfl) (fun hv79 => ?_)
    obtain ⟨A77, c78, rfl, hv79_1, hv79_2⟩ := hv79
    unfold maxLen at hv79_2
    refine SR.one (j := 13) (by kernel_rfl) rfl (st_store1 rfl rfl rfl ty28 rfl rfl rfl (.t (.t (.t .h))) (.t (.t (.t (.t (.t (.t (.t (.t (.t (.t (.t (.t (.t .h))))))))))))) ⟨ttc (fun w_ hw_ => (tc2 (by kernel_rfl) tc0)), ?_⟩)
    refine SR.fin (by kernel_rfl) hl_68 hx_68 hR_68 (.c (.c (.c (.c .n)))) ?_
    refine SQ.go idQ ?_
    refine .region ?_
    refine .v (ev_add rfl rfl rfl (r := (j + 1)) rfl (by omega) (by omega)) rfl ?_
    refine .v (ev_mv rfl rfl) rfl ?_
    exact SP.nil (SQ.roundb (X := Int × Value × (List TK)) (x := (j, TW, Lt)) ⟨(j + 1), .slice A77 ((Lt ++ [(TK.mk (((gt (kidL (kidL l ((n : Int) - 1) 4) (gt ((gt (kidL l ((n : Int) - 1) 4) (kidI l ((n : Int) - 1) 4)).v.ks) j) 0) (kidI (kidL l ((n : Int) - 1) 4) (gt ((gt (kidL l ((n : Int) - 1) 4) (kidI l ((n : Int) - 1) 4)).v.ks) j) 0)).v.text).toList == (⟨#[115, 104, 105, 112, 109, 101, 110, 116]⟩ : ByteArray).toList) (numG (kidL l ((n : Int) - 1) 4) (gt ((gt (kidL l ((n : Int) - 1) 4) (kidI l ((n : Int) - 1) 4)).v.ks) j) 1))]).length) c78, (Lt ++ [(TK.mk (((gt (kidL (kidL l ((n : Int) - 1) 4) (gt ((gt (kidL l ((n : Int) - 1) 4) (kidI l ((n : Int) - 1) 4)).v.ks) j) 0) (kidI (kidL l ((n : Int) - 1) 4) (gt ((gt (kidL l ((n : Int) - 1) 4) (kidI l ((n : Int) - 1) 4)).v.ks) j) 0)).v.text).toList == (⟨#[115, 104, 105, 112, 109, 101, 110, 116]⟩ : ByteArray).toList) (numG (kidL l ((n : Int) - 1) 4) (gt ((gt (kidL l ((n : Int) - 1) 4) (kidI l ((n : Int) - 1) 4)).v.ks) j) 1))])⟩ (by exact ⟨by omega, by omega, by rw [List.length_append]; simp; omega⟩) (by dsimp only; omega) (Sub.get (.c rfl (.c rfl (.c rfl (.c rfl (.c rfl .n)))))) (fun w hw => hw.keep (.c .h (.c .h (.c (.t (.t (.t .h))) (.c (.t (.t (.t .h))) (.c (.t (.t (.t .h))) (.c (.t (.t (.t .h))) .n))))))))
   refine .exit idQ ?_
   refine .seq ?_
   refine .know (row_len 4 rfl) (fun hv82 => ?_)
   obtain ⟨A80, c81, rfl, hv82_1, hv82_2⟩ := hv82
   unfold maxLen at hv82_2
   refine .know (row_len 1 rfl) (fun hv85 => ?_)
   obtain ⟨A83, c84, rfl, hv85_1, hv85_2⟩ := hv85
   unfold maxLen at hv85_2
   refine .region ?_
   refine .v (ev_lda rfl rfl (At.whole 0 rfl) ty30) rfl ?_
   refine .cons (st_storea (l' := [.int .i64 0, .int .i64 0, .string ⟨#[]⟩, .bool ((gt (kidL l ((n : Int) - 1) 1) (kidI l ((n : Int) - 1) 1)).v.truth), .int .i64 (gN l n 0), .int .i64 (gN l n 1), .int .i64 (gN l n 2), .int .i64 (gN l n 3), .int .i64 (gN l n 4), .int .i64 (gN l n 5), .int .i64 (gN l n 6), .int .i64 (gN l n 7), .slice A80 Ls.length c81, .slice A83 Lt.length c84]) rfl rfl rfl ty30 rfl rfl rfl (.t (.t (.t .h))) rfl rfl ?_)
   refine .v (ev_as rfl rfl) rfl ?_
   refine .go idQ ?_
   exact .ret idQ (retv2 Try.results39 (.c 0 rfl rfl ty30) (.t rfl) (.c (.t (.t (.t (.t .h)))) (.c (.t (.t (.t (.t .h)))) (.c (.t (.t .h)) .n))) ⟨0, 0, ⟨#[]⟩, (gt (kidL l ((n : Int) - 1) 1) (kidI l ((n : Int) - 1) 1)).v.truth, (gN l n 0), (gN l n 1), (gN l n 2), (gN l n 3), (gN l n 4), (gN l n 5), (gN l n 6), (gN l n 7), A80, c81, Ls, A83, c84, Lt, true, hPl, (by omega), hPb, rfl, rfl⟩)
  refine SR.k 0 rfl (by kernel_rfl) rfl (ev_lda (cs := [.slice A n c, .int .i64 ((n : Int) - 1)]) rfl rfl (At.d (At.lent hR_25 3 rfl rfl)) ty112) ?_
  refine SR.k 4 rfl (by kernel_rfl) rfl (ev_lda (cs := [.slice A218 ((kidL l ((n : Int) - 1) 2).length) c219, .int .i64 (kidI l ((n : Int) - 1) 2)]) rfl rfl (At.d (At.lent hR_25 0 rfl rfl)) ty112) ?_
  refine SR.k 6 rfl (by kernel_rfl) rfl (ev_lda (cs := [.slice A218 ((kidL l ((n : Int) - 1) 2).length) c219, .int .i64 (kidI l ((n : Int) - 1) 2)]) rfl rfl (At.d (At.lent hR_25 0 rfl rfl)) ty112) ?_
  refine SR.k 8 rfl (by kernel_rfl) rfl (ev_lda (cs := [.slice A218 ((kidL l ((n : Int) - 1) 2).length) c219, .int .i64 (kidI l ((n : Int) - 1) 2)]) rfl rfl (At.d (At.lent hR_25 0 rfl rfl)) ty112) ?_
  refine SR.k 10 rfl (by kernel_rfl) rfl (ev_lda (cs := [.slice A218 ((kidL l ((n : Int) - 1) 2).length) c219, .int .i64 (kidI l ((n : Int) - 1) 2)]) rfl rfl (At.d (At.lent hR_25 0 rfl rfl)) ty112) ?_
  refine SR.k 12 rfl (by kernel_rfl) rfl (ev_lda (cs := [.slice A218 ((kidL l ((n : Int) - 1) 2).length) c219, .int .i64 (kidI l ((n : Int) - 1) 2)]) rfl rfl (At.d (At.lent hR_25 0 rfl rfl)) ty112) ?_
  refine SR.k 14 rfl (by kernel_rfl) rfl (ev_lda (cs := [.slice A218 ((kidL l ((n : Int) - 1) 2).length) c219, .int .i64 (kidI l ((n : Int) - 1) 2)]) rfl rfl (At.d (At.lent hR_25 0 rfl rfl)) ty112) ?_
  refine SR.k 16 rfl (by kernel_rfl) rfl (ev_lda (cs := [.slice A218 ((kidL l ((n : Int) - 1) 2).length) c219, .int .i64 (kidI l ((n : Int) - 1) 2)]) rfl rfl (At.d (At.lent hR_25 0 rfl rfl)) ty112) ?_
  refine SR.k 18 rfl (by kernel_rfl) rfl (ev_lda (cs := [.slice A218 ((kidL l ((n : Int) - 1) 2).length) c219, .int .i64 (kidI l ((n : Int) - 1) 2)]) rfl rfl (At.d (At.lent hR_25 0 rfl rfl)) ty112) ?_
  refine SR.two (i := 1) (j := 22) (by kernel_rfl) ⟨_, rfl, ?_⟩ ⟨_, rfl, ?_⟩
  ·
   refine st_call0 rfl rfl rfl rfl hbd60 rfl .n (kid_g A n c l ((n : Int) - 1) 1 _ _ (Fr.ext hP hx_25) ((hN).ext hx_25) (by first | omega | simp only [LL] <;> omega | simp <;> omega) (by omega) (by omega)) (fun v_q88 C_q88 q88 => ⟨tt0, ?_⟩)
   obtain ⟨A286, c287, p89, rfl, rfl⟩ := q88
   show SR _ _ _ _ _ _ _ _ _ ⟨_, _ :: _, _, _⟩
   have hkr90 := kid_rng (l := l) (i := ((n : Int) - 1)) (k := 1) (by omega)
   have hkl91 := kid_len (l := l) (i := ((n : Int) - 1)) (k := 1) (by omega) (by omega)
   refine SR.two (i := 2) (j := 22) (by kernel_rfl) ⟨_, rfl, ?_⟩ ⟨_, rfl, ?_⟩
   ·
    refine st_lendk rfl rfl rfl rfl hbd61 rfl .n (.c .h .n) (fun w_ hw => value_ A286 ((kidL l ((n : Int) - 1) 1).length) c287 (kidL l ((n : Int) - 1) 1) (kidI l ((n : Int) - 1) 1) _ _ (Fr.lendm hw 0 rfl (kid_len (l := l) (i := ((n : Int) - 1)) (k := 1) (by omega) (by omega)).1 (kid_fr p89 (Fr.ext hP hx_25))) (by first | omega | simp only [LL] <;> omega | simp <;> omega) (by first | omega | simp only [LL] <;> omega | simp <;> omega)) ⟨tt0, ?_⟩
    refine SR.k 3 rfl (by kernel_rfl) rfl (ev_any (v := .bool ((gt (kidL l ((n : Int) - 1) 1) (kidI l ((n : Int) - 1) 1)).v.truth)) rfl (by kernel_rfl) (fun _ => by kernel_rfl)) ?_
    refine SR.two (i := 5) (j := 22) (by kernel_rfl) ⟨_, rfl, ?_⟩ ⟨_, rfl, ?_⟩
    ·
     refine st_callk rfl rfl rfl rfl hbd62 rfl .n (num_g A218 ((kidL l ((n : Int) - 1) 2).length) c219 (kidL l ((n : Int) - 1) 2) (kidI l ((n : Int) - 1) 2) 0 _ _ (Fr.lentm hx_25 hR_25 1 rfl (kid_len (l := l) (i := ((n : Int) - 1)) (k := 2) (by omega) (by omega)).1 (kid_fr p21 hP)) (((kid_nt hN)).ext hx_25) (by first | omega | simp only [LL] <;> omega | simp <;> omega) (by first | omega | simp only [LL] <;> omega | simp <;> omega) (by omega)) ⟨tt0, ?_⟩
     refine SR.two (i := 7) (j := 22) (by kernel_rfl) ⟨_, rfl, ?_⟩ ⟨_, rfl, ?_⟩
     ·
      refine st_callk rfl rfl rfl rfl hbd62 rfl .n (num_g A218 ((kidL l ((n : Int) - 1) 2).length) c219 (kidL l ((n : Int) - 1) 2) (kidI l ((n : Int) - 1) 2) 1 _ _ (Fr.lentm hx_25 hR_25 1 rfl (kid_len (l := l) (i := ((n : Int) - 1)) (k := 2) (by omega) (by omega)).1 (kid_fr p21 hP)) (((kid_nt hN)).ext hx_25) (by first | omega | simp only [LL] <;> omega | simp <;> omega) (by first | omega | simp only [LL] <;> omega | simp <;> omega) (by omega)) ⟨tt0, ?_⟩
      refine SR.two (i := 9) (j := 22) (by kernel_rfl) ⟨_, rfl, ?_⟩ ⟨_, rfl, ?_⟩
      ·
       refine st_callk rfl rfl rfl rfl hbd62 rfl .n (num_g A218 ((kidL l ((n : Int) - 1) 2).length) c219 (kidL l ((n : Int) - 1) 2) (kidI l ((n : Int) - 1) 2) 2 _ _ (Fr.lentm hx_25 hR_25 1 rfl (kid_len (l := l) (i := ((n : Int) - 1)) (k := 2) (by omega) (by omega)).1 (kid_fr p21 hP)) (((kid_nt hN)).ext hx_25) (by first | omega | simp only [LL] <;> omega | simp <;> omega) (by first | omega | simp only [LL] <;> omega | simp <;> omega) (by omega)) ⟨tt0, ?_⟩
       refine SR.two (i := 11) (j := 22) (by kernel_rfl) ⟨_, rfl, ?_⟩ ⟨_, rfl, ?_⟩
       ·
        refine st_callk rfl rfl rfl rfl hbd62 rfl .n (num_g A218 ((kidL l ((n : Int) - 1) 2).length) c219 (kidL l ((n : Int) - 1) 2) (kidI l ((n : Int) - 1) 2) 3 _ _ (Fr.lentm hx_25 hR_25 1 rfl (kid_len (l := l) (i := ((n : Int) - 1)) (k := 2) (by omega) (by omega)).1 (kid_fr p21 hP)) (((kid_nt hN)).ext hx_25) (by first | omega | simp only [LL] <;> omega | simp <;> omega) (by first | omega | simp only [LL] <;> omega | simp <;> omega) (by omega)) ⟨tt0, ?_⟩
        refine SR.two (i := 13) (j := 22) (by kernel_rfl) ⟨_, rfl, ?_⟩ ⟨_, rfl, ?_⟩
        ·
         refine st_callk rfl rfl rfl rfl hbd62 rfl .n (num_g A218 ((kidL l ((n : Int) - 1) 2).length) c219 (kidL l ((n : Int) - 1) 2) (kidI l ((n : Int) - 1) 2) 4 _ _ (Fr.lentm hx_25 hR_25 1 rfl (kid_len (l := l) (i := ((n : Int) - 1)) (k := 2) (by omega) (by omega)).1 (kid_fr p21 hP)) (((kid_nt hN)).ext hx_25) (by first | omega | simp only [LL] <;> omega | simp <;> omega) (by first | omega | simp only [LL] <;> omega | simp <;> omega) (by omega)) ⟨tt0, ?_⟩
         refine SR.two (i := 15) (j := 22) (by kernel_rfl) ⟨_, rfl, ?_⟩ ⟨_, rfl, ?_⟩
         ·
          refine st_callk rfl rfl rfl rfl hbd62 rfl .n (num_g A218 ((kidL l ((n : Int) - 1) 2).length) c219 (kidL l ((n : Int) - 1) 2) (kidI l ((n : Int) - 1) 2) 5 _ _ (Fr.lentm hx_25 hR_25 1 rfl (kid_len (l := l) (i := ((n : Int) - 1)) (k := 2) (by omega) (by omega)).1 (kid_fr p21 hP)) (((kid_nt hN)).ext hx_25) (by first | omega | simp only [LL] <;> omega | simp <;> omega) (by first | omega | simp only [LL] <;> omega | simp <;> omega) (by omega)) ⟨tt0, ?_⟩
          refine SR.two (i := 17) (j := 22) (by kernel_rfl) ⟨_, rfl, ?_⟩ ⟨_, rfl, ?_⟩
          ·
           refine st_callk rfl rfl rfl rfl hbd62 rfl .n (num_g A218 ((kidL l ((n : Int) - 1) 2).length) c219 (kidL l ((n : Int) - 1) 2) (kidI l ((n : Int) - 1) 2) 6 _ _ (Fr.lentm hx_25 hR_25 1 rfl (kid_len (l := l) (i := ((n : Int) - 1)) (k := 2) (by omega) (by omega)).1 (kid_fr p21 hP)) (((kid_nt hN)).ext hx_25) (by first | omega | simp only [LL] <;> omega | simp <;> omega) (by first | omega | simp only [LL] <;> omega | simp <;> omega) (by omega)) ⟨tt0, ?_⟩
           refine SR.two (i := 19) (j := 22) (by kernel_rfl) ⟨_, rfl, ?_⟩ ⟨_, rfl, ?_⟩
           ·
            refine st_callk rfl rfl rfl rfl hbd62 rfl .n (num_g A218 ((kidL l ((n : Int) - 1) 2).length) c219 (kidL l ((n : Int) - 1) 2) (kidI l ((n : Int) - 1) 2) 7 _ _ (Fr.lentm hx_25 hR_25 1 rfl (kid_len (l := l) (i := ((n : Int) - 1)) (k := 2) (by omega) (by omega)).1 (kid_fr p21 hP)) (((kid_nt hN)).ext hx_25) (by first | omega | simp only [LL] <;> omega | simp <;> omega) (by first | omega | simp only [LL] <;> omega | simp <;> omega) (by omega)) ⟨tt0, ?_⟩
            refine SR.k 20 rfl (by kernel_rfl) rfl (ev_any (v := .agg #[.int .i64 (gN l n 0), .int .i64 (gN l n 1), .int .i64 (gN l n 2), .int .i64 (gN l n 3), .int .i64 (gN l n 4), .int .i64 (gN l n 5), .int .i64 (gN l n 6), .int .i64 (gN l n 7)]) rfl (by kernel_rfl) (fun _ => by kernel_rfl)) ?_
            refine SR.k 21 rfl (by kernel_rfl) rfl (ev_any (v := .agg #[.int .i64 0, .int .i64 0, .string ⟨#[]⟩, .bool ((gt (kidL l ((n : Int) - 1) 1) (kidI l ((n : Int) - 1) 1)).v.truth), .int .i64 (gN l n 0), .int .i64 (gN l n 1), .int .i64 (gN l n 2), .int .i64 (gN l n 3), .int .i64 (gN l n 4), .int .i64 (gN l n 5), .int .i64 (gN l n 6), .int .i64 (gN l n 7), .slice none 0 0, .slice none 0 0]) rfl (by kernel_rfl) (fun _ => by kernel_rfl)) ?_
            refine SR.one (j := 22) (by kernel_rfl) rfl (st_alloc rfl rfl rfl rfl zf30 (fun b92 => ⟨tt0, ?_⟩))
            refine SR.one (j := 23) (by kernel_rfl) rfl (st_storea (l' := [.int .i64 0, .int .i64 0, .string ⟨#[]⟩, .bool ((gt (kidL l ((n : Int) - 1) 1) (kidI l ((n : Int) - 1) 1)).v.truth), .int .i64 (gN l n 0), .int .i64 (gN l n 1), .int .i64 (gN l n 2), .int .i64 (gN l n 3), .int .i64 (gN l n 4), .int .i64 (gN l n 5), .int .i64 (gN l n 6), .int .i64 (gN l n 7), .slice none 0 0, .slice none 0 0]) rfl rfl rfl ty30 rfl rfl rfl .h rfl rfl ⟨tt0, ?_⟩)
            refine SR.fin (by kernel_rfl) hl_25 hx_25 hR_25 (.c (.c .n)) ?_
            exact SQ.weak (key27 b92) (Sub.get (.c rfl (.c rfl (.c rfl (.c rfl (.c rfl (.c rfl (.c rfl (.c rfl (.c rfl (.c rfl (.c rfl (.c rfl (.c rfl (.c rfl (.c rfl (.c rfl (.c rfl (.c rfl (.c rfl (.c rfl (.c rfl (.c rfl (.c rfl (.c rfl (.c rfl (.c rfl (.c rfl (.c rfl (.c rfl (.c rfl (.c rfl (.c rfl (.c rfl (.c rfl (.c rfl (.c rfl (.c rfl (.c rfl (.c rfl (.c rfl (.c rfl (.c rfl .n))))))))))))))))))))))))))))))))))))))))))) (fun w hw => hw.keep (.c .h (.c (.t .h) (.c (.t .h) (.c (.t .h) (.c (.t .h) (.c (.t .h) .n)))))))
           refine st_alloc rfl rfl rfl rfl zf30 (fun b93 => ⟨tt0, ?_⟩)
           refine SR.one (j := 19) (by kernel_rfl) rfl (st_callk rfl rfl rfl rfl hbd62 rfl .n (num_g A218 ((kidL l ((n : Int) - 1) 2).length) c219 (kidL l ((n : Int) - 1) 2) (kidI l ((n : Int) - 1) 2) 7 _ _ (Fr.lentm hx_25 hR_25 1 rfl (kid_len (l := l) (i := ((n : Int) - 1)) (k := 2) (by omega) (by omega)).1 (kid_fr p21 hP)) (((kid_nt hN)).ext hx_25) (by first | omega | simp only [LL] <;> omega | simp <;> omega) (by first | omega | simp only [LL] <;> omega | simp <;> omega) (by omega)) ⟨tt0, ?_⟩)
           refine SR.k 20 rfl (by kernel_rfl) rfl (ev_any (v := .agg #[.int .i64 (gN l n 0), .int .i64 (gN l n 1), .int .i64 (gN l n 2), .int .i64 (gN l n 3), .int .i64 (gN l n 4), .int .i64 (gN l n 5), .int .i64 (gN l n 6), .int .i64 (gN l n 7)]) rfl (by kernel_rfl) (fun _ => by kernel_rfl)) ?_
           refine SR.k 21 rfl (by kernel_rfl) rfl (ev_any (v := .agg #[.int .i64 0, .int .i64 0, .string ⟨#[]⟩, .bool ((gt (kidL l ((n : Int) - 1) 1) (kidI l ((n : Int) - 1) 1)).v.truth), .int .i64 (gN l n 0), .int .i64 (gN l n 1), .int .i64 (gN l n 2), .int .i64 (gN l n 3), .int .i64 (gN l n 4), .int .i64 (gN l n 5), .int .i64 (gN l n 6), .int .i64 (gN l n 7), .slice none 0 0, .slice none 0 0]) rfl (by kernel_rfl) (fun _ => by kernel_rfl)) ?_
           refine SR.one (j := 23) (by kernel_rfl) rfl (st_storea (l' := [.int .i64 0, .int .i64 0, .string ⟨#[]⟩, .bool ((gt (kidL l ((n : Int) - 1) 1) (kidI l ((n : Int) - 1) 1)).v.truth), .int .i64 (gN l n 0), .int .i64 (gN l n 1), .int .i64 (gN l n 2), .int .i64 (gN l n 3), .int .i64 (gN l n 4), .int .i64 (gN l n 5), .int .i64 (gN l n 6), .int .i64 (gN l n 7), .slice none 0 0, .slice none 0 0]) rfl rfl rfl ty30 rfl rfl rfl .h rfl rfl ⟨tt0, ?_⟩)
           refine SR.fin (by kernel_rfl) hl_25 hx_25 hR_25 (.c (.c .n)) ?_
           exact SQ.weak (key27 b93) (Sub.get (.c rfl (.c rfl (.c rfl (.c rfl (.c rfl (.c rfl (.c rfl (.c rfl (.c rfl (.c rfl (.c rfl (.c rfl (.c rfl (.c rfl (.c rfl (.c rfl (.c rfl (.c rfl (.c rfl (.c rfl (.c rfl (.c rfl (.c rfl (.c rfl (.c rfl (.c rfl (.c rfl (.c rfl (.c rfl (.c rfl (.c rfl (.c rfl (.c rfl (.c rfl (.c rfl (.c rfl (.c rfl (.c rfl (.c rfl (.c rfl (.c rfl (.c rfl .n))))))))))))))))))))))))))))))))))))))))))) (fun w hw => hw.keep (.c .h (.c (.t .h) (.c (.t .h) (.c (.t .h) (.c (.t .h) (.c (.t .h) .n)))))))
          refine st_alloc rfl rfl rfl rfl zf30 (fun b94 => ⟨tt0, ?_⟩)
          refine SR.one (j := 17) (by kernel_rfl) rfl (st_callk rfl rfl rfl rfl hbd62 rfl .n (num_g A218 ((kidL l ((n : Int) - 1) 2).length) c219 (kidL l ((n : Int) - 1) 2) (kidI l ((n : Int) - 1) 2) 6 _ _ (Fr.lentm hx_25 hR_25 1 rfl (kid_len (l := l) (i := ((n : Int) - 1)) (k := 2) (by omega) (by omega)).1 (kid_fr p21 hP)) (((kid_nt hN)).ext hx_25) (by first | omega | simp only [LL] <;> omega | simp <;> omega) (by first | omega | simp only [LL] <;> omega | simp <;> omega) (by omega)) ⟨tt0, ?_⟩)
          refine SR.one (j := 19) (by kernel_rfl) rfl (st_callk rfl rfl rfl rfl hbd62 rfl .n (num_g A218 ((kidL l ((n : Int) - 1) 2).length) c219 (kidL l ((n : Int) - 1) 2) (kidI l ((n : Int) - 1) 2) 7 _ _ (Fr.lentm hx_25 hR_25 1 rfl (kid_len (l := l) (i := ((n : Int) - 1)) (k := 2) (by omega) (by omega)).1 (kid_fr p21 hP)) (((kid_nt hN)).ext hx_25) (by first | omega | simp only [LL] <;> omega | simp <;> omega) (by first | omega | simp only [LL] <;> omega | simp <;> omega) (by omega)) ⟨tt0, ?_⟩)
          refine SR.k 20 rfl (by kernel_rfl) rfl (ev_any (v := .agg #[.int .i64 (gN l n 0), .int .i64 (gN l n 1), .int .i64 (gN l n 2), .int .i64 (gN l n 3), .int .i64 (gN l n 4), .int .i64 (gN l n 5), .int .i64 (gN l n 6), .int .i64 (gN l n 7)]) rfl (by kernel_rfl) (fun _ => by kernel_rfl)) ?_
          refine SR.k 21 rfl (by kernel_rfl) rfl (ev_any (v := .agg #[.int .i64 0, .int .i64 0, .string ⟨#[]⟩, .bool ((gt (kidL l ((n : Int) - 1) 1) (kidI l ((n : Int) - 1) 1)).v.truth), .int .i64 (gN l n 0), .int .i64 (gN l n 1), .int .i64 (gN l n 2), .int .i64 (gN l n 3), .int .i64 (gN l n 4), .int .i64 (gN l n 5), .int .i64 (gN l n 6), .int .i64 (gN l n 7), .slice none 0 0, .slice none 0 0]) rfl (by kernel_rfl) (fun _ => by kernel_rfl)) ?_
          refine SR.one (j := 23) (by kernel_rfl) rfl (st_storea (l' := [.int .i64 0, .int .i64 0, .string ⟨#[]⟩, .bool ((gt (kidL l ((n : Int) - 1) 1) (kidI l ((n : Int) - 1) 1)).v.truth), .int .i64 (gN l n 0), .int .i64 (gN l n 1), .int .i64 (gN l n 2), .int .i64 (gN l n 3), .int .i64 (gN l n 4), .int .i64 (gN l n 5), .int .i64 (gN l n 6), .int .i64 (gN l n 7), .slice none 0 0, .slice none 0 0]) rfl rfl rfl ty30 rfl rfl rfl .h rfl rfl ⟨tt0, ?_⟩)
          refine SR.fin (by kernel_rfl) hl_25 hx_25 hR_25 (.c (.c .n)) ?_
          exact SQ.weak (key27 b94) (Sub.get (.c rfl (.c rfl (.c rfl (.c rfl (.c rfl (.c rfl (.c rfl (.c rfl (.c rfl (.c rfl (.c rfl (.c rfl (.c rfl (.c rfl (.c rfl (.c rfl (.c rfl (.c rfl (.c rfl (.c rfl (.c rfl (.c rfl (.c rfl (.c rfl (.c rfl (.c rfl (.c rfl (.c rfl (.c rfl (.c rfl (.c rfl (.c rfl (.c rfl (.c rfl (.c rfl (.c rfl (.c rfl (.c rfl (.c rfl (.c rfl (.c rfl (.c rfl .n))))))))))))))))))))))))))))))))))))))))))) (fun w hw => hw.keep (.c .h (.c (.t .h) (.c (.t .h) (.c (.t .h) (.c (.t .h) (.c (.t .h) .n)))))))
         refine st_alloc rfl rfl rfl rfl zf30 (fun b95 => ⟨tt0, ?_⟩)
         refine SR.one (j := 15) (by kernel_rfl) rfl (st_callk rfl rfl rfl rfl hbd62 rfl .n (num_g A218 ((kidL l ((n : Int) - 1) 2).length) c219 (kidL l ((n : Int) - 1) 2) (kidI l ((n : Int) - 1) 2) 5 _ _ (Fr.lentm hx_25 hR_25 1 rfl (kid_len (l := l) (i := ((n : Int) - 1)) (k := 2) (by omega) (by omega)).1 (kid_fr p21 hP)) (((kid_nt hN)).ext hx_25) (by first | omega | simp only [LL] <;> omega | simp <;> omega) (by first | omega | simp only [LL] <;> omega | simp <;> omega) (by omega)) ⟨tt0, ?_⟩)
         refine SR.one (j := 17) (by kernel_rfl) rfl (st_callk rfl rfl rfl rfl hbd62 rfl .n (num_g A218 ((kidL l ((n : Int) - 1) 2).length) c219 (kidL l ((n : Int) - 1) 2) (kidI l ((n : Int) - 1) 2) 6 _ _ (Fr.lentm hx_25 hR_25 1 rfl (kid_len (l := l) (i := ((n : Int) - 1)) (k := 2) (by omega) (by omega)).1 (kid_fr p21 hP)) (((kid_nt hN)).ext hx_25) (by first | omega | simp only [LL] <;> omega | simp <;> omega) (by first | omega | simp only [LL] <;> omega | simp <;> omega) (by omega)) ⟨tt0, ?_⟩)
         refine SR.one (j := 19) (by kernel_rfl) rfl (st_callk rfl rfl rfl rfl hbd62 rfl .n (num_g A218 ((kidL l ((n : Int) - 1) 2).length) c219 (kidL l ((n : Int) - 1) 2) (kidI l ((n : Int) - 1) 2) 7 _ _ (Fr.lentm hx_25 hR_25 1 rfl (kid_len (l := l) (i := ((n : Int) - 1)) (k := 2) (by omega) (by omega)).1 (kid_fr p21 hP)) (((kid_nt hN)).ext hx_25) (by first | omega | simp only [LL] <;> omega | simp <;> omega) (by first | omega | simp only [LL] <;> omega | simp <;> omega) (by omega)) ⟨tt0, ?_⟩)
         refine SR.k 20 rfl (by kernel_rfl) rfl (ev_any (v := .agg #[.int .i64 (gN l n 0), .int .i64 (gN l n 1), .int .i64 (gN l n 2), .int .i64 (gN l n 3), .int .i64 (gN l n 4), .int .i64 (gN l n 5), .int .i64 (gN l n 6), .int .i64 (gN l n 7)]) rfl (by kernel_rfl) (fun _ => by kernel_rfl)) ?_
         refine SR.k 21 rfl (by kernel_rfl) rfl (ev_any (v := .agg #[.int .i64 0, .int .i64 0, .string ⟨#[]⟩, .bool ((gt (kidL l ((n : Int) - 1) 1) (kidI l ((n : Int) - 1) 1)).v.truth), .int .i64 (gN l n 0), .int .i64 (gN l n 1), .int .i64 (gN l n 2), .int .i64 (gN l n 3), .int .i64 (gN l n 4), .int .i64 (gN l n 5), .int .i64 (gN l n 6), .int .i64 (gN l n 7), .slice none 0 0, .slice none 0 0]) rfl (by kernel_rfl) (fun _ => by kernel_rfl)) ?_
         refine SR.one (j := 23) (by kernel_rfl) rfl (st_storea (l' := [.int .i64 0, .int .i64 0, .string ⟨#[]⟩, .bool ((gt (kidL l ((n : Int) - 1) 1) (kidI l ((n : Int) - 1) 1)).v.truth), .int .i64 (gN l n 0), .int .i64 (gN l n 1), .int .i64 (gN l n 2), .int .i64 (gN l n 3), .int .i64 (gN l n 4), .int .i64 (gN l n 5), .int .i64 (gN l n 6), .int .i64 (gN l n 7), .slice none 0 0, .slice none 0 0]) rfl rfl rfl ty30 rfl rfl rfl .h rfl rfl ⟨tt0, ?_⟩)
         refine SR.fin (by kernel_rfl) hl_25 hx_25 hR_25 (.c (.c .n)) ?_
         exact SQ.weak (key27 b95) (Sub.get (.c rfl (.c rfl (.c rfl (.c rfl (.c rfl (.c rfl (.c rfl (.c rfl (.c rfl (.c rfl (.c rfl (.c rfl (.c rfl (.c rfl (.c rfl (.c rfl (.c rfl (.c rfl (.c rfl (.c rfl (.c rfl (.c rfl (.c rfl (.c rfl (.c rfl (.c rfl (.c rfl (.c rfl (.c rfl (.c rfl (.c rfl (.c rfl (.c rfl (.c rfl (.c rfl (.c rfl (.c rfl (.c rfl (.c rfl (.c rfl (.c rfl (.c rfl .n))))))))))))))))))))))))))))))))))))))))))) (fun w hw => hw.keep (.c .h (.c (.t .h) (.c (.t .h) (.c (.t .h) (.c (.t .h) (.c (.t .h) .n)))))))
        refine st_alloc rfl rfl rfl rfl zf30 (fun b96 => ⟨tt0, ?_⟩)
        refine SR.one (j := 13) (by kernel_rfl) rfl (st_callk rfl rfl rfl rfl hbd62 rfl .n (num_g A218 ((kidL l ((n : Int) - 1) 2).length) c219 (kidL l ((n : Int) - 1) 2) (kidI l ((n : Int) - 1) 2) 4 _ _ (Fr.lentm hx_25 hR_25 1 rfl (kid_len (l := l) (i := ((n : Int) - 1)) (k := 2) (by omega) (by omega)).1 (kid_fr p21 hP)) (((kid_nt hN)).ext hx_25) (by first | omega | simp only [LL] <;> omega | simp <;> omega) (by first | omega | simp only [LL] <;> omega | simp <;> omega) (by omega)) ⟨tt0, ?_⟩)
        refine SR.one (j := 15) (by kernel_rfl) rfl (st_callk rfl rfl rfl rfl hbd62 rfl .n (num_g A218 ((kidL l ((n : Int) - 1) 2).length) c219 (kidL l ((n : Int) - 1) 2) (kidI l ((n : Int) - 1) 2) 5 _ _ (Fr.lentm hx_25 hR_25 1 rfl (kid_len (l := l) (i := ((n : Int) - 1)) (k := 2) (by omega) (by omega)).1 (kid_fr p21 hP)) (((kid_nt hN)).ext hx_25) (by first | omega | simp only [LL] <;> omega | simp <;> omega) (by first | omega | simp only [LL] <;> omega | simp <;> omega) (by omega)) ⟨tt0, ?_⟩)
        refine SR.one (j := 17) (by kernel_rfl) rfl (st_callk rfl rfl rfl rfl hbd62 rfl .n (num_g A218 ((kidL l ((n : Int) - 1) 2).length) c219 (kidL l ((n : Int) - 1) 2) (kidI l ((n : Int) - 1) 2) 6 _ _ (Fr.lentm hx_25 hR_25 1 rfl (kid_len (l := l) (i := ((n : Int) - 1)) (k := 2) (by omega) (by omega)).1 (kid_fr p21 hP)) (((kid_nt hN)).ext hx_25) (by first | omega | simp only [LL] <;> omega | simp <;> omega) (by first | omega | simp only [LL] <;> omega | simp <;> omega) (by omega)) ⟨tt0, ?_⟩)
        refine SR.one (j := 19) (by kernel_rfl) rfl (st_callk rfl rfl rfl rfl hbd62 rfl .n (num_g A218 ((kidL l ((n : Int) - 1) 2).length) c219 (kidL l ((n : Int) - 1) 2) (kidI l ((n : Int) - 1) 2) 7 _ _ (Fr.lentm hx_25 hR_25 1 rfl (kid_len (l := l) (i := ((n : Int) - 1)) (k := 2) (by omega) (by omega)).1 (kid_fr p21 hP)) (((kid_nt hN)).ext hx_25) (by first | omega | simp only [LL] <;> omega | simp <;> omega) (by first | omega | simp only [LL] <;> omega | simp <;> omega) (by omega)) ⟨tt0, ?_⟩)
        refine SR.k 20 rfl (by kernel_rfl) rfl (ev_any (v := .agg #[.int .i64 (gN l n 0), .int .i64 (gN l n 1), .int .i64 (gN l n 2), .int .i64 (gN l n 3), .int .i64 (gN l n 4), .int .i64 (gN l n 5), .int .i64 (gN l n 6), .int .i64 (gN l n 7)]) rfl (by kernel_rfl) (fun _ => by kernel_rfl)) ?_
        refine SR.k 21 rfl (by kernel_rfl) rfl (ev_any (v := .agg #[.int .i64 0, .int .i64 0, .string ⟨#[]⟩, .bool ((gt (kidL l ((n : Int) - 1) 1) (kidI l ((n : Int) - 1) 1)).v.truth), .int .i64 (gN l n 0), .int .i64 (gN l n 1), .int .i64 (gN l n 2), .int .i64 (gN l n 3), .int .i64 (gN l n 4), .int .i64 (gN l n 5), .int .i64 (gN l n 6), .int .i64 (gN l n 7), .slice none 0 0, .slice none 0 0]) rfl (by kernel_rfl) (fun _ => by kernel_rfl)) ?_
        refine SR.one (j := 23) (by kernel_rfl) rfl (st_storea (l' := [.int .i64 0, .int .i64 0, .string ⟨#[]⟩, .bool ((gt (kidL l ((n : Int) - 1) 1) (kidI l ((n : Int) - 1) 1)).v.truth), .int .i64 (gN l n 0), .int .i64 (gN l n 1), .int .i64 (gN l n 2), .int .i64 (gN l n 3), .int .i64 (gN l n 4), .int .i64 (gN l n 5), .int .i64 (gN l n 6), .int .i64 (gN l n 7), .slice none 0 0, .slice none 0 0]) rfl rfl rfl ty30 rfl rfl rfl .h rfl rfl ⟨tt0, ?_⟩)
        refine SR.fin (by kernel_rfl) hl_25 hx_25 hR_25 (.c (.c .n)) ?_
        exact SQ.weak (key27 b96) (Sub.get (.c rfl (.c rfl (.c rfl (.c rfl (.c rfl (.c rfl (.c rfl (.c rfl (.c rfl (.c rfl (.c rfl (.c rfl (.c rfl (.c rfl (.c rfl (.c rfl (.c rfl (.c rfl (.c rfl (.c rfl (.c rfl (.c rfl (.c rfl (.c rfl (.c rfl (.c rfl (.c rfl (.c rfl (.c rfl (.c rfl (.c rfl (.c rfl (.c rfl (.c rfl (.c rfl (.c rfl (.c rfl (.c rfl (.c rfl (.c rfl (.c rfl (.c rfl .n))))))))))))))))))))))))))))))))))))))))))) (fun w hw => hw.keep (.c .h (.c (.t .h) (.c (.t .h) (.c (.t .h) (.c (.t .h) (.c (.t .h) .n)))))))
       refine st_alloc rfl rfl rfl rfl zf30 (fun b97 => ⟨tt0, ?_⟩)
       refine SR.one (j := 11) (by kernel_rfl) rfl (st_callk rfl rfl rfl rfl hbd62 rfl .n (num_g A218 ((kidL l ((n : Int) - 1) 2).length) c219 (kidL l ((n : Int) - 1) 2) (kidI l ((n : Int) - 1) 2) 3 _ _ (Fr.lentm hx_25 hR_25 1 rfl (kid_len (l := l) (i := ((n : Int) - 1)) (k := 2) (by omega) (by omega)).1 (kid_fr p21 hP)) (((kid_nt hN)).ext hx_25) (by first | omega | simp only [LL] <;> omega | simp <;> omega) (by first | omega | simp only [LL] <;> omega | simp <;> omega) (by omega)) ⟨tt0, ?_⟩)
       refine SR.one (j := 13) (by kernel_rfl) rfl (st_callk rfl rfl rfl rfl hbd62 rfl .n (num_g A218 ((kidL l ((n : Int) - 1) 2).length) c219 (kidL l ((n : Int) - 1) 2) (kidI l ((n : Int) - 1) 2) 4 _ _ (Fr.lentm hx_25 hR_25 1 rfl (kid_len (l := l) (i := ((n : Int) - 1)) (k := 2) (by omega) (by omega)).1 (kid_fr p21 hP)) (((kid_nt hN)).ext hx_25) (by first | omega | simp only [LL] <;> omega | simp <;> omega) (by first | omega | simp only [LL] <;> omega | simp <;> omega) (by omega)) ⟨tt0, ?_⟩)
       refine SR.one (j := 15) (by kernel_rfl) rfl (st_callk rfl rfl rfl rfl hbd62 rfl .n (num_g A218 ((kidL l ((n : Int) - 1) 2).length) c219 (kidL l ((n : Int) - 1) 2) (kidI l ((n : Int) - 1) 2) 5 _ _ (Fr.lentm hx_25 hR_25 1 rfl (kid_len (l := l) (i := ((n : Int) - 1)) (k := 2) (by omega) (by omega)).1 (kid_fr p21 hP)) (((kid_nt hN)).ext hx_25) (by first | omega | simp only [LL] <;> omega | simp <;> omega) (by first | omega | simp only [LL] <;> omega | simp <;> omega) (by omega)) ⟨tt0, ?_⟩)
       refine SR.one (j := 17) (by kernel_rfl) rfl (st_callk rfl rfl rfl rfl hbd62 rfl .n (num_g A218 ((kidL l ((n : Int) - 1) 2).length) c219 (kidL l ((n : Int) - 1) 2) (kidI l ((n : Int) - 1) 2) 6 _ _ (Fr.lentm hx_25 hR_25 1 rfl (kid_len (l := l) (i := ((n : Int) - 1)) (k := 2) (by omega) (by omega)).1 (kid_fr p21 hP)) (((kid_nt hN)).ext hx_25) (by first | omega | simp only [LL] <;> omega | simp <;> omega) (by first | omega | simp only [LL] <;> omega | simp <;> omega) (by omega)) ⟨tt0, ?_⟩)
       refine SR.one (j := 19) (by kernel_rfl) rfl (st_callk rfl rfl rfl rfl hbd62 rfl .n (num_g A218 ((kidL l ((n : Int) - 1) 2).length) c219 (kidL l ((n : Int) - 1) 2) (kidI l ((n : Int) - 1) 2) 7 _ _ (Fr.lentm hx_25 hR_25 1 rfl (kid_len (l := l) (i := ((n : Int) - 1)) (k := 2) (by omega) (by omega)).1 (kid_fr p21 hP)) (((kid_nt hN)).ext hx_25) (by first | omega | simp only [LL] <;> omega | simp <;> omega) (by first | omega | simp only [LL] <;> omega | simp <;> omega) (by omega)) ⟨tt0, ?_⟩)
       refine SR.k 20 rfl (by kernel_rfl) rfl (ev_any (v := .agg #[.int .i64 (gN l n 0), .int .i64 (gN l n 1), .int .i64 (gN l n 2), .int .i64 (gN l n 3), .int .i64 (gN l n 4), .int .i64 (gN l n 5), .int .i64 (gN l n 6), .int .i64 (gN l n 7)]) rfl (by kernel_rfl) (fun _ => by kernel_rfl)) ?_
       refine SR.k 21 rfl (by kernel_rfl) rfl (ev_any (v := .agg #[.int .i64 0, .int .i64 0, .string ⟨#[]⟩, .bool ((gt (kidL l ((n : Int) - 1) 1) (kidI l ((n : Int) - 1) 1)).v.truth), .int .i64 (gN l n 0), .int .i64 (gN l n 1), .int .i64 (gN l n 2), .int .i64 (gN l n 3), .int .i64 (gN l n 4), .int .i64 (gN l n 5), .int .i64 (gN l n 6), .int .i64 (gN l n 7), .slice none 0 0, .slice none 0 0]) rfl (by kernel_rfl) (fun _ => by kernel_rfl)) ?_
       refine SR.one (j := 23) (by kernel_rfl) rfl (st_storea (l' := [.int .i64 0, .int .i64 0, .string ⟨#[]⟩, .bool ((gt (kidL l ((n : Int) - 1) 1) (kidI l ((n : Int) - 1) 1)).v.truth), .int .i64 (gN l n 0), .int .i64 (gN l n 1), .int .i64 (gN l n 2), .int .i64 (gN l n 3), .int .i64 (gN l n 4), .int .i64 (gN l n 5), .int .i64 (gN l n 6), .int .i64 (gN l n 7), .slice none 0 0, .slice none 0 0]) rfl rfl rfl ty30 rfl rfl rfl .h rfl rfl ⟨tt0, ?_⟩)
       refine SR.fin (by kernel_rfl) hl_25 hx_25 hR_25 (.c (.c .n)) ?_
       exact SQ.weak (key27 b97) (Sub.get (.c rfl (.c rfl (.c rfl (.c rfl (.c rfl (.c rfl (.c rfl (.c rfl (.c rfl (.c rfl (.c rfl (.c rfl (.c rfl (.c rfl (.c rfl (.c rfl (.c rfl (.c rfl (.c rfl (.c rfl (.c rfl (.c rfl (.c rfl (.c rfl (.c rfl (.c rfl (.c rfl (.c rfl (.c rfl (.c rfl (.c rfl (.c rfl (.c rfl (.c rfl (.c rfl (.c rfl (.c rfl (.c rfl (.c rfl (.c rfl (.c rfl (.c rfl .n))))))))))))))))))))))))))))))))))))))))))) (fun w hw => hw.keep (.c .h (.c (.t .h) (.c (.t .h) (.c (.t .h) (.c (.t .h) (.c (.t .h) .n)))))))
      refine st_alloc rfl rfl rfl rfl zf30 (fun b98 => ⟨tt0, ?_⟩)
      refine SR.one (j := 9) (by kernel_rfl) rfl (st_callk rfl rfl rfl rfl hbd62 rfl .n (num_g A218 ((kidL l ((n : Int) - 1) 2).length) c219 (kidL l ((n : Int) - 1) 2) (kidI l ((n : Int) - 1) 2) 2 _ _ (Fr.lentm hx_25 hR_25 1 rfl (kid_len (l := l) (i := ((n : Int) - 1)) (k := 2) (by omega) (by omega)).1 (kid_fr p21 hP)) (((kid_nt hN)).ext hx_25) (by first | omega | simp only [LL] <;> omega | simp <;> omega) (by first | omega | simp only [LL] <;> omega | simp <;> omega) (by omega)) ⟨tt0, ?_⟩)
      refine SR.one (j := 11) (by kernel_rfl) rfl (st_callk rfl rfl rfl rfl hbd62 rfl .n (num_g A218 ((kidL l ((n : Int) - 1) 2).length) c219 (kidL l ((n : Int) - 1) 2) (kidI l ((n : Int) - 1) 2) 3 _ _ (Fr.lentm hx_25 hR_25 1 rfl (kid_len (l := l) (i := ((n : Int) - 1)) (k := 2) (by omega) (by omega)).1 (kid_fr p21 hP)) (((kid_nt hN)).ext hx_25) (by first | omega | simp only [LL] <;> omega | simp <;> omega) (by first | omega | simp only [LL] <;> omega | simp <;> omega) (by omega)) ⟨tt0, ?_⟩)
      refine SR.one (j := 13) (by kernel_rfl) rfl (st_callk rfl rfl rfl rfl hbd62 rfl .n (num_g A218 ((kidL l ((n : Int) - 1) 2).length) c219 (kidL l ((n : Int) - 1) 2) (kidI l ((n : Int) - 1) 2) 4 _ _ (Fr.lentm hx_25 hR_25 1 rfl (kid_len (l := l) (i := ((n : Int) - 1)) (k := 2) (by omega) (by omega)).1 (kid_fr p21 hP)) (((kid_nt hN)).ext hx_25) (by first | omega | simp only [LL] <;> omega | simp <;> omega) (by first | omega | simp only [LL] <;> omega | simp <;> omega) (by omega)) ⟨tt0, ?_⟩)
      refine SR.one (j := 15) (by kernel_rfl) rfl (st_callk rfl rfl rfl rfl hbd62 rfl .n (num_g A218 ((kidL l ((n : Int) - 1) 2).length) c219 (kidL l ((n : Int) - 1) 2) (kidI l ((n : Int) - 1) 2) 5 _ _ (Fr.lentm hx_25 hR_25 1 rfl (kid_len (l := l) (i := ((n : Int) - 1)) (k := 2) (by omega) (by omega)).1 (kid_fr p21 hP)) (((kid_nt hN)).ext hx_25) (by first | omega | simp only [LL] <;> omega | simp <;> omega) (by first | omega | simp only [LL] <;> omega | simp <;> omega) (by omega)) ⟨tt0, ?_⟩)
      refine SR.one (j := 17) (by kernel_rfl) rfl (st_callk rfl rfl rfl rfl hbd62 rfl .n (num_g A218 ((kidL l ((n : Int) - 1) 2).length) c219 (kidL l ((n : Int) - 1) 2) (kidI l ((n : Int) - 1) 2) 6 _ _ (Fr.lentm hx_25 hR_25 1 rfl (kid_len (l := l) (i := ((n : Int) - 1)) (k := 2) (by omega) (by omega)).1 (kid_fr p21 hP)) (((kid_nt hN)).ext hx_25) (by first | omega | simp only [LL] <;> omega | simp <;> omega) (by first | omega | simp only [LL] <;> omega | simp <;> omega) (by omega)) ⟨tt0, ?_⟩)
      refine SR.one (j := 19) (by kernel_rfl) rfl (st_callk rfl rfl rfl rfl hbd62 rfl .n (num_g A218 ((kidL l ((n : Int) - 1) 2).length) c219 (kidL l ((n : Int) - 1) 2) (kidI l ((n : Int) - 1) 2) 7 _ _ (Fr.lentm hx_25 hR_25 1 rfl (kid_len (l := l) (i := ((n : Int) - 1)) (k := 2) (by omega) (by omega)).1 (kid_fr p21 hP)) (((kid_nt hN)).ext hx_25) (by first | omega | simp only [LL] <;> omega | simp <;> omega) (by first | omega | simp only [LL] <;> omega | simp <;> omega) (by omega)) ⟨tt0, ?_⟩)
      refine SR.k 20 rfl (by kernel_rfl) rfl (ev_any (v := .agg #[.int .i64 (gN l n 0), .int .i64 (gN l n 1), .int .i64 (gN l n 2), .int .i64 (gN l n 3), .int .i64 (gN l n 4), .int .i64 (gN l n 5), .int .i64 (gN l n 6), .int .i64 (gN l n 7)]) rfl (by kernel_rfl) (fun _ => by kernel_rfl)) ?_
      refine SR.k 21 rfl (by kernel_rfl) rfl (ev_any (v := .agg #[.int .i64 0, .int .i64 0, .string ⟨#[]⟩, .bool ((gt (kidL l ((n : Int) - 1) 1) (kidI l ((n : Int) - 1) 1)).v.truth), .int .i64 (gN l n 0), .int .i64 (gN l n 1), .int .i64 (gN l n 2), .int .i64 (gN l n 3), .int .i64 (gN l n 4), .int .i64 (gN l n 5), .int .i64 (gN l n 6), .int .i64 (gN l n 7), .slice none 0 0, .slice none 0 0]) rfl (by kernel_rfl) (fun _ => by kernel_rfl)) ?_
      refine SR.one (j := 23) (by kernel_rfl) rfl (st_storea (l' := [.int .i64 0, .int .i64 0, .string ⟨#[]⟩, .bool ((gt (kidL l ((n : Int) - 1) 1) (kidI l ((n : Int) - 1) 1)).v.truth), .int .i64 (gN l n 0), .int .i64 (gN l n 1), .int .i64 (gN l n 2), .int .i64 (gN l n 3), .int .i64 (gN l n 4), .int .i64 (gN l n 5), .int .i64 (gN l n 6), .int .i64 (gN l n 7), .slice none 0 0, .slice none 0 0]) rfl rfl rfl ty30 rfl rfl rfl .h rfl rfl ⟨tt0, ?_⟩)
      refine SR.fin (by kernel_rfl) hl_25 hx_25 hR_25 (.c (.c .n)) ?_
      exact SQ.weak (key27 b98) (Sub.get (.c rfl (.c rfl (.c rfl (.c rfl (.c rfl (.c rfl (.c rfl (.c rfl (.c rfl (.c rfl (.c rfl (.c rfl (.c rfl (.c rfl (.c rfl (.c rfl (.c rfl (.c rfl (.c rfl (.c rfl (.c rfl (.c rfl (.c rfl (.c rfl (.c rfl (.c rfl (.c rfl (.c rfl (.c rfl (.c rfl (.c rfl (.c rfl (.c rfl (.c rfl (.c rfl (.c rfl (.c rfl (.c rfl (.c rfl (.c rfl (.c rfl (.c rfl .n))))))))))))))))))))))))))))))))))))))))))) (fun w hw => hw.keep (.c .h (.c (.t .h) (.c (.t .h) (.c (.t .h) (.c (.t .h) (.c (.t .h) .n)))))))
     refine st_alloc rfl rfl rfl rfl zf30 (fun b99 => ⟨tt0, ?_⟩)
     refine SR.one (j := 7) (by kernel_rfl) rfl (st_callk rfl rfl rfl rfl hbd62 rfl .n (num_g A218 ((kidL l ((n : Int) - 1) 2).length) c219 (kidL l ((n : Int) - 1) 2) (kidI l ((n : Int) - 1) 2) 1 _ _ (Fr.lentm hx_25 hR_25 1 rfl (kid_len (l := l) (i := ((n : Int) - 1)) (k := 2) (by omega) (by omega)).1 (kid_fr p21 hP)) (((kid_nt hN)).ext hx_25) (by first | omega | simp only [LL] <;> omega | simp <;> omega) (by first | omega | simp only [LL] <;> omega | simp <;> omega) (by omega)) ⟨tt0, ?_⟩)
     refine SR.one (j := 9) (by kernel_rfl) rfl (st_callk rfl rfl rfl rfl hbd62 rfl .n (num_g A218 ((kidL l ((n : Int) - 1) 2).length) c219 (kidL l ((n : Int) - 1) 2) (kidI l ((n : Int) - 1) 2) 2 _ _ (Fr.lentm hx_25 hR_25 1 rfl (kid_len (l := l) (i := ((n : Int) - 1)) (k := 2) (by omega) (by omega)).1 (kid_fr p21 hP)) (((kid_nt hN)).ext hx_25) (by first | omega | simp only [LL] <;> omega | simp <;> omega) (by first | omega | simp only [LL] <;> omega | simp <;> omega) (by omega)) ⟨tt0, ?_⟩)
     refine SR.one (j := 11) (by kernel_rfl) rfl (st_callk rfl rfl rfl rfl hbd62 rfl .n (num_g A218 ((kidL l ((n : Int) - 1) 2).length) c219 (kidL l ((n : Int) - 1) 2) (kidI l ((n : Int) - 1) 2) 3 _ _ (Fr.lentm hx_25 hR_25 1 rfl (kid_len (l := l) (i := ((n : Int) - 1)) (k := 2) (by omega) (by omega)).1 (kid_fr p21 hP)) (((kid_nt hN)).ext hx_25) (by first | omega | simp only [LL] <;> omega | simp <;> omega) (by first | omega | simp only [LL] <;> omega | simp <;> omega) (by omega)) ⟨tt0, ?_⟩)
     refine SR.one (j := 13) (by kernel_rfl) rfl (st_callk rfl rfl rfl rfl hbd62 rfl .n (num_g A218 ((kidL l ((n : Int) - 1) 2).length) c219 (kidL l ((n : Int) - 1) 2) (kidI l ((n : Int) - 1) 2) 4 _ _ (Fr.lentm hx_25 hR_25 1 rfl (kid_len (l := l) (i := ((n : Int) - 1)) (k := 2) (by omega) (by omega)).1 (kid_fr p21 hP)) (((kid_nt hN)).ext hx_25) (by first | omega | simp only [LL] <;> omega | simp <;> omega) (by first | omega | simp only [LL] <;> omega | simp <;> omega) (by omega)) ⟨tt0, ?_⟩)
     refine SR.one (j := 15) (by kernel_rfl) rfl (st_callk rfl rfl rfl rfl hbd62 rfl .n (num_g A218 ((kidL l ((n : Int) - 1) 2).length) c219 (kidL l ((n : Int) - 1) 2) (kidI l ((n : Int) - 1) 2) 5 _ _ (Fr.lentm hx_25 hR_25 1 rfl (kid_len (l := l) (i := ((n : Int) - 1)) (k := 2) (by omega) (by omega)).1 (kid_fr p21 hP)) (((kid_nt hN)).ext hx_25) (by first | omega | simp only [LL] <;> omega | simp <;> omega) (by first | omega | simp only [LL] <;> omega | simp <;> omega) (by omega)) ⟨tt0, ?_⟩)
     refine SR.one (j := 17) (by kernel_rfl) rfl (st_callk rfl rfl rfl rfl hbd62 rfl .n (num_g A218 ((kidL l ((n : Int) - 1) 2).length) c219 (kidL l ((n : Int) - 1) 2) (kidI l ((n : Int) - 1) 2) 6 _ _ (Fr.lentm hx_25 hR_25 1 rfl (kid_len (l := l) (i := ((n : Int) - 1)) (k := 2) (by omega) (by omega)).1 (kid_fr p21 hP)) (((kid_nt hN)).ext hx_25) (by first | omega | simp only [LL] <;> omega | simp <;> omega) (by first | omega | simp only [LL] <;> omega | simp <;> omega) (by omega)) ⟨tt0, ?_⟩)
     refine SR.one (j := 19) (by kernel_rfl) rfl (st_callk rfl rfl rfl rfl hbd62 rfl .n (num_g A218 ((kidL l ((n : Int) - 1) 2).length) c219 (kidL l ((n : Int) - 1) 2) (kidI l ((n : Int) - 1) 2) 7 _ _ (Fr.lentm hx_25 hR_25 1 rfl (kid_len (l := l) (i := ((n : Int) - 1)) (k := 2) (by omega) (by omega)).1 (kid_fr p21 hP)) (((kid_nt hN)).ext hx_25) (by first | omega | simp only [LL] <;> omega | simp <;> omega) (by first | omega | simp only [LL] <;> omega | simp <;> omega) (by omega)) ⟨tt0, ?_⟩)
     refine SR.k 20 rfl (by kernel_rfl) rfl (ev_any (v := .agg #[.int .i64 (gN l n 0), .int .i64 (gN l n 1), .int .i64 (gN l n 2), .int .i64 (gN l n 3), .int .i64 (gN l n 4), .int .i64 (gN l n 5), .int .i64 (gN l n 6), .int .i64 (gN l n 7)]) rfl (by kernel_rfl) (fun _ => by kernel_rfl)) ?_
     refine SR.k 21 rfl (by kernel_rfl) rfl (ev_any (v := .agg #[.int .i64 0, .int .i64 0, .string ⟨#[]⟩, .bool ((gt (kidL l ((n : Int) - 1) 1) (kidI l ((n : Int) - 1) 1)).v.truth), .int .i64 (gN l n 0), .int .i64 (gN l n 1), .int .i64 (gN l n 2), .int .i64 (gN l n 3), .int .i64 (gN l n 4), .int .i64 (gN l n 5), .int .i64 (gN l n 6), .int .i64 (gN l n 7), .slice none 0 0, .slice none 0 0]) rfl (by kernel_rfl) (fun _ => by kernel_rfl)) ?_
     refine SR.one (j := 23) (by kernel_rfl) rfl (st_storea (l' := [.int .i64 0, .int .i64 0, .string ⟨#[]⟩, .bool ((gt (kidL l ((n : Int) - 1) 1) (kidI l ((n : Int) - 1) 1)).v.truth), .int .i64 (gN l n 0), .int .i64 (gN l n 1), .int .i64 (gN l n 2), .int .i64 (gN l n 3), .int .i64 (gN l n 4), .int .i64 (gN l n 5), .int .i64 (gN l n 6), .int .i64 (gN l n 7), .slice none 0 0, .slice none 0 0]) rfl rfl rfl ty30 rfl rfl rfl .h rfl rfl ⟨tt0, ?_⟩)
     refine SR.fin (by kernel_rfl) hl_25 hx_25 hR_25 (.c (.c .n)) ?_
     exact SQ.weak (key27 b99) (Sub.get (.c rfl (.c rfl (.c rfl (.c rfl (.c rfl (.c rfl (.c rfl (.c rfl (.c rfl (.c rfl (.c rfl (.c rfl (.c rfl (.c rfl (.c rfl (.c rfl (.c rfl (.c rfl (.c rfl (.c rfl (.c rfl (.c rfl (.c rfl (.c rfl (.c rfl (.c rfl (.c rfl (.c rfl (.c rfl (.c rfl (.c rfl (.c rfl (.c rfl (.c rfl (.c rfl (.c rfl (.c rfl (.c rfl (.c rfl (.c rfl (.c rfl (.c rfl .n))))))))))))))))))))))))))))))))))))))))))) (fun w hw => hw.keep (.c .h (.c (.t .h) (.c (.t .h) (.c (.t .h) (.c (.t .h) (.c (.t .h) .n)))))))
    refine st_alloc rfl rfl rfl rfl zf30 (fun b100 => ⟨tt0, ?_⟩)
    refine SR.one (j := 5) (by kernel_rfl) rfl (st_callk rfl rfl rfl rfl hbd62 rfl .n (num_g A218 ((kidL l ((n : Int) - 1) 2).length) c219 (kidL l ((n : Int) - 1) 2) (kidI l ((n : Int) - 1) 2) 0 _ _ (Fr.lentm hx_25 hR_25 1 rfl (kid_len (l := l) (i := ((n : Int) - 1)) (k := 2) (by omega) (by omega)).1 (kid_fr p21 hP)) (((kid_nt hN)).ext hx_25) (by first | omega | simp only [LL] <;> omega | simp <;> omega) (by first | omega | simp only [LL] <;> omega | simp <;> omega) (by omega)) ⟨tt0, ?_⟩)
    refine SR.one (j := 7) (by kernel_rfl) rfl (st_callk rfl rfl rfl rfl hbd62 rfl .n (num_g A218 ((kidL l ((n : Int) - 1) 2).length) c219 (kidL l ((n : Int) - 1) 2) (kidI l ((n : Int) - 1) 2) 1 _ _ (Fr.lentm hx_25 hR_25 1 rfl (kid_len (l := l) (i := ((n : Int) - 1)) (k := 2) (by omega) (by omega)).1 (kid_fr p21 hP)) (((kid_nt hN)).ext hx_25) (by first | omega | simp only [LL] <;> omega | simp <;> omega) (by first | omega | simp only [LL] <;> omega | simp <;> omega) (by omega)) ⟨tt0, ?_⟩)
    refine SR.one (j := 9) (by kernel_rfl) rfl (st_callk rfl rfl rfl rfl hbd62 rfl .n (num_g A218 ((kidL l ((n : Int) - 1) 2).length) c219 (kidL l ((n : Int) - 1) 2) (kidI l ((n : Int) - 1) 2) 2 _ _ (Fr.lentm hx_25 hR_25 1 rfl (kid_len (l := l) (i := ((n : Int) - 1)) (k := 2) (by omega) (by omega)).1 (kid_fr p21 hP)) (((kid_nt hN)).ext hx_25) (by first | omega | simp only [LL] <;> omega | simp <;> omega) (by first | omega | simp only [LL] <;> omega | simp <;> omega) (by omega)) ⟨tt0, ?_⟩)
    refine SR.one (j := 11) (by kernel_rfl) rfl (st_callk rfl rfl rfl rfl hbd62 rfl .n (num_g A218 ((kidL l ((n : Int) - 1) 2).length) c219 (kidL l ((n : Int) - 1) 2) (kidI l ((n : Int) - 1) 2) 3 _ _ (Fr.lentm hx_25 hR_25 1 rfl (kid_len (l := l) (i := ((n : Int) - 1)) (k := 2) (by omega) (by omega)).1 (kid_fr p21 hP)) (((kid_nt hN)).ext hx_25) (by first | omega | simp only [LL] <;> omega | simp <;> omega) (by first | omega | simp only [LL] <;> omega | simp <;> omega) (by omega)) ⟨tt0, ?_⟩)
    refine SR.one (j := 13) (by kernel_rfl) rfl (st_callk rfl rfl rfl rfl hbd62 rfl .n (num_g A218 ((kidL l ((n : Int) - 1) 2).length) c219 (kidL l ((n : Int) - 1) 2) (kidI l ((n : Int) - 1) 2) 4 _ _ (Fr.lentm hx_25 hR_25 1 rfl (kid_len (l := l) (i := ((n : Int) - 1)) (k := 2) (by omega) (by omega)).1 (kid_fr p21 hP)) (((kid_nt hN)).ext hx_25) (by first | omega | simp only [LL] <;> omega | simp <;> omega) (by first | omega | simp only [LL] <;> omega | simp <;> omega) (by omega)) ⟨tt0, ?_⟩)
    refine SR.one (j := 15) (by kernel_rfl) rfl (st_callk rfl rfl rfl rfl hbd62 rfl .n (num_g A218 ((kidL l ((n : Int) - 1) 2).length) c219 (kidL l ((n : Int) - 1) 2) (kidI l ((n : Int) - 1) 2) 5 _ _ (Fr.lentm hx_25 hR_25 1 rfl (kid_len (l := l) (i := ((n : Int) - 1)) (k := 2) (by omega) (by omega)).1 (kid_fr p21 hP)) (((kid_nt hN)).ext hx_25) (by first | omega | simp only [LL] <;> omega | simp <;> omega) (by first | omega | simp only [LL] <;> omega | simp <;> omega) (by omega)) ⟨tt0, ?_⟩)
    refine SR.one (j := 17) (by kernel_rfl) rfl (st_callk rfl rfl rfl rfl hbd62 rfl .n (num_g A218 ((kidL l ((n : Int) - 1) 2).length) c219 (kidL l ((n : Int) - 1) 2) (kidI l ((n : Int) - 1) 2) 6 _ _ (Fr.lentm hx_25 hR_25 1 rfl (kid_len (l := l) (i := ((n : Int) - 1)) (k := 2) (by omega) (by omega)).1 (kid_fr p21 hP)) (((kid_nt hN)).ext hx_25) (by first | omega | simp only [LL] <;> omega | simp <;> omega) (by first | omega | simp only [LL] <;> omega | simp <;> omega) (by omega)) ⟨tt0, ?_⟩)
    refine SR.one (j := 19) (by kernel_rfl) rfl (st_callk rfl rfl rfl rfl hbd62 rfl .n (num_g A218 ((kidL l ((n : Int) - 1) 2).length) c219 (kidL l ((n : Int) - 1) 2) (kidI l ((n : Int) - 1) 2) 7 _ _ (Fr.lentm hx_25 hR_25 1 rfl (kid_len (l := l) (i := ((n : Int) - 1)) (k := 2) (by omega) (by omega)).1 (kid_fr p21 hP)) (((kid_nt hN)).ext hx_25) (by first | omega | simp only [LL] <;> omega | simp <;> omega) (by first | omega | simp only [LL] <;> omega | simp <;> omega) (by omega)) ⟨tt0, ?_⟩)
    refine SR.k 20 rfl (by kernel_rfl) rfl (ev_any (v := .agg #[.int .i64 (gN l n 0), .int .i64 (gN l n 1), .int .i64 (gN l n 2), .int .i64 (gN l n 3), .int .i64 (gN l n 4), .int .i64 (gN l n 5), .int .i64 (gN l n 6), .int .i64 (gN l n 7)]) rfl (by kernel_rfl) (fun _ => by kernel_rfl)) ?_
    refine SR.k 21 rfl (by kernel_rfl) rfl (ev_any (v := .agg #[.int .i64 0, .int .i64 0, .string ⟨#[]⟩, .bool ((gt (kidL l ((n : Int) - 1) 1) (kidI l ((n : Int) - 1) 1)).v.truth), .int .i64 (gN l n 0), .int .i64 (gN l n 1), .int .i64 (gN l n 2), .int .i64 (gN l n 3), .int .i64 (gN l n 4), .int .i64 (gN l n 5), .int .i64 (gN l n 6), .int .i64 (gN l n 7), .slice none 0 0, .slice none 0 0]) rfl (by kernel_rfl) (fun _ => by kernel_rfl)) ?_
    refine SR.one (j := 23) (by kernel_rfl) rfl (st_storea (l' := [.int .i64 0, .int .i64 0, .string ⟨#[]⟩, .bool ((gt (kidL l ((n : Int) - 1) 1) (kidI l ((n : Int) - 1) 1)).v.truth), .int .i64 (gN l n 0), .int .i64 (gN l n 1), .int .i64 (gN l n 2), .int .i64 (gN l n 3), .int .i64 (gN l n 4), .int .i64 (gN l n 5), .int .i64 (gN l n 6), .int .i64 (gN l n 7), .slice none 0 0, .slice none 0 0]) rfl rfl rfl ty30 rfl rfl rfl .h rfl rfl ⟨tt0, ?_⟩)
    refine SR.fin (by kernel_rfl) hl_25 hx_25 hR_25 (.c (.c .n)) ?_
    exact SQ.weak (key27 b100) (Sub.get (.c rfl (.c rfl (.c rfl (.c rfl (.c rfl (.c rfl (.c rfl (.c rfl (.c rfl (.c rfl (.c rfl (.c rfl (.c rfl (.c rfl (.c rfl (.c rfl (.c rfl (.c rfl (.c rfl (.c rfl (.c rfl (.c rfl (.c rfl (.c rfl (.c rfl (.c rfl (.c rfl (.c rfl (.c rfl (.c rfl (.c rfl (.c rfl (.c rfl (.c rfl (.c rfl (.c rfl (.c rfl (.c rfl (.c rfl (.c rfl (.c rfl (.c rfl .n))))))))))))))))))))))))))))))))))))))))))) (fun w hw => hw.keep (.c .h (.c (.t .h) (.c (.t .h) (.c (.t .h) (.c (.t .h) (.c (.t .h) .n)))))))
   refine st_alloc rfl rfl rfl rfl zf30 (fun b101 => ⟨tt0, ?_⟩)
   refine SR.one (j := 2) (by kernel_rfl) rfl (st_lendk rfl rfl rfl rfl hbd61 rfl .n (.c (.t .h) .n) (fun w_ hw => value_ A286 ((kidL l ((n : Int) - 1) 1).length) c287 (kidL l ((n : Int) - 1) 1) (kidI l ((n : Int) - 1) 1) _ _ (Fr.lendm hw 0 rfl (kid_len (l := l) (i := ((n : Int) - 1)) (k := 1) (by omega) (by omega)).1 (kid_fr p89 (Fr.ext hP hx_25))) (by first | omega | simp only [LL] <;> omega | simp <;> omega) (by first | omega | simp only [LL] <;> omega | simp <;> omega)) ⟨tt0, ?_⟩)
   refine SR.k 3 rfl (by kernel_rfl) rfl (ev_any (v := .bool ((gt (kidL l ((n : Int) - 1) 1) (kidI l ((n : Int) - 1) 1)).v.truth)) rfl (by kernel_rfl) (fun _ => by kernel_rfl)) ?_
   refine SR.one (j := 5) (by kernel_rfl) rfl (st_callk rfl rfl rfl rfl hbd62 rfl .n (num_g A218 ((kidL l ((n : Int) - 1) 2).length) c219 (kidL l ((n : Int) - 1) 2) (kidI l ((n : Int) - 1) 2) 0 _ _ (Fr.lentm hx_25 hR_25 1 rfl (kid_len (l := l) (i := ((n : Int) - 1)) (k := 2) (by omega) (by omega)).1 (kid_fr p21 hP)) (((kid_nt hN)).ext hx_25) (by first | omega | simp only [LL] <;> omega | simp <;> omega) (by first | omega | simp only [LL] <;> omega | simp <;> omega) (by omega)) ⟨tt0, ?_⟩)
   refine SR.one (j := 7) (by kernel_rfl) rfl (st_callk rfl rfl rfl rfl hbd62 rfl .n (num_g A218 ((kidL l ((n : Int) - 1) 2).length) c219 (kidL l ((n : Int) - 1) 2) (kidI l ((n : Int) - 1) 2) 1 _ _ (Fr.lentm hx_25 hR_25 1 rfl (kid_len (l := l) (i := ((n : Int) - 1)) (k := 2) (by omega) (by omega)).1 (kid_fr p21 hP)) (((kid_nt hN)).ext hx_25) (by first | omega | simp only [LL] <;> omega | simp <;> omega) (by first | omega | simp only [LL] <;> omega | simp <;> omega) (by omega)) ⟨tt0, ?_⟩)
   refine SR.one (j := 9) (by kernel_rfl) rfl (st_callk rfl rfl rfl rfl hbd62 rfl .n (num_g A218 ((kidL l ((n : Int) - 1) 2).length) c219 (kidL l ((n : Int) - 1) 2) (kidI l ((n : Int) - 1) 2) 2 _ _ (Fr.lentm hx_25 hR_25 1 rfl (kid_len (l := l) (i := ((n : Int) - 1)) (k := 2) (by omega) (by omega)).1 (kid_fr p21 hP)) (((kid_nt hN)).ext hx_25) (by first | omega | simp only [LL] <;> omega | simp <;> omega) (by first | omega | simp only [LL] <;> omega | simp <;> omega) (by omega)) ⟨tt0, ?_⟩)
   refine SR.one (j := 11) (by kernel_rfl) rfl (st_callk rfl rfl rfl rfl hbd62 rfl .n (num_g A218 ((kidL l ((n : Int) - 1) 2).length) c219 (kidL l ((n : Int) - 1) 2) (kidI l ((n : Int) - 1) 2) 3 _ _ (Fr.lentm hx_25 hR_25 1 rfl (kid_len (l := l) (i := ((n : Int) - 1)) (k := 2) (by omega) (by omega)).1 (kid_fr p21 hP)) (((kid_nt hN)).ext hx_25) (by first | omega | simp only [LL] <;> omega | simp <;> omega) (by first | omega | simp only [LL] <;> omega | simp <;> omega) (by omega)) ⟨tt0, ?_⟩)
   refine SR.one (j := 13) (by kernel_rfl) rfl (st_callk rfl rfl rfl rfl hbd62 rfl .n (num_g A218 ((kidL l ((n : Int) - 1) 2).length) c219 (kidL l ((n : Int) - 1) 2) (kidI l ((n : Int) - 1) 2) 4 _ _ (Fr.lentm hx_25 hR_25 1 rfl (kid_len (l := l) (i := ((n : Int) - 1)) (k := 2) (by omega) (by omega)).1 (kid_fr p21 hP)) (((kid_nt hN)).ext hx_25) (by first | omega | simp only [LL] <;> omega | simp <;> omega) (by first | omega | simp only [LL] <;> omega | simp <;> omega) (by omega)) ⟨tt0, ?_⟩)
   refine SR.one (j := 15) (by kernel_rfl) rfl (st_callk rfl rfl rfl rfl hbd62 rfl .n (num_g A218 ((kidL l ((n : Int) - 1) 2).length) c219 (kidL l ((n : Int) - 1) 2) (kidI l ((n : Int) - 1) 2) 5 _ _ (Fr.lentm hx_25 hR_25 1 rfl (kid_len (l := l) (i := ((n : Int) - 1)) (k := 2) (by omega) (by omega)).1 (kid_fr p21 hP)) (((kid_nt hN)).ext hx_25) (by first | omega | simp only [LL] <;> omega | simp <;> omega) (by first | omega | simp only [LL] <;> omega | simp <;> omega) (by omega)) ⟨tt0, ?_⟩)
   refine SR.one (j := 17) (by kernel_rfl) rfl (st_callk rfl rfl rfl rfl hbd62 rfl .n (num_g A218 ((kidL l ((n : Int) - 1) 2).length) c219 (kidL l ((n : Int) - 1) 2) (kidI l ((n : Int) - 1) 2) 6 _ _ (Fr.lentm hx_25 hR_25 1 rfl (kid_len (l := l) (i := ((n : Int) - 1)) (k := 2) (by omega) (by omega)).1 (kid_fr p21 hP)) (((kid_nt hN)).ext hx_25) (by first | omega | simp only [LL] <;> omega | simp <;> omega) (by first | omega | simp only [LL] <;> omega | simp <;> omega) (by omega)) ⟨tt0, ?_⟩)
   refine SR.one (j := 19) (by kernel_rfl) rfl (st_callk rfl rfl rfl rfl hbd62 rfl .n (num_g A218 ((kidL l ((n : Int) - 1) 2).length) c219 (kidL l ((n : Int) - 1) 2) (kidI l ((n : Int) - 1) 2) 7 _ _ (Fr.lentm hx_25 hR_25 1 rfl (kid_len (l := l) (i := ((n : Int) - 1)) (k := 2) (by omega) (by omega)).1 (kid_fr p21 hP)) (((kid_nt hN)).ext hx_25) (by first | omega | simp only [LL] <;> omega | simp <;> omega) (by first | omega | simp only [LL] <;> omega | simp <;> omega) (by omega)) ⟨tt0, ?_⟩)
   refine SR.k 20 rfl (by kernel_rfl) rfl (ev_any (v := .agg #[.int .i64 (gN l n 0), .int .i64 (gN l n 1), .int .i64 (gN l n 2), .int .i64 (gN l n 3), .int .i64 (gN l n 4), .int .i64 (gN l n 5), .int .i64 (gN l n 6), .int .i64 (gN l n 7)]) rfl (by kernel_rfl) (fun _ => by kernel_rfl)) ?_
   refine SR.k 21 rfl (by kernel_rfl) rfl (ev_any (v := .agg #[.int .i64 0, .int .i64 0, .string ⟨#[]⟩, .bool ((gt (kidL l ((n : Int) - 1) 1) (kidI l ((n : Int) - 1) 1)).v.truth), .int .i64 (gN l n 0), .int .i64 (gN l n 1), .int .i64 (gN l n 2), .int .i64 (gN l n 3), .int .i64 (gN l n 4), .int .i64 (gN l n 5), .int .i64 (gN l n 6), .int .i64 (gN l n 7), .slice none 0 0, .slice none 0 0]) rfl (by kernel_rfl) (fun _ => by kernel_rfl)) ?_
   refine SR.one (j := 23) (by kernel_rfl) rfl (st_storea (l' := [.int .i64 0, .int .i64 0, .string ⟨#[]⟩, .bool ((gt (kidL l ((n : Int) - 1) 1) (kidI l ((n : Int) - 1) 1)).v.truth), .int .i64 (gN l n 0), .int .i64 (gN l n 1), .int .i64 (gN l n 2), .int .i64 (gN l n 3), .int .i64 (gN l n 4), .int .i64 (gN l n 5), .int .i64 (gN l n 6), .int .i64 (gN l n 7), .slice none 0 0, .slice none 0 0]) rfl rfl rfl ty30 rfl rfl rfl .h rfl rfl ⟨tt0, ?_⟩)
   refine SR.fin (by kernel_rfl) hl_25 hx_25 hR_25 (.c (.c .n)) ?_
   exact SQ.weak (key27 b101) (Sub.get (.c rfl (.c rfl (.c rfl (.c rfl (.c rfl (.c rfl (.c rfl (.c rfl (.c rfl (.c rfl (.c rfl (.c rfl (.c rfl (.c rfl (.c rfl (.c rfl (.c rfl (.c rfl (.c rfl (.c rfl (.c rfl (.c rfl (.c rfl (.c rfl (.c rfl (.c rfl (.c rfl (.c rfl (.c rfl (.c rfl (.c rfl (.c rfl (.c rfl (.c rfl (.c rfl (.c rfl (.c rfl (.c rfl (.c rfl (.c rfl (.c rfl (.c rfl .n))))))))))))))))))))))))))))))))))))))))))) (fun w hw => hw.keep (.c .h (.c (.t .h) (.c (.t .h) (.c (.t .h) (.c (.t .h) (.c (.t .h) .n)))))))
  refine st_alloc rfl rfl rfl rfl zf30 (fun b102 => ⟨tt0, ?_⟩)
  refine SR.one (j := 1) (by kernel_rfl) rfl (st_call0 rfl rfl rfl rfl hbd60 rfl .n (kid_g A n c l ((n : Int) - 1) 1 _ _ (Fr.ext hP hx_25) ((hN).ext hx_25) (by first | omega | simp only [LL] <;> omega | simp <;> omega) (by omega) (by omega)) (fun v_q105 C_q105 q105 => ⟨tt0, ?_⟩))
  obtain ⟨A2103, c2104, p106, rfl, rfl⟩ := q105
  show SR _ _ _ _ _ _ _ _ _ ⟨_, _ :: _, _, _⟩
  have hkr107 := kid_rng (l := l) (i := ((n : Int) - 1)) (k := 1) (by omega)
  have hkl108 := kid_len (l := l) (i := ((n : Int) - 1)) (k := 1) (by omega) (by omega)
  refine SR.one (j := 2) (by kernel_rfl) rfl (st_lendk rfl rfl rfl rfl hbd61 rfl .n (.c .h .n) (fun w_ hw => value_ A2103 ((kidL l ((n : Int) - 1) 1).length) c2104 (kidL l ((n : Int) - 1) 1) (kidI l ((n : Int) - 1) 1) _ _ (Fr.lendm hw 0 rfl (kid_len (l := l) (i := ((n : Int) - 1)) (k := 1) (by omega) (by omega)).1 (kid_fr p106 (Fr.ext hP hx_25))) (by first | omega | simp only [LL] <;> omega | simp <;> omega) (by first | omega | simp only [LL] <;> omega | simp <;> omega)) ⟨tt0, ?_⟩)
  refine SR.k 3 rfl (by kernel_rfl) rfl (ev_any (v := .bool ((gt (kidL l ((n : Int) - 1) 1) (kidI l ((n : Int) - 1) 1)).v.truth)) rfl (by kernel_rfl) (fun _ => by kernel_rfl)) ?_
  refine SR.one (j := 5) (by kernel_rfl) rfl (st_callk rfl rfl rfl rfl hbd62 rfl .n (num_g A218 ((kidL l ((n : Int) - 1) 2).length) c219 (kidL l ((n : Int) - 1) 2) (kidI l ((n : Int) - 1) 2) 0 _ _ (Fr.lentm hx_25 hR_25 1 rfl (kid_len (l := l) (i := ((n : Int) - 1)) (k := 2) (by omega) (by omega)).1 (kid_fr p21 hP)) (((kid_nt hN)).ext hx_25) (by first | omega | simp only [LL] <;> omega | simp <;> omega) (by first | omega | simp only [LL] <;> omega | simp <;> omega) (by omega)) ⟨tt0, ?_⟩)
  refine SR.one (j := 7) (by kernel_rfl) rfl (st_callk rfl rfl rfl rfl hbd62 rfl .n (num_g A218 ((kidL l ((n : Int) - 1) 2).length) c219 (kidL l ((n : Int) - 1) 2) (kidI l ((n : Int) - 1) 2) 1 _ _ (Fr.lentm hx_25 hR_25 1 rfl (kid_len (l := l) (i := ((n : Int) - 1)) (k := 2) (by omega) (by omega)).1 (kid_fr p21 hP)) (((kid_nt hN)).ext hx_25) (by first | omega | simp only [LL] <;> omega | simp <;> omega) (by first | omega | simp only [LL] <;> omega | simp <;> omega) (by omega)) ⟨tt0, ?_⟩)
  refine SR.one (j := 9) (by kernel_rfl) rfl (st_callk rfl rfl rfl rfl hbd62 rfl .n (num_g A218 ((kidL l ((n : Int) - 1) 2).length) c219 (kidL l ((n : Int) - 1) 2) (kidI l ((n : Int) - 1) 2) 2 _ _ (Fr.lentm hx_25 hR_25 1 rfl (kid_len (l := l) (i := ((n : Int) - 1)) (k := 2) (by omega) (by omega)).1 (kid_fr p21 hP)) (((kid_nt hN)).ext hx_25) (by first | omega | simp only [LL] <;> omega | simp <;> omega) (by first | omega | simp only [LL] <;> omega | simp <;> omega) (by omega)) ⟨tt0, ?_⟩)
  refine SR.one (j := 11) (by kernel_rfl) rfl (st_callk rfl rfl rfl rfl hbd62 rfl .n (num_g A218 ((kidL l ((n : Int) - 1) 2).length) c219 (kidL l ((n : Int) - 1) 2) (kidI l ((n : Int) - 1) 2) 3 _ _ (Fr.lentm hx_25 hR_25 1 rfl (kid_len (l := l) (i := ((n : Int) - 1)) (k := 2) (by omega) (by omega)).1 (kid_fr p21 hP)) (((kid_nt hN)).ext hx_25) (by first | omega | simp only [LL] <;> omega | simp <;> omega) (by first | omega | simp only [LL] <;> omega | simp <;> omega) (by omega)) ⟨tt0, ?_⟩)
  refine SR.one (j := 13) (by kernel_rfl) rfl (st_callk rfl rfl rfl rfl hbd62 rfl .n (num_g A218 ((kidL l ((n : Int) - 1) 2).length) c219 (kidL l ((n : Int) - 1) 2) (kidI l ((n : Int) - 1) 2) 4 _ _ (Fr.lentm hx_25 hR_25 1 rfl (kid_len (l := l) (i := ((n : Int) - 1)) (k := 2) (by omega) (by omega)).1 (kid_fr p21 hP)) (((kid_nt hN)).ext hx_25) (by first | omega | simp only [LL] <;> omega | simp <;> omega) (by first | omega | simp only [LL] <;> omega | simp <;> omega) (by omega)) ⟨tt0, ?_⟩)
  refine SR.one (j := 15) (by kernel_rfl) rfl (st_callk rfl rfl rfl rfl hbd62 rfl .n (num_g A218 ((kidL l ((n : Int) - 1) 2).length) c219 (kidL l ((n : Int) - 1) 2) (kidI l ((n : Int) - 1) 2) 5 _ _ (Fr.lentm hx_25 hR_25 1 rfl (kid_len (l := l) (i := ((n : Int) - 1)) (k := 2) (by omega) (by omega)).1 (kid_fr p21 hP)) (((kid_nt hN)).ext hx_25) (by first | omega | simp only [LL] <;> omega | simp <;> omega) (by first | omega | simp only [LL] <;> omega | simp <;> omega) (by omega)) ⟨tt0, ?_⟩)
  refine SR.one (j := 17) (by kernel_rfl) rfl (st_callk rfl rfl rfl rfl hbd62 rfl .n (num_g A218 ((kidL l ((n : Int) - 1) 2).length) c219 (kidL l ((n : Int) - 1) 2) (kidI l ((n : Int) - 1) 2) 6 _ _ (Fr.lentm hx_25 hR_25 1 rfl (kid_len (l := l) (i := ((n : Int) - 1)) (k := 2) (by omega) (by omega)).1 (kid_fr p21 hP)) (((kid_nt hN)).ext hx_25) (by first | omega | simp only [LL] <;> omega | simp <;> omega) (by first | omega | simp only [LL] <;> omega | simp <;> omega) (by omega)) ⟨tt0, ?_⟩)
  refine SR.one (j := 19) (by kernel_rfl) rfl (st_callk rfl rfl rfl rfl hbd62 rfl .n (num_g A218 ((kidL l ((n : Int) - 1) 2).length) c219 (kidL l ((n : Int) - 1) 2) (kidI l ((n : Int) - 1) 2) 7 _ _ (Fr.lentm hx_25 hR_25 1 rfl (kid_len (l := l) (i := ((n : Int) - 1)) (k := 2) (by omega) (by omega)).1 (kid_fr p21 hP)) (((kid_nt hN)).ext hx_25) (by first | omega | simp only [LL] <;> omega | simp <;> omega) (by first | omega | simp only [LL] <;> omega | simp <;> omega) (by omega)) ⟨tt0, ?_⟩)
  refine SR.k 20 rfl (by kernel_rfl) rfl (ev_any (v := .agg #[.int .i64 (gN l n 0), .int .i64 (gN l n 1), .int .i64 (gN l n 2), .int .i64 (gN l n 3), .int .i64 (gN l n 4), .int .i64 (gN l n 5), .int .i64 (gN l n 6), .int .i64 (gN l n 7)]) rfl (by kernel_rfl) (fun _ => by kernel_rfl)) ?_
  refine SR.k 21 rfl (by kernel_rfl) rfl (ev_any (v := .agg #[.int .i64 0, .int .i64 0, .string ⟨#[]⟩, .bool ((gt (kidL l ((n : Int) - 1) 1) (kidI l ((n : Int) - 1) 1)).v.truth), .int .i64 (gN l n 0), .int .i64 (gN l n 1), .int .i64 (gN l n 2), .int .i64 (gN l n 3), .int .i64 (gN l n 4), .int .i64 (gN l n 5), .int .i64 (gN l n 6), .int .i64 (gN l n 7), .slice none 0 0, .slice none 0 0]) rfl (by kernel_rfl) (fun _ => by kernel_rfl)) ?_
  refine SR.one (j := 23) (by kernel_rfl) rfl (st_storea (l' := [.int .i64 0, .int .i64 0, .string ⟨#[]⟩, .bool ((gt (kidL l ((n : Int) - 1) 1) (kidI l ((n : Int) - 1) 1)).v.truth), .int .i64 (gN l n 0), .int .i64 (gN l n 1), .int .i64 (gN l n 2), .int .i64 (gN l n 3), .int .i64 (gN l n 4), .int .i64 (gN l n 5), .int .i64 (gN l n 6), .int .i64 (gN l n 7), .slice none 0 0, .slice none 0 0]) rfl rfl rfl ty30 rfl rfl rfl (.t .h) rfl rfl ⟨tt0, ?_⟩)
  refine SR.fin (by kernel_rfl) hl_25 hx_25 hR_25 (.c (.c .n)) ?_
  exact SQ.weak (key27 b102) (Sub.get (.c rfl (.c rfl (.c rfl (.c rfl (.c rfl (.c rfl (.c rfl (.c rfl (.c rfl (.c rfl (.c rfl (.c rfl (.c rfl (.c rfl (.c rfl (.c rfl (.c rfl (.c rfl (.c rfl (.c rfl (.c rfl (.c rfl (.c rfl (.c rfl (.c rfl (.c rfl (.c rfl (.c rfl (.c rfl (.c rfl (.c rfl (.c rfl (.c rfl (.c rfl (.c rfl (.c rfl (.c rfl (.c rfl (.c rfl (.c rfl (.c rfl (.c rfl .n))))))))))))))))))))))))))))))))))))))))))) (fun w hw => hw.keep (.c .h (.c (.t .h) (.c (.t .h) (.c (.t .h) (.c (.t .h) (.c (.t .h) .n)))))))
 refine .skipgo idQ (.seq (.region ?_))
 refine .v (ev_any (v := .agg #[.int .i64 0, .int .i64 0, .string ⟨#[]⟩, .bool false, .int .i64 0, .int .i64 0, .int .i64 0, .int .i64 0, .int .i64 0, .int .i64 0, .int .i64 0, .int .i64 0, .slice none 0 0, .slice none 0 0]) rfl (by kernel_rfl) (fun _ => by kernel_rfl)) rfl ?_
 refine .cons (st_storea (l' := [.int .i64 0, .int .i64 0, .string ⟨#[]⟩, .bool false, .int .i64 0, .int .i64 0, .int .i64 0, .int .i64 0, .int .i64 0, .int .i64 0, .int .i64 0, .int .i64 0, .slice none 0 0, .slice none 0 0]) rfl rfl rfl ty30 rfl rfl rfl (.t (.t .h)) rfl rfl ?_)
 refine .v (ev_as rfl rfl) rfl ?_
 refine .go idQ ?_
 refine SC.nilrow ePL 52 ?_
 refine SC.nestP0 58 3 ?_
 refine SC.nilrow eTK 62 ?_
 exact .ret idQ (retv2 Try.results39 (.c 3 rfl rfl ty30) (.t rfl) (.c (.t (.t .h)) (.c (.t .h) (.c .h .n))) ⟨0, 0, ⟨#[]⟩, false, 0, 0, 0, 0, 0, 0, 0, 0, none, 0, ([] : List PV), none, 0, ([] : List TK), false, (by decide), (by decide), (fun p hp => by cases hp), rfl, rfl⟩)
end Go.Proofs.Ythmkelkefmfmgaa.Sx
set_option maxRecDepth 20000
set_option maxHeartbeats 4000000
namespace Go.Proofs.Ythmkelkefmfmgaa.Sx.FGD
open Go Go.SX Go.Proofs
theorem zf30 : (Try.prog.info? 30).bind (fun i => i.zero.map Value.cells) = some (List.toArray [.int .i64 0, .int .i64 0, .string ⟨#[]⟩, .bool false, .int .i64 0, .int .i64 0, .int .i64 0, .int .i64 0, .int .i64 0, .int .i64 0, .int .i64 0, .int .i64 0, .slice none 0 0, .slice none 0 0]) := by kernel_rfl
theorem ty30 : ty Try.prog 30 = some (true, 14) := by kernel_rfl
theorem hbd39 : hasBody Try.prog 39 = true := by kernel_rfl
theorem mo : Try.prog.follows .mixedOrders = true := by kernel_rfl
theorem hbd11 : hasBody Try.prog 11 = true := by kernel_rfl
theorem hbd40 : hasBody Try.prog 40 = true := by kernel_rfl
end Go.Proofs.Ythmkelkefmfmgaa.Sx.FGD
namespace Go.Proofs.Ythmkelkefmfmgaa.Sx
open Go Go.SX Go.Proofs FGD
theorem tree_any (cd : Int) (at_ : Int) (path : ByteArray) (op : Bool) (x0 : Int) (x1 : Int) (x2 : Int) (x3 : Int) (x4 : Int) (x5 : Int) (x6 : Int) (x7 : Int) (pA : Option Addr) (pc : Nat) (Ps : List PV) (kA : Option Addr) (kc : Nat) (Lt : List TK) (S : Nat → Prop) (wf : World) (hP : Fr ePL S wf pA Ps) (hK : Fr eTK S wf kA Lt) (hN : NP S wf Ps) (hps : Ps.length ≤ 8192) (hlf : Lt.length ≤ 8192) (hS : ∀ p ∈ Ps, bP p) :
  TR0 Try.prog 11 [.agg #[.int .i64 cd, .int .i64 at_, .string path, .bool op, .int .i64 x0, .int .i64 x1, .int .i64 x2, .int .i64 x3, .int .i64 x4, .int .i64 x5, .int .i64 x6, .int .i64 x7, .slice pA Ps.length pc, .slice kA Lt.length kc]] [] S wf (fun v_ C_ => ∃ (u : Value) (L : List TV), (vs L = treeF cd at_ path op ⟨x0, x1, x2, x3, x4, x5, x6, x7⟩ Ps Lt) ∧ (L.length ≤ 1000000000000) ∧ v_ = u ∧ C_ = [rw_ eTV 90 (u) L, nest 9 3 L]) := by
 by_cases hc : cd = 0
 · exact (tree_ cd at_ path op x0 x1 x2 x3 x4 x5 x6 x7 pA pc Ps kA kc Lt S wf hP hK hN hc hps hlf hS).mono (fun v C h => by obtain ⟨u, L, h1, h2, h3, h4⟩ := h; exact ⟨u, L, h1.trans (treeF_o hc), h2, h3, h4⟩)
 · exact (tree_g cd at_ path op x0 x1 x2 x3 x4 x5 x6 x7 pA pc Ps kA kc Lt S wf hc).mono (fun v C h => by obtain ⟨u, L, h1, h3, h4⟩ := h; have h_ : L.length = 5 := (by rw [← vs_len, h1]; rfl); exact ⟨u, L, h1.trans (treeF_f hc), by omega, h3, h4⟩)
theorem read_g (A : Option Addr) (n : Nat) (c : Nat) (l : List TV) (S : Nat → Prop) (wf : World) (hP : Fr eTV S wf A l) (hN : NT S wf l) (hn : l.length = n) (hKW : KW l) :
  TR0 Try.prog 17 [.slice A n c] [] S wf (fun v_ C_ => ∃ (cd : Int) (at_ : Int) (path : ByteArray) (op : Bool) (x0 : Int) (x1 : Int) (x2 : Int) (x3 : Int) (x4 : Int) (x5 : Int) (x6 : Int) (x7 : Int) (pA : Option Addr) (pc : Nat) (Ps : List PV) (kA : Option Addr) (kc : Nat) (Lt : List TK) (ok : Bool), (Ps.length ≤ 8192) ∧ (Lt.length ≤ 8192) ∧ (∀ p ∈ Ps, bP p) ∧ (ok = true → treeF cd at_ path op ⟨x0, x1, x2, x3, x4, x5, x6, x7⟩ Ps Lt = vs l) ∧ v_ = .tuple #[.agg #[.int .i64 cd, .int .i64 at_, .string path, .bool op, .int .i64 x0, .int .i64 x1, .int .i64 x2, .int .i64 x3, .int .i64 x4, .int .i64 x5, .int .i64 x6, .int .i64 x7, .slice pA Ps.length pc, .slice kA Lt.length kc], .bool ok] ∧ C_ = [rw_ ePL 52 (.slice pA Ps.length pc) Ps, nestP 58 3 Ps, rw_ eTK 62 (.slice kA Lt.length kc) Lt]) := by
 have hla := hP.len
 refine TR.mk Try.func17 rfl Try.ntmps17 rfl rfl (fun w_ => ?_)
 refine .seq (.region ?_)
 refine .cons (st_alloc rfl rfl rfl rfl zf30 (fun b1 => ?_))
 refine .v (ev_as rfl rfl) rfl ?_
 refine .go idQ (.seq (.seq (.region ?_)))
 refine .v (ev_mv rfl rfl) rfl ?_
 refine .v (ev_len rfl Try.underlying34 rfl) rfl ?_
 refine .v (ev_cmp rfl rfl rfl rfl) rfl ?_
 refine .go idQ ?_
 refine .condI rfl bE (fun h2 => ?_) (fun h2 => ?_)
 ·
  refine .seq (.region ?_)
  refine .v (ev_any (v := .agg #[.int .i64 0, .int .i64 0, .string ⟨#[]⟩, .bool false, .int .i64 0, .int .i64 0, .int .i64 0, .int .i64 0, .int .i64 0, .int .i64 0, .int .i64 0, .int .i64 0, .slice none 0 0, .slice none 0 0]) rfl (by kernel_rfl) (fun _ => by kernel_rfl)) rfl ?_
  refine .cons (st_storea (l' := [.int .i64 0, .int .i64 0, .string ⟨#[]⟩, .bool false, .int .i64 0, .int .i64 0, .int .i64 0, .int .i64 0, .int .i64 0, .int .i64 0, .int .i64 0, .int .i64 0, .slice none 0 0, .slice none 0 0]) rfl rfl rfl ty30 rfl rfl rfl .h rfl rfl ?_)
  refine .v (ev_as rfl rfl) rfl ?_
  refine .go idQ ?_
  refine SC.nilrow ePL 52 ?_
  refine SC.nestP0 58 3 ?_
  refine SC.nilrow eTK 62 ?_
  exact .ret idQ (retv2 Try.results17 (.c 3 rfl rfl ty30) (.t rfl) (.c (.t (.t .h)) (.c (.t .h) (.c .h .n))) ⟨0, 0, ⟨#[]⟩, false, 0, 0, 0, 0, 0, 0, 0, 0, none, 0, ([] : List PV), none, 0, ([] : List TK), false, (by decide), (by decide), (fun p hp => by cases hp), (fun h_ => by cases h_), rfl, rfl⟩)
 refine .skipgo idQ (.seq (.region ?_))
 refine .v (ev_mv rfl rfl) rfl ?_
 refine .cons (st_call0 rfl rfl rfl rfl hbd39 rfl .n (whole_g A n c l _ _ hP hN (by first | omega | simp only [LL] <;> omega | simp <;> omega) (by omega) hKW) (fun v_q22 C_q22 q22 => ?_))
 obtain ⟨cd3, at_4, path5, op6, x07, x18, x29, x310, x411, x512, x613, x714, pA15, pc16, Ps17, kA18, kc19, Lt20, ok21, p23, p24, p25, rfl, rfl⟩ := q22
 show SP _ _ _ _ _ _ ⟨_, _ :: _ :: _ :: _, _, _⟩
 refine .v (ev_mv rfl rfl) rfl ?_
 refine .v (ev_ext rfl rfl rfl) rfl ?_
 refine .v (ev_ext rfl rfl rfl) rfl ?_
 refine .cons (st_alloc rfl rfl rfl rfl zf30 (fun b26 => ?_))
 refine .cons (st_storea (l' := [.int .i64 cd3, .int .i64 at_4, .string path5, .bool op6, .int .i64 x07, .int .i64 x18, .int .i64 x29, .int .i64 x310, .int .i64 x411, .int .i64 x512, .int .i64 x613, .int .i64 x714, .slice pA15 Ps17.length pc16, .slice kA18 Lt20.length kc19]) rfl rfl rfl ty30 rfl rfl rfl .h rfl rfl ?_)
 refine .v (ev_as rfl rfl) rfl ?_
 refine .go idQ (.seq ?_)
 cases ok21
 ·
  refine SC.draw mo [cel b1 [.int .i64 0, .int .i64 0, .string ⟨#[]⟩, .bool false, .int .i64 0, .int .i64 0, .int .i64 0, .int .i64 0, .int .i64 0, .int .i64 0, .int .i64 0, .int .i64 0, .slice none 0 0, .slice none 0 0] 30] [] (.c (.t (.t (.t (.t .h)))) .n) (fun _ _ _ c hc => by cases hc) (fun wf_27 hl_27 hx_27 hR_27 => ?_)
  refine SR.k 0 rfl (by kernel_rfl) rfl (ev_lda (cs := [.int .i64 cd3, .int .i64 at_4, .string path5, .bool op6, .int .i64 x07, .int .i64 x18, .int .i64 x29, .int .i64 x310, .int .i64 x411, .int .i64 x512, .int .i64 x613, .int .i64 x714, .slice pA15 Ps17.length pc16, .slice kA18 Lt20.length kc19]) rfl rfl (At.d (At.lent hR_27 0 rfl rfl)) ty30) ?_
  refine SR.k 1 rfl (by kernel_rfl) rfl (ev_mv rfl rfl) ?_
  refine SR.k 2 rfl (by kernel_rfl) rfl (ev_mv rfl rfl) ?_
  refine SR.gtake (v := undef) 3 rfl (by kernel_rfl) (by kernel_rfl) (by kernel_rfl) rfl (fun _ _ _ _ h => h) rfl rfl rfl rfl rfl (fun hb => by cases hb) ?_
  refine SR.gtake (v := undef) 4 rfl (by kernel_rfl) (by kernel_rfl) (by kernel_rfl) rfl (fun _ _ _ _ h => h) rfl rfl rfl rfl rfl (fun hb => by cases hb) ?_
  refine SR.gtake (v := undef) 5 rfl (by kernel_rfl) (by kernel_rfl) (by kernel_rfl) rfl (fun _ _ _ _ h => h) rfl rfl rfl rfl rfl (fun hb => by cases hb) ?_
  refine SR.gtake (v := undef) 6 rfl (by kernel_rfl) (by kernel_rfl) (by kernel_rfl) rfl (fun _ _ _ _ h => h) rfl rfl rfl rfl rfl (fun hb => by cases hb) ?_
  refine SR.k 7 rfl (by kernel_rfl) rfl (ev_pickf rfl rfl rfl rfl) ?_
  refine SR.one (j := 8) (by kernel_rfl) rfl (st_storea (l' := [.int .i64 cd3, .int .i64 at_4, .string path5, .bool op6, .int .i64 x07, .int .i64 x18, .int .i64 x29, .int .i64 x310, .int .i64 x411, .int .i64 x512, .int .i64 x613, .int .i64 x714, .slice pA15 Ps17.length pc16, .slice kA18 Lt20.length kc19]) rfl rfl rfl ty30 rfl rfl rfl .h rfl rfl ⟨tt0, ?_⟩)
  refine SR.k 9 rfl (by kernel_rfl) rfl (ev_as rfl rfl) ?_
  refine SR.fin (by kernel_rfl) hl_27 hx_27 hR_27 (.c .n) ?_
  refine SQ.go idQ ?_
  exact .ret idQ (retv2 Try.results17 (.c 0 rfl rfl ty30) (.t rfl) (.c (.t (.t .h)) (.c (.t (.t .h)) (.c (.t (.t .h)) .n))) ⟨cd3, at_4, path5, op6, x07, x18, x29, x310, x411, x512, x613, x714, pA15, pc16, Ps17, kA18, kc19, Lt20, false, p23, p24, p25, (fun h_ => by cases h_), rfl, rfl⟩)
 refine SC.draw mo [cel b1 [.int .i64 0, .int .i64 0, .string ⟨#[]⟩, .bool false, .int .i64 0, .int .i64 0, .int .i64 0, .int .i64 0, .int .i64 0, .int .i64 0, .int .i64 0, .int .i64 0, .slice none 0 0, .slice none 0 0] 30] [] (.c (.t (.t (.t (.t .h)))) .n) (fun _ _ _ c hc => by cases hc) (fun wf_28 hl_28 hx_28 hR_28 => ?_)
 refine SR.k 0 rfl (by kernel_rfl) rfl (ev_lda (cs := [.int .i64 cd3, .int .i64 at_4, .string path5, .bool op6, .int .i64 x07, .int .i64 x18, .int .i64 x29, .int .i64 x310, .int .i64 x411, .int .i64 x512, .int .i64 x613, .int .i64 x714, .slice pA15 Ps17.length pc16, .slice kA18 Lt20.length kc19]) rfl rfl (At.d (At.lent hR_28 0 rfl rfl)) ty30) ?_
 refine SR.k 1 rfl (by kernel_rfl) rfl (ev_mv rfl rfl) ?_
 refine SR.k 2 rfl (by kernel_rfl) rfl (ev_mv rfl rfl) ?_
 refine SR.gtake 3 rfl (by kernel_rfl) (by kernel_rfl) (by kernel_rfl) rfl (fun _ _ _ _ h => h) rfl rfl rfl rfl rfl (fun _ => ev_lda (cs := [.int .i64 cd3, .int .i64 at_4, .string path5, .bool op6, .int .i64 x07, .int .i64 x18, .int .i64 x29, .int .i64 x310, .int .i64 x411, .int .i64 x512, .int .i64 x613, .int .i64 x714, .slice pA15 Ps17.length pc16, .slice kA18 Lt20.length kc19]) rfl rfl (At.d (At.lent hR_28 0 rfl rfl)) ty30) ?_
 refine SR.gtake 5 rfl (by kernel_rfl) (by kernel_rfl) (by kernel_rfl) rfl (fun _ _ _ _ h => h) rfl rfl rfl rfl rfl (fun _ => ev_mv rfl rfl) ?_
 refine SR.one (j := 4) (by kernel_rfl) rfl (.on rfl rfl rfl (st_call0 rfl rfl rfl rfl hbd11 rfl .n (tree_any cd3 at_4 path5 op6 x07 x18 x29 x310 x411 x512 x613 x714 pA15 pc16 Ps17 kA18 kc19 Lt20 _ _ (Fr.lent (S := S) hR_28 1 rfl (by first | omega | simp only [LL] <;> omega | simp <;> omega)) (Fr.lent (S := S) hR_28 3 rfl (by first | omega | simp only [LL] <;> omega | simp <;> omega)) (NP.lent (S := S) hR_28 2 rfl) (by first | omega | simp only [LL] <;> omega | simp <;> omega) (by first | omega | simp only [LL] <;> omega | simp <;> omega) p25) (fun v_q31 C_q31 q31 => ⟨tt0, ?_⟩)))
 obtain ⟨u29, L30, p32, p33, rfl, rfl⟩ := q31
 show SR _ _ _ _ _ _ _ _ _ ⟨_, _ :: _ :: _, _, _⟩
 refine .know (row_len 0 rfl) (fun hv36 => ?_)
 obtain ⟨A34, c35, rfl, hv36_1, hv36_2⟩ := hv36
 unfold maxLen at hv36_2
 refine SR.one (j := 6) (by kernel_rfl) rfl (.on rfl rfl rfl (st_lendk rfl rfl rfl rfl hbd40 rfl .n (.c .h (.c .h .n)) (fun w_ hw => eqF A34 L30.length c35 L30 A n c l _ _ (Fr.lend hw 0 rfl (by first | omega | simp only [LL] <;> omega | simp <;> omega)) (Fr.ext (Fr.ext hP hx_28) hw.lendx) (NT.lend hw 1 rfl) ((((hN).ext hx_28)).ext hw.lendx) (by first | omega | simp only [LL] <;> omega | simp <;> omega) (by first | omega | simp only [LL] <;> omega | simp <;> omega)) ⟨tt0, ?_⟩))
 refine SR.k 7 rfl (by kernel_rfl) rfl (ev_pickt rfl rfl rfl rfl) ?_
 refine SR.one (j := 8) (by kernel_rfl) rfl (st_storea (l' := [.int .i64 cd3, .int .i64 at_4, .string path5, .bool op6, .int .i64 x07, .int .i64 x18, .int .i64 x29, .int .i64 x310, .int .i64 x411, .int .i64 x512, .int .i64 x613, .int .i64 x714, .slice pA15 Ps17.length pc16, .slice kA18 Lt20.length kc19]) rfl rfl rfl ty30 rfl rfl rfl (.t (.t .h)) rfl rfl ⟨tt0, ?_⟩)
 refine SR.k 9 rfl (by kernel_rfl) rfl (ev_as rfl rfl) ?_
 refine SR.fin (by kernel_rfl) hl_28 hx_28 hR_28 (.c (.c (.c .n))) ?_
 refine SQ.go idQ ?_
 exact .ret idQ (retv2 Try.results17 (.c 0 rfl rfl ty30) (.t rfl) (.c (.t (.t (.t (.t .h)))) (.c (.t (.t (.t (.t .h)))) (.c (.t (.t (.t (.t .h)))) .n))) ⟨cd3, at_4, path5, op6, x07, x18, x29, x310, x411, x512, x613, x714, pA15, pc16, Ps17, kA18, kc19, Lt20, (decide (vs L30 = vs l)), p23, p24, p25, (fun h_ => by rw [← p32]; exact of_decide_eq_true h_), rfl, rfl⟩)
end Go.Proofs.Ythmkelkefmfmgaa.Sx
set_option maxRecDepth 20000
set_option maxHeartbeats 4000000
namespace Go.Proofs.Ythmkelkefmfmgaa.Sx.FGE
open Go Go.SX Go.Proofs
theorem hbd8 : hasBody Try.prog 8 = true := by kernel_rfl
theorem hbd14 : hasBody Try.prog 14 = true := by kernel_rfl
theorem ai90 : (Try.prog.info? 90).map (fun i => (i.zero, i.size, i.bytes)) = some (some (.agg #[.int .i64 0, .bool false, .int .i64 0, .string ⟨#[]⟩, .slice none 0 0, .slice none 0 0]), 6, 88) := by kernel_rfl
theorem hbd17 : hasBody Try.prog 17 = true := by kernel_rfl
theorem zf30 : (Try.prog.info? 30).bind (fun i => i.zero.map Value.cells) = some (List.toArray [.int .i64 0, .int .i64 0, .string ⟨#[]⟩, .bool false, .int .i64 0, .int .i64 0, .int .i64 0, .int .i64 0, .int .i64 0, .int .i64 0, .int .i64 0, .int .i64 0, .slice none 0 0, .slice none 0 0]) := by kernel_rfl
theorem ty30 : ty Try.prog 30 = some (true, 14) := by kernel_rfl
theorem hbd11 : hasBody Try.prog 11 = true := by kernel_rfl
end Go.Proofs.Ythmkelkefmfmgaa.Sx.FGE
set_option maxRecDepth 20000
set_option maxHeartbeats 4000000
namespace Go.Proofs.Ythmkelkefmfmgaa.Sx.FQA
open Go Go.SX Go.Proofs
theorem hbd52 : hasBody Try.prog 52 = true := by kernel_rfl
theorem hbd34 : hasBody Try.prog 34 = true := by kernel_rfl
theorem hbd51 : hasBody Try.prog 51 = true := by kernel_rfl
theorem hbd32 : hasBody Try.prog 32 = true := by kernel_rfl
theorem ty9 : ty Try.prog 9 = some (false, 1) := by kernel_rfl
end Go.Proofs.Ythmkelkefmfmgaa.Sx.FQA
namespace Go.Proofs.Ythmkelkefmfmgaa.Sx
open Go Go.SX Go.Proofs FQA
theorem quoteS (s : ByteArray) (S : Nat → Prop) (wf : World) (hs : s.size ≤ 1000000000) :
  TR0 Try.prog 34 [.string s] [] S wf (fun v_ C_ => ∃ (o : ByteArray), (bs o = quoteF s) ∧ (o.size ≤ 6 * s.size + 2) ∧ v_ = .string o ∧ C_ = []) := by
 refine TR.mk Try.func34 rfl Try.ntmps34 rfl rfl (fun w_ => ?_)
 refine .seq (.region ?_)
 refine .v (ev_as rfl rfl) rfl ?_
 refine .go idQ (.seq ?_)
 refine SC.nilrow eY 5 ?_
 refine .region ?_
 refine .v (ev_mv rfl rfl) rfl ?_
 refine .cons (st_call0 rfl rfl rfl rfl hbd52 rfl (.c .h .n) (quote_ (.slice none 0 0) ([] : List Int) s _ _ (by omega) (by first | omega | simp only [LL] <;> omega | simp <;> omega)) (fun v_q2 C_q2 q2 => ?_))
 obtain ⟨u1, rfl, rfl⟩ := q2
 show SP _ _ _ _ _ _ ⟨_, _ :: _, _, _⟩
 refine .know (row_len 0 rfl) (fun hv5 => ?_)
 obtain ⟨A3, c4, rfl, hv5_1, hv5_2⟩ := hv5
 unfold maxLen at hv5_2
 refine .v (ev_b2s (l := (([] : List Int) ++ quoteF s)) rfl Try.underlying36 Try.underlying5 Try.underlying9 rfl (by first | rfl | assumption | omega | ((try simp only [List.length_take, List.length_drop, List.length_append, List.length_cons, List.length_nil]) <;> omega)) (row_src 0 rfl)) rfl ?_
 refine .v (ev_as rfl rfl) rfl ?_
 refine .go idQ ?_
 exact .ret idQ (ret1 Try.results34 rfl .n ⟨(mkS (([] : List Int) ++ quoteF s)), (by rw [List.nil_append]; exact bs_mkS (quoteF_range s)), (by rw [← bs_len, List.nil_append, bs_mkS (quoteF_range s)]; exact quoteF_len s), rfl, rfl⟩)
theorem field_ (a : ByteArray) (v : ByteArray) (S : Nat → Prop) (wf : World) (ha : a.size ≤ 10) (hv : v.size ≤ 1000000000) :
  TR0 Try.prog 32 [.string a, .string v] [] S wf (fun v_ C_ => ∃ (o : ByteArray), (bs o = quoteF a ++ [58] ++ bs v) ∧ (o.size ≤ v.size + 65) ∧ v_ = .string o ∧ C_ = []) := by
 refine TR.mk Try.func32 rfl Try.ntmps32 rfl rfl (fun w_ => ?_)
 refine .seq (.region ?_)
 refine .v (ev_as rfl rfl) rfl ?_
 refine .go idQ (.seq (.region ?_))
 refine .v (ev_mv rfl rfl) rfl ?_
 refine .cons (st_call00 rfl rfl rfl rfl hbd34 rfl .n (quoteS a _ _ (by omega)) (by intro v C h; obtain ⟨_, _, _, rfl, rfl⟩ := h; rfl) (fun v_q2 q2 => ?_))
 obtain ⟨o1, p3, p4, rfl, -⟩ := q2
 refine .v (ev_sadd rfl rfl rfl (by (try simp only [ByteArray.size_append]); show (((o1.size : Nat) + (1 : Nat) : Nat) : Int) ≤ 9223372036854775807; omega)) rfl ?_
 refine .v (ev_mv rfl rfl) rfl ?_
 refine .v (ev_sadd rfl rfl rfl (by (try simp only [ByteArray.size_append]); show ((((o1.size + 1) : Nat) + (v.size : Nat) : Nat) : Int) ≤ 9223372036854775807; omega)) rfl ?_
 refine .v (ev_as rfl rfl) rfl ?_
 refine .go idQ ?_
 exact .ret idQ (ret1 Try.results32 rfl .n ⟨((((o1 : ByteArray) ++ (⟨#[58]⟩ : ByteArray)) : ByteArray) ++ (v : ByteArray)), (by rw [bs_append, bs_append, p3]; rfl), (by (try simp only [ByteArray.size_append]); show ((o1.size + 1) + v.size) ≤ _; omega), rfl, rfl⟩)
theorem number22 (a : ByteArray) (x : Int) (S : Nat → Prop) (wf : World) (ha : a.size ≤ 10) (h_x : -9223372036854775808 ≤ x ∧ x ≤ 9223372036854775807) :
  TR0 Try.prog 33 [.string a, .int .i64 x] [] S wf (fun v_ C_ => ∃ (o : ByteArray), (bs o = quoteF a ++ [58] ++ numL x) ∧ (o.size ≤ 95) ∧ v_ = .string o ∧ C_ = []) := by
 refine TR.mk Try.func33 rfl Try.ntmps33 rfl rfl (fun w_ => ?_)
 refine .seq (.region ?_)
 refine .v (ev_as rfl rfl) rfl ?_
 refine .go idQ (.seq (.region ?_))
 refine .v (ev_mv rfl rfl) rfl ?_
 refine .v (ev_mv rfl rfl) rfl ?_
 refine .cons (st_callk rfl rfl rfl rfl hbd51 rfl .n (numtxt x _ _ (by omega)) ?_)
 refine .cons (st_call00 rfl rfl rfl rfl hbd32 rfl .n (field_ a (numS x) _ _ (by omega) (Nat.le_trans (numS_size (by omega) (by omega)) (by decide))) (by intro v C h; obtain ⟨_, _, _, rfl, rfl⟩ := h; rfl) (fun v_q2 q2 => ?_))
 obtain ⟨o1, p3, p4, rfl, -⟩ := q2
 have hz5 : o1.size ≤ (numS x).size + 65 := by have h_ := p4; (try simp only [ByteArray.size_append] at h_); exact h_
 refine .v (ev_as rfl rfl) rfl ?_
 refine .go idQ ?_
 exact .ret idQ (ret1 Try.results33 rfl .n ⟨o1, (by rw [p3, bs_numS]), (by have h_ := numS_size (a := x) (by omega) (by omega); omega), rfl, rfl⟩)
theorem all_s (A : Option Addr) (n : Nat) (c : Nat) (l : List ByteArray) (S : Nat → Prop) (wf : World) (hA : Fr eS S wf A l) (hn : l.length = n) (hJ : (joinL (l.map bs)).length ≤ 1000000000) :
  TR0 Try.prog 31 [.slice A n c] [] S wf (fun v_ C_ => ∃ (o : ByteArray), (bs o = joinL (l.map bs)) ∧ (o.size = (joinL (l.map bs)).length) ∧ v_ = .string o ∧ C_ = []) := by
 have hla := hA.len
 refine TR.mk Try.func31 rfl Try.ntmps31 rfl rfl (fun w_ => ?_)
 refine .seq (.region ?_)
 refine .v (ev_as rfl rfl) rfl ?_
 refine .go idQ (.seq (.region ?_))
 refine .v (ev_as rfl rfl) rfl ?_
 refine .go idQ (.seq (.seq (.region ?_)))
 refine .v (ev_as rfl rfl) rfl ?_
 refine .go idQ (.block ?_)
 refine .loop (X := Int × ByteArray) (fun ⟨i, s⟩ => 0 ≤ i ∧ i ≤ l.length ∧ bs s = joinL ((l.take i.toNat).map bs) ∧ (s.size : Int) ≤ (joinL (l.map bs)).length) (fun ⟨i, s⟩ => [(0, .slice A n c), (3, .string s), (4, .int .i64 i)]) (fun ⟨i, s⟩ => []) (fun _ => S) (fun _ => wf) (fun ⟨i, s⟩ => (l.length - i.toNat)) (fun a_ w_ hs_ hw_ => ⟨⟨0, ⟨#[]⟩⟩, (by exact ⟨by omega, by omega, rfl, by show ((0 : Nat) : Int) ≤ _; omega⟩), hs_.mono (Sub.get (.c rfl (.c rfl (.c rfl .n)))), hw_.keep .n⟩) (fun ⟨i, s⟩ ⟨q_0, q_1, q_2, q_3⟩ => ?_)
 show SC _ _ _ _ _ ⟨[(0, .slice A n c), (3, .string s), (4, .int .i64 i)], [], S, wf⟩
 refine .seq (.seq (.region ?_))
 refine .v (ev_mv rfl rfl) rfl ?_
 refine .v (ev_mv rfl rfl) rfl ?_
 refine .v (ev_len rfl Try.underlying82 rfl) rfl ?_
 refine .v (ev_cmp rfl rfl rfl rfl) rfl ?_
 refine .go idQ ?_
 refine .condI rfl bD (fun h1 => ?_) (fun h1 => ?_)
 ·
  refine .skipgo idQ (.seq (.block (.seq (.seq (.region ?_)))))
  refine .v (ev_mv rfl rfl) rfl ?_
  refine .v (ev_cmp rfl rfl rfl rfl) rfl ?_
  refine .go idQ ?_
  refine .condI rfl bD (fun h2 => ?_) (fun h2 => ?_)
  ·
   refine .region ?_
   refine .v (ev_mv rfl rfl) rfl ?_
   refine .v (ev_sadd rfl rfl rfl (by (try simp only [ByteArray.size_append]); show (((s.size : Nat) + (1 : Nat) : Nat) : Int) ≤ 9223372036854775807; omega)) rfl ?_
   refine .v (ev_as rfl rfl) rfl ?_
   refine .go idQ ?_
   have hel := join_el (l := l) (i := i) q_0 (by omega)
   refine .region ?_
   refine .v (ev_mv rfl rfl) rfl ?_
   refine .v (ev_mv rfl rfl) rfl ?_
   refine .v (ev_mv rfl rfl) rfl ?_
   refine .v (ev_ix rfl Try.underlying82 ty9 rfl rfl (by omega) (by omega) (fun _ _ => Fr.adr (i := i) hA (by omega) (by omega))) rfl ?_
   refine .v (ev_ld1 rfl ty9 rfl (At.elem1 (At.w (Fr.el (i := i) hA (by omega) (by omega))) 0 rfl)) rfl ?_
   refine .v (ev_sadd rfl rfl rfl (by (try simp only [ByteArray.size_append]); show ((((s.size + 1) : Nat) + ((gt l i).size : Nat) : Nat) : Int) ≤ 9223372036854775807; omega)) rfl ?_
   refine .v (ev_as rfl rfl) rfl ?_
   refine .go idQ (.region ?_)
   refine .v (ev_mv rfl rfl) rfl ?_
   refine .v (ev_add rfl rfl rfl (r := (i + 1)) rfl (by omega) (by omega)) rfl ?_
   refine .v (ev_as rfl rfl) rfl ?_
   exact SP.nil (SQ.roundb (X := Int × ByteArray) (x := (i, s)) ⟨(i + 1), ((((s : ByteArray) ++ (⟨#[44]⟩ : ByteArray)) : ByteArray) ++ ((gt l i) : ByteArray))⟩ (by have h_ := join_1 q_2 q_0 (by omega) (by omega); exact ⟨by omega, by omega, h_, by have e_ := congrArg List.length h_; rw [bs_len] at e_; have e2_ := joinL_tk l (i + 1).toNat; rw [e_]; omega⟩) (by dsimp only; omega) (Sub.get (.c rfl (.c rfl (.c rfl .n)))) (fun w hw => hw.keep .n))
  refine .skipgo idQ ?_
  have hel := join_el (l := l) (i := i) q_0 (by omega)
  refine .region ?_
  refine .v (ev_mv rfl rfl) rfl ?_
  refine .v (ev_mv rfl rfl) rfl ?_
  refine .v (ev_mv rfl rfl) rfl ?_
  refine .v (ev_ix rfl Try.underlying82 ty9 rfl rfl (by omega) (by omega) (fun _ _ => Fr.adr (i := i) hA (by omega) (by omega))) rfl ?_
  refine .v (ev_ld1 rfl ty9 rfl (At.elem1 (At.w (Fr.el (i := i) hA (by omega) (by omega))) 0 rfl)) rfl ?_
  refine .v (ev_sadd rfl rfl rfl (by (try simp only [ByteArray.size_append]); show (((s.size : Nat) + ((gt l i).size : Nat) : Nat) : Int) ≤ 9223372036854775807; omega)) rfl ?_
  refine .v (ev_as rfl rfl) rfl ?_
  refine .go idQ (.region ?_)
  refine .v (ev_mv rfl rfl) rfl ?_
  refine .v (ev_add rfl rfl rfl (r := (i + 1)) rfl (by omega) (by omega)) rfl ?_
  refine .v (ev_as rfl rfl) rfl ?_
  exact SP.nil (SQ.roundb (X := Int × ByteArray) (x := (i, s)) ⟨(i + 1), ((s : ByteArray) ++ ((gt l i) : ByteArray))⟩ (by have h_ := join_0 q_2 q_0 (by omega) (by omega); exact ⟨by omega, by omega, h_, by have e_ := congrArg List.length h_; rw [bs_len] at e_; have e2_ := joinL_tk l (i + 1).toNat; rw [e_]; omega⟩) (by dsimp only; omega) (Sub.get (.c rfl (.c rfl (.c rfl .n)))) (fun w hw => hw.keep .n))
 refine .exit idQ ?_
 refine .seq (.region ?_)
 refine .v (ev_mv rfl rfl) rfl ?_
 refine .v (ev_as rfl rfl) rfl ?_
 refine .go idQ ?_
 exact .ret idQ (ret1 Try.results31 rfl .n ⟨s, (join_end q_2 (by omega)), (by rw [← bs_len, join_end q_2 (by omega)]), rfl, rfl⟩)
end Go.Proofs.Ythmkelkefmfmgaa.Sx
set_option maxRecDepth 20000
set_option maxHeartbeats 4000000
namespace Go.Proofs.Ythmkelkefmfmgaa.Sx.FQB
open Go Go.SX Go.Proofs
theorem fo58_0 : fo Try.prog 58 0 = some 0 := by kernel_rfl
theorem fo55_0 : fo Try.prog 55 0 = some 0 := by kernel_rfl
theorem ty53 : ty Try.prog 53 = some (false, 1) := by kernel_rfl
theorem ty9 : ty Try.prog 9 = some (false, 1) := by kernel_rfl
theorem fo58_5 : fo Try.prog 58 5 = some 6 := by kernel_rfl
theorem ty56 : ty Try.prog 56 = some (false, 1) := by kernel_rfl
theorem ty3 : ty Try.prog 3 = some (false, 1) := by kernel_rfl
theorem hbd51 : hasBody Try.prog 51 = true := by kernel_rfl
theorem ai9 : (Try.prog.info? 9).map (fun i => (i.zero, i.size, i.bytes)) = some (some (.string ⟨#[]⟩), 1, 16) := by kernel_rfl
theorem hbd32 : hasBody Try.prog 32 = true := by kernel_rfl
theorem fo55_1 : fo Try.prog 55 1 = some 1 := by kernel_rfl
theorem hbd33 : hasBody Try.prog 33 = true := by kernel_rfl
theorem fo58_1 : fo Try.prog 58 1 = some 2 := by kernel_rfl
theorem fo58_2 : fo Try.prog 58 2 = some 3 := by kernel_rfl
theorem fo58_3 : fo Try.prog 58 3 = some 4 := by kernel_rfl
theorem fo58_4 : fo Try.prog 58 4 = some 5 := by kernel_rfl
theorem hbd31 : hasBody Try.prog 31 = true := by kernel_rfl
theorem fo58_6 : fo Try.prog 58 6 = some 7 := by kernel_rfl
theorem fo58_7 : fo Try.prog 58 7 = some 8 := by kernel_rfl
theorem mo : Try.prog.follows .mixedOrders = true := by kernel_rfl
end Go.Proofs.Ythmkelkefmfmgaa.Sx.FQB
namespace Go.Proofs.Ythmkelkefmfmgaa.Sx
open Go Go.SX Go.Proofs FQB
theorem step_t (k : Int) (it : Int) (pl : Int) (ar : Int) (wt : Int) (sv : Int) (lA : Option Addr) (lc : Nat) (load : List Int) (tm : Int) (ds : Int) (S : Nat → Prop) (wf : World) (hA : Fr eZ S wf lA load) (hm : load.length ≤ 10) (hF : ∀ x ∈ stepZ (ST.mk k it pl ar wt sv load tm ds lA lc), fitP x) :
  TR0 Try.prog 53 [.agg #[.int .i64 k, .int .i64 it, .int .i64 pl, .int .i64 ar, .int .i64 wt, .int .i64 sv, .slice lA load.length lc, .int .i64 tm, .int .i64 ds]] [] S wf (fun v_ C_ => ∃ (o : ByteArray), (bs o = txt (stepJ (ST.mk k it pl ar wt sv load tm ds lA lc))) ∧ (o.size ≤ 3000) ∧ v_ = .string o ∧ C_ = []) := by
 have hla := hA.len
 have hf_it := fit_i64 (hF it (by simp [stepZ]))
 have hf_pl := fit_i64 (hF pl (by simp [stepZ]))
 have hf_ar := fit_i64 (hF ar (by simp [stepZ]))
 have hf_wt := fit_i64 (hF wt (by simp [stepZ]))
 have hf_sv := fit_i64 (hF sv (by simp [stepZ]))
 have hf_tm := fit_i64 (hF tm (by simp [stepZ]))
 have hf_ds := fit_i64 (hF ds (by simp [stepZ]))
 refine TR.mk Try.func53 rfl Try.ntmps53 rfl rfl (fun w_ => ?_)
 refine .seq (.region ?_)
 refine .cons (st_boxa rfl rfl rfl rfl rfl (fun b1 => ?_))
 refine .v (ev_as rfl rfl) rfl ?_
 refine .go idQ (.seq (.region ?_))
 refine .cons (st_lit eS (e := 9) (l := [⟨#[106, 111, 98]⟩, ⟨#[112, 105, 99, 107, 117, 112]⟩, ⟨#[100, 101, 108, 105, 118, 101, 114, 121]⟩, ⟨#[98, 114, 101, 97, 107]⟩, ⟨#[115, 116, 97, 114, 116]⟩, ⟨#[101, 110, 100]⟩]) rfl rfl rfl rfl (by kernel_rfl) rfl rfl (fun w => by kernel_rfl) (fun b2 => ?_))
 refine .v (ev_as rfl rfl) rfl ?_
 refine .go idQ (.seq (.region ?_))
 refine .v (ev_as rfl rfl) rfl ?_
 refine .go idQ (.seq (.seq (.region ?_)))
 refine .v (ev_fa rfl fo58_0 rfl (r := 0) rfl) rfl ?_
 refine .v (ev_fa rfl fo55_0 rfl (r := 0) rfl) rfl ?_
 refine .v (ev_ld1 rfl ty53 rfl (At.own1 1 rfl rfl)) rfl ?_
 refine .v (ev_cmp rfl rfl rfl rfl) rfl ?_
 refine .v (ev_mv rfl rfl) rfl ?_
 refine .w (fun _ => ev_fa rfl fo58_0 rfl (r := 0) rfl) rfl ?_
 refine .w (fun hb => ev_fa rfl fo55_0 (lkg rfl hb) (r := 0) rfl) rfl ?_
 refine .w (fun hb => ev_ld1 rfl ty53 (lkg rfl hb) (At.own1 1 rfl rfl)) rfl ?_
 refine .w (fun hb => ev_cmp rfl (lkg rfl hb) rfl rfl) rfl ?_
 refine .v (ev_and rfl rfl rfl rfl) rfl ?_
 refine .go idQ ?_
 refine .condI rfl (bA bD bD) (fun h3 => ?_) (fun h3 => ?_)
 ·
  refine .region ?_
  refine .v (ev_mv rfl rfl) rfl ?_
  refine .v (ev_fa rfl fo58_0 rfl (r := 0) rfl) rfl ?_
  refine .v (ev_fa rfl fo55_0 rfl (r := 0) rfl) rfl ?_
  refine .v (ev_ld1 rfl ty53 rfl (At.own1 1 rfl rfl)) rfl ?_
  refine .v (ev_sub rfl rfl rfl (r := (k - 1)) rfl (by omega) (by omega)) rfl ?_
  refine .v (ev_ix rfl Try.underlying82 ty9 rfl rfl (by omega) (by omega) (row_adr (i := (k - 1)) 0 rfl (by omega) (by first | omega | simp only [LL] <;> omega | simp <;> omega))) rfl ?_
  refine .v (ev_ld1 rfl ty9 rfl (At.elem1 (row_el (E := eS) (l := [⟨#[106, 111, 98]⟩, ⟨#[112, 105, 99, 107, 117, 112]⟩, ⟨#[100, 101, 108, 105, 118, 101, 114, 121]⟩, ⟨#[98, 114, 101, 97, 107]⟩, ⟨#[115, 116, 97, 114, 116]⟩, ⟨#[101, 110, 100]⟩]) (i := (k - 1)) 0 rfl (by omega) (by first | omega | simp only [LL] <;> omega | simp <;> omega)) 0 rfl)) rfl ?_
  refine .v (ev_as rfl rfl) rfl ?_
  refine .go idQ (.seq ?_)
  have hw4 : ((gt [(⟨#[106, 111, 98]⟩ : ByteArray), ⟨#[112, 105, 99, 107, 117, 112]⟩, ⟨#[100, 101, 108, 105, 118, 101, 114, 121]⟩, ⟨#[98, 114, 101, 97, 107]⟩, ⟨#[115, 116, 97, 114, 116]⟩, ⟨#[101, 110, 100]⟩] (k - 1)) : ByteArray) = wordK k := by unfold wordK; first | (rw [if_pos (by omega)]; rfl) | (rw [if_neg (by omega)])
  rw [hw4]
  have hw5 := word_size k
  have hw6 := quote_word k
  refine .region ?_
  refine .v (ev_as rfl rfl) rfl ?_
  refine .go idQ (.seq (.seq ?_))
  refine SC.nilrow eS 9 ?_
  refine .region ?_
  refine .v (ev_as rfl rfl) rfl ?_
  refine .go idQ (.block ?_)
  refine .loop (X := Int × Value × (List ByteArray)) (fun ⟨i, U, X⟩ => 0 ≤ i ∧ i ≤ load.length ∧ X.map bs = (load.take i.toNat).map numL ∧ (X.length : Int) = i) (fun ⟨i, U, X⟩ => [(1, .pointer (some ⟨b1, 0, none⟩)), (4, .string (wordK k)), (5, U), (6, .int .i64 i)]) (fun ⟨i, U, X⟩ => [rw_ eS 9 (U) X, cel b1 [.int .i64 k, .int .i64 it, .int .i64 pl, .int .i64 ar, .int .i64 wt, .int .i64 sv, .slice lA load.length lc, .int .i64 tm, .int .i64 ds] 58]) (fun _ => S) (fun _ => wf) (fun ⟨i, U, X⟩ => (load.length - i.toNat)) (fun a_ w_ hs_ hw_ => ⟨⟨0, (.slice none 0 0), ([] : List ByteArray)⟩, (by exact ⟨by omega, by omega, rfl, rfl⟩), hs_.mono (Sub.get (.c rfl (.c rfl (.c rfl (.c rfl .n))))), hw_.keep (.c .h (.c (.t .h) .n))⟩) (fun ⟨i, U, X⟩ ⟨q_0, q_1, q_2, q_3⟩ => ?_)
  show SC _ _ _ _ _ ⟨[(1, .pointer (some ⟨b1, 0, none⟩)), (4, .string (wordK k)), (5, U), (6, .int .i64 i)], [rw_ eS 9 (U) X, cel b1 [.int .i64 k, .int .i64 it, .int .i64 pl, .int .i64 ar, .int .i64 wt, .int .i64 sv, .slice lA load.length lc, .int .i64 tm, .int .i64 ds] 58], S, wf⟩
  refine .seq (.seq (.region ?_))
  refine .v (ev_mv rfl rfl) rfl ?_
  refine .v (ev_fa rfl fo58_5 rfl (r := 6) rfl) rfl ?_
  refine .v (ev_ld1 rfl ty56 rfl (At.own1 1 rfl rfl)) rfl ?_
  refine .v (ev_len rfl Try.underlying56 rfl) rfl ?_
  refine .v (ev_cmp rfl rfl rfl rfl) rfl ?_
  refine .go idQ ?_
  refine .condI rfl bD (fun h4 => ?_) (fun h4 => ?_)
  ·
   refine .skipgo idQ (.seq (.block ?_))
   have hfl := fit_i64 (hF (gt load i) (List.mem_append_right _ (gt_mem (by omega) (by omega))))
   refine .region ?_
   refine .v (ev_mv rfl rfl) rfl ?_
   refine .v (ev_fa rfl fo58_5 rfl (r := 6) rfl) rfl ?_
   refine .v (ev_ld1 rfl ty56 rfl (At.own1 1 rfl rfl)) rfl ?_
   refine .v (ev_mv rfl rfl) rfl ?_
   refine .v (ev_ix rfl Try.underlying56 ty3 rfl rfl (by omega) (by omega) (fun _ _ => Fr.adr (i := i) hA (by omega) (by omega))) rfl ?_
   refine .v (ev_ld1 rfl ty3 rfl (At.elem1 (At.w (Fr.el (i := i) hA (by omega) (by omega))) 0 rfl)) rfl ?_
   refine .cons (st_callk rfl rfl rfl rfl hbd51 rfl .n (numtxt (gt load i) _ _ (by omega)) ?_)
   refine .cons (st_lit eS (e := 9) (l := [(numS (gt load i))]) rfl rfl rfl rfl (by kernel_rfl) rfl rfl (fun w => by kernel_rfl) (fun b5 => ?_))
   refine .cons (st_app (E := eS) (m := [(numS (gt load i))]) rfl rfl rfl rfl Try.underlying82 ai9 rfl rfl rfl (.t .h) (by first | rfl | omega | simp) (row_src 0 rfl) (by first | omega | simp only [LL] <;> omega | simp <;> omega) rfl (fun v6 => ?_))
   refine .v (ev_as rfl rfl) rfl ?_
   refine .go idQ (.region ?_)
   refine .v (ev_mv rfl rfl) rfl ?_
   refine .v (ev_add rfl rfl rfl (r := (i + 1)) rfl (by omega) (by omega)) rfl ?_
   refine .v (ev_as rfl rfl) rfl ?_
   exact SP.nil (SQ.roundb (X := Int × Value × (List ByteArray)) (x := (i, U, X)) ⟨(i + 1), v6, (X ++ [(numS (gt load i))])⟩ (by exact ⟨by omega, by omega, tx_next q_2 (by omega) (by omega) (bs_numS _), by rw [List.length_append]; simp; omega⟩) (by dsimp only; omega) (Sub.get (.c rfl (.c rfl (.c rfl (.c rfl .n))))) (fun w hw => hw.keep (.c .h (.c (.t .h) .n))))
  refine .exit idQ ?_
  refine .seq ?_
  refine .know (row_len 0 rfl) (fun hv9 => ?_)
  obtain ⟨A7, c8, rfl, hv9_1, hv9_2⟩ := hv9
  unfold maxLen at hv9_2
  have hX := tx_end q_2 (by omega)
  refine SC.draw mo [] [] .n (fun _ _ _ c hc => by cases hc) (fun wf_10 hl_10 hx_10 hR_10 => ?_)
  refine SR.k 0 rfl (by kernel_rfl) rfl (ev_mv rfl rfl) ?_
  refine SR.k 1 rfl (by kernel_rfl) rfl (ev_sadd rfl rfl rfl (by (try simp only [ByteArray.size_append]); show (((1 : Nat) + ((wordK k).size : Nat) : Nat) : Int) ≤ 9223372036854775807; omega)) ?_
  refine SR.k 2 rfl (by kernel_rfl) rfl (ev_sadd rfl rfl rfl (by (try simp only [ByteArray.size_append]); show ((((1 + (wordK k).size) : Nat) + (1 : Nat) : Nat) : Int) ≤ 9223372036854775807; omega)) ?_
  refine SR.k 4 rfl (by kernel_rfl) rfl (ev_fa rfl fo58_0 rfl (r := 0) rfl) ?_
  refine SR.k 5 rfl (by kernel_rfl) rfl (ev_fa rfl fo55_1 rfl (r := 1) rfl) ?_
  refine SR.k 6 rfl (by kernel_rfl) rfl (ev_ld1 rfl ty3 rfl (At.d (At.lent hR_10 1 rfl rfl))) ?_
  refine SR.k 8 rfl (by kernel_rfl) rfl (ev_fa rfl fo58_1 rfl (r := 2) rfl) ?_
  refine SR.k 9 rfl (by kernel_rfl) rfl (ev_ld1 rfl ty3 rfl (At.d (At.lent hR_10 1 rfl rfl))) ?_
  refine SR.k 11 rfl (by kernel_rfl) rfl (ev_fa rfl fo58_2 rfl (r := 3) rfl) ?_
  refine SR.k 12 rfl (by kernel_rfl) rfl (ev_ld1 rfl ty3 rfl (At.d (At.lent hR_10 1 rfl rfl))) ?_
  refine SR.k 14 rfl (by kernel_rfl) rfl (ev_fa rfl fo58_3 rfl (r := 4) rfl) ?_
  refine SR.k 15 rfl (by kernel_rfl) rfl (ev_ld1 rfl ty3 rfl (At.d (At.lent hR_10 1 rfl rfl))) ?_
  refine SR.k 17 rfl (by kernel_rfl) rfl (ev_fa rfl fo58_4 rfl (r := 5) rfl) ?_
  refine SR.k 18 rfl (by kernel_rfl) rfl (ev_ld1 rfl ty3 rfl (At.d (At.lent hR_10 1 rfl rfl))) ?_
  refine SR.k 20 rfl (by kernel_rfl) rfl (ev_mv rfl rfl) ?_
  refine SR.k 25 rfl (by kernel_rfl) rfl (ev_fa rfl fo58_6 rfl (r := 7) rfl) ?_
  refine SR.k 26 rfl (by kernel_rfl) rfl (ev_ld1 rfl ty3 rfl (At.d (At.lent hR_10 1 rfl rfl))) ?_
  refine SR.k 28 rfl (by kernel_rfl) rfl (ev_fa rfl fo58_7 rfl (r := 8) rfl) ?_
  refine SR.k 29 rfl (by kernel_rfl) rfl (ev_ld1 rfl ty3 rfl (At.d (At.lent hR_10 1 rfl rfl))) ?_
  refine SR.one (j := 3) (by kernel_rfl) rfl (st_call00 rfl rfl rfl rfl hbd32 rfl .n (field_ ⟨#[116, 121, 112, 101]⟩ ((((⟨#[34]⟩ : ByteArray) ++ ((wordK k) : ByteArray)) : ByteArray) ++ (⟨#[34]⟩ : ByteArray)) _ _ (by decide) (by (try simp only [ByteArray.size_append]); show ((1 + (wordK k).size) + 1) ≤ _; omega)) (by intro v C h; obtain ⟨_, _, _, rfl, rfl⟩ := h; rfl) (fun v_q12 q12 => ⟨tt0, ?_⟩))
  obtain ⟨o11, p13, p14, rfl, -⟩ := q12
  have hz15 : o11.size ≤ ((1 + (wordK k).size) + 1) + 65 := by have h_ := p14; (try simp only [ByteArray.size_append] at h_); exact h_
  refine SR.one (j := 7) (by kernel_rfl) rfl (st_call00 rfl rfl rfl rfl hbd33 rfl .n (number22 ⟨#[105, 116, 101, 109]⟩ it _ _ (by decide) (by omega)) (by intro v C h; obtain ⟨_, _, _, rfl, rfl⟩ := h; rfl) (fun v_q17 q17 => ⟨tt0, ?_⟩))
  obtain ⟨o16, p18, p19, rfl, -⟩ := q17
  refine SR.one (j := 10) (by kernel_rfl) rfl (st_call00 rfl rfl rfl rfl hbd33 rfl .n (number22 ⟨#[112, 108, 97, 99, 101]⟩ pl _ _ (by decide) (by omega)) (by intro v C h; obtain ⟨_, _, _, rfl, rfl⟩ := h; rfl) (fun v_q21 q21 => ⟨tt0, ?_⟩))
  obtain ⟨o20, p22, p23, rfl, -⟩ := q21
  refine SR.one (j := 13) (by kernel_rfl) rfl (st_call00 rfl rfl rfl rfl hbd33 rfl .n (number22 ⟨#[97, 114, 114, 105, 118, 97, 108]⟩ ar _ _ (by decide) (by omega)) (by intro v C h; obtain ⟨_, _, _, rfl, rfl⟩ := h; rfl) (fun v_q25 q25 => ⟨tt0, ?_⟩))
  obtain ⟨o24, p26, p27, rfl, -⟩ := q25
  refine SR.one (j := 16) (by kernel_rfl) rfl (st_call00 rfl rfl rfl rfl hbd33 rfl .n (number22 ⟨#[119, 97, 105, 116]⟩ wt _ _ (by decide) (by omega)) (by intro v C h; obtain ⟨_, _, _, rfl, rfl⟩ := h; rfl) (fun v_q29 q29 => ⟨tt0, ?_⟩))
  obtain ⟨o28, p30, p31, rfl, -⟩ := q29
  refine SR.one (j := 19) (by kernel_rfl) rfl (st_call00 rfl rfl rfl rfl hbd33 rfl .n (number22 ⟨#[115, 101, 114, 118, 105, 99, 101]⟩ sv _ _ (by decide) (by omega)) (by intro v C h; obtain ⟨_, _, _, rfl, rfl⟩ := h; rfl) (fun v_q33 q33 => ⟨tt0, ?_⟩))
  obtain ⟨o32, p34, p35, rfl, -⟩ := q33
  refine SR.one (j := 21) (by kernel_rfl) rfl (st_call00 rfl rfl rfl rfl hbd31 rfl .n (all_s A7 X.length c8 X _ _ (Fr.lent (S := S) hR_10 0 rfl (by first | omega | simp only [LL] <;> omega | simp <;> omega)) (by first | omega | simp only [LL] <;> omega | simp <;> omega) (Nat.le_trans (m := 220) (nums_join hX hm (fun x hx => hF x (List.mem_append_right _ hx))) (by decide))) (by intro v C h; obtain ⟨_, _, _, rfl, rfl⟩ := h; rfl) (fun v_q37 q37 => ⟨tt0, ?_⟩))
  obtain ⟨o36, p38, p39, rfl, -⟩ := q37
  have hz40 : o36.size ≤ 220 := by rw [p39]; exact (nums_join hX hm (fun x hx => hF x (List.mem_append_right _ hx)))
  refine SR.k 22 rfl (by kernel_rfl) rfl (ev_sadd rfl rfl rfl (by (try simp only [ByteArray.size_append]); show (((1 : Nat) + (o36.size : Nat) : Nat) : Int) ≤ 9223372036854775807; omega)) ?_
  refine SR.k 23 rfl (by kernel_rfl) rfl (ev_sadd rfl rfl rfl (by (try simp only [ByteArray.size_append]); show ((((1 + o36.size) : Nat) + (1 : Nat) : Nat) : Int) ≤ 9223372036854775807; omega)) ?_
  refine SR.one (j := 24) (by kernel_rfl) rfl (st_call00 rfl rfl rfl rfl hbd32 rfl .n (field_ ⟨#[108, 111, 97, 100]⟩ ((((⟨#[91]⟩ : ByteArray) ++ (o36 : ByteArray)) : ByteArray) ++ (⟨#[93]⟩ : ByteArray)) _ _ (by decide) (by (try simp only [ByteArray.size_append]); show ((1 + o36.size) + 1) ≤ _; omega)) (by intro v C h; obtain ⟨_, _, _, rfl, rfl⟩ := h; rfl) (fun v_q42 q42 => ⟨tt0, ?_⟩))
  obtain ⟨o41, p43, p44, rfl, -⟩ := q42
  have hz45 : o41.size ≤ ((1 + o36.size) + 1) + 65 := by have h_ := p44; (try simp only [ByteArray.size_append] at h_); exact h_
  refine SR.one (j := 27) (by kernel_rfl) rfl (st_call00 rfl rfl rfl rfl hbd33 rfl .n (number22 ⟨#[116, 105, 109, 101]⟩ tm _ _ (by decide) (by omega)) (by intro v C h; obtain ⟨_, _, _, rfl, rfl⟩ := h; rfl) (fun v_q47 q47 => ⟨tt0, ?_⟩))
  obtain ⟨o46, p48, p49, rfl, -⟩ := q47
  refine SR.one (j := 30) (by kernel_rfl) rfl (st_call00 rfl rfl rfl rfl hbd33 rfl .n (number22 ⟨#[100, 105, 115, 116]⟩ ds _ _ (by decide) (by omega)) (by intro v C h; obtain ⟨_, _, _, rfl, rfl⟩ := h; rfl) (fun v_q51 q51 => ⟨tt0, ?_⟩))
  obtain ⟨o50, p52, p53, rfl, -⟩ := q51
  refine SR.one (j := 31) (by kernel_rfl) rfl (st_lit eS (e := 9) (l := [o11, o16, o20, o24, o28, o32, o41, o46, o50]) rfl rfl rfl rfl (by kernel_rfl) rfl rfl (fun w => by kernel_rfl) (fun b54 => ⟨tt0, ?_⟩))
  refine SR.one (j := 32) (by kernel_rfl) rfl (st_lend0 rfl rfl rfl rfl hbd31 rfl .n (.c .h .n) (fun w_ hw => all_s (some ⟨b54, 0, none⟩) 9 9 [o11, o16, o20, o24, o28, o32, o41, o46, o50] _ _ (Fr.lend hw 0 rfl (by first | omega | simp only [LL] <;> omega | simp <;> omega)) (by first | omega | simp only [LL] <;> omega | simp <;> omega) (Nat.le_trans (m := 2889) (join_m (B := 320) (n := 9) (by simp only [List.forall_mem_cons, List.not_mem_nil, false_implies, implies_true, and_true]; omega) (Nat.le_refl _) (by decide)) (by decide))) (fun v_q56 C_q56 q56 => ⟨tt0, ?_⟩))
  obtain ⟨o55, p57, p58, rfl, rfl⟩ := q56
  show SR _ _ _ _ _ _ _ _ _ ⟨_, _ :: _, _, _⟩
  have hz59 : o55.size ≤ 2889 := by rw [p58]; exact (join_m (B := 320) (n := 9) (by simp only [List.forall_mem_cons, List.not_mem_nil, false_implies, implies_true, and_true]; omega) (Nat.le_refl _) (by decide))
  refine SR.k 33 rfl (by kernel_rfl) rfl (ev_sadd rfl rfl rfl (by (try simp only [ByteArray.size_append]); show (((1 : Nat) + (o55.size : Nat) : Nat) : Int) ≤ 9223372036854775807; omega)) ?_
  refine SR.k 34 rfl (by kernel_rfl) rfl (ev_sadd rfl rfl rfl (by (try simp only [ByteArray.size_append]); show ((((1 + o55.size) : Nat) + (1 : Nat) : Nat) : Int) ≤ 9223372036854775807; omega)) ?_
  refine SR.k 35 rfl (by kernel_rfl) rfl (ev_as rfl rfl) ?_
  refine SR.fin (by kernel_rfl) hl_10 hx_10 hR_10 (.c .n) ?_
  refine SQ.go idQ ?_
  exact .ret idQ (ret1 Try.results53 rfl .n ⟨((((⟨#[123]⟩ : ByteArray) ++ (o55 : ByteArray)) : ByteArray) ++ (⟨#[125]⟩ : ByteArray)), (by have hl_ := lst_text (ns := []) (js := load.map J.num) p38 (by rw [hX, List.map_map]; exact List.map_congr_left fun x _ => (txt_num x).symm); unfold stepJ loadJ; exact obj_text p57 (by simp only [stepNs, List.map_cons, List.map_nil, List.zip_cons_cons, List.zip_nil_right, txt_num, txt_str, txt_boo, hw6, hl_, p13, p18, p22, p26, p30, p34, p38, p43, p48, p52, p57]) rfl), (by (try simp only [ByteArray.size_append]); show ((1 + o55.size) + 1) ≤ _; omega), rfl, rfl⟩)
 refine .skipgo idQ (.seq ?_)
 have hw4 : (⟨#[63]⟩ : ByteArray) = wordK k := by unfold wordK; first | (rw [if_pos (by omega)]; rfl) | (rw [if_neg (by omega)])
 rw [hw4]
 have hw5 := word_size k
 have hw6 := quote_word k
 refine .region ?_
 refine .v (ev_as rfl rfl) rfl ?_
 refine .go idQ (.seq (.seq ?_))
 refine SC.nilrow eS 9 ?_
 refine .region ?_
 refine .v (ev_as rfl rfl) rfl ?_
 refine .go idQ (.block ?_)
 refine .loop (X := Int × Value × (List ByteArray)) (fun ⟨i, U, X⟩ => 0 ≤ i ∧ i ≤ load.length ∧ X.map bs = (load.take i.toNat).map numL ∧ (X.length : Int) = i) (fun ⟨i, U, X⟩ => [(1, .pointer (some ⟨b1, 0, none⟩)), (4, .string (wordK k)), (5, U), (6, .int .i64 i)]) (fun ⟨i, U, X⟩ => [rw_ eS 9 (U) X, cel b1 [.int .i64 k, .int .i64 it, .int .i64 pl, .int .i64 ar, .int .i64 wt, .int .i64 sv, .slice lA load.length lc, .int .i64 tm, .int .i64 ds] 58]) (fun _ => S) (fun _ => wf) (fun ⟨i, U, X⟩ => (load.length - i.toNat)) (fun a_ w_ hs_ hw_ => ⟨⟨0, (.slice none 0 0), ([] : List ByteArray)⟩, (by exact ⟨by omega, by omega, rfl, rfl⟩), hs_.mono (Sub.get (.c rfl (.c rfl (.c rfl (.c rfl .n))))), hw_.keep (.c .h (.c (.t .h) .n))⟩) (fun ⟨i, U, X⟩ ⟨q_0, q_1, q_2, q_3⟩ => ?_)
 show SC _ _ _ _ _ ⟨[(1, .pointer (some ⟨b1, 0, none⟩)), (4, .string (wordK k)), (5, U), (6, .int .i64 i)], [rw_ eS 9 (U) X, cel b1 [.int .i64 k, .int .i64 it, .int .i64 pl, .int .i64 ar, .int .i64 wt, .int .i64 sv, .slice lA load.length lc, .int .i64 tm, .int .i64 ds] 58], S, wf⟩
 refine .seq (.seq (.region ?_))
 refine .v (ev_mv rfl rfl) rfl ?_
 refine .v (ev_fa rfl fo58_5 rfl (r := 6) rfl) rfl ?_
 refine .v (ev_ld1 rfl ty56 rfl (At.own1 1 rfl rfl)) rfl ?_
 refine .v (ev_len rfl Try.underlying56 rfl) rfl ?_
 refine .v (ev_cmp rfl rfl rfl rfl) rfl ?_
 refine .go idQ ?_
 refine .condI rfl bD (fun h60 => ?_) (fun h60 => ?_)
 ·
  refine .skipgo idQ (.seq (.block ?_))
  have hfl := fit_i64 (hF (gt load i) (List.mem_append_right _ (gt_mem (by omega) (by omega))))
  refine .region ?_
  refine .v (ev_mv rfl rfl) rfl ?_
  refine .v (ev_fa rfl fo58_5 rfl (r := 6) rfl) rfl ?_
  refine .v (ev_ld1 rfl ty56 rfl (At.own1 1 rfl rfl)) rfl ?_
  refine .v (ev_mv rfl rfl) rfl ?_
  refine .v (ev_ix rfl Try.underlying56 ty3 rfl rfl (by omega) (by omega) (fun _ _ => Fr.adr (i := i) hA (by omega) (by omega))) rfl ?_
  refine .v (ev_ld1 rfl ty3 rfl (At.elem1 (At.w (Fr.el (i := i) hA (by omega) (by omega))) 0 rfl)) rfl ?_
  refine .cons (st_callk rfl rfl rfl rfl hbd51 rfl .n (numtxt (gt load i) _ _ (by omega)) ?_)
  refine .cons (st_lit eS (e := 9) (l := [(numS (gt load i))]) rfl rfl rfl rfl (by kernel_rfl) rfl rfl (fun w => by kernel_rfl) (fun b61 => ?_))
  refine .cons (st_app (E := eS) (m := [(numS (gt load i))]) rfl rfl rfl rfl Try.underlying82 ai9 rfl rfl rfl (.t .h) (by first | rfl | omega | simp) (row_src 0 rfl) (by first | omega | simp only [LL] <;> omega | simp <;> omega) rfl (fun v62 => ?_))
  refine .v (ev_as rfl rfl) rfl ?_
  refine .go idQ (.region ?_)
  refine .v (ev_mv rfl rfl) rfl ?_
  refine .v (ev_add rfl rfl rfl (r := (i + 1)) rfl (by omega) (by omega)) rfl ?_
  refine .v (ev_as rfl rfl) rfl ?_
  exact SP.nil (SQ.roundb (X := Int × Value × (List ByteArray)) (x := (i, U, X)) ⟨(i + 1), v62, (X ++ [(numS (gt load i))])⟩ (by exact ⟨by omega, by omega, tx_next q_2 (by omega) (by omega) (bs_numS _), by rw [List.length_append]; simp; omega⟩) (by dsimp only; omega) (Sub.get (.c rfl (.c rfl (.c rfl (.c rfl .n))))) (fun w hw => hw.keep (.c .h (.c (.t .h) .n))))
 refine .exit idQ ?_
 refine .seq ?_
 refine .know (row_len 0 rfl) (fun hv65 => ?_)
 obtain ⟨A63, c64, rfl, hv65_1, hv65_2⟩ := hv65
 unfold maxLen at hv65_2
 have hX := tx_end q_2 (by omega)
 refine SC.draw mo [] [] .n (fun _ _ _ c hc => by cases hc) (fun wf_66 hl_66 hx_66 hR_66 => ?_)
 refine SR.k 0 rfl (by kernel_rfl) rfl (ev_mv rfl rfl) ?_
 refine SR.k 1 rfl (by kernel_rfl) rfl (ev_sadd rfl rfl rfl (by (try simp only [ByteArray.size_append]); show (((1 : Nat) + ((wordK k).size : Nat) : Nat) : Int) ≤ 9223372036854775807; omega)) ?_
 refine SR.k 2 rfl (by kernel_rfl) rfl (ev_sadd rfl rfl rfl (by (try simp only [ByteArray.size_append]); show ((((1 + (wordK k).size) : Nat) + (1 : Nat) : Nat) : Int) ≤ 9223372036854775807; omega)) ?_
 refine SR.k 4 rfl (by kernel_rfl) rfl (ev_fa rfl fo58_0 rfl (r := 0) rfl) ?_
 refine SR.k 5 rfl (by kernel_rfl) rfl (ev_fa rfl fo55_1 rfl (r := 1) rfl) ?_
 refine SR.k 6 rfl (by kernel_rfl) rfl (ev_ld1 rfl ty3 rfl (At.d (At.lent hR_66 1 rfl rfl))) ?_
 refine SR.k 8 rfl (by kernel_rfl) rfl (ev_fa rfl fo58_1 rfl (r := 2) rfl) ?_
 refine SR.k 9 rfl (by kernel_rfl) rfl (ev_ld1 rfl ty3 rfl (At.d (At.lent hR_66 1 rfl rfl))) ?_
 refine SR.k 11 rfl (by kernel_rfl) rfl (ev_fa rfl fo58_2 rfl (r := 3) rfl) ?_
 refine SR.k 12 rfl (by kernel_rfl) rfl (ev_ld1 rfl ty3 rfl (At.d (At.lent hR_66 1 rfl rfl))) ?_
 refine SR.k 14 rfl (by kernel_rfl) rfl (ev_fa rfl fo58_3 rfl (r := 4) rfl) ?_
 refine SR.k 15 rfl (by kernel_rfl) rfl (ev_ld1 rfl ty3 rfl (At.d (At.lent hR_66 1 rfl rfl))) ?_
 refine SR.k 17 rfl (by kernel_rfl) rfl (ev_fa rfl fo58_4 rfl (r := 5) rfl) ?_
 refine SR.k 18 rfl (by kernel_rfl) rfl (ev_ld1 rfl ty3 rfl (At.d (At.lent hR_66 1 rfl rfl))) ?_
 refine SR.k 20 rfl (by kernel_rfl) rfl (ev_mv rfl rfl) ?_
 refine SR.k 25 rfl (by kernel_rfl) rfl (ev_fa rfl fo58_6 rfl (r := 7) rfl) ?_
 refine SR.k 26 rfl (by kernel_rfl) rfl (ev_ld1 rfl ty3 rfl (At.d (At.lent hR_66 1 rfl rfl))) ?_
 refine SR.k 28 rfl (by kernel_rfl) rfl (ev_fa rfl fo58_7 rfl (r := 8) rfl) ?_
 refine SR.k 29 rfl (by kernel_rfl) rfl (ev_ld1 rfl ty3 rfl (At.d (At.lent hR_66 1 rfl rfl))) ?_
 refine SR.one (j := 3) (by kernel_rfl) rfl (st_call00 rfl rfl rfl rfl hbd32 rfl .n (field_ ⟨#[116, 121, 112, 101]⟩ ((((⟨#[34]⟩ : ByteArray) ++ ((wordK k) : ByteArray)) : ByteArray) ++ (⟨#[34]⟩ : ByteArray)) _ _ (by decide) (by (try simp only [ByteArray.size_append]); show ((1 + (wordK k).size) + 1) ≤ _; omega)) (by intro v C h; obtain ⟨_, _, _, rfl, rfl⟩ := h; rfl) (fun v_q68 q68 => ⟨tt0, ?_⟩))
 obtain ⟨o67, p69, p70, rfl, -⟩ := q68
 have hz71 : o67.size ≤ ((1 + (wordK k).size) + 1) + 65 := by have h_ := p70; (try simp only [ByteArray.size_append] at h_); exact h_
 refine SR.one (j := 7) (by kernel_rfl) rfl (st_call00 rfl rfl rfl rfl hbd33 rfl .n (number22 ⟨#[105, 116, 101, 109]⟩ it _ _ (by decide) (by omega)) (by intro v C h; obtain ⟨_, _, _, rfl, rfl⟩ := h; rfl) (fun v_q73 q73 => ⟨tt0, ?_⟩))
 obtain ⟨o72, p74, p75, rfl, -⟩ := q73
 refine SR.one (j := 10) (by kernel_rfl) rfl (st_call00 rfl rfl rfl rfl hbd33 rfl .n (number22 ⟨#[112, 108, 97, 99, 101]⟩ pl _ _ (by decide) (by omega)) (by intro v C h; obtain ⟨_, _, _, rfl, rfl⟩ := h; rfl) (fun v_q77 q77 => ⟨tt0, ?_⟩))
 obtain ⟨o76, p78, p79, rfl, -⟩ := q77
 refine SR.one (j := 13) (by kernel_rfl) rfl (st_call00 rfl rfl rfl rfl hbd33 rfl .n (number22 ⟨#[97, 114, 114, 105, 118, 97, 108]⟩ ar _ _ (by decide) (by omega)) (by intro v C h; obtain ⟨_, _, _, rfl, rfl⟩ := h; rfl) (fun v_q81 q81 => ⟨tt0, ?_⟩))
 obtain ⟨o80, p82, p83, rfl, -⟩ := q81
 refine SR.one (j := 16) (by kernel_rfl) rfl (st_call00 rfl rfl rfl rfl hbd33 rfl .n (number22 ⟨#[119, 97, 105, 116]⟩ wt _ _ (by decide) (by omega)) (by intro v C h; obtain ⟨_, _, _, rfl, rfl⟩ := h; rfl) (fun v_q85 q85 => ⟨tt0, ?_⟩))
 obtain ⟨o84, p86, p87, rfl, -⟩ := q85
 refine SR.one (j := 19) (by kernel_rfl) rfl (st_call00 rfl rfl rfl rfl hbd33 rfl .n (number22 ⟨#[115, 101, 114, 118, 105, 99, 101]⟩ sv _ _ (by decide) (by omega)) (by intro v C h; obtain ⟨_, _, _, rfl, rfl⟩ := h; rfl) (fun v_q89 q89 => ⟨tt0, ?_⟩))
 obtain ⟨o88, p90, p91, rfl, -⟩ := q89
 refine SR.one (j := 21) (by kernel_rfl) rfl (st_call00 rfl rfl rfl rfl hbd31 rfl .n (all_s A63 X.length c64 X _ _ (Fr.lent (S := S) hR_66 0 rfl (by first | omega | simp only [LL] <;> omega | simp <;> omega)) (by first | omega | simp only [LL] <;> omega | simp <;> omega) (Nat.le_trans (m := 220) (nums_join hX hm (fun x hx => hF x (List.mem_append_right _ hx))) (by decide))) (by intro v C h; obtain ⟨_, _, _, rfl, rfl⟩ := h; rfl) (fun v_q93 q93 => ⟨tt0, ?_⟩))
 obtain ⟨o92, p94, p95, rfl, -⟩ := q93
 have hz96 : o92.size ≤ 220 := by rw [p95]; exact (nums_join hX hm (fun x hx => hF x (List.mem_append_right _ hx)))
 refine SR.k 22 rfl (by kernel_rfl) rfl (ev_sadd rfl rfl rfl (by (try simp only [ByteArray.size_append]); show (((1 : Nat) + (o92.size : Nat) : Nat) : Int) ≤ 9223372036854775807; omega)) ?_
 refine SR.k 23 rfl (by kernel_rfl) rfl (ev_sadd rfl rfl rfl (by (try simp only [ByteArray.size_append]); show ((((1 + o92.size) : Nat) + (1 : Nat) : Nat) : Int) ≤ 9223372036854775807; omega)) ?_
 refine SR.one (j := 24) (by kernel_rfl) rfl (st_call00 rfl rfl rfl rfl hbd32 rfl .n (field_ ⟨#[108, 111, 97, 100]⟩ ((((⟨#[91]⟩ : ByteArray) ++ (o92 : ByteArray)) : ByteArray) ++ (⟨#[93]⟩ : ByteArray)) _ _ (by decide) (by (try simp only [ByteArray.size_append]); show ((1 + o92.size) + 1) ≤ _; omega)) (by intro v C h; obtain ⟨_, _, _, rfl, rfl⟩ := h; rfl) (fun v_q98 q98 => ⟨tt0, ?_⟩))
 obtain ⟨o97, p99, p100, rfl, -⟩ := q98
 have hz101 : o97.size ≤ ((1 + o92.size) + 1) + 65 := by have h_ := p100; (try simp only [ByteArray.size_append] at h_); exact h_
 refine SR.one (j := 27) (by kernel_rfl) rfl (st_call00 rfl rfl rfl rfl hbd33 rfl .n (number22 ⟨#[116, 105, 109, 101]⟩ tm _ _ (by decide) (by omega)) (by intro v C h; obtain ⟨_, _, _, rfl, rfl⟩ := h; rfl) (fun v_q103 q103 => ⟨tt0, ?_⟩))
 obtain ⟨o102, p104, p105, rfl, -⟩ := q103
 refine SR.one (j := 30) (by kernel_rfl) rfl (st_call00 rfl rfl rfl rfl hbd33 rfl .n (number22 ⟨#[100, 105, 115, 116]⟩ ds _ _ (by decide) (by omega)) (by intro v C h; obtain ⟨_, _, _, rfl, rfl⟩ := h; rfl) (fun v_q107 q107 => ⟨tt0, ?_⟩))
 obtain ⟨o106, p108, p109, rfl, -⟩ := q107
 refine SR.one (j := 31) (by kernel_rfl) rfl (st_lit eS (e := 9) (l := [o67, o72, o76, o80, o84, o88, o97, o102, o106]) rfl rfl rfl rfl (by kernel_rfl) rfl rfl (fun w => by kernel_rfl) (fun b110 => ⟨tt0, ?_⟩))
 refine SR.one (j := 32) (by kernel_rfl) rfl (st_lend0 rfl rfl rfl rfl hbd31 rfl .n (.c .h .n) (fun w_ hw => all_s (some ⟨b110, 0, none⟩) 9 9 [o67, o72, o76, o80, o84, o88, o97, o102, o106] _ _ (Fr.lend hw 0 rfl (by first | omega | simp only [LL] <;> omega | simp <;> omega)) (by first | omega | simp only [LL] <;> omega | simp <;> omega) (Nat.le_trans (m := 2889) (join_m (B := 320) (n := 9) (by simp only [List.forall_mem_cons, List.not_mem_nil, false_implies, implies_true, and_true]; omega) (Nat.le_refl _) (by decide)) (by decide))) (fun v_q112 C_q112 q112 => ⟨tt0, ?_⟩))
 obtain ⟨o111, p113, p114, rfl, rfl⟩ := q112
 show SR _ _ _ _ _ _ _ _ _ ⟨_, _ :: _, _, _⟩
 have hz115 : o111.size ≤ 2889 := by rw [p114]; exact (join_m (B := 320) (n := 9) (by simp only [List.forall_mem_cons, List.not_mem_nil, false_implies, implies_true, and_true]; omega) (Nat.le_refl _) (by decide))
 refine SR.k 33 rfl (by kernel_rfl) rfl (ev_sadd rfl rfl rfl (by (try simp only [ByteArray.size_append]); show (((1 : Nat) + (o111.size : Nat) : Nat) : Int) ≤ 9223372036854775807; omega)) ?_
 refine SR.k 34 rfl (by kernel_rfl) rfl (ev_sadd rfl rfl rfl (by (try simp only [ByteArray.size_append]); show ((((1 + o111.size) : Nat) + (1 : Nat) : Nat) : Int) ≤ 9223372036854775807; omega)) ?_
 refine SR.k 35 rfl (by kernel_rfl) rfl (ev_as rfl rfl) ?_
 refine SR.fin (by kernel_rfl) hl_66 hx_66 hR_66 (.c .n) ?_
 refine SQ.go idQ ?_
 exact .ret idQ (ret1 Try.results53 rfl .n ⟨((((⟨#[123]⟩ : ByteArray) ++ (o111 : ByteArray)) : ByteArray) ++ (⟨#[125]⟩ : ByteArray)), (by have hl_ := lst_text (ns := []) (js := load.map J.num) p94 (by rw [hX, List.map_map]; exact List.map_congr_left fun x _ => (txt_num x).symm); unfold stepJ loadJ; exact obj_text p113 (by simp only [stepNs, List.map_cons, List.map_nil, List.zip_cons_cons, List.zip_nil_right, txt_num, txt_str, txt_boo, hw6, hl_, p69, p74, p78, p82, p86, p90, p94, p99, p104, p108, p113]) rfl), (by (try simp only [ByteArray.size_append]); show ((1 + o111.size) + 1) ≤ _; omega), rfl, rfl⟩)
end Go.Proofs.Ythmkelkefmfmgaa.Sx
