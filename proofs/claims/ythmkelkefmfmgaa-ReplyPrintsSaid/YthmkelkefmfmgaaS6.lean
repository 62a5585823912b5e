import Derived.Test.YthmkelkefmfmgaaProg
import Derived.Test.YthmkelkefmfmgaaS5
set_option linter.unusedVariables false
set_option linter.unusedSimpArgs false
set_option linter.unusedSectionVars false
set_option maxRecDepth 20000
set_option maxHeartbeats 4000000
namespace Go.Proofs.Ythmkelkefmfmgaa.Sx.FPE
open Go Go.SX Go.Proofs
theorem zf90 : (Try.prog.info? 90).bind (fun i => i.zero.map Value.cells) = some (List.toArray [.int .i64 0, .bool false, .int .i64 0, .string ⟨#[]⟩, .slice none 0 0, .slice none 0 0]) := by kernel_rfl
theorem ty90 : ty Try.prog 90 = some (true, 6) := by kernel_rfl
theorem fo90_0 : fo Try.prog 90 0 = some 0 := by kernel_rfl
theorem ty88 : ty Try.prog 88 = some (false, 1) := by kernel_rfl
theorem hbd54 : hasBody Try.prog 54 = true := by kernel_rfl
theorem fo86_1 : fo Try.prog 86 1 = some 1 := by kernel_rfl
theorem ty3 : ty Try.prog 3 = some (false, 1) := by kernel_rfl
theorem hbd56 : hasBody Try.prog 56 = true := by kernel_rfl
theorem fo86_2 : fo Try.prog 86 2 = some 2 := by kernel_rfl
theorem hbd72 : hasBody Try.prog 72 = true := by kernel_rfl
theorem fo90_5 : fo Try.prog 90 5 = some 5 := by kernel_rfl
theorem ty56 : ty Try.prog 56 = some (false, 1) := by kernel_rfl
theorem hbd36 : hasBody Try.prog 36 = true := by kernel_rfl
theorem ai3 : (Try.prog.info? 3).map (fun i => (i.zero, i.size, i.bytes)) = some (some (.int .i64 0), 1, 8) := by kernel_rfl
theorem mo : Try.prog.follows .mixedOrders = true := by kernel_rfl
theorem hbd38 : hasBody Try.prog 38 = true := by kernel_rfl
end Go.Proofs.Ythmkelkefmfmgaa.Sx.FPE
namespace Go.Proofs.Ythmkelkefmfmgaa.Sx
open Go Go.SX Go.Proofs FPE
theorem many_ (d : Nat) (g : Nat) (A : Option Addr) (n : Nat) (c : Nat) (b : List Int) (i : Int) (bad : Int) (pos : Int) (v : Value) (l : List TV) (ob : Bool) (deep : Int) (fr : Int) (S : Nat → Prop) (wf : World) (hA : Fr eY S wf A b) (hn : b.length = n) (hN : n ≤ 65536) (hr : ∀ x ∈ b, isB x) (hcap : n ≤ c) (hi : 0 ≤ i ∧ i ≤ n) (hb0 : bad = 0) (hl : l.length ≤ 8192) (hB : ∀ t ∈ l, TB t.v) (hdp : deep = 17 - d) (hd1 : 1 ≤ d ∧ d ≤ 16) (hval : ∀ (g : Nat) (A : Option Addr) (n : Nat) (c : Nat) (b : List Int) (i : Int) (bad : Int) (pos : Int) (v : Value) (l : List TV) (deep : Int) (S : Nat → Prop) (wf : World) (hA : Fr eY S wf A b) (hn : b.length = n) (hN : n ≤ 65536) (hr : ∀ x ∈ b, isB x) (hcap : n ≤ c) (hi : 0 ≤ i ∧ (bad = 0 → i ≤ n) ∧ i ≤ n + 40) (hl : l.length ≤ 8192) (hB : ∀ t ∈ l, TB t.v) (hdp : deep = 18 - d) (hd1 : 1 ≤ d ∧ d ≤ 17),
  TR0 Try.prog 36 [.pointer (some ⟨g, 0, none⟩), .int .i64 deep] [cel g [.slice A n c, .int .i64 i, .int .i64 bad, .int .i64 pos, v] 86, rw_ eTV 90 (v) l, nest 9 3 l] S wf (fun v_ C_ => ∃ (r : Int) (i2 : Int) (bad2 : Int) (pos2 : Int) (u : Value) (L : List TV), ((VR.mk r (LS.mk i2 bad2 pos2) (vs L)) = valueF b d (LS.mk i bad pos) (vs l)) ∧ ((i ≤ i2 ∧ (i2 ≤ i ∨ i2 ≤ n + d + 3) ∧ (bad2 = 0 → i2 ≤ n) ∧ (bad2 = 0 → i < i2 ∧ bad = 0))) ∧ (L.length ≤ 8192) ∧ (∀ t ∈ L, TB t.v) ∧ v_ = .int .i64 r ∧ C_ = [cel g [.slice A n c, .int .i64 i2, .int .i64 bad2, .int .i64 pos2, u] 86, rw_ eTV 90 (u) L, nest 9 3 L])) :
  TR0 Try.prog 59 [.pointer (some ⟨g, 0, none⟩), .bool ob, .int .i64 deep, .int .i64 fr] [cel g [.slice A n c, .int .i64 i, .int .i64 bad, .int .i64 pos, v] 86, rw_ eTV 90 (v) l, nest 9 3 l] S wf (fun v_ C_ => ∃ (r : Int) (i2 : Int) (bad2 : Int) (pos2 : Int) (u : Value) (L : List TV), ((VR.mk r (LS.mk i2 bad2 pos2) (vs L)) = manyF b (valueF b d) ob fr (LS.mk i bad pos) (vs l)) ∧ ((i ≤ i2 ∧ i2 ≤ n + d + 4 ∧ (bad2 = 0 → i2 ≤ n))) ∧ (L.length ≤ 8192) ∧ (∀ t ∈ L, TB t.v) ∧ v_ = .int .i64 r ∧ C_ = [cel g [.slice A n c, .int .i64 i2, .int .i64 bad2, .int .i64 pos2, u] 86, rw_ eTV 90 (u) L, nest 9 3 L]) := by
 have hla := hA.len
 refine TR.mk Try.func59 rfl Try.ntmps59 rfl rfl (fun w_ => ?_)
 refine .seq (.region ?_)
 refine .v (ev_as rfl rfl) rfl ?_
 refine .go idQ (.seq (.region ?_))
 refine .v (ev_any (v := .agg #[.int .i64 5, .bool false, .int .i64 0, .string ⟨#[]⟩, .slice none 0 0, .slice none 0 0]) rfl (by kernel_rfl) (fun _ => by kernel_rfl)) rfl ?_
 refine .cons (st_alloc rfl rfl rfl rfl zf90 (fun b1 => ?_))
 refine .cons (st_storea (l' := [.int .i64 5, .bool false, .int .i64 0, .string ⟨#[]⟩, .slice none 0 0, .slice none 0 0]) rfl rfl rfl ty90 rfl rfl rfl .h rfl rfl ?_)
 refine .go idQ (.seq (.region ?_))
 refine .v (ev_as rfl rfl) rfl ?_
 refine .go idQ (.seq (.seq (.region ?_)))
 refine .v (ev_mv rfl rfl) rfl ?_
 refine .go idQ ?_
 refine .condI rfl bV (fun h2 => ?_) (fun h2 => ?_)
 ·
  refine .seq (.region ?_)
  refine .v (ev_fa rfl fo90_0 rfl (r := 0) rfl) rfl ?_
  refine .cons (st_store1 rfl rfl rfl ty88 rfl rfl rfl .h .h ?_)
  refine .go idQ (.region ?_)
  refine .v (ev_as rfl rfl) rfl ?_
  refine .go idQ (.seq (.seq ?_))
  subst h2
  refine SC.nilrow eS 9 ?_
  refine SC.nilrow eZ 3 ?_
  refine .region ?_
  refine .v (ev_mv rfl rfl) rfl ?_
  refine .cons (st_call0 rfl rfl rfl rfl hbd54 rfl (.c (.t (.t (.t .h))) .n) (next_ g A n c b i bad pos v _ _ hA (by first | omega | simp only [LL] <;> omega | simp <;> omega) (by omega) (by omega) (by omega) (by omega)) (fun v_q7 C_q7 q7 => ?_))
  obtain ⟨r3, i24, bad25, pos26, p8, p9, p10, p11, rfl, rfl⟩ := q7
  show SP _ _ _ _ _ _ ⟨_, _ :: _, _, _⟩
  refine .v (ev_mv rfl rfl) rfl ?_
  refine .v (ev_cmp rfl rfl rfl rfl) rfl ?_
  refine .go idQ ?_
  refine .condI rfl bE (fun h12 => ?_) (fun h12 => ?_)
  ·
   refine .seq (.region ?_)
   refine .v (ev_mv rfl rfl) rfl ?_
   refine .v (ev_mv rfl rfl) rfl ?_
   refine .v (ev_nil rfl rfl) rfl ?_
   refine .v (ev_fa rfl fo86_1 rfl (r := 1) rfl) rfl ?_
   refine .v (ev_ld1 rfl ty3 rfl (At.own1 0 rfl rfl)) rfl ?_
   refine .v (ev_add rfl rfl rfl (r := (i24 + 1)) rfl (by omega) (by omega)) rfl ?_
   refine .v (ev_nil rfl rfl) rfl ?_
   refine .v (ev_fa rfl fo86_1 rfl (r := 1) rfl) rfl ?_
   refine .cons (st_store1 rfl rfl rfl ty3 rfl rfl rfl .h (.t .h) ?_)
   refine .go idQ (.seq (.region ?_))
   refine .v (ev_mv rfl rfl) rfl ?_
   refine .v (ev_lda rfl rfl (At.whole 3 rfl) ty90) rfl ?_
   refine .v (ev_mv rfl rfl) rfl ?_
   refine .cons (st_call0 rfl rfl rfl rfl hbd56 rfl (.c .h (.c (.t (.t (.t .h))) (.c (.t (.t (.t .h))) .n))) (put0 g A n c (i24 + 1) bad25 pos26 v l 6 false 0 ⟨#[]⟩ fr _ _ (by first | omega | simp only [LL] <;> omega | simp <;> omega) hB (tb_leaf (by decide) (by decide) (by decide))) (fun v_q18 C_q18 q18 => ?_))
   obtain ⟨r13, bad214, pos215, u16, L17, p19, p20, p21, p22, rfl, rfl⟩ := q18
   show SP _ _ _ _ _ _ ⟨_, _ :: _ :: _ :: _, _, _⟩
   refine .v (ev_as rfl rfl) rfl ?_
   refine .go idQ ?_
   exact .ret idQ (ret1 Try.results59 rfl (.c .h (.c .h (.c .h .n))) ⟨r13, (i24 + 1), bad214, pos215, u16, L17, many_0 p8 p9 (by assumption) p19, (by omega), p20, p21, rfl, rfl⟩)
  refine .skipgo idQ (.seq (.block ?_))
  refine .loop (X := Nat × Int × Int × Int × Value × (List TV) × Value × (List ByteArray) × Value × (List Int)) (fun ⟨k, i1, bad1, pos1, U, LL, NV, X, KV, Y⟩ => (bad1 = 0 → (n : Int) + 1 - i1 ≤ k ∧ i1 ≤ n) ∧ (i ≤ i1 ∧ i1 ≤ n + d + 4) ∧ LL.length ≤ 8192 ∧ (∀ t ∈ LL, TB t.v) ∧ (∀ y ∈ X, y.size ≤ 200000) ∧ (bad1 = 0 → (X.length : Int) ≤ i1 - i ∧ (Y.length : Int) ≤ i1 - i) ∧ manyL b (valueF b d) true fr k (LS.mk i1 bad1 pos1) (vs LL) X Y = manyF b (valueF b d) true fr (LS.mk i bad pos) (vs l)) (fun ⟨k, i1, bad1, pos1, U, LL, NV, X, KV, Y⟩ => [(0, .pointer (some ⟨g, 0, none⟩)), (1, .bool true), (2, .int .i64 deep), (3, .int .i64 fr), (9, .pointer (some ⟨b1, 0, none⟩)), (10, .int .i64 125)]) (fun ⟨k, i1, bad1, pos1, U, LL, NV, X, KV, Y⟩ => [cel g [.slice A n c, .int .i64 i1, .int .i64 bad1, .int .i64 pos1, U] 86, rw_ eTV 90 (U) LL, nest 9 3 LL, cel b1 [.int .i64 6, .bool false, .int .i64 0, .string ⟨#[]⟩, NV, KV] 90, rw_ eS 9 (NV) X, rw_ eZ 3 (KV) Y]) (fun _ => S) (fun _ => wf) (fun ⟨k, i1, bad1, pos1, U, LL, NV, X, KV, Y⟩ => k) (fun a_ w_ hs_ hw_ => ⟨⟨b.length + 2, i24, bad25, pos26, v, l, (.slice none 0 0), ([] : List ByteArray), (.slice none 0 0), ([] : List Int)⟩, (by exact ⟨by omega, by omega, hl, hB, fun y_ hy_ => (by cases hy_), fun _ => ⟨by simp; omega, by simp; omega⟩, (many_1 p8 p9 (by assumption) rfl)⟩), hs_.mono (Sub.get (.c rfl (.c rfl (.c rfl (.c rfl (.c rfl (.c rfl .n))))))), hw_.keep (.c .h (.c (.t (.t (.t .h))) (.c (.t (.t (.t .h))) (.c (.t (.t .h)) (.c (.t .h) (.c .h .n))))))⟩) (fun ⟨k, i1, bad1, pos1, U, LL, NV, X, KV, Y⟩ ⟨q_0, q_1, q_2, q_3, q_4, q_5, q_6⟩ => ?_)
  show SC _ _ _ _ _ ⟨[(0, .pointer (some ⟨g, 0, none⟩)), (1, .bool true), (2, .int .i64 deep), (3, .int .i64 fr), (9, .pointer (some ⟨b1, 0, none⟩)), (10, .int .i64 125)], [cel g [.slice A n c, .int .i64 i1, .int .i64 bad1, .int .i64 pos1, U] 86, rw_ eTV 90 (U) LL, nest 9 3 LL, cel b1 [.int .i64 6, .bool false, .int .i64 0, .string ⟨#[]⟩, NV, KV] 90, rw_ eS 9 (NV) X, rw_ eZ 3 (KV) Y], S, wf⟩
  refine .seq (.seq (.region ?_))
  refine .v (ev_mv rfl rfl) rfl ?_
  refine .v (ev_nil rfl rfl) rfl ?_
  refine .v (ev_fa rfl fo86_2 rfl (r := 2) rfl) rfl ?_
  refine .v (ev_ld1 rfl ty3 rfl (At.own1 0 rfl rfl)) rfl ?_
  refine .v (ev_cmp rfl rfl rfl rfl) rfl ?_
  refine .go idQ ?_
  refine .condI rfl bE (fun h23 => ?_) (fun h23 => ?_)
  ·
   refine .skipgo idQ (.block (.seq (.seq (.region ?_))))
   refine .v (ev_mv rfl rfl) rfl ?_
   refine .go idQ ?_
   refine .cond_t rfl ?_
   refine .region ?_
   refine .v (ev_mv rfl rfl) rfl ?_
   refine .cons (st_call0 rfl rfl rfl rfl hbd72 rfl (.c .h (.c (.t (.t .h)) (.c (.t (.t .h)) .n))) (name_ g A n c b i1 bad1 pos1 U b1 6 NV KV X _ _ hA (by first | omega | simp only [LL] <;> omega | simp <;> omega) (by omega) (by omega) (by omega) (by omega) (by omega) (by first | omega | simp only [LL] <;> omega | simp <;> omega) q_4) (fun v_q29 C_q29 q29 => ?_))
   obtain ⟨i224, bad225, pos226, NV227, X228, p30, p31, p32, p33, rfl, rfl⟩ := q29
   show SP _ _ _ _ _ _ ⟨_, _ :: _ :: _ :: _, _, _⟩
   refine .go idQ (.seq ?_)
   refine SC.draw mo [cel g [.slice A n c, .int .i64 i224, .int .i64 bad225, .int .i64 pos226, U] 86, cel b1 [.int .i64 6, .bool false, .int .i64 0, .string ⟨#[]⟩, NV227, KV] 90, rw_ eTV 90 (U) LL, nest 9 3 LL, rw_ eZ 3 (KV) Y] [(9, fun w => At w b1 0 [.int .i64 6, .bool false, .int .i64 0, .string ⟨#[]⟩, NV227, KV])] (.c .h (.c .h (.c (.t .h) (.c (.t .h) (.c (.t .h) .n))))) (fun w_ _ hw_ => (sc1 (At.whole 1 rfl w_ hw_) sc0)) (fun wf_34 hl_34 hx_34 hR_34 => ?_)
   refine SR.k 0 rfl (by kernel_rfl) rfl (ev_fa rfl fo90_5 rfl (r := 5) rfl) ?_
   refine SR.k 1 rfl (by kernel_rfl) rfl (ev_ld1 rfl ty56 rfl (At.elem1 (v := KV) (At.ofcs 0 rfl (by kernel_rfl)) 5 rfl)) ?_
   refine SR.k 2 rfl (by kernel_rfl) rfl (ev_mv rfl rfl) ?_
   refine SR.k 3 rfl (by kernel_rfl) rfl (ev_mv rfl rfl) ?_
   refine SR.k 4 rfl (by kernel_rfl) rfl (ev_add rfl rfl rfl (r := (deep + 1)) rfl (by omega) (by omega)) ?_
   refine SR.one (j := 5) (by kernel_rfl) rfl (st_call0 rfl rfl rfl rfl hbd36 rfl (.c .h (.c (.t .h) (.c (.t .h) .n))) (hval g A n c b i224 bad225 pos226 U LL (deep + 1) _ _ (Fr.ext hA hx_34) (by first | omega | simp only [LL] <;> omega | simp <;> omega) (by omega) hr (by omega) (by omega) (by first | omega | simp only [LL] <;> omega | simp <;> omega) q_3 (by omega) (by omega)) (fun v_q41 C_q41 q41 => ⟨ttc (fun w_ hw_ => (tc1 (by obtain ⟨_, _, _, _, _, _, _, _, _, _, rfl, rfl⟩ := q41; first | exact At.whole 0 rfl w_ hw_ | exact At.whole 1 rfl w_ hw_ | exact At.whole 2 rfl w_ hw_ | exact At.whole 3 rfl w_ hw_ | exact At.whole 4 rfl w_ hw_ | exact At.whole 5 rfl w_ hw_ | exact At.whole 6 rfl w_ hw_) tc0)), ?_⟩))
   obtain ⟨r35, i236, bad237, pos238, u39, L40, p42, p43, p44, p45, rfl, rfl⟩ := q41
   show SR _ _ _ _ _ _ _ _ _ ⟨_, _ :: _ :: _ :: _, _, _⟩
   refine SR.one (j := 6) (by kernel_rfl) rfl (st_lit eZ (e := 3) (l := [r35]) rfl rfl rfl rfl (by kernel_rfl) rfl rfl (fun w => by kernel_rfl) (fun b46 => ⟨ttc (fun w_ hw_ => (tc1 (by first | exact At.whole 0 rfl w_ hw_ | exact At.whole 1 rfl w_ hw_ | exact At.whole 2 rfl w_ hw_ | exact At.whole 3 rfl w_ hw_ | exact At.whole 4 rfl w_ hw_ | exact At.whole 5 rfl w_ hw_ | exact At.whole 6 rfl w_ hw_) tc0)), ?_⟩))
   refine SR.one (j := 7) (by kernel_rfl) rfl (st_app (E := eZ) (m := [r35]) rfl rfl rfl rfl Try.underlying56 ai3 rfl rfl rfl (.t (.t (.t (.t (.t .h))))) (by first | rfl | omega | simp) (row_src 0 rfl) (by first | omega | simp only [LL] <;> omega | simp <;> omega) rfl (fun v47 => ⟨ttc (fun w_ hw_ => (tc1 (by first | exact At.whole 0 rfl w_ hw_ | exact At.whole 1 rfl w_ hw_ | exact At.whole 2 rfl w_ hw_ | exact At.whole 3 rfl w_ hw_ | exact At.whole 4 rfl w_ hw_ | exact At.whole 5 rfl w_ hw_ | exact At.whole 6 rfl w_ hw_) tc0)), ?_⟩))
   refine SR.k 8 rfl (by kernel_rfl) rfl (ev_fa rfl fo90_5 rfl (r := 5) rfl) ?_
   refine .know (row_len 0 rfl) (fun hv50 => ?_)
   obtain ⟨A48, c49, rfl, hv50_1, hv50_2⟩ := hv50
   unfold maxLen at hv50_2
   refine SR.one (j := 9) (by kernel_rfl) rfl (st_store1 rfl rfl rfl ty56 rfl rfl rfl (.t (.t (.t (.t (.t .h))))) (.t (.t (.t (.t (.t .h))))) ⟨ttc (fun w_ hw_ => (tc2 (by kernel_rfl) tc0)), ?_⟩)
   refine SR.fin (by kernel_rfl) hl_34 hx_34 hR_34 (.c (.c (.c (.c (.c (.c .n)))))) ?_
   refine SQ.go idQ ?_
   refine .seq (.region ?_)
   refine .v (ev_mv rfl rfl) rfl ?_
   refine .cons (st_call0 rfl rfl rfl rfl hbd54 rfl (.c (.t (.t (.t .h))) .n) (next_ g A n c b i236 bad237 pos238 u39 _ _ hA (by first | omega | simp only [LL] <;> omega | simp <;> omega) (by omega) (by omega) (by omega) (by omega)) (fun v_q55 C_q55 q55 => ?_))
   obtain ⟨r51, i252, bad253, pos254, p56, p57, p58, p59, rfl, rfl⟩ := q55
   show SP _ _ _ _ _ _ ⟨_, _ :: _, _, _⟩
   refine .v (ev_as rfl rfl) rfl ?_
   refine .go idQ (.seq (.seq (.region ?_)))
   refine .v (ev_mv rfl rfl) rfl ?_
   refine .v (ev_cmp rfl rfl rfl rfl) rfl ?_
   refine .v (ev_mv rfl rfl) rfl ?_
   refine .w (fun _ => ev_mv rfl rfl) rfl ?_
   refine .w (fun hb => ev_cmp rfl (lkg rfl hb) rfl rfl) rfl ?_
   refine .v (ev_and rfl rfl rfl rfl) rfl ?_
   refine .v (ev_mv rfl rfl) rfl ?_
   refine .w (fun _ => ev_mv rfl rfl) rfl ?_
   refine .w (fun _ => ev_mv rfl rfl) rfl ?_
   refine .w (fun hb => ev_cmp rfl (lkg rfl hb) (lkg rfl hb) rfl) rfl ?_
   refine .v (ev_and rfl rfl rfl rfl) rfl ?_
   refine .go idQ ?_
   refine .condI rfl (bA (bA bD bNE) bNE) (fun h60 => ?_) (fun h60 => ?_)
   ·
    refine .region ?_
    refine .v (ev_mv rfl rfl) rfl ?_
    refine .v (ev_mv rfl rfl) rfl ?_
    refine .v (ev_nil rfl rfl) rfl ?_
    refine .v (ev_fa rfl fo86_1 rfl (r := 1) rfl) rfl ?_
    refine .v (ev_ld1 rfl ty3 rfl (At.own1 0 rfl rfl)) rfl ?_
    refine .cons (st_call0 rfl rfl rfl rfl hbd38 rfl (.c .h .n) (no_ g A n c i252 bad253 pos254 u39 i252 22 _ _) (fun v_q63 C_q63 q63 => ?_))
    obtain ⟨bad261, pos262, p64, rfl, rfl⟩ := q63
    show SP _ _ _ _ _ _ ⟨_, _ :: _, _, _⟩
    refine .go idQ (.seq (.region ?_))
    refine .v (ev_mv rfl rfl) rfl ?_
    refine .v (ev_mv rfl rfl) rfl ?_
    refine .v (ev_nil rfl rfl) rfl ?_
    refine .v (ev_fa rfl fo86_1 rfl (r := 1) rfl) rfl ?_
    refine .v (ev_ld1 rfl ty3 rfl (At.own1 0 rfl rfl)) rfl ?_
    refine .v (ev_add rfl rfl rfl (r := (i252 + 1)) rfl (by omega) (by omega)) rfl ?_
    refine .v (ev_nil rfl rfl) rfl ?_
    refine .v (ev_fa rfl fo86_1 rfl (r := 1) rfl) rfl ?_
    refine .cons (st_store1 rfl rfl rfl ty3 rfl rfl rfl .h (.t .h) ?_)
    refine .go idQ (.seq (.region ?_))
    refine .v (ev_mv rfl rfl) rfl ?_
    refine .v (ev_mv rfl rfl) rfl ?_
    refine .v (ev_cmp rfl rfl rfl rfl) rfl ?_
    refine .go idQ ?_
    refine .condI rfl bE (fun h65 => ?_) (fun h65 => ?_)
    ·
     refine .seq (.region ?_)
     refine .v (ev_mv rfl rfl) rfl ?_
     refine .v (ev_lda rfl rfl (At.whole 1 rfl) ty90) rfl ?_
     refine .v (ev_mv rfl rfl) rfl ?_
     refine .know (row_len 6 rfl) (fun hv68 => ?_)
     obtain ⟨A66, c67, rfl, hv68_1, hv68_2⟩ := hv68
     unfold maxLen at hv68_2
     refine .cons (st_call0 rfl rfl rfl rfl hbd56 rfl (.c .h (.c (.t (.t (.t .h))) (.c (.t (.t (.t .h))) (.c (.t (.t (.t .h))) (.c (.t .h) .n))))) (put1 g A n c (i252 + 1) bad261 pos262 u39 L40 6 A66 c67 X228 A48 c49 (Y ++ [r35]) fr _ _ (by first | omega | simp only [LL] <;> omega | simp <;> omega) p45 (tb_obj p33 (by omega) (by simp only [List.length_append, List.length_cons, List.length_nil]; omega)) (by first | omega | simp only [LL] <;> omega | simp <;> omega) (by first | omega | simp only [LL] <;> omega | simp <;> omega)) (fun v_q74 C_q74 q74 => ?_))
     obtain ⟨r69, bad270, pos271, u72, L73, p75, p76, p77, p78, rfl, rfl⟩ := q74
     show SP _ _ _ _ _ _ ⟨_, _ :: _ :: _ :: _, _, _⟩
     refine .v (ev_as rfl rfl) rfl ?_
     refine .go idQ ?_
     exact .ret idQ (ret1 Try.results59 rfl (.c .h (.c .h (.c .h .n))) ⟨r69, (i252 + 1), bad270, pos271, u72, L73, many_put (by omega) (by omega) q_6 (.inl ⟨rfl, p30⟩) p42 p56 p57 ((by rw [if_pos (by unfold endB; simp only [if_true, Bool.false_eq_true, if_false]; omega)]; exact noF_eq p64)) (by assumption) p75, (by omega), p76, p77, rfl, rfl⟩)
    exact .skip (SQ.roundb (X := Nat × Int × Int × Int × Value × (List TV) × Value × (List ByteArray) × Value × (List Int)) (x := (k, i1, bad1, pos1, U, LL, NV, X, KV, Y)) ⟨k - 1, (i252 + 1), bad261, pos262, u39, L40, NV227, X228, .slice A48 ((Y ++ [r35]).length) c49, (Y ++ [r35])⟩ (by exact ⟨by omega, by omega, p44, p45, p33, by intro h_; simp only [List.length_append, List.length_cons, List.length_nil]; omega, many_go (by omega) (by omega) q_6 (.inl ⟨rfl, p30⟩) p42 p56 p57 ((by rw [if_pos (by unfold endB; simp only [if_true, Bool.false_eq_true, if_false]; omega)]; exact noF_eq p64)) (by assumption)⟩) (by show k - 1 < k; omega) (Sub.get (.c rfl (.c rfl (.c rfl (.c rfl (.c rfl (.c rfl .n))))))) (fun w hw => hw.keep (.c .h (.c (.t (.t (.t .h))) (.c (.t (.t (.t .h))) (.c .h (.c (.t (.t .h)) (.c .h .n))))))))
   refine .skipgo idQ (.seq (.region ?_))
   refine .v (ev_mv rfl rfl) rfl ?_
   refine .v (ev_mv rfl rfl) rfl ?_
   refine .v (ev_nil rfl rfl) rfl ?_
   refine .v (ev_fa rfl fo86_1 rfl (r := 1) rfl) rfl ?_
   refine .v (ev_ld1 rfl ty3 rfl (At.own1 0 rfl rfl)) rfl ?_
   refine .v (ev_add rfl rfl rfl (r := (i252 + 1)) rfl (by omega) (by omega)) rfl ?_
   refine .v (ev_nil rfl rfl) rfl ?_
   refine .v (ev_fa rfl fo86_1 rfl (r := 1) rfl) rfl ?_
   refine .cons (st_store1 rfl rfl rfl ty3 rfl rfl rfl .h (.t .h) ?_)
   refine .go idQ (.seq (.region ?_))
   refine .v (ev_mv rfl rfl) rfl ?_
   refine .v (ev_mv rfl rfl) rfl ?_
   refine .v (ev_cmp rfl rfl rfl rfl) rfl ?_
   refine .go idQ ?_
   refine .condI rfl bE (fun h79 => ?_) (fun h79 => ?_)
   ·
    refine .seq (.region ?_)
    refine .v (ev_mv rfl rfl) rfl ?_
    refine .v (ev_lda rfl rfl (At.whole 1 rfl) ty90) rfl ?_
    refine .v (ev_mv rfl rfl) rfl ?_
    refine .know (row_len 6 rfl) (fun hv82 => ?_)
    obtain ⟨A80, c81, rfl, hv82_1, hv82_2⟩ := hv82
    unfold maxLen at hv82_2
    refine .cons (st_call0 rfl rfl rfl rfl hbd56 rfl (.c .h (.c (.t (.t (.t .h))) (.c (.t (.t (.t .h))) (.c (.t (.t (.t .h))) (.c (.t .h) .n))))) (put1 g A n c (i252 + 1) bad253 pos254 u39 L40 6 A80 c81 X228 A48 c49 (Y ++ [r35]) fr _ _ (by first | omega | simp only [LL] <;> omega | simp <;> omega) p45 (tb_obj p33 (by omega) (by simp only [List.length_append, List.length_cons, List.length_nil]; omega)) (by first | omega | simp only [LL] <;> omega | simp <;> omega) (by first | omega | simp only [LL] <;> omega | simp <;> omega)) (fun v_q88 C_q88 q88 => ?_))
    obtain ⟨r83, bad284, pos285, u86, L87, p89, p90, p91, p92, rfl, rfl⟩ := q88
    show SP _ _ _ _ _ _ ⟨_, _ :: _ :: _ :: _, _, _⟩
    refine .v (ev_as rfl rfl) rfl ?_
    refine .go idQ ?_
    exact .ret idQ (ret1 Try.results59 rfl (.c .h (.c .h (.c .h .n))) ⟨r83, (i252 + 1), bad284, pos285, u86, L87, many_put (by omega) (by omega) q_6 (.inl ⟨rfl, p30⟩) p42 p56 p57 ((by rw [if_neg (by unfold endB; simp only [if_true, Bool.false_eq_true, if_false]; omega)])) (by assumption) p89, (by omega), p90, p91, rfl, rfl⟩)
   exact .skip (SQ.roundb (X := Nat × Int × Int × Int × Value × (List TV) × Value × (List ByteArray) × Value × (List Int)) (x := (k, i1, bad1, pos1, U, LL, NV, X, KV, Y)) ⟨k - 1, (i252 + 1), bad253, pos254, u39, L40, NV227, X228, .slice A48 ((Y ++ [r35]).length) c49, (Y ++ [r35])⟩ (by exact ⟨by omega, by omega, p44, p45, p33, by intro h_; simp only [List.length_append, List.length_cons, List.length_nil]; omega, many_go (by omega) (by omega) q_6 (.inl ⟨rfl, p30⟩) p42 p56 p57 ((by rw [if_neg (by unfold endB; simp only [if_true, Bool.false_eq_true, if_false]; omega)])) (by assumption)⟩) (by show k - 1 < k; omega) (Sub.get (.c rfl (.c rfl (.c rfl (.c rfl (.c rfl (.c rfl .n))))))) (fun w hw => hw.keep (.c .h (.c (.t (.t (.t .h))) (.c (.t (.t (.t .h))) (.c .h (.c (.t (.t .h)) (.c .h .n))))))))
  refine .exit idQ ?_
  refine .seq (.region ?_)
  refine .v (ev_as rfl rfl) rfl ?_
  refine .go idQ ?_
  exact .ret idQ (ret1 Try.results59 rfl (.c .h (.c .h (.c .h .n))) ⟨0, i1, bad1, pos1, U, LL, many_stop (by omega) q_6, (by omega), q_2, q_3, rfl, rfl⟩)
 refine .skipgo idQ (.seq (.seq ?_))
 have hob : ob = false := by simpa using h2
 subst hob
 refine SC.nilrow eS 9 ?_
 refine SC.nilrow eZ 3 ?_
 refine .region ?_
 refine .v (ev_mv rfl rfl) rfl ?_
 refine .cons (st_call0 rfl rfl rfl rfl hbd54 rfl (.c (.t (.t (.t .h))) .n) (next_ g A n c b i bad pos v _ _ hA (by first | omega | simp only [LL] <;> omega | simp <;> omega) (by omega) (by omega) (by omega) (by omega)) (fun v_q97 C_q97 q97 => ?_))
 obtain ⟨r93, i294, bad295, pos296, p98, p99, p100, p101, rfl, rfl⟩ := q97
 show SP _ _ _ _ _ _ ⟨_, _ :: _, _, _⟩
 refine .v (ev_mv rfl rfl) rfl ?_
 refine .v (ev_cmp rfl rfl rfl rfl) rfl ?_
 refine .go idQ ?_
 refine .condI rfl bE (fun h102 => ?_) (fun h102 => ?_)
 ·
  refine .seq (.region ?_)
  refine .v (ev_mv rfl rfl) rfl ?_
  refine .v (ev_mv rfl rfl) rfl ?_
  refine .v (ev_nil rfl rfl) rfl ?_
  refine .v (ev_fa rfl fo86_1 rfl (r := 1) rfl) rfl ?_
  refine .v (ev_ld1 rfl ty3 rfl (At.own1 0 rfl rfl)) rfl ?_
  refine .v (ev_add rfl rfl rfl (r := (i294 + 1)) rfl (by omega) (by omega)) rfl ?_
  refine .v (ev_nil rfl rfl) rfl ?_
  refine .v (ev_fa rfl fo86_1 rfl (r := 1) rfl) rfl ?_
  refine .cons (st_store1 rfl rfl rfl ty3 rfl rfl rfl .h (.t .h) ?_)
  refine .go idQ (.seq (.region ?_))
  refine .v (ev_mv rfl rfl) rfl ?_
  refine .v (ev_lda rfl rfl (At.whole 3 rfl) ty90) rfl ?_
  refine .v (ev_mv rfl rfl) rfl ?_
  refine .cons (st_call0 rfl rfl rfl rfl hbd56 rfl (.c .h (.c (.t (.t (.t .h))) (.c (.t (.t (.t .h))) .n))) (put0 g A n c (i294 + 1) bad295 pos296 v l 5 false 0 ⟨#[]⟩ fr _ _ (by first | omega | simp only [LL] <;> omega | simp <;> omega) hB (tb_leaf (by decide) (by decide) (by decide))) (fun v_q108 C_q108 q108 => ?_))
  obtain ⟨r103, bad2104, pos2105, u106, L107, p109, p110, p111, p112, rfl, rfl⟩ := q108
  show SP _ _ _ _ _ _ ⟨_, _ :: _ :: _ :: _, _, _⟩
  refine .v (ev_as rfl rfl) rfl ?_
  refine .go idQ ?_
  exact .ret idQ (ret1 Try.results59 rfl (.c .h (.c .h (.c .h .n))) ⟨r103, (i294 + 1), bad2104, pos2105, u106, L107, many_0 p98 p99 (by assumption) p109, (by omega), p110, p111, rfl, rfl⟩)
 refine .skipgo idQ (.seq (.block ?_))
 refine .loop (X := Nat × Int × Int × Int × Value × (List TV) × Value × (List ByteArray) × Value × (List Int)) (fun ⟨k, i1, bad1, pos1, U, LL, NV, X, KV, Y⟩ => (bad1 = 0 → (n : Int) + 1 - i1 ≤ k ∧ i1 ≤ n) ∧ (i ≤ i1 ∧ i1 ≤ n + d + 4) ∧ LL.length ≤ 8192 ∧ (∀ t ∈ LL, TB t.v) ∧ (∀ y ∈ X, y.size ≤ 200000) ∧ (bad1 = 0 → (X.length : Int) ≤ i1 - i ∧ (Y.length : Int) ≤ i1 - i) ∧ manyL b (valueF b d) false fr k (LS.mk i1 bad1 pos1) (vs LL) X Y = manyF b (valueF b d) false fr (LS.mk i bad pos) (vs l)) (fun ⟨k, i1, bad1, pos1, U, LL, NV, X, KV, Y⟩ => [(0, .pointer (some ⟨g, 0, none⟩)), (1, .bool false), (2, .int .i64 deep), (3, .int .i64 fr), (9, .pointer (some ⟨b1, 0, none⟩)), (10, .int .i64 93)]) (fun ⟨k, i1, bad1, pos1, U, LL, NV, X, KV, Y⟩ => [cel g [.slice A n c, .int .i64 i1, .int .i64 bad1, .int .i64 pos1, U] 86, rw_ eTV 90 (U) LL, nest 9 3 LL, cel b1 [.int .i64 5, .bool false, .int .i64 0, .string ⟨#[]⟩, NV, KV] 90, rw_ eS 9 (NV) X, rw_ eZ 3 (KV) Y]) (fun _ => S) (fun _ => wf) (fun ⟨k, i1, bad1, pos1, U, LL, NV, X, KV, Y⟩ => k) (fun a_ w_ hs_ hw_ => ⟨⟨b.length + 2, i294, bad295, pos296, v, l, (.slice none 0 0), ([] : List ByteArray), (.slice none 0 0), ([] : List Int)⟩, (by exact ⟨by omega, by omega, hl, hB, fun y_ hy_ => (by cases hy_), fun _ => ⟨by simp; omega, by simp; omega⟩, (many_1 p98 p99 (by assumption) rfl)⟩), hs_.mono (Sub.get (.c rfl (.c rfl (.c rfl (.c rfl (.c rfl (.c rfl .n))))))), hw_.keep (.c .h (.c (.t (.t (.t .h))) (.c (.t (.t (.t .h))) (.c (.t (.t .h)) (.c (.t .h) (.c .h .n))))))⟩) (fun ⟨k, i1, bad1, pos1, U, LL, NV, X, KV, Y⟩ ⟨q_0, q_1, q_2, q_3, q_4, q_5, q_6⟩ => ?_)
 show SC _ _ _ _ _ ⟨[(0, .pointer (some ⟨g, 0, none⟩)), (1, .bool false), (2, .int .i64 deep), (3, .int .i64 fr), (9, .pointer (some ⟨b1, 0, none⟩)), (10, .int .i64 93)], [cel g [.slice A n c, .int .i64 i1, .int .i64 bad1, .int .i64 pos1, U] 86, rw_ eTV 90 (U) LL, nest 9 3 LL, cel b1 [.int .i64 5, .bool false, .int .i64 0, .string ⟨#[]⟩, NV, KV] 90, rw_ eS 9 (NV) X, rw_ eZ 3 (KV) Y], S, wf⟩
 refine .seq (.seq (.region ?_))
 refine .v (ev_mv rfl rfl) rfl ?_
 refine .v (ev_nil rfl rfl) rfl ?_
 refine .v (ev_fa rfl fo86_2 rfl (r := 2) rfl) rfl ?_
 refine .v (ev_ld1 rfl ty3 rfl (At.own1 0 rfl rfl)) rfl ?_
 refine .v (ev_cmp rfl rfl rfl rfl) rfl ?_
 refine .go idQ ?_
 refine .condI rfl bE (fun h113 => ?_) (fun h113 => ?_)
 ·
  refine .skipgo idQ (.block (.seq (.seq (.region ?_))))
  refine .v (ev_mv rfl rfl) rfl ?_
  refine .go idQ ?_
  refine .cond_f rfl ?_
  refine .skipgo idQ (.seq ?_)
  refine SC.draw mo [cel g [.slice A n c, .int .i64 i1, .int .i64 bad1, .int .i64 pos1, U] 86, rw_ eTV 90 (U) LL, nest 9 3 LL, cel b1 [.int .i64 5, .bool false, .int .i64 0, .string ⟨#[]⟩, NV, KV] 90, rw_ eZ 3 (KV) Y] [(9, fun w => At w b1 0 [.int .i64 5, .bool false, .int .i64 0, .string ⟨#[]⟩, NV, KV])] (.c .h (.c .h (.c .h (.c .h (.c (.t .h) .n))))) (fun w_ _ hw_ => (sc1 (At.whole 3 rfl w_ hw_) sc0)) (fun wf_114 hl_114 hx_114 hR_114 => ?_)
  refine SR.k 0 rfl (by kernel_rfl) rfl (ev_fa rfl fo90_5 rfl (r := 5) rfl) ?_
  refine SR.k 1 rfl (by kernel_rfl) rfl (ev_ld1 rfl ty56 rfl (At.elem1 (v := KV) (At.ofcs 0 rfl (by kernel_rfl)) 5 rfl)) ?_
  refine SR.k 2 rfl (by kernel_rfl) rfl (ev_mv rfl rfl) ?_
  refine SR.k 3 rfl (by kernel_rfl) rfl (ev_mv rfl rfl) ?_
  refine SR.k 4 rfl (by kernel_rfl) rfl (ev_add rfl rfl rfl (r := (deep + 1)) rfl (by omega) (by omega)) ?_
  refine SR.one (j := 5) (by kernel_rfl) rfl (st_call0 rfl rfl rfl rfl hbd36 rfl (.c .h (.c .h (.c .h .n))) (hval g A n c b i1 bad1 pos1 U LL (deep + 1) _ _ (Fr.ext hA hx_114) (by first | omega | simp only [LL] <;> omega | simp <;> omega) (by omega) hr (by omega) (by omega) (by first | omega | simp only [LL] <;> omega | simp <;> omega) q_3 (by omega) (by omega)) (fun v_q121 C_q121 q121 => ⟨ttc (fun w_ hw_ => (tc1 (by obtain ⟨_, _, _, _, _, _, _, _, _, _, rfl, rfl⟩ := q121; first | exact At.whole 0 rfl w_ hw_ | exact At.whole 1 rfl w_ hw_ | exact At.whole 2 rfl w_ hw_ | exact At.whole 3 rfl w_ hw_ | exact At.whole 4 rfl w_ hw_ | exact At.whole 5 rfl w_ hw_ | exact At.whole 6 rfl w_ hw_) tc0)), ?_⟩))
  obtain ⟨r115, i2116, bad2117, pos2118, u119, L120, p122, p123, p124, p125, rfl, rfl⟩ := q121
  show SR _ _ _ _ _ _ _ _ _ ⟨_, _ :: _ :: _ :: _, _, _⟩
  refine SR.one (j := 6) (by kernel_rfl) rfl (st_lit eZ (e := 3) (l := [r115]) rfl rfl rfl rfl (by kernel_rfl) rfl rfl (fun w => by kernel_rfl) (fun b126 => ⟨ttc (fun w_ hw_ => (tc1 (by first | exact At.whole 0 rfl w_ hw_ | exact At.whole 1 rfl w_ hw_ | exact At.whole 2 rfl w_ hw_ | exact At.whole 3 rfl w_ hw_ | exact At.whole 4 rfl w_ hw_ | exact At.whole 5 rfl w_ hw_ | exact At.whole 6 rfl w_ hw_) tc0)), ?_⟩))
  refine SR.one (j := 7) (by kernel_rfl) rfl (st_app (E := eZ) (m := [r115]) rfl rfl rfl rfl Try.underlying56 ai3 rfl rfl rfl (.t (.t (.t (.t (.t .h))))) (by first | rfl | omega | simp) (row_src 0 rfl) (by first | omega | simp only [LL] <;> omega | simp <;> omega) rfl (fun v127 => ⟨ttc (fun w_ hw_ => (tc1 (by first | exact At.whole 0 rfl w_ hw_ | exact At.whole 1 rfl w_ hw_ | exact At.whole 2 rfl w_ hw_ | exact At.whole 3 rfl w_ hw_ | exact At.whole 4 rfl w_ hw_ | exact At.whole 5 rfl w_ hw_ | exact At.whole 6 rfl w_ hw_) tc0)), ?_⟩))
  refine SR.k 8 rfl (by kernel_rfl) rfl (ev_fa rfl fo90_5 rfl (r := 5) rfl) ?_
  refine .know (row_len 0 rfl) (fun hv130 => ?_)
  obtain ⟨A128, c129, rfl, hv130_1, hv130_2⟩ := hv130
  unfold maxLen at hv130_2
  refine SR.one (j := 9) (by kernel_rfl) rfl (st_store1 rfl rfl rfl ty56 rfl rfl rfl (.t (.t (.t (.t (.t .h))))) (.t (.t (.t (.t (.t .h))))) ⟨ttc (fun w_ hw_ => (tc2 (by kernel_rfl) tc0)), ?_⟩)
  refine SR.fin (by kernel_rfl) hl_114 hx_114 hR_114 (.c (.c (.c (.c (.c (.c .n)))))) ?_
  refine SQ.go idQ ?_
  refine .seq (.region ?_)
  refine .v (ev_mv rfl rfl) rfl ?_
  refine .cons (st_call0 rfl rfl rfl rfl hbd54 rfl (.c (.t (.t (.t .h))) .n) (next_ g A n c b i2116 bad2117 pos2118 u119 _ _ hA (by first | omega | simp only [LL] <;> omega | simp <;> omega) (by omega) (by omega) (by omega) (by omega)) (fun v_q135 C_q135 q135 => ?_))
  obtain ⟨r131, i2132, bad2133, pos2134, p136, p137, p138, p139, rfl, rfl⟩ := q135
  show SP _ _ _ _ _ _ ⟨_, _ :: _, _, _⟩
  refine .v (ev_as rfl rfl) rfl ?_
  refine .go idQ (.seq (.seq (.region ?_)))
  refine .v (ev_mv rfl rfl) rfl ?_
  refine .v (ev_cmp rfl rfl rfl rfl) rfl ?_
  refine .v (ev_mv rfl rfl) rfl ?_
  refine .w (fun _ => ev_mv rfl rfl) rfl ?_
  refine .w (fun hb => ev_cmp rfl (lkg rfl hb) rfl rfl) rfl ?_
  refine .v (ev_and rfl rfl rfl rfl) rfl ?_
  refine .v (ev_mv rfl rfl) rfl ?_
  refine .w (fun _ => ev_mv rfl rfl) rfl ?_
  refine .w (fun _ => ev_mv rfl rfl) rfl ?_
  refine .w (fun hb => ev_cmp rfl (lkg rfl hb) (lkg rfl hb) rfl) rfl ?_
  refine .v (ev_and rfl rfl rfl rfl) rfl ?_
  refine .go idQ ?_
  refine .condI rfl (bA (bA bD bNE) bNE) (fun h140 => ?_) (fun h140 => ?_)
  ·
   refine .region ?_
   refine .v (ev_mv rfl rfl) rfl ?_
   refine .v (ev_mv rfl rfl) rfl ?_
   refine .v (ev_nil rfl rfl) rfl ?_
   refine .v (ev_fa rfl fo86_1 rfl (r := 1) rfl) rfl ?_
   refine .v (ev_ld1 rfl ty3 rfl (At.own1 0 rfl rfl)) rfl ?_
   refine .cons (st_call0 rfl rfl rfl rfl hbd38 rfl (.c .h .n) (no_ g A n c i2132 bad2133 pos2134 u119 i2132 22 _ _) (fun v_q143 C_q143 q143 => ?_))
   obtain ⟨bad2141, pos2142, p144, rfl, rfl⟩ := q143
   show SP _ _ _ _ _ _ ⟨_, _ :: _, _, _⟩
   refine .go idQ (.seq (.region ?_))
   refine .v (ev_mv rfl rfl) rfl ?_
   refine .v (ev_mv rfl rfl) rfl ?_
   refine .v (ev_nil rfl rfl) rfl ?_
   refine .v (ev_fa rfl fo86_1 rfl (r := 1) rfl) rfl ?_
   refine .v (ev_ld1 rfl ty3 rfl (At.own1 0 rfl rfl)) rfl ?_
   refine .v (ev_add rfl rfl rfl (r := (i2132 + 1)) rfl (by omega) (by omega)) rfl ?_
   refine .v (ev_nil rfl rfl) rfl ?_
   refine .v (ev_fa rfl fo86_1 rfl (r := 1) rfl) rfl ?_
   refine .cons (st_store1 rfl rfl rfl ty3 rfl rfl rfl .h (.t .h) ?_)
   refine .go idQ (.seq (.region ?_))
   refine .v (ev_mv rfl rfl) rfl ?_
   refine .v (ev_mv rfl rfl) rfl ?_
   refine .v (ev_cmp rfl rfl rfl rfl) rfl ?_
   refine .go idQ ?_
   refine .condI rfl bE (fun h145 => ?_) (fun h145 => ?_)
   ·
    refine .seq (.region ?_)
    refine .v (ev_mv rfl rfl) rfl ?_
    refine .v (ev_lda rfl rfl (At.whole 1 rfl) ty90) rfl ?_
    refine .v (ev_mv rfl rfl) rfl ?_
    refine .know (row_len 6 rfl) (fun hv148 => ?_)
    obtain ⟨A146, c147, rfl, hv148_1, hv148_2⟩ := hv148
    unfold maxLen at hv148_2
    refine .cons (st_call0 rfl rfl rfl rfl hbd56 rfl (.c .h (.c (.t (.t (.t .h))) (.c (.t (.t (.t .h))) (.c (.t (.t (.t .h))) (.c (.t .h) .n))))) (put1 g A n c (i2132 + 1) bad2141 pos2142 u119 L120 5 A146 c147 X A128 c129 (Y ++ [r115]) fr _ _ (by first | omega | simp only [LL] <;> omega | simp <;> omega) p125 (tb_obj q_4 (by omega) (by simp only [List.length_append, List.length_cons, List.length_nil]; omega)) (by first | omega | simp only [LL] <;> omega | simp <;> omega) (by first | omega | simp only [LL] <;> omega | simp <;> omega)) (fun v_q154 C_q154 q154 => ?_))
    obtain ⟨r149, bad2150, pos2151, u152, L153, p155, p156, p157, p158, rfl, rfl⟩ := q154
    show SP _ _ _ _ _ _ ⟨_, _ :: _ :: _ :: _, _, _⟩
    refine .v (ev_as rfl rfl) rfl ?_
    refine .go idQ ?_
    exact .ret idQ (ret1 Try.results59 rfl (.c .h (.c .h (.c .h .n))) ⟨r149, (i2132 + 1), bad2150, pos2151, u152, L153, many_put (by omega) (by omega) q_6 (.inr ⟨rfl, rfl, rfl, rfl, rfl⟩) p122 p136 p137 ((by rw [if_pos (by unfold endB; simp only [if_true, Bool.false_eq_true, if_false]; omega)]; exact noF_eq p144)) (by assumption) p155, (by omega), p156, p157, rfl, rfl⟩)
   exact .skip (SQ.roundb (X := Nat × Int × Int × Int × Value × (List TV) × Value × (List ByteArray) × Value × (List Int)) (x := (k, i1, bad1, pos1, U, LL, NV, X, KV, Y)) ⟨k - 1, (i2132 + 1), bad2141, pos2142, u119, L120, NV, X, .slice A128 ((Y ++ [r115]).length) c129, (Y ++ [r115])⟩ (by exact ⟨by omega, by omega, p124, p125, q_4, by intro h_; simp only [List.length_append, List.length_cons, List.length_nil]; omega, many_go (by omega) (by omega) q_6 (.inr ⟨rfl, rfl, rfl, rfl, rfl⟩) p122 p136 p137 ((by rw [if_pos (by unfold endB; simp only [if_true, Bool.false_eq_true, if_false]; omega)]; exact noF_eq p144)) (by assumption)⟩) (by show k - 1 < k; omega) (Sub.get (.c rfl (.c rfl (.c rfl (.c rfl (.c rfl (.c rfl .n))))))) (fun w hw => hw.keep (.c .h (.c (.t (.t (.t .h))) (.c (.t (.t (.t .h))) (.c .h (.c (.t (.t .h)) (.c .h .n))))))))
  refine .skipgo idQ (.seq (.region ?_))
  refine .v (ev_mv rfl rfl) rfl ?_
  refine .v (ev_mv rfl rfl) rfl ?_
  refine .v (ev_nil rfl rfl) rfl ?_
  refine .v (ev_fa rfl fo86_1 rfl (r := 1) rfl) rfl ?_
  refine .v (ev_ld1 rfl ty3 rfl (At.own1 0 rfl rfl)) rfl ?_
  refine .v (ev_add rfl rfl rfl (r := (i2132 + 1)) rfl (by omega) (by omega)) rfl ?_
  refine .v (ev_nil rfl rfl) rfl ?_
  refine .v (ev_fa rfl fo86_1 rfl (r := 1) rfl) rfl ?_
  refine .cons (st_store1 rfl rfl rfl ty3 rfl rfl rfl .h (.t .h) ?_)
  refine .go idQ (.seq (.region ?_))
  refine .v (ev_mv rfl rfl) rfl ?_
  refine .v (ev_mv rfl rfl) rfl ?_
  refine .v (ev_cmp rfl rfl rfl rfl) rfl ?_
  refine .go idQ ?_
  refine .condI rfl bE (fun h159 => ?_) (fun h159 => ?_)
  ·
   refine .seq (.region ?_)
   refine .v (ev_mv rfl rfl) rfl ?_
   refine .v (ev_lda rfl rfl (At.whole 1 rfl) ty90) rfl ?_
   refine .v (ev_mv rfl rfl) rfl ?_
   refine .know (row_len 6 rfl) (fun hv162 => ?_)
   obtain ⟨A160, c161, rfl, hv162_1, hv162_2⟩ := hv162
   unfold maxLen at hv162_2
   refine .cons (st_call0 rfl rfl rfl rfl hbd56 rfl (.c .h (.c (.t (.t (.t .h))) (.c (.t (.t (.t .h))) (.c (.t (.t (.t .h))) (.c (.t .h) .n))))) (put1 g A n c (i2132 + 1) bad2133 pos2134 u119 L120 5 A160 c161 X A128 c129 (Y ++ [r115]) fr _ _ (by first | omega | simp only [LL] <;> omega | simp <;> omega) p125 (tb_obj q_4 (by omega) (by simp only [List.length_append, List.length_cons, List.length_nil]; omega)) (by first | omega | simp only [LL] <;> omega | simp <;> omega) (by first | omega | simp only [LL] <;> omega | simp <;> omega)) (fun v_q168 C_q168 q168 => ?_))
   obtain ⟨r163, bad2164, pos2165, u166, L167, p169, p170, p171, p172, rfl, rfl⟩ := q168
   show SP _ _ _ _ _ _ ⟨_, _ :: _ :: _ :: _, _, _⟩
   refine .v (ev_as rfl rfl) rfl ?_
   refine .go idQ ?_
   exact .ret idQ (ret1 Try.results59 rfl (.c .h (.c .h (.c .h .n))) ⟨r163, (i2132 + 1), bad2164, pos2165, u166, L167, many_put (by omega) (by omega) q_6 (.inr ⟨rfl, rfl, rfl, rfl, rfl⟩) p122 p136 p137 ((by rw [if_neg (by unfold endB; simp only [if_true, Bool.false_eq_true, if_false]; omega)])) (by assumption) p169, (by omega), p170, p171, rfl, rfl⟩)
  exact .skip (SQ.roundb (X := Nat × Int × Int × Int × Value × (List TV) × Value × (List ByteArray) × Value × (List Int)) (x := (k, i1, bad1, pos1, U, LL, NV, X, KV, Y)) ⟨k - 1, (i2132 + 1), bad2133, pos2134, u119, L120, NV, X, .slice A128 ((Y ++ [r115]).length) c129, (Y ++ [r115])⟩ (by exact ⟨by omega, by omega, p124, p125, q_4, by intro h_; simp only [List.length_append, List.length_cons, List.length_nil]; omega, many_go (by omega) (by omega) q_6 (.inr ⟨rfl, rfl, rfl, rfl, rfl⟩) p122 p136 p137 ((by rw [if_neg (by unfold endB; simp only [if_true, Bool.false_eq_true, if_false]; omega)])) (by assumption)⟩) (by show k - 1 < k; omega) (Sub.get (.c rfl (.c rfl (.c rfl (.c rfl (.c rfl (.c rfl .n))))))) (fun w hw => hw.keep (.c .h (.c (.t (.t (.t .h))) (.c (.t (.t (.t .h))) (.c .h (.c (.t (.t .h)) (.c .h .n))))))))
 refine .exit idQ ?_
 refine .seq (.region ?_)
 refine .v (ev_as rfl rfl) rfl ?_
 refine .go idQ ?_
 exact .ret idQ (ret1 Try.results59 rfl (.c .h (.c .h (.c .h .n))) ⟨0, i1, bad1, pos1, U, LL, many_stop (by omega) q_6, (by omega), q_2, q_3, rfl, rfl⟩)
end Go.Proofs.Ythmkelkefmfmgaa.Sx
set_option maxRecDepth 20000
set_option maxHeartbeats 4000000
namespace Go.Proofs.Ythmkelkefmfmgaa.Sx.FPF
open Go Go.SX Go.Proofs
theorem hbd54 : hasBody Try.prog 54 = true := by kernel_rfl
theorem fo86_1 : fo Try.prog 86 1 = some 1 := by kernel_rfl
theorem ty3 : ty Try.prog 3 = some (false, 1) := by kernel_rfl
theorem hbd55 : hasBody Try.prog 55 = true := by kernel_rfl
theorem hbd56 : hasBody Try.prog 56 = true := by kernel_rfl
theorem hbd57 : hasBody Try.prog 57 = true := by kernel_rfl
theorem hbd58 : hasBody Try.prog 58 = true := by kernel_rfl
theorem hbd38 : hasBody Try.prog 38 = true := by kernel_rfl
theorem hbd59 : hasBody Try.prog 59 = true := by kernel_rfl
end Go.Proofs.Ythmkelkefmfmgaa.Sx.FPF
namespace Go.Proofs.Ythmkelkefmfmgaa.Sx
open Go Go.SX Go.Proofs FPF
theorem valueP_ : ∀ (d : Nat) (g : Nat) (A : Option Addr) (n : Nat) (c : Nat) (b : List Int) (i : Int) (bad : Int) (pos : Int) (v : Value) (l : List TV) (deep : Int) (S : Nat → Prop) (wf : World) (hA : Fr eY S wf A b) (hn : b.length = n) (hN : n ≤ 65536) (hr : ∀ x ∈ b, isB x) (hcap : n ≤ c) (hi : 0 ≤ i ∧ (bad = 0 → i ≤ n) ∧ i ≤ n + 40) (hl : l.length ≤ 8192) (hB : ∀ t ∈ l, TB t.v) (hdp : deep = 18 - d) (hd1 : 1 ≤ d ∧ d ≤ 17),
  TR0 Try.prog 36 [.pointer (some ⟨g, 0, none⟩), .int .i64 deep] [cel g [.slice A n c, .int .i64 i, .int .i64 bad, .int .i64 pos, v] 86, rw_ eTV 90 (v) l, nest 9 3 l] S wf (fun v_ C_ => ∃ (r : Int) (i2 : Int) (bad2 : Int) (pos2 : Int) (u : Value) (L : List TV), ((VR.mk r (LS.mk i2 bad2 pos2) (vs L)) = valueF b d (LS.mk i bad pos) (vs l)) ∧ ((i ≤ i2 ∧ (i2 ≤ i ∨ i2 ≤ n + d + 3) ∧ (bad2 = 0 → i2 ≤ n) ∧ (bad2 = 0 → i < i2 ∧ bad = 0))) ∧ (L.length ≤ 8192) ∧ (∀ t ∈ L, TB t.v) ∧ v_ = .int .i64 r ∧ C_ = [cel g [.slice A n c, .int .i64 i2, .int .i64 bad2, .int .i64 pos2, u] 86, rw_ eTV 90 (u) L, nest 9 3 L]) := by
 refine nat_ind ?_ (fun d ih => ?_)
 · intro g A n c b i bad pos v l deep S wf hA hn hN hr hcap hi hl hB hdp hd1; exfalso; omega
 intro g A n c b i bad pos v l deep S wf hA hn hN hr hcap hi hl hB hdp hd1
 have hla := hA.len
 refine TR.mk Try.func36 rfl Try.ntmps36 rfl rfl (fun w_ => ?_)
 refine .seq (.region ?_)
 refine .v (ev_as rfl rfl) rfl ?_
 refine .go idQ (.seq (.region ?_))
 refine .v (ev_mv rfl rfl) rfl ?_
 refine .cons (st_call0 rfl rfl rfl rfl hbd54 rfl (.c .h .n) (next_ g A n c b i bad pos v _ _ hA (by first | omega | simp only [LL] <;> omega | simp <;> omega) (by omega) (by omega) (by omega) (by omega)) (fun v_q5 C_q5 q5 => ?_))
 obtain ⟨r1, i22, bad23, pos24, p6, p7, p8, p9, rfl, rfl⟩ := q5
 show SP _ _ _ _ _ _ ⟨_, _ :: _, _, _⟩
 refine .v (ev_as rfl rfl) rfl ?_
 refine .go idQ (.seq (.region ?_))
 refine .v (ev_mv rfl rfl) rfl ?_
 refine .v (ev_nil rfl rfl) rfl ?_
 refine .v (ev_fa rfl fo86_1 rfl (r := 1) rfl) rfl ?_
 refine .v (ev_ld1 rfl ty3 rfl (At.own1 0 rfl rfl)) rfl ?_
 refine .v (ev_as rfl rfl) rfl ?_
 refine .go idQ (.seq (.block (.seq (.region ?_))))
 refine .v (ev_mv rfl rfl) rfl ?_
 refine .v (ev_cmp rfl rfl rfl rfl) rfl ?_
 refine .v (ev_as rfl rfl) rfl ?_
 refine .go idQ ?_
 refine .condI rfl bD (fun h10 => ?_) (fun h10 => ?_)
 ·
  refine .seq (.region ?_)
  refine .v (ev_as rfl rfl) rfl ?_
  refine .go idQ ?_
  exact .ret idQ (ret1 Try.results36 rfl (.c .h (.c .h (.c .h .n))) ⟨0, i22, bad23, pos24, v, l, val_1 p6 p7 (by omega), (by omega), hl, hB, rfl, rfl⟩)
 refine .seq (.region ?_)
 refine .v (ev_mv rfl rfl) rfl ?_
 refine .v (ev_cmp rfl rfl rfl rfl) rfl ?_
 refine .v (ev_as rfl rfl) rfl ?_
 refine .go idQ ?_
 refine .condI rfl bE (fun h11 => ?_) (fun h11 => ?_)
 ·
  refine .seq (.region ?_)
  refine .v (ev_mv rfl rfl) rfl ?_
  refine .cons (st_call0 rfl rfl rfl rfl hbd55 rfl (.c .h .n) (word2_ g A n c b i22 bad23 pos24 v ⟨#[110, 117, 108, 108]⟩ _ _ hA (by first | omega | simp only [LL] <;> omega | simp <;> omega) (by omega) (by omega) (by omega) (by omega) (by decide)) (fun v_q15 C_q15 q15 => ?_))
  obtain ⟨i212, bad213, pos214, p16, p17, rfl, rfl⟩ := q15
  show SP _ _ _ _ _ _ ⟨_, _ :: _, _, _⟩
  refine .go idQ (.seq (.region ?_))
  refine .v (ev_mv rfl rfl) rfl ?_
  refine .v (ev_any (v := .agg #[.int .i64 1, .bool false, .int .i64 0, .string ⟨#[]⟩, .slice none 0 0, .slice none 0 0]) rfl (by kernel_rfl) (fun _ => by kernel_rfl)) rfl ?_
  refine .v (ev_mv rfl rfl) rfl ?_
  refine .cons (st_call0 rfl rfl rfl rfl hbd56 rfl (.c .h (.c .h (.c .h .n))) (put0 g A n c i212 bad213 pos214 v l 1 false 0 ⟨#[]⟩ i22 _ _ (by first | omega | simp only [LL] <;> omega | simp <;> omega) hB (tb_leaf (by decide) (by decide) (by decide))) (fun v_q23 C_q23 q23 => ?_))
  obtain ⟨r18, bad219, pos220, u21, L22, p24, p25, p26, p27, rfl, rfl⟩ := q23
  show SP _ _ _ _ _ _ ⟨_, _ :: _ :: _ :: _, _, _⟩
  refine .v (ev_as rfl rfl) rfl ?_
  refine .go idQ ?_
  exact .ret idQ (ret1 Try.results36 rfl (.c .h (.c .h (.c .h .n))) ⟨r18, i212, bad219, pos220, u21, L22, val_2 p6 p7 (by omega) (by rw [← bs_null, ← p16]; exact p24), (by have h_ : (⟨#[110, 117, 108, 108]⟩ : ByteArray).size = 4 := rfl; omega), p25, p26, rfl, rfl⟩)
 refine .seq (.region ?_)
 refine .v (ev_mv rfl rfl) rfl ?_
 refine .v (ev_cmp rfl rfl rfl rfl) rfl ?_
 refine .v (ev_as rfl rfl) rfl ?_
 refine .go idQ ?_
 refine .condI rfl bE (fun h28 => ?_) (fun h28 => ?_)
 ·
  refine .seq (.region ?_)
  refine .v (ev_mv rfl rfl) rfl ?_
  refine .cons (st_call0 rfl rfl rfl rfl hbd55 rfl (.c .h .n) (word2_ g A n c b i22 bad23 pos24 v ⟨#[116, 114, 117, 101]⟩ _ _ hA (by first | omega | simp only [LL] <;> omega | simp <;> omega) (by omega) (by omega) (by omega) (by omega) (by decide)) (fun v_q32 C_q32 q32 => ?_))
  obtain ⟨i229, bad230, pos231, p33, p34, rfl, rfl⟩ := q32
  show SP _ _ _ _ _ _ ⟨_, _ :: _, _, _⟩
  refine .go idQ (.seq (.region ?_))
  refine .v (ev_mv rfl rfl) rfl ?_
  refine .v (ev_any (v := .agg #[.int .i64 2, .bool true, .int .i64 0, .string ⟨#[]⟩, .slice none 0 0, .slice none 0 0]) rfl (by kernel_rfl) (fun _ => by kernel_rfl)) rfl ?_
  refine .v (ev_mv rfl rfl) rfl ?_
  refine .cons (st_call0 rfl rfl rfl rfl hbd56 rfl (.c .h (.c .h (.c .h .n))) (put0 g A n c i229 bad230 pos231 v l 2 true 0 ⟨#[]⟩ i22 _ _ (by first | omega | simp only [LL] <;> omega | simp <;> omega) hB (tb_leaf (by decide) (by decide) (by decide))) (fun v_q40 C_q40 q40 => ?_))
  obtain ⟨r35, bad236, pos237, u38, L39, p41, p42, p43, p44, rfl, rfl⟩ := q40
  show SP _ _ _ _ _ _ ⟨_, _ :: _ :: _ :: _, _, _⟩
  refine .v (ev_as rfl rfl) rfl ?_
  refine .go idQ ?_
  exact .ret idQ (ret1 Try.results36 rfl (.c .h (.c .h (.c .h .n))) ⟨r35, i229, bad236, pos237, u38, L39, val_3 p6 p7 (by omega) (by rw [← bs_true, ← p33]; exact p41), (by have h_ : (⟨#[116, 114, 117, 101]⟩ : ByteArray).size = 4 := rfl; omega), p42, p43, rfl, rfl⟩)
 refine .seq (.region ?_)
 refine .v (ev_mv rfl rfl) rfl ?_
 refine .v (ev_cmp rfl rfl rfl rfl) rfl ?_
 refine .v (ev_as rfl rfl) rfl ?_
 refine .go idQ ?_
 refine .condI rfl bE (fun h45 => ?_) (fun h45 => ?_)
 ·
  refine .seq (.region ?_)
  refine .v (ev_mv rfl rfl) rfl ?_
  refine .cons (st_call0 rfl rfl rfl rfl hbd55 rfl (.c .h .n) (word2_ g A n c b i22 bad23 pos24 v ⟨#[102, 97, 108, 115, 101]⟩ _ _ hA (by first | omega | simp only [LL] <;> omega | simp <;> omega) (by omega) (by omega) (by omega) (by omega) (by decide)) (fun v_q49 C_q49 q49 => ?_))
  obtain ⟨i246, bad247, pos248, p50, p51, rfl, rfl⟩ := q49
  show SP _ _ _ _ _ _ ⟨_, _ :: _, _, _⟩
  refine .go idQ (.seq (.region ?_))
  refine .v (ev_mv rfl rfl) rfl ?_
  refine .v (ev_any (v := .agg #[.int .i64 2, .bool false, .int .i64 0, .string ⟨#[]⟩, .slice none 0 0, .slice none 0 0]) rfl (by kernel_rfl) (fun _ => by kernel_rfl)) rfl ?_
  refine .v (ev_mv rfl rfl) rfl ?_
  refine .cons (st_call0 rfl rfl rfl rfl hbd56 rfl (.c .h (.c .h (.c .h .n))) (put0 g A n c i246 bad247 pos248 v l 2 false 0 ⟨#[]⟩ i22 _ _ (by first | omega | simp only [LL] <;> omega | simp <;> omega) hB (tb_leaf (by decide) (by decide) (by decide))) (fun v_q57 C_q57 q57 => ?_))
  obtain ⟨r52, bad253, pos254, u55, L56, p58, p59, p60, p61, rfl, rfl⟩ := q57
  show SP _ _ _ _ _ _ ⟨_, _ :: _ :: _ :: _, _, _⟩
  refine .v (ev_as rfl rfl) rfl ?_
  refine .go idQ ?_
  exact .ret idQ (ret1 Try.results36 rfl (.c .h (.c .h (.c .h .n))) ⟨r52, i246, bad253, pos254, u55, L56, val_4 p6 p7 (by omega) (by rw [← bs_false, ← p50]; exact p58), (by have h_ : (⟨#[102, 97, 108, 115, 101]⟩ : ByteArray).size = 5 := rfl; omega), p59, p60, rfl, rfl⟩)
 refine .seq (.region ?_)
 refine .v (ev_mv rfl rfl) rfl ?_
 refine .v (ev_cmp rfl rfl rfl rfl) rfl ?_
 refine .v (ev_as rfl rfl) rfl ?_
 refine .go idQ ?_
 refine .condI rfl bE (fun h62 => ?_) (fun h62 => ?_)
 ·
  refine .seq (.region ?_)
  refine .v (ev_mv rfl rfl) rfl ?_
  refine .v (ev_mv rfl rfl) rfl ?_
  refine .cons (st_call0 rfl rfl rfl rfl hbd57 rfl (.c .h .n) (text2_ g A n c b i22 bad23 pos24 v _ _ hA (by first | omega | simp only [LL] <;> omega | simp <;> omega) (by omega) (by omega) (by omega) (by omega) (by omega) (by omega)) (fun v_q67 C_q67 q67 => ?_))
  obtain ⟨s63, i264, bad265, pos266, p68, p69, p70, p71, rfl, rfl⟩ := q67
  show SP _ _ _ _ _ _ ⟨_, _ :: _, _, _⟩
  refine .v (ev_any (v := .agg #[.int .i64 4, .bool false, .int .i64 0, .string s63, .slice none 0 0, .slice none 0 0]) rfl (by kernel_rfl) (fun _ => by kernel_rfl)) rfl ?_
  refine .v (ev_mv rfl rfl) rfl ?_
  refine .cons (st_call0 rfl rfl rfl rfl hbd56 rfl (.c .h (.c .h (.c .h .n))) (put0 g A n c i264 bad265 pos266 v l 4 false 0 s63 i22 _ _ (by first | omega | simp only [LL] <;> omega | simp <;> omega) hB (tb_leaf (by omega) (by decide) (by decide))) (fun v_q77 C_q77 q77 => ?_))
  obtain ⟨r72, bad273, pos274, u75, L76, p78, p79, p80, p81, rfl, rfl⟩ := q77
  show SP _ _ _ _ _ _ ⟨_, _ :: _ :: _ :: _, _, _⟩
  refine .v (ev_as rfl rfl) rfl ?_
  refine .go idQ ?_
  exact .ret idQ (ret1 Try.results36 rfl (.c .h (.c .h (.c .h .n))) ⟨r72, i264, bad273, pos274, u75, L76, val_5 p6 p7 (by omega) (by rw [← p68, ← p69]; exact p78), (by omega), p79, p80, rfl, rfl⟩)
 refine .seq (.region ?_)
 refine .v (ev_mv rfl rfl) rfl ?_
 refine .v (ev_cmp rfl rfl rfl rfl) rfl ?_
 refine .v (ev_mv rfl rfl) rfl ?_
 refine .w (fun _ => ev_mv rfl rfl) rfl ?_
 refine .w (fun hb => ev_cmp rfl (lkg rfl hb) rfl rfl) rfl ?_
 refine .w (fun hb => ev_mv rfl (lkg rfl hb)) rfl ?_
 rcases Bool.eq_false_or_eq_true (r1 == 45) with hb82 | hb82
 ·
  have hb82_ := bT bE hb82
  refine SP.reslotv (t := 58) rfl (gv_off hb82) ?_
  refine .cons (.offu rfl rfl rfl rfl rfl ?_)
  refine .cons (.offu rfl rfl rfl rfl rfl ?_)
  refine SP.reslot (t := 55) rfl hb82 ?_
  refine .cons (.off rfl rfl rfl rfl rfl rfl ?_)
  refine .v (ev_pickt rfl rfl rfl rfl) rfl ?_
  refine .v (ev_as rfl rfl) rfl ?_
  refine .go idQ ?_
  refine .cond_t rfl ?_
  refine .seq (.region ?_)
  refine .v (ev_mv rfl rfl) rfl ?_
  refine .v (ev_mv rfl rfl) rfl ?_
  refine .cons (st_call0 rfl rfl rfl rfl hbd58 rfl (.c .h .n) (number_ g A n c b i22 bad23 pos24 v _ _ hA (by first | omega | simp only [LL] <;> omega | simp <;> omega) (by omega) (by omega) (by omega) (by omega) (by omega) (by unfold SX.numB; omega)) (fun v_q87 C_q87 q87 => ?_))
  obtain ⟨r83, i284, bad285, pos286, p88, p89, p90, p91, rfl, rfl⟩ := q87
  show SP _ _ _ _ _ _ ⟨_, _ :: _, _, _⟩
  refine .v (ev_any (v := .agg #[.int .i64 3, .bool false, .int .i64 r83, .string ⟨#[]⟩, .slice none 0 0, .slice none 0 0]) rfl (by kernel_rfl) (fun _ => by kernel_rfl)) rfl ?_
  refine .v (ev_mv rfl rfl) rfl ?_
  refine .cons (st_call0 rfl rfl rfl rfl hbd56 rfl (.c .h (.c .h (.c .h .n))) (put0 g A n c i284 bad285 pos286 v l 3 false r83 ⟨#[]⟩ i22 _ _ (by first | omega | simp only [LL] <;> omega | simp <;> omega) hB (tb_leaf (by decide) (by omega) (by omega))) (fun v_q97 C_q97 q97 => ?_))
  obtain ⟨r92, bad293, pos294, u95, L96, p98, p99, p100, p101, rfl, rfl⟩ := q97
  show SP _ _ _ _ _ _ ⟨_, _ :: _ :: _ :: _, _, _⟩
  refine .v (ev_as rfl rfl) rfl ?_
  refine .go idQ ?_
  exact .ret idQ (ret1 Try.results36 rfl (.c .h (.c .h (.c .h .n))) ⟨r92, i284, bad293, pos294, u95, L96, val_6 p6 p7 (by omega) (by rw [← p88, ← p89]; exact p98), (by omega), p99, p100, rfl, rfl⟩)
 have hb82_ := bF bE hb82
 refine SP.reslotv (t := 58) rfl (gv_on hb82) ?_
 refine .w (fun _ => ev_mv rfl rfl) rfl ?_
 refine .w (fun hb => ev_cmp rfl (lkg rfl hb) rfl rfl) rfl ?_
 refine SP.reslot (t := 55) rfl hb82 ?_
 refine .cons (.on rfl rfl rfl (Ev.step (ev_and rfl rfl rfl rfl) rfl rfl rfl ?_))
 refine .v (ev_pickf rfl rfl rfl rfl) rfl ?_
 refine .v (ev_as rfl rfl) rfl ?_
 refine .go idQ ?_
 refine .condI rfl (bA bD bD) (fun h102 => ?_) (fun h102 => ?_)
 ·
  refine .seq (.region ?_)
  refine .v (ev_mv rfl rfl) rfl ?_
  refine .v (ev_mv rfl rfl) rfl ?_
  refine .cons (st_call0 rfl rfl rfl rfl hbd58 rfl (.c .h .n) (number_ g A n c b i22 bad23 pos24 v _ _ hA (by first | omega | simp only [LL] <;> omega | simp <;> omega) (by omega) (by omega) (by omega) (by omega) (by omega) (by unfold SX.numB; omega)) (fun v_q107 C_q107 q107 => ?_))
  obtain ⟨r103, i2104, bad2105, pos2106, p108, p109, p110, p111, rfl, rfl⟩ := q107
  show SP _ _ _ _ _ _ ⟨_, _ :: _, _, _⟩
  refine .v (ev_any (v := .agg #[.int .i64 3, .bool false, .int .i64 r103, .string ⟨#[]⟩, .slice none 0 0, .slice none 0 0]) rfl (by kernel_rfl) (fun _ => by kernel_rfl)) rfl ?_
  refine .v (ev_mv rfl rfl) rfl ?_
  refine .cons (st_call0 rfl rfl rfl rfl hbd56 rfl (.c .h (.c .h (.c .h .n))) (put0 g A n c i2104 bad2105 pos2106 v l 3 false r103 ⟨#[]⟩ i22 _ _ (by first | omega | simp only [LL] <;> omega | simp <;> omega) hB (tb_leaf (by decide) (by omega) (by omega))) (fun v_q117 C_q117 q117 => ?_))
  obtain ⟨r112, bad2113, pos2114, u115, L116, p118, p119, p120, p121, rfl, rfl⟩ := q117
  show SP _ _ _ _ _ _ ⟨_, _ :: _ :: _ :: _, _, _⟩
  refine .v (ev_as rfl rfl) rfl ?_
  refine .go idQ ?_
  exact .ret idQ (ret1 Try.results36 rfl (.c .h (.c .h (.c .h .n))) ⟨r112, i2104, bad2113, pos2114, u115, L116, val_6 p6 p7 (by omega) (by rw [← p108, ← p109]; exact p118), (by omega), p119, p120, rfl, rfl⟩)
 refine .seq (.region ?_)
 refine .v (ev_mv rfl rfl) rfl ?_
 refine .v (ev_cmp rfl rfl rfl rfl) rfl ?_
 refine .v (ev_mv rfl rfl) rfl ?_
 refine .w (fun _ => ev_mv rfl rfl) rfl ?_
 refine .w (fun hb => ev_cmp rfl (lkg rfl hb) rfl rfl) rfl ?_
 refine .v (ev_or rfl rfl rfl rfl) rfl ?_
 refine .v (ev_as rfl rfl) rfl ?_
 refine .go idQ ?_
 refine .condI rfl (bO bE bE) (fun h122 => ?_) (fun h122 => ?_)
 ·
  refine .seq (.seq (.region ?_))
  refine .v (ev_mv rfl rfl) rfl ?_
  refine .v (ev_cmp rfl rfl rfl rfl) rfl ?_
  refine .go idQ ?_
  refine .condI rfl bD (fun h123 => ?_) (fun h123 => ?_)
  ·
   refine .seq (.region ?_)
   refine .v (ev_mv rfl rfl) rfl ?_
   refine .v (ev_mv rfl rfl) rfl ?_
   refine .cons (st_call0 rfl rfl rfl rfl hbd38 rfl (.c .h .n) (no_ g A n c i22 bad23 pos24 v i22 26 _ _) (fun v_q126 C_q126 q126 => ?_))
   obtain ⟨bad2124, pos2125, p127, rfl, rfl⟩ := q126
   show SP _ _ _ _ _ _ ⟨_, _ :: _, _, _⟩
   refine .go idQ (.seq (.region ?_))
   refine .v (ev_as rfl rfl) rfl ?_
   refine .go idQ ?_
   exact .ret idQ (ret1 Try.results36 rfl (.c .h (.c .h (.c .h .n))) ⟨0, i22, bad2124, pos2125, v, l, val_7 p6 p7 (by omega) (by omega) (noF_eq p127), (by omega), hl, hB, rfl, rfl⟩)
  refine .skipgo idQ (.seq (.region ?_))
  refine .v (ev_mv rfl rfl) rfl ?_
  refine .v (ev_mv rfl rfl) rfl ?_
  refine .v (ev_nil rfl rfl) rfl ?_
  refine .v (ev_fa rfl fo86_1 rfl (r := 1) rfl) rfl ?_
  refine .v (ev_ld1 rfl ty3 rfl (At.own1 0 rfl rfl)) rfl ?_
  refine .v (ev_add rfl rfl rfl (r := (i22 + 1)) rfl (by omega) (by omega)) rfl ?_
  refine .v (ev_nil rfl rfl) rfl ?_
  refine .v (ev_fa rfl fo86_1 rfl (r := 1) rfl) rfl ?_
  refine .cons (st_store1 rfl rfl rfl ty3 rfl rfl rfl .h (.t .h) ?_)
  refine .go idQ (.seq (.region ?_))
  refine .v (ev_mv rfl rfl) rfl ?_
  refine .v (ev_mv rfl rfl) rfl ?_
  refine .v (ev_cmp rfl rfl rfl rfl) rfl ?_
  refine .v (ev_mv rfl rfl) rfl ?_
  refine .v (ev_mv rfl rfl) rfl ?_
  refine .cons (st_call0 rfl rfl rfl rfl hbd59 rfl (.c .h (.c .h (.c .h .n))) (many_ d g A n c b (i22 + 1) bad23 pos24 v l (r1 == 123) deep i22 _ _ hA (by first | omega | simp only [LL] <;> omega | simp <;> omega) (by omega) (by omega) (by omega) (by omega) (by omega) (by first | omega | simp only [LL] <;> omega | simp <;> omega) hB (by omega) (by omega) ih) (fun v_q134 C_q134 q134 => ?_))
  obtain ⟨r128, i2129, bad2130, pos2131, u132, L133, p135, p136, p137, p138, rfl, rfl⟩ := q134
  show SP _ _ _ _ _ _ ⟨_, _ :: _ :: _ :: _, _, _⟩
  refine .v (ev_as rfl rfl) rfl ?_
  refine .go idQ ?_
  exact .ret idQ (ret1 Try.results36 rfl (.c .h (.c .h (.c .h .n))) ⟨r128, i2129, bad2130, pos2131, u132, L133, val_8 p6 p7 (by omega) (by omega) rfl p135, (by omega), p137, p138, rfl, rfl⟩)
 refine .skipgo idQ (.seq (.region ?_))
 refine .v (ev_mv rfl rfl) rfl ?_
 refine .v (ev_mv rfl rfl) rfl ?_
 refine .cons (st_call0 rfl rfl rfl rfl hbd38 rfl (.c .h .n) (no_ g A n c i22 bad23 pos24 v i22 22 _ _) (fun v_q141 C_q141 q141 => ?_))
 obtain ⟨bad2139, pos2140, p142, rfl, rfl⟩ := q141
 show SP _ _ _ _ _ _ ⟨_, _ :: _, _, _⟩
 refine .go idQ (.seq (.region ?_))
 refine .v (ev_as rfl rfl) rfl ?_
 refine .go idQ ?_
 exact .ret idQ (ret1 Try.results36 rfl (.c .h (.c .h (.c .h .n))) ⟨0, i22, bad2139, pos2140, v, l, val_9 p6 p7 (by omega) (by omega) (by omega) (by omega) (by omega) (by omega) (by omega) (noF_eq p142), (by omega), hl, hB, rfl, rfl⟩)
end Go.Proofs.Ythmkelkefmfmgaa.Sx
set_option maxRecDepth 20000
set_option maxHeartbeats 4000000
namespace Go.Proofs.Ythmkelkefmfmgaa.Sx.FPG
open Go Go.SX Go.Proofs
theorem hbd36 : hasBody Try.prog 36 = true := by kernel_rfl
theorem hbd37 : hasBody Try.prog 37 = true := by kernel_rfl
theorem fo86_2 : fo Try.prog 86 2 = some 2 := by kernel_rfl
theorem ty3 : ty Try.prog 3 = some (false, 1) := by kernel_rfl
theorem fo86_1 : fo Try.prog 86 1 = some 1 := by kernel_rfl
theorem hbd38 : hasBody Try.prog 38 = true := by kernel_rfl
theorem fo86_3 : fo Try.prog 86 3 = some 3 := by kernel_rfl
theorem mo : Try.prog.follows .mixedOrders = true := by kernel_rfl
theorem fo86_4 : fo Try.prog 86 4 = some 4 := by kernel_rfl
theorem ty34 : ty Try.prog 34 = some (false, 1) := by kernel_rfl
end Go.Proofs.Ythmkelkefmfmgaa.Sx.FPG
namespace Go.Proofs.Ythmkelkefmfmgaa.Sx
open Go Go.SX Go.Proofs FPG
theorem parse_ (A : Option Addr) (n : Nat) (c : Nat) (b : List Int) (S : Nat → Prop) (wf : World) (hA : Fr eY S wf A b) (hn : b.length = n) (hr : ∀ x ∈ b, isB x) (hcap : n ≤ c) :
  TR0 Try.prog 14 [.slice A n c] [] S wf (fun v_ C_ => ∃ (at_ : Int) (e : Int) (u : Value) (L : List TV), (e = parseE b) ∧ (vs L = parseT b) ∧ (∀ t ∈ L, TB t.v) ∧ (L.length ≤ 8192) ∧ v_ = .tuple #[u, .int .i64 at_, .int .i64 e] ∧ C_ = [rw_ eTV 90 (u) L, nest 9 3 L]) := by
 have hla := hA.len
 refine TR.mk Try.func14 rfl Try.ntmps14 rfl rfl (fun w_ => ?_)
 refine .seq (.region ?_)
 refine .v (ev_as rfl rfl) rfl ?_
 refine .v (ev_as rfl rfl) rfl ?_
 refine .v (ev_as rfl rfl) rfl ?_
 refine .go idQ (.seq (.seq (.region ?_)))
 refine .v (ev_mv rfl rfl) rfl ?_
 refine .v (ev_len rfl Try.underlying36 rfl) rfl ?_
 refine .v (ev_cmp rfl rfl rfl rfl) rfl ?_
 refine .go idQ ?_
 refine .condI rfl bD (fun h1 => ?_) (fun h1 => ?_)
 ·
  refine .seq (.region ?_)
  refine .v (ev_as rfl rfl) rfl ?_
  refine .v (ev_as rfl rfl) rfl ?_
  refine .v (ev_as rfl rfl) rfl ?_
  refine .go idQ ?_
  refine SC.nilrow eTV 90 ?_
  refine SC.nest0 9 3 ?_
  exact .ret idQ (ret3 Try.results14 rfl rfl rfl (.c (.t .h) (.c .h .n)) ⟨65536, 20, (.slice none 0 0), ([] : List TV), (parse_0 (by rw [hn]; omega)).1, (parse_0 (by rw [hn]; omega)).2, (fun t ht => by cases ht), (by simp), rfl, rfl⟩)
 refine .skipgo idQ (.seq (.region ?_))
 refine .v (ev_mv rfl rfl) rfl ?_
 refine .v (ev_any (v := .agg #[.slice A n c, .int .i64 0, .int .i64 0, .int .i64 0, .slice none 0 0]) rfl (by kernel_rfl) (fun _ => by kernel_rfl)) rfl ?_
 refine .cons (st_boxa rfl rfl rfl rfl rfl (fun b2 => ?_))
 refine .v (ev_as rfl rfl) rfl ?_
 refine .go idQ (.seq ?_)
 refine SC.nilrow eTV 90 ?_
 refine SC.nest0 9 3 ?_
 refine .region ?_
 refine .v (ev_mv rfl rfl) rfl ?_
 refine .cons (st_call0 rfl rfl rfl rfl hbd36 rfl (.c (.t (.t .h)) (.c (.t .h) (.c .h .n))) (valueP_ 17 b2 A n c b 0 0 0 (.slice none 0 0) ([] : List TV) 1 _ _ hA (by first | omega | simp only [LL] <;> omega | simp <;> omega) (by omega) (by omega) (by omega) (by omega) (by first | omega | simp only [LL] <;> omega | simp <;> omega) (fun t ht => by cases ht) (by omega) (by omega)) (fun v_q9 C_q9 q9 => ?_))
 obtain ⟨r3, i24, bad25, pos26, u7, L8, p10, p11, p12, p13, rfl, rfl⟩ := q9
 show SP _ _ _ _ _ _ ⟨_, _ :: _ :: _ :: _, _, _⟩
 refine .go idQ (.seq (.region ?_))
 refine .v (ev_mv rfl rfl) rfl ?_
 refine .cons (st_call0 rfl rfl rfl rfl hbd37 rfl (.c .h .n) (gap_ b2 A n c b i24 bad25 pos26 u7 _ _ hA (by first | omega | simp only [LL] <;> omega | simp <;> omega) (by omega) (by omega) (by omega) (by omega)) (fun v_q15 C_q15 q15 => ?_))
 obtain ⟨i214, p16, p17, rfl, rfl⟩ := q15
 show SP _ _ _ _ _ _ ⟨_, _ :: _, _, _⟩
 refine .go idQ (.seq (.seq (.region ?_)))
 refine .v (ev_mv rfl rfl) rfl ?_
 refine .v (ev_nil rfl rfl) rfl ?_
 refine .v (ev_fa rfl fo86_2 rfl (r := 2) rfl) rfl ?_
 refine .v (ev_ld1 rfl ty3 rfl (At.own1 0 rfl rfl)) rfl ?_
 refine .v (ev_cmp rfl rfl rfl rfl) rfl ?_
 refine .v (ev_mv rfl rfl) rfl ?_
 refine .w (fun _ => ev_mv rfl rfl) rfl ?_
 refine .w (fun hb => ev_nil rfl (lkg rfl hb)) rfl ?_
 refine .w (fun hb => ev_fa rfl fo86_1 (lkg rfl hb) (r := 1) rfl) rfl ?_
 refine .w (fun hb => ev_ld1 rfl ty3 (lkg rfl hb) (At.own1 0 rfl rfl)) rfl ?_
 refine .w (fun _ => ev_mv rfl rfl) rfl ?_
 refine .w (fun hb => ev_len rfl Try.underlying36 (lkg rfl hb)) rfl ?_
 refine .w (fun hb => ev_cmp rfl (lkg rfl hb) (lkg rfl hb) rfl) rfl ?_
 refine .v (ev_and rfl rfl rfl rfl) rfl ?_
 refine .go idQ ?_
 refine .condI rfl (bA bE bD) (fun h18 => ?_) (fun h18 => ?_)
 ·
  refine .region ?_
  refine .v (ev_mv rfl rfl) rfl ?_
  refine .v (ev_mv rfl rfl) rfl ?_
  refine .v (ev_nil rfl rfl) rfl ?_
  refine .v (ev_fa rfl fo86_1 rfl (r := 1) rfl) rfl ?_
  refine .v (ev_ld1 rfl ty3 rfl (At.own1 0 rfl rfl)) rfl ?_
  refine .cons (st_call0 rfl rfl rfl rfl hbd38 rfl (.c .h .n) (no_ b2 A n c i214 bad25 pos26 u7 i214 22 _ _) (fun v_q21 C_q21 q21 => ?_))
  obtain ⟨bad219, pos220, p22, rfl, rfl⟩ := q21
  show SP _ _ _ _ _ _ ⟨_, _ :: _, _, _⟩
  refine .go idQ (.seq (.seq (.region ?_)))
  refine .v (ev_mv rfl rfl) rfl ?_
  refine .v (ev_nil rfl rfl) rfl ?_
  refine .v (ev_fa rfl fo86_2 rfl (r := 2) rfl) rfl ?_
  refine .v (ev_ld1 rfl ty3 rfl (At.own1 0 rfl rfl)) rfl ?_
  refine .v (ev_cmp rfl rfl rfl rfl) rfl ?_
  refine .go idQ ?_
  refine .condI rfl bNE (fun h23 => ?_) (fun h23 => ?_)
  ·
   refine .seq ?_
   refine SC.draw mo [] [] .n (fun _ _ _ c hc => by cases hc) (fun wf_24 hl_24 hx_24 hR_24 => ?_)
   refine SR.k 0 rfl (by kernel_rfl) rfl (ev_mv rfl rfl) ?_
   refine SR.k 1 rfl (by kernel_rfl) rfl (ev_nil rfl rfl) ?_
   refine SR.k 2 rfl (by kernel_rfl) rfl (ev_fa rfl fo86_3 rfl (r := 3) rfl) ?_
   refine SR.k 3 rfl (by kernel_rfl) rfl (ev_ld1 rfl ty3 rfl (At.d (At.lent hR_24 0 rfl rfl))) ?_
   refine SR.k 4 rfl (by kernel_rfl) rfl (ev_mv rfl rfl) ?_
   refine SR.k 5 rfl (by kernel_rfl) rfl (ev_nil rfl rfl) ?_
   refine SR.k 6 rfl (by kernel_rfl) rfl (ev_fa rfl fo86_2 rfl (r := 2) rfl) ?_
   refine SR.k 7 rfl (by kernel_rfl) rfl (ev_ld1 rfl ty3 rfl (At.d (At.lent hR_24 0 rfl rfl))) ?_
   refine SR.k 8 rfl (by kernel_rfl) rfl (ev_as rfl rfl) ?_
   refine SR.k 9 rfl (by kernel_rfl) rfl (ev_as rfl rfl) ?_
   refine SR.k 10 rfl (by kernel_rfl) rfl (ev_as rfl rfl) ?_
   refine SR.fin (by kernel_rfl) hl_24 hx_24 hR_24 .n ?_
   refine SQ.go idQ ?_
   refine SC.nilrow eTV 90 ?_
   refine SC.nest0 9 3 ?_
   exact .ret idQ (ret3 Try.results14 rfl rfl rfl (.c (.t .h) (.c .h .n)) ⟨pos220, bad219, (.slice none 0 0), ([] : List TV), (parse_1 (by rw [hn]; omega) p10 (parse_p p10 p16 (by rw [if_pos (by rw [hn]; omega)]; exact noF_eq p22)) (by omega)).1, (parse_1 (by rw [hn]; omega) p10 (parse_p p10 p16 (by rw [if_pos (by rw [hn]; omega)]; exact noF_eq p22)) (by omega)).2, (fun t ht => by cases ht), (by simp), rfl, rfl⟩)
  refine .skipgo idQ (.seq (.region ?_))
  refine .v (ev_mv rfl rfl) rfl ?_
  refine .v (ev_nil rfl rfl) rfl ?_
  refine .v (ev_fa rfl fo86_4 rfl (r := 4) rfl) rfl ?_
  refine .v (ev_ld1 rfl ty34 rfl (At.own1 0 rfl rfl)) rfl ?_
  refine .v (ev_as rfl rfl) rfl ?_
  refine .v (ev_as rfl rfl) rfl ?_
  refine .v (ev_as rfl rfl) rfl ?_
  refine .go idQ ?_
  exact .ret idQ (ret3 Try.results14 rfl rfl rfl (.c (.t .h) (.c (.t .h) .n)) ⟨0, 0, u7, L8, (parse_2 (by rw [hn]; omega) p10 (parse_p p10 p16 (by rw [if_pos (by rw [hn]; omega)]; exact noF_eq p22)) (by omega)).1, (parse_2 (by rw [hn]; omega) p10 (parse_p p10 p16 (by rw [if_pos (by rw [hn]; omega)]; exact noF_eq p22)) (by omega)).2, p13, p12, rfl, rfl⟩)
 refine .skipgo idQ (.seq (.seq (.region ?_)))
 refine .v (ev_mv rfl rfl) rfl ?_
 refine .v (ev_nil rfl rfl) rfl ?_
 refine .v (ev_fa rfl fo86_2 rfl (r := 2) rfl) rfl ?_
 refine .v (ev_ld1 rfl ty3 rfl (At.own1 0 rfl rfl)) rfl ?_
 refine .v (ev_cmp rfl rfl rfl rfl) rfl ?_
 refine .go idQ ?_
 refine .condI rfl bNE (fun h25 => ?_) (fun h25 => ?_)
 ·
  refine .seq ?_
  refine SC.draw mo [] [] .n (fun _ _ _ c hc => by cases hc) (fun wf_26 hl_26 hx_26 hR_26 => ?_)
  refine SR.k 0 rfl (by kernel_rfl) rfl (ev_mv rfl rfl) ?_
  refine SR.k 1 rfl (by kernel_rfl) rfl (ev_nil rfl rfl) ?_
  refine SR.k 2 rfl (by kernel_rfl) rfl (ev_fa rfl fo86_3 rfl (r := 3) rfl) ?_
  refine SR.k 3 rfl (by kernel_rfl) rfl (ev_ld1 rfl ty3 rfl (At.d (At.lent hR_26 0 rfl rfl))) ?_
  refine SR.k 4 rfl (by kernel_rfl) rfl (ev_mv rfl rfl) ?_
  refine SR.k 5 rfl (by kernel_rfl) rfl (ev_nil rfl rfl) ?_
  refine SR.k 6 rfl (by kernel_rfl) rfl (ev_fa rfl fo86_2 rfl (r := 2) rfl) ?_
  refine SR.k 7 rfl (by kernel_rfl) rfl (ev_ld1 rfl ty3 rfl (At.d (At.lent hR_26 0 rfl rfl))) ?_
  refine SR.k 8 rfl (by kernel_rfl) rfl (ev_as rfl rfl) ?_
  refine SR.k 9 rfl (by kernel_rfl) rfl (ev_as rfl rfl) ?_
  refine SR.k 10 rfl (by kernel_rfl) rfl (ev_as rfl rfl) ?_
  refine SR.fin (by kernel_rfl) hl_26 hx_26 hR_26 .n ?_
  refine SQ.go idQ ?_
  refine SC.nilrow eTV 90 ?_
  refine SC.nest0 9 3 ?_
  exact .ret idQ (ret3 Try.results14 rfl rfl rfl (.c (.t .h) (.c .h .n)) ⟨pos26, bad25, (.slice none 0 0), ([] : List TV), (parse_1 (by rw [hn]; omega) p10 (parse_p p10 p16 (by rw [if_neg (by rw [hn]; omega)])) (by omega)).1, (parse_1 (by rw [hn]; omega) p10 (parse_p p10 p16 (by rw [if_neg (by rw [hn]; omega)])) (by omega)).2, (fun t ht => by cases ht), (by simp), rfl, rfl⟩)
 refine .skipgo idQ (.seq (.region ?_))
 refine .v (ev_mv rfl rfl) rfl ?_
 refine .v (ev_nil rfl rfl) rfl ?_
 refine .v (ev_fa rfl fo86_4 rfl (r := 4) rfl) rfl ?_
 refine .v (ev_ld1 rfl ty34 rfl (At.own1 0 rfl rfl)) rfl ?_
 refine .v (ev_as rfl rfl) rfl ?_
 refine .v (ev_as rfl rfl) rfl ?_
 refine .v (ev_as rfl rfl) rfl ?_
 refine .go idQ ?_
 exact .ret idQ (ret3 Try.results14 rfl rfl rfl (.c (.t .h) (.c (.t .h) .n)) ⟨0, 0, u7, L8, (parse_2 (by rw [hn]; omega) p10 (parse_p p10 p16 (by rw [if_neg (by rw [hn]; omega)])) (by omega)).1, (parse_2 (by rw [hn]; omega) p10 (parse_p p10 p16 (by rw [if_neg (by rw [hn]; omega)])) (by omega)).2, p13, p12, rfl, rfl⟩)
end Go.Proofs.Ythmkelkefmfmgaa.Sx
set_option maxRecDepth 20000
set_option maxHeartbeats 4000000
namespace Go.Proofs.Ythmkelkefmfmgaa.Sx.FGA
open Go Go.SX Go.Proofs
theorem zf90 : (Try.prog.info? 90).bind (fun i => i.zero.map Value.cells) = some (List.toArray [.int .i64 0, .bool false, .int .i64 0, .string ⟨#[]⟩, .slice none 0 0, .slice none 0 0]) := by kernel_rfl
theorem ty90 : ty Try.prog 90 = some (true, 6) := by kernel_rfl
theorem fo90_5 : fo Try.prog 90 5 = some 5 := by kernel_rfl
theorem ty56 : ty Try.prog 56 = some (false, 1) := by kernel_rfl
theorem ty3 : ty Try.prog 3 = some (false, 1) := by kernel_rfl
theorem mo : Try.prog.follows .mixedOrders = true := by kernel_rfl
theorem ty34 : ty Try.prog 34 = some (false, 1) := by kernel_rfl
theorem fo90_0 : fo Try.prog 90 0 = some 0 := by kernel_rfl
theorem ty88 : ty Try.prog 88 = some (false, 1) := by kernel_rfl
theorem fo90_1 : fo Try.prog 90 1 = some 1 := by kernel_rfl
theorem ty4 : ty Try.prog 4 = some (false, 1) := by kernel_rfl
theorem fo90_2 : fo Try.prog 90 2 = some 2 := by kernel_rfl
theorem fo90_3 : fo Try.prog 90 3 = some 3 := by kernel_rfl
theorem ty9 : ty Try.prog 9 = some (false, 1) := by kernel_rfl
theorem fo90_4 : fo Try.prog 90 4 = some 4 := by kernel_rfl
theorem ty82 : ty Try.prog 82 = some (false, 1) := by kernel_rfl
end Go.Proofs.Ythmkelkefmfmgaa.Sx.FGA
namespace Go.Proofs.Ythmkelkefmfmgaa.Sx
open Go Go.SX Go.Proofs FGA
theorem same02 (A : Option Addr) (n : Nat) (c : Nat) (a : List TV) (B : Option Addr) (n2 : Nat) (c2 : Nat) (b : List TV) (S : Nat → Prop) (wf : World) (hA : Fr eTV S wf A a) (hB : Fr eTV S wf B b) (hNa : NT S wf a) (hNb : NT S wf b) (hn : a.length = n) (hn2 : b.length = n2) (hv : vs a = vs b) :
  TR0 Try.prog 15 [.slice A n c, .slice B n2 c2] [] S wf (fun v_ C_ => v_ = .bool true ∧ C_ = []) := by
 have hla := hA.len
 have hlb := hB.len
 have hll : a.length = b.length := by rw [← vs_len a, ← vs_len b, hv]
 refine TR.mk Try.func15 rfl Try.ntmps15 rfl rfl (fun w_ => ?_)
 refine .seq (.region ?_)
 refine .v (ev_as rfl rfl) rfl ?_
 refine .go idQ (.seq (.seq (.region ?_)))
 refine .v (ev_mv rfl rfl) rfl ?_
 refine .v (ev_len rfl Try.underlying34 rfl) rfl ?_
 refine .v (ev_mv rfl rfl) rfl ?_
 refine .v (ev_len rfl Try.underlying34 rfl) rfl ?_
 refine .v (ev_cmp rfl rfl rfl rfl) rfl ?_
 refine .go idQ ?_
 refine .condI rfl bNE (fun h1 => ?_) (fun h1 => ?_)
 ·
  refine .seq (.region ?_)
  refine .v (ev_as rfl rfl) rfl ?_
  refine .go idQ ?_
  exact .ret idQ (ret1 Try.results15 rfl .n ⟨(by exfalso; simp_all), rfl⟩)
 refine .skipgo idQ (.seq (.seq (.region ?_)))
 refine .v (ev_as rfl rfl) rfl ?_
 refine .go idQ (.block ?_)
 refine .loop (X := Int) (fun i => 0 ≤ i ∧ i ≤ a.length) (fun i => [(0, .slice A n c), (1, .slice B n2 c2), (5, .int .i64 i)]) (fun i => []) (fun _ => S) (fun _ => wf) (fun i => (a.length - i.toNat)) (fun a_ w_ hs_ hw_ => ⟨0, (by exact ⟨by omega, by omega⟩), hs_.mono (Sub.get (.c rfl (.c rfl (.c rfl .n)))), hw_.keep .n⟩) (fun i ⟨q_0, q_1⟩ => ?_)
 show SC _ _ _ _ _ ⟨[(0, .slice A n c), (1, .slice B n2 c2), (5, .int .i64 i)], [], S, wf⟩
 refine .seq (.seq (.region ?_))
 refine .v (ev_mv rfl rfl) rfl ?_
 refine .v (ev_mv rfl rfl) rfl ?_
 refine .v (ev_len rfl Try.underlying34 rfl) rfl ?_
 refine .v (ev_cmp rfl rfl rfl rfl) rfl ?_
 refine .go idQ ?_
 refine .condI rfl bD (fun h2 => ?_) (fun h2 => ?_)
 ·
  refine .skipgo idQ (.seq (.block (.seq ?_)))
  have hab : (gt a i).v = (gt b i).v := by rw [← vs_gt (by omega) (by omega), ← vs_gt (by omega) (by omega), hv]
  have hNa1 := hNa _ (gt_mem (i := i) (by omega) (by omega))
  have hNb1 := hNb _ (gt_mem (i := i) (by omega) (by omega))
  have hz1 := hNa1.1.len
  have hz2 := hNa1.2.len
  have hz3 := hNb1.1.len
  have hz4 := hNb1.2.len
  have hab1 := congrArg (fun x => x.ns.length) hab
  have hab2 := congrArg (fun x => x.ks.length) hab
  try dsimp only at hab1 hab2
  refine SC.draw mo [] [] .n (fun _ _ _ c hc => by cases hc) (fun wf_3 hl_3 hx_3 hR_3 => ?_)
  refine SR.k 0 rfl (by kernel_rfl) rfl (ev_mv rfl rfl) ?_
  refine SR.k 1 rfl (by kernel_rfl) rfl (ev_mv rfl rfl) ?_
  refine SR.k 2 rfl (by kernel_rfl) rfl (ev_ix rfl Try.underlying34 ty90 rfl rfl (by omega) (by omega) (fun _ _ => Fr.adr (i := i) (Fr.ext hA hx_3) (by omega) (by omega))) ?_
  refine SR.k 3 rfl (by kernel_rfl) rfl (ev_lda rfl rfl (At.d (Fr.el (i := i) (Fr.ext hA hx_3) (by omega) (by omega))) ty90) ?_
  refine SR.k 4 rfl (by kernel_rfl) rfl (ev_mv rfl rfl) ?_
  refine SR.k 5 rfl (by kernel_rfl) rfl (ev_mv rfl rfl) ?_
  refine SR.k 6 rfl (by kernel_rfl) rfl (ev_ix rfl Try.underlying34 ty90 rfl rfl (by omega) (by omega) (fun _ _ => Fr.adr (i := i) (Fr.ext hB hx_3) (by omega) (by omega))) ?_
  refine SR.k 7 rfl (by kernel_rfl) rfl (ev_lda rfl rfl (At.d (Fr.el (i := i) (Fr.ext hB hx_3) (by omega) (by omega))) ty90) ?_
  refine SR.two (i := 8) (j := 9) (by kernel_rfl) ⟨_, rfl, ?_⟩ ⟨_, rfl, ?_⟩
  ·
   refine st_alloc rfl rfl rfl rfl zf90 (fun b4 => ⟨tt0, ?_⟩)
   refine SR.one (j := 9) (by kernel_rfl) rfl (st_alloc rfl rfl rfl rfl zf90 (fun b5 => ⟨tt0, ?_⟩))
   refine SR.one (j := 10) (by kernel_rfl) rfl (st_storea (l' := [.int .i64 ((gt a i).v.kind), .bool ((gt a i).v.truth), .int .i64 ((gt a i).v.num), .string ((gt a i).v.text), .slice ((gt a i).nA) ((gt a i).v.ns.length) ((gt a i).nc), .slice ((gt a i).kA) ((gt a i).v.ks.length) ((gt a i).kc)]) rfl rfl rfl ty90 rfl rfl rfl (.t .h) rfl rfl ⟨tt0, ?_⟩)
   refine SR.one (j := 11) (by kernel_rfl) rfl (st_storea (l' := [.int .i64 ((gt b i).v.kind), .bool ((gt b i).v.truth), .int .i64 ((gt b i).v.num), .string ((gt b i).v.text), .slice ((gt b i).nA) ((gt b i).v.ns.length) ((gt b i).nc), .slice ((gt b i).kA) ((gt b i).v.ks.length) ((gt b i).kc)]) rfl rfl rfl ty90 rfl rfl rfl (.t .h) rfl rfl ⟨tt0, ?_⟩)
   refine SR.fin (by kernel_rfl) hl_3 hx_3 hR_3 (.c (.c .n)) ?_
   refine SQ.go idQ ?_
   refine .seq (.seq (.region ?_))
   refine .v (ev_fa rfl fo90_0 rfl (r := 0) rfl) rfl ?_
   refine .v (ev_ld1 rfl ty88 rfl (At.own1 1 rfl rfl)) rfl ?_
   refine .v (ev_fa rfl fo90_0 rfl (r := 0) rfl) rfl ?_
   refine .v (ev_ld1 rfl ty88 rfl (At.own1 0 rfl rfl)) rfl ?_
   refine .v (ev_cmp rfl rfl rfl rfl) rfl ?_
   refine .v (ev_mv rfl rfl) rfl ?_
   refine .w (fun _ => ev_fa rfl fo90_1 rfl (r := 1) rfl) rfl ?_
   refine .w (fun hb => ev_ld1 rfl ty4 (lkg rfl hb) (At.own1 1 rfl rfl)) rfl ?_
   refine .w (fun _ => ev_fa rfl fo90_1 rfl (r := 1) rfl) rfl ?_
   refine .w (fun hb => ev_ld1 rfl ty4 (lkg rfl hb) (At.own1 0 rfl rfl)) rfl ?_
   refine .w (fun hb => ev_bcmp rfl Try.underlying4 (lkg rfl hb) (lkg rfl hb) rfl) rfl ?_
   refine .v (ev_or rfl rfl rfl rfl) rfl ?_
   refine .v (ev_mv rfl rfl) rfl ?_
   refine .w (fun _ => ev_fa rfl fo90_2 rfl (r := 2) rfl) rfl ?_
   refine .w (fun hb => ev_ld1 rfl ty3 (lkg rfl hb) (At.own1 1 rfl rfl)) rfl ?_
   refine .w (fun _ => ev_fa rfl fo90_2 rfl (r := 2) rfl) rfl ?_
   refine .w (fun hb => ev_ld1 rfl ty3 (lkg rfl hb) (At.own1 0 rfl rfl)) rfl ?_
   refine .w (fun hb => ev_cmp rfl (lkg rfl hb) (lkg rfl hb) rfl) rfl ?_
   refine .v (ev_or rfl rfl rfl rfl) rfl ?_
   refine .v (ev_mv rfl rfl) rfl ?_
   refine .w (fun _ => ev_fa rfl fo90_3 rfl (r := 3) rfl) rfl ?_
   refine .w (fun hb => ev_ld1 rfl ty9 (lkg rfl hb) (At.own1 1 rfl rfl)) rfl ?_
   refine .w (fun _ => ev_fa rfl fo90_3 rfl (r := 3) rfl) rfl ?_
   refine .w (fun hb => ev_ld1 rfl ty9 (lkg rfl hb) (At.own1 0 rfl rfl)) rfl ?_
   refine .w (fun hb => ev_scmp rfl (lkg rfl hb) (lkg rfl hb) rfl) rfl ?_
   refine .v (ev_or rfl rfl rfl rfl) rfl ?_
   refine .v (ev_mv rfl rfl) rfl ?_
   refine .w (fun _ => ev_fa rfl fo90_4 rfl (r := 4) rfl) rfl ?_
   refine .w (fun hb => ev_ld1 rfl ty82 (lkg rfl hb) (At.own1 1 rfl rfl)) rfl ?_
   refine .w (fun hb => ev_len rfl Try.underlying82 (lkg rfl hb)) rfl ?_
   refine .w (fun _ => ev_fa rfl fo90_4 rfl (r := 4) rfl) rfl ?_
   refine .w (fun hb => ev_ld1 rfl ty82 (lkg rfl hb) (At.own1 0 rfl rfl)) rfl ?_
   refine .w (fun hb => ev_len rfl Try.underlying82 (lkg rfl hb)) rfl ?_
   refine .w (fun hb => ev_cmp rfl (lkg rfl hb) (lkg rfl hb) rfl) rfl ?_
   refine .v (ev_or rfl rfl rfl rfl) rfl ?_
   refine .v (ev_mv rfl rfl) rfl ?_
   refine .w (fun _ => ev_fa rfl fo90_5 rfl (r := 5) rfl) rfl ?_
   refine .w (fun hb => ev_ld1 rfl ty56 (lkg rfl hb) (At.own1 1 rfl rfl)) rfl ?_
   refine .w (fun hb => ev_len rfl Try.underlying56 (lkg rfl hb)) rfl ?_
   refine .w (fun _ => ev_fa rfl fo90_5 rfl (r := 5) rfl) rfl ?_
   refine .w (fun hb => ev_ld1 rfl ty56 (lkg rfl hb) (At.own1 0 rfl rfl)) rfl ?_
   refine .w (fun hb => ev_len rfl Try.underlying56 (lkg rfl hb)) rfl ?_
   refine .w (fun hb => ev_cmp rfl (lkg rfl hb) (lkg rfl hb) rfl) rfl ?_
   refine .v (ev_or rfl rfl rfl rfl) rfl ?_
   refine .go idQ ?_
   refine .condI rfl (bO (bO (bO (bO (bO bNE bV) bNE) bV) bNE) bNE) (fun h6 => ?_) (fun h6 => ?_)
   ·
    refine .seq (.region ?_)
    refine .v (ev_as rfl rfl) rfl ?_
    refine .go idQ ?_
    exact .ret idQ (ret1 Try.results15 rfl .n ⟨(by exfalso; simp_all), rfl⟩)
   refine .skipgo idQ (.seq (.seq (.region ?_)))
   refine .v (ev_as rfl rfl) rfl ?_
   refine .go idQ (.block ?_)
   refine .loop (X := Int) (fun j => 0 ≤ j ∧ j ≤ (gt a i).v.ns.length) (fun j => [(0, .slice A n c), (1, .slice B n2 c2), (5, .int .i64 i), (6, .pointer (some ⟨b4, 0, none⟩)), (7, .pointer (some ⟨b5, 0, none⟩)), (8, .int .i64 j)]) (fun j => [cel b5 [.int .i64 ((gt b i).v.kind), .bool ((gt b i).v.truth), .int .i64 ((gt b i).v.num), .string ((gt b i).v.text), .slice ((gt b i).nA) ((gt b i).v.ns.length) ((gt b i).nc), .slice ((gt b i).kA) ((gt b i).v.ks.length) ((gt b i).kc)] 90, cel b4 [.int .i64 ((gt a i).v.kind), .bool ((gt a i).v.truth), .int .i64 ((gt a i).v.num), .string ((gt a i).v.text), .slice ((gt a i).nA) ((gt a i).v.ns.length) ((gt a i).nc), .slice ((gt a i).kA) ((gt a i).v.ks.length) ((gt a i).kc)] 90]) (fun _ => S) (fun _ => wf) (fun j => ((gt a i).v.ns.length - j.toNat)) (fun a_ w_ hs_ hw_ => ⟨0, (by exact ⟨by omega, by omega⟩), hs_.mono (Sub.get (.c rfl (.c rfl (.c rfl (.c rfl (.c rfl (.c rfl .n))))))), hw_.keep (.c .h (.c .h .n))⟩) (fun j ⟨p_0, p_1⟩ => ?_)
   show SC _ _ _ _ _ ⟨[(0, .slice A n c), (1, .slice B n2 c2), (5, .int .i64 i), (6, .pointer (some ⟨b4, 0, none⟩)), (7, .pointer (some ⟨b5, 0, none⟩)), (8, .int .i64 j)], [cel b5 [.int .i64 ((gt b i).v.kind), .bool ((gt b i).v.truth), .int .i64 ((gt b i).v.num), .string ((gt b i).v.text), .slice ((gt b i).nA) ((gt b i).v.ns.length) ((gt b i).nc), .slice ((gt b i).kA) ((gt b i).v.ks.length) ((gt b i).kc)] 90, cel b4 [.int .i64 ((gt a i).v.kind), .bool ((gt a i).v.truth), .int .i64 ((gt a i).v.num), .string ((gt a i).v.text), .slice ((gt a i).nA) ((gt a i).v.ns.length) ((gt a i).nc), .slice ((gt a i).kA) ((gt a i).v.ks.length) ((gt a i).kc)] 90], S, wf⟩
   refine .seq (.seq (.region ?_))
   refine .v (ev_mv rfl rfl) rfl ?_
   refine .v (ev_fa rfl fo90_4 rfl (r := 4) rfl) rfl ?_
   refine .v (ev_ld1 rfl ty82 rfl (At.own1 1 rfl rfl)) rfl ?_
   refine .v (ev_len rfl Try.underlying82 rfl) rfl ?_
   refine .v (ev_cmp rfl rfl rfl rfl) rfl ?_
   refine .go idQ ?_
   refine .condI rfl bD (fun h7 => ?_) (fun h7 => ?_)
   ·
    refine .skipgo idQ (.seq (.block (.seq ?_)))
    refine SC.draw mo [] [] .n (fun _ _ _ c hc => by cases hc) (fun wf_8 hl_8 hx_8 hR_8 => ?_)
    refine SR.k 0 rfl (by kernel_rfl) rfl (ev_fa rfl fo90_4 rfl (r := 4) rfl) ?_
    refine SR.k 1 rfl (by kernel_rfl) rfl (ev_ld1 rfl ty82 rfl (At.d (At.lent hR_8 1 rfl rfl))) ?_
    refine SR.k 2 rfl (by kernel_rfl) rfl (ev_mv rfl rfl) ?_
    refine SR.k 3 rfl (by kernel_rfl) rfl (ev_ix rfl Try.underlying82 ty9 rfl rfl (by omega) (by omega) (fun _ _ => Fr.adr (i := j) (((hNa).ext hx_8) _ (gt_mem (i := i) (by omega) (by omega))).1 (by omega) (by omega))) ?_
    refine SR.k 4 rfl (by kernel_rfl) rfl (ev_ld1 rfl ty9 rfl (At.elem1 (At.d (Fr.el (i := j) (((hNa).ext hx_8) _ (gt_mem (i := i) (by omega) (by omega))).1 (by omega) (by omega))) 0 rfl)) ?_
    refine SR.k 5 rfl (by kernel_rfl) rfl (ev_fa rfl fo90_4 rfl (r := 4) rfl) ?_
    refine SR.k 6 rfl (by kernel_rfl) rfl (ev_ld1 rfl ty82 rfl (At.d (At.lent hR_8 0 rfl rfl))) ?_
    refine SR.k 7 rfl (by kernel_rfl) rfl (ev_mv rfl rfl) ?_
    refine SR.k 8 rfl (by kernel_rfl) rfl (ev_ix rfl Try.underlying82 ty9 rfl rfl (by omega) (by omega) (fun _ _ => Fr.adr (i := j) (((hNb).ext hx_8) _ (gt_mem (i := i) (by omega) (by omega))).1 (by omega) (by omega))) ?_
    refine SR.k 9 rfl (by kernel_rfl) rfl (ev_ld1 rfl ty9 rfl (At.elem1 (At.d (Fr.el (i := j) (((hNb).ext hx_8) _ (gt_mem (i := i) (by omega) (by omega))).1 (by omega) (by omega))) 0 rfl)) ?_
    refine SR.k 10 rfl (by kernel_rfl) rfl (ev_scmp rfl rfl rfl rfl) ?_
    refine SR.fin (by kernel_rfl) hl_8 hx_8 hR_8 .n ?_
    refine SQ.go idQ ?_
    refine .condI rfl bV (fun h9 => ?_) (fun h9 => ?_)
    ·
     refine .seq (.region ?_)
     refine .v (ev_as rfl rfl) rfl ?_
     refine .go idQ ?_
     exact .ret idQ (ret1 Try.results15 rfl .n ⟨(by exfalso; simp_all), rfl⟩)
    refine .skipgo idQ (.region ?_)
    refine .v (ev_mv rfl rfl) rfl ?_
    refine .v (ev_add rfl rfl rfl (r := (j + 1)) rfl (by omega) (by omega)) rfl ?_
    refine .v (ev_as rfl rfl) rfl ?_
    exact SP.nil (SQ.roundb (X := Int) (x := (j)) (j + 1) (by exact ⟨by omega, by omega⟩) (by show (_ : Nat) < _; omega) (Sub.get (.c rfl (.c rfl (.c rfl (.c rfl (.c rfl (.c rfl .n))))))) (fun w hw => hw.keep (.c .h (.c .h .n))))
   refine .exit idQ ?_
   refine .seq (.region ?_)
   refine .v (ev_as rfl rfl) rfl ?_
   refine .go idQ (.block ?_)
   refine .loop (X := Int) (fun j => 0 ≤ j ∧ j ≤ (gt a i).v.ks.length) (fun j => [(0, .slice A n c), (1, .slice B n2 c2), (5, .int .i64 i), (6, .pointer (some ⟨b4, 0, none⟩)), (7, .pointer (some ⟨b5, 0, none⟩)), (9, .int .i64 j)]) (fun j => [cel b5 [.int .i64 ((gt b i).v.kind), .bool ((gt b i).v.truth), .int .i64 ((gt b i).v.num), .string ((gt b i).v.text), .slice ((gt b i).nA) ((gt b i).v.ns.length) ((gt b i).nc), .slice ((gt b i).kA) ((gt b i).v.ks.length) ((gt b i).kc)] 90, cel b4 [.int .i64 ((gt a i).v.kind), .bool ((gt a i).v.truth), .int .i64 ((gt a i).v.num), .string ((gt a i).v.text), .slice ((gt a i).nA) ((gt a i).v.ns.length) ((gt a i).nc), .slice ((gt a i).kA) ((gt a i).v.ks.length) ((gt a i).kc)] 90]) (fun _ => S) (fun _ => wf) (fun j => ((gt a i).v.ks.length - j.toNat)) (fun a_ w_ hs_ hw_ => ⟨0, (by exact ⟨by omega, by omega⟩), hs_.mono (Sub.get (.c rfl (.c rfl (.c rfl (.c rfl (.c rfl (.c rfl .n))))))), hw_.keep (.c .h (.c .h .n))⟩) (fun j ⟨p_0, p_1⟩ => ?_)
   show SC _ _ _ _ _ ⟨[(0, .slice A n c), (1, .slice B n2 c2), (5, .int .i64 i), (6, .pointer (some ⟨b4, 0, none⟩)), (7, .pointer (some ⟨b5, 0, none⟩)), (9, .int .i64 j)], [cel b5 [.int .i64 ((gt b i).v.kind), .bool ((gt b i).v.truth), .int .i64 ((gt b i).v.num), .string ((gt b i).v.text), .slice ((gt b i).nA) ((gt b i).v.ns.length) ((gt b i).nc), .slice ((gt b i).kA) ((gt b i).v.ks.length) ((gt b i).kc)] 90, cel b4 [.int .i64 ((gt a i).v.kind), .bool ((gt a i).v.truth), .int .i64 ((gt a i).v.num), .string ((gt a i).v.text), .slice ((gt a i).nA) ((gt a i).v.ns.length) ((gt a i).nc), .slice ((gt a i).kA) ((gt a i).v.ks.length) ((gt a i).kc)] 90], S, wf⟩
   refine .seq (.seq (.region ?_))
   refine .v (ev_mv rfl rfl) rfl ?_
   refine .v (ev_fa rfl fo90_5 rfl (r := 5) rfl) rfl ?_
   refine .v (ev_ld1 rfl ty56 rfl (At.own1 1 rfl rfl)) rfl ?_
   refine .v (ev_len rfl Try.underlying56 rfl) rfl ?_
   refine .v (ev_cmp rfl rfl rfl rfl) rfl ?_
   refine .go idQ ?_
   refine .condI rfl bD (fun h10 => ?_) (fun h10 => ?_)
   ·
    refine .skipgo idQ (.seq (.block (.seq ?_)))
    refine SC.draw mo [] [] .n (fun _ _ _ c hc => by cases hc) (fun wf_11 hl_11 hx_11 hR_11 => ?_)
    refine SR.k 0 rfl (by kernel_rfl) rfl (ev_fa rfl fo90_5 rfl (r := 5) rfl) ?_
    refine SR.k 1 rfl (by kernel_rfl) rfl (ev_ld1 rfl ty56 rfl (At.d (At.lent hR_11 1 rfl rfl))) ?_
    refine SR.k 2 rfl (by kernel_rfl) rfl (ev_mv rfl rfl) ?_
    refine SR.k 3 rfl (by kernel_rfl) rfl (ev_ix rfl Try.underlying56 ty3 rfl rfl (by omega) (by omega) (fun _ _ => Fr.adr (i := j) (((hNa).ext hx_11) _ (gt_mem (i := i) (by omega) (by omega))).2 (by omega) (by omega))) ?_
    refine SR.k 4 rfl (by kernel_rfl) rfl (ev_ld1 rfl ty3 rfl (At.elem1 (At.d (Fr.el (i := j) (((hNa).ext hx_11) _ (gt_mem (i := i) (by omega) (by omega))).2 (by omega) (by omega))) 0 rfl)) ?_
    refine SR.k 5 rfl (by kernel_rfl) rfl (ev_fa rfl fo90_5 rfl (r := 5) rfl) ?_
    refine SR.k 6 rfl (by kernel_rfl) rfl (ev_ld1 rfl ty56 rfl (At.d (At.lent hR_11 0 rfl rfl))) ?_
    refine SR.k 7 rfl (by kernel_rfl) rfl (ev_mv rfl rfl) ?_
    refine SR.k 8 rfl (by kernel_rfl) rfl (ev_ix rfl Try.underlying56 ty3 rfl rfl (by omega) (by omega) (fun _ _ => Fr.adr (i := j) (((hNb).ext hx_11) _ (gt_mem (i := i) (by omega) (by omega))).2 (by omega) (by omega))) ?_
    refine SR.k 9 rfl (by kernel_rfl) rfl (ev_ld1 rfl ty3 rfl (At.elem1 (At.d (Fr.el (i := j) (((hNb).ext hx_11) _ (gt_mem (i := i) (by omega) (by omega))).2 (by omega) (by omega))) 0 rfl)) ?_
    refine SR.k 10 rfl (by kernel_rfl) rfl (ev_cmp rfl rfl rfl rfl) ?_
    refine SR.fin (by kernel_rfl) hl_11 hx_11 hR_11 .n ?_
    refine SQ.go idQ ?_
    refine .condI rfl bNE (fun h12 => ?_) (fun h12 => ?_)
    ·
     refine .seq (.region ?_)
     refine .v (ev_as rfl rfl) rfl ?_
     refine .go idQ ?_
     exact .ret idQ (ret1 Try.results15 rfl .n ⟨(by exfalso; simp_all), rfl⟩)
    refine .skipgo idQ (.region ?_)
    refine .v (ev_mv rfl rfl) rfl ?_
    refine .v (ev_add rfl rfl rfl (r := (j + 1)) rfl (by omega) (by omega)) rfl ?_
    refine .v (ev_as rfl rfl) rfl ?_
    exact SP.nil (SQ.roundb (X := Int) (x := (j)) (j + 1) (by exact ⟨by omega, by omega⟩) (by show (_ : Nat) < _; omega) (Sub.get (.c rfl (.c rfl (.c rfl (.c rfl (.c rfl (.c rfl .n))))))) (fun w hw => hw.keep (.c .h (.c .h .n))))
   refine .exit idQ ?_
   refine .region ?_
   refine .v (ev_mv rfl rfl) rfl ?_
   refine .v (ev_add rfl rfl rfl (r := (i + 1)) rfl (by omega) (by omega)) rfl ?_
   refine .v (ev_as rfl rfl) rfl ?_
   exact SP.nil (SQ.roundb (X := Int) (x := (i)) (i + 1) (by exact ⟨by omega, by omega⟩) (by show (_ : Nat) < _; omega) (Sub.get (.c rfl (.c rfl (.c rfl .n)))) (fun w hw => hw.keep .n))
  refine st_alloc rfl rfl rfl rfl zf90 (fun b13 => ⟨tt0, ?_⟩)
  refine SR.one (j := 8) (by kernel_rfl) rfl (st_alloc rfl rfl rfl rfl zf90 (fun b14 => ⟨tt0, ?_⟩))
  refine SR.one (j := 10) (by kernel_rfl) rfl (st_storea (l' := [.int .i64 ((gt a i).v.kind), .bool ((gt a i).v.truth), .int .i64 ((gt a i).v.num), .string ((gt a i).v.text), .slice ((gt a i).nA) ((gt a i).v.ns.length) ((gt a i).nc), .slice ((gt a i).kA) ((gt a i).v.ks.length) ((gt a i).kc)]) rfl rfl rfl ty90 rfl rfl rfl .h rfl rfl ⟨tt0, ?_⟩)
  refine SR.one (j := 11) (by kernel_rfl) rfl (st_storea (l' := [.int .i64 ((gt b i).v.kind), .bool ((gt b i).v.truth), .int .i64 ((gt b i).v.num), .string ((gt b i).v.text), .slice ((gt b i).nA) ((gt b i).v.ns.length) ((gt b i).nc), .slice ((gt b i).kA) ((gt b i).v.ks.length) ((gt b i).kc)]) rfl rfl rfl ty90 rfl rfl rfl (.t .h) rfl rfl ⟨tt0, ?_⟩)
  refine SR.fin (by kernel_rfl) hl_3 hx_3 hR_3 (.c (.c .n)) ?_
  refine SQ.go idQ ?_
  refine .seq (.seq (.region ?_))
  refine .v (ev_fa rfl fo90_0 rfl (r := 0) rfl) rfl ?_
  refine .v (ev_ld1 rfl ty88 rfl (At.own1 1 rfl rfl)) rfl ?_
  refine .v (ev_fa rfl fo90_0 rfl (r := 0) rfl) rfl ?_
  refine .v (ev_ld1 rfl ty88 rfl (At.own1 0 rfl rfl)) rfl ?_
  refine .v (ev_cmp rfl rfl rfl rfl) rfl ?_
  refine .v (ev_mv rfl rfl) rfl ?_
  refine .w (fun _ => ev_fa rfl fo90_1 rfl (r := 1) rfl) rfl ?_
  refine .w (fun hb => ev_ld1 rfl ty4 (lkg rfl hb) (At.own1 1 rfl rfl)) rfl ?_
  refine .w (fun _ => ev_fa rfl fo90_1 rfl (r := 1) rfl) rfl ?_
  refine .w (fun hb => ev_ld1 rfl ty4 (lkg rfl hb) (At.own1 0 rfl rfl)) rfl ?_
  refine .w (fun hb => ev_bcmp rfl Try.underlying4 (lkg rfl hb) (lkg rfl hb) rfl) rfl ?_
  refine .v (ev_or rfl rfl rfl rfl) rfl ?_
  refine .v (ev_mv rfl rfl) rfl ?_
  refine .w (fun _ => ev_fa rfl fo90_2 rfl (r := 2) rfl) rfl ?_
  refine .w (fun hb => ev_ld1 rfl ty3 (lkg rfl hb) (At.own1 1 rfl rfl)) rfl ?_
  refine .w (fun _ => ev_fa rfl fo90_2 rfl (r := 2) rfl) rfl ?_
  refine .w (fun hb => ev_ld1 rfl ty3 (lkg rfl hb) (At.own1 0 rfl rfl)) rfl ?_
  refine .w (fun hb => ev_cmp rfl (lkg rfl hb) (lkg rfl hb) rfl) rfl ?_
  refine .v (ev_or rfl rfl rfl rfl) rfl ?_
  refine .v (ev_mv rfl rfl) rfl ?_
  refine .w (fun _ => ev_fa rfl fo90_3 rfl (r := 3) rfl) rfl ?_
  refine .w (fun hb => ev_ld1 rfl ty9 (lkg rfl hb) (At.own1 1 rfl rfl)) rfl ?_
  refine .w (fun _ => ev_fa rfl fo90_3 rfl (r := 3) rfl) rfl ?_
  refine .w (fun hb => ev_ld1 rfl ty9 (lkg rfl hb) (At.own1 0 rfl rfl)) rfl ?_
  refine .w (fun hb => ev_scmp rfl (lkg rfl hb) (lkg rfl hb) rfl) rfl ?_
  refine .v (ev_or rfl rfl rfl rfl) rfl ?_
  refine .v (ev_mv rfl rfl) rfl ?_
  refine .w (fun _ => ev_fa rfl fo90_4 rfl (r := 4) rfl) rfl ?_
  refine .w (fun hb => ev_ld1 rfl ty82 (lkg rfl hb) (At.own1 1 rfl rfl)) rfl ?_
  refine .w (fun hb => ev_len rfl Try.underlying82 (lkg rfl hb)) rfl ?_
  refine .w (fun _ => ev_fa rfl fo90_4 rfl (r := 4) rfl) rfl ?_
  refine .w (fun hb => ev_ld1 rfl ty82 (lkg rfl hb) (At.own1 0 rfl rfl)) rfl ?_
  refine .w (fun hb => ev_len rfl Try.underlying82 (lkg rfl hb)) rfl ?_
  refine .w (fun hb => ev_cmp rfl (lkg rfl hb) (lkg rfl hb) rfl) rfl ?_
  refine .v (ev_or rfl rfl rfl rfl) rfl ?_
  refine .v (ev_mv rfl rfl) rfl ?_
  refine .w (fun _ => ev_fa rfl fo90_5 rfl (r := 5) rfl) rfl ?_
  refine .w (fun hb => ev_ld1 rfl ty56 (lkg rfl hb) (At.own1 1 rfl rfl)) rfl ?_
  refine .w (fun hb => ev_len rfl Try.underlying56 (lkg rfl hb)) rfl ?_
  refine .w (fun _ => ev_fa rfl fo90_5 rfl (r := 5) rfl) rfl ?_
  refine .w (fun hb => ev_ld1 rfl ty56 (lkg rfl hb) (At.own1 0 rfl rfl)) rfl ?_
  refine .w (fun hb => ev_len rfl Try.underlying56 (lkg rfl hb)) rfl ?_
  refine .w (fun hb => ev_cmp rfl (lkg rfl hb) (lkg rfl hb) rfl) rfl ?_
  refine .v (ev_or rfl rfl rfl rfl) rfl ?_
  refine .go idQ ?_
  refine .condI rfl (bO (bO (bO (bO (bO bNE bV) bNE) bV) bNE) bNE) (fun h15 => ?_) (fun h15 => ?_)
  ·
   refine .seq (.region ?_)
   refine .v (ev_as rfl rfl) rfl ?_
   refine .go idQ ?_
   exact .ret idQ (ret1 Try.results15 rfl .n ⟨(by exfalso; simp_all), rfl⟩)
  refine .skipgo idQ (.seq (.seq (.region ?_)))
  refine .v (ev_as rfl rfl) rfl ?_
  refine .go idQ (.block ?_)
  refine .loop (X := Int) (fun j => 0 ≤ j ∧ j ≤ (gt a i).v.ns.length) (fun j => [(0, .slice A n c), (1, .slice B n2 c2), (5, .int .i64 i), (6, .pointer (some ⟨b14, 0, none⟩)), (7, .pointer (some ⟨b13, 0, none⟩)), (8, .int .i64 j)]) (fun j => [cel b13 [.int .i64 ((gt b i).v.kind), .bool ((gt b i).v.truth), .int .i64 ((gt b i).v.num), .string ((gt b i).v.text), .slice ((gt b i).nA) ((gt b i).v.ns.length) ((gt b i).nc), .slice ((gt b i).kA) ((gt b i).v.ks.length) ((gt b i).kc)] 90, cel b14 [.int .i64 ((gt a i).v.kind), .bool ((gt a i).v.truth), .int .i64 ((gt a i).v.num), .string ((gt a i).v.text), .slice ((gt a i).nA) ((gt a i).v.ns.length) ((gt a i).nc), .slice ((gt a i).kA) ((gt a i).v.ks.length) ((gt a i).kc)] 90]) (fun _ => S) (fun _ => wf) (fun j => ((gt a i).v.ns.length - j.toNat)) (fun a_ w_ hs_ hw_ => ⟨0, (by exact ⟨by omega, by omega⟩), hs_.mono (Sub.get (.c rfl (.c rfl (.c rfl (.c rfl (.c rfl (.c rfl .n))))))), hw_.keep (.c .h (.c .h .n))⟩) (fun j ⟨p_0, p_1⟩ => ?_)
  show SC _ _ _ _ _ ⟨[(0, .slice A n c), (1, .slice B n2 c2), (5, .int .i64 i), (6, .pointer (some ⟨b14, 0, none⟩)), (7, .pointer (some ⟨b13, 0, none⟩)), (8, .int .i64 j)], [cel b13 [.int .i64 ((gt b i).v.kind), .bool ((gt b i).v.truth), .int .i64 ((gt b i).v.num), .string ((gt b i).v.text), .slice ((gt b i).nA) ((gt b i).v.ns.length) ((gt b i).nc), .slice ((gt b i).kA) ((gt b i).v.ks.length) ((gt b i).kc)] 90, cel b14 [.int .i64 ((gt a i).v.kind), .bool ((gt a i).v.truth), .int .i64 ((gt a i).v.num), .string ((gt a i).v.text), .slice ((gt a i).nA) ((gt a i).v.ns.length) ((gt a i).nc), .slice ((gt a i).kA) ((gt a i).v.ks.length) ((gt a i).kc)] 90], S, wf⟩
  refine .seq (.seq (.region ?_))
  refine .v (ev_mv rfl rfl) rfl ?_
  refine .v (ev_fa rfl fo90_4 rfl (r := 4) rfl) rfl ?_
  refine .v (ev_ld1 rfl ty82 rfl (At.own1 1 rfl rfl)) rfl ?_
  refine .v (ev_len rfl Try.underlying82 rfl) rfl ?_
  refine .v (ev_cmp rfl rfl rfl rfl) rfl ?_
  refine .go idQ ?_
  refine .condI rfl bD (fun h16 => ?_) (fun h16 => ?_)
  ·
   refine .skipgo idQ (.seq (.block (.seq ?_)))
   refine SC.draw mo [] [] .n (fun _ _ _ c hc => by cases hc) (fun wf_17 hl_17 hx_17 hR_17 => ?_)
   refine SR.k 0 rfl (by kernel_rfl) rfl (ev_fa rfl fo90_4 rfl (r := 4) rfl) ?_
   refine SR.k 1 rfl (by kernel_rfl) rfl (ev_ld1 rfl ty82 rfl (At.d (At.lent hR_17 1 rfl rfl))) ?_
   refine SR.k 2 rfl (by kernel_rfl) rfl (ev_mv rfl rfl) ?_
   refine SR.k 3 rfl (by kernel_rfl) rfl (ev_ix rfl Try.underlying82 ty9 rfl rfl (by omega) (by omega) (fun _ _ => Fr.adr (i := j) (((hNa).ext hx_17) _ (gt_mem (i := i) (by omega) (by omega))).1 (by omega) (by omega))) ?_
   refine SR.k 4 rfl (by kernel_rfl) rfl (ev_ld1 rfl ty9 rfl (At.elem1 (At.d (Fr.el (i := j) (((hNa).ext hx_17) _ (gt_mem (i := i) (by omega) (by omega))).1 (by omega) (by omega))) 0 rfl)) ?_
   refine SR.k 5 rfl (by kernel_rfl) rfl (ev_fa rfl fo90_4 rfl (r := 4) rfl) ?_
   refine SR.k 6 rfl (by kernel_rfl) rfl (ev_ld1 rfl ty82 rfl (At.d (At.lent hR_17 0 rfl rfl))) ?_
   refine SR.k 7 rfl (by kernel_rfl) rfl (ev_mv rfl rfl) ?_
   refine SR.k 8 rfl (by kernel_rfl) rfl (ev_ix rfl Try.underlying82 ty9 rfl rfl (by omega) (by omega) (fun _ _ => Fr.adr (i := j) (((hNb).ext hx_17) _ (gt_mem (i := i) (by omega) (by omega))).1 (by omega) (by omega))) ?_
   refine SR.k 9 rfl (by kernel_rfl) rfl (ev_ld1 rfl ty9 rfl (At.elem1 (At.d (Fr.el (i := j) (((hNb).ext hx_17) _ (gt_mem (i := i) (by omega) (by omega))).1 (by omega) (by omega))) 0 rfl)) ?_
   refine SR.k 10 rfl (by kernel_rfl) rfl (ev_scmp rfl rfl rfl rfl) ?_
   refine SR.fin (by kernel_rfl) hl_17 hx_17 hR_17 .n ?_
   refine SQ.go idQ ?_
   refine .condI rfl bV (fun h18 => ?_) (fun h18 => ?_)
   ·
    refine .seq (.region ?_)
    refine .v (ev_as rfl rfl) rfl ?_
    refine .go idQ ?_
    exact .ret idQ (ret1 Try.results15 rfl .n ⟨(by exfalso; simp_all), rfl⟩)
   refine .skipgo idQ (.region ?_)
   refine .v (ev_mv rfl rfl) rfl ?_
   refine .v (ev_add rfl rfl rfl (r := (j + 1)) rfl (by omega) (by omega)) rfl ?_
   refine .v (ev_as rfl rfl) rfl ?_
   exact SP.nil (SQ.roundb (X := Int) (x := (j)) (j + 1) (by exact ⟨by omega, by omega⟩) (by show (_ : Nat) < _; omega) (Sub.get (.c rfl (.c rfl (.c rfl (.c rfl (.c rfl (.c rfl .n))))))) (fun w hw => hw.keep (.c .h (.c .h .n))))
  refine .exit idQ ?_
  refine .seq (.region ?_)
  refine .v (ev_as rfl rfl) rfl ?_
  refine .go idQ (.block ?_)
  refine .loop (X := Int) (fun j => 0 ≤ j ∧ j ≤ (gt a i).v.ks.length) (fun j => [(0, .slice A n c), (1, .slice B n2 c2), (5, .int .i64 i), (6, .pointer (some ⟨b14, 0, none⟩)), (7, .pointer (some ⟨b13, 0, none⟩)), (9, .int .i64 j)]) (fun j => [cel b13 [.int .i64 ((gt b i).v.kind), .bool ((gt b i).v.truth), .int .i64 ((gt b i).v.num), .string ((gt b i).v.text), .slice ((gt b i).nA) ((gt b i).v.ns.length) ((gt b i).nc), .slice ((gt b i).kA) ((gt b i).v.ks.length) ((gt b i).kc)] 90, cel b14 [.int .i64 ((gt a i).v.kind), .bool ((gt a i).v.truth), .int .i64 ((gt a i).v.num), .string ((gt a i).v.text), .slice ((gt a i).nA) ((gt a i).v.ns.length) ((gt a i).nc), .slice ((gt a i).kA) ((gt a i).v.ks.length) ((gt a i).kc)] 90]) (fun _ => S) (fun _ => wf) (fun j => ((gt a i).v.ks.length - j.toNat)) (fun a_ w_ hs_ hw_ => ⟨0, (by exact ⟨by omega, by omega⟩), hs_.mono (Sub.get (.c rfl (.c rfl (.c rfl (.c rfl (.c rfl (.c rfl .n))))))), hw_.keep (.c .h (.c .h .n))⟩) (fun j ⟨p_0, p_1⟩ => ?_)
  show SC _ _ _ _ _ ⟨[(0, .slice A n c), (1, .slice B n2 c2), (5, .int .i64 i), (6, .pointer (some ⟨b14, 0, none⟩)), (7, .pointer (some ⟨b13, 0, none⟩)), (9, .int .i64 j)], [cel b13 [.int .i64 ((gt b i).v.kind), .bool ((gt b i).v.truth), .int .i64 ((gt b i).v.num), .string ((gt b i).v.text), .slice ((gt b i).nA) ((gt b i).v.ns.length) ((gt b i).nc), .slice ((gt b i).kA) ((gt b i).v.ks.length) ((gt b i).kc)] 90, cel b14 [.int .i64 ((gt a i).v.kind), .bool ((gt a i).v.truth), .int .i64 ((gt a i).v.num), .string ((gt a i).v.text), .slice ((gt a i).nA) ((gt a i).v.ns.length) ((gt a i).nc), .slice ((gt a i).kA) ((gt a i).v.ks.length) ((gt a i).kc)] 90], S, wf⟩
  refine .seq (.seq (.region ?_))
  refine .v (ev_mv rfl rfl) rfl ?_
  refine .v (ev_fa rfl fo90_5 rfl (r := 5) rfl) rfl ?_
  refine .v (ev_ld1 rfl ty56 rfl (At.own1 1 rfl rfl)) rfl ?_
  refine .v (ev_len rfl Try.underlying56 rfl) rfl ?_
  refine .v (ev_cmp rfl rfl rfl rfl) rfl ?_
  refine .go idQ ?_
  refine .condI rfl bD (fun h19 => ?_) (fun h19 => ?_)
  ·
   refine .skipgo idQ (.seq (.block (.seq ?_)))
   refine SC.draw mo [] [] .n (fun _ _ _ c hc => by cases hc) (fun wf_20 hl_20 hx_20 hR_20 => ?_)
   refine SR.k 0 rfl (by kernel_rfl) rfl (ev_fa rfl fo90_5 rfl (r := 5) rfl) ?_
   refine SR.k 1 rfl (by kernel_rfl) rfl (ev_ld1 rfl ty56 rfl (At.d (At.lent hR_20 1 rfl rfl))) ?_
   refine SR.k 2 rfl (by kernel_rfl) rfl (ev_mv rfl rfl) ?_
   refine SR.k 3 rfl (by kernel_rfl) rfl (ev_ix rfl Try.underlying56 ty3 rfl rfl (by omega) (by omega) (fun _ _ => Fr.adr (i := j) (((hNa).ext hx_20) _ (gt_mem (i := i) (by omega) (by omega))).2 (by omega) (by omega))) ?_
   refine SR.k 4 rfl (by kernel_rfl) rfl (ev_ld1 rfl ty3 rfl (At.elem1 (At.d (Fr.el (i := j) (((hNa).ext hx_20) _ (gt_mem (i := i) (by omega) (by omega))).2 (by omega) (by omega))) 0 rfl)) ?_
   refine SR.k 5 rfl (by kernel_rfl) rfl (ev_fa rfl fo90_5 rfl (r := 5) rfl) ?_
   refine SR.k 6 rfl (by kernel_rfl) rfl (ev_ld1 rfl ty56 rfl (At.d (At.lent hR_20 0 rfl rfl))) ?_
   refine SR.k 7 rfl (by kernel_rfl) rfl (ev_mv rfl rfl) ?_
   refine SR.k 8 rfl (by kernel_rfl) rfl (ev_ix rfl Try.underlying56 ty3 rfl rfl (by omega) (by omega) (fun _ _ => Fr.adr (i := j) (((hNb).ext hx_20) _ (gt_mem (i := i) (by omega) (by omega))).2 (by omega) (by omega))) ?_
   refine SR.k 9 rfl (by kernel_rfl) rfl (ev_ld1 rfl ty3 rfl (At.elem1 (At.d (Fr.el (i := j) (((hNb).ext hx_20) _ (gt_mem (i := i) (by omega) (by omega))).2 (by omega) (by omega))) 0 rfl)) ?_
   refine SR.k 10 rfl (by kernel_rfl) rfl (ev_cmp rfl rfl rfl rfl) ?_
   refine SR.fin (by kernel_rfl) hl_20 hx_20 hR_20 .n ?_
   refine SQ.go idQ ?_
   refine .condI rfl bNE (fun h21 => ?_) (fun h21 => ?_)
   ·
    refine .seq (.region ?_)
    refine .v (ev_as rfl rfl) rfl ?_
    refine .go idQ ?_
    exact .ret idQ (ret1 Try.results15 rfl .n ⟨(by exfalso; simp_all), rfl⟩)
   refine .skipgo idQ (.region ?_)
   refine .v (ev_mv rfl rfl) rfl ?_
   refine .v (ev_add rfl rfl rfl (r := (j + 1)) rfl (by omega) (by omega)) rfl ?_
   refine .v (ev_as rfl rfl) rfl ?_
   exact SP.nil (SQ.roundb (X := Int) (x := (j)) (j + 1) (by exact ⟨by omega, by omega⟩) (by show (_ : Nat) < _; omega) (Sub.get (.c rfl (.c rfl (.c rfl (.c rfl (.c rfl (.c rfl .n))))))) (fun w hw => hw.keep (.c .h (.c .h .n))))
  refine .exit idQ ?_
  refine .region ?_
  refine .v (ev_mv rfl rfl) rfl ?_
  refine .v (ev_add rfl rfl rfl (r := (i + 1)) rfl (by omega) (by omega)) rfl ?_
  refine .v (ev_as rfl rfl) rfl ?_
  exact SP.nil (SQ.roundb (X := Int) (x := (i)) (i + 1) (by exact ⟨by omega, by omega⟩) (by show (_ : Nat) < _; omega) (Sub.get (.c rfl (.c rfl (.c rfl .n)))) (fun w hw => hw.keep .n))
 refine .exit idQ ?_
 refine .seq (.region ?_)
 refine .v (ev_as rfl rfl) rfl ?_
 refine .go idQ ?_
 exact .ret idQ (ret1 Try.results15 rfl .n ⟨rfl, rfl⟩)
end Go.Proofs.Ythmkelkefmfmgaa.Sx
set_option maxRecDepth 20000
set_option maxHeartbeats 4000000
namespace Go.Proofs.Ythmkelkefmfmgaa.Sx.FGB
open Go Go.SX Go.Proofs
theorem zf52 : (Try.prog.info? 52).bind (fun i => i.zero.map Value.cells) = some (List.toArray [.int .i64 0, .slice none 0 0, .int .i64 0, .int .i64 0, .int .i64 0, .int .i64 0, .int .i64 0]) := by kernel_rfl
theorem ty52 : ty Try.prog 52 = some (true, 7) := by kernel_rfl
theorem mo : Try.prog.follows .mixedOrders = true := by kernel_rfl
theorem zf58 : (Try.prog.info? 58).bind (fun i => i.zero.map Value.cells) = some (List.toArray [.int .i64 0, .int .i64 0, .int .i64 0, .int .i64 0, .int .i64 0, .int .i64 0, .slice none 0 0, .int .i64 0, .int .i64 0]) := by kernel_rfl
theorem ty58 : ty Try.prog 58 = some (true, 9) := by kernel_rfl
theorem hbd66 : hasBody Try.prog 66 = true := by kernel_rfl
theorem fo58_0 : fo Try.prog 58 0 = some 0 := by kernel_rfl
theorem fo58_5 : fo Try.prog 58 5 = some 6 := by kernel_rfl
theorem ty56 : ty Try.prog 56 = some (false, 1) := by kernel_rfl
theorem ai3 : (Try.prog.info? 3).map (fun i => (i.zero, i.size, i.bytes)) = some (some (.int .i64 0), 1, 8) := by kernel_rfl
theorem fo52_1 : fo Try.prog 52 1 = some 1 := by kernel_rfl
theorem ty50 : ty Try.prog 50 = some (false, 1) := by kernel_rfl
end Go.Proofs.Ythmkelkefmfmgaa.Sx.FGB
set_option maxRecDepth 20000
set_option maxHeartbeats 4000000
namespace Go.Proofs.Ythmkelkefmfmgaa.Sx.FGC
open Go Go.SX Go.Proofs
theorem ty30 : ty Try.prog 30 = some (true, 14) := by kernel_rfl
theorem mo : Try.prog.follows .mixedOrders = true := by kernel_rfl
theorem fo30_3 : fo Try.prog 30 3 = some 12 := by kernel_rfl
theorem ty27 : ty Try.prog 27 = some (false, 1) := by kernel_rfl
theorem fo30_4 : fo Try.prog 30 4 = some 13 := by kernel_rfl
theorem ty28 : ty Try.prog 28 = some (false, 1) := by kernel_rfl
end Go.Proofs.Ythmkelkefmfmgaa.Sx.FGC
set_option maxRecDepth 20000
set_option maxHeartbeats 4000000
namespace Go.Proofs.Ythmkelkefmfmgaa.Sx.FGD
open Go Go.SX Go.Proofs
theorem ty30 : ty Try.prog 30 = some (true, 14) := by kernel_rfl
theorem mo : Try.prog.follows .mixedOrders = true := by kernel_rfl
theorem hbd11 : hasBody Try.prog 11 = true := by kernel_rfl
end Go.Proofs.Ythmkelkefmfmgaa.Sx.FGD
namespace Go.Proofs.Ythmkelkefmfmgaa.Sx
open Go Go.SX Go.Proofs FGD
theorem tree_any (cd : Int) (at_ : Int) (path : ByteArray) (op : Bool) (x0 : Int) (x1 : Int) (x2 : Int) (x3 : Int) (x4 : Int) (x5 : Int) (x6 : Int) (x7 : Int) (pA : Option Addr) (pc : Nat) (Ps : List PV) (kA : Option Addr) (kc : Nat) (Lt : List TK) (S : Nat → Prop) (wf : World) (hP : Fr ePL S wf pA Ps) (hK : Fr eTK S wf kA Lt) (hN : NP S wf Ps) (hps : Ps.length ≤ 8192) (hlf : Lt.length ≤ 8192) (hS : ∀ p ∈ Ps, bP p) :
  TR0 Try.prog 11 [.agg #[.int .i64 cd, .int .i64 at_, .string path, .bool op, .int .i64 x0, .int .i64 x1, .int .i64 x2, .int .i64 x3, .int .i64 x4, .int .i64 x5, .int .i64 x6, .int .i64 x7, .slice pA Ps.length pc, .slice kA Lt.length kc]] [] S wf (fun v_ C_ => ∃ (u : Value) (L : List TV), (vs L = treeF cd at_ path op ⟨x0, x1, x2, x3, x4, x5, x6, x7⟩ Ps Lt) ∧ (L.length ≤ 1000000000000) ∧ v_ = u ∧ C_ = [rw_ eTV 90 (u) L, nest 9 3 L]) := by
 by_cases hc : cd = 0
 · exact (tree_ cd at_ path op x0 x1 x2 x3 x4 x5 x6 x7 pA pc Ps kA kc Lt S wf hP hK hN hc hps hlf hS).mono (fun v C h => by obtain ⟨u, L, h1, h2, h3, h4⟩ := h; exact ⟨u, L, h1.trans (treeF_o hc), h2, h3, h4⟩)
 · exact (tree_g cd at_ path op x0 x1 x2 x3 x4 x5 x6 x7 pA pc Ps kA kc Lt S wf hc).mono (fun v C h => by obtain ⟨u, L, h1, h3, h4⟩ := h; have h_ : L.length = 5 := (by rw [← vs_len, h1]; rfl); exact ⟨u, L, h1.trans (treeF_f hc), by omega, h3, h4⟩)
end Go.Proofs.Ythmkelkefmfmgaa.Sx
set_option maxRecDepth 20000
set_option maxHeartbeats 4000000
namespace Go.Proofs.Ythmkelkefmfmgaa.Sx.FGE
open Go Go.SX Go.Proofs
theorem hbd8 : hasBody Try.prog 8 = true := by kernel_rfl
theorem hbd14 : hasBody Try.prog 14 = true := by kernel_rfl
theorem ai90 : (Try.prog.info? 90).map (fun i => (i.zero, i.size, i.bytes)) = some (some (.agg #[.int .i64 0, .bool false, .int .i64 0, .string ⟨#[]⟩, .slice none 0 0, .slice none 0 0]), 6, 88) := by kernel_rfl
theorem ty30 : ty Try.prog 30 = some (true, 14) := by kernel_rfl
theorem hbd11 : hasBody Try.prog 11 = true := by kernel_rfl
theorem hbd15 : hasBody Try.prog 15 = true := by kernel_rfl
end Go.Proofs.Ythmkelkefmfmgaa.Sx.FGE
set_option maxRecDepth 20000
set_option maxHeartbeats 4000000
namespace Go.Proofs.Ythmkelkefmfmgaa.Sx.FQA
open Go Go.SX Go.Proofs
theorem hbd52 : hasBody Try.prog 52 = true := by kernel_rfl
theorem hbd34 : hasBody Try.prog 34 = true := by kernel_rfl
theorem hbd51 : hasBody Try.prog 51 = true := by kernel_rfl
theorem hbd32 : hasBody Try.prog 32 = true := by kernel_rfl
theorem ty9 : ty Try.prog 9 = some (false, 1) := by kernel_rfl
end Go.Proofs.Ythmkelkefmfmgaa.Sx.FQA
namespace Go.Proofs.Ythmkelkefmfmgaa.Sx
open Go Go.SX Go.Proofs FQA
theorem quoteS (s : ByteArray) (S : Nat → Prop) (wf : World) (hs : s.size ≤ 1000000000) :
  TR0 Try.prog 34 [.string s] [] S wf (fun v_ C_ => ∃ (o : ByteArray), (bs o = quoteF s) ∧ (o.size ≤ 6 * s.size + 2) ∧ v_ = .string o ∧ C_ = []) := by
 refine TR.mk Try.func34 rfl Try.ntmps34 rfl rfl (fun w_ => ?_)
 refine .seq (.region ?_)
 refine .v (ev_as rfl rfl) rfl ?_
 refine .go idQ (.seq ?_)
 refine SC.nilrow eY 5 ?_
 refine .region ?_
 refine .v (ev_mv rfl rfl) rfl ?_
 refine .cons (st_call0 rfl rfl rfl rfl hbd52 rfl (.c .h .n) (quote_ (.slice none 0 0) ([] : List Int) s _ _ (by omega) (by first | omega | simp only [LL] <;> omega | simp <;> omega)) (fun v_q2 C_q2 q2 => ?_))
 obtain ⟨u1, rfl, rfl⟩ := q2
 show SP _ _ _ _ _ _ ⟨_, _ :: _, _, _⟩
 refine .know (row_len 0 rfl) (fun hv5 => ?_)
 obtain ⟨A3, c4, rfl, hv5_1, hv5_2⟩ := hv5
 unfold maxLen at hv5_2
 refine .v (ev_b2s (l := (([] : List Int) ++ quoteF s)) rfl Try.underlying36 Try.underlying5 Try.underlying9 rfl (by first | rfl | assumption | omega | ((try simp only [List.length_take, List.length_drop, List.length_append, List.length_cons, List.length_nil]) <;> omega)) (row_src 0 rfl)) rfl ?_
 refine .v (ev_as rfl rfl) rfl ?_
 refine .go idQ ?_
 exact .ret idQ (ret1 Try.results34 rfl .n ⟨(mkS (([] : List Int) ++ quoteF s)), (by rw [List.nil_append]; exact bs_mkS (quoteF_range s)), (by rw [← bs_len, List.nil_append, bs_mkS (quoteF_range s)]; exact quoteF_len s), rfl, rfl⟩)
theorem field_ (a : ByteArray) (v : ByteArray) (S : Nat → Prop) (wf : World) (ha : a.size ≤ 10) (hv : v.size ≤ 1000000000) :
  TR0 Try.prog 32 [.string a, .string v] [] S wf (fun v_ C_ => ∃ (o : ByteArray), (bs o = quoteF a ++ [58] ++ bs v) ∧ (o.size ≤ v.size + 65) ∧ v_ = .string o ∧ C_ = []) := by
 refine TR.mk Try.func32 rfl Try.ntmps32 rfl rfl (fun w_ => ?_)
 refine .seq (.region ?_)
 refine .v (ev_as rfl rfl) rfl ?_
 refine .go idQ (.seq (.region ?_))
 refine .v (ev_mv rfl rfl) rfl ?_
 refine .cons (st_call00 rfl rfl rfl rfl hbd34 rfl .n (quoteS a _ _ (by omega)) (by intro v C h; obtain ⟨_, _, _, rfl, rfl⟩ := h; rfl) (fun v_q2 q2 => ?_))
 obtain ⟨o1, p3, p4, rfl, -⟩ := q2
 refine .v (ev_sadd rfl rfl rfl (by (try simp only [ByteArray.size_append]); show (((o1.size : Nat) + (1 : Nat) : Nat) : Int) ≤ 9223372036854775807; omega)) rfl ?_
 refine .v (ev_mv rfl rfl) rfl ?_
 refine .v (ev_sadd rfl rfl rfl (by (try simp only [ByteArray.size_append]); show ((((o1.size + 1) : Nat) + (v.size : Nat) : Nat) : Int) ≤ 9223372036854775807; omega)) rfl ?_
 refine .v (ev_as rfl rfl) rfl ?_
 refine .go idQ ?_
 exact .ret idQ (ret1 Try.results32 rfl .n ⟨((((o1 : ByteArray) ++ (⟨#[58]⟩ : ByteArray)) : ByteArray) ++ (v : ByteArray)), (by rw [bs_append, bs_append, p3]; rfl), (by (try simp only [ByteArray.size_append]); show ((o1.size + 1) + v.size) ≤ _; omega), rfl, rfl⟩)
theorem number22 (a : ByteArray) (x : Int) (S : Nat → Prop) (wf : World) (ha : a.size ≤ 10) (h_x : -9223372036854775808 ≤ x ∧ x ≤ 9223372036854775807) :
  TR0 Try.prog 33 [.string a, .int .i64 x] [] S wf (fun v_ C_ => ∃ (o : ByteArray), (bs o = quoteF a ++ [58] ++ numL x) ∧ (o.size ≤ 95) ∧ v_ = .string o ∧ C_ = []) := by
 refine TR.mk Try.func33 rfl Try.ntmps33 rfl rfl (fun w_ => ?_)
 refine .seq (.region ?_)
 refine .v (ev_as rfl rfl) rfl ?_
 refine .go idQ (.seq (.region ?_))
 refine .v (ev_mv rfl rfl) rfl ?_
 refine .v (ev_mv rfl rfl) rfl ?_
 refine .cons (st_callk rfl rfl rfl rfl hbd51 rfl .n (numtxt x _ _ (by omega)) ?_)
 refine .cons (st_call00 rfl rfl rfl rfl hbd32 rfl .n (field_ a (numS x) _ _ (by omega) (Nat.le_trans (numS_size (by omega) (by omega)) (by decide))) (by intro v C h; obtain ⟨_, _, _, rfl, rfl⟩ := h; rfl) (fun v_q2 q2 => ?_))
 obtain ⟨o1, p3, p4, rfl, -⟩ := q2
 have hz5 : o1.size ≤ (numS x).size + 65 := by have h_ := p4; (try simp only [ByteArray.size_append] at h_); exact h_
 refine .v (ev_as rfl rfl) rfl ?_
 refine .go idQ ?_
 exact .ret idQ (ret1 Try.results33 rfl .n ⟨o1, (by rw [p3, bs_numS]), (by have h_ := numS_size (a := x) (by omega) (by omega); omega), rfl, rfl⟩)
theorem all_s (A : Option Addr) (n : Nat) (c : Nat) (l : List ByteArray) (S : Nat → Prop) (wf : World) (hA : Fr eS S wf A l) (hn : l.length = n) (hJ : (joinL (l.map bs)).length ≤ 1000000000) :
  TR0 Try.prog 31 [.slice A n c] [] S wf (fun v_ C_ => ∃ (o : ByteArray), (bs o = joinL (l.map bs)) ∧ (o.size = (joinL (l.map bs)).length) ∧ v_ = .string o ∧ C_ = []) := by
 have hla := hA.len
 refine TR.mk Try.func31 rfl Try.ntmps31 rfl rfl (fun w_ => ?_)
 refine .seq (.region ?_)
 refine .v (ev_as rfl rfl) rfl ?_
 refine .go idQ (.seq (.region ?_))
 refine .v (ev_as rfl rfl) rfl ?_
 refine .go idQ (.seq (.seq (.region ?_)))
 refine .v (ev_as rfl rfl) rfl ?_
 refine .go idQ (.block ?_)
 refine .loop (X := Int × ByteArray) (fun ⟨i, s⟩ => 0 ≤ i ∧ i ≤ l.length ∧ bs s = joinL ((l.take i.toNat).map bs) ∧ (s.size : Int) ≤ (joinL (l.map bs)).length) (fun ⟨i, s⟩ => [(0, .slice A n c), (3, .string s), (4, .int .i64 i)]) (fun ⟨i, s⟩ => []) (fun _ => S) (fun _ => wf) (fun ⟨i, s⟩ => (l.length - i.toNat)) (fun a_ w_ hs_ hw_ => ⟨⟨0, ⟨#[]⟩⟩, (by exact ⟨by omega, by omega, rfl, by show ((0 : Nat) : Int) ≤ _; omega⟩), hs_.mono (Sub.get (.c rfl (.c rfl (.c rfl .n)))), hw_.keep .n⟩) (fun ⟨i, s⟩ ⟨q_0, q_1, q_2, q_3⟩ => ?_)
 show SC _ _ _ _ _ ⟨[(0, .slice A n c), (3, .string s), (4, .int .i64 i)], [], S, wf⟩
 refine .seq (.seq (.region ?_))
 refine .v (ev_mv rfl rfl) rfl ?_
 refine .v (ev_mv rfl rfl) rfl ?_
 refine .v (ev_len rfl Try.underlying82 rfl) rfl ?_
 refine .v (ev_cmp rfl rfl rfl rfl) rfl ?_
 refine .go idQ ?_
 refine .condI rfl bD (fun h1 => ?_) (fun h1 => ?_)
 ·
  refine .skipgo idQ (.seq (.block (.seq (.seq (.region ?_)))))
  refine .v (ev_mv rfl rfl) rfl ?_
  refine .v (ev_cmp rfl rfl rfl rfl) rfl ?_
  refine .go idQ ?_
  refine .condI rfl bD (fun h2 => ?_) (fun h2 => ?_)
  ·
   refine .region ?_
   refine .v (ev_mv rfl rfl) rfl ?_
   refine .v (ev_sadd rfl rfl rfl (by (try simp only [ByteArray.size_append]); show (((s.size : Nat) + (1 : Nat) : Nat) : Int) ≤ 9223372036854775807; omega)) rfl ?_
   refine .v (ev_as rfl rfl) rfl ?_
   refine .go idQ ?_
   have hel := join_el (l := l) (i := i) q_0 (by omega)
   refine .region ?_
   refine .v (ev_mv rfl rfl) rfl ?_
   refine .v (ev_mv rfl rfl) rfl ?_
   refine .v (ev_mv rfl rfl) rfl ?_
   refine .v (ev_ix rfl Try.underlying82 ty9 rfl rfl (by omega) (by omega) (fun _ _ => Fr.adr (i := i) hA (by omega) (by omega))) rfl ?_
   refine .v (ev_ld1 rfl ty9 rfl (At.elem1 (At.w (Fr.el (i := i) hA (by omega) (by omega))) 0 rfl)) rfl ?_
   refine .v (ev_sadd rfl rfl rfl (by (try simp only [ByteArray.size_append]); show ((((s.size + 1) : Nat) + ((gt l i).size : Nat) : Nat) : Int) ≤ 9223372036854775807; omega)) rfl ?_
   refine .v (ev_as rfl rfl) rfl ?_
   refine .go idQ (.region ?_)
   refine .v (ev_mv rfl rfl) rfl ?_
   refine .v (ev_add rfl rfl rfl (r := (i + 1)) rfl (by omega) (by omega)) rfl ?_
   refine .v (ev_as rfl rfl) rfl ?_
   exact SP.nil (SQ.roundb (X := Int × ByteArray) (x := (i, s)) ⟨(i + 1), ((((s : ByteArray) ++ (⟨#[44]⟩ : ByteArray)) : ByteArray) ++ ((gt l i) : ByteArray))⟩ (by have h_ := join_1 q_2 q_0 (by omega) (by omega); exact ⟨by omega, by omega, h_, by have e_ := congrArg List.length h_; rw [bs_len] at e_; have e2_ := joinL_tk l (i + 1).toNat; rw [e_]; omega⟩) (by dsimp only; omega) (Sub.get (.c rfl (.c rfl (.c rfl .n)))) (fun w hw => hw.keep .n))
  refine .skipgo idQ ?_
  have hel := join_el (l := l) (i := i) q_0 (by omega)
  refine .region ?_
  refine .v (ev_mv rfl rfl) rfl ?_
  refine .v (ev_mv rfl rfl) rfl ?_
  refine .v (ev_mv rfl rfl) rfl ?_
  refine .v (ev_ix rfl Try.underlying82 ty9 rfl rfl (by omega) (by omega) (fun _ _ => Fr.adr (i := i) hA (by omega) (by omega))) rfl ?_
  refine .v (ev_ld1 rfl ty9 rfl (At.elem1 (At.w (Fr.el (i := i) hA (by omega) (by omega))) 0 rfl)) rfl ?_
  refine .v (ev_sadd rfl rfl rfl (by (try simp only [ByteArray.size_append]); show (((s.size : Nat) + ((gt l i).size : Nat) : Nat) : Int) ≤ 9223372036854775807; omega)) rfl ?_
  refine .v (ev_as rfl rfl) rfl ?_
  refine .go idQ (.region ?_)
  refine .v (ev_mv rfl rfl) rfl ?_
  refine .v (ev_add rfl rfl rfl (r := (i + 1)) rfl (by omega) (by omega)) rfl ?_
  refine .v (ev_as rfl rfl) rfl ?_
  exact SP.nil (SQ.roundb (X := Int × ByteArray) (x := (i, s)) ⟨(i + 1), ((s : ByteArray) ++ ((gt l i) : ByteArray))⟩ (by have h_ := join_0 q_2 q_0 (by omega) (by omega); exact ⟨by omega, by omega, h_, by have e_ := congrArg List.length h_; rw [bs_len] at e_; have e2_ := joinL_tk l (i + 1).toNat; rw [e_]; omega⟩) (by dsimp only; omega) (Sub.get (.c rfl (.c rfl (.c rfl .n)))) (fun w hw => hw.keep .n))
 refine .exit idQ ?_
 refine .seq (.region ?_)
 refine .v (ev_mv rfl rfl) rfl ?_
 refine .v (ev_as rfl rfl) rfl ?_
 refine .go idQ ?_
 exact .ret idQ (ret1 Try.results31 rfl .n ⟨s, (join_end q_2 (by omega)), (by rw [← bs_len, join_end q_2 (by omega)]), rfl, rfl⟩)
end Go.Proofs.Ythmkelkefmfmgaa.Sx
set_option maxRecDepth 20000
set_option maxHeartbeats 4000000
namespace Go.Proofs.Ythmkelkefmfmgaa.Sx.FQB
open Go Go.SX Go.Proofs
theorem fo58_0 : fo Try.prog 58 0 = some 0 := by kernel_rfl
theorem fo55_0 : fo Try.prog 55 0 = some 0 := by kernel_rfl
theorem ty53 : ty Try.prog 53 = some (false, 1) := by kernel_rfl
theorem ty9 : ty Try.prog 9 = some (false, 1) := by kernel_rfl
theorem fo58_5 : fo Try.prog 58 5 = some 6 := by kernel_rfl
theorem ty56 : ty Try.prog 56 = some (false, 1) := by kernel_rfl
theorem ty3 : ty Try.prog 3 = some (false, 1) := by kernel_rfl
theorem hbd51 : hasBody Try.prog 51 = true := by kernel_rfl
theorem ai9 : (Try.prog.info? 9).map (fun i => (i.zero, i.size, i.bytes)) = some (some (.string ⟨#[]⟩), 1, 16) := by kernel_rfl
theorem hbd32 : hasBody Try.prog 32 = true := by kernel_rfl
theorem fo55_1 : fo Try.prog 55 1 = some 1 := by kernel_rfl
theorem hbd33 : hasBody Try.prog 33 = true := by kernel_rfl
theorem fo58_1 : fo Try.prog 58 1 = some 2 := by kernel_rfl
theorem fo58_2 : fo Try.prog 58 2 = some 3 := by kernel_rfl
theorem fo58_3 : fo Try.prog 58 3 = some 4 := by kernel_rfl
theorem fo58_4 : fo Try.prog 58 4 = some 5 := by kernel_rfl
theorem hbd31 : hasBody Try.prog 31 = true := by kernel_rfl
theorem fo58_6 : fo Try.prog 58 6 = some 7 := by kernel_rfl
theorem fo58_7 : fo Try.prog 58 7 = some 8 := by kernel_rfl
theorem mo : Try.prog.follows .mixedOrders = true := by kernel_rfl
end Go.Proofs.Ythmkelkefmfmgaa.Sx.FQB
namespace Go.Proofs.Ythmkelkefmfmgaa.Sx
open Go Go.SX Go.Proofs FQB
theorem step_t (k : Int) (it : Int) (pl : Int) (ar : Int) (wt : Int) (sv : Int) (lA : Option Addr) (lc : Nat) (load : List Int) (tm : Int) (ds : Int) (S : Nat → Prop) (wf : World) (hA : Fr eZ S wf lA load) (hm : load.length ≤ 10) (hF : ∀ x ∈ stepZ (ST.mk k it pl ar wt sv load tm ds lA lc), fitP x) :
  TR0 Try.prog 53 [.agg #[.int .i64 k, .int .i64 it, .int .i64 pl, .int .i64 ar, .int .i64 wt, .int .i64 sv, .slice lA load.length lc, .int .i64 tm, .int .i64 ds]] [] S wf (fun v_ C_ => ∃ (o : ByteArray), (bs o = txt (stepJ (ST.mk k it pl ar wt sv load tm ds lA lc))) ∧ (o.size ≤ 3000) ∧ v_ = .string o ∧ C_ = []) := by
 have hla := hA.len
 have hf_it := fit_i64 (hF it (by simp [stepZ]))
 have hf_pl := fit_i64 (hF pl (by simp [stepZ]))
 have hf_ar := fit_i64 (hF ar (by simp [stepZ]))
 have hf_wt := fit_i64 (hF wt (by simp [stepZ]))
 have hf_sv := fit_i64 (hF sv (by simp [stepZ]))
 have hf_tm := fit_i64 (hF tm (by simp [stepZ]))
 have hf_ds := fit_i64 (hF ds (by simp [stepZ]))
 refine TR.mk Try.func53 rfl Try.ntmps53 rfl rfl (fun w_ => ?_)
 refine .seq (.region ?_)
 refine .cons (st_boxa rfl rfl rfl rfl rfl (fun b1 => ?_))
 refine .v (ev_as rfl rfl) rfl ?_
 refine .go idQ (.seq (.region ?_))
 refine .cons (st_lit eS (e := 9) (l := [⟨#[106, 111, 98]⟩, ⟨#[112, 105, 99, 107, 117, 112]⟩, ⟨#[100, 101, 108, 105, 118, 101, 114, 121]⟩, ⟨#[98, 114, 101, 97, 107]⟩, ⟨#[115, 116, 97, 114, 116]⟩, ⟨#[101, 110, 100]⟩]) rfl rfl rfl rfl (by kernel_rfl) rfl rfl (fun w => by kernel_rfl) (fun b2 => ?_))
 refine .v (ev_as rfl rfl) rfl ?_
 refine .go idQ (.seq (.region ?_))
 refine .v (ev_as rfl rfl) rfl ?_
 refine .go idQ (.seq (.seq (.region ?_)))
 refine .v (ev_fa rfl fo58_0 rfl (r := 0) rfl) rfl ?_
 refine .v (ev_fa rfl fo55_0 rfl (r := 0) rfl) rfl ?_
 refine .v (ev_ld1 rfl ty53 rfl (At.own1 1 rfl rfl)) rfl ?_
 refine .v (ev_cmp rfl rfl rfl rfl) rfl ?_
 refine .v (ev_mv rfl rfl) rfl ?_
 refine .w (fun _ => ev_fa rfl fo58_0 rfl (r := 0) rfl) rfl ?_
 refine .w (fun hb => ev_fa rfl fo55_0 (lkg rfl hb) (r := 0) rfl) rfl ?_
 refine .w (fun hb => ev_ld1 rfl ty53 (lkg rfl hb) (At.own1 1 rfl rfl)) rfl ?_
 refine .w (fun hb => ev_cmp rfl (lkg rfl hb) rfl rfl) rfl ?_
 refine .v (ev_and rfl rfl rfl rfl) rfl ?_
 refine .go idQ ?_
 refine .condI rfl (bA bD bD) (fun h3 => ?_) (fun h3 => ?_)
 ·
  refine .region ?_
  refine .v (ev_mv rfl rfl) rfl ?_
  refine .v (ev_fa rfl fo58_0 rfl (r := 0) rfl) rfl ?_
  refine .v (ev_fa rfl fo55_0 rfl (r := 0) rfl) rfl ?_
  refine .v (ev_ld1 rfl ty53 rfl (At.own1 1 rfl rfl)) rfl ?_
  refine .v (ev_sub rfl rfl rfl (r := (k - 1)) rfl (by omega) (by omega)) rfl ?_
  refine .v (ev_ix rfl Try.underlying82 ty9 rfl rfl (by omega) (by omega) (row_adr (i := (k - 1)) 0 rfl (by omega) (by first | omega | simp only [LL] <;> omega | simp <;> omega))) rfl ?_
  refine .v (ev_ld1 rfl ty9 rfl (At.elem1 (row_el (E := eS) (l := [⟨#[106, 111, 98]⟩, ⟨#[112, 105, 99, 107, 117, 112]⟩, ⟨#[100, 101, 108, 105, 118, 101, 114, 121]⟩, ⟨#[98, 114, 101, 97, 107]⟩, ⟨#[115, 116, 97, 114, 116]⟩, ⟨#[101, 110, 100]⟩]) (i := (k - 1)) 0 rfl (by omega) (by first | omega | simp only [LL] <;> omega | simp <;> omega)) 0 rfl)) rfl ?_
  refine .v (ev_as rfl rfl) rfl ?_
  refine .go idQ (.seq ?_)
  have hw4 : ((gt [(⟨#[106, 111, 98]⟩ : ByteArray), ⟨#[112, 105, 99, 107, 117, 112]⟩, ⟨#[100, 101, 108, 105, 118, 101, 114, 121]⟩, ⟨#[98, 114, 101, 97, 107]⟩, ⟨#[115, 116, 97, 114, 116]⟩, ⟨#[101, 110, 100]⟩] (k - 1)) : ByteArray) = wordK k := by unfold wordK; first | (rw [if_pos (by omega)]; rfl) | (rw [if_neg (by omega)])
  rw [hw4]
  have hw5 := word_size k
  have hw6 := quote_word k
  refine .region ?_
  refine .v (ev_as rfl rfl) rfl ?_
  refine .go idQ (.seq (.seq ?_))
  refine SC.nilrow eS 9 ?_
  refine .region ?_
  refine .v (ev_as rfl rfl) rfl ?_
  refine .go idQ (.block ?_)
  refine .loop (X := Int × Value × (List ByteArray)) (fun ⟨i, U, X⟩ => 0 ≤ i ∧ i ≤ load.length ∧ X.map bs = (load.take i.toNat).map numL ∧ (X.length : Int) = i) (fun ⟨i, U, X⟩ => [(1, .pointer (some ⟨b1, 0, none⟩)), (4, .string (wordK k)), (5, U), (6, .int .i64 i)]) (fun ⟨i, U, X⟩ => [rw_ eS 9 (U) X, cel b1 [.int .i64 k, .int .i64 it, .int .i64 pl, .int .i64 ar, .int .i64 wt, .int .i64 sv, .slice lA load.length lc, .int .i64 tm, .int .i64 ds] 58]) (fun _ => S) (fun _ => wf) (fun ⟨i, U, X⟩ => (load.length - i.toNat)) (fun a_ w_ hs_ hw_ => ⟨⟨0, (.slice none 0 0), ([] : List ByteArray)⟩, (by exact ⟨by omega, by omega, rfl, rfl⟩), hs_.mono (Sub.get (.c rfl (.c rfl (.c rfl (.c rfl .n))))), hw_.keep (.c .h (.c (.t .h) .n))⟩) (fun ⟨i, U, X⟩ ⟨q_0, q_1, q_2, q_3⟩ => ?_)
  show SC _ _ _ _ _ ⟨[(1, .pointer (some ⟨b1, 0, none⟩)), (4, .string (wordK k)), (5, U), (6, .int .i64 i)], [rw_ eS 9 (U) X, cel b1 [.int .i64 k, .int .i64 it, .int .i64 pl, .int .i64 ar, .int .i64 wt, .int .i64 sv, .slice lA load.length lc, .int .i64 tm, .int .i64 ds] 58], S, wf⟩
  refine .seq (.seq (.region ?_))
  refine .v (ev_mv rfl rfl) rfl ?_
  refine .v (ev_fa rfl fo58_5 rfl (r := 6) rfl) rfl ?_
  refine .v (ev_ld1 rfl ty56 rfl (At.own1 1 rfl rfl)) rfl ?_
  refine .v (ev_len rfl Try.underlying56 rfl) rfl ?_
  refine .v (ev_cmp rfl rfl rfl rfl) rfl ?_
  refine .go idQ ?_
  refine .condI rfl bD (fun h4 => ?_) (fun h4 => ?_)
  ·
   refine .skipgo idQ (.seq (.block ?_))
   have hfl := fit_i64 (hF (gt load i) (List.mem_append_right _ (gt_mem (by omega) (by omega))))
   refine .region ?_
   refine .v (ev_mv rfl rfl) rfl ?_
   refine .v (ev_fa rfl fo58_5 rfl (r := 6) rfl) rfl ?_
   refine .v (ev_ld1 rfl ty56 rfl (At.own1 1 rfl rfl)) rfl ?_
   refine .v (ev_mv rfl rfl) rfl ?_
   refine .v (ev_ix rfl Try.underlying56 ty3 rfl rfl (by omega) (by omega) (fun _ _ => Fr.adr (i := i) hA (by omega) (by omega))) rfl ?_
   refine .v (ev_ld1 rfl ty3 rfl (At.elem1 (At.w (Fr.el (i := i) hA (by omega) (by omega))) 0 rfl)) rfl ?_
   refine .cons (st_callk rfl rfl rfl rfl hbd51 rfl .n (numtxt (gt load i) _ _ (by omega)) ?_)
   refine .cons (st_lit eS (e := 9) (l := [(numS (gt load i))]) rfl rfl rfl rfl (by kernel_rfl) rfl rfl (fun w => by kernel_rfl) (fun b5 => ?_))
   refine .cons (st_app (E := eS) (m := [(numS (gt load i))]) rfl rfl rfl rfl Try.underlying82 ai9 rfl rfl rfl (.t .h) (by first | rfl | omega | simp) (row_src 0 rfl) (by first | omega | simp only [LL] <;> omega | simp <;> omega) rfl (fun v6 => ?_))
   refine .v (ev_as rfl rfl) rfl ?_
   refine .go idQ (.region ?_)
   refine .v (ev_mv rfl rfl) rfl ?_
   refine .v (ev_add rfl rfl rfl (r := (i + 1)) rfl (by omega) (by omega)) rfl ?_
   refine .v (ev_as rfl rfl) rfl ?_
   exact SP.nil (SQ.roundb (X := Int × Value × (List ByteArray)) (x := (i, U, X)) ⟨(i + 1), v6, (X ++ [(numS (gt load i))])⟩ (by exact ⟨by omega, by omega, tx_next q_2 (by omega) (by omega) (bs_numS _), by rw [List.length_append]; simp; omega⟩) (by dsimp only; omega) (Sub.get (.c rfl (.c rfl (.c rfl (.c rfl .n))))) (fun w hw => hw.keep (.c .h (.c (.t .h) .n))))
  refine .exit idQ ?_
  refine .seq ?_
  refine .know (row_len 0 rfl) (fun hv9 => ?_)
  obtain ⟨A7, c8, rfl, hv9_1, hv9_2⟩ := hv9
  unfold maxLen at hv9_2
  have hX := tx_end q_2 (by omega)
  refine SC.draw mo [] [] .n (fun _ _ _ c hc => by cases hc) (fun wf_10 hl_10 hx_10 hR_10 => ?_)
  refine SR.k 0 rfl (by kernel_rfl) rfl (ev_mv rfl rfl) ?_
  refine SR.k 1 rfl (by kernel_rfl) rfl (ev_sadd rfl rfl rfl (by (try simp only [ByteArray.size_append]); show (((1 : Nat) + ((wordK k).size : Nat) : Nat) : Int) ≤ 9223372036854775807; omega)) ?_
  refine SR.k 2 rfl (by kernel_rfl) rfl (ev_sadd rfl rfl rfl (by (try simp only [ByteArray.size_append]); show ((((1 + (wordK k).size) : Nat) + (1 : Nat) : Nat) : Int) ≤ 9223372036854775807; omega)) ?_
  refine SR.k 4 rfl (by kernel_rfl) rfl (ev_fa rfl fo58_0 rfl (r := 0) rfl) ?_
  refine SR.k 5 rfl (by kernel_rfl) rfl (ev_fa rfl fo55_1 rfl (r := 1) rfl) ?_
  refine SR.k 6 rfl (by kernel_rfl) rfl (ev_ld1 rfl ty3 rfl (At.d (At.lent hR_10 1 rfl rfl))) ?_
  refine SR.k 8 rfl (by kernel_rfl) rfl (ev_fa rfl fo58_1 rfl (r := 2) rfl) ?_
  refine SR.k 9 rfl (by kernel_rfl) rfl (ev_ld1 rfl ty3 rfl (At.d (At.lent hR_10 1 rfl rfl))) ?_
  refine SR.k 11 rfl (by kernel_rfl) rfl (ev_fa rfl fo58_2 rfl (r := 3) rfl) ?_
  refine SR.k 12 rfl (by kernel_rfl) rfl (ev_ld1 rfl ty3 rfl (At.d (At.lent hR_10 1 rfl rfl))) ?_
  refine SR.k 14 rfl (by kernel_rfl) rfl (ev_fa rfl fo58_3 rfl (r := 4) rfl) ?_
  refine SR.k 15 rfl (by kernel_rfl) rfl (ev_ld1 rfl ty3 rfl (At.d (At.lent hR_10 1 rfl rfl))) ?_
  refine SR.k 17 rfl (by kernel_rfl) rfl (ev_fa rfl fo58_4 rfl (r := 5) rfl) ?_
  refine SR.k 18 rfl (by kernel_rfl) rfl (ev_ld1 rfl ty3 rfl (At.d (At.lent hR_10 1 rfl rfl))) ?_
  refine SR.k 20 rfl (by kernel_rfl) rfl (ev_mv rfl rfl) ?_
  refine SR.k 25 rfl (by kernel_rfl) rfl (ev_fa rfl fo58_6 rfl (r := 7) rfl) ?_
  refine SR.k 26 rfl (by kernel_rfl) rfl (ev_ld1 rfl ty3 rfl (At.d (At.lent hR_10 1 rfl rfl))) ?_
  refine SR.k 28 rfl (by kernel_rfl) rfl (ev_fa rfl fo58_7 rfl (r := 8) rfl) ?_
  refine SR.k 29 rfl (by kernel_rfl) rfl (ev_ld1 rfl ty3 rfl (At.d (At.lent hR_10 1 rfl rfl))) ?_
  refine SR.one (j := 3) (by kernel_rfl) rfl (st_call00 rfl rfl rfl rfl hbd32 rfl .n (field_ ⟨#[116, 121, 112, 101]⟩ ((((⟨#[34]⟩ : ByteArray) ++ ((wordK k) : ByteArray)) : ByteArray) ++ (⟨#[34]⟩ : ByteArray)) _ _ (by decide) (by (try simp only [ByteArray.size_append]); show ((1 + (wordK k).size) + 1) ≤ _; omega)) (by intro v C h; obtain ⟨_, _, _, rfl, rfl⟩ := h; rfl) (fun v_q12 q12 => ⟨tt0, ?_⟩))
  obtain ⟨o11, p13, p14, rfl, -⟩ := q12
  have hz15 : o11.size ≤ ((1 + (wordK k).size) + 1) + 65 := by have h_ := p14; (try simp only [ByteArray.size_append] at h_); exact h_
  refine SR.one (j := 7) (by kernel_rfl) rfl (st_call00 rfl rfl rfl rfl hbd33 rfl .n (number22 ⟨#[105, 116, 101, 109]⟩ it _ _ (by decide) (by omega)) (by intro v C h; obtain ⟨_, _, _, rfl, rfl⟩ := h; rfl) (fun v_q17 q17 => ⟨tt0, ?_⟩))
  obtain ⟨o16, p18, p19, rfl, -⟩ := q17
  refine SR.one (j := 10) (by kernel_rfl) rfl (st_call00 rfl rfl rfl rfl hbd33 rfl .n (number22 ⟨#[112, 108, 97, 99, 101]⟩ pl _ _ (by decide) (by omega)) (by intro v C h; obtain ⟨_, _, _, rfl, rfl⟩ := h; rfl) (fun v_q21 q21 => ⟨tt0, ?_⟩))
  obtain ⟨o20, p22, p23, rfl, -⟩ := q21
  refine SR.one (j := 13) (by kernel_rfl) rfl (st_call00 rfl rfl rfl rfl hbd33 rfl .n (number22 ⟨#[97, 114, 114, 105, 118, 97, 108]⟩ ar _ _ (by decide) (by omega)) (by intro v C h; obtain ⟨_, _, _, rfl, rfl⟩ := h; rfl) (fun v_q25 q25 => ⟨tt0, ?_⟩))
  obtain ⟨o24, p26, p27, rfl, -⟩ := q25
  refine SR.one (j := 16) (by kernel_rfl) rfl (st_call00 rfl rfl rfl rfl hbd33 rfl .n (number22 ⟨#[119, 97, 105, 116]⟩ wt _ _ (by decide) (by omega)) (by intro v C h; obtain ⟨_, _, _, rfl, rfl⟩ := h; rfl) (fun v_q29 q29 => ⟨tt0, ?_⟩))
  obtain ⟨o28, p30, p31, rfl, -⟩ := q29
  refine SR.one (j := 19) (by kernel_rfl) rfl (st_call00 rfl rfl rfl rfl hbd33 rfl .n (number22 ⟨#[115, 101, 114, 118, 105, 99, 101]⟩ sv _ _ (by decide) (by omega)) (by intro v C h; obtain ⟨_, _, _, rfl, rfl⟩ := h; rfl) (fun v_q33 q33 => ⟨tt0, ?_⟩))
  obtain ⟨o32, p34, p35, rfl, -⟩ := q33
  refine SR.one (j := 21) (by kernel_rfl) rfl (st_call00 rfl rfl rfl rfl hbd31 rfl .n (all_s A7 X.length c8 X _ _ (Fr.lent (S := S) hR_10 0 rfl (by first | omega | simp only [LL] <;> omega | simp <;> omega)) (by first | omega | simp only [LL] <;> omega | simp <;> omega) (Nat.le_trans (m := 220) (nums_join hX hm (fun x hx => hF x (List.mem_append_right _ hx))) (by decide))) (by intro v C h; obtain ⟨_, _, _, rfl, rfl⟩ := h; rfl) (fun v_q37 q37 => ⟨tt0, ?_⟩))
  obtain ⟨o36, p38, p39, rfl, -⟩ := q37
  have hz40 : o36.size ≤ 220 := by rw [p39]; exact (nums_join hX hm (fun x hx => hF x (List.mem_append_right _ hx)))
  refine SR.k 22 rfl (by kernel_rfl) rfl (ev_sadd rfl rfl rfl (by (try simp only [ByteArray.size_append]); show (((1 : Nat) + (o36.size : Nat) : Nat) : Int) ≤ 9223372036854775807; omega)) ?_
  refine SR.k 23 rfl (by kernel_rfl) rfl (ev_sadd rfl rfl rfl (by (try simp only [ByteArray.size_append]); show ((((1 + o36.size) : Nat) + (1 : Nat) : Nat) : Int) ≤ 9223372036854775807; omega)) ?_
  refine SR.one (j := 24) (by kernel_rfl) rfl (st_call00 rfl rfl rfl rfl hbd32 rfl .n (field_ ⟨#[108, 111, 97, 100]⟩ ((((⟨#[91]⟩ : ByteArray) ++ (o36 : ByteArray)) : ByteArray) ++ (⟨#[93]⟩ : ByteArray)) _ _ (by decide) (by (try simp only [ByteArray.size_append]); show ((1 + o36.size) + 1) ≤ _; omega)) (by intro v C h; obtain ⟨_, _, _, rfl, rfl⟩ := h; rfl) (fun v_q42 q42 => ⟨tt0, ?_⟩))
  obtain ⟨o41, p43, p44, rfl, -⟩ := q42
  have hz45 : o41.size ≤ ((1 + o36.size) + 1) + 65 := by have h_ := p44; (try simp only [ByteArray.size_append] at h_); exact h_
  refine SR.one (j := 27) (by kernel_rfl) rfl (st_call00 rfl rfl rfl rfl hbd33 rfl .n (number22 ⟨#[116, 105, 109, 101]⟩ tm _ _ (by decide) (by omega)) (by intro v C h; obtain ⟨_, _, _, rfl, rfl⟩ := h; rfl) (fun v_q47 q47 => ⟨tt0, ?_⟩))
  obtain ⟨o46, p48, p49, rfl, -⟩ := q47
  refine SR.one (j := 30) (by kernel_rfl) rfl (st_call00 rfl rfl rfl rfl hbd33 rfl .n (number22 ⟨#[100, 105, 115, 116]⟩ ds _ _ (by decide) (by omega)) (by intro v C h; obtain ⟨_, _, _, rfl, rfl⟩ := h; rfl) (fun v_q51 q51 => ⟨tt0, ?_⟩))
  obtain ⟨o50, p52, p53, rfl, -⟩ := q51
  refine SR.one (j := 31) (by kernel_rfl) rfl (st_lit eS (e := 9) (l := [o11, o16, o20, o24, o28, o32, o41, o46, o50]) rfl rfl rfl rfl (by kernel_rfl) rfl rfl (fun w => by kernel_rfl) (fun b54 => ⟨tt0, ?_⟩))
  refine SR.one (j := 32) (by kernel_rfl) rfl (st_lend0 rfl rfl rfl rfl hbd31 rfl .n (.c .h .n) (fun w_ hw => all_s (some ⟨b54, 0, none⟩) 9 9 [o11, o16, o20, o24, o28, o32, o41, o46, o50] _ _ (Fr.lend hw 0 rfl (by first | omega | simp only [LL] <;> omega | simp <;> omega)) (by first | omega | simp only [LL] <;> omega | simp <;> omega) (Nat.le_trans (m := 2889) (join_m (B := 320) (n := 9) (by simp only [List.forall_mem_cons, List.not_mem_nil, false_implies, implies_true, and_true]; omega) (Nat.le_refl _) (by decide)) (by decide))) (fun v_q56 C_q56 q56 => ⟨tt0, ?_⟩))
  obtain ⟨o55, p57, p58, rfl, rfl⟩ := q56
  show SR _ _ _ _ _ _ _ _ _ ⟨_, _ :: _, _, _⟩
  have hz59 : o55.size ≤ 2889 := by rw [p58]; exact (join_m (B := 320) (n := 9) (by simp only [List.forall_mem_cons, List.not_mem_nil, false_implies, implies_true, and_true]; omega) (Nat.le_refl _) (by decide))
  refine SR.k 33 rfl (by kernel_rfl) rfl (ev_sadd rfl rfl rfl (by (try simp only [ByteArray.size_append]); show (((1 : Nat) + (o55.size : Nat) : Nat) : Int) ≤ 9223372036854775807; omega)) ?_
  refine SR.k 34 rfl (by kernel_rfl) rfl (ev_sadd rfl rfl rfl (by (try simp only [ByteArray.size_append]); show ((((1 + o55.size) : Nat) + (1 : Nat) : Nat) : Int) ≤ 9223372036854775807; omega)) ?_
  refine SR.k 35 rfl (by kernel_rfl) rfl (ev_as rfl rfl) ?_
  refine SR.fin (by kernel_rfl) hl_10 hx_10 hR_10 (.c .n) ?_
  refine SQ.go idQ ?_
  exact .ret idQ (ret1 Try.results53 rfl .n ⟨((((⟨#[123]⟩ : ByteArray) ++ (o55 : ByteArray)) : ByteArray) ++ (⟨#[125]⟩ : ByteArray)), (by have hl_ := lst_text (ns := []) (js := load.map J.num) p38 (by rw [hX, List.map_map]; exact List.map_congr_left fun x _ => (txt_num x).symm); unfold stepJ loadJ; exact obj_text p57 (by simp only [stepNs, List.map_cons, List.map_nil, List.zip_cons_cons, List.zip_nil_right, txt_num, txt_str, txt_boo, hw6, hl_, p13, p18, p22, p26, p30, p34, p38, p43, p48, p52, p57]) rfl), (by (try simp only [ByteArray.size_append]); show ((1 + o55.size) + 1) ≤ _; omega), rfl, rfl⟩)
 refine .skipgo idQ (.seq ?_)
 have hw4 : (⟨#[63]⟩ : ByteArray) = wordK k := by unfold wordK; first | (rw [if_pos (by omega)]; rfl) | (rw [if_neg (by omega)])
 rw [hw4]
 have hw5 := word_size k
 have hw6 := quote_word k
 refine .region ?_
 refine .v (ev_as rfl rfl) rfl ?_
 refine .go idQ (.seq (.seq ?_))
 refine SC.nilrow eS 9 ?_
 refine .region ?_
 refine .v (ev_as rfl rfl) rfl ?_
 refine .go idQ (.block ?_)
 refine .loop (X := Int × Value × (List ByteArray)) (fun ⟨i, U, X⟩ => 0 ≤ i ∧ i ≤ load.length ∧ X.map bs = (load.take i.toNat).map numL ∧ (X.length : Int) = i) (fun ⟨i, U, X⟩ => [(1, .pointer (some ⟨b1, 0, none⟩)), (4, .string (wordK k)), (5, U), (6, .int .i64 i)]) (fun ⟨i, U, X⟩ => [rw_ eS 9 (U) X, cel b1 [.int .i64 k, .int .i64 it, .int .i64 pl, .int .i64 ar, .int .i64 wt, .int .i64 sv, .slice lA load.length lc, .int .i64 tm, .int .i64 ds] 58]) (fun _ => S) (fun _ => wf) (fun ⟨i, U, X⟩ => (load.length - i.toNat)) (fun a_ w_ hs_ hw_ => ⟨⟨0, (.slice none 0 0), ([] : List ByteArray)⟩, (by exact ⟨by omega, by omega, rfl, rfl⟩), hs_.mono (Sub.get (.c rfl (.c rfl (.c rfl (.c rfl .n))))), hw_.keep (.c .h (.c (.t .h) .n))⟩) (fun ⟨i, U, X⟩ ⟨q_0, q_1, q_2, q_3⟩ => ?_)
 show SC _ _ _ _ _ ⟨[(1, .pointer (some ⟨b1, 0, none⟩)), (4, .string (wordK k)), (5, U), (6, .int .i64 i)], [rw_ eS 9 (U) X, cel b1 [.int .i64 k, .int .i64 it, .int .i64 pl, .int .i64 ar, .int .i64 wt, .int .i64 sv, .slice lA load.length lc, .int .i64 tm, .int .i64 ds] 58], S, wf⟩
 refine .seq (.seq (.region ?_))
 refine .v (ev_mv rfl rfl) rfl ?_
 refine .v (ev_fa rfl fo58_5 rfl (r := 6) rfl) rfl ?_
 refine .v (ev_ld1 rfl ty56 rfl (At.own1 1 rfl rfl)) rfl ?_
 refine .v (ev_len rfl Try.underlying56 rfl) rfl ?_
 refine .v (ev_cmp rfl rfl rfl rfl) rfl ?_
 refine .go idQ ?_
 refine .condI rfl bD (fun h60 => ?_) (fun h60 => ?_)
 ·
  refine .skipgo idQ (.seq (.block ?_))
  have hfl := fit_i64 (hF (gt load i) (List.mem_append_right _ (gt_mem (by omega) (by omega))))
  refine .region ?_
  refine .v (ev_mv rfl rfl) rfl ?_
  refine .v (ev_fa rfl fo58_5 rfl (r := 6) rfl) rfl ?_
  refine .v (ev_ld1 rfl ty56 rfl (At.own1 1 rfl rfl)) rfl ?_
  refine .v (ev_mv rfl rfl) rfl ?_
  refine .v (ev_ix rfl Try.underlying56 ty3 rfl rfl (by omega) (by omega) (fun _ _ => Fr.adr (i := i) hA (by omega) (by omega))) rfl ?_
  refine .v (ev_ld1 rfl ty3 rfl (At.elem1 (At.w (Fr.el (i := i) hA (by omega) (by omega))) 0 rfl)) rfl ?_
  refine .cons (st_callk rfl rfl rfl rfl hbd51 rfl .n (numtxt (gt load i) _ _ (by omega)) ?_)
  refine .cons (st_lit eS (e := 9) (l := [(numS (gt load i))]) rfl rfl rfl rfl (by kernel_rfl) rfl rfl (fun w => by kernel_rfl) (fun b61 => ?_))
  refine .cons (st_app (E := eS) (m := [(numS (gt load i))]) rfl rfl rfl rfl Try.underlying82 ai9 rfl rfl rfl (.t .h) (by first | rfl | omega | simp) (row_src 0 rfl) (by first | omega | simp only [LL] <;> omega | simp <;> omega) rfl (fun v62 => ?_))
  refine .v (ev_as rfl rfl) rfl ?_
  refine .go idQ (.region ?_)
  refine .v (ev_mv rfl rfl) rfl ?_
  refine .v (ev_add rfl rfl rfl (r := (i + 1)) rfl (by omega) (by omega)) rfl ?_
  refine .v (ev_as rfl rfl) rfl ?_
  exact SP.nil (SQ.roundb (X := Int × Value × (List ByteArray)) (x := (i, U, X)) ⟨(i + 1), v62, (X ++ [(numS (gt load i))])⟩ (by exact ⟨by omega, by omega, tx_next q_2 (by omega) (by omega) (bs_numS _), by rw [List.length_append]; simp; omega⟩) (by dsimp only; omega) (Sub.get (.c rfl (.c rfl (.c rfl (.c rfl .n))))) (fun w hw => hw.keep (.c .h (.c (.t .h) .n))))
 refine .exit idQ ?_
 refine .seq ?_
 refine .know (row_len 0 rfl) (fun hv65 => ?_)
 obtain ⟨A63, c64, rfl, hv65_1, hv65_2⟩ := hv65
 unfold maxLen at hv65_2
 have hX := tx_end q_2 (by omega)
 refine SC.draw mo [] [] .n (fun _ _ _ c hc => by cases hc) (fun wf_66 hl_66 hx_66 hR_66 => ?_)
 refine SR.k 0 rfl (by kernel_rfl) rfl (ev_mv rfl rfl) ?_
 refine SR.k 1 rfl (by kernel_rfl) rfl (ev_sadd rfl rfl rfl (by (try simp only [ByteArray.size_append]); show (((1 : Nat) + ((wordK k).size : Nat) : Nat) : Int) ≤ 9223372036854775807; omega)) ?_
 refine SR.k 2 rfl (by kernel_rfl) rfl (ev_sadd rfl rfl rfl (by (try simp only [ByteArray.size_append]); show ((((1 + (wordK k).size) : Nat) + (1 : Nat) : Nat) : Int) ≤ 9223372036854775807; omega)) ?_
 refine SR.k 4 rfl (by kernel_rfl) rfl (ev_fa rfl fo58_0 rfl (r := 0) rfl) ?_
 refine SR.k 5 rfl (by kernel_rfl) rfl (ev_fa rfl fo55_1 rfl (r := 1) rfl) ?_
 refine SR.k 6 rfl (by kernel_rfl) rfl (ev_ld1 rfl ty3 rfl (At.d (At.lent hR_66 1 rfl rfl))) ?_
 refine SR.k 8 rfl (by kernel_rfl) rfl (ev_fa rfl fo58_1 rfl (r := 2) rfl) ?_
 refine SR.k 9 rfl (by kernel_rfl) rfl (ev_ld1 rfl ty3 rfl (At.d (At.lent hR_66 1 rfl rfl))) ?_
 refine SR.k 11 rfl (by kernel_rfl) rfl (ev_fa rfl fo58_2 rfl (r := 3) rfl) ?_
 refine SR.k 12 rfl (by kernel_rfl) rfl (ev_ld1 rfl ty3 rfl (At.d (At.lent hR_66 1 rfl rfl))) ?_
 refine SR.k 14 rfl (by kernel_rfl) rfl (ev_fa rfl fo58_3 rfl (r := 4) rfl) ?_
 refine SR.k 15 rfl (by kernel_rfl) rfl (ev_ld1 rfl ty3 rfl (At.d (At.lent hR_66 1 rfl rfl))) ?_
 refine SR.k 17 rfl (by kernel_rfl) rfl (ev_fa rfl fo58_4 rfl (r := 5) rfl) ?_
 refine SR.k 18 rfl (by kernel_rfl) rfl (ev_ld1 rfl ty3 rfl (At.d (At.lent hR_66 1 rfl rfl))) ?_
 refine SR.k 20 rfl (by kernel_rfl) rfl (ev_mv rfl rfl) ?_
 refine SR.k 25 rfl (by kernel_rfl) rfl (ev_fa rfl fo58_6 rfl (r := 7) rfl) ?_
 refine SR.k 26 rfl (by kernel_rfl) rfl (ev_ld1 rfl ty3 rfl (At.d (At.lent hR_66 1 rfl rfl))) ?_
 refine SR.k 28 rfl (by kernel_rfl) rfl (ev_fa rfl fo58_7 rfl (r := 8) rfl) ?_
 refine SR.k 29 rfl (by kernel_rfl) rfl (ev_ld1 rfl ty3 rfl (At.d (At.lent hR_66 1 rfl rfl))) ?_
 refine SR.one (j := 3) (by kernel_rfl) rfl (st_call00 rfl rfl rfl rfl hbd32 rfl .n (field_ ⟨#[116, 121, 112, 101]⟩ ((((⟨#[34]⟩ : ByteArray) ++ ((wordK k) : ByteArray)) : ByteArray) ++ (⟨#[34]⟩ : ByteArray)) _ _ (by decide) (by (try simp only [ByteArray.size_append]); show ((1 + (wordK k).size) + 1) ≤ _; omega)) (by intro v C h; obtain ⟨_, _, _, rfl, rfl⟩ := h; rfl) (fun v_q68 q68 => ⟨tt0, ?_⟩))
 obtain ⟨o67, p69, p70, rfl, -⟩ := q68
 have hz71 : o67.size ≤ ((1 + (wordK k).size) + 1) + 65 := by have h_ := p70; (try simp only [ByteArray.size_append] at h_); exact h_
 refine SR.one (j := 7) (by kernel_rfl) rfl (st_call00 rfl rfl rfl rfl hbd33 rfl .n (number22 ⟨#[105, 116, 101, 109]⟩ it _ _ (by decide) (by omega)) (by intro v C h; obtain ⟨_, _, _, rfl, rfl⟩ := h; rfl) (fun v_q73 q73 => ⟨tt0, ?_⟩))
 obtain ⟨o72, p74, p75, rfl, -⟩ := q73
 refine SR.one (j := 10) (by kernel_rfl) rfl (st_call00 rfl rfl rfl rfl hbd33 rfl .n (number22 ⟨#[112, 108, 97, 99, 101]⟩ pl _ _ (by decide) (by omega)) (by intro v C h; obtain ⟨_, _, _, rfl, rfl⟩ := h; rfl) (fun v_q77 q77 => ⟨tt0, ?_⟩))
 obtain ⟨o76, p78, p79, rfl, -⟩ := q77
 refine SR.one (j := 13) (by kernel_rfl) rfl (st_call00 rfl rfl rfl rfl hbd33 rfl .n (number22 ⟨#[97, 114, 114, 105, 118, 97, 108]⟩ ar _ _ (by decide) (by omega)) (by intro v C h; obtain ⟨_, _, _, rfl, rfl⟩ := h; rfl) (fun v_q81 q81 => ⟨tt0, ?_⟩))
 obtain ⟨o80, p82, p83, rfl, -⟩ := q81
 refine SR.one (j := 16) (by kernel_rfl) rfl (st_call00 rfl rfl rfl rfl hbd33 rfl .n (number22 ⟨#[119, 97, 105, 116]⟩ wt _ _ (by decide) (by omega)) (by intro v C h; obtain ⟨_, _, _, rfl, rfl⟩ := h; rfl) (fun v_q85 q85 => ⟨tt0, ?_⟩))
 obtain ⟨o84, p86, p87, rfl, -⟩ := q85
 refine SR.one (j := 19) (by kernel_rfl) rfl (st_call00 rfl rfl rfl rfl hbd33 rfl .n (number22 ⟨#[115, 101, 114, 118, 105, 99, 101]⟩ sv _ _ (by decide) (by omega)) (by intro v C h; obtain ⟨_, _, _, rfl, rfl⟩ := h; rfl) (fun v_q89 q89 => ⟨tt0, ?_⟩))
 obtain ⟨o88, p90, p91, rfl, -⟩ := q89
 refine SR.one (j := 21) (by kernel_rfl) rfl (st_call00 rfl rfl rfl rfl hbd31 rfl .n (all_s A63 X.length c64 X _ _ (Fr.lent (S := S) hR_66 0 rfl (by first | omega | simp only [LL] <;> omega | simp <;> omega)) (by first | omega | simp only [LL] <;> omega | simp <;> omega) (Nat.le_trans (m := 220) (nums_join hX hm (fun x hx => hF x (List.mem_append_right _ hx))) (by decide))) (by intro v C h; obtain ⟨_, _, _, rfl, rfl⟩ := h; rfl) (fun v_q93 q93 => ⟨tt0, ?_⟩))
 obtain ⟨o92, p94, p95, rfl, -⟩ := q93
 have hz96 : o92.size ≤ 220 := by rw [p95]; exact (nums_join hX hm (fun x hx => hF x (List.mem_append_right _ hx)))
 refine SR.k 22 rfl (by kernel_rfl) rfl (ev_sadd rfl rfl rfl (by (try simp only [ByteArray.size_append]); show (((1 : Nat) + (o92.size : Nat) : Nat) : Int) ≤ 9223372036854775807; omega)) ?_
 refine SR.k 23 rfl (by kernel_rfl) rfl (ev_sadd rfl rfl rfl (by (try simp only [ByteArray.size_append]); show ((((1 + o92.size) : Nat) + (1 : Nat) : Nat) : Int) ≤ 9223372036854775807; omega)) ?_
 refine SR.one (j := 24) (by kernel_rfl) rfl (st_call00 rfl rfl rfl rfl hbd32 rfl .n (field_ ⟨#[108, 111, 97, 100]⟩ ((((⟨#[91]⟩ : ByteArray) ++ (o92 : ByteArray)) : ByteArray) ++ (⟨#[93]⟩ : ByteArray)) _ _ (by decide) (by (try simp only [ByteArray.size_append]); show ((1 + o92.size) + 1) ≤ _; omega)) (by intro v C h; obtain ⟨_, _, _, rfl, rfl⟩ := h; rfl) (fun v_q98 q98 => ⟨tt0, ?_⟩))
 obtain ⟨o97, p99, p100, rfl, -⟩ := q98
 have hz101 : o97.size ≤ ((1 + o92.size) + 1) + 65 := by have h_ := p100; (try simp only [ByteArray.size_append] at h_); exact h_
 refine SR.one (j := 27) (by kernel_rfl) rfl (st_call00 rfl rfl rfl rfl hbd33 rfl .n (number22 ⟨#[116, 105, 109, 101]⟩ tm _ _ (by decide) (by omega)) (by intro v C h; obtain ⟨_, _, _, rfl, rfl⟩ := h; rfl) (fun v_q103 q103 => ⟨tt0, ?_⟩))
 obtain ⟨o102, p104, p105, rfl, -⟩ := q103
 refine SR.one (j := 30) (by kernel_rfl) rfl (st_call00 rfl rfl rfl rfl hbd33 rfl .n (number22 ⟨#[100, 105, 115, 116]⟩ ds _ _ (by decide) (by omega)) (by intro v C h; obtain ⟨_, _, _, rfl, rfl⟩ := h; rfl) (fun v_q107 q107 => ⟨tt0, ?_⟩))
 obtain ⟨o106, p108, p109, rfl, -⟩ := q107
 refine SR.one (j := 31) (by kernel_rfl) rfl (st_lit eS (e := 9) (l := [o67, o72, o76, o80, o84, o88, o97, o102, o106]) rfl rfl rfl rfl (by kernel_rfl) rfl rfl (fun w => by kernel_rfl) (fun b110 => ⟨tt0, ?_⟩))
 refine SR.one (j := 32) (by kernel_rfl) rfl (st_lend0 rfl rfl rfl rfl hbd31 rfl .n (.c .h .n) (fun w_ hw => all_s (some ⟨b110, 0, none⟩) 9 9 [o67, o72, o76, o80, o84, o88, o97, o102, o106] _ _ (Fr.lend hw 0 rfl (by first | omega | simp only [LL] <;> omega | simp <;> omega)) (by first | omega | simp only [LL] <;> omega | simp <;> omega) (Nat.le_trans (m := 2889) (join_m (B := 320) (n := 9) (by simp only [List.forall_mem_cons, List.not_mem_nil, false_implies, implies_true, and_true]; omega) (Nat.le_refl _) (by decide)) (by decide))) (fun v_q112 C_q112 q112 => ⟨tt0, ?_⟩))
 obtain ⟨o111, p113, p114, rfl, rfl⟩ := q112
 show SR _ _ _ _ _ _ _ _ _ ⟨_, _ :: _, _, _⟩
 have hz115 : o111.size ≤ 2889 := by rw [p114]; exact (join_m (B := 320) (n := 9) (by simp only [List.forall_mem_cons, List.not_mem_nil, false_implies, implies_true, and_true]; omega) (Nat.le_refl _) (by decide))
 refine SR.k 33 rfl (by kernel_rfl) rfl (ev_sadd rfl rfl rfl (by (try simp only [ByteArray.size_append]); show (((1 : Nat) + (o111.size : Nat) : Nat) : Int) ≤ 9223372036854775807; omega)) ?_
 refine SR.k 34 rfl (by kernel_rfl) rfl (ev_sadd rfl rfl rfl (by (try simp only [ByteArray.size_append]); show ((((1 + o111.size) : Nat) + (1 : Nat) : Nat) : Int) ≤ 9223372036854775807; omega)) ?_
 refine SR.k 35 rfl (by kernel_rfl) rfl (ev_as rfl rfl) ?_
 refine SR.fin (by kernel_rfl) hl_66 hx_66 hR_66 (.c .n) ?_
 refine SQ.go idQ ?_
 exact .ret idQ (ret1 Try.results53 rfl .n ⟨((((⟨#[123]⟩ : ByteArray) ++ (o111 : ByteArray)) : ByteArray) ++ (⟨#[125]⟩ : ByteArray)), (by have hl_ := lst_text (ns := []) (js := load.map J.num) p94 (by rw [hX, List.map_map]; exact List.map_congr_left fun x _ => (txt_num x).symm); unfold stepJ loadJ; exact obj_text p113 (by simp only [stepNs, List.map_cons, List.map_nil, List.zip_cons_cons, List.zip_nil_right, txt_num, txt_str, txt_boo, hw6, hl_, p69, p74, p78, p82, p86, p90, p94, p99, p104, p108, p113]) rfl), (by (try simp only [ByteArray.size_append]); show ((1 + o111.size) + 1) ≤ _; omega), rfl, rfl⟩)
end Go.Proofs.Ythmkelkefmfmgaa.Sx
set_option maxRecDepth 20000
set_option maxHeartbeats 4000000
namespace Go.Proofs.Ythmkelkefmfmgaa.Sx.FQC
open Go Go.SX Go.Proofs
theorem fo52_1 : fo Try.prog 52 1 = some 1 := by kernel_rfl
theorem ty50 : ty Try.prog 50 = some (false, 1) := by kernel_rfl
theorem ty58 : ty Try.prog 58 = some (true, 9) := by kernel_rfl
theorem hbd53 : hasBody Try.prog 53 = true := by kernel_rfl
theorem ai9 : (Try.prog.info? 9).map (fun i => (i.zero, i.size, i.bytes)) = some (some (.string ⟨#[]⟩), 1, 16) := by kernel_rfl
theorem fo52_0 : fo Try.prog 52 0 = some 0 := by kernel_rfl
theorem ty3 : ty Try.prog 3 = some (false, 1) := by kernel_rfl
theorem hbd33 : hasBody Try.prog 33 = true := by kernel_rfl
theorem fo52_6 : fo Try.prog 52 6 = some 6 := by kernel_rfl
theorem fo52_2 : fo Try.prog 52 2 = some 2 := by kernel_rfl
theorem fo52_3 : fo Try.prog 52 3 = some 3 := by kernel_rfl
theorem fo52_4 : fo Try.prog 52 4 = some 4 := by kernel_rfl
theorem fo52_5 : fo Try.prog 52 5 = some 5 := by kernel_rfl
theorem hbd31 : hasBody Try.prog 31 = true := by kernel_rfl
theorem hbd32 : hasBody Try.prog 32 = true := by kernel_rfl
theorem mo : Try.prog.follows .mixedOrders = true := by kernel_rfl
end Go.Proofs.Ythmkelkefmfmgaa.Sx.FQC
namespace Go.Proofs.Ythmkelkefmfmgaa.Sx
open Go Go.SX Go.Proofs FQC
theorem plan_t (ve : Int) (sA : Option Addr) (sc : Nat) (steps : List ST) (tm : Int) (ds : Int) (wt : Int) (sv : Int) (co : Int) (S : Nat → Prop) (wf : World) (hA : Fr eST S wf sA steps) (hN : NS S wf steps) (hs : steps.length ≤ 60) (hS : ∀ s ∈ steps, s.load.length ≤ 10) (hF : ∀ x ∈ planZ (PV.mk ve steps tm ds wt sv co sA sc), fitP x) :
  TR0 Try.prog 35 [.agg #[.int .i64 ve, .slice sA steps.length sc, .int .i64 tm, .int .i64 ds, .int .i64 wt, .int .i64 sv, .int .i64 co]] [] S wf (fun v_ C_ => ∃ (o : ByteArray), (bs o = txt (planJ (PV.mk ve steps tm ds wt sv co sA sc))) ∧ (o.size ≤ 1500000) ∧ v_ = .string o ∧ C_ = []) := by
 have hla := hA.len
 have hf_ve := fit_i64 (hF ve (by simp [planZ, headZ]))
 have hf_tm := fit_i64 (hF tm (by simp [planZ, headZ]))
 have hf_ds := fit_i64 (hF ds (by simp [planZ, headZ]))
 have hf_wt := fit_i64 (hF wt (by simp [planZ, headZ]))
 have hf_sv := fit_i64 (hF sv (by simp [planZ, headZ]))
 have hf_co := fit_i64 (hF co (by simp [planZ, headZ]))
 refine TR.mk Try.func35 rfl Try.ntmps35 rfl rfl (fun w_ => ?_)
 refine .seq (.region ?_)
 refine .cons (st_boxa rfl rfl rfl rfl rfl (fun b1 => ?_))
 refine .v (ev_as rfl rfl) rfl ?_
 refine .go idQ (.seq (.region ?_))
 refine .v (ev_as rfl rfl) rfl ?_
 refine .go idQ (.seq (.seq ?_))
 refine SC.nilrow eS 9 ?_
 refine .region ?_
 refine .v (ev_as rfl rfl) rfl ?_
 refine .go idQ (.block ?_)
 refine .loop (X := Int × Value × (List ByteArray)) (fun ⟨i, U, X⟩ => 0 ≤ i ∧ i ≤ steps.length ∧ X.map bs = (steps.take i.toNat).map (fun s => txt (stepJ s)) ∧ (X.length : Int) = i ∧ ∀ x ∈ X, x.size ≤ 3000) (fun ⟨i, U, X⟩ => [(1, .pointer (some ⟨b1, 0, none⟩)), (3, U), (4, .int .i64 i)]) (fun ⟨i, U, X⟩ => [rw_ eS 9 (U) X, cel b1 [.int .i64 ve, .slice sA steps.length sc, .int .i64 tm, .int .i64 ds, .int .i64 wt, .int .i64 sv, .int .i64 co] 52]) (fun _ => S) (fun _ => wf) (fun ⟨i, U, X⟩ => (steps.length - i.toNat)) (fun a_ w_ hs_ hw_ => ⟨⟨0, (.slice none 0 0), ([] : List ByteArray)⟩, (by exact ⟨by omega, by omega, rfl, rfl, fun x hx => by cases hx⟩), hs_.mono (Sub.get (.c rfl (.c rfl (.c rfl .n)))), hw_.keep (.c .h (.c .h .n))⟩) (fun ⟨i, U, X⟩ ⟨q_0, q_1, q_2, q_3, q_4⟩ => ?_)
 show SC _ _ _ _ _ ⟨[(1, .pointer (some ⟨b1, 0, none⟩)), (3, U), (4, .int .i64 i)], [rw_ eS 9 (U) X, cel b1 [.int .i64 ve, .slice sA steps.length sc, .int .i64 tm, .int .i64 ds, .int .i64 wt, .int .i64 sv, .int .i64 co] 52], S, wf⟩
 refine .seq (.seq (.region ?_))
 refine .v (ev_mv rfl rfl) rfl ?_
 refine .v (ev_fa rfl fo52_1 rfl (r := 1) rfl) rfl ?_
 refine .v (ev_ld1 rfl ty50 rfl (At.own1 1 rfl rfl)) rfl ?_
 refine .v (ev_len rfl Try.underlying50 rfl) rfl ?_
 refine .v (ev_cmp rfl rfl rfl rfl) rfl ?_
 refine .go idQ ?_
 refine .condI rfl bD (fun h2 => ?_) (fun h2 => ?_)
 ·
  refine .skipgo idQ (.seq (.block (.region ?_)))
  refine .v (ev_mv rfl rfl) rfl ?_
  refine .v (ev_fa rfl fo52_1 rfl (r := 1) rfl) rfl ?_
  refine .v (ev_ld1 rfl ty50 rfl (At.own1 1 rfl rfl)) rfl ?_
  refine .v (ev_mv rfl rfl) rfl ?_
  refine .v (ev_ix rfl Try.underlying50 ty58 rfl rfl (by omega) (by omega) (fun _ _ => Fr.adr (i := i) hA (by omega) (by omega))) rfl ?_
  refine .v (ev_lda rfl rfl (At.w (Fr.el (i := i) hA (by omega) (by omega))) ty58) rfl ?_
  refine .cons (st_call00 rfl rfl rfl rfl hbd53 rfl .n (step_t ((gt steps i).kind) ((gt steps i).item) ((gt steps i).place) ((gt steps i).arr) ((gt steps i).wait) ((gt steps i).serv) ((gt steps i).lA) ((gt steps i).lc) ((gt steps i).load) ((gt steps i).time) ((gt steps i).dist) _ _ (hN _ (gt_mem (i := i) (by omega) (by omega))) (hS _ (gt_mem (i := i) (by omega) (by omega))) (fit_step hF _ (gt_mem (i := i) (by omega) (by omega)))) (by intro v C h; obtain ⟨_, _, _, rfl, rfl⟩ := h; rfl) (fun v_q4 q4 => ?_))
  obtain ⟨o3, p5, p6, rfl, -⟩ := q4
  refine .cons (st_lit eS (e := 9) (l := [o3]) rfl rfl rfl rfl (by kernel_rfl) rfl rfl (fun w => by kernel_rfl) (fun b7 => ?_))
  refine .cons (st_app (E := eS) (m := [o3]) rfl rfl rfl rfl Try.underlying82 ai9 rfl rfl rfl (.t .h) (by first | rfl | omega | simp) (row_src 0 rfl) (by first | omega | simp only [LL] <;> omega | simp <;> omega) rfl (fun v8 => ?_))
  refine .v (ev_as rfl rfl) rfl ?_
  refine .go idQ (.region ?_)
  refine .v (ev_mv rfl rfl) rfl ?_
  refine .v (ev_add rfl rfl rfl (r := (i + 1)) rfl (by omega) (by omega)) rfl ?_
  refine .v (ev_as rfl rfl) rfl ?_
  exact SP.nil (SQ.roundb (X := Int × Value × (List ByteArray)) (x := (i, U, X)) ⟨(i + 1), v8, (X ++ [o3])⟩ (by exact ⟨by omega, by omega, tx_next q_2 (by omega) (by omega) p5, by rw [List.length_append]; simp; omega, all_snoc q_4 p6⟩) (by dsimp only; omega) (Sub.get (.c rfl (.c rfl (.c rfl .n)))) (fun w hw => hw.keep (.c .h (.c (.t .h) .n))))
 refine .exit idQ ?_
 refine .seq ?_
 refine .know (row_len 0 rfl) (fun hv11 => ?_)
 obtain ⟨A9, c10, rfl, hv11_1, hv11_2⟩ := hv11
 unfold maxLen at hv11_2
 have hX := tx_end q_2 (by omega)
 refine SC.draw mo [] [] .n (fun _ _ _ c hc => by cases hc) (fun wf_12 hl_12 hx_12 hR_12 => ?_)
 refine SR.k 0 rfl (by kernel_rfl) rfl (ev_fa rfl fo52_0 rfl (r := 0) rfl) ?_
 refine SR.k 1 rfl (by kernel_rfl) rfl (ev_ld1 rfl ty3 rfl (At.d (At.lent hR_12 1 rfl rfl))) ?_
 refine SR.k 3 rfl (by kernel_rfl) rfl (ev_fa rfl fo52_6 rfl (r := 6) rfl) ?_
 refine SR.k 4 rfl (by kernel_rfl) rfl (ev_ld1 rfl ty3 rfl (At.d (At.lent hR_12 1 rfl rfl))) ?_
 refine SR.k 6 rfl (by kernel_rfl) rfl (ev_fa rfl fo52_2 rfl (r := 2) rfl) ?_
 refine SR.k 7 rfl (by kernel_rfl) rfl (ev_ld1 rfl ty3 rfl (At.d (At.lent hR_12 1 rfl rfl))) ?_
 refine SR.k 9 rfl (by kernel_rfl) rfl (ev_fa rfl fo52_3 rfl (r := 3) rfl) ?_
 refine SR.k 10 rfl (by kernel_rfl) rfl (ev_ld1 rfl ty3 rfl (At.d (At.lent hR_12 1 rfl rfl))) ?_
 refine SR.k 12 rfl (by kernel_rfl) rfl (ev_fa rfl fo52_4 rfl (r := 4) rfl) ?_
 refine SR.k 13 rfl (by kernel_rfl) rfl (ev_ld1 rfl ty3 rfl (At.d (At.lent hR_12 1 rfl rfl))) ?_
 refine SR.k 15 rfl (by kernel_rfl) rfl (ev_fa rfl fo52_5 rfl (r := 5) rfl) ?_
 refine SR.k 16 rfl (by kernel_rfl) rfl (ev_ld1 rfl ty3 rfl (At.d (At.lent hR_12 1 rfl rfl))) ?_
 refine SR.k 18 rfl (by kernel_rfl) rfl (ev_mv rfl rfl) ?_
 refine SR.one (j := 2) (by kernel_rfl) rfl (st_call00 rfl rfl rfl rfl hbd33 rfl .n (number22 ⟨#[118, 101, 104, 105, 99, 108, 101]⟩ ve _ _ (by decide) (by omega)) (by intro v C h; obtain ⟨_, _, _, rfl, rfl⟩ := h; rfl) (fun v_q14 q14 => ⟨tt0, ?_⟩))
 obtain ⟨o13, p15, p16, rfl, -⟩ := q14
 refine SR.one (j := 5) (by kernel_rfl) rfl (st_call00 rfl rfl rfl rfl hbd33 rfl .n (number22 ⟨#[99, 111, 115, 116]⟩ co _ _ (by decide) (by omega)) (by intro v C h; obtain ⟨_, _, _, rfl, rfl⟩ := h; rfl) (fun v_q18 q18 => ⟨tt0, ?_⟩))
 obtain ⟨o17, p19, p20, rfl, -⟩ := q18
 refine SR.one (j := 8) (by kernel_rfl) rfl (st_call00 rfl rfl rfl rfl hbd33 rfl .n (number22 ⟨#[116, 105, 109, 101]⟩ tm _ _ (by decide) (by omega)) (by intro v C h; obtain ⟨_, _, _, rfl, rfl⟩ := h; rfl) (fun v_q22 q22 => ⟨tt0, ?_⟩))
 obtain ⟨o21, p23, p24, rfl, -⟩ := q22
 refine SR.one (j := 11) (by kernel_rfl) rfl (st_call00 rfl rfl rfl rfl hbd33 rfl .n (number22 ⟨#[100, 105, 115, 116]⟩ ds _ _ (by decide) (by omega)) (by intro v C h; obtain ⟨_, _, _, rfl, rfl⟩ := h; rfl) (fun v_q26 q26 => ⟨tt0, ?_⟩))
 obtain ⟨o25, p27, p28, rfl, -⟩ := q26
 refine SR.one (j := 14) (by kernel_rfl) rfl (st_call00 rfl rfl rfl rfl hbd33 rfl .n (number22 ⟨#[119, 97, 105, 116]⟩ wt _ _ (by decide) (by omega)) (by intro v C h; obtain ⟨_, _, _, rfl, rfl⟩ := h; rfl) (fun v_q30 q30 => ⟨tt0, ?_⟩))
 obtain ⟨o29, p31, p32, rfl, -⟩ := q30
 refine SR.one (j := 17) (by kernel_rfl) rfl (st_call00 rfl rfl rfl rfl hbd33 rfl .n (number22 ⟨#[115, 101, 114, 118, 105, 99, 101]⟩ sv _ _ (by decide) (by omega)) (by intro v C h; obtain ⟨_, _, _, rfl, rfl⟩ := h; rfl) (fun v_q34 q34 => ⟨tt0, ?_⟩))
 obtain ⟨o33, p35, p36, rfl, -⟩ := q34
 refine SR.one (j := 19) (by kernel_rfl) rfl (st_call00 rfl rfl rfl rfl hbd31 rfl .n (all_s A9 X.length c10 X _ _ (Fr.lent (S := S) hR_12 0 rfl (by first | omega | simp only [LL] <;> omega | simp <;> omega)) (by first | omega | simp only [LL] <;> omega | simp <;> omega) (Nat.le_trans (m := 180060) (join_m (B := 3000) (n := 60) q_4 (by omega) (by decide)) (by decide))) (by intro v C h; obtain ⟨_, _, _, rfl, rfl⟩ := h; rfl) (fun v_q38 q38 => ⟨tt0, ?_⟩))
 obtain ⟨o37, p39, p40, rfl, -⟩ := q38
 have hz41 : o37.size ≤ 180060 := by rw [p40]; exact (join_m (B := 3000) (n := 60) q_4 (by omega) (by decide))
 refine SR.k 20 rfl (by kernel_rfl) rfl (ev_sadd rfl rfl rfl (by (try simp only [ByteArray.size_append]); show (((1 : Nat) + (o37.size : Nat) : Nat) : Int) ≤ 9223372036854775807; omega)) ?_
 refine SR.k 21 rfl (by kernel_rfl) rfl (ev_sadd rfl rfl rfl (by (try simp only [ByteArray.size_append]); show ((((1 + o37.size) : Nat) + (1 : Nat) : Nat) : Int) ≤ 9223372036854775807; omega)) ?_
 refine SR.one (j := 22) (by kernel_rfl) rfl (st_call00 rfl rfl rfl rfl hbd32 rfl .n (field_ ⟨#[115, 116, 101, 112, 115]⟩ ((((⟨#[91]⟩ : ByteArray) ++ (o37 : ByteArray)) : ByteArray) ++ (⟨#[93]⟩ : ByteArray)) _ _ (by decide) (by (try simp only [ByteArray.size_append]); show ((1 + o37.size) + 1) ≤ _; omega)) (by intro v C h; obtain ⟨_, _, _, rfl, rfl⟩ := h; rfl) (fun v_q43 q43 => ⟨tt0, ?_⟩))
 obtain ⟨o42, p44, p45, rfl, -⟩ := q43
 have hz46 : o42.size ≤ ((1 + o37.size) + 1) + 65 := by have h_ := p45; (try simp only [ByteArray.size_append] at h_); exact h_
 refine SR.one (j := 23) (by kernel_rfl) rfl (st_lit eS (e := 9) (l := [o13, o17, o21, o25, o29, o33, o42]) rfl rfl rfl rfl (by kernel_rfl) rfl rfl (fun w => by kernel_rfl) (fun b47 => ⟨tt0, ?_⟩))
 refine SR.one (j := 24) (by kernel_rfl) rfl (st_lend0 rfl rfl rfl rfl hbd31 rfl .n (.c .h .n) (fun w_ hw => all_s (some ⟨b47, 0, none⟩) 7 7 [o13, o17, o21, o25, o29, o33, o42] _ _ (Fr.lend hw 0 rfl (by first | omega | simp only [LL] <;> omega | simp <;> omega)) (by first | omega | simp only [LL] <;> omega | simp <;> omega) (Nat.le_trans (m := 1330007) (join_m (B := 190000) (n := 7) (by simp only [List.forall_mem_cons, List.not_mem_nil, false_implies, implies_true, and_true]; omega) (Nat.le_refl _) (by decide)) (by decide))) (fun v_q49 C_q49 q49 => ⟨tt0, ?_⟩))
 obtain ⟨o48, p50, p51, rfl, rfl⟩ := q49
 show SR _ _ _ _ _ _ _ _ _ ⟨_, _ :: _, _, _⟩
 have hz52 : o48.size ≤ 1330007 := by rw [p51]; exact (join_m (B := 190000) (n := 7) (by simp only [List.forall_mem_cons, List.not_mem_nil, false_implies, implies_true, and_true]; omega) (Nat.le_refl _) (by decide))
 refine SR.k 25 rfl (by kernel_rfl) rfl (ev_sadd rfl rfl rfl (by (try simp only [ByteArray.size_append]); show (((1 : Nat) + (o48.size : Nat) : Nat) : Int) ≤ 9223372036854775807; omega)) ?_
 refine SR.k 26 rfl (by kernel_rfl) rfl (ev_sadd rfl rfl rfl (by (try simp only [ByteArray.size_append]); show ((((1 + o48.size) : Nat) + (1 : Nat) : Nat) : Int) ≤ 9223372036854775807; omega)) ?_
 refine SR.k 27 rfl (by kernel_rfl) rfl (ev_as rfl rfl) ?_
 refine SR.fin (by kernel_rfl) hl_12 hx_12 hR_12 (.c .n) ?_
 refine SQ.go idQ ?_
 exact .ret idQ (ret1 Try.results35 rfl .n ⟨((((⟨#[123]⟩ : ByteArray) ++ (o48 : ByteArray)) : ByteArray) ++ (⟨#[125]⟩ : ByteArray)), (by have hl_ := lst_text (ns := []) (js := steps.map stepJ) p39 (by rw [hX, List.map_map]; rfl); unfold planJ; exact obj_text p50 (by simp only [planNs, List.map_cons, List.map_nil, List.zip_cons_cons, List.zip_nil_right, txt_num, txt_str, txt_boo, hl_, p15, p19, p23, p27, p31, p35, p39, p44, p50]) rfl), (by simp only [ByteArray.size_append]; show ((1 + o48.size) + 1) ≤ _; omega), rfl, rfl⟩)
end Go.Proofs.Ythmkelkefmfmgaa.Sx
