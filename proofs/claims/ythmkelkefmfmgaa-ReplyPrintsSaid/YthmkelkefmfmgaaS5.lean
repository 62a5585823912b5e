import Derived.Test.YthmkelkefmfmgaaProg
import Derived.Test.YthmkelkefmfmgaaS4
set_option linter.unusedVariables false
set_option linter.unusedSimpArgs false
set_option linter.unusedSectionVars false
set_option maxRecDepth 20000
set_option maxHeartbeats 4000000
namespace Go.Proofs.Ythmkelkefmfmgaa.Sx.FZ
open Go Go.SX Go.Proofs
theorem fo30_0 : fo Try.prog 30 0 = some 0 := by kernel_rfl
theorem fo24_0 : fo Try.prog 24 0 = some 0 := by kernel_rfl
theorem ty22 : ty Try.prog 22 = some (false, 1) := by kernel_rfl
theorem hbd22 : hasBody Try.prog 22 = true := by kernel_rfl
theorem hbd23 : hasBody Try.prog 23 = true := by kernel_rfl
theorem fo24_1 : fo Try.prog 24 1 = some 1 := by kernel_rfl
theorem ty3 : ty Try.prog 3 = some (false, 1) := by kernel_rfl
theorem fo24_2 : fo Try.prog 24 2 = some 2 := by kernel_rfl
theorem ty9 : ty Try.prog 9 = some (false, 1) := by kernel_rfl
theorem hbd21 : hasBody Try.prog 21 = true := by kernel_rfl
theorem mo : Try.prog.follows .mixedOrders = true := by kernel_rfl
theorem fo65_0 : fo Try.prog 65 0 = some 0 := by kernel_rfl
theorem ty34 : ty Try.prog 34 = some (false, 1) := by kernel_rfl
theorem ty30 : ty Try.prog 30 = some (true, 14) := by kernel_rfl
end Go.Proofs.Ythmkelkefmfmgaa.Sx.FZ
namespace Go.Proofs.Ythmkelkefmfmgaa.Sx
open Go Go.SX Go.Proofs FZ
theorem tree_g (cd : Int) (at_ : Int) (path : ByteArray) (op : Bool) (x0 : Int) (x1 : Int) (x2 : Int) (x3 : Int) (x4 : Int) (x5 : Int) (x6 : Int) (x7 : Int) (pA : Option Addr) (pc : Nat) (ps : List PV) (kA : Option Addr) (kc : Nat) (lf : List TK) (S : Nat → Prop) (wf : World) (hc : cd ≠ 0) :
  TR0 Try.prog 11 [.agg #[.int .i64 cd, .int .i64 at_, .string path, .bool op, .int .i64 x0, .int .i64 x1, .int .i64 x2, .int .i64 x3, .int .i64 x4, .int .i64 x5, .int .i64 x6, .int .i64 x7, .slice pA ps.length pc, .slice kA lf.length kc]] [] S wf (fun v_ C_ => ∃ (u : Value) (L : List TV), (vs L = faultT cd at_ path) ∧ v_ = u ∧ C_ = [rw_ eTV 90 (u) L, nest 9 3 L]) := by
 refine TR.mk Try.func11 rfl Try.ntmps11 rfl rfl (fun w_ => ?_)
 refine .seq (.region ?_)
 refine .cons (st_boxa rfl rfl rfl rfl rfl (fun b1 => ?_))
 refine .v (ev_as rfl rfl) rfl ?_
 refine .go idQ (.seq (.region ?_))
 refine .v (ev_any (v := .agg #[.slice none 0 0]) rfl (by kernel_rfl) (fun _ => by kernel_rfl)) rfl ?_
 refine .cons (st_boxa rfl rfl rfl rfl rfl (fun b2 => ?_))
 refine .v (ev_as rfl rfl) rfl ?_
 refine .go idQ (.seq (.seq ?_))
 refine SC.nilrow eTV 90 ?_
 refine .region ?_
 refine .v (ev_fa rfl fo30_0 rfl (r := 0) rfl) rfl ?_
 refine .v (ev_fa rfl fo24_0 rfl (r := 0) rfl) rfl ?_
 refine .v (ev_ld1 rfl ty22 rfl (At.own1 2 rfl rfl)) rfl ?_
 refine .v (ev_cmp rfl rfl rfl rfl) rfl ?_
 refine .go idQ ?_
 refine .condI rfl bNE (fun h3 => ?_) (fun h3 => ?_)
 ·
  refine .seq ?_
  refine SC.draw mo [rw_ eTV 90 (.slice none 0 0) ([] : List TV), cel b2 [.slice none 0 0] 65] [] (.c .h (.c .h .n)) (fun _ _ _ c hc => by cases hc) (fun wf_4 hl_4 hx_4 hR_4 => ?_)
  refine SR.k 0 rfl (by kernel_rfl) rfl (ev_mv rfl rfl) ?_
  refine SR.k 1 rfl (by kernel_rfl) rfl (ev_mv rfl rfl) ?_
  refine SR.k 4 rfl (by kernel_rfl) rfl (ev_mv rfl rfl) ?_
  refine SR.k 5 rfl (by kernel_rfl) rfl (ev_fa rfl fo30_0 rfl (r := 0) rfl) ?_
  refine SR.k 6 rfl (by kernel_rfl) rfl (ev_fa rfl fo24_0 rfl (r := 0) rfl) ?_
  refine SR.k 7 rfl (by kernel_rfl) rfl (ev_ld1 rfl ty22 rfl (At.d (At.lent hR_4 0 rfl rfl))) ?_
  refine SR.k 10 rfl (by kernel_rfl) rfl (ev_mv rfl rfl) ?_
  refine SR.k 11 rfl (by kernel_rfl) rfl (ev_fa rfl fo30_0 rfl (r := 0) rfl) ?_
  refine SR.k 12 rfl (by kernel_rfl) rfl (ev_fa rfl fo24_1 rfl (r := 1) rfl) ?_
  refine SR.k 13 rfl (by kernel_rfl) rfl (ev_ld1 rfl ty3 rfl (At.d (At.lent hR_4 0 rfl rfl))) ?_
  refine SR.k 16 rfl (by kernel_rfl) rfl (ev_mv rfl rfl) ?_
  refine SR.k 17 rfl (by kernel_rfl) rfl (ev_fa rfl fo30_0 rfl (r := 0) rfl) ?_
  refine SR.k 18 rfl (by kernel_rfl) rfl (ev_fa rfl fo24_2 rfl (r := 2) rfl) ?_
  refine SR.k 19 rfl (by kernel_rfl) rfl (ev_ld1 rfl ty9 rfl (At.d (At.lent hR_4 0 rfl rfl))) ?_
  refine SR.one (j := 2) (by kernel_rfl) rfl (st_call0 rfl rfl rfl rfl hbd22 rfl (.c (.t .h) (.c .h .n)) (mtext b2 (.slice none 0 0) ([] : List TV) ⟨#[101, 114, 114, 111, 114]⟩ _ _ (by first | omega | simp only [LL] <;> omega | simp <;> omega)) (fun v_q6 C_q6 q6 => ⟨tt0, ?_⟩))
  obtain ⟨u5, rfl, rfl⟩ := q6
  show SR _ _ _ _ _ _ _ _ _ ⟨_, _ :: _ :: _, _, _⟩
  refine SR.k 3 rfl (by kernel_rfl) rfl (ev_any (v := .agg #[.string ⟨#[115, 116, 97, 116, 117, 115]⟩, .int .i64 (([] : List TV).length : Int)]) rfl (by kernel_rfl) (fun _ => by kernel_rfl)) ?_
  refine SR.one (j := 8) (by kernel_rfl) rfl (st_call0 rfl rfl rfl rfl hbd23 rfl (.c .h (.c .h .n)) (mnum b2 u5 (([] : List TV) ++ [sT ⟨#[101, 114, 114, 111, 114]⟩]) cd _ _ (by first | omega | simp only [LL] <;> omega | simp <;> omega)) (fun v_q8 C_q8 q8 => ⟨tt0, ?_⟩))
  obtain ⟨u7, rfl, rfl⟩ := q8
  show SR _ _ _ _ _ _ _ _ _ ⟨_, _ :: _ :: _, _, _⟩
  refine SR.k 9 rfl (by kernel_rfl) rfl (ev_any (v := .agg #[.string ⟨#[99, 111, 100, 101]⟩, .int .i64 ((([] : List TV) ++ [sT ⟨#[101, 114, 114, 111, 114]⟩]).length : Int)]) rfl (by kernel_rfl) (fun _ => by kernel_rfl)) ?_
  refine SR.one (j := 14) (by kernel_rfl) rfl (st_call0 rfl rfl rfl rfl hbd23 rfl (.c .h (.c .h .n)) (mnum b2 u7 ((([] : List TV) ++ [sT ⟨#[101, 114, 114, 111, 114]⟩]) ++ [nT cd]) at_ _ _ (by first | omega | simp only [LL] <;> omega | simp <;> omega)) (fun v_q10 C_q10 q10 => ⟨tt0, ?_⟩))
  obtain ⟨u9, rfl, rfl⟩ := q10
  show SR _ _ _ _ _ _ _ _ _ ⟨_, _ :: _ :: _, _, _⟩
  refine SR.k 15 rfl (by kernel_rfl) rfl (ev_any (v := .agg #[.string ⟨#[97, 116]⟩, .int .i64 (((([] : List TV) ++ [sT ⟨#[101, 114, 114, 111, 114]⟩]) ++ [nT cd]).length : Int)]) rfl (by kernel_rfl) (fun _ => by kernel_rfl)) ?_
  refine SR.one (j := 20) (by kernel_rfl) rfl (st_call0 rfl rfl rfl rfl hbd22 rfl (.c .h (.c .h .n)) (mtext b2 u9 (((([] : List TV) ++ [sT ⟨#[101, 114, 114, 111, 114]⟩]) ++ [nT cd]) ++ [nT at_]) path _ _ (by first | omega | simp only [LL] <;> omega | simp <;> omega)) (fun v_q12 C_q12 q12 => ⟨tt0, ?_⟩))
  obtain ⟨u11, rfl, rfl⟩ := q12
  show SR _ _ _ _ _ _ _ _ _ ⟨_, _ :: _ :: _, _, _⟩
  refine SR.k 21 rfl (by kernel_rfl) rfl (ev_any (v := .agg #[.string ⟨#[112, 97, 116, 104]⟩, .int .i64 ((((([] : List TV) ++ [sT ⟨#[101, 114, 114, 111, 114]⟩]) ++ [nT cd]) ++ [nT at_]).length : Int)]) rfl (by kernel_rfl) (fun _ => by kernel_rfl)) ?_
  refine SR.one (j := 22) (by kernel_rfl) rfl (st_lit ePr (e := 69) (l := [(Pr.mk ⟨#[115, 116, 97, 116, 117, 115]⟩ (([] : List TV).length : Int)), (Pr.mk ⟨#[99, 111, 100, 101]⟩ ((([] : List TV) ++ [sT ⟨#[101, 114, 114, 111, 114]⟩]).length : Int)), (Pr.mk ⟨#[97, 116]⟩ (((([] : List TV) ++ [sT ⟨#[101, 114, 114, 111, 114]⟩]) ++ [nT cd]).length : Int)), (Pr.mk ⟨#[112, 97, 116, 104]⟩ ((((([] : List TV) ++ [sT ⟨#[101, 114, 114, 111, 114]⟩]) ++ [nT cd]) ++ [nT at_]).length : Int))]) rfl rfl rfl rfl (by kernel_rfl) rfl rfl (fun w => by kernel_rfl) (fun b13 => ⟨tt0, ?_⟩))
  refine SR.one (j := 23) (by kernel_rfl) rfl (st_lend0 rfl rfl rfl rfl hbd21 rfl (.c (.t .h) (.c (.t .h) .n)) (.c .h .n) (fun w_ hw => mobject b2 u11 ((((([] : List TV) ++ [sT ⟨#[101, 114, 114, 111, 114]⟩]) ++ [nT cd]) ++ [nT at_]) ++ [sT path]) (some ⟨b13, 0, none⟩) 4 4 [(Pr.mk ⟨#[115, 116, 97, 116, 117, 115]⟩ (([] : List TV).length : Int)), (Pr.mk ⟨#[99, 111, 100, 101]⟩ ((([] : List TV) ++ [sT ⟨#[101, 114, 114, 111, 114]⟩]).length : Int)), (Pr.mk ⟨#[97, 116]⟩ (((([] : List TV) ++ [sT ⟨#[101, 114, 114, 111, 114]⟩]) ++ [nT cd]).length : Int)), (Pr.mk ⟨#[112, 97, 116, 104]⟩ ((((([] : List TV) ++ [sT ⟨#[101, 114, 114, 111, 114]⟩]) ++ [nT cd]) ++ [nT at_]).length : Int))] _ _ (Fr.lend hw 0 rfl (by first | omega | simp only [LL] <;> omega | simp <;> omega)) (by first | omega | simp only [LL] <;> omega | simp <;> omega) (by first | omega | simp only [LL] <;> omega | simp <;> omega) (by first | omega | simp only [LL] <;> omega | simp <;> omega)) (fun v_q19 C_q19 q19 => ⟨tt0, ?_⟩))
  obtain ⟨u14, nA15, nc16, kA17, kc18, rfl, rfl⟩ := q19
  show SR _ _ _ _ _ _ _ _ _ ⟨_, _ :: _ :: _ :: _ :: _ :: _, _, _⟩
  refine SR.fin (by kernel_rfl) hl_4 hx_4 hR_4 (.c (.c (.c (.c (.c .n))))) ?_
  refine SQ.go idQ ?_
  refine .seq (.region ?_)
  refine .v (ev_mv rfl rfl) rfl ?_
  refine .v (ev_nil rfl rfl) rfl ?_
  refine .v (ev_fa rfl fo65_0 rfl (r := 0) rfl) rfl ?_
  refine .v (ev_ld1 rfl ty34 rfl (At.own1 0 rfl rfl)) rfl ?_
  refine .v (ev_as rfl rfl) rfl ?_
  refine .go idQ ?_
  refine SC.nest0 9 3 ?_
  refine SC.packl (TN.mk 4 false 0 ⟨#[101, 114, 114, 111, 114]⟩ [] []) .h rfl rfl ?_
  refine SC.packl (TN.mk 3 false cd ⟨#[]⟩ [] []) .h rfl rfl ?_
  refine SC.packl (TN.mk 3 false at_ ⟨#[]⟩ [] []) .h rfl rfl ?_
  refine SC.packl (TN.mk 4 false 0 path [] []) .h rfl rfl ?_
  refine SC.pack (TV.mk (TN.mk 6 false 0 ⟨#[]⟩ ([(Pr.mk ⟨#[115, 116, 97, 116, 117, 115]⟩ (([] : List TV).length : Int)), (Pr.mk ⟨#[99, 111, 100, 101]⟩ ((([] : List TV) ++ [sT ⟨#[101, 114, 114, 111, 114]⟩]).length : Int)), (Pr.mk ⟨#[97, 116]⟩ (((([] : List TV) ++ [sT ⟨#[101, 114, 114, 111, 114]⟩]) ++ [nT cd]).length : Int)), (Pr.mk ⟨#[112, 97, 116, 104]⟩ ((((([] : List TV) ++ [sT ⟨#[101, 114, 114, 111, 114]⟩]) ++ [nT cd]) ++ [nT at_]).length : Int))].map Pr.name) ([(Pr.mk ⟨#[115, 116, 97, 116, 117, 115]⟩ (([] : List TV).length : Int)), (Pr.mk ⟨#[99, 111, 100, 101]⟩ ((([] : List TV) ++ [sT ⟨#[101, 114, 114, 111, 114]⟩]).length : Int)), (Pr.mk ⟨#[97, 116]⟩ (((([] : List TV) ++ [sT ⟨#[101, 114, 114, 111, 114]⟩]) ++ [nT cd]).length : Int)), (Pr.mk ⟨#[112, 97, 116, 104]⟩ ((((([] : List TV) ++ [sT ⟨#[101, 114, 114, 111, 114]⟩]) ++ [nT cd]) ++ [nT at_]).length : Int))].map Pr.pos)) nA15 nc16 kA17 kc18) (.c .h (.c (.t (.t .h)) (.c (.t (.t .h)) .n))) (by simp) (by simp) ?_
  exact .ret idQ (ret1 Try.results11 rfl (.c (.t (.t .h)) (.c .h .n)) ⟨u14, (((((([] : List TV) ++ [sT ⟨#[101, 114, 114, 111, 114]⟩]) ++ [nT cd]) ++ [nT at_]) ++ [sT path]) ++ [TV.mk (TN.mk 6 false 0 ⟨#[]⟩ ([(Pr.mk ⟨#[115, 116, 97, 116, 117, 115]⟩ (([] : List TV).length : Int)), (Pr.mk ⟨#[99, 111, 100, 101]⟩ ((([] : List TV) ++ [sT ⟨#[101, 114, 114, 111, 114]⟩]).length : Int)), (Pr.mk ⟨#[97, 116]⟩ (((([] : List TV) ++ [sT ⟨#[101, 114, 114, 111, 114]⟩]) ++ [nT cd]).length : Int)), (Pr.mk ⟨#[112, 97, 116, 104]⟩ ((((([] : List TV) ++ [sT ⟨#[101, 114, 114, 111, 114]⟩]) ++ [nT cd]) ++ [nT at_]).length : Int))].map Pr.name) ([(Pr.mk ⟨#[115, 116, 97, 116, 117, 115]⟩ (([] : List TV).length : Int)), (Pr.mk ⟨#[99, 111, 100, 101]⟩ ((([] : List TV) ++ [sT ⟨#[101, 114, 114, 111, 114]⟩]).length : Int)), (Pr.mk ⟨#[97, 116]⟩ (((([] : List TV) ++ [sT ⟨#[101, 114, 114, 111, 114]⟩]) ++ [nT cd]).length : Int)), (Pr.mk ⟨#[112, 97, 116, 104]⟩ ((((([] : List TV) ++ [sT ⟨#[101, 114, 114, 111, 114]⟩]) ++ [nT cd]) ++ [nT at_]).length : Int))].map Pr.pos)) nA15 nc16 kA17 kc18]), rfl, rfl, rfl⟩)
 exact absurd hc (by assumption)
end Go.Proofs.Ythmkelkefmfmgaa.Sx
set_option maxRecDepth 20000
set_option maxHeartbeats 4000000
namespace Go.Proofs.Ythmkelkefmfmgaa.Sx.FPA
open Go Go.SX Go.Proofs
theorem fo86_2 : fo Try.prog 86 2 = some 2 := by kernel_rfl
theorem ty3 : ty Try.prog 3 = some (false, 1) := by kernel_rfl
theorem fo86_3 : fo Try.prog 86 3 = some 3 := by kernel_rfl
theorem fo86_1 : fo Try.prog 86 1 = some 1 := by kernel_rfl
theorem fo86_0 : fo Try.prog 86 0 = some 0 := by kernel_rfl
theorem ty36 : ty Try.prog 36 = some (false, 1) := by kernel_rfl
theorem ty5 : ty Try.prog 5 = some (false, 1) := by kernel_rfl
theorem mo : Try.prog.follows .mixedOrders = true := by kernel_rfl
theorem hbd38 : hasBody Try.prog 38 = true := by kernel_rfl
theorem hbd37 : hasBody Try.prog 37 = true := by kernel_rfl
theorem hbd68 : hasBody Try.prog 68 = true := by kernel_rfl
end Go.Proofs.Ythmkelkefmfmgaa.Sx.FPA
namespace Go.Proofs.Ythmkelkefmfmgaa.Sx
open Go Go.SX Go.Proofs FPA
theorem no_ (g : Nat) (A : Option Addr) (n : Nat) (c : Nat) (i : Int) (bad : Int) (pos : Int) (v : Value) (a : Int) (e : Int) (S : Nat → Prop) (wf : World) :
  TR0 Try.prog 38 [.pointer (some ⟨g, 0, none⟩), .int .i64 a, .int .i64 e] [cel g [.slice A n c, .int .i64 i, .int .i64 bad, .int .i64 pos, v] 86] S wf (fun v_ C_ => ∃ (bad2 : Int) (pos2 : Int), ((bad = 0 → bad2 = e ∧ pos2 = a) ∧ (bad ≠ 0 → bad2 = bad ∧ pos2 = pos)) ∧ v_ = .tuple #[] ∧ C_ = [cel g [.slice A n c, .int .i64 i, .int .i64 bad2, .int .i64 pos2, v] 86]) := by
 refine TR.mk Try.func38 rfl Try.ntmps38 rfl rfl (fun w_ => ?_)
 refine .seq (.region ?_)
 refine .v (ev_mv rfl rfl) rfl ?_
 refine .v (ev_nil rfl rfl) rfl ?_
 refine .v (ev_fa rfl fo86_2 rfl (r := 2) rfl) rfl ?_
 refine .v (ev_ld1 rfl ty3 rfl (At.own1 0 rfl rfl)) rfl ?_
 refine .v (ev_cmp rfl rfl rfl rfl) rfl ?_
 refine .go idQ ?_
 refine .condI rfl bE (fun h1 => ?_) (fun h1 => ?_)
 ·
  refine .seq (.region ?_)
  refine .v (ev_mv rfl rfl) rfl ?_
  refine .v (ev_mv rfl rfl) rfl ?_
  refine .v (ev_nil rfl rfl) rfl ?_
  refine .v (ev_fa rfl fo86_2 rfl (r := 2) rfl) rfl ?_
  refine .cons (st_store1 rfl rfl rfl ty3 rfl rfl rfl .h (.t (.t .h)) ?_)
  refine .go idQ (.region ?_)
  refine .v (ev_mv rfl rfl) rfl ?_
  refine .v (ev_mv rfl rfl) rfl ?_
  refine .v (ev_nil rfl rfl) rfl ?_
  refine .v (ev_fa rfl fo86_3 rfl (r := 3) rfl) rfl ?_
  refine .cons (st_store1 rfl rfl rfl ty3 rfl rfl rfl .h (.t (.t (.t .h))) ?_)
  exact SP.nil (end0 Try.results38 (.c .h .n) ⟨e, a, (by constructor <;> intro h_ <;> first | exact ⟨rfl, rfl⟩ | (exfalso; omega)), rfl, rfl⟩)
 exact .skipq idQ (end0 Try.results38 (.c .h .n) ⟨bad, pos, (by constructor <;> intro h_ <;> first | exact ⟨rfl, rfl⟩ | (exfalso; omega)), rfl, rfl⟩)
theorem gap_ (g : Nat) (A : Option Addr) (n : Nat) (c : Nat) (b : List Int) (i : Int) (bad : Int) (pos : Int) (v : Value) (S : Nat → Prop) (wf : World) (hA : Fr eY S wf A b) (hn : b.length = n) (hN : n ≤ 65536) (hr : ∀ x ∈ b, isB x) (hcap : n ≤ c) (hi : 0 ≤ i ∧ i ≤ 100000) :
  TR0 Try.prog 37 [.pointer (some ⟨g, 0, none⟩)] [cel g [.slice A n c, .int .i64 i, .int .i64 bad, .int .i64 pos, v] 86] S wf (fun v_ C_ => ∃ (i2 : Int), (i2 = (gapF b (LS.mk i bad pos)).i) ∧ ((i ≤ i2 ∧ (i ≤ n → i2 ≤ n) ∧ (n ≤ i → i2 = i))) ∧ v_ = .tuple #[] ∧ C_ = [cel g [.slice A n c, .int .i64 i2, .int .i64 bad, .int .i64 pos, v] 86]) := by
 have hla := hA.len
 refine TR.mk Try.func37 rfl Try.ntmps37 rfl rfl (fun w_ => ?_)
 refine .block ?_
 refine .loop (X := Int) (fun x => 0 ≤ x ∧ (i ≤ x ∧ (i ≤ n → x ≤ n) ∧ (n ≤ i → x = i)) ∧ x + gapN (b.drop x.toNat) = i + gapN (b.drop i.toNat)) (fun x => [(0, .pointer (some ⟨g, 0, none⟩))]) (fun x => [cel g [.slice A n c, .int .i64 x, .int .i64 bad, .int .i64 pos, v] 86]) (fun _ => S) (fun _ => wf) (fun x => (n + 100000 - x).toNat) (fun a_ w_ hs_ hw_ => ⟨i, (by exact ⟨by omega, by omega, rfl⟩), hs_.mono (Sub.get (.c rfl .n)), hw_.keep (.c .h .n)⟩) (fun x ⟨q_0, q_1, q_2⟩ => ?_)
 show SC _ _ _ _ _ ⟨[(0, .pointer (some ⟨g, 0, none⟩))], [cel g [.slice A n c, .int .i64 x, .int .i64 bad, .int .i64 pos, v] 86], S, wf⟩
 refine .seq (.seq ?_)
 refine SC.draw mo [] [] .n (fun _ _ _ c hc => by cases hc) (fun wf_1 hl_1 hx_1 hR_1 => ?_)
 refine SR.k 0 rfl (by kernel_rfl) rfl (ev_mv rfl rfl) ?_
 refine SR.k 1 rfl (by kernel_rfl) rfl (ev_nil rfl rfl) ?_
 refine SR.k 2 rfl (by kernel_rfl) rfl (ev_fa rfl fo86_1 rfl (r := 1) rfl) ?_
 refine SR.k 3 rfl (by kernel_rfl) rfl (ev_ld1 rfl ty3 rfl (At.d (At.lent hR_1 0 rfl rfl))) ?_
 refine SR.k 4 rfl (by kernel_rfl) rfl (ev_mv rfl rfl) ?_
 refine SR.k 5 rfl (by kernel_rfl) rfl (ev_nil rfl rfl) ?_
 refine SR.k 6 rfl (by kernel_rfl) rfl (ev_fa rfl fo86_0 rfl (r := 0) rfl) ?_
 refine SR.k 7 rfl (by kernel_rfl) rfl (ev_ld1 rfl ty36 rfl (At.d (At.lent hR_1 0 rfl rfl))) ?_
 refine SR.k 8 rfl (by kernel_rfl) rfl (ev_len rfl Try.underlying36 rfl) ?_
 refine SR.k 9 rfl (by kernel_rfl) rfl (ev_cmp rfl rfl rfl rfl) ?_
 refine SR.k 10 rfl (by kernel_rfl) rfl (ev_mv rfl rfl) ?_
 refine SR.gtake 11 rfl (by kernel_rfl) (by kernel_rfl) (by kernel_rfl) rfl (fun _ _ _ _ h => h) rfl rfl rfl rfl rfl (fun _ => ev_mv rfl rfl) ?_
 refine SR.gtake 12 rfl (by kernel_rfl) (by kernel_rfl) (by kernel_rfl) rfl (fun _ _ _ _ h => h) rfl rfl rfl rfl rfl (fun hb => ev_nil rfl (lkg rfl hb)) ?_
 refine SR.gtake 13 rfl (by kernel_rfl) (by kernel_rfl) (by kernel_rfl) rfl (fun _ _ _ _ h => h) rfl rfl rfl rfl rfl (fun hb => ev_fa rfl fo86_0 (lkg rfl hb) (r := 0) rfl) ?_
 refine SR.gtake 14 rfl (by kernel_rfl) (by kernel_rfl) (by kernel_rfl) rfl (fun _ _ _ _ h => h) rfl rfl rfl rfl rfl (fun hb => ev_ld1 rfl ty36 (lkg rfl hb) (At.d (At.lent hR_1 0 rfl rfl))) ?_
 refine SR.gtake 15 rfl (by kernel_rfl) (by kernel_rfl) (by kernel_rfl) rfl (fun _ _ _ _ h => h) rfl rfl rfl rfl rfl (fun _ => ev_mv rfl rfl) ?_
 refine SR.gtake 16 rfl (by kernel_rfl) (by kernel_rfl) (by kernel_rfl) rfl (fun _ _ _ _ h => h) rfl rfl rfl rfl rfl (fun hb => ev_nil rfl (lkg rfl hb)) ?_
 refine SR.gtake 17 rfl (by kernel_rfl) (by kernel_rfl) (by kernel_rfl) rfl (fun _ _ _ _ h => h) rfl rfl rfl rfl rfl (fun hb => ev_fa rfl fo86_1 (lkg rfl hb) (r := 1) rfl) ?_
 refine SR.gtake 18 rfl (by kernel_rfl) (by kernel_rfl) (by kernel_rfl) rfl (fun _ _ _ _ h => h) rfl rfl rfl rfl rfl (fun hb => ev_ld1 rfl ty3 (lkg rfl hb) (At.d (At.lent hR_1 0 rfl rfl))) ?_
 refine SR.gtake 19 rfl (by kernel_rfl) (by kernel_rfl) (by kernel_rfl) rfl (fun _ _ _ _ h => h) rfl rfl rfl rfl rfl (fun hb => have hp := bT bD hb; ev_ix rfl Try.underlying36 ty5 (lkg rfl hb) (lkg rfl hb) (by have _h := hp; omega) (by have _h := hp; omega) (fun _ _ => Fr.adr (i := x) (Fr.ext hA hx_1) (by have _h := hp; omega) (by have _h := hp; omega))) ?_
 refine SR.gtake 20 rfl (by kernel_rfl) (by kernel_rfl) (by kernel_rfl) rfl (fun _ _ _ _ h => h) rfl rfl rfl rfl rfl (fun hb => have hp := bT bD hb; ev_ld1 rfl ty5 (lkg rfl hb) (At.elem1 (At.d (Fr.el (i := x) (Fr.ext hA hx_1) (by have _h := hp; omega) (by have _h := hp; omega))) 0 rfl)) ?_
 refine SR.gtake 21 rfl (by kernel_rfl) (by kernel_rfl) (by kernel_rfl) rfl (fun _ _ _ _ h => h) rfl rfl rfl rfl rfl (fun hb => ev_cmp rfl (lkg rfl hb) rfl rfl) ?_
 refine SR.gtake 22 rfl (by kernel_rfl) (by kernel_rfl) (by kernel_rfl) rfl (fun _ _ _ _ h => h) rfl rfl rfl rfl rfl (fun hb => ev_mv rfl (lkg rfl hb)) ?_
 refine SR.ggtake (b1 := (decide (x < (n : Int)))) (b := ((gt b x) == 32)) 23 cb_tf rfl (by kernel_rfl) (by kernel_rfl) (by kernel_rfl) rfl (fun _ _ _ _ h => h) rfl rfl rfl rfl rfl (fun hb1 _ => ev_mv rfl rfl) ?_
 refine SR.ggtake (b1 := (decide (x < (n : Int)))) (b := ((gt b x) == 32)) 24 cb_tf rfl (by kernel_rfl) (by kernel_rfl) (by kernel_rfl) rfl (fun _ _ _ _ h => h) rfl rfl rfl rfl rfl (fun hb1 hb => ev_nil rfl (lkg rfl hb)) ?_
 refine SR.ggtake (b1 := (decide (x < (n : Int)))) (b := ((gt b x) == 32)) 25 cb_tf rfl (by kernel_rfl) (by kernel_rfl) (by kernel_rfl) rfl (fun _ _ _ _ h => h) rfl rfl rfl rfl rfl (fun hb1 hb => ev_fa rfl fo86_0 (lkg rfl hb) (r := 0) rfl) ?_
 refine SR.ggtake (b1 := (decide (x < (n : Int)))) (b := ((gt b x) == 32)) 26 cb_tf rfl (by kernel_rfl) (by kernel_rfl) (by kernel_rfl) rfl (fun _ _ _ _ h => h) rfl rfl rfl rfl rfl (fun hb1 hb => ev_ld1 rfl ty36 (lkg rfl hb) (At.d (At.lent hR_1 0 rfl rfl))) ?_
 refine SR.ggtake (b1 := (decide (x < (n : Int)))) (b := ((gt b x) == 32)) 27 cb_tf rfl (by kernel_rfl) (by kernel_rfl) (by kernel_rfl) rfl (fun _ _ _ _ h => h) rfl rfl rfl rfl rfl (fun hb1 _ => ev_mv rfl rfl) ?_
 refine SR.ggtake (b1 := (decide (x < (n : Int)))) (b := ((gt b x) == 32)) 28 cb_tf rfl (by kernel_rfl) (by kernel_rfl) (by kernel_rfl) rfl (fun _ _ _ _ h => h) rfl rfl rfl rfl rfl (fun hb1 hb => ev_nil rfl (lkg rfl hb)) ?_
 refine SR.ggtake (b1 := (decide (x < (n : Int)))) (b := ((gt b x) == 32)) 29 cb_tf rfl (by kernel_rfl) (by kernel_rfl) (by kernel_rfl) rfl (fun _ _ _ _ h => h) rfl rfl rfl rfl rfl (fun hb1 hb => ev_fa rfl fo86_1 (lkg rfl hb) (r := 1) rfl) ?_
 refine SR.ggtake (b1 := (decide (x < (n : Int)))) (b := ((gt b x) == 32)) 30 cb_tf rfl (by kernel_rfl) (by kernel_rfl) (by kernel_rfl) rfl (fun _ _ _ _ h => h) rfl rfl rfl rfl rfl (fun hb1 hb => ev_ld1 rfl ty3 (lkg rfl hb) (At.d (At.lent hR_1 0 rfl rfl))) ?_
 refine SR.ggtake (b1 := (decide (x < (n : Int)))) (b := ((gt b x) == 32)) 31 cb_tf rfl (by kernel_rfl) (by kernel_rfl) (by kernel_rfl) rfl (fun _ _ _ _ h => h) rfl rfl rfl rfl rfl (fun hb1 hb => have hp := bT (bA bD (bN bE)) hb; ev_ix rfl Try.underlying36 ty5 (lkg rfl hb) (lkg rfl hb) (by have _h := hp; omega) (by have _h := hp; omega) (fun _ _ => Fr.adr (i := x) (Fr.ext hA hx_1) (by have _h := hp; omega) (by have _h := hp; omega))) ?_
 refine SR.ggtake (b1 := (decide (x < (n : Int)))) (b := ((gt b x) == 32)) 32 cb_tf rfl (by kernel_rfl) (by kernel_rfl) (by kernel_rfl) rfl (fun _ _ _ _ h => h) rfl rfl rfl rfl rfl (fun hb1 hb => have hp := bT (bA bD (bN bE)) hb; ev_ld1 rfl ty5 (lkg rfl hb) (At.elem1 (At.d (Fr.el (i := x) (Fr.ext hA hx_1) (by have _h := hp; omega) (by have _h := hp; omega))) 0 rfl)) ?_
 refine SR.ggtake (b1 := (decide (x < (n : Int)))) (b := ((gt b x) == 32)) 33 cb_tf rfl (by kernel_rfl) (by kernel_rfl) (by kernel_rfl) rfl (fun _ _ _ _ h => h) rfl rfl rfl rfl rfl (fun hb1 hb => ev_cmp rfl (lkg rfl hb) rfl rfl) ?_
 refine SR.gtake 34 rfl (by kernel_rfl) (by kernel_rfl) (by kernel_rfl) rfl (fun _ _ _ _ h => h) rfl rfl rfl rfl rfl (fun hb => ev_or rfl (lkg rfl hb) rfl (lkgn rfl cb_tf hb)) ?_
 refine SR.gtake 35 rfl (by kernel_rfl) (by kernel_rfl) (by kernel_rfl) rfl (fun _ _ _ _ h => h) rfl rfl rfl rfl rfl (fun hb => ev_mv rfl (lkg rfl hb)) ?_
 refine SR.ggtake (b1 := (decide (x < (n : Int)))) (b := (((gt b x) == 32) || ((gt b x) == 9))) 36 cb_tf rfl (by kernel_rfl) (by kernel_rfl) (by kernel_rfl) rfl (fun _ _ _ _ h => h) rfl rfl rfl rfl rfl (fun hb1 _ => ev_mv rfl rfl) ?_
 refine SR.ggtake (b1 := (decide (x < (n : Int)))) (b := (((gt b x) == 32) || ((gt b x) == 9))) 37 cb_tf rfl (by kernel_rfl) (by kernel_rfl) (by kernel_rfl) rfl (fun _ _ _ _ h => h) rfl rfl rfl rfl rfl (fun hb1 hb => ev_nil rfl (lkg rfl hb)) ?_
 refine SR.ggtake (b1 := (decide (x < (n : Int)))) (b := (((gt b x) == 32) || ((gt b x) == 9))) 38 cb_tf rfl (by kernel_rfl) (by kernel_rfl) (by kernel_rfl) rfl (fun _ _ _ _ h => h) rfl rfl rfl rfl rfl (fun hb1 hb => ev_fa rfl fo86_0 (lkg rfl hb) (r := 0) rfl) ?_
 refine SR.ggtake (b1 := (decide (x < (n : Int)))) (b := (((gt b x) == 32) || ((gt b x) == 9))) 39 cb_tf rfl (by kernel_rfl) (by kernel_rfl) (by kernel_rfl) rfl (fun _ _ _ _ h => h) rfl rfl rfl rfl rfl (fun hb1 hb => ev_ld1 rfl ty36 (lkg rfl hb) (At.d (At.lent hR_1 0 rfl rfl))) ?_
 refine SR.ggtake (b1 := (decide (x < (n : Int)))) (b := (((gt b x) == 32) || ((gt b x) == 9))) 40 cb_tf rfl (by kernel_rfl) (by kernel_rfl) (by kernel_rfl) rfl (fun _ _ _ _ h => h) rfl rfl rfl rfl rfl (fun hb1 _ => ev_mv rfl rfl) ?_
 refine SR.ggtake (b1 := (decide (x < (n : Int)))) (b := (((gt b x) == 32) || ((gt b x) == 9))) 41 cb_tf rfl (by kernel_rfl) (by kernel_rfl) (by kernel_rfl) rfl (fun _ _ _ _ h => h) rfl rfl rfl rfl rfl (fun hb1 hb => ev_nil rfl (lkg rfl hb)) ?_
 refine SR.ggtake (b1 := (decide (x < (n : Int)))) (b := (((gt b x) == 32) || ((gt b x) == 9))) 42 cb_tf rfl (by kernel_rfl) (by kernel_rfl) (by kernel_rfl) rfl (fun _ _ _ _ h => h) rfl rfl rfl rfl rfl (fun hb1 hb => ev_fa rfl fo86_1 (lkg rfl hb) (r := 1) rfl) ?_
 refine SR.ggtake (b1 := (decide (x < (n : Int)))) (b := (((gt b x) == 32) || ((gt b x) == 9))) 43 cb_tf rfl (by kernel_rfl) (by kernel_rfl) (by kernel_rfl) rfl (fun _ _ _ _ h => h) rfl rfl rfl rfl rfl (fun hb1 hb => ev_ld1 rfl ty3 (lkg rfl hb) (At.d (At.lent hR_1 0 rfl rfl))) ?_
 refine SR.ggtake (b1 := (decide (x < (n : Int)))) (b := (((gt b x) == 32) || ((gt b x) == 9))) 44 cb_tf rfl (by kernel_rfl) (by kernel_rfl) (by kernel_rfl) rfl (fun _ _ _ _ h => h) rfl rfl rfl rfl rfl (fun hb1 hb => have hp := bT (bA bD (bN (bO bE bE))) hb; ev_ix rfl Try.underlying36 ty5 (lkg rfl hb) (lkg rfl hb) (by have _h := hp; omega) (by have _h := hp; omega) (fun _ _ => Fr.adr (i := x) (Fr.ext hA hx_1) (by have _h := hp; omega) (by have _h := hp; omega))) ?_
 refine SR.ggtake (b1 := (decide (x < (n : Int)))) (b := (((gt b x) == 32) || ((gt b x) == 9))) 45 cb_tf rfl (by kernel_rfl) (by kernel_rfl) (by kernel_rfl) rfl (fun _ _ _ _ h => h) rfl rfl rfl rfl rfl (fun hb1 hb => have hp := bT (bA bD (bN (bO bE bE))) hb; ev_ld1 rfl ty5 (lkg rfl hb) (At.elem1 (At.d (Fr.el (i := x) (Fr.ext hA hx_1) (by have _h := hp; omega) (by have _h := hp; omega))) 0 rfl)) ?_
 refine SR.ggtake (b1 := (decide (x < (n : Int)))) (b := (((gt b x) == 32) || ((gt b x) == 9))) 46 cb_tf rfl (by kernel_rfl) (by kernel_rfl) (by kernel_rfl) rfl (fun _ _ _ _ h => h) rfl rfl rfl rfl rfl (fun hb1 hb => ev_cmp rfl (lkg rfl hb) rfl rfl) ?_
 refine SR.gtake 47 rfl (by kernel_rfl) (by kernel_rfl) (by kernel_rfl) rfl (fun _ _ _ _ h => h) rfl rfl rfl rfl rfl (fun hb => ev_or rfl (lkg rfl hb) rfl (lkgn rfl cb_tf hb)) ?_
 refine SR.gtake 48 rfl (by kernel_rfl) (by kernel_rfl) (by kernel_rfl) rfl (fun _ _ _ _ h => h) rfl rfl rfl rfl rfl (fun hb => ev_mv rfl (lkg rfl hb)) ?_
 refine SR.ggtake (b1 := (decide (x < (n : Int)))) (b := ((((gt b x) == 32) || ((gt b x) == 9)) || ((gt b x) == 10))) 49 cb_tf rfl (by kernel_rfl) (by kernel_rfl) (by kernel_rfl) rfl (fun _ _ _ _ h => h) rfl rfl rfl rfl rfl (fun hb1 _ => ev_mv rfl rfl) ?_
 refine SR.ggtake (b1 := (decide (x < (n : Int)))) (b := ((((gt b x) == 32) || ((gt b x) == 9)) || ((gt b x) == 10))) 50 cb_tf rfl (by kernel_rfl) (by kernel_rfl) (by kernel_rfl) rfl (fun _ _ _ _ h => h) rfl rfl rfl rfl rfl (fun hb1 hb => ev_nil rfl (lkg rfl hb)) ?_
 refine SR.ggtake (b1 := (decide (x < (n : Int)))) (b := ((((gt b x) == 32) || ((gt b x) == 9)) || ((gt b x) == 10))) 51 cb_tf rfl (by kernel_rfl) (by kernel_rfl) (by kernel_rfl) rfl (fun _ _ _ _ h => h) rfl rfl rfl rfl rfl (fun hb1 hb => ev_fa rfl fo86_0 (lkg rfl hb) (r := 0) rfl) ?_
 refine SR.ggtake (b1 := (decide (x < (n : Int)))) (b := ((((gt b x) == 32) || ((gt b x) == 9)) || ((gt b x) == 10))) 52 cb_tf rfl (by kernel_rfl) (by kernel_rfl) (by kernel_rfl) rfl (fun _ _ _ _ h => h) rfl rfl rfl rfl rfl (fun hb1 hb => ev_ld1 rfl ty36 (lkg rfl hb) (At.d (At.lent hR_1 0 rfl rfl))) ?_
 refine SR.ggtake (b1 := (decide (x < (n : Int)))) (b := ((((gt b x) == 32) || ((gt b x) == 9)) || ((gt b x) == 10))) 53 cb_tf rfl (by kernel_rfl) (by kernel_rfl) (by kernel_rfl) rfl (fun _ _ _ _ h => h) rfl rfl rfl rfl rfl (fun hb1 _ => ev_mv rfl rfl) ?_
 refine SR.ggtake (b1 := (decide (x < (n : Int)))) (b := ((((gt b x) == 32) || ((gt b x) == 9)) || ((gt b x) == 10))) 54 cb_tf rfl (by kernel_rfl) (by kernel_rfl) (by kernel_rfl) rfl (fun _ _ _ _ h => h) rfl rfl rfl rfl rfl (fun hb1 hb => ev_nil rfl (lkg rfl hb)) ?_
 refine SR.ggtake (b1 := (decide (x < (n : Int)))) (b := ((((gt b x) == 32) || ((gt b x) == 9)) || ((gt b x) == 10))) 55 cb_tf rfl (by kernel_rfl) (by kernel_rfl) (by kernel_rfl) rfl (fun _ _ _ _ h => h) rfl rfl rfl rfl rfl (fun hb1 hb => ev_fa rfl fo86_1 (lkg rfl hb) (r := 1) rfl) ?_
 refine SR.ggtake (b1 := (decide (x < (n : Int)))) (b := ((((gt b x) == 32) || ((gt b x) == 9)) || ((gt b x) == 10))) 56 cb_tf rfl (by kernel_rfl) (by kernel_rfl) (by kernel_rfl) rfl (fun _ _ _ _ h => h) rfl rfl rfl rfl rfl (fun hb1 hb => ev_ld1 rfl ty3 (lkg rfl hb) (At.d (At.lent hR_1 0 rfl rfl))) ?_
 refine SR.ggtake (b1 := (decide (x < (n : Int)))) (b := ((((gt b x) == 32) || ((gt b x) == 9)) || ((gt b x) == 10))) 57 cb_tf rfl (by kernel_rfl) (by kernel_rfl) (by kernel_rfl) rfl (fun _ _ _ _ h => h) rfl rfl rfl rfl rfl (fun hb1 hb => have hp := bT (bA bD (bN (bO (bO bE bE) bE))) hb; ev_ix rfl Try.underlying36 ty5 (lkg rfl hb) (lkg rfl hb) (by have _h := hp; omega) (by have _h := hp; omega) (fun _ _ => Fr.adr (i := x) (Fr.ext hA hx_1) (by have _h := hp; omega) (by have _h := hp; omega))) ?_
 refine SR.ggtake (b1 := (decide (x < (n : Int)))) (b := ((((gt b x) == 32) || ((gt b x) == 9)) || ((gt b x) == 10))) 58 cb_tf rfl (by kernel_rfl) (by kernel_rfl) (by kernel_rfl) rfl (fun _ _ _ _ h => h) rfl rfl rfl rfl rfl (fun hb1 hb => have hp := bT (bA bD (bN (bO (bO bE bE) bE))) hb; ev_ld1 rfl ty5 (lkg rfl hb) (At.elem1 (At.d (Fr.el (i := x) (Fr.ext hA hx_1) (by have _h := hp; omega) (by have _h := hp; omega))) 0 rfl)) ?_
 refine SR.ggtake (b1 := (decide (x < (n : Int)))) (b := ((((gt b x) == 32) || ((gt b x) == 9)) || ((gt b x) == 10))) 59 cb_tf rfl (by kernel_rfl) (by kernel_rfl) (by kernel_rfl) rfl (fun _ _ _ _ h => h) rfl rfl rfl rfl rfl (fun hb1 hb => ev_cmp rfl (lkg rfl hb) rfl rfl) ?_
 refine SR.gtake 60 rfl (by kernel_rfl) (by kernel_rfl) (by kernel_rfl) rfl (fun _ _ _ _ h => h) rfl rfl rfl rfl rfl (fun hb => ev_or rfl (lkg rfl hb) rfl (lkgn rfl cb_tf hb)) ?_
 refine SR.k 61 rfl (by kernel_rfl) rfl (ev_and rfl rfl rfl rfl) ?_
 refine SR.fin (by kernel_rfl) hl_1 hx_1 hR_1 .n ?_
 refine SQ.go idQ ?_
 refine .condI rfl (bA bD (bO (bO (bO bE bE) bE) bE)) (fun h2 => ?_) (fun h2 => ?_)
 ·
  refine .skipgo idQ (.block (.region ?_))
  refine .v (ev_mv rfl rfl) rfl ?_
  refine .v (ev_mv rfl rfl) rfl ?_
  refine .v (ev_nil rfl rfl) rfl ?_
  refine .v (ev_fa rfl fo86_1 rfl (r := 1) rfl) rfl ?_
  refine .v (ev_ld1 rfl ty3 rfl (At.own1 0 rfl rfl)) rfl ?_
  refine .v (ev_add rfl rfl rfl (r := (x + 1)) rfl (by omega) (by omega)) rfl ?_
  refine .v (ev_nil rfl rfl) rfl ?_
  refine .v (ev_fa rfl fo86_1 rfl (r := 1) rfl) rfl ?_
  refine .cons (st_store1 rfl rfl rfl ty3 rfl rfl rfl .h (.t .h) ?_)
  exact SP.nil (SQ.roundb (X := Int) (x := (x)) (x + 1) (by exact ⟨by omega, by omega, gap_next q_0 (by omega) (by unfold SX.blank; omega) q_2⟩) (by show (_ : Nat) < _; omega) (Sub.get (.c rfl .n)) (fun w hw => hw.keep (.c .h .n)))
 exact .exitq idQ (end0 Try.results37 (.c .h .n) ⟨x, (gap_end q_0 q_2 (by unfold SX.blank; intro h_; simp_all)), q_1, rfl, rfl⟩)
theorem here_ (g : Nat) (A : Option Addr) (n : Nat) (c : Nat) (b : List Int) (i : Int) (bad : Int) (pos : Int) (v : Value) (S : Nat → Prop) (wf : World) (hA : Fr eY S wf A b) (hn : b.length = n) (hN : n ≤ 65536) (hr : ∀ x ∈ b, isB x) (hcap : n ≤ c) (hi : 0 ≤ i ∧ i ≤ 100000) :
  TR0 Try.prog 68 [.pointer (some ⟨g, 0, none⟩)] [cel g [.slice A n c, .int .i64 i, .int .i64 bad, .int .i64 pos, v] 86] S wf (fun v_ C_ => ∃ (r : Int) (bad2 : Int) (pos2 : Int), (r = hereF b (LS.mk i bad pos)) ∧ ((LS.mk i bad2 pos2) = hereS b (LS.mk i bad pos)) ∧ v_ = .int .i64 r ∧ C_ = [cel g [.slice A n c, .int .i64 i, .int .i64 bad2, .int .i64 pos2, v] 86]) := by
 have hla := hA.len
 refine TR.mk Try.func68 rfl Try.ntmps68 rfl rfl (fun w_ => ?_)
 refine .seq (.region ?_)
 refine .v (ev_as rfl rfl) rfl ?_
 refine .go idQ (.seq (.seq (.region ?_)))
 refine .v (ev_mv rfl rfl) rfl ?_
 refine .v (ev_nil rfl rfl) rfl ?_
 refine .v (ev_fa rfl fo86_2 rfl (r := 2) rfl) rfl ?_
 refine .v (ev_ld1 rfl ty3 rfl (At.own1 0 rfl rfl)) rfl ?_
 refine .v (ev_cmp rfl rfl rfl rfl) rfl ?_
 refine .go idQ ?_
 refine .condI rfl bNE (fun h1 => ?_) (fun h1 => ?_)
 ·
  refine .seq (.region ?_)
  refine .v (ev_as rfl rfl) rfl ?_
  refine .go idQ ?_
  exact .ret idQ (ret1 Try.results68 rfl (.c .h .n) ⟨(-1), bad, pos, (here_bad (by assumption)).1, (here_bad (by assumption)).2, rfl, rfl⟩)
 refine .skipgo idQ (.seq (.seq ?_))
 refine SC.draw mo [] [] .n (fun _ _ _ c hc => by cases hc) (fun wf_2 hl_2 hx_2 hR_2 => ?_)
 refine SR.k 0 rfl (by kernel_rfl) rfl (ev_mv rfl rfl) ?_
 refine SR.k 1 rfl (by kernel_rfl) rfl (ev_nil rfl rfl) ?_
 refine SR.k 2 rfl (by kernel_rfl) rfl (ev_fa rfl fo86_1 rfl (r := 1) rfl) ?_
 refine SR.k 3 rfl (by kernel_rfl) rfl (ev_ld1 rfl ty3 rfl (At.d (At.lent hR_2 0 rfl rfl))) ?_
 refine SR.k 4 rfl (by kernel_rfl) rfl (ev_mv rfl rfl) ?_
 refine SR.k 5 rfl (by kernel_rfl) rfl (ev_nil rfl rfl) ?_
 refine SR.k 6 rfl (by kernel_rfl) rfl (ev_fa rfl fo86_0 rfl (r := 0) rfl) ?_
 refine SR.k 7 rfl (by kernel_rfl) rfl (ev_ld1 rfl ty36 rfl (At.d (At.lent hR_2 0 rfl rfl))) ?_
 refine SR.k 8 rfl (by kernel_rfl) rfl (ev_len rfl Try.underlying36 rfl) ?_
 refine SR.k 9 rfl (by kernel_rfl) rfl (ev_cmp rfl rfl rfl rfl) ?_
 refine SR.fin (by kernel_rfl) hl_2 hx_2 hR_2 .n ?_
 refine SQ.go idQ ?_
 refine .condI rfl bD (fun h3 => ?_) (fun h3 => ?_)
 ·
  refine .seq (.region ?_)
  refine .v (ev_mv rfl rfl) rfl ?_
  refine .v (ev_mv rfl rfl) rfl ?_
  refine .v (ev_nil rfl rfl) rfl ?_
  refine .v (ev_fa rfl fo86_0 rfl (r := 0) rfl) rfl ?_
  refine .v (ev_ld1 rfl ty36 rfl (At.own1 0 rfl rfl)) rfl ?_
  refine .v (ev_len rfl Try.underlying36 rfl) rfl ?_
  refine .cons (st_call0 rfl rfl rfl rfl hbd38 rfl (.c .h .n) (no_ g A n c i bad pos v (n : Int) 21 _ _) (fun v_q6 C_q6 q6 => ?_))
  obtain ⟨bad24, pos25, p7, rfl, rfl⟩ := q6
  show SP _ _ _ _ _ _ ⟨_, _ :: _, _, _⟩
  refine .go idQ (.seq (.region ?_))
  refine .v (ev_as rfl rfl) rfl ?_
  refine .go idQ ?_
  exact .ret idQ (ret1 Try.results68 rfl (.c .h .n) ⟨(-1), bad24, pos25, (here_end hn (by omega) p7).1, (here_end hn (by omega) p7).2, rfl, rfl⟩)
 refine .skipgo idQ (.seq ?_)
 refine SC.draw mo [] [] .n (fun _ _ _ c hc => by cases hc) (fun wf_8 hl_8 hx_8 hR_8 => ?_)
 refine SR.k 0 rfl (by kernel_rfl) rfl (ev_mv rfl rfl) ?_
 refine SR.k 1 rfl (by kernel_rfl) rfl (ev_nil rfl rfl) ?_
 refine SR.k 2 rfl (by kernel_rfl) rfl (ev_fa rfl fo86_0 rfl (r := 0) rfl) ?_
 refine SR.k 3 rfl (by kernel_rfl) rfl (ev_ld1 rfl ty36 rfl (At.d (At.lent hR_8 0 rfl rfl))) ?_
 refine SR.k 4 rfl (by kernel_rfl) rfl (ev_mv rfl rfl) ?_
 refine SR.k 5 rfl (by kernel_rfl) rfl (ev_nil rfl rfl) ?_
 refine SR.k 6 rfl (by kernel_rfl) rfl (ev_fa rfl fo86_1 rfl (r := 1) rfl) ?_
 refine SR.k 7 rfl (by kernel_rfl) rfl (ev_ld1 rfl ty3 rfl (At.d (At.lent hR_8 0 rfl rfl))) ?_
 refine SR.k 8 rfl (by kernel_rfl) rfl (ev_ix rfl Try.underlying36 ty5 rfl rfl (by omega) (by omega) (fun _ _ => Fr.adr (i := i) (Fr.ext hA hx_8) (by omega) (by omega))) ?_
 refine SR.k 9 rfl (by kernel_rfl) rfl (ev_ld1 rfl ty5 rfl (At.elem1 (At.d (Fr.el (i := i) (Fr.ext hA hx_8) (by omega) (by omega))) 0 rfl)) ?_
 refine SR.k 10 rfl (by kernel_rfl) rfl (ev_cv rfl Try.underlying5 Try.underlying3 rfl (wrap_b_i64 (gt_range hr _))) ?_
 refine SR.k 11 rfl (by kernel_rfl) rfl (ev_as rfl rfl) ?_
 refine SR.fin (by kernel_rfl) hl_8 hx_8 hR_8 .n ?_
 refine SQ.go idQ ?_
 exact .ret idQ (ret1 Try.results68 rfl (.c .h .n) ⟨(gt b i), bad, pos, (here_ok hn (by assumption) (by omega)).1, (here_ok hn (by assumption) (by omega)).2, rfl, rfl⟩)
theorem next_ (g : Nat) (A : Option Addr) (n : Nat) (c : Nat) (b : List Int) (i : Int) (bad : Int) (pos : Int) (v : Value) (S : Nat → Prop) (wf : World) (hA : Fr eY S wf A b) (hn : b.length = n) (hN : n ≤ 65536) (hr : ∀ x ∈ b, isB x) (hcap : n ≤ c) (hi : 0 ≤ i ∧ i ≤ 100000) :
  TR0 Try.prog 54 [.pointer (some ⟨g, 0, none⟩)] [cel g [.slice A n c, .int .i64 i, .int .i64 bad, .int .i64 pos, v] 86] S wf (fun v_ C_ => ∃ (r : Int) (i2 : Int) (bad2 : Int) (pos2 : Int), (r = nextF b (LS.mk i bad pos)) ∧ ((LS.mk i2 bad2 pos2) = nextS b (LS.mk i bad pos)) ∧ ((i ≤ i2 ∧ (i ≤ n → i2 ≤ n) ∧ (n ≤ i → i2 = i))) ∧ ((r = -1 ∧ bad2 ≠ 0) ∨ (((0 ≤ r ∧ r < 256) ∧ r = gt b i2) ∧ bad = 0 ∧ bad2 = 0 ∧ pos2 = pos ∧ i2 < (n : Int))) ∧ v_ = .int .i64 r ∧ C_ = [cel g [.slice A n c, .int .i64 i2, .int .i64 bad2, .int .i64 pos2, v] 86]) := by
 have hla := hA.len
 refine TR.mk Try.func54 rfl Try.ntmps54 rfl rfl (fun w_ => ?_)
 refine .seq (.region ?_)
 refine .v (ev_as rfl rfl) rfl ?_
 refine .go idQ (.seq (.region ?_))
 refine .v (ev_mv rfl rfl) rfl ?_
 refine .cons (st_call0 rfl rfl rfl rfl hbd37 rfl (.c .h .n) (gap_ g A n c b i bad pos v _ _ hA (by first | omega | simp only [LL] <;> omega | simp <;> omega) (by omega) (by omega) (by omega) (by omega)) (fun v_q2 C_q2 q2 => ?_))
 obtain ⟨i21, p3, p4, rfl, rfl⟩ := q2
 show SP _ _ _ _ _ _ ⟨_, _ :: _, _, _⟩
 refine .go idQ (.seq (.region ?_))
 refine .v (ev_mv rfl rfl) rfl ?_
 refine .cons (st_call0 rfl rfl rfl rfl hbd68 rfl (.c .h .n) (here_ g A n c b i21 bad pos v _ _ hA (by first | omega | simp only [LL] <;> omega | simp <;> omega) (by omega) (by omega) (by omega) (by omega)) (fun v_q8 C_q8 q8 => ?_))
 obtain ⟨r5, bad26, pos27, p9, p10, rfl, rfl⟩ := q8
 show SP _ _ _ _ _ _ ⟨_, _ :: _, _, _⟩
 have hf_p9 := here_fact hr hn p9 p10
 refine .v (ev_as rfl rfl) rfl ?_
 refine .go idQ ?_
 exact .ret idQ (ret1 Try.results54 rfl (.c .h .n) ⟨r5, i21, bad26, pos27, (next_of p3 p9 p10).1, (next_of p3 p9 p10).2, p4, hf_p9, rfl, rfl⟩)
theorem word2_ (g : Nat) (A : Option Addr) (n : Nat) (c : Nat) (b : List Int) (i : Int) (bad : Int) (pos : Int) (v : Value) (w : ByteArray) (S : Nat → Prop) (wf : World) (hA : Fr eY S wf A b) (hn : b.length = n) (hN : n ≤ 65536) (hr : ∀ x ∈ b, isB x) (hcap : n ≤ c) (hi : 0 ≤ i ∧ i ≤ 90000) (hw : w.size ≤ 10) :
  TR0 Try.prog 55 [.pointer (some ⟨g, 0, none⟩), .string w] [cel g [.slice A n c, .int .i64 i, .int .i64 bad, .int .i64 pos, v] 86] S wf (fun v_ C_ => ∃ (i2 : Int) (bad2 : Int) (pos2 : Int), ((LS.mk i2 bad2 pos2) = wordF b (bs w) (LS.mk i bad pos)) ∧ ((i ≤ i2 ∧ (i ≤ n → i2 ≤ n) ∧ (bad2 = 0 → i2 = i + w.size ∧ (w.size ≠ 0 → bad = 0)))) ∧ v_ = .tuple #[] ∧ C_ = [cel g [.slice A n c, .int .i64 i2, .int .i64 bad2, .int .i64 pos2, v] 86]) := by
 have hla := hA.len
 have hbs := bs_len w
 refine TR.mk Try.func55 rfl Try.ntmps55 rfl rfl (fun w_ => ?_)
 refine .seq (.region ?_)
 refine .v (ev_as rfl rfl) rfl ?_
 refine .go idQ (.block ?_)
 refine .loop (X := Int × Int × Int × Int) (fun ⟨x, i1, bad1, pos1⟩ => 0 ≤ x ∧ x ≤ w.size ∧ (i ≤ i1 ∧ i1 ≤ i + x ∧ (i ≤ n → i1 ≤ n) ∧ i1 = i + x ∧ (x ≠ 0 → bad = 0) ∧ (x = 0 → bad1 = bad)) ∧ wordF b ((bs w).drop x.toNat) (LS.mk i1 bad1 pos1) = wordF b (bs w) (LS.mk i bad pos)) (fun ⟨x, i1, bad1, pos1⟩ => [(0, .pointer (some ⟨g, 0, none⟩)), (1, .string w), (4, .int .i64 x)]) (fun ⟨x, i1, bad1, pos1⟩ => [cel g [.slice A n c, .int .i64 i1, .int .i64 bad1, .int .i64 pos1, v] 86]) (fun _ => S) (fun _ => wf) (fun ⟨x, i1, bad1, pos1⟩ => (w.size - x.toNat)) (fun a_ w_ hs_ hw_ => ⟨⟨0, i, bad, pos⟩, (by exact ⟨by omega, by omega, by omega, rfl⟩), hs_.mono (Sub.get (.c rfl (.c rfl (.c rfl .n)))), hw_.keep (.c .h .n)⟩) (fun ⟨x, i1, bad1, pos1⟩ ⟨q_0, q_1, q_2, q_3⟩ => ?_)
 show SC _ _ _ _ _ ⟨[(0, .pointer (some ⟨g, 0, none⟩)), (1, .string w), (4, .int .i64 x)], [cel g [.slice A n c, .int .i64 i1, .int .i64 bad1, .int .i64 pos1, v] 86], S, wf⟩
 refine .seq (.seq (.region ?_))
 refine .v (ev_mv rfl rfl) rfl ?_
 refine .v (ev_mv rfl rfl) rfl ?_
 refine .v (ev_lens rfl Try.underlying9 rfl) rfl ?_
 refine .v (ev_cmp rfl rfl rfl rfl) rfl ?_
 refine .go idQ ?_
 refine .condI rfl bD (fun h1 => ?_) (fun h1 => ?_)
 ·
  refine .skipgo idQ (.seq (.block (.seq (.region ?_))))
  refine .v (ev_mv rfl rfl) rfl ?_
  refine .cons (st_call0 rfl rfl rfl rfl hbd68 rfl (.c .h .n) (here_ g A n c b i1 bad1 pos1 v _ _ hA (by first | omega | simp only [LL] <;> omega | simp <;> omega) (by omega) (by omega) (by omega) (by omega)) (fun v_q5 C_q5 q5 => ?_))
  obtain ⟨r2, bad23, pos24, p6, p7, rfl, rfl⟩ := q5
  show SP _ _ _ _ _ _ ⟨_, _ :: _, _, _⟩
  have hf_p6 := here_fact hr hn p6 p7
  refine .v (ev_as rfl rfl) rfl ?_
  refine .go idQ (.seq (.seq (.region ?_)))
  refine .v (ev_mv rfl rfl) rfl ?_
  refine .v (ev_cmp rfl rfl rfl rfl) rfl ?_
  refine .go idQ ?_
  refine .condI rfl bD (fun h8 => ?_) (fun h8 => ?_)
  ·
   exact .ret idQ (ret0 Try.results55 (.c .h .n) ⟨i1, bad23, pos24, p7.trans (word_low q_0 (by rw [bs_len]; omega) q_3 (by rw [← p6]; omega)), (by omega), rfl, rfl⟩)
  refine .skipgo idQ (.seq (.seq (.region ?_)))
  refine .v (ev_mv rfl rfl) rfl ?_
  refine .v (ev_mv rfl rfl) rfl ?_
  refine .v (ev_mv rfl rfl) rfl ?_
  refine .v (ev_ixs rfl Try.underlying9 rfl rfl (by omega) (by first | omega | (rw [bs_len]; omega) | decide)) rfl ?_
  refine .v (ev_cv rfl Try.underlying5 Try.underlying3 rfl (wrap_b_i64 (gt_range (bs_range _) _))) rfl ?_
  refine .v (ev_cmp rfl rfl rfl rfl) rfl ?_
  refine .go idQ ?_
  refine .condI rfl bNE (fun h9 => ?_) (fun h9 => ?_)
  ·
   refine .seq (.region ?_)
   refine .v (ev_mv rfl rfl) rfl ?_
   refine .v (ev_mv rfl rfl) rfl ?_
   refine .v (ev_nil rfl rfl) rfl ?_
   refine .v (ev_fa rfl fo86_1 rfl (r := 1) rfl) rfl ?_
   refine .v (ev_ld1 rfl ty3 rfl (At.own1 0 rfl rfl)) rfl ?_
   refine .cons (st_call0 rfl rfl rfl rfl hbd38 rfl (.c .h .n) (no_ g A n c i1 bad23 pos24 v i1 22 _ _) (fun v_q12 C_q12 q12 => ?_))
   obtain ⟨bad210, pos211, p13, rfl, rfl⟩ := q12
   show SP _ _ _ _ _ _ ⟨_, _ :: _, _, _⟩
   refine .go idQ ?_
   exact .ret idQ (ret0 Try.results55 (.c .h .n) ⟨i1, bad210, pos211, (by have e_ : bad1 = bad23 := (by omega); have e2_ : pos1 = pos24 := (by omega); subst e_; subst e2_; exact (noF_eq p13).trans (word_no q_0 (by rw [bs_len]; omega) q_3 (by rw [← p6]; omega) (by rw [← p6]; omega))), (by omega), rfl, rfl⟩)
  refine .skipgo idQ (.region ?_)
  refine .v (ev_mv rfl rfl) rfl ?_
  refine .v (ev_mv rfl rfl) rfl ?_
  refine .v (ev_nil rfl rfl) rfl ?_
  refine .v (ev_fa rfl fo86_1 rfl (r := 1) rfl) rfl ?_
  refine .v (ev_ld1 rfl ty3 rfl (At.own1 0 rfl rfl)) rfl ?_
  refine .v (ev_add rfl rfl rfl (r := (i1 + 1)) rfl (by omega) (by omega)) rfl ?_
  refine .v (ev_nil rfl rfl) rfl ?_
  refine .v (ev_fa rfl fo86_1 rfl (r := 1) rfl) rfl ?_
  refine .cons (st_store1 rfl rfl rfl ty3 rfl rfl rfl .h (.t .h) ?_)
  refine .go idQ (.region ?_)
  refine .v (ev_mv rfl rfl) rfl ?_
  refine .v (ev_add rfl rfl rfl (r := (x + 1)) rfl (by omega) (by omega)) rfl ?_
  refine .v (ev_as rfl rfl) rfl ?_
  exact SP.nil (SQ.roundb (X := Int × Int × Int × Int) (x := (x, i1, bad1, pos1)) ⟨(x + 1), (i1 + 1), bad23, pos24⟩ (by exact ⟨by omega, by omega, by omega, (by have e_ : bad1 = bad23 := (by omega); have e2_ : pos1 = pos24 := (by omega); rw [← e_, ← e2_]; exact word_go q_0 (by rw [bs_len]; omega) q_3 (by rw [← p6]; omega) (by rw [← p6]; omega))⟩) (by dsimp only; omega) (Sub.get (.c rfl (.c rfl (.c rfl .n)))) (fun w hw => hw.keep (.c .h .n)))
 exact .exitq idQ (end0 Try.results55 (.c .h .n) ⟨i1, bad1, pos1, word_end (by rw [bs_len]; omega) q_3, (by omega), rfl, rfl⟩)
end Go.Proofs.Ythmkelkefmfmgaa.Sx
set_option maxRecDepth 20000
set_option maxHeartbeats 4000000
namespace Go.Proofs.Ythmkelkefmfmgaa.Sx.FPB
open Go Go.SX Go.Proofs
theorem fo86_1 : fo Try.prog 86 1 = some 1 := by kernel_rfl
theorem ty3 : ty Try.prog 3 = some (false, 1) := by kernel_rfl
theorem hbd68 : hasBody Try.prog 68 = true := by kernel_rfl
theorem hbd38 : hasBody Try.prog 38 = true := by kernel_rfl
theorem hbd74 : hasBody Try.prog 74 = true := by kernel_rfl
theorem fo86_2 : fo Try.prog 86 2 = some 2 := by kernel_rfl
theorem fo86_0 : fo Try.prog 86 0 = some 0 := by kernel_rfl
theorem ty36 : ty Try.prog 36 = some (false, 1) := by kernel_rfl
theorem ty5 : ty Try.prog 5 = some (false, 1) := by kernel_rfl
theorem mo : Try.prog.follows .mixedOrders = true := by kernel_rfl
theorem ai5 : (Try.prog.info? 5).map (fun i => (i.zero, i.size, i.bytes)) = some (some (.int .u8 0), 1, 1) := by kernel_rfl
theorem hbd70 : hasBody Try.prog 70 = true := by kernel_rfl
theorem hbd69 : hasBody Try.prog 69 = true := by kernel_rfl
theorem hbd46 : hasBody Try.prog 46 = true := by kernel_rfl
end Go.Proofs.Ythmkelkefmfmgaa.Sx.FPB
namespace Go.Proofs.Ythmkelkefmfmgaa.Sx
open Go Go.SX Go.Proofs FPB
theorem half_ (g : Nat) (A : Option Addr) (n : Nat) (c : Nat) (b : List Int) (i : Int) (bad : Int) (pos : Int) (v : Value) (fr : Int) (S : Nat → Prop) (wf : World) (hA : Fr eY S wf A b) (hn : b.length = n) (hN : n ≤ 65536) (hr : ∀ x ∈ b, isB x) (hcap : n ≤ c) (hi : 0 ≤ i ∧ i ≤ 100000) (hb0 : bad = 0) (hin : i < n) :
  TR0 Try.prog 74 [.pointer (some ⟨g, 0, none⟩), .int .i64 fr] [cel g [.slice A n c, .int .i64 i, .int .i64 bad, .int .i64 pos, v] 86] S wf (fun v_ C_ => ∃ (r : Int) (i2 : Int) (bad2 : Int) (pos2 : Int), ((r, (LS.mk i2 bad2 pos2)) = halfF b fr (LS.mk i bad pos)) ∧ ((i + 2 ≤ i2 ∧ i2 ≤ n + 1 ∧ (bad2 = 0 → i2 ≤ n))) ∧ (0 ≤ r ∧ r ≤ 65535) ∧ v_ = .int .i64 r ∧ C_ = [cel g [.slice A n c, .int .i64 i2, .int .i64 bad2, .int .i64 pos2, v] 86]) := by
 have hla := hA.len
 refine TR.mk Try.func74 rfl Try.ntmps74 rfl rfl (fun w_ => ?_)
 refine .seq (.region ?_)
 refine .v (ev_as rfl rfl) rfl ?_
 refine .go idQ (.seq (.region ?_))
 refine .v (ev_mv rfl rfl) rfl ?_
 refine .v (ev_mv rfl rfl) rfl ?_
 refine .v (ev_nil rfl rfl) rfl ?_
 refine .v (ev_fa rfl fo86_1 rfl (r := 1) rfl) rfl ?_
 refine .v (ev_ld1 rfl ty3 rfl (At.own1 0 rfl rfl)) rfl ?_
 refine .v (ev_add rfl rfl rfl (r := (i + 1)) rfl (by omega) (by omega)) rfl ?_
 refine .v (ev_nil rfl rfl) rfl ?_
 refine .v (ev_fa rfl fo86_1 rfl (r := 1) rfl) rfl ?_
 refine .cons (st_store1 rfl rfl rfl ty3 rfl rfl rfl .h (.t .h) ?_)
 refine .go idQ (.seq (.region ?_))
 refine .v (ev_mv rfl rfl) rfl ?_
 refine .cons (st_call0 rfl rfl rfl rfl hbd68 rfl (.c .h .n) (here_ g A n c b (i + 1) bad pos v _ _ hA (by first | omega | simp only [LL] <;> omega | simp <;> omega) (by omega) (by omega) (by omega) (by omega)) (fun v_q4 C_q4 q4 => ?_))
 obtain ⟨r1, bad22, pos23, p5, p6, rfl, rfl⟩ := q4
 show SP _ _ _ _ _ _ ⟨_, _ :: _, _, _⟩
 have hf_p5 := here_fact hr hn p5 p6
 refine .v (ev_as rfl rfl) rfl ?_
 refine .go idQ (.seq (.region ?_))
 refine .v (ev_mv rfl rfl) rfl ?_
 refine .v (ev_mv rfl rfl) rfl ?_
 refine .v (ev_nil rfl rfl) rfl ?_
 refine .v (ev_fa rfl fo86_1 rfl (r := 1) rfl) rfl ?_
 refine .v (ev_ld1 rfl ty3 rfl (At.own1 0 rfl rfl)) rfl ?_
 refine .v (ev_add rfl rfl rfl (r := ((i + 1) + 1)) rfl (by omega) (by omega)) rfl ?_
 refine .v (ev_nil rfl rfl) rfl ?_
 refine .v (ev_fa rfl fo86_1 rfl (r := 1) rfl) rfl ?_
 refine .cons (st_store1 rfl rfl rfl ty3 rfl rfl rfl .h (.t .h) ?_)
 refine .go idQ (.seq (.region ?_))
 refine .v (ev_as rfl rfl) rfl ?_
 refine .go idQ (.seq (.region ?_))
 refine .cons (st_lit eZ (e := 3) (l := [34, 92, 47, 8, 12, 10, 13, 9]) rfl rfl rfl rfl (by kernel_rfl) rfl rfl (fun w => by kernel_rfl) (fun b7 => ?_))
 refine .v (ev_as rfl rfl) rfl ?_
 refine .go idQ (.seq (.seq (.region ?_)))
 refine .v (ev_as rfl rfl) rfl ?_
 refine .go idQ (.block ?_)
 refine .loop (X := Int) (fun x => 0 ≤ x ∧ x ≤ 8 ∧ markF (marksL.drop x.toNat) (runesL.drop x.toNat) r1 = markF marksL runesL r1) (fun x => [(0, .pointer (some ⟨g, 0, none⟩)), (1, .int .i64 fr), (5, .int .i64 r1), (6, .string ⟨#[34, 92, 47, 98, 102, 110, 114, 116]⟩), (7, .slice (some ⟨b7, 0, none⟩) 8 8), (8, .int .i64 x)]) (fun x => [rw_ eZ 3 (.slice (some ⟨b7, 0, none⟩) 8 8) [34, 92, 47, 8, 12, 10, 13, 9], cel g [.slice A n c, .int .i64 ((i + 1) + 1), .int .i64 bad22, .int .i64 pos23, v] 86]) (fun _ => S) (fun _ => wf) (fun x => (8 - x).toNat) (fun a_ w_ hs_ hw_ => ⟨0, (by exact ⟨by omega, by omega, rfl⟩), hs_.mono (Sub.get (.c rfl (.c rfl (.c rfl (.c rfl (.c rfl (.c rfl .n))))))), hw_.keep (.c .h (.c .h .n))⟩) (fun x ⟨q_0, q_1, q_2⟩ => ?_)
 show SC _ _ _ _ _ ⟨[(0, .pointer (some ⟨g, 0, none⟩)), (1, .int .i64 fr), (5, .int .i64 r1), (6, .string ⟨#[34, 92, 47, 98, 102, 110, 114, 116]⟩), (7, .slice (some ⟨b7, 0, none⟩) 8 8), (8, .int .i64 x)], [rw_ eZ 3 (.slice (some ⟨b7, 0, none⟩) 8 8) [34, 92, 47, 8, 12, 10, 13, 9], cel g [.slice A n c, .int .i64 ((i + 1) + 1), .int .i64 bad22, .int .i64 pos23, v] 86], S, wf⟩
 refine .seq (.seq (.region ?_))
 refine .v (ev_mv rfl rfl) rfl ?_
 refine .v (ev_mv rfl rfl) rfl ?_
 refine .v (ev_len rfl Try.underlying56 rfl) rfl ?_
 refine .v (ev_cmp rfl rfl rfl rfl) rfl ?_
 refine .go idQ ?_
 refine .condI rfl bD (fun h8 => ?_) (fun h8 => ?_)
 ·
  refine .skipgo idQ (.seq (.block (.seq (.region ?_))))
  refine .v (ev_mv rfl rfl) rfl ?_
  refine .v (ev_mv rfl rfl) rfl ?_
  refine .v (ev_mv rfl rfl) rfl ?_
  refine .v (ev_ixs rfl Try.underlying9 rfl rfl (by omega) (by show _ < ((8 : Nat) : Int); omega)) rfl ?_
  refine .v (ev_cv rfl Try.underlying5 Try.underlying3 rfl (wrap_b_i64 (gt_range (bs_range _) _))) rfl ?_
  refine .v (ev_cmp rfl rfl rfl rfl) rfl ?_
  refine .go idQ ?_
  refine .condI rfl bE (fun h9 => ?_) (fun h9 => ?_)
  ·
   refine .seq (.region ?_)
   refine .v (ev_mv rfl rfl) rfl ?_
   refine .v (ev_mv rfl rfl) rfl ?_
   refine .v (ev_ix rfl Try.underlying56 ty3 rfl rfl (by omega) (by omega) (row_adr (i := x) 0 rfl (by omega) (by first | omega | simp only [LL] <;> omega | simp <;> omega))) rfl ?_
   refine .v (ev_ld1 rfl ty3 rfl (At.elem1 (row_el (E := eZ) (l := [34, 92, 47, 8, 12, 10, 13, 9]) (i := x) 0 rfl (by omega) (by first | omega | simp only [LL] <;> omega | simp <;> omega)) 0 rfl)) rfl ?_
   refine .v (ev_as rfl rfl) rfl ?_
   refine .go idQ ?_
   exact .ret idQ (ret1 Try.results74 rfl (.c (.t .h) .n) ⟨(gt [34, 92, 47, 8, 12, 10, 13, 9] x), ((i + 1) + 1), bad22, pos23, half_hit p5 p6 q_0 (by omega) q_2 (by rw [← marks_bs]; assumption), (by omega), (by first | omega | (have h_ := runes_rng (x := x) q_0 (by omega); unfold runesL at h_; omega)), rfl, rfl⟩)
  refine .skipgo idQ (.region ?_)
  refine .v (ev_mv rfl rfl) rfl ?_
  refine .v (ev_add rfl rfl rfl (r := (x + 1)) rfl (by omega) (by omega)) rfl ?_
  refine .v (ev_as rfl rfl) rfl ?_
  exact SP.nil (SQ.roundb (X := Int) (x := (x)) (x + 1) (by exact ⟨by omega, by omega, mark_go q_0 (by show x < 8; omega) rfl q_2 (by rw [← marks_bs]; assumption)⟩) (by show (_ : Nat) < _; omega) (Sub.get (.c rfl (.c rfl (.c rfl (.c rfl (.c rfl (.c rfl .n))))))) (fun w hw => hw.keep (.c .h (.c .h .n))))
 refine .exit idQ ?_
 refine .seq (.seq (.region ?_))
 refine .v (ev_mv rfl rfl) rfl ?_
 refine .v (ev_cmp rfl rfl rfl rfl) rfl ?_
 refine .go idQ ?_
 refine .condI rfl bNE (fun h10 => ?_) (fun h10 => ?_)
 ·
  refine .seq (.region ?_)
  refine .v (ev_mv rfl rfl) rfl ?_
  refine .v (ev_mv rfl rfl) rfl ?_
  refine .cons (st_call0 rfl rfl rfl rfl hbd38 rfl (.c (.t .h) .n) (no_ g A n c ((i + 1) + 1) bad22 pos23 v fr 24 _ _) (fun v_q13 C_q13 q13 => ?_))
  obtain ⟨bad211, pos212, p14, rfl, rfl⟩ := q13
  show SP _ _ _ _ _ _ ⟨_, _ :: _, _, _⟩
  refine .go idQ (.seq (.region ?_))
  refine .v (ev_as rfl rfl) rfl ?_
  refine .go idQ ?_
  exact .ret idQ (ret1 Try.results74 rfl (.c .h .n) ⟨0, ((i + 1) + 1), bad211, pos212, (by rw [noF_eq p14]; exact half_no p5 p6 (by omega) q_2 (by assumption)), (by omega), (by first | omega | (have h_ := runes_rng (x := x) q_0 (by omega); unfold runesL at h_; omega)), rfl, rfl⟩)
 refine .skipgo idQ (.seq (.region ?_))
 refine .v (ev_as rfl rfl) rfl ?_
 refine .go idQ (.seq (.seq (.region ?_)))
 refine .v (ev_as rfl rfl) rfl ?_
 refine .go idQ (.block ?_)
 refine .loop (X := Int × Int × Int × Int × Int) (fun ⟨k, y, i1, bad1, pos1⟩ => 0 ≤ k ∧ ((k = 0 ∧ y = 0) ∨ (k = 1 ∧ 0 ≤ y ∧ y < 16) ∨ (k = 2 ∧ 0 ≤ y ∧ y < 256) ∨ (k = 3 ∧ 0 ≤ y ∧ y < 4096) ∨ (k = 4 ∧ 0 ≤ y ∧ y < 65536)) ∧ (i + 2 ≤ i1 ∧ i1 ≤ n + 1 ∧ (bad1 = 0 → i1 ≤ n)) ∧ hexL b fr (4 - k).toNat (LS.mk i1 bad1 pos1) y = hexL b fr 4 (LS.mk ((i + 1) + 1) bad22 pos23) 0) (fun ⟨k, y, i1, bad1, pos1⟩ => [(0, .pointer (some ⟨g, 0, none⟩)), (1, .int .i64 fr), (9, .int .i64 y), (10, .int .i64 k)]) (fun ⟨k, y, i1, bad1, pos1⟩ => [cel g [.slice A n c, .int .i64 i1, .int .i64 bad1, .int .i64 pos1, v] 86]) (fun _ => S) (fun _ => wf) (fun ⟨k, y, i1, bad1, pos1⟩ => (4 - k).toNat) (fun a_ w_ hs_ hw_ => ⟨⟨0, 0, ((i + 1) + 1), bad22, pos23⟩, (by exact ⟨by omega, by omega, by omega, rfl⟩), hs_.mono (Sub.get (.c rfl (.c rfl (.c rfl (.c rfl .n))))), hw_.keep (.c (.t .h) .n)⟩) (fun ⟨k, y, i1, bad1, pos1⟩ ⟨s_0, s_1, s_2, s_3⟩ => ?_)
 show SC _ _ _ _ _ ⟨[(0, .pointer (some ⟨g, 0, none⟩)), (1, .int .i64 fr), (9, .int .i64 y), (10, .int .i64 k)], [cel g [.slice A n c, .int .i64 i1, .int .i64 bad1, .int .i64 pos1, v] 86], S, wf⟩
 refine .seq (.seq (.region ?_))
 refine .v (ev_mv rfl rfl) rfl ?_
 refine .v (ev_cmp rfl rfl rfl rfl) rfl ?_
 refine .go idQ ?_
 refine .condI rfl bD (fun h15 => ?_) (fun h15 => ?_)
 ·
  refine .skipgo idQ (.seq (.block (.seq (.region ?_))))
  refine .v (ev_mv rfl rfl) rfl ?_
  refine .cons (st_call0 rfl rfl rfl rfl hbd68 rfl (.c .h .n) (here_ g A n c b i1 bad1 pos1 v _ _ hA (by first | omega | simp only [LL] <;> omega | simp <;> omega) (by omega) (by omega) (by omega) (by omega)) (fun v_q19 C_q19 q19 => ?_))
  obtain ⟨r16, bad217, pos218, p20, p21, rfl, rfl⟩ := q19
  show SP _ _ _ _ _ _ ⟨_, _ :: _, _, _⟩
  have hf_p20 := here_fact hr hn p20 p21
  refine .v (ev_as rfl rfl) rfl ?_
  refine .go idQ (.seq (.block (.seq (.region ?_))))
  refine .v (ev_mv rfl rfl) rfl ?_
  refine .v (ev_cmp rfl rfl rfl rfl) rfl ?_
  refine .v (ev_as rfl rfl) rfl ?_
  refine .go idQ ?_
  refine .condI rfl bD (fun h22 => ?_) (fun h22 => ?_)
  ·
   refine .seq (.region ?_)
   refine .v (ev_as rfl rfl) rfl ?_
   refine .go idQ ?_
   exact .ret idQ (ret1 Try.results74 rfl (.c .h .n) ⟨0, i1, bad217, pos218, (by rw [p21]; exact (hex_neg s_0 (by omega) s_3 p20 (by omega)).trans (half_hex p5 p6 (by omega) q_2 (by assumption))), (by omega), (by first | omega | (have h_ := runes_rng (x := x) q_0 (by omega); unfold runesL at h_; omega)), rfl, rfl⟩)
  refine .seq (.region ?_)
  refine .v (ev_mv rfl rfl) rfl ?_
  refine .v (ev_cmp rfl rfl rfl rfl) rfl ?_
  refine .v (ev_mv rfl rfl) rfl ?_
  refine .w (fun _ => ev_mv rfl rfl) rfl ?_
  refine .w (fun hb => ev_cmp rfl (lkg rfl hb) rfl rfl) rfl ?_
  refine .v (ev_and rfl rfl rfl rfl) rfl ?_
  refine .v (ev_as rfl rfl) rfl ?_
  refine .go idQ ?_
  refine .condI rfl (bA bD bD) (fun h23 => ?_) (fun h23 => ?_)
  ·
   refine .region ?_
   refine .v (ev_mv rfl rfl) rfl ?_
   refine .v (ev_mul rfl rfl rfl (r := (16 * y)) rfl (by omega) (by omega)) rfl ?_
   refine .v (ev_mv rfl rfl) rfl ?_
   refine .v (ev_add rfl rfl rfl (r := ((16 * y) + r16)) rfl (by omega) (by omega)) rfl ?_
   refine .v (ev_sub rfl rfl rfl (r := (((16 * y) + r16) - 48)) rfl (by omega) (by omega)) rfl ?_
   refine .v (ev_as rfl rfl) rfl ?_
   refine .go idQ (.region ?_)
   refine .v (ev_mv rfl rfl) rfl ?_
   refine .v (ev_mv rfl rfl) rfl ?_
   refine .v (ev_nil rfl rfl) rfl ?_
   refine .v (ev_fa rfl fo86_1 rfl (r := 1) rfl) rfl ?_
   refine .v (ev_ld1 rfl ty3 rfl (At.own1 0 rfl rfl)) rfl ?_
   refine .v (ev_add rfl rfl rfl (r := (i1 + 1)) rfl (by omega) (by omega)) rfl ?_
   refine .v (ev_nil rfl rfl) rfl ?_
   refine .v (ev_fa rfl fo86_1 rfl (r := 1) rfl) rfl ?_
   refine .cons (st_store1 rfl rfl rfl ty3 rfl rfl rfl .h (.t .h) ?_)
   refine .go idQ (.region ?_)
   refine .v (ev_mv rfl rfl) rfl ?_
   refine .v (ev_add rfl rfl rfl (r := (k + 1)) rfl (by omega) (by omega)) rfl ?_
   refine .v (ev_as rfl rfl) rfl ?_
   exact SP.nil (SQ.roundb (X := Int × Int × Int × Int × Int) (x := (k, y, i1, bad1, pos1)) ⟨(k + 1), (((16 * y) + r16) - 48), (i1 + 1), bad217, pos218⟩ (by have e_ : bad1 = bad217 := (by omega); have e2_ : pos1 = pos218 := (by omega); subst e_; subst e2_; exact ⟨by omega, by omega, by omega, hex_dig s_0 (by omega) s_3 p20 (by omega) (by omega)⟩) (by dsimp only; omega) (Sub.get (.c rfl (.c rfl (.c rfl (.c rfl .n))))) (fun w hw => hw.keep (.c .h .n)))
  refine .seq (.region ?_)
  refine .v (ev_mv rfl rfl) rfl ?_
  refine .v (ev_cmp rfl rfl rfl rfl) rfl ?_
  refine .v (ev_mv rfl rfl) rfl ?_
  refine .w (fun _ => ev_mv rfl rfl) rfl ?_
  refine .w (fun hb => ev_cmp rfl (lkg rfl hb) rfl rfl) rfl ?_
  refine .v (ev_and rfl rfl rfl rfl) rfl ?_
  refine .v (ev_as rfl rfl) rfl ?_
  refine .go idQ ?_
  refine .condI rfl (bA bD bD) (fun h24 => ?_) (fun h24 => ?_)
  ·
   refine .region ?_
   refine .v (ev_mv rfl rfl) rfl ?_
   refine .v (ev_mul rfl rfl rfl (r := (16 * y)) rfl (by omega) (by omega)) rfl ?_
   refine .v (ev_mv rfl rfl) rfl ?_
   refine .v (ev_add rfl rfl rfl (r := ((16 * y) + r16)) rfl (by omega) (by omega)) rfl ?_
   refine .v (ev_sub rfl rfl rfl (r := (((16 * y) + r16) - 97)) rfl (by omega) (by omega)) rfl ?_
   refine .v (ev_add rfl rfl rfl (r := ((((16 * y) + r16) - 97) + 10)) rfl (by omega) (by omega)) rfl ?_
   refine .v (ev_as rfl rfl) rfl ?_
   refine .go idQ (.region ?_)
   refine .v (ev_mv rfl rfl) rfl ?_
   refine .v (ev_mv rfl rfl) rfl ?_
   refine .v (ev_nil rfl rfl) rfl ?_
   refine .v (ev_fa rfl fo86_1 rfl (r := 1) rfl) rfl ?_
   refine .v (ev_ld1 rfl ty3 rfl (At.own1 0 rfl rfl)) rfl ?_
   refine .v (ev_add rfl rfl rfl (r := (i1 + 1)) rfl (by omega) (by omega)) rfl ?_
   refine .v (ev_nil rfl rfl) rfl ?_
   refine .v (ev_fa rfl fo86_1 rfl (r := 1) rfl) rfl ?_
   refine .cons (st_store1 rfl rfl rfl ty3 rfl rfl rfl .h (.t .h) ?_)
   refine .go idQ (.region ?_)
   refine .v (ev_mv rfl rfl) rfl ?_
   refine .v (ev_add rfl rfl rfl (r := (k + 1)) rfl (by omega) (by omega)) rfl ?_
   refine .v (ev_as rfl rfl) rfl ?_
   exact SP.nil (SQ.roundb (X := Int × Int × Int × Int × Int) (x := (k, y, i1, bad1, pos1)) ⟨(k + 1), ((((16 * y) + r16) - 97) + 10), (i1 + 1), bad217, pos218⟩ (by have e_ : bad1 = bad217 := (by omega); have e2_ : pos1 = pos218 := (by omega); subst e_; subst e2_; exact ⟨by omega, by omega, by omega, hex_low s_0 (by omega) s_3 p20 (by omega) (by omega) (by omega)⟩) (by dsimp only; omega) (Sub.get (.c rfl (.c rfl (.c rfl (.c rfl .n))))) (fun w hw => hw.keep (.c .h .n)))
  refine .seq (.region ?_)
  refine .v (ev_mv rfl rfl) rfl ?_
  refine .v (ev_cmp rfl rfl rfl rfl) rfl ?_
  refine .v (ev_mv rfl rfl) rfl ?_
  refine .w (fun _ => ev_mv rfl rfl) rfl ?_
  refine .w (fun hb => ev_cmp rfl (lkg rfl hb) rfl rfl) rfl ?_
  refine .v (ev_and rfl rfl rfl rfl) rfl ?_
  refine .v (ev_as rfl rfl) rfl ?_
  refine .go idQ ?_
  refine .condI rfl (bA bD bD) (fun h25 => ?_) (fun h25 => ?_)
  ·
   refine .region ?_
   refine .v (ev_mv rfl rfl) rfl ?_
   refine .v (ev_mul rfl rfl rfl (r := (16 * y)) rfl (by omega) (by omega)) rfl ?_
   refine .v (ev_mv rfl rfl) rfl ?_
   refine .v (ev_add rfl rfl rfl (r := ((16 * y) + r16)) rfl (by omega) (by omega)) rfl ?_
   refine .v (ev_sub rfl rfl rfl (r := (((16 * y) + r16) - 65)) rfl (by omega) (by omega)) rfl ?_
   refine .v (ev_add rfl rfl rfl (r := ((((16 * y) + r16) - 65) + 10)) rfl (by omega) (by omega)) rfl ?_
   refine .v (ev_as rfl rfl) rfl ?_
   refine .go idQ (.region ?_)
   refine .v (ev_mv rfl rfl) rfl ?_
   refine .v (ev_mv rfl rfl) rfl ?_
   refine .v (ev_nil rfl rfl) rfl ?_
   refine .v (ev_fa rfl fo86_1 rfl (r := 1) rfl) rfl ?_
   refine .v (ev_ld1 rfl ty3 rfl (At.own1 0 rfl rfl)) rfl ?_
   refine .v (ev_add rfl rfl rfl (r := (i1 + 1)) rfl (by omega) (by omega)) rfl ?_
   refine .v (ev_nil rfl rfl) rfl ?_
   refine .v (ev_fa rfl fo86_1 rfl (r := 1) rfl) rfl ?_
   refine .cons (st_store1 rfl rfl rfl ty3 rfl rfl rfl .h (.t .h) ?_)
   refine .go idQ (.region ?_)
   refine .v (ev_mv rfl rfl) rfl ?_
   refine .v (ev_add rfl rfl rfl (r := (k + 1)) rfl (by omega) (by omega)) rfl ?_
   refine .v (ev_as rfl rfl) rfl ?_
   exact SP.nil (SQ.roundb (X := Int × Int × Int × Int × Int) (x := (k, y, i1, bad1, pos1)) ⟨(k + 1), ((((16 * y) + r16) - 65) + 10), (i1 + 1), bad217, pos218⟩ (by have e_ : bad1 = bad217 := (by omega); have e2_ : pos1 = pos218 := (by omega); subst e_; subst e2_; exact ⟨by omega, by omega, by omega, hex_up s_0 (by omega) s_3 p20 (by omega) (by omega) (by omega) (by omega)⟩) (by dsimp only; omega) (Sub.get (.c rfl (.c rfl (.c rfl (.c rfl .n))))) (fun w hw => hw.keep (.c .h .n)))
  refine .seq (.region ?_)
  refine .v (ev_mv rfl rfl) rfl ?_
  refine .v (ev_mv rfl rfl) rfl ?_
  refine .cons (st_call0 rfl rfl rfl rfl hbd38 rfl (.c .h .n) (no_ g A n c i1 bad217 pos218 v fr 24 _ _) (fun v_q28 C_q28 q28 => ?_))
  obtain ⟨bad226, pos227, p29, rfl, rfl⟩ := q28
  show SP _ _ _ _ _ _ ⟨_, _ :: _, _, _⟩
  refine .go idQ (.seq (.region ?_))
  refine .v (ev_as rfl rfl) rfl ?_
  refine .go idQ ?_
  exact .ret idQ (ret1 Try.results74 rfl (.c .h .n) ⟨0, i1, bad226, pos227, (by have e_ : bad1 = bad217 := (by omega); have e2_ : pos1 = pos218 := (by omega); rw [noF_eq p29, ← e_, ← e2_]; exact (hex_no s_0 (by omega) s_3 p20 (by omega) (by omega) (by omega) (by omega)).trans (half_hex p5 p6 (by omega) q_2 (by assumption))), (by omega), (by first | omega | (have h_ := runes_rng (x := x) q_0 (by omega); unfold runesL at h_; omega)), rfl, rfl⟩)
 refine .exit idQ ?_
 refine .seq (.region ?_)
 refine .v (ev_mv rfl rfl) rfl ?_
 refine .v (ev_as rfl rfl) rfl ?_
 refine .go idQ ?_
 exact .ret idQ (ret1 Try.results74 rfl (.c .h .n) ⟨y, i1, bad1, pos1, (hex_end (by omega) s_3).trans (half_hex p5 p6 (by omega) q_2 (by assumption)), (by omega), (by first | omega | (have h_ := runes_rng (x := x) q_0 (by omega); unfold runesL at h_; omega)), rfl, rfl⟩)
theorem esc_ (g : Nat) (A : Option Addr) (n : Nat) (c : Nat) (b : List Int) (i : Int) (bad : Int) (pos : Int) (v : Value) (S : Nat → Prop) (wf : World) (hA : Fr eY S wf A b) (hn : b.length = n) (hN : n ≤ 65536) (hr : ∀ x ∈ b, isB x) (hcap : n ≤ c) (hi : 0 ≤ i ∧ i ≤ 100000) (hb0 : bad = 0) (hin : i < n) :
  TR0 Try.prog 70 [.pointer (some ⟨g, 0, none⟩)] [cel g [.slice A n c, .int .i64 i, .int .i64 bad, .int .i64 pos, v] 86] S wf (fun v_ C_ => ∃ (r : Int) (i2 : Int) (bad2 : Int) (pos2 : Int), ((r, (LS.mk i2 bad2 pos2)) = escF b (LS.mk i bad pos)) ∧ ((i + 2 ≤ i2 ∧ i2 ≤ n + 1 ∧ (bad2 = 0 → i2 ≤ n))) ∧ (0 ≤ r ∧ r ≤ 1200000) ∧ v_ = .int .i64 r ∧ C_ = [cel g [.slice A n c, .int .i64 i2, .int .i64 bad2, .int .i64 pos2, v] 86]) := by
 have hla := hA.len
 refine TR.mk Try.func70 rfl Try.ntmps70 rfl rfl (fun w_ => ?_)
 refine .seq (.region ?_)
 refine .v (ev_as rfl rfl) rfl ?_
 refine .go idQ (.seq (.region ?_))
 refine .v (ev_mv rfl rfl) rfl ?_
 refine .v (ev_nil rfl rfl) rfl ?_
 refine .v (ev_fa rfl fo86_1 rfl (r := 1) rfl) rfl ?_
 refine .v (ev_ld1 rfl ty3 rfl (At.own1 0 rfl rfl)) rfl ?_
 refine .v (ev_as rfl rfl) rfl ?_
 refine .go idQ (.seq (.region ?_))
 refine .v (ev_mv rfl rfl) rfl ?_
 refine .v (ev_mv rfl rfl) rfl ?_
 refine .cons (st_call0 rfl rfl rfl rfl hbd74 rfl (.c .h .n) (half_ g A n c b i bad pos v i _ _ hA (by first | omega | simp only [LL] <;> omega | simp <;> omega) (by omega) (by omega) (by omega) (by omega) (by omega) (by omega)) (fun v_q5 C_q5 q5 => ?_))
 obtain ⟨r1, i22, bad23, pos24, p6, p7, p8, rfl, rfl⟩ := q5
 show SP _ _ _ _ _ _ ⟨_, _ :: _, _, _⟩
 refine .v (ev_as rfl rfl) rfl ?_
 refine .go idQ (.seq (.seq (.region ?_)))
 refine .v (ev_mv rfl rfl) rfl ?_
 refine .v (ev_cmp rfl rfl rfl rfl) rfl ?_
 refine .v (ev_mv rfl rfl) rfl ?_
 refine .w (fun _ => ev_mv rfl rfl) rfl ?_
 refine .w (fun hb => ev_cmp rfl (lkg rfl hb) rfl rfl) rfl ?_
 refine .v (ev_or rfl rfl rfl rfl) rfl ?_
 refine .v (ev_mv rfl rfl) rfl ?_
 refine .w (fun _ => ev_mv rfl rfl) rfl ?_
 refine .w (fun hb => ev_nil rfl (lkg rfl hb)) rfl ?_
 refine .w (fun hb => ev_fa rfl fo86_2 (lkg rfl hb) (r := 2) rfl) rfl ?_
 refine .w (fun hb => ev_ld1 rfl ty3 (lkg rfl hb) (At.own1 0 rfl rfl)) rfl ?_
 refine .w (fun hb => ev_cmp rfl (lkg rfl hb) rfl rfl) rfl ?_
 refine .v (ev_or rfl rfl rfl rfl) rfl ?_
 refine .go idQ ?_
 refine .condI rfl (bO (bO bD bD) bNE) (fun h9 => ?_) (fun h9 => ?_)
 ·
  refine .seq (.region ?_)
  refine .v (ev_mv rfl rfl) rfl ?_
  refine .v (ev_as rfl rfl) rfl ?_
  refine .go idQ ?_
  exact .ret idQ (ret1 Try.results70 rfl (.c .h .n) ⟨r1, i22, bad23, pos24, esc_1 (p := (LS.mk i bad pos)) p6 (by assumption), (by omega), (by omega), rfl, rfl⟩)
 refine .skipgo idQ (.seq (.seq ?_))
 refine SC.draw mo [] [] .n (fun _ _ _ c hc => by cases hc) (fun wf_10 hl_10 hx_10 hR_10 => ?_)
 refine SR.k 0 rfl (by kernel_rfl) rfl (ev_mv rfl rfl) ?_
 refine SR.k 1 rfl (by kernel_rfl) rfl (ev_cmp rfl rfl rfl rfl) ?_
 refine SR.k 2 rfl (by kernel_rfl) rfl (ev_mv rfl rfl) ?_
 refine SR.gtake 3 rfl (by kernel_rfl) (by kernel_rfl) (by kernel_rfl) rfl (fun _ _ _ _ h => h) rfl rfl rfl rfl rfl (fun _ => ev_mv rfl rfl) ?_
 refine SR.gtake 4 rfl (by kernel_rfl) (by kernel_rfl) (by kernel_rfl) rfl (fun _ _ _ _ h => h) rfl rfl rfl rfl rfl (fun hb => ev_nil rfl (lkg rfl hb)) ?_
 refine SR.gtake 5 rfl (by kernel_rfl) (by kernel_rfl) (by kernel_rfl) rfl (fun _ _ _ _ h => h) rfl rfl rfl rfl rfl (fun hb => ev_fa rfl fo86_1 (lkg rfl hb) (r := 1) rfl) ?_
 refine SR.gtake 6 rfl (by kernel_rfl) (by kernel_rfl) (by kernel_rfl) rfl (fun _ _ _ _ h => h) rfl rfl rfl rfl rfl (fun hb => ev_ld1 rfl ty3 (lkg rfl hb) (At.d (At.lent hR_10 0 rfl rfl))) ?_
 refine SR.gtake 7 rfl (by kernel_rfl) (by kernel_rfl) (by kernel_rfl) rfl (fun _ _ _ _ h => h) rfl rfl rfl rfl rfl (fun hb => have hp := bF bD hb; ev_add rfl (lkg rfl hb) rfl (r := (i22 + 1)) rfl (by have _h := hp; omega) (by have _h := hp; omega)) ?_
 refine SR.gtake 8 rfl (by kernel_rfl) (by kernel_rfl) (by kernel_rfl) rfl (fun _ _ _ _ h => h) rfl rfl rfl rfl rfl (fun _ => ev_mv rfl rfl) ?_
 refine SR.gtake 9 rfl (by kernel_rfl) (by kernel_rfl) (by kernel_rfl) rfl (fun _ _ _ _ h => h) rfl rfl rfl rfl rfl (fun hb => ev_nil rfl (lkg rfl hb)) ?_
 refine SR.gtake 10 rfl (by kernel_rfl) (by kernel_rfl) (by kernel_rfl) rfl (fun _ _ _ _ h => h) rfl rfl rfl rfl rfl (fun hb => ev_fa rfl fo86_0 (lkg rfl hb) (r := 0) rfl) ?_
 refine SR.gtake 11 rfl (by kernel_rfl) (by kernel_rfl) (by kernel_rfl) rfl (fun _ _ _ _ h => h) rfl rfl rfl rfl rfl (fun hb => ev_ld1 rfl ty36 (lkg rfl hb) (At.d (At.lent hR_10 0 rfl rfl))) ?_
 refine SR.gtake 12 rfl (by kernel_rfl) (by kernel_rfl) (by kernel_rfl) rfl (fun _ _ _ _ h => h) rfl rfl rfl rfl rfl (fun hb => ev_len rfl Try.underlying36 (lkg rfl hb)) ?_
 refine SR.gtake 13 rfl (by kernel_rfl) (by kernel_rfl) (by kernel_rfl) rfl (fun _ _ _ _ h => h) rfl rfl rfl rfl rfl (fun hb => ev_cmp rfl (lkg rfl hb) (lkg rfl hb) rfl) ?_
 refine SR.k 14 rfl (by kernel_rfl) rfl (ev_or rfl rfl rfl rfl) ?_
 refine SR.k 15 rfl (by kernel_rfl) rfl (ev_mv rfl rfl) ?_
 refine SR.gtake 16 rfl (by kernel_rfl) (by kernel_rfl) (by kernel_rfl) rfl (fun _ _ _ _ h => h) rfl rfl rfl rfl rfl (fun _ => ev_mv rfl rfl) ?_
 refine SR.gtake 17 rfl (by kernel_rfl) (by kernel_rfl) (by kernel_rfl) rfl (fun _ _ _ _ h => h) rfl rfl rfl rfl rfl (fun hb => ev_nil rfl (lkg rfl hb)) ?_
 refine SR.gtake 18 rfl (by kernel_rfl) (by kernel_rfl) (by kernel_rfl) rfl (fun _ _ _ _ h => h) rfl rfl rfl rfl rfl (fun hb => ev_fa rfl fo86_0 (lkg rfl hb) (r := 0) rfl) ?_
 refine SR.gtake 19 rfl (by kernel_rfl) (by kernel_rfl) (by kernel_rfl) rfl (fun _ _ _ _ h => h) rfl rfl rfl rfl rfl (fun hb => ev_ld1 rfl ty36 (lkg rfl hb) (At.d (At.lent hR_10 0 rfl rfl))) ?_
 refine SR.gtake 20 rfl (by kernel_rfl) (by kernel_rfl) (by kernel_rfl) rfl (fun _ _ _ _ h => h) rfl rfl rfl rfl rfl (fun _ => ev_mv rfl rfl) ?_
 refine SR.gtake 21 rfl (by kernel_rfl) (by kernel_rfl) (by kernel_rfl) rfl (fun _ _ _ _ h => h) rfl rfl rfl rfl rfl (fun hb => ev_nil rfl (lkg rfl hb)) ?_
 refine SR.gtake 22 rfl (by kernel_rfl) (by kernel_rfl) (by kernel_rfl) rfl (fun _ _ _ _ h => h) rfl rfl rfl rfl rfl (fun hb => ev_fa rfl fo86_1 (lkg rfl hb) (r := 1) rfl) ?_
 refine SR.gtake 23 rfl (by kernel_rfl) (by kernel_rfl) (by kernel_rfl) rfl (fun _ _ _ _ h => h) rfl rfl rfl rfl rfl (fun hb => ev_ld1 rfl ty3 (lkg rfl hb) (At.d (At.lent hR_10 0 rfl rfl))) ?_
 refine SR.gtake 24 rfl (by kernel_rfl) (by kernel_rfl) (by kernel_rfl) rfl (fun _ _ _ _ h => h) rfl rfl rfl rfl rfl (fun hb => have hp := bF (bO bD bD) hb; ev_ix rfl Try.underlying36 ty5 (lkg rfl hb) (lkg rfl hb) (by have _h := hp; omega) (by have _h := hp; omega) (fun _ _ => Fr.adr (i := i22) (Fr.ext hA hx_10) (by have _h := hp; omega) (by have _h := hp; omega))) ?_
 refine SR.gtake 25 rfl (by kernel_rfl) (by kernel_rfl) (by kernel_rfl) rfl (fun _ _ _ _ h => h) rfl rfl rfl rfl rfl (fun hb => have hp := bF (bO bD bD) hb; ev_ld1 rfl ty5 (lkg rfl hb) (At.elem1 (At.d (Fr.el (i := i22) (Fr.ext hA hx_10) (by have _h := hp; omega) (by have _h := hp; omega))) 0 rfl)) ?_
 refine SR.gtake 26 rfl (by kernel_rfl) (by kernel_rfl) (by kernel_rfl) rfl (fun _ _ _ _ h => h) rfl rfl rfl rfl rfl (fun hb => ev_cmp rfl (lkg rfl hb) rfl rfl) ?_
 refine SR.k 27 rfl (by kernel_rfl) rfl (ev_or rfl rfl rfl rfl) ?_
 refine SR.k 28 rfl (by kernel_rfl) rfl (ev_mv rfl rfl) ?_
 refine SR.gtake 29 rfl (by kernel_rfl) (by kernel_rfl) (by kernel_rfl) rfl (fun _ _ _ _ h => h) rfl rfl rfl rfl rfl (fun _ => ev_mv rfl rfl) ?_
 refine SR.gtake 30 rfl (by kernel_rfl) (by kernel_rfl) (by kernel_rfl) rfl (fun _ _ _ _ h => h) rfl rfl rfl rfl rfl (fun hb => ev_nil rfl (lkg rfl hb)) ?_
 refine SR.gtake 31 rfl (by kernel_rfl) (by kernel_rfl) (by kernel_rfl) rfl (fun _ _ _ _ h => h) rfl rfl rfl rfl rfl (fun hb => ev_fa rfl fo86_0 (lkg rfl hb) (r := 0) rfl) ?_
 refine SR.gtake 32 rfl (by kernel_rfl) (by kernel_rfl) (by kernel_rfl) rfl (fun _ _ _ _ h => h) rfl rfl rfl rfl rfl (fun hb => ev_ld1 rfl ty36 (lkg rfl hb) (At.d (At.lent hR_10 0 rfl rfl))) ?_
 refine SR.gtake 33 rfl (by kernel_rfl) (by kernel_rfl) (by kernel_rfl) rfl (fun _ _ _ _ h => h) rfl rfl rfl rfl rfl (fun _ => ev_mv rfl rfl) ?_
 refine SR.gtake 34 rfl (by kernel_rfl) (by kernel_rfl) (by kernel_rfl) rfl (fun _ _ _ _ h => h) rfl rfl rfl rfl rfl (fun hb => ev_nil rfl (lkg rfl hb)) ?_
 refine SR.gtake 35 rfl (by kernel_rfl) (by kernel_rfl) (by kernel_rfl) rfl (fun _ _ _ _ h => h) rfl rfl rfl rfl rfl (fun hb => ev_fa rfl fo86_1 (lkg rfl hb) (r := 1) rfl) ?_
 refine SR.gtake 36 rfl (by kernel_rfl) (by kernel_rfl) (by kernel_rfl) rfl (fun _ _ _ _ h => h) rfl rfl rfl rfl rfl (fun hb => ev_ld1 rfl ty3 (lkg rfl hb) (At.d (At.lent hR_10 0 rfl rfl))) ?_
 refine SR.gtake 37 rfl (by kernel_rfl) (by kernel_rfl) (by kernel_rfl) rfl (fun _ _ _ _ h => h) rfl rfl rfl rfl rfl (fun hb => have hp := bF (bO (bO bD bD) bNE) hb; ev_add rfl (lkg rfl hb) rfl (r := (i22 + 1)) rfl (by have _h := hp; omega) (by have _h := hp; omega)) ?_
 refine SR.gtake 38 rfl (by kernel_rfl) (by kernel_rfl) (by kernel_rfl) rfl (fun _ _ _ _ h => h) rfl rfl rfl rfl rfl (fun hb => have hp := bF (bO (bO bD bD) bNE) hb; ev_ix rfl Try.underlying36 ty5 (lkg rfl hb) (lkg rfl hb) (by have _h := hp; omega) (by have _h := hp; omega) (fun _ _ => Fr.adr (i := (i22 + 1)) (Fr.ext hA hx_10) (by have _h := hp; omega) (by have _h := hp; omega))) ?_
 refine SR.gtake 39 rfl (by kernel_rfl) (by kernel_rfl) (by kernel_rfl) rfl (fun _ _ _ _ h => h) rfl rfl rfl rfl rfl (fun hb => have hp := bF (bO (bO bD bD) bNE) hb; ev_ld1 rfl ty5 (lkg rfl hb) (At.elem1 (At.d (Fr.el (i := (i22 + 1)) (Fr.ext hA hx_10) (by have _h := hp; omega) (by have _h := hp; omega))) 0 rfl)) ?_
 refine SR.gtake 40 rfl (by kernel_rfl) (by kernel_rfl) (by kernel_rfl) rfl (fun _ _ _ _ h => h) rfl rfl rfl rfl rfl (fun hb => ev_cmp rfl (lkg rfl hb) rfl rfl) ?_
 refine SR.k 41 rfl (by kernel_rfl) rfl (ev_or rfl rfl rfl rfl) ?_
 refine SR.fin (by kernel_rfl) hl_10 hx_10 hR_10 .n ?_
 refine SQ.go idQ ?_
 refine .condI rfl (bO (bO (bO bD bD) bNE) bNE) (fun h11 => ?_) (fun h11 => ?_)
 ·
  refine .seq (.region ?_)
  refine .v (ev_mv rfl rfl) rfl ?_
  refine .v (ev_mv rfl rfl) rfl ?_
  refine .cons (st_call0 rfl rfl rfl rfl hbd38 rfl (.c .h .n) (no_ g A n c i22 bad23 pos24 v i 24 _ _) (fun v_q14 C_q14 q14 => ?_))
  obtain ⟨bad212, pos213, p15, rfl, rfl⟩ := q14
  show SP _ _ _ _ _ _ ⟨_, _ :: _, _, _⟩
  refine .go idQ (.seq (.region ?_))
  refine .v (ev_as rfl rfl) rfl ?_
  refine .go idQ ?_
  exact .ret idQ (ret1 Try.results70 rfl (.c .h .n) ⟨0, i22, bad212, pos213, (by rw [noF_eq p15]; exact esc_2 (p := (LS.mk i bad pos)) p6 (by assumption) (by rw [hn]; assumption)), (by omega), (by omega), rfl, rfl⟩)
 refine .skipgo idQ (.seq (.region ?_))
 refine .v (ev_mv rfl rfl) rfl ?_
 refine .v (ev_mv rfl rfl) rfl ?_
 refine .cons (st_call0 rfl rfl rfl rfl hbd74 rfl (.c .h .n) (half_ g A n c b i22 bad23 pos24 v i _ _ hA (by first | omega | simp only [LL] <;> omega | simp <;> omega) (by omega) (by omega) (by omega) (by omega) (by omega) (by omega)) (fun v_q20 C_q20 q20 => ?_))
 obtain ⟨r16, i217, bad218, pos219, p21, p22, p23, rfl, rfl⟩ := q20
 show SP _ _ _ _ _ _ ⟨_, _ :: _, _, _⟩
 refine .v (ev_as rfl rfl) rfl ?_
 refine .go idQ (.seq (.seq (.region ?_)))
 refine .v (ev_mv rfl rfl) rfl ?_
 refine .v (ev_nil rfl rfl) rfl ?_
 refine .v (ev_fa rfl fo86_2 rfl (r := 2) rfl) rfl ?_
 refine .v (ev_ld1 rfl ty3 rfl (At.own1 0 rfl rfl)) rfl ?_
 refine .v (ev_cmp rfl rfl rfl rfl) rfl ?_
 refine .v (ev_mv rfl rfl) rfl ?_
 refine .w (fun _ => ev_mv rfl rfl) rfl ?_
 refine .w (fun hb => ev_cmp rfl (lkg rfl hb) rfl rfl) rfl ?_
 refine .w (fun hb => ev_mv rfl (lkg rfl hb)) rfl ?_
 refine .cons (Ev.ggstep (b1 := (bad218 == 0)) (b := (decide (r16 < 56320))) cb_tf (fun hb1 _ => ev_mv rfl rfl) rfl rfl rfl rfl rfl ?_)
 refine .cons (Ev.ggstep (b1 := (bad218 == 0)) (b := (decide (r16 < 56320))) cb_tf (fun hb1 hb => ev_cmp rfl (lkg rfl hb) rfl rfl) rfl rfl rfl rfl rfl ?_)
 refine .w (fun hb => ev_or rfl (lkg rfl hb) rfl (lkgn rfl cb_tf hb)) rfl ?_
 refine .v (ev_and rfl rfl rfl rfl) rfl ?_
 refine .go idQ ?_
 refine .condI rfl (bA bE (bO bD bD)) (fun h24 => ?_) (fun h24 => ?_)
 ·
  refine .region ?_
  refine .v (ev_mv rfl rfl) rfl ?_
  refine .v (ev_mv rfl rfl) rfl ?_
  refine .cons (st_call0 rfl rfl rfl rfl hbd38 rfl (.c .h .n) (no_ g A n c i217 bad218 pos219 v i 24 _ _) (fun v_q27 C_q27 q27 => ?_))
  obtain ⟨bad225, pos226, p28, rfl, rfl⟩ := q27
  show SP _ _ _ _ _ _ ⟨_, _ :: _, _, _⟩
  refine .go idQ (.seq (.region ?_))
  refine .v (ev_mv rfl rfl) rfl ?_
  refine .v (ev_sub rfl rfl rfl (r := (r1 - 55296)) rfl (by omega) (by omega)) rfl ?_
  refine .v (ev_mul rfl rfl rfl (r := ((r1 - 55296) * 1024)) rfl (by omega) (by omega)) rfl ?_
  refine .v (ev_add rfl rfl rfl (r := (65536 + ((r1 - 55296) * 1024))) rfl (by omega) (by omega)) rfl ?_
  refine .v (ev_mv rfl rfl) rfl ?_
  refine .v (ev_add rfl rfl rfl (r := ((65536 + ((r1 - 55296) * 1024)) + r16)) rfl (by omega) (by omega)) rfl ?_
  refine .v (ev_sub rfl rfl rfl (r := (((65536 + ((r1 - 55296) * 1024)) + r16) - 56320)) rfl (by omega) (by omega)) rfl ?_
  refine .v (ev_as rfl rfl) rfl ?_
  refine .go idQ ?_
  exact .ret idQ (ret1 Try.results70 rfl (.c .h .n) ⟨(((65536 + ((r1 - 55296) * 1024)) + r16) - 56320), i217, bad225, pos226, (by rw [esc_3 (p := (LS.mk i bad pos)) p6 (by assumption) (by rw [hn]; assumption) p21, if_pos (by omega), ← noF_eq p28]), (by omega), (by omega), rfl, rfl⟩)
 refine .skipgo idQ (.seq (.region ?_))
 refine .v (ev_mv rfl rfl) rfl ?_
 refine .v (ev_sub rfl rfl rfl (r := (r1 - 55296)) rfl (by omega) (by omega)) rfl ?_
 refine .v (ev_mul rfl rfl rfl (r := ((r1 - 55296) * 1024)) rfl (by omega) (by omega)) rfl ?_
 refine .v (ev_add rfl rfl rfl (r := (65536 + ((r1 - 55296) * 1024))) rfl (by omega) (by omega)) rfl ?_
 refine .v (ev_mv rfl rfl) rfl ?_
 refine .v (ev_add rfl rfl rfl (r := ((65536 + ((r1 - 55296) * 1024)) + r16)) rfl (by omega) (by omega)) rfl ?_
 refine .v (ev_sub rfl rfl rfl (r := (((65536 + ((r1 - 55296) * 1024)) + r16) - 56320)) rfl (by omega) (by omega)) rfl ?_
 refine .v (ev_as rfl rfl) rfl ?_
 refine .go idQ ?_
 exact .ret idQ (ret1 Try.results70 rfl (.c .h .n) ⟨(((65536 + ((r1 - 55296) * 1024)) + r16) - 56320), i217, bad218, pos219, (by rw [esc_3 (p := (LS.mk i bad pos)) p6 (by assumption) (by rw [hn]; assumption) p21, if_neg (by omega)]), (by omega), (by omega), rfl, rfl⟩)
theorem put2_ (u0 : Value) (O : List Int) (x : Int) (S : Nat → Prop) (wf : World) (hx : 0 ≤ x ∧ x ≤ 1200000) (ho : O.length ≤ 1000000000) :
  TR0 Try.prog 69 [u0, .int .i64 x] [rw_ eY 5 (u0) O] S wf (fun v_ C_ => ∃ (u : Value), v_ = u ∧ C_ = [rw_ eY 5 (u) (O ++ putF x)]) := by
 refine TR.mk Try.func69 rfl Try.ntmps69 rfl rfl (fun w_ => ?_)
 refine .seq (.region ?_)
 refine .v (ev_as rfl rfl) rfl ?_
 refine .go idQ (.seq (.block (.seq (.region ?_))))
 refine .v (ev_mv rfl rfl) rfl ?_
 refine .v (ev_cmp rfl rfl rfl rfl) rfl ?_
 refine .v (ev_as rfl rfl) rfl ?_
 refine .go idQ ?_
 refine .condI rfl bD (fun h1 => ?_) (fun h1 => ?_)
 ·
  refine .seq (.region ?_)
  refine .v (ev_mv rfl rfl) rfl ?_
  refine .v (ev_mv rfl rfl) rfl ?_
  refine .v (ev_cv rfl Try.underlying3 Try.underlying5 rfl rfl) rfl ?_
  refine .cons (st_lit eY (e := 5) (l := [(IntKind.u8.wrap x)]) rfl rfl rfl rfl (by kernel_rfl) rfl rfl (fun w => by kernel_rfl) (fun b2 => ?_))
  refine .cons (st_app (E := eY) (m := [(IntKind.u8.wrap x)]) rfl rfl rfl rfl Try.underlying36 ai5 rfl rfl rfl (.t .h) (by first | rfl | omega | simp) (row_src 0 rfl) (by first | omega | simp only [LL] <;> omega | simp <;> omega) rfl (fun v3 => ?_))
  refine .v (ev_as rfl rfl) rfl ?_
  refine .go idQ ?_
  exact .ret idQ (ret1 Try.results69 rfl (.c .h .n) ⟨v3, rfl, (by unfold putF; (first | rw [if_pos (by omega)] | rw [if_neg (by omega), if_pos (by omega)] | rw [if_neg (by omega), if_neg (by omega), if_pos (by omega)] | rw [if_neg (by omega), if_neg (by omega), if_neg (by omega)]); rfl)⟩)
 refine .seq (.region ?_)
 refine .v (ev_mv rfl rfl) rfl ?_
 refine .v (ev_cmp rfl rfl rfl rfl) rfl ?_
 refine .v (ev_as rfl rfl) rfl ?_
 refine .go idQ ?_
 refine .condI rfl bD (fun h4 => ?_) (fun h4 => ?_)
 ·
  refine .seq (.region ?_)
  refine .v (ev_mv rfl rfl) rfl ?_
  refine .v (ev_mv rfl rfl) rfl ?_
  refine .v (ev_shr (r := (Int.fdiv x 64)) rfl rfl rfl (by decide) rfl) rfl ?_
  refine .v (ev_bor rfl rfl rfl) rfl ?_
  refine .v (ev_cv rfl Try.underlying3 Try.underlying5 rfl rfl) rfl ?_
  refine .v (ev_mv rfl rfl) rfl ?_
  refine .v (ev_band rfl rfl rfl) rfl ?_
  refine .v (ev_bor rfl rfl rfl) rfl ?_
  refine .v (ev_cv rfl Try.underlying3 Try.underlying5 rfl rfl) rfl ?_
  refine .cons (st_lit eY (e := 5) (l := [(IntKind.u8.wrap (bor .i64 192 (Int.fdiv x 64))), (IntKind.u8.wrap (bor .i64 128 (bnd .i64 x 63)))]) rfl rfl rfl rfl (by kernel_rfl) rfl rfl (fun w => by kernel_rfl) (fun b5 => ?_))
  refine .cons (st_app (E := eY) (m := [(IntKind.u8.wrap (bor .i64 192 (Int.fdiv x 64))), (IntKind.u8.wrap (bor .i64 128 (bnd .i64 x 63)))]) rfl rfl rfl rfl Try.underlying36 ai5 rfl rfl rfl (.t .h) (by first | rfl | omega | simp) (row_src 0 rfl) (by first | omega | simp only [LL] <;> omega | simp <;> omega) rfl (fun v6 => ?_))
  refine .v (ev_as rfl rfl) rfl ?_
  refine .go idQ ?_
  exact .ret idQ (ret1 Try.results69 rfl (.c .h .n) ⟨v6, rfl, (by unfold putF; (first | rw [if_pos (by omega)] | rw [if_neg (by omega), if_pos (by omega)] | rw [if_neg (by omega), if_neg (by omega), if_pos (by omega)] | rw [if_neg (by omega), if_neg (by omega), if_neg (by omega)]); rfl)⟩)
 refine .seq (.region ?_)
 refine .v (ev_mv rfl rfl) rfl ?_
 refine .v (ev_cmp rfl rfl rfl rfl) rfl ?_
 refine .v (ev_as rfl rfl) rfl ?_
 refine .go idQ ?_
 refine .condI rfl bD (fun h7 => ?_) (fun h7 => ?_)
 ·
  refine .seq (.region ?_)
  refine .v (ev_mv rfl rfl) rfl ?_
  refine .v (ev_mv rfl rfl) rfl ?_
  refine .v (ev_shr (r := (Int.fdiv x 4096)) rfl rfl rfl (by decide) rfl) rfl ?_
  refine .v (ev_bor rfl rfl rfl) rfl ?_
  refine .v (ev_cv rfl Try.underlying3 Try.underlying5 rfl rfl) rfl ?_
  refine .v (ev_mv rfl rfl) rfl ?_
  refine .v (ev_shr (r := (Int.fdiv x 64)) rfl rfl rfl (by decide) rfl) rfl ?_
  refine .v (ev_band rfl rfl rfl) rfl ?_
  refine .v (ev_bor rfl rfl rfl) rfl ?_
  refine .v (ev_cv rfl Try.underlying3 Try.underlying5 rfl rfl) rfl ?_
  refine .v (ev_mv rfl rfl) rfl ?_
  refine .v (ev_band rfl rfl rfl) rfl ?_
  refine .v (ev_bor rfl rfl rfl) rfl ?_
  refine .v (ev_cv rfl Try.underlying3 Try.underlying5 rfl rfl) rfl ?_
  refine .cons (st_lit eY (e := 5) (l := [(IntKind.u8.wrap (bor .i64 224 (Int.fdiv x 4096))), (IntKind.u8.wrap (bor .i64 128 (bnd .i64 (Int.fdiv x 64) 63))), (IntKind.u8.wrap (bor .i64 128 (bnd .i64 x 63)))]) rfl rfl rfl rfl (by kernel_rfl) rfl rfl (fun w => by kernel_rfl) (fun b8 => ?_))
  refine .cons (st_app (E := eY) (m := [(IntKind.u8.wrap (bor .i64 224 (Int.fdiv x 4096))), (IntKind.u8.wrap (bor .i64 128 (bnd .i64 (Int.fdiv x 64) 63))), (IntKind.u8.wrap (bor .i64 128 (bnd .i64 x 63)))]) rfl rfl rfl rfl Try.underlying36 ai5 rfl rfl rfl (.t .h) (by first | rfl | omega | simp) (row_src 0 rfl) (by first | omega | simp only [LL] <;> omega | simp <;> omega) rfl (fun v9 => ?_))
  refine .v (ev_as rfl rfl) rfl ?_
  refine .go idQ ?_
  exact .ret idQ (ret1 Try.results69 rfl (.c .h .n) ⟨v9, rfl, (by unfold putF; (first | rw [if_pos (by omega)] | rw [if_neg (by omega), if_pos (by omega)] | rw [if_neg (by omega), if_neg (by omega), if_pos (by omega)] | rw [if_neg (by omega), if_neg (by omega), if_neg (by omega)]); rfl)⟩)
 refine .skipgo idQ (.seq (.region ?_))
 refine .v (ev_mv rfl rfl) rfl ?_
 refine .v (ev_mv rfl rfl) rfl ?_
 refine .v (ev_shr (r := (Int.fdiv x 262144)) rfl rfl rfl (by decide) rfl) rfl ?_
 refine .v (ev_bor rfl rfl rfl) rfl ?_
 refine .v (ev_cv rfl Try.underlying3 Try.underlying5 rfl rfl) rfl ?_
 refine .v (ev_mv rfl rfl) rfl ?_
 refine .v (ev_shr (r := (Int.fdiv x 4096)) rfl rfl rfl (by decide) rfl) rfl ?_
 refine .v (ev_band rfl rfl rfl) rfl ?_
 refine .v (ev_bor rfl rfl rfl) rfl ?_
 refine .v (ev_cv rfl Try.underlying3 Try.underlying5 rfl rfl) rfl ?_
 refine .v (ev_mv rfl rfl) rfl ?_
 refine .v (ev_shr (r := (Int.fdiv x 64)) rfl rfl rfl (by decide) rfl) rfl ?_
 refine .v (ev_band rfl rfl rfl) rfl ?_
 refine .v (ev_bor rfl rfl rfl) rfl ?_
 refine .v (ev_cv rfl Try.underlying3 Try.underlying5 rfl rfl) rfl ?_
 refine .v (ev_mv rfl rfl) rfl ?_
 refine .v (ev_band rfl rfl rfl) rfl ?_
 refine .v (ev_bor rfl rfl rfl) rfl ?_
 refine .v (ev_cv rfl Try.underlying3 Try.underlying5 rfl rfl) rfl ?_
 refine .cons (st_lit eY (e := 5) (l := [(IntKind.u8.wrap (bor .i64 240 (Int.fdiv x 262144))), (IntKind.u8.wrap (bor .i64 128 (bnd .i64 (Int.fdiv x 4096) 63))), (IntKind.u8.wrap (bor .i64 128 (bnd .i64 (Int.fdiv x 64) 63))), (IntKind.u8.wrap (bor .i64 128 (bnd .i64 x 63)))]) rfl rfl rfl rfl (by kernel_rfl) rfl rfl (fun w => by kernel_rfl) (fun b10 => ?_))
 refine .cons (st_app (E := eY) (m := [(IntKind.u8.wrap (bor .i64 240 (Int.fdiv x 262144))), (IntKind.u8.wrap (bor .i64 128 (bnd .i64 (Int.fdiv x 4096) 63))), (IntKind.u8.wrap (bor .i64 128 (bnd .i64 (Int.fdiv x 64) 63))), (IntKind.u8.wrap (bor .i64 128 (bnd .i64 x 63)))]) rfl rfl rfl rfl Try.underlying36 ai5 rfl rfl rfl (.t .h) (by first | rfl | omega | simp) (row_src 0 rfl) (by first | omega | simp only [LL] <;> omega | simp <;> omega) rfl (fun v11 => ?_))
 refine .v (ev_as rfl rfl) rfl ?_
 refine .go idQ ?_
 exact .ret idQ (ret1 Try.results69 rfl (.c .h .n) ⟨v11, rfl, (by unfold putF; (first | rw [if_pos (by omega)] | rw [if_neg (by omega), if_pos (by omega)] | rw [if_neg (by omega), if_neg (by omega), if_pos (by omega)] | rw [if_neg (by omega), if_neg (by omega), if_neg (by omega)]); rfl)⟩)
theorem text2_ (g : Nat) (A : Option Addr) (n : Nat) (c : Nat) (b : List Int) (i : Int) (bad : Int) (pos : Int) (v : Value) (S : Nat → Prop) (wf : World) (hA : Fr eY S wf A b) (hn : b.length = n) (hN : n ≤ 65536) (hr : ∀ x ∈ b, isB x) (hcap : n ≤ c) (hi : 0 ≤ i ∧ i ≤ 100000) (hb0 : bad = 0) (hin : i < n) :
  TR0 Try.prog 57 [.pointer (some ⟨g, 0, none⟩)] [cel g [.slice A n c, .int .i64 i, .int .i64 bad, .int .i64 pos, v] 86] S wf (fun v_ C_ => ∃ (s : ByteArray) (i2 : Int) (bad2 : Int) (pos2 : Int), (s = mkS (textF b (LS.mk i bad pos))) ∧ ((LS.mk i2 bad2 pos2) = textS b (LS.mk i bad pos)) ∧ ((i + 1 ≤ i2 ∧ i2 ≤ n + 1 ∧ (bad2 = 0 → i2 ≤ n))) ∧ (s.size ≤ 200000) ∧ v_ = .string s ∧ C_ = [cel g [.slice A n c, .int .i64 i2, .int .i64 bad2, .int .i64 pos2, v] 86]) := by
 have hla := hA.len
 refine TR.mk Try.func57 rfl Try.ntmps57 rfl rfl (fun w_ => ?_)
 refine .seq (.region ?_)
 refine .v (ev_as rfl rfl) rfl ?_
 refine .go idQ (.seq (.region ?_))
 refine .v (ev_as rfl rfl) rfl ?_
 refine .go idQ (.seq ?_)
 refine SC.nilrow eY 5 ?_
 refine .region ?_
 refine .v (ev_mv rfl rfl) rfl ?_
 refine .v (ev_mv rfl rfl) rfl ?_
 refine .v (ev_nil rfl rfl) rfl ?_
 refine .v (ev_fa rfl fo86_1 rfl (r := 1) rfl) rfl ?_
 refine .v (ev_ld1 rfl ty3 rfl (At.own1 1 rfl rfl)) rfl ?_
 refine .v (ev_add rfl rfl rfl (r := (i + 1)) rfl (by omega) (by omega)) rfl ?_
 refine .v (ev_nil rfl rfl) rfl ?_
 refine .v (ev_fa rfl fo86_1 rfl (r := 1) rfl) rfl ?_
 refine .cons (st_store1 rfl rfl rfl ty3 rfl rfl rfl (.t .h) (.t .h) ?_)
 refine .go idQ (.block ?_)
 refine .loop (X := Nat × Int × Int × Int × (List Int) × Value) (fun ⟨k, i1, bad1, pos1, O, U⟩ => 1 ≤ k ∧ (bad1 = 0 → (n : Int) + 2 - i1 ≤ k ∧ i1 ≤ n) ∧ (i + 1 ≤ i1 ∧ i1 ≤ n + 1) ∧ (O.length : Int) ≤ 2 * (i1 - i) ∧ textL b k (LS.mk i1 bad1 pos1) O = textL b (b.length + 4) (LS.go (LS.mk i bad pos) 1) []) (fun ⟨k, i1, bad1, pos1, O, U⟩ => [(0, .pointer (some ⟨g, 0, none⟩)), (3, U)]) (fun ⟨k, i1, bad1, pos1, O, U⟩ => [cel g [.slice A n c, .int .i64 i1, .int .i64 bad1, .int .i64 pos1, v] 86, rw_ eY 5 (U) O]) (fun _ => S) (fun _ => wf) (fun ⟨k, i1, bad1, pos1, O, U⟩ => k) (fun a_ w_ hs_ hw_ => ⟨⟨b.length + 4, (i + 1), bad, pos, ([] : List Int), (.slice none 0 0)⟩, (by exact ⟨by omega, by omega, by omega, by simp; omega, rfl⟩), hs_.mono (Sub.get (.c rfl (.c rfl .n))), hw_.keep (.c .h (.c .h .n))⟩) (fun ⟨k, i1, bad1, pos1, O, U⟩ ⟨q_0, q_1, q_2, q_3, q_4⟩ => ?_)
 show SC _ _ _ _ _ ⟨[(0, .pointer (some ⟨g, 0, none⟩)), (3, U)], [cel g [.slice A n c, .int .i64 i1, .int .i64 bad1, .int .i64 pos1, v] 86, rw_ eY 5 (U) O], S, wf⟩
 refine .block (.seq (.region ?_))
 refine .v (ev_mv rfl rfl) rfl ?_
 refine .cons (st_call0 rfl rfl rfl rfl hbd68 rfl (.c .h .n) (here_ g A n c b i1 bad1 pos1 v _ _ hA (by first | omega | simp only [LL] <;> omega | simp <;> omega) (by omega) (by omega) (by omega) (by omega)) (fun v_q4 C_q4 q4 => ?_))
 obtain ⟨r1, bad22, pos23, p5, p6, rfl, rfl⟩ := q4
 show SP _ _ _ _ _ _ ⟨_, _ :: _, _, _⟩
 have hf_p5 := here_fact hr hn p5 p6
 refine .v (ev_as rfl rfl) rfl ?_
 refine .go idQ (.seq (.seq (.region ?_)))
 refine .v (ev_mv rfl rfl) rfl ?_
 refine .v (ev_cmp rfl rfl rfl rfl) rfl ?_
 refine .go idQ ?_
 refine .condI rfl bD (fun h7 => ?_) (fun h7 => ?_)
 ·
  refine .seq (.region ?_)
  refine .v (ev_as rfl rfl) rfl ?_
  refine .go idQ ?_
  exact .ret idQ (ret1 Try.results57 rfl (.c .h .n) ⟨⟨#[]⟩, i1, bad22, pos23, (congrArg mkS (show [] = textF b (LS.mk i bad pos) ∧ (LS.mk i1 bad22 pos23) = textS b (LS.mk i bad pos) from text_of (by rw [p6]; exact text_low q_0 q_4 p5 (by omega))).1), (show [] = textF b (LS.mk i bad pos) ∧ (LS.mk i1 bad22 pos23) = textS b (LS.mk i bad pos) from text_of (by rw [p6]; exact text_low q_0 q_4 p5 (by omega))).2, (by omega), (by decide), rfl, rfl⟩)
 refine .skipgo idQ (.seq (.seq (.region ?_)))
 refine .v (ev_mv rfl rfl) rfl ?_
 refine .v (ev_cmp rfl rfl rfl rfl) rfl ?_
 refine .go idQ ?_
 refine .condI rfl bE (fun h8 => ?_) (fun h8 => ?_)
 ·
  refine .seq (.region ?_)
  refine .v (ev_mv rfl rfl) rfl ?_
  refine .v (ev_mv rfl rfl) rfl ?_
  refine .v (ev_nil rfl rfl) rfl ?_
  refine .v (ev_fa rfl fo86_1 rfl (r := 1) rfl) rfl ?_
  refine .v (ev_ld1 rfl ty3 rfl (At.own1 0 rfl rfl)) rfl ?_
  refine .v (ev_add rfl rfl rfl (r := (i1 + 1)) rfl (by omega) (by omega)) rfl ?_
  refine .v (ev_nil rfl rfl) rfl ?_
  refine .v (ev_fa rfl fo86_1 rfl (r := 1) rfl) rfl ?_
  refine .cons (st_store1 rfl rfl rfl ty3 rfl rfl rfl .h (.t .h) ?_)
  refine .go idQ (.seq (.region ?_))
  refine .v (ev_mv rfl rfl) rfl ?_
  refine .know (row_len 1 rfl) (fun hv11 => ?_)
  obtain ⟨A9, c10, rfl, hv11_1, hv11_2⟩ := hv11
  unfold maxLen at hv11_2
  refine .v (ev_b2s (l := O) rfl Try.underlying36 Try.underlying5 Try.underlying9 rfl (by first | rfl | assumption | omega | ((try simp only [List.length_take, List.length_drop, List.length_append, List.length_cons, List.length_nil]) <;> omega)) (row_src 1 rfl)) rfl ?_
  refine .v (ev_as rfl rfl) rfl ?_
  refine .go idQ ?_
  exact .ret idQ (ret1 Try.results57 rfl (.c .h .n) ⟨(mkS O), (i1 + 1), bad22, pos23, (congrArg mkS (show O = textF b (LS.mk i bad pos) ∧ (LS.mk (i1 + 1) bad22 pos23) = textS b (LS.mk i bad pos) from by have e_ : bad1 = bad22 := (by omega); have e2_ : pos1 = pos23 := (by omega); subst e_; subst e2_; exact text_of (text_quo q_0 q_4 p5 (by omega) (by omega))).1), (show O = textF b (LS.mk i bad pos) ∧ (LS.mk (i1 + 1) bad22 pos23) = textS b (LS.mk i bad pos) from by have e_ : bad1 = bad22 := (by omega); have e2_ : pos1 = pos23 := (by omega); subst e_; subst e2_; exact text_of (text_quo q_0 q_4 p5 (by omega) (by omega))).2, (by omega), (by show (mkS _).size ≤ _; rw [mkS_size]; omega), rfl, rfl⟩)
 refine .skipgo idQ (.seq (.seq (.region ?_)))
 refine .v (ev_mv rfl rfl) rfl ?_
 refine .v (ev_cmp rfl rfl rfl rfl) rfl ?_
 refine .go idQ ?_
 refine .condI rfl bE (fun h12 => ?_) (fun h12 => ?_)
 ·
  refine .seq (.region ?_)
  refine .v (ev_mv rfl rfl) rfl ?_
  refine .v (ev_mv rfl rfl) rfl ?_
  refine .cons (st_call0 rfl rfl rfl rfl hbd70 rfl (.c .h .n) (esc_ g A n c b i1 bad22 pos23 v _ _ hA (by first | omega | simp only [LL] <;> omega | simp <;> omega) (by omega) (by omega) (by omega) (by omega) (by omega) (by omega)) (fun v_q17 C_q17 q17 => ?_))
  obtain ⟨r13, i214, bad215, pos216, p18, p19, p20, rfl, rfl⟩ := q17
  show SP _ _ _ _ _ _ ⟨_, _ :: _, _, _⟩
  refine .cons (st_call0 rfl rfl rfl rfl hbd69 rfl (.c (.t .h) .n) (put2_ U O r13 _ _ (by omega) (by first | omega | simp only [LL] <;> omega | simp <;> omega)) (fun v_q22 C_q22 q22 => ?_))
  obtain ⟨u21, rfl, rfl⟩ := q22
  show SP _ _ _ _ _ _ ⟨_, _ :: _, _, _⟩
  refine .v (ev_as rfl rfl) rfl ?_
  refine .go idQ ?_
  exact .exitq idQ (SQ.roundb (X := Nat × Int × Int × Int × (List Int) × Value) (x := (k, i1, bad1, pos1, O, U)) ⟨k - 1, i214, bad215, pos216, (O ++ putF r13), v_q22⟩ (by have e_ : bad1 = bad22 := (by omega); have e2_ : pos1 = pos23 := (by omega); subst e_; subst e2_; exact ⟨by omega, by omega, by omega, (by have h_ := putF_len r13; rw [List.length_append]; omega), text_esc q_0 q_4 p5 (by omega) (by omega) (by omega) p18⟩) (by show k - 1 < k; omega) (Sub.get (.c rfl (.c rfl .n))) (fun w hw => hw.keep (.c (.t .h) (.c .h .n))))
 refine .skipgo idQ (.seq ?_)
 have hrb := rune_bd2 hn (i := i1) (by omega) (by omega)
 refine SC.draw mo [] [] .n (fun _ _ _ c hc => by cases hc) (fun wf_23 hl_23 hx_23 hR_23 => ?_)
 refine SR.k 0 rfl (by kernel_rfl) rfl (ev_mv rfl rfl) ?_
 refine SR.k 1 rfl (by kernel_rfl) rfl (ev_nil rfl rfl) ?_
 refine SR.k 2 rfl (by kernel_rfl) rfl (ev_fa rfl fo86_0 rfl (r := 0) rfl) ?_
 refine SR.k 3 rfl (by kernel_rfl) rfl (ev_ld1 rfl ty36 rfl (At.d (At.lent hR_23 0 rfl rfl))) ?_
 refine SR.k 4 rfl (by kernel_rfl) rfl (ev_mv rfl rfl) ?_
 refine SR.k 5 rfl (by kernel_rfl) rfl (ev_nil rfl rfl) ?_
 refine SR.k 6 rfl (by kernel_rfl) rfl (ev_fa rfl fo86_1 rfl (r := 1) rfl) ?_
 refine SR.k 7 rfl (by kernel_rfl) rfl (ev_ld1 rfl ty3 rfl (At.d (At.lent hR_23 0 rfl rfl))) ?_
 refine SR.k 8 rfl (by kernel_rfl) rfl (ev_slc rfl Try.underlying36 ty5 rfl (.s rfl (by omega)) .n (by omega) (by omega)) ?_
 refine SR.one (j := 9) (by kernel_rfl) rfl (st_callk rfl rfl rfl rfl hbd46 rfl .n (rune (cutA A c (i1).toNat 1) (n - (i1).toNat) (c - (i1).toNat) ((b.take n).drop (i1).toNat) _ _ (Fr.view (Fr.ext hA hx_23) (i1).toNat n 1 rfl (by omega)) (by first | omega | simp only [LL] <;> omega | simp <;> omega) (rng_drop (rng_take hr _) _) (by omega)) ⟨tt0, ?_⟩)
 refine SR.k 10 rfl (by kernel_rfl) rfl (ev_as rfl rfl) ?_
 refine SR.fin (by kernel_rfl) hl_23 hx_23 hR_23 .n ?_
 refine SQ.go idQ ?_
 refine .seq (.seq (.region ?_))
 refine .v (ev_mv rfl rfl) rfl ?_
 refine .v (ev_cmp rfl rfl rfl rfl) rfl ?_
 refine .go idQ ?_
 refine .condI rfl bD (fun h24 => ?_) (fun h24 => ?_)
 ·
  refine .region ?_
  refine .v (ev_mv rfl rfl) rfl ?_
  refine .v (ev_mv rfl rfl) rfl ?_
  refine .v (ev_nil rfl rfl) rfl ?_
  refine .v (ev_fa rfl fo86_1 rfl (r := 1) rfl) rfl ?_
  refine .v (ev_ld1 rfl ty3 rfl (At.own1 0 rfl rfl)) rfl ?_
  refine .cons (st_call0 rfl rfl rfl rfl hbd38 rfl (.c .h .n) (no_ g A n c i1 bad22 pos23 v i1 22 _ _) (fun v_q27 C_q27 q27 => ?_))
  obtain ⟨bad225, pos226, p28, rfl, rfl⟩ := q27
  show SP _ _ _ _ _ _ ⟨_, _ :: _, _, _⟩
  refine .go idQ (.seq (.seq (.region ?_)))
  refine .v (ev_mv rfl rfl) rfl ?_
  refine .v (ev_nil rfl rfl) rfl ?_
  refine .v (ev_fa rfl fo86_2 rfl (r := 2) rfl) rfl ?_
  refine .v (ev_ld1 rfl ty3 rfl (At.own1 0 rfl rfl)) rfl ?_
  refine .v (ev_cmp rfl rfl rfl rfl) rfl ?_
  refine .go idQ ?_
  refine .condI rfl bNE (fun h29 => ?_) (fun h29 => ?_)
  ·
   refine .seq (.region ?_)
   refine .v (ev_as rfl rfl) rfl ?_
   refine .go idQ ?_
   exact .ret idQ (ret1 Try.results57 rfl (.c .h .n) ⟨⟨#[]⟩, i1, bad225, pos226, (congrArg mkS (show [] = textF b (LS.mk i bad pos) ∧ (LS.mk i1 bad225 pos226) = textS b (LS.mk i bad pos) from by have e_ : bad1 = bad22 := (by omega); have e2_ : pos1 = pos23 := (by omega); subst e_; subst e2_; exact text_of (text_bad q_0 q_4 p5 (by omega) (by omega) (by omega) (R := runeF ((b.take n).drop i1.toNat)) (by rw [bv hn]) (e := 22) (by omega) (by omega) p28)).1), (show [] = textF b (LS.mk i bad pos) ∧ (LS.mk i1 bad225 pos226) = textS b (LS.mk i bad pos) from by have e_ : bad1 = bad22 := (by omega); have e2_ : pos1 = pos23 := (by omega); subst e_; subst e2_; exact text_of (text_bad q_0 q_4 p5 (by omega) (by omega) (by omega) (R := runeF ((b.take n).drop i1.toNat)) (by rw [bv hn]) (e := 22) (by omega) (by omega) p28)).2, (by omega), (by decide), rfl, rfl⟩)
  exfalso; omega
 refine .seq (.region ?_)
 refine .v (ev_mv rfl rfl) rfl ?_
 refine .v (ev_cmp rfl rfl rfl rfl) rfl ?_
 refine .go idQ ?_
 refine .condI rfl bE (fun h30 => ?_) (fun h30 => ?_)
 ·
  refine .region ?_
  refine .v (ev_mv rfl rfl) rfl ?_
  refine .v (ev_mv rfl rfl) rfl ?_
  refine .v (ev_nil rfl rfl) rfl ?_
  refine .v (ev_fa rfl fo86_1 rfl (r := 1) rfl) rfl ?_
  refine .v (ev_ld1 rfl ty3 rfl (At.own1 0 rfl rfl)) rfl ?_
  refine .cons (st_call0 rfl rfl rfl rfl hbd38 rfl (.c .h .n) (no_ g A n c i1 bad22 pos23 v i1 23 _ _) (fun v_q33 C_q33 q33 => ?_))
  obtain ⟨bad231, pos232, p34, rfl, rfl⟩ := q33
  show SP _ _ _ _ _ _ ⟨_, _ :: _, _, _⟩
  refine .go idQ (.seq (.seq (.region ?_)))
  refine .v (ev_mv rfl rfl) rfl ?_
  refine .v (ev_nil rfl rfl) rfl ?_
  refine .v (ev_fa rfl fo86_2 rfl (r := 2) rfl) rfl ?_
  refine .v (ev_ld1 rfl ty3 rfl (At.own1 0 rfl rfl)) rfl ?_
  refine .v (ev_cmp rfl rfl rfl rfl) rfl ?_
  refine .go idQ ?_
  refine .condI rfl bNE (fun h35 => ?_) (fun h35 => ?_)
  ·
   refine .seq (.region ?_)
   refine .v (ev_as rfl rfl) rfl ?_
   refine .go idQ ?_
   exact .ret idQ (ret1 Try.results57 rfl (.c .h .n) ⟨⟨#[]⟩, i1, bad231, pos232, (congrArg mkS (show [] = textF b (LS.mk i bad pos) ∧ (LS.mk i1 bad231 pos232) = textS b (LS.mk i bad pos) from by have e_ : bad1 = bad22 := (by omega); have e2_ : pos1 = pos23 := (by omega); subst e_; subst e2_; exact text_of (text_bad q_0 q_4 p5 (by omega) (by omega) (by omega) (R := runeF ((b.take n).drop i1.toNat)) (by rw [bv hn]) (e := 23) (by omega) (by omega) p34)).1), (show [] = textF b (LS.mk i bad pos) ∧ (LS.mk i1 bad231 pos232) = textS b (LS.mk i bad pos) from by have e_ : bad1 = bad22 := (by omega); have e2_ : pos1 = pos23 := (by omega); subst e_; subst e2_; exact text_of (text_bad q_0 q_4 p5 (by omega) (by omega) (by omega) (R := runeF ((b.take n).drop i1.toNat)) (by rw [bv hn]) (e := 23) (by omega) (by omega) p34)).2, (by omega), (by decide), rfl, rfl⟩)
  exfalso; omega
 refine .skipgo idQ (.seq (.seq (.region ?_)))
 refine .v (ev_mv rfl rfl) rfl ?_
 refine .v (ev_nil rfl rfl) rfl ?_
 refine .v (ev_fa rfl fo86_2 rfl (r := 2) rfl) rfl ?_
 refine .v (ev_ld1 rfl ty3 rfl (At.own1 0 rfl rfl)) rfl ?_
 refine .v (ev_cmp rfl rfl rfl rfl) rfl ?_
 refine .go idQ ?_
 refine .condI rfl bNE (fun h36 => ?_) (fun h36 => ?_)
 ·
  refine .seq (.region ?_)
  refine .v (ev_as rfl rfl) rfl ?_
  refine .go idQ ?_
  exact .ret idQ (ret1 Try.results57 rfl (.c .h .n) ⟨⟨#[]⟩, i1, bad22, pos23, (congrArg mkS (show [] = textF b (LS.mk i bad pos) ∧ (LS.mk i1 bad22 pos23) = textS b (LS.mk i bad pos) from text_of (by rw [p6]; exact text_low q_0 q_4 p5 (by omega))).1), (show [] = textF b (LS.mk i bad pos) ∧ (LS.mk i1 bad22 pos23) = textS b (LS.mk i bad pos) from text_of (by rw [p6]; exact text_low q_0 q_4 p5 (by omega))).2, (by omega), (by decide), rfl, rfl⟩)
 refine .skipgo idQ (.seq ?_)
 refine SC.draw mo [rw_ eY 5 (U) O] [] (.c (.t .h) .n) (fun _ _ _ c hc => by cases hc) (fun wf_37 hl_37 hx_37 hR_37 => ?_)
 refine SR.k 0 rfl (by kernel_rfl) rfl (ev_mv rfl rfl) ?_
 refine SR.k 1 rfl (by kernel_rfl) rfl (ev_mv rfl rfl) ?_
 refine SR.k 2 rfl (by kernel_rfl) rfl (ev_nil rfl rfl) ?_
 refine SR.k 3 rfl (by kernel_rfl) rfl (ev_fa rfl fo86_0 rfl (r := 0) rfl) ?_
 refine SR.k 4 rfl (by kernel_rfl) rfl (ev_ld1 rfl ty36 rfl (At.d (At.lent hR_37 0 rfl rfl))) ?_
 refine SR.k 5 rfl (by kernel_rfl) rfl (ev_mv rfl rfl) ?_
 refine SR.k 6 rfl (by kernel_rfl) rfl (ev_nil rfl rfl) ?_
 refine SR.k 7 rfl (by kernel_rfl) rfl (ev_fa rfl fo86_1 rfl (r := 1) rfl) ?_
 refine SR.k 8 rfl (by kernel_rfl) rfl (ev_ld1 rfl ty3 rfl (At.d (At.lent hR_37 0 rfl rfl))) ?_
 refine SR.k 9 rfl (by kernel_rfl) rfl (ev_mv rfl rfl) ?_
 refine SR.k 10 rfl (by kernel_rfl) rfl (ev_nil rfl rfl) ?_
 refine SR.k 11 rfl (by kernel_rfl) rfl (ev_fa rfl fo86_1 rfl (r := 1) rfl) ?_
 refine SR.k 12 rfl (by kernel_rfl) rfl (ev_ld1 rfl ty3 rfl (At.d (At.lent hR_37 0 rfl rfl))) ?_
 refine SR.k 13 rfl (by kernel_rfl) rfl (ev_mv rfl rfl) ?_
 refine SR.k 14 rfl (by kernel_rfl) rfl (ev_add rfl rfl rfl (r := (i1 + (runeF ((b.take n).drop (i1).toNat)))) rfl (by omega) (by omega)) ?_
 refine SR.k 15 rfl (by kernel_rfl) rfl (ev_slc rfl Try.underlying36 ty5 rfl (.s rfl (by omega)) (.s rfl (by omega)) (by omega) (by omega)) ?_
 refine SR.one (j := 16) (by kernel_rfl) rfl (st_app (E := eY) (m := ((b.take ((i1 + (runeF ((b.take n).drop (i1).toNat)))).toNat).drop (i1).toNat)) rfl rfl rfl rfl Try.underlying36 ai5 rfl rfl rfl .h (by (try simp only [List.length_take, List.length_drop]) <;> omega) (Src.w (Fr.flat (Fr.view (Fr.ext hA hx_37) (i1).toNat ((i1 + (runeF ((b.take n).drop (i1).toNat)))).toNat 1 rfl (by omega)))) (by first | omega | simp only [LL] <;> omega | simp <;> omega) rfl (fun v38 => ⟨tt0, ?_⟩))
 refine SR.k 17 rfl (by kernel_rfl) rfl (ev_as rfl rfl) ?_
 refine SR.fin (by kernel_rfl) hl_37 hx_37 hR_37 (.c .n) ?_
 refine SQ.go idQ ?_
 refine .region ?_
 refine .v (ev_mv rfl rfl) rfl ?_
 refine .v (ev_mv rfl rfl) rfl ?_
 refine .v (ev_nil rfl rfl) rfl ?_
 refine .v (ev_fa rfl fo86_1 rfl (r := 1) rfl) rfl ?_
 refine .v (ev_ld1 rfl ty3 rfl (At.own1 1 rfl rfl)) rfl ?_
 refine .v (ev_mv rfl rfl) rfl ?_
 refine .v (ev_add rfl rfl rfl (r := (i1 + (runeF ((b.take n).drop (i1).toNat)))) rfl (by omega) (by omega)) rfl ?_
 refine .v (ev_nil rfl rfl) rfl ?_
 refine .v (ev_fa rfl fo86_1 rfl (r := 1) rfl) rfl ?_
 refine .cons (st_store1 rfl rfl rfl ty3 rfl rfl rfl (.t .h) (.t .h) ?_)
 exact SP.nil (SQ.roundb (X := Nat × Int × Int × Int × (List Int) × Value) (x := (k, i1, bad1, pos1, O, U)) ⟨k - 1, (i1 + (runeF ((b.take n).drop (i1).toNat))), bad22, pos23, (O ++ ((b.take ((i1 + (runeF ((b.take n).drop (i1).toNat)))).toNat).drop (i1).toNat)), v38⟩ (by have e_ : bad1 = bad22 := (by omega); have e2_ : pos1 = pos23 := (by omega); subst e_; subst e2_; exact ⟨by omega, by omega, by omega, (by rw [List.length_append, List.length_drop, List.length_take]; omega), text_raw q_0 q_4 p5 (by omega) (by omega) (by omega) (R := runeF ((b.take n).drop i1.toNat)) (by rw [bv hn]) (by omega) (by omega) (by omega)⟩) (by show k - 1 < k; omega) (Sub.get (.c rfl (.c rfl .n))) (fun w hw => hw.keep (.c .h (.c .h .n))))
end Go.Proofs.Ythmkelkefmfmgaa.Sx
set_option maxRecDepth 20000
set_option maxHeartbeats 4000000
namespace Go.Proofs.Ythmkelkefmfmgaa.Sx.FPC
open Go Go.SX Go.Proofs
theorem fo86_1 : fo Try.prog 86 1 = some 1 := by kernel_rfl
theorem ty3 : ty Try.prog 3 = some (false, 1) := by kernel_rfl
theorem fo86_0 : fo Try.prog 86 0 = some 0 := by kernel_rfl
theorem ty36 : ty Try.prog 36 = some (false, 1) := by kernel_rfl
theorem mo : Try.prog.follows .mixedOrders = true := by kernel_rfl
theorem ty5 : ty Try.prog 5 = some (false, 1) := by kernel_rfl
theorem hbd71 : hasBody Try.prog 71 = true := by kernel_rfl
theorem hbd38 : hasBody Try.prog 38 = true := by kernel_rfl
theorem hbd54 : hasBody Try.prog 54 = true := by kernel_rfl
theorem fo86_2 : fo Try.prog 86 2 = some 2 := by kernel_rfl
theorem hbd57 : hasBody Try.prog 57 = true := by kernel_rfl
theorem fo90_4 : fo Try.prog 90 4 = some 4 := by kernel_rfl
theorem ty82 : ty Try.prog 82 = some (false, 1) := by kernel_rfl
theorem ty9 : ty Try.prog 9 = some (false, 1) := by kernel_rfl
theorem ai9 : (Try.prog.info? 9).map (fun i => (i.zero, i.size, i.bytes)) = some (some (.string ⟨#[]⟩), 1, 16) := by kernel_rfl
end Go.Proofs.Ythmkelkefmfmgaa.Sx.FPC
namespace Go.Proofs.Ythmkelkefmfmgaa.Sx
open Go Go.SX Go.Proofs FPC
theorem parse1_ (s : ByteArray) (S : Nat → Prop) (wf : World) (hs : s.size ≤ 100000) :
  TR0 Try.prog 71 [.string s] [] S wf (fun v_ C_ => ∃ (r : Int) (e : Int), ((r, e) = parse1 (bs s)) ∧ (-4611686018427387903 ≤ r ∧ r ≤ 4611686018427387903) ∧ v_ = .tuple #[.int .i64 r, .int .i64 e] ∧ C_ = []) := by
 have hbs := bs_len s
 refine TR.mk Try.func71 rfl Try.ntmps71 rfl rfl (fun w_ => ?_)
 refine .seq (.region ?_)
 refine .v (ev_as rfl rfl) rfl ?_
 refine .v (ev_as rfl rfl) rfl ?_
 refine .go idQ (.seq (.region ?_))
 refine .v (ev_as rfl rfl) rfl ?_
 refine .go idQ (.seq (.seq (.region ?_)))
 refine .v (ev_mv rfl rfl) rfl ?_
 refine .v (ev_lens rfl Try.underlying9 rfl) rfl ?_
 refine .v (ev_cmp rfl rfl rfl rfl) rfl ?_
 refine .v (ev_mv rfl rfl) rfl ?_
 refine .w (fun _ => ev_mv rfl rfl) rfl ?_
 refine .w (fun hb => have hp := bT bD hb; ev_ixs rfl Try.underlying9 (lkg rfl hb) rfl (by have _h := hp; omega) (by first | omega | (rw [bs_len]; omega) | decide)) rfl ?_
 refine .w (fun hb => ev_cmp rfl (lkg rfl hb) rfl rfl) rfl ?_
 refine .v (ev_and rfl rfl rfl rfl) rfl ?_
 refine .go idQ ?_
 refine .condI rfl (bA bD bE) (fun h1 => ?_) (fun h1 => ?_)
 ·
  refine .region ?_
  refine .v (ev_as rfl rfl) rfl ?_
  refine .go idQ (.seq (.seq ?_))
  have hsg : sgn (bs s) = 1 := sgn_1 (by rw [bs_len]; assumption)
  refine .region ?_
  refine .v (ev_mv rfl rfl) rfl ?_
  refine .v (ev_mv rfl rfl) rfl ?_
  refine .v (ev_lens rfl Try.underlying9 rfl) rfl ?_
  refine .v (ev_cmp rfl rfl rfl rfl) rfl ?_
  refine .go idQ ?_
  refine .condI rfl bE (fun h2 => ?_) (fun h2 => ?_)
  ·
   refine .seq (.region ?_)
   refine .v (ev_as rfl rfl) rfl ?_
   refine .v (ev_as rfl rfl) rfl ?_
   refine .go idQ ?_
   exact .ret idQ (ret2 Try.results71 rfl rfl .n ⟨0, 11, p1_1 hsg (by rw [bs_len]; omega), (by omega), rfl, rfl⟩)
  refine .skipgo idQ (.seq (.seq (.region ?_)))
  refine .v (ev_mv rfl rfl) rfl ?_
  refine .v (ev_as rfl rfl) rfl ?_
  refine .go idQ (.block ?_)
  refine .loop (X := Int) (fun x => 1 ≤ x ∧ x ≤ s.size ∧ Dg (bs s) 1 x) (fun x => [(0, .string s), (4, .int .i64 1), (5, .int .i64 x)]) (fun x => []) (fun _ => S) (fun _ => wf) (fun x => (s.size + 1 - x).toNat) (fun a_ w_ hs_ hw_ => ⟨1, (by exact ⟨by omega, by omega, Dg.none⟩), hs_.mono (Sub.get (.c rfl (.c rfl (.c rfl .n)))), hw_.keep .n⟩) (fun x ⟨q_0, q_1, q_2⟩ => ?_)
  show SC _ _ _ _ _ ⟨[(0, .string s), (4, .int .i64 1), (5, .int .i64 x)], [], S, wf⟩
  refine .seq (.seq (.region ?_))
  refine .v (ev_mv rfl rfl) rfl ?_
  refine .v (ev_mv rfl rfl) rfl ?_
  refine .v (ev_lens rfl Try.underlying9 rfl) rfl ?_
  refine .v (ev_cmp rfl rfl rfl rfl) rfl ?_
  refine .go idQ ?_
  refine .condI rfl bD (fun h3 => ?_) (fun h3 => ?_)
  ·
   refine .skipgo idQ (.seq (.block (.seq (.region ?_))))
   refine .v (ev_mv rfl rfl) rfl ?_
   refine .v (ev_mv rfl rfl) rfl ?_
   refine .v (ev_ixs rfl Try.underlying9 rfl rfl (by omega) (by first | omega | (rw [bs_len]; omega) | decide)) rfl ?_
   refine .v (ev_cmp rfl rfl rfl rfl) rfl ?_
   refine .v (ev_mv rfl rfl) rfl ?_
   refine .w (fun _ => ev_mv rfl rfl) rfl ?_
   refine .w (fun _ => ev_mv rfl rfl) rfl ?_
   refine .w (fun hb => have hp := bF bD hb; ev_ixs rfl Try.underlying9 (lkg rfl hb) (lkg rfl hb) (by have _h := hp; omega) (by first | omega | (rw [bs_len]; omega) | decide)) rfl ?_
   refine .w (fun hb => ev_cmp rfl (lkg rfl hb) rfl rfl) rfl ?_
   refine .v (ev_or rfl rfl rfl rfl) rfl ?_
   refine .go idQ ?_
   refine .condI rfl (bO bD bD) (fun h4 => ?_) (fun h4 => ?_)
   ·
    refine .seq (.region ?_)
    refine .v (ev_as rfl rfl) rfl ?_
    refine .v (ev_as rfl rfl) rfl ?_
    refine .go idQ ?_
    exact .ret idQ (ret2 Try.results71 rfl rfl .n ⟨0, 11, p1_2 hsg (by rw [bs_len]; omega) (by omega) q_0 (by rw [bs_len]; omega) (by assumption), (by omega), rfl, rfl⟩)
   refine .skipgo idQ (.region ?_)
   refine .v (ev_mv rfl rfl) rfl ?_
   refine .v (ev_add rfl rfl rfl (r := (x + 1)) rfl (by omega) (by omega)) rfl ?_
   refine .v (ev_as rfl rfl) rfl ?_
   exact SP.nil (SQ.roundb (X := Int) (x := (x)) (x + 1) (by exact ⟨by omega, by omega, q_2.next (by assumption)⟩) (by show (_ : Nat) < _; omega) (Sub.get (.c rfl (.c rfl (.c rfl .n)))) (fun w hw => hw.keep .n))
  refine .exit idQ ?_
  refine .seq (.seq ?_)
  have hd_ : Dg (bs s) 1 s.size := by rw [show (s.size : Int) = x by omega]; exact q_2
  refine .region ?_
  refine .v (ev_mv rfl rfl) rfl ?_
  refine .v (ev_mv rfl rfl) rfl ?_
  refine .v (ev_ixs rfl Try.underlying9 rfl rfl (by omega) (by first | omega | (rw [bs_len]; omega) | decide)) rfl ?_
  refine .v (ev_cmp rfl rfl rfl rfl) rfl ?_
  refine .v (ev_mv rfl rfl) rfl ?_
  refine .w (fun _ => ev_mv rfl rfl) rfl ?_
  refine .w (fun hb => ev_scmp rfl (lkg rfl hb) rfl rfl) rfl ?_
  refine .v (ev_and rfl rfl rfl rfl) rfl ?_
  refine .go idQ ?_
  refine .condI rfl (bA bE bV) (fun h5 => ?_) (fun h5 => ?_)
  ·
   refine .seq (.region ?_)
   refine .v (ev_as rfl rfl) rfl ?_
   refine .v (ev_as rfl rfl) rfl ?_
   refine .go idQ ?_
   exact .ret idQ (ret2 Try.results71 rfl rfl .n ⟨0, 11, p1_3 hsg (by rw [bs_len]; omega) (by omega) (by rw [bs_len]; exact hd_) (by have hz_ := h5; exact (by first | exact ⟨hz_.1, str_ne.1 hz_.2⟩ | exact fun h_ => hz_ ⟨h_.1, str_ne.2 h_.2⟩)), (by omega), rfl, rfl⟩)
  refine .skipgo idQ (.seq (.seq ?_))
  have hzn := h5
  refine .region ?_
  refine .v (ev_mv rfl rfl) rfl ?_
  refine .v (ev_lens rfl Try.underlying9 rfl) rfl ?_
  refine .v (ev_mv rfl rfl) rfl ?_
  refine .v (ev_sub rfl rfl rfl (r := ((s.size : Int) - 1)) rfl (by omega) (by omega)) rfl ?_
  refine .v (ev_cmp rfl rfl rfl rfl) rfl ?_
  refine .go idQ ?_
  refine .condI rfl bD (fun h6 => ?_) (fun h6 => ?_)
  ·
   refine .seq (.region ?_)
   refine .v (ev_as rfl rfl) rfl ?_
   refine .v (ev_as rfl rfl) rfl ?_
   refine .go idQ ?_
   exact .ret idQ (ret2 Try.results71 rfl rfl .n ⟨0, 10, p1_4 hsg (by rw [bs_len]; omega) (by omega) (by rw [bs_len]; exact hd_) (by have hz_ := hzn; exact (by first | exact ⟨hz_.1, str_ne.1 hz_.2⟩ | exact fun h_ => hz_ ⟨h_.1, str_ne.2 h_.2⟩)) (by rw [bs_len]; omega), (by omega), rfl, rfl⟩)
  refine .skipgo idQ (.seq (.region ?_))
  refine .v (ev_as rfl rfl) rfl ?_
  refine .go idQ (.seq (.seq (.region ?_)))
  refine .v (ev_mv rfl rfl) rfl ?_
  refine .v (ev_as rfl rfl) rfl ?_
  refine .go idQ (.block ?_)
  refine .loop (X := Int × Int) (fun ⟨k, y⟩ => 1 ≤ k ∧ k ≤ s.size ∧ (0 ≤ y ∧ y < 10 ^ (k - 1).toNat) ∧ decV ((bs s).drop k.toNat) y = decV ((bs s).drop (1 : Int).toNat) 0) (fun ⟨k, y⟩ => [(0, .string s), (4, .int .i64 1), (6, .int .u64 y), (7, .int .i64 k)]) (fun ⟨k, y⟩ => []) (fun _ => S) (fun _ => wf) (fun ⟨k, y⟩ => (s.size + 1 - k).toNat) (fun a_ w_ hs_ hw_ => ⟨⟨1, 0⟩, (by exact ⟨by omega, by omega, ⟨by omega, by simp⟩, rfl⟩), hs_.mono (Sub.get (.c rfl (.c rfl (.c rfl (.c rfl .n))))), hw_.keep .n⟩) (fun ⟨k, y⟩ ⟨t_0, t_1, t_2, t_3⟩ => ?_)
  show SC _ _ _ _ _ ⟨[(0, .string s), (4, .int .i64 1), (6, .int .u64 y), (7, .int .i64 k)], [], S, wf⟩
  refine .seq (.seq (.region ?_))
  refine .v (ev_mv rfl rfl) rfl ?_
  refine .v (ev_mv rfl rfl) rfl ?_
  refine .v (ev_lens rfl Try.underlying9 rfl) rfl ?_
  refine .v (ev_cmp rfl rfl rfl rfl) rfl ?_
  refine .go idQ ?_
  refine .condI rfl bD (fun h7 => ?_) (fun h7 => ?_)
  ·
   refine .skipgo idQ (.seq (.block ?_))
   have hpb := pow_bd t_2.2 (by omega)
   have hdg := hd_ k (by omega) (by omega)
   refine .region ?_
   refine .v (ev_mv rfl rfl) rfl ?_
   refine .v (ev_aru64 rfl rfl rfl (r := (10 * y)) rfl (by omega) (by omega)) rfl ?_
   refine .v (ev_mv rfl rfl) rfl ?_
   refine .v (ev_mv rfl rfl) rfl ?_
   refine .v (ev_ixs rfl Try.underlying9 rfl rfl (by omega) (by first | omega | (rw [bs_len]; omega) | decide)) rfl ?_
   refine .v (ev_aru8 rfl rfl rfl (r := ((gt (bs s) k) - 48)) rfl (by omega) (by omega)) rfl ?_
   refine .v (ev_cv rfl Try.underlying5 Try.underlying125 rfl (wrap_u64_in (by omega) (by omega))) rfl ?_
   refine .v (ev_aru64 rfl rfl rfl (r := ((10 * y) + ((gt (bs s) k) - 48))) rfl (by omega) (by omega)) rfl ?_
   refine .v (ev_as rfl rfl) rfl ?_
   refine .go idQ (.region ?_)
   refine .v (ev_mv rfl rfl) rfl ?_
   refine .v (ev_add rfl rfl rfl (r := (k + 1)) rfl (by omega) (by omega)) rfl ?_
   refine .v (ev_as rfl rfl) rfl ?_
   exact SP.nil (SQ.roundb (X := Int × Int) (x := (k, y)) ⟨(k + 1), ((10 * y) + ((gt (bs s) k) - 48))⟩ (by exact ⟨by omega, by omega, ⟨by omega, pow_next t_0 t_2.2 (by omega)⟩, dec_go (by omega) (by rw [bs_len]; omega) t_3⟩) (by dsimp only; omega) (Sub.get (.c rfl (.c rfl (.c rfl (.c rfl .n))))) (fun w hw => hw.keep .n))
  refine .exit idQ ?_
  refine .seq (.seq (.region ?_))
  refine .v (ev_mv rfl rfl) rfl ?_
  refine .v (ev_cmp rfl rfl rfl rfl) rfl ?_
  refine .go idQ ?_
  refine .condI rfl bD (fun h8 => ?_) (fun h8 => ?_)
  ·
   refine .seq (.region ?_)
   refine .v (ev_as rfl rfl) rfl ?_
   refine .v (ev_as rfl rfl) rfl ?_
   refine .go idQ ?_
   exact .ret idQ (ret2 Try.results71 rfl rfl .n ⟨0, 10, p1_5 hsg (by rw [bs_len]; omega) (by omega) (by rw [bs_len]; exact hd_) (by have hz_ := hzn; exact (by first | exact ⟨hz_.1, str_ne.1 hz_.2⟩ | exact fun h_ => hz_ ⟨h_.1, str_ne.2 h_.2⟩)) (by rw [bs_len]; omega) t_3 (by rw [bs_len]; omega) (by omega), (by omega), rfl, rfl⟩)
  refine .skipgo idQ (.seq (.seq (.region ?_)))
  refine .v (ev_mv rfl rfl) rfl ?_
  refine .v (ev_cmp (r := true) rfl rfl rfl rfl) rfl ?_
  refine .go idQ ?_
  refine .cond_t rfl ?_
  refine .seq (.region ?_)
  refine .v (ev_mv rfl rfl) rfl ?_
  refine .v (ev_cv rfl Try.underlying125 Try.underlying3 rfl (wrap_in (by omega) (by omega))) rfl ?_
  refine .v (ev_neg rfl rfl (by omega) (by omega)) rfl ?_
  refine .v (ev_as rfl rfl) rfl ?_
  refine .v (ev_as rfl rfl) rfl ?_
  refine .go idQ ?_
  exact .ret idQ (ret2 Try.results71 rfl rfl .n ⟨(-y), 0, (by rw [p1_6 hsg (by rw [bs_len]; omega) (by omega) (by rw [bs_len]; exact hd_) (by have hz_ := hzn; exact (by first | exact ⟨hz_.1, str_ne.1 hz_.2⟩ | exact fun h_ => hz_ ⟨h_.1, str_ne.2 h_.2⟩)) (by rw [bs_len]; omega) t_3 (by rw [bs_len]; omega) (by omega)]; rfl), (by omega), rfl, rfl⟩)
 refine .skipgo idQ (.seq (.seq ?_))
 have hsg : sgn (bs s) = 0 := sgn_0 (by rw [bs_len]; assumption)
 refine .region ?_
 refine .v (ev_mv rfl rfl) rfl ?_
 refine .v (ev_mv rfl rfl) rfl ?_
 refine .v (ev_lens rfl Try.underlying9 rfl) rfl ?_
 refine .v (ev_cmp rfl rfl rfl rfl) rfl ?_
 refine .go idQ ?_
 refine .condI rfl bE (fun h9 => ?_) (fun h9 => ?_)
 ·
  refine .seq (.region ?_)
  refine .v (ev_as rfl rfl) rfl ?_
  refine .v (ev_as rfl rfl) rfl ?_
  refine .go idQ ?_
  exact .ret idQ (ret2 Try.results71 rfl rfl .n ⟨0, 11, p1_1 hsg (by rw [bs_len]; omega), (by omega), rfl, rfl⟩)
 refine .skipgo idQ (.seq (.seq (.region ?_)))
 refine .v (ev_mv rfl rfl) rfl ?_
 refine .v (ev_as rfl rfl) rfl ?_
 refine .go idQ (.block ?_)
 refine .loop (X := Int) (fun x => 0 ≤ x ∧ x ≤ s.size ∧ Dg (bs s) 0 x) (fun x => [(0, .string s), (4, .int .i64 0), (5, .int .i64 x)]) (fun x => []) (fun _ => S) (fun _ => wf) (fun x => (s.size + 1 - x).toNat) (fun a_ w_ hs_ hw_ => ⟨0, (by exact ⟨by omega, by omega, Dg.none⟩), hs_.mono (Sub.get (.c rfl (.c rfl (.c rfl .n)))), hw_.keep .n⟩) (fun x ⟨q_0, q_1, q_2⟩ => ?_)
 show SC _ _ _ _ _ ⟨[(0, .string s), (4, .int .i64 0), (5, .int .i64 x)], [], S, wf⟩
 refine .seq (.seq (.region ?_))
 refine .v (ev_mv rfl rfl) rfl ?_
 refine .v (ev_mv rfl rfl) rfl ?_
 refine .v (ev_lens rfl Try.underlying9 rfl) rfl ?_
 refine .v (ev_cmp rfl rfl rfl rfl) rfl ?_
 refine .go idQ ?_
 refine .condI rfl bD (fun h10 => ?_) (fun h10 => ?_)
 ·
  refine .skipgo idQ (.seq (.block (.seq (.region ?_))))
  refine .v (ev_mv rfl rfl) rfl ?_
  refine .v (ev_mv rfl rfl) rfl ?_
  refine .v (ev_ixs rfl Try.underlying9 rfl rfl (by omega) (by first | omega | (rw [bs_len]; omega) | decide)) rfl ?_
  refine .v (ev_cmp rfl rfl rfl rfl) rfl ?_
  refine .v (ev_mv rfl rfl) rfl ?_
  refine .w (fun _ => ev_mv rfl rfl) rfl ?_
  refine .w (fun _ => ev_mv rfl rfl) rfl ?_
  refine .w (fun hb => have hp := bF bD hb; ev_ixs rfl Try.underlying9 (lkg rfl hb) (lkg rfl hb) (by have _h := hp; omega) (by first | omega | (rw [bs_len]; omega) | decide)) rfl ?_
  refine .w (fun hb => ev_cmp rfl (lkg rfl hb) rfl rfl) rfl ?_
  refine .v (ev_or rfl rfl rfl rfl) rfl ?_
  refine .go idQ ?_
  refine .condI rfl (bO bD bD) (fun h11 => ?_) (fun h11 => ?_)
  ·
   refine .seq (.region ?_)
   refine .v (ev_as rfl rfl) rfl ?_
   refine .v (ev_as rfl rfl) rfl ?_
   refine .go idQ ?_
   exact .ret idQ (ret2 Try.results71 rfl rfl .n ⟨0, 11, p1_2 hsg (by rw [bs_len]; omega) (by omega) q_0 (by rw [bs_len]; omega) (by assumption), (by omega), rfl, rfl⟩)
  refine .skipgo idQ (.region ?_)
  refine .v (ev_mv rfl rfl) rfl ?_
  refine .v (ev_add rfl rfl rfl (r := (x + 1)) rfl (by omega) (by omega)) rfl ?_
  refine .v (ev_as rfl rfl) rfl ?_
  exact SP.nil (SQ.roundb (X := Int) (x := (x)) (x + 1) (by exact ⟨by omega, by omega, q_2.next (by assumption)⟩) (by show (_ : Nat) < _; omega) (Sub.get (.c rfl (.c rfl (.c rfl .n)))) (fun w hw => hw.keep .n))
 refine .exit idQ ?_
 refine .seq (.seq ?_)
 have hd_ : Dg (bs s) 0 s.size := by rw [show (s.size : Int) = x by omega]; exact q_2
 refine .region ?_
 refine .v (ev_mv rfl rfl) rfl ?_
 refine .v (ev_mv rfl rfl) rfl ?_
 refine .v (ev_ixs rfl Try.underlying9 rfl rfl (by omega) (by first | omega | (rw [bs_len]; omega) | decide)) rfl ?_
 refine .v (ev_cmp rfl rfl rfl rfl) rfl ?_
 refine .v (ev_mv rfl rfl) rfl ?_
 refine .w (fun _ => ev_mv rfl rfl) rfl ?_
 refine .w (fun hb => ev_scmp rfl (lkg rfl hb) rfl rfl) rfl ?_
 refine .v (ev_and rfl rfl rfl rfl) rfl ?_
 refine .go idQ ?_
 refine .condI rfl (bA bE bV) (fun h12 => ?_) (fun h12 => ?_)
 ·
  refine .seq (.region ?_)
  refine .v (ev_as rfl rfl) rfl ?_
  refine .v (ev_as rfl rfl) rfl ?_
  refine .go idQ ?_
  exact .ret idQ (ret2 Try.results71 rfl rfl .n ⟨0, 11, p1_3 hsg (by rw [bs_len]; omega) (by omega) (by rw [bs_len]; exact hd_) (by have hz_ := h12; exact (by first | exact ⟨hz_.1, str_ne.1 hz_.2⟩ | exact fun h_ => hz_ ⟨h_.1, str_ne.2 h_.2⟩)), (by omega), rfl, rfl⟩)
 refine .skipgo idQ (.seq (.seq ?_))
 have hzn := h12
 refine .region ?_
 refine .v (ev_mv rfl rfl) rfl ?_
 refine .v (ev_lens rfl Try.underlying9 rfl) rfl ?_
 refine .v (ev_mv rfl rfl) rfl ?_
 refine .v (ev_sub rfl rfl rfl (r := ((s.size : Int) - 0)) rfl (by omega) (by omega)) rfl ?_
 refine .v (ev_cmp rfl rfl rfl rfl) rfl ?_
 refine .go idQ ?_
 refine .condI rfl bD (fun h13 => ?_) (fun h13 => ?_)
 ·
  refine .seq (.region ?_)
  refine .v (ev_as rfl rfl) rfl ?_
  refine .v (ev_as rfl rfl) rfl ?_
  refine .go idQ ?_
  exact .ret idQ (ret2 Try.results71 rfl rfl .n ⟨0, 10, p1_4 hsg (by rw [bs_len]; omega) (by omega) (by rw [bs_len]; exact hd_) (by have hz_ := hzn; exact (by first | exact ⟨hz_.1, str_ne.1 hz_.2⟩ | exact fun h_ => hz_ ⟨h_.1, str_ne.2 h_.2⟩)) (by rw [bs_len]; omega), (by omega), rfl, rfl⟩)
 refine .skipgo idQ (.seq (.region ?_))
 refine .v (ev_as rfl rfl) rfl ?_
 refine .go idQ (.seq (.seq (.region ?_)))
 refine .v (ev_mv rfl rfl) rfl ?_
 refine .v (ev_as rfl rfl) rfl ?_
 refine .go idQ (.block ?_)
 refine .loop (X := Int × Int) (fun ⟨k, y⟩ => 0 ≤ k ∧ k ≤ s.size ∧ (0 ≤ y ∧ y < 10 ^ (k - 0).toNat) ∧ decV ((bs s).drop k.toNat) y = decV ((bs s).drop (0 : Int).toNat) 0) (fun ⟨k, y⟩ => [(0, .string s), (4, .int .i64 0), (6, .int .u64 y), (7, .int .i64 k)]) (fun ⟨k, y⟩ => []) (fun _ => S) (fun _ => wf) (fun ⟨k, y⟩ => (s.size + 1 - k).toNat) (fun a_ w_ hs_ hw_ => ⟨⟨0, 0⟩, (by exact ⟨by omega, by omega, ⟨by omega, by simp⟩, rfl⟩), hs_.mono (Sub.get (.c rfl (.c rfl (.c rfl (.c rfl .n))))), hw_.keep .n⟩) (fun ⟨k, y⟩ ⟨t_0, t_1, t_2, t_3⟩ => ?_)
 show SC _ _ _ _ _ ⟨[(0, .string s), (4, .int .i64 0), (6, .int .u64 y), (7, .int .i64 k)], [], S, wf⟩
 refine .seq (.seq (.region ?_))
 refine .v (ev_mv rfl rfl) rfl ?_
 refine .v (ev_mv rfl rfl) rfl ?_
 refine .v (ev_lens rfl Try.underlying9 rfl) rfl ?_
 refine .v (ev_cmp rfl rfl rfl rfl) rfl ?_
 refine .go idQ ?_
 refine .condI rfl bD (fun h14 => ?_) (fun h14 => ?_)
 ·
  refine .skipgo idQ (.seq (.block ?_))
  have hpb := pow_bd t_2.2 (by omega)
  have hdg := hd_ k (by omega) (by omega)
  refine .region ?_
  refine .v (ev_mv rfl rfl) rfl ?_
  refine .v (ev_aru64 rfl rfl rfl (r := (10 * y)) rfl (by omega) (by omega)) rfl ?_
  refine .v (ev_mv rfl rfl) rfl ?_
  refine .v (ev_mv rfl rfl) rfl ?_
  refine .v (ev_ixs rfl Try.underlying9 rfl rfl (by omega) (by first | omega | (rw [bs_len]; omega) | decide)) rfl ?_
  refine .v (ev_aru8 rfl rfl rfl (r := ((gt (bs s) k) - 48)) rfl (by omega) (by omega)) rfl ?_
  refine .v (ev_cv rfl Try.underlying5 Try.underlying125 rfl (wrap_u64_in (by omega) (by omega))) rfl ?_
  refine .v (ev_aru64 rfl rfl rfl (r := ((10 * y) + ((gt (bs s) k) - 48))) rfl (by omega) (by omega)) rfl ?_
  refine .v (ev_as rfl rfl) rfl ?_
  refine .go idQ (.region ?_)
  refine .v (ev_mv rfl rfl) rfl ?_
  refine .v (ev_add rfl rfl rfl (r := (k + 1)) rfl (by omega) (by omega)) rfl ?_
  refine .v (ev_as rfl rfl) rfl ?_
  exact SP.nil (SQ.roundb (X := Int × Int) (x := (k, y)) ⟨(k + 1), ((10 * y) + ((gt (bs s) k) - 48))⟩ (by exact ⟨by omega, by omega, ⟨by omega, pow_next t_0 t_2.2 (by omega)⟩, dec_go (by omega) (by rw [bs_len]; omega) t_3⟩) (by dsimp only; omega) (Sub.get (.c rfl (.c rfl (.c rfl (.c rfl .n))))) (fun w hw => hw.keep .n))
 refine .exit idQ ?_
 refine .seq (.seq (.region ?_))
 refine .v (ev_mv rfl rfl) rfl ?_
 refine .v (ev_cmp rfl rfl rfl rfl) rfl ?_
 refine .go idQ ?_
 refine .condI rfl bD (fun h15 => ?_) (fun h15 => ?_)
 ·
  refine .seq (.region ?_)
  refine .v (ev_as rfl rfl) rfl ?_
  refine .v (ev_as rfl rfl) rfl ?_
  refine .go idQ ?_
  exact .ret idQ (ret2 Try.results71 rfl rfl .n ⟨0, 10, p1_5 hsg (by rw [bs_len]; omega) (by omega) (by rw [bs_len]; exact hd_) (by have hz_ := hzn; exact (by first | exact ⟨hz_.1, str_ne.1 hz_.2⟩ | exact fun h_ => hz_ ⟨h_.1, str_ne.2 h_.2⟩)) (by rw [bs_len]; omega) t_3 (by rw [bs_len]; omega) (by omega), (by omega), rfl, rfl⟩)
 refine .skipgo idQ (.seq (.seq (.region ?_)))
 refine .v (ev_mv rfl rfl) rfl ?_
 refine .v (ev_cmp (r := false) rfl rfl rfl rfl) rfl ?_
 refine .go idQ ?_
 refine .cond_f rfl ?_
 refine .skipgo idQ (.seq (.region ?_))
 refine .v (ev_mv rfl rfl) rfl ?_
 refine .v (ev_cv rfl Try.underlying125 Try.underlying3 rfl (wrap_in (by omega) (by omega))) rfl ?_
 refine .v (ev_as rfl rfl) rfl ?_
 refine .v (ev_as rfl rfl) rfl ?_
 refine .go idQ ?_
 exact .ret idQ (ret2 Try.results71 rfl rfl .n ⟨y, 0, (by rw [p1_6 hsg (by rw [bs_len]; omega) (by omega) (by rw [bs_len]; exact hd_) (by have hz_ := hzn; exact (by first | exact ⟨hz_.1, str_ne.1 hz_.2⟩ | exact fun h_ => hz_ ⟨h_.1, str_ne.2 h_.2⟩)) (by rw [bs_len]; omega) t_3 (by rw [bs_len]; omega) (by omega)]; rfl), (by omega), rfl, rfl⟩)
theorem number_ (g : Nat) (A : Option Addr) (n : Nat) (c : Nat) (b : List Int) (i : Int) (bad : Int) (pos : Int) (v : Value) (S : Nat → Prop) (wf : World) (hA : Fr eY S wf A b) (hn : b.length = n) (hN : n ≤ 65536) (hr : ∀ x ∈ b, isB x) (hcap : n ≤ c) (hi : 0 ≤ i ∧ i ≤ 100000) (hi2 : i < n) (hnb : numB (gt b i)) :
  TR0 Try.prog 58 [.pointer (some ⟨g, 0, none⟩)] [cel g [.slice A n c, .int .i64 i, .int .i64 bad, .int .i64 pos, v] 86] S wf (fun v_ C_ => ∃ (r : Int) (i2 : Int) (bad2 : Int) (pos2 : Int), (r = numberF b (LS.mk i bad pos)) ∧ ((LS.mk i2 bad2 pos2) = numberS b (LS.mk i bad pos)) ∧ ((i + 1 ≤ i2 ∧ i2 ≤ n)) ∧ (-4611686018427387903 ≤ r ∧ r ≤ 4611686018427387903) ∧ v_ = .int .i64 r ∧ C_ = [cel g [.slice A n c, .int .i64 i2, .int .i64 bad2, .int .i64 pos2, v] 86]) := by
 have hla := hA.len
 refine TR.mk Try.func58 rfl Try.ntmps58 rfl rfl (fun w_ => ?_)
 refine .seq (.region ?_)
 refine .v (ev_as rfl rfl) rfl ?_
 refine .go idQ (.seq (.region ?_))
 refine .v (ev_mv rfl rfl) rfl ?_
 refine .v (ev_nil rfl rfl) rfl ?_
 refine .v (ev_fa rfl fo86_1 rfl (r := 1) rfl) rfl ?_
 refine .v (ev_ld1 rfl ty3 rfl (At.own1 0 rfl rfl)) rfl ?_
 refine .v (ev_as rfl rfl) rfl ?_
 refine .go idQ (.seq (.block ?_))
 refine .loop (X := Int) (fun x => 0 ≤ x ∧ (i ≤ x ∧ x ≤ n) ∧ x + numC (b.drop x.toNat) = i + numC (b.drop i.toNat)) (fun x => [(0, .pointer (some ⟨g, 0, none⟩)), (3, .int .i64 i)]) (fun x => [cel g [.slice A n c, .int .i64 x, .int .i64 bad, .int .i64 pos, v] 86]) (fun _ => S) (fun _ => wf) (fun x => (n + 1 - x).toNat) (fun a_ w_ hs_ hw_ => ⟨i, (by exact ⟨by omega, by omega, rfl⟩), hs_.mono (Sub.get (.c rfl (.c rfl .n))), hw_.keep (.c .h .n)⟩) (fun x ⟨q_0, q_1, q_2⟩ => ?_)
 show SC _ _ _ _ _ ⟨[(0, .pointer (some ⟨g, 0, none⟩)), (3, .int .i64 i)], [cel g [.slice A n c, .int .i64 x, .int .i64 bad, .int .i64 pos, v] 86], S, wf⟩
 refine .seq (.seq ?_)
 refine SC.draw mo [] [] .n (fun _ _ _ c hc => by cases hc) (fun wf_1 hl_1 hx_1 hR_1 => ?_)
 refine SR.k 0 rfl (by kernel_rfl) rfl (ev_mv rfl rfl) ?_
 refine SR.k 1 rfl (by kernel_rfl) rfl (ev_nil rfl rfl) ?_
 refine SR.k 2 rfl (by kernel_rfl) rfl (ev_fa rfl fo86_1 rfl (r := 1) rfl) ?_
 refine SR.k 3 rfl (by kernel_rfl) rfl (ev_ld1 rfl ty3 rfl (At.d (At.lent hR_1 0 rfl rfl))) ?_
 refine SR.k 4 rfl (by kernel_rfl) rfl (ev_mv rfl rfl) ?_
 refine SR.k 5 rfl (by kernel_rfl) rfl (ev_nil rfl rfl) ?_
 refine SR.k 6 rfl (by kernel_rfl) rfl (ev_fa rfl fo86_0 rfl (r := 0) rfl) ?_
 refine SR.k 7 rfl (by kernel_rfl) rfl (ev_ld1 rfl ty36 rfl (At.d (At.lent hR_1 0 rfl rfl))) ?_
 refine SR.k 8 rfl (by kernel_rfl) rfl (ev_len rfl Try.underlying36 rfl) ?_
 refine SR.k 9 rfl (by kernel_rfl) rfl (ev_cmp rfl rfl rfl rfl) ?_
 refine SR.fin (by kernel_rfl) hl_1 hx_1 hR_1 .n ?_
 refine SQ.go idQ ?_
 refine .condI rfl bD (fun h2 => ?_) (fun h2 => ?_)
 ·
  refine .skipgo idQ (.block (.seq ?_))
  refine SC.draw mo [] [] .n (fun _ _ _ c hc => by cases hc) (fun wf_3 hl_3 hx_3 hR_3 => ?_)
  refine SR.k 0 rfl (by kernel_rfl) rfl (ev_mv rfl rfl) ?_
  refine SR.k 1 rfl (by kernel_rfl) rfl (ev_nil rfl rfl) ?_
  refine SR.k 2 rfl (by kernel_rfl) rfl (ev_fa rfl fo86_0 rfl (r := 0) rfl) ?_
  refine SR.k 3 rfl (by kernel_rfl) rfl (ev_ld1 rfl ty36 rfl (At.d (At.lent hR_3 0 rfl rfl))) ?_
  refine SR.k 4 rfl (by kernel_rfl) rfl (ev_mv rfl rfl) ?_
  refine SR.k 5 rfl (by kernel_rfl) rfl (ev_nil rfl rfl) ?_
  refine SR.k 6 rfl (by kernel_rfl) rfl (ev_fa rfl fo86_1 rfl (r := 1) rfl) ?_
  refine SR.k 7 rfl (by kernel_rfl) rfl (ev_ld1 rfl ty3 rfl (At.d (At.lent hR_3 0 rfl rfl))) ?_
  refine SR.k 8 rfl (by kernel_rfl) rfl (ev_ix rfl Try.underlying36 ty5 rfl rfl (by omega) (by omega) (fun _ _ => Fr.adr (i := x) (Fr.ext hA hx_3) (by omega) (by omega))) ?_
  refine SR.k 9 rfl (by kernel_rfl) rfl (ev_ld1 rfl ty5 rfl (At.elem1 (At.d (Fr.el (i := x) (Fr.ext hA hx_3) (by omega) (by omega))) 0 rfl)) ?_
  refine SR.k 10 rfl (by kernel_rfl) rfl (ev_as rfl rfl) ?_
  refine SR.fin (by kernel_rfl) hl_3 hx_3 hR_3 .n ?_
  refine SQ.go idQ ?_
  refine .seq (.seq (.region ?_))
  refine .v (ev_mv rfl rfl) rfl ?_
  refine .v (ev_cmp rfl rfl rfl rfl) rfl ?_
  refine .v (ev_mv rfl rfl) rfl ?_
  refine .w (fun _ => ev_mv rfl rfl) rfl ?_
  refine .w (fun hb => ev_cmp rfl (lkg rfl hb) rfl rfl) rfl ?_
  refine .v (ev_or rfl rfl rfl rfl) rfl ?_
  refine .v (ev_mv rfl rfl) rfl ?_
  refine .w (fun _ => ev_mv rfl rfl) rfl ?_
  refine .w (fun hb => ev_cmp rfl (lkg rfl hb) rfl rfl) rfl ?_
  refine .v (ev_and rfl rfl rfl rfl) rfl ?_
  refine .v (ev_mv rfl rfl) rfl ?_
  refine .w (fun _ => ev_mv rfl rfl) rfl ?_
  refine .w (fun hb => ev_cmp rfl (lkg rfl hb) rfl rfl) rfl ?_
  refine .v (ev_and rfl rfl rfl rfl) rfl ?_
  refine .v (ev_mv rfl rfl) rfl ?_
  refine .w (fun _ => ev_mv rfl rfl) rfl ?_
  refine .w (fun hb => ev_cmp rfl (lkg rfl hb) rfl rfl) rfl ?_
  refine .v (ev_and rfl rfl rfl rfl) rfl ?_
  refine .v (ev_mv rfl rfl) rfl ?_
  refine .w (fun _ => ev_mv rfl rfl) rfl ?_
  refine .w (fun hb => ev_cmp rfl (lkg rfl hb) rfl rfl) rfl ?_
  refine .v (ev_and rfl rfl rfl rfl) rfl ?_
  refine .v (ev_mv rfl rfl) rfl ?_
  refine .w (fun _ => ev_mv rfl rfl) rfl ?_
  refine .w (fun hb => ev_cmp rfl (lkg rfl hb) rfl rfl) rfl ?_
  refine .v (ev_and rfl rfl rfl rfl) rfl ?_
  refine .go idQ ?_
  refine .condI rfl (bA (bA (bA (bA (bA (bO bD bD) bNE) bNE) bNE) bNE) bNE) (fun h4 => ?_) (fun h4 => ?_)
  ·
   refine .exit idQ ?_
   refine .seq ?_
   have hE : (LS.mk x bad pos) = numEnd b (LS.mk i bad pos) := num_end q_0 q_2 (fun _ h_ => h_ h4)
   refine SC.draw mo [] [] .n (fun _ _ _ c hc => by cases hc) (fun wf_5 hl_5 hx_5 hR_5 => ?_)
   refine SR.k 0 rfl (by kernel_rfl) rfl (ev_mv rfl rfl) ?_
   refine SR.k 1 rfl (by kernel_rfl) rfl (ev_nil rfl rfl) ?_
   refine SR.k 2 rfl (by kernel_rfl) rfl (ev_fa rfl fo86_0 rfl (r := 0) rfl) ?_
   refine SR.k 3 rfl (by kernel_rfl) rfl (ev_ld1 rfl ty36 rfl (At.d (At.lent hR_5 0 rfl rfl))) ?_
   refine SR.k 4 rfl (by kernel_rfl) rfl (ev_mv rfl rfl) ?_
   refine SR.k 5 rfl (by kernel_rfl) rfl (ev_mv rfl rfl) ?_
   refine SR.k 6 rfl (by kernel_rfl) rfl (ev_nil rfl rfl) ?_
   refine SR.k 7 rfl (by kernel_rfl) rfl (ev_fa rfl fo86_1 rfl (r := 1) rfl) ?_
   refine SR.k 8 rfl (by kernel_rfl) rfl (ev_ld1 rfl ty3 rfl (At.d (At.lent hR_5 0 rfl rfl))) ?_
   refine SR.k 9 rfl (by kernel_rfl) rfl (ev_slc rfl Try.underlying36 ty5 rfl (.s rfl (by omega)) (.s rfl (by omega)) (by omega) (by omega)) ?_
   refine SR.k 10 rfl (by kernel_rfl) rfl (ev_b2s (l := ((b.take (x).toNat).drop (i).toNat)) rfl Try.underlying36 Try.underlying5 Try.underlying9 rfl (by first | rfl | assumption | omega | ((try simp only [List.length_take, List.length_drop, List.length_append, List.length_cons, List.length_nil]) <;> omega)) (Src.d (Fr.flat (Fr.view (Fr.ext hA hx_5) (i).toNat (x).toNat 1 rfl (by omega))))) ?_
   refine SR.one (j := 11) (by kernel_rfl) rfl (st_call00 rfl rfl rfl rfl hbd71 rfl .n (parse1_ (mkS ((b.take (x).toNat).drop (i).toNat)) _ _ (by show (mkS _).size ≤ _; rw [mkS_size, List.length_drop, List.length_take]; omega)) (by intro v C h; obtain ⟨_, _, _, _, rfl, rfl⟩ := h; rfl) (fun v_q8 q8 => ⟨tt0, ?_⟩))
   obtain ⟨r6, e7, p9, p10, rfl, -⟩ := q8
   refine SR.k 12 rfl (by kernel_rfl) rfl (ev_mv rfl rfl) ?_
   refine SR.k 13 rfl (by kernel_rfl) rfl (ev_ext rfl rfl rfl) ?_
   refine SR.k 14 rfl (by kernel_rfl) rfl (ev_ext rfl rfl rfl) ?_
   refine SR.k 15 rfl (by kernel_rfl) rfl (ev_as rfl rfl) ?_
   refine SR.k 16 rfl (by kernel_rfl) rfl (ev_as rfl rfl) ?_
   refine SR.fin (by kernel_rfl) hl_5 hx_5 hR_5 .n ?_
   refine SQ.go idQ ?_
   refine .seq (.seq (.region ?_))
   refine .v (ev_mv rfl rfl) rfl ?_
   refine .v (ev_cmp rfl rfl rfl rfl) rfl ?_
   refine .go idQ ?_
   refine .condI rfl bNE (fun h11 => ?_) (fun h11 => ?_)
   ·
    refine .region ?_
    refine .v (ev_mv rfl rfl) rfl ?_
    refine .v (ev_mv rfl rfl) rfl ?_
    refine .cons (st_call0 rfl rfl rfl rfl hbd38 rfl (.c .h .n) (no_ g A n c x bad pos v i 25 _ _) (fun v_q14 C_q14 q14 => ?_))
    obtain ⟨bad212, pos213, p15, rfl, rfl⟩ := q14
    show SP _ _ _ _ _ _ ⟨_, _ :: _, _, _⟩
    refine .go idQ (.seq (.region ?_))
    refine .v (ev_mv rfl rfl) rfl ?_
    refine .v (ev_as rfl rfl) rfl ?_
    refine .go idQ ?_
    exact .ret idQ (ret1 Try.results58 rfl (.c .h .n) ⟨r6, x, bad212, pos213, (number_of (s := mkS ((b.take x.toNat).drop i.toNat)) hE (bs_mkS (rng_drop (rng_take hr _) _)) p9).1, (by rw [(number_of (s := mkS ((b.take x.toNat).drop i.toNat)) hE (bs_mkS (rng_drop (rng_take hr _) _)) p9).2, if_pos (by assumption)]; exact noF_eq p15), (by have h_ := num_pos hE (by omega) (by omega) hnb; omega), p10, rfl, rfl⟩)
   refine .skipgo idQ (.seq (.region ?_))
   refine .v (ev_mv rfl rfl) rfl ?_
   refine .v (ev_as rfl rfl) rfl ?_
   refine .go idQ ?_
   exact .ret idQ (ret1 Try.results58 rfl (.c .h .n) ⟨r6, x, bad, pos, (number_of (s := mkS ((b.take x.toNat).drop i.toNat)) hE (bs_mkS (rng_drop (rng_take hr _) _)) p9).1, (by rw [(number_of (s := mkS ((b.take x.toNat).drop i.toNat)) hE (bs_mkS (rng_drop (rng_take hr _) _)) p9).2, if_neg (by assumption)]), (by have h_ := num_pos hE (by omega) (by omega) hnb; omega), p10, rfl, rfl⟩)
  refine .skipgo idQ (.region ?_)
  refine .v (ev_mv rfl rfl) rfl ?_
  refine .v (ev_mv rfl rfl) rfl ?_
  refine .v (ev_nil rfl rfl) rfl ?_
  refine .v (ev_fa rfl fo86_1 rfl (r := 1) rfl) rfl ?_
  refine .v (ev_ld1 rfl ty3 rfl (At.own1 0 rfl rfl)) rfl ?_
  refine .v (ev_add rfl rfl rfl (r := (x + 1)) rfl (by omega) (by omega)) rfl ?_
  refine .v (ev_nil rfl rfl) rfl ?_
  refine .v (ev_fa rfl fo86_1 rfl (r := 1) rfl) rfl ?_
  refine .cons (st_store1 rfl rfl rfl ty3 rfl rfl rfl .h (.t .h) ?_)
  exact SP.nil (SQ.roundb (X := Int) (x := (x)) (x + 1) (by exact ⟨by omega, by omega, num_go q_0 (by omega) (by unfold SX.numB; assumption) q_2⟩) (by show (_ : Nat) < _; omega) (Sub.get (.c rfl (.c rfl .n))) (fun w hw => hw.keep (.c .h .n)))
 refine .exit idQ ?_
 refine .seq ?_
 have hE : (LS.mk x bad pos) = numEnd b (LS.mk i bad pos) := num_end q_0 q_2 (fun h_ => by omega)
 refine SC.draw mo [] [] .n (fun _ _ _ c hc => by cases hc) (fun wf_16 hl_16 hx_16 hR_16 => ?_)
 refine SR.k 0 rfl (by kernel_rfl) rfl (ev_mv rfl rfl) ?_
 refine SR.k 1 rfl (by kernel_rfl) rfl (ev_nil rfl rfl) ?_
 refine SR.k 2 rfl (by kernel_rfl) rfl (ev_fa rfl fo86_0 rfl (r := 0) rfl) ?_
 refine SR.k 3 rfl (by kernel_rfl) rfl (ev_ld1 rfl ty36 rfl (At.d (At.lent hR_16 0 rfl rfl))) ?_
 refine SR.k 4 rfl (by kernel_rfl) rfl (ev_mv rfl rfl) ?_
 refine SR.k 5 rfl (by kernel_rfl) rfl (ev_mv rfl rfl) ?_
 refine SR.k 6 rfl (by kernel_rfl) rfl (ev_nil rfl rfl) ?_
 refine SR.k 7 rfl (by kernel_rfl) rfl (ev_fa rfl fo86_1 rfl (r := 1) rfl) ?_
 refine SR.k 8 rfl (by kernel_rfl) rfl (ev_ld1 rfl ty3 rfl (At.d (At.lent hR_16 0 rfl rfl))) ?_
 refine SR.k 9 rfl (by kernel_rfl) rfl (ev_slc rfl Try.underlying36 ty5 rfl (.s rfl (by omega)) (.s rfl (by omega)) (by omega) (by omega)) ?_
 refine SR.k 10 rfl (by kernel_rfl) rfl (ev_b2s (l := ((b.take (x).toNat).drop (i).toNat)) rfl Try.underlying36 Try.underlying5 Try.underlying9 rfl (by first | rfl | assumption | omega | ((try simp only [List.length_take, List.length_drop, List.length_append, List.length_cons, List.length_nil]) <;> omega)) (Src.d (Fr.flat (Fr.view (Fr.ext hA hx_16) (i).toNat (x).toNat 1 rfl (by omega))))) ?_
 refine SR.one (j := 11) (by kernel_rfl) rfl (st_call00 rfl rfl rfl rfl hbd71 rfl .n (parse1_ (mkS ((b.take (x).toNat).drop (i).toNat)) _ _ (by show (mkS _).size ≤ _; rw [mkS_size, List.length_drop, List.length_take]; omega)) (by intro v C h; obtain ⟨_, _, _, _, rfl, rfl⟩ := h; rfl) (fun v_q19 q19 => ⟨tt0, ?_⟩))
 obtain ⟨r17, e18, p20, p21, rfl, -⟩ := q19
 refine SR.k 12 rfl (by kernel_rfl) rfl (ev_mv rfl rfl) ?_
 refine SR.k 13 rfl (by kernel_rfl) rfl (ev_ext rfl rfl rfl) ?_
 refine SR.k 14 rfl (by kernel_rfl) rfl (ev_ext rfl rfl rfl) ?_
 refine SR.k 15 rfl (by kernel_rfl) rfl (ev_as rfl rfl) ?_
 refine SR.k 16 rfl (by kernel_rfl) rfl (ev_as rfl rfl) ?_
 refine SR.fin (by kernel_rfl) hl_16 hx_16 hR_16 .n ?_
 refine SQ.go idQ ?_
 refine .seq (.seq (.region ?_))
 refine .v (ev_mv rfl rfl) rfl ?_
 refine .v (ev_cmp rfl rfl rfl rfl) rfl ?_
 refine .go idQ ?_
 refine .condI rfl bNE (fun h22 => ?_) (fun h22 => ?_)
 ·
  refine .region ?_
  refine .v (ev_mv rfl rfl) rfl ?_
  refine .v (ev_mv rfl rfl) rfl ?_
  refine .cons (st_call0 rfl rfl rfl rfl hbd38 rfl (.c .h .n) (no_ g A n c x bad pos v i 25 _ _) (fun v_q25 C_q25 q25 => ?_))
  obtain ⟨bad223, pos224, p26, rfl, rfl⟩ := q25
  show SP _ _ _ _ _ _ ⟨_, _ :: _, _, _⟩
  refine .go idQ (.seq (.region ?_))
  refine .v (ev_mv rfl rfl) rfl ?_
  refine .v (ev_as rfl rfl) rfl ?_
  refine .go idQ ?_
  exact .ret idQ (ret1 Try.results58 rfl (.c .h .n) ⟨r17, x, bad223, pos224, (number_of (s := mkS ((b.take x.toNat).drop i.toNat)) hE (bs_mkS (rng_drop (rng_take hr _) _)) p20).1, (by rw [(number_of (s := mkS ((b.take x.toNat).drop i.toNat)) hE (bs_mkS (rng_drop (rng_take hr _) _)) p20).2, if_pos (by assumption)]; exact noF_eq p26), (by have h_ := num_pos hE (by omega) (by omega) hnb; omega), p21, rfl, rfl⟩)
 refine .skipgo idQ (.seq (.region ?_))
 refine .v (ev_mv rfl rfl) rfl ?_
 refine .v (ev_as rfl rfl) rfl ?_
 refine .go idQ ?_
 exact .ret idQ (ret1 Try.results58 rfl (.c .h .n) ⟨r17, x, bad, pos, (number_of (s := mkS ((b.take x.toNat).drop i.toNat)) hE (bs_mkS (rng_drop (rng_take hr _) _)) p20).1, (by rw [(number_of (s := mkS ((b.take x.toNat).drop i.toNat)) hE (bs_mkS (rng_drop (rng_take hr _) _)) p20).2, if_neg (by assumption)]), (by have h_ := num_pos hE (by omega) (by omega) hnb; omega), p21, rfl, rfl⟩)
theorem name_ (g : Nat) (A : Option Addr) (n : Nat) (c : Nat) (b : List Int) (i : Int) (bad : Int) (pos : Int) (v : Value) (h : Nat) (kd : Int) (NV : Value) (KV : Value) (X : List ByteArray) (S : Nat → Prop) (wf : World) (hA : Fr eY S wf A b) (hn : b.length = n) (hN : n ≤ 65536) (hr : ∀ x ∈ b, isB x) (hcap : n ≤ c) (hi : 0 ≤ i ∧ i ≤ n) (hb0 : bad = 0) (hXl : X.length ≤ 100000) (hX : ∀ y ∈ X, y.size ≤ 200000) :
  TR0 Try.prog 72 [.pointer (some ⟨g, 0, none⟩), .pointer (some ⟨h, 0, none⟩)] [cel g [.slice A n c, .int .i64 i, .int .i64 bad, .int .i64 pos, v] 86, cel h [.int .i64 kd, .bool false, .int .i64 0, .string ⟨#[]⟩, NV, KV] 90, rw_ eS 9 (NV) X] S wf (fun v_ C_ => ∃ (i2 : Int) (bad2 : Int) (pos2 : Int) (NV2 : Value) (X2 : List ByteArray), (((LS.mk i2 bad2 pos2), X2) = nameS b X (LS.mk i bad pos)) ∧ ((i ≤ i2 ∧ i2 ≤ n + 2 ∧ (bad2 = 0 → i2 ≤ n))) ∧ (X2.length ≤ X.length + 1) ∧ (∀ y ∈ X2, y.size ≤ 200000) ∧ v_ = .tuple #[] ∧ C_ = [cel g [.slice A n c, .int .i64 i2, .int .i64 bad2, .int .i64 pos2, v] 86, cel h [.int .i64 kd, .bool false, .int .i64 0, .string ⟨#[]⟩, NV2, KV] 90, rw_ eS 9 (NV2) X2]) := by
 have hla := hA.len
 refine TR.mk Try.func72 rfl Try.ntmps72 rfl rfl (fun w_ => ?_)
 refine .seq (.region ?_)
 refine .v (ev_mv rfl rfl) rfl ?_
 refine .cons (st_call0 rfl rfl rfl rfl hbd54 rfl (.c .h .n) (next_ g A n c b i bad pos v _ _ hA (by first | omega | simp only [LL] <;> omega | simp <;> omega) (by omega) (by omega) (by omega) (by omega)) (fun v_q5 C_q5 q5 => ?_))
 obtain ⟨r1, i22, bad23, pos24, p6, p7, p8, p9, rfl, rfl⟩ := q5
 show SP _ _ _ _ _ _ ⟨_, _ :: _, _, _⟩
 refine .v (ev_as rfl rfl) rfl ?_
 refine .go idQ (.seq (.region ?_))
 refine .v (ev_mv rfl rfl) rfl ?_
 refine .v (ev_nil rfl rfl) rfl ?_
 refine .v (ev_fa rfl fo86_1 rfl (r := 1) rfl) rfl ?_
 refine .v (ev_ld1 rfl ty3 rfl (At.own1 0 rfl rfl)) rfl ?_
 refine .v (ev_as rfl rfl) rfl ?_
 refine .go idQ (.seq (.seq (.region ?_)))
 refine .v (ev_mv rfl rfl) rfl ?_
 refine .v (ev_cmp rfl rfl rfl rfl) rfl ?_
 refine .v (ev_mv rfl rfl) rfl ?_
 refine .w (fun _ => ev_mv rfl rfl) rfl ?_
 refine .w (fun hb => ev_cmp rfl (lkg rfl hb) rfl rfl) rfl ?_
 refine .v (ev_and rfl rfl rfl rfl) rfl ?_
 refine .go idQ ?_
 refine .condI rfl (bA bD bNE) (fun h10 => ?_) (fun h10 => ?_)
 ·
  refine .region ?_
  refine .v (ev_mv rfl rfl) rfl ?_
  refine .v (ev_mv rfl rfl) rfl ?_
  refine .cons (st_call0 rfl rfl rfl rfl hbd38 rfl (.c .h .n) (no_ g A n c i22 bad23 pos24 v i22 22 _ _) (fun v_q13 C_q13 q13 => ?_))
  obtain ⟨bad211, pos212, p14, rfl, rfl⟩ := q13
  show SP _ _ _ _ _ _ ⟨_, _ :: _, _, _⟩
  refine .go idQ (.seq (.seq (.region ?_)))
  refine .v (ev_mv rfl rfl) rfl ?_
  refine .v (ev_nil rfl rfl) rfl ?_
  refine .v (ev_fa rfl fo86_2 rfl (r := 2) rfl) rfl ?_
  refine .v (ev_ld1 rfl ty3 rfl (At.own1 0 rfl rfl)) rfl ?_
  refine .v (ev_cmp rfl rfl rfl rfl) rfl ?_
  refine .go idQ ?_
  refine .condI rfl bNE (fun h15 => ?_) (fun h15 => ?_)
  ·
   exact .ret idQ (ret0 Try.results72 (.c .h (.c .h (.c .h .n))) ⟨i22, bad211, pos212, NV, X, name_1 p6 p7 (by omega) (by omega) p14, (by omega), (by omega), hX, rfl, rfl⟩)
  exfalso; omega
 refine .skipgo idQ (.seq (.seq (.region ?_)))
 refine .v (ev_mv rfl rfl) rfl ?_
 refine .v (ev_nil rfl rfl) rfl ?_
 refine .v (ev_fa rfl fo86_2 rfl (r := 2) rfl) rfl ?_
 refine .v (ev_ld1 rfl ty3 rfl (At.own1 0 rfl rfl)) rfl ?_
 refine .v (ev_cmp rfl rfl rfl rfl) rfl ?_
 refine .go idQ ?_
 refine .condI rfl bNE (fun h16 => ?_) (fun h16 => ?_)
 ·
  exact .ret idQ (ret0 Try.results72 (.c .h (.c .h (.c .h .n))) ⟨i22, bad23, pos24, NV, X, name_2 p6 p7 (by omega) (by omega), (by omega), (by omega), hX, rfl, rfl⟩)
 refine .skipgo idQ (.seq (.region ?_))
 refine .v (ev_mv rfl rfl) rfl ?_
 refine .cons (st_call0 rfl rfl rfl rfl hbd57 rfl (.c .h .n) (text2_ g A n c b i22 bad23 pos24 v _ _ hA (by first | omega | simp only [LL] <;> omega | simp <;> omega) (by omega) (by omega) (by omega) (by omega) (by omega) (by omega)) (fun v_q21 C_q21 q21 => ?_))
 obtain ⟨s17, i218, bad219, pos220, p22, p23, p24, p25, rfl, rfl⟩ := q21
 show SP _ _ _ _ _ _ ⟨_, _ :: _, _, _⟩
 have hsz := p25
 refine .v (ev_as rfl rfl) rfl ?_
 refine .go idQ (.seq (.seq ?_))
 refine .know (row_len 2 rfl) (fun hv28 => ?_)
 obtain ⟨A26, c27, rfl, hv28_1, hv28_2⟩ := hv28
 unfold maxLen at hv28_2
 refine .region ?_
 refine .v (ev_as rfl rfl) rfl ?_
 refine .go idQ (.block ?_)
 refine .loop (X := Int × Int × Int) (fun ⟨x, bad1, pos1⟩ => 0 ≤ x ∧ x ≤ X.length ∧ (bad219 ≠ 0 → bad1 ≠ 0) ∧ (LS.mk i218 bad1 pos1) = (if bad219 = 0 ∧ hasN (X.take x.toNat) s17 = true then noF (LS.mk i218 bad219 pos220) i22 28 else (LS.mk i218 bad219 pos220))) (fun ⟨x, bad1, pos1⟩ => [(0, .pointer (some ⟨g, 0, none⟩)), (1, .pointer (some ⟨h, 0, none⟩)), (5, .int .i64 i22), (6, .string s17), (7, .int .i64 x)]) (fun ⟨x, bad1, pos1⟩ => [cel g [.slice A n c, .int .i64 i218, .int .i64 bad1, .int .i64 pos1, v] 86, cel h [.int .i64 kd, .bool false, .int .i64 0, .string ⟨#[]⟩, .slice A26 X.length c27, KV] 90, rw_ eS 9 (.slice A26 X.length c27) X]) (fun _ => S) (fun _ => wf) (fun ⟨x, bad1, pos1⟩ => (X.length - x).toNat) (fun a_ w_ hs_ hw_ => ⟨⟨0, bad219, pos220⟩, (by exact ⟨by omega, by omega, fun h_ => h_, by rw [show (0 : Int).toNat = 0 from rfl, List.take_zero, hasN_nil, if_neg (by simp)]⟩), hs_.mono (Sub.get (.c rfl (.c rfl (.c rfl (.c rfl (.c rfl .n)))))), hw_.keep (.c .h (.c .h (.c .h .n)))⟩) (fun ⟨x, bad1, pos1⟩ ⟨q_0, q_1, q_2, q_3⟩ => ?_)
 show SC _ _ _ _ _ ⟨[(0, .pointer (some ⟨g, 0, none⟩)), (1, .pointer (some ⟨h, 0, none⟩)), (5, .int .i64 i22), (6, .string s17), (7, .int .i64 x)], [cel g [.slice A n c, .int .i64 i218, .int .i64 bad1, .int .i64 pos1, v] 86, cel h [.int .i64 kd, .bool false, .int .i64 0, .string ⟨#[]⟩, .slice A26 X.length c27, KV] 90, rw_ eS 9 (.slice A26 X.length c27) X], S, wf⟩
 refine .seq (.seq (.region ?_))
 refine .v (ev_mv rfl rfl) rfl ?_
 refine .v (ev_mv rfl rfl) rfl ?_
 refine .v (ev_nil rfl rfl) rfl ?_
 refine .v (ev_fa rfl fo90_4 rfl (r := 4) rfl) rfl ?_
 refine .v (ev_ld1 rfl ty82 rfl (At.own1 1 rfl rfl)) rfl ?_
 refine .v (ev_len rfl Try.underlying82 rfl) rfl ?_
 refine .v (ev_cmp rfl rfl rfl rfl) rfl ?_
 refine .v (ev_mv rfl rfl) rfl ?_
 refine .w (fun _ => ev_mv rfl rfl) rfl ?_
 refine .w (fun hb => ev_nil rfl (lkg rfl hb)) rfl ?_
 refine .w (fun hb => ev_fa rfl fo86_2 (lkg rfl hb) (r := 2) rfl) rfl ?_
 refine .w (fun hb => ev_ld1 rfl ty3 (lkg rfl hb) (At.own1 0 rfl rfl)) rfl ?_
 refine .w (fun hb => ev_cmp rfl (lkg rfl hb) rfl rfl) rfl ?_
 refine .v (ev_and rfl rfl rfl rfl) rfl ?_
 refine .go idQ ?_
 refine .condI rfl (bA bD bE) (fun h29 => ?_) (fun h29 => ?_)
 ·
  refine .skipgo idQ (.seq (.block (.seq (.region ?_))))
  refine .v (ev_mv rfl rfl) rfl ?_
  refine .v (ev_nil rfl rfl) rfl ?_
  refine .v (ev_fa rfl fo90_4 rfl (r := 4) rfl) rfl ?_
  refine .v (ev_ld1 rfl ty82 rfl (At.own1 1 rfl rfl)) rfl ?_
  refine .v (ev_mv rfl rfl) rfl ?_
  refine .v (ev_ix rfl Try.underlying82 ty9 rfl rfl (by omega) (by omega) (row_adr (i := x) 2 rfl (by omega) (by omega))) rfl ?_
  refine .v (ev_ld1 rfl ty9 rfl (At.elem1 (row_el (E := eS) (l := X) (i := x) 2 rfl (by omega) (by omega)) 0 rfl)) rfl ?_
  refine .v (ev_mv rfl rfl) rfl ?_
  refine .v (ev_scmp rfl rfl rfl rfl) rfl ?_
  refine .go idQ ?_
  refine .condI rfl bV (fun h30 => ?_) (fun h30 => ?_)
  ·
   refine .region ?_
   refine .v (ev_mv rfl rfl) rfl ?_
   refine .v (ev_mv rfl rfl) rfl ?_
   refine .cons (st_call0 rfl rfl rfl rfl hbd38 rfl (.c .h .n) (no_ g A n c i218 bad1 pos1 v i22 28 _ _) (fun v_q33 C_q33 q33 => ?_))
   obtain ⟨bad231, pos232, p34, rfl, rfl⟩ := q33
   show SP _ _ _ _ _ _ ⟨_, _ :: _, _, _⟩
   refine .go idQ (.region ?_)
   refine .v (ev_mv rfl rfl) rfl ?_
   refine .v (ev_add rfl rfl rfl (r := (x + 1)) rfl (by omega) (by omega)) rfl ?_
   refine .v (ev_as rfl rfl) rfl ?_
   exact SP.nil (SQ.roundb (X := Int × Int × Int) (x := (x, bad1, pos1)) ⟨(x + 1), bad231, pos232⟩ (by exact ⟨by omega, by omega, by omega, nm_go q_0 (by omega) (by simp_all) q_3 (.inl ⟨by assumption, p34⟩)⟩) (by dsimp only; omega) (Sub.get (.c rfl (.c rfl (.c rfl (.c rfl (.c rfl .n)))))) (fun w hw => hw.keep (.c .h (.c .h (.c .h .n)))))
  refine .skipgo idQ (.region ?_)
  refine .v (ev_mv rfl rfl) rfl ?_
  refine .v (ev_add rfl rfl rfl (r := (x + 1)) rfl (by omega) (by omega)) rfl ?_
  refine .v (ev_as rfl rfl) rfl ?_
  exact SP.nil (SQ.roundb (X := Int × Int × Int) (x := (x, bad1, pos1)) ⟨(x + 1), bad1, pos1⟩ (by exact ⟨by omega, by omega, by omega, nm_go q_0 (by omega) (by simp_all) q_3 (.inr ⟨by assumption, rfl, rfl⟩)⟩) (by dsimp only; omega) (Sub.get (.c rfl (.c rfl (.c rfl (.c rfl (.c rfl .n)))))) (fun w hw => hw.keep (.c .h (.c .h (.c .h .n)))))
 refine .exit idQ ?_
 refine .seq ?_
 have hen := nm_end q_0 q_1 q_3 (by simp_all)
 refine .region ?_
 refine .v (ev_mv rfl rfl) rfl ?_
 refine .cons (st_call0 rfl rfl rfl rfl hbd54 rfl (.c .h .n) (next_ g A n c b i218 bad1 pos1 v _ _ hA (by first | omega | simp only [LL] <;> omega | simp <;> omega) (by omega) (by omega) (by omega) (by omega)) (fun v_q39 C_q39 q39 => ?_))
 obtain ⟨r35, i236, bad237, pos238, p40, p41, p42, p43, rfl, rfl⟩ := q39
 show SP _ _ _ _ _ _ ⟨_, _ :: _, _, _⟩
 refine .v (ev_as rfl rfl) rfl ?_
 refine .go idQ (.seq (.seq (.region ?_)))
 refine .v (ev_mv rfl rfl) rfl ?_
 refine .v (ev_cmp rfl rfl rfl rfl) rfl ?_
 refine .v (ev_mv rfl rfl) rfl ?_
 refine .w (fun _ => ev_mv rfl rfl) rfl ?_
 refine .w (fun hb => ev_cmp rfl (lkg rfl hb) rfl rfl) rfl ?_
 refine .v (ev_and rfl rfl rfl rfl) rfl ?_
 refine .go idQ ?_
 refine .condI rfl (bA bD bNE) (fun h44 => ?_) (fun h44 => ?_)
 ·
  refine .region ?_
  refine .v (ev_mv rfl rfl) rfl ?_
  refine .v (ev_mv rfl rfl) rfl ?_
  refine .v (ev_nil rfl rfl) rfl ?_
  refine .v (ev_fa rfl fo86_1 rfl (r := 1) rfl) rfl ?_
  refine .v (ev_ld1 rfl ty3 rfl (At.own1 0 rfl rfl)) rfl ?_
  refine .cons (st_call0 rfl rfl rfl rfl hbd38 rfl (.c .h .n) (no_ g A n c i236 bad237 pos238 v i236 22 _ _) (fun v_q47 C_q47 q47 => ?_))
  obtain ⟨bad245, pos246, p48, rfl, rfl⟩ := q47
  show SP _ _ _ _ _ _ ⟨_, _ :: _, _, _⟩
  refine .go idQ (.seq (.region ?_))
  refine .v (ev_mv rfl rfl) rfl ?_
  refine .v (ev_mv rfl rfl) rfl ?_
  refine .v (ev_nil rfl rfl) rfl ?_
  refine .v (ev_fa rfl fo86_1 rfl (r := 1) rfl) rfl ?_
  refine .v (ev_ld1 rfl ty3 rfl (At.own1 0 rfl rfl)) rfl ?_
  refine .v (ev_add rfl rfl rfl (r := (i236 + 1)) rfl (by omega) (by omega)) rfl ?_
  refine .v (ev_nil rfl rfl) rfl ?_
  refine .v (ev_fa rfl fo86_1 rfl (r := 1) rfl) rfl ?_
  refine .cons (st_store1 rfl rfl rfl ty3 rfl rfl rfl .h (.t .h) ?_)
  refine .go idQ (.region ?_)
  refine .v (ev_mv rfl rfl) rfl ?_
  refine .v (ev_mv rfl rfl) rfl ?_
  refine .v (ev_nil rfl rfl) rfl ?_
  refine .v (ev_fa rfl fo90_4 rfl (r := 4) rfl) rfl ?_
  refine .v (ev_ld1 rfl ty82 rfl (At.own1 1 rfl rfl)) rfl ?_
  refine .v (ev_mv rfl rfl) rfl ?_
  refine .cons (st_lit eS (e := 9) (l := [s17]) rfl rfl rfl rfl (by kernel_rfl) rfl rfl (fun w => by kernel_rfl) (fun b49 => ?_))
  refine .cons (st_app (E := eS) (m := [s17]) rfl rfl rfl rfl Try.underlying82 ai9 rfl rfl rfl (.t (.t (.t .h))) (by first | rfl | omega | simp) (row_src 0 rfl) (by first | omega | simp only [LL] <;> omega | simp <;> omega) rfl (fun v50 => ?_))
  refine .v (ev_nil rfl rfl) rfl ?_
  refine .v (ev_fa rfl fo90_4 rfl (r := 4) rfl) rfl ?_
  refine .know (row_len 0 rfl) (fun hv53 => ?_)
  obtain ⟨A51, c52, rfl, hv53_1, hv53_2⟩ := hv53
  unfold maxLen at hv53_2
  refine .cons (st_store1 rfl rfl rfl ty82 rfl rfl rfl (.t (.t (.t .h))) (.t (.t (.t (.t .h)))) ?_)
  exact SP.nil (end0 Try.results72 (.c (.t (.t (.t .h))) (.c .h (.c .h .n))) ⟨(i236 + 1), bad245, pos246, .slice A51 ((X ++ [s17]).length) c52, (X ++ [s17]), name_3 p6 p7 (by omega) (by omega) p22 p23 hen p40 p41 (by rw [if_pos (by omega)]; exact noF_eq p48), (by omega), (by simp only [List.length_append, List.length_cons, List.length_nil]; omega), (fun y_ hy_ => by rcases List.mem_append.1 hy_ with hy_ | hy_; exact hX y_ hy_; simp only [List.mem_singleton] at hy_; subst hy_; omega), rfl, rfl⟩)
 refine .skipgo idQ (.seq (.region ?_))
 refine .v (ev_mv rfl rfl) rfl ?_
 refine .v (ev_mv rfl rfl) rfl ?_
 refine .v (ev_nil rfl rfl) rfl ?_
 refine .v (ev_fa rfl fo86_1 rfl (r := 1) rfl) rfl ?_
 refine .v (ev_ld1 rfl ty3 rfl (At.own1 0 rfl rfl)) rfl ?_
 refine .v (ev_add rfl rfl rfl (r := (i236 + 1)) rfl (by omega) (by omega)) rfl ?_
 refine .v (ev_nil rfl rfl) rfl ?_
 refine .v (ev_fa rfl fo86_1 rfl (r := 1) rfl) rfl ?_
 refine .cons (st_store1 rfl rfl rfl ty3 rfl rfl rfl .h (.t .h) ?_)
 refine .go idQ (.region ?_)
 refine .v (ev_mv rfl rfl) rfl ?_
 refine .v (ev_mv rfl rfl) rfl ?_
 refine .v (ev_nil rfl rfl) rfl ?_
 refine .v (ev_fa rfl fo90_4 rfl (r := 4) rfl) rfl ?_
 refine .v (ev_ld1 rfl ty82 rfl (At.own1 1 rfl rfl)) rfl ?_
 refine .v (ev_mv rfl rfl) rfl ?_
 refine .cons (st_lit eS (e := 9) (l := [s17]) rfl rfl rfl rfl (by kernel_rfl) rfl rfl (fun w => by kernel_rfl) (fun b54 => ?_))
 refine .cons (st_app (E := eS) (m := [s17]) rfl rfl rfl rfl Try.underlying82 ai9 rfl rfl rfl (.t (.t (.t .h))) (by first | rfl | omega | simp) (row_src 0 rfl) (by first | omega | simp only [LL] <;> omega | simp <;> omega) rfl (fun v55 => ?_))
 refine .v (ev_nil rfl rfl) rfl ?_
 refine .v (ev_fa rfl fo90_4 rfl (r := 4) rfl) rfl ?_
 refine .know (row_len 0 rfl) (fun hv58 => ?_)
 obtain ⟨A56, c57, rfl, hv58_1, hv58_2⟩ := hv58
 unfold maxLen at hv58_2
 refine .cons (st_store1 rfl rfl rfl ty82 rfl rfl rfl (.t (.t (.t .h))) (.t (.t (.t (.t .h)))) ?_)
 exact SP.nil (end0 Try.results72 (.c (.t (.t (.t .h))) (.c .h (.c .h .n))) ⟨(i236 + 1), bad237, pos238, .slice A56 ((X ++ [s17]).length) c57, (X ++ [s17]), name_3 p6 p7 (by omega) (by omega) p22 p23 hen p40 p41 (by rw [if_neg (by omega)]), (by omega), (by simp only [List.length_append, List.length_cons, List.length_nil]; omega), (fun y_ hy_ => by rcases List.mem_append.1 hy_ with hy_ | hy_; exact hX y_ hy_; simp only [List.mem_singleton] at hy_; subst hy_; omega), rfl, rfl⟩)
end Go.Proofs.Ythmkelkefmfmgaa.Sx
set_option maxRecDepth 20000
set_option maxHeartbeats 4000000
namespace Go.Proofs.Ythmkelkefmfmgaa.Sx.FPD
open Go Go.SX Go.Proofs
theorem fo86_2 : fo Try.prog 86 2 = some 2 := by kernel_rfl
theorem ty3 : ty Try.prog 3 = some (false, 1) := by kernel_rfl
theorem fo86_4 : fo Try.prog 86 4 = some 4 := by kernel_rfl
theorem ty34 : ty Try.prog 34 = some (false, 1) := by kernel_rfl
theorem hbd38 : hasBody Try.prog 38 = true := by kernel_rfl
theorem ty90 : ty Try.prog 90 = some (true, 6) := by kernel_rfl
theorem ai90 : (Try.prog.info? 90).map (fun i => (i.zero, i.size, i.bytes)) = some (some (.agg #[.int .i64 0, .bool false, .int .i64 0, .string ⟨#[]⟩, .slice none 0 0, .slice none 0 0]), 6, 88) := by kernel_rfl
theorem mo : Try.prog.follows .mixedOrders = true := by kernel_rfl
end Go.Proofs.Ythmkelkefmfmgaa.Sx.FPD
namespace Go.Proofs.Ythmkelkefmfmgaa.Sx
open Go Go.SX Go.Proofs FPD
theorem put0 (g : Nat) (A : Option Addr) (n : Nat) (c : Nat) (i : Int) (bad : Int) (pos : Int) (v : Value) (l : List TV) (k : Int) (tr_ : Bool) (nn : Int) (s : ByteArray) (fr : Int) (S : Nat → Prop) (wf : World) (hl : l.length ≤ 8192) (hB : ∀ t ∈ l, TB t.v) (hT : TB (TN.mk k tr_ nn s [] [])) :
  TR0 Try.prog 56 [.pointer (some ⟨g, 0, none⟩), .agg #[.int .i64 k, .bool tr_, .int .i64 nn, .string s, .slice none 0 0, .slice none 0 0], .int .i64 fr] [cel g [.slice A n c, .int .i64 i, .int .i64 bad, .int .i64 pos, v] 86, rw_ eTV 90 (v) l, nest 9 3 l] S wf (fun v_ C_ => ∃ (r : Int) (bad2 : Int) (pos2 : Int) (u : Value) (L : List TV), ((VR.mk r (LS.mk i bad2 pos2) (vs L)) = putV (LS.mk i bad pos) (vs l) (TN.mk k tr_ nn s [] []) fr) ∧ (L.length ≤ 8192) ∧ (∀ t ∈ L, TB t.v) ∧ ((bad2 = 0 → bad = 0)) ∧ v_ = .int .i64 r ∧ C_ = [cel g [.slice A n c, .int .i64 i, .int .i64 bad2, .int .i64 pos2, u] 86, rw_ eTV 90 (u) L, nest 9 3 L]) := by
 refine TR.mk Try.func56 rfl Try.ntmps56 rfl rfl (fun w_ => ?_)
 refine .seq (.region ?_)
 refine .cons (st_boxa rfl rfl rfl rfl rfl (fun b1 => ?_))
 refine .v (ev_as rfl rfl) rfl ?_
 refine .go idQ (.seq (.seq (.region ?_)))
 refine .v (ev_mv rfl rfl) rfl ?_
 refine .v (ev_nil rfl rfl) rfl ?_
 refine .v (ev_fa rfl fo86_2 rfl (r := 2) rfl) rfl ?_
 refine .v (ev_ld1 rfl ty3 rfl (At.own1 1 rfl rfl)) rfl ?_
 refine .v (ev_cmp rfl rfl rfl rfl) rfl ?_
 refine .v (ev_mv rfl rfl) rfl ?_
 refine .w (fun _ => ev_mv rfl rfl) rfl ?_
 refine .w (fun hb => ev_nil rfl (lkg rfl hb)) rfl ?_
 refine .w (fun hb => ev_fa rfl fo86_4 (lkg rfl hb) (r := 4) rfl) rfl ?_
 refine .w (fun hb => ev_ld1 rfl ty34 (lkg rfl hb) (At.own1 1 rfl rfl)) rfl ?_
 refine .know (row_len 2 rfl) (fun hv4 => ?_)
 obtain ⟨A2, c3, rfl, hv4_1, hv4_2⟩ := hv4
 unfold maxLen at hv4_2
 refine .w (fun hb => ev_len rfl Try.underlying34 (lkg rfl hb)) rfl ?_
 refine .w (fun hb => ev_cmp rfl (lkg rfl hb) rfl rfl) rfl ?_
 refine .v (ev_and rfl rfl rfl rfl) rfl ?_
 refine .go idQ ?_
 refine .condI rfl (bA bE bD) (fun h5 => ?_) (fun h5 => ?_)
 ·
  refine .region ?_
  refine .v (ev_mv rfl rfl) rfl ?_
  refine .v (ev_mv rfl rfl) rfl ?_
  refine .cons (st_call0 rfl rfl rfl rfl hbd38 rfl (.c (.t .h) .n) (no_ g A n c i bad pos (.slice A2 l.length c3) fr 27 _ _) (fun v_q8 C_q8 q8 => ?_))
  obtain ⟨bad26, pos27, p9, rfl, rfl⟩ := q8
  show SP _ _ _ _ _ _ ⟨_, _ :: _, _, _⟩
  refine .go idQ (.seq (.seq (.region ?_)))
  refine .v (ev_mv rfl rfl) rfl ?_
  refine .v (ev_nil rfl rfl) rfl ?_
  refine .v (ev_fa rfl fo86_2 rfl (r := 2) rfl) rfl ?_
  refine .v (ev_ld1 rfl ty3 rfl (At.own1 0 rfl rfl)) rfl ?_
  refine .v (ev_cmp rfl rfl rfl rfl) rfl ?_
  refine .go idQ ?_
  refine .condI rfl bNE (fun h10 => ?_) (fun h10 => ?_)
  ·
   refine .seq (.region ?_)
   refine .v (ev_as rfl rfl) rfl ?_
   refine .go idQ ?_
   exact .ret idQ (ret1 Try.results56 rfl (.c .h (.c (.t .h) (.c (.t .h) .n))) ⟨0, bad26, pos27, (.slice A2 l.length c3), l, put_full (by omega) (by omega) p9, (by omega), hB, (by omega), rfl, rfl⟩)
  exfalso; omega
 refine .skipgo idQ (.seq (.seq (.region ?_)))
 refine .v (ev_mv rfl rfl) rfl ?_
 refine .v (ev_nil rfl rfl) rfl ?_
 refine .v (ev_fa rfl fo86_2 rfl (r := 2) rfl) rfl ?_
 refine .v (ev_ld1 rfl ty3 rfl (At.own1 1 rfl rfl)) rfl ?_
 refine .v (ev_cmp rfl rfl rfl rfl) rfl ?_
 refine .go idQ ?_
 refine .condI rfl bNE (fun h11 => ?_) (fun h11 => ?_)
 ·
  refine .seq (.region ?_)
  refine .v (ev_as rfl rfl) rfl ?_
  refine .go idQ ?_
  exact .ret idQ (ret1 Try.results56 rfl (.c (.t .h) (.c (.t .h) (.c (.t .h) .n))) ⟨0, bad, pos, .slice A2 l.length c3, l, put_bad (by omega), (by omega), hB, (by omega), rfl, rfl⟩)
 refine .skipgo idQ (.seq ?_)
 refine SC.draw mo [cel g [.slice A n c, .int .i64 i, .int .i64 bad, .int .i64 pos, .slice A2 l.length c3] 86, rw_ eTV 90 (.slice A2 l.length c3) l] [(10, fun w => At w g 0 [.slice A n c, .int .i64 i, .int .i64 bad, .int .i64 pos, .slice A2 l.length c3])] (.c (.t .h) (.c (.t .h) .n)) (fun w_ _ hw_ => (sc1 (At.whole 0 rfl w_ hw_) sc0)) (fun wf_12 hl_12 hx_12 hR_12 => ?_)
 refine SR.k 0 rfl (by kernel_rfl) rfl (ev_mv rfl rfl) ?_
 refine SR.k 1 rfl (by kernel_rfl) rfl (ev_mv rfl rfl) ?_
 refine SR.k 2 rfl (by kernel_rfl) rfl (ev_nil rfl rfl) ?_
 refine SR.k 3 rfl (by kernel_rfl) rfl (ev_fa rfl fo86_4 rfl (r := 4) rfl) ?_
 refine SR.k 4 rfl (by kernel_rfl) rfl (ev_ld1 rfl ty34 rfl (At.elem1 (v := .slice A2 l.length c3) (At.ofcs 0 rfl (by kernel_rfl)) 4 rfl)) ?_
 refine SR.k 5 rfl (by kernel_rfl) rfl (ev_lda (cs := [.int .i64 k, .bool tr_, .int .i64 nn, .string s, .slice none 0 0, .slice none 0 0]) rfl rfl (At.d (At.lent hR_12 0 rfl rfl)) ty90) ?_
 refine SR.one (j := 6) (by kernel_rfl) rfl (st_lit eTV (e := 90) (l := [(TV.mk (TN.mk k tr_ nn s [] []) none 0 none 0)]) rfl rfl rfl rfl (by kernel_rfl) rfl rfl (fun w => by kernel_rfl) (fun b13 => ⟨ttc (fun w_ hw_ => (tc1 (by first | exact At.whole 0 rfl w_ hw_ | exact At.whole 1 rfl w_ hw_ | exact At.whole 2 rfl w_ hw_ | exact At.whole 3 rfl w_ hw_ | exact At.whole 4 rfl w_ hw_ | exact At.whole 5 rfl w_ hw_ | exact At.whole 6 rfl w_ hw_) tc0)), ?_⟩))
 refine SR.one (j := 7) (by kernel_rfl) rfl (st_app (E := eTV) (m := [(TV.mk (TN.mk k tr_ nn s [] []) none 0 none 0)]) rfl rfl rfl rfl Try.underlying34 ai90 rfl rfl rfl (.t (.t .h)) (by first | rfl | omega | simp) (row_src 0 rfl) (by first | omega | simp only [LL] <;> omega | simp <;> omega) rfl (fun v14 => ⟨ttc (fun w_ hw_ => (tc1 (by first | exact At.whole 0 rfl w_ hw_ | exact At.whole 1 rfl w_ hw_ | exact At.whole 2 rfl w_ hw_ | exact At.whole 3 rfl w_ hw_ | exact At.whole 4 rfl w_ hw_ | exact At.whole 5 rfl w_ hw_ | exact At.whole 6 rfl w_ hw_) tc0)), ?_⟩))
 refine SR.k 8 rfl (by kernel_rfl) rfl (ev_nil rfl rfl) ?_
 refine SR.k 9 rfl (by kernel_rfl) rfl (ev_fa rfl fo86_4 rfl (r := 4) rfl) ?_
 refine .know (row_len 0 rfl) (fun hv17 => ?_)
 obtain ⟨A15, c16, rfl, hv17_1, hv17_2⟩ := hv17
 unfold maxLen at hv17_2
 refine SR.one (j := 10) (by kernel_rfl) rfl (st_store1 rfl rfl rfl ty34 rfl rfl rfl (.t (.t .h)) (.t (.t (.t (.t .h)))) ⟨ttc (fun w_ hw_ => (tc2 (by kernel_rfl) tc0)), ?_⟩)
 refine SR.fin (by kernel_rfl) hl_12 hx_12 hR_12 (.c (.c (.c .n))) ?_
 refine SQ.go idQ ?_
 refine .seq (.region ?_)
 refine .v (ev_mv rfl rfl) rfl ?_
 refine .v (ev_nil rfl rfl) rfl ?_
 refine .v (ev_fa rfl fo86_4 rfl (r := 4) rfl) rfl ?_
 refine .v (ev_ld1 rfl ty34 rfl (At.own1 0 rfl rfl)) rfl ?_
 refine .v (ev_len rfl Try.underlying34 rfl) rfl ?_
 refine .v (ev_sub rfl rfl rfl (r := ((((l ++ [(TV.mk (TN.mk k tr_ nn s [] []) none 0 none 0)]).length : Nat) : Int) - 1)) rfl (by omega) (by omega)) rfl ?_
 refine .v (ev_as rfl rfl) rfl ?_
 refine .go idQ ?_
 refine SC.packl (TN.mk k tr_ nn s [] []) (.t (.t (.t (.t .h)))) rfl rfl ?_
 exact .ret idQ (ret1 Try.results56 rfl (.c (.t .h) (.c (.t .h) (.c .h .n))) ⟨(l.length : Int), bad, pos, .slice A15 ((l ++ [(TV.mk (TN.mk k tr_ nn s [] []) none 0 none 0)]).length) c16, (l ++ [(TV.mk (TN.mk k tr_ nn s [] []) none 0 none 0)]), put_ok (v := (TV.mk (TN.mk k tr_ nn s [] []) none 0 none 0)) (by omega) (by omega), (by simp only [List.length_append, List.length_cons, List.length_nil]; omega), (fun y_ hy_ => by rcases List.mem_append.1 hy_ with hy_ | hy_; exact hB y_ hy_; simp only [List.mem_singleton] at hy_; subst hy_; exact hT), (by omega), (congrArg (Value.int .i64) (by simp)), rfl⟩)
theorem put1 (g : Nat) (A : Option Addr) (n : Nat) (c : Nat) (i : Int) (bad : Int) (pos : Int) (v : Value) (l : List TV) (k : Int) (nA : Option Addr) (nc : Nat) (ns : List ByteArray) (kA : Option Addr) (kc : Nat) (ks : List Int) (fr : Int) (S : Nat → Prop) (wf : World) (hl : l.length ≤ 8192) (hB : ∀ t ∈ l, TB t.v) (hT : TB (TN.mk k false 0 ⟨#[]⟩ ns ks)) (hnl : ns.length ≤ 1000000) (hkl : ks.length ≤ 1000000) :
  TR0 Try.prog 56 [.pointer (some ⟨g, 0, none⟩), .agg #[.int .i64 k, .bool false, .int .i64 0, .string ⟨#[]⟩, .slice nA ns.length nc, .slice kA ks.length kc], .int .i64 fr] [cel g [.slice A n c, .int .i64 i, .int .i64 bad, .int .i64 pos, v] 86, rw_ eTV 90 (v) l, nest 9 3 l, rw_ eS 9 (.slice nA ns.length nc) ns, rw_ eZ 3 (.slice kA ks.length kc) ks] S wf (fun v_ C_ => ∃ (r : Int) (bad2 : Int) (pos2 : Int) (u : Value) (L : List TV), ((VR.mk r (LS.mk i bad2 pos2) (vs L)) = putV (LS.mk i bad pos) (vs l) (TN.mk k false 0 ⟨#[]⟩ ns ks) fr) ∧ (L.length ≤ 8192) ∧ (∀ t ∈ L, TB t.v) ∧ ((bad2 = 0 → bad = 0)) ∧ v_ = .int .i64 r ∧ C_ = [cel g [.slice A n c, .int .i64 i, .int .i64 bad2, .int .i64 pos2, u] 86, rw_ eTV 90 (u) L, nest 9 3 L]) := by
 refine TR.mk Try.func56 rfl Try.ntmps56 rfl rfl (fun w_ => ?_)
 refine .seq (.region ?_)
 refine .cons (st_boxa rfl rfl rfl rfl rfl (fun b1 => ?_))
 refine .v (ev_as rfl rfl) rfl ?_
 refine .go idQ (.seq (.seq (.region ?_)))
 refine .v (ev_mv rfl rfl) rfl ?_
 refine .v (ev_nil rfl rfl) rfl ?_
 refine .v (ev_fa rfl fo86_2 rfl (r := 2) rfl) rfl ?_
 refine .v (ev_ld1 rfl ty3 rfl (At.own1 1 rfl rfl)) rfl ?_
 refine .v (ev_cmp rfl rfl rfl rfl) rfl ?_
 refine .v (ev_mv rfl rfl) rfl ?_
 refine .w (fun _ => ev_mv rfl rfl) rfl ?_
 refine .w (fun hb => ev_nil rfl (lkg rfl hb)) rfl ?_
 refine .w (fun hb => ev_fa rfl fo86_4 (lkg rfl hb) (r := 4) rfl) rfl ?_
 refine .w (fun hb => ev_ld1 rfl ty34 (lkg rfl hb) (At.own1 1 rfl rfl)) rfl ?_
 refine .know (row_len 2 rfl) (fun hv4 => ?_)
 obtain ⟨A2, c3, rfl, hv4_1, hv4_2⟩ := hv4
 unfold maxLen at hv4_2
 refine .w (fun hb => ev_len rfl Try.underlying34 (lkg rfl hb)) rfl ?_
 refine .w (fun hb => ev_cmp rfl (lkg rfl hb) rfl rfl) rfl ?_
 refine .v (ev_and rfl rfl rfl rfl) rfl ?_
 refine .go idQ ?_
 refine .condI rfl (bA bE bD) (fun h5 => ?_) (fun h5 => ?_)
 ·
  refine .region ?_
  refine .v (ev_mv rfl rfl) rfl ?_
  refine .v (ev_mv rfl rfl) rfl ?_
  refine .cons (st_call0 rfl rfl rfl rfl hbd38 rfl (.c (.t .h) .n) (no_ g A n c i bad pos (.slice A2 l.length c3) fr 27 _ _) (fun v_q8 C_q8 q8 => ?_))
  obtain ⟨bad26, pos27, p9, rfl, rfl⟩ := q8
  show SP _ _ _ _ _ _ ⟨_, _ :: _, _, _⟩
  refine .go idQ (.seq (.seq (.region ?_)))
  refine .v (ev_mv rfl rfl) rfl ?_
  refine .v (ev_nil rfl rfl) rfl ?_
  refine .v (ev_fa rfl fo86_2 rfl (r := 2) rfl) rfl ?_
  refine .v (ev_ld1 rfl ty3 rfl (At.own1 0 rfl rfl)) rfl ?_
  refine .v (ev_cmp rfl rfl rfl rfl) rfl ?_
  refine .go idQ ?_
  refine .condI rfl bNE (fun h10 => ?_) (fun h10 => ?_)
  ·
   refine .seq (.region ?_)
   refine .v (ev_as rfl rfl) rfl ?_
   refine .go idQ ?_
   exact .ret idQ (ret1 Try.results56 rfl (.c .h (.c (.t .h) (.c (.t .h) .n))) ⟨0, bad26, pos27, (.slice A2 l.length c3), l, put_full (by omega) (by omega) p9, (by omega), hB, (by omega), rfl, rfl⟩)
  exfalso; omega
 refine .skipgo idQ (.seq (.seq (.region ?_)))
 refine .v (ev_mv rfl rfl) rfl ?_
 refine .v (ev_nil rfl rfl) rfl ?_
 refine .v (ev_fa rfl fo86_2 rfl (r := 2) rfl) rfl ?_
 refine .v (ev_ld1 rfl ty3 rfl (At.own1 1 rfl rfl)) rfl ?_
 refine .v (ev_cmp rfl rfl rfl rfl) rfl ?_
 refine .go idQ ?_
 refine .condI rfl bNE (fun h11 => ?_) (fun h11 => ?_)
 ·
  refine .seq (.region ?_)
  refine .v (ev_as rfl rfl) rfl ?_
  refine .go idQ ?_
  exact .ret idQ (ret1 Try.results56 rfl (.c (.t .h) (.c (.t .h) (.c (.t .h) .n))) ⟨0, bad, pos, .slice A2 l.length c3, l, put_bad (by omega), (by omega), hB, (by omega), rfl, rfl⟩)
 refine .skipgo idQ (.seq ?_)
 refine SC.draw mo [cel g [.slice A n c, .int .i64 i, .int .i64 bad, .int .i64 pos, .slice A2 l.length c3] 86, rw_ eTV 90 (.slice A2 l.length c3) l] [(10, fun w => At w g 0 [.slice A n c, .int .i64 i, .int .i64 bad, .int .i64 pos, .slice A2 l.length c3])] (.c (.t .h) (.c (.t .h) .n)) (fun w_ _ hw_ => (sc1 (At.whole 0 rfl w_ hw_) sc0)) (fun wf_12 hl_12 hx_12 hR_12 => ?_)
 refine SR.k 0 rfl (by kernel_rfl) rfl (ev_mv rfl rfl) ?_
 refine SR.k 1 rfl (by kernel_rfl) rfl (ev_mv rfl rfl) ?_
 refine SR.k 2 rfl (by kernel_rfl) rfl (ev_nil rfl rfl) ?_
 refine SR.k 3 rfl (by kernel_rfl) rfl (ev_fa rfl fo86_4 rfl (r := 4) rfl) ?_
 refine SR.k 4 rfl (by kernel_rfl) rfl (ev_ld1 rfl ty34 rfl (At.elem1 (v := .slice A2 l.length c3) (At.ofcs 0 rfl (by kernel_rfl)) 4 rfl)) ?_
 refine SR.k 5 rfl (by kernel_rfl) rfl (ev_lda (cs := [.int .i64 k, .bool false, .int .i64 0, .string ⟨#[]⟩, .slice nA ns.length nc, .slice kA ks.length kc]) rfl rfl (At.d (At.lent hR_12 0 rfl rfl)) ty90) ?_
 refine SR.one (j := 6) (by kernel_rfl) rfl (st_lit eTV (e := 90) (l := [(TV.mk (TN.mk k false 0 ⟨#[]⟩ ns ks) nA nc kA kc)]) rfl rfl rfl rfl (by kernel_rfl) rfl rfl (fun w => by kernel_rfl) (fun b13 => ⟨ttc (fun w_ hw_ => (tc1 (by first | exact At.whole 0 rfl w_ hw_ | exact At.whole 1 rfl w_ hw_ | exact At.whole 2 rfl w_ hw_ | exact At.whole 3 rfl w_ hw_ | exact At.whole 4 rfl w_ hw_ | exact At.whole 5 rfl w_ hw_ | exact At.whole 6 rfl w_ hw_) tc0)), ?_⟩))
 refine SR.one (j := 7) (by kernel_rfl) rfl (st_app (E := eTV) (m := [(TV.mk (TN.mk k false 0 ⟨#[]⟩ ns ks) nA nc kA kc)]) rfl rfl rfl rfl Try.underlying34 ai90 rfl rfl rfl (.t (.t .h)) (by first | rfl | omega | simp) (row_src 0 rfl) (by first | omega | simp only [LL] <;> omega | simp <;> omega) rfl (fun v14 => ⟨ttc (fun w_ hw_ => (tc1 (by first | exact At.whole 0 rfl w_ hw_ | exact At.whole 1 rfl w_ hw_ | exact At.whole 2 rfl w_ hw_ | exact At.whole 3 rfl w_ hw_ | exact At.whole 4 rfl w_ hw_ | exact At.whole 5 rfl w_ hw_ | exact At.whole 6 rfl w_ hw_) tc0)), ?_⟩))
 refine SR.k 8 rfl (by kernel_rfl) rfl (ev_nil rfl rfl) ?_
 refine SR.k 9 rfl (by kernel_rfl) rfl (ev_fa rfl fo86_4 rfl (r := 4) rfl) ?_
 refine .know (row_len 0 rfl) (fun hv17 => ?_)
 obtain ⟨A15, c16, rfl, hv17_1, hv17_2⟩ := hv17
 unfold maxLen at hv17_2
 refine SR.one (j := 10) (by kernel_rfl) rfl (st_store1 rfl rfl rfl ty34 rfl rfl rfl (.t (.t .h)) (.t (.t (.t (.t .h)))) ⟨ttc (fun w_ hw_ => (tc2 (by kernel_rfl) tc0)), ?_⟩)
 refine SR.fin (by kernel_rfl) hl_12 hx_12 hR_12 (.c (.c (.c .n))) ?_
 refine SQ.go idQ ?_
 refine .seq (.region ?_)
 refine .v (ev_mv rfl rfl) rfl ?_
 refine .v (ev_nil rfl rfl) rfl ?_
 refine .v (ev_fa rfl fo86_4 rfl (r := 4) rfl) rfl ?_
 refine .v (ev_ld1 rfl ty34 rfl (At.own1 0 rfl rfl)) rfl ?_
 refine .v (ev_len rfl Try.underlying34 rfl) rfl ?_
 refine .v (ev_sub rfl rfl rfl (r := ((((l ++ [(TV.mk (TN.mk k false 0 ⟨#[]⟩ ns ks) nA nc kA kc)]).length : Nat) : Int) - 1)) rfl (by omega) (by omega)) rfl ?_
 refine .v (ev_as rfl rfl) rfl ?_
 refine .go idQ ?_
 refine SC.pack (TV.mk (TN.mk k false 0 ⟨#[]⟩ ns ks) nA nc kA kc) (.c (.t (.t (.t (.t .h)))) (.c (.t (.t (.t (.t .h)))) (.c (.t (.t (.t (.t .h)))) .n))) (by show ns.length ≤ _; omega) (by show ks.length ≤ _; omega) ?_
 exact .ret idQ (ret1 Try.results56 rfl (.c (.t .h) (.c (.t .h) (.c .h .n))) ⟨(l.length : Int), bad, pos, .slice A15 ((l ++ [(TV.mk (TN.mk k false 0 ⟨#[]⟩ ns ks) nA nc kA kc)]).length) c16, (l ++ [(TV.mk (TN.mk k false 0 ⟨#[]⟩ ns ks) nA nc kA kc)]), put_ok (v := (TV.mk (TN.mk k false 0 ⟨#[]⟩ ns ks) nA nc kA kc)) (by omega) (by omega), (by simp only [List.length_append, List.length_cons, List.length_nil]; omega), (fun y_ hy_ => by rcases List.mem_append.1 hy_ with hy_ | hy_; exact hB y_ hy_; simp only [List.mem_singleton] at hy_; subst hy_; exact hT), (by omega), (congrArg (Value.int .i64) (by simp)), rfl⟩)
end Go.Proofs.Ythmkelkefmfmgaa.Sx
