import Derived.Test.YthmkelkefmfmgaaProg
import Derived.Test.YthmkelkefmfmgaaSxRead
import Derived.Test.YthmkelkefmfmgaaSxWin
import Derived.Test.YthmkelkefmfmgaaSx22A
import Derived.Test.YthmkelkefmfmgaaSx22B
import Derived.Test.YthmkelkefmfmgaaSx22W
import Derived.Test.YthmkelkefmfmgaaSx22M
import Derived.Test.YthmkelkefmfmgaaSx22F
import Derived.Test.YthmkelkefmfmgaaSx22X
import Derived.Test.YthmkelkefmfmgaaSx22G
import Derived.Test.YthmkelkefmfmgaaSx22H
import Derived.Test.YthmkelkefmfmgaaSx22K
set_option maxRecDepth 20000
set_option maxHeartbeats 4000000
set_option linter.unusedVariables false
set_option linter.unusedSimpArgs false
namespace Go.Proofs.Ythmkelkefmfmgaa.Sx.FR
open Go Go.SX Go.Proofs
theorem zf90 : (Try.prog.info? 90).bind (fun i => i.zero.map Value.cells) = some (List.toArray [.int .i64 0, .bool false, .int .i64 0, .string ⟨#[]⟩, .slice none 0 0, .slice none 0 0]) := by kernel_rfl
theorem fo112_0 : fo Try.prog 112 0 = some 0 := by kernel_rfl
theorem ty34 : ty Try.prog 34 = some (false, 1) := by kernel_rfl
theorem fo112_1 : fo Try.prog 112 1 = some 1 := by kernel_rfl
theorem ty3 : ty Try.prog 3 = some (false, 1) := by kernel_rfl
theorem ty90 : ty Try.prog 90 = some (true, 6) := by kernel_rfl
theorem zf112 : (Try.prog.info? 112).bind (fun i => i.zero.map Value.cells) = some (List.toArray [.slice none 0 0, .int .i64 0]) := by kernel_rfl
theorem ty112 : ty Try.prog 112 = some (true, 2) := by kernel_rfl
theorem hbd61 : hasBody Try.prog 61 = true := by kernel_rfl
theorem fo90_5 : fo Try.prog 90 5 = some 5 := by kernel_rfl
theorem ty56 : ty Try.prog 56 = some (false, 1) := by kernel_rfl
theorem mo : Try.prog.follows .mixedOrders = true := by kernel_rfl
theorem hbd60 : hasBody Try.prog 60 = true := by kernel_rfl
theorem ty9 : ty Try.prog 9 = some (false, 1) := by kernel_rfl
theorem ai112 : (Try.prog.info? 112).map (fun i => (i.zero, i.size, i.bytes)) = some (some (.agg #[.slice none 0 0, .int .i64 0]), 2, 32) := by kernel_rfl


end Go.Proofs.Ythmkelkefmfmgaa.Sx.FR
namespace Go.Proofs.Ythmkelkefmfmgaa.Sx
open Go Go.SX Go.Proofs FR





theorem value_ (A : Option Addr) (n : Nat) (c : Nat) (l : List TV) (i : Int) (S : Nat → Prop) (wf : World) (hP : Fr eTV S wf A l) (hn : l.length = n) (hi : 0 ≤ i ∧ i < n) :
    TR0 Try.prog 61 [.agg #[.slice A n c, .int .i64 i]] [] S wf (fun v_ C_ => v_ = .agg #[.int .i64 ((gt l i).v.kind), .bool ((gt l i).v.truth), .int .i64 ((gt l i).v.num), .string ((gt l i).v.text), .slice ((gt l i).nA) ((gt l i).v.ns.length) ((gt l i).nc), .slice ((gt l i).kA) ((gt l i).v.ks.length) ((gt l i).kc)] ∧ C_ = []) := by
  have hla := hP.len
  refine TR.mk Try.func61 rfl Try.ntmps61 rfl rfl (fun w_ => ?_)
  refine .seq (.region (.cons (st_boxa rfl rfl rfl rfl rfl (fun b1 => .cons (st_alloc rfl rfl rfl rfl zf90 (fun b2 => .go (fun _ _ h => h) (.seq ?_)))))))
  refine .region (.cons (Ev.step (ev_fa rfl fo112_0 rfl (r := 0) rfl) rfl rfl rfl (.cons (Ev.step (ev_ld1 rfl ty34 rfl (At.own1 1 rfl rfl)) rfl rfl rfl (.cons (Ev.step (ev_fa rfl fo112_1 rfl (r := 1) rfl) rfl rfl rfl (.cons (Ev.step (ev_ld1 rfl ty3 rfl (At.own1 1 rfl rfl)) rfl rfl rfl (.cons (Ev.step (ev_ix rfl Try.underlying34 ty90 rfl rfl (by omega) (by omega) (fun _ _ => Fr.adr (i := i) hP (by omega) (by omega))) rfl rfl rfl ?_))))))))))
  exact .cons (Ev.step (ev_lda rfl rfl (At.w (Fr.el (i := i) hP (by omega) (by omega))) ty90) rfl rfl rfl (.cons (st_storea (l' := [.int .i64 ((gt l i).v.kind), .bool ((gt l i).v.truth), .int .i64 ((gt l i).v.num), .string ((gt l i).v.text), .slice ((gt l i).nA) ((gt l i).v.ns.length) ((gt l i).nc), .slice ((gt l i).kA) ((gt l i).v.ks.length) ((gt l i).kc)]) rfl rfl rfl ty90 rfl rfl rfl .h rfl rfl (.go (fun _ _ h => h) (.ret (fun _ _ h => h) (retv1 Try.results61 (.c 0 rfl rfl ty90) .n ⟨rfl, rfl⟩))))))

theorem kid_ (A : Option Addr) (n : Nat) (c : Nat) (l : List TV) (i : Int) (k : Int) (S : Nat → Prop) (wf : World) (hP : Fr eTV S wf A l) (hN : NT S wf l) (hn : l.length = n) (hi : 0 ≤ i ∧ i < n) (hk : kidOk l i k) :
    TR0 Try.prog 60 [.agg #[.slice A n c, .int .i64 i], .int .i64 k] [] S wf (fun v_ C_ => v_ = .agg #[.slice A n c, .int .i64 (kidT l i k)] ∧ C_ = []) := by
  have hla := hP.len
  have hk2 := hk
  obtain ⟨hk3, hk4, hk5, hk6⟩ := hk2
  unfold kidT at hk5 hk6
  have hi2 := hi.2
  refine TR.mk Try.func60 rfl Try.ntmps60 rfl rfl (fun w_ => ?_)
  refine .seq (.region (.cons (st_boxa rfl rfl rfl rfl rfl (fun b1 => .cons (st_alloc rfl rfl rfl rfl zf112 (fun b2 => .go (fun _ _ h => h) (.seq ?_)))))))
  refine .region (.cons (Ev.step (ev_lda rfl rfl (At.whole 1 rfl) ty112) rfl rfl rfl (.cons (st_callk rfl rfl rfl rfl hbd61 rfl .n (value_ A n c l i _ _ hP (by first | ((try simp only [List.length_nil, List.length_cons, List.length_append, List.length_set, List.length_singleton, List.length_take, List.length_drop, List.length_reverse]) <;> omega) | omega) (by omega)) (.cons (st_alloc rfl rfl rfl rfl zf90 (fun b3 => .cons (st_storea (l' := [.int .i64 ((gt l i).v.kind), .bool ((gt l i).v.truth), .int .i64 ((gt l i).v.num), .string ((gt l i).v.text), .slice ((gt l i).nA) ((gt l i).v.ns.length) ((gt l i).nc), .slice ((gt l i).kA) ((gt l i).v.ks.length) ((gt l i).kc)]) rfl rfl rfl ty90 rfl rfl rfl .h rfl rfl (.go (fun _ _ h => h) ?_)))))))))
  refine .seq (.seq ?_)
  refine SC.draw mo [] [] .n (fun _ _ _ c hc => by cases hc) (fun wf_4 hl_4 hx_4 hR_4 => ?_)
  refine SR.take 0 rfl (by kernel_rfl) (by kernel_rfl) (by kernel_rfl) rfl (fun _ _ _ h => h) rfl rfl rfl (ev_mv rfl rfl) (SR.take 1 rfl (by kernel_rfl) (by kernel_rfl) (by kernel_rfl) rfl (fun _ _ _ h => h) rfl rfl rfl (ev_fa rfl fo90_5 rfl (r := 5) rfl) (SR.take 2 rfl (by kernel_rfl) (by kernel_rfl) (by kernel_rfl) rfl (fun _ _ _ h => h) rfl rfl rfl (ev_ld1 rfl ty56 rfl (At.d (At.lent hR_4 0 rfl rfl))) (SR.take 3 rfl (by kernel_rfl) (by kernel_rfl) (by kernel_rfl) rfl (fun _ _ _ h => h) rfl rfl rfl (ev_len rfl Try.underlying56 rfl) (SR.take 4 rfl (by kernel_rfl) (by kernel_rfl) (by kernel_rfl) rfl (fun _ _ _ h => h) rfl rfl rfl (ev_cmp rfl rfl rfl rfl) (SR.take 5 rfl (by kernel_rfl) (by kernel_rfl) (by kernel_rfl) rfl (fun _ _ _ h => h) rfl rfl rfl (ev_mv rfl rfl) ?_)))))
  refine SR.gtake 6 rfl (by kernel_rfl) (by kernel_rfl) (by kernel_rfl) rfl (fun _ _ _ _ h => h) rfl rfl rfl rfl rfl (fun _ => ev_fa rfl fo90_5 rfl (r := 5) rfl) (SR.gtake 7 rfl (by kernel_rfl) (by kernel_rfl) (by kernel_rfl) rfl (fun _ _ _ _ h => h) rfl rfl rfl rfl rfl (fun hb => ev_ld1 rfl ty56 (lkg rfl hb) (At.d (At.lent hR_4 0 rfl rfl))) (SR.gtake 8 rfl (by kernel_rfl) (by kernel_rfl) (by kernel_rfl) rfl (fun _ _ _ _ h => h) rfl rfl rfl rfl rfl (fun _ => ev_mv rfl rfl) (SR.gtake 9 rfl (by kernel_rfl) (by kernel_rfl) (by kernel_rfl) rfl (fun _ _ _ _ h => h) rfl rfl rfl rfl rfl (fun hb => have hp := bF bD hb; ev_ix rfl Try.underlying56 ty3 (lkg rfl hb) (lkg rfl hb) (by have _h := hp; omega) (by have _h := hp; omega) (fun _ _ => Fr.adr (i := k) (((hN).ext hx_4) _ (gt_mem (i := i) (by have _h := hp; omega) (by have _h := hp; omega))).2 (by have _h := hp; omega) (by have _h := hp; omega))) (SR.gtake 10 rfl (by kernel_rfl) (by kernel_rfl) (by kernel_rfl) rfl (fun _ _ _ _ h => h) rfl rfl rfl rfl rfl (fun hb => have hp := bF bD hb; ev_ld1 rfl ty3 (lkg rfl hb) (At.elem1 (At.d (Fr.el (i := k) (((hN).ext hx_4) _ (gt_mem (i := i) (by have _h := hp; omega) (by have _h := hp; omega))).2 (by have _h := hp; omega) (by have _h := hp; omega))) 0 rfl)) (SR.gtake 11 rfl (by kernel_rfl) (by kernel_rfl) (by kernel_rfl) rfl (fun _ _ _ _ h => h) rfl rfl rfl rfl rfl (fun hb => ev_cmp rfl (lkg rfl hb) rfl rfl) ?_)))))
  refine SR.take 12 rfl (by kernel_rfl) (by kernel_rfl) (by kernel_rfl) rfl (fun _ _ _ h => h) rfl rfl rfl (ev_or rfl rfl rfl rfl) (SR.take 13 rfl (by kernel_rfl) (by kernel_rfl) (by kernel_rfl) rfl (fun _ _ _ h => h) rfl rfl rfl (ev_mv rfl rfl) (SR.gtake 14 rfl (by kernel_rfl) (by kernel_rfl) (by kernel_rfl) rfl (fun _ _ _ _ h => h) rfl rfl rfl rfl rfl (fun _ => ev_fa rfl fo90_5 rfl (r := 5) rfl) (SR.gtake 15 rfl (by kernel_rfl) (by kernel_rfl) (by kernel_rfl) rfl (fun _ _ _ _ h => h) rfl rfl rfl rfl rfl (fun hb => ev_ld1 rfl ty56 (lkg rfl hb) (At.d (At.lent hR_4 0 rfl rfl))) (SR.gtake 16 rfl (by kernel_rfl) (by kernel_rfl) (by kernel_rfl) rfl (fun _ _ _ _ h => h) rfl rfl rfl rfl rfl (fun _ => ev_mv rfl rfl) (SR.gtake 17 rfl (by kernel_rfl) (by kernel_rfl) (by kernel_rfl) rfl (fun _ _ _ _ h => h) rfl rfl rfl rfl rfl (fun hb => have hp := bF (bO bD bD) hb; ev_ix rfl Try.underlying56 ty3 (lkg rfl hb) (lkg rfl hb) (by have _h := hp; omega) (by have _h := hp; omega) (fun _ _ => Fr.adr (i := k) (((hN).ext hx_4) _ (gt_mem (i := i) (by have _h := hp; omega) (by have _h := hp; omega))).2 (by have _h := hp; omega) (by have _h := hp; omega))) ?_)))))
  refine SR.gtake 18 rfl (by kernel_rfl) (by kernel_rfl) (by kernel_rfl) rfl (fun _ _ _ _ h => h) rfl rfl rfl rfl rfl (fun hb => have hp := bF (bO bD bD) hb; ev_ld1 rfl ty3 (lkg rfl hb) (At.elem1 (At.d (Fr.el (i := k) (((hN).ext hx_4) _ (gt_mem (i := i) (by have _h := hp; omega) (by have _h := hp; omega))).2 (by have _h := hp; omega) (by have _h := hp; omega))) 0 rfl)) (SR.gtake 19 rfl (by kernel_rfl) (by kernel_rfl) (by kernel_rfl) rfl (fun _ _ _ _ h => h) rfl rfl rfl rfl rfl (fun _ => ev_fa rfl fo112_1 rfl (r := 1) rfl) (SR.gtake 20 rfl (by kernel_rfl) (by kernel_rfl) (by kernel_rfl) rfl (fun _ _ _ _ h => h) rfl rfl rfl rfl rfl (fun hb => ev_ld1 rfl ty3 (lkg rfl hb) (At.d (At.lent hR_4 2 rfl rfl))) (SR.gtake 21 rfl (by kernel_rfl) (by kernel_rfl) (by kernel_rfl) rfl (fun _ _ _ _ h => h) rfl rfl rfl rfl rfl (fun hb => ev_cmp rfl (lkg rfl hb) (lkg rfl hb) rfl) (SR.take 22 rfl (by kernel_rfl) (by kernel_rfl) (by kernel_rfl) rfl (fun _ _ _ h => h) rfl rfl rfl (ev_or rfl rfl rfl rfl) (SR.fin (by kernel_rfl) hl_4 hx_4 hR_4 .n ?_)))))
  refine SQ.go (fun _ _ h => h) (.condI rfl (bO (bO bD bD) bD) (fun h5 => ?_) (fun h5 => ?_))
  ·
    exfalso; simp_all; omega
  ·
    refine .skipgo (fun _ _ h => h) (.seq ?_)
    refine SC.draw mo [cel b2 [.slice none 0 0, .int .i64 0] 112] [] (.c (.t .h) .n) (fun _ _ _ c hc => by cases hc) (fun wf_6 hl_6 hx_6 hR_6 => ?_)
    refine SR.take 0 rfl (by kernel_rfl) (by kernel_rfl) (by kernel_rfl) rfl (fun _ _ _ h => h) rfl rfl rfl (ev_fa rfl fo112_0 rfl (r := 0) rfl) (SR.take 1 rfl (by kernel_rfl) (by kernel_rfl) (by kernel_rfl) rfl (fun _ _ _ h => h) rfl rfl rfl (ev_ld1 rfl ty34 rfl (At.d (At.lent hR_6 1 rfl rfl))) (SR.take 2 rfl (by kernel_rfl) (by kernel_rfl) (by kernel_rfl) rfl (fun _ _ _ h => h) rfl rfl rfl (ev_fa rfl fo90_5 rfl (r := 5) rfl) (SR.take 3 rfl (by kernel_rfl) (by kernel_rfl) (by kernel_rfl) rfl (fun _ _ _ h => h) rfl rfl rfl (ev_ld1 rfl ty56 rfl (At.d (At.lent hR_6 0 rfl rfl))) (SR.take 4 rfl (by kernel_rfl) (by kernel_rfl) (by kernel_rfl) rfl (fun _ _ _ h => h) rfl rfl rfl (ev_mv rfl rfl) (SR.take 5 rfl (by kernel_rfl) (by kernel_rfl) (by kernel_rfl) rfl (fun _ _ _ h => h) rfl rfl rfl (ev_ix rfl Try.underlying56 ty3 rfl rfl (by omega) (by omega) (fun _ _ => Fr.adr (i := k) (((hN).ext hx_6) _ (gt_mem (i := i) (by omega) (by omega))).2 (by omega) (by omega))) ?_)))))
    exact SR.take 6 rfl (by kernel_rfl) (by kernel_rfl) (by kernel_rfl) rfl (fun _ _ _ h => h) rfl rfl rfl (ev_ld1 rfl ty3 rfl (At.elem1 (At.d (Fr.el (i := k) (((hN).ext hx_6) _ (gt_mem (i := i) (by omega) (by omega))).2 (by omega) (by omega))) 0 rfl)) (SR.take 7 rfl (by kernel_rfl) (by kernel_rfl) (by kernel_rfl) rfl (fun _ _ _ h => h) rfl rfl rfl (ev_any (v := .agg #[.slice A n c, .int .i64 (gt ((gt l i).v.ks) k)]) rfl (by kernel_rfl) (fun _ => by kernel_rfl)) (SR.one (j := 8) (by kernel_rfl) rfl (st_storea (l' := [.slice A n c, .int .i64 (gt ((gt l i).v.ks) k)]) rfl rfl rfl ty112 rfl rfl rfl .h rfl rfl ⟨tt0, (SR.fin (by kernel_rfl) hl_6 hx_6 hR_6 (.c .n) (SQ.go (fun _ _ h => h) (.ret (fun _ _ h => h) (retv1 Try.results60 (.c 0 rfl rfl ty112) .n ⟨rfl, rfl⟩))))⟩)))

theorem num_ (A : Option Addr) (n : Nat) (c : Nat) (l : List TV) (i : Int) (k : Int) (S : Nat → Prop) (wf : World) (hP : Fr eTV S wf A l) (hN : NT S wf l) (hn : l.length = n) (hi : 0 ≤ i ∧ i < n) (hk : kidOk l i k) :
    TR0 Try.prog 62 [.agg #[.slice A n c, .int .i64 i], .int .i64 k] [] S wf (fun v_ C_ => v_ = .int .i64 ((gt l (kidT l i k)).v.num) ∧ C_ = []) := by
  have hla := hP.len
  have hk2 := hk
  obtain ⟨hk3, hk4, hk5, hk6⟩ := hk2
  refine TR.mk Try.func62 rfl Try.ntmps62 rfl rfl (fun w_ => ?_)
  refine .seq (.region (.cons (st_boxa rfl rfl rfl rfl rfl (fun b1 => .cons (Ev.step (ev_as rfl rfl) rfl rfl rfl (.go (fun _ _ h => h) (.seq ?_)))))))
  refine .region (.cons (Ev.step (ev_lda rfl rfl (At.whole 0 rfl) ty112) rfl rfl rfl (.cons (Ev.step (ev_mv rfl rfl) rfl rfl rfl (.cons (st_callk rfl rfl rfl rfl hbd60 rfl .n (kid_ A n c l i k _ _ hP hN (by first | ((try simp only [List.length_nil, List.length_cons, List.length_append, List.length_set, List.length_singleton, List.length_take, List.length_drop, List.length_reverse]) <;> omega) | omega) (by omega) hk) (.cons (st_callk rfl rfl rfl rfl hbd61 rfl .n (value_ A n c l (kidT l i k) _ _ hP (by first | ((try simp only [List.length_nil, List.length_cons, List.length_append, List.length_set, List.length_singleton, List.length_take, List.length_drop, List.length_reverse]) <;> omega) | omega) (by omega)) (.cons (Ev.step (ev_any (v := .int .i64 ((gt l (kidT l i k)).v.num)) rfl (by kernel_rfl) (fun _ => by kernel_rfl)) rfl rfl rfl ?_))))))))))
  exact .cons (Ev.step (ev_as rfl rfl) rfl rfl rfl (.go (fun _ _ h => h) (.ret (fun _ _ h => h) (ret1 Try.results62 rfl .n ⟨rfl, rfl⟩))))

theorem eqS (A : Option Addr) (n : Nat) (c : Nat) (a : List ByteArray) (B : Option Addr) (n2 : Nat) (c2 : Nat) (b : List ByteArray) (S : Nat → Prop) (wf : World) (hA : Fr eS S wf A a) (hB : Fr eS S wf B b) (hn : a.length = n) (hn2 : b.length = n2) :
    TR0 Try.prog 42 [.slice A n c, .slice B n2 c2] [] S wf (fun v_ C_ => v_ = .bool (decide (a = b)) ∧ C_ = []) := by
  have hla := hA.len
  have hlb := hB.len
  refine TR.mk Try.func42 rfl Try.ntmps42 rfl rfl (fun w_ => ?_)
  refine .seq (.region (.cons (Ev.step (ev_as rfl rfl) rfl rfl rfl (.go (fun _ _ h => h) (.seq (.seq ?_))))))
  refine .region (.cons (Ev.step (ev_mv rfl rfl) rfl rfl rfl (.cons (Ev.step (ev_len rfl Try.underlying82 rfl) rfl rfl rfl (.cons (Ev.step (ev_mv rfl rfl) rfl rfl rfl (.cons (Ev.step (ev_len rfl Try.underlying82 rfl) rfl rfl rfl (.cons (Ev.step (ev_cmp rfl rfl rfl rfl) rfl rfl rfl ?_))))))))))
  refine .go (fun _ _ h => h) (.condI rfl bNE (fun h1 => ?_) (fun h1 => ?_))
  ·
    exact .seq (.region (.cons (Ev.step (ev_as rfl rfl) rfl rfl rfl (.go (fun _ _ h => h) (.ret (fun _ _ h => h) (ret1 Try.results42 rfl .n ⟨(congrArg Value.bool (decide_eq_false (by first | (intro h_; simp_all; done) | exact take_ne (i := i) (by omega) (by omega) (by simp_all))).symm), rfl⟩))))))
  ·
    refine .skipgo (fun _ _ h => h) (.seq (.seq (.region (.cons (Ev.step (ev_mv rfl rfl) rfl rfl rfl (.cons (Ev.step (ev_len rfl Try.underlying82 rfl) rfl rfl rfl ?_)))))))
    refine .cons (Ev.step (ev_mv rfl rfl) rfl rfl rfl (.go (fun _ _ h => h) (.block ?_)))
    refine .loop (X := Int) (fun i => 0 ≤ i ∧ i ≤ a.length ∧ a.take i.toNat = b.take i.toNat) (fun i => [(0, .slice A n c), (1, .slice B n2 c2), (11, .slice A n c), (12, .int .i64 (n : Int)), (13, .int .i64 i)]) (fun i => []) (fun _ => S) (fun _ => wf) (fun i => (a.length - i.toNat)) (fun a_ w_ hs_ hw_ => ⟨0, (by exact ⟨by omega, by omega, rfl⟩), hs_.mono (Sub.get (.c rfl (.c rfl (.c rfl (.c rfl (.c rfl .n)))))), hw_.keep .n⟩) (fun i ⟨q_0, q_1, q_2⟩ => ?_)
    show SC _ _ _ _ _ ⟨[(0, .slice A n c), (1, .slice B n2 c2), (11, .slice A n c), (12, .int .i64 (n : Int)), (13, .int .i64 i)], [], S, wf⟩
    refine .seq (.region (.cons (Ev.step (ev_cmp rfl rfl rfl rfl) rfl rfl rfl (.go (fun _ _ h => h) (.seq (.condI rfl bD (fun h2 => ?_) (fun h2 => ?_)))))))
    ·
      refine .skipgo (fun _ _ h => h) (.seq (.block (.seq (.region (.cons (Ev.step (ev_mv rfl rfl) rfl rfl rfl ?_))))))
      refine .cons (Ev.step (ev_as rfl rfl) rfl rfl rfl (.go (fun _ _ h => h) (.seq ?_)))
      refine SC.draw mo [] [] .n (fun _ _ _ c hc => by cases hc) (fun wf_3 hl_3 hx_3 hR_3 => ?_)
      refine SR.take 0 rfl (by kernel_rfl) (by kernel_rfl) (by kernel_rfl) rfl (fun _ _ _ h => h) rfl rfl rfl (ev_mv rfl rfl) (SR.take 1 rfl (by kernel_rfl) (by kernel_rfl) (by kernel_rfl) rfl (fun _ _ _ h => h) rfl rfl rfl (ev_mv rfl rfl) (SR.take 2 rfl (by kernel_rfl) (by kernel_rfl) (by kernel_rfl) rfl (fun _ _ _ h => h) rfl rfl rfl (ev_ix rfl Try.underlying82 ty9 rfl rfl (by omega) (by omega) (fun _ _ => Fr.adr (i := i) (Fr.ext hA hx_3) (by omega) (by omega))) (SR.take 3 rfl (by kernel_rfl) (by kernel_rfl) (by kernel_rfl) rfl (fun _ _ _ h => h) rfl rfl rfl (ev_ld1 rfl ty9 rfl (At.elem1 (At.d (Fr.el (i := i) (Fr.ext hA hx_3) (by omega) (by omega))) 0 rfl)) (SR.take 4 rfl (by kernel_rfl) (by kernel_rfl) (by kernel_rfl) rfl (fun _ _ _ h => h) rfl rfl rfl (ev_mv rfl rfl) (SR.take 5 rfl (by kernel_rfl) (by kernel_rfl) (by kernel_rfl) rfl (fun _ _ _ h => h) rfl rfl rfl (ev_mv rfl rfl) ?_)))))
      refine SR.take 6 rfl (by kernel_rfl) (by kernel_rfl) (by kernel_rfl) rfl (fun _ _ _ h => h) rfl rfl rfl (ev_ix rfl Try.underlying82 ty9 rfl rfl (by omega) (by omega) (fun _ _ => Fr.adr (i := i) (Fr.ext hB hx_3) (by omega) (by omega))) (SR.take 7 rfl (by kernel_rfl) (by kernel_rfl) (by kernel_rfl) rfl (fun _ _ _ h => h) rfl rfl rfl (ev_ld1 rfl ty9 rfl (At.elem1 (At.d (Fr.el (i := i) (Fr.ext hB hx_3) (by omega) (by omega))) 0 rfl)) (SR.take 8 rfl (by kernel_rfl) (by kernel_rfl) (by kernel_rfl) rfl (fun _ _ _ h => h) rfl rfl rfl (ev_scmp rfl rfl rfl rfl) (SR.fin (by kernel_rfl) hl_3 hx_3 hR_3 .n (SQ.go (fun _ _ h => h) (.condI rfl bV (fun h4 => ?_) (fun h4 => ?_))))))
      ·
        exact .seq (.region (.cons (Ev.step (ev_as rfl rfl) rfl rfl rfl (.go (fun _ _ h => h) (.ret (fun _ _ h => h) (ret1 Try.results42 rfl .n ⟨(congrArg Value.bool (decide_eq_false (by first | (intro h_; simp_all; done) | exact take_ne (i := i) (by omega) (by omega) (by simp_all))).symm), rfl⟩))))))
      ·
        exact .skipgo (fun _ _ h => h) (.region (.cons (Ev.step (ev_add rfl rfl rfl (r := (i + 1)) rfl (by omega) (by omega)) rfl rfl rfl (.cons (Ev.step (ev_mv rfl rfl) rfl rfl rfl (SP.nil (SQ.roundb (X := Int) (x := (i)) (i + 1) (by exact ⟨by omega, by omega, beq_take q_2 (by omega) (by omega) (by omega) (by first | (simp_all; done) | exact bl_inj (by simp_all))⟩) (by show (_ : Nat) < _; omega) (Sub.get (.c rfl (.c rfl (.c rfl (.c rfl (.c rfl .n)))))) (fun w hw => hw.keep .n))))))))
    ·
      exact .exit (fun _ _ h => h) (.seq (.region (.cons (Ev.step (ev_as rfl rfl) rfl rfl rfl (.go (fun _ _ h => h) (.ret (fun _ _ h => h) (ret1 Try.results42 rfl .n ⟨(congrArg Value.bool (decide_eq_true (take_all q_2 (by omega) (by omega))).symm), rfl⟩)))))))

theorem eqI (A : Option Addr) (n : Nat) (c : Nat) (a : List Int) (B : Option Addr) (n2 : Nat) (c2 : Nat) (b : List Int) (S : Nat → Prop) (wf : World) (hA : Fr eZ S wf A a) (hB : Fr eZ S wf B b) (hn : a.length = n) (hn2 : b.length = n2) :
    TR0 Try.prog 43 [.slice A n c, .slice B n2 c2] [] S wf (fun v_ C_ => v_ = .bool (decide (a = b)) ∧ C_ = []) := by
  have hla := hA.len
  have hlb := hB.len
  refine TR.mk Try.func43 rfl Try.ntmps43 rfl rfl (fun w_ => ?_)
  refine .seq (.region (.cons (Ev.step (ev_as rfl rfl) rfl rfl rfl (.go (fun _ _ h => h) (.seq (.seq ?_))))))
  refine .region (.cons (Ev.step (ev_mv rfl rfl) rfl rfl rfl (.cons (Ev.step (ev_len rfl Try.underlying56 rfl) rfl rfl rfl (.cons (Ev.step (ev_mv rfl rfl) rfl rfl rfl (.cons (Ev.step (ev_len rfl Try.underlying56 rfl) rfl rfl rfl (.cons (Ev.step (ev_cmp rfl rfl rfl rfl) rfl rfl rfl ?_))))))))))
  refine .go (fun _ _ h => h) (.condI rfl bNE (fun h1 => ?_) (fun h1 => ?_))
  ·
    exact .seq (.region (.cons (Ev.step (ev_as rfl rfl) rfl rfl rfl (.go (fun _ _ h => h) (.ret (fun _ _ h => h) (ret1 Try.results43 rfl .n ⟨(congrArg Value.bool (decide_eq_false (by first | (intro h_; simp_all; done) | exact take_ne (i := i) (by omega) (by omega) (by simp_all))).symm), rfl⟩))))))
  ·
    refine .skipgo (fun _ _ h => h) (.seq (.seq (.region (.cons (Ev.step (ev_mv rfl rfl) rfl rfl rfl (.cons (Ev.step (ev_len rfl Try.underlying56 rfl) rfl rfl rfl ?_)))))))
    refine .cons (Ev.step (ev_mv rfl rfl) rfl rfl rfl (.go (fun _ _ h => h) (.block ?_)))
    refine .loop (X := Int) (fun i => 0 ≤ i ∧ i ≤ a.length ∧ a.take i.toNat = b.take i.toNat) (fun i => [(0, .slice A n c), (1, .slice B n2 c2), (11, .slice A n c), (12, .int .i64 (n : Int)), (13, .int .i64 i)]) (fun i => []) (fun _ => S) (fun _ => wf) (fun i => (a.length - i.toNat)) (fun a_ w_ hs_ hw_ => ⟨0, (by exact ⟨by omega, by omega, rfl⟩), hs_.mono (Sub.get (.c rfl (.c rfl (.c rfl (.c rfl (.c rfl .n)))))), hw_.keep .n⟩) (fun i ⟨q_0, q_1, q_2⟩ => ?_)
    show SC _ _ _ _ _ ⟨[(0, .slice A n c), (1, .slice B n2 c2), (11, .slice A n c), (12, .int .i64 (n : Int)), (13, .int .i64 i)], [], S, wf⟩
    refine .seq (.region (.cons (Ev.step (ev_cmp rfl rfl rfl rfl) rfl rfl rfl (.go (fun _ _ h => h) (.seq (.condI rfl bD (fun h2 => ?_) (fun h2 => ?_)))))))
    ·
      refine .skipgo (fun _ _ h => h) (.seq (.block (.seq (.region (.cons (Ev.step (ev_mv rfl rfl) rfl rfl rfl ?_))))))
      refine .cons (Ev.step (ev_as rfl rfl) rfl rfl rfl (.go (fun _ _ h => h) (.seq ?_)))
      refine SC.draw mo [] [] .n (fun _ _ _ c hc => by cases hc) (fun wf_3 hl_3 hx_3 hR_3 => ?_)
      refine SR.take 0 rfl (by kernel_rfl) (by kernel_rfl) (by kernel_rfl) rfl (fun _ _ _ h => h) rfl rfl rfl (ev_mv rfl rfl) (SR.take 1 rfl (by kernel_rfl) (by kernel_rfl) (by kernel_rfl) rfl (fun _ _ _ h => h) rfl rfl rfl (ev_mv rfl rfl) (SR.take 2 rfl (by kernel_rfl) (by kernel_rfl) (by kernel_rfl) rfl (fun _ _ _ h => h) rfl rfl rfl (ev_ix rfl Try.underlying56 ty3 rfl rfl (by omega) (by omega) (fun _ _ => Fr.adr (i := i) (Fr.ext hA hx_3) (by omega) (by omega))) (SR.take 3 rfl (by kernel_rfl) (by kernel_rfl) (by kernel_rfl) rfl (fun _ _ _ h => h) rfl rfl rfl (ev_ld1 rfl ty3 rfl (At.elem1 (At.d (Fr.el (i := i) (Fr.ext hA hx_3) (by omega) (by omega))) 0 rfl)) (SR.take 4 rfl (by kernel_rfl) (by kernel_rfl) (by kernel_rfl) rfl (fun _ _ _ h => h) rfl rfl rfl (ev_mv rfl rfl) (SR.take 5 rfl (by kernel_rfl) (by kernel_rfl) (by kernel_rfl) rfl (fun _ _ _ h => h) rfl rfl rfl (ev_mv rfl rfl) ?_)))))
      refine SR.take 6 rfl (by kernel_rfl) (by kernel_rfl) (by kernel_rfl) rfl (fun _ _ _ h => h) rfl rfl rfl (ev_ix rfl Try.underlying56 ty3 rfl rfl (by omega) (by omega) (fun _ _ => Fr.adr (i := i) (Fr.ext hB hx_3) (by omega) (by omega))) (SR.take 7 rfl (by kernel_rfl) (by kernel_rfl) (by kernel_rfl) rfl (fun _ _ _ h => h) rfl rfl rfl (ev_ld1 rfl ty3 rfl (At.elem1 (At.d (Fr.el (i := i) (Fr.ext hB hx_3) (by omega) (by omega))) 0 rfl)) (SR.take 8 rfl (by kernel_rfl) (by kernel_rfl) (by kernel_rfl) rfl (fun _ _ _ h => h) rfl rfl rfl (ev_cmp rfl rfl rfl rfl) (SR.fin (by kernel_rfl) hl_3 hx_3 hR_3 .n (SQ.go (fun _ _ h => h) (.condI rfl bNE (fun h4 => ?_) (fun h4 => ?_))))))
      ·
        exact .seq (.region (.cons (Ev.step (ev_as rfl rfl) rfl rfl rfl (.go (fun _ _ h => h) (.ret (fun _ _ h => h) (ret1 Try.results43 rfl .n ⟨(congrArg Value.bool (decide_eq_false (by first | (intro h_; simp_all; done) | exact take_ne (i := i) (by omega) (by omega) (by simp_all))).symm), rfl⟩))))))
      ·
        exact .skipgo (fun _ _ h => h) (.region (.cons (Ev.step (ev_add rfl rfl rfl (r := (i + 1)) rfl (by omega) (by omega)) rfl rfl rfl (.cons (Ev.step (ev_mv rfl rfl) rfl rfl rfl (SP.nil (SQ.roundb (X := Int) (x := (i)) (i + 1) (by exact ⟨by omega, by omega, beq_take q_2 (by omega) (by omega) (by omega) (by first | (simp_all; done) | exact bl_inj (by simp_all))⟩) (by show (_ : Nat) < _; omega) (Sub.get (.c rfl (.c rfl (.c rfl (.c rfl (.c rfl .n)))))) (fun w hw => hw.keep .n))))))))
    ·
      exact .exit (fun _ _ h => h) (.seq (.region (.cons (Ev.step (ev_as rfl rfl) rfl rfl rfl (.go (fun _ _ h => h) (.ret (fun _ _ h => h) (ret1 Try.results43 rfl .n ⟨(congrArg Value.bool (decide_eq_true (take_all q_2 (by omega) (by omega))).symm), rfl⟩)))))))

theorem index_ (A : Option Addr) (n : Nat) (c : Nat) (a : List ByteArray) (s : ByteArray) (S : Nat → Prop) (wf : World) (hA : Fr eS S wf A a) (hn : a.length = n) :
    TR0 Try.prog 73 [.slice A n c, .string s] [] S wf (fun v_ C_ => ∃ (r : Int), ((r = -1 ∧ ∀ x ∈ a, x ≠ s) ∨ (0 ≤ r ∧ r < a.length ∧ gt a r = s ∧ ∀ x ∈ a.take r.toNat, x ≠ s)) ∧ v_ = .int .i64 r ∧ C_ = []) := by
  have hla := hA.len
  refine TR.mk Try.func73 rfl Try.ntmps73 rfl rfl (fun w_ => ?_)
  refine .seq (.region (.cons (Ev.step (ev_as rfl rfl) rfl rfl rfl (.go (fun _ _ h => h) (.seq (.seq ?_))))))
  refine .region (.cons (Ev.step (ev_mv rfl rfl) rfl rfl rfl (.cons (Ev.step (ev_len rfl Try.underlying82 rfl) rfl rfl rfl (.cons (Ev.step (ev_mv rfl rfl) rfl rfl rfl (.go (fun _ _ h => h) (.block ?_))))))))
  refine .loop (X := Int) (fun i => 0 ≤ i ∧ i ≤ a.length ∧ ∀ x ∈ a.take i.toNat, x ≠ s) (fun i => [(0, .slice A n c), (1, .string s), (6, .slice A n c), (7, .int .i64 (n : Int)), (8, .int .i64 i)]) (fun i => []) (fun _ => S) (fun _ => wf) (fun i => (a.length - i.toNat)) (fun a_ w_ hs_ hw_ => ⟨0, (by exact ⟨by omega, by omega, by simp⟩), hs_.mono (Sub.get (.c rfl (.c rfl (.c rfl (.c rfl (.c rfl .n)))))), hw_.keep .n⟩) (fun i ⟨q_0, q_1, q_2⟩ => ?_)
  show SC _ _ _ _ _ ⟨[(0, .slice A n c), (1, .string s), (6, .slice A n c), (7, .int .i64 (n : Int)), (8, .int .i64 i)], [], S, wf⟩
  refine .seq (.region (.cons (Ev.step (ev_cmp rfl rfl rfl rfl) rfl rfl rfl (.go (fun _ _ h => h) (.seq (.condI rfl bD (fun h1 => ?_) (fun h1 => ?_)))))))
  ·
    refine .skipgo (fun _ _ h => h) (.seq (.block (.seq (.region (.cons (Ev.step (ev_mv rfl rfl) rfl rfl rfl ?_))))))
    refine .cons (Ev.step (ev_as rfl rfl) rfl rfl rfl (.go (fun _ _ h => h) (.seq (.region (.cons (Ev.step (ev_mv rfl rfl) rfl rfl rfl (.cons (Ev.step (ev_mv rfl rfl) rfl rfl rfl ?_))))))))
    refine .cons (Ev.step (ev_mv rfl rfl) rfl rfl rfl (.cons (Ev.step (ev_ix rfl Try.underlying82 ty9 rfl rfl (by omega) (by omega) (fun _ _ => Fr.adr (i := i) hA (by omega) (by omega))) rfl rfl rfl (.cons (Ev.step (ev_ld1 rfl ty9 rfl (At.elem1 (At.w (Fr.el (i := i) hA (by omega) (by omega))) 0 rfl)) rfl rfl rfl (.cons (Ev.step (ev_scmp rfl rfl rfl rfl) rfl rfl rfl (.go (fun _ _ h => h) (.condI rfl bV (fun h2 => ?_) (fun h2 => ?_))))))))))
    ·
      exact .seq (.region (.cons (Ev.step (ev_mv rfl rfl) rfl rfl rfl (.cons (Ev.step (ev_as rfl rfl) rfl rfl rfl (.go (fun _ _ h => h) (.ret (fun _ _ h => h) (ret1 Try.results73 rfl .n ⟨i, (Or.inr ⟨by omega, by omega, by first | (simp_all; done) | exact bl_inj (by simp_all), q_2⟩), rfl, rfl⟩))))))))
    ·
      exact .skipgo (fun _ _ h => h) (.region (.cons (Ev.step (ev_add rfl rfl rfl (r := (i + 1)) rfl (by omega) (by omega)) rfl rfl rfl (.cons (Ev.step (ev_mv rfl rfl) rfl rfl rfl (SP.nil (SQ.roundb (X := Int) (x := (i)) (i + 1) (by exact ⟨by omega, by omega, none_step q_2 (by omega) (by omega) (by intro h_; simp_all)⟩) (by show (_ : Nat) < _; omega) (Sub.get (.c rfl (.c rfl (.c rfl (.c rfl (.c rfl .n)))))) (fun w hw => hw.keep .n))))))))
  ·
    exact .exit (fun _ _ h => h) (.seq (.region (.cons (Ev.step (ev_as rfl rfl) rfl rfl rfl (.go (fun _ _ h => h) (.ret (fun _ _ h => h) (ret1 Try.results73 rfl .n ⟨(-1), (Or.inl ⟨rfl, by have h_ := q_2; rw [List.take_of_length_le (by omega)] at h_; exact h_⟩), rfl, rfl⟩)))))))

theorem kids_ (A : Option Addr) (n : Nat) (c : Nat) (l : List TV) (i : Int) (S : Nat → Prop) (wf : World) (hP : Fr eTV S wf A l) (hN : NT S wf l) (hn : l.length = n) (hi : 0 ≤ i ∧ i < n) (hks : ∀ k : Int, 0 ≤ k → k < (gt l i).v.ks.length → kidOk l i k) (hkl : (gt l i).v.ks.length ≤ 100000) :
    TR0 Try.prog 63 [.agg #[.slice A n c, .int .i64 i]] [] S wf (fun v_ C_ => ∃ (u : Value), v_ = u ∧ C_ = [rw_ (ePt A n c) 112 (u) ((gt l i).v.ks)]) := by
  have hla := hP.len
  refine TR.mk Try.func63 rfl Try.ntmps63 rfl rfl (fun w_ => ?_)
  refine .seq (.region (.cons (st_boxa rfl rfl rfl rfl rfl (fun b1 => .cons (Ev.step (ev_as rfl rfl) rfl rfl rfl (.go (fun _ _ h => h) (.seq ?_)))))))
  refine .region (.cons (Ev.step (ev_as rfl rfl) rfl rfl rfl (.go (fun _ _ h => h) (.seq (.seq ?_)))))
  refine SC.nilrow (ePt A n c) 112 ?_
  refine .region (.cons (Ev.step (ev_lda rfl rfl (At.whole 1 rfl) ty112) rfl rfl rfl (.cons (st_callk rfl rfl rfl rfl hbd61 rfl .n (value_ A n c l i _ _ hP (by first | ((try simp only [List.length_nil, List.length_cons, List.length_append, List.length_set, List.length_singleton, List.length_take, List.length_drop, List.length_reverse]) <;> omega) | omega) (by omega)) (.cons (Ev.step (ev_any (v := .slice ((gt l i).kA) ((gt l i).v.ks.length) ((gt l i).kc)) rfl (by kernel_rfl) (fun _ => by kernel_rfl)) rfl rfl rfl (.cons (Ev.step (ev_len rfl Try.underlying56 rfl) rfl rfl rfl (.cons (Ev.step (ev_mv rfl rfl) rfl rfl rfl ?_))))))))))
  refine .go (fun _ _ h => h) (.block ?_)
  refine .loop (X := Int × Value × (List Int)) (fun ⟨j, W, X⟩ => 0 ≤ j ∧ j ≤ (gt l i).v.ks.length ∧ X = (gt l i).v.ks.take j.toNat ∧ (X.length : Int) = j) (fun ⟨j, W, X⟩ => [(1, .pointer (some ⟨b1, 0, none⟩)), (3, W), (8, .int .i64 (((gt l i).v.ks.length : Nat) : Int)), (9, .int .i64 j)]) (fun ⟨j, W, X⟩ => [cel b1 [.slice A n c, .int .i64 i] 112, rw_ (ePt A n c) 112 (W) X]) (fun _ => S) (fun _ => wf) (fun ⟨j, W, X⟩ => ((gt l i).v.ks.length - j.toNat)) (fun a_ w_ hs_ hw_ => ⟨⟨0, (.slice none 0 0), ([] : List Int)⟩, (by exact ⟨by omega, by omega, rfl, rfl⟩), hs_.mono (Sub.get (.c rfl (.c rfl (.c rfl (.c rfl .n))))), hw_.keep (.c (.t .h) (.c .h .n))⟩) (fun ⟨j, W, X⟩ ⟨q_0, q_1, q_2, q_3⟩ => ?_)
  show SC _ _ _ _ _ ⟨[(1, .pointer (some ⟨b1, 0, none⟩)), (3, W), (8, .int .i64 (((gt l i).v.ks.length : Nat) : Int)), (9, .int .i64 j)], [cel b1 [.slice A n c, .int .i64 i] 112, rw_ (ePt A n c) 112 (W) X], S, wf⟩
  refine .seq (.region (.cons (Ev.step (ev_cmp rfl rfl rfl rfl) rfl rfl rfl (.go (fun _ _ h => h) (.seq (.condI rfl bD (fun h2 => ?_) (fun h2 => ?_)))))))
  ·
    refine .skipgo (fun _ _ h => h) (.seq (.block (.seq (.region (.cons (Ev.step (ev_mv rfl rfl) rfl rfl rfl ?_))))))
    refine .cons (Ev.step (ev_as rfl rfl) rfl rfl rfl (.go (fun _ _ h => h) (.region (.cons (Ev.step (ev_mv rfl rfl) rfl rfl rfl (.cons (Ev.step (ev_lda rfl rfl (At.whole 0 rfl) ty112) rfl rfl rfl (.cons (Ev.step (ev_mv rfl rfl) rfl rfl rfl ?_)))))))))
    refine .cons (st_callk rfl rfl rfl rfl hbd60 rfl .n (kid_ A n c l i j _ _ hP hN (by first | ((try simp only [List.length_nil, List.length_cons, List.length_append, List.length_set, List.length_singleton, List.length_take, List.length_drop, List.length_reverse]) <;> omega) | omega) (by omega) (hks j (by omega) (by omega))) (.cons (st_lit (ePt A n c) (e := 112) (l := [(kidT l i j)]) rfl rfl rfl rfl (by kernel_rfl) rfl rfl (fun w => by kernel_rfl) (fun b3 => .cons (st_app (E := (ePt A n c)) (m := [(kidT l i j)]) rfl rfl rfl rfl Try.underlying115 ai112 rfl rfl rfl (.t (.t .h)) (by first | rfl | omega | simp) (row_src 0 rfl) (by first | ((try simp only [List.length_nil, List.length_cons, List.length_append, List.length_set, List.length_singleton, List.length_take, List.length_drop, List.length_reverse]) <;> omega) | omega) rfl (fun v4 => .cons (Ev.step (ev_as rfl rfl) rfl rfl rfl (.go (fun _ _ h => h) (.region ?_)))))))))
    exact .cons (Ev.step (ev_add rfl rfl rfl (r := (j + 1)) rfl (by omega) (by omega)) rfl rfl rfl (.cons (Ev.step (ev_mv rfl rfl) rfl rfl rfl (SP.nil (SQ.roundb (X := Int × Value × (List Int)) (x := (j, W, X)) ⟨(j + 1), v4, (X ++ [(kidT l i j)])⟩ (by exact ⟨by omega, by omega, by rw [q_2, take_gt (by omega) (by omega)]; rfl, by rw [List.length_append]; simp; omega⟩) (by dsimp only; omega) (Sub.get (.c rfl (.c rfl (.c rfl (.c rfl .n))))) (fun w hw => hw.keep (.c (.t (.t .h)) (.c .h .n))))))))
  ·
    refine .exit (fun _ _ h => h) (.seq ?_)
    have hX : X = (gt l i).v.ks := by rw [q_2]; exact List.take_of_length_le (by omega)
    subst hX
    exact .region (.cons (Ev.step (ev_mv rfl rfl) rfl rfl rfl (.cons (Ev.step (ev_as rfl rfl) rfl rfl rfl (.go (fun _ _ h => h) (.ret (fun _ _ h => h) (ret1 Try.results63 rfl (.c (.t .h) .n) ⟨W, rfl, rfl⟩)))))))

end Go.Proofs.Ythmkelkefmfmgaa.Sx
