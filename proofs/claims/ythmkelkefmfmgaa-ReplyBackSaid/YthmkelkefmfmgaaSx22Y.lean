import Derived.Test.YthmkelkefmfmgaaProg
import Derived.Test.YthmkelkefmfmgaaSxAgain
import Derived.Test.YthmkelkefmfmgaaSxWin
import Derived.Test.YthmkelkefmfmgaaSx22A
import Derived.Test.YthmkelkefmfmgaaSx22B
import Derived.Test.YthmkelkefmfmgaaSx22W
import Derived.Test.YthmkelkefmfmgaaSx22M
import Derived.Test.YthmkelkefmfmgaaSx22F
import Derived.Test.YthmkelkefmfmgaaSx22X
import Derived.Test.YthmkelkefmfmgaaSx22G
import Derived.Test.YthmkelkefmfmgaaSx22H
import Derived.Test.YthmkelkefmfmgaaSx22K
import Derived.Test.YthmkelkefmfmgaaSx22R
import Derived.Test.YthmkelkefmfmgaaSx22E
import Derived.Test.YthmkelkefmfmgaaSx22L
import Derived.Test.YthmkelkefmfmgaaSx22N
import Derived.Test.YthmkelkefmfmgaaSx22O
import Derived.Test.YthmkelkefmfmgaaSx22U
import Derived.Test.YthmkelkefmfmgaaSx22V
set_option maxRecDepth 20000
set_option maxHeartbeats 4000000
set_option linter.unusedVariables false
set_option linter.unusedSimpArgs false
namespace Go.Proofs.Ythmkelkefmfmgaa.Sx.FY
open Go Go.SX Go.Proofs
theorem zf30 : (Try.prog.info? 30).bind (fun i => i.zero.map Value.cells) = some (List.toArray [.int .i64 0, .int .i64 0, .string ⟨#[]⟩, .bool false, .int .i64 0, .int .i64 0, .int .i64 0, .int .i64 0, .int .i64 0, .int .i64 0, .int .i64 0, .int .i64 0, .slice none 0 0, .slice none 0 0]) := by kernel_rfl
theorem hbd39 : hasBody Try.prog 39 = true := by kernel_rfl
theorem ty30 : ty Try.prog 30 = some (true, 14) := by kernel_rfl
theorem hbd11 : hasBody Try.prog 11 = true := by kernel_rfl
theorem hbd40 : hasBody Try.prog 40 = true := by kernel_rfl
theorem mo : Try.prog.follows .mixedOrders = true := by kernel_rfl


end Go.Proofs.Ythmkelkefmfmgaa.Sx.FY
namespace Go.Proofs.Ythmkelkefmfmgaa.Sx
open Go Go.SX Go.Proofs FY





theorem read_ (A : Option Addr) (n : Nat) (c : Nat) (l : List TV) (op : Bool) (x0 : Int) (x1 : Int) (x2 : Int) (x3 : Int) (x4 : Int) (x5 : Int) (x6 : Int) (x7 : Int) (ps : List PV) (lf : List TK) (S : Nat → Prop) (wf : World) (hP : Fr eTV S wf A l) (hN : NT S wf l) (hn : l.length = n) (hn0 : 0 < n) (hW : wholeOk l ((n : Int) - 1)) (he : (gt l (kidT l ((n : Int) - 1) 1)).v.truth = op ∧ numT l (kidT l ((n : Int) - 1) 2) 0 = x0 ∧ numT l (kidT l ((n : Int) - 1) 2) 1 = x1 ∧ numT l (kidT l ((n : Int) - 1) 2) 2 = x2 ∧ numT l (kidT l ((n : Int) - 1) 2) 3 = x3 ∧ numT l (kidT l ((n : Int) - 1) 2) 4 = x4 ∧ numT l (kidT l ((n : Int) - 1) 2) 5 = x5 ∧ numT l (kidT l ((n : Int) - 1) 2) 6 = x6 ∧ numT l (kidT l ((n : Int) - 1) 2) 7 = x7) (hps : (ksT l (kidT l ((n : Int) - 1) 3)).map (rdPlan l) = ps.map pv) (hlf : (ksT l (kidT l ((n : Int) - 1) 4)).map (rdTask l) = lf) (hvs : vs l = okT op ⟨x0, x1, x2, x3, x4, x5, x6, x7⟩ ps lf) (hpl : ps.length ≤ 8) (hll : lf.length ≤ 50) (hS : ∀ p ∈ ps, bP p) :
    TR0 Try.prog 17 [.slice A n c] [] S wf (fun v_ C_ => ∃ (pA : Option Addr) (pc : Nat) (Ps : List PV) (kA : Option Addr) (kc : Nat) (Lt : List TK), (Ps.map pv = ps.map pv) ∧ (Lt = lf) ∧ v_ = .tuple #[.agg #[.int .i64 0, .int .i64 0, .string ⟨#[]⟩, .bool op, .int .i64 x0, .int .i64 x1, .int .i64 x2, .int .i64 x3, .int .i64 x4, .int .i64 x5, .int .i64 x6, .int .i64 x7, .slice pA Ps.length pc, .slice kA Lt.length kc], .bool true] ∧ C_ = [rw_ ePL 52 (.slice pA Ps.length pc) Ps, nestP 58 3 Ps, rw_ eTK 62 (.slice kA Lt.length kc) Lt]) := by
  have hla := hP.len
  obtain ⟨e0, e1, e2, e3, e4, e5, e6, e7, e8⟩ := he
  refine TR.mk Try.func17 rfl Try.ntmps17 rfl rfl (fun w_ => ?_)
  refine .seq (.region (.cons (st_alloc rfl rfl rfl rfl zf30 (fun b1 => .cons (Ev.step (ev_as rfl rfl) rfl rfl rfl (.go (fun _ _ h => h) (.seq ?_)))))))
  refine .seq (.region (.cons (Ev.step (ev_mv rfl rfl) rfl rfl rfl (.cons (Ev.step (ev_len rfl Try.underlying34 rfl) rfl rfl rfl (.cons (Ev.step (ev_cmp rfl rfl rfl rfl) rfl rfl rfl (.go (fun _ _ h => h) ?_))))))))
  refine .condI rfl bE (fun h2 => ?_) (fun h2 => ?_)
  ·
    exfalso; first | omega | (simp_all; done) | (simp_all; omega)
  ·
    refine .skipgo (fun _ _ h => h) (.seq (.region (.cons (Ev.step (ev_mv rfl rfl) rfl rfl rfl (.cons (st_call0 rfl rfl rfl rfl hbd39 rfl .n (whole_ A n c l _ _ hP hN (by first | ((try simp only [List.length_nil, List.length_cons, List.length_append, List.length_set, List.length_singleton, List.length_take, List.length_drop, List.length_reverse]) <;> omega) | omega) (by omega) hW) (fun v_q9 C_q9 q9 => ?_)))))))
    obtain ⟨pA3, pc4, Ps5, kA6, kc7, Lt8, p10, p11, rfl, rfl⟩ := q9
    show SP _ _ _ _ _ _ ⟨_, _ :: _ :: _ :: _, _, _⟩
    have hPs : Ps5.map pv = ps.map pv := p10.trans hps
    have hPl : Ps5.length = ps.length := by have h_ := congrArg List.length hPs; simpa using h_
    have hTs : Lt8 = lf := p11.trans hlf
    have hTl := congrArg List.length hTs
    have hBs := bPs_pv hPs hS
    refine .cons (Ev.step (ev_mv rfl rfl) rfl rfl rfl (.cons (Ev.step (ev_ext rfl rfl rfl) rfl rfl rfl (.cons (Ev.step (ev_ext rfl rfl rfl) rfl rfl rfl (.cons (st_alloc rfl rfl rfl rfl zf30 (fun b12 => .cons (st_storea (l' := [.int .i64 0, .int .i64 0, .string ⟨#[]⟩, .bool ((gt l (kidT l ((n : Int) - 1) 1)).v.truth), .int .i64 (numT l (kidT l ((n : Int) - 1) 2) 0), .int .i64 (numT l (kidT l ((n : Int) - 1) 2) 1), .int .i64 (numT l (kidT l ((n : Int) - 1) 2) 2), .int .i64 (numT l (kidT l ((n : Int) - 1) 2) 3), .int .i64 (numT l (kidT l ((n : Int) - 1) 2) 4), .int .i64 (numT l (kidT l ((n : Int) - 1) 2) 5), .int .i64 (numT l (kidT l ((n : Int) - 1) 2) 6), .int .i64 (numT l (kidT l ((n : Int) - 1) 2) 7), .slice pA3 Ps5.length pc4, .slice kA6 Lt8.length kc7]) rfl rfl rfl ty30 rfl rfl rfl .h rfl rfl (.cons (Ev.step (ev_as rfl rfl) rfl rfl rfl ?_)))))))))))
    refine .go (fun _ _ h => h) (.seq ?_)
    refine SC.draw mo [cel b1 [.int .i64 0, .int .i64 0, .string ⟨#[]⟩, .bool false, .int .i64 0, .int .i64 0, .int .i64 0, .int .i64 0, .int .i64 0, .int .i64 0, .int .i64 0, .int .i64 0, .slice none 0 0, .slice none 0 0] 30] [] (.c (.t (.t (.t (.t .h)))) .n) (fun _ _ _ c hc => by cases hc) (fun wf_13 hl_13 hx_13 hR_13 => ?_)
    refine SR.take 0 rfl (by kernel_rfl) (by kernel_rfl) (by kernel_rfl) rfl (fun _ _ _ h => h) rfl rfl rfl (ev_lda (cs := [.int .i64 0, .int .i64 0, .string ⟨#[]⟩, .bool ((gt l (kidT l ((n : Int) - 1) 1)).v.truth), .int .i64 (numT l (kidT l ((n : Int) - 1) 2) 0), .int .i64 (numT l (kidT l ((n : Int) - 1) 2) 1), .int .i64 (numT l (kidT l ((n : Int) - 1) 2) 2), .int .i64 (numT l (kidT l ((n : Int) - 1) 2) 3), .int .i64 (numT l (kidT l ((n : Int) - 1) 2) 4), .int .i64 (numT l (kidT l ((n : Int) - 1) 2) 5), .int .i64 (numT l (kidT l ((n : Int) - 1) 2) 6), .int .i64 (numT l (kidT l ((n : Int) - 1) 2) 7), .slice pA3 Ps5.length pc4, .slice kA6 Lt8.length kc7]) rfl rfl (At.d (At.lent hR_13 0 rfl rfl)) ty30) (SR.take 1 rfl (by kernel_rfl) (by kernel_rfl) (by kernel_rfl) rfl (fun _ _ _ h => h) rfl rfl rfl (ev_mv rfl rfl) (SR.take 2 rfl (by kernel_rfl) (by kernel_rfl) (by kernel_rfl) rfl (fun _ _ _ h => h) rfl rfl rfl (ev_mv rfl rfl) (SR.gtake 3 rfl (by kernel_rfl) (by kernel_rfl) (by kernel_rfl) rfl (fun _ _ _ _ h => h) rfl rfl rfl rfl rfl (fun _ => ev_lda (cs := [.int .i64 0, .int .i64 0, .string ⟨#[]⟩, .bool ((gt l (kidT l ((n : Int) - 1) 1)).v.truth), .int .i64 (numT l (kidT l ((n : Int) - 1) 2) 0), .int .i64 (numT l (kidT l ((n : Int) - 1) 2) 1), .int .i64 (numT l (kidT l ((n : Int) - 1) 2) 2), .int .i64 (numT l (kidT l ((n : Int) - 1) 2) 3), .int .i64 (numT l (kidT l ((n : Int) - 1) 2) 4), .int .i64 (numT l (kidT l ((n : Int) - 1) 2) 5), .int .i64 (numT l (kidT l ((n : Int) - 1) 2) 6), .int .i64 (numT l (kidT l ((n : Int) - 1) 2) 7), .slice pA3 Ps5.length pc4, .slice kA6 Lt8.length kc7]) rfl rfl (At.d (At.lent hR_13 0 rfl rfl)) ty30) (SR.gtake 5 rfl (by kernel_rfl) (by kernel_rfl) (by kernel_rfl) rfl (fun _ _ _ _ h => h) rfl rfl rfl rfl rfl (fun _ => ev_mv rfl rfl) (SR.one (j := 4) (by kernel_rfl) rfl (.on rfl rfl rfl (st_call0 rfl rfl rfl rfl hbd11 rfl .n (tree_ 0 0 ⟨#[]⟩ ((gt l (kidT l ((n : Int) - 1) 1)).v.truth) (numT l (kidT l ((n : Int) - 1) 2) 0) (numT l (kidT l ((n : Int) - 1) 2) 1) (numT l (kidT l ((n : Int) - 1) 2) 2) (numT l (kidT l ((n : Int) - 1) 2) 3) (numT l (kidT l ((n : Int) - 1) 2) 4) (numT l (kidT l ((n : Int) - 1) 2) 5) (numT l (kidT l ((n : Int) - 1) 2) 6) (numT l (kidT l ((n : Int) - 1) 2) 7) pA3 pc4 Ps5 kA6 kc7 Lt8 _ _ (Fr.lent (S := S) hR_13 1 rfl (by first | ((try simp only [List.length_nil, List.length_cons, List.length_append, List.length_set, List.length_singleton, List.length_take, List.length_drop, List.length_reverse]) <;> omega) | omega)) (Fr.lent (S := S) hR_13 3 rfl (by first | ((try simp only [List.length_nil, List.length_cons, List.length_append, List.length_set, List.length_singleton, List.length_take, List.length_drop, List.length_reverse]) <;> omega) | omega)) (NP.lent (S := S) hR_13 2 rfl) rfl (by first | ((try simp only [List.length_nil, List.length_cons, List.length_append, List.length_set, List.length_singleton, List.length_take, List.length_drop, List.length_reverse]) <;> omega) | omega) (by first | ((try simp only [List.length_nil, List.length_cons, List.length_append, List.length_set, List.length_singleton, List.length_take, List.length_drop, List.length_reverse]) <;> omega) | omega) hBs) (fun v_q16 C_q16 q16 => ⟨tt0, ?_⟩))))))))
    obtain ⟨u14, L15, p17, p18, rfl, rfl⟩ := q16
    show SR _ _ _ _ _ _ _ _ _ ⟨_, _ :: _ :: _, _, _⟩
    have hvL : vs L15 = vs l := by rw [p17, hvs, okT_pv hPs, hTs, e0, e1, e2, e3, e4, e5, e6, e7, e8]
    have hLl : L15.length = l.length := by have h_ := congrArg List.length hvL; rw [vs_len, vs_len] at h_; exact h_
    refine .know (row_len 0 rfl) (fun hv21 => ?_)
    obtain ⟨A19, c20, rfl, hv21_1, hv21_2⟩ := hv21
    unfold maxLen at hv21_2
    refine SR.one (j := 6) (by kernel_rfl) rfl (.on rfl rfl rfl (st_lendk rfl rfl rfl rfl hbd40 rfl .n (.c .h (.c .h .n)) (fun w_ hw => eqF A19 L15.length c20 L15 A n c l _ _ (Fr.lend hw 0 rfl (by first | ((try simp only [List.length_nil, List.length_cons, List.length_append, List.length_set, List.length_singleton, List.length_take, List.length_drop, List.length_reverse]) <;> omega) | omega)) (Fr.ext (Fr.ext hP hx_13) hw.lendx) (NT.lend hw 1 rfl) ((((hN).ext hx_13)).ext hw.lendx) (by first | ((try simp only [List.length_nil, List.length_cons, List.length_append, List.length_set, List.length_singleton, List.length_take, List.length_drop, List.length_reverse]) <;> omega) | omega) (by first | ((try simp only [List.length_nil, List.length_cons, List.length_append, List.length_set, List.length_singleton, List.length_take, List.length_drop, List.length_reverse]) <;> omega) | omega)) ⟨tt0, (SR.take 7 rfl (by kernel_rfl) (by kernel_rfl) (by kernel_rfl) rfl (fun _ _ _ h => h) rfl rfl rfl (ev_pickt rfl rfl rfl rfl) (SR.one (j := 8) (by kernel_rfl) rfl (st_storea (l' := [.int .i64 0, .int .i64 0, .string ⟨#[]⟩, .bool ((gt l (kidT l ((n : Int) - 1) 1)).v.truth), .int .i64 (numT l (kidT l ((n : Int) - 1) 2) 0), .int .i64 (numT l (kidT l ((n : Int) - 1) 2) 1), .int .i64 (numT l (kidT l ((n : Int) - 1) 2) 2), .int .i64 (numT l (kidT l ((n : Int) - 1) 2) 3), .int .i64 (numT l (kidT l ((n : Int) - 1) 2) 4), .int .i64 (numT l (kidT l ((n : Int) - 1) 2) 5), .int .i64 (numT l (kidT l ((n : Int) - 1) 2) 6), .int .i64 (numT l (kidT l ((n : Int) - 1) 2) 7), .slice pA3 Ps5.length pc4, .slice kA6 Lt8.length kc7]) rfl rfl rfl ty30 rfl rfl rfl (.t (.t .h)) rfl rfl ⟨tt0, (SR.take 9 rfl (by kernel_rfl) (by kernel_rfl) (by kernel_rfl) rfl (fun _ _ _ h => h) rfl rfl rfl (ev_as rfl rfl) (SR.fin (by kernel_rfl) hl_13 hx_13 hR_13 (.c (.c (.c .n))) (SQ.go (fun _ _ h => h) ?_)))⟩)))⟩))
    exact .ret (fun _ _ h => h) (retv2 Try.results17 (.c 0 rfl rfl ty30) (.t rfl) (.c (.t (.t (.t (.t .h)))) (.c (.t (.t (.t (.t .h)))) (.c (.t (.t (.t (.t .h)))) .n))) ⟨pA3, pc4, Ps5, kA6, kc7, Lt8, hPs, hTs, (by simp [hvL, e0, e1, e2, e3, e4, e5, e6, e7, e8]), rfl⟩)

end Go.Proofs.Ythmkelkefmfmgaa.Sx
