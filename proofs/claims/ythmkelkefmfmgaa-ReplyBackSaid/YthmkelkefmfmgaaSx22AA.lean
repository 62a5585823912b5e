import Derived.Test.YthmkelkefmfmgaaProg
import Derived.Test.YthmkelkefmfmgaaSxLaw22
import Derived.Test.YthmkelkefmfmgaaSxWin
import Derived.Test.YthmkelkefmfmgaaSx22A
import Derived.Test.YthmkelkefmfmgaaSx22B
import Derived.Test.YthmkelkefmfmgaaSx22W
import Derived.Test.YthmkelkefmfmgaaSx22M
import Derived.Test.YthmkelkefmfmgaaSx22F
import Derived.Test.YthmkelkefmfmgaaSx22X
import Derived.Test.YthmkelkefmfmgaaSx22G
import Derived.Test.YthmkelkefmfmgaaSx22H
import Derived.Test.YthmkelkefmfmgaaSx22K
import Derived.Test.YthmkelkefmfmgaaSx22R
import Derived.Test.YthmkelkefmfmgaaSx22E
import Derived.Test.YthmkelkefmfmgaaSx22L
import Derived.Test.YthmkelkefmfmgaaSx22N
import Derived.Test.YthmkelkefmfmgaaSx22O
import Derived.Test.YthmkelkefmfmgaaSx22U
import Derived.Test.YthmkelkefmfmgaaSx22V
import Derived.Test.YthmkelkefmfmgaaSx22Y
import Derived.Test.YthmkelkefmfmgaaSx22Z
set_option maxRecDepth 20000
set_option maxHeartbeats 4000000
set_option linter.unusedVariables false
set_option linter.unusedSimpArgs false
namespace Go.Proofs.Ythmkelkefmfmgaa.Sx.FAA
open Go Go.SX Go.Proofs
theorem zf30 : (Try.prog.info? 30).bind (fun i => i.zero.map Value.cells) = some (List.toArray [.int .i64 0, .int .i64 0, .string ⟨#[]⟩, .bool false, .int .i64 0, .int .i64 0, .int .i64 0, .int .i64 0, .int .i64 0, .int .i64 0, .int .i64 0, .int .i64 0, .slice none 0 0, .slice none 0 0]) := by kernel_rfl
theorem hbd39 : hasBody Try.prog 39 = true := by kernel_rfl
theorem ty30 : ty Try.prog 30 = some (true, 14) := by kernel_rfl
theorem hbd11 : hasBody Try.prog 11 = true := by kernel_rfl
theorem hbd40 : hasBody Try.prog 40 = true := by kernel_rfl
theorem mo : Try.prog.follows .mixedOrders = true := by kernel_rfl


end Go.Proofs.Ythmkelkefmfmgaa.Sx.FAA
namespace Go.Proofs.Ythmkelkefmfmgaa.Sx
open Go Go.SX Go.Proofs FAA





theorem read_f (A : Option Addr) (n : Nat) (c : Nat) (l : List TV) (cd : Int) (at_ : Int) (path : ByteArray) (S : Nat → Prop) (wf : World) (hP : Fr eTV S wf A l) (hN : NT S wf l) (hn : l.length = n) (hvs : vs l = faultT cd at_ path) (hc : cd ≠ 0) :
    TR0 Try.prog 17 [.slice A n c] [] S wf (fun v_ C_ => v_ = .tuple #[.agg #[.int .i64 cd, .int .i64 at_, .string path, .bool false, .int .i64 0, .int .i64 0, .int .i64 0, .int .i64 0, .int .i64 0, .int .i64 0, .int .i64 0, .int .i64 0, .slice none 0 0, .slice none 0 0], .bool true] ∧ C_ = []) := by
  have hla := hP.len
  have hfr := fault_read hvs
  rw [hn] at hfr
  obtain ⟨hn5, f4, w0, e1, e2, e3⟩ := hfr
  have hI : 0 ≤ ((n : Int) - 1) ∧ ((n : Int) - 1) < (n : Int) := ⟨by omega, by omega⟩
  refine TR.mk Try.func17 rfl Try.ntmps17 rfl rfl (fun w_ => ?_)
  refine .seq (.region (.cons (st_alloc rfl rfl rfl rfl zf30 (fun b1 => .cons (Ev.step (ev_as rfl rfl) rfl rfl rfl (.go (fun _ _ h => h) (.seq ?_)))))))
  refine .seq (.region (.cons (Ev.step (ev_mv rfl rfl) rfl rfl rfl (.cons (Ev.step (ev_len rfl Try.underlying34 rfl) rfl rfl rfl (.cons (Ev.step (ev_cmp rfl rfl rfl rfl) rfl rfl rfl (.go (fun _ _ h => h) ?_))))))))
  refine .condI rfl bE (fun h2 => ?_) (fun h2 => ?_)
  ·
    exfalso; first | omega | (simp_all; done) | (simp_all; omega)
  ·
    refine .skipgo (fun _ _ h => h) (.seq (.region (.cons (Ev.step (ev_mv rfl rfl) rfl rfl rfl (.cons (st_callk rfl rfl rfl rfl hbd39 rfl .n (whole_f A n c l cd at_ path _ _ hP hN (by first | ((try simp only [List.length_nil, List.length_cons, List.length_append, List.length_set, List.length_singleton, List.length_take, List.length_drop, List.length_reverse]) <;> omega) | omega) hvs hc) (.cons (Ev.step (ev_mv rfl rfl) rfl rfl rfl ?_))))))))
    refine .cons (Ev.step (ev_ext rfl rfl rfl) rfl rfl rfl (.cons (Ev.step (ev_ext rfl rfl rfl) rfl rfl rfl (.cons (st_alloc rfl rfl rfl rfl zf30 (fun b3 => .cons (st_storea (l' := [.int .i64 cd, .int .i64 at_, .string path, .bool false, .int .i64 0, .int .i64 0, .int .i64 0, .int .i64 0, .int .i64 0, .int .i64 0, .int .i64 0, .int .i64 0, .slice none 0 0, .slice none 0 0]) rfl rfl rfl ty30 rfl rfl rfl .h rfl rfl (.cons (Ev.step (ev_as rfl rfl) rfl rfl rfl (.go (fun _ _ h => h) ?_))))))))))
    refine .seq ?_
    refine SC.draw mo [cel b1 [.int .i64 0, .int .i64 0, .string ⟨#[]⟩, .bool false, .int .i64 0, .int .i64 0, .int .i64 0, .int .i64 0, .int .i64 0, .int .i64 0, .int .i64 0, .int .i64 0, .slice none 0 0, .slice none 0 0] 30] [] (.c (.t .h) .n) (fun _ _ _ c hc => by cases hc) (fun wf_4 hl_4 hx_4 hR_4 => ?_)
    refine SR.take 0 rfl (by kernel_rfl) (by kernel_rfl) (by kernel_rfl) rfl (fun _ _ _ h => h) rfl rfl rfl (ev_lda (cs := [.int .i64 cd, .int .i64 at_, .string path, .bool false, .int .i64 0, .int .i64 0, .int .i64 0, .int .i64 0, .int .i64 0, .int .i64 0, .int .i64 0, .int .i64 0, .slice none 0 0, .slice none 0 0]) rfl rfl (At.d (At.lent hR_4 0 rfl rfl)) ty30) (SR.take 1 rfl (by kernel_rfl) (by kernel_rfl) (by kernel_rfl) rfl (fun _ _ _ h => h) rfl rfl rfl (ev_mv rfl rfl) (SR.take 2 rfl (by kernel_rfl) (by kernel_rfl) (by kernel_rfl) rfl (fun _ _ _ h => h) rfl rfl rfl (ev_mv rfl rfl) (SR.gtake 3 rfl (by kernel_rfl) (by kernel_rfl) (by kernel_rfl) rfl (fun _ _ _ _ h => h) rfl rfl rfl rfl rfl (fun _ => ev_lda (cs := [.int .i64 cd, .int .i64 at_, .string path, .bool false, .int .i64 0, .int .i64 0, .int .i64 0, .int .i64 0, .int .i64 0, .int .i64 0, .int .i64 0, .int .i64 0, .slice none 0 0, .slice none 0 0]) rfl rfl (At.d (At.lent hR_4 0 rfl rfl)) ty30) (SR.gtake 5 rfl (by kernel_rfl) (by kernel_rfl) (by kernel_rfl) rfl (fun _ _ _ _ h => h) rfl rfl rfl rfl rfl (fun _ => ev_mv rfl rfl) (SR.one (j := 4) (by kernel_rfl) rfl (.on rfl rfl rfl (st_call0 rfl rfl rfl rfl hbd11 rfl .n (tree_f cd at_ path _ _ hc) (fun v_q7 C_q7 q7 => ⟨tt0, ?_⟩))))))))
    obtain ⟨u5, L6, p8, rfl, rfl⟩ := q7
    show SR _ _ _ _ _ _ _ _ _ ⟨_, _ :: _ :: _, _, _⟩
    have hvL : vs L6 = vs l := by rw [p8, hvs]
    have hLl : L6.length = l.length := by have h_ := congrArg List.length hvL; rw [vs_len, vs_len] at h_; exact h_
    refine .know (row_len 0 rfl) (fun hv11 => ?_)
    obtain ⟨A9, c10, rfl, hv11_1, hv11_2⟩ := hv11
    unfold maxLen at hv11_2
    refine SR.one (j := 6) (by kernel_rfl) rfl (.on rfl rfl rfl (st_lendk rfl rfl rfl rfl hbd40 rfl .n (.c .h (.c .h .n)) (fun w_ hw => eqF A9 L6.length c10 L6 A n c l _ _ (Fr.lend hw 0 rfl (by first | ((try simp only [List.length_nil, List.length_cons, List.length_append, List.length_set, List.length_singleton, List.length_take, List.length_drop, List.length_reverse]) <;> omega) | omega)) (Fr.ext (Fr.ext hP hx_4) hw.lendx) (NT.lend hw 1 rfl) ((((hN).ext hx_4)).ext hw.lendx) (by first | ((try simp only [List.length_nil, List.length_cons, List.length_append, List.length_set, List.length_singleton, List.length_take, List.length_drop, List.length_reverse]) <;> omega) | omega) (by first | ((try simp only [List.length_nil, List.length_cons, List.length_append, List.length_set, List.length_singleton, List.length_take, List.length_drop, List.length_reverse]) <;> omega) | omega)) ⟨tt0, (SR.take 7 rfl (by kernel_rfl) (by kernel_rfl) (by kernel_rfl) rfl (fun _ _ _ h => h) rfl rfl rfl (ev_pickt rfl rfl rfl rfl) (SR.one (j := 8) (by kernel_rfl) rfl (st_storea (l' := [.int .i64 cd, .int .i64 at_, .string path, .bool false, .int .i64 0, .int .i64 0, .int .i64 0, .int .i64 0, .int .i64 0, .int .i64 0, .int .i64 0, .int .i64 0, .slice none 0 0, .slice none 0 0]) rfl rfl rfl ty30 rfl rfl rfl (.t (.t .h)) rfl rfl ⟨tt0, (SR.take 9 rfl (by kernel_rfl) (by kernel_rfl) (by kernel_rfl) rfl (fun _ _ _ h => h) rfl rfl rfl (ev_as rfl rfl) (SR.fin (by kernel_rfl) hl_4 hx_4 hR_4 (.c (.c (.c .n))) (SQ.go (fun _ _ h => h) ?_)))⟩)))⟩))
    exact .ret (fun _ _ h => h) (retv2 Try.results17 (.c 0 rfl rfl ty30) (.t rfl) .n ⟨(by simp [hvL]), rfl⟩)

end Go.Proofs.Ythmkelkefmfmgaa.Sx
