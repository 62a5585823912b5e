import Derived.Test.YthmkelkefmfmgaaProg
import Derived.Test.YthmkelkefmfmgaaSxRead
import Derived.Test.YthmkelkefmfmgaaSxWin
import Derived.Test.YthmkelkefmfmgaaSx22A
import Derived.Test.YthmkelkefmfmgaaSx22B
import Derived.Test.YthmkelkefmfmgaaSx22W
import Derived.Test.YthmkelkefmfmgaaSx22M
import Derived.Test.YthmkelkefmfmgaaSx22F
import Derived.Test.YthmkelkefmfmgaaSx22X
import Derived.Test.YthmkelkefmfmgaaSx22G
import Derived.Test.YthmkelkefmfmgaaSx22H
import Derived.Test.YthmkelkefmfmgaaSx22K
import Derived.Test.YthmkelkefmfmgaaSx22R
set_option maxRecDepth 20000
set_option maxHeartbeats 4000000
set_option linter.unusedVariables false
set_option linter.unusedSimpArgs false
namespace Go.Proofs.Ythmkelkefmfmgaa.Sx.FE
open Go Go.SX Go.Proofs
theorem fo90_0 : fo Try.prog 90 0 = some 0 := by kernel_rfl
theorem ty88 : ty Try.prog 88 = some (false, 1) := by kernel_rfl
theorem fo90_1 : fo Try.prog 90 1 = some 1 := by kernel_rfl
theorem ty4 : ty Try.prog 4 = some (false, 1) := by kernel_rfl
theorem fo90_2 : fo Try.prog 90 2 = some 2 := by kernel_rfl
theorem ty3 : ty Try.prog 3 = some (false, 1) := by kernel_rfl
theorem fo90_3 : fo Try.prog 90 3 = some 3 := by kernel_rfl
theorem ty9 : ty Try.prog 9 = some (false, 1) := by kernel_rfl
theorem fo90_4 : fo Try.prog 90 4 = some 4 := by kernel_rfl
theorem ty82 : ty Try.prog 82 = some (false, 1) := by kernel_rfl
theorem hbd42 : hasBody Try.prog 42 = true := by kernel_rfl
theorem fo90_5 : fo Try.prog 90 5 = some 5 := by kernel_rfl
theorem ty56 : ty Try.prog 56 = some (false, 1) := by kernel_rfl
theorem hbd43 : hasBody Try.prog 43 = true := by kernel_rfl
theorem ty90 : ty Try.prog 90 = some (true, 6) := by kernel_rfl
theorem zf90 : (Try.prog.info? 90).bind (fun i => i.zero.map Value.cells) = some (List.toArray [.int .i64 0, .bool false, .int .i64 0, .string ⟨#[]⟩, .slice none 0 0, .slice none 0 0]) := by kernel_rfl
theorem hbd41 : hasBody Try.prog 41 = true := by kernel_rfl


end Go.Proofs.Ythmkelkefmfmgaa.Sx.FE
namespace Go.Proofs.Ythmkelkefmfmgaa.Sx
open Go Go.SX Go.Proofs FE





theorem eqV (k1 : Int) (b1 : Bool) (m1 : Int) (s1 : ByteArray) (nA1 : Option Addr) (nc1 : Nat) (ns1 : List ByteArray) (kA1 : Option Addr) (kc1 : Nat) (ks1 : List Int) (k2 : Int) (b2 : Bool) (m2 : Int) (s2 : ByteArray) (nA2 : Option Addr) (nc2 : Nat) (ns2 : List ByteArray) (kA2 : Option Addr) (kc2 : Nat) (ks2 : List Int) (S : Nat → Prop) (wf : World) (hn1 : Fr eS S wf nA1 ns1) (hk1 : Fr eZ S wf kA1 ks1) (hn2 : Fr eS S wf nA2 ns2) (hk2 : Fr eZ S wf kA2 ks2) :
    TR0 Try.prog 41 [.agg #[.int .i64 k1, .bool b1, .int .i64 m1, .string s1, .slice nA1 ns1.length nc1, .slice kA1 ks1.length kc1], .agg #[.int .i64 k2, .bool b2, .int .i64 m2, .string s2, .slice nA2 ns2.length nc2, .slice kA2 ks2.length kc2]] [] S wf (fun v_ C_ => v_ = .bool (decide ((TN.mk k1 b1 m1 s1 ns1 ks1) = (TN.mk k2 b2 m2 s2 ns2 ks2))) ∧ C_ = []) := by
  refine TR.mk Try.func41 rfl Try.ntmps41 rfl rfl (fun w_ => ?_)
  refine .seq (.region (.cons (st_boxa rfl rfl rfl rfl rfl (fun b1 => .cons (st_boxa rfl rfl rfl rfl rfl (fun b2 => .cons (Ev.step (ev_as rfl rfl) rfl rfl rfl (.go (fun _ _ h => h) ?_))))))))
  refine .seq (.region (.cons (Ev.step (ev_fa rfl fo90_0 rfl (r := 0) rfl) rfl rfl rfl (.cons (Ev.step (ev_ld1 rfl ty88 rfl (At.own1 1 rfl rfl)) rfl rfl rfl (.cons (Ev.step (ev_fa rfl fo90_0 rfl (r := 0) rfl) rfl rfl rfl (.cons (Ev.step (ev_ld1 rfl ty88 rfl (At.own1 0 rfl rfl)) rfl rfl rfl ?_)))))))))
  refine .cons (Ev.step (ev_cmp rfl rfl rfl rfl) rfl rfl rfl (.cons (Ev.step (ev_mv rfl rfl) rfl rfl rfl (.cons (Ev.gstep (fun _ => ev_fa rfl fo90_1 rfl (r := 1) rfl) rfl rfl rfl rfl rfl (.cons (Ev.gstep (fun hb => ev_ld1 rfl ty4 (lkg rfl hb) (At.own1 1 rfl rfl)) rfl rfl rfl rfl rfl (.cons (Ev.gstep (fun _ => ev_fa rfl fo90_1 rfl (r := 1) rfl) rfl rfl rfl rfl rfl (.cons (Ev.gstep (fun hb => ev_ld1 rfl ty4 (lkg rfl hb) (At.own1 0 rfl rfl)) rfl rfl rfl rfl rfl ?_)))))))))))
  refine .cons (Ev.gstep (fun hb => ev_bcmp rfl Try.underlying4 (lkg rfl hb) (lkg rfl hb) rfl) rfl rfl rfl rfl rfl (.cons (Ev.step (ev_and rfl rfl rfl rfl) rfl rfl rfl (.cons (Ev.step (ev_mv rfl rfl) rfl rfl rfl (.cons (Ev.gstep (fun _ => ev_fa rfl fo90_2 rfl (r := 2) rfl) rfl rfl rfl rfl rfl (.cons (Ev.gstep (fun hb => ev_ld1 rfl ty3 (lkg rfl hb) (At.own1 1 rfl rfl)) rfl rfl rfl rfl rfl (.cons (Ev.gstep (fun _ => ev_fa rfl fo90_2 rfl (r := 2) rfl) rfl rfl rfl rfl rfl ?_)))))))))))
  refine .cons (Ev.gstep (fun hb => ev_ld1 rfl ty3 (lkg rfl hb) (At.own1 0 rfl rfl)) rfl rfl rfl rfl rfl (.cons (Ev.gstep (fun hb => ev_cmp rfl (lkg rfl hb) (lkg rfl hb) rfl) rfl rfl rfl rfl rfl (.cons (Ev.step (ev_and rfl rfl rfl rfl) rfl rfl rfl (.cons (Ev.step (ev_mv rfl rfl) rfl rfl rfl (.cons (Ev.gstep (fun _ => ev_fa rfl fo90_3 rfl (r := 3) rfl) rfl rfl rfl rfl rfl (.cons (Ev.gstep (fun hb => ev_ld1 rfl ty9 (lkg rfl hb) (At.own1 1 rfl rfl)) rfl rfl rfl rfl rfl ?_)))))))))))
  refine .cons (Ev.gstep (fun _ => ev_fa rfl fo90_3 rfl (r := 3) rfl) rfl rfl rfl rfl rfl (.cons (Ev.gstep (fun hb => ev_ld1 rfl ty9 (lkg rfl hb) (At.own1 0 rfl rfl)) rfl rfl rfl rfl rfl (.cons (Ev.gstep (fun hb => ev_scmp rfl (lkg rfl hb) (lkg rfl hb) rfl) rfl rfl rfl rfl rfl (.cons (Ev.step (ev_and rfl rfl rfl rfl) rfl rfl rfl (.cons (Ev.step (ev_mv rfl rfl) rfl rfl rfl (.cons (Ev.gstep (fun _ => ev_fa rfl fo90_4 rfl (r := 4) rfl) rfl rfl rfl rfl rfl ?_)))))))))))
  refine .cons (Ev.gstep (fun hb => ev_ld1 rfl ty82 (lkg rfl hb) (At.own1 1 rfl rfl)) rfl rfl rfl rfl rfl (.cons (Ev.gstep (fun _ => ev_fa rfl fo90_4 rfl (r := 4) rfl) rfl rfl rfl rfl rfl (.cons (Ev.gstep (fun hb => ev_ld1 rfl ty82 (lkg rfl hb) (At.own1 0 rfl rfl)) rfl rfl rfl rfl rfl (.cons (st_gcallk rfl rfl rfl rfl rfl rfl hbd42 (fun hb => (lkA1 (lkg rfl hb) (lkA1 (lkg rfl hb) lkA0))) .n (fun hb => have hp := bT (bA (bA (bA bE bV) bE) bV) hb; eqS nA1 ns1.length nc1 ns1 nA2 ns2.length nc2 ns2 _ _ hn1 hn2 (by first | ((try simp only [List.length_nil, List.length_cons, List.length_append, List.length_set, List.length_singleton, List.length_take, List.length_drop, List.length_reverse]) <;> omega) | omega) (by first | ((try simp only [List.length_nil, List.length_cons, List.length_append, List.length_set, List.length_singleton, List.length_take, List.length_drop, List.length_reverse]) <;> omega) | omega)) (.cons (Ev.step (ev_and rfl rfl rfl rfl) rfl rfl rfl (.cons (Ev.step (ev_mv rfl rfl) rfl rfl rfl ?_)))))))))))
  refine .cons (Ev.gstep (fun _ => ev_fa rfl fo90_5 rfl (r := 5) rfl) rfl rfl rfl rfl rfl (.cons (Ev.gstep (fun hb => ev_ld1 rfl ty56 (lkg rfl hb) (At.own1 1 rfl rfl)) rfl rfl rfl rfl rfl (.cons (Ev.gstep (fun _ => ev_fa rfl fo90_5 rfl (r := 5) rfl) rfl rfl rfl rfl rfl (.cons (Ev.gstep (fun hb => ev_ld1 rfl ty56 (lkg rfl hb) (At.own1 0 rfl rfl)) rfl rfl rfl rfl rfl (.cons (st_gcallk rfl rfl rfl rfl rfl rfl hbd43 (fun hb => (lkA1 (lkg rfl hb) (lkA1 (lkg rfl hb) lkA0))) .n (fun hb => have hp := bT (bA (bA (bA (bA bE bV) bE) bV) bD) hb; eqI kA1 ks1.length kc1 ks1 kA2 ks2.length kc2 ks2 _ _ hk1 hk2 (by first | ((try simp only [List.length_nil, List.length_cons, List.length_append, List.length_set, List.length_singleton, List.length_take, List.length_drop, List.length_reverse]) <;> omega) | omega) (by first | ((try simp only [List.length_nil, List.length_cons, List.length_append, List.length_set, List.length_singleton, List.length_take, List.length_drop, List.length_reverse]) <;> omega) | omega)) (.cons (Ev.step (ev_and rfl rfl rfl rfl) rfl rfl rfl ?_)))))))))))
  exact .cons (Ev.step (ev_as rfl rfl) rfl rfl rfl (.go (fun _ _ h => h) (.ret (fun _ _ h => h) (ret1 Try.results41 rfl .n ⟨(congrArg Value.bool tn_dec), rfl⟩))))

theorem eqF (A : Option Addr) (n : Nat) (c : Nat) (a : List TV) (B : Option Addr) (n2 : Nat) (c2 : Nat) (b : List TV) (S : Nat → Prop) (wf : World) (hA : Fr eTV S wf A a) (hB : Fr eTV S wf B b) (hNa : NT S wf a) (hNb : NT S wf b) (hn : a.length = n) (hn2 : b.length = n2) :
    TR0 Try.prog 40 [.slice A n c, .slice B n2 c2, .func (.func 41) #[] #[]] [] S wf (fun v_ C_ => v_ = .bool (decide (vs a = vs b)) ∧ C_ = []) := by
  have hla := hA.len
  have hlb := hB.len
  refine TR.mk Try.func40 rfl Try.ntmps40 rfl rfl (fun w_ => ?_)
  refine .seq (.region (.cons (Ev.step (ev_as rfl rfl) rfl rfl rfl (.go (fun _ _ h => h) (.seq (.seq ?_))))))
  refine .region (.cons (Ev.step (ev_mv rfl rfl) rfl rfl rfl (.cons (Ev.step (ev_len rfl Try.underlying34 rfl) rfl rfl rfl (.cons (Ev.step (ev_mv rfl rfl) rfl rfl rfl (.cons (Ev.step (ev_len rfl Try.underlying34 rfl) rfl rfl rfl (.cons (Ev.step (ev_cmp rfl rfl rfl rfl) rfl rfl rfl ?_))))))))))
  refine .go (fun _ _ h => h) (.condI rfl bNE (fun h1 => ?_) (fun h1 => ?_))
  ·
    exact .seq (.region (.cons (Ev.step (ev_as rfl rfl) rfl rfl rfl (.go (fun _ _ h => h) (.ret (fun _ _ h => h) (ret1 Try.results40 rfl .n ⟨(congrArg Value.bool (decide_eq_false (by first | (intro h_; have h2_ := congrArg List.length h_; rw [vs_len, vs_len] at h2_; omega) | exact vs_ne (i := i) (by intro h_; simp_all))).symm), rfl⟩))))))
  ·
    refine .skipgo (fun _ _ h => h) (.seq (.seq (.region (.cons (Ev.step (ev_mv rfl rfl) rfl rfl rfl (.cons (Ev.step (ev_len rfl Try.underlying34 rfl) rfl rfl rfl ?_)))))))
    refine .cons (Ev.step (ev_mv rfl rfl) rfl rfl rfl (.go (fun _ _ h => h) (.block ?_)))
    refine .loop (X := Int) (fun i => 0 ≤ i ∧ i ≤ a.length ∧ (vs a).take i.toNat = (vs b).take i.toNat) (fun i => [(0, .slice A n c), (1, .slice B n2 c2), (2, .func (.func 41) #[] #[]), (15, .slice A n c), (16, .int .i64 (n : Int)), (17, .int .i64 i)]) (fun i => []) (fun _ => S) (fun _ => wf) (fun i => (a.length - i.toNat)) (fun a_ w_ hs_ hw_ => ⟨0, (by exact ⟨by omega, by omega, rfl⟩), hs_.mono (Sub.get (.c rfl (.c rfl (.c rfl (.c rfl (.c rfl (.c rfl .n))))))), hw_.keep .n⟩) (fun i ⟨q_0, q_1, q_2⟩ => ?_)
    show SC _ _ _ _ _ ⟨[(0, .slice A n c), (1, .slice B n2 c2), (2, .func (.func 41) #[] #[]), (15, .slice A n c), (16, .int .i64 (n : Int)), (17, .int .i64 i)], [], S, wf⟩
    refine .seq (.region (.cons (Ev.step (ev_cmp rfl rfl rfl rfl) rfl rfl rfl (.go (fun _ _ h => h) (.seq (.condI rfl bD (fun h2 => ?_) (fun h2 => ?_)))))))
    ·
      refine .skipgo (fun _ _ h => h) (.seq (.block (.seq (.region (.cons (Ev.step (ev_mv rfl rfl) rfl rfl rfl ?_))))))
      refine .cons (Ev.step (ev_ix rfl Try.underlying34 ty90 rfl rfl (by omega) (by omega) (fun _ _ => Fr.adr (i := i) hA (by omega) (by omega))) rfl rfl rfl (.cons (Ev.step (ev_lda rfl rfl (At.w (Fr.el (i := i) hA (by omega) (by omega))) ty90) rfl rfl rfl (.cons (st_alloc rfl rfl rfl rfl zf90 (fun b3 => .cons (Ev.step (ev_as rfl rfl) rfl rfl rfl (.cons (st_storea (l' := [.int .i64 ((gt a i).v.kind), .bool ((gt a i).v.truth), .int .i64 ((gt a i).v.num), .string ((gt a i).v.text), .slice ((gt a i).nA) ((gt a i).v.ns.length) ((gt a i).nc), .slice ((gt a i).kA) ((gt a i).v.ks.length) ((gt a i).kc)]) rfl rfl rfl ty90 rfl rfl rfl .h rfl rfl (.go (fun _ _ h => h) ?_))))))))))
      refine .seq (.region (.cons (Ev.step (ev_mv rfl rfl) rfl rfl rfl (.cons (Ev.step (ev_mv rfl rfl) rfl rfl rfl (.cons (Ev.step (ev_ix rfl Try.underlying34 ty90 rfl rfl (by omega) (by omega) (fun _ _ => Fr.adr (i := i) hB (by omega) (by omega))) rfl rfl rfl (.cons (Ev.step (ev_lda rfl rfl (At.w (Fr.el (i := i) hB (by omega) (by omega))) ty90) rfl rfl rfl ?_)))))))))
      refine .cons (st_alloc rfl rfl rfl rfl zf90 (fun b4 => .cons (st_storea (l' := [.int .i64 ((gt b i).v.kind), .bool ((gt b i).v.truth), .int .i64 ((gt b i).v.num), .string ((gt b i).v.text), .slice ((gt b i).nA) ((gt b i).v.ns.length) ((gt b i).nc), .slice ((gt b i).kA) ((gt b i).v.ks.length) ((gt b i).kc)]) rfl rfl rfl ty90 rfl rfl rfl .h rfl rfl (.go (fun _ _ h => h) (.seq (.region (.cons (Ev.step (ev_mv rfl rfl) rfl rfl rfl ?_))))))))
      refine .cons (Ev.step (ev_lda rfl rfl (At.whole 1 rfl) ty90) rfl rfl rfl (.cons (Ev.step (ev_lda rfl rfl (At.whole 0 rfl) ty90) rfl rfl rfl (.cons (.viafun rfl rfl (st_callk rfl rfl rfl rfl hbd41 rfl .n (eqV ((gt a i).v.kind) ((gt a i).v.truth) ((gt a i).v.num) ((gt a i).v.text) ((gt a i).nA) ((gt a i).nc) ((gt a i).v.ns) ((gt a i).kA) ((gt a i).kc) ((gt a i).v.ks) ((gt b i).v.kind) ((gt b i).v.truth) ((gt b i).v.num) ((gt b i).v.text) ((gt b i).nA) ((gt b i).nc) ((gt b i).v.ns) ((gt b i).kA) ((gt b i).kc) ((gt b i).v.ks) _ _ ((hNa _ (gt_mem (i := i) (by omega) (by omega))).1) ((hNa _ (gt_mem (i := i) (by omega) (by omega))).2) ((hNb _ (gt_mem (i := i) (by omega) (by omega))).1) ((hNb _ (gt_mem (i := i) (by omega) (by omega))).2)) (.cons (Ev.step (ev_not rfl rfl) rfl rfl rfl (.go (fun _ _ h => h) (.condI rfl (bN bD) (fun h5 => ?_) (fun h5 => ?_)))))))))))
      ·
        exact .seq (.region (.cons (Ev.step (ev_as rfl rfl) rfl rfl rfl (.go (fun _ _ h => h) (.ret (fun _ _ h => h) (ret1 Try.results40 rfl .n ⟨(congrArg Value.bool (decide_eq_false (by first | (intro h_; have h2_ := congrArg List.length h_; rw [vs_len, vs_len] at h2_; omega) | exact vs_ne (i := i) (by intro h_; simp_all))).symm), rfl⟩))))))
      ·
        exact .skipgo (fun _ _ h => h) (.region (.cons (Ev.step (ev_add rfl rfl rfl (r := (i + 1)) rfl (by omega) (by omega)) rfl rfl rfl (.cons (Ev.step (ev_mv rfl rfl) rfl rfl rfl (SP.nil (SQ.roundb (X := Int) (x := (i)) (i + 1) (by exact ⟨by omega, by omega, vs_eq_step q_2 (by omega) (by omega) (by omega) (tn_ext (by simp_all))⟩) (by show (_ : Nat) < _; omega) (Sub.get (.c rfl (.c rfl (.c rfl (.c rfl (.c rfl (.c rfl .n))))))) (fun w hw => hw.keep .n))))))))
    ·
      exact .exit (fun _ _ h => h) (.seq (.region (.cons (Ev.step (ev_as rfl rfl) rfl rfl rfl (.go (fun _ _ h => h) (.ret (fun _ _ h => h) (ret1 Try.results40 rfl .n ⟨(congrArg Value.bool (decide_eq_true (take_all (i := i) q_2 (by rw [vs_len]; omega) (by rw [vs_len, vs_len]; omega))).symm), rfl⟩)))))))

end Go.Proofs.Ythmkelkefmfmgaa.Sx
