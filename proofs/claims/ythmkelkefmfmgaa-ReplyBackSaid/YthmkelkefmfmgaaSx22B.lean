import Derived.Test.YthmkelkefmfmgaaProg
import Derived.Test.YthmkelkefmfmgaaSxShow
import Derived.Test.YthmkelkefmfmgaaSx22A
set_option maxRecDepth 20000
set_option maxHeartbeats 4000000
set_option linter.unusedVariables false
set_option linter.unusedSimpArgs false
namespace Go.Proofs.Ythmkelkefmfmgaa.Sx.FB
open Go Go.SX Go.Proofs
theorem fo90_1 : fo Try.prog 90 1 = some 1 := by kernel_rfl
theorem ty4 : ty Try.prog 4 = some (false, 1) := by kernel_rfl
theorem fo90_0 : fo Try.prog 90 0 = some 0 := by kernel_rfl
theorem ty88 : ty Try.prog 88 = some (false, 1) := by kernel_rfl
theorem fo90_2 : fo Try.prog 90 2 = some 2 := by kernel_rfl
theorem ty3 : ty Try.prog 3 = some (false, 1) := by kernel_rfl
theorem fo90_3 : fo Try.prog 90 3 = some 3 := by kernel_rfl
theorem ty9 : ty Try.prog 9 = some (false, 1) := by kernel_rfl
theorem fo90_5 : fo Try.prog 90 5 = some 5 := by kernel_rfl
theorem ty56 : ty Try.prog 56 = some (false, 1) := by kernel_rfl
theorem hb47 : hasBody Try.prog 47 = true := by kernel_rfl
theorem hb19 : hasBody Try.prog 19 = true := by kernel_rfl
theorem fo90_4 : fo Try.prog 90 4 = some 4 := by kernel_rfl
theorem ty82 : ty Try.prog 82 = some (false, 1) := by kernel_rfl
theorem mo : Try.prog.follows .mixedOrders = true := by kernel_rfl
theorem ai3 : (Try.prog.info? 3).map (fun i => (i.zero, i.size, i.bytes)) = some (some (.int .i64 0), 1, 8) := by kernel_rfl
theorem ty90 : ty Try.prog 90 = some (true, 6) := by kernel_rfl
theorem hb50 : hasBody Try.prog 50 = true := by kernel_rfl


end Go.Proofs.Ythmkelkefmfmgaa.Sx.FB
namespace Go.Proofs.Ythmkelkefmfmgaa.Sx
open Go Go.SX Go.Proofs FB





theorem plain_ (k : Int) (b : Bool) (n : Int) (s : ByteArray) (nA : Option Addr) (nc : Nat) (ns : List ByteArray) (kA : Option Addr) (kc : Nat) (ks : List Int) (S : Nat → Prop) (wf : World) (hN : Fr eS S wf nA ns) (hK : Fr eZ S wf kA ks) (hs : s.size ≤ 1000000) (hns : ∀ x ∈ ns, x.size ≤ 1000000) :
    TR0 Try.prog 50 [.agg #[.int .i64 k, .bool b, .int .i64 n, .string s, .slice nA ns.length nc, .slice kA ks.length kc]] [] S wf (fun v_ C_ => ∃ (r : Bool), (r = true ↔ plainP (TN.mk k b n s ns ks)) ∧ v_ = .bool r ∧ C_ = []) := by
  have hla := hN.len
  have hlb := hK.len
  refine TR.mk Try.func50 rfl Try.ntmps50 rfl rfl (fun w_ => ?_)
  refine .seq (.region (.cons (st_boxa rfl rfl rfl rfl rfl (fun b1 => .cons (Ev.step (ev_as rfl rfl) rfl rfl rfl (.go (fun _ _ h => h) (.seq ?_)))))))
  refine .seq (.region (.cons (Ev.step (ev_fa rfl fo90_1 rfl (r := 1) rfl) rfl rfl rfl (.cons (Ev.step (ev_ld1 rfl ty4 rfl (At.own1 0 rfl rfl)) rfl rfl rfl (.cons (Ev.step (ev_mv rfl rfl) rfl rfl rfl (.cons (Ev.gstep (fun _ => ev_fa rfl fo90_0 rfl (r := 0) rfl) rfl rfl rfl rfl rfl ?_)))))))))
  refine .cons (Ev.gstep (fun hb => ev_ld1 rfl ty88 (lkg rfl hb) (At.own1 0 rfl rfl)) rfl rfl rfl rfl rfl (.cons (Ev.gstep (fun hb => ev_cmp rfl (lkg rfl hb) rfl rfl) rfl rfl rfl rfl rfl (.cons (Ev.step (ev_and rfl rfl rfl rfl) rfl rfl rfl (.cons (Ev.step (ev_mv rfl rfl) rfl rfl rfl (.cons (Ev.gstep (fun _ => ev_fa rfl fo90_2 rfl (r := 2) rfl) rfl rfl rfl rfl rfl (.cons (Ev.gstep (fun hb => ev_ld1 rfl ty3 (lkg rfl hb) (At.own1 0 rfl rfl)) rfl rfl rfl rfl rfl ?_)))))))))))
  refine .cons (Ev.gstep (fun hb => ev_cmp rfl (lkg rfl hb) rfl rfl) rfl rfl rfl rfl rfl (.cons (Ev.gstep (fun hb => ev_mv rfl (lkg rfl hb)) rfl rfl rfl rfl rfl ?_)))
  rcases Bool.eq_false_or_eq_true (b && (k != 2)) with hb2 | hb2
  ·
    have hb2_ := bT (bA bV bNE) hb2
    refine SP.reslotv (t := 16) rfl (gv_off hb2) (.cons (.offu rfl rfl rfl rfl rfl (.cons (.offu rfl rfl rfl rfl rfl (.cons (.offu rfl rfl rfl rfl rfl (SP.reslot (t := 12) rfl hb2 (.cons (.off rfl rfl rfl rfl rfl rfl ?_)))))))))
    refine .cons (Ev.step (ev_pickt rfl rfl rfl rfl) rfl rfl rfl (.cons (Ev.step (ev_mv rfl rfl) rfl rfl rfl (.cons (.off rfl rfl rfl rfl rfl rfl (.cons (.off rfl rfl rfl rfl rfl rfl (.cons (.off rfl rfl rfl rfl rfl rfl (.cons (.off rfl rfl rfl rfl rfl rfl ?_)))))))))))
    refine .cons (.offu rfl rfl rfl rfl rfl (.cons (.offu rfl rfl rfl rfl rfl (.cons (.offu rfl rfl rfl rfl rfl (.cons (.off rfl rfl rfl rfl rfl rfl (.cons (Ev.step (ev_pickt rfl rfl rfl rfl) rfl rfl rfl (.cons (Ev.step (ev_mv rfl rfl) rfl rfl rfl ?_)))))))))))
    refine .cons (.off rfl rfl rfl rfl rfl rfl (.cons (.off rfl rfl rfl rfl rfl rfl (.cons (.off rfl rfl rfl rfl rfl rfl (.cons (.off rfl rfl rfl rfl rfl rfl (.cons (.off rfl rfl rfl rfl rfl rfl (.cons (.offu rfl rfl rfl rfl rfl ?_)))))))))))
    refine .cons (.offu rfl rfl rfl rfl rfl (.cons (.offu rfl rfl rfl rfl rfl (.cons (.off rfl rfl rfl rfl rfl rfl (.cons (.off rfl rfl rfl rfl rfl rfl (.cons (.offu rfl rfl rfl rfl rfl (.cons (.offu rfl rfl rfl rfl rfl ?_)))))))))))
    refine .cons (.offu rfl rfl rfl rfl rfl (.cons (.off rfl rfl rfl rfl rfl rfl (.cons (Ev.step (ev_pickt rfl rfl rfl rfl) rfl rfl rfl (.go (fun _ _ h => h) (.cond_t rfl (.seq ?_))))))))
    exact .region (.cons (Ev.step (ev_as rfl rfl) rfl rfl rfl (.go (fun _ _ h => h) (.ret (fun _ _ h => h) (ret1 Try.results50 rfl .n ⟨false, (pl_1 (v := (TN.mk k b n s ns ks)) (by first | exact .inl (.inl (.inl ‹_›)) | exact .inl (.inl (.inr ‹_›)) | exact .inl (.inr ‹_›) | exact .inr ‹_› | assumption)), rfl, rfl⟩)))))
  ·
    have hb2_ := bF (bA bV bNE) hb2
    refine SP.reslotv (t := 16) rfl (gv_on hb2) (.cons (Ev.gstep (fun _ => ev_fa rfl fo90_0 rfl (r := 0) rfl) rfl rfl rfl rfl rfl (.cons (Ev.gstep (fun hb => ev_ld1 rfl ty88 (lkg rfl hb) (At.own1 0 rfl rfl)) rfl rfl rfl rfl rfl (.cons (Ev.gstep (fun hb => ev_cmp rfl (lkg rfl hb) rfl rfl) rfl rfl rfl rfl rfl (SP.reslot (t := 12) rfl hb2 (.cons (.on rfl rfl rfl (Ev.step (ev_and rfl rfl rfl rfl) rfl rfl rfl ?_))))))))))
    refine .cons (Ev.step (ev_pickf rfl rfl rfl rfl) rfl rfl rfl (.cons (Ev.step (ev_mv rfl rfl) rfl rfl rfl (.cons (Ev.gstep (fun _ => ev_fa rfl fo90_3 rfl (r := 3) rfl) rfl rfl rfl rfl rfl (.cons (Ev.gstep (fun hb => ev_ld1 rfl ty9 (lkg rfl hb) (At.own1 0 rfl rfl)) rfl rfl rfl rfl rfl (.cons (Ev.gstep (fun hb => ev_scmp rfl (lkg rfl hb) rfl rfl) rfl rfl rfl rfl rfl (.cons (Ev.gstep (fun hb => ev_mv rfl (lkg rfl hb)) rfl rfl rfl rfl rfl ?_)))))))))))
    rcases Bool.eq_false_or_eq_true ((n != 0) && (k != 3)) with hb3 | hb3
    ·
      have hb3_ := bT (bA bNE bNE) hb3
      refine SP.reslotv (t := 26) rfl (gv_off hb3) (.cons (.offu rfl rfl rfl rfl rfl (.cons (.offu rfl rfl rfl rfl rfl (.cons (.offu rfl rfl rfl rfl rfl (SP.reslot (t := 22) rfl hb3 (.cons (.off rfl rfl rfl rfl rfl rfl ?_)))))))))
      refine .cons (Ev.step (ev_pickt rfl rfl rfl rfl) rfl rfl rfl (.cons (Ev.step (ev_mv rfl rfl) rfl rfl rfl (.cons (.off rfl rfl rfl rfl rfl rfl (.cons (.off rfl rfl rfl rfl rfl rfl (.cons (.off rfl rfl rfl rfl rfl rfl (.cons (.off rfl rfl rfl rfl rfl rfl ?_)))))))))))
      refine .cons (.off rfl rfl rfl rfl rfl rfl (.cons (.offu rfl rfl rfl rfl rfl (.cons (.offu rfl rfl rfl rfl rfl (.cons (.offu rfl rfl rfl rfl rfl (.cons (.off rfl rfl rfl rfl rfl rfl (.cons (.off rfl rfl rfl rfl rfl rfl ?_)))))))))))
      refine .cons (.offu rfl rfl rfl rfl rfl (.cons (.offu rfl rfl rfl rfl rfl (.cons (.offu rfl rfl rfl rfl rfl (.cons (.off rfl rfl rfl rfl rfl rfl (.cons (Ev.step (ev_pickt rfl rfl rfl rfl) rfl rfl rfl (.go (fun _ _ h => h) ?_))))))))))
      exact .cond_t rfl (.seq (.region (.cons (Ev.step (ev_as rfl rfl) rfl rfl rfl (.go (fun _ _ h => h) (.ret (fun _ _ h => h) (ret1 Try.results50 rfl .n ⟨false, (pl_1 (v := (TN.mk k b n s ns ks)) (by first | exact .inl (.inl (.inl ‹_›)) | exact .inl (.inl (.inr ‹_›)) | exact .inl (.inr ‹_›) | exact .inr ‹_› | assumption)), rfl, rfl⟩)))))))
    ·
      have hb3_ := bF (bA bNE bNE) hb3
      refine SP.reslotv (t := 26) rfl (gv_on hb3) (.cons (Ev.gstep (fun _ => ev_fa rfl fo90_0 rfl (r := 0) rfl) rfl rfl rfl rfl rfl (.cons (Ev.gstep (fun hb => ev_ld1 rfl ty88 (lkg rfl hb) (At.own1 0 rfl rfl)) rfl rfl rfl rfl rfl (.cons (Ev.gstep (fun hb => ev_cmp rfl (lkg rfl hb) rfl rfl) rfl rfl rfl rfl rfl (SP.reslot (t := 22) rfl hb3 (.cons (.on rfl rfl rfl (Ev.step (ev_and rfl rfl rfl rfl) rfl rfl rfl ?_))))))))))
      refine .cons (Ev.step (ev_pickf rfl rfl rfl rfl) rfl rfl rfl (.cons (Ev.step (ev_mv rfl rfl) rfl rfl rfl (.cons (Ev.gstep (fun _ => ev_fa rfl fo90_5 rfl (r := 5) rfl) rfl rfl rfl rfl rfl (.cons (Ev.gstep (fun hb => ev_ld1 rfl ty56 (lkg rfl hb) (At.own1 0 rfl rfl)) rfl rfl rfl rfl rfl (.cons (Ev.gstep (fun hb => ev_len rfl Try.underlying56 (lkg rfl hb)) rfl rfl rfl rfl rfl (.cons (Ev.gstep (fun hb => ev_cmp rfl (lkg rfl hb) rfl rfl) rfl rfl rfl rfl rfl ?_)))))))))))
      refine .cons (Ev.gstep (fun hb => ev_mv rfl (lkg rfl hb)) rfl rfl rfl rfl rfl ?_)
      rcases Bool.eq_false_or_eq_true ((!(s.toList == (⟨#[]⟩ : ByteArray).toList)) && (k != 4)) with hb4 | hb4
      ·
        have hb4_ := bT (bA bV bNE) hb4
        refine SP.reslotv (t := 37) rfl (gv_off hb4) (.cons (.offu rfl rfl rfl rfl rfl (.cons (.offu rfl rfl rfl rfl rfl (.cons (.offu rfl rfl rfl rfl rfl (SP.reslot (t := 32) rfl hb4 (.cons (.off rfl rfl rfl rfl rfl rfl ?_)))))))))
        refine .cons (.off rfl rfl rfl rfl rfl rfl (.cons (.offu rfl rfl rfl rfl rfl (.cons (.offu rfl rfl rfl rfl rfl (.cons (.offu rfl rfl rfl rfl rfl (.cons (.off rfl rfl rfl rfl rfl rfl (.cons (Ev.step (ev_pickt rfl rfl rfl rfl) rfl rfl rfl ?_)))))))))))
        refine .go (fun _ _ h => h) (.cond_t rfl (.seq (.region (.cons (Ev.step (ev_as rfl rfl) rfl rfl rfl (.go (fun _ _ h => h) ?_))))))
        exact .ret (fun _ _ h => h) (ret1 Try.results50 rfl .n ⟨false, (pl_1 (v := (TN.mk k b n s ns ks)) (by first | exact .inl (.inl (.inl ‹_›)) | exact .inl (.inl (.inr ‹_›)) | exact .inl (.inr ‹_›) | exact .inr ‹_› | assumption)), rfl, rfl⟩)
      ·
        have hb4_ := bF (bA bV bNE) hb4
        refine SP.reslotv (t := 37) rfl (gv_on hb4) (.cons (Ev.gstep (fun _ => ev_fa rfl fo90_0 rfl (r := 0) rfl) rfl rfl rfl rfl rfl (.cons (Ev.gstep (fun hb => ev_ld1 rfl ty88 (lkg rfl hb) (At.own1 0 rfl rfl)) rfl rfl rfl rfl rfl (.cons (Ev.gstep (fun hb => ev_cmp rfl (lkg rfl hb) rfl rfl) rfl rfl rfl rfl rfl (SP.reslot (t := 32) rfl hb4 (.cons (.on rfl rfl rfl (Ev.step (ev_and rfl rfl rfl rfl) rfl rfl rfl ?_))))))))))
        refine .cons (.on rfl rfl rfl (Ev.step (ev_mv rfl rfl) rfl rfl rfl (.cons (Ev.gstep (fun _ => ev_fa rfl fo90_0 rfl (r := 0) rfl) rfl rfl rfl rfl rfl (.cons (Ev.gstep (fun hb => ev_ld1 rfl ty88 (lkg rfl hb) (At.own1 0 rfl rfl)) rfl rfl rfl rfl rfl (.cons (Ev.gstep (fun hb => ev_cmp rfl (lkg rfl hb) rfl rfl) rfl rfl rfl rfl rfl (.cons (.on rfl rfl rfl (Ev.step (ev_and rfl rfl rfl rfl) rfl rfl rfl (.cons (Ev.step (ev_pickf rfl rfl rfl rfl) rfl rfl rfl ?_)))))))))))))
        refine .go (fun _ _ h => h) (.condI rfl (bA (bA bD bNE) bNE) (fun h5 => ?_) (fun h5 => ?_))
        ·
          exact .seq (.region (.cons (Ev.step (ev_as rfl rfl) rfl rfl rfl (.go (fun _ _ h => h) (.ret (fun _ _ h => h) (ret1 Try.results50 rfl .n ⟨false, (pl_1 (v := (TN.mk k b n s ns ks)) (by first | exact .inl (.inl (.inl ‹_›)) | exact .inl (.inl (.inr ‹_›)) | exact .inl (.inr ‹_›) | exact .inr ‹_› | assumption)), rfl, rfl⟩))))))
        ·
          refine .skipgo (fun _ _ h => h) (.seq (.seq ?_))
          have hp1 : ¬ pc1 (TN.mk k b n s ns ks) := by
            unfold pc1
            first | assumption | (rintro (((e | e) | e) | e) <;> exact absurd e (by assumption))
          refine .region (.cons (Ev.step (ev_fa rfl fo90_0 rfl (r := 0) rfl) rfl rfl rfl (.cons (Ev.step (ev_ld1 rfl ty88 rfl (At.own1 0 rfl rfl)) rfl rfl rfl (.cons (Ev.step (ev_cmp rfl rfl rfl rfl) rfl rfl rfl (.cons (Ev.step (ev_mv rfl rfl) rfl rfl rfl (.cons (Ev.gstep (fun _ => ev_fa rfl fo90_0 rfl (r := 0) rfl) rfl rfl rfl rfl rfl ?_))))))))))
          refine .cons (Ev.gstep (fun hb => ev_ld1 rfl ty88 (lkg rfl hb) (At.own1 0 rfl rfl)) rfl rfl rfl rfl rfl (.cons (Ev.gstep (fun hb => ev_cmp rfl (lkg rfl hb) rfl rfl) rfl rfl rfl rfl rfl (.cons (Ev.step (ev_or rfl rfl rfl rfl) rfl rfl rfl (.cons (Ev.step (ev_mv rfl rfl) rfl rfl rfl (.cons (Ev.gstep (fun _ => ev_fa rfl fo90_2 rfl (r := 2) rfl) rfl rfl rfl rfl rfl (.cons (Ev.gstep (fun hb => ev_ld1 rfl ty3 (lkg rfl hb) (At.own1 0 rfl rfl)) rfl rfl rfl rfl rfl ?_)))))))))))
          refine .cons (st_gcallk rfl rfl rfl rfl rfl rfl hb47 (fun hb => (lkA1 (lkg rfl hb) lkA0)) .n (fun hb => have hp := bF (bO bD bD) hb; fits1 n _ _) (.cons (Ev.gstep (fun hb => ev_not rfl (lkg rfl hb)) rfl rfl rfl rfl rfl (.cons (Ev.step (ev_or rfl rfl rfl rfl) rfl rfl rfl (.cons (Ev.step (ev_mv rfl rfl) rfl rfl rfl (.cons (Ev.gstep (fun _ => ev_fa rfl fo90_3 rfl (r := 3) rfl) rfl rfl rfl rfl rfl (.cons (Ev.gstep (fun hb => ev_ld1 rfl ty9 (lkg rfl hb) (At.own1 0 rfl rfl)) rfl rfl rfl rfl rfl ?_)))))))))))
          refine .cons (st_gcallk rfl rfl rfl rfl rfl rfl hb19 (fun hb => (lkA1 (lkg rfl hb) lkA0)) .n (fun hb => have hp := bF (bO (bO bD bD) (bN (bA bD bD))) hb; utf s _ _ (by first | omega | exact Nat.le_trans (hns _ (gt_mem (by omega) (by omega))) (by decide))) (.cons (Ev.gstep (fun hb => ev_not rfl (lkg rfl hb)) rfl rfl rfl rfl rfl (.cons (Ev.step (ev_or rfl rfl rfl rfl) rfl rfl rfl (.go (fun _ _ h => h) (.condI rfl (bO (bO (bO bD bD) (bN (bA bD bD))) (bN bV)) (fun h6 => ?_) (fun h6 => ?_))))))))
          ·
            exact .seq (.region (.cons (Ev.step (ev_as rfl rfl) rfl rfl rfl (.go (fun _ _ h => h) (.ret (fun _ _ h => h) (ret1 Try.results50 rfl .n ⟨false, (pl_2 (v := (TN.mk k b n s ns ks)) (by first | exact .inl (.inl (.inl ‹_›)) | exact .inl (.inl (.inr ‹_›)) | exact .inl (.inr ‹_›) | exact .inr ‹_› | assumption)), rfl, rfl⟩))))))
          ·
            refine .skipgo (fun _ _ h => h) (.seq (.seq ?_))
            have hp2 : ¬ pc2 (TN.mk k b n s ns ks) := by
              unfold pc2
              first | assumption | (rintro (((e | e) | e) | e) <;> exact absurd e (by assumption))
            refine .region (.cons (Ev.step (ev_fa rfl fo90_0 rfl (r := 0) rfl) rfl rfl rfl (.cons (Ev.step (ev_ld1 rfl ty88 rfl (At.own1 0 rfl rfl)) rfl rfl rfl (.cons (Ev.step (ev_cmp rfl rfl rfl rfl) rfl rfl rfl (.go (fun _ _ h => h) (.condI rfl bNE (fun h7 => ?_) (fun h7 => ?_)))))))))
            ·
              refine .seq (.region (.cons (Ev.step (ev_fa rfl fo90_4 rfl (r := 4) rfl) rfl rfl rfl (.cons (Ev.step (ev_ld1 rfl ty82 rfl (At.own1 0 rfl rfl)) rfl rfl rfl (.cons (Ev.step (ev_len rfl Try.underlying82 rfl) rfl rfl rfl (.cons (Ev.step (ev_cmp rfl rfl rfl rfl) rfl rfl rfl ?_)))))))))
              exact .cons (Ev.step (ev_as rfl rfl) rfl rfl rfl (.go (fun _ _ h => h) (.ret (fun _ _ h => h) (ret1 Try.results50 rfl .n ⟨((ns.length : Int) == 0), (pl_3 (v := (TN.mk k b n s ns ks)) hp1 hp2 (by assumption) (by simp)), rfl, rfl⟩))))
            ·
              refine .skipgo (fun _ _ h => h) (.seq (.seq ?_))
              have hk6 := h7
              refine .region (.cons (Ev.step (ev_as rfl rfl) rfl rfl rfl (.go (fun _ _ h => h) (.block ?_))))
              refine .loop (X := Int) (fun i => 0 ≤ i ∧ i ≤ ns.length ∧ (∀ i' : Int, 0 ≤ i' → i' < i → utfF (bs (gt ns i')) = true ∧ ∀ j : Int, 0 ≤ j → j < i' → ¬ ((gt ns j).toList == (gt ns i').toList) = true)) (fun i => [(1, .pointer (some ⟨b1, 0, none⟩)), (3, .int .i64 i)]) (fun i => [cel b1 [.int .i64 k, .bool b, .int .i64 n, .string s, .slice nA ns.length nc, .slice kA ks.length kc] 90]) (fun _ => S) (fun _ => wf) (fun i => (ns.length - i.toNat)) (fun a_ w_ hs_ hw_ => ⟨0, (by exact ⟨by omega, by omega, fun i' a b => by omega⟩), hs_.mono (Sub.get (.c rfl (.c rfl .n))), hw_.keep (.c .h .n)⟩) (fun i ⟨q_0, q_1, q_2⟩ => ?_)
              show SC _ _ _ _ _ ⟨[(1, .pointer (some ⟨b1, 0, none⟩)), (3, .int .i64 i)], [cel b1 [.int .i64 k, .bool b, .int .i64 n, .string s, .slice nA ns.length nc, .slice kA ks.length kc] 90], S, wf⟩
              refine .seq (.seq (.region (.cons (Ev.step (ev_mv rfl rfl) rfl rfl rfl (.cons (Ev.step (ev_fa rfl fo90_4 rfl (r := 4) rfl) rfl rfl rfl (.cons (Ev.step (ev_ld1 rfl ty82 rfl (At.own1 0 rfl rfl)) rfl rfl rfl ?_))))))))
              refine .cons (Ev.step (ev_len rfl Try.underlying82 rfl) rfl rfl rfl (.cons (Ev.step (ev_cmp rfl rfl rfl rfl) rfl rfl rfl (.go (fun _ _ h => h) (.condI rfl bD (fun h8 => ?_) (fun h8 => ?_))))))
              ·
                refine .skipgo (fun _ _ h => h) (.seq (.block (.seq (.seq (.region ?_)))))
                refine .cons (Ev.step (ev_fa rfl fo90_4 rfl (r := 4) rfl) rfl rfl rfl (.cons (Ev.step (ev_ld1 rfl ty82 rfl (At.own1 0 rfl rfl)) rfl rfl rfl (.cons (Ev.step (ev_mv rfl rfl) rfl rfl rfl (.cons (Ev.step (ev_ix rfl Try.underlying82 ty9 rfl rfl (by omega) (by omega) (fun _ _ => Fr.adr (i := i) hN (by omega) (by omega))) rfl rfl rfl (.cons (Ev.step (ev_ld1 rfl ty9 rfl (At.elem1 (At.w (Fr.el (i := i) hN (by omega) (by omega))) 0 rfl)) rfl rfl rfl (.cons (st_callk rfl rfl rfl rfl hb19 rfl .n (utf (gt ns i) _ _ (by first | omega | exact Nat.le_trans (hns _ (gt_mem (by omega) (by omega))) (by decide))) ?_)))))))))))
                refine .cons (Ev.step (ev_not rfl rfl) rfl rfl rfl (.go (fun _ _ h => h) (.condI rfl (bN bV) (fun h9 => ?_) (fun h9 => ?_))))
                ·
                  exact .seq (.region (.cons (Ev.step (ev_as rfl rfl) rfl rfl rfl (.go (fun _ _ h => h) (.ret (fun _ _ h => h) (ret1 Try.results50 rfl .n ⟨false, (pl_utf (v := (TN.mk k b n s ns ks)) hk6 q_0 (by show _ < (ns.length : Int); omega) (by simp_all)), rfl, rfl⟩))))))
                ·
                  refine .skipgo (fun _ _ h => h) (.seq (.region (.cons (Ev.step (ev_as rfl rfl) rfl rfl rfl (.go (fun _ _ h => h) (.block ?_))))))
                  refine .loop (X := Int) (fun z => 0 ≤ z ∧ z ≤ i ∧ (∀ j : Int, 0 ≤ j → j < z → ¬ ((gt ns j).toList == (gt ns i).toList) = true)) (fun z => [(1, .pointer (some ⟨b1, 0, none⟩)), (3, .int .i64 i), (4, .int .i64 z)]) (fun z => [cel b1 [.int .i64 k, .bool b, .int .i64 n, .string s, .slice nA ns.length nc, .slice kA ks.length kc] 90]) (fun _ => S) (fun _ => wf) (fun z => (i - z).toNat) (fun a_ w_ hs_ hw_ => ⟨0, (by exact ⟨by omega, by omega, fun j a b => by omega⟩), hs_.mono (Sub.get (.c rfl (.c rfl (.c rfl .n)))), hw_.keep (.c .h .n)⟩) (fun z ⟨p_0, p_1, p_2⟩ => ?_)
                  show SC _ _ _ _ _ ⟨[(1, .pointer (some ⟨b1, 0, none⟩)), (3, .int .i64 i), (4, .int .i64 z)], [cel b1 [.int .i64 k, .bool b, .int .i64 n, .string s, .slice nA ns.length nc, .slice kA ks.length kc] 90], S, wf⟩
                  refine .seq (.seq (.region (.cons (Ev.step (ev_mv rfl rfl) rfl rfl rfl (.cons (Ev.step (ev_mv rfl rfl) rfl rfl rfl (.cons (Ev.step (ev_cmp rfl rfl rfl rfl) rfl rfl rfl ?_))))))))
                  refine .go (fun _ _ h => h) (.condI rfl bD (fun h10 => ?_) (fun h10 => ?_))
                  ·
                    refine .skipgo (fun _ _ h => h) (.seq (.block (.seq ?_)))
                    refine SC.draw mo [] [] .n (fun _ _ _ c hc => by cases hc) (fun wf_11 hl_11 hx_11 hR_11 => ?_)
                    refine SR.take 0 rfl (by kernel_rfl) (by kernel_rfl) (by kernel_rfl) rfl (fun _ _ _ h => h) rfl rfl rfl (ev_fa rfl fo90_4 rfl (r := 4) rfl) (SR.take 1 rfl (by kernel_rfl) (by kernel_rfl) (by kernel_rfl) rfl (fun _ _ _ h => h) rfl rfl rfl (ev_ld1 rfl ty82 rfl (At.d (At.lent hR_11 0 rfl rfl))) (SR.take 2 rfl (by kernel_rfl) (by kernel_rfl) (by kernel_rfl) rfl (fun _ _ _ h => h) rfl rfl rfl (ev_mv rfl rfl) (SR.take 3 rfl (by kernel_rfl) (by kernel_rfl) (by kernel_rfl) rfl (fun _ _ _ h => h) rfl rfl rfl (ev_ix rfl Try.underlying82 ty9 rfl rfl (by omega) (by omega) (fun _ _ => Fr.adr (i := z) (Fr.ext hN hx_11) (by omega) (by omega))) (SR.take 4 rfl (by kernel_rfl) (by kernel_rfl) (by kernel_rfl) rfl (fun _ _ _ h => h) rfl rfl rfl (ev_ld1 rfl ty9 rfl (At.elem1 (At.d (Fr.el (i := z) (Fr.ext hN hx_11) (by omega) (by omega))) 0 rfl)) (SR.take 5 rfl (by kernel_rfl) (by kernel_rfl) (by kernel_rfl) rfl (fun _ _ _ h => h) rfl rfl rfl (ev_fa rfl fo90_4 rfl (r := 4) rfl) ?_)))))
                    refine SR.take 6 rfl (by kernel_rfl) (by kernel_rfl) (by kernel_rfl) rfl (fun _ _ _ h => h) rfl rfl rfl (ev_ld1 rfl ty82 rfl (At.d (At.lent hR_11 0 rfl rfl))) (SR.take 7 rfl (by kernel_rfl) (by kernel_rfl) (by kernel_rfl) rfl (fun _ _ _ h => h) rfl rfl rfl (ev_mv rfl rfl) (SR.take 8 rfl (by kernel_rfl) (by kernel_rfl) (by kernel_rfl) rfl (fun _ _ _ h => h) rfl rfl rfl (ev_ix rfl Try.underlying82 ty9 rfl rfl (by omega) (by omega) (fun _ _ => Fr.adr (i := i) (Fr.ext hN hx_11) (by omega) (by omega))) (SR.take 9 rfl (by kernel_rfl) (by kernel_rfl) (by kernel_rfl) rfl (fun _ _ _ h => h) rfl rfl rfl (ev_ld1 rfl ty9 rfl (At.elem1 (At.d (Fr.el (i := i) (Fr.ext hN hx_11) (by omega) (by omega))) 0 rfl)) (SR.take 10 rfl (by kernel_rfl) (by kernel_rfl) (by kernel_rfl) rfl (fun _ _ _ h => h) rfl rfl rfl (ev_scmp rfl rfl rfl rfl) (SR.fin (by kernel_rfl) hl_11 hx_11 hR_11 .n ?_)))))
                    refine SQ.go (fun _ _ h => h) (.condI rfl bV (fun h12 => ?_) (fun h12 => ?_))
                    ·
                      exact .seq (.region (.cons (Ev.step (ev_as rfl rfl) rfl rfl rfl (.go (fun _ _ h => h) (.ret (fun _ _ h => h) (ret1 Try.results50 rfl .n ⟨false, (pl_twice (v := (TN.mk k b n s ns ks)) hk6 q_0 (by show _ < (ns.length : Int); omega) p_0 (by omega) (by assumption)), rfl, rfl⟩))))))
                    ·
                      exact .skipgo (fun _ _ h => h) (.region (.cons (Ev.step (ev_mv rfl rfl) rfl rfl rfl (.cons (Ev.step (ev_add rfl rfl rfl (r := (z + 1)) rfl (by omega) (by omega)) rfl rfl rfl (.cons (Ev.step (ev_as rfl rfl) rfl rfl rfl (SP.nil (SQ.roundb (X := Int) (x := (z)) (z + 1) (by exact ⟨by omega, by omega, pl_step p_2 (by assumption)⟩) (by show (_ : Nat) < _; omega) (Sub.get (.c rfl (.c rfl (.c rfl .n)))) (fun w hw => hw.keep (.c .h .n)))))))))))
                  ·
                    exact .exit (fun _ _ h => h) (.region (.cons (Ev.step (ev_mv rfl rfl) rfl rfl rfl (.cons (Ev.step (ev_add rfl rfl rfl (r := (i + 1)) rfl (by omega) (by omega)) rfl rfl rfl (.cons (Ev.step (ev_as rfl rfl) rfl rfl rfl (SP.nil (SQ.roundb (X := Int) (x := (i)) (i + 1) (by exact ⟨by omega, by omega, pl_next q_2 (by simp_all) p_2 (by omega)⟩) (by show (_ : Nat) < _; omega) (Sub.get (.c rfl (.c rfl .n))) (fun w hw => hw.keep (.c .h .n)))))))))))
              ·
                refine .exit (fun _ _ h => h) (.seq (.region (.cons (Ev.step (ev_fa rfl fo90_4 rfl (r := 4) rfl) rfl rfl rfl (.cons (Ev.step (ev_ld1 rfl ty82 rfl (At.own1 0 rfl rfl)) rfl rfl rfl (.cons (Ev.step (ev_len rfl Try.underlying82 rfl) rfl rfl rfl ?_))))))))
                refine .cons (Ev.step (ev_fa rfl fo90_5 rfl (r := 5) rfl) rfl rfl rfl (.cons (Ev.step (ev_ld1 rfl ty56 rfl (At.own1 0 rfl rfl)) rfl rfl rfl (.cons (Ev.step (ev_len rfl Try.underlying56 rfl) rfl rfl rfl (.cons (Ev.step (ev_cmp rfl rfl rfl rfl) rfl rfl rfl (.cons (Ev.step (ev_as rfl rfl) rfl rfl rfl (.go (fun _ _ h => h) ?_))))))))))
                exact .ret (fun _ _ h => h) (ret1 Try.results50 rfl .n ⟨((ns.length : Int) == (ks.length : Int)), (pl_end (v := (TN.mk k b n s ns ks)) hp1 hp2 hk6 q_2 (by show ¬ _ < (ns.length : Int); omega) (by simp)), rfl, rfl⟩)

theorem check_ (A : Option Addr) (c : Nat) (l : List TV) (S : Nat → Prop) (wf : World) (hA : Fr eTV S wf A l) (hN : NT S wf l) (hB : ∀ t ∈ l, TB t.v) :
    TR0 Try.prog 29 [.slice A l.length c] [] S wf (fun v_ C_ => v_ = .int .i64 (checkF (vs l)) ∧ C_ = []) := by
  have hla := hA.len
  refine TR.mk Try.func29 rfl Try.ntmps29 rfl rfl (fun w_ => ?_)
  refine .seq (.region (.cons (Ev.step (ev_as rfl rfl) rfl rfl rfl (.go (fun _ _ h => h) (.seq (.seq ?_))))))
  refine .region (.cons (Ev.step (ev_mv rfl rfl) rfl rfl rfl (.cons (Ev.step (ev_len rfl Try.underlying34 rfl) rfl rfl rfl (.cons (Ev.step (ev_cmp rfl rfl rfl rfl) rfl rfl rfl (.go (fun _ _ h => h) (.condI rfl bE (fun h1 => ?_) (fun h1 => ?_)))))))))
  ·
    exact .seq (.region (.cons (Ev.step (ev_as rfl rfl) rfl rfl rfl (.go (fun _ _ h => h) (.ret (fun _ _ h => h) (ret1 Try.results29 rfl .n ⟨(congrArg (Value.int .i64) (ck_0 (by omega))), rfl⟩))))))
  ·
    refine .skipgo (fun _ _ h => h) (.seq (.seq (.region (.cons (Ev.step (ev_mv rfl rfl) rfl rfl rfl (.cons (Ev.step (ev_len rfl Try.underlying34 rfl) rfl rfl rfl ?_)))))))
    refine .cons (Ev.step (ev_cmp rfl rfl rfl rfl) rfl rfl rfl (.go (fun _ _ h => h) (.condI rfl bD (fun h2 => ?_) (fun h2 => ?_))))
    ·
      exact .seq (.region (.cons (Ev.step (ev_as rfl rfl) rfl rfl rfl (.go (fun _ _ h => h) (.ret (fun _ _ h => h) (ret1 Try.results29 rfl .n ⟨(congrArg (Value.int .i64) (ck_27 (by omega) (by omega))), rfl⟩))))))
    ·
      refine .skipgo (fun _ _ h => h) (.seq (.region (.cons (Ev.step (ev_mv rfl rfl) rfl rfl rfl (.cons (Ev.step (ev_len rfl Try.underlying34 rfl) rfl rfl rfl (.cons (st_mkints (q := .i64) (n := l.length) rfl rfl rfl rfl Try.underlying56 ai3 rfl rfl rfl (by omega) rfl (fun b3 => ?_)))))))))
      refine .cons (Ev.step (ev_as rfl rfl) rfl rfl rfl (.go (fun _ _ h => h) (.seq (.region (.cons (Ev.step (ev_mv rfl rfl) rfl rfl rfl (.cons (Ev.step (ev_len rfl Try.underlying34 rfl) rfl rfl rfl ?_))))))))
      refine .cons (st_mkints (q := .i64) (n := l.length) rfl rfl rfl rfl Try.underlying56 ai3 rfl rfl rfl (by omega) rfl (fun b4 => .cons (Ev.step (ev_as rfl rfl) rfl rfl rfl (.go (fun _ _ h => h) (.seq (.seq (.region ?_)))))))
      refine .cons (Ev.step (ev_as rfl rfl) rfl rfl rfl (.go (fun _ _ h => h) (.block ?_)))
      refine .loop (X := Int × (List Int) × (List Int)) (fun ⟨i, U, D⟩ => 0 ≤ i ∧ i ≤ l.length ∧ U.length = l.length ∧ D.length = l.length ∧ ckAll ((vs l).drop i.toNat) i U D = (ckAll (vs l) 0 (zs l.length) (zs l.length)) ∧ Btw U 0 (i * 1000000) ∧ Btw D 0 i) (fun ⟨i, U, D⟩ => [(0, .slice A l.length c), (3, .slice (some ⟨b3, 0, none⟩) l.length l.length), (4, .slice (some ⟨b4, 0, none⟩) l.length l.length), (5, .int .i64 i)]) (fun ⟨i, U, D⟩ => [rw_ eZ 3 (.slice (some ⟨b3, 0, none⟩) l.length l.length) U, rw_ eZ 3 (.slice (some ⟨b4, 0, none⟩) l.length l.length) D]) (fun _ => S) (fun _ => wf) (fun ⟨i, U, D⟩ => (l.length - i.toNat)) (fun a_ w_ hs_ hw_ => ⟨⟨0, (List.replicate l.length 0), (List.replicate l.length 0)⟩, (by exact ⟨by omega, by omega, List.length_replicate, List.length_replicate, rfl, btw_zs, btw_zs⟩), hs_.mono (Sub.get (.c rfl (.c rfl (.c rfl (.c rfl .n))))), hw_.keep (.c (.t .h) (.c .h .n))⟩) (fun ⟨i, U, D⟩ ⟨q_0, q_1, q_2, q_3, q_4, q_5, q_6⟩ => ?_)
      show SC _ _ _ _ _ ⟨[(0, .slice A l.length c), (3, .slice (some ⟨b3, 0, none⟩) l.length l.length), (4, .slice (some ⟨b4, 0, none⟩) l.length l.length), (5, .int .i64 i)], [rw_ eZ 3 (.slice (some ⟨b3, 0, none⟩) l.length l.length) U, rw_ eZ 3 (.slice (some ⟨b4, 0, none⟩) l.length l.length) D], S, wf⟩
      refine .seq (.seq (.region (.cons (Ev.step (ev_mv rfl rfl) rfl rfl rfl (.cons (Ev.step (ev_mv rfl rfl) rfl rfl rfl (.cons (Ev.step (ev_len rfl Try.underlying34 rfl) rfl rfl rfl ?_))))))))
      refine .cons (Ev.step (ev_cmp rfl rfl rfl rfl) rfl rfl rfl (.go (fun _ _ h => h) (.condI rfl bD (fun h5 => ?_) (fun h5 => ?_))))
      ·
        refine .skipgo (fun _ _ h => h) (.seq (.block (.seq (.seq ?_))))
        have hBi := hB _ (gt_mem (i := i) q_0 (by omega))
        unfold TB at hBi
        refine .region (.cons (Ev.step (ev_mv rfl rfl) rfl rfl rfl (.cons (Ev.step (ev_mv rfl rfl) rfl rfl rfl (.cons (Ev.step (ev_ix rfl Try.underlying34 ty90 rfl rfl (by omega) (by omega) (fun _ _ => Fr.adr (i := i) hA (by omega) (by omega))) rfl rfl rfl (.cons (Ev.step (ev_lda rfl rfl (At.w (Fr.el (i := i) hA (by omega) (by omega))) ty90) rfl rfl rfl (.cons (st_call00 rfl rfl rfl rfl hb50 rfl .n (plain_ ((gt l i).v.kind) ((gt l i).v.truth) ((gt l i).v.num) ((gt l i).v.text) ((gt l i).nA) ((gt l i).nc) ((gt l i).v.ns) ((gt l i).kA) ((gt l i).kc) ((gt l i).v.ks) _ _ ((hN _ (gt_mem (i := i) (by omega) (by omega))).1) ((hN _ (gt_mem (i := i) (by omega) (by omega))).2) hBi.1 hBi.2.1) (by intro v C h; obtain ⟨_, _, rfl, rfl⟩ := h; rfl) (fun v_q7 q7 => ?_)))))))))))
        obtain ⟨r6, p8, rfl, -⟩ := q7
        refine .cons (Ev.step (ev_not rfl rfl) rfl rfl rfl (.go (fun _ _ h => h) (.condI rfl (bN bV) (fun h9 => ?_) (fun h9 => ?_))))
        ·
          exact .seq (.region (.cons (Ev.step (ev_as rfl rfl) rfl rfl rfl (.go (fun _ _ h => h) (.ret (fun _ _ h => h) (ret1 Try.results29 rfl .n ⟨(congrArg (Value.int .i64) (ck_none (by omega) (by omega) (ck_plain q_4 q_0 (by omega) (fun e => by simp_all)))), rfl⟩))))))
        ·
          refine .skipgo (fun _ _ h => h) (.seq ?_)
          have hpl : plainP (gt l i).v := p8.1 (by simp_all)
          refine .region (.cons (Ev.step (ev_as rfl rfl) rfl rfl rfl (.go (fun _ _ h => h) (.seq (.seq (.region ?_))))))
          refine .cons (Ev.step (ev_as rfl rfl) rfl rfl rfl (.go (fun _ _ h => h) (.block ?_)))
          refine .loop (X := Int × (List Int) × Int) (fun ⟨k, U2, m⟩ => 0 ≤ k ∧ k ≤ (gt l i).v.ks.length ∧ U2.length = l.length ∧ (0 ≤ m ∧ m ≤ i) ∧ ckKids i D ((gt l i).v.ks.drop k.toNat) U2 m = ckKids i D (gt l i).v.ks U 0 ∧ Btw U2 0 (i * 1000000 + k)) (fun ⟨k, U2, m⟩ => [(0, .slice A l.length c), (3, .slice (some ⟨b3, 0, none⟩) l.length l.length), (4, .slice (some ⟨b4, 0, none⟩) l.length l.length), (5, .int .i64 i), (6, .int .i64 m), (7, .int .i64 k)]) (fun ⟨k, U2, m⟩ => [rw_ eZ 3 (.slice (some ⟨b3, 0, none⟩) l.length l.length) U2, rw_ eZ 3 (.slice (some ⟨b4, 0, none⟩) l.length l.length) D]) (fun _ => S) (fun _ => wf) (fun ⟨k, U2, m⟩ => ((gt l i).v.ks.length - k.toNat)) (fun a_ w_ hs_ hw_ => ⟨⟨0, U, 0⟩, (by exact ⟨by omega, by omega, by omega, by omega, rfl, q_5.mono (by omega)⟩), hs_.mono (Sub.get (.c rfl (.c rfl (.c rfl (.c rfl (.c rfl (.c rfl .n))))))), hw_.keep (.c .h (.c .h .n))⟩) (fun ⟨k, U2, m⟩ ⟨p_0, p_1, p_2, p_3, p_4, p_5⟩ => ?_)
          show SC _ _ _ _ _ ⟨[(0, .slice A l.length c), (3, .slice (some ⟨b3, 0, none⟩) l.length l.length), (4, .slice (some ⟨b4, 0, none⟩) l.length l.length), (5, .int .i64 i), (6, .int .i64 m), (7, .int .i64 k)], [rw_ eZ 3 (.slice (some ⟨b3, 0, none⟩) l.length l.length) U2, rw_ eZ 3 (.slice (some ⟨b4, 0, none⟩) l.length l.length) D], S, wf⟩
          refine .seq (.seq (.region (.cons (Ev.step (ev_mv rfl rfl) rfl rfl rfl (.cons (Ev.step (ev_mv rfl rfl) rfl rfl rfl (.cons (Ev.step (ev_mv rfl rfl) rfl rfl rfl ?_))))))))
          refine .cons (Ev.step (ev_ix rfl Try.underlying34 ty90 rfl rfl (by omega) (by omega) (fun _ _ => Fr.adr (i := i) hA (by omega) (by omega))) rfl rfl rfl (.cons (Ev.step (ev_fa rfl fo90_5 rfl (r := ao A + (i).toNat * 6 + 5) rfl) rfl rfl rfl (.cons (Ev.step (ev_ld1 rfl ty56 rfl (At.elem1 (At.w (Fr.el (i := i) hA (by omega) (by omega))) 5 rfl)) rfl rfl rfl (.cons (Ev.step (ev_len rfl Try.underlying56 rfl) rfl rfl rfl (.cons (Ev.step (ev_cmp rfl rfl rfl rfl) rfl rfl rfl (.go (fun _ _ h => h) ?_))))))))))
          refine .condI rfl bD (fun h10 => ?_) (fun h10 => ?_)
          ·
            refine .skipgo (fun _ _ h => h) (.seq (.block (.seq (.region (.cons (Ev.step (ev_mv rfl rfl) rfl rfl rfl ?_))))))
            refine .cons (Ev.step (ev_mv rfl rfl) rfl rfl rfl (.cons (Ev.step (ev_ix rfl Try.underlying34 ty90 rfl rfl (by omega) (by omega) (fun _ _ => Fr.adr (i := i) hA (by omega) (by omega))) rfl rfl rfl (.cons (Ev.step (ev_fa rfl fo90_5 rfl (r := ao A + (i).toNat * 6 + 5) rfl) rfl rfl rfl (.cons (Ev.step (ev_ld1 rfl ty56 rfl (At.elem1 (At.w (Fr.el (i := i) hA (by omega) (by omega))) 5 rfl)) rfl rfl rfl (.cons (Ev.step (ev_mv rfl rfl) rfl rfl rfl (.cons (Ev.step (ev_ix rfl Try.underlying56 ty3 rfl rfl (by omega) (by omega) (fun _ _ => Fr.adr (i := k) (hN _ (gt_mem (i := i) (by omega) (by omega))).2 (by omega) (by omega))) rfl rfl rfl ?_)))))))))))
            refine .cons (Ev.step (ev_ld1 rfl ty3 rfl (At.elem1 (At.w (Fr.el (i := k) (hN _ (gt_mem (i := i) (by omega) (by omega))).2 (by omega) (by omega))) 0 rfl)) rfl rfl rfl (.cons (Ev.step (ev_as rfl rfl) rfl rfl rfl (.go (fun _ _ h => h) (.seq (.seq ?_))))))
            have hD1 := q_6.gt (by omega) (by omega) (gt (gt l i).v.ks k)
            have hU1 := p_5.gt (by omega) (by omega) (gt (gt l i).v.ks k)
            refine .region (.cons (Ev.step (ev_mv rfl rfl) rfl rfl rfl (.cons (Ev.step (ev_cmp rfl rfl rfl rfl) rfl rfl rfl (.cons (Ev.step (ev_mv rfl rfl) rfl rfl rfl (.cons (Ev.gstep (fun _ => ev_mv rfl rfl) rfl rfl rfl rfl rfl (.cons (Ev.gstep (fun _ => ev_mv rfl rfl) rfl rfl rfl rfl rfl ?_))))))))))
            refine .cons (Ev.gstep (fun hb => ev_cmp rfl (lkg rfl hb) (lkg rfl hb) rfl) rfl rfl rfl rfl rfl (.cons (Ev.step (ev_or rfl rfl rfl rfl) rfl rfl rfl (.go (fun _ _ h => h) (.condI rfl (bO bD bD) (fun h11 => ?_) (fun h11 => ?_))))))
            ·
              exact .seq (.region (.cons (Ev.step (ev_as rfl rfl) rfl rfl rfl (.go (fun _ _ h => h) (.ret (fun _ _ h => h) (ret1 Try.results29 rfl .n ⟨(congrArg (Value.int .i64) (ck_none (by omega) (by omega) (ck_kid q_4 q_0 (by omega) hpl p_4 p_0 (by omega) (by omega)))), rfl⟩))))))
            ·
              refine .skipgo (fun _ _ h => h) (.seq (.region (.cons (Ev.step (ev_mv rfl rfl) rfl rfl rfl (.cons (Ev.step (ev_mv rfl rfl) rfl rfl rfl (.cons (Ev.step (ev_mv rfl rfl) rfl rfl rfl ?_))))))))
              refine .cons (Ev.step (ev_mv rfl rfl) rfl rfl rfl (.cons (Ev.step (ev_ix rfl Try.underlying56 ty3 rfl rfl (by omega) (by omega) (row_adr (i := (gt ((gt l i).v.ks) k)) 0 rfl (by omega) (by omega))) rfl rfl rfl (.cons (Ev.step (ev_ld1 rfl ty3 rfl (At.elem1 (row_el (E := eZ) (l := U2) (i := (gt ((gt l i).v.ks) k)) 0 rfl (by omega) (by omega)) 0 rfl)) rfl rfl rfl (.cons (Ev.step (ev_add rfl rfl rfl (r := ((gt U2 (gt ((gt l i).v.ks) k)) + 1)) rfl (by omega) (by omega)) rfl rfl rfl (.cons (Ev.step (ev_ix rfl Try.underlying56 ty3 rfl rfl (by omega) (by omega) (row_adr (i := (gt ((gt l i).v.ks) k)) 0 rfl (by omega) (by omega))) rfl rfl rfl (.cons (st_setel (E := eZ) (i := (gt ((gt l i).v.ks) k)) (cs := [.int .i64 ((gt U2 (gt ((gt l i).v.ks) k)) + 1)]) (off := 0) ((gt U2 (gt ((gt l i).v.ks) k)) + 1) rfl rfl rfl ty3 rfl rfl rfl rfl rfl .h (by first | ((try simp only [List.length_nil, List.length_cons, List.length_append, List.length_set, List.length_singleton, List.length_take, List.length_drop, List.length_reverse]) <;> omega) | omega) (by first | ((try simp only [List.length_nil, List.length_cons, List.length_append, List.length_set, List.length_singleton, List.length_take, List.length_drop, List.length_reverse]) <;> omega) | omega) (Nat.le_of_ble_eq_true rfl) rfl ?_)))))))))))
              refine .go (fun _ _ h => h) (.seq (.region (.cons (Ev.step (ev_mv rfl rfl) rfl rfl rfl (.cons (Ev.step (ev_mv rfl rfl) rfl rfl rfl (.cons (Ev.step (ev_ix rfl Try.underlying56 ty3 rfl rfl (by omega) (by omega) (row_adr (i := (gt ((gt l i).v.ks) k)) 1 rfl (by omega) (by omega))) rfl rfl rfl ?_))))))))
              refine .cons (Ev.step (ev_ld1 rfl ty3 rfl (At.elem1 (row_el (E := eZ) (l := D) (i := (gt ((gt l i).v.ks) k)) 1 rfl (by omega) (by omega)) 0 rfl)) rfl rfl rfl (.cons (Ev.step (ev_mv rfl rfl) rfl rfl rfl (.cons (Ev.step (ev_cmp rfl rfl rfl rfl) rfl rfl rfl (.go (fun _ _ h => h) (.condI rfl bD (fun h12 => ?_) (fun h12 => ?_))))))))
              ·
                refine .region (.cons (Ev.step (ev_mv rfl rfl) rfl rfl rfl (.cons (Ev.step (ev_mv rfl rfl) rfl rfl rfl (.cons (Ev.step (ev_ix rfl Try.underlying56 ty3 rfl rfl (by omega) (by omega) (row_adr (i := (gt ((gt l i).v.ks) k)) 1 rfl (by omega) (by omega))) rfl rfl rfl (.cons (Ev.step (ev_ld1 rfl ty3 rfl (At.elem1 (row_el (E := eZ) (l := D) (i := (gt ((gt l i).v.ks) k)) 1 rfl (by omega) (by omega)) 0 rfl)) rfl rfl rfl (.cons (Ev.step (ev_as rfl rfl) rfl rfl rfl ?_))))))))))
                exact .go (fun _ _ h => h) (.region (.cons (Ev.step (ev_mv rfl rfl) rfl rfl rfl (.cons (Ev.step (ev_add rfl rfl rfl (r := (k + 1)) rfl (by omega) (by omega)) rfl rfl rfl (.cons (Ev.step (ev_as rfl rfl) rfl rfl rfl (SP.nil (SQ.roundb (X := Int × (List Int) × Int) (x := (k, U2, m)) ⟨(k + 1), (U2.set ((gt ((gt l i).v.ks) k)).toNat ((gt U2 (gt ((gt l i).v.ks) k)) + 1)), (gt D (gt ((gt l i).v.ks) k))⟩ (by exact ⟨by omega, by omega, by rw [List.length_set]; omega, by omega, kid_next p_4 p_0 (by omega) (by omega) (by rw [if_pos (by assumption)]), p_5.set (by omega) (by omega) (by omega)⟩) (by dsimp only; omega) (Sub.get (.c rfl (.c rfl (.c rfl (.c rfl (.c rfl (.c rfl .n))))))) (fun w hw => hw.keep (.c .h (.c .h .n))))))))))))
              ·
                exact .skipgo (fun _ _ h => h) (.region (.cons (Ev.step (ev_mv rfl rfl) rfl rfl rfl (.cons (Ev.step (ev_add rfl rfl rfl (r := (k + 1)) rfl (by omega) (by omega)) rfl rfl rfl (.cons (Ev.step (ev_as rfl rfl) rfl rfl rfl (SP.nil (SQ.roundb (X := Int × (List Int) × Int) (x := (k, U2, m)) ⟨(k + 1), (U2.set ((gt ((gt l i).v.ks) k)).toNat ((gt U2 (gt ((gt l i).v.ks) k)) + 1)), m⟩ (by exact ⟨by omega, by omega, by rw [List.length_set]; omega, by omega, kid_next p_4 p_0 (by omega) (by omega) (by rw [if_neg (by assumption)]), p_5.set (by omega) (by omega) (by omega)⟩) (by dsimp only; omega) (Sub.get (.c rfl (.c rfl (.c rfl (.c rfl (.c rfl (.c rfl .n))))))) (fun w hw => hw.keep (.c .h (.c .h .n))))))))))))
          ·
            refine .exit (fun _ _ h => h) (.seq (.seq (.region (.cons (Ev.step (ev_mv rfl rfl) rfl rfl rfl (.cons (Ev.step (ev_mv rfl rfl) rfl rfl rfl ?_)))))))
            refine .cons (Ev.step (ev_ix rfl Try.underlying34 ty90 rfl rfl (by omega) (by omega) (fun _ _ => Fr.adr (i := i) hA (by omega) (by omega))) rfl rfl rfl (.cons (Ev.step (ev_fa rfl fo90_0 rfl (r := ao A + (i).toNat * 6) rfl) rfl rfl rfl (.cons (Ev.step (ev_ld1 rfl ty88 rfl (At.elem1 (At.w (Fr.el (i := i) hA (by omega) (by omega))) 0 rfl)) rfl rfl rfl (.cons (Ev.step (ev_cmp rfl rfl rfl rfl) rfl rfl rfl (.go (fun _ _ h => h) (.condI rfl bD (fun h13 => ?_) (fun h13 => ?_))))))))))
            ·
              refine .region (.cons (Ev.step (ev_mv rfl rfl) rfl rfl rfl (.cons (Ev.step (ev_add rfl rfl rfl (r := (m + 1)) rfl (by omega) (by omega)) rfl rfl rfl (.cons (Ev.step (ev_as rfl rfl) rfl rfl rfl (.go (fun _ _ h => h) (.region ?_))))))))
              refine .cons (Ev.step (ev_mv rfl rfl) rfl rfl rfl (.cons (Ev.step (ev_mv rfl rfl) rfl rfl rfl (.cons (Ev.step (ev_mv rfl rfl) rfl rfl rfl (.cons (Ev.step (ev_ix rfl Try.underlying56 ty3 rfl rfl (by omega) (by omega) (row_adr (i := i) 1 rfl (by omega) (by omega))) rfl rfl rfl (.cons (st_setel (E := eZ) (i := i) (cs := [.int .i64 (m + 1)]) (off := 0) (m + 1) rfl rfl rfl ty3 rfl rfl rfl rfl rfl (.t .h) (by first | ((try simp only [List.length_nil, List.length_cons, List.length_append, List.length_set, List.length_singleton, List.length_take, List.length_drop, List.length_reverse]) <;> omega) | omega) (by first | ((try simp only [List.length_nil, List.length_cons, List.length_append, List.length_set, List.length_singleton, List.length_take, List.length_drop, List.length_reverse]) <;> omega) | omega) (Nat.le_of_ble_eq_true rfl) rfl (.go (fun _ _ h => h) ?_))))))))))
              exact .region (.cons (Ev.step (ev_mv rfl rfl) rfl rfl rfl (.cons (Ev.step (ev_add rfl rfl rfl (r := (i + 1)) rfl (by omega) (by omega)) rfl rfl rfl (.cons (Ev.step (ev_as rfl rfl) rfl rfl rfl (SP.nil (SQ.roundb (X := Int × (List Int) × (List Int)) (x := (i, U, D)) ⟨(i + 1), U2, (D.set (i).toNat (m + 1))⟩ (by exact ⟨by omega, by omega, by omega, by rw [List.length_set]; omega, ck_next q_4 q_0 (by omega) hpl p_4 (by omega) (by rw [if_pos (by assumption)]), p_5.mono (by omega), q_6.set (by omega) (by omega) (by omega)⟩) (by dsimp only; omega) (Sub.get (.c rfl (.c rfl (.c rfl (.c rfl .n))))) (fun w hw => hw.keep (.c (.t .h) (.c .h .n)))))))))))
            ·
              refine .skipgo (fun _ _ h => h) (.region (.cons (Ev.step (ev_mv rfl rfl) rfl rfl rfl (.cons (Ev.step (ev_mv rfl rfl) rfl rfl rfl (.cons (Ev.step (ev_mv rfl rfl) rfl rfl rfl (.cons (Ev.step (ev_ix rfl Try.underlying56 ty3 rfl rfl (by omega) (by omega) (row_adr (i := i) 1 rfl (by omega) (by omega))) rfl rfl rfl ?_)))))))))
              refine .cons (st_setel (E := eZ) (i := i) (cs := [.int .i64 m]) (off := 0) m rfl rfl rfl ty3 rfl rfl rfl rfl rfl (.t .h) (by first | ((try simp only [List.length_nil, List.length_cons, List.length_append, List.length_set, List.length_singleton, List.length_take, List.length_drop, List.length_reverse]) <;> omega) | omega) (by first | ((try simp only [List.length_nil, List.length_cons, List.length_append, List.length_set, List.length_singleton, List.length_take, List.length_drop, List.length_reverse]) <;> omega) | omega) (Nat.le_of_ble_eq_true rfl) rfl (.go (fun _ _ h => h) (.region (.cons (Ev.step (ev_mv rfl rfl) rfl rfl rfl (.cons (Ev.step (ev_add rfl rfl rfl (r := (i + 1)) rfl (by omega) (by omega)) rfl rfl rfl (.cons (Ev.step (ev_as rfl rfl) rfl rfl rfl ?_)))))))))
              exact SP.nil (SQ.roundb (X := Int × (List Int) × (List Int)) (x := (i, U, D)) ⟨(i + 1), U2, (D.set (i).toNat m)⟩ (by exact ⟨by omega, by omega, by omega, by rw [List.length_set]; omega, ck_next q_4 q_0 (by omega) hpl p_4 (by omega) (by rw [if_neg (by assumption)]), p_5.mono (by omega), q_6.set (by omega) (by omega) (by omega)⟩) (by dsimp only; omega) (Sub.get (.c rfl (.c rfl (.c rfl (.c rfl .n))))) (fun w hw => hw.keep (.c (.t .h) (.c .h .n))))
      ·
        refine .exit (fun _ _ h => h) (.seq (.seq (.region (.cons (Ev.step (ev_as rfl rfl) rfl rfl rfl (.go (fun _ _ h => h) ?_))))))
        refine .block ?_
        refine .loop (X := Int) (fun j => 0 ≤ j ∧ (∀ j' : Int, 0 ≤ j' → j' < j → gt U j' = 1)) (fun j => [(0, .slice A l.length c), (3, .slice (some ⟨b3, 0, none⟩) l.length l.length), (4, .slice (some ⟨b4, 0, none⟩) l.length l.length), (9, .int .i64 j)]) (fun j => [rw_ eZ 3 (.slice (some ⟨b3, 0, none⟩) l.length l.length) U, rw_ eZ 3 (.slice (some ⟨b4, 0, none⟩) l.length l.length) D]) (fun _ => S) (fun _ => wf) (fun j => (l.length - j.toNat)) (fun a_ w_ hs_ hw_ => ⟨0, (by exact ⟨by omega, fun j' a b => by omega⟩), hs_.mono (Sub.get (.c rfl (.c rfl (.c rfl (.c rfl .n))))), hw_.keep (.c .h (.c .h .n))⟩) (fun j ⟨s_0, s_1⟩ => ?_)
        show SC _ _ _ _ _ ⟨[(0, .slice A l.length c), (3, .slice (some ⟨b3, 0, none⟩) l.length l.length), (4, .slice (some ⟨b4, 0, none⟩) l.length l.length), (9, .int .i64 j)], [rw_ eZ 3 (.slice (some ⟨b3, 0, none⟩) l.length l.length) U, rw_ eZ 3 (.slice (some ⟨b4, 0, none⟩) l.length l.length) D], S, wf⟩
        refine .seq (.seq (.region (.cons (Ev.step (ev_mv rfl rfl) rfl rfl rfl (.cons (Ev.step (ev_mv rfl rfl) rfl rfl rfl (.cons (Ev.step (ev_len rfl Try.underlying34 rfl) rfl rfl rfl ?_))))))))
        refine .cons (Ev.step (ev_sub rfl rfl rfl (r := ((l.length : Int) - 1)) rfl (by omega) (by omega)) rfl rfl rfl (.cons (Ev.step (ev_cmp rfl rfl rfl rfl) rfl rfl rfl (.go (fun _ _ h => h) (.condI rfl bD (fun h14 => ?_) (fun h14 => ?_))))))
        ·
          refine .skipgo (fun _ _ h => h) (.seq (.block (.seq (.region (.cons (Ev.step (ev_mv rfl rfl) rfl rfl rfl ?_))))))
          refine .cons (Ev.step (ev_mv rfl rfl) rfl rfl rfl (.cons (Ev.step (ev_ix rfl Try.underlying56 ty3 rfl rfl (by omega) (by omega) (row_adr (i := j) 0 rfl (by omega) (by omega))) rfl rfl rfl (.cons (Ev.step (ev_ld1 rfl ty3 rfl (At.elem1 (row_el (E := eZ) (l := U) (i := j) 0 rfl (by omega) (by omega)) 0 rfl)) rfl rfl rfl (.cons (Ev.step (ev_cmp rfl rfl rfl rfl) rfl rfl rfl (.go (fun _ _ h => h) (.condI rfl bNE (fun h15 => ?_) (fun h15 => ?_))))))))))
          ·
            exact .seq (.region (.cons (Ev.step (ev_as rfl rfl) rfl rfl rfl (.go (fun _ _ h => h) (.ret (fun _ _ h => h) (ret1 Try.results29 rfl .n ⟨(congrArg (Value.int .i64) (ck_twice (by omega) (by omega) q_4 (by omega) s_0 (by omega) (by assumption))), rfl⟩))))))
          ·
            exact .skipgo (fun _ _ h => h) (.region (.cons (Ev.step (ev_mv rfl rfl) rfl rfl rfl (.cons (Ev.step (ev_add rfl rfl rfl (r := (j + 1)) rfl (by omega) (by omega)) rfl rfl rfl (.cons (Ev.step (ev_as rfl rfl) rfl rfl rfl (SP.nil (SQ.roundb (X := Int) (x := (j)) (j + 1) (by exact ⟨by omega, fun j' a b => (by by_cases e : j' = j <;> first | (subst e; omega) | exact s_1 j' a (by omega))⟩) (by show (_ : Nat) < _; omega) (Sub.get (.c rfl (.c rfl (.c rfl (.c rfl .n))))) (fun w hw => hw.keep (.c .h (.c .h .n))))))))))))
        ·
          refine .exit (fun _ _ h => h) (.seq (.seq (.region (.cons (Ev.step (ev_mv rfl rfl) rfl rfl rfl (.cons (Ev.step (ev_mv rfl rfl) rfl rfl rfl ?_)))))))
          refine .cons (Ev.step (ev_len rfl Try.underlying34 rfl) rfl rfl rfl (.cons (Ev.step (ev_sub rfl rfl rfl (r := ((l.length : Int) - 1)) rfl (by omega) (by omega)) rfl rfl rfl (.cons (Ev.step (ev_ix rfl Try.underlying56 ty3 rfl rfl (by omega) (by omega) (row_adr (i := ((l.length : Int) - 1)) 1 rfl (by omega) (by omega))) rfl rfl rfl (.cons (Ev.step (ev_ld1 rfl ty3 rfl (At.elem1 (row_el (E := eZ) (l := D) (i := ((l.length : Int) - 1)) 1 rfl (by omega) (by omega)) 0 rfl)) rfl rfl rfl (.cons (Ev.step (ev_cmp rfl rfl rfl rfl) rfl rfl rfl (.go (fun _ _ h => h) ?_))))))))))
          refine .condI rfl bD (fun h16 => ?_) (fun h16 => ?_)
          ·
            exact .seq (.region (.cons (Ev.step (ev_as rfl rfl) rfl rfl rfl (.go (fun _ _ h => h) (.ret (fun _ _ h => h) (ret1 Try.results29 rfl .n ⟨(congrArg (Value.int .i64) (by rw [ck_deep (by omega) (by omega) q_4 (by omega) s_1 (by omega), if_pos (by assumption)])), rfl⟩))))))
          ·
            exact .skipgo (fun _ _ h => h) (.seq (.region (.cons (Ev.step (ev_as rfl rfl) rfl rfl rfl (.go (fun _ _ h => h) (.ret (fun _ _ h => h) (ret1 Try.results29 rfl .n ⟨(congrArg (Value.int .i64) (by rw [ck_deep (by omega) (by omega) q_4 (by omega) s_1 (by omega), if_neg (by assumption)])), rfl⟩)))))))

end Go.Proofs.Ythmkelkefmfmgaa.Sx
