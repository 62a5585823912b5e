import Derived.Test.YthmkelkefmfmgaaProg
import Derived.Test.YthmkelkefmfmgaaSxFault
import Derived.Test.YthmkelkefmfmgaaSx22A
import Derived.Test.YthmkelkefmfmgaaSx22B
import Derived.Test.YthmkelkefmfmgaaSx22W
import Derived.Test.YthmkelkefmfmgaaSx22M
set_option maxRecDepth 20000
set_option maxHeartbeats 4000000
set_option linter.unusedVariables false
set_option linter.unusedSimpArgs false
namespace Go.Proofs.Ythmkelkefmfmgaa.Sx.FF
open Go Go.SX Go.Proofs
theorem fo30_3 : fo Try.prog 30 3 = some 12 := by kernel_rfl
theorem ty27 : ty Try.prog 27 = some (false, 1) := by kernel_rfl
theorem fo30_4 : fo Try.prog 30 4 = some 13 := by kernel_rfl
theorem ty28 : ty Try.prog 28 = some (false, 1) := by kernel_rfl
theorem fo30_0 : fo Try.prog 30 0 = some 0 := by kernel_rfl
theorem fo24_2 : fo Try.prog 24 2 = some 2 := by kernel_rfl
theorem ty9 : ty Try.prog 9 = some (false, 1) := by kernel_rfl
theorem ty3 : ty Try.prog 3 = some (false, 1) := by kernel_rfl
theorem hbd47 : hasBody Try.prog 47 = true := by kernel_rfl
theorem fo24_0 : fo Try.prog 24 0 = some 0 := by kernel_rfl
theorem ty22 : ty Try.prog 22 = some (false, 1) := by kernel_rfl
theorem hbd19 : hasBody Try.prog 19 = true := by kernel_rfl
theorem fo24_1 : fo Try.prog 24 1 = some 1 := by kernel_rfl
theorem hbd20 : hasBody Try.prog 20 = true := by kernel_rfl
theorem hbd22 : hasBody Try.prog 22 = true := by kernel_rfl
theorem hbd23 : hasBody Try.prog 23 = true := by kernel_rfl
theorem hbd21 : hasBody Try.prog 21 = true := by kernel_rfl
theorem mo : Try.prog.follows .mixedOrders = true := by kernel_rfl
theorem fo65_0 : fo Try.prog 65 0 = some 0 := by kernel_rfl
theorem ty34 : ty Try.prog 34 = some (false, 1) := by kernel_rfl


end Go.Proofs.Ythmkelkefmfmgaa.Sx.FF
namespace Go.Proofs.Ythmkelkefmfmgaa.Sx
open Go Go.SX Go.Proofs FF





theorem long_f (cd : Int) (at_ : Int) (path : ByteArray) (S : Nat → Prop) (wf : World) :
    TR0 Try.prog 9 [.agg #[.int .i64 cd, .int .i64 at_, .string path, .bool false, .int .i64 0, .int .i64 0, .int .i64 0, .int .i64 0, .int .i64 0, .int .i64 0, .int .i64 0, .int .i64 0, .slice none 0 0, .slice none 0 0]] [] S wf (fun v_ C_ => v_ = .bool (decide ((path.size : Int) > 2000)) ∧ C_ = []) := by
  refine TR.mk Try.func9 rfl Try.ntmps9 rfl rfl (fun w_ => ?_)
  refine .seq (.region (.cons (st_boxa rfl rfl rfl rfl rfl (fun b1 => .cons (Ev.step (ev_as rfl rfl) rfl rfl rfl (.go (fun _ _ h => h) (.seq ?_)))))))
  refine .seq (.region (.cons (Ev.step (ev_fa rfl fo30_3 rfl (r := 12) rfl) rfl rfl rfl (.cons (Ev.step (ev_ld1 rfl ty27 rfl (At.own1 0 rfl rfl)) rfl rfl rfl (.cons (Ev.step (ev_len rfl Try.underlying27 rfl) rfl rfl rfl (.cons (Ev.step (ev_cmp (r := false) rfl rfl rfl rfl) rfl rfl rfl ?_)))))))))
  refine .cons (Ev.step (ev_mv rfl rfl) rfl rfl rfl (.cons (.on rfl rfl rfl (Ev.step (ev_fa rfl fo30_4 rfl (r := 13) rfl) rfl rfl rfl (.cons (.on rfl rfl rfl (Ev.step (ev_ld1 rfl ty28 rfl (At.own1 0 rfl rfl)) rfl rfl rfl (.cons (.on rfl rfl rfl (Ev.step (ev_len rfl Try.underlying28 rfl) rfl rfl rfl (.cons (.on rfl rfl rfl (Ev.step (ev_cmp (r := false) rfl rfl rfl rfl) rfl rfl rfl (.cons (Ev.step (ev_pickf rfl rfl rfl rfl) rfl rfl rfl ?_)))))))))))))))
  refine .cons (Ev.step (ev_mv rfl rfl) rfl rfl rfl (.cons (.on rfl rfl rfl (Ev.step (ev_fa rfl fo30_0 rfl (r := 0) rfl) rfl rfl rfl (.cons (.on rfl rfl rfl (Ev.step (ev_fa rfl fo24_2 rfl (r := 2) rfl) rfl rfl rfl (.cons (.on rfl rfl rfl (Ev.step (ev_ld1 rfl ty9 rfl (At.own1 0 rfl rfl)) rfl rfl rfl (.cons (.on rfl rfl rfl (Ev.step (ev_lens rfl Try.underlying9 rfl) rfl rfl rfl (.cons (.on rfl rfl rfl (Ev.step (ev_cmp rfl rfl rfl rfl) rfl rfl rfl ?_))))))))))))))))
  refine .cons (Ev.step (ev_pickf rfl rfl rfl rfl) rfl rfl rfl (.go (fun _ _ h => h) (.condI rfl bD (fun h2 => ?_) (fun h2 => ?_))))
  ·
    exact .seq (.region (.cons (Ev.step (ev_as rfl rfl) rfl rfl rfl (.go (fun _ _ h => h) (.ret (fun _ _ h => h) (ret1 Try.results9 rfl .n ⟨(congrArg Value.bool (by simp; omega)), rfl⟩))))))
  ·
    refine .skipgo (fun _ _ h => h) (.seq (.seq (.region (.cons (Ev.step (ev_fa rfl fo30_3 rfl (r := 12) rfl) rfl rfl rfl (.cons (Ev.step (ev_ld1 rfl ty27 rfl (At.own1 0 rfl rfl)) rfl rfl rfl ?_)))))))
    refine .cons (Ev.step (ev_len rfl Try.underlying27 rfl) rfl rfl rfl (.cons (Ev.step (ev_mv rfl rfl) rfl rfl rfl (.go (fun _ _ h => h) (.block ?_)))))
    refine .loop (X := Int) (fun x => x = 0) (fun x => [(24, .int .i64 0), (25, .int .i64 0)]) (fun x => [cel b1 [.int .i64 cd, .int .i64 at_, .string path, .bool false, .int .i64 0, .int .i64 0, .int .i64 0, .int .i64 0, .int .i64 0, .int .i64 0, .int .i64 0, .int .i64 0, .slice none 0 0, .slice none 0 0] 30]) (fun _ => S) (fun _ => wf) (fun x => 0) (fun a_ w_ hs_ hw_ => ⟨0, rfl, hs_.mono (Sub.get (.c rfl (.c rfl .n))), hw_.keep (.c .h .n)⟩) (fun x hk3 => ?_)
    show SC _ _ _ _ _ ⟨[(24, .int .i64 0), (25, .int .i64 0)], [cel b1 [.int .i64 cd, .int .i64 at_, .string path, .bool false, .int .i64 0, .int .i64 0, .int .i64 0, .int .i64 0, .int .i64 0, .int .i64 0, .int .i64 0, .int .i64 0, .slice none 0 0, .slice none 0 0] 30], S, wf⟩
    refine .seq (.region (.cons (Ev.step (ev_cmp (r := false) rfl rfl rfl rfl) rfl rfl rfl (.go (fun _ _ h => h) (.seq (.cond_f rfl ?_))))))
    exact .exit (fun _ _ h => h) (.seq (.region (.cons (Ev.step (ev_as rfl rfl) rfl rfl rfl (.go (fun _ _ h => h) (.ret (fun _ _ h => h) (ret1 Try.results9 rfl .n ⟨(congrArg Value.bool (by simp; omega)), rfl⟩)))))))

theorem all_ (A : Option Addr) (n : Nat) (c : Nat) (l : List Int) (S : Nat → Prop) (wf : World) (hA : Fr eZ S wf A l) (hn : l.length = n) :
    TR0 Try.prog 20 [.slice A n c] [] S wf (fun v_ C_ => ∃ (r : Bool), (r = true ↔ ∀ x ∈ l, fitP x) ∧ v_ = .bool r ∧ C_ = []) := by
  have hla := hA.len
  refine TR.mk Try.func20 rfl Try.ntmps20 rfl rfl (fun w_ => ?_)
  refine .seq (.region (.cons (Ev.step (ev_as rfl rfl) rfl rfl rfl (.go (fun _ _ h => h) (.seq (.seq ?_))))))
  refine .region (.cons (Ev.step (ev_mv rfl rfl) rfl rfl rfl (.cons (Ev.step (ev_len rfl Try.underlying56 rfl) rfl rfl rfl (.cons (Ev.step (ev_mv rfl rfl) rfl rfl rfl (.go (fun _ _ h => h) (.block ?_))))))))
  refine .loop (X := Int) (fun i => 0 ≤ i ∧ i ≤ l.length ∧ (∀ x ∈ l.take i.toNat, fitP x)) (fun i => [(5, .slice A n c), (6, .int .i64 (n : Int)), (7, .int .i64 i)]) (fun i => []) (fun _ => S) (fun _ => wf) (fun i => (l.length - i.toNat)) (fun a_ w_ hs_ hw_ => ⟨0, (by exact ⟨by omega, by omega, by simp⟩), hs_.mono (Sub.get (.c rfl (.c rfl (.c rfl .n)))), hw_.keep .n⟩) (fun i ⟨q_0, q_1, q_2⟩ => ?_)
  show SC _ _ _ _ _ ⟨[(5, .slice A n c), (6, .int .i64 (n : Int)), (7, .int .i64 i)], [], S, wf⟩
  refine .seq (.region (.cons (Ev.step (ev_cmp rfl rfl rfl rfl) rfl rfl rfl (.go (fun _ _ h => h) (.seq (.condI rfl bD (fun h1 => ?_) (fun h1 => ?_)))))))
  ·
    refine .skipgo (fun _ _ h => h) (.seq (.block (.seq (.region (.cons (Ev.step (ev_ix rfl Try.underlying56 ty3 rfl rfl (by omega) (by omega) (fun _ _ => Fr.adr (i := i) hA (by omega) (by omega))) rfl rfl rfl ?_))))))
    refine .cons (Ev.step (ev_ld1 rfl ty3 rfl (At.elem1 (At.w (Fr.el (i := i) hA (by omega) (by omega))) 0 rfl)) rfl rfl rfl (.cons (Ev.step (ev_as rfl rfl) rfl rfl rfl (.go (fun _ _ h => h) (.seq (.region (.cons (Ev.step (ev_mv rfl rfl) rfl rfl rfl ?_))))))))
    refine .cons (st_callk rfl rfl rfl rfl hbd47 rfl .n (fits1 (gt l i) _ _) (.cons (Ev.step (ev_not rfl rfl) rfl rfl rfl (.go (fun _ _ h => h) (.condI rfl (bN (bA bD bD)) (fun h2 => ?_) (fun h2 => ?_))))))
    ·
      exact .seq (.region (.cons (Ev.step (ev_as rfl rfl) rfl rfl rfl (.go (fun _ _ h => h) (.ret (fun _ _ h => h) (ret1 Try.results20 rfl .n ⟨false, ⟨fun e => (by cases e), fun e => absurd (e _ (gt_mem (i := i) (by omega) (by omega))) (by unfold fitP; omega)⟩, rfl, rfl⟩))))))
    ·
      exact .skipgo (fun _ _ h => h) (.region (.cons (Ev.step (ev_add rfl rfl rfl (r := (i + 1)) rfl (by omega) (by omega)) rfl rfl rfl (.cons (Ev.step (ev_mv rfl rfl) rfl rfl rfl (SP.nil (SQ.roundb (X := Int) (x := (i)) (i + 1) (by exact ⟨by omega, by omega, all_step q_2 (by omega) (by omega) (by unfold fitP; omega)⟩) (by show (_ : Nat) < _; omega) (Sub.get (.c rfl (.c rfl (.c rfl .n)))) (fun w hw => hw.keep .n))))))))
  ·
    exact .exit (fun _ _ h => h) (.seq (.region (.cons (Ev.step (ev_as rfl rfl) rfl rfl rfl (.go (fun _ _ h => h) (.ret (fun _ _ h => h) (ret1 Try.results20 rfl .n ⟨true, (by rw [List.take_of_length_le (by omega)] at q_2; exact ⟨fun _ => q_2, fun _ => rfl⟩), rfl, rfl⟩)))))))

theorem fits_f (cd : Int) (at_ : Int) (path : ByteArray) (S : Nat → Prop) (wf : World) (hs : path.size ≤ 1000000000) (hc : cd ≠ 0) :
    TR0 Try.prog 10 [.agg #[.int .i64 cd, .int .i64 at_, .string path, .bool false, .int .i64 0, .int .i64 0, .int .i64 0, .int .i64 0, .int .i64 0, .int .i64 0, .int .i64 0, .int .i64 0, .slice none 0 0, .slice none 0 0]] [] S wf (fun v_ C_ => ∃ (r : Bool), (r = true ↔ (utfF (bs path) = true ∧ fitP cd ∧ fitP at_)) ∧ v_ = .bool r ∧ C_ = []) := by
  refine TR.mk Try.func10 rfl Try.ntmps10 rfl rfl (fun w_ => ?_)
  refine .seq (.region (.cons (st_boxa rfl rfl rfl rfl rfl (fun b1 => .cons (Ev.step (ev_as rfl rfl) rfl rfl rfl (.go (fun _ _ h => h) (.seq ?_)))))))
  refine .seq (.region (.cons (Ev.step (ev_fa rfl fo30_0 rfl (r := 0) rfl) rfl rfl rfl (.cons (Ev.step (ev_fa rfl fo24_0 rfl (r := 0) rfl) rfl rfl rfl (.cons (Ev.step (ev_ld1 rfl ty22 rfl (At.own1 0 rfl rfl)) rfl rfl rfl (.cons (Ev.step (ev_cmp rfl rfl rfl rfl) rfl rfl rfl ?_)))))))))
  refine .go (fun _ _ h => h) (.condI rfl bNE (fun h2 => ?_) (fun h2 => ?_))
  ·
    refine .seq (.region (.cons (Ev.step (ev_fa rfl fo30_0 rfl (r := 0) rfl) rfl rfl rfl (.cons (Ev.step (ev_fa rfl fo24_2 rfl (r := 2) rfl) rfl rfl rfl (.cons (Ev.step (ev_ld1 rfl ty9 rfl (At.own1 0 rfl rfl)) rfl rfl rfl (.cons (st_callk rfl rfl rfl rfl hbd19 rfl .n (utf path _ _ (by omega)) ?_)))))))))
    refine .cons (Ev.step (ev_mv rfl rfl) rfl rfl rfl (.cons (Ev.gstep (fun _ => ev_fa rfl fo30_0 rfl (r := 0) rfl) rfl rfl rfl rfl rfl (.cons (Ev.gstep (fun hb => ev_fa rfl fo24_0 (lkg rfl hb) (r := 0) rfl) rfl rfl rfl rfl rfl (.cons (Ev.gstep (fun hb => ev_ld1 rfl ty22 (lkg rfl hb) (At.own1 0 rfl rfl)) rfl rfl rfl rfl rfl (.cons (Ev.gstep (fun _ => ev_fa rfl fo30_0 rfl (r := 0) rfl) rfl rfl rfl rfl rfl (.cons (Ev.gstep (fun hb => ev_fa rfl fo24_1 (lkg rfl hb) (r := 1) rfl) rfl rfl rfl rfl rfl ?_)))))))))))
    refine .cons (Ev.gstep (fun hb => ev_ld1 rfl ty3 (lkg rfl hb) (At.own1 0 rfl rfl)) rfl rfl rfl rfl rfl ?_)
    rcases Bool.eq_false_or_eq_true (utfF (bs path)) with hb3 | hb3
    ·
      refine SP.reslot (t := 19) rfl hb3 ?_
      refine SP.reslotv (t := 22) rfl (gv_on hb3) (SP.reslotv (t := 25) rfl (gv_on hb3) (.cons (.on rfl rfl rfl (st_lit eZ (e := 3) (l := [cd, at_]) rfl rfl rfl rfl (by kernel_rfl) rfl rfl (fun w => by kernel_rfl) (fun b4 => .cons (.on rfl rfl rfl (st_lend0 rfl rfl rfl rfl hbd20 rfl .n (.c .h .n) (fun w_ hw => all_ (some ⟨b4, 0, none⟩) 2 2 [cd, at_] _ _ (Fr.lend hw 0 rfl (by first | ((try simp only [List.length_nil, List.length_cons, List.length_append, List.length_set, List.length_singleton, List.length_take, List.length_drop, List.length_reverse]) <;> omega) | omega)) (by first | ((try simp only [List.length_nil, List.length_cons, List.length_append, List.length_set, List.length_singleton, List.length_take, List.length_drop, List.length_reverse]) <;> omega) | omega)) (fun v_q6 C_q6 q6 => ?_))))))))
      obtain ⟨r5, p7, rfl, rfl⟩ := q6
      show SP _ _ _ _ _ _ ⟨_, _ :: _, _, _⟩
      exact .cons (Ev.step (ev_pickt rfl rfl rfl rfl) rfl rfl rfl (.cons (Ev.step (ev_as rfl rfl) rfl rfl rfl (.go (fun _ _ h => h) (.ret (fun _ _ h => h) (ret1 Try.results10 rfl .n ⟨r5, (by rw [p7]; simp_all), rfl, rfl⟩))))))
    ·
      refine SP.reslot (t := 19) rfl hb3 ?_
      exact .cons (.off rfl rfl rfl rfl rfl rfl (.cons (.off rfl rfl rfl rfl rfl rfl (.cons (Ev.step (ev_pickf rfl rfl rfl rfl) rfl rfl rfl (.cons (Ev.step (ev_as rfl rfl) rfl rfl rfl (.go (fun _ _ h => h) (.ret (fun _ _ h => h) (ret1 Try.results10 rfl .n ⟨false, (by simp_all), rfl, rfl⟩))))))))))
  ·
    exact absurd hc (by assumption)

theorem tree_f (cd : Int) (at_ : Int) (path : ByteArray) (S : Nat → Prop) (wf : World) (hc : cd ≠ 0) :
    TR0 Try.prog 11 [.agg #[.int .i64 cd, .int .i64 at_, .string path, .bool false, .int .i64 0, .int .i64 0, .int .i64 0, .int .i64 0, .int .i64 0, .int .i64 0, .int .i64 0, .int .i64 0, .slice none 0 0, .slice none 0 0]] [] S wf (fun v_ C_ => ∃ (u : Value) (L : List TV), (vs L = faultT cd at_ path) ∧ v_ = u ∧ C_ = [rw_ eTV 90 (u) L, nest 9 3 L]) := by
  refine TR.mk Try.func11 rfl Try.ntmps11 rfl rfl (fun w_ => ?_)
  refine .seq (.region (.cons (st_boxa rfl rfl rfl rfl rfl (fun b1 => .cons (Ev.step (ev_as rfl rfl) rfl rfl rfl (.go (fun _ _ h => h) (.seq ?_)))))))
  refine .region (.cons (Ev.step (ev_any (v := .agg #[.slice none 0 0]) rfl (by kernel_rfl) (fun _ => by kernel_rfl)) rfl rfl rfl (.cons (st_boxa rfl rfl rfl rfl rfl (fun b2 => .cons (Ev.step (ev_as rfl rfl) rfl rfl rfl (.go (fun _ _ h => h) (.seq ?_))))))))
  refine .seq ?_
  refine SC.nilrow eTV 90 ?_
  refine .region (.cons (Ev.step (ev_fa rfl fo30_0 rfl (r := 0) rfl) rfl rfl rfl (.cons (Ev.step (ev_fa rfl fo24_0 rfl (r := 0) rfl) rfl rfl rfl (.cons (Ev.step (ev_ld1 rfl ty22 rfl (At.own1 2 rfl rfl)) rfl rfl rfl (.cons (Ev.step (ev_cmp rfl rfl rfl rfl) rfl rfl rfl (.go (fun _ _ h => h) ?_)))))))))
  refine .condI rfl bNE (fun h3 => ?_) (fun h3 => ?_)
  ·
    refine .seq ?_
    refine SC.draw mo [rw_ eTV 90 (.slice none 0 0) ([] : List TV), cel b2 [.slice none 0 0] 65] [] (.c .h (.c .h .n)) (fun _ _ _ c hc => by cases hc) (fun wf_4 hl_4 hx_4 hR_4 => ?_)
    refine SR.take 0 rfl (by kernel_rfl) (by kernel_rfl) (by kernel_rfl) rfl (fun _ _ _ h => h) rfl rfl rfl (ev_mv rfl rfl) (SR.take 1 rfl (by kernel_rfl) (by kernel_rfl) (by kernel_rfl) rfl (fun _ _ _ h => h) rfl rfl rfl (ev_mv rfl rfl) (SR.take 4 rfl (by kernel_rfl) (by kernel_rfl) (by kernel_rfl) rfl (fun _ _ _ h => h) rfl rfl rfl (ev_mv rfl rfl) (SR.take 5 rfl (by kernel_rfl) (by kernel_rfl) (by kernel_rfl) rfl (fun _ _ _ h => h) rfl rfl rfl (ev_fa rfl fo30_0 rfl (r := 0) rfl) (SR.take 6 rfl (by kernel_rfl) (by kernel_rfl) (by kernel_rfl) rfl (fun _ _ _ h => h) rfl rfl rfl (ev_fa rfl fo24_0 rfl (r := 0) rfl) (SR.take 7 rfl (by kernel_rfl) (by kernel_rfl) (by kernel_rfl) rfl (fun _ _ _ h => h) rfl rfl rfl (ev_ld1 rfl ty22 rfl (At.d (At.lent hR_4 0 rfl rfl))) ?_)))))
    refine SR.take 10 rfl (by kernel_rfl) (by kernel_rfl) (by kernel_rfl) rfl (fun _ _ _ h => h) rfl rfl rfl (ev_mv rfl rfl) (SR.take 11 rfl (by kernel_rfl) (by kernel_rfl) (by kernel_rfl) rfl (fun _ _ _ h => h) rfl rfl rfl (ev_fa rfl fo30_0 rfl (r := 0) rfl) (SR.take 12 rfl (by kernel_rfl) (by kernel_rfl) (by kernel_rfl) rfl (fun _ _ _ h => h) rfl rfl rfl (ev_fa rfl fo24_1 rfl (r := 1) rfl) (SR.take 13 rfl (by kernel_rfl) (by kernel_rfl) (by kernel_rfl) rfl (fun _ _ _ h => h) rfl rfl rfl (ev_ld1 rfl ty3 rfl (At.d (At.lent hR_4 0 rfl rfl))) (SR.take 16 rfl (by kernel_rfl) (by kernel_rfl) (by kernel_rfl) rfl (fun _ _ _ h => h) rfl rfl rfl (ev_mv rfl rfl) (SR.take 17 rfl (by kernel_rfl) (by kernel_rfl) (by kernel_rfl) rfl (fun _ _ _ h => h) rfl rfl rfl (ev_fa rfl fo30_0 rfl (r := 0) rfl) ?_)))))
    refine SR.take 18 rfl (by kernel_rfl) (by kernel_rfl) (by kernel_rfl) rfl (fun _ _ _ h => h) rfl rfl rfl (ev_fa rfl fo24_2 rfl (r := 2) rfl) (SR.take 19 rfl (by kernel_rfl) (by kernel_rfl) (by kernel_rfl) rfl (fun _ _ _ h => h) rfl rfl rfl (ev_ld1 rfl ty9 rfl (At.d (At.lent hR_4 0 rfl rfl))) (SR.one (j := 2) (by kernel_rfl) rfl (st_call0 rfl rfl rfl rfl hbd22 rfl (.c (.t .h) (.c .h .n)) (mtext b2 (.slice none 0 0) ([] : List TV) ⟨#[101, 114, 114, 111, 114]⟩ _ _ (by first | ((try simp only [List.length_nil, List.length_cons, List.length_append, List.length_set, List.length_singleton, List.length_take, List.length_drop, List.length_reverse]) <;> omega) | omega)) (fun v_q6 C_q6 q6 => ⟨tt0, ?_⟩))))
    obtain ⟨u5, rfl, rfl⟩ := q6
    show SR _ _ _ _ _ _ _ _ _ ⟨_, _ :: _ :: _, _, _⟩
    refine SR.take 3 rfl (by kernel_rfl) (by kernel_rfl) (by kernel_rfl) rfl (fun _ _ _ h => h) rfl rfl rfl (ev_any (v := .agg #[.string ⟨#[115, 116, 97, 116, 117, 115]⟩, .int .i64 (([] : List TV).length : Int)]) rfl (by kernel_rfl) (fun _ => by kernel_rfl)) (SR.one (j := 8) (by kernel_rfl) rfl (st_call0 rfl rfl rfl rfl hbd23 rfl (.c .h (.c .h .n)) (mnum b2 u5 (([] : List TV) ++ [TV.mk (TN.mk 4 false 0 ⟨#[101, 114, 114, 111, 114]⟩ [] []) none 0 none 0]) cd _ _ (by first | ((try simp only [List.length_nil, List.length_cons, List.length_append, List.length_set, List.length_singleton, List.length_take, List.length_drop, List.length_reverse]) <;> omega) | omega)) (fun v_q8 C_q8 q8 => ⟨tt0, ?_⟩)))
    obtain ⟨u7, rfl, rfl⟩ := q8
    show SR _ _ _ _ _ _ _ _ _ ⟨_, _ :: _ :: _, _, _⟩
    refine SR.take 9 rfl (by kernel_rfl) (by kernel_rfl) (by kernel_rfl) rfl (fun _ _ _ h => h) rfl rfl rfl (ev_any (v := .agg #[.string ⟨#[99, 111, 100, 101]⟩, .int .i64 ((([] : List TV) ++ [TV.mk (TN.mk 4 false 0 ⟨#[101, 114, 114, 111, 114]⟩ [] []) none 0 none 0]).length : Int)]) rfl (by kernel_rfl) (fun _ => by kernel_rfl)) (SR.one (j := 14) (by kernel_rfl) rfl (st_call0 rfl rfl rfl rfl hbd23 rfl (.c .h (.c .h .n)) (mnum b2 u7 ((([] : List TV) ++ [TV.mk (TN.mk 4 false 0 ⟨#[101, 114, 114, 111, 114]⟩ [] []) none 0 none 0]) ++ [TV.mk (TN.mk 3 false cd ⟨#[]⟩ [] []) none 0 none 0]) at_ _ _ (by first | ((try simp only [List.length_nil, List.length_cons, List.length_append, List.length_set, List.length_singleton, List.length_take, List.length_drop, List.length_reverse]) <;> omega) | omega)) (fun v_q10 C_q10 q10 => ⟨tt0, ?_⟩)))
    obtain ⟨u9, rfl, rfl⟩ := q10
    show SR _ _ _ _ _ _ _ _ _ ⟨_, _ :: _ :: _, _, _⟩
    refine SR.take 15 rfl (by kernel_rfl) (by kernel_rfl) (by kernel_rfl) rfl (fun _ _ _ h => h) rfl rfl rfl (ev_any (v := .agg #[.string ⟨#[97, 116]⟩, .int .i64 (((([] : List TV) ++ [TV.mk (TN.mk 4 false 0 ⟨#[101, 114, 114, 111, 114]⟩ [] []) none 0 none 0]) ++ [TV.mk (TN.mk 3 false cd ⟨#[]⟩ [] []) none 0 none 0]).length : Int)]) rfl (by kernel_rfl) (fun _ => by kernel_rfl)) (SR.one (j := 20) (by kernel_rfl) rfl (st_call0 rfl rfl rfl rfl hbd22 rfl (.c .h (.c .h .n)) (mtext b2 u9 (((([] : List TV) ++ [TV.mk (TN.mk 4 false 0 ⟨#[101, 114, 114, 111, 114]⟩ [] []) none 0 none 0]) ++ [TV.mk (TN.mk 3 false cd ⟨#[]⟩ [] []) none 0 none 0]) ++ [TV.mk (TN.mk 3 false at_ ⟨#[]⟩ [] []) none 0 none 0]) path _ _ (by first | ((try simp only [List.length_nil, List.length_cons, List.length_append, List.length_set, List.length_singleton, List.length_take, List.length_drop, List.length_reverse]) <;> omega) | omega)) (fun v_q12 C_q12 q12 => ⟨tt0, ?_⟩)))
    obtain ⟨u11, rfl, rfl⟩ := q12
    show SR _ _ _ _ _ _ _ _ _ ⟨_, _ :: _ :: _, _, _⟩
    refine SR.take 21 rfl (by kernel_rfl) (by kernel_rfl) (by kernel_rfl) rfl (fun _ _ _ h => h) rfl rfl rfl (ev_any (v := .agg #[.string ⟨#[112, 97, 116, 104]⟩, .int .i64 ((((([] : List TV) ++ [TV.mk (TN.mk 4 false 0 ⟨#[101, 114, 114, 111, 114]⟩ [] []) none 0 none 0]) ++ [TV.mk (TN.mk 3 false cd ⟨#[]⟩ [] []) none 0 none 0]) ++ [TV.mk (TN.mk 3 false at_ ⟨#[]⟩ [] []) none 0 none 0]).length : Int)]) rfl (by kernel_rfl) (fun _ => by kernel_rfl)) (SR.one (j := 22) (by kernel_rfl) rfl (st_lit ePr (e := 69) (l := [(Pr.mk ⟨#[115, 116, 97, 116, 117, 115]⟩ (([] : List TV).length : Int)), (Pr.mk ⟨#[99, 111, 100, 101]⟩ ((([] : List TV) ++ [TV.mk (TN.mk 4 false 0 ⟨#[101, 114, 114, 111, 114]⟩ [] []) none 0 none 0]).length : Int)), (Pr.mk ⟨#[97, 116]⟩ (((([] : List TV) ++ [TV.mk (TN.mk 4 false 0 ⟨#[101, 114, 114, 111, 114]⟩ [] []) none 0 none 0]) ++ [TV.mk (TN.mk 3 false cd ⟨#[]⟩ [] []) none 0 none 0]).length : Int)), (Pr.mk ⟨#[112, 97, 116, 104]⟩ ((((([] : List TV) ++ [TV.mk (TN.mk 4 false 0 ⟨#[101, 114, 114, 111, 114]⟩ [] []) none 0 none 0]) ++ [TV.mk (TN.mk 3 false cd ⟨#[]⟩ [] []) none 0 none 0]) ++ [TV.mk (TN.mk 3 false at_ ⟨#[]⟩ [] []) none 0 none 0]).length : Int))]) rfl rfl rfl rfl (by kernel_rfl) rfl rfl (fun w => by kernel_rfl) (fun b13 => ⟨tt0, (SR.one (j := 23) (by kernel_rfl) rfl (st_lend0 rfl rfl rfl rfl hbd21 rfl (.c (.t .h) (.c (.t .h) .n)) (.c .h .n) (fun w_ hw => mobject b2 u11 ((((([] : List TV) ++ [TV.mk (TN.mk 4 false 0 ⟨#[101, 114, 114, 111, 114]⟩ [] []) none 0 none 0]) ++ [TV.mk (TN.mk 3 false cd ⟨#[]⟩ [] []) none 0 none 0]) ++ [TV.mk (TN.mk 3 false at_ ⟨#[]⟩ [] []) none 0 none 0]) ++ [TV.mk (TN.mk 4 false 0 path [] []) none 0 none 0]) (some ⟨b13, 0, none⟩) 4 4 [(Pr.mk ⟨#[115, 116, 97, 116, 117, 115]⟩ (([] : List TV).length : Int)), (Pr.mk ⟨#[99, 111, 100, 101]⟩ ((([] : List TV) ++ [TV.mk (TN.mk 4 false 0 ⟨#[101, 114, 114, 111, 114]⟩ [] []) none 0 none 0]).length : Int)), (Pr.mk ⟨#[97, 116]⟩ (((([] : List TV) ++ [TV.mk (TN.mk 4 false 0 ⟨#[101, 114, 114, 111, 114]⟩ [] []) none 0 none 0]) ++ [TV.mk (TN.mk 3 false cd ⟨#[]⟩ [] []) none 0 none 0]).length : Int)), (Pr.mk ⟨#[112, 97, 116, 104]⟩ ((((([] : List TV) ++ [TV.mk (TN.mk 4 false 0 ⟨#[101, 114, 114, 111, 114]⟩ [] []) none 0 none 0]) ++ [TV.mk (TN.mk 3 false cd ⟨#[]⟩ [] []) none 0 none 0]) ++ [TV.mk (TN.mk 3 false at_ ⟨#[]⟩ [] []) none 0 none 0]).length : Int))] _ _ (Fr.lend hw 0 rfl (by first | ((try simp only [List.length_nil, List.length_cons, List.length_append, List.length_set, List.length_singleton, List.length_take, List.length_drop, List.length_reverse]) <;> omega) | omega)) (by first | ((try simp only [List.length_nil, List.length_cons, List.length_append, List.length_set, List.length_singleton, List.length_take, List.length_drop, List.length_reverse]) <;> omega) | omega) (by first | ((try simp only [List.length_nil, List.length_cons, List.length_append, List.length_set, List.length_singleton, List.length_take, List.length_drop, List.length_reverse]) <;> omega) | omega) (by first | ((try simp only [List.length_nil, List.length_cons, List.length_append, List.length_set, List.length_singleton, List.length_take, List.length_drop, List.length_reverse]) <;> omega) | omega)) (fun v_q19 C_q19 q19 => ⟨tt0, ?_⟩)))⟩)))
    obtain ⟨u14, nA15, nc16, kA17, kc18, rfl, rfl⟩ := q19
    show SR _ _ _ _ _ _ _ _ _ ⟨_, _ :: _ :: _ :: _ :: _ :: _, _, _⟩
    refine SR.fin (by kernel_rfl) hl_4 hx_4 hR_4 (.c (.c (.c (.c (.c .n))))) (SQ.go (fun _ _ h => h) (.seq (.region (.cons (Ev.step (ev_mv rfl rfl) rfl rfl rfl (.cons (Ev.step (ev_nil rfl rfl) rfl rfl rfl ?_)))))))
    refine .cons (Ev.step (ev_fa rfl fo65_0 rfl (r := 0) rfl) rfl rfl rfl (.cons (Ev.step (ev_ld1 rfl ty34 rfl (At.own1 0 rfl rfl)) rfl rfl rfl (.cons (Ev.step (ev_as rfl rfl) rfl rfl rfl (.go (fun _ _ h => h) ?_))))))
    refine SC.nest0 9 3 ?_
    refine SC.packl (TN.mk 4 false 0 ⟨#[101, 114, 114, 111, 114]⟩ [] []) .h rfl rfl ?_
    refine SC.packl (TN.mk 3 false cd ⟨#[]⟩ [] []) .h rfl rfl ?_
    refine SC.packl (TN.mk 3 false at_ ⟨#[]⟩ [] []) .h rfl rfl ?_
    refine SC.packl (TN.mk 4 false 0 path [] []) .h rfl rfl ?_
    refine SC.pack (TV.mk (TN.mk 6 false 0 ⟨#[]⟩ ([(Pr.mk ⟨#[115, 116, 97, 116, 117, 115]⟩ (([] : List TV).length : Int)), (Pr.mk ⟨#[99, 111, 100, 101]⟩ ((([] : List TV) ++ [TV.mk (TN.mk 4 false 0 ⟨#[101, 114, 114, 111, 114]⟩ [] []) none 0 none 0]).length : Int)), (Pr.mk ⟨#[97, 116]⟩ (((([] : List TV) ++ [TV.mk (TN.mk 4 false 0 ⟨#[101, 114, 114, 111, 114]⟩ [] []) none 0 none 0]) ++ [TV.mk (TN.mk 3 false cd ⟨#[]⟩ [] []) none 0 none 0]).length : Int)), (Pr.mk ⟨#[112, 97, 116, 104]⟩ ((((([] : List TV) ++ [TV.mk (TN.mk 4 false 0 ⟨#[101, 114, 114, 111, 114]⟩ [] []) none 0 none 0]) ++ [TV.mk (TN.mk 3 false cd ⟨#[]⟩ [] []) none 0 none 0]) ++ [TV.mk (TN.mk 3 false at_ ⟨#[]⟩ [] []) none 0 none 0]).length : Int))].map Pr.name) ([(Pr.mk ⟨#[115, 116, 97, 116, 117, 115]⟩ (([] : List TV).length : Int)), (Pr.mk ⟨#[99, 111, 100, 101]⟩ ((([] : List TV) ++ [TV.mk (TN.mk 4 false 0 ⟨#[101, 114, 114, 111, 114]⟩ [] []) none 0 none 0]).length : Int)), (Pr.mk ⟨#[97, 116]⟩ (((([] : List TV) ++ [TV.mk (TN.mk 4 false 0 ⟨#[101, 114, 114, 111, 114]⟩ [] []) none 0 none 0]) ++ [TV.mk (TN.mk 3 false cd ⟨#[]⟩ [] []) none 0 none 0]).length : Int)), (Pr.mk ⟨#[112, 97, 116, 104]⟩ ((((([] : List TV) ++ [TV.mk (TN.mk 4 false 0 ⟨#[101, 114, 114, 111, 114]⟩ [] []) none 0 none 0]) ++ [TV.mk (TN.mk 3 false cd ⟨#[]⟩ [] []) none 0 none 0]) ++ [TV.mk (TN.mk 3 false at_ ⟨#[]⟩ [] []) none 0 none 0]).length : Int))].map Pr.pos)) nA15 nc16 kA17 kc18) (.c .h (.c (.t (.t .h)) (.c (.t (.t .h)) .n))) (by simp) (by simp) ?_
    exact .ret (fun _ _ h => h) (ret1 Try.results11 rfl (.c (.t (.t .h)) (.c .h .n)) ⟨u14, (((((([] : List TV) ++ [TV.mk (TN.mk 4 false 0 ⟨#[101, 114, 114, 111, 114]⟩ [] []) none 0 none 0]) ++ [TV.mk (TN.mk 3 false cd ⟨#[]⟩ [] []) none 0 none 0]) ++ [TV.mk (TN.mk 3 false at_ ⟨#[]⟩ [] []) none 0 none 0]) ++ [TV.mk (TN.mk 4 false 0 path [] []) none 0 none 0]) ++ [TV.mk (TN.mk 6 false 0 ⟨#[]⟩ ([(Pr.mk ⟨#[115, 116, 97, 116, 117, 115]⟩ (([] : List TV).length : Int)), (Pr.mk ⟨#[99, 111, 100, 101]⟩ ((([] : List TV) ++ [TV.mk (TN.mk 4 false 0 ⟨#[101, 114, 114, 111, 114]⟩ [] []) none 0 none 0]).length : Int)), (Pr.mk ⟨#[97, 116]⟩ (((([] : List TV) ++ [TV.mk (TN.mk 4 false 0 ⟨#[101, 114, 114, 111, 114]⟩ [] []) none 0 none 0]) ++ [TV.mk (TN.mk 3 false cd ⟨#[]⟩ [] []) none 0 none 0]).length : Int)), (Pr.mk ⟨#[112, 97, 116, 104]⟩ ((((([] : List TV) ++ [TV.mk (TN.mk 4 false 0 ⟨#[101, 114, 114, 111, 114]⟩ [] []) none 0 none 0]) ++ [TV.mk (TN.mk 3 false cd ⟨#[]⟩ [] []) none 0 none 0]) ++ [TV.mk (TN.mk 3 false at_ ⟨#[]⟩ [] []) none 0 none 0]).length : Int))].map Pr.name) ([(Pr.mk ⟨#[115, 116, 97, 116, 117, 115]⟩ (([] : List TV).length : Int)), (Pr.mk ⟨#[99, 111, 100, 101]⟩ ((([] : List TV) ++ [TV.mk (TN.mk 4 false 0 ⟨#[101, 114, 114, 111, 114]⟩ [] []) none 0 none 0]).length : Int)), (Pr.mk ⟨#[97, 116]⟩ (((([] : List TV) ++ [TV.mk (TN.mk 4 false 0 ⟨#[101, 114, 114, 111, 114]⟩ [] []) none 0 none 0]) ++ [TV.mk (TN.mk 3 false cd ⟨#[]⟩ [] []) none 0 none 0]).length : Int)), (Pr.mk ⟨#[112, 97, 116, 104]⟩ ((((([] : List TV) ++ [TV.mk (TN.mk 4 false 0 ⟨#[101, 114, 114, 111, 114]⟩ [] []) none 0 none 0]) ++ [TV.mk (TN.mk 3 false cd ⟨#[]⟩ [] []) none 0 none 0]) ++ [TV.mk (TN.mk 3 false at_ ⟨#[]⟩ [] []) none 0 none 0]).length : Int))].map Pr.pos)) nA15 nc16 kA17 kc18]), rfl, rfl, rfl⟩)
  ·
    exact absurd hc (by assumption)

end Go.Proofs.Ythmkelkefmfmgaa.Sx
