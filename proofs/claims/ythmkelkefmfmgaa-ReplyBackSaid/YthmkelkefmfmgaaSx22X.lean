import Derived.Test.YthmkelkefmfmgaaProg
import Derived.Test.YthmkelkefmfmgaaSxUniq
import Derived.Test.YthmkelkefmfmgaaSxWin
import Derived.Test.YthmkelkefmfmgaaSx22A
import Derived.Test.YthmkelkefmfmgaaSx22B
import Derived.Test.YthmkelkefmfmgaaSx22W
import Derived.Test.YthmkelkefmfmgaaSx22M
import Derived.Test.YthmkelkefmfmgaaSx22F
set_option maxRecDepth 20000
set_option maxHeartbeats 4000000
set_option linter.unusedVariables false
set_option linter.unusedSimpArgs false
namespace Go.Proofs.Ythmkelkefmfmgaa.Sx.FX
open Go Go.SX Go.Proofs
theorem hbd11 : hasBody Try.prog 11 = true := by kernel_rfl
theorem hbd12 : hasBody Try.prog 12 = true := by kernel_rfl
theorem hbd8 : hasBody Try.prog 8 = true := by kernel_rfl
theorem ty24 : ty Try.prog 24 = some (true, 3) := by kernel_rfl
theorem zf30 : (Try.prog.info? 30).bind (fun i => i.zero.map Value.cells) = some (List.toArray [.int .i64 0, .int .i64 0, .string ⟨#[]⟩, .bool false, .int .i64 0, .int .i64 0, .int .i64 0, .int .i64 0, .int .i64 0, .int .i64 0, .int .i64 0, .int .i64 0, .slice none 0 0, .slice none 0 0]) := by kernel_rfl
theorem ty30 : ty Try.prog 30 = some (true, 14) := by kernel_rfl
theorem mo : Try.prog.follows .mixedOrders = true := by kernel_rfl
theorem fo24_0 : fo Try.prog 24 0 = some 0 := by kernel_rfl
theorem ty22 : ty Try.prog 22 = some (false, 1) := by kernel_rfl
theorem hbd9 : hasBody Try.prog 9 = true := by kernel_rfl
theorem hbd10 : hasBody Try.prog 10 = true := by kernel_rfl
theorem eqIn24 (d : Nat) (x0 y0 : Int) (x1 y1 : Int) (x2 y2 : ByteArray) (w : World) : (Op.equalIn (d + 3) 24 (.agg #[(.int .i64 x0), (.int .i64 x1), (.string x2)]) (.agg #[(.int .i64 y0), (.int .i64 y1), (.string y2)])).run Try.prog w = .ok ((x0 == y0) && ((x1 == y1) && (x2 == y2))) w := by
  rw [run_equalIn_struct w (d + 2) 24 _ _ (by kernel_rfl) (by kernel_rfl)]
  have hf : (Try.prog.fieldsOf 24).toList = [{ name := "Code", type := 22, offset := 0, embedded := false, tag := "", pkgPath := "", byteOffset := 0 }, { name := "At", type := 3, offset := 1, embedded := false, tag := "", pkgPath := "", byteOffset := 8 }, { name := "Path", type := 9, offset := 2, embedded := false, tag := "", pkgPath := "", byteOffset := 16 }] := by kernel_rfl
  rw [hf]
  have h22 : ∀ (x y : Int) (w : World), (Op.equalIn (d + 2) 22 (.int .i64 x) (.int .i64 y)).run Try.prog w = .ok (x == y) w := fun x y w => by
    simp [Op.equalIn, run_underlying Try.underlying22]
  have h3 : ∀ (x y : Int) (w : World), (Op.equalIn (d + 2) 3 (.int .i64 x) (.int .i64 y)).run Try.prog w = .ok (x == y) w := fun x y w => by
    simp [Op.equalIn, run_underlying Try.underlying3]
  have h9 : ∀ (x y : ByteArray) (w : World), (Op.equalIn (d + 2) 9 (.string x) (.string y)).run Try.prog w = .ok (x == y) w := fun x y w => by
    simp [Op.equalIn, run_underlying Try.underlying9]
  have p0 : ∀ (x0 : Int) (x1 : Int) (x2 : ByteArray) (w : World), (part 22 #[(.int .i64 x0), (.int .i64 x1), (.string x2)] 0).run Try.prog w = .ok (.int .i64 x0) w := fun _ _ _ _ => by kernel_rfl
  have p1 : ∀ (x0 : Int) (x1 : Int) (x2 : ByteArray) (w : World), (part 3 #[(.int .i64 x0), (.int .i64 x1), (.string x2)] 1).run Try.prog w = .ok (.int .i64 x1) w := fun _ _ _ _ => by kernel_rfl
  have p2 : ∀ (x0 : Int) (x1 : Int) (x2 : ByteArray) (w : World), (part 9 #[(.int .i64 x0), (.int .i64 x1), (.string x2)] 2).run Try.prog w = .ok (.string x2) w := fun _ _ _ _ => by kernel_rfl
  simp only [Op.eqFields, Sem.run_bind, h22, h3, h9, p0, p1, p2, Result.andThen_ok, Sem.run_ite, ne_eq]
  cases g0 : (x0 == y0) <;> cases g1 : (x1 == y1) <;> cases g2 : (x2 == y2) <;> simp [g0, g1, g2]
theorem ev24_eql (x y : Operand) (x0 y0 : Int) (x1 y1 : Int) (x2 y2 : ByteArray) (w : World) : (do eqGuard .eql 24 x y (.agg #[(.int .i64 x0), (.int .i64 x1), (.string x2)]) (.agg #[(.int .i64 y0), (.int .i64 y1), (.string y2)]); binOp .eql 24 (.agg #[(.int .i64 x0), (.int .i64 x1), (.string x2)]) (.agg #[(.int .i64 y0), (.int .i64 y1), (.string y2)]) : Sem Value).run Try.prog w = .ok (.bool (((x0 == y0) && ((x1 == y1) && (x2 == y2))))) w := by
  have h1 : (Op.equal 24 (.agg #[(.int .i64 x0), (.int .i64 x1), (.string x2)]) (.agg #[(.int .i64 y0), (.int .i64 y1), (.string y2)])).run Try.prog w = .ok ((x0 == y0) && ((x1 == y1) && (x2 == y2))) w := eqIn24 9997 x0 y0 x1 y1 x2 y2 w
  have h2 : (eqGuard .eql 24 x y (.agg #[(.int .i64 x0), (.int .i64 x1), (.string x2)]) (.agg #[(.int .i64 y0), (.int .i64 y1), (.string y2)])).run Try.prog w = .ok () w := by kernel_rfl
  simp only [Sem.run_bind, h2, Result.andThen_ok, binOp, h1]
  rfl
theorem ev24_neq (x y : Operand) (x0 y0 : Int) (x1 y1 : Int) (x2 y2 : ByteArray) (w : World) : (do eqGuard .neq 24 x y (.agg #[(.int .i64 x0), (.int .i64 x1), (.string x2)]) (.agg #[(.int .i64 y0), (.int .i64 y1), (.string y2)]); binOp .neq 24 (.agg #[(.int .i64 x0), (.int .i64 x1), (.string x2)]) (.agg #[(.int .i64 y0), (.int .i64 y1), (.string y2)]) : Sem Value).run Try.prog w = .ok (.bool (!((x0 == y0) && ((x1 == y1) && (x2 == y2))))) w := by
  have h1 : (Op.equal 24 (.agg #[(.int .i64 x0), (.int .i64 x1), (.string x2)]) (.agg #[(.int .i64 y0), (.int .i64 y1), (.string y2)])).run Try.prog w = .ok ((x0 == y0) && ((x1 == y1) && (x2 == y2))) w := eqIn24 9997 x0 y0 x1 y1 x2 y2 w
  have h2 : (eqGuard .neq 24 x y (.agg #[(.int .i64 x0), (.int .i64 x1), (.string x2)]) (.agg #[(.int .i64 y0), (.int .i64 y1), (.string y2)])).run Try.prog w = .ok () w := by kernel_rfl
  simp only [Sem.run_bind, h2, Result.andThen_ok, binOp, h1]
  rfl


end Go.Proofs.Ythmkelkefmfmgaa.Sx.FX
namespace Go.Proofs.Ythmkelkefmfmgaa.Sx
open Go Go.SX Go.Proofs FX





theorem awake (S : Nat → Prop) (wf : World) :
    TR0 Try.prog 8 [] [] S wf (fun v_ C_ => v_ = .bool true ∧ C_ = []) := by
  refine TR.mk Try.func8 rfl Try.ntmps8 rfl rfl (fun w_ => ?_)
  refine .seq (.region (.cons (Ev.step (ev_as rfl rfl) rfl rfl rfl (.go (fun _ _ h => h) (.seq (.region ?_))))))
  refine .cons (Ev.step (ev_any (v := .agg #[.int .i64 21, .int .i64 3, .string ⟨#[]⟩]) rfl (by kernel_rfl) (fun _ => by kernel_rfl)) rfl rfl rfl (.cons (Ev.step (ev_any (v := .agg #[.int .i64 21, .int .i64 3, .string ⟨#[]⟩, .bool false, .int .i64 0, .int .i64 0, .int .i64 0, .int .i64 0, .int .i64 0, .int .i64 0, .int .i64 0, .int .i64 0, .slice none 0 0, .slice none 0 0]) rfl (by kernel_rfl) (fun _ => by kernel_rfl)) rfl rfl rfl (.cons (st_call0 rfl rfl rfl rfl hbd11 rfl .n (tree_f 21 3 ⟨#[]⟩ _ _ (by decide)) (fun v_q3 C_q3 q3 => ?_))))))
  obtain ⟨u1, L2, p4, rfl, rfl⟩ := q3
  show SP _ _ _ _ _ _ ⟨_, _ :: _ :: _, _, _⟩
  have hLl5 : L2.length = 5 := by rw [← vs_len, p4]; rfl
  refine .know (row_len 0 rfl) (fun hv8 => ?_)
  obtain ⟨A6, c7, rfl, hv8_1, hv8_2⟩ := hv8
  unfold maxLen at hv8_2
  refine .cons (st_lend0 rfl rfl rfl rfl hbd12 rfl .n (.c .h (.c .h .n)) (fun w_ hw => print_ A6 c7 L2 _ _ (Fr.lend hw 0 rfl (by first | ((try simp only [List.length_nil, List.length_cons, List.length_append, List.length_set, List.length_singleton, List.length_take, List.length_drop, List.length_reverse]) <;> omega) | omega)) (NT.lend hw 1 rfl) (fault_TB p4 (show (⟨#[]⟩ : ByteArray).size ≤ 1000000 from by decide) (by omega) (by omega)) (by rw [p4, fault_show]; have h_ := fault_len (cd := 21) (at_ := 3) (path := ⟨#[]⟩) (by omega) (by omega); have h2_ := (show (⟨#[]⟩ : ByteArray).size ≤ 1000000 from by decide); omega)) (fun v_q12 C_q12 q12 => ?_))
  obtain ⟨u9, e10, m11, p13, p14, rfl, rfl⟩ := q12
  show SP _ _ _ _ _ _ ⟨_, _ :: _ :: _ :: _, _, _⟩
  have hz15 : e10 = 0 := by rw [p13, p4]; exact fault_check (by unfold fitP; omega) (by unfold fitP; omega) (utf_lit (by decide))
  have hm16 := p14
  rw [if_pos hz15, p4, fault_show] at hm16
  clear p13 p14
  subst hz15
  subst hm16
  have hfl17 := fault_len (cd := 21) (at_ := 3) (path := ⟨#[]⟩) (by omega) (by omega)
  refine .cons (Ev.step (ev_mv rfl rfl) rfl rfl rfl (.cons (Ev.step (ev_ext rfl rfl rfl) rfl rfl rfl (.cons (Ev.step (ev_ext rfl rfl rfl) rfl rfl rfl (.cons (Ev.step (ev_as rfl rfl) rfl rfl rfl (.cons (Ev.step (ev_as rfl rfl) rfl rfl rfl (.go (fun _ _ h => h) ?_))))))))))
  refine .seq (.region (.cons (Ev.step (ev_mv rfl rfl) rfl rfl rfl (.cons (Ev.step (ev_cmp (r := true) rfl rfl rfl rfl) rfl rfl rfl (.cons (Ev.step (ev_mv rfl rfl) rfl rfl rfl (.cons (.on rfl rfl rfl (Ev.step (ev_mv rfl rfl) rfl rfl rfl ?_))))))))))
  refine .know (row_len 0 rfl) (fun hv20 => ?_)
  obtain ⟨A18, c19, rfl, hv20_1, hv20_2⟩ := hv20
  unfold maxLen at hv20_2
  exact .cons (.on rfl rfl rfl (Ev.step (ev_b2s (l := (faultL 21 3 ⟨#[]⟩)) rfl Try.underlying36 Try.underlying5 Try.underlying9 rfl (by first | rfl | assumption | omega | ((try simp only [List.length_take, List.length_drop, List.length_append, List.length_cons, List.length_nil]) <;> omega)) (row_src 0 rfl)) rfl rfl rfl (.cons (.on rfl rfl rfl (Ev.step (ev_scmp rfl rfl rfl rfl) rfl rfl rfl (.cons (Ev.step (ev_pickt rfl rfl rfl rfl) rfl rfl rfl (.cons (Ev.step (ev_as rfl rfl) rfl rfl rfl (.go (fun _ _ h => h) (.ret (fun _ _ h => h) (ret1 Try.results8 rfl .n ⟨(congrArg Value.bool awake_text), rfl⟩))))))))))))

theorem replyFaults (c1 : Int) (a1 : Int) (p1 : ByteArray) (c2 : Int) (a2 : Int) (p2 : ByteArray) (S : Nat → Prop) (wf : World) (h_c1 : -9223372036854775808 ≤ c1 ∧ c1 ≤ 9223372036854775807) (h_a1 : -9223372036854775808 ≤ a1 ∧ a1 ≤ 9223372036854775807) (h_c2 : -9223372036854775808 ≤ c2 ∧ c2 ≤ 9223372036854775807) (h_a2 : -9223372036854775808 ≤ a2 ∧ a2 ≤ 9223372036854775807) :
    TR0 Try.prog 4 [.agg #[.int .i64 c1, .int .i64 a1, .string p1], .agg #[.int .i64 c2, .int .i64 a2, .string p2]] [] S wf (fun v_ C_ => v_ = .bool true ∧ C_ = []) := by
  refine TR.mk Try.func4 rfl Try.ntmps4 rfl rfl (fun w_ => ?_)
  refine .seq (.region (.cons (st_boxa rfl rfl rfl rfl rfl (fun b1 => .cons (st_boxa rfl rfl rfl rfl rfl (fun b2 => .cons (Ev.step (ev_as rfl rfl) rfl rfl rfl (.go (fun _ _ h => h) ?_))))))))
  refine .seq (.seq (.region (.cons (st_callk rfl rfl rfl rfl hbd8 rfl .n (awake _ _) (.cons (Ev.step (ev_not rfl rfl) rfl rfl rfl (.go (fun _ _ h => h) ?_)))))))
  refine .cond_f rfl (.skipgo (fun _ _ h => h) (.seq ?_))
  refine SC.draw mo [] [] .n (fun _ _ _ c hc => by cases hc) (fun wf_3 hl_3 hx_3 hR_3 => ?_)
  refine SR.take 0 rfl (by kernel_rfl) (by kernel_rfl) (by kernel_rfl) rfl (fun _ _ _ h => h) rfl rfl rfl (ev_lda (cs := [.int .i64 c1, .int .i64 a1, .string p1]) rfl rfl (At.d (At.lent hR_3 1 rfl rfl)) ty24) (SR.take 1 rfl (by kernel_rfl) (by kernel_rfl) (by kernel_rfl) rfl (fun _ _ _ h => h) rfl rfl rfl (ev_any (v := .agg #[.int .i64 c1, .int .i64 a1, .string p1, .bool false, .int .i64 0, .int .i64 0, .int .i64 0, .int .i64 0, .int .i64 0, .int .i64 0, .int .i64 0, .int .i64 0, .slice none 0 0, .slice none 0 0]) rfl (by kernel_rfl) (fun _ => by kernel_rfl)) (SR.take 2 rfl (by kernel_rfl) (by kernel_rfl) (by kernel_rfl) rfl (fun _ _ _ h => h) rfl rfl rfl (ev_lda (cs := [.int .i64 c2, .int .i64 a2, .string p2]) rfl rfl (At.d (At.lent hR_3 0 rfl rfl)) ty24) (SR.take 3 rfl (by kernel_rfl) (by kernel_rfl) (by kernel_rfl) rfl (fun _ _ _ h => h) rfl rfl rfl (ev_any (v := .agg #[.int .i64 c2, .int .i64 a2, .string p2, .bool false, .int .i64 0, .int .i64 0, .int .i64 0, .int .i64 0, .int .i64 0, .int .i64 0, .int .i64 0, .int .i64 0, .slice none 0 0, .slice none 0 0]) rfl (by kernel_rfl) (fun _ => by kernel_rfl)) ?_)))
  refine SR.two (i := 4) (j := 5) (by kernel_rfl) ⟨_, rfl, ?_⟩ ⟨_, rfl, ?_⟩
  ·
    refine st_alloc rfl rfl rfl rfl zf30 (fun b4 => ⟨tt0, (SR.one (j := 5) (by kernel_rfl) rfl (st_alloc rfl rfl rfl rfl zf30 (fun b5 => ⟨tt0, (SR.one (j := 6) (by kernel_rfl) rfl (st_storea (l' := [.int .i64 c1, .int .i64 a1, .string p1, .bool false, .int .i64 0, .int .i64 0, .int .i64 0, .int .i64 0, .int .i64 0, .int .i64 0, .int .i64 0, .int .i64 0, .slice none 0 0, .slice none 0 0]) rfl rfl rfl ty30 rfl rfl rfl (.t .h) rfl rfl ⟨tt0, (SR.one (j := 7) (by kernel_rfl) rfl (st_storea (l' := [.int .i64 c2, .int .i64 a2, .string p2, .bool false, .int .i64 0, .int .i64 0, .int .i64 0, .int .i64 0, .int .i64 0, .int .i64 0, .int .i64 0, .int .i64 0, .slice none 0 0, .slice none 0 0]) rfl rfl rfl ty30 rfl rfl rfl (.t .h) rfl rfl ⟨tt0, (SR.fin (by kernel_rfl) hl_3 hx_3 hR_3 (.c (.c .n)) (SQ.go (fun _ _ h => h) ?_))⟩))⟩))⟩)))⟩)
    refine .seq (.seq (.region (.cons (Ev.step (ev_fa rfl fo24_0 rfl (r := 0) rfl) rfl rfl rfl (.cons (Ev.step (ev_ld1 rfl ty22 rfl (At.own1 3 rfl rfl)) rfl rfl rfl (.cons (Ev.step (ev_cmp rfl rfl rfl rfl) rfl rfl rfl ?_))))))))
    refine .cons (Ev.step (ev_mv rfl rfl) rfl rfl rfl (.cons (Ev.gstep (fun _ => ev_fa rfl fo24_0 rfl (r := 0) rfl) rfl rfl rfl rfl rfl (.cons (Ev.gstep (fun hb => ev_ld1 rfl ty22 (lkg rfl hb) (At.own1 2 rfl rfl)) rfl rfl rfl rfl rfl (.cons (Ev.gstep (fun hb => ev_cmp rfl (lkg rfl hb) rfl rfl) rfl rfl rfl rfl rfl (.cons (Ev.step (ev_or rfl rfl rfl rfl) rfl rfl rfl (.cons (Ev.step (ev_mv rfl rfl) rfl rfl rfl ?_)))))))))))
    refine .cons (Ev.gstep (fun _ => ev_lda rfl rfl (At.whole 1 rfl) ty30) rfl rfl rfl rfl rfl (.cons (st_gcallk rfl rfl rfl rfl rfl rfl hbd9 (fun hb => (lkA1 (lkg rfl hb) lkA0)) .n (fun hb => have hp := bF (bO bE bE) hb; long_f c1 a1 p1 _ _) (.cons (Ev.step (ev_or rfl rfl rfl rfl) rfl rfl rfl (.cons (Ev.step (ev_mv rfl rfl) rfl rfl rfl (.cons (Ev.gstep (fun _ => ev_lda rfl rfl (At.whole 0 rfl) ty30) rfl rfl rfl rfl rfl (.cons (st_gcallk rfl rfl rfl rfl rfl rfl hbd9 (fun hb => (lkA1 (lkg rfl hb) lkA0)) .n (fun hb => have hp := bF (bO (bO bE bE) bD) hb; long_f c2 a2 p2 _ _) ?_)))))))))))
    refine .cons (Ev.step (ev_or rfl rfl rfl rfl) rfl rfl rfl (.cons (Ev.step (ev_mv rfl rfl) rfl rfl rfl (.cons (Ev.gstep (fun _ => ev_lda rfl rfl (At.whole 1 rfl) ty30) rfl rfl rfl rfl rfl ?_)))))
    rcases Bool.eq_false_or_eq_true ((((c1 == 0) || (c2 == 0)) || (decide ((p1.size : Int) > 2000))) || (decide ((p2.size : Int) > 2000))) with hb6 | hb6
    ·
      refine SP.reslot (t := 33) rfl hb6 ?_
      have hb6_ := bT (bO (bO (bO bE bE) bD) bD) hb6
      refine .cons (.off rfl rfl rfl rfl rfl rfl (.cons (.off rfl rfl rfl rfl rfl rfl (.cons (Ev.step (ev_pickt rfl rfl rfl rfl) rfl rfl rfl (.cons (Ev.step (ev_mv rfl rfl) rfl rfl rfl (.cons (.off rfl rfl rfl rfl rfl rfl (.cons (.off rfl rfl rfl rfl rfl rfl ?_)))))))))))
      refine .cons (.off rfl rfl rfl rfl rfl rfl (.cons (Ev.step (ev_pickt rfl rfl rfl rfl) rfl rfl rfl (.go (fun _ _ h => h) (.cond_t rfl (.seq (.region ?_)))))))
      exact .cons (Ev.step (ev_as rfl rfl) rfl rfl rfl (.go (fun _ _ h => h) (.ret (fun _ _ h => h) (ret1 Try.results4 rfl .n ⟨rfl, rfl⟩))))
    ·
      refine SP.reslot (t := 33) rfl hb6 ?_
      have hb6_ := bF (bO (bO (bO bE bE) bD) bD) hb6
      refine .cons (.on rfl rfl rfl (st_call00 rfl rfl rfl rfl hbd10 (lkA1 (lkg rfl hb6) lkA0) .n (fits_f c1 a1 p1 _ _ (by omega) (by omega)) (by intro v C h; obtain ⟨_, _, rfl, rfl⟩ := h; rfl) (fun v_q8 q8 => ?_)))
      obtain ⟨r7, p9, rfl, -⟩ := q8
      refine .cons (.on rfl rfl rfl (Ev.step (ev_not rfl rfl) rfl rfl rfl (.cons (Ev.step (ev_pickf rfl rfl rfl rfl) rfl rfl rfl (.cons (Ev.step (ev_mv rfl rfl) rfl rfl rfl (.cons (Ev.gstep (fun _ => ev_lda rfl rfl (At.whole 0 rfl) ty30) rfl rfl rfl rfl rfl ?_))))))))
      rcases Bool.eq_false_or_eq_true (!r7) with hb10 | hb10
      ·
        refine SP.reslot (t := 38) rfl hb10 ?_
        have hb10_ := bT (bN bV) hb10
        refine .cons (.off rfl rfl rfl rfl rfl rfl (.cons (.off rfl rfl rfl rfl rfl rfl (.cons (Ev.step (ev_pickt rfl rfl rfl rfl) rfl rfl rfl (.go (fun _ _ h => h) (.cond_t rfl (.seq ?_))))))))
        exact .region (.cons (Ev.step (ev_as rfl rfl) rfl rfl rfl (.go (fun _ _ h => h) (.ret (fun _ _ h => h) (ret1 Try.results4 rfl .n ⟨rfl, rfl⟩)))))
      ·
        refine SP.reslot (t := 38) rfl hb10 ?_
        have hb10_ := bF (bN bV) hb10
        refine .cons (.on rfl rfl rfl (st_call00 rfl rfl rfl rfl hbd10 (lkA1 (lkg rfl hb10) lkA0) .n (fits_f c2 a2 p2 _ _ (by omega) (by omega)) (by intro v C h; obtain ⟨_, _, rfl, rfl⟩ := h; rfl) (fun v_q12 q12 => ?_)))
        obtain ⟨r11, p13, rfl, -⟩ := q12
        refine .cons (.on rfl rfl rfl (Ev.step (ev_not rfl rfl) rfl rfl rfl (.cons (Ev.step (ev_pickf rfl rfl rfl rfl) rfl rfl rfl (.go (fun _ _ h => h) (.condI rfl (bN bV) (fun h14 => ?_) (fun h14 => ?_)))))))
        ·
          exact .seq (.region (.cons (Ev.step (ev_as rfl rfl) rfl rfl rfl (.go (fun _ _ h => h) (.ret (fun _ _ h => h) (ret1 Try.results4 rfl .n ⟨rfl, rfl⟩))))))
        ·
          refine .skipgo (fun _ _ h => h) (.seq ?_)
          have hf1 := p9.1 (by simp_all)
          have hf2 := p13.1 (by simp_all)
          refine .region (.cons (Ev.step (ev_lda rfl rfl (At.whole 1 rfl) ty30) rfl rfl rfl (.cons (st_call0 rfl rfl rfl rfl hbd11 rfl .n (tree_f c1 a1 p1 _ _ (by omega)) (fun v_q17 C_q17 q17 => ?_)))))
          obtain ⟨u15, L16, p18, rfl, rfl⟩ := q17
          show SP _ _ _ _ _ _ ⟨_, _ :: _ :: _, _, _⟩
          have hLl19 : L16.length = 5 := by rw [← vs_len, p18]; rfl
          refine .know (row_len 0 rfl) (fun hv22 => ?_)
          obtain ⟨A20, c21, rfl, hv22_1, hv22_2⟩ := hv22
          unfold maxLen at hv22_2
          refine .cons (st_lend0 rfl rfl rfl rfl hbd12 rfl .n (.c .h (.c .h .n)) (fun w_ hw => print_ A20 c21 L16 _ _ (Fr.lend hw 0 rfl (by first | ((try simp only [List.length_nil, List.length_cons, List.length_append, List.length_set, List.length_singleton, List.length_take, List.length_drop, List.length_reverse]) <;> omega) | omega)) (NT.lend hw 1 rfl) (fault_TB p18 (show p1.size ≤ 1000000 by omega) (by omega) (by omega)) (by rw [p18, fault_show]; have h_ := fault_len (cd := c1) (at_ := a1) (path := p1) (by omega) (by omega); have h2_ := (show p1.size ≤ 1000000 by omega); omega)) (fun v_q26 C_q26 q26 => ?_))
          obtain ⟨u23, e24, m25, p27, p28, rfl, rfl⟩ := q26
          show SP _ _ _ _ _ _ ⟨_, _ :: _ :: _ :: _, _, _⟩
          have hz29 : e24 = 0 := by rw [p27, p18]; exact fault_check hf1.2.1 hf1.2.2 hf1.1
          have hm30 := p28
          rw [if_pos hz29, p18, fault_show] at hm30
          clear p27 p28
          subst hz29
          subst hm30
          have hfl31 := fault_len (cd := c1) (at_ := a1) (path := p1) (by omega) (by omega)
          refine .cons (Ev.step (ev_mv rfl rfl) rfl rfl rfl (.cons (Ev.step (ev_ext rfl rfl rfl) rfl rfl rfl (.cons (Ev.step (ev_ext rfl rfl rfl) rfl rfl rfl (.cons (Ev.step (ev_as rfl rfl) rfl rfl rfl (.cons (Ev.step (ev_as rfl rfl) rfl rfl rfl (.go (fun _ _ h => h) ?_))))))))))
          refine .seq (.region (.cons (Ev.step (ev_lda rfl rfl (At.whole 3 rfl) ty30) rfl rfl rfl (.cons (st_call0 rfl rfl rfl rfl hbd11 rfl .n (tree_f c2 a2 p2 _ _ (by omega)) (fun v_q34 C_q34 q34 => ?_))))))
          obtain ⟨u32, L33, p35, rfl, rfl⟩ := q34
          show SP _ _ _ _ _ _ ⟨_, _ :: _ :: _, _, _⟩
          have hLl36 : L33.length = 5 := by rw [← vs_len, p35]; rfl
          refine .know (row_len 0 rfl) (fun hv39 => ?_)
          obtain ⟨A37, c38, rfl, hv39_1, hv39_2⟩ := hv39
          unfold maxLen at hv39_2
          refine .cons (st_lend0 rfl rfl rfl rfl hbd12 rfl .n (.c .h (.c .h .n)) (fun w_ hw => print_ A37 c38 L33 _ _ (Fr.lend hw 0 rfl (by first | ((try simp only [List.length_nil, List.length_cons, List.length_append, List.length_set, List.length_singleton, List.length_take, List.length_drop, List.length_reverse]) <;> omega) | omega)) (NT.lend hw 1 rfl) (fault_TB p35 (show p2.size ≤ 1000000 by omega) (by omega) (by omega)) (by rw [p35, fault_show]; have h_ := fault_len (cd := c2) (at_ := a2) (path := p2) (by omega) (by omega); have h2_ := (show p2.size ≤ 1000000 by omega); omega)) (fun v_q43 C_q43 q43 => ?_))
          obtain ⟨u40, e41, m42, p44, p45, rfl, rfl⟩ := q43
          show SP _ _ _ _ _ _ ⟨_, _ :: _ :: _ :: _, _, _⟩
          have hz46 : e41 = 0 := by rw [p44, p35]; exact fault_check hf2.2.1 hf2.2.2 hf2.1
          have hm47 := p45
          rw [if_pos hz46, p35, fault_show] at hm47
          clear p44 p45
          subst hz46
          subst hm47
          have hfl48 := fault_len (cd := c2) (at_ := a2) (path := p2) (by omega) (by omega)
          refine .cons (Ev.step (ev_mv rfl rfl) rfl rfl rfl (.cons (Ev.step (ev_ext rfl rfl rfl) rfl rfl rfl (.cons (Ev.step (ev_ext rfl rfl rfl) rfl rfl rfl (.cons (Ev.step (ev_as rfl rfl) rfl rfl rfl (.cons (Ev.step (ev_as rfl rfl) rfl rfl rfl (.go (fun _ _ h => h) ?_))))))))))
          refine .seq ?_
          refine .know (row_len 3 rfl) (fun hv51 => ?_)
          obtain ⟨A49, c50, rfl, hv51_1, hv51_2⟩ := hv51
          unfold maxLen at hv51_2
          refine .know (row_len 0 rfl) (fun hv54 => ?_)
          obtain ⟨A52, c53, rfl, hv54_1, hv54_2⟩ := hv54
          unfold maxLen at hv54_2
          refine SC.draw mo [] [] .n (fun _ _ _ c hc => by cases hc) (fun wf_55 hl_55 hx_55 hR_55 => ?_)
          refine SR.take 0 rfl (by kernel_rfl) (by kernel_rfl) (by kernel_rfl) rfl (fun _ _ _ h => h) rfl rfl rfl (ev_mv rfl rfl) (SR.take 1 rfl (by kernel_rfl) (by kernel_rfl) (by kernel_rfl) rfl (fun _ _ _ h => h) rfl rfl rfl (ev_cmp (r := true) rfl rfl rfl rfl) (SR.take 2 rfl (by kernel_rfl) (by kernel_rfl) (by kernel_rfl) rfl (fun _ _ _ h => h) rfl rfl rfl (ev_mv rfl rfl) (SR.gtake 3 rfl (by kernel_rfl) (by kernel_rfl) (by kernel_rfl) rfl (fun _ _ _ _ h => h) rfl rfl rfl rfl rfl (fun _ => ev_mv rfl rfl) (SR.gtake 4 rfl (by kernel_rfl) (by kernel_rfl) (by kernel_rfl) rfl (fun _ _ _ _ h => h) rfl rfl rfl rfl rfl (fun _ => ev_cmp (r := true) rfl rfl rfl rfl) (SR.take 5 rfl (by kernel_rfl) (by kernel_rfl) (by kernel_rfl) rfl (fun _ _ _ h => h) rfl rfl rfl (ev_pickt rfl rfl rfl rfl) ?_)))))
          refine SR.take 6 rfl (by kernel_rfl) (by kernel_rfl) (by kernel_rfl) rfl (fun _ _ _ h => h) rfl rfl rfl (ev_mv rfl rfl) (SR.gtake 7 rfl (by kernel_rfl) (by kernel_rfl) (by kernel_rfl) rfl (fun _ _ _ _ h => h) rfl rfl rfl rfl rfl (fun _ => ev_mv rfl rfl) (SR.gtake 8 rfl (by kernel_rfl) (by kernel_rfl) (by kernel_rfl) rfl (fun _ _ _ _ h => h) rfl rfl rfl rfl rfl (fun _ => ev_b2s (l := (faultL c1 a1 p1)) rfl Try.underlying36 Try.underlying5 Try.underlying9 rfl (by first | rfl | assumption | omega | ((try simp only [List.length_take, List.length_drop, List.length_append, List.length_cons, List.length_nil]) <;> omega)) (Src.d (Fr.flat (Fr.lent (S := S) hR_55 3 rfl (by first | ((try simp only [List.length_nil, List.length_cons, List.length_append, List.length_set, List.length_singleton, List.length_take, List.length_drop, List.length_reverse]) <;> omega) | omega))))) (SR.gtake 9 rfl (by kernel_rfl) (by kernel_rfl) (by kernel_rfl) rfl (fun _ _ _ _ h => h) rfl rfl rfl rfl rfl (fun _ => ev_mv rfl rfl) (SR.gtake 10 rfl (by kernel_rfl) (by kernel_rfl) (by kernel_rfl) rfl (fun _ _ _ _ h => h) rfl rfl rfl rfl rfl (fun _ => ev_b2s (l := (faultL c2 a2 p2)) rfl Try.underlying36 Try.underlying5 Try.underlying9 rfl (by first | rfl | assumption | omega | ((try simp only [List.length_take, List.length_drop, List.length_append, List.length_cons, List.length_nil]) <;> omega)) (Src.d (Fr.flat (Fr.lent (S := S) hR_55 0 rfl (by first | ((try simp only [List.length_nil, List.length_cons, List.length_append, List.length_set, List.length_singleton, List.length_take, List.length_drop, List.length_reverse]) <;> omega) | omega))))) (SR.gtake 11 rfl (by kernel_rfl) (by kernel_rfl) (by kernel_rfl) rfl (fun _ _ _ _ h => h) rfl rfl rfl rfl rfl (fun _ => ev_scmp rfl rfl rfl rfl) ?_)))))
          refine SR.gtake 12 rfl (by kernel_rfl) (by kernel_rfl) (by kernel_rfl) rfl (fun _ _ _ _ h => h) rfl rfl rfl rfl rfl (fun _ => ev_lda (cs := [.int .i64 c1, .int .i64 a1, .string p1]) rfl rfl (At.d (At.lent hR_55 9 rfl rfl)) ty24) (SR.gtake 13 rfl (by kernel_rfl) (by kernel_rfl) (by kernel_rfl) rfl (fun _ _ _ _ h => h) rfl rfl rfl rfl rfl (fun _ => ev_lda (cs := [.int .i64 c2, .int .i64 a2, .string p2]) rfl rfl (At.d (At.lent hR_55 8 rfl rfl)) ty24) (SR.gtake 14 rfl (by kernel_rfl) (by kernel_rfl) (by kernel_rfl) rfl (fun _ _ _ _ h => h) rfl rfl rfl rfl rfl (fun _ => ev_bin rfl rfl rfl (r := .bool ((c1 == c2) && ((a1 == a2) && (p1 == p2)))) (ev24_eql _ _ _ _ _ _ _ _)) (SR.gtake 15 rfl (by kernel_rfl) (by kernel_rfl) (by kernel_rfl) rfl (fun _ _ _ _ h => h) rfl rfl rfl rfl rfl (fun _ => ev_bcmp rfl Try.underlying4 rfl rfl rfl) (SR.take 16 rfl (by kernel_rfl) (by kernel_rfl) (by kernel_rfl) rfl (fun _ _ _ h => h) rfl rfl rfl (ev_pickt rfl rfl rfl rfl) (SR.take 17 rfl (by kernel_rfl) (by kernel_rfl) (by kernel_rfl) rfl (fun _ _ _ h => h) rfl rfl rfl (ev_as rfl rfl) ?_)))))
          exact SR.fin (by kernel_rfl) hl_55 hx_55 hR_55 .n (SQ.go (fun _ _ h => h) (.ret (fun _ _ h => h) (ret1 Try.results4 rfl .n ⟨(congrArg Value.bool (faults_eq hf1.1 hf2.1)), rfl⟩)))
  ·
    refine st_alloc rfl rfl rfl rfl zf30 (fun b56 => ⟨tt0, (SR.one (j := 4) (by kernel_rfl) rfl (st_alloc rfl rfl rfl rfl zf30 (fun b57 => ⟨tt0, (SR.one (j := 6) (by kernel_rfl) rfl (st_storea (l' := [.int .i64 c1, .int .i64 a1, .string p1, .bool false, .int .i64 0, .int .i64 0, .int .i64 0, .int .i64 0, .int .i64 0, .int .i64 0, .int .i64 0, .int .i64 0, .slice none 0 0, .slice none 0 0]) rfl rfl rfl ty30 rfl rfl rfl .h rfl rfl ⟨tt0, (SR.one (j := 7) (by kernel_rfl) rfl (st_storea (l' := [.int .i64 c2, .int .i64 a2, .string p2, .bool false, .int .i64 0, .int .i64 0, .int .i64 0, .int .i64 0, .int .i64 0, .int .i64 0, .int .i64 0, .int .i64 0, .slice none 0 0, .slice none 0 0]) rfl rfl rfl ty30 rfl rfl rfl (.t .h) rfl rfl ⟨tt0, (SR.fin (by kernel_rfl) hl_3 hx_3 hR_3 (.c (.c .n)) (SQ.go (fun _ _ h => h) ?_))⟩))⟩))⟩)))⟩)
    refine .seq (.seq (.region (.cons (Ev.step (ev_fa rfl fo24_0 rfl (r := 0) rfl) rfl rfl rfl (.cons (Ev.step (ev_ld1 rfl ty22 rfl (At.own1 3 rfl rfl)) rfl rfl rfl (.cons (Ev.step (ev_cmp rfl rfl rfl rfl) rfl rfl rfl ?_))))))))
    refine .cons (Ev.step (ev_mv rfl rfl) rfl rfl rfl (.cons (Ev.gstep (fun _ => ev_fa rfl fo24_0 rfl (r := 0) rfl) rfl rfl rfl rfl rfl (.cons (Ev.gstep (fun hb => ev_ld1 rfl ty22 (lkg rfl hb) (At.own1 2 rfl rfl)) rfl rfl rfl rfl rfl (.cons (Ev.gstep (fun hb => ev_cmp rfl (lkg rfl hb) rfl rfl) rfl rfl rfl rfl rfl (.cons (Ev.step (ev_or rfl rfl rfl rfl) rfl rfl rfl (.cons (Ev.step (ev_mv rfl rfl) rfl rfl rfl ?_)))))))))))
    refine .cons (Ev.gstep (fun _ => ev_lda rfl rfl (At.whole 1 rfl) ty30) rfl rfl rfl rfl rfl (.cons (st_gcallk rfl rfl rfl rfl rfl rfl hbd9 (fun hb => (lkA1 (lkg rfl hb) lkA0)) .n (fun hb => have hp := bF (bO bE bE) hb; long_f c1 a1 p1 _ _) (.cons (Ev.step (ev_or rfl rfl rfl rfl) rfl rfl rfl (.cons (Ev.step (ev_mv rfl rfl) rfl rfl rfl (.cons (Ev.gstep (fun _ => ev_lda rfl rfl (At.whole 0 rfl) ty30) rfl rfl rfl rfl rfl (.cons (st_gcallk rfl rfl rfl rfl rfl rfl hbd9 (fun hb => (lkA1 (lkg rfl hb) lkA0)) .n (fun hb => have hp := bF (bO (bO bE bE) bD) hb; long_f c2 a2 p2 _ _) ?_)))))))))))
    refine .cons (Ev.step (ev_or rfl rfl rfl rfl) rfl rfl rfl (.cons (Ev.step (ev_mv rfl rfl) rfl rfl rfl (.cons (Ev.gstep (fun _ => ev_lda rfl rfl (At.whole 1 rfl) ty30) rfl rfl rfl rfl rfl ?_)))))
    rcases Bool.eq_false_or_eq_true ((((c1 == 0) || (c2 == 0)) || (decide ((p1.size : Int) > 2000))) || (decide ((p2.size : Int) > 2000))) with hb58 | hb58
    ·
      refine SP.reslot (t := 33) rfl hb58 ?_
      have hb58_ := bT (bO (bO (bO bE bE) bD) bD) hb58
      refine .cons (.off rfl rfl rfl rfl rfl rfl (.cons (.off rfl rfl rfl rfl rfl rfl (.cons (Ev.step (ev_pickt rfl rfl rfl rfl) rfl rfl rfl (.cons (Ev.step (ev_mv rfl rfl) rfl rfl rfl (.cons (.off rfl rfl rfl rfl rfl rfl (.cons (.off rfl rfl rfl rfl rfl rfl ?_)))))))))))
      refine .cons (.off rfl rfl rfl rfl rfl rfl (.cons (Ev.step (ev_pickt rfl rfl rfl rfl) rfl rfl rfl (.go (fun _ _ h => h) (.cond_t rfl (.seq (.region ?_)))))))
      exact .cons (Ev.step (ev_as rfl rfl) rfl rfl rfl (.go (fun _ _ h => h) (.ret (fun _ _ h => h) (ret1 Try.results4 rfl .n ⟨rfl, rfl⟩))))
    ·
      refine SP.reslot (t := 33) rfl hb58 ?_
      have hb58_ := bF (bO (bO (bO bE bE) bD) bD) hb58
      refine .cons (.on rfl rfl rfl (st_call00 rfl rfl rfl rfl hbd10 (lkA1 (lkg rfl hb58) lkA0) .n (fits_f c1 a1 p1 _ _ (by omega) (by omega)) (by intro v C h; obtain ⟨_, _, rfl, rfl⟩ := h; rfl) (fun v_q60 q60 => ?_)))
      obtain ⟨r59, p61, rfl, -⟩ := q60
      refine .cons (.on rfl rfl rfl (Ev.step (ev_not rfl rfl) rfl rfl rfl (.cons (Ev.step (ev_pickf rfl rfl rfl rfl) rfl rfl rfl (.cons (Ev.step (ev_mv rfl rfl) rfl rfl rfl (.cons (Ev.gstep (fun _ => ev_lda rfl rfl (At.whole 0 rfl) ty30) rfl rfl rfl rfl rfl ?_))))))))
      rcases Bool.eq_false_or_eq_true (!r59) with hb62 | hb62
      ·
        refine SP.reslot (t := 38) rfl hb62 ?_
        have hb62_ := bT (bN bV) hb62
        refine .cons (.off rfl rfl rfl rfl rfl rfl (.cons (.off rfl rfl rfl rfl rfl rfl (.cons (Ev.step (ev_pickt rfl rfl rfl rfl) rfl rfl rfl (.go (fun _ _ h => h) (.cond_t rfl (.seq ?_))))))))
        exact .region (.cons (Ev.step (ev_as rfl rfl) rfl rfl rfl (.go (fun _ _ h => h) (.ret (fun _ _ h => h) (ret1 Try.results4 rfl .n ⟨rfl, rfl⟩)))))
      ·
        refine SP.reslot (t := 38) rfl hb62 ?_
        have hb62_ := bF (bN bV) hb62
        refine .cons (.on rfl rfl rfl (st_call00 rfl rfl rfl rfl hbd10 (lkA1 (lkg rfl hb62) lkA0) .n (fits_f c2 a2 p2 _ _ (by omega) (by omega)) (by intro v C h; obtain ⟨_, _, rfl, rfl⟩ := h; rfl) (fun v_q64 q64 => ?_)))
        obtain ⟨r63, p65, rfl, -⟩ := q64
        refine .cons (.on rfl rfl rfl (Ev.step (ev_not rfl rfl) rfl rfl rfl (.cons (Ev.step (ev_pickf rfl rfl rfl rfl) rfl rfl rfl (.go (fun _ _ h => h) (.condI rfl (bN bV) (fun h66 => ?_) (fun h66 => ?_)))))))
        ·
          exact .seq (.region (.cons (Ev.step (ev_as rfl rfl) rfl rfl rfl (.go (fun _ _ h => h) (.ret (fun _ _ h => h) (ret1 Try.results4 rfl .n ⟨rfl, rfl⟩))))))
        ·
          refine .skipgo (fun _ _ h => h) (.seq ?_)
          have hf1 := p61.1 (by simp_all)
          have hf2 := p65.1 (by simp_all)
          refine .region (.cons (Ev.step (ev_lda rfl rfl (At.whole 1 rfl) ty30) rfl rfl rfl (.cons (st_call0 rfl rfl rfl rfl hbd11 rfl .n (tree_f c1 a1 p1 _ _ (by omega)) (fun v_q69 C_q69 q69 => ?_)))))
          obtain ⟨u67, L68, p70, rfl, rfl⟩ := q69
          show SP _ _ _ _ _ _ ⟨_, _ :: _ :: _, _, _⟩
          have hLl71 : L68.length = 5 := by rw [← vs_len, p70]; rfl
          refine .know (row_len 0 rfl) (fun hv74 => ?_)
          obtain ⟨A72, c73, rfl, hv74_1, hv74_2⟩ := hv74
          unfold maxLen at hv74_2
          refine .cons (st_lend0 rfl rfl rfl rfl hbd12 rfl .n (.c .h (.c .h .n)) (fun w_ hw => print_ A72 c73 L68 _ _ (Fr.lend hw 0 rfl (by first | ((try simp only [List.length_nil, List.length_cons, List.length_append, List.length_set, List.length_singleton, List.length_take, List.length_drop, List.length_reverse]) <;> omega) | omega)) (NT.lend hw 1 rfl) (fault_TB p70 (show p1.size ≤ 1000000 by omega) (by omega) (by omega)) (by rw [p70, fault_show]; have h_ := fault_len (cd := c1) (at_ := a1) (path := p1) (by omega) (by omega); have h2_ := (show p1.size ≤ 1000000 by omega); omega)) (fun v_q78 C_q78 q78 => ?_))
          obtain ⟨u75, e76, m77, p79, p80, rfl, rfl⟩ := q78
          show SP _ _ _ _ _ _ ⟨_, _ :: _ :: _ :: _, _, _⟩
          have hz81 : e76 = 0 := by rw [p79, p70]; exact fault_check hf1.2.1 hf1.2.2 hf1.1
          have hm82 := p80
          rw [if_pos hz81, p70, fault_show] at hm82
          clear p79 p80
          subst hz81
          subst hm82
          have hfl83 := fault_len (cd := c1) (at_ := a1) (path := p1) (by omega) (by omega)
          refine .cons (Ev.step (ev_mv rfl rfl) rfl rfl rfl (.cons (Ev.step (ev_ext rfl rfl rfl) rfl rfl rfl (.cons (Ev.step (ev_ext rfl rfl rfl) rfl rfl rfl (.cons (Ev.step (ev_as rfl rfl) rfl rfl rfl (.cons (Ev.step (ev_as rfl rfl) rfl rfl rfl (.go (fun _ _ h => h) ?_))))))))))
          refine .seq (.region (.cons (Ev.step (ev_lda rfl rfl (At.whole 3 rfl) ty30) rfl rfl rfl (.cons (st_call0 rfl rfl rfl rfl hbd11 rfl .n (tree_f c2 a2 p2 _ _ (by omega)) (fun v_q86 C_q86 q86 => ?_))))))
          obtain ⟨u84, L85, p87, rfl, rfl⟩ := q86
          show SP _ _ _ _ _ _ ⟨_, _ :: _ :: _, _, _⟩
          have hLl88 : L85.length = 5 := by rw [← vs_len, p87]; rfl
          refine .know (row_len 0 rfl) (fun hv91 => ?_)
          obtain ⟨A89, c90, rfl, hv91_1, hv91_2⟩ := hv91
          unfold maxLen at hv91_2
          refine .cons (st_lend0 rfl rfl rfl rfl hbd12 rfl .n (.c .h (.c .h .n)) (fun w_ hw => print_ A89 c90 L85 _ _ (Fr.lend hw 0 rfl (by first | ((try simp only [List.length_nil, List.length_cons, List.length_append, List.length_set, List.length_singleton, List.length_take, List.length_drop, List.length_reverse]) <;> omega) | omega)) (NT.lend hw 1 rfl) (fault_TB p87 (show p2.size ≤ 1000000 by omega) (by omega) (by omega)) (by rw [p87, fault_show]; have h_ := fault_len (cd := c2) (at_ := a2) (path := p2) (by omega) (by omega); have h2_ := (show p2.size ≤ 1000000 by omega); omega)) (fun v_q95 C_q95 q95 => ?_))
          obtain ⟨u92, e93, m94, p96, p97, rfl, rfl⟩ := q95
          show SP _ _ _ _ _ _ ⟨_, _ :: _ :: _ :: _, _, _⟩
          have hz98 : e93 = 0 := by rw [p96, p87]; exact fault_check hf2.2.1 hf2.2.2 hf2.1
          have hm99 := p97
          rw [if_pos hz98, p87, fault_show] at hm99
          clear p96 p97
          subst hz98
          subst hm99
          have hfl100 := fault_len (cd := c2) (at_ := a2) (path := p2) (by omega) (by omega)
          refine .cons (Ev.step (ev_mv rfl rfl) rfl rfl rfl (.cons (Ev.step (ev_ext rfl rfl rfl) rfl rfl rfl (.cons (Ev.step (ev_ext rfl rfl rfl) rfl rfl rfl (.cons (Ev.step (ev_as rfl rfl) rfl rfl rfl (.cons (Ev.step (ev_as rfl rfl) rfl rfl rfl (.go (fun _ _ h => h) ?_))))))))))
          refine .seq ?_
          refine .know (row_len 3 rfl) (fun hv103 => ?_)
          obtain ⟨A101, c102, rfl, hv103_1, hv103_2⟩ := hv103
          unfold maxLen at hv103_2
          refine .know (row_len 0 rfl) (fun hv106 => ?_)
          obtain ⟨A104, c105, rfl, hv106_1, hv106_2⟩ := hv106
          unfold maxLen at hv106_2
          refine SC.draw mo [] [] .n (fun _ _ _ c hc => by cases hc) (fun wf_107 hl_107 hx_107 hR_107 => ?_)
          refine SR.take 0 rfl (by kernel_rfl) (by kernel_rfl) (by kernel_rfl) rfl (fun _ _ _ h => h) rfl rfl rfl (ev_mv rfl rfl) (SR.take 1 rfl (by kernel_rfl) (by kernel_rfl) (by kernel_rfl) rfl (fun _ _ _ h => h) rfl rfl rfl (ev_cmp (r := true) rfl rfl rfl rfl) (SR.take 2 rfl (by kernel_rfl) (by kernel_rfl) (by kernel_rfl) rfl (fun _ _ _ h => h) rfl rfl rfl (ev_mv rfl rfl) (SR.gtake 3 rfl (by kernel_rfl) (by kernel_rfl) (by kernel_rfl) rfl (fun _ _ _ _ h => h) rfl rfl rfl rfl rfl (fun _ => ev_mv rfl rfl) (SR.gtake 4 rfl (by kernel_rfl) (by kernel_rfl) (by kernel_rfl) rfl (fun _ _ _ _ h => h) rfl rfl rfl rfl rfl (fun _ => ev_cmp (r := true) rfl rfl rfl rfl) (SR.take 5 rfl (by kernel_rfl) (by kernel_rfl) (by kernel_rfl) rfl (fun _ _ _ h => h) rfl rfl rfl (ev_pickt rfl rfl rfl rfl) ?_)))))
          refine SR.take 6 rfl (by kernel_rfl) (by kernel_rfl) (by kernel_rfl) rfl (fun _ _ _ h => h) rfl rfl rfl (ev_mv rfl rfl) (SR.gtake 7 rfl (by kernel_rfl) (by kernel_rfl) (by kernel_rfl) rfl (fun _ _ _ _ h => h) rfl rfl rfl rfl rfl (fun _ => ev_mv rfl rfl) (SR.gtake 8 rfl (by kernel_rfl) (by kernel_rfl) (by kernel_rfl) rfl (fun _ _ _ _ h => h) rfl rfl rfl rfl rfl (fun _ => ev_b2s (l := (faultL c1 a1 p1)) rfl Try.underlying36 Try.underlying5 Try.underlying9 rfl (by first | rfl | assumption | omega | ((try simp only [List.length_take, List.length_drop, List.length_append, List.length_cons, List.length_nil]) <;> omega)) (Src.d (Fr.flat (Fr.lent (S := S) hR_107 3 rfl (by first | ((try simp only [List.length_nil, List.length_cons, List.length_append, List.length_set, List.length_singleton, List.length_take, List.length_drop, List.length_reverse]) <;> omega) | omega))))) (SR.gtake 9 rfl (by kernel_rfl) (by kernel_rfl) (by kernel_rfl) rfl (fun _ _ _ _ h => h) rfl rfl rfl rfl rfl (fun _ => ev_mv rfl rfl) (SR.gtake 10 rfl (by kernel_rfl) (by kernel_rfl) (by kernel_rfl) rfl (fun _ _ _ _ h => h) rfl rfl rfl rfl rfl (fun _ => ev_b2s (l := (faultL c2 a2 p2)) rfl Try.underlying36 Try.underlying5 Try.underlying9 rfl (by first | rfl | assumption | omega | ((try simp only [List.length_take, List.length_drop, List.length_append, List.length_cons, List.length_nil]) <;> omega)) (Src.d (Fr.flat (Fr.lent (S := S) hR_107 0 rfl (by first | ((try simp only [List.length_nil, List.length_cons, List.length_append, List.length_set, List.length_singleton, List.length_take, List.length_drop, List.length_reverse]) <;> omega) | omega))))) (SR.gtake 11 rfl (by kernel_rfl) (by kernel_rfl) (by kernel_rfl) rfl (fun _ _ _ _ h => h) rfl rfl rfl rfl rfl (fun _ => ev_scmp rfl rfl rfl rfl) ?_)))))
          refine SR.gtake 12 rfl (by kernel_rfl) (by kernel_rfl) (by kernel_rfl) rfl (fun _ _ _ _ h => h) rfl rfl rfl rfl rfl (fun _ => ev_lda (cs := [.int .i64 c1, .int .i64 a1, .string p1]) rfl rfl (At.d (At.lent hR_107 9 rfl rfl)) ty24) (SR.gtake 13 rfl (by kernel_rfl) (by kernel_rfl) (by kernel_rfl) rfl (fun _ _ _ _ h => h) rfl rfl rfl rfl rfl (fun _ => ev_lda (cs := [.int .i64 c2, .int .i64 a2, .string p2]) rfl rfl (At.d (At.lent hR_107 8 rfl rfl)) ty24) (SR.gtake 14 rfl (by kernel_rfl) (by kernel_rfl) (by kernel_rfl) rfl (fun _ _ _ _ h => h) rfl rfl rfl rfl rfl (fun _ => ev_bin rfl rfl rfl (r := .bool ((c1 == c2) && ((a1 == a2) && (p1 == p2)))) (ev24_eql _ _ _ _ _ _ _ _)) (SR.gtake 15 rfl (by kernel_rfl) (by kernel_rfl) (by kernel_rfl) rfl (fun _ _ _ _ h => h) rfl rfl rfl rfl rfl (fun _ => ev_bcmp rfl Try.underlying4 rfl rfl rfl) (SR.take 16 rfl (by kernel_rfl) (by kernel_rfl) (by kernel_rfl) rfl (fun _ _ _ h => h) rfl rfl rfl (ev_pickt rfl rfl rfl rfl) (SR.take 17 rfl (by kernel_rfl) (by kernel_rfl) (by kernel_rfl) rfl (fun _ _ _ h => h) rfl rfl rfl (ev_as rfl rfl) ?_)))))
          exact SR.fin (by kernel_rfl) hl_107 hx_107 hR_107 .n (SQ.go (fun _ _ h => h) (.ret (fun _ _ h => h) (ret1 Try.results4 rfl .n ⟨(congrArg Value.bool (faults_eq hf1.1 hf2.1)), rfl⟩)))

end Go.Proofs.Ythmkelkefmfmgaa.Sx
