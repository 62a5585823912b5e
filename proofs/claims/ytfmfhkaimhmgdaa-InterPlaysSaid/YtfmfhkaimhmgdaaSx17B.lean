import Derived.Test.YtfmfhkaimhmgdaaProg
import Derived.Test.YtfmfhkaimhmgdaaSxChg
import Derived.Test.YtfmfhkaimhmgdaaSx17A
import Derived.Test.YtfmfhkaimhmgdaaSx17S
import Derived.Test.YtfmfhkaimhmgdaaSx17I
import Derived.Test.YtfmfhkaimhmgdaaSx17J
import Derived.Test.YtfmfhkaimhmgdaaSx17K
import Derived.Test.YtfmfhkaimhmgdaaSx17L
import Derived.Test.YtfmfhkaimhmgdaaSx17N
import Derived.Test.YtfmfhkaimhmgdaaSx17R
set_option maxRecDepth 20000
set_option maxHeartbeats 4000000
set_option linter.unusedVariables false
set_option linter.unusedSimpArgs false
namespace Go.Proofs.Ytfmfhkaimhmgdaa.Sx.FB
open Go Go.SX Go.Proofs
theorem zf51 : (Try.prog.info? 51).bind (fun i => i.zero.map Value.cells) = some (List.toArray [.bool false, .int .i64 0]) := by kernel_rfl
theorem ty44 : ty Try.prog 44 = some (true, 2) := by kernel_rfl
theorem hb38 : hasBody Try.prog 38 = true := by kernel_rfl
theorem ty51 : ty Try.prog 51 = some (true, 2) := by kernel_rfl
theorem hb39 : hasBody Try.prog 39 = true := by kernel_rfl
theorem hb28 : hasBody Try.prog 28 = true := by kernel_rfl
theorem mo : Try.prog.follows .mixedOrders = true := by kernel_rfl
theorem fo51_0 : fo Try.prog 51 0 = some 0 := by kernel_rfl
theorem ty4 : ty Try.prog 4 = some (false, 1) := by kernel_rfl
theorem hb26 : hasBody Try.prog 26 = true := by kernel_rfl
theorem hb25 : hasBody Try.prog 25 = true := by kernel_rfl
theorem eqIn44 (d : Nat) (x0 y0 : Int) (x1 y1 : Int) (w : World) : (Op.equalIn (d + 3) 44 (.agg #[(.int .i64 x0), (.int .i64 x1)]) (.agg #[(.int .i64 y0), (.int .i64 y1)])).run Try.prog w = .ok ((x0 == y0) && (x1 == y1)) w := by
  rw [run_equalIn_struct w (d + 2) 44 _ _ (by kernel_rfl) (by kernel_rfl)]
  have hf : (Try.prog.fieldsOf 44).toList = [{ name := "Kind", type := 42, offset := 0, embedded := false, tag := "", pkgPath := "", byteOffset := 0 }, { name := "Item", type := 3, offset := 1, embedded := false, tag := "", pkgPath := "", byteOffset := 8 }] := by kernel_rfl
  rw [hf]
  have h42 : ∀ (x y : Int) (w : World), (Op.equalIn (d + 2) 42 (.int .i64 x) (.int .i64 y)).run Try.prog w = .ok (x == y) w := fun x y w => by
    simp [Op.equalIn, run_underlying Try.underlying42]
  have h3 : ∀ (x y : Int) (w : World), (Op.equalIn (d + 2) 3 (.int .i64 x) (.int .i64 y)).run Try.prog w = .ok (x == y) w := fun x y w => by
    simp [Op.equalIn, run_underlying Try.underlying3]
  have p0 : ∀ (x0 : Int) (x1 : Int) (w : World), (part 42 #[(.int .i64 x0), (.int .i64 x1)] 0).run Try.prog w = .ok (.int .i64 x0) w := fun _ _ _ => by kernel_rfl
  have p1 : ∀ (x0 : Int) (x1 : Int) (w : World), (part 3 #[(.int .i64 x0), (.int .i64 x1)] 1).run Try.prog w = .ok (.int .i64 x1) w := fun _ _ _ => by kernel_rfl
  simp only [Op.eqFields, Sem.run_bind, h42, h3, p0, p1, Result.andThen_ok, Sem.run_ite, ne_eq]
  cases g0 : (x0 == y0) <;> cases g1 : (x1 == y1) <;> simp [g0, g1]
theorem ev44_eql (x y : Operand) (x0 y0 : Int) (x1 y1 : Int) (w : World) : (do eqGuard .eql 44 x y (.agg #[(.int .i64 x0), (.int .i64 x1)]) (.agg #[(.int .i64 y0), (.int .i64 y1)]); binOp .eql 44 (.agg #[(.int .i64 x0), (.int .i64 x1)]) (.agg #[(.int .i64 y0), (.int .i64 y1)]) : Sem Value).run Try.prog w = .ok (.bool (((x0 == y0) && (x1 == y1)))) w := by
  have h1 : (Op.equal 44 (.agg #[(.int .i64 x0), (.int .i64 x1)]) (.agg #[(.int .i64 y0), (.int .i64 y1)])).run Try.prog w = .ok ((x0 == y0) && (x1 == y1)) w := eqIn44 9997 x0 y0 x1 y1 w
  have h2 : (eqGuard .eql 44 x y (.agg #[(.int .i64 x0), (.int .i64 x1)]) (.agg #[(.int .i64 y0), (.int .i64 y1)])).run Try.prog w = .ok () w := by kernel_rfl
  simp only [Sem.run_bind, h2, Result.andThen_ok, binOp, h1]
  rfl
theorem ev44_neq (x y : Operand) (x0 y0 : Int) (x1 y1 : Int) (w : World) : (do eqGuard .neq 44 x y (.agg #[(.int .i64 x0), (.int .i64 x1)]) (.agg #[(.int .i64 y0), (.int .i64 y1)]); binOp .neq 44 (.agg #[(.int .i64 x0), (.int .i64 x1)]) (.agg #[(.int .i64 y0), (.int .i64 y1)]) : Sem Value).run Try.prog w = .ok (.bool (!((x0 == y0) && (x1 == y1)))) w := by
  have h1 : (Op.equal 44 (.agg #[(.int .i64 x0), (.int .i64 x1)]) (.agg #[(.int .i64 y0), (.int .i64 y1)])).run Try.prog w = .ok ((x0 == y0) && (x1 == y1)) w := eqIn44 9997 x0 y0 x1 y1 w
  have h2 : (eqGuard .neq 44 x y (.agg #[(.int .i64 x0), (.int .i64 x1)]) (.agg #[(.int .i64 y0), (.int .i64 y1)])).run Try.prog w = .ok () w := by kernel_rfl
  simp only [Sem.run_bind, h2, Result.andThen_ok, binOp, h1]
  rfl


end Go.Proofs.Ytfmfhkaimhmgdaa.Sx.FB
namespace Go.Proofs.Ytfmfhkaimhmgdaa.Sx
open Go Go.SX Go.Proofs FB





theorem r_whole (A : Option Addr) (n : Nat) (c : Nat) (l : List Vis) (i : Int) (S : Nat → Prop) (wf : World) (hA : Fr eVis S wf A l) (hn : l.length = n) (hl : l.length ≤ 1000000) (h0 : 0 ≤ i) (h1 : i < n) :
    TR0 Try.prog 23 [.slice A n c, .int .i64 i] [] S wf (fun v_ C_ => ∃ (s : Bool) (y : Int) (u : Value) (X : List Vis) (r : Bool), ((s, y, X, r) = wholeF l i) ∧ v_ = .tuple #[.agg #[.bool s, .int .i64 y], u, .bool r] ∧ C_ = [rw_ eVis 44 (u) X]) := by
  refine TR.mk Try.func23 rfl Try.ntmps23 rfl rfl (fun w_ => ?_)
  refine .seq (.region (.cons (st_alloc rfl rfl rfl rfl zf51 (fun b1 => .cons (Ev.step (ev_as rfl rfl) rfl rfl rfl (.cons (Ev.step (ev_as rfl rfl) rfl rfl rfl (.go (fun _ _ h => h) ?_))))))))
  refine .seq (.region (.cons (Ev.step (ev_mv rfl rfl) rfl rfl rfl (.cons (Ev.step (ev_mv rfl rfl) rfl rfl rfl (.cons (Ev.step (ev_ix rfl Try.underlying22 ty44 rfl rfl (by omega) (by omega) (fun _ _ => Fr.adr (i := i) hA (by omega) (by omega))) rfl rfl rfl (.cons (Ev.step (ev_lda rfl rfl (At.w (Fr.el (i := i) hA (by omega) (by omega))) ty44) rfl rfl rfl ?_)))))))))
  refine .cons (st_call00 rfl rfl rfl rfl hb38 rfl .n (r_of ((gt l i).kind) ((gt l i).item) _ _) (by intro v C h; obtain ⟨_, _, _, _, rfl, rfl⟩ := h; rfl) (fun v_q5 q5 => ?_))
  obtain ⟨s2, y3, b4, p6, rfl, -⟩ := q5
  refine .cons (Ev.step (ev_mv rfl rfl) rfl rfl rfl (.cons (Ev.step (ev_ext rfl rfl rfl) rfl rfl rfl (.cons (Ev.step (ev_ext rfl rfl rfl) rfl rfl rfl (.cons (st_alloc rfl rfl rfl rfl zf51 (fun b7 => .cons (st_storea (l' := [.bool s2, .int .i64 y3]) rfl rfl rfl ty51 rfl rfl rfl .h rfl rfl (.cons (Ev.step (ev_as rfl rfl) rfl rfl rfl ?_)))))))))))
  refine .go (fun _ _ h => h) (.seq (.region (.cons (Ev.step (ev_mv rfl rfl) rfl rfl rfl (.cons (Ev.step (ev_lda rfl rfl (At.whole 0 rfl) ty51) rfl rfl rfl (.cons (st_call0 rfl rfl rfl rfl hb39 rfl .n (r_without A n c l s2 y3 _ _ hA (by first | ((try simp only [List.length_nil, List.length_cons, List.length_append, List.length_set, List.length_singleton, List.length_take, List.length_drop, List.length_reverse]) <;> omega) | omega) (by first | ((try simp only [List.length_nil, List.length_cons, List.length_append, List.length_set, List.length_singleton, List.length_take, List.length_drop, List.length_reverse]) <;> omega) | omega)) (fun v_q10 C_q10 q10 => ?_)))))))))
  obtain ⟨u8, k9, p11, rfl, rfl⟩ := q10
  show SP _ _ _ _ _ _ ⟨_, _ :: _, _, _⟩
  refine .cons (Ev.step (ev_mv rfl rfl) rfl rfl rfl (.cons (Ev.step (ev_ext rfl rfl rfl) rfl rfl rfl (.cons (Ev.step (ev_ext rfl rfl rfl) rfl rfl rfl (.cons (Ev.step (ev_as rfl rfl) rfl rfl rfl (.cons (Ev.step (ev_as rfl rfl) rfl rfl rfl (.go (fun _ _ h => h) ?_))))))))))
  refine .seq (.region (.cons (Ev.step (ev_lda rfl rfl (At.whole 1 rfl) ty51) rfl rfl rfl (.cons (st_call0 rfl rfl rfl rfl hb28 rfl .n (r_vis s2 y3 _ _) (fun v_q14 C_q14 q14 => ?_))))))
  obtain ⟨u12, m13, p15, rfl, rfl⟩ := q14
  show SP _ _ _ _ _ _ ⟨_, _ :: _, _, _⟩
  have hvl := visF_len p15
  refine .cons (Ev.step (ev_as rfl rfl) rfl rfl rfl (.go (fun _ _ h => h) (.seq (.seq ?_))))
  refine .know (row_form 0 rfl (by omega)) (fun hv18 => ?_)
  obtain ⟨g16, c17, rfl, hv18_1, hv18_2⟩ := hv18
  unfold maxLen at hv18_2
  refine .region (.cons (Ev.step (ev_as rfl rfl) rfl rfl rfl (.go (fun _ _ h => h) (.block ?_))))
  refine .loop (X := Int × Bool) (fun ⟨x, R⟩ => 0 ≤ x ∧ x ≤ m13.length ∧ R = (b4 && (m13.take x.toNat).all (fun v => decide (l.count v = 1)))) (fun ⟨x, R⟩ => [(0, .slice A n c), (4, .pointer (some ⟨b1, 0, none⟩)), (7, .pointer (some ⟨b7, 0, none⟩)), (9, u8), (11, .slice (some ⟨g16, 0, none⟩) m13.length c17), (12, .int .i64 x), (8, .bool R)]) (fun ⟨x, R⟩ => [rw_ eVis 44 (.slice (some ⟨g16, 0, none⟩) m13.length c17) m13, rw_ eVis 44 (u8) (l.filter (offV (visF s2 y3))), cel b7 [.bool s2, .int .i64 y3] 51, cel b1 [.bool false, .int .i64 0] 51]) (fun _ => S) (fun _ => wf) (fun ⟨x, R⟩ => (m13.length - x.toNat)) (fun a_ w_ hs_ hw_ => ⟨⟨0, b4⟩, (by exact ⟨by omega, by omega, by simp⟩), hs_.mono (Sub.get (.c rfl (.c rfl (.c rfl (.c rfl (.c rfl (.c rfl (.c rfl .n)))))))), hw_.keep (.c .h (.c .h (.c .h (.c .h .n))))⟩) (fun ⟨x, R⟩ ⟨q_0, q_1, q_2⟩ => ?_)
  show SC _ _ _ _ _ ⟨[(0, .slice A n c), (4, .pointer (some ⟨b1, 0, none⟩)), (7, .pointer (some ⟨b7, 0, none⟩)), (9, u8), (11, .slice (some ⟨g16, 0, none⟩) m13.length c17), (12, .int .i64 x), (8, .bool R)], [rw_ eVis 44 (.slice (some ⟨g16, 0, none⟩) m13.length c17) m13, rw_ eVis 44 (u8) (l.filter (offV (visF s2 y3))), cel b7 [.bool s2, .int .i64 y3] 51, cel b1 [.bool false, .int .i64 0] 51], S, wf⟩
  refine .seq (.seq (.region (.cons (Ev.step (ev_mv rfl rfl) rfl rfl rfl (.cons (Ev.step (ev_mv rfl rfl) rfl rfl rfl (.cons (Ev.step (ev_len rfl Try.underlying22 rfl) rfl rfl rfl ?_))))))))
  refine .cons (Ev.step (ev_cmp rfl rfl rfl rfl) rfl rfl rfl (.cons (Ev.step (ev_mv rfl rfl) rfl rfl rfl (.cons (Ev.gstep (fun _ => ev_mv rfl rfl) rfl rfl rfl rfl rfl (.cons (Ev.step (ev_and rfl rfl rfl rfl) rfl rfl rfl (.go (fun _ _ h => h) (.condI rfl (bA bD bV) (fun h19 => ?_) (fun h19 => ?_))))))))))
  ·
    refine .skipgo (fun _ _ h => h) (.seq (.block (.seq (.region (.cons (Ev.step (ev_as rfl rfl) rfl rfl rfl ?_))))))
    refine .go (fun _ _ h => h) (.seq (.seq (.region (.cons (Ev.step (ev_as rfl rfl) rfl rfl rfl (.go (fun _ _ h => h) ?_))))))
    refine .block ?_
    refine .loop (X := Int × Int) (fun ⟨z, k⟩ => 0 ≤ z ∧ z ≤ n ∧ 0 ≤ k ∧ k ≤ z ∧ k = ((l.take z.toNat).count (gt m13 x) : Int)) (fun ⟨z, k⟩ => [(0, .slice A n c), (4, .pointer (some ⟨b1, 0, none⟩)), (7, .pointer (some ⟨b7, 0, none⟩)), (9, u8), (11, .slice (some ⟨g16, 0, none⟩) m13.length c17), (12, .int .i64 x), (13, .int .i64 k), (14, .int .i64 z)]) (fun ⟨z, k⟩ => [rw_ eVis 44 (.slice (some ⟨g16, 0, none⟩) m13.length c17) m13, rw_ eVis 44 (u8) (l.filter (offV (visF s2 y3))), cel b7 [.bool s2, .int .i64 y3] 51, cel b1 [.bool false, .int .i64 0] 51]) (fun _ => S) (fun _ => wf) (fun ⟨z, k⟩ => (n - z.toNat)) (fun a_ w_ hs_ hw_ => ⟨⟨0, 0⟩, (by exact ⟨by omega, by omega, by omega, by omega, by simp⟩), hs_.mono (Sub.get (.c rfl (.c rfl (.c rfl (.c rfl (.c rfl (.c rfl (.c rfl (.c rfl .n))))))))), hw_.keep (.c .h (.c .h (.c .h (.c .h .n))))⟩) (fun ⟨z, k⟩ ⟨p_0, p_1, p_2, p_3, p_4⟩ => ?_)
    show SC _ _ _ _ _ ⟨[(0, .slice A n c), (4, .pointer (some ⟨b1, 0, none⟩)), (7, .pointer (some ⟨b7, 0, none⟩)), (9, u8), (11, .slice (some ⟨g16, 0, none⟩) m13.length c17), (12, .int .i64 x), (13, .int .i64 k), (14, .int .i64 z)], [rw_ eVis 44 (.slice (some ⟨g16, 0, none⟩) m13.length c17) m13, rw_ eVis 44 (u8) (l.filter (offV (visF s2 y3))), cel b7 [.bool s2, .int .i64 y3] 51, cel b1 [.bool false, .int .i64 0] 51], S, wf⟩
    refine .seq (.seq (.region (.cons (Ev.step (ev_mv rfl rfl) rfl rfl rfl (.cons (Ev.step (ev_mv rfl rfl) rfl rfl rfl (.cons (Ev.step (ev_len rfl Try.underlying22 rfl) rfl rfl rfl ?_))))))))
    refine .cons (Ev.step (ev_cmp rfl rfl rfl rfl) rfl rfl rfl (.go (fun _ _ h => h) (.condI rfl bD (fun h20 => ?_) (fun h20 => ?_))))
    ·
      refine .skipgo (fun _ _ h => h) (.seq (.block (.seq ?_)))
      refine SC.draw mo [] [] .n (fun _ _ _ c hc => by cases hc) (fun wf_21 hl_21 hx_21 hR_21 => ?_)
      refine SR.take 0 rfl (by kernel_rfl) (by kernel_rfl) (by kernel_rfl) rfl (fun _ _ _ h => h) rfl rfl rfl (ev_mv rfl rfl) (SR.take 1 rfl (by kernel_rfl) (by kernel_rfl) (by kernel_rfl) rfl (fun _ _ _ h => h) rfl rfl rfl (ev_mv rfl rfl) (SR.take 2 rfl (by kernel_rfl) (by kernel_rfl) (by kernel_rfl) rfl (fun _ _ _ h => h) rfl rfl rfl (ev_ix rfl Try.underlying22 ty44 rfl rfl (by omega) (by omega) (fun _ _ => Fr.adr (i := z) (Fr.ext hA hx_21) (by omega) (by omega))) (SR.take 3 rfl (by kernel_rfl) (by kernel_rfl) (by kernel_rfl) rfl (fun _ _ _ h => h) rfl rfl rfl (ev_lda rfl rfl (At.d (Fr.el (i := z) (Fr.ext hA hx_21) (by omega) (by omega))) ty44) (SR.take 4 rfl (by kernel_rfl) (by kernel_rfl) (by kernel_rfl) rfl (fun _ _ _ h => h) rfl rfl rfl (ev_mv rfl rfl) (SR.take 5 rfl (by kernel_rfl) (by kernel_rfl) (by kernel_rfl) rfl (fun _ _ _ h => h) rfl rfl rfl (ev_mv rfl rfl) ?_)))))
      refine SR.take 6 rfl (by kernel_rfl) (by kernel_rfl) (by kernel_rfl) rfl (fun _ _ _ h => h) rfl rfl rfl (ev_ix rfl Try.underlying22 ty44 rfl rfl (by omega) (by omega) (fun _ _ => Fr.adr (i := x) (Fr.lent (S := S) hR_21 0 rfl (by first | ((try simp only [List.length_nil, List.length_cons, List.length_append, List.length_set, List.length_singleton, List.length_take, List.length_drop, List.length_reverse]) <;> omega) | omega)) (by omega) (by omega))) (SR.take 7 rfl (by kernel_rfl) (by kernel_rfl) (by kernel_rfl) rfl (fun _ _ _ h => h) rfl rfl rfl (ev_lda rfl rfl (At.d (Fr.el (i := x) (Fr.lent (S := S) hR_21 0 rfl (by first | ((try simp only [List.length_nil, List.length_cons, List.length_append, List.length_set, List.length_singleton, List.length_take, List.length_drop, List.length_reverse]) <;> omega) | omega)) (by omega) (by omega))) ty44) (SR.take 8 rfl (by kernel_rfl) (by kernel_rfl) (by kernel_rfl) rfl (fun _ _ _ h => h) rfl rfl rfl (ev_bin rfl rfl rfl (r := .bool ((((gt l z).kind) == ((gt m13 x).kind)) && (((gt l z).item) == ((gt m13 x).item)))) (ev44_eql _ _ _ _ _ _)) (SR.fin (by kernel_rfl) hl_21 hx_21 hR_21 .n (SQ.go (fun _ _ h => h) (.condI rfl (bA bE bE) (fun h22 => ?_) (fun h22 => ?_))))))
      ·
        refine .region (.cons (Ev.step (ev_mv rfl rfl) rfl rfl rfl (.cons (Ev.step (ev_add rfl rfl rfl (r := (k + 1)) rfl (by omega) (by omega)) rfl rfl rfl (.cons (Ev.step (ev_as rfl rfl) rfl rfl rfl (.go (fun _ _ h => h) (.region ?_))))))))
        exact .cons (Ev.step (ev_mv rfl rfl) rfl rfl rfl (.cons (Ev.step (ev_add rfl rfl rfl (r := (z + 1)) rfl (by omega) (by omega)) rfl rfl rfl (.cons (Ev.step (ev_as rfl rfl) rfl rfl rfl (SP.nil (SQ.round (X := Int × Int) (x := (z, k)) ⟨(z + 1), (k + 1)⟩ (by exact ⟨by omega, by omega, by omega, by omega, cnt_yes p_4 (by omega) (by omega) (by assumption)⟩) (by dsimp only; omega) (Sub.get (.c rfl (.c rfl (.c rfl (.c rfl (.c rfl (.c rfl (.c rfl (.c rfl .n))))))))) (fun w hw => hw.keep (.c .h (.c .h (.c .h (.c .h .n))))))))))))
      ·
        exact .skipgo (fun _ _ h => h) (.region (.cons (Ev.step (ev_mv rfl rfl) rfl rfl rfl (.cons (Ev.step (ev_add rfl rfl rfl (r := (z + 1)) rfl (by omega) (by omega)) rfl rfl rfl (.cons (Ev.step (ev_as rfl rfl) rfl rfl rfl (SP.nil (SQ.round (X := Int × Int) (x := (z, k)) ⟨(z + 1), k⟩ (by exact ⟨by omega, by omega, by omega, by omega, cnt_no p_4 (by omega) (by omega) (by assumption)⟩) (by dsimp only; omega) (Sub.get (.c rfl (.c rfl (.c rfl (.c rfl (.c rfl (.c rfl (.c rfl (.c rfl .n))))))))) (fun w hw => hw.keep (.c .h (.c .h (.c .h (.c .h .n))))))))))))))
    ·
      refine .exit (fun _ _ h => h) (.region (.cons (Ev.step (ev_mv rfl rfl) rfl rfl rfl (.cons (Ev.step (ev_cmp rfl rfl rfl rfl) rfl rfl rfl (.cons (Ev.step (ev_as rfl rfl) rfl rfl rfl (.go (fun _ _ h => h) ?_))))))))
      exact .region (.cons (Ev.step (ev_mv rfl rfl) rfl rfl rfl (.cons (Ev.step (ev_add rfl rfl rfl (r := (x + 1)) rfl (by omega) (by omega)) rfl rfl rfl (.cons (Ev.step (ev_as rfl rfl) rfl rfl rfl (SP.nil (SQ.round (X := Int × Bool) (x := (x, R)) ⟨(x + 1), (k == 1)⟩ (by exact ⟨by omega, by omega, wh_next q_2 (by simp_all) (by omega) (by omega) p_4 (by omega)⟩) (by dsimp only; omega) (Sub.get (.c rfl (.c rfl (.c rfl (.c rfl (.c rfl (.c rfl (.c rfl .n)))))))) (fun w hw => hw.keep (.c .h (.c .h (.c .h (.c .h .n)))))))))))))
  ·
    refine .exit (fun _ _ h => h) (.seq (.region (.cons (Ev.step (ev_lda rfl rfl (At.whole 2 rfl) ty51) rfl rfl rfl (.cons (Ev.step (ev_mv rfl rfl) rfl rfl rfl (.cons (Ev.step (ev_mv rfl rfl) rfl rfl rfl ?_))))))))
    exact .cons (st_storea (l' := [.bool s2, .int .i64 y3]) rfl rfl rfl ty51 rfl rfl rfl (.t (.t (.t .h))) rfl rfl (.cons (Ev.step (ev_as rfl rfl) rfl rfl rfl (.cons (Ev.step (ev_as rfl rfl) rfl rfl rfl (.go (fun _ _ h => h) (.ret (fun _ _ h => h) (retv3 Try.results23 (.c 0 rfl rfl ty51) (.t rfl) (.t rfl) (.c (.t (.t .h)) .n) ⟨s2, y3, u8, l.filter (offV (visF s2 y3)), R, (wh_end p6 p15 rfl q_2 (by assumption)), rfl, rfl⟩))))))))

theorem r_put (A : Option Addr) (n : Nat) (c : Nat) (l : List Vis) (s : Bool) (y : Int) (j : Int) (k : Int) (S : Nat → Prop) (wf : World) (hA : Fr eVis S wf A l) (hn : l.length = n) (hl : l.length ≤ 999990) (hc : n ≤ c) (h_j : -9223372036854775808 ≤ j ∧ j ≤ 9223372036854775807) (h_k : -9223372036854775808 ≤ k ∧ k ≤ 9223372036854775807) :
    TR0 Try.prog 24 [.slice A n c, .agg #[.bool s, .int .i64 y], .int .i64 j, .int .i64 k] [] S wf (fun v_ C_ => ∃ (u : Value) (X : List Vis) (r : Bool), ((X, r) = putF l s y j k) ∧ v_ = .tuple #[u, .bool r] ∧ C_ = [rw_ eVis 44 (u) X]) := by
  refine TR.mk Try.func24 rfl Try.ntmps24 rfl rfl (fun w_ => ?_)
  refine .seq (.region (.cons (st_boxa rfl rfl rfl rfl rfl (fun b1 => .cons (Ev.step (ev_as rfl rfl) rfl rfl rfl (.cons (Ev.step (ev_as rfl rfl) rfl rfl rfl (.go (fun _ _ h => h) ?_))))))))
  refine .seq ?_
  rcases s with _ | _
  ·
    refine .region (.cons (Ev.step (ev_mv rfl rfl) rfl rfl rfl (.cons (Ev.step (ev_len rfl Try.underlying22 rfl) rfl rfl rfl (.cons (Ev.step (ev_as rfl rfl) rfl rfl rfl (.go (fun _ _ h => h) (.seq ?_))))))))
    refine .seq (.region (.cons (Ev.step (ev_mv rfl rfl) rfl rfl rfl (.cons (Ev.step (ev_cmp rfl rfl rfl rfl) rfl rfl rfl (.cons (Ev.step (ev_mv rfl rfl) rfl rfl rfl (.cons (Ev.gstep (fun _ => ev_mv rfl rfl) rfl rfl rfl rfl rfl ?_)))))))))
    refine .cons (Ev.gstep (fun _ => ev_mv rfl rfl) rfl rfl rfl rfl rfl (.cons (Ev.gstep (fun hb => ev_cmp rfl (lkg rfl hb) (lkg rfl hb) rfl) rfl rfl rfl rfl rfl (.cons (Ev.step (ev_or rfl rfl rfl rfl) rfl rfl rfl (.cons (Ev.step (ev_mv rfl rfl) rfl rfl rfl (.cons (Ev.gstep (fun _ => ev_fa rfl fo51_0 rfl (r := 0) rfl) rfl rfl rfl rfl rfl (.cons (Ev.gstep (fun hb => ev_ld1 rfl ty4 (lkg rfl hb) (At.own1 0 rfl rfl)) rfl rfl rfl rfl rfl ?_)))))))))))
    refine .cons (Ev.gstep (fun hb => ev_mv rfl (lkg rfl hb)) rfl rfl rfl rfl rfl ?_)
    rcases Bool.eq_false_or_eq_true ((decide (j < 0)) || (decide (j > (n : Int)))) with hb2 | hb2
    ·
      have hb2_ := bT (bO bD bD) hb2
      refine SP.reslotv (t := 25) rfl (gv_off hb2) (.cons (.offu rfl rfl rfl rfl rfl (.cons (.offu rfl rfl rfl rfl rfl (.cons (.offu rfl rfl rfl rfl rfl (.cons (.offu rfl rfl rfl rfl rfl (.cons (.offu rfl rfl rfl rfl rfl ?_))))))))))
      refine .cons (.offu rfl rfl rfl rfl rfl (.cons (.offu rfl rfl rfl rfl rfl (.cons (.offu rfl rfl rfl rfl rfl (.cons (.offu rfl rfl rfl rfl rfl (SP.reslot (t := 22) rfl hb2 (.cons (.off rfl rfl rfl rfl rfl rfl ?_))))))))))
      refine .cons (Ev.step (ev_pickt rfl rfl rfl rfl) rfl rfl rfl (.go (fun _ _ h => h) (.cond_t rfl (.seq (.region (.cons (Ev.step (ev_as rfl rfl) rfl rfl rfl ?_)))))))
      refine .cons (Ev.step (ev_as rfl rfl) rfl rfl rfl (.go (fun _ _ h => h) ?_))
      refine SC.nilrow eVis 44 ?_
      exact .ret (fun _ _ h => h) (ret2 Try.results24 rfl rfl (.c .h .n) ⟨.slice none 0 0, [], false, (pt_no (by rw [putOk_f]; omega)), rfl, rfl⟩)
    ·
      have hb2_ := bF (bO bD bD) hb2
      refine SP.reslotv (t := 25) rfl (gv_on hb2) (.cons (.off rfl rfl rfl rfl rfl rfl (.cons (.off rfl rfl rfl rfl rfl rfl (.cons (.off rfl rfl rfl rfl rfl rfl (.cons (.off rfl rfl rfl rfl rfl rfl (.cons (.offu rfl rfl rfl rfl rfl ?_))))))))))
      refine .cons (.offu rfl rfl rfl rfl rfl (.cons (.offu rfl rfl rfl rfl rfl (.cons (.offu rfl rfl rfl rfl rfl (.cons (.off rfl rfl rfl rfl rfl rfl (SP.reslot (t := 22) rfl hb2 (.cons (.on rfl rfl rfl (Ev.step (ev_pickf rfl rfl rfl rfl) rfl rfl rfl ?_)))))))))))
      refine .cons (Ev.step (ev_pickf rfl rfl rfl rfl) rfl rfl rfl (.go (fun _ _ h => h) (.cond_f rfl (.skipgo (fun _ _ h => h) (.seq (.region ?_))))))
      refine .cons (Ev.step (ev_lda rfl rfl (At.whole 0 rfl) ty51) rfl rfl rfl (.cons (st_call0 rfl rfl rfl rfl hb28 rfl .n (r_vis false y _ _) (fun v_q5 C_q5 q5 => ?_))))
      obtain ⟨u3, m4, p6, rfl, rfl⟩ := q5
      show SP _ _ _ _ _ _ ⟨_, _ :: _, _, _⟩
      have hvl := visF_len p6
      refine .cons (Ev.step (ev_as rfl rfl) rfl rfl rfl (.go (fun _ _ h => h) (.seq ?_)))
      refine .know (row_form 0 rfl (by omega)) (fun hv9 => ?_)
      obtain ⟨g7, c8, rfl, hv9_1, hv9_2⟩ := hv9
      unfold maxLen at hv9_2
      refine SC.draw mo [] [] .n (fun _ _ _ c hc => by cases hc) (fun wf_10 hl_10 hx_10 hR_10 => ?_)
      refine SR.take 0 rfl (by kernel_rfl) (by kernel_rfl) (by kernel_rfl) rfl (fun _ _ _ h => h) rfl rfl rfl (ev_mv rfl rfl) (SR.take 1 rfl (by kernel_rfl) (by kernel_rfl) (by kernel_rfl) rfl (fun _ _ _ h => h) rfl rfl rfl (ev_mv rfl rfl) (SR.take 3 rfl (by kernel_rfl) (by kernel_rfl) (by kernel_rfl) rfl (fun _ _ _ h => h) rfl rfl rfl (ev_mv rfl rfl) (SR.take 4 rfl (by kernel_rfl) (by kernel_rfl) (by kernel_rfl) rfl (fun _ _ _ h => h) rfl rfl rfl (ev_slc rfl Try.underlying22 ty44 rfl .n (.s rfl (by omega)) (by omega) (by omega)) (SR.take 5 rfl (by kernel_rfl) (by kernel_rfl) (by kernel_rfl) rfl (fun _ _ _ h => h) rfl rfl rfl (ev_mv rfl rfl) (SR.take 6 rfl (by kernel_rfl) (by kernel_rfl) (by kernel_rfl) rfl (fun _ _ _ h => h) rfl rfl rfl (ev_mv rfl rfl) ?_)))))
      refine SR.take 7 rfl (by kernel_rfl) (by kernel_rfl) (by kernel_rfl) rfl (fun _ _ _ h => h) rfl rfl rfl (ev_mv rfl rfl) (SR.one (j := 2) (by kernel_rfl) rfl (st_call0 rfl rfl rfl rfl hb26 rfl .n (r_part A n c l 0 j _ _ (Fr.ext hA hx_10) (by first | ((try simp only [List.length_nil, List.length_cons, List.length_append, List.length_set, List.length_singleton, List.length_take, List.length_drop, List.length_reverse]) <;> omega) | omega) (by first | ((try simp only [List.length_nil, List.length_cons, List.length_append, List.length_set, List.length_singleton, List.length_take, List.length_drop, List.length_reverse]) <;> omega) | omega) (by omega) (by omega) (by omega) (by omega)) (fun v_q12 C_q12 q12 => ⟨tt0, ?_⟩)))
      obtain ⟨u11, rfl, rfl⟩ := q12
      show SR _ _ _ _ _ _ _ _ _ ⟨_, _ :: _, _, _⟩
      refine SR.one (j := 8) (by kernel_rfl) rfl (st_call0 rfl rfl rfl rfl hb26 rfl .n (r_part A n c l j (n : Int) _ _ (Fr.ext hA hx_10) (by first | ((try simp only [List.length_nil, List.length_cons, List.length_append, List.length_set, List.length_singleton, List.length_take, List.length_drop, List.length_reverse]) <;> omega) | omega) (by first | ((try simp only [List.length_nil, List.length_cons, List.length_append, List.length_set, List.length_singleton, List.length_take, List.length_drop, List.length_reverse]) <;> omega) | omega) (by omega) (by omega) (by omega) (by omega)) (fun v_q14 C_q14 q14 => ⟨tt0, ?_⟩))
      obtain ⟨u13, rfl, rfl⟩ := q14
      show SR _ _ _ _ _ _ _ _ _ ⟨_, _ :: _, _, _⟩
      refine .know (row_len 1 rfl) (fun hv17 => ?_)
      obtain ⟨A15, c16, rfl, hv17_1, hv17_2⟩ := hv17
      unfold maxLen at hv17_2
      refine .know (row_len 0 rfl) (fun hv20 => ?_)
      obtain ⟨A18, c19, rfl, hv20_1, hv20_2⟩ := hv20
      unfold maxLen at hv20_2
      refine SR.one (j := 9) (by kernel_rfl) rfl (st_lend0 rfl rfl rfl rfl hb25 rfl .n (.c (.t .h) (.c .h .n)) (fun w_ hw => r_join A15 (((l.take (j : Int).toNat).drop (0 : Int).toNat).length) c16 ((l.take (j : Int).toNat).drop (0 : Int).toNat) (cutA (some ⟨g7, 0, none⟩) c8 0 2) (1 - 0) (c8 - 0) ((m4.take 1).drop 0) A18 (((l.take ((n : Int) : Int).toNat).drop (j : Int).toNat).length) c19 ((l.take ((n : Int) : Int).toNat).drop (j : Int).toNat) _ _ (Fr.lend hw 0 rfl (by first | ((try simp only [List.length_nil, List.length_cons, List.length_append, List.length_set, List.length_singleton, List.length_take, List.length_drop, List.length_reverse]) <;> omega) | omega)) (Fr.ext (Fr.view (Fr.lent (S := S) hR_10 0 rfl (by first | ((try simp only [List.length_nil, List.length_cons, List.length_append, List.length_set, List.length_singleton, List.length_take, List.length_drop, List.length_reverse]) <;> omega) | omega)) 0 1 2 rfl (by omega)) hw.lendx) (Fr.lend hw 1 rfl (by first | ((try simp only [List.length_nil, List.length_cons, List.length_append, List.length_set, List.length_singleton, List.length_take, List.length_drop, List.length_reverse]) <;> omega) | omega)) (by first | ((try simp only [List.length_nil, List.length_cons, List.length_append, List.length_set, List.length_singleton, List.length_take, List.length_drop, List.length_reverse]) <;> omega) | omega) (by first | ((try simp only [List.length_nil, List.length_cons, List.length_append, List.length_set, List.length_singleton, List.length_take, List.length_drop, List.length_reverse]) <;> omega) | omega) (by first | ((try simp only [List.length_nil, List.length_cons, List.length_append, List.length_set, List.length_singleton, List.length_take, List.length_drop, List.length_reverse]) <;> omega) | omega) (by first | ((try simp only [List.length_nil, List.length_cons, List.length_append, List.length_set, List.length_singleton, List.length_take, List.length_drop, List.length_reverse]) <;> omega) | omega) (by first | ((try simp only [List.length_nil, List.length_cons, List.length_append, List.length_set, List.length_singleton, List.length_take, List.length_drop, List.length_reverse]) <;> omega) | omega) (by first | ((try simp only [List.length_nil, List.length_cons, List.length_append, List.length_set, List.length_singleton, List.length_take, List.length_drop, List.length_reverse]) <;> omega) | omega)) (fun v_q22 C_q22 q22 => ⟨tt0, ?_⟩))
      obtain ⟨u21, rfl, rfl⟩ := q22
      show SR _ _ _ _ _ _ _ _ _ ⟨_, _ :: _ :: _ :: _, _, _⟩
      refine SR.take 10 rfl (by kernel_rfl) (by kernel_rfl) (by kernel_rfl) rfl (fun _ _ _ h => h) rfl rfl rfl (ev_as rfl rfl) (SR.fin (by kernel_rfl) hl_10 hx_10 hR_10 (.c (.c (.c .n))) (SQ.go (fun _ _ h => h) (.seq (.seq (.region ?_)))))
      refine .cons (Ev.step (ev_fa rfl fo51_0 rfl (r := 0) rfl) rfl rfl rfl (.cons (Ev.step (ev_ld1 rfl ty4 rfl (At.own1 4 rfl rfl)) rfl rfl rfl (.go (fun _ _ h => h) (.cond_f rfl (.skipgo (fun _ _ h => h) (.seq ?_)))))))
      exact .region (.cons (Ev.step (ev_mv rfl rfl) rfl rfl rfl (.cons (Ev.step (ev_as rfl rfl) rfl rfl rfl (.cons (Ev.step (ev_as rfl rfl) rfl rfl rfl (.go (fun _ _ h => h) (.ret (fun _ _ h => h) (ret2 Try.results24 rfl rfl (.c .h .n) ⟨v_q22, ((((l.take (j : Int).toNat).drop (0 : Int).toNat) ++ ((m4.take 1).drop 0)) ++ ((l.take ((n : Int) : Int).toNat).drop (j : Int).toNat)), true, (pt_yes (by rw [putOk_f]; omega) (by subst hn; exact pt_f p6)), rfl, rfl⟩)))))))))
  ·
    refine .region (.cons (Ev.step (ev_mv rfl rfl) rfl rfl rfl (.cons (Ev.step (ev_len rfl Try.underlying22 rfl) rfl rfl rfl (.cons (Ev.step (ev_as rfl rfl) rfl rfl rfl (.go (fun _ _ h => h) (.seq ?_))))))))
    refine .seq (.region (.cons (Ev.step (ev_mv rfl rfl) rfl rfl rfl (.cons (Ev.step (ev_cmp rfl rfl rfl rfl) rfl rfl rfl (.cons (Ev.step (ev_mv rfl rfl) rfl rfl rfl (.cons (Ev.gstep (fun _ => ev_mv rfl rfl) rfl rfl rfl rfl rfl ?_)))))))))
    refine .cons (Ev.gstep (fun _ => ev_mv rfl rfl) rfl rfl rfl rfl rfl (.cons (Ev.gstep (fun hb => ev_cmp rfl (lkg rfl hb) (lkg rfl hb) rfl) rfl rfl rfl rfl rfl (.cons (Ev.step (ev_or rfl rfl rfl rfl) rfl rfl rfl (.cons (Ev.step (ev_mv rfl rfl) rfl rfl rfl (.cons (Ev.gstep (fun _ => ev_fa rfl fo51_0 rfl (r := 0) rfl) rfl rfl rfl rfl rfl (.cons (Ev.gstep (fun hb => ev_ld1 rfl ty4 (lkg rfl hb) (At.own1 0 rfl rfl)) rfl rfl rfl rfl rfl ?_)))))))))))
    refine .cons (Ev.gstep (fun hb => ev_mv rfl (lkg rfl hb)) rfl rfl rfl rfl rfl ?_)
    rcases Bool.eq_false_or_eq_true ((decide (j < 0)) || (decide (j > (n : Int)))) with hb23 | hb23
    ·
      have hb23_ := bT (bO bD bD) hb23
      refine SP.reslotv (t := 25) rfl (gv_off hb23) (.cons (.offu rfl rfl rfl rfl rfl (.cons (.offu rfl rfl rfl rfl rfl (.cons (.offu rfl rfl rfl rfl rfl (.cons (.offu rfl rfl rfl rfl rfl (.cons (.offu rfl rfl rfl rfl rfl ?_))))))))))
      refine .cons (.offu rfl rfl rfl rfl rfl (.cons (.offu rfl rfl rfl rfl rfl (.cons (.offu rfl rfl rfl rfl rfl (.cons (.offu rfl rfl rfl rfl rfl (SP.reslot (t := 22) rfl hb23 (.cons (.off rfl rfl rfl rfl rfl rfl ?_))))))))))
      refine .cons (Ev.step (ev_pickt rfl rfl rfl rfl) rfl rfl rfl (.go (fun _ _ h => h) (.cond_t rfl (.seq (.region (.cons (Ev.step (ev_as rfl rfl) rfl rfl rfl ?_)))))))
      refine .cons (Ev.step (ev_as rfl rfl) rfl rfl rfl (.go (fun _ _ h => h) ?_))
      refine SC.nilrow eVis 44 ?_
      exact .ret (fun _ _ h => h) (ret2 Try.results24 rfl rfl (.c .h .n) ⟨.slice none 0 0, [], false, (pt_no (by rw [putOk_t]; omega)), rfl, rfl⟩)
    ·
      have hb23_ := bF (bO bD bD) hb23
      refine SP.reslotv (t := 25) rfl (gv_on hb23) (.cons (.on rfl rfl rfl (Ev.step (ev_mv rfl rfl) rfl rfl rfl (.cons (.on rfl rfl rfl (Ev.step (ev_mv rfl rfl) rfl rfl rfl (.cons (.on rfl rfl rfl (Ev.step (ev_cmp rfl rfl rfl rfl) rfl rfl rfl (.cons (.on rfl rfl rfl (Ev.step (ev_mv rfl rfl) rfl rfl rfl (.cons (Ev.gstep (fun _ => ev_mv rfl rfl) rfl rfl rfl rfl rfl ?_))))))))))))))
      refine .cons (Ev.gstep (fun _ => ev_mv rfl rfl) rfl rfl rfl rfl rfl (.cons (Ev.gstep (fun hb => have hp := bF bD hb; ev_add rfl (lkg rfl hb) rfl (r := ((n : Int) + 1)) rfl (by have _h := hp; omega) (by have _h := hp; omega)) rfl rfl rfl rfl rfl (.cons (Ev.gstep (fun hb => ev_cmp rfl (lkg rfl hb) (lkg rfl hb) rfl) rfl rfl rfl rfl rfl (.cons (.on rfl rfl rfl (Ev.step (ev_or rfl rfl rfl rfl) rfl rfl rfl (SP.reslot (t := 22) rfl hb23 (.cons (.on rfl rfl rfl (Ev.step (ev_pickt rfl rfl rfl rfl) rfl rfl rfl ?_))))))))))))
      refine .cons (Ev.step (ev_pickf rfl rfl rfl rfl) rfl rfl rfl (.go (fun _ _ h => h) (.condI rfl (bO bD bD) (fun h24 => ?_) (fun h24 => ?_))))
      ·
        refine .seq (.region (.cons (Ev.step (ev_as rfl rfl) rfl rfl rfl (.cons (Ev.step (ev_as rfl rfl) rfl rfl rfl (.go (fun _ _ h => h) ?_))))))
        refine SC.nilrow eVis 44 ?_
        exact .ret (fun _ _ h => h) (ret2 Try.results24 rfl rfl (.c .h .n) ⟨.slice none 0 0, [], false, (pt_no (by rw [putOk_t]; omega)), rfl, rfl⟩)
      ·
        refine .skipgo (fun _ _ h => h) (.seq (.region (.cons (Ev.step (ev_lda rfl rfl (At.whole 0 rfl) ty51) rfl rfl rfl (.cons (st_call0 rfl rfl rfl rfl hb28 rfl .n (r_vis true y _ _) (fun v_q27 C_q27 q27 => ?_)))))))
        obtain ⟨u25, m26, p28, rfl, rfl⟩ := q27
        show SP _ _ _ _ _ _ ⟨_, _ :: _, _, _⟩
        have hvl := visF_len p28
        refine .cons (Ev.step (ev_as rfl rfl) rfl rfl rfl (.go (fun _ _ h => h) (.seq ?_)))
        refine .know (row_form 0 rfl (by omega)) (fun hv31 => ?_)
        obtain ⟨g29, c30, rfl, hv31_1, hv31_2⟩ := hv31
        unfold maxLen at hv31_2
        refine SC.draw mo [] [] .n (fun _ _ _ c hc => by cases hc) (fun wf_32 hl_32 hx_32 hR_32 => ?_)
        refine SR.take 0 rfl (by kernel_rfl) (by kernel_rfl) (by kernel_rfl) rfl (fun _ _ _ h => h) rfl rfl rfl (ev_mv rfl rfl) (SR.take 1 rfl (by kernel_rfl) (by kernel_rfl) (by kernel_rfl) rfl (fun _ _ _ h => h) rfl rfl rfl (ev_mv rfl rfl) (SR.take 3 rfl (by kernel_rfl) (by kernel_rfl) (by kernel_rfl) rfl (fun _ _ _ h => h) rfl rfl rfl (ev_mv rfl rfl) (SR.take 4 rfl (by kernel_rfl) (by kernel_rfl) (by kernel_rfl) rfl (fun _ _ _ h => h) rfl rfl rfl (ev_slc rfl Try.underlying22 ty44 rfl .n (.s rfl (by omega)) (by omega) (by omega)) (SR.take 5 rfl (by kernel_rfl) (by kernel_rfl) (by kernel_rfl) rfl (fun _ _ _ h => h) rfl rfl rfl (ev_mv rfl rfl) (SR.take 6 rfl (by kernel_rfl) (by kernel_rfl) (by kernel_rfl) rfl (fun _ _ _ h => h) rfl rfl rfl (ev_mv rfl rfl) ?_)))))
        refine SR.take 7 rfl (by kernel_rfl) (by kernel_rfl) (by kernel_rfl) rfl (fun _ _ _ h => h) rfl rfl rfl (ev_mv rfl rfl) (SR.one (j := 2) (by kernel_rfl) rfl (st_call0 rfl rfl rfl rfl hb26 rfl .n (r_part A n c l 0 j _ _ (Fr.ext hA hx_32) (by first | ((try simp only [List.length_nil, List.length_cons, List.length_append, List.length_set, List.length_singleton, List.length_take, List.length_drop, List.length_reverse]) <;> omega) | omega) (by first | ((try simp only [List.length_nil, List.length_cons, List.length_append, List.length_set, List.length_singleton, List.length_take, List.length_drop, List.length_reverse]) <;> omega) | omega) (by omega) (by omega) (by omega) (by omega)) (fun v_q34 C_q34 q34 => ⟨tt0, ?_⟩)))
        obtain ⟨u33, rfl, rfl⟩ := q34
        show SR _ _ _ _ _ _ _ _ _ ⟨_, _ :: _, _, _⟩
        refine SR.one (j := 8) (by kernel_rfl) rfl (st_call0 rfl rfl rfl rfl hb26 rfl .n (r_part A n c l j (n : Int) _ _ (Fr.ext hA hx_32) (by first | ((try simp only [List.length_nil, List.length_cons, List.length_append, List.length_set, List.length_singleton, List.length_take, List.length_drop, List.length_reverse]) <;> omega) | omega) (by first | ((try simp only [List.length_nil, List.length_cons, List.length_append, List.length_set, List.length_singleton, List.length_take, List.length_drop, List.length_reverse]) <;> omega) | omega) (by omega) (by omega) (by omega) (by omega)) (fun v_q36 C_q36 q36 => ⟨tt0, ?_⟩))
        obtain ⟨u35, rfl, rfl⟩ := q36
        show SR _ _ _ _ _ _ _ _ _ ⟨_, _ :: _, _, _⟩
        refine .know (row_len 1 rfl) (fun hv39 => ?_)
        obtain ⟨A37, c38, rfl, hv39_1, hv39_2⟩ := hv39
        unfold maxLen at hv39_2
        refine .know (row_len 0 rfl) (fun hv42 => ?_)
        obtain ⟨A40, c41, rfl, hv42_1, hv42_2⟩ := hv42
        unfold maxLen at hv42_2
        refine SR.one (j := 9) (by kernel_rfl) rfl (st_lend0 rfl rfl rfl rfl hb25 rfl .n (.c (.t .h) (.c .h .n)) (fun w_ hw => r_join A37 (((l.take (j : Int).toNat).drop (0 : Int).toNat).length) c38 ((l.take (j : Int).toNat).drop (0 : Int).toNat) (cutA (some ⟨g29, 0, none⟩) c30 0 2) (1 - 0) (c30 - 0) ((m26.take 1).drop 0) A40 (((l.take ((n : Int) : Int).toNat).drop (j : Int).toNat).length) c41 ((l.take ((n : Int) : Int).toNat).drop (j : Int).toNat) _ _ (Fr.lend hw 0 rfl (by first | ((try simp only [List.length_nil, List.length_cons, List.length_append, List.length_set, List.length_singleton, List.length_take, List.length_drop, List.length_reverse]) <;> omega) | omega)) (Fr.ext (Fr.view (Fr.lent (S := S) hR_32 0 rfl (by first | ((try simp only [List.length_nil, List.length_cons, List.length_append, List.length_set, List.length_singleton, List.length_take, List.length_drop, List.length_reverse]) <;> omega) | omega)) 0 1 2 rfl (by omega)) hw.lendx) (Fr.lend hw 1 rfl (by first | ((try simp only [List.length_nil, List.length_cons, List.length_append, List.length_set, List.length_singleton, List.length_take, List.length_drop, List.length_reverse]) <;> omega) | omega)) (by first | ((try simp only [List.length_nil, List.length_cons, List.length_append, List.length_set, List.length_singleton, List.length_take, List.length_drop, List.length_reverse]) <;> omega) | omega) (by first | ((try simp only [List.length_nil, List.length_cons, List.length_append, List.length_set, List.length_singleton, List.length_take, List.length_drop, List.length_reverse]) <;> omega) | omega) (by first | ((try simp only [List.length_nil, List.length_cons, List.length_append, List.length_set, List.length_singleton, List.length_take, List.length_drop, List.length_reverse]) <;> omega) | omega) (by first | ((try simp only [List.length_nil, List.length_cons, List.length_append, List.length_set, List.length_singleton, List.length_take, List.length_drop, List.length_reverse]) <;> omega) | omega) (by first | ((try simp only [List.length_nil, List.length_cons, List.length_append, List.length_set, List.length_singleton, List.length_take, List.length_drop, List.length_reverse]) <;> omega) | omega) (by first | ((try simp only [List.length_nil, List.length_cons, List.length_append, List.length_set, List.length_singleton, List.length_take, List.length_drop, List.length_reverse]) <;> omega) | omega)) (fun v_q44 C_q44 q44 => ⟨tt0, ?_⟩))
        obtain ⟨u43, rfl, rfl⟩ := q44
        show SR _ _ _ _ _ _ _ _ _ ⟨_, _ :: _ :: _ :: _, _, _⟩
        refine SR.take 10 rfl (by kernel_rfl) (by kernel_rfl) (by kernel_rfl) rfl (fun _ _ _ h => h) rfl rfl rfl (ev_as rfl rfl) (SR.fin (by kernel_rfl) hl_32 hx_32 hR_32 (.c (.c (.c .n))) (SQ.go (fun _ _ h => h) (.seq (.seq (.region ?_)))))
        refine .cons (Ev.step (ev_fa rfl fo51_0 rfl (r := 0) rfl) rfl rfl rfl (.cons (Ev.step (ev_ld1 rfl ty4 rfl (At.own1 4 rfl rfl)) rfl rfl rfl (.go (fun _ _ h => h) (.cond_t rfl ?_)))))
        refine .know (row_len 0 rfl) (fun hv47 => ?_)
        obtain ⟨A45, c46, rfl, hv47_1, hv47_2⟩ := hv47
        unfold maxLen at hv47_2
        refine SC.draw mo [] [] .n (fun _ _ _ c hc => by cases hc) (fun wf_48 hl_48 hx_48 hR_48 => ?_)
        refine SR.take 0 rfl (by kernel_rfl) (by kernel_rfl) (by kernel_rfl) rfl (fun _ _ _ h => h) rfl rfl rfl (ev_mv rfl rfl) (SR.take 1 rfl (by kernel_rfl) (by kernel_rfl) (by kernel_rfl) rfl (fun _ _ _ h => h) rfl rfl rfl (ev_mv rfl rfl) (SR.take 3 rfl (by kernel_rfl) (by kernel_rfl) (by kernel_rfl) rfl (fun _ _ _ h => h) rfl rfl rfl (ev_mv rfl rfl) (SR.take 4 rfl (by kernel_rfl) (by kernel_rfl) (by kernel_rfl) rfl (fun _ _ _ h => h) rfl rfl rfl (ev_slc rfl Try.underlying22 ty44 rfl (.s rfl (by omega)) .n (by omega) (by omega)) (SR.take 5 rfl (by kernel_rfl) (by kernel_rfl) (by kernel_rfl) rfl (fun _ _ _ h => h) rfl rfl rfl (ev_mv rfl rfl) (SR.take 6 rfl (by kernel_rfl) (by kernel_rfl) (by kernel_rfl) rfl (fun _ _ _ h => h) rfl rfl rfl (ev_mv rfl rfl) ?_)))))
        refine SR.take 7 rfl (by kernel_rfl) (by kernel_rfl) (by kernel_rfl) rfl (fun _ _ _ h => h) rfl rfl rfl (ev_mv rfl rfl) (SR.take 8 rfl (by kernel_rfl) (by kernel_rfl) (by kernel_rfl) rfl (fun _ _ _ h => h) rfl rfl rfl (ev_add rfl rfl rfl (r := ((n : Int) + 1)) rfl (by omega) (by omega)) (SR.one (j := 2) (by kernel_rfl) rfl (st_call0 rfl rfl rfl rfl hb26 rfl .n (r_part A45 (((((l.take (j : Int).toNat).drop (0 : Int).toNat) ++ ((m26.take 1).drop 0)) ++ ((l.take ((n : Int) : Int).toNat).drop (j : Int).toNat)).length) c46 ((((l.take (j : Int).toNat).drop (0 : Int).toNat) ++ ((m26.take 1).drop 0)) ++ ((l.take ((n : Int) : Int).toNat).drop (j : Int).toNat)) 0 k _ _ (Fr.lent (S := S) hR_48 0 rfl (by first | ((try simp only [List.length_nil, List.length_cons, List.length_append, List.length_set, List.length_singleton, List.length_take, List.length_drop, List.length_reverse]) <;> omega) | omega)) (by first | ((try simp only [List.length_nil, List.length_cons, List.length_append, List.length_set, List.length_singleton, List.length_take, List.length_drop, List.length_reverse]) <;> omega) | omega) (by first | ((try simp only [List.length_nil, List.length_cons, List.length_append, List.length_set, List.length_singleton, List.length_take, List.length_drop, List.length_reverse]) <;> omega) | omega) (by first | ((try simp only [List.length_nil, List.length_cons, List.length_append, List.length_set, List.length_singleton, List.length_take, List.length_drop, List.length_reverse]) <;> omega) | omega) (by omega) (by omega) (by first | ((try simp only [List.length_nil, List.length_cons, List.length_append, List.length_set, List.length_singleton, List.length_take, List.length_drop, List.length_reverse]) <;> omega) | omega)) (fun v_q50 C_q50 q50 => ⟨tt0, ?_⟩))))
        obtain ⟨u49, rfl, rfl⟩ := q50
        show SR _ _ _ _ _ _ _ _ _ ⟨_, _ :: _, _, _⟩
        refine SR.one (j := 9) (by kernel_rfl) rfl (st_call0 rfl rfl rfl rfl hb26 rfl .n (r_part A45 (((((l.take (j : Int).toNat).drop (0 : Int).toNat) ++ ((m26.take 1).drop 0)) ++ ((l.take ((n : Int) : Int).toNat).drop (j : Int).toNat)).length) c46 ((((l.take (j : Int).toNat).drop (0 : Int).toNat) ++ ((m26.take 1).drop 0)) ++ ((l.take ((n : Int) : Int).toNat).drop (j : Int).toNat)) k ((n : Int) + 1) _ _ (Fr.lent (S := S) hR_48 0 rfl (by first | ((try simp only [List.length_nil, List.length_cons, List.length_append, List.length_set, List.length_singleton, List.length_take, List.length_drop, List.length_reverse]) <;> omega) | omega)) (by first | ((try simp only [List.length_nil, List.length_cons, List.length_append, List.length_set, List.length_singleton, List.length_take, List.length_drop, List.length_reverse]) <;> omega) | omega) (by first | ((try simp only [List.length_nil, List.length_cons, List.length_append, List.length_set, List.length_singleton, List.length_take, List.length_drop, List.length_reverse]) <;> omega) | omega) (by first | ((try simp only [List.length_nil, List.length_cons, List.length_append, List.length_set, List.length_singleton, List.length_take, List.length_drop, List.length_reverse]) <;> omega) | omega) (by omega) (by omega) (by first | ((try simp only [List.length_nil, List.length_cons, List.length_append, List.length_set, List.length_singleton, List.length_take, List.length_drop, List.length_reverse]) <;> omega) | omega)) (fun v_q52 C_q52 q52 => ⟨tt0, ?_⟩))
        obtain ⟨u51, rfl, rfl⟩ := q52
        show SR _ _ _ _ _ _ _ _ _ ⟨_, _ :: _, _, _⟩
        refine .know (row_len 1 rfl) (fun hv55 => ?_)
        obtain ⟨A53, c54, rfl, hv55_1, hv55_2⟩ := hv55
        unfold maxLen at hv55_2
        refine .know (row_len 0 rfl) (fun hv58 => ?_)
        obtain ⟨A56, c57, rfl, hv58_1, hv58_2⟩ := hv58
        unfold maxLen at hv58_2
        refine SR.one (j := 10) (by kernel_rfl) rfl (st_lend0 rfl rfl rfl rfl hb25 rfl .n (.c (.t .h) (.c .h .n)) (fun w_ hw => r_join A53 (((((((l.take (j : Int).toNat).drop (0 : Int).toNat) ++ ((m26.take 1).drop 0)) ++ ((l.take ((n : Int) : Int).toNat).drop (j : Int).toNat)).take (k : Int).toNat).drop (0 : Int).toNat).length) c54 ((((((l.take (j : Int).toNat).drop (0 : Int).toNat) ++ ((m26.take 1).drop 0)) ++ ((l.take ((n : Int) : Int).toNat).drop (j : Int).toNat)).take (k : Int).toNat).drop (0 : Int).toNat) (cutA (some ⟨g29, 0, none⟩) c30 1 2) (m26.length - 1) (c30 - 1) ((m26.take m26.length).drop 1) A56 (((((((l.take (j : Int).toNat).drop (0 : Int).toNat) ++ ((m26.take 1).drop 0)) ++ ((l.take ((n : Int) : Int).toNat).drop (j : Int).toNat)).take (((n : Int) + 1) : Int).toNat).drop (k : Int).toNat).length) c57 ((((((l.take (j : Int).toNat).drop (0 : Int).toNat) ++ ((m26.take 1).drop 0)) ++ ((l.take ((n : Int) : Int).toNat).drop (j : Int).toNat)).take (((n : Int) + 1) : Int).toNat).drop (k : Int).toNat) _ _ (Fr.lend hw 0 rfl (by first | ((try simp only [List.length_nil, List.length_cons, List.length_append, List.length_set, List.length_singleton, List.length_take, List.length_drop, List.length_reverse]) <;> omega) | omega)) (Fr.ext (Fr.view (Fr.lent (S := S) hR_48 3 rfl (by first | ((try simp only [List.length_nil, List.length_cons, List.length_append, List.length_set, List.length_singleton, List.length_take, List.length_drop, List.length_reverse]) <;> omega) | omega)) 1 m26.length 2 rfl (by omega)) hw.lendx) (Fr.lend hw 1 rfl (by first | ((try simp only [List.length_nil, List.length_cons, List.length_append, List.length_set, List.length_singleton, List.length_take, List.length_drop, List.length_reverse]) <;> omega) | omega)) (by first | ((try simp only [List.length_nil, List.length_cons, List.length_append, List.length_set, List.length_singleton, List.length_take, List.length_drop, List.length_reverse]) <;> omega) | omega) (by first | ((try simp only [List.length_nil, List.length_cons, List.length_append, List.length_set, List.length_singleton, List.length_take, List.length_drop, List.length_reverse]) <;> omega) | omega) (by first | ((try simp only [List.length_nil, List.length_cons, List.length_append, List.length_set, List.length_singleton, List.length_take, List.length_drop, List.length_reverse]) <;> omega) | omega) (by first | ((try simp only [List.length_nil, List.length_cons, List.length_append, List.length_set, List.length_singleton, List.length_take, List.length_drop, List.length_reverse]) <;> omega) | omega) (by first | ((try simp only [List.length_nil, List.length_cons, List.length_append, List.length_set, List.length_singleton, List.length_take, List.length_drop, List.length_reverse]) <;> omega) | omega) (by first | ((try simp only [List.length_nil, List.length_cons, List.length_append, List.length_set, List.length_singleton, List.length_take, List.length_drop, List.length_reverse]) <;> omega) | omega)) (fun v_q60 C_q60 q60 => ⟨tt0, ?_⟩))
        obtain ⟨u59, rfl, rfl⟩ := q60
        show SR _ _ _ _ _ _ _ _ _ ⟨_, _ :: _ :: _ :: _, _, _⟩
        refine SR.take 11 rfl (by kernel_rfl) (by kernel_rfl) (by kernel_rfl) rfl (fun _ _ _ h => h) rfl rfl rfl (ev_as rfl rfl) (SR.fin (by kernel_rfl) hl_48 hx_48 hR_48 (.c (.c (.c .n))) (SQ.go (fun _ _ h => h) (.seq (.region (.cons (Ev.step (ev_mv rfl rfl) rfl rfl rfl ?_))))))
        exact .cons (Ev.step (ev_as rfl rfl) rfl rfl rfl (.cons (Ev.step (ev_as rfl rfl) rfl rfl rfl (.go (fun _ _ h => h) (.ret (fun _ _ h => h) (ret2 Try.results24 rfl rfl (.c .h .n) ⟨v_q60, ((((((((l.take (j : Int).toNat).drop (0 : Int).toNat) ++ ((m26.take 1).drop 0)) ++ ((l.take ((n : Int) : Int).toNat).drop (j : Int).toNat)).take (k : Int).toNat).drop (0 : Int).toNat) ++ ((m26.take m26.length).drop 1)) ++ ((((((l.take (j : Int).toNat).drop (0 : Int).toNat) ++ ((m26.take 1).drop 0)) ++ ((l.take ((n : Int) : Int).toNat).drop (j : Int).toNat)).take (((n : Int) + 1) : Int).toNat).drop (k : Int).toNat)), true, (pt_yes (by rw [putOk_t]; omega) (by subst hn; exact pt_t p28 (by omega) (by omega) rfl)), rfl, rfl⟩))))))

end Go.Proofs.Ytfmfhkaimhmgdaa.Sx
