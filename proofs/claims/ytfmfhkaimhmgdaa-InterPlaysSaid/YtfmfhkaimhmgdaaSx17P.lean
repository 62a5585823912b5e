import Derived.Test.YtfmfhkaimhmgdaaProg
import Derived.Test.YtfmfhkaimhmgdaaSxChg
import Derived.Test.YtfmfhkaimhmgdaaSxMap
import Derived.Test.YtfmfhkaimhmgdaaSx17V
import Derived.Test.YtfmfhkaimhmgdaaSx17A
import Derived.Test.YtfmfhkaimhmgdaaSx17S
import Derived.Test.YtfmfhkaimhmgdaaSx17I
import Derived.Test.YtfmfhkaimhmgdaaSx17J
import Derived.Test.YtfmfhkaimhmgdaaSx17K
import Derived.Test.YtfmfhkaimhmgdaaSx17L
import Derived.Test.YtfmfhkaimhmgdaaSx17N
import Derived.Test.YtfmfhkaimhmgdaaSx17R
import Derived.Test.YtfmfhkaimhmgdaaSx17B
import Derived.Test.YtfmfhkaimhmgdaaSx17C
import Derived.Test.YtfmfhkaimhmgdaaSx17W
set_option maxRecDepth 20000
set_option maxHeartbeats 4000000
set_option linter.unusedVariables false
set_option linter.unusedSimpArgs false
namespace Go.Proofs.Ytfmfhkaimhmgdaa.Sx.FP
open Go Go.SX Go.Proofs
theorem hb9 : hasBody Try.prog 9 = true := by kernel_rfl
theorem ai44 : (Try.prog.info? 44).map (fun i => (i.zero, i.size, i.bytes)) = some (some (.agg #[.int .i64 0, .int .i64 0]), 2, 16) := by kernel_rfl
theorem hb10 : hasBody Try.prog 10 = true := by kernel_rfl
theorem ty24 : ty Try.prog 24 = some (true, 4) := by kernel_rfl
theorem zf24 : (Try.prog.info? 24).bind (fun i => i.zero.map Value.cells) = some (List.toArray [.int .i64 0, .int .i64 0, .int .i64 0, .int .i64 0]) := by kernel_rfl
theorem fo24_0 : fo Try.prog 24 0 = some 0 := by kernel_rfl
theorem ty3 : ty Try.prog 3 = some (false, 1) := by kernel_rfl
theorem fo24_1 : fo Try.prog 24 1 = some 1 := by kernel_rfl
theorem fo24_2 : fo Try.prog 24 2 = some 2 := by kernel_rfl
theorem fo24_3 : fo Try.prog 24 3 = some 3 := by kernel_rfl
theorem hb11 : hasBody Try.prog 11 = true := by kernel_rfl
theorem hb13 : hasBody Try.prog 13 = true := by kernel_rfl
theorem hb12 : hasBody Try.prog 12 = true := by kernel_rfl
theorem hb14 : hasBody Try.prog 14 = true := by kernel_rfl
theorem ty44 : ty Try.prog 44 = some (true, 2) := by kernel_rfl
theorem zf44 : (Try.prog.info? 44).bind (fun i => i.zero.map Value.cells) = some (List.toArray [.int .i64 0, .int .i64 0]) := by kernel_rfl
theorem zv3 : (Try.prog.info? 3).bind (fun i => i.zero) = some (.int .i64 0) := by kernel_rfl
theorem mo : Try.prog.follows .mixedOrders = true := by kernel_rfl
theorem eqIn44 (d : Nat) (x0 y0 : Int) (x1 y1 : Int) (w : World) : (Op.equalIn (d + 3) 44 (.agg #[(.int .i64 x0), (.int .i64 x1)]) (.agg #[(.int .i64 y0), (.int .i64 y1)])).run Try.prog w = .ok ((x0 == y0) && (x1 == y1)) w := by
  rw [run_equalIn_struct w (d + 2) 44 _ _ (by kernel_rfl) (by kernel_rfl)]
  have hf : (Try.prog.fieldsOf 44).toList = [{ name := "Kind", type := 42, offset := 0, embedded := false, tag := "", pkgPath := "", byteOffset := 0 }, { name := "Item", type := 3, offset := 1, embedded := false, tag := "", pkgPath := "", byteOffset := 8 }] := by kernel_rfl
  rw [hf]
  have h42 : ∀ (x y : Int) (w : World), (Op.equalIn (d + 2) 42 (.int .i64 x) (.int .i64 y)).run Try.prog w = .ok (x == y) w := fun x y w => by
    simp [Op.equalIn, run_underlying Try.underlying42]
  have h3 : ∀ (x y : Int) (w : World), (Op.equalIn (d + 2) 3 (.int .i64 x) (.int .i64 y)).run Try.prog w = .ok (x == y) w := fun x y w => by
    simp [Op.equalIn, run_underlying Try.underlying3]
  have p0 : ∀ (x0 : Int) (x1 : Int) (w : World), (part 42 #[(.int .i64 x0), (.int .i64 x1)] 0).run Try.prog w = .ok (.int .i64 x0) w := fun _ _ _ => by kernel_rfl
  have p1 : ∀ (x0 : Int) (x1 : Int) (w : World), (part 3 #[(.int .i64 x0), (.int .i64 x1)] 1).run Try.prog w = .ok (.int .i64 x1) w := fun _ _ _ => by kernel_rfl
  simp only [Op.eqFields, Sem.run_bind, h42, h3, p0, p1, Result.andThen_ok, Sem.run_ite, ne_eq]
  cases g0 : (x0 == y0) <;> cases g1 : (x1 == y1) <;> simp [g0, g1]
theorem ev44_eql (x y : Operand) (x0 y0 : Int) (x1 y1 : Int) (w : World) : (do eqGuard .eql 44 x y (.agg #[(.int .i64 x0), (.int .i64 x1)]) (.agg #[(.int .i64 y0), (.int .i64 y1)]); binOp .eql 44 (.agg #[(.int .i64 x0), (.int .i64 x1)]) (.agg #[(.int .i64 y0), (.int .i64 y1)]) : Sem Value).run Try.prog w = .ok (.bool (((x0 == y0) && (x1 == y1)))) w := by
  have h1 : (Op.equal 44 (.agg #[(.int .i64 x0), (.int .i64 x1)]) (.agg #[(.int .i64 y0), (.int .i64 y1)])).run Try.prog w = .ok ((x0 == y0) && (x1 == y1)) w := eqIn44 9997 x0 y0 x1 y1 w
  have h2 : (eqGuard .eql 44 x y (.agg #[(.int .i64 x0), (.int .i64 x1)]) (.agg #[(.int .i64 y0), (.int .i64 y1)])).run Try.prog w = .ok () w := by kernel_rfl
  simp only [Sem.run_bind, h2, Result.andThen_ok, binOp, h1]
  rfl
theorem ev44_neq (x y : Operand) (x0 y0 : Int) (x1 y1 : Int) (w : World) : (do eqGuard .neq 44 x y (.agg #[(.int .i64 x0), (.int .i64 x1)]) (.agg #[(.int .i64 y0), (.int .i64 y1)]); binOp .neq 44 (.agg #[(.int .i64 x0), (.int .i64 x1)]) (.agg #[(.int .i64 y0), (.int .i64 y1)]) : Sem Value).run Try.prog w = .ok (.bool (!((x0 == y0) && (x1 == y1)))) w := by
  have h1 : (Op.equal 44 (.agg #[(.int .i64 x0), (.int .i64 x1)]) (.agg #[(.int .i64 y0), (.int .i64 y1)])).run Try.prog w = .ok ((x0 == y0) && (x1 == y1)) w := eqIn44 9997 x0 y0 x1 y1 w
  have h2 : (eqGuard .neq 44 x y (.agg #[(.int .i64 x0), (.int .i64 x1)]) (.agg #[(.int .i64 y0), (.int .i64 y1)])).run Try.prog w = .ok () w := by kernel_rfl
  simp only [Sem.run_bind, h2, Result.andThen_ok, binOp, h1]
  rfl


end Go.Proofs.Ytfmfhkaimhmgdaa.Sx.FP
namespace Go.Proofs.Ytfmfhkaimhmgdaa.Sx
open Go Go.SX Go.Proofs FP



def keVis : KE Try.prog 44 Vis := KE.ofStruct visV visV_inj Try.underlying44 (fun x y w => by
    have h : (Op.equal 44 (visV x) (visV y)).run Try.prog w = .ok ((x.kind == y.kind) && (x.item == y.item)) w := eqIn44 9997 _ _ _ _ w
    rw [h]; congr 1; rw [Bool.eq_iff_iff]; simp only [Bool.and_eq_true, beq_iff_eq, decide_eq_true_eq]; exact ⟨fun e => vis_ext e.1 e.2, fun e => by rw [e]; exact ⟨rfl, rfl⟩⟩)
  (fun w b x => by kernel_rfl) visV_bits

theorem interPlays (A : Option Addr) (c : Nat) (a : List Vis) (B : Option Addr) (d : Nat) (b : List Vis) (M : Option Addr) (e : Nat) (ms : List Mov) (S : Nat → Prop) (wf : World) (hA : Fr eVis S wf A a) (hB : Fr eVis S wf B b) (hM : Fr eMov S wf M ms) (hgood : ∀ m ∈ ms, i64 m.c ∧ i64 m.i ∧ i64 m.j ∧ i64 m.k) :
    TR0 Try.prog 5 [.slice A a.length c, .slice B b.length d, .slice M ms.length e] [] S wf (fun v_ C_ => v_ = .bool true ∧ C_ = []) := by
  have hla := hA.len
  have hlb := hB.len
  have hlm := hM.len
  refine TR.mk Try.func5 rfl Try.ntmps5 rfl rfl (fun w_ => ?_)
  refine .seq (.region (.cons (Ev.step (ev_as rfl rfl) rfl rfl rfl (.go (fun _ _ h => h) (.seq (.seq ?_))))))
  refine .region (.cons (st_callk rfl rfl rfl rfl hb9 rfl .n (awake _ _) (.cons (Ev.step (ev_not rfl rfl) rfl rfl rfl (.go (fun _ _ h => h) (.cond_f rfl (.skipgo (fun _ _ h => h) ?_)))))))
  refine .seq (.seq (.region (.cons (Ev.step (ev_mv rfl rfl) rfl rfl rfl (.cons (Ev.step (ev_len rfl Try.underlying22 rfl) rfl rfl rfl (.cons (Ev.step (ev_cmp rfl rfl rfl rfl) rfl rfl rfl ?_))))))))
  refine .cons (Ev.step (ev_mv rfl rfl) rfl rfl rfl (.cons (Ev.gstep (fun _ => ev_mv rfl rfl) rfl rfl rfl rfl rfl (.cons (Ev.gstep (fun hb => ev_len rfl Try.underlying22 (lkg rfl hb)) rfl rfl rfl rfl rfl (.cons (Ev.gstep (fun hb => ev_cmp rfl (lkg rfl hb) rfl rfl) rfl rfl rfl rfl rfl (.cons (Ev.step (ev_or rfl rfl rfl rfl) rfl rfl rfl (.go (fun _ _ h => h) ?_))))))))))
  refine .condI rfl (bO bD bD) (fun h1 => ?_) (fun h1 => ?_)
  ·
    exact .seq (.region (.cons (Ev.step (ev_as rfl rfl) rfl rfl rfl (.go (fun _ _ h => h) (.ret (fun _ _ h => h) (ret1 Try.results5 rfl .n ⟨rfl, rfl⟩))))))
  ·
    refine .skipgo (fun _ _ h => h) (.seq (.region (.cons (st_lit eVis (e := 44) (l := []) rfl rfl rfl rfl (by kernel_rfl) rfl rfl (fun w => by kernel_rfl) (fun b2 => .cons (Ev.step (ev_mv rfl rfl) rfl rfl rfl (.cons (st_app0 (E := eVis) (m := a) rfl rfl rfl rfl Try.underlying22 ai44 rfl rfl rfl .h (by first | rfl | omega | simp) (Src.w (Fr.flat hA)) (by first | ((try simp only [List.length_nil, List.length_cons, List.length_append, List.length_set, List.length_singleton, List.length_take, List.length_drop, List.length_reverse]) <;> omega) | omega) rfl (fun v3 => ?_)))))))))
    refine .cons (st_lit eVis (e := 44) (l := []) rfl rfl rfl rfl (by kernel_rfl) rfl rfl (fun w => by kernel_rfl) (fun b4 => .cons (Ev.step (ev_mv rfl rfl) rfl rfl rfl (.cons (st_app0 (E := eVis) (m := b) rfl rfl rfl rfl Try.underlying22 ai44 rfl rfl rfl .h (by first | rfl | omega | simp) (Src.w (Fr.flat hB)) (by first | ((try simp only [List.length_nil, List.length_cons, List.length_append, List.length_set, List.length_singleton, List.length_take, List.length_drop, List.length_reverse]) <;> omega) | omega) rfl (fun v5 => ?_))))))
    refine .know (row_len 1 rfl) (fun hv8 => ?_)
    obtain ⟨A6, c7, rfl, hv8_1, hv8_2⟩ := hv8
    unfold maxLen at hv8_2
    refine .know (row_len 0 rfl) (fun hv11 => ?_)
    obtain ⟨A9, c10, rfl, hv11_1, hv11_2⟩ := hv11
    unfold maxLen at hv11_2
    refine .cons (st_lend0 rfl rfl rfl rfl hb10 rfl .n (.c (.t .h) (.c .h .n)) (fun w_ hw => new_ A6 c7 a A9 c10 b _ _ (Fr.lend hw 0 rfl (by first | ((try simp only [List.length_nil, List.length_cons, List.length_append, List.length_set, List.length_singleton, List.length_take, List.length_drop, List.length_reverse]) <;> omega) | omega)) (Fr.lend hw 1 rfl (by first | ((try simp only [List.length_nil, List.length_cons, List.length_append, List.length_set, List.length_singleton, List.length_take, List.length_drop, List.length_reverse]) <;> omega) | omega)) (by first | ((try simp only [List.length_nil, List.length_cons, List.length_append, List.length_set, List.length_singleton, List.length_take, List.length_drop, List.length_reverse]) <;> omega) | omega) (by first | ((try simp only [List.length_nil, List.length_cons, List.length_append, List.length_set, List.length_singleton, List.length_take, List.length_drop, List.length_reverse]) <;> omega) | omega)) (fun v_q15 C_q15 q15 => ?_))
    obtain ⟨g12, v13, w14, rfl, rfl⟩ := q15
    show SP _ _ _ _ _ _ ⟨_, _ :: _ :: _ :: _ :: _ :: _, _, _⟩
    refine .cons (Ev.step (ev_as rfl rfl) rfl rfl rfl (.go (fun _ _ h => h) (.seq (.region (.cons (st_lit eVis (e := 44) (l := []) rfl rfl rfl rfl (by kernel_rfl) rfl rfl (fun w => by kernel_rfl) (fun b16 => .cons (Ev.step (ev_mv rfl rfl) rfl rfl rfl ?_))))))))
    refine .cons (st_app0 (E := eVis) (m := a) rfl rfl rfl rfl Try.underlying22 ai44 rfl rfl rfl .h (by first | rfl | omega | simp) (Src.w (Fr.flat hA)) (by first | ((try simp only [List.length_nil, List.length_cons, List.length_append, List.length_set, List.length_singleton, List.length_take, List.length_drop, List.length_reverse]) <;> omega) | omega) rfl (fun v17 => .cons (st_lit eVis (e := 44) (l := []) rfl rfl rfl rfl (by kernel_rfl) rfl rfl (fun w => by kernel_rfl) (fun b18 => .cons (Ev.step (ev_mv rfl rfl) rfl rfl rfl (.cons (st_app0 (E := eVis) (m := b) rfl rfl rfl rfl Try.underlying22 ai44 rfl rfl rfl .h (by first | rfl | omega | simp) (Src.w (Fr.flat hB)) (by first | ((try simp only [List.length_nil, List.length_cons, List.length_append, List.length_set, List.length_singleton, List.length_take, List.length_drop, List.length_reverse]) <;> omega) | omega) rfl (fun v19 => .cons (Ev.step (ev_as rfl rfl) rfl rfl rfl (.cons (Ev.step (ev_as rfl rfl) rfl rfl rfl ?_)))))))))))
    refine .go (fun _ _ h => h) (.seq (.seq (.region (.cons (Ev.step (ev_as rfl rfl) rfl rfl rfl (.go (fun _ _ h => h) ?_))))))
    refine .block ?_
    refine .loop (X := Int × Value × Value × Value × Value × (List Vis) × (List Vis)) (fun ⟨n0, vA, vB, U, W, P, Q⟩ => 0 ≤ n0 ∧ n0 ≤ ms.length ∧ P.length + Q.length = a.length + b.length ∧ Cn P Q a b) (fun ⟨n0, vA, vB, U, W, P, Q⟩ => [(0, .slice A a.length c), (1, .slice B b.length d), (2, .slice M ms.length e), (7, .pointer (some ⟨g12, 0, none⟩)), (8, U), (9, W), (10, .int .i64 n0)]) (fun ⟨n0, vA, vB, U, W, P, Q⟩ => [cel g12 [vA, vB] 49, rw_ eVis 44 (vA) P, rw_ eVis 44 (vB) Q, rw_ eVis 44 (U) P, rw_ eVis 44 (W) Q]) (fun _ => S) (fun _ => wf) (fun ⟨n0, vA, vB, U, W, P, Q⟩ => (ms.length - n0.toNat)) (fun a_ w_ hs_ hw_ => ⟨⟨0, v13, w14, v17, v19, a, b⟩, (by exact ⟨by omega, by omega, rfl, Cn.rfl'⟩), hs_.mono (Sub.get (.c rfl (.c rfl (.c rfl (.c rfl (.c rfl (.c rfl (.c rfl .n)))))))), hw_.keep (.c (.t (.t .h)) (.c (.t (.t .h)) (.c (.t (.t .h)) (.c (.t .h) (.c .h .n)))))⟩) (fun ⟨n0, vA, vB, U, W, P, Q⟩ ⟨q_0, q_1, q_2, q_3⟩ => ?_)
    show SC _ _ _ _ _ ⟨[(0, .slice A a.length c), (1, .slice B b.length d), (2, .slice M ms.length e), (7, .pointer (some ⟨g12, 0, none⟩)), (8, U), (9, W), (10, .int .i64 n0)], [cel g12 [vA, vB] 49, rw_ eVis 44 (vA) P, rw_ eVis 44 (vB) Q, rw_ eVis 44 (U) P, rw_ eVis 44 (W) Q], S, wf⟩
    refine .seq (.seq (.region (.cons (Ev.step (ev_mv rfl rfl) rfl rfl rfl (.cons (Ev.step (ev_mv rfl rfl) rfl rfl rfl (.cons (Ev.step (ev_len rfl Try.underlying40 rfl) rfl rfl rfl ?_))))))))
    refine .cons (Ev.step (ev_cmp rfl rfl rfl rfl) rfl rfl rfl (.cons (Ev.step (ev_mv rfl rfl) rfl rfl rfl (.cons (Ev.gstep (fun _ => ev_mv rfl rfl) rfl rfl rfl rfl rfl (.cons (Ev.gstep (fun hb => ev_cmp rfl (lkg rfl hb) rfl rfl) rfl rfl rfl rfl rfl (.cons (Ev.step (ev_and rfl rfl rfl rfl) rfl rfl rfl (.go (fun _ _ h => h) ?_))))))))))
    refine .condI rfl (bA bD bD) (fun h20 => ?_) (fun h20 => ?_)
    ·
      refine .skipgo (fun _ _ h => h) (.seq (.block (.seq ?_)))
      obtain ⟨hg1, hg2, hg3, hg4⟩ := hgood (gt ms n0) (gt_mem (by omega) (by omega))
      unfold i64 at hg1 hg2 hg3 hg4
      refine .region (.cons (Ev.step (ev_mv rfl rfl) rfl rfl rfl (.cons (Ev.step (ev_mv rfl rfl) rfl rfl rfl (.cons (Ev.step (ev_ix rfl Try.underlying40 ty24 rfl rfl (by omega) (by omega) (fun _ _ => Fr.adr (i := n0) hM (by omega) (by omega))) rfl rfl rfl (.cons (Ev.step (ev_lda rfl rfl (At.w (Fr.el (i := n0) hM (by omega) (by omega))) ty24) rfl rfl rfl (.cons (st_alloc rfl rfl rfl rfl zf24 (fun b21 => ?_)))))))))))
      refine .cons (st_storea (l' := [.int .i64 ((gt ms n0).c), .int .i64 ((gt ms n0).i), .int .i64 ((gt ms n0).j), .int .i64 ((gt ms n0).k)]) rfl rfl rfl ty24 rfl rfl rfl .h rfl rfl (.go (fun _ _ h => h) (.seq (.region (.cons (Ev.step (ev_fa rfl fo24_0 rfl (r := 0) rfl) rfl rfl rfl (.cons (Ev.step (ev_ld1 rfl ty3 rfl (At.own1 0 rfl rfl)) rfl rfl rfl ?_))))))))
      refine .cons (Ev.step (ev_cv rfl Try.underlying3 Try.underlying28 rfl rfl) rfl rfl rfl (.cons (Ev.step (ev_rem rfl rfl rfl (by omega)) rfl rfl rfl (.cons (Ev.step (ev_cv rfl Try.underlying28 Try.underlying3 rfl rfl) rfl rfl rfl (.cons (Ev.step (ev_as rfl rfl) rfl rfl rfl (.go (fun _ _ h => h) (.seq ?_)))))))))
      refine .region (.cons (Ev.step (ev_mv rfl rfl) rfl rfl rfl (.cons (Ev.step (ev_mv rfl rfl) rfl rfl rfl (.cons (Ev.step (ev_fa rfl fo24_1 rfl (r := 1) rfl) rfl rfl rfl (.cons (Ev.step (ev_ld1 rfl ty3 rfl (At.own1 0 rfl rfl)) rfl rfl rfl (.cons (Ev.step (ev_fa rfl fo24_2 rfl (r := 2) rfl) rfl rfl rfl ?_))))))))))
      refine .cons (Ev.step (ev_ld1 rfl ty3 rfl (At.own1 0 rfl rfl)) rfl rfl rfl (.cons (Ev.step (ev_fa rfl fo24_3 rfl (r := 3) rfl) rfl rfl rfl (.cons (Ev.step (ev_ld1 rfl ty3 rfl (At.own1 0 rfl rfl)) rfl rfl rfl (.cons (st_call0 rfl rfl rfl rfl hb11 rfl (.c (.t .h) (.c (.t .h) (.c (.t .h) .n))) (play_ g12 vA vB P Q (IntKind.i64.wrap (Int.tmod (IntKind.u64.wrap ((gt ms n0).c)) 6)) ((gt ms n0).i) ((gt ms n0).j) ((gt ms n0).k) _ _ (by first | ((try simp only [List.length_nil, List.length_cons, List.length_append, List.length_set, List.length_singleton, List.length_take, List.length_drop, List.length_reverse]) <;> omega) | omega) (by first | ((try simp only [List.length_nil, List.length_cons, List.length_append, List.length_set, List.length_singleton, List.length_take, List.length_drop, List.length_reverse]) <;> omega) | omega) (by omega) (by omega) (by omega)) (fun v_q27 C_q27 q27 => ?_))))))))
      obtain ⟨r22, x23, y24, p25, q26, p28, rfl, rfl⟩ := q27
      show SP _ _ _ _ _ _ ⟨_, _ :: _ :: _ :: _, _, _⟩
      obtain ⟨hs1_, -, -, -, -⟩ := sized_play p28
      refine .cons (Ev.step (ev_as rfl rfl) rfl rfl rfl (.go (fun _ _ h => h) (.seq (.region (.cons (Ev.step (ev_mv rfl rfl) rfl rfl rfl (.cons (Ev.step (ev_mv rfl rfl) rfl rfl rfl ?_))))))))
      refine .cons (Ev.step (ev_mv rfl rfl) rfl rfl rfl (.cons (Ev.step (ev_fa rfl fo24_1 rfl (r := 1) rfl) rfl rfl rfl (.cons (Ev.step (ev_ld1 rfl ty3 rfl (At.own1 3 rfl rfl)) rfl rfl rfl (.cons (Ev.step (ev_fa rfl fo24_2 rfl (r := 2) rfl) rfl rfl rfl (.cons (Ev.step (ev_ld1 rfl ty3 rfl (At.own1 3 rfl rfl)) rfl rfl rfl (.cons (Ev.step (ev_fa rfl fo24_3 rfl (r := 3) rfl) rfl rfl rfl ?_)))))))))))
      refine .cons (Ev.step (ev_ld1 rfl ty3 rfl (At.own1 3 rfl rfl)) rfl rfl rfl ?_)
      refine .know (row_len 4 rfl) (fun hv31 => ?_)
      obtain ⟨A29, c30, rfl, hv31_1, hv31_2⟩ := hv31
      unfold maxLen at hv31_2
      refine .know (row_len 5 rfl) (fun hv34 => ?_)
      obtain ⟨A32, c33, rfl, hv34_1, hv34_2⟩ := hv34
      unfold maxLen at hv34_2
      refine .cons (st_lend0 rfl rfl rfl rfl hb13 rfl .n (.c (.t (.t (.t (.t .h)))) (.c (.t (.t (.t (.t .h)))) .n)) (fun w_ hw => r_inter A29 P.length c30 P A32 Q.length c33 Q (IntKind.i64.wrap (Int.tmod (IntKind.u64.wrap ((gt ms n0).c)) 6)) ((gt ms n0).i) ((gt ms n0).j) ((gt ms n0).k) _ _ (Fr.lend hw 0 rfl (by first | ((try simp only [List.length_nil, List.length_cons, List.length_append, List.length_set, List.length_singleton, List.length_take, List.length_drop, List.length_reverse]) <;> omega) | omega)) (Fr.lend hw 1 rfl (by first | ((try simp only [List.length_nil, List.length_cons, List.length_append, List.length_set, List.length_singleton, List.length_take, List.length_drop, List.length_reverse]) <;> omega) | omega)) (by first | ((try simp only [List.length_nil, List.length_cons, List.length_append, List.length_set, List.length_singleton, List.length_take, List.length_drop, List.length_reverse]) <;> omega) | omega) (by first | ((try simp only [List.length_nil, List.length_cons, List.length_append, List.length_set, List.length_singleton, List.length_take, List.length_drop, List.length_reverse]) <;> omega) | omega) (by first | ((try simp only [List.length_nil, List.length_cons, List.length_append, List.length_set, List.length_singleton, List.length_take, List.length_drop, List.length_reverse]) <;> omega) | omega) (by first | ((try simp only [List.length_nil, List.length_cons, List.length_append, List.length_set, List.length_singleton, List.length_take, List.length_drop, List.length_reverse]) <;> omega) | omega) (by first | ((try simp only [List.length_nil, List.length_cons, List.length_append, List.length_set, List.length_singleton, List.length_take, List.length_drop, List.length_reverse]) <;> omega) | omega) (by first | ((try simp only [List.length_nil, List.length_cons, List.length_append, List.length_set, List.length_singleton, List.length_take, List.length_drop, List.length_reverse]) <;> omega) | omega) (mod6 _).1 (mod6 _).2 (by omega) (by omega) (by omega)) (fun v_q40 C_q40 q40 => ?_))
      obtain ⟨x35, y36, p37, q38, r39, p41, rfl, rfl⟩ := q40
      show SP _ _ _ _ _ _ ⟨_, _ :: _ :: _ :: _ :: _, _, _⟩
      obtain ⟨rfl, q42, q43⟩ := chg_same (mod6 _) p28 p41
      replace q42 := Eq.symm q42
      replace q43 := Eq.symm q43
      subst q42
      subst q43
      refine .cons (Ev.step (ev_mv rfl rfl) rfl rfl rfl (.cons (Ev.step (ev_ext rfl rfl rfl) rfl rfl rfl (.cons (Ev.step (ev_ext rfl rfl rfl) rfl rfl rfl (.cons (Ev.step (ev_ext rfl rfl rfl) rfl rfl rfl (.cons (Ev.step (ev_as rfl rfl) rfl rfl rfl (.cons (Ev.step (ev_as rfl rfl) rfl rfl rfl ?_)))))))))))
      refine .cons (Ev.step (ev_as rfl rfl) rfl rfl rfl (.go (fun _ _ h => h) (.seq (.region (.cons (Ev.step (ev_mv rfl rfl) rfl rfl rfl (.cons (Ev.step (ev_mv rfl rfl) rfl rfl rfl ?_))))))))
      refine .cons (Ev.step (ev_as rfl rfl) rfl rfl rfl (.cons (Ev.step (ev_as rfl rfl) rfl rfl rfl (.go (fun _ _ h => h) (.seq (.region (.cons (Ev.step (ev_mv rfl rfl) rfl rfl rfl ?_))))))))
      refine .cons (st_call0 rfl rfl rfl rfl hb12 rfl (.c (.t (.t (.t (.t .h)))) (.c (.t (.t (.t (.t .h)))) (.c (.t (.t (.t (.t .h)))) .n))) (visits_ g12 x23 y24 p25 q26 _ _ (by first | ((try simp only [List.length_nil, List.length_cons, List.length_append, List.length_set, List.length_singleton, List.length_take, List.length_drop, List.length_reverse]) <;> omega) | omega) (by first | ((try simp only [List.length_nil, List.length_cons, List.length_append, List.length_set, List.length_singleton, List.length_take, List.length_drop, List.length_reverse]) <;> omega) | omega)) (fun v_q46 C_q46 q46 => ?_))
      obtain ⟨x44, y45, rfl, rfl⟩ := q46
      show SP _ _ _ _ _ _ ⟨_, _ :: _ :: _ :: _ :: _ :: _, _, _⟩
      refine .cons (Ev.step (ev_mv rfl rfl) rfl rfl rfl (.cons (Ev.step (ev_ext rfl rfl rfl) rfl rfl rfl (.cons (Ev.step (ev_ext rfl rfl rfl) rfl rfl rfl (.cons (Ev.step (ev_as rfl rfl) rfl rfl rfl (.cons (Ev.step (ev_as rfl rfl) rfl rfl rfl (.go (fun _ _ h => h) ?_))))))))))
      refine .seq (.region (.cons (Ev.step (ev_mv rfl rfl) rfl rfl rfl (.cons (Ev.step (ev_mv rfl rfl) rfl rfl rfl (.cons (Ev.step (ev_bcmp (r := false) rfl Try.underlying4 rfl rfl (by simp [boolB])) rfl rfl rfl (.cons (Ev.step (ev_mv rfl rfl) rfl rfl rfl ?_)))))))))
      refine .cons (.on rfl rfl rfl (Ev.step (ev_mv rfl rfl) rfl rfl rfl (.cons (.on rfl rfl rfl (Ev.step (ev_mv rfl rfl) rfl rfl rfl ?_)))))
      refine .know (row_len 3 rfl) (fun hv49 => ?_)
      obtain ⟨A47, c48, rfl, hv49_1, hv49_2⟩ := hv49
      unfold maxLen at hv49_2
      refine .know (row_len 5 rfl) (fun hv52 => ?_)
      obtain ⟨A50, c51, rfl, hv52_1, hv52_2⟩ := hv52
      unfold maxLen at hv52_2
      refine .cons (.on rfl rfl rfl (st_lendk rfl rfl rfl rfl hb14 rfl .n (.c (.t (.t (.t .h))) (.c (.t (.t (.t (.t .h)))) .n)) (fun w_ hw => same_refl A47 p25.length c48 p25 A50 p25.length c51 _ _ (Fr.lend hw 0 rfl (by first | ((try simp only [List.length_nil, List.length_cons, List.length_append, List.length_set, List.length_singleton, List.length_take, List.length_drop, List.length_reverse]) <;> omega) | omega)) (Fr.lend hw 1 rfl (by first | ((try simp only [List.length_nil, List.length_cons, List.length_append, List.length_set, List.length_singleton, List.length_take, List.length_drop, List.length_reverse]) <;> omega) | omega)) (by first | ((try simp only [List.length_nil, List.length_cons, List.length_append, List.length_set, List.length_singleton, List.length_take, List.length_drop, List.length_reverse]) <;> omega) | omega) (by first | ((try simp only [List.length_nil, List.length_cons, List.length_append, List.length_set, List.length_singleton, List.length_take, List.length_drop, List.length_reverse]) <;> omega) | omega)) (.cons (.on rfl rfl rfl (Ev.step (ev_not rfl rfl) rfl rfl rfl (.cons (Ev.step (ev_pickf rfl rfl rfl rfl) rfl rfl rfl (.cons (Ev.step (ev_mv rfl rfl) rfl rfl rfl (.cons (.on rfl rfl rfl (Ev.step (ev_mv rfl rfl) rfl rfl rfl (.cons (.on rfl rfl rfl (Ev.step (ev_mv rfl rfl) rfl rfl rfl ?_)))))))))))))))
      refine .know (row_len 4 rfl) (fun hv55 => ?_)
      obtain ⟨A53, c54, rfl, hv55_1, hv55_2⟩ := hv55
      unfold maxLen at hv55_2
      refine .know (row_len 6 rfl) (fun hv58 => ?_)
      obtain ⟨A56, c57, rfl, hv58_1, hv58_2⟩ := hv58
      unfold maxLen at hv58_2
      refine .cons (.on rfl rfl rfl (st_lendk rfl rfl rfl rfl hb14 rfl .n (.c (.t (.t (.t (.t .h)))) (.c (.t (.t (.t (.t (.t .h))))) .n)) (fun w_ hw => same_refl A53 q26.length c54 q26 A56 q26.length c57 _ _ (Fr.lend hw 0 rfl (by first | ((try simp only [List.length_nil, List.length_cons, List.length_append, List.length_set, List.length_singleton, List.length_take, List.length_drop, List.length_reverse]) <;> omega) | omega)) (Fr.lend hw 1 rfl (by first | ((try simp only [List.length_nil, List.length_cons, List.length_append, List.length_set, List.length_singleton, List.length_take, List.length_drop, List.length_reverse]) <;> omega) | omega)) (by first | ((try simp only [List.length_nil, List.length_cons, List.length_append, List.length_set, List.length_singleton, List.length_take, List.length_drop, List.length_reverse]) <;> omega) | omega) (by first | ((try simp only [List.length_nil, List.length_cons, List.length_append, List.length_set, List.length_singleton, List.length_take, List.length_drop, List.length_reverse]) <;> omega) | omega)) (.cons (.on rfl rfl rfl (Ev.step (ev_not rfl rfl) rfl rfl rfl (.cons (Ev.step (ev_pickf rfl rfl rfl rfl) rfl rfl rfl (.go (fun _ _ h => h) (.cond_f rfl (.skipgo (fun _ _ h => h) ?_))))))))))
      exact .region (.cons (Ev.step (ev_mv rfl rfl) rfl rfl rfl (.cons (Ev.step (ev_add rfl rfl rfl (r := (n0 + 1)) rfl (by omega) (by omega)) rfl rfl rfl (.cons (Ev.step (ev_as rfl rfl) rfl rfl rfl (SP.nil (SQ.round (X := Int × Value × Value × Value × Value × (List Vis) × (List Vis)) (x := (n0, vA, vB, (.slice A29 P.length c30), (.slice A32 Q.length c33), P, Q)) ⟨(n0 + 1), x23, y24, .slice A50 p25.length c51, .slice A56 q26.length c57, p25, q26⟩ (by exact ⟨by omega, by omega, by omega, (cn_inter p41).trans q_3⟩) (by dsimp only; omega) (Sub.get (.c rfl (.c rfl (.c rfl (.c rfl (.c rfl (.c rfl (.c rfl .n)))))))) (fun w hw => hw.keep (.c .h (.c .h (.c .h (.c (.t (.t .h)) (.c (.t (.t .h)) .n))))))))))))))
    ·
      refine .exit (fun _ _ h => h) (.seq (.region (.cons (st_mkmap (α := Vis) (β := Int) keVis.f (.int .i64) rfl rfl rfl rfl (fun b59 => .cons (Ev.step (ev_as rfl rfl) rfl rfl rfl (.go (fun _ _ h => h) ?_)))))))
      refine .seq (.seq (.region (.cons (st_lit eVis (e := 44) (l := []) rfl rfl rfl rfl (by kernel_rfl) rfl rfl (fun w => by kernel_rfl) (fun b60 => .cons (Ev.step (ev_mv rfl rfl) rfl rfl rfl (.cons (st_app0 (E := eVis) (m := a) rfl rfl rfl rfl Try.underlying22 ai44 rfl rfl rfl .h (by first | rfl | omega | simp) (Src.w (Fr.flat hA)) (by first | ((try simp only [List.length_nil, List.length_cons, List.length_append, List.length_set, List.length_singleton, List.length_take, List.length_drop, List.length_reverse]) <;> omega) | omega) rfl (fun v61 => ?_)))))))))
      refine .cons (Ev.step (ev_mv rfl rfl) rfl rfl rfl (.cons (st_app (E := eVis) (m := b) rfl rfl rfl rfl Try.underlying22 ai44 rfl rfl rfl .h (by first | rfl | omega | simp) (Src.w (Fr.flat hB)) (by first | ((try simp only [List.length_nil, List.length_cons, List.length_append, List.length_set, List.length_singleton, List.length_take, List.length_drop, List.length_reverse]) <;> omega) | omega) rfl (fun v62 => ?_))))
      refine .know (row_len 0 rfl) (fun hv65 => ?_)
      obtain ⟨A63, c64, rfl, hv65_1, hv65_2⟩ := hv65
      unfold maxLen at hv65_2
      refine .cons (Ev.step (ev_len rfl Try.underlying22 rfl) rfl rfl rfl (.cons (Ev.step (ev_mv rfl rfl) rfl rfl rfl (.go (fun _ _ h => h) (.block ?_)))))
      refine .loop (X := Int × (List (Vis × Int))) (fun ⟨n1, M1⟩ => 0 ≤ n1 ∧ n1 ≤ (a ++ b).length ∧ (∀ y, mget M1 y 0 = 0 + (((a ++ b).take n1.toNat).count y : Int)) ∧ (M1.map Prod.fst).Nodup) (fun ⟨n1, M1⟩ => [(7, .pointer (some ⟨g12, 0, none⟩)), (19, .map (some b59)), (120, .slice A63 ((a ++ b).length) c64), (121, .int .i64 (((a ++ b).length : Nat) : Int)), (122, .int .i64 n1)]) (fun ⟨n1, M1⟩ => [mp keVis.f (.int .i64) b59 M1, rw_ eVis 44 (.slice A63 ((a ++ b).length) c64) (a ++ b), cel g12 [vA, vB] 49, rw_ eVis 44 (vA) P, rw_ eVis 44 (vB) Q, rw_ eVis 44 (U) P, rw_ eVis 44 (W) Q]) (fun _ => S) (fun _ => wf) (fun ⟨n1, M1⟩ => ((a ++ b).length - n1.toNat)) (fun a_ w_ hs_ hw_ => ⟨⟨0, ([] : List (Vis × Int))⟩, (by exact ⟨by omega, by omega, fun y => by simp [mget], by simp⟩), hs_.mono (Sub.get (.c rfl (.c rfl (.c rfl (.c rfl (.c rfl .n)))))), hw_.keep (.c (.t .h) (.c .h (.c .h (.c .h (.c .h (.c .h (.c .h .n)))))))⟩) (fun ⟨n1, M1⟩ ⟨q1_0, q1_1, q1_2, q1_3⟩ => ?_)
      show SC _ _ _ _ _ ⟨[(7, .pointer (some ⟨g12, 0, none⟩)), (19, .map (some b59)), (120, .slice A63 ((a ++ b).length) c64), (121, .int .i64 (((a ++ b).length : Nat) : Int)), (122, .int .i64 n1)], [mp keVis.f (.int .i64) b59 M1, rw_ eVis 44 (.slice A63 ((a ++ b).length) c64) (a ++ b), cel g12 [vA, vB] 49, rw_ eVis 44 (vA) P, rw_ eVis 44 (vB) Q, rw_ eVis 44 (U) P, rw_ eVis 44 (W) Q], S, wf⟩
      have hc1_n1 := q1_2 (gt (a ++ b) n1)
      have hc2_n1 := List.count_le_length (a := gt (a ++ b) n1) (l := (a ++ b).take n1.toNat)
      rw [List.length_take] at hc2_n1
      have hc3_n1 := List.count_le_length (a := gt (a ++ b) n1) (l := (a ++ b))
      rw [List.length_append] at hc3_n1
      refine .seq (.region (.cons (Ev.step (ev_cmp rfl rfl rfl rfl) rfl rfl rfl (.go (fun _ _ h => h) (.seq (.condI rfl bD (fun h66 => ?_) (fun h66 => ?_)))))))
      ·
        refine .skipgo (fun _ _ h => h) (.seq (.block (.seq (.region (.cons (Ev.step (ev_ix rfl Try.underlying22 ty44 rfl rfl (by omega) (by omega) (row_adr (i := n1) 1 rfl (by omega) (by first | ((try simp only [List.length_nil, List.length_cons, List.length_append, List.length_set, List.length_singleton, List.length_take, List.length_drop, List.length_reverse]) <;> omega) | omega))) rfl rfl rfl ?_))))))
        refine .cons (Ev.step (ev_lda rfl rfl (row_el (E := eVis) (l := (a ++ b)) (i := n1) 1 rfl (by omega) (by first | ((try simp only [List.length_nil, List.length_cons, List.length_append, List.length_set, List.length_singleton, List.length_take, List.length_drop, List.length_reverse]) <;> omega) | omega)) ty44) rfl rfl rfl (.cons (st_alloc rfl rfl rfl rfl zf44 (fun b67 => .cons (st_storea (l' := [.int .i64 ((gt (a ++ b) n1).kind), .int .i64 ((gt (a ++ b) n1).item)]) rfl rfl rfl ty44 rfl rfl rfl .h rfl rfl (.go (fun _ _ h => h) ?_))))))
        refine SC.draw mo [mp keVis.f (.int .i64) b59 M1] [] (.c (.t .h) .n) (fun _ _ _ c hc => by cases hc) (fun wf_68 hl_68 hx_68 hR_68 => ?_)
        refine SR.take 0 rfl (by kernel_rfl) (by kernel_rfl) (by kernel_rfl) rfl (fun _ _ _ h => h) rfl rfl rfl (ev_mv rfl rfl) (SR.take 1 rfl (by kernel_rfl) (by kernel_rfl) (by kernel_rfl) rfl (fun _ _ _ h => h) rfl rfl rfl (ev_lda (cs := [.int .i64 ((gt (a ++ b) n1).kind), .int .i64 ((gt (a ++ b) n1).item)]) rfl rfl (At.d (At.lent hR_68 0 rfl rfl)) ty44) ?_)
        refine SR.two (i := 2) (j := 4) (by kernel_rfl) ⟨_, rfl, ?_⟩ ⟨_, rfl, ?_⟩
        ·
          refine Ev.step (ev_lkp keVis (m := M1) (x := (gt (a ++ b) n1)) (z := 0) rfl Try.underlying41 zv3 rfl rfl 0 rfl) rfl rfl rfl ⟨tt0, (SR.take 3 rfl (by kernel_rfl) (by kernel_rfl) (by kernel_rfl) rfl (fun _ _ _ h => h) rfl rfl rfl (ev_add rfl rfl rfl (r := ((mget M1 (gt (a ++ b) n1) 0) + 1)) rfl (by omega) (by omega)) (SR.one (j := 4) (by kernel_rfl) rfl (st_mapEntry keVis (x := (gt (a ++ b) n1)) (z := 0) rfl rfl rfl rfl Try.underlying41 zv3 rfl rfl .h (fun u69 n70 => ⟨tt0, (SR.take 5 rfl (by kernel_rfl) (by kernel_rfl) (by kernel_rfl) rfl (fun _ _ _ h => h) rfl rfl rfl (ev_ext rfl rfl rfl) (SR.one (j := 6) (by kernel_rfl) rfl (st_entryStore keVis (u := undef) (x := (gt (a ++ b) n1)) (v := ((mget M1 (gt (a ++ b) n1) 0) + 1)) rfl rfl rfl rfl rfl rfl .h ⟨tt0, (SR.fin (by kernel_rfl) hl_68 hx_68 hR_68 (.c .n) ?_)⟩)))⟩))))⟩
          exact SQ.go (fun _ _ h => h) (.region (.cons (Ev.step (ev_add rfl rfl rfl (r := (n1 + 1)) rfl (by omega) (by omega)) rfl rfl rfl (.cons (Ev.step (ev_mv rfl rfl) rfl rfl rfl (SP.nil (SQ.round (X := Int × (List (Vis × Int))) (x := (n1, M1)) ⟨(n1 + 1), (mset (mins M1 (gt (a ++ b) n1) 0) (gt (a ++ b) n1) ((mget M1 (gt (a ++ b) n1) 0) + 1))⟩ (by exact ⟨by omega, by omega, count_step q1_2 (by omega) (by omega), nd_both q1_3⟩) (by dsimp only; omega) (Sub.get (.c rfl (.c rfl (.c rfl (.c rfl (.c rfl .n)))))) (fun w hw => hw.keep (.c .h (.c (.t .h) (.c (.t .h) (.c (.t .h) (.c (.t .h) (.c (.t .h) (.c (.t .h) .n)))))))))))))))
        ·
          refine st_mapEntry keVis (x := (gt (a ++ b) n1)) (z := 0) rfl rfl rfl rfl Try.underlying41 zv3 rfl rfl .h (fun u71 n72 => ⟨tt0, (SR.take 5 rfl (by kernel_rfl) (by kernel_rfl) (by kernel_rfl) rfl (fun _ _ _ h => h) rfl rfl rfl (ev_ext rfl rfl rfl) (SR.one (j := 2) (by kernel_rfl) rfl (Ev.step (ev_lkpk keVis (m := M1) (x := (gt (a ++ b) n1)) (z := 0) rfl Try.underlying41 zv3 rfl rfl 0 rfl) rfl rfl rfl ⟨tt0, (SR.take 3 rfl (by kernel_rfl) (by kernel_rfl) (by kernel_rfl) rfl (fun _ _ _ h => h) rfl rfl rfl (ev_add rfl rfl rfl (r := ((mget M1 (gt (a ++ b) n1) 0) + 1)) rfl (by omega) (by omega)) (SR.one (j := 6) (by kernel_rfl) rfl (st_entryStore keVis (u := undef) (x := (gt (a ++ b) n1)) (v := ((mget M1 (gt (a ++ b) n1) 0) + 1)) rfl rfl rfl rfl rfl rfl .h ⟨tt0, (SR.fin (by kernel_rfl) hl_68 hx_68 hR_68 (.c .n) ?_)⟩)))⟩)))⟩)
          exact SQ.go (fun _ _ h => h) (.region (.cons (Ev.step (ev_add rfl rfl rfl (r := (n1 + 1)) rfl (by omega) (by omega)) rfl rfl rfl (.cons (Ev.step (ev_mv rfl rfl) rfl rfl rfl (SP.nil (SQ.round (X := Int × (List (Vis × Int))) (x := (n1, M1)) ⟨(n1 + 1), (mset (mins M1 (gt (a ++ b) n1) 0) (gt (a ++ b) n1) ((mget M1 (gt (a ++ b) n1) 0) + 1))⟩ (by exact ⟨by omega, by omega, count_step q1_2 (by omega) (by omega), nd_both q1_3⟩) (by dsimp only; omega) (Sub.get (.c rfl (.c rfl (.c rfl (.c rfl (.c rfl .n)))))) (fun w hw => hw.keep (.c .h (.c (.t .h) (.c (.t .h) (.c (.t .h) (.c (.t .h) (.c (.t .h) (.c (.t .h) .n)))))))))))))))
      ·
        refine .exit (fun _ _ h => h) (.seq (.region (.cons (Ev.step (ev_mv rfl rfl) rfl rfl rfl (.cons (st_call0 rfl rfl rfl rfl hb12 rfl (.c (.t (.t .h)) (.c (.t (.t .h)) (.c (.t (.t .h)) .n))) (visits_ g12 vA vB P Q _ _ (by first | ((try simp only [List.length_nil, List.length_cons, List.length_append, List.length_set, List.length_singleton, List.length_take, List.length_drop, List.length_reverse]) <;> omega) | omega) (by first | ((try simp only [List.length_nil, List.length_cons, List.length_append, List.length_set, List.length_singleton, List.length_take, List.length_drop, List.length_reverse]) <;> omega) | omega)) (fun v_q75 C_q75 q75 => ?_)))))))
        obtain ⟨x73, y74, rfl, rfl⟩ := q75
        show SP _ _ _ _ _ _ ⟨_, _ :: _ :: _ :: _ :: _ :: _, _, _⟩
        refine .cons (Ev.step (ev_mv rfl rfl) rfl rfl rfl (.cons (Ev.step (ev_ext rfl rfl rfl) rfl rfl rfl (.cons (Ev.step (ev_ext rfl rfl rfl) rfl rfl rfl (.cons (Ev.step (ev_as rfl rfl) rfl rfl rfl (.cons (Ev.step (ev_as rfl rfl) rfl rfl rfl (.go (fun _ _ h => h) ?_))))))))))
        refine .seq (.seq (.region (.cons (Ev.step (ev_mv rfl rfl) rfl rfl rfl (.cons (Ev.step (ev_mv rfl rfl) rfl rfl rfl ?_))))))
        refine .know (row_len 4 rfl) (fun hv78 => ?_)
        obtain ⟨A76, c77, rfl, hv78_1, hv78_2⟩ := hv78
        unfold maxLen at hv78_2
        refine .cons (st_app (E := eVis) (m := Q) rfl rfl rfl rfl Try.underlying22 ai44 rfl rfl rfl (.t (.t (.t .h))) (by first | rfl | omega | simp) (row_src 4 rfl) (by first | ((try simp only [List.length_nil, List.length_cons, List.length_append, List.length_set, List.length_singleton, List.length_take, List.length_drop, List.length_reverse]) <;> omega) | omega) rfl (fun v79 => ?_))
        refine .know (row_len 0 rfl) (fun hv82 => ?_)
        obtain ⟨A80, c81, rfl, hv82_1, hv82_2⟩ := hv82
        unfold maxLen at hv82_2
        refine .cons (Ev.step (ev_len rfl Try.underlying22 rfl) rfl rfl rfl (.cons (Ev.step (ev_mv rfl rfl) rfl rfl rfl (.go (fun _ _ h => h) (.block ?_)))))
        refine .loop (X := Int × (List (Vis × Int))) (fun ⟨n2, M2⟩ => 0 ≤ n2 ∧ n2 ≤ (P ++ Q).length ∧ (∀ y, mget M2 y 0 = ((a ++ b).count y : Int) - (((P ++ Q).take n2.toNat).count y : Int)) ∧ (M2.map Prod.fst).Nodup) (fun ⟨n2, M2⟩ => [(7, .pointer (some ⟨g12, 0, none⟩)), (19, .map (some b59)), (140, .slice A80 ((P ++ Q).length) c81), (141, .int .i64 (((P ++ Q).length : Nat) : Int)), (142, .int .i64 n2)]) (fun ⟨n2, M2⟩ => [mp keVis.f (.int .i64) b59 M2, rw_ eVis 44 (.slice A80 ((P ++ Q).length) c81) (P ++ Q), cel g12 [vA, vB] 49, rw_ eVis 44 (vA) P, rw_ eVis 44 (vB) Q, rw_ eVis 44 (.slice A76 Q.length c77) Q, rw_ eVis 44 (.slice A63 ((a ++ b).length) c64) (a ++ b), rw_ eVis 44 (U) P, rw_ eVis 44 (W) Q]) (fun _ => S) (fun _ => wf) (fun ⟨n2, M2⟩ => ((P ++ Q).length - n2.toNat)) (fun a_ w_ hs_ hw_ => ⟨⟨0, M1⟩, (by exact ⟨by omega, by omega, fun y => by have h := q1_2 y; rw [List.take_of_length_le (by omega)] at h; simpa using h, q1_3⟩), hs_.mono (Sub.get (.c rfl (.c rfl (.c rfl (.c rfl (.c rfl .n)))))), hw_.keep (.c (.t (.t (.t (.t (.t .h))))) (.c .h (.c .h (.c .h (.c .h (.c .h (.c .h (.c .h (.c .h .n)))))))))⟩) (fun ⟨n2, M2⟩ ⟨q2_0, q2_1, q2_2, q2_3⟩ => ?_)
        show SC _ _ _ _ _ ⟨[(7, .pointer (some ⟨g12, 0, none⟩)), (19, .map (some b59)), (140, .slice A80 ((P ++ Q).length) c81), (141, .int .i64 (((P ++ Q).length : Nat) : Int)), (142, .int .i64 n2)], [mp keVis.f (.int .i64) b59 M2, rw_ eVis 44 (.slice A80 ((P ++ Q).length) c81) (P ++ Q), cel g12 [vA, vB] 49, rw_ eVis 44 (vA) P, rw_ eVis 44 (vB) Q, rw_ eVis 44 (.slice A76 Q.length c77) Q, rw_ eVis 44 (.slice A63 ((a ++ b).length) c64) (a ++ b), rw_ eVis 44 (U) P, rw_ eVis 44 (W) Q], S, wf⟩
        have hc1_n2 := q2_2 (gt (P ++ Q) n2)
        have hc2_n2 := List.count_le_length (a := gt (P ++ Q) n2) (l := (P ++ Q).take n2.toNat)
        rw [List.length_take] at hc2_n2
        have hc3_n2 := List.count_le_length (a := gt (P ++ Q) n2) (l := (a ++ b))
        rw [List.length_append] at hc3_n2
        refine .seq (.region (.cons (Ev.step (ev_cmp rfl rfl rfl rfl) rfl rfl rfl (.go (fun _ _ h => h) (.seq (.condI rfl bD (fun h83 => ?_) (fun h83 => ?_)))))))
        ·
          refine .skipgo (fun _ _ h => h) (.seq (.block (.seq (.region (.cons (Ev.step (ev_ix rfl Try.underlying22 ty44 rfl rfl (by omega) (by omega) (row_adr (i := n2) 1 rfl (by omega) (by first | ((try simp only [List.length_nil, List.length_cons, List.length_append, List.length_set, List.length_singleton, List.length_take, List.length_drop, List.length_reverse]) <;> omega) | omega))) rfl rfl rfl ?_))))))
          refine .cons (Ev.step (ev_lda rfl rfl (row_el (E := eVis) (l := (P ++ Q)) (i := n2) 1 rfl (by omega) (by first | ((try simp only [List.length_nil, List.length_cons, List.length_append, List.length_set, List.length_singleton, List.length_take, List.length_drop, List.length_reverse]) <;> omega) | omega)) ty44) rfl rfl rfl (.cons (st_alloc rfl rfl rfl rfl zf44 (fun b84 => .cons (st_storea (l' := [.int .i64 ((gt (P ++ Q) n2).kind), .int .i64 ((gt (P ++ Q) n2).item)]) rfl rfl rfl ty44 rfl rfl rfl .h rfl rfl (.go (fun _ _ h => h) ?_))))))
          refine SC.draw mo [mp keVis.f (.int .i64) b59 M2] [] (.c (.t .h) .n) (fun _ _ _ c hc => by cases hc) (fun wf_85 hl_85 hx_85 hR_85 => ?_)
          refine SR.take 0 rfl (by kernel_rfl) (by kernel_rfl) (by kernel_rfl) rfl (fun _ _ _ h => h) rfl rfl rfl (ev_mv rfl rfl) (SR.take 1 rfl (by kernel_rfl) (by kernel_rfl) (by kernel_rfl) rfl (fun _ _ _ h => h) rfl rfl rfl (ev_lda (cs := [.int .i64 ((gt (P ++ Q) n2).kind), .int .i64 ((gt (P ++ Q) n2).item)]) rfl rfl (At.d (At.lent hR_85 0 rfl rfl)) ty44) ?_)
          refine SR.two (i := 2) (j := 4) (by kernel_rfl) ⟨_, rfl, ?_⟩ ⟨_, rfl, ?_⟩
          ·
            refine Ev.step (ev_lkp keVis (m := M2) (x := (gt (P ++ Q) n2)) (z := 0) rfl Try.underlying41 zv3 rfl rfl 0 rfl) rfl rfl rfl ⟨tt0, (SR.take 3 rfl (by kernel_rfl) (by kernel_rfl) (by kernel_rfl) rfl (fun _ _ _ h => h) rfl rfl rfl (ev_sub rfl rfl rfl (r := ((mget M2 (gt (P ++ Q) n2) 0) - 1)) rfl (by omega) (by omega)) (SR.one (j := 4) (by kernel_rfl) rfl (st_mapEntry keVis (x := (gt (P ++ Q) n2)) (z := 0) rfl rfl rfl rfl Try.underlying41 zv3 rfl rfl .h (fun u86 n87 => ⟨tt0, (SR.take 5 rfl (by kernel_rfl) (by kernel_rfl) (by kernel_rfl) rfl (fun _ _ _ h => h) rfl rfl rfl (ev_ext rfl rfl rfl) (SR.one (j := 6) (by kernel_rfl) rfl (st_entryStore keVis (u := undef) (x := (gt (P ++ Q) n2)) (v := ((mget M2 (gt (P ++ Q) n2) 0) - 1)) rfl rfl rfl rfl rfl rfl .h ⟨tt0, (SR.fin (by kernel_rfl) hl_85 hx_85 hR_85 (.c .n) ?_)⟩)))⟩))))⟩
            exact SQ.go (fun _ _ h => h) (.region (.cons (Ev.step (ev_add rfl rfl rfl (r := (n2 + 1)) rfl (by omega) (by omega)) rfl rfl rfl (.cons (Ev.step (ev_mv rfl rfl) rfl rfl rfl (SP.nil (SQ.round (X := Int × (List (Vis × Int))) (x := (n2, M2)) ⟨(n2 + 1), (mset (mins M2 (gt (P ++ Q) n2) 0) (gt (P ++ Q) n2) ((mget M2 (gt (P ++ Q) n2) 0) - 1))⟩ (by exact ⟨by omega, by omega, count_back q2_2 (by omega) (by omega), nd_both q2_3⟩) (by dsimp only; omega) (Sub.get (.c rfl (.c rfl (.c rfl (.c rfl (.c rfl .n)))))) (fun w hw => hw.keep (.c .h (.c (.t .h) (.c (.t .h) (.c (.t .h) (.c (.t .h) (.c (.t .h) (.c (.t .h) (.c (.t .h) (.c (.t .h) .n)))))))))))))))))
          ·
            refine st_mapEntry keVis (x := (gt (P ++ Q) n2)) (z := 0) rfl rfl rfl rfl Try.underlying41 zv3 rfl rfl .h (fun u88 n89 => ⟨tt0, (SR.take 5 rfl (by kernel_rfl) (by kernel_rfl) (by kernel_rfl) rfl (fun _ _ _ h => h) rfl rfl rfl (ev_ext rfl rfl rfl) (SR.one (j := 2) (by kernel_rfl) rfl (Ev.step (ev_lkpk keVis (m := M2) (x := (gt (P ++ Q) n2)) (z := 0) rfl Try.underlying41 zv3 rfl rfl 0 rfl) rfl rfl rfl ⟨tt0, (SR.take 3 rfl (by kernel_rfl) (by kernel_rfl) (by kernel_rfl) rfl (fun _ _ _ h => h) rfl rfl rfl (ev_sub rfl rfl rfl (r := ((mget M2 (gt (P ++ Q) n2) 0) - 1)) rfl (by omega) (by omega)) (SR.one (j := 6) (by kernel_rfl) rfl (st_entryStore keVis (u := undef) (x := (gt (P ++ Q) n2)) (v := ((mget M2 (gt (P ++ Q) n2) 0) - 1)) rfl rfl rfl rfl rfl rfl .h ⟨tt0, (SR.fin (by kernel_rfl) hl_85 hx_85 hR_85 (.c .n) ?_)⟩)))⟩)))⟩)
            exact SQ.go (fun _ _ h => h) (.region (.cons (Ev.step (ev_add rfl rfl rfl (r := (n2 + 1)) rfl (by omega) (by omega)) rfl rfl rfl (.cons (Ev.step (ev_mv rfl rfl) rfl rfl rfl (SP.nil (SQ.round (X := Int × (List (Vis × Int))) (x := (n2, M2)) ⟨(n2 + 1), (mset (mins M2 (gt (P ++ Q) n2) 0) (gt (P ++ Q) n2) ((mget M2 (gt (P ++ Q) n2) 0) - 1))⟩ (by exact ⟨by omega, by omega, count_back q2_2 (by omega) (by omega), nd_both q2_3⟩) (by dsimp only; omega) (Sub.get (.c rfl (.c rfl (.c rfl (.c rfl (.c rfl .n)))))) (fun w hw => hw.keep (.c .h (.c (.t .h) (.c (.t .h) (.c (.t .h) (.c (.t .h) (.c (.t .h) (.c (.t .h) (.c (.t .h) (.c (.t .h) .n)))))))))))))))))
        ·
          refine .exit (fun _ _ h => h) (.seq (.seq (.region (.cons (Ev.step (ev_mv rfl rfl) rfl rfl rfl (.cons (st_range keVis rfl rfl rfl rfl Try.underlying41 rfl .h (fun r90 => ?_))))))))
          refine .go (fun _ _ h => h) (.block ?_)
          refine .loop (X := (List (Vis × Int)) × (Option (Vis × Int))) (fun ⟨Lf, cu⟩ => True) (fun ⟨Lf, cu⟩ => [(154, .pointer (some ⟨r90, 0, none⟩))]) (fun ⟨Lf, cu⟩ => [mpr keVis.f (.int .i64) b59 r90 M2 Lf cu]) (fun _ => S) (fun _ => wf) (fun ⟨Lf, cu⟩ => Lf.length) (fun a_ w_ hs_ hw_ => ⟨⟨M2, none⟩, trivial, hs_.mono (Sub.get (.c rfl .n)), hw_.keep (.c .h .n)⟩) (fun ⟨Lf, cu⟩ q3 => ?_)
          show SC _ _ _ _ _ ⟨[(154, .pointer (some ⟨r90, 0, none⟩))], [mpr keVis.f (.int .i64) b59 r90 M2 Lf cu], S, wf⟩
          refine .seq (.region (.cons (st_next keVis rfl rfl rfl rfl rfl .h (fun hz91 => ?_) (fun x92 v93 hl94 hm95 => ?_))))
          ·
            refine .cons (Ev.step (ev_ext rfl rfl rfl) rfl rfl rfl (.go (fun _ _ h => h) (.seq (.cond_f rfl (.exit (fun _ _ h => h) (.seq ?_))))))
            exact .region (.cons (Ev.step (ev_as rfl rfl) rfl rfl rfl (.go (fun _ _ h => h) (.ret (fun _ _ h => h) (ret1 Try.results5 rfl .n ⟨rfl, rfl⟩)))))
          ·
            refine .cons (Ev.step (ev_ext rfl rfl rfl) rfl rfl rfl (.go (fun _ _ h => h) (.seq (.cond_t rfl (.skipgo (fun _ _ h => h) (.block ?_))))))
            refine .seq (.region (.cons (Ev.step (ev_entry keVis (x := x92) (v := v93) rfl rfl 0 rfl) rfl rfl rfl (.cons (Ev.step (ev_ext rfl rfl rfl) rfl rfl rfl (.cons (Ev.step (ev_as rfl rfl) rfl rfl rfl (.go (fun _ _ h => h) ?_))))))))
            refine .seq (.region (.cons (Ev.step (ev_mv rfl rfl) rfl rfl rfl (.cons (Ev.step (ev_cmp rfl rfl rfl rfl) rfl rfl rfl (.go (fun _ _ h => h) (.condI rfl bNE (fun h96 => ?_) (fun h96 => ?_))))))))
            ·
              exact .seq (.region (.cons (Ev.step (ev_as rfl rfl) rfl rfl rfl (.go (fun _ _ h => h) (.ret (fun _ _ h => h) (ret1 Try.results5 rfl .n ⟨(by exfalso; exact absurd (plays_zero q2_3 hm95 q2_2 (by omega) q_3) (by assumption)), rfl⟩))))))
            ·
              exact .skip (SQ.roundb (X := (List (Vis × Int)) × (Option (Vis × Int))) (x := (Lf, cu)) ⟨(Lf.filter (fun p => decide (p.1 ≠ x92))), (some (x92, v93))⟩ trivial (mfilter_lt hl94) (Sub.get (.c rfl .n)) (fun w hw => hw.keep (.c .h .n)))

end Go.Proofs.Ytfmfhkaimhmgdaa.Sx
