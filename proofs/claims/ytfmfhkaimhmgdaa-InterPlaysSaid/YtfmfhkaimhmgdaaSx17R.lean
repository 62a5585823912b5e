import Derived.Test.YtfmfhkaimhmgdaaProg
import Derived.Test.YtfmfhkaimhmgdaaSxChg
import Derived.Test.YtfmfhkaimhmgdaaSx17A
import Derived.Test.YtfmfhkaimhmgdaaSx17S
import Derived.Test.YtfmfhkaimhmgdaaSx17I
import Derived.Test.YtfmfhkaimhmgdaaSx17J
import Derived.Test.YtfmfhkaimhmgdaaSx17K
import Derived.Test.YtfmfhkaimhmgdaaSx17L
import Derived.Test.YtfmfhkaimhmgdaaSx17N
set_option maxRecDepth 20000
set_option maxHeartbeats 4000000
set_option linter.unusedVariables false
set_option linter.unusedSimpArgs false
namespace Go.Proofs.Ytfmfhkaimhmgdaa.Sx.FR
open Go Go.SX Go.Proofs
theorem ai44 : (Try.prog.info? 44).map (fun i => (i.zero, i.size, i.bytes)) = some (some (.agg #[.int .i64 0, .int .i64 0]), 2, 16) := by kernel_rfl
theorem ty44 : ty Try.prog 44 = some (true, 2) := by kernel_rfl
theorem hb29 : hasBody Try.prog 29 = true := by kernel_rfl
theorem zf51 : (Try.prog.info? 51).bind (fun i => i.zero.map Value.cells) = some (List.toArray [.bool false, .int .i64 0]) := by kernel_rfl
theorem fo44_0 : fo Try.prog 44 0 = some 0 := by kernel_rfl
theorem ty42 : ty Try.prog 42 = some (false, 1) := by kernel_rfl
theorem fo44_1 : fo Try.prog 44 1 = some 1 := by kernel_rfl
theorem ty3 : ty Try.prog 3 = some (false, 1) := by kernel_rfl
theorem ty51 : ty Try.prog 51 = some (true, 2) := by kernel_rfl
theorem fo51_0 : fo Try.prog 51 0 = some 0 := by kernel_rfl
theorem ty4 : ty Try.prog 4 = some (false, 1) := by kernel_rfl
theorem fo51_1 : fo Try.prog 51 1 = some 1 := by kernel_rfl
theorem hb28 : hasBody Try.prog 28 = true := by kernel_rfl
theorem mo : Try.prog.follows .mixedOrders = true := by kernel_rfl
theorem eqIn44 (d : Nat) (x0 y0 : Int) (x1 y1 : Int) (w : World) : (Op.equalIn (d + 3) 44 (.agg #[(.int .i64 x0), (.int .i64 x1)]) (.agg #[(.int .i64 y0), (.int .i64 y1)])).run Try.prog w = .ok ((x0 == y0) && (x1 == y1)) w := by
  rw [run_equalIn_struct w (d + 2) 44 _ _ (by kernel_rfl) (by kernel_rfl)]
  have hf : (Try.prog.fieldsOf 44).toList = [{ name := "Kind", type := 42, offset := 0, embedded := false, tag := "", pkgPath := "", byteOffset := 0 }, { name := "Item", type := 3, offset := 1, embedded := false, tag := "", pkgPath := "", byteOffset := 8 }] := by kernel_rfl
  rw [hf]
  have h42 : ∀ (x y : Int) (w : World), (Op.equalIn (d + 2) 42 (.int .i64 x) (.int .i64 y)).run Try.prog w = .ok (x == y) w := fun x y w => by
    simp [Op.equalIn, run_underlying Try.underlying42]
  have h3 : ∀ (x y : Int) (w : World), (Op.equalIn (d + 2) 3 (.int .i64 x) (.int .i64 y)).run Try.prog w = .ok (x == y) w := fun x y w => by
    simp [Op.equalIn, run_underlying Try.underlying3]
  have p0 : ∀ (x0 : Int) (x1 : Int) (w : World), (part 42 #[(.int .i64 x0), (.int .i64 x1)] 0).run Try.prog w = .ok (.int .i64 x0) w := fun _ _ _ => by kernel_rfl
  have p1 : ∀ (x0 : Int) (x1 : Int) (w : World), (part 3 #[(.int .i64 x0), (.int .i64 x1)] 1).run Try.prog w = .ok (.int .i64 x1) w := fun _ _ _ => by kernel_rfl
  simp only [Op.eqFields, Sem.run_bind, h42, h3, p0, p1, Result.andThen_ok, Sem.run_ite, ne_eq]
  cases g0 : (x0 == y0) <;> cases g1 : (x1 == y1) <;> simp [g0, g1]
theorem ev44_eql (x y : Operand) (x0 y0 : Int) (x1 y1 : Int) (w : World) : (do eqGuard .eql 44 x y (.agg #[(.int .i64 x0), (.int .i64 x1)]) (.agg #[(.int .i64 y0), (.int .i64 y1)]); binOp .eql 44 (.agg #[(.int .i64 x0), (.int .i64 x1)]) (.agg #[(.int .i64 y0), (.int .i64 y1)]) : Sem Value).run Try.prog w = .ok (.bool (((x0 == y0) && (x1 == y1)))) w := by
  have h1 : (Op.equal 44 (.agg #[(.int .i64 x0), (.int .i64 x1)]) (.agg #[(.int .i64 y0), (.int .i64 y1)])).run Try.prog w = .ok ((x0 == y0) && (x1 == y1)) w := eqIn44 9997 x0 y0 x1 y1 w
  have h2 : (eqGuard .eql 44 x y (.agg #[(.int .i64 x0), (.int .i64 x1)]) (.agg #[(.int .i64 y0), (.int .i64 y1)])).run Try.prog w = .ok () w := by kernel_rfl
  simp only [Sem.run_bind, h2, Result.andThen_ok, binOp, h1]
  rfl
theorem ev44_neq (x y : Operand) (x0 y0 : Int) (x1 y1 : Int) (w : World) : (do eqGuard .neq 44 x y (.agg #[(.int .i64 x0), (.int .i64 x1)]) (.agg #[(.int .i64 y0), (.int .i64 y1)]); binOp .neq 44 (.agg #[(.int .i64 x0), (.int .i64 x1)]) (.agg #[(.int .i64 y0), (.int .i64 y1)]) : Sem Value).run Try.prog w = .ok (.bool (!((x0 == y0) && (x1 == y1)))) w := by
  have h1 : (Op.equal 44 (.agg #[(.int .i64 x0), (.int .i64 x1)]) (.agg #[(.int .i64 y0), (.int .i64 y1)])).run Try.prog w = .ok ((x0 == y0) && (x1 == y1)) w := eqIn44 9997 x0 y0 x1 y1 w
  have h2 : (eqGuard .neq 44 x y (.agg #[(.int .i64 x0), (.int .i64 x1)]) (.agg #[(.int .i64 y0), (.int .i64 y1)])).run Try.prog w = .ok () w := by kernel_rfl
  simp only [Sem.run_bind, h2, Result.andThen_ok, binOp, h1]
  rfl


end Go.Proofs.Ytfmfhkaimhmgdaa.Sx.FR
namespace Go.Proofs.Ytfmfhkaimhmgdaa.Sx
open Go Go.SX Go.Proofs FR





theorem r_copied (A : Option Addr) (n : Nat) (c : Nat) (l : List Vis) (S : Nat → Prop) (wf : World) (hA : Fr eVis S wf A l) (hn : l.length = n) (hl : l.length ≤ 1000000) :
    TR0 Try.prog 29 [.slice A n c] [] S wf (fun v_ C_ => ∃ (u : Value), v_ = u ∧ C_ = [rw_ eVis 44 (u) l]) := by
  refine TR.mk Try.func29 rfl Try.ntmps29 rfl rfl (fun w_ => ?_)
  refine .seq (.region (.cons (Ev.step (ev_as rfl rfl) rfl rfl rfl (.go (fun _ _ h => h) (.seq (.region ?_))))))
  exact .cons (st_lit eVis (e := 44) (l := []) rfl rfl rfl rfl (by kernel_rfl) rfl rfl (fun w => by kernel_rfl) (fun b1 => .cons (Ev.step (ev_mv rfl rfl) rfl rfl rfl (.cons (st_app0 (E := eVis) (m := l) rfl rfl rfl rfl Try.underlying22 ai44 rfl rfl rfl .h (by first | rfl | omega | simp) (Src.w (Fr.flat hA)) (by (try simp only [List.length_nil, List.length_cons, List.length_append, List.length_set, List.length_singleton, List.length_take, List.length_drop, List.length_reverse]) <;> omega) rfl (fun v2 => .cons (Ev.step (ev_as rfl rfl) rfl rfl rfl (.go (fun _ _ h => h) (.ret (fun _ _ h => h) (ret1 Try.results29 rfl (.c .h .n) ⟨v2, rfl, rfl⟩))))))))))

theorem r_part (A : Option Addr) (n : Nat) (c : Nat) (l : List Vis) (i : Int) (j : Int) (S : Nat → Prop) (wf : World) (hA : Fr eVis S wf A l) (hn : l.length = n) (hl : l.length ≤ 1000000) (hc : n ≤ c) (h0 : 0 ≤ i) (h1 : i ≤ j) (h2 : j ≤ n) :
    TR0 Try.prog 26 [.slice A n c, .int .i64 i, .int .i64 j] [] S wf (fun v_ C_ => ∃ (u : Value), v_ = u ∧ C_ = [rw_ eVis 44 (u) ((l.take (j : Int).toNat).drop (i : Int).toNat)]) := by
  refine TR.mk Try.func26 rfl Try.ntmps26 rfl rfl (fun w_ => ?_)
  refine .seq (.region (.cons (Ev.step (ev_as rfl rfl) rfl rfl rfl (.go (fun _ _ h => h) (.seq (.region ?_))))))
  refine .cons (Ev.step (ev_mv rfl rfl) rfl rfl rfl (.cons (Ev.step (ev_mv rfl rfl) rfl rfl rfl (.cons (Ev.step (ev_mv rfl rfl) rfl rfl rfl (.cons (Ev.step (ev_slc rfl Try.underlying22 ty44 rfl (.s rfl (by omega)) (.s rfl (by omega)) (by omega) (by omega)) rfl rfl rfl (.cons (st_call0 rfl rfl rfl rfl hb29 rfl .n (r_copied (cutA A c (i).toNat 2) (((j).toNat) - (i).toNat) (c - (i).toNat) ((l.take (j).toNat).drop (i).toNat) _ _ (Fr.view hA (i).toNat (j).toNat 2 rfl (by omega)) (by (try simp only [List.length_nil, List.length_cons, List.length_append, List.length_set, List.length_singleton, List.length_take, List.length_drop, List.length_reverse]) <;> omega) (by (try simp only [List.length_nil, List.length_cons, List.length_append, List.length_set, List.length_singleton, List.length_take, List.length_drop, List.length_reverse]) <;> omega)) (fun v_q2 C_q2 q2 => ?_))))))))))
  obtain ⟨u1, rfl, rfl⟩ := q2
  show SP _ _ _ _ _ _ ⟨_, _ :: _, _, _⟩
  exact .cons (Ev.step (ev_as rfl rfl) rfl rfl rfl (.go (fun _ _ h => h) (.ret (fun _ _ h => h) (ret1 Try.results26 rfl (.c .h .n) ⟨v_q2, rfl, rfl⟩))))

theorem r_join (A1 : Option Addr) (n1 : Nat) (c1 : Nat) (l1 : List Vis) (A2 : Option Addr) (n2 : Nat) (c2 : Nat) (l2 : List Vis) (A3 : Option Addr) (n3 : Nat) (c3 : Nat) (l3 : List Vis) (S : Nat → Prop) (wf : World) (hA1 : Fr eVis S wf A1 l1) (hA2 : Fr eVis S wf A2 l2) (hA3 : Fr eVis S wf A3 l3) (hn1 : l1.length = n1) (hn2 : l2.length = n2) (hn3 : l3.length = n3) (hl1 : l1.length ≤ 1000000) (hl2 : l2.length ≤ 1000000) (hl3 : l3.length ≤ 1000000) :
    TR0 Try.prog 25 [.slice A1 n1 c1, .slice A2 n2 c2, .slice A3 n3 c3] [] S wf (fun v_ C_ => ∃ (u : Value), v_ = u ∧ C_ = [rw_ eVis 44 (u) ((l1 ++ l2) ++ l3)]) := by
  refine TR.mk Try.func25 rfl Try.ntmps25 rfl rfl (fun w_ => ?_)
  refine .seq (.region (.cons (Ev.step (ev_as rfl rfl) rfl rfl rfl (.go (fun _ _ h => h) (.seq (.region ?_))))))
  refine .cons (Ev.step (ev_mv rfl rfl) rfl rfl rfl (.cons (st_call0 rfl rfl rfl rfl hb29 rfl .n (r_copied A1 n1 c1 l1 _ _ hA1 (by (try simp only [List.length_nil, List.length_cons, List.length_append, List.length_set, List.length_singleton, List.length_take, List.length_drop, List.length_reverse]) <;> omega) (by (try simp only [List.length_nil, List.length_cons, List.length_append, List.length_set, List.length_singleton, List.length_take, List.length_drop, List.length_reverse]) <;> omega)) (fun v_q2 C_q2 q2 => ?_))))
  obtain ⟨u1, rfl, rfl⟩ := q2
  show SP _ _ _ _ _ _ ⟨_, _ :: _, _, _⟩
  refine .cons (Ev.step (ev_mv rfl rfl) rfl rfl rfl (.cons (st_app (E := eVis) (m := l2) rfl rfl rfl rfl Try.underlying22 ai44 rfl rfl rfl .h (by first | rfl | omega | simp) (Src.w (Fr.flat hA2)) (by (try simp only [List.length_nil, List.length_cons, List.length_append, List.length_set, List.length_singleton, List.length_take, List.length_drop, List.length_reverse]) <;> omega) rfl (fun v3 => .cons (Ev.step (ev_mv rfl rfl) rfl rfl rfl (.cons (st_app (E := eVis) (m := l3) rfl rfl rfl rfl Try.underlying22 ai44 rfl rfl rfl .h (by first | rfl | omega | simp) (Src.w (Fr.flat hA3)) (by (try simp only [List.length_nil, List.length_cons, List.length_append, List.length_set, List.length_singleton, List.length_take, List.length_drop, List.length_reverse]) <;> omega) rfl (fun v4 => .cons (Ev.step (ev_as rfl rfl) rfl rfl rfl (.go (fun _ _ h => h) ?_))))))))))
  exact .ret (fun _ _ h => h) (ret1 Try.results25 rfl (.c .h .n) ⟨v4, rfl, rfl⟩)

theorem r_turned (A : Option Addr) (n : Nat) (c : Nat) (l : List Vis) (S : Nat → Prop) (wf : World) (hA : Fr eVis S wf A l) (hn : l.length = n) (hl : l.length ≤ 1000000) :
    TR0 Try.prog 27 [.slice A n c] [] S wf (fun v_ C_ => ∃ (u : Value), v_ = u ∧ C_ = [rw_ eVis 44 (u) l.reverse]) := by
  refine TR.mk Try.func27 rfl Try.ntmps27 rfl rfl (fun w_ => ?_)
  refine .seq (.region (.cons (Ev.step (ev_as rfl rfl) rfl rfl rfl (.go (fun _ _ h => h) (.seq (.region ?_))))))
  refine .cons (Ev.step (ev_as rfl rfl) rfl rfl rfl (.go (fun _ _ h => h) (.seq (.seq ?_))))
  refine SC.nilrow eVis 44 ?_
  refine .region (.cons (Ev.step (ev_mv rfl rfl) rfl rfl rfl (.cons (Ev.step (ev_len rfl Try.underlying22 rfl) rfl rfl rfl (.cons (Ev.step (ev_sub rfl rfl rfl (r := ((n : Int) - 1)) rfl (by omega) (by omega)) rfl rfl rfl (.cons (Ev.step (ev_as rfl rfl) rfl rfl rfl (.go (fun _ _ h => h) ?_)))))))))
  refine .block ?_
  refine .loop (X := Int × (List Vis) × Value) (fun ⟨x, X, U⟩ => -1 ≤ x ∧ x < n ∧ X.length ≤ 1000000 - (x + 1) ∧ X = (l.drop (x + 1).toNat).reverse) (fun ⟨x, X, U⟩ => [(0, .slice A n c), (3, U), (4, .int .i64 x)]) (fun ⟨x, X, U⟩ => [rw_ eVis 44 (U) X]) (fun _ => S) (fun _ => wf) (fun ⟨x, X, U⟩ => (x + 1).toNat) (fun a_ w_ hs_ hw_ => ⟨⟨((n : Int) - 1), ([] : List Vis), .slice none 0 0⟩, (by exact ⟨by omega, by omega, by simp only [List.length_nil]; omega, by rw [List.drop_of_length_le (by omega)]; rfl⟩), hs_.mono (Sub.get (.c rfl (.c rfl (.c rfl .n)))), hw_.keep (.c .h .n)⟩) (fun ⟨x, X, U⟩ ⟨q_0, q_1, q_2, q_3⟩ => ?_)
  show SC _ _ _ _ _ ⟨[(0, .slice A n c), (3, U), (4, .int .i64 x)], [rw_ eVis 44 (U) X], S, wf⟩
  refine .seq (.seq (.region (.cons (Ev.step (ev_mv rfl rfl) rfl rfl rfl (.cons (Ev.step (ev_cmp rfl rfl rfl rfl) rfl rfl rfl (.go (fun _ _ h => h) ?_)))))))
  refine .condI rfl bD (fun h1 => ?_) (fun h1 => ?_)
  ·
    refine .skipgo (fun _ _ h => h) (.seq (.block (.region (.cons (Ev.step (ev_mv rfl rfl) rfl rfl rfl (.cons (Ev.step (ev_mv rfl rfl) rfl rfl rfl ?_)))))))
    refine .cons (Ev.step (ev_mv rfl rfl) rfl rfl rfl (.cons (Ev.step (ev_ix rfl Try.underlying22 ty44 rfl rfl (by omega) (by omega) (fun _ _ => Fr.adr (i := x) hA (by omega) (by omega))) rfl rfl rfl (.cons (Ev.step (ev_lda rfl rfl (At.w (Fr.el (i := x) hA (by omega) (by omega))) ty44) rfl rfl rfl (.cons (st_lit eVis (e := 44) (l := [(gt l x)]) rfl rfl rfl rfl (by kernel_rfl) rfl rfl (fun w => by kernel_rfl) (fun b2 => .cons (st_app (E := eVis) (m := [(gt l x)]) rfl rfl rfl rfl Try.underlying22 ai44 rfl rfl rfl (.t .h) (by first | rfl | omega | simp) (row_src 0 rfl) (by (try simp only [List.length_nil, List.length_cons, List.length_append, List.length_set, List.length_singleton, List.length_take, List.length_drop, List.length_reverse]) <;> omega) rfl (fun v3 => .cons (Ev.step (ev_as rfl rfl) rfl rfl rfl ?_)))))))))))
    exact .go (fun _ _ h => h) (.region (.cons (Ev.step (ev_mv rfl rfl) rfl rfl rfl (.cons (Ev.step (ev_sub rfl rfl rfl (r := (x - 1)) rfl (by omega) (by omega)) rfl rfl rfl (.cons (Ev.step (ev_as rfl rfl) rfl rfl rfl (SP.nil (SQ.round (X := Int × (List Vis) × Value) (x := (x, X, U)) ⟨(x - 1), (X ++ [(gt l x)]), v3⟩ (by exact ⟨by omega, by omega, by simp only [List.length_append, List.length_singleton]; omega, rev_next q_3 (by omega) (by omega)⟩) (by dsimp only; omega) (Sub.get (.c rfl (.c rfl (.c rfl .n)))) (fun w hw => hw.keep (.c .h .n)))))))))))
  ·
    refine .exit (fun _ _ h => h) (.seq (.region (.cons (Ev.step (ev_mv rfl rfl) rfl rfl rfl (.cons (Ev.step (ev_as rfl rfl) rfl rfl rfl (.go (fun _ _ h => h) ?_)))))))
    exact .ret (fun _ _ h => h) (ret1 Try.results27 rfl (.c .h .n) ⟨U, rfl, (by rw [q_3, show (x + 1).toNat = 0 from by omega]; simp)⟩)

theorem r_of (k : Int) (x : Int) (S : Nat → Prop) (wf : World) :
    TR0 Try.prog 38 [.agg #[.int .i64 k, .int .i64 x]] [] S wf (fun v_ C_ => ∃ (s : Bool) (y : Int) (b : Bool), ((s, y, b) = ofF k x) ∧ v_ = .tuple #[.agg #[.bool s, .int .i64 y], .bool b] ∧ C_ = []) := by
  refine TR.mk Try.func38 rfl Try.ntmps38 rfl rfl (fun w_ => ?_)
  refine .seq (.region (.cons (st_boxa rfl rfl rfl rfl rfl (fun b1 => .cons (st_alloc rfl rfl rfl rfl zf51 (fun b2 => .cons (Ev.step (ev_as rfl rfl) rfl rfl rfl (.go (fun _ _ h => h) ?_))))))))
  refine .seq (.seq (.region (.cons (Ev.step (ev_fa rfl fo44_0 rfl (r := 0) rfl) rfl rfl rfl (.cons (Ev.step (ev_ld1 rfl ty42 rfl (At.own1 1 rfl rfl)) rfl rfl rfl (.cons (Ev.step (ev_cmp rfl rfl rfl rfl) rfl rfl rfl ?_))))))))
  refine .go (fun _ _ h => h) (.condI rfl bE (fun h3 => ?_) (fun h3 => ?_))
  ·
    refine .seq (.region (.cons (Ev.step (ev_fa rfl fo44_1 rfl (r := 1) rfl) rfl rfl rfl (.cons (Ev.step (ev_ld1 rfl ty3 rfl (At.own1 1 rfl rfl)) rfl rfl rfl (.cons (Ev.step (ev_any (v := .agg #[.bool false, .int .i64 x]) rfl (by kernel_rfl) (fun _ => by kernel_rfl)) rfl rfl rfl (.cons (st_storea (l' := [.bool false, .int .i64 x]) rfl rfl rfl ty51 rfl rfl rfl .h rfl rfl ?_)))))))))
    exact .cons (Ev.step (ev_as rfl rfl) rfl rfl rfl (.go (fun _ _ h => h) (.ret (fun _ _ h => h) (retv2 Try.results38 (.c 0 rfl rfl ty51) (.t rfl) .n ⟨false, x, true, (by unfold ofF; repeat (first | rw [if_pos (by omega)] | rw [if_neg (by omega)])), rfl, rfl⟩))))
  ·
    refine .skipgo (fun _ _ h => h) (.seq (.seq (.region (.cons (Ev.step (ev_fa rfl fo44_0 rfl (r := 0) rfl) rfl rfl rfl (.cons (Ev.step (ev_ld1 rfl ty42 rfl (At.own1 1 rfl rfl)) rfl rfl rfl ?_)))))))
    refine .cons (Ev.step (ev_cmp rfl rfl rfl rfl) rfl rfl rfl (.cons (Ev.step (ev_mv rfl rfl) rfl rfl rfl (.cons (Ev.gstep (fun _ => ev_fa rfl fo44_0 rfl (r := 0) rfl) rfl rfl rfl rfl rfl (.cons (Ev.gstep (fun hb => ev_ld1 rfl ty42 (lkg rfl hb) (At.own1 1 rfl rfl)) rfl rfl rfl rfl rfl (.cons (Ev.gstep (fun hb => ev_cmp rfl (lkg rfl hb) rfl rfl) rfl rfl rfl rfl rfl (.cons (Ev.step (ev_or rfl rfl rfl rfl) rfl rfl rfl ?_)))))))))))
    refine .go (fun _ _ h => h) (.condI rfl (bO bE bE) (fun h4 => ?_) (fun h4 => ?_))
    ·
      refine .seq (.region (.cons (Ev.step (ev_fa rfl fo44_1 rfl (r := 1) rfl) rfl rfl rfl (.cons (Ev.step (ev_ld1 rfl ty3 rfl (At.own1 1 rfl rfl)) rfl rfl rfl (.cons (Ev.step (ev_any (v := .agg #[.bool true, .int .i64 x]) rfl (by kernel_rfl) (fun _ => by kernel_rfl)) rfl rfl rfl (.cons (st_storea (l' := [.bool true, .int .i64 x]) rfl rfl rfl ty51 rfl rfl rfl .h rfl rfl ?_)))))))))
      exact .cons (Ev.step (ev_as rfl rfl) rfl rfl rfl (.go (fun _ _ h => h) (.ret (fun _ _ h => h) (retv2 Try.results38 (.c 0 rfl rfl ty51) (.t rfl) .n ⟨true, x, true, (by unfold ofF; repeat (first | rw [if_pos (by omega)] | rw [if_neg (by omega)])), rfl, rfl⟩))))
    ·
      refine .skipgo (fun _ _ h => h) (.seq (.region (.cons (Ev.step (ev_any (v := .agg #[.bool false, .int .i64 0]) rfl (by kernel_rfl) (fun _ => by kernel_rfl)) rfl rfl rfl (.cons (st_storea (l' := [.bool false, .int .i64 0]) rfl rfl rfl ty51 rfl rfl rfl .h rfl rfl (.cons (Ev.step (ev_as rfl rfl) rfl rfl rfl ?_))))))))
      exact .go (fun _ _ h => h) (.ret (fun _ _ h => h) (retv2 Try.results38 (.c 0 rfl rfl ty51) (.t rfl) .n ⟨false, 0, false, (by unfold ofF; repeat (first | rw [if_pos (by omega)] | rw [if_neg (by omega)])), rfl, rfl⟩))

theorem r_vis (s : Bool) (x : Int) (S : Nat → Prop) (wf : World) :
    TR0 Try.prog 28 [.agg #[.bool s, .int .i64 x]] [] S wf (fun v_ C_ => ∃ (u : Value) (m : List Vis), (m = visF s x) ∧ v_ = u ∧ C_ = [rw_ eVis 44 (u) m]) := by
  refine TR.mk Try.func28 rfl Try.ntmps28 rfl rfl (fun w_ => ?_)
  refine .seq (.region (.cons (st_boxa rfl rfl rfl rfl rfl (fun b1 => .cons (Ev.step (ev_as rfl rfl) rfl rfl rfl (.go (fun _ _ h => h) (.seq ?_)))))))
  refine .seq (.region (.cons (Ev.step (ev_fa rfl fo51_0 rfl (r := 0) rfl) rfl rfl rfl (.cons (Ev.step (ev_ld1 rfl ty4 rfl (At.own1 0 rfl rfl)) rfl rfl rfl (.go (fun _ _ h => h) (.condI rfl bV (fun h2 => ?_) (fun h2 => ?_))))))))
  ·
    refine .seq (.region (.cons (Ev.step (ev_fa rfl fo51_1 rfl (r := 1) rfl) rfl rfl rfl (.cons (Ev.step (ev_ld1 rfl ty3 rfl (At.own1 0 rfl rfl)) rfl rfl rfl (.cons (Ev.step (ev_any (v := .agg #[.int .i64 2, .int .i64 x]) rfl (by kernel_rfl) (fun _ => by kernel_rfl)) rfl rfl rfl (.cons (Ev.step (ev_fa rfl fo51_1 rfl (r := 1) rfl) rfl rfl rfl ?_)))))))))
    exact .cons (Ev.step (ev_ld1 rfl ty3 rfl (At.own1 0 rfl rfl)) rfl rfl rfl (.cons (Ev.step (ev_any (v := .agg #[.int .i64 3, .int .i64 x]) rfl (by kernel_rfl) (fun _ => by kernel_rfl)) rfl rfl rfl (.cons (st_lit eVis (e := 44) (l := [(Vis.mk 2 x), (Vis.mk 3 x)]) rfl rfl rfl rfl (by kernel_rfl) rfl rfl (fun w => by kernel_rfl) (fun b3 => .cons (Ev.step (ev_as rfl rfl) rfl rfl rfl (.go (fun _ _ h => h) (.ret (fun _ _ h => h) (ret1 Try.results28 rfl (.c .h .n) ⟨.slice (some ⟨b3, 0, none⟩) 2 2, [(Vis.mk 2 x), (Vis.mk 3 x)], (by unfold visF; first | rw [if_pos (by assumption)] | rw [if_neg (by assumption)]), rfl, rfl⟩))))))))))
  ·
    refine .skipgo (fun _ _ h => h) (.seq (.region (.cons (Ev.step (ev_fa rfl fo51_1 rfl (r := 1) rfl) rfl rfl rfl (.cons (Ev.step (ev_ld1 rfl ty3 rfl (At.own1 0 rfl rfl)) rfl rfl rfl (.cons (Ev.step (ev_any (v := .agg #[.int .i64 1, .int .i64 x]) rfl (by kernel_rfl) (fun _ => by kernel_rfl)) rfl rfl rfl ?_))))))))
    exact .cons (st_lit eVis (e := 44) (l := [(Vis.mk 1 x)]) rfl rfl rfl rfl (by kernel_rfl) rfl rfl (fun w => by kernel_rfl) (fun b4 => .cons (Ev.step (ev_as rfl rfl) rfl rfl rfl (.go (fun _ _ h => h) (.ret (fun _ _ h => h) (ret1 Try.results28 rfl (.c .h .n) ⟨.slice (some ⟨b4, 0, none⟩) 1 1, [(Vis.mk 1 x)], (by unfold visF; first | rw [if_pos (by assumption)] | rw [if_neg (by assumption)]), rfl, rfl⟩))))))

theorem r_without (A : Option Addr) (n : Nat) (c : Nat) (l : List Vis) (s : Bool) (y : Int) (S : Nat → Prop) (wf : World) (hA : Fr eVis S wf A l) (hn : l.length = n) (hl : l.length ≤ 1000000) :
    TR0 Try.prog 39 [.slice A n c, .agg #[.bool s, .int .i64 y]] [] S wf (fun v_ C_ => ∃ (u : Value) (k : Int), (k = (l.length : Int) - (l.filter (offV (visF s y))).length) ∧ v_ = .tuple #[u, .int .i64 k] ∧ C_ = [rw_ eVis 44 (u) (l.filter (offV (visF s y)))]) := by
  refine TR.mk Try.func39 rfl Try.ntmps39 rfl rfl (fun w_ => ?_)
  refine .seq (.region (.cons (st_boxa rfl rfl rfl rfl rfl (fun b1 => .cons (Ev.step (ev_as rfl rfl) rfl rfl rfl (.cons (Ev.step (ev_as rfl rfl) rfl rfl rfl (.go (fun _ _ h => h) ?_))))))))
  refine .seq (.region (.cons (Ev.step (ev_as rfl rfl) rfl rfl rfl (.go (fun _ _ h => h) (.seq (.region ?_))))))
  refine .cons (Ev.step (ev_lda rfl rfl (At.whole 0 rfl) ty51) rfl rfl rfl (.cons (st_call0 rfl rfl rfl rfl hb28 rfl .n (r_vis s y _ _) (fun v_q4 C_q4 q4 => ?_))))
  obtain ⟨u2, m3, p5, rfl, rfl⟩ := q4
  show SP _ _ _ _ _ _ ⟨_, _ :: _, _, _⟩
  have hvl := visF_len p5
  have hvq := p5
  refine .cons (Ev.step (ev_as rfl rfl) rfl rfl rfl (.go (fun _ _ h => h) (.seq (.seq ?_))))
  refine SC.nilrow eVis 44 ?_
  refine .know (row_form 1 rfl (by omega)) (fun hv8 => ?_)
  obtain ⟨g6, c7, rfl, hv8_1, hv8_2⟩ := hv8
  unfold maxLen at hv8_2
  refine .region (.cons (Ev.step (ev_as rfl rfl) rfl rfl rfl (.go (fun _ _ h => h) (.block ?_))))
  refine .loop (X := Int × (List Vis) × Value) (fun ⟨x, X, U⟩ => 0 ≤ x ∧ x ≤ n ∧ (X.length : Int) ≤ x ∧ X = (l.take x.toNat).filter (offV m3)) (fun ⟨x, X, U⟩ => [(0, .slice A n c), (6, U), (7, .slice (some ⟨g6, 0, none⟩) m3.length c7), (8, .int .i64 x)]) (fun ⟨x, X, U⟩ => [rw_ eVis 44 (U) X, rw_ eVis 44 (.slice (some ⟨g6, 0, none⟩) m3.length c7) m3]) (fun _ => S) (fun _ => wf) (fun ⟨x, X, U⟩ => (n - x.toNat)) (fun a_ w_ hs_ hw_ => ⟨⟨0, ([] : List Vis), .slice none 0 0⟩, (by exact ⟨by omega, by omega, by simp, by simp⟩), hs_.mono (Sub.get (.c rfl (.c rfl (.c rfl (.c rfl .n))))), hw_.keep (.c .h (.c .h .n))⟩) (fun ⟨x, X, U⟩ ⟨q_0, q_1, q_2, q_3⟩ => ?_)
  show SC _ _ _ _ _ ⟨[(0, .slice A n c), (6, U), (7, .slice (some ⟨g6, 0, none⟩) m3.length c7), (8, .int .i64 x)], [rw_ eVis 44 (U) X, rw_ eVis 44 (.slice (some ⟨g6, 0, none⟩) m3.length c7) m3], S, wf⟩
  refine .seq (.seq (.region (.cons (Ev.step (ev_mv rfl rfl) rfl rfl rfl (.cons (Ev.step (ev_mv rfl rfl) rfl rfl rfl (.cons (Ev.step (ev_len rfl Try.underlying22 rfl) rfl rfl rfl ?_))))))))
  refine .cons (Ev.step (ev_cmp rfl rfl rfl rfl) rfl rfl rfl (.go (fun _ _ h => h) (.condI rfl bD (fun h9 => ?_) (fun h9 => ?_))))
  ·
    refine .skipgo (fun _ _ h => h) (.seq (.block (.seq ?_)))
    refine SC.draw mo [] [] .n (fun _ _ _ c hc => by cases hc) (fun wf_10 hl_10 hx_10 hR_10 => ?_)
    refine SR.take 0 rfl (by kernel_rfl) (by kernel_rfl) (by kernel_rfl) rfl (fun _ _ _ h => h) rfl rfl rfl (ev_mv rfl rfl) (SR.take 1 rfl (by kernel_rfl) (by kernel_rfl) (by kernel_rfl) rfl (fun _ _ _ h => h) rfl rfl rfl (ev_mv rfl rfl) (SR.take 2 rfl (by kernel_rfl) (by kernel_rfl) (by kernel_rfl) rfl (fun _ _ _ h => h) rfl rfl rfl (ev_ix rfl Try.underlying22 ty44 rfl rfl (by omega) (by omega) (fun _ _ => Fr.adr (i := x) (Fr.ext hA hx_10) (by omega) (by omega))) (SR.take 3 rfl (by kernel_rfl) (by kernel_rfl) (by kernel_rfl) rfl (fun _ _ _ h => h) rfl rfl rfl (ev_lda rfl rfl (At.d (Fr.el (i := x) (Fr.ext hA hx_10) (by omega) (by omega))) ty44) (SR.take 4 rfl (by kernel_rfl) (by kernel_rfl) (by kernel_rfl) rfl (fun _ _ _ h => h) rfl rfl rfl (ev_mv rfl rfl) (SR.take 5 rfl (by kernel_rfl) (by kernel_rfl) (by kernel_rfl) rfl (fun _ _ _ h => h) rfl rfl rfl (ev_ix rfl Try.underlying22 ty44 rfl rfl (by omega) (by omega) (fun _ _ => Fr.adr (i := 0) (Fr.lent (S := S) hR_10 1 rfl (by (try simp only [List.length_nil, List.length_cons, List.length_append, List.length_set, List.length_singleton, List.length_take, List.length_drop, List.length_reverse]) <;> omega)) (by omega) (by omega))) ?_)))))
    refine SR.take 6 rfl (by kernel_rfl) (by kernel_rfl) (by kernel_rfl) rfl (fun _ _ _ h => h) rfl rfl rfl (ev_lda rfl rfl (At.d (Fr.el (i := 0) (Fr.lent (S := S) hR_10 1 rfl (by (try simp only [List.length_nil, List.length_cons, List.length_append, List.length_set, List.length_singleton, List.length_take, List.length_drop, List.length_reverse]) <;> omega)) (by omega) (by omega))) ty44) (SR.take 7 rfl (by kernel_rfl) (by kernel_rfl) (by kernel_rfl) rfl (fun _ _ _ h => h) rfl rfl rfl (ev_bin rfl rfl rfl (r := .bool (!((((gt l x).kind) == ((gt m3 0).kind)) && (((gt l x).item) == ((gt m3 0).item))))) (ev44_neq _ _ _ _ _ _)) (SR.take 8 rfl (by kernel_rfl) (by kernel_rfl) (by kernel_rfl) rfl (fun _ _ _ h => h) rfl rfl rfl (ev_mv rfl rfl) (SR.gtake 9 rfl (by kernel_rfl) (by kernel_rfl) (by kernel_rfl) rfl (fun _ _ _ _ h => h) rfl rfl rfl rfl rfl (fun _ => ev_mv rfl rfl) (SR.gtake 10 rfl (by kernel_rfl) (by kernel_rfl) (by kernel_rfl) rfl (fun _ _ _ _ h => h) rfl rfl rfl rfl rfl (fun _ => ev_mv rfl rfl) (SR.gtake 11 rfl (by kernel_rfl) (by kernel_rfl) (by kernel_rfl) rfl (fun _ _ _ _ h => h) rfl rfl rfl rfl rfl (fun hb => have hp := bT (bN (bA bE bE)) hb; ev_ix rfl Try.underlying22 ty44 (lkg rfl hb) (lkg rfl hb) (by have _h := hp; omega) (by have _h := hp; omega) (fun _ _ => Fr.adr (i := x) (Fr.ext hA hx_10) (by have _h := hp; omega) (by have _h := hp; omega))) ?_)))))
    refine SR.gtake 12 rfl (by kernel_rfl) (by kernel_rfl) (by kernel_rfl) rfl (fun _ _ _ _ h => h) rfl rfl rfl rfl rfl (fun hb => have hp := bT (bN (bA bE bE)) hb; ev_lda rfl (lkg rfl hb) (At.d (Fr.el (i := x) (Fr.ext hA hx_10) (by have _h := hp; omega) (by have _h := hp; omega))) ty44) (SR.gtake 13 rfl (by kernel_rfl) (by kernel_rfl) (by kernel_rfl) rfl (fun _ _ _ _ h => h) rfl rfl rfl rfl rfl (fun _ => ev_mv rfl rfl) (SR.gtake 14 rfl (by kernel_rfl) (by kernel_rfl) (by kernel_rfl) rfl (fun _ _ _ _ h => h) rfl rfl rfl rfl rfl (fun _ => ev_mv rfl rfl) (SR.gtake 15 rfl (by kernel_rfl) (by kernel_rfl) (by kernel_rfl) rfl (fun _ _ _ _ h => h) rfl rfl rfl rfl rfl (fun hb => ev_len rfl Try.underlying22 (lkg rfl hb)) (SR.gtake 16 rfl (by kernel_rfl) (by kernel_rfl) (by kernel_rfl) rfl (fun _ _ _ _ h => h) rfl rfl rfl rfl rfl (fun hb => have hp := bT (bN (bA bE bE)) hb; ev_sub rfl (lkg rfl hb) rfl (r := ((m3.length : Int) - 1)) rfl (by have _h := hp; omega) (by have _h := hp; omega)) (SR.gtake 17 rfl (by kernel_rfl) (by kernel_rfl) (by kernel_rfl) rfl (fun _ _ _ _ h => h) rfl rfl rfl rfl rfl (fun hb => have hp := bT (bN (bA bE bE)) hb; ev_ix rfl Try.underlying22 ty44 (lkg rfl hb) (lkg rfl hb) (by have _h := hp; omega) (by have _h := hp; omega) (fun _ _ => Fr.adr (i := ((m3.length : Int) - 1)) (Fr.lent (S := S) hR_10 1 rfl (by (try simp only [List.length_nil, List.length_cons, List.length_append, List.length_set, List.length_singleton, List.length_take, List.length_drop, List.length_reverse]) <;> omega)) (by have _h := hp; omega) (by have _h := hp; omega))) ?_)))))
    refine SR.gtake 18 rfl (by kernel_rfl) (by kernel_rfl) (by kernel_rfl) rfl (fun _ _ _ _ h => h) rfl rfl rfl rfl rfl (fun hb => have hp := bT (bN (bA bE bE)) hb; ev_lda rfl (lkg rfl hb) (At.d (Fr.el (i := ((m3.length : Int) - 1)) (Fr.lent (S := S) hR_10 1 rfl (by (try simp only [List.length_nil, List.length_cons, List.length_append, List.length_set, List.length_singleton, List.length_take, List.length_drop, List.length_reverse]) <;> omega)) (by have _h := hp; omega) (by have _h := hp; omega))) ty44) (SR.gtake 19 rfl (by kernel_rfl) (by kernel_rfl) (by kernel_rfl) rfl (fun _ _ _ _ h => h) rfl rfl rfl rfl rfl (fun hb => ev_bin rfl (lkg rfl hb) (lkg rfl hb) (r := .bool (!((((gt l x).kind) == ((gt m3 ((m3.length : Int) - 1)).kind)) && (((gt l x).item) == ((gt m3 ((m3.length : Int) - 1)).item))))) (ev44_neq _ _ _ _ _ _)) (SR.take 20 rfl (by kernel_rfl) (by kernel_rfl) (by kernel_rfl) rfl (fun _ _ _ h => h) rfl rfl rfl (ev_and rfl rfl rfl rfl) (SR.fin (by kernel_rfl) hl_10 hx_10 hR_10 .n (SQ.go (fun _ _ h => h) (.condI rfl (bA (bN (bA bE bE)) (bN (bA bE bE))) (fun h11 => ?_) (fun h11 => ?_))))))
    ·
      refine .region (.cons (Ev.step (ev_mv rfl rfl) rfl rfl rfl (.cons (Ev.step (ev_mv rfl rfl) rfl rfl rfl (.cons (Ev.step (ev_mv rfl rfl) rfl rfl rfl (.cons (Ev.step (ev_ix rfl Try.underlying22 ty44 rfl rfl (by omega) (by omega) (fun _ _ => Fr.adr (i := x) hA (by omega) (by omega))) rfl rfl rfl (.cons (Ev.step (ev_lda rfl rfl (At.w (Fr.el (i := x) hA (by omega) (by omega))) ty44) rfl rfl rfl ?_))))))))))
      refine .cons (st_lit eVis (e := 44) (l := [(gt l x)]) rfl rfl rfl rfl (by kernel_rfl) rfl rfl (fun w => by kernel_rfl) (fun b12 => .cons (st_app (E := eVis) (m := [(gt l x)]) rfl rfl rfl rfl Try.underlying22 ai44 rfl rfl rfl (.t .h) (by first | rfl | omega | simp) (row_src 0 rfl) (by (try simp only [List.length_nil, List.length_cons, List.length_append, List.length_set, List.length_singleton, List.length_take, List.length_drop, List.length_reverse]) <;> omega) rfl (fun v13 => .cons (Ev.step (ev_as rfl rfl) rfl rfl rfl (.go (fun _ _ h => h) (.region (.cons (Ev.step (ev_mv rfl rfl) rfl rfl rfl ?_)))))))))
      exact .cons (Ev.step (ev_add rfl rfl rfl (r := (x + 1)) rfl (by omega) (by omega)) rfl rfl rfl (.cons (Ev.step (ev_as rfl rfl) rfl rfl rfl (SP.nil (SQ.round (X := Int × (List Vis) × Value) (x := (x, X, U)) ⟨(x + 1), (X ++ [(gt l x)]), v13⟩ (by exact ⟨by omega, by omega, by (try simp only [List.length_append, List.length_singleton]) <;> omega, (flt_step q_3 (by omega) (by omega)).1 (off_iff.2 (by assumption))⟩) (by dsimp only; omega) (Sub.get (.c rfl (.c rfl (.c rfl (.c rfl .n))))) (fun w hw => hw.keep (.c .h (.c (.t .h) .n))))))))
    ·
      exact .skipgo (fun _ _ h => h) (.region (.cons (Ev.step (ev_mv rfl rfl) rfl rfl rfl (.cons (Ev.step (ev_add rfl rfl rfl (r := (x + 1)) rfl (by omega) (by omega)) rfl rfl rfl (.cons (Ev.step (ev_as rfl rfl) rfl rfl rfl (SP.nil (SQ.round (X := Int × (List Vis) × Value) (x := (x, X, U)) ⟨(x + 1), X, U⟩ (by exact ⟨by omega, by omega, by (try simp only [List.length_append, List.length_singleton]) <;> omega, (flt_step q_3 (by omega) (by omega)).2 (by rw [← Bool.not_eq_true]; exact fun e => absurd (off_iff.1 e) (by assumption))⟩) (by dsimp only; omega) (Sub.get (.c rfl (.c rfl (.c rfl (.c rfl .n))))) (fun w hw => hw.keep (.c .h (.c .h .n))))))))))))
  ·
    refine .exit (fun _ _ h => h) (.seq (.region (.cons (Ev.step (ev_mv rfl rfl) rfl rfl rfl (.cons (Ev.step (ev_mv rfl rfl) rfl rfl rfl (.cons (Ev.step (ev_len rfl Try.underlying22 rfl) rfl rfl rfl ?_))))))))
    refine .cons (Ev.step (ev_mv rfl rfl) rfl rfl rfl ?_)
    refine .know (row_len 0 rfl) (fun hv16 => ?_)
    obtain ⟨A14, c15, rfl, hv16_1, hv16_2⟩ := hv16
    unfold maxLen at hv16_2
    exact .cons (Ev.step (ev_len rfl Try.underlying22 rfl) rfl rfl rfl (.cons (Ev.step (ev_sub rfl rfl rfl (r := ((n : Int) - (X.length : Int))) rfl (by omega) (by omega)) rfl rfl rfl (.cons (Ev.step (ev_as rfl rfl) rfl rfl rfl (.cons (Ev.step (ev_as rfl rfl) rfl rfl rfl (.go (fun _ _ h => h) (.ret (fun _ _ h => h) (ret2 Try.results39 rfl rfl (.c .h .n) ⟨.slice A14 X.length c15, ((n : Int) - (X.length : Int)), (by rw [List.take_of_length_le (by omega)] at q_3; rw [← hvq, ← q_3]; omega), rfl, (by rw [List.take_of_length_le (by omega)] at q_3; rw [← hvq, ← q_3])⟩))))))))))

end Go.Proofs.Ytfmfhkaimhmgdaa.Sx
