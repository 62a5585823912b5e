import Derived.Test.YteabdapdlfhncaaProg
import Derived.Test.YteabdapdlfhncaaSxWin
set_option maxRecDepth 20000
set_option maxHeartbeats 4000000
set_option linter.unusedVariables false
set_option linter.unusedSimpArgs false
namespace Go.Proofs.Yteabdapdlfhncaa.Sx.FA
open Go Go.SX Go.Proofs
theorem ty36 : ty Try.prog 36 = some (true, 2) := by kernel_rfl
theorem mo : Try.prog.follows .mixedOrders = true := by kernel_rfl
theorem ai36 : (Try.prog.info? 36).map (fun i => (i.zero, i.size, i.bytes)) = some (some (.agg #[.int .i64 0, .int .i64 0]), 2, 16) := by kernel_rfl
theorem fo42_0 : fo Try.prog 42 0 = some 0 := by kernel_rfl
theorem ty22 : ty Try.prog 22 = some (false, 1) := by kernel_rfl
theorem hb18 : hasBody Try.prog 18 = true := by kernel_rfl
theorem eqIn36 (d : Nat) (x0 y0 : Int) (x1 y1 : Int) (w : World) : (Op.equalIn (d + 3) 36 (.agg #[(.int .i64 x0), (.int .i64 x1)]) (.agg #[(.int .i64 y0), (.int .i64 y1)])).run Try.prog w = .ok ((x0 == y0) && (x1 == y1)) w := by
  rw [run_equalIn_struct w (d + 2) 36 _ _ (by kernel_rfl) (by kernel_rfl)]
  have hf : (Try.prog.fieldsOf 36).toList = [{ name := "Kind", type := 34, offset := 0, embedded := false, tag := "", pkgPath := "", byteOffset := 0 }, { name := "Item", type := 3, offset := 1, embedded := false, tag := "", pkgPath := "", byteOffset := 8 }] := by kernel_rfl
  rw [hf]
  have h34 : ∀ (x y : Int) (w : World), (Op.equalIn (d + 2) 34 (.int .i64 x) (.int .i64 y)).run Try.prog w = .ok (x == y) w := fun x y w => by
    simp [Op.equalIn, run_underlying Try.underlying34]
  have h3 : ∀ (x y : Int) (w : World), (Op.equalIn (d + 2) 3 (.int .i64 x) (.int .i64 y)).run Try.prog w = .ok (x == y) w := fun x y w => by
    simp [Op.equalIn, run_underlying Try.underlying3]
  have p0 : ∀ (x0 : Int) (x1 : Int) (w : World), (part 34 #[(.int .i64 x0), (.int .i64 x1)] 0).run Try.prog w = .ok (.int .i64 x0) w := fun _ _ _ => by kernel_rfl
  have p1 : ∀ (x0 : Int) (x1 : Int) (w : World), (part 3 #[(.int .i64 x0), (.int .i64 x1)] 1).run Try.prog w = .ok (.int .i64 x1) w := fun _ _ _ => by kernel_rfl
  simp only [Op.eqFields, Sem.run_bind, h34, h3, p0, p1, Result.andThen_ok, Sem.run_ite, ne_eq]
  cases g0 : (x0 == y0) <;> cases g1 : (x1 == y1) <;> simp [g0, g1]
theorem ev36_eql (x y : Operand) (x0 y0 : Int) (x1 y1 : Int) (w : World) : (do eqGuard .eql 36 x y (.agg #[(.int .i64 x0), (.int .i64 x1)]) (.agg #[(.int .i64 y0), (.int .i64 y1)]); binOp .eql 36 (.agg #[(.int .i64 x0), (.int .i64 x1)]) (.agg #[(.int .i64 y0), (.int .i64 y1)]) : Sem Value).run Try.prog w = .ok (.bool (((x0 == y0) && (x1 == y1)))) w := by
  have h1 : (Op.equal 36 (.agg #[(.int .i64 x0), (.int .i64 x1)]) (.agg #[(.int .i64 y0), (.int .i64 y1)])).run Try.prog w = .ok ((x0 == y0) && (x1 == y1)) w := eqIn36 9997 x0 y0 x1 y1 w
  have h2 : (eqGuard .eql 36 x y (.agg #[(.int .i64 x0), (.int .i64 x1)]) (.agg #[(.int .i64 y0), (.int .i64 y1)])).run Try.prog w = .ok () w := by kernel_rfl
  simp only [Sem.run_bind, h2, Result.andThen_ok, binOp, h1]
  rfl
theorem ev36_neq (x y : Operand) (x0 y0 : Int) (x1 y1 : Int) (w : World) : (do eqGuard .neq 36 x y (.agg #[(.int .i64 x0), (.int .i64 x1)]) (.agg #[(.int .i64 y0), (.int .i64 y1)]); binOp .neq 36 (.agg #[(.int .i64 x0), (.int .i64 x1)]) (.agg #[(.int .i64 y0), (.int .i64 y1)]) : Sem Value).run Try.prog w = .ok (.bool (!((x0 == y0) && (x1 == y1)))) w := by
  have h1 : (Op.equal 36 (.agg #[(.int .i64 x0), (.int .i64 x1)]) (.agg #[(.int .i64 y0), (.int .i64 y1)])).run Try.prog w = .ok ((x0 == y0) && (x1 == y1)) w := eqIn36 9997 x0 y0 x1 y1 w
  have h2 : (eqGuard .neq 36 x y (.agg #[(.int .i64 x0), (.int .i64 x1)]) (.agg #[(.int .i64 y0), (.int .i64 y1)])).run Try.prog w = .ok () w := by kernel_rfl
  simp only [Sem.run_bind, h2, Result.andThen_ok, binOp, h1]
  rfl


end Go.Proofs.Yteabdapdlfhncaa.Sx.FA
namespace Go.Proofs.Yteabdapdlfhncaa.Sx
open Go Go.SX Go.Proofs FA





theorem same (A : Option Addr) (c : Nat) (l : List Vis) (B : Option Addr) (d : Nat) (m : List Vis) (S : Nat → Prop) (wf : World) (hA : Fr eVis S wf A l) (hB : Fr eVis S wf B m) :
    TR0 Try.prog 9 [.slice A l.length c, .slice B m.length d] [] S wf (fun v_ C_ => v_ = .bool (decide (l = m)) ∧ C_ = []) := by
  have hl := hA.len
  have hm := hB.len
  refine TR.mk Try.func9 rfl Try.ntmps9 rfl rfl (fun w_ => ?_)
  refine .seq (.region (.cons (Ev.step (ev_as rfl rfl) rfl rfl rfl (.go (fun _ _ h => h) (.seq (.seq ?_))))))
  refine .region (.cons (Ev.step (ev_mv rfl rfl) rfl rfl rfl (.cons (Ev.step (ev_len rfl Try.underlying22 rfl) rfl rfl rfl (.cons (Ev.step (ev_mv rfl rfl) rfl rfl rfl (.cons (Ev.step (ev_len rfl Try.underlying22 rfl) rfl rfl rfl (.cons (Ev.step (ev_cmp rfl rfl rfl rfl) rfl rfl rfl ?_))))))))))
  refine .go (fun _ _ h => h) (.condI rfl bNE (fun h1 => ?_) (fun h1 => ?_))
  ·
    exact .seq (.region (.cons (Ev.step (ev_as rfl rfl) rfl rfl rfl (.go (fun _ _ h => h) (.ret (fun _ _ h => h) (ret1 Try.results9 rfl .n ⟨congrArg Value.bool (same_len (by omega)), rfl⟩))))))
  ·
    refine .skipgo (fun _ _ h => h) (.seq (.seq (.region (.cons (Ev.step (ev_as rfl rfl) rfl rfl rfl (.go (fun _ _ h => h) ?_))))))
    refine .block ?_
    refine .loop (X := Int) (fun i => 0 ≤ i ∧ i ≤ l.length ∧ l.length = m.length ∧ l.take i.toNat = m.take i.toNat) (fun i => [(0, .slice A l.length c), (1, .slice B m.length d), (4, .bool false), (5, .int .i64 i)]) (fun i => []) (fun _ => S) (fun _ => wf) (fun i => (l.length - i.toNat)) (fun a_ w_ hs_ hw_ => ⟨0, ⟨by omega, by omega, by omega, by simp⟩, hs_.mono (Sub.get (.c rfl (.c rfl (.c rfl (.c rfl .n))))), hw_.keep .n⟩) (fun i ⟨q_0, q_1, q_2, q_3⟩ => ?_)
    show SC _ _ _ _ _ ⟨[(0, .slice A l.length c), (1, .slice B m.length d), (4, .bool false), (5, .int .i64 i)], [], S, wf⟩
    refine .seq (.seq (.region (.cons (Ev.step (ev_mv rfl rfl) rfl rfl rfl (.cons (Ev.step (ev_mv rfl rfl) rfl rfl rfl (.cons (Ev.step (ev_len rfl Try.underlying22 rfl) rfl rfl rfl ?_))))))))
    refine .cons (Ev.step (ev_cmp rfl rfl rfl rfl) rfl rfl rfl (.go (fun _ _ h => h) (.condI rfl bD (fun h2 => ?_) (fun h2 => ?_))))
    ·
      refine .skipgo (fun _ _ h => h) (.seq (.block (.seq ?_)))
      refine SC.draw mo [] [] .n (fun _ _ _ c hc => by cases hc) (fun wf_3 hl_3 hx_3 hR_3 => ?_)
      refine SR.take 0 rfl (by kernel_rfl) (by kernel_rfl) (by kernel_rfl) rfl (fun _ _ _ h => h) rfl rfl rfl (ev_mv rfl rfl) (SR.take 1 rfl (by kernel_rfl) (by kernel_rfl) (by kernel_rfl) rfl (fun _ _ _ h => h) rfl rfl rfl (ev_mv rfl rfl) (SR.take 2 rfl (by kernel_rfl) (by kernel_rfl) (by kernel_rfl) rfl (fun _ _ _ h => h) rfl rfl rfl (ev_ix rfl Try.underlying22 ty36 rfl rfl (by omega) (by omega) (fun _ _ => Fr.adr (i := i) (Fr.ext hA hx_3) (by omega) (by omega))) (SR.take 3 rfl (by kernel_rfl) (by kernel_rfl) (by kernel_rfl) rfl (fun _ _ _ h => h) rfl rfl rfl (ev_lda rfl rfl (At.d (Fr.el (i := i) (Fr.ext hA hx_3) (by omega) (by omega))) ty36) (SR.take 4 rfl (by kernel_rfl) (by kernel_rfl) (by kernel_rfl) rfl (fun _ _ _ h => h) rfl rfl rfl (ev_mv rfl rfl) (SR.take 5 rfl (by kernel_rfl) (by kernel_rfl) (by kernel_rfl) rfl (fun _ _ _ h => h) rfl rfl rfl (ev_mv rfl rfl) ?_)))))
      refine SR.take 6 rfl (by kernel_rfl) (by kernel_rfl) (by kernel_rfl) rfl (fun _ _ _ h => h) rfl rfl rfl (ev_ix rfl Try.underlying22 ty36 rfl rfl (by omega) (by omega) (fun _ _ => Fr.adr (i := i) (Fr.ext hB hx_3) (by omega) (by omega))) (SR.take 7 rfl (by kernel_rfl) (by kernel_rfl) (by kernel_rfl) rfl (fun _ _ _ h => h) rfl rfl rfl (ev_lda rfl rfl (At.d (Fr.el (i := i) (Fr.ext hB hx_3) (by omega) (by omega))) ty36) (SR.take 8 rfl (by kernel_rfl) (by kernel_rfl) (by kernel_rfl) rfl (fun _ _ _ h => h) rfl rfl rfl (ev_bin rfl rfl rfl (r := .bool (!((((gt l i).kind) == ((gt m i).kind)) && (((gt l i).item) == ((gt m i).item))))) (ev36_neq _ _ _ _ _ _)) (SR.fin (by kernel_rfl) hl_3 hx_3 hR_3 .n (SQ.go (fun _ _ h => h) (.condI rfl (bN (bA bE bE)) (fun h4 => ?_) (fun h4 => ?_))))))
      ·
        exact .seq (.region (.cons (Ev.step (ev_as rfl rfl) rfl rfl rfl (.go (fun _ _ h => h) (.ret (fun _ _ h => h) (ret1 Try.results9 rfl .n ⟨congrArg Value.bool (same_no q_0 (by omega) (by omega) (by assumption)), rfl⟩))))))
      ·
        exact .skipgo (fun _ _ h => h) (.region (.cons (Ev.step (ev_mv rfl rfl) rfl rfl rfl (.cons (Ev.step (ev_add rfl rfl rfl (r := (i + 1)) rfl (by omega) (by omega)) rfl rfl rfl (.cons (Ev.step (ev_as rfl rfl) rfl rfl rfl (SP.nil (SQ.round (X := Int) (x := (i)) (i + 1) ⟨by omega, by omega, by omega, same_next q_0 (by omega) (by omega) q_3 (by assumption)⟩ (by show (_ : Nat) < _; omega) (Sub.get (.c rfl (.c rfl (.c rfl (.c rfl .n))))) (fun w hw => hw.keep .n))))))))))
    ·
      exact .exit (fun _ _ h => h) (.seq (.region (.cons (Ev.step (ev_as rfl rfl) rfl rfl rfl (.go (fun _ _ h => h) (.ret (fun _ _ h => h) (ret1 Try.results9 rfl .n ⟨congrArg Value.bool (same_end (by omega) q_2 q_3), rfl⟩)))))))

theorem clone (A : Option Addr) (n : Nat) (c : Nat) (l : List Vis) (S : Nat → Prop) (wf : World) (hA : Fr eVis S wf A l) (hn : l.length = n) (hl : l.length ≤ 1000000) :
    TR0 Try.prog 18 [.slice A n c] [] S wf (fun v_ C_ => ∃ (v : Value), v_ = v ∧ C_ = [rw_ eVis 36 (v) l]) := by
  refine TR.mk Try.func18 rfl Try.ntmps18 rfl rfl (fun w_ => ?_)
  refine .seq (.region (.cons (Ev.step (ev_as rfl rfl) rfl rfl rfl (.go (fun _ _ h => h) (.seq (.seq ?_))))))
  refine .region (.cons (Ev.step (ev_mv rfl rfl) rfl rfl rfl (.cons (Ev.step (ev_nils rfl Try.underlying22 rfl rfl (by rfl)) rfl rfl rfl (.go (fun _ _ h => h) (.condI rfl bV (fun h1 => ?_) (fun h1 => ?_)))))))
  ·
    refine .seq (.region (.cons (Ev.step (ev_as rfl rfl) rfl rfl rfl (.go (fun _ _ h => h) ?_))))
    refine SC.nilrow eVis 36 ?_
    exact .ret (fun _ _ h => h) (ret1 Try.results18 rfl (.c .h .n) ⟨.slice none 0 0, rfl, (by rw [clone_nil hA (by assumption)])⟩)
  ·
    refine .skipgo (fun _ _ h => h) (.seq (.region (.cons (st_lit eVis (e := 36) (l := []) rfl rfl rfl rfl (by kernel_rfl) rfl rfl (fun w => by kernel_rfl) (fun b2 => .cons (Ev.step (ev_mv rfl rfl) rfl rfl rfl (.cons (st_app0 (E := eVis) (m := l) rfl rfl rfl rfl Try.underlying22 ai36 rfl rfl rfl .h (by first | rfl | omega | simp) (Src.w (Fr.flat hA)) (by first | ((try simp only [List.length_nil, List.length_cons, List.length_append, List.length_set, List.length_singleton, List.length_take, List.length_drop, List.length_reverse]) <;> omega) | omega) rfl (fun v3 => ?_)))))))))
    exact .cons (Ev.step (ev_as rfl rfl) rfl rfl rfl (.go (fun _ _ h => h) (.ret (fun _ _ h => h) (ret1 Try.results18 rfl (.c .h .n) ⟨v3, rfl, rfl⟩))))

theorem in_ (i : Int) (n : Int) (S : Nat → Prop) (wf : World) :
    TR0 Try.prog 19 [.int .i64 i, .int .i64 n] [] S wf (fun v_ C_ => v_ = .bool (decide (i ≥ 0) && decide (i < n)) ∧ C_ = []) := by
  refine TR.mk Try.func19 rfl Try.ntmps19 rfl rfl (fun w_ => ?_)
  refine .seq (.region (.cons (Ev.step (ev_as rfl rfl) rfl rfl rfl (.go (fun _ _ h => h) (.seq (.region ?_))))))
  refine .cons (Ev.step (ev_mv rfl rfl) rfl rfl rfl (.cons (Ev.step (ev_cmp rfl rfl rfl rfl) rfl rfl rfl (.cons (Ev.step (ev_mv rfl rfl) rfl rfl rfl (.cons (Ev.gstep (fun _ => ev_mv rfl rfl) rfl rfl rfl rfl rfl (.cons (Ev.gstep (fun _ => ev_mv rfl rfl) rfl rfl rfl rfl rfl (.cons (Ev.gstep (fun hb => ev_cmp rfl (lkg rfl hb) (lkg rfl hb) rfl) rfl rfl rfl rfl rfl ?_)))))))))))
  exact .cons (Ev.step (ev_and rfl rfl rfl rfl) rfl rfl rfl (.cons (Ev.step (ev_as rfl rfl) rfl rfl rfl (.go (fun _ _ h => h) (.ret (fun _ _ h => h) (ret1 Try.results19 rfl .n ⟨rfl, rfl⟩))))))

theorem len_ (g : Nat) (A : Option Addr) (n : Nat) (c : Nat) (S : Nat → Prop) (wf : World) :
    TR0 Try.prog 20 [.pointer (some ⟨g, 0, none⟩)] [cel g [.slice A n c] 42] S wf (fun v_ C_ => v_ = .int .i64 (n : Int) ∧ C_ = [cel g [.slice A n c] 42]) := by
  refine TR.mk Try.func20 rfl Try.ntmps20 rfl rfl (fun w_ => ?_)
  refine .seq (.region (.cons (Ev.step (ev_as rfl rfl) rfl rfl rfl (.go (fun _ _ h => h) (.seq (.seq ?_))))))
  refine .region (.cons (Ev.step (ev_mv rfl rfl) rfl rfl rfl (.cons (Ev.step (ev_bin rfl rfl rfl (r := .bool false) (fun _ => by kernel_rfl)) rfl rfl rfl (.go (fun _ _ h => h) (.cond_f rfl (.skipgo (fun _ _ h => h) ?_)))))))
  refine .seq (.region (.cons (Ev.step (ev_mv rfl rfl) rfl rfl rfl (.cons (Ev.step (ev_nil rfl rfl) rfl rfl rfl (.cons (Ev.step (ev_fa rfl fo42_0 rfl (r := 0) rfl) rfl rfl rfl (.cons (Ev.step (ev_ld1 rfl ty22 rfl (At.own1 0 rfl rfl)) rfl rfl rfl ?_)))))))))
  exact .cons (Ev.step (ev_len rfl Try.underlying22 rfl) rfl rfl rfl (.cons (Ev.step (ev_as rfl rfl) rfl rfl rfl (.go (fun _ _ h => h) (.ret (fun _ _ h => h) (ret1 Try.results20 rfl (.c .h .n) ⟨rfl, rfl⟩))))))

theorem len_nil (S : Nat → Prop) (wf : World) :
    TR0 Try.prog 20 [.pointer none] [] S wf (fun v_ C_ => v_ = .int .i64 0 ∧ C_ = []) := by
  refine TR.mk Try.func20 rfl Try.ntmps20 rfl rfl (fun w_ => ?_)
  refine .seq (.region (.cons (Ev.step (ev_as rfl rfl) rfl rfl rfl (.go (fun _ _ h => h) (.seq (.seq ?_))))))
  refine .region (.cons (Ev.step (ev_mv rfl rfl) rfl rfl rfl (.cons (Ev.step (ev_bin rfl rfl rfl (r := .bool true) (fun _ => by kernel_rfl)) rfl rfl rfl (.go (fun _ _ h => h) (.cond_t rfl (.seq ?_)))))))
  exact .region (.cons (Ev.step (ev_as rfl rfl) rfl rfl rfl (.go (fun _ _ h => h) (.ret (fun _ _ h => h) (ret1 Try.results20 rfl .n ⟨rfl, rfl⟩)))))

theorem new_ (A : Option Addr) (c : Nat) (l : List Vis) (S : Nat → Prop) (wf : World) (hA : Fr eVis S wf A l) (hl : l.length ≤ 1000000) :
    TR0 Try.prog 7 [.slice A l.length c] [] S wf (fun v_ C_ => ∃ (g : Nat) (v : Value), v_ = .pointer (some ⟨g, 0, none⟩) ∧ C_ = [cel g [v] 42, rw_ eVis 36 (v) l]) := by
  refine TR.mk Try.func7 rfl Try.ntmps7 rfl rfl (fun w_ => ?_)
  refine .seq (.region (.cons (Ev.step (ev_as rfl rfl) rfl rfl rfl (.go (fun _ _ h => h) (.seq (.region ?_))))))
  refine .cons (Ev.step (ev_mv rfl rfl) rfl rfl rfl (.cons (st_call0 rfl rfl rfl rfl hb18 rfl .n (clone A l.length c l _ _ hA (by first | ((try simp only [List.length_nil, List.length_cons, List.length_append, List.length_set, List.length_singleton, List.length_take, List.length_drop, List.length_reverse]) <;> omega) | omega) (by first | ((try simp only [List.length_nil, List.length_cons, List.length_append, List.length_set, List.length_singleton, List.length_take, List.length_drop, List.length_reverse]) <;> omega) | omega)) (fun v_q2 C_q2 q2 => ?_))))
  obtain ⟨v1, rfl, rfl⟩ := q2
  show SP _ _ _ _ _ _ ⟨_, _ :: _, _, _⟩
  refine .know (row_len 0 rfl) (fun hv5 => ?_)
  obtain ⟨A3, c4, rfl, hv5_1, hv5_2⟩ := hv5
  unfold maxLen at hv5_2
  exact .cons (Ev.step (ev_any (v := .agg #[.slice A3 l.length c4]) rfl (by kernel_rfl) (fun _ => by kernel_rfl)) rfl rfl rfl (.cons (st_boxa rfl rfl rfl rfl rfl (fun b6 => .cons (Ev.step (ev_as rfl rfl) rfl rfl rfl (.go (fun _ _ h => h) (.ret (fun _ _ h => h) (ret1 Try.results7 rfl (.c .h (.c .h .n)) ⟨b6, .slice A3 l.length c4, rfl, rfl⟩))))))))

theorem visits_ (g : Nat) (v : Value) (l : List Vis) (S : Nat → Prop) (wf : World) (hl : l.length ≤ 1000000) :
    TR0 Try.prog 10 [.pointer (some ⟨g, 0, none⟩)] [cel g [v] 42, rw_ eVis 36 (v) l] S wf (fun v_ C_ => ∃ (u : Value), v_ = u ∧ C_ = [cel g [v] 42, rw_ eVis 36 (v) l, rw_ eVis 36 (u) l]) := by
  refine TR.mk Try.func10 rfl Try.ntmps10 rfl rfl (fun w_ => ?_)
  refine .seq (.region (.cons (Ev.step (ev_as rfl rfl) rfl rfl rfl (.go (fun _ _ h => h) (.seq (.seq ?_))))))
  refine .region (.cons (Ev.step (ev_mv rfl rfl) rfl rfl rfl (.cons (Ev.step (ev_bin rfl rfl rfl (r := .bool false) (fun _ => by kernel_rfl)) rfl rfl rfl (.go (fun _ _ h => h) (.cond_f rfl (.skipgo (fun _ _ h => h) ?_)))))))
  refine .seq (.region (.cons (Ev.step (ev_mv rfl rfl) rfl rfl rfl (.cons (Ev.step (ev_nil rfl rfl) rfl rfl rfl (.cons (Ev.step (ev_fa rfl fo42_0 rfl (r := 0) rfl) rfl rfl rfl (.cons (Ev.step (ev_ld1 rfl ty22 rfl (At.own1 0 rfl rfl)) rfl rfl rfl ?_)))))))))
  refine .know (row_len 1 rfl) (fun hv3 => ?_)
  obtain ⟨A1, c2, rfl, hv3_1, hv3_2⟩ := hv3
  unfold maxLen at hv3_2
  refine .cons (st_lend0 rfl rfl rfl rfl hb18 rfl .n (.c (.t .h) .n) (fun w_ hw => clone A1 l.length c2 l _ _ (Fr.lend hw 0 rfl (by first | ((try simp only [List.length_nil, List.length_cons, List.length_append, List.length_set, List.length_singleton, List.length_take, List.length_drop, List.length_reverse]) <;> omega) | omega)) (by first | ((try simp only [List.length_nil, List.length_cons, List.length_append, List.length_set, List.length_singleton, List.length_take, List.length_drop, List.length_reverse]) <;> omega) | omega) (by first | ((try simp only [List.length_nil, List.length_cons, List.length_append, List.length_set, List.length_singleton, List.length_take, List.length_drop, List.length_reverse]) <;> omega) | omega)) (fun v_q5 C_q5 q5 => ?_))
  obtain ⟨v4, rfl, rfl⟩ := q5
  show SP _ _ _ _ _ _ ⟨_, _ :: _ :: _, _, _⟩
  exact .cons (Ev.step (ev_as rfl rfl) rfl rfl rfl (.go (fun _ _ h => h) (.ret (fun _ _ h => h) (ret1 Try.results10 rfl (.c (.t (.t .h)) (.c (.t .h) (.c .h .n))) ⟨v_q5, rfl, rfl⟩))))

theorem visits_nil (S : Nat → Prop) (wf : World) :
    TR0 Try.prog 10 [.pointer none] [] S wf (fun v_ C_ => v_ = .slice none 0 0 ∧ C_ = []) := by
  refine TR.mk Try.func10 rfl Try.ntmps10 rfl rfl (fun w_ => ?_)
  refine .seq (.region (.cons (Ev.step (ev_as rfl rfl) rfl rfl rfl (.go (fun _ _ h => h) (.seq (.seq ?_))))))
  refine .region (.cons (Ev.step (ev_mv rfl rfl) rfl rfl rfl (.cons (Ev.step (ev_bin rfl rfl rfl (r := .bool true) (fun _ => by kernel_rfl)) rfl rfl rfl (.go (fun _ _ h => h) (.cond_t rfl (.seq ?_)))))))
  exact .region (.cons (Ev.step (ev_as rfl rfl) rfl rfl rfl (.go (fun _ _ h => h) (.ret (fun _ _ h => h) (ret1 Try.results10 rfl .n ⟨rfl, rfl⟩)))))

end Go.Proofs.Yteabdapdlfhncaa.Sx
