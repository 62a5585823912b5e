import Derived.Test.YtfmfhkaimhmgdaaProg
import Derived.Test.YtfmfhkaimhmgdaaSxGrow
set_option maxRecDepth 20000
set_option linter.unusedVariables false
set_option linter.unusedSimpArgs false
namespace Go.Proofs.Ytfmfhkaimhmgdaa.Sx.FA
open Go Go.SX Go.Proofs
theorem ty44 : ty Try.prog 44 = some (true, 2) := by kernel_rfl
theorem mo : Try.prog.follows .mixedOrders = true := by kernel_rfl
theorem ai44 : (Try.prog.info? 44).map (fun i => (i.zero, i.size, i.bytes)) = some (some (.agg #[.int .i64 0, .int .i64 0]), 2, 16) := by kernel_rfl
theorem hb41 : hasBody Try.prog 41 = true := by kernel_rfl
theorem zf51 : (Try.prog.info? 51).bind (fun i => i.zero.map Value.cells) = some (List.toArray [.bool false, .int .i64 0]) := by kernel_rfl
theorem fo44_0 : fo Try.prog 44 0 = some 0 := by kernel_rfl
theorem ty42 : ty Try.prog 42 = some (false, 1) := by kernel_rfl
theorem fo44_1 : fo Try.prog 44 1 = some 1 := by kernel_rfl
theorem ty3 : ty Try.prog 3 = some (false, 1) := by kernel_rfl
theorem ty51 : ty Try.prog 51 = some (true, 2) := by kernel_rfl
theorem fo51_0 : fo Try.prog 51 0 = some 0 := by kernel_rfl
theorem ty4 : ty Try.prog 4 = some (false, 1) := by kernel_rfl
theorem fo51_1 : fo Try.prog 51 1 = some 1 := by kernel_rfl
theorem eqIn44 (d : Nat) (x0 y0 : Int) (x1 y1 : Int) (w : World) : (Op.equalIn (d + 3) 44 (.agg #[(.int .i64 x0), (.int .i64 x1)]) (.agg #[(.int .i64 y0), (.int .i64 y1)])).run Try.prog w = .ok ((x0 == y0) && (x1 == y1)) w := by
  rw [run_equalIn_struct w (d + 2) 44 _ _ (by kernel_rfl) (by kernel_rfl)]
  have hf : (Try.prog.fieldsOf 44).toList = [{ name := "Kind", type := 42, offset := 0, embedded := false, tag := "", pkgPath := "", byteOffset := 0 }, { name := "Item", type := 3, offset := 1, embedded := false, tag := "", pkgPath := "", byteOffset := 8 }] := by kernel_rfl
  rw [hf]
  have h42 : ∀ (x y : Int) (w : World), (Op.equalIn (d + 2) 42 (.int .i64 x) (.int .i64 y)).run Try.prog w = .ok (x == y) w := fun x y w => by
    simp [Op.equalIn, run_underlying Try.underlying42]
  have h3 : ∀ (x y : Int) (w : World), (Op.equalIn (d + 2) 3 (.int .i64 x) (.int .i64 y)).run Try.prog w = .ok (x == y) w := fun x y w => by
    simp [Op.equalIn, run_underlying Try.underlying3]
  have p0 : ∀ (x0 : Int) (x1 : Int) (w : World), (part 42 #[(.int .i64 x0), (.int .i64 x1)] 0).run Try.prog w = .ok (.int .i64 x0) w := fun _ _ _ => by kernel_rfl
  have p1 : ∀ (x0 : Int) (x1 : Int) (w : World), (part 3 #[(.int .i64 x0), (.int .i64 x1)] 1).run Try.prog w = .ok (.int .i64 x1) w := fun _ _ _ => by kernel_rfl
  simp only [Op.eqFields, Sem.run_bind, h42, h3, p0, p1, Result.andThen_ok, Sem.run_ite, ne_eq]
  cases g0 : (x0 == y0) <;> cases g1 : (x1 == y1) <;> simp [g0, g1]
theorem ev44_eql (x y : Operand) (x0 y0 : Int) (x1 y1 : Int) (w : World) : (do eqGuard .eql 44 x y (.agg #[(.int .i64 x0), (.int .i64 x1)]) (.agg #[(.int .i64 y0), (.int .i64 y1)]); binOp .eql 44 (.agg #[(.int .i64 x0), (.int .i64 x1)]) (.agg #[(.int .i64 y0), (.int .i64 y1)]) : Sem Value).run Try.prog w = .ok (.bool (((x0 == y0) && (x1 == y1)))) w := by
  have h1 : (Op.equal 44 (.agg #[(.int .i64 x0), (.int .i64 x1)]) (.agg #[(.int .i64 y0), (.int .i64 y1)])).run Try.prog w = .ok ((x0 == y0) && (x1 == y1)) w := eqIn44 9997 x0 y0 x1 y1 w
  have h2 : (eqGuard .eql 44 x y (.agg #[(.int .i64 x0), (.int .i64 x1)]) (.agg #[(.int .i64 y0), (.int .i64 y1)])).run Try.prog w = .ok () w := by kernel_rfl
  simp only [Sem.run_bind, h2, Result.andThen_ok, binOp, h1]
  rfl
theorem ev44_neq (x y : Operand) (x0 y0 : Int) (x1 y1 : Int) (w : World) : (do eqGuard .neq 44 x y (.agg #[(.int .i64 x0), (.int .i64 x1)]) (.agg #[(.int .i64 y0), (.int .i64 y1)]); binOp .neq 44 (.agg #[(.int .i64 x0), (.int .i64 x1)]) (.agg #[(.int .i64 y0), (.int .i64 y1)]) : Sem Value).run Try.prog w = .ok (.bool (!((x0 == y0) && (x1 == y1)))) w := by
  have h1 : (Op.equal 44 (.agg #[(.int .i64 x0), (.int .i64 x1)]) (.agg #[(.int .i64 y0), (.int .i64 y1)])).run Try.prog w = .ok ((x0 == y0) && (x1 == y1)) w := eqIn44 9997 x0 y0 x1 y1 w
  have h2 : (eqGuard .neq 44 x y (.agg #[(.int .i64 x0), (.int .i64 x1)]) (.agg #[(.int .i64 y0), (.int .i64 y1)])).run Try.prog w = .ok () w := by kernel_rfl
  simp only [Sem.run_bind, h2, Result.andThen_ok, binOp, h1]
  rfl


end Go.Proofs.Ytfmfhkaimhmgdaa.Sx.FA
namespace Go.Proofs.Ytfmfhkaimhmgdaa.Sx
open Go Go.SX Go.Proofs FA





theorem same (A : Option Addr) (c : Nat) (l : List Vis) (B : Option Addr) (d : Nat) (m : List Vis) (S : Nat → Prop) (wf : World) (hA : Fr eVis S wf A l) (hB : Fr eVis S wf B m) :
    TR0 Try.prog 14 [.slice A l.length c, .slice B m.length d] [] S wf (fun v_ C_ => v_ = .bool (decide (l = m)) ∧ C_ = []) := by
  have hl := hA.len
  have hm := hB.len
  refine TR.mk Try.func14 rfl Try.ntmps14 rfl rfl (fun w_ => ?_)
  refine .seq (.region (.cons (Ev.step (ev_as rfl rfl) rfl rfl rfl (.go (fun _ _ h => h) (.seq (.seq ?_))))))
  refine .region (.cons (Ev.step (ev_mv rfl rfl) rfl rfl rfl (.cons (Ev.step (ev_len rfl Try.underlying22 rfl) rfl rfl rfl (.cons (Ev.step (ev_mv rfl rfl) rfl rfl rfl (.cons (Ev.step (ev_len rfl Try.underlying22 rfl) rfl rfl rfl (.cons (Ev.step (ev_cmp rfl rfl rfl rfl) rfl rfl rfl ?_))))))))))
  refine .go (fun _ _ h => h) (.condI rfl bNE (fun h1 => ?_) (fun h1 => ?_))
  ·
    exact .seq (.region (.cons (Ev.step (ev_as rfl rfl) rfl rfl rfl (.go (fun _ _ h => h) (.ret (fun _ _ h => h) (ret1 Try.results14 rfl .n ⟨congrArg Value.bool (same_len (by omega)), rfl⟩))))))
  ·
    refine .skipgo (fun _ _ h => h) (.seq (.seq (.region (.cons (Ev.step (ev_as rfl rfl) rfl rfl rfl (.go (fun _ _ h => h) ?_))))))
    refine .block ?_
    refine .loop (X := Int) (fun i => 0 ≤ i ∧ i ≤ l.length ∧ l.length = m.length ∧ l.take i.toNat = m.take i.toNat) (fun i => [(0, .slice A l.length c), (1, .slice B m.length d), (4, .bool false), (5, .int .i64 i)]) (fun i => []) (fun _ => S) (fun _ => wf) (fun i => (l.length - i.toNat)) (fun a_ w_ hs_ hw_ => ⟨0, ⟨by omega, by omega, by omega, by simp⟩, hs_.mono (Sub.get (.c rfl (.c rfl (.c rfl (.c rfl .n))))), hw_.keep .n⟩) (fun i ⟨q_0, q_1, q_2, q_3⟩ => ?_)
    show SC _ _ _ _ _ ⟨[(0, .slice A l.length c), (1, .slice B m.length d), (4, .bool false), (5, .int .i64 i)], [], S, wf⟩
    refine .seq (.seq (.region (.cons (Ev.step (ev_mv rfl rfl) rfl rfl rfl (.cons (Ev.step (ev_mv rfl rfl) rfl rfl rfl (.cons (Ev.step (ev_len rfl Try.underlying22 rfl) rfl rfl rfl ?_))))))))
    refine .cons (Ev.step (ev_cmp rfl rfl rfl rfl) rfl rfl rfl (.go (fun _ _ h => h) (.condI rfl bD (fun h2 => ?_) (fun h2 => ?_))))
    ·
      refine .skipgo (fun _ _ h => h) (.seq (.block (.seq ?_)))
      refine SC.draw mo [] [] .n (fun _ _ _ c hc => by cases hc) (fun wf_3 hl_3 hx_3 hR_3 => ?_)
      refine SR.take 0 rfl (by kernel_rfl) (by kernel_rfl) (by kernel_rfl) rfl (fun _ _ _ h => h) rfl rfl rfl (ev_mv rfl rfl) (SR.take 1 rfl (by kernel_rfl) (by kernel_rfl) (by kernel_rfl) rfl (fun _ _ _ h => h) rfl rfl rfl (ev_mv rfl rfl) (SR.take 2 rfl (by kernel_rfl) (by kernel_rfl) (by kernel_rfl) rfl (fun _ _ _ h => h) rfl rfl rfl (ev_ix rfl Try.underlying22 ty44 rfl rfl (by omega) (by omega) (fun _ _ => Fr.adr (i := i) (Fr.ext hA hx_3) (by omega) (by omega))) (SR.take 3 rfl (by kernel_rfl) (by kernel_rfl) (by kernel_rfl) rfl (fun _ _ _ h => h) rfl rfl rfl (ev_lda rfl rfl (At.d (Fr.el (i := i) (Fr.ext hA hx_3) (by omega) (by omega))) ty44) (SR.take 4 rfl (by kernel_rfl) (by kernel_rfl) (by kernel_rfl) rfl (fun _ _ _ h => h) rfl rfl rfl (ev_mv rfl rfl) (SR.take 5 rfl (by kernel_rfl) (by kernel_rfl) (by kernel_rfl) rfl (fun _ _ _ h => h) rfl rfl rfl (ev_mv rfl rfl) ?_)))))
      refine SR.take 6 rfl (by kernel_rfl) (by kernel_rfl) (by kernel_rfl) rfl (fun _ _ _ h => h) rfl rfl rfl (ev_ix rfl Try.underlying22 ty44 rfl rfl (by omega) (by omega) (fun _ _ => Fr.adr (i := i) (Fr.ext hB hx_3) (by omega) (by omega))) (SR.take 7 rfl (by kernel_rfl) (by kernel_rfl) (by kernel_rfl) rfl (fun _ _ _ h => h) rfl rfl rfl (ev_lda rfl rfl (At.d (Fr.el (i := i) (Fr.ext hB hx_3) (by omega) (by omega))) ty44) (SR.take 8 rfl (by kernel_rfl) (by kernel_rfl) (by kernel_rfl) rfl (fun _ _ _ h => h) rfl rfl rfl (ev_bin rfl rfl rfl (r := .bool (!((((gt l i).kind) == ((gt m i).kind)) && (((gt l i).item) == ((gt m i).item))))) (ev44_neq _ _ _ _ _ _)) (SR.fin (by kernel_rfl) hl_3 hx_3 hR_3 .n (SQ.go (fun _ _ h => h) (.condI rfl (bN (bA bE bE)) (fun h4 => ?_) (fun h4 => ?_))))))
      ·
        exact .seq (.region (.cons (Ev.step (ev_as rfl rfl) rfl rfl rfl (.go (fun _ _ h => h) (.ret (fun _ _ h => h) (ret1 Try.results14 rfl .n ⟨congrArg Value.bool (same_no q_0 (by omega) (by omega) (by assumption)), rfl⟩))))))
      ·
        exact .skipgo (fun _ _ h => h) (.region (.cons (Ev.step (ev_mv rfl rfl) rfl rfl rfl (.cons (Ev.step (ev_add rfl rfl rfl (r := (i + 1)) rfl (by omega) (by omega)) rfl rfl rfl (.cons (Ev.step (ev_as rfl rfl) rfl rfl rfl (SP.nil (SQ.round (X := Int) (x := (i)) (i + 1) ⟨by omega, by omega, by omega, same_next q_0 (by omega) (by omega) q_3 (by assumption)⟩ (by show (_ : Nat) < _; omega) (Sub.get (.c rfl (.c rfl (.c rfl (.c rfl .n))))) (fun w hw => hw.keep .n))))))))))
    ·
      exact .exit (fun _ _ h => h) (.seq (.region (.cons (Ev.step (ev_as rfl rfl) rfl rfl rfl (.go (fun _ _ h => h) (.ret (fun _ _ h => h) (ret1 Try.results14 rfl .n ⟨congrArg Value.bool (same_end (by omega) q_2 q_3), rfl⟩)))))))

theorem clone (A : Option Addr) (n : Nat) (c : Nat) (l : List Vis) (S : Nat → Prop) (wf : World) (hA : Fr eVis S wf A l) (hn : l.length = n) (hl : l.length ≤ 1000000) :
    TR0 Try.prog 20 [.slice A n c] [] S wf (fun v_ C_ => ∃ (v : Value), v_ = v ∧ C_ = [rw_ eVis 44 (v) l]) := by
  refine TR.mk Try.func20 rfl Try.ntmps20 rfl rfl (fun w_ => ?_)
  refine .seq (.region (.cons (Ev.step (ev_as rfl rfl) rfl rfl rfl (.go (fun _ _ h => h) (.seq (.seq ?_))))))
  refine .region (.cons (Ev.step (ev_mv rfl rfl) rfl rfl rfl (.cons (Ev.step (ev_nils rfl Try.underlying22 rfl rfl (by rfl)) rfl rfl rfl (.go (fun _ _ h => h) (.condI rfl bV (fun h1 => ?_) (fun h1 => ?_)))))))
  ·
    refine .seq (.region (.cons (Ev.step (ev_as rfl rfl) rfl rfl rfl (.go (fun _ _ h => h) ?_))))
    refine SC.nilrow eVis 44 ?_
    exact .ret (fun _ _ h => h) (ret1 Try.results20 rfl (.c .h .n) ⟨.slice none 0 0, rfl, (by rw [clone_nil hA (by assumption)])⟩)
  ·
    refine .skipgo (fun _ _ h => h) (.seq (.region (.cons (st_lit eVis (e := 44) (l := []) rfl rfl rfl rfl (by kernel_rfl) rfl rfl (fun w => by kernel_rfl) (fun b2 => .cons (Ev.step (ev_mv rfl rfl) rfl rfl rfl (.cons (st_app0 (E := eVis) (m := l) rfl rfl rfl rfl Try.underlying22 ai44 rfl rfl rfl .h (by first | rfl | omega | simp) (Src.w (Fr.flat hA)) (by (try simp only [List.length_nil, List.length_cons, List.length_append, List.length_set, List.length_singleton, List.length_take, List.length_drop, List.length_reverse]) <;> omega) rfl (fun v3 => ?_)))))))))
    exact .cons (Ev.step (ev_as rfl rfl) rfl rfl rfl (.go (fun _ _ h => h) (.ret (fun _ _ h => h) (ret1 Try.results20 rfl (.c .h .n) ⟨v3, rfl, rfl⟩))))

theorem index_ (A : Option Addr) (n : Nat) (c : Nat) (l : List Vis) (k : Int) (x : Int) (S : Nat → Prop) (wf : World) (hA : Fr eVis S wf A l) (hn : l.length = n) (hl : l.length ≤ 2000000) :
    TR0 Try.prog 41 [.slice A n c, .agg #[.int .i64 k, .int .i64 x]] [] S wf (fun v_ C_ => v_ = .int .i64 (idxV l ⟨k, x⟩) ∧ C_ = []) := by
  refine TR.mk Try.func41 rfl Try.ntmps41 rfl rfl (fun w_ => ?_)
  refine .seq (.region (.cons (st_boxa rfl rfl rfl rfl rfl (fun b1 => .cons (Ev.step (ev_as rfl rfl) rfl rfl rfl (.go (fun _ _ h => h) (.seq ?_)))))))
  refine .seq (.region (.cons (Ev.step (ev_mv rfl rfl) rfl rfl rfl (.cons (Ev.step (ev_len rfl Try.underlying22 rfl) rfl rfl rfl (.cons (Ev.step (ev_mv rfl rfl) rfl rfl rfl (.go (fun _ _ h => h) ?_))))))))
  refine .block ?_
  refine .loop (X := Int) (fun i => 0 ≤ i ∧ i ≤ l.length ∧ (⟨k, x⟩ : Vis) ∉ l.take i.toNat) (fun i => [(0, .slice A n c), (3, .pointer (some ⟨b1, 0, none⟩)), (7, .int .i64 (n : Int)), (8, .int .i64 i)]) (fun i => [cel b1 [.int .i64 k, .int .i64 x] 44]) (fun _ => S) (fun _ => wf) (fun i => (n - i.toNat)) (fun a_ w_ hs_ hw_ => ⟨0, ⟨by omega, by omega, by simp⟩, hs_.mono (Sub.get (.c rfl (.c rfl (.c rfl (.c rfl .n))))), hw_.keep (.c .h .n)⟩) (fun i ⟨q_0, q_1, q_2⟩ => ?_)
  show SC _ _ _ _ _ ⟨[(0, .slice A n c), (3, .pointer (some ⟨b1, 0, none⟩)), (7, .int .i64 (n : Int)), (8, .int .i64 i)], [cel b1 [.int .i64 k, .int .i64 x] 44], S, wf⟩
  refine .seq (.region (.cons (Ev.step (ev_cmp rfl rfl rfl rfl) rfl rfl rfl (.go (fun _ _ h => h) (.seq (.condI rfl bD (fun h2 => ?_) (fun h2 => ?_)))))))
  ·
    refine .skipgo (fun _ _ h => h) (.seq (.block (.seq (.region (.cons (Ev.step (ev_mv rfl rfl) rfl rfl rfl ?_))))))
    refine .cons (Ev.step (ev_as rfl rfl) rfl rfl rfl (.go (fun _ _ h => h) (.seq ?_)))
    refine SC.draw mo [] [] .n (fun _ _ _ c hc => by cases hc) (fun wf_3 hl_3 hx_3 hR_3 => ?_)
    refine SR.take 0 rfl (by kernel_rfl) (by kernel_rfl) (by kernel_rfl) rfl (fun _ _ _ h => h) rfl rfl rfl (ev_lda (cs := [.int .i64 k, .int .i64 x]) rfl rfl (At.d (At.lent hR_3 0 rfl rfl)) ty44) (SR.take 1 rfl (by kernel_rfl) (by kernel_rfl) (by kernel_rfl) rfl (fun _ _ _ h => h) rfl rfl rfl (ev_mv rfl rfl) (SR.take 2 rfl (by kernel_rfl) (by kernel_rfl) (by kernel_rfl) rfl (fun _ _ _ h => h) rfl rfl rfl (ev_mv rfl rfl) (SR.take 3 rfl (by kernel_rfl) (by kernel_rfl) (by kernel_rfl) rfl (fun _ _ _ h => h) rfl rfl rfl (ev_ix rfl Try.underlying22 ty44 rfl rfl (by omega) (by omega) (fun _ _ => Fr.adr (i := i) (Fr.ext hA hx_3) (by omega) (by omega))) (SR.take 4 rfl (by kernel_rfl) (by kernel_rfl) (by kernel_rfl) rfl (fun _ _ _ h => h) rfl rfl rfl (ev_lda rfl rfl (At.d (Fr.el (i := i) (Fr.ext hA hx_3) (by omega) (by omega))) ty44) (SR.take 5 rfl (by kernel_rfl) (by kernel_rfl) (by kernel_rfl) rfl (fun _ _ _ h => h) rfl rfl rfl (ev_bin rfl rfl rfl (r := .bool ((k == ((gt l i).kind)) && (x == ((gt l i).item)))) (ev44_eql _ _ _ _ _ _)) ?_)))))
    refine SR.fin (by kernel_rfl) hl_3 hx_3 hR_3 .n (SQ.go (fun _ _ h => h) (.condI rfl (bA bE bE) (fun h4 => ?_) (fun h4 => ?_)))
    ·
      exact .seq (.region (.cons (Ev.step (ev_mv rfl rfl) rfl rfl rfl (.cons (Ev.step (ev_as rfl rfl) rfl rfl rfl (.go (fun _ _ h => h) (.ret (fun _ _ h => h) (ret1 Try.results41 rfl .n ⟨(congrArg (Value.int .i64) (idx_at q_2 (by omega) (by omega) (by assumption))), rfl⟩))))))))
    ·
      exact .skipgo (fun _ _ h => h) (.region (.cons (Ev.step (ev_add rfl rfl rfl (r := (i + 1)) rfl (by omega) (by omega)) rfl rfl rfl (.cons (Ev.step (ev_mv rfl rfl) rfl rfl rfl (SP.nil (SQ.round (X := Int) (x := (i)) (i + 1) (by exact ⟨by omega, by omega, idx_next q_2 (by omega) (by omega) (by assumption)⟩) (by show (_ : Nat) < _; omega) (Sub.get (.c rfl (.c rfl (.c rfl (.c rfl .n))))) (fun w hw => hw.keep (.c .h .n)))))))))
  ·
    exact .exit (fun _ _ h => h) (.seq (.region (.cons (Ev.step (ev_as rfl rfl) rfl rfl rfl (.go (fun _ _ h => h) (.ret (fun _ _ h => h) (ret1 Try.results41 rfl .n ⟨(congrArg (Value.int .i64) (idx_none q_2 (by omega))), rfl⟩)))))))

theorem contains_ (A : Option Addr) (n : Nat) (c : Nat) (l : List Vis) (k : Int) (x : Int) (S : Nat → Prop) (wf : World) (hA : Fr eVis S wf A l) (hn : l.length = n) (hl : l.length ≤ 2000000) :
    TR0 Try.prog 42 [.slice A n c, .agg #[.int .i64 k, .int .i64 x]] [] S wf (fun v_ C_ => v_ = .bool (decide ((⟨k, x⟩ : Vis) ∈ l)) ∧ C_ = []) := by
  refine TR.mk Try.func42 rfl Try.ntmps42 rfl rfl (fun w_ => ?_)
  refine .seq (.region (.cons (st_boxa rfl rfl rfl rfl rfl (fun b1 => .cons (Ev.step (ev_as rfl rfl) rfl rfl rfl (.go (fun _ _ h => h) (.seq ?_)))))))
  refine .region (.cons (Ev.step (ev_mv rfl rfl) rfl rfl rfl (.cons (Ev.step (ev_lda rfl rfl (At.whole 0 rfl) ty44) rfl rfl rfl (.cons (st_callk rfl rfl rfl rfl hb41 rfl .n (index_ A n c l k x _ _ hA (by (try simp only [List.length_nil, List.length_cons, List.length_append, List.length_set, List.length_singleton, List.length_take, List.length_drop, List.length_reverse]) <;> omega) (by (try simp only [List.length_nil, List.length_cons, List.length_append, List.length_set, List.length_singleton, List.length_take, List.length_drop, List.length_reverse]) <;> omega)) (.cons (Ev.step (ev_cmp rfl rfl rfl rfl) rfl rfl rfl (.cons (Ev.step (ev_as rfl rfl) rfl rfl rfl ?_))))))))))
  exact .go (fun _ _ h => h) (.ret (fun _ _ h => h) (ret1 Try.results42 rfl .n ⟨(congrArg Value.bool (by have h := (idx_lt (l := l) (v := ⟨k, x⟩)).2.2; simpa using h)), rfl⟩))

theorem of_ (k : Int) (x : Int) (S : Nat → Prop) (wf : World) :
    TR0 Try.prog 33 [.agg #[.int .i64 k, .int .i64 x]] [] S wf (fun v_ C_ => ∃ (s : Bool) (y : Int) (b : Bool), ((s, y, b) = ofF k x) ∧ v_ = .tuple #[.agg #[.bool s, .int .i64 y], .bool b] ∧ C_ = []) := by
  refine TR.mk Try.func33 rfl Try.ntmps33 rfl rfl (fun w_ => ?_)
  refine .seq (.region (.cons (st_boxa rfl rfl rfl rfl rfl (fun b1 => .cons (st_alloc rfl rfl rfl rfl zf51 (fun b2 => .cons (Ev.step (ev_as rfl rfl) rfl rfl rfl (.go (fun _ _ h => h) ?_))))))))
  refine .seq (.seq (.region (.cons (Ev.step (ev_fa rfl fo44_0 rfl (r := 0) rfl) rfl rfl rfl (.cons (Ev.step (ev_ld1 rfl ty42 rfl (At.own1 1 rfl rfl)) rfl rfl rfl (.go (fun _ _ h => h) ?_)))))))
  refine .block (.seq (.region (.cons (Ev.step (ev_cmp rfl rfl rfl rfl) rfl rfl rfl (.cons (Ev.step (ev_as rfl rfl) rfl rfl rfl (.go (fun _ _ h => h) ?_)))))))
  refine .condI rfl bE (fun h3 => ?_) (fun h3 => ?_)
  ·
    refine .seq (.region (.cons (Ev.step (ev_fa rfl fo44_1 rfl (r := 1) rfl) rfl rfl rfl (.cons (Ev.step (ev_ld1 rfl ty3 rfl (At.own1 1 rfl rfl)) rfl rfl rfl (.cons (Ev.step (ev_any (v := .agg #[.bool false, .int .i64 x]) rfl (by kernel_rfl) (fun _ => by kernel_rfl)) rfl rfl rfl (.cons (st_storea (l' := [.bool false, .int .i64 x]) rfl rfl rfl ty51 rfl rfl rfl .h rfl rfl ?_)))))))))
    exact .cons (Ev.step (ev_as rfl rfl) rfl rfl rfl (.go (fun _ _ h => h) (.ret (fun _ _ h => h) (retv2 Try.results33 (.c 0 rfl rfl ty51) (.t rfl) .n ⟨false, x, true, (by unfold ofF; repeat (first | rw [if_pos (by omega)] | rw [if_neg (by omega)])), rfl, rfl⟩))))
  ·
    refine .seq (.seq (.region (.cons (Ev.step (ev_cmp rfl rfl rfl rfl) rfl rfl rfl (.cons (Ev.step (ev_as rfl rfl) rfl rfl rfl (.go (fun _ _ h => h) ?_)))))))
    refine .condI rfl bE (fun h4 => ?_) (fun h4 => ?_)
    ·
      refine .skipgo (fun _ _ h => h) (.condI rfl bE (fun h5 => ?_) (fun h5 => ?_))
      ·
        refine .seq (.region (.cons (Ev.step (ev_fa rfl fo44_1 rfl (r := 1) rfl) rfl rfl rfl (.cons (Ev.step (ev_ld1 rfl ty3 rfl (At.own1 1 rfl rfl)) rfl rfl rfl (.cons (Ev.step (ev_any (v := .agg #[.bool true, .int .i64 x]) rfl (by kernel_rfl) (fun _ => by kernel_rfl)) rfl rfl rfl (.cons (st_storea (l' := [.bool true, .int .i64 x]) rfl rfl rfl ty51 rfl rfl rfl .h rfl rfl ?_)))))))))
        exact .cons (Ev.step (ev_as rfl rfl) rfl rfl rfl (.go (fun _ _ h => h) (.ret (fun _ _ h => h) (retv2 Try.results33 (.c 0 rfl rfl ty51) (.t rfl) .n ⟨true, x, true, (by unfold ofF; repeat (first | rw [if_pos (by omega)] | rw [if_neg (by omega)])), rfl, rfl⟩))))
      ·
        exact absurd h4 h5
    ·
      refine .region (.cons (Ev.step (ev_cmp rfl rfl rfl rfl) rfl rfl rfl (.cons (Ev.step (ev_as rfl rfl) rfl rfl rfl (.go (fun _ _ h => h) (.condI rfl bE (fun h6 => ?_) (fun h6 => ?_)))))))
      ·
        refine .seq (.region (.cons (Ev.step (ev_fa rfl fo44_1 rfl (r := 1) rfl) rfl rfl rfl (.cons (Ev.step (ev_ld1 rfl ty3 rfl (At.own1 1 rfl rfl)) rfl rfl rfl (.cons (Ev.step (ev_any (v := .agg #[.bool true, .int .i64 x]) rfl (by kernel_rfl) (fun _ => by kernel_rfl)) rfl rfl rfl (.cons (st_storea (l' := [.bool true, .int .i64 x]) rfl rfl rfl ty51 rfl rfl rfl .h rfl rfl ?_)))))))))
        exact .cons (Ev.step (ev_as rfl rfl) rfl rfl rfl (.go (fun _ _ h => h) (.ret (fun _ _ h => h) (retv2 Try.results33 (.c 0 rfl rfl ty51) (.t rfl) .n ⟨true, x, true, (by unfold ofF; repeat (first | rw [if_pos (by omega)] | rw [if_neg (by omega)])), rfl, rfl⟩))))
      ·
        refine .skipgo (fun _ _ h => h) (.seq (.region (.cons (Ev.step (ev_any (v := .agg #[.bool false, .int .i64 0]) rfl (by kernel_rfl) (fun _ => by kernel_rfl)) rfl rfl rfl (.cons (st_storea (l' := [.bool false, .int .i64 0]) rfl rfl rfl ty51 rfl rfl rfl .h rfl rfl (.cons (Ev.step (ev_as rfl rfl) rfl rfl rfl ?_))))))))
        exact .go (fun _ _ h => h) (.ret (fun _ _ h => h) (retv2 Try.results33 (.c 0 rfl rfl ty51) (.t rfl) .n ⟨false, 0, false, (by unfold ofF; repeat (first | rw [if_pos (by omega)] | rw [if_neg (by omega)])), rfl, rfl⟩))

theorem mvis_ (s : Bool) (x : Int) (S : Nat → Prop) (wf : World) :
    TR0 Try.prog 34 [.agg #[.bool s, .int .i64 x]] [] S wf (fun v_ C_ => ∃ (u : Value) (m : List Vis), (m = visF s x) ∧ v_ = u ∧ C_ = [rw_ eVis 44 (u) m]) := by
  refine TR.mk Try.func34 rfl Try.ntmps34 rfl rfl (fun w_ => ?_)
  refine .seq (.region (.cons (st_boxa rfl rfl rfl rfl rfl (fun b1 => .cons (Ev.step (ev_as rfl rfl) rfl rfl rfl (.go (fun _ _ h => h) (.seq ?_)))))))
  refine .seq (.region (.cons (Ev.step (ev_fa rfl fo51_0 rfl (r := 0) rfl) rfl rfl rfl (.cons (Ev.step (ev_ld1 rfl ty4 rfl (At.own1 0 rfl rfl)) rfl rfl rfl (.go (fun _ _ h => h) (.condI rfl bV (fun h2 => ?_) (fun h2 => ?_))))))))
  ·
    refine .seq (.region (.cons (Ev.step (ev_fa rfl fo51_1 rfl (r := 1) rfl) rfl rfl rfl (.cons (Ev.step (ev_ld1 rfl ty3 rfl (At.own1 0 rfl rfl)) rfl rfl rfl (.cons (Ev.step (ev_any (v := .agg #[.int .i64 2, .int .i64 x]) rfl (by kernel_rfl) (fun _ => by kernel_rfl)) rfl rfl rfl (.cons (Ev.step (ev_fa rfl fo51_1 rfl (r := 1) rfl) rfl rfl rfl ?_)))))))))
    exact .cons (Ev.step (ev_ld1 rfl ty3 rfl (At.own1 0 rfl rfl)) rfl rfl rfl (.cons (Ev.step (ev_any (v := .agg #[.int .i64 3, .int .i64 x]) rfl (by kernel_rfl) (fun _ => by kernel_rfl)) rfl rfl rfl (.cons (st_lit eVis (e := 44) (l := [(Vis.mk 2 x), (Vis.mk 3 x)]) rfl rfl rfl rfl (by kernel_rfl) rfl rfl (fun w => by kernel_rfl) (fun b3 => .cons (Ev.step (ev_as rfl rfl) rfl rfl rfl (.go (fun _ _ h => h) (.ret (fun _ _ h => h) (ret1 Try.results34 rfl (.c .h .n) ⟨.slice (some ⟨b3, 0, none⟩) 2 2, [(Vis.mk 2 x), (Vis.mk 3 x)], (by unfold visF; first | rw [if_pos (by assumption)] | rw [if_neg (by assumption)]), rfl, rfl⟩))))))))))
  ·
    refine .skipgo (fun _ _ h => h) (.seq (.region (.cons (Ev.step (ev_fa rfl fo51_1 rfl (r := 1) rfl) rfl rfl rfl (.cons (Ev.step (ev_ld1 rfl ty3 rfl (At.own1 0 rfl rfl)) rfl rfl rfl (.cons (Ev.step (ev_any (v := .agg #[.int .i64 1, .int .i64 x]) rfl (by kernel_rfl) (fun _ => by kernel_rfl)) rfl rfl rfl ?_))))))))
    exact .cons (st_lit eVis (e := 44) (l := [(Vis.mk 1 x)]) rfl rfl rfl rfl (by kernel_rfl) rfl rfl (fun w => by kernel_rfl) (fun b4 => .cons (Ev.step (ev_as rfl rfl) rfl rfl rfl (.go (fun _ _ h => h) (.ret (fun _ _ h => h) (ret1 Try.results34 rfl (.c .h .n) ⟨.slice (some ⟨b4, 0, none⟩) 1 1, [(Vis.mk 1 x)], (by unfold visF; first | rw [if_pos (by assumption)] | rw [if_neg (by assumption)]), rfl, rfl⟩))))))

end Go.Proofs.Ytfmfhkaimhmgdaa.Sx
