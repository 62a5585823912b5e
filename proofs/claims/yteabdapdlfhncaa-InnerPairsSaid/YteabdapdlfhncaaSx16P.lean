import Derived.Test.YteabdapdlfhncaaProg
import Derived.Test.YteabdapdlfhncaaSxPair
import Derived.Test.YteabdapdlfhncaaSx16A
import Derived.Test.YteabdapdlfhncaaSx16S
import Derived.Test.YteabdapdlfhncaaSx16I
set_option maxRecDepth 20000
set_option maxHeartbeats 4000000
set_option linter.unusedVariables false
set_option linter.unusedSimpArgs false
namespace Go.Proofs.Yteabdapdlfhncaa.Sx.FP
open Go Go.SX Go.Proofs
theorem ty36 : ty Try.prog 36 = some (true, 2) := by kernel_rfl
theorem mo : Try.prog.follows .mixedOrders = true := by kernel_rfl
theorem hb31 : hasBody Try.prog 31 = true := by kernel_rfl
theorem hb25 : hasBody Try.prog 25 = true := by kernel_rfl
theorem hb30 : hasBody Try.prog 30 = true := by kernel_rfl
theorem zf36 : (Try.prog.info? 36).bind (fun i => i.zero.map Value.cells) = some (List.toArray [.int .i64 0, .int .i64 0]) := by kernel_rfl
theorem eqIn36 (d : Nat) (x0 y0 : Int) (x1 y1 : Int) (w : World) : (Op.equalIn (d + 3) 36 (.agg #[(.int .i64 x0), (.int .i64 x1)]) (.agg #[(.int .i64 y0), (.int .i64 y1)])).run Try.prog w = .ok ((x0 == y0) && (x1 == y1)) w := by
  rw [run_equalIn_struct w (d + 2) 36 _ _ (by kernel_rfl) (by kernel_rfl)]
  have hf : (Try.prog.fieldsOf 36).toList = [{ name := "Kind", type := 34, offset := 0, embedded := false, tag := "", pkgPath := "", byteOffset := 0 }, { name := "Item", type := 3, offset := 1, embedded := false, tag := "", pkgPath := "", byteOffset := 8 }] := by kernel_rfl
  rw [hf]
  have h34 : ∀ (x y : Int) (w : World), (Op.equalIn (d + 2) 34 (.int .i64 x) (.int .i64 y)).run Try.prog w = .ok (x == y) w := fun x y w => by
    simp [Op.equalIn, run_underlying Try.underlying34]
  have h3 : ∀ (x y : Int) (w : World), (Op.equalIn (d + 2) 3 (.int .i64 x) (.int .i64 y)).run Try.prog w = .ok (x == y) w := fun x y w => by
    simp [Op.equalIn, run_underlying Try.underlying3]
  have p0 : ∀ (x0 : Int) (x1 : Int) (w : World), (part 34 #[(.int .i64 x0), (.int .i64 x1)] 0).run Try.prog w = .ok (.int .i64 x0) w := fun _ _ _ => by kernel_rfl
  have p1 : ∀ (x0 : Int) (x1 : Int) (w : World), (part 3 #[(.int .i64 x0), (.int .i64 x1)] 1).run Try.prog w = .ok (.int .i64 x1) w := fun _ _ _ => by kernel_rfl
  simp only [Op.eqFields, Sem.run_bind, h34, h3, p0, p1, Result.andThen_ok, Sem.run_ite, ne_eq]
  cases g0 : (x0 == y0) <;> cases g1 : (x1 == y1) <;> simp [g0, g1]
theorem ev36_eql (x y : Operand) (x0 y0 : Int) (x1 y1 : Int) (w : World) : (do eqGuard .eql 36 x y (.agg #[(.int .i64 x0), (.int .i64 x1)]) (.agg #[(.int .i64 y0), (.int .i64 y1)]); binOp .eql 36 (.agg #[(.int .i64 x0), (.int .i64 x1)]) (.agg #[(.int .i64 y0), (.int .i64 y1)]) : Sem Value).run Try.prog w = .ok (.bool (((x0 == y0) && (x1 == y1)))) w := by
  have h1 : (Op.equal 36 (.agg #[(.int .i64 x0), (.int .i64 x1)]) (.agg #[(.int .i64 y0), (.int .i64 y1)])).run Try.prog w = .ok ((x0 == y0) && (x1 == y1)) w := eqIn36 9997 x0 y0 x1 y1 w
  have h2 : (eqGuard .eql 36 x y (.agg #[(.int .i64 x0), (.int .i64 x1)]) (.agg #[(.int .i64 y0), (.int .i64 y1)])).run Try.prog w = .ok () w := by kernel_rfl
  simp only [Sem.run_bind, h2, Result.andThen_ok, binOp, h1]
  rfl
theorem ev36_neq (x y : Operand) (x0 y0 : Int) (x1 y1 : Int) (w : World) : (do eqGuard .neq 36 x y (.agg #[(.int .i64 x0), (.int .i64 x1)]) (.agg #[(.int .i64 y0), (.int .i64 y1)]); binOp .neq 36 (.agg #[(.int .i64 x0), (.int .i64 x1)]) (.agg #[(.int .i64 y0), (.int .i64 y1)]) : Sem Value).run Try.prog w = .ok (.bool (!((x0 == y0) && (x1 == y1)))) w := by
  have h1 : (Op.equal 36 (.agg #[(.int .i64 x0), (.int .i64 x1)]) (.agg #[(.int .i64 y0), (.int .i64 y1)])).run Try.prog w = .ok ((x0 == y0) && (x1 == y1)) w := eqIn36 9997 x0 y0 x1 y1 w
  have h2 : (eqGuard .neq 36 x y (.agg #[(.int .i64 x0), (.int .i64 x1)]) (.agg #[(.int .i64 y0), (.int .i64 y1)])).run Try.prog w = .ok () w := by kernel_rfl
  simp only [Sem.run_bind, h2, Result.andThen_ok, binOp, h1]
  rfl


end Go.Proofs.Yteabdapdlfhncaa.Sx.FP
namespace Go.Proofs.Yteabdapdlfhncaa.Sx
open Go Go.SX Go.Proofs FP





theorem index_ (A : Option Addr) (n : Nat) (c : Nat) (l : List Vis) (k : Int) (x : Int) (S : Nat → Prop) (wf : World) (hA : Fr eVis S wf A l) (hn : l.length = n) (hl : l.length ≤ 2000000) :
    TR0 Try.prog 31 [.slice A n c, .agg #[.int .i64 k, .int .i64 x]] [] S wf (fun v_ C_ => v_ = .int .i64 (idxV l ⟨k, x⟩) ∧ C_ = []) := by
  refine TR.mk Try.func31 rfl Try.ntmps31 rfl rfl (fun w_ => ?_)
  refine .seq (.region (.cons (st_boxa rfl rfl rfl rfl rfl (fun b1 => .cons (Ev.step (ev_as rfl rfl) rfl rfl rfl (.go (fun _ _ h => h) (.seq ?_)))))))
  refine .seq (.region (.cons (Ev.step (ev_mv rfl rfl) rfl rfl rfl (.cons (Ev.step (ev_len rfl Try.underlying22 rfl) rfl rfl rfl (.cons (Ev.step (ev_mv rfl rfl) rfl rfl rfl (.go (fun _ _ h => h) ?_))))))))
  refine .block ?_
  refine .loop (X := Int) (fun i => 0 ≤ i ∧ i ≤ l.length ∧ (⟨k, x⟩ : Vis) ∉ l.take i.toNat) (fun i => [(0, .slice A n c), (3, .pointer (some ⟨b1, 0, none⟩)), (7, .int .i64 (n : Int)), (8, .int .i64 i)]) (fun i => [cel b1 [.int .i64 k, .int .i64 x] 36]) (fun _ => S) (fun _ => wf) (fun i => (n - i.toNat)) (fun a_ w_ hs_ hw_ => ⟨0, ⟨by omega, by omega, by simp⟩, hs_.mono (Sub.get (.c rfl (.c rfl (.c rfl (.c rfl .n))))), hw_.keep (.c .h .n)⟩) (fun i ⟨q_0, q_1, q_2⟩ => ?_)
  show SC _ _ _ _ _ ⟨[(0, .slice A n c), (3, .pointer (some ⟨b1, 0, none⟩)), (7, .int .i64 (n : Int)), (8, .int .i64 i)], [cel b1 [.int .i64 k, .int .i64 x] 36], S, wf⟩
  refine .seq (.region (.cons (Ev.step (ev_cmp rfl rfl rfl rfl) rfl rfl rfl (.go (fun _ _ h => h) (.seq (.condI rfl bD (fun h2 => ?_) (fun h2 => ?_)))))))
  ·
    refine .skipgo (fun _ _ h => h) (.seq (.block (.seq (.region (.cons (Ev.step (ev_mv rfl rfl) rfl rfl rfl ?_))))))
    refine .cons (Ev.step (ev_as rfl rfl) rfl rfl rfl (.go (fun _ _ h => h) (.seq ?_)))
    refine SC.draw mo [] [] .n (fun _ _ _ c hc => by cases hc) (fun wf_3 hl_3 hx_3 hR_3 => ?_)
    refine SR.take 0 rfl (by kernel_rfl) (by kernel_rfl) (by kernel_rfl) rfl (fun _ _ _ h => h) rfl rfl rfl (ev_lda (cs := [.int .i64 k, .int .i64 x]) rfl rfl (At.d (At.lent hR_3 0 rfl rfl)) ty36) (SR.take 1 rfl (by kernel_rfl) (by kernel_rfl) (by kernel_rfl) rfl (fun _ _ _ h => h) rfl rfl rfl (ev_mv rfl rfl) (SR.take 2 rfl (by kernel_rfl) (by kernel_rfl) (by kernel_rfl) rfl (fun _ _ _ h => h) rfl rfl rfl (ev_mv rfl rfl) (SR.take 3 rfl (by kernel_rfl) (by kernel_rfl) (by kernel_rfl) rfl (fun _ _ _ h => h) rfl rfl rfl (ev_ix rfl Try.underlying22 ty36 rfl rfl (by omega) (by omega) (fun _ _ => Fr.adr (i := i) (Fr.ext hA hx_3) (by omega) (by omega))) (SR.take 4 rfl (by kernel_rfl) (by kernel_rfl) (by kernel_rfl) rfl (fun _ _ _ h => h) rfl rfl rfl (ev_lda rfl rfl (At.d (Fr.el (i := i) (Fr.ext hA hx_3) (by omega) (by omega))) ty36) (SR.take 5 rfl (by kernel_rfl) (by kernel_rfl) (by kernel_rfl) rfl (fun _ _ _ h => h) rfl rfl rfl (ev_bin rfl rfl rfl (r := .bool ((k == ((gt l i).kind)) && (x == ((gt l i).item)))) (ev36_eql _ _ _ _ _ _)) ?_)))))
    refine SR.fin (by kernel_rfl) hl_3 hx_3 hR_3 .n (SQ.go (fun _ _ h => h) (.condI rfl (bA bE bE) (fun h4 => ?_) (fun h4 => ?_)))
    ·
      exact .seq (.region (.cons (Ev.step (ev_mv rfl rfl) rfl rfl rfl (.cons (Ev.step (ev_as rfl rfl) rfl rfl rfl (.go (fun _ _ h => h) (.ret (fun _ _ h => h) (ret1 Try.results31 rfl .n ⟨(congrArg (Value.int .i64) (idx_at q_2 (by omega) (by omega) (by assumption))), rfl⟩))))))))
    ·
      exact .skipgo (fun _ _ h => h) (.region (.cons (Ev.step (ev_add rfl rfl rfl (r := (i + 1)) rfl (by omega) (by omega)) rfl rfl rfl (.cons (Ev.step (ev_mv rfl rfl) rfl rfl rfl (SP.nil (SQ.round (X := Int) (x := (i)) (i + 1) (by exact ⟨by omega, by omega, idx_next q_2 (by omega) (by omega) (by assumption)⟩) (by show (_ : Nat) < _; omega) (Sub.get (.c rfl (.c rfl (.c rfl (.c rfl .n))))) (fun w hw => hw.keep (.c .h .n)))))))))
  ·
    exact .exit (fun _ _ h => h) (.seq (.region (.cons (Ev.step (ev_as rfl rfl) rfl rfl rfl (.go (fun _ _ h => h) (.ret (fun _ _ h => h) (ret1 Try.results31 rfl .n ⟨(congrArg (Value.int .i64) (idx_none q_2 (by omega))), rfl⟩)))))))

theorem contains_ (A : Option Addr) (n : Nat) (c : Nat) (l : List Vis) (k : Int) (x : Int) (S : Nat → Prop) (wf : World) (hA : Fr eVis S wf A l) (hn : l.length = n) (hl : l.length ≤ 2000000) :
    TR0 Try.prog 26 [.slice A n c, .agg #[.int .i64 k, .int .i64 x]] [] S wf (fun v_ C_ => v_ = .bool (decide ((⟨k, x⟩ : Vis) ∈ l)) ∧ C_ = []) := by
  refine TR.mk Try.func26 rfl Try.ntmps26 rfl rfl (fun w_ => ?_)
  refine .seq (.region (.cons (st_boxa rfl rfl rfl rfl rfl (fun b1 => .cons (Ev.step (ev_as rfl rfl) rfl rfl rfl (.go (fun _ _ h => h) (.seq ?_)))))))
  refine .region (.cons (Ev.step (ev_mv rfl rfl) rfl rfl rfl (.cons (Ev.step (ev_lda rfl rfl (At.whole 0 rfl) ty36) rfl rfl rfl (.cons (st_callk rfl rfl rfl rfl hb31 rfl .n (index_ A n c l k x _ _ hA (by first | ((try simp only [List.length_nil, List.length_cons, List.length_append, List.length_set, List.length_singleton, List.length_take, List.length_drop, List.length_reverse]) <;> omega) | omega) (by first | ((try simp only [List.length_nil, List.length_cons, List.length_append, List.length_set, List.length_singleton, List.length_take, List.length_drop, List.length_reverse]) <;> omega) | omega)) (.cons (Ev.step (ev_cmp rfl rfl rfl rfl) rfl rfl rfl (.cons (Ev.step (ev_as rfl rfl) rfl rfl rfl ?_))))))))))
  exact .go (fun _ _ h => h) (.ret (fun _ _ h => h) (ret1 Try.results26 rfl .n ⟨(congrArg Value.bool (by have h := (idx_lt (l := l) (v := ⟨k, x⟩)).2.2; simpa using h)), rfl⟩))

theorem pfn (g1 : Nat) (g2 : Nat) (k1 : Int) (x1 : Int) (k2 : Int) (x2 : Int) (k : Int) (x : Int) (S : Nat → Prop) (wf : World) :
    TR0 Try.prog 25 [.agg #[.int .i64 k, .int .i64 x], .pointer (some ⟨g1, 0, none⟩), .pointer (some ⟨g2, 0, none⟩)] [cel g1 [.int .i64 k1, .int .i64 x1] 36, cel g2 [.int .i64 k2, .int .i64 x2] 36] S wf (fun v_ C_ => v_ = .bool (hitV ⟨k1, x1⟩ ⟨k2, x2⟩ ⟨k, x⟩) ∧ C_ = [cel g1 [.int .i64 k1, .int .i64 x1] 36, cel g2 [.int .i64 k2, .int .i64 x2] 36]) := by
  refine TR.mk Try.func25 rfl Try.ntmps25 rfl rfl (fun w_ => ?_)
  refine .seq (.region (.cons (st_boxa rfl rfl rfl rfl rfl (fun b1 => .cons (Ev.step (ev_as rfl rfl) rfl rfl rfl (.go (fun _ _ h => h) (.seq ?_)))))))
  refine .region (.cons (Ev.step (ev_lda rfl rfl (At.whole 0 rfl) ty36) rfl rfl rfl (.cons (Ev.step (ev_lda rfl rfl (At.whole 1 rfl) ty36) rfl rfl rfl (.cons (Ev.step (ev_bin rfl rfl rfl (r := .bool ((k == k1) && (x == x1))) (ev36_eql _ _ _ _ _ _)) rfl rfl rfl (.cons (Ev.step (ev_mv rfl rfl) rfl rfl rfl (.cons (Ev.gstep (fun _ => ev_lda rfl rfl (At.whole 0 rfl) ty36) rfl rfl rfl rfl rfl ?_))))))))))
  exact .cons (Ev.gstep (fun _ => ev_lda rfl rfl (At.whole 2 rfl) ty36) rfl rfl rfl rfl rfl (.cons (Ev.gstep (fun hb => ev_bin rfl (lkg rfl hb) (lkg rfl hb) (r := .bool ((k == k2) && (x == x2))) (ev36_eql _ _ _ _ _ _)) rfl rfl rfl rfl rfl (.cons (Ev.step (ev_or rfl rfl rfl rfl) rfl rfl rfl (.cons (Ev.step (ev_as rfl rfl) rfl rfl rfl (.go (fun _ _ h => h) (.ret (fun _ _ h => h) (ret1 Try.results25 rfl (.c (.t .h) (.c (.t .h) .n)) ⟨(congrArg Value.bool hit_eq), rfl⟩))))))))))

theorem idxfn (A : Option Addr) (n : Nat) (c : Nat) (l : List Vis) (g1 : Nat) (g2 : Nat) (k1 : Int) (x1 : Int) (k2 : Int) (x2 : Int) (S : Nat → Prop) (wf : World) (hA : Fr eVis S wf A l) (hn : l.length = n) (hl : l.length ≤ 2000000) :
    TR0 Try.prog 30 [.slice A n c, .func (.func 25) #[] #[.pointer (some ⟨g1, 0, none⟩), .pointer (some ⟨g2, 0, none⟩)]] [cel g1 [.int .i64 k1, .int .i64 x1] 36, cel g2 [.int .i64 k2, .int .i64 x2] 36] S wf (fun v_ C_ => v_ = .int .i64 (idxP (hitV ⟨k1, x1⟩ ⟨k2, x2⟩) l) ∧ C_ = [cel g1 [.int .i64 k1, .int .i64 x1] 36, cel g2 [.int .i64 k2, .int .i64 x2] 36]) := by
  refine TR.mk Try.func30 rfl Try.ntmps30 rfl rfl (fun w_ => ?_)
  refine .seq (.region (.cons (Ev.step (ev_as rfl rfl) rfl rfl rfl (.go (fun _ _ h => h) (.seq (.seq ?_))))))
  refine .region (.cons (Ev.step (ev_mv rfl rfl) rfl rfl rfl (.cons (Ev.step (ev_len rfl Try.underlying22 rfl) rfl rfl rfl (.cons (Ev.step (ev_mv rfl rfl) rfl rfl rfl (.go (fun _ _ h => h) (.block ?_))))))))
  refine .loop (X := Int) (fun i => 0 ≤ i ∧ i ≤ l.length ∧ (l.take i.toNat).any (hitV ⟨k1, x1⟩ ⟨k2, x2⟩) = false) (fun i => [(0, .slice A n c), (1, .func (.func 25) #[] #[.pointer (some ⟨g1, 0, none⟩), .pointer (some ⟨g2, 0, none⟩)]), (7, .int .i64 (n : Int)), (8, .int .i64 i)]) (fun i => [cel g1 [.int .i64 k1, .int .i64 x1] 36, cel g2 [.int .i64 k2, .int .i64 x2] 36]) (fun _ => S) (fun _ => wf) (fun i => (n - i.toNat)) (fun a_ w_ hs_ hw_ => ⟨0, ⟨by omega, by omega, by simp⟩, hs_.mono (Sub.get (.c rfl (.c rfl (.c rfl (.c rfl .n))))), hw_.keep (.c .h (.c .h .n))⟩) (fun i ⟨q_0, q_1, q_2⟩ => ?_)
  show SC _ _ _ _ _ ⟨[(0, .slice A n c), (1, .func (.func 25) #[] #[.pointer (some ⟨g1, 0, none⟩), .pointer (some ⟨g2, 0, none⟩)]), (7, .int .i64 (n : Int)), (8, .int .i64 i)], [cel g1 [.int .i64 k1, .int .i64 x1] 36, cel g2 [.int .i64 k2, .int .i64 x2] 36], S, wf⟩
  refine .seq (.region (.cons (Ev.step (ev_cmp rfl rfl rfl rfl) rfl rfl rfl (.go (fun _ _ h => h) (.seq (.condI rfl bD (fun h1 => ?_) (fun h1 => ?_)))))))
  ·
    refine .skipgo (fun _ _ h => h) (.seq (.block (.seq (.region (.cons (Ev.step (ev_mv rfl rfl) rfl rfl rfl ?_))))))
    refine .cons (Ev.step (ev_as rfl rfl) rfl rfl rfl (.go (fun _ _ h => h) (.seq (.region (.cons (Ev.step (ev_mv rfl rfl) rfl rfl rfl (.cons (Ev.step (ev_mv rfl rfl) rfl rfl rfl ?_))))))))
    refine .cons (Ev.step (ev_mv rfl rfl) rfl rfl rfl (.cons (Ev.step (ev_ix rfl Try.underlying22 ty36 rfl rfl (by omega) (by omega) (fun _ _ => Fr.adr (i := i) hA (by omega) (by omega))) rfl rfl rfl (.cons (Ev.step (ev_lda rfl rfl (At.w (Fr.el (i := i) hA (by omega) (by omega))) ty36) rfl rfl rfl (.cons (.viacap (args' := #[.tmp 15, .const (.pointer (some ⟨g1, 0, none⟩)), .const (.pointer (some ⟨g2, 0, none⟩))]) rfl rfl (by simp) hb25 (st_callk rfl rfl rfl rfl hb25 rfl (.c .h (.c .h .n)) (pfn g1 g2 k1 x1 k2 x2 ((gt l i).kind) ((gt l i).item) _ _) (.go (fun _ _ h => h) (.condI rfl bV (fun h2 => ?_) (fun h2 => ?_)))))))))))
    ·
      exact .seq (.region (.cons (Ev.step (ev_mv rfl rfl) rfl rfl rfl (.cons (Ev.step (ev_as rfl rfl) rfl rfl rfl (.go (fun _ _ h => h) (.ret (fun _ _ h => h) (ret1 Try.results30 rfl (.c .h (.c .h .n)) ⟨(congrArg (Value.int .i64) (idxP_at q_2 (by omega) (by omega) (by assumption))), rfl⟩))))))))
    ·
      exact .skipgo (fun _ _ h => h) (.region (.cons (Ev.step (ev_add rfl rfl rfl (r := (i + 1)) rfl (by omega) (by omega)) rfl rfl rfl (.cons (Ev.step (ev_mv rfl rfl) rfl rfl rfl (SP.nil (SQ.round (X := Int) (x := (i)) (i + 1) (by exact ⟨by omega, by omega, idxP_next q_2 (by omega) (by omega) (by assumption)⟩) (by show (_ : Nat) < _; omega) (Sub.get (.c rfl (.c rfl (.c rfl (.c rfl .n))))) (fun w hw => hw.keep (.c .h (.c .h .n))))))))))
  ·
    exact .exit (fun _ _ h => h) (.seq (.region (.cons (Ev.step (ev_as rfl rfl) rfl rfl rfl (.go (fun _ _ h => h) (.ret (fun _ _ h => h) (ret1 Try.results30 rfl (.c .h (.c .h .n)) ⟨(congrArg (Value.int .i64) (idxP_none q_2 (by omega))), rfl⟩)))))))

theorem delfn (v : Value) (l : List Vis) (g1 : Nat) (g2 : Nat) (k1 : Int) (x1 : Int) (k2 : Int) (x2 : Int) (S : Nat → Prop) (wf : World) (hl : l.length ≤ 2000000) :
    TR0 Try.prog 24 [v, .func (.func 25) #[] #[.pointer (some ⟨g1, 0, none⟩), .pointer (some ⟨g2, 0, none⟩)]] [rw_ eVis 36 (v) l, cel g1 [.int .i64 k1, .int .i64 x1] 36, cel g2 [.int .i64 k2, .int .i64 x2] 36] S wf (fun v_ C_ => ∃ (u : Value), v_ = u ∧ C_ = [rw_ eVis 36 (u) (l.filter (fun x => !(hitV ⟨k1, x1⟩ ⟨k2, x2⟩) x)), cel g1 [.int .i64 k1, .int .i64 x1] 36, cel g2 [.int .i64 k2, .int .i64 x2] 36]) := by
  refine TR.mk Try.func24 rfl Try.ntmps24 rfl rfl (fun w_ => ?_)
  refine .seq (.region (.cons (Ev.step (ev_as rfl rfl) rfl rfl rfl (.go (fun _ _ h => h) (.seq (.region ?_))))))
  refine .cons (Ev.step (ev_mv rfl rfl) rfl rfl rfl (.cons (Ev.step (ev_mv rfl rfl) rfl rfl rfl ?_)))
  refine .know (row_len 0 rfl) (fun hv3 => ?_)
  obtain ⟨A1, c2, rfl, hv3_1, hv3_2⟩ := hv3
  unfold maxLen at hv3_2
  refine .cons (st_lendk rfl rfl rfl rfl hb30 rfl (.c (.t .h) (.c (.t .h) .n)) (.c .h .n) (fun w_ hw => idxfn A1 l.length c2 l g1 g2 k1 x1 k2 x2 _ _ (Fr.lend hw 0 rfl (by first | ((try simp only [List.length_nil, List.length_cons, List.length_append, List.length_set, List.length_singleton, List.length_take, List.length_drop, List.length_reverse]) <;> omega) | omega)) (by first | ((try simp only [List.length_nil, List.length_cons, List.length_append, List.length_set, List.length_singleton, List.length_take, List.length_drop, List.length_reverse]) <;> omega) | omega) (by first | ((try simp only [List.length_nil, List.length_cons, List.length_append, List.length_set, List.length_singleton, List.length_take, List.length_drop, List.length_reverse]) <;> omega) | omega)) (.cons (Ev.step (ev_as rfl rfl) rfl rfl rfl (.go (fun _ _ h => h) (.seq (.seq ?_))))))
  have hsp_ := idxP_spec (hitV ⟨k1, x1⟩ ⟨k2, x2⟩) l
  refine .region (.cons (Ev.step (ev_mv rfl rfl) rfl rfl rfl (.cons (Ev.step (ev_cmp rfl rfl rfl rfl) rfl rfl rfl (.go (fun _ _ h => h) (.condI rfl bE (fun h4 => ?_) (fun h4 => ?_)))))))
  ·
    exact .seq (.region (.cons (Ev.step (ev_mv rfl rfl) rfl rfl rfl (.cons (Ev.step (ev_as rfl rfl) rfl rfl rfl (.go (fun _ _ h => h) (.ret (fun _ _ h => h) (ret1 Try.results24 rfl (.c .h (.c .h (.c .h .n))) ⟨.slice A1 l.length c2, rfl, (by rw [hsp_.2.2.1 (by omega)])⟩))))))))
  ·
    refine .skipgo (fun _ _ h => h) (.seq (.seq (.region (.cons (Ev.step (ev_mv rfl rfl) rfl rfl rfl (.cons (Ev.step (ev_add rfl rfl rfl (r := ((idxP (hitV ⟨k1, x1⟩ ⟨k2, x2⟩) l) + 1)) rfl (by omega) (by omega)) rfl rfl rfl ?_)))))))
    refine .cons (Ev.step (ev_as rfl rfl) rfl rfl rfl (.go (fun _ _ h => h) (.block ?_)))
    refine .loop (X := Int × Int × (List Vis)) (fun ⟨i, j, X⟩ => 0 ≤ j ∧ j < i ∧ i ≤ l.length ∧ DelI (hitV ⟨k1, x1⟩ ⟨k2, x2⟩) l X j i ∧ X.length = l.length) (fun ⟨i, j, X⟩ => [(0, .slice A1 l.length c2), (1, .func (.func 25) #[] #[.pointer (some ⟨g1, 0, none⟩), .pointer (some ⟨g2, 0, none⟩)]), (5, .int .i64 j), (6, .int .i64 i)]) (fun ⟨i, j, X⟩ => [rw_ eVis 36 (.slice A1 l.length c2) X, cel g1 [.int .i64 k1, .int .i64 x1] 36, cel g2 [.int .i64 k2, .int .i64 x2] 36]) (fun _ => S) (fun _ => wf) (fun ⟨i, j, X⟩ => (l.length - i.toNat)) (fun a_ w_ hs_ hw_ => ⟨⟨((idxP (hitV ⟨k1, x1⟩ ⟨k2, x2⟩) l) + 1), (idxP (hitV ⟨k1, x1⟩ ⟨k2, x2⟩) l), l⟩, (by exact ⟨by omega, by omega, by omega, del_init (by omega), rfl⟩), hs_.mono (Sub.get (.c rfl (.c rfl (.c rfl (.c rfl .n))))), hw_.keep (.c .h (.c .h (.c .h .n)))⟩) (fun ⟨i, j, X⟩ ⟨q_0, q_1, q_2, q_3, q_4⟩ => ?_)
    show SC _ _ _ _ _ ⟨[(0, .slice A1 l.length c2), (1, .func (.func 25) #[] #[.pointer (some ⟨g1, 0, none⟩), .pointer (some ⟨g2, 0, none⟩)]), (5, .int .i64 j), (6, .int .i64 i)], [rw_ eVis 36 (.slice A1 l.length c2) X, cel g1 [.int .i64 k1, .int .i64 x1] 36, cel g2 [.int .i64 k2, .int .i64 x2] 36], S, wf⟩
    refine .seq (.seq (.region (.cons (Ev.step (ev_mv rfl rfl) rfl rfl rfl (.cons (Ev.step (ev_mv rfl rfl) rfl rfl rfl (.cons (Ev.step (ev_len rfl Try.underlying22 rfl) rfl rfl rfl ?_))))))))
    refine .cons (Ev.step (ev_cmp rfl rfl rfl rfl) rfl rfl rfl (.go (fun _ _ h => h) (.condI rfl bD (fun h5 => ?_) (fun h5 => ?_))))
    ·
      refine .skipgo (fun _ _ h => h) (.seq (.block (.seq (.region (.cons (Ev.step (ev_mv rfl rfl) rfl rfl rfl ?_))))))
      refine .cons (Ev.step (ev_mv rfl rfl) rfl rfl rfl (.cons (Ev.step (ev_ix rfl Try.underlying22 ty36 rfl rfl (by omega) (by omega) (row_adr (i := i) 0 rfl (by omega) (by omega))) rfl rfl rfl (.cons (Ev.step (ev_lda rfl rfl (row_el (E := eVis) (l := X) (i := i) 0 rfl (by omega) (by omega)) ty36) rfl rfl rfl (.cons (st_alloc rfl rfl rfl rfl zf36 (fun b6 => .cons (st_storea (l' := [.int .i64 ((gt X i).kind), .int .i64 ((gt X i).item)]) rfl rfl rfl ty36 rfl rfl rfl .h rfl rfl (.go (fun _ _ h => h) ?_))))))))))
      refine .seq (.region (.cons (Ev.step (ev_mv rfl rfl) rfl rfl rfl (.cons (Ev.step (ev_lda rfl rfl (At.whole 0 rfl) ty36) rfl rfl rfl (.cons (.viacap (args' := #[.tmp 27, .const (.pointer (some ⟨g1, 0, none⟩)), .const (.pointer (some ⟨g2, 0, none⟩))]) rfl rfl (by simp) hb25 (st_callk rfl rfl rfl rfl hb25 rfl (.c (.t (.t .h)) (.c (.t (.t .h)) .n)) (pfn g1 g2 k1 x1 k2 x2 ((gt X i).kind) ((gt X i).item) _ _) (.cons (Ev.step (ev_not rfl rfl) rfl rfl rfl ?_))))))))))
      refine .go (fun _ _ h => h) (.condI rfl (bN bV) (fun h7 => ?_) (fun h7 => ?_))
      ·
        refine .seq (.region (.cons (Ev.step (ev_mv rfl rfl) rfl rfl rfl (.cons (Ev.step (ev_mv rfl rfl) rfl rfl rfl (.cons (Ev.step (ev_lda rfl rfl (At.whole 0 rfl) ty36) rfl rfl rfl (.cons (Ev.step (ev_ix rfl Try.underlying22 ty36 rfl rfl (by omega) (by omega) (row_adr (i := j) 1 rfl (by omega) (by omega))) rfl rfl rfl ?_)))))))))
        refine .cons (st_setel (E := eVis) (i := j) (cs := [.int .i64 ((gt X i).kind), .int .i64 ((gt X i).item)]) (off := 0) (gt X i) rfl rfl rfl ty36 rfl rfl rfl rfl rfl (.t .h) (by first | ((try simp only [List.length_nil, List.length_cons, List.length_append, List.length_set, List.length_singleton, List.length_take, List.length_drop, List.length_reverse]) <;> omega) | omega) (by first | ((try simp only [List.length_nil, List.length_cons, List.length_append, List.length_set, List.length_singleton, List.length_take, List.length_drop, List.length_reverse]) <;> omega) | omega) (Nat.le_of_ble_eq_true rfl) rfl (.go (fun _ _ h => h) (.region (.cons (Ev.step (ev_mv rfl rfl) rfl rfl rfl (.cons (Ev.step (ev_add rfl rfl rfl (r := (j + 1)) rfl (by omega) (by omega)) rfl rfl rfl (.cons (Ev.step (ev_as rfl rfl) rfl rfl rfl ?_)))))))))
        exact .go (fun _ _ h => h) (.region (.cons (Ev.step (ev_mv rfl rfl) rfl rfl rfl (.cons (Ev.step (ev_add rfl rfl rfl (r := (i + 1)) rfl (by omega) (by omega)) rfl rfl rfl (.cons (Ev.step (ev_as rfl rfl) rfl rfl rfl (SP.nil (SQ.round (X := Int × Int × (List Vis)) (x := (i, j, X)) ⟨(i + 1), (j + 1), (X.set (j).toNat (gt X i))⟩ (by exact ⟨by omega, by omega, by omega, del_keep q_3 (by omega) (by omega) (by omega) (by rw [← Bool.not_eq_true]; assumption), by (try simp only [List.length_set]) <;> omega⟩) (by dsimp only; omega) (Sub.get (.c rfl (.c rfl (.c rfl (.c rfl .n))))) (fun w hw => hw.keep (.c .h (.c (.t .h) (.c (.t .h) .n)))))))))))))
      ·
        exact .skipgo (fun _ _ h => h) (.region (.cons (Ev.step (ev_mv rfl rfl) rfl rfl rfl (.cons (Ev.step (ev_add rfl rfl rfl (r := (i + 1)) rfl (by omega) (by omega)) rfl rfl rfl (.cons (Ev.step (ev_as rfl rfl) rfl rfl rfl (SP.nil (SQ.round (X := Int × Int × (List Vis)) (x := (i, j, X)) ⟨(i + 1), j, X⟩ (by exact ⟨by omega, by omega, by omega, del_skip q_3 (by omega) (by omega) (by omega) (by simp_all), by (try simp only [List.length_set]) <;> omega⟩) (by dsimp only; omega) (Sub.get (.c rfl (.c rfl (.c rfl (.c rfl .n))))) (fun w hw => hw.keep (.c (.t .h) (.c (.t .h) (.c (.t .h) .n)))))))))))))
    ·
      refine .exit (fun _ _ h => h) (.seq ?_)
      refine SC.open (A := A1) .h (fun _ _ _ e4 => ?_) (fun g8 sp_T9 eA en_T9 ec_T9 em_T9 el_T9 => ?_)
      ·
        exfalso; have e5 := congrArg List.length e4; simp only [List.length_nil] at e5; omega
      subst eA
      have el_T9 : sp_T9.length + X.length * 2 = c2 * 2 := el_T9
      unfold maxLen at em_T9
      obtain ⟨T9, hT9⟩ : ∃ T9, T9 = flat eVis X ++ sp_T9 := ⟨_, rfl⟩
      have hT9l : T9.length = c2 * 2 := by rw [hT9, List.length_append, fl_eVis]; omega
      refine SC.recel .h hT9.symm ?_
      have hT9p : T9.take (X.length * eVis.sz) = flat eVis X := pre_flat hT9
      refine .region (.cons (Ev.step (ev_mv rfl rfl) rfl rfl rfl (.cons (Ev.step (ev_mv rfl rfl) rfl rfl rfl (.cons (Ev.step (ev_slcs rfl Try.underlying22 ty36 rfl (.s rfl (by omega)) .n (by omega) (by omega)) rfl rfl rfl (.cons (st_clearp (off := 0) (p := ((j).toNat) * 2) (sz := 2) (n := (l.length - (j).toNat)) (c0 := c2) (l0 := ((j).toNat)) (z := [.int .i64 0, .int .i64 0]) rfl rfl rfl Try.underlying22 ty36 zf36 rfl rfl rfl (by omega) .h (by omega) (by rw [hT9l]; omega) (fun zs10 hzs10 => ?_)))))))))
      obtain ⟨T11, hT11⟩ : ∃ T11, T11 = put T9 (((j).toNat) * 2) zs10 := ⟨_, rfl⟩
      have hT11l : T11.length = T9.length := by rw [hT11]; exact put_length (by rw [hzs10, hT9l]; omega)
      rw [hT9l] at hT11l
      refine SP.recel .h hT11.symm ?_
      refine .go (fun _ _ h => h) (.seq (.region (.cons (Ev.step (ev_mv rfl rfl) rfl rfl rfl (.cons (Ev.step (ev_mv rfl rfl) rfl rfl rfl (.cons (Ev.step (ev_slc0 rfl Try.underlying22 ty36 rfl (.s rfl (by omega)) (by omega)) rfl rfl rfl ?_))))))))
      refine .cons (Ev.step (ev_as rfl rfl) rfl rfl rfl (.go (fun _ _ h => h) ?_))
      refine SC.close' (E := eVis) (n := (j).toNat) ((X.take j.toNat)) .h ((by rw [hT11]; exact del_tail hT9p (by omega) (by omega) hT9l (by omega))) (by (try simp only [List.length_nil, List.length_append, List.length_take, List.length_drop, List.length_reverse]) <;> omega) (by omega) (by show _ ≤ 9223372036854775807; omega) hT11l ?_
      exact .ret (fun _ _ h => h) (ret1 Try.results24 rfl (.c .h (.c .h (.c .h .n))) ⟨.slice (some ⟨g8, 0, none⟩) ((j).toNat) c2, rfl, (by rw [del_end q_3 (by omega)])⟩)

end Go.Proofs.Yteabdapdlfhncaa.Sx
