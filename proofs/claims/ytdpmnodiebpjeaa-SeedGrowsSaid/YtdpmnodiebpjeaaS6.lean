import Derived.Test.YtdpmnodiebpjeaaProg
import Derived.Test.YtdpmnodiebpjeaaS5
set_option linter.unusedVariables false
set_option linter.unusedSimpArgs false
set_option linter.unusedSectionVars false
set_option maxRecDepth 20000
set_option maxHeartbeats 1000000
namespace Go.Proofs.Ytdpmnodiebpjeaa.Sx.FJ
open Go Go.SX Go.Proofs
theorem ty46 : ty Try.prog 46 = some (true, 2) := by kernel_rfl
theorem mo : Try.prog.follows .mixedOrders = true := by kernel_rfl
theorem zf46 : (Try.prog.info? 46).bind (fun i => i.zero.map Value.cells) = some (List.toArray [.int .i64 0, .int .i64 0]) := by kernel_rfl
theorem fo46_0 : fo Try.prog 46 0 = some 0 := by kernel_rfl
theorem ty44 : ty Try.prog 44 = some (false, 1) := by kernel_rfl
theorem ty29 : ty Try.prog 29 = some (true, 8) := by kernel_rfl
theorem hbd65 : hasBody Try.prog 65 = true := by kernel_rfl
theorem zf81 : (Try.prog.info? 81).bind (fun i => i.zero.map Value.cells) = some (List.toArray [.int .i64 0, .int .i64 0, .slice none 0 0]) := by kernel_rfl
theorem ty81 : ty Try.prog 81 = some (true, 3) := by kernel_rfl
theorem hbd90 : hasBody Try.prog 90 = true := by kernel_rfl
theorem fo46_1 : fo Try.prog 46 1 = some 1 := by kernel_rfl
theorem ty3 : ty Try.prog 3 = some (false, 1) := by kernel_rfl
theorem fo29_0 : fo Try.prog 29 0 = some 0 := by kernel_rfl
theorem ai3 : (Try.prog.info? 3).map (fun i => (i.zero, i.size, i.bytes)) = some (some (.int .i64 0), 1, 8) := by kernel_rfl
theorem fo29_4 : fo Try.prog 29 4 = some 6 := by kernel_rfl
theorem ty26 : ty Try.prog 26 = some (false, 1) := by kernel_rfl
theorem ty83 : ty Try.prog 83 = some (true, 7) := by kernel_rfl
theorem fo83_1 : fo Try.prog 83 1 = some 3 := by kernel_rfl
theorem ty22 : ty Try.prog 22 = some (false, 1) := by kernel_rfl
theorem fo83_2 : fo Try.prog 83 2 = some 4 := by kernel_rfl
theorem fo29_5 : fo Try.prog 29 5 = some 7 := by kernel_rfl
theorem ty27 : ty Try.prog 27 = some (false, 1) := by kernel_rfl
theorem ty86 : ty Try.prog 86 = some (true, 9) := by kernel_rfl
theorem fo86_2 : fo Try.prog 86 2 = some 6 := by kernel_rfl
theorem ai22 : (Try.prog.info? 22).map (fun i => (i.zero, i.size, i.bytes)) = some (some (.slice none 0 0), 1, 24) := by kernel_rfl
theorem eqIn46 (d : Nat) (x0 y0 : Int) (x1 y1 : Int) (w : World) : (Op.equalIn (d + 3) 46 (.agg #[(.int .i64 x0), (.int .i64 x1)]) (.agg #[(.int .i64 y0), (.int .i64 y1)])).run Try.prog w = .ok ((x0 == y0) && (x1 == y1)) w := by
 rw [run_equalIn_struct w (d + 2) 46 _ _ (by kernel_rfl) (by kernel_rfl)]
 have hf : (Try.prog.fieldsOf 46).toList = [{ name := "Kind", type := 44, offset := 0, embedded := false, tag := "", pkgPath := "", byteOffset := 0 }, { name := "Item", type := 3, offset := 1, embedded := false, tag := "", pkgPath := "", byteOffset := 8 }] := by kernel_rfl
 rw [hf]
 have h44 : ∀ (x y : Int) (w : World), (Op.equalIn (d + 2) 44 (.int .i64 x) (.int .i64 y)).run Try.prog w = .ok (x == y) w := fun x y w => by
  simp [Op.equalIn, run_underlying Try.underlying44]
 have h3 : ∀ (x y : Int) (w : World), (Op.equalIn (d + 2) 3 (.int .i64 x) (.int .i64 y)).run Try.prog w = .ok (x == y) w := fun x y w => by
  simp [Op.equalIn, run_underlying Try.underlying3]
 have p0 : ∀ (x0 : Int) (x1 : Int) (w : World), (part 44 #[(.int .i64 x0), (.int .i64 x1)] 0).run Try.prog w = .ok (.int .i64 x0) w := fun _ _ _ => by kernel_rfl
 have p1 : ∀ (x0 : Int) (x1 : Int) (w : World), (part 3 #[(.int .i64 x0), (.int .i64 x1)] 1).run Try.prog w = .ok (.int .i64 x1) w := fun _ _ _ => by kernel_rfl
 simp only [Op.eqFields, Sem.run_bind, h44, h3, p0, p1, Result.andThen_ok, Sem.run_ite, ne_eq]
 cases g0 : (x0 == y0) <;> cases g1 : (x1 == y1) <;> simp [g0, g1]
theorem ev46_eql (x y : Operand) (x0 y0 : Int) (x1 y1 : Int) (w : World) : (do eqGuard .eql 46 x y (.agg #[(.int .i64 x0), (.int .i64 x1)]) (.agg #[(.int .i64 y0), (.int .i64 y1)]); binOp .eql 46 (.agg #[(.int .i64 x0), (.int .i64 x1)]) (.agg #[(.int .i64 y0), (.int .i64 y1)]) : Sem Value).run Try.prog w = .ok (.bool (((x0 == y0) && (x1 == y1)))) w := by
 have h1 : (Op.equal 46 (.agg #[(.int .i64 x0), (.int .i64 x1)]) (.agg #[(.int .i64 y0), (.int .i64 y1)])).run Try.prog w = .ok ((x0 == y0) && (x1 == y1)) w := eqIn46 9997 x0 y0 x1 y1 w
 have h2 : (eqGuard .eql 46 x y (.agg #[(.int .i64 x0), (.int .i64 x1)]) (.agg #[(.int .i64 y0), (.int .i64 y1)])).run Try.prog w = .ok () w := by kernel_rfl
 simp only [Sem.run_bind, h2, Result.andThen_ok, binOp, h1]
 rfl
end Go.Proofs.Ytdpmnodiebpjeaa.Sx.FJ
namespace Go.Proofs.Ytdpmnodiebpjeaa.Sx
open Go Go.SX Go.Proofs FJ
theorem count_ (A : Option Addr) (c : Nat) (l : List Vis) (n : Int) (x : Vis) (S : Nat → Prop) (wf : World) (hA : Fr eVis S wf A l) (hn : 0 ≤ n ∧ n ≤ (l.length : Int)) (hl : l.length ≤ 1000000) :
  TR0 Try.prog 90 [.slice A l.length c, .int .i64 n, .agg #[.int .i64 x.kind, .int .i64 x.item]] [] S wf (fun v_ C_ => v_ = .int .i64 (((l.take (n).toNat).count x : Nat) : Int) ∧ C_ = []) := by
 have hla := hA.len
 refine TR.mk Try.func90 rfl Try.ntmps90 rfl rfl (fun w_ => ?_)
 refine .seq (.region (.cons (st_boxa rfl rfl rfl rfl rfl (fun b1 => .a rfl rfl rfl (.go idQ (.seq ?_))))))
 refine .region (.a rfl rfl rfl (.go idQ (.seq (.seq (.region ?_)))))
 refine .a rfl rfl rfl (.go idQ (.block ?_))
 refine .loop (X := Int × Int) (fun ⟨i, c0⟩ => 0 ≤ i ∧ i ≤ n ∧ c0 = (((l.take i.toNat).count x : Nat) : Int) ∧ (0 ≤ c0 ∧ c0 ≤ i)) (fun ⟨i, c0⟩ => [(0, .slice A l.length c), (1, .int .i64 n), (5, .pointer (some ⟨b1, 0, none⟩)), (6, .int .i64 0), (8, .int .i64 i), (7, .int .i64 c0)]) (fun ⟨i, c0⟩ => [cel b1 [.int .i64 x.kind, .int .i64 x.item] 46]) (fun _ => S) (fun _ => wf) (fun ⟨i, c0⟩ => (n - i).toNat) (fun a_ w_ hs_ hw_ => ⟨⟨0, 0⟩, (by exact ⟨(by omega), (by omega), (by simp), (by omega)⟩), hs_.mono (Sub.get (.c4 rfl rfl rfl rfl (.c rfl (.c rfl .n)))), hw_.keep (.c .h .n)⟩) (fun ⟨i, c0⟩ ⟨q_0, q_1, q_2, q_3⟩ => ?_)
 show SC _ _ _ _ _ ⟨[(0, .slice A l.length c), (1, .int .i64 n), (5, .pointer (some ⟨b1, 0, none⟩)), (6, .int .i64 0), (8, .int .i64 i), (7, .int .i64 c0)], [cel b1 [.int .i64 x.kind, .int .i64 x.item] 46], S, wf⟩
 refine .seq (.seq (.region (.m rfl rfl rfl (.m rfl rfl rfl (.v (ev_cmp rfl rfl rfl rfl) rfl ?_)))))
 refine .go idQ (.condI rfl bD (fun h2 => ?_) (fun h2 => ?_))
 ·
  refine .skipgo idQ (.seq (.block (.seq ?_)))
  refine SC.draw mo [] [] .n (fun _ _ _ => sc0) (fun wf_3 hl_3 hx_3 hR_3 => ?_)
  refine SR.m 0 rfl rfl rfl rfl (SR.m 1 rfl rfl rfl rfl (SR.z 2 rfl rfl (ev_ix rfl Try.underlying41 ty46 rfl rfl (by omega) (by omega) (fun _ _ => Fr.adr (i := i) (Fr.ext hA hx_3) (by omega) (by omega))) (SR.z 3 rfl rfl (ev_lda rfl rfl (At.d (Fr.el (i := i) (Fr.ext hA hx_3) (by omega) (by omega))) ty46) (SR.z 4 rfl rfl (ev_lda (cs := [.int .i64 x.kind, .int .i64 x.item]) rfl rfl (At.d (At.lent hR_3 0 rfl rfl)) ty46) (SR.z 5 rfl rfl (ev_bin rfl rfl rfl (r := .bool ((((gt l i).kind) == x.kind) && (((gt l i).item) == x.item))) (ev46_eql _ _ _ _ _ _)) ?_)))))
  refine SR.fin (by kernel_rfl) hl_3 hx_3 hR_3 .n (SQ.go idQ (.condI rfl (bA bE bE) (fun h4 => ?_) (fun h4 => ?_)))
  ·
   refine .region (.m rfl rfl rfl (.v (ev_add rfl rfl rfl (r := (c0 + 1)) rfl (by omega) (by omega)) rfl (.a rfl rfl rfl (.go idQ (.region ?_)))))
   exact .m rfl rfl rfl (.v (ev_add rfl rfl rfl (r := (i + 1)) rfl (by omega) (by omega)) rfl (.a rfl rfl rfl (SP.nil (SQ.roundb (X := Int × Int) (x := (i, c0)) ⟨(i + 1), (c0 + 1)⟩ (by exact ⟨(by omega), (by omega), (cnt_y q_2 (by omega) (by omega) (by assumption)), (by omega)⟩) (by dsimp only; omega) (Sub.get (.c4 rfl rfl rfl rfl (.c rfl (.c rfl .n)))) (fun w hw => hw.keep (.c .h .n))))))
  exact .skipgo idQ (.region (.m rfl rfl rfl (.v (ev_add rfl rfl rfl (r := (i + 1)) rfl (by omega) (by omega)) rfl (.a rfl rfl rfl (SP.nil (SQ.roundb (X := Int × Int) (x := (i, c0)) ⟨(i + 1), c0⟩ (by exact ⟨(by omega), (by omega), (cnt_n q_2 (by omega) (by omega) (by assumption)), (by omega)⟩) (by dsimp only; omega) (Sub.get (.c4 rfl rfl rfl rfl (.c rfl (.c rfl .n)))) (fun w hw => hw.keep (.c .h .n))))))))
 refine .exit idQ (.seq (.region (.m rfl rfl rfl (.a rfl rfl rfl (.go idQ ?_)))))
 exact .ret idQ (ret1 Try.results90 rfl .n ⟨(congrArg (Value.int .i64) (by rw [q_2, show i = n from by omega])), rfl⟩)
theorem rpairs_ (p : PB) (A : Option Addr) (c : Nat) (l : List Vis) (S : Nat → Prop) (wf : World) (hA : Fr eVis S wf A l) (hPB : PBF S wf p) (hL : LawP p) (hll : l.length ≤ 60) :
  TR0 Try.prog 77 [.agg #[.int .i64 p.dims, .int .i64 p.tn, .slice p.ptA p.time.length p.ptc, .int .i64 p.dn, .slice p.pdA p.dist.length p.pdc, .slice p.pvA p.vehs.length p.pvc, .slice p.pjA p.jobs.length p.pjc, .slice p.psA p.ships.length p.psc], .slice A l.length c] [] S wf (fun v_ C_ => v_ = .bool (pairsR p l [] 0) ∧ C_ = []) := by
 have hla := hA.len
 refine TR.mk Try.func77 rfl Try.ntmps77 rfl rfl (fun w_ => ?_)
 refine .seq (.region (.cons (st_boxa rfl rfl rfl rfl rfl (fun b1 => .a rfl rfl rfl (.go idQ (.seq ?_))))))
 refine .seq (.region (.a rfl rfl rfl (.go idQ (.block ?_))))
 refine .loop (X := Int) (fun i => 0 ≤ i ∧ i ≤ (l.length : Int) ∧ (∀ j : Int, 0 ≤ j → j < i → okAt p l j)) (fun i => [(1, .slice A l.length c), (2, .pointer (some ⟨b1, 0, none⟩)), (5, .int .i64 i)]) (fun i => [cel b1 [.int .i64 p.dims, .int .i64 p.tn, .slice p.ptA p.time.length p.ptc, .int .i64 p.dn, .slice p.pdA p.dist.length p.pdc, .slice p.pvA p.vehs.length p.pvc, .slice p.pjA p.jobs.length p.pjc, .slice p.psA p.ships.length p.psc] 29]) (fun _ => S) (fun _ => wf) (fun i => ((l.length : Int) - i).toNat) (fun a_ w_ hs_ hw_ => ⟨0, (by exact ⟨(by omega), (by omega), (fun j h0_ h1_ => by omega)⟩), hs_.mono (Sub.get (.c rfl (.c rfl (.c rfl .n)))), hw_.keep (.c .h .n)⟩) (fun i ⟨q_0, q_1, q_2⟩ => ?_)
 try dsimp only
 refine .seq (.seq (.region (.m rfl rfl rfl (.m rfl rfl rfl (.v (ev_len rfl Try.underlying41 rfl) rfl ?_)))))
 refine .v (ev_cmp rfl rfl rfl rfl) rfl (.go idQ (.condI rfl bD (fun h2 => ?_) (fun h2 => ?_)))
 ·
  refine .skipgo idQ (.seq (.block (.seq (.region (.m rfl rfl rfl ?_)))))
  refine .m rfl rfl rfl (.v (ev_ix rfl Try.underlying41 ty46 rfl rfl (by omega) (by omega) (fun _ _ => Fr.adr (i := i) hA (by omega) (by omega))) rfl (.v (ev_lda rfl rfl (At.w (Fr.el (i := i) hA (by omega) (by omega))) ty46) rfl (.cons (st_alloc rfl rfl rfl rfl zf46 (fun b3 => .cons (st_storea (l' := [.int .i64 ((gt l i).kind), .int .i64 ((gt l i).item)]) rfl rfl rfl ty46 rfl rfl rfl .h rfl rfl (.go idQ ?_)))))))
  refine .seq (.seq (.region (.v (ev_fa rfl fo46_0 rfl (r := 0) rfl) rfl (.v (ev_ld1 rfl ty44 rfl (At.own1 0 rfl rfl)) rfl (.v (ev_cmp rfl rfl rfl rfl) rfl ?_)))))
  refine .go idQ (.condI rfl bE (fun h4 => ?_) (fun h4 => ?_))
  ·
   exact .exit idQ (.region (.m rfl rfl rfl (.v (ev_add rfl rfl rfl (r := (i + 1)) rfl (by omega) (by omega)) rfl (.a rfl rfl rfl (SP.nil (SQ.roundb (X := Int) (x := (i)) (i + 1) (by exact ⟨(by omega), (by omega), (pq_next q_2 (okA_4 (by omega)))⟩) (by show (_ : Nat) < _; omega) (Sub.get (.c rfl (.c rfl (.c rfl .n)))) (fun w hw => hw.keep (.c (.t .h) .n))))))))
  refine .skipgo idQ (.seq (.region (.v (ev_lda rfl rfl (At.whole 1 rfl) ty29) rfl (.v (ev_lda rfl rfl (At.whole 0 rfl) ty46) rfl (.cons (st_callk rfl rfl rfl rfl hbd65 rfl .n (rstop_ p (gt l i) _ _ hPB) ?_))))))
  refine .m rfl rfl rfl (.v (ev_ext rfl rfl rfl) rfl (.v (ev_ext rfl rfl rfl) rfl (.cons (st_alloc rfl rfl rfl rfl zf81 (fun b5 => .cons (st_storea (l' := [.int .i64 ((stopD p (gt l i)).pl), .int .i64 ((stopD p (gt l i)).srv), .slice ((stopD p (gt l i)).soA) ((stopD p (gt l i)).sws.length) ((stopD p (gt l i)).soc)]) rfl rfl rfl ty81 rfl rfl rfl .h rfl rfl (.a rfl rfl rfl ?_)))))))
  refine .go idQ (.seq (.seq (.region (.m rfl rfl rfl (.v (ev_not rfl rfl) rfl ?_)))))
  refine .m rfl rfl rfl (.w (fun _ => ev_mv rfl rfl) rfl (.w (fun _ => ev_mv rfl rfl) rfl (.w (fun hb => ev_len rfl Try.underlying41 (lkg rfl hb)) rfl (.w (fun _ => ev_lda rfl rfl (At.whole 1 rfl) ty46) rfl (.cons (st_gcallk rfl rfl rfl rfl rfl rfl hbd90 (fun hb => (lkA1 (lkg rfl hb) (lkA1 (lkg rfl hb) (lkA1 (lkg rfl hb) lkA0)))) .n (fun hb => have hp := bF (bN bV) hb; count_ A c l (l.length : Int) (gt l i) _ _ hA (by first | omega | simp only [LL] <;> omega | simp <;> omega) (by first | omega | simp only [LL] <;> omega | simp <;> omega)) ?_))))))
  refine .w (fun hb => ev_cmp rfl (lkg rfl hb) rfl rfl) rfl (.v (ev_or rfl rfl rfl rfl) rfl (.go idQ (.condI rfl (bO (bN bV) bNE) (fun h6 => ?_) (fun h6 => ?_))))
  ·
   exact .seq (.region (.a rfl rfl rfl (.go idQ (.ret idQ (ret1 Try.results77 rfl .n ⟨(congrArg Value.bool (pq_no (by omega) (by omega) (no1 (by omega) (by assumption)))), rfl⟩)))))
  refine .skipgo idQ (.seq (.seq (.region (.v (ev_fa rfl fo46_0 rfl (r := 0) rfl) rfl (.v (ev_ld1 rfl ty44 rfl (At.own1 1 rfl rfl)) rfl ?_)))))
  refine .v (ev_cmp rfl rfl rfl rfl) rfl (.m rfl rfl rfl (.w (fun _ => ev_mv rfl rfl) rfl (.w (fun _ => ev_mv rfl rfl) rfl (.w (fun _ => ev_fa rfl fo46_1 rfl (r := 1) rfl) rfl (.w (fun hb => ev_ld1 rfl ty3 (lkg rfl hb) (At.own1 1 rfl rfl)) rfl ?_)))))
  refine .w (fun hb => Ev.reslot (t := 45) (v := .int .i64 ((gt l i).item)) (lkg rfl hb) (ev_any (v := .agg #[.int .i64 2, .int .i64 ((gt l i).item)]) rfl (by kernel_rfl) (fun _ => by kernel_rfl))) rfl (.cons (st_gcallk rfl rfl rfl rfl rfl rfl hbd90 (fun hb => (lkA1 (lkg rfl hb) (lkA1 (lkg rfl hb) (lkA1 (lkg rfl hb) lkA0)))) .n (fun hb => have hp := bT bE hb; count_ A c l i (Vis.mk 2 ((gt l i).item)) _ _ hA (by first | omega | simp only [LL] <;> omega | simp <;> omega) (by first | omega | simp only [LL] <;> omega | simp <;> omega)) (.w (fun hb => ev_cmp rfl (lkg rfl hb) rfl rfl) rfl (.v (ev_and rfl rfl rfl rfl) rfl (.go idQ (.condI rfl (bA bE bNE) (fun h7 => ?_) (fun h7 => ?_)))))))
  ·
   exact .seq (.region (.a rfl rfl rfl (.go idQ (.ret idQ (ret1 Try.results77 rfl .n ⟨(congrArg Value.bool (pq_no (by omega) (by omega) (no2 (by omega) (by assumption)))), rfl⟩)))))
  refine .skipgo idQ (.seq (.region (.v (ev_fa rfl fo46_0 rfl (r := 0) rfl) rfl (.v (ev_ld1 rfl ty44 rfl (At.own1 1 rfl rfl)) rfl (.v (ev_cmp rfl rfl rfl rfl) rfl ?_)))))
  refine .m rfl rfl rfl (.w (fun _ => ev_mv rfl rfl) rfl (.w (fun _ => ev_mv rfl rfl) rfl (.w (fun hb => ev_len rfl Try.underlying41 (lkg rfl hb)) rfl (.w (fun _ => ev_fa rfl fo46_1 rfl (r := 1) rfl) rfl (.w (fun hb => ev_ld1 rfl ty3 (lkg rfl hb) (At.own1 1 rfl rfl)) rfl ?_)))))
  refine .w (fun hb => Ev.reslot (t := 58) (v := .int .i64 ((gt l i).item)) (lkg rfl hb) (ev_any (v := .agg #[.int .i64 3, .int .i64 ((gt l i).item)]) rfl (by kernel_rfl) (fun _ => by kernel_rfl))) rfl (.cons (st_gcallk rfl rfl rfl rfl rfl rfl hbd90 (fun hb => (lkA1 (lkg rfl hb) (lkA1 (lkg rfl hb) (lkA1 (lkg rfl hb) lkA0)))) .n (fun hb => have hp := bT bE hb; count_ A c l (l.length : Int) (Vis.mk 3 ((gt l i).item)) _ _ hA (by first | omega | simp only [LL] <;> omega | simp <;> omega) (by first | omega | simp only [LL] <;> omega | simp <;> omega)) (.w (fun hb => ev_cmp rfl (lkg rfl hb) rfl rfl) rfl (.v (ev_and rfl rfl rfl rfl) rfl (.go idQ (.condI rfl (bA bE bNE) (fun h8 => ?_) (fun h8 => ?_)))))))
  ·
   exact .seq (.region (.a rfl rfl rfl (.go idQ (.ret idQ (ret1 Try.results77 rfl .n ⟨(congrArg Value.bool (pq_no (by omega) (by omega) (no3 (by omega) (by assumption)))), rfl⟩)))))
  exact .skipgo idQ (.region (.m rfl rfl rfl (.v (ev_add rfl rfl rfl (r := (i + 1)) rfl (by omega) (by omega)) rfl (.a rfl rfl rfl (SP.nil (SQ.roundb (X := Int) (x := (i)) (i + 1) (by exact ⟨(by omega), (by omega), (pq_next q_2 (okA (c1 := True) (c2 := True) (c3 := True) (by assumption) (by assumption) (by assumption)))⟩) (by show (_ : Nat) < _; omega) (Sub.get (.c rfl (.c rfl (.c rfl .n)))) (fun w hw => hw.keep (.c (.t (.t .h)) .n))))))))
 exact .exit idQ (.seq (.region (.a rfl rfl rfl (.go idQ (.ret idQ (ret1 Try.results77 rfl .n ⟨(congrArg Value.bool (pq_yes q_2 (by omega))), rfl⟩))))))
theorem rloads_ (p : PB) (A : Option Addr) (c : Nat) (l : List Vis) (S : Nat → Prop) (wf : World) (hA : Fr eVis S wf A l) (hPB : PBF S wf p) (hL : LawP p) (hll : l.length ≤ 60) :
  TR0 Try.prog 64 [.agg #[.int .i64 p.dims, .int .i64 p.tn, .slice p.ptA p.time.length p.ptc, .int .i64 p.dn, .slice p.pdA p.dist.length p.pdc, .slice p.pvA p.vehs.length p.pvc, .slice p.pjA p.jobs.length p.pjc, .slice p.psA p.ships.length p.psc], .slice A l.length c] [] S wf (fun v_ C_ => ∃ (u : Value) (Y : List IL), (Y.map IL.il = loadsF p l) ∧ v_ = u ∧ C_ = [rw_ eIL 22 (u) Y, nestIL 3 Y]) := by
 have hla := hA.len
 have hdm := hL.dims
 have hfl := loadsF_len (p := p) (l := l)
 refine TR.mk Try.func64 rfl Try.ntmps64 rfl rfl (fun w_ => ?_)
 refine .seq (.region (.cons (st_boxa rfl rfl rfl rfl rfl (fun b1 => .a rfl rfl rfl (.go idQ (.seq ?_))))))
 refine .region (.a rfl rfl rfl (.go idQ (.seq (.seq (.region ?_)))))
 refine .a rfl rfl rfl (.go idQ (.block ?_))
 refine SC.nilrow eIL 22 ?_
 refine SC.nestIL0 3 ?_
 refine .loop (X := Int × (List IL) × Value) (fun ⟨k, Y, u_Y⟩ => 0 ≤ k ∧ k ≤ (l.length : Int) + 1 ∧ Y.map IL.il = (loadsF p l).take k.toNat ∧ (Y.length : Int) = k) (fun ⟨k, Y, u_Y⟩ => [(1, .slice A l.length c), (2, .pointer (some ⟨b1, 0, none⟩)), (4, .slice none 0 0), (6, .int .i64 k), (5, u_Y)]) (fun ⟨k, Y, u_Y⟩ => [nestIL 3 Y, rw_ eIL 22 (u_Y) Y, cel b1 [.int .i64 p.dims, .int .i64 p.tn, .slice p.ptA p.time.length p.ptc, .int .i64 p.dn, .slice p.pdA p.dist.length p.pdc, .slice p.pvA p.vehs.length p.pvc, .slice p.pjA p.jobs.length p.pjc, .slice p.psA p.ships.length p.psc] 29]) (fun _ => S) (fun _ => wf) (fun ⟨k, Y, u_Y⟩ => ((l.length : Int) + 1 - k).toNat) (fun a_ w_ hs_ hw_ => ⟨⟨0, ([] : List IL), .slice none 0 0⟩, (by (try dsimp only); exact ⟨(by omega), (by omega), rfl, rfl⟩), hs_.mono (Sub.get (.c4 rfl rfl rfl rfl (.c rfl .n))), hw_.keep (.c .h (.c .h (.c .h .n)))⟩) (fun ⟨k, Y, u_Y⟩ ⟨q_0, q_1, q_2, q_3⟩ => ?_)
 show SC _ _ _ _ _ ⟨[(1, .slice A l.length c), (2, .pointer (some ⟨b1, 0, none⟩)), (4, .slice none 0 0), (6, .int .i64 k), (5, u_Y)], [nestIL 3 Y, rw_ eIL 22 (u_Y) Y, cel b1 [.int .i64 p.dims, .int .i64 p.tn, .slice p.ptA p.time.length p.ptc, .int .i64 p.dn, .slice p.pdA p.dist.length p.pdc, .slice p.pvA p.vehs.length p.pvc, .slice p.pjA p.jobs.length p.pjc, .slice p.psA p.ships.length p.psc] 29], S, wf⟩
 refine .seq (.seq (.region (.m rfl rfl rfl (.m rfl rfl rfl (.v (ev_len rfl Try.underlying41 rfl) rfl ?_)))))
 refine .v (ev_cmp rfl rfl rfl rfl) rfl (.go idQ (.condI rfl bD (fun h2 => ?_) (fun h2 => ?_)))
 ·
  refine .skipgo idQ (.seq (.block (.seq (.region (.v (ev_fa rfl fo29_0 rfl (r := 0) rfl) rfl ?_)))))
  refine .v (ev_ld1 rfl ty3 rfl (At.own1 2 rfl rfl)) rfl (.cons (st_mkints (q := .i64) (n := (p.dims).toNat) rfl rfl rfl rfl Try.underlying22 ai3 rfl rfl (by omega) (by omega) rfl (fun b3 => .a rfl rfl rfl (.go idQ (.seq (.seq ?_))))))
  refine .region (.a rfl rfl rfl (.go idQ (.block ?_)))
  refine .loop (X := Int × (List Int)) (fun ⟨i, a⟩ => 0 ≤ i ∧ i ≤ (l.length : Int) ∧ rlR p k (l.drop i.toNat) i a = loadQ p l k ∧ lOk p (1000000 * i) a) (fun ⟨i, a⟩ => [(1, .slice A l.length c), (2, .pointer (some ⟨b1, 0, none⟩)), (4, .slice none 0 0), (6, .int .i64 k), (5, u_Y), (7, .slice (some ⟨b3, 0, none⟩) ((p.dims).toNat) ((p.dims).toNat)), (8, .int .i64 i)]) (fun ⟨i, a⟩ => [rw_ eZ 3 (.slice (some ⟨b3, 0, none⟩) ((p.dims).toNat) ((p.dims).toNat)) a, nestIL 3 Y, rw_ eIL 22 (u_Y) Y, cel b1 [.int .i64 p.dims, .int .i64 p.tn, .slice p.ptA p.time.length p.ptc, .int .i64 p.dn, .slice p.pdA p.dist.length p.pdc, .slice p.pvA p.vehs.length p.pvc, .slice p.pjA p.jobs.length p.pjc, .slice p.psA p.ships.length p.psc] 29]) (fun _ => S) (fun _ => wf) (fun ⟨i, a⟩ => ((l.length : Int) - i).toNat) (fun a_ w_ hs_ hw_ => ⟨⟨0, (List.replicate ((p.dims).toNat) 0)⟩, (by (try dsimp only); exact ⟨(by omega), (by omega), rfl, (⟨zeros_len hL, bdd_mono (bdd_zero _) (by omega)⟩)⟩), hs_.mono (Sub.get (.c4 rfl rfl rfl rfl (.c rfl (.c rfl (.c rfl .n))))), hw_.keep (.c .h (.c .h (.c .h (.c .h .n))))⟩) (fun ⟨i, a⟩ ⟨r_0, r_1, r_2, r_3⟩ => ?_)
  show SC _ _ _ _ _ ⟨[(1, .slice A l.length c), (2, .pointer (some ⟨b1, 0, none⟩)), (4, .slice none 0 0), (6, .int .i64 k), (5, u_Y), (7, .slice (some ⟨b3, 0, none⟩) ((p.dims).toNat) ((p.dims).toNat)), (8, .int .i64 i)], [rw_ eZ 3 (.slice (some ⟨b3, 0, none⟩) ((p.dims).toNat) ((p.dims).toNat)) a, nestIL 3 Y, rw_ eIL 22 (u_Y) Y, cel b1 [.int .i64 p.dims, .int .i64 p.tn, .slice p.ptA p.time.length p.ptc, .int .i64 p.dn, .slice p.pdA p.dist.length p.pdc, .slice p.pvA p.vehs.length p.pvc, .slice p.pjA p.jobs.length p.pjc, .slice p.psA p.ships.length p.psc] 29], S, wf⟩
  refine .seq (.seq (.region (.m rfl rfl rfl (.m rfl rfl rfl (.v (ev_len rfl Try.underlying41 rfl) rfl ?_)))))
  refine .v (ev_cmp rfl rfl rfl rfl) rfl (.go idQ (.condI rfl bD (fun h4 => ?_) (fun h4 => ?_)))
  ·
   refine .skipgo idQ (.seq (.block (.seq ?_)))
   refine SC.draw mo [] [] .n (fun _ _ _ => sc0) (fun wf_5 hl_5 hx_5 hR_5 => ?_)
   refine SR.cut (fun bb6 => ([(1, .slice A l.length c), (2, .pointer (some ⟨b1, 0, none⟩)), (4, .slice none 0 0), (6, .int .i64 k), (5, u_Y), (7, .slice (some ⟨b3, 0, none⟩) ((p.dims).toNat) ((p.dims).toNat)), (8, .int .i64 i), (22, .int .i64 i), (23, .slice A l.length c), (24, .int .i64 (l.length : Int)), (25, .bool (decide (i < (l.length : Int)))), (29, .agg #[.int .i64 p.dims, .int .i64 p.tn, .slice p.ptA p.time.length p.ptc, .int .i64 p.dn, .slice p.pdA p.dist.length p.pdc, .slice p.pvA p.vehs.length p.pvc, .slice p.pjA p.jobs.length p.pjc, .slice p.psA p.ships.length p.psc]), (30, .slice A l.length c), (31, .int .i64 i), (32, .pointer (some ⟨(ab A), ao A + (i).toNat * 2, none⟩)), (33, .agg #[.int .i64 ((gt l i).kind), .int .i64 ((gt l i).item)]), (34, .tuple #[.agg #[.int .i64 ((stopD p (gt l i)).pl), .int .i64 ((stopD p (gt l i)).srv), .slice ((stopD p (gt l i)).soA) ((stopD p (gt l i)).sws.length) ((stopD p (gt l i)).soc)], .bool (isStop p (gt l i))]), (28, .tuple #[.agg #[.int .i64 ((stopD p (gt l i)).pl), .int .i64 ((stopD p (gt l i)).srv), .slice ((stopD p (gt l i)).soA) ((stopD p (gt l i)).sws.length) ((stopD p (gt l i)).soc)], .bool (isStop p (gt l i))]), (35, .agg #[.int .i64 ((stopD p (gt l i)).pl), .int .i64 ((stopD p (gt l i)).srv), .slice ((stopD p (gt l i)).soA) ((stopD p (gt l i)).sws.length) ((stopD p (gt l i)).soc)]), (36, .bool (isStop p (gt l i))), (9, .pointer (some ⟨bb6, 0, none⟩)), (10, .bool (isStop p (gt l i)))], [cel bb6 [.int .i64 ((stopD p (gt l i)).pl), .int .i64 ((stopD p (gt l i)).srv), .slice ((stopD p (gt l i)).soA) ((stopD p (gt l i)).sws.length) ((stopD p (gt l i)).soc)] 81, rw_ eZ 3 (.slice (some ⟨b3, 0, none⟩) ((p.dims).toNat) ((p.dims).toNat)) a, nestIL 3 Y, rw_ eIL 22 (u_Y) Y, cel b1 [.int .i64 p.dims, .int .i64 p.tn, .slice p.ptA p.time.length p.ptc, .int .i64 p.dn, .slice p.pdA p.dist.length p.pdc, .slice p.pvA p.vehs.length p.pvc, .slice p.pjA p.jobs.length p.pjc, .slice p.psA p.ships.length p.psc] 29])) S wf (fun bb6 => ?_) (fun key7 => ?_)
   ·
    try dsimp only
    refine SQ.go idQ (.seq (.seq (.region (.m rfl rfl rfl (.v (ev_not rfl rfl) rfl ?_)))))
    refine .go idQ (.condI rfl (bN bV) (fun h8 => ?_) (fun h8 => ?_))
    ·
     exact .exit idQ (.region (.m rfl rfl rfl (.v (ev_add rfl rfl rfl (r := (i + 1)) rfl (by omega) (by omega)) rfl (.a rfl rfl rfl (SP.nil (SQ.roundb (X := Int × (List Int)) (x := (i, a)) ⟨(i + 1), a⟩ (by (try dsimp only); exact ⟨(by omega), (by omega), (by have hq := r_2; rw [drop_gt (x := i) (by omega) (by omega), rlR_cons, stQ0 (by assumption)] at hq; exact hq), (lOk_mono r_3 (by omega))⟩) (by dsimp only; omega) (Sub.get (.c4 rfl rfl rfl rfl (.c rfl (.c rfl (.c rfl .n))))) (fun w hw => hw.keep (.c (.t .h) (.c (.t .h) (.c (.t .h) (.c (.t .h) .n)))))))))))
    refine .skipgo idQ (.seq (.region (.m rfl rfl rfl (.m rfl rfl rfl (.v (ev_ix rfl Try.underlying41 ty46 rfl rfl (by omega) (by omega) (fun _ _ => Fr.adr (i := i) hA (by omega) (by omega))) rfl ?_)))))
    refine .v (ev_fa rfl fo46_1 rfl (r := ao A + (i).toNat * 2 + 1) rfl) rfl (.v (ev_ld1 rfl ty3 rfl (At.elem1 (At.w (Fr.el (i := i) hA (by omega) (by omega))) 1 rfl)) rfl (.a rfl rfl rfl (.go idQ (.seq ?_))))
    have hst : isStop p (gt l i) = true := by first | assumption | exact Classical.not_not.1 (by assumption)
    have hsl : (stQ p (gt l i) (decide (i ≥ k)) a).length = a.length := by have := stQ_len hL (x := gt l i) (late := decide (i ≥ k)) r_3.1; have := r_3.1; omega
    have hal := r_3.1
    refine .region (.a rfl rfl rfl (.go idQ (.block ?_)))
    refine .loop (X := Int × (List Int)) (fun ⟨d, X⟩ => 0 ≤ d ∧ d ≤ p.dims ∧ X = (stQ p (gt l i) (decide (i ≥ k)) a).take d.toNat ++ a.drop d.toNat ∧ (X.length : Int) = p.dims) (fun ⟨d, X⟩ => [(1, .slice A l.length c), (2, .pointer (some ⟨b1, 0, none⟩)), (4, .slice none 0 0), (6, .int .i64 k), (5, u_Y), (7, .slice (some ⟨b3, 0, none⟩) ((p.dims).toNat) ((p.dims).toNat)), (8, .int .i64 i), (11, .int .i64 ((gt l i).item)), (12, .int .i64 d)]) (fun ⟨d, X⟩ => [cel bb6 [.int .i64 ((stopD p (gt l i)).pl), .int .i64 ((stopD p (gt l i)).srv), .slice ((stopD p (gt l i)).soA) ((stopD p (gt l i)).sws.length) ((stopD p (gt l i)).soc)] 81, rw_ eZ 3 (.slice (some ⟨b3, 0, none⟩) ((p.dims).toNat) ((p.dims).toNat)) X, nestIL 3 Y, rw_ eIL 22 (u_Y) Y, cel b1 [.int .i64 p.dims, .int .i64 p.tn, .slice p.ptA p.time.length p.ptc, .int .i64 p.dn, .slice p.pdA p.dist.length p.pdc, .slice p.pvA p.vehs.length p.pvc, .slice p.pjA p.jobs.length p.pjc, .slice p.psA p.ships.length p.psc] 29]) (fun _ => S) (fun _ => wf) (fun ⟨d, X⟩ => (p.dims - d).toNat) (fun a_ w_ hs_ hw_ => ⟨⟨0, a⟩, (by (try dsimp only); exact ⟨(by omega), (by omega), rfl, (by omega)⟩), hs_.mono (Sub.get (.c4 rfl rfl rfl rfl (.c4 rfl rfl rfl rfl (.c rfl .n)))), hw_.keep (.c .h (.c .h (.c .h (.c .h (.c .h .n)))))⟩) (fun ⟨d, X⟩ ⟨s_0, s_1, s_2, s_3⟩ => ?_)
    show SC _ _ _ _ _ ⟨[(1, .slice A l.length c), (2, .pointer (some ⟨b1, 0, none⟩)), (4, .slice none 0 0), (6, .int .i64 k), (5, u_Y), (7, .slice (some ⟨b3, 0, none⟩) ((p.dims).toNat) ((p.dims).toNat)), (8, .int .i64 i), (11, .int .i64 ((gt l i).item)), (12, .int .i64 d)], [cel bb6 [.int .i64 ((stopD p (gt l i)).pl), .int .i64 ((stopD p (gt l i)).srv), .slice ((stopD p (gt l i)).soA) ((stopD p (gt l i)).sws.length) ((stopD p (gt l i)).soc)] 81, rw_ eZ 3 (.slice (some ⟨b3, 0, none⟩) ((p.dims).toNat) ((p.dims).toNat)) X, nestIL 3 Y, rw_ eIL 22 (u_Y) Y, cel b1 [.int .i64 p.dims, .int .i64 p.tn, .slice p.ptA p.time.length p.ptc, .int .i64 p.dn, .slice p.pdA p.dist.length p.pdc, .slice p.pvA p.vehs.length p.pvc, .slice p.pjA p.jobs.length p.pjc, .slice p.psA p.ships.length p.psc] 29], S, wf⟩
    refine .seq (.seq (.region (.m rfl rfl rfl (.v (ev_fa rfl fo29_0 rfl (r := 0) rfl) rfl (.v (ev_ld1 rfl ty3 rfl (At.own1 4 rfl rfl)) rfl ?_)))))
    refine .v (ev_cmp rfl rfl rfl rfl) rfl (.go idQ (.condI rfl bD (fun h9 => ?_) (fun h9 => ?_)))
    ·
     refine .skipgo idQ (.seq (.block (.block (.seq (.region ?_)))))
     refine .m rfl rfl rfl (.m rfl rfl rfl (.v (ev_ix rfl Try.underlying41 ty46 rfl rfl (by omega) (by omega) (fun _ _ => Fr.adr (i := i) hA (by omega) (by omega))) rfl (.v (ev_fa rfl fo46_0 rfl (r := ao A + (i).toNat * 2) rfl) rfl (.v (ev_ld1 rfl ty44 rfl (At.elem1 (At.w (Fr.el (i := i) hA (by omega) (by omega))) 0 rfl)) rfl (.v (ev_cmp rfl rfl rfl rfl) rfl ?_)))))
     refine .m rfl rfl rfl (.w (fun _ => ev_mv rfl rfl) rfl (.w (fun _ => ev_mv rfl rfl) rfl (.w (fun hb => ev_cmp rfl (lkg rfl hb) (lkg rfl hb) rfl) rfl (.v (ev_and rfl rfl rfl rfl) rfl (.a rfl rfl rfl ?_)))))
     refine .go idQ (.condI rfl (bA bE bD) (fun h10 => ?_) (fun h10 => ?_))
     ·
      have hin := is_i1 hst (by first | exact (by assumption : _ ∧ _).1 | assumption)
      have hjb := hL.job _ hin.1 hin.2
      have hdl := hjb.drop.1
      have hdb := hjb.drop.2 d
      have hXd := mix_gt s_2 hsl (by omega) (by omega)
      have hab := r_3.2 d
      refine SC.draw mo [rw_ eZ 3 (.slice (some ⟨b3, 0, none⟩) ((p.dims).toNat) ((p.dims).toNat)) X] [(17, fun w => At w (ab (some ⟨b3, 0, none⟩)) (ao (some ⟨b3, 0, none⟩) + (d).toNat * eZ.sz) (eZ.enc (gt X d)))] (.c (.t .h) .n) (fun w_ _ hw_ => (sc1 (row_el (E := eZ) (l := X) (i := d) 0 rfl (by omega) (by first | omega | simp only [LL] <;> omega | simp <;> omega) w_ hw_) sc0)) (fun wf_11 hl_11 hx_11 hR_11 => ?_)
      refine SR.m 0 rfl rfl rfl rfl (SR.m 1 rfl rfl rfl rfl (SR.m 2 rfl rfl rfl rfl (SR.m 3 rfl rfl rfl rfl (SR.z 4 rfl rfl (ev_ix rfl Try.underlying22 ty3 rfl rfl (by omega) (by omega) (fun _ _ => rfl)) (SR.z 5 rfl rfl (ev_ld1 rfl ty3 rfl (At.elem1 (At.ofcs 0 rfl (by kernel_rfl)) 0 rfl)) ?_)))))
      refine SR.z 6 rfl rfl (ev_fa rfl fo29_4 rfl (r := 6) rfl) (SR.z 7 rfl rfl (ev_ld1 rfl ty26 rfl (At.d (At.lent hR_11 3 rfl rfl))) (SR.m 8 rfl rfl rfl rfl (SR.z 9 rfl rfl (ev_ix rfl Try.underlying26 ty83 rfl rfl (by omega) (by omega) (fun _ _ => Fr.adr (i := (gt l i).item) ((hPB).ext hx_11).2.2.2.1.1 (by omega) (by omega))) (SR.z 10 rfl rfl (ev_fa rfl fo83_1 rfl (r := ao p.pjA + ((gt l i).item).toNat * 7 + 3) rfl) (SR.z 11 rfl rfl (ev_ld1 rfl ty22 rfl (At.elem1 (At.d (Fr.el (i := (gt l i).item) ((hPB).ext hx_11).2.2.2.1.1 (by omega) (by omega))) 3 rfl)) ?_)))))
      refine SR.m 12 rfl rfl rfl rfl (SR.z 13 rfl rfl (ev_ix rfl Try.underlying22 ty3 rfl rfl (by omega) (by omega) (fun _ _ => Fr.adr (i := d) (((hPB).ext hx_11).2.2.2.1.2 ((gt l i).item)).1 (by omega) (by omega))) (SR.z 14 rfl rfl (ev_ld1 rfl ty3 rfl (At.elem1 (At.d (Fr.el (i := d) (((hPB).ext hx_11).2.2.2.1.2 ((gt l i).item)).1 (by omega) (by omega))) 0 rfl)) (SR.z 15 rfl rfl (ev_add rfl rfl rfl (r := ((gt X d) + (gt ((gt p.jobs ((gt l i).item)).drop) d))) rfl (by omega) (by omega)) (SR.z 16 rfl rfl (ev_ix rfl Try.underlying22 ty3 rfl rfl (by omega) (by omega) (fun _ _ => rfl)) (SR.o 17 rfl (st_setel (E := eZ) (i := d) (cs := [.int .i64 ((gt X d) + (gt ((gt p.jobs ((gt l i).item)).drop) d))]) (off := 0) ((gt X d) + (gt ((gt p.jobs ((gt l i).item)).drop) d)) rfl rfl rfl ty3 rfl rfl rfl rfl rfl .h (by first | omega | simp only [LL] <;> omega | simp <;> omega) (by first | omega | simp only [LL] <;> omega | simp <;> omega) (Nat.le_of_ble_eq_true rfl) rfl ⟨ttc (fun w_ hw_ => (tc2 (by kernel_rfl) tc0)), ?_⟩))))))
      refine SR.fin (by kernel_rfl) hl_11 hx_11 hR_11 (.c .n) (SQ.go idQ (.region (.m rfl rfl rfl (.v (ev_add rfl rfl rfl (r := (d + 1)) rfl (by omega) (by omega)) rfl (.a rfl rfl rfl ?_)))))
      exact SP.nil (SQ.roundb (X := Int × (List Int)) (x := (d, X)) ⟨(d + 1), (X.set (d).toNat ((gt X d) + (gt ((gt p.jobs ((gt l i).item)).drop) d)))⟩ (by (try dsimp only); exact ⟨(by omega), (by omega), (mix_step s_2 hsl (by omega) (by omega) (by rw [stQ1 hst (by assumption), gt_add (by omega), hXd])), (by (try simp only [List.length_set]); omega)⟩) (by dsimp only; omega) (Sub.get (.c4 rfl rfl rfl rfl (.c4 rfl rfl rfl rfl (.c rfl .n)))) (fun w hw => hw.keep (.c (.t .h) (.c .h (.c .h (.c .h (.c .h .n)))))))
     refine .seq (.region (.m rfl rfl rfl (.m rfl rfl rfl (.v (ev_ix rfl Try.underlying41 ty46 rfl rfl (by omega) (by omega) (fun _ _ => Fr.adr (i := i) hA (by omega) (by omega))) rfl (.v (ev_fa rfl fo46_0 rfl (r := ao A + (i).toNat * 2) rfl) rfl ?_)))))
     refine .v (ev_ld1 rfl ty44 rfl (At.elem1 (At.w (Fr.el (i := i) hA (by omega) (by omega))) 0 rfl)) rfl (.v (ev_cmp rfl rfl rfl rfl) rfl (.a rfl rfl rfl (.go idQ (.condI rfl bE (fun h12 => ?_) (fun h12 => ?_)))))
     ·
      have hin := is_i1 hst (by first | exact (by assumption : _ ∧ _).1 | assumption)
      have hjb := hL.job _ hin.1 hin.2
      have hdl := hjb.pick.1
      have hdb := hjb.pick.2 d
      have hXd := mix_gt s_2 hsl (by omega) (by omega)
      have hab := r_3.2 d
      refine SC.draw mo [rw_ eZ 3 (.slice (some ⟨b3, 0, none⟩) ((p.dims).toNat) ((p.dims).toNat)) X] [(17, fun w => At w (ab (some ⟨b3, 0, none⟩)) (ao (some ⟨b3, 0, none⟩) + (d).toNat * eZ.sz) (eZ.enc (gt X d)))] (.c (.t .h) .n) (fun w_ _ hw_ => (sc1 (row_el (E := eZ) (l := X) (i := d) 0 rfl (by omega) (by first | omega | simp only [LL] <;> omega | simp <;> omega) w_ hw_) sc0)) (fun wf_13 hl_13 hx_13 hR_13 => ?_)
      refine SR.m 0 rfl rfl rfl rfl (SR.m 1 rfl rfl rfl rfl (SR.m 2 rfl rfl rfl rfl (SR.m 3 rfl rfl rfl rfl (SR.z 4 rfl rfl (ev_ix rfl Try.underlying22 ty3 rfl rfl (by omega) (by omega) (fun _ _ => rfl)) (SR.z 5 rfl rfl (ev_ld1 rfl ty3 rfl (At.elem1 (At.ofcs 0 rfl (by kernel_rfl)) 0 rfl)) ?_)))))
      refine SR.z 6 rfl rfl (ev_fa rfl fo29_4 rfl (r := 6) rfl) (SR.z 7 rfl rfl (ev_ld1 rfl ty26 rfl (At.d (At.lent hR_13 3 rfl rfl))) (SR.m 8 rfl rfl rfl rfl (SR.z 9 rfl rfl (ev_ix rfl Try.underlying26 ty83 rfl rfl (by omega) (by omega) (fun _ _ => Fr.adr (i := (gt l i).item) ((hPB).ext hx_13).2.2.2.1.1 (by omega) (by omega))) (SR.z 10 rfl rfl (ev_fa rfl fo83_2 rfl (r := ao p.pjA + ((gt l i).item).toNat * 7 + 4) rfl) (SR.z 11 rfl rfl (ev_ld1 rfl ty22 rfl (At.elem1 (At.d (Fr.el (i := (gt l i).item) ((hPB).ext hx_13).2.2.2.1.1 (by omega) (by omega))) 4 rfl)) ?_)))))
      refine SR.m 12 rfl rfl rfl rfl (SR.z 13 rfl rfl (ev_ix rfl Try.underlying22 ty3 rfl rfl (by omega) (by omega) (fun _ _ => Fr.adr (i := d) (((hPB).ext hx_13).2.2.2.1.2 ((gt l i).item)).2.1 (by omega) (by omega))) (SR.z 14 rfl rfl (ev_ld1 rfl ty3 rfl (At.elem1 (At.d (Fr.el (i := d) (((hPB).ext hx_13).2.2.2.1.2 ((gt l i).item)).2.1 (by omega) (by omega))) 0 rfl)) (SR.z 15 rfl rfl (ev_add rfl rfl rfl (r := ((gt X d) + (gt ((gt p.jobs ((gt l i).item)).pick) d))) rfl (by omega) (by omega)) (SR.z 16 rfl rfl (ev_ix rfl Try.underlying22 ty3 rfl rfl (by omega) (by omega) (fun _ _ => rfl)) (SR.o 17 rfl (st_setel (E := eZ) (i := d) (cs := [.int .i64 ((gt X d) + (gt ((gt p.jobs ((gt l i).item)).pick) d))]) (off := 0) ((gt X d) + (gt ((gt p.jobs ((gt l i).item)).pick) d)) rfl rfl rfl ty3 rfl rfl rfl rfl rfl .h (by first | omega | simp only [LL] <;> omega | simp <;> omega) (by first | omega | simp only [LL] <;> omega | simp <;> omega) (Nat.le_of_ble_eq_true rfl) rfl ⟨ttc (fun w_ hw_ => (tc2 (by kernel_rfl) tc0)), ?_⟩))))))
      refine SR.fin (by kernel_rfl) hl_13 hx_13 hR_13 (.c .n) (SQ.go idQ (.region (.m rfl rfl rfl (.v (ev_add rfl rfl rfl (r := (d + 1)) rfl (by omega) (by omega)) rfl (.a rfl rfl rfl ?_)))))
      exact SP.nil (SQ.roundb (X := Int × (List Int)) (x := (d, X)) ⟨(d + 1), (X.set (d).toNat ((gt X d) + (gt ((gt p.jobs ((gt l i).item)).pick) d)))⟩ (by (try dsimp only); exact ⟨(by omega), (by omega), (mix_step s_2 hsl (by omega) (by omega) (by rw [stQ2 hst (by assumption) (by assumption), gt_add (by omega), hXd])), (by (try simp only [List.length_set]); omega)⟩) (by dsimp only; omega) (Sub.get (.c4 rfl rfl rfl rfl (.c4 rfl rfl rfl rfl (.c rfl .n)))) (fun w hw => hw.keep (.c (.t .h) (.c .h (.c .h (.c .h (.c .h .n)))))))
     refine .seq (.region (.m rfl rfl rfl (.m rfl rfl rfl (.v (ev_ix rfl Try.underlying41 ty46 rfl rfl (by omega) (by omega) (fun _ _ => Fr.adr (i := i) hA (by omega) (by omega))) rfl (.v (ev_fa rfl fo46_0 rfl (r := ao A + (i).toNat * 2) rfl) rfl ?_)))))
     refine .v (ev_ld1 rfl ty44 rfl (At.elem1 (At.w (Fr.el (i := i) hA (by omega) (by omega))) 0 rfl)) rfl (.v (ev_cmp rfl rfl rfl rfl) rfl (.m rfl rfl rfl (.w (fun _ => ev_mv rfl rfl) rfl (.w (fun _ => ev_mv rfl rfl) rfl (.w (fun hb => ev_cmp rfl (lkg rfl hb) (lkg rfl hb) rfl) rfl ?_)))))
     refine .v (ev_and rfl rfl rfl rfl) rfl (.a rfl rfl rfl (.go idQ (.condI rfl (bA bE bD) (fun h14 => ?_) (fun h14 => ?_))))
     ·
      have hin := is_i2 hst (by first | exact .inl (by assumption : _ ∧ _).1 | exact .inr (by assumption : _ ∧ _).1)
      have hjb := hL.ship _ hin.1 hin.2
      have hdl := hjb.am.1
      have hdb := hjb.am.2 d
      have hXd := mix_gt s_2 hsl (by omega) (by omega)
      have hab := r_3.2 d
      refine SC.draw mo [rw_ eZ 3 (.slice (some ⟨b3, 0, none⟩) ((p.dims).toNat) ((p.dims).toNat)) X] [(17, fun w => At w (ab (some ⟨b3, 0, none⟩)) (ao (some ⟨b3, 0, none⟩) + (d).toNat * eZ.sz) (eZ.enc (gt X d)))] (.c (.t .h) .n) (fun w_ _ hw_ => (sc1 (row_el (E := eZ) (l := X) (i := d) 0 rfl (by omega) (by first | omega | simp only [LL] <;> omega | simp <;> omega) w_ hw_) sc0)) (fun wf_15 hl_15 hx_15 hR_15 => ?_)
      refine SR.m 0 rfl rfl rfl rfl (SR.m 1 rfl rfl rfl rfl (SR.m 2 rfl rfl rfl rfl (SR.m 3 rfl rfl rfl rfl (SR.z 4 rfl rfl (ev_ix rfl Try.underlying22 ty3 rfl rfl (by omega) (by omega) (fun _ _ => rfl)) (SR.z 5 rfl rfl (ev_ld1 rfl ty3 rfl (At.elem1 (At.ofcs 0 rfl (by kernel_rfl)) 0 rfl)) ?_)))))
      refine SR.z 6 rfl rfl (ev_fa rfl fo29_5 rfl (r := 7) rfl) (SR.z 7 rfl rfl (ev_ld1 rfl ty27 rfl (At.d (At.lent hR_15 3 rfl rfl))) (SR.m 8 rfl rfl rfl rfl (SR.z 9 rfl rfl (ev_ix rfl Try.underlying27 ty86 rfl rfl (by omega) (by omega) (fun _ _ => Fr.adr (i := (gt l i).item) ((hPB).ext hx_15).2.2.2.2.1 (by omega) (by omega))) (SR.z 10 rfl rfl (ev_fa rfl fo86_2 rfl (r := ao p.psA + ((gt l i).item).toNat * 9 + 6) rfl) (SR.z 11 rfl rfl (ev_ld1 rfl ty22 rfl (At.elem1 (At.d (Fr.el (i := (gt l i).item) ((hPB).ext hx_15).2.2.2.2.1 (by omega) (by omega))) 6 rfl)) ?_)))))
      refine SR.m 12 rfl rfl rfl rfl (SR.z 13 rfl rfl (ev_ix rfl Try.underlying22 ty3 rfl rfl (by omega) (by omega) (fun _ _ => Fr.adr (i := d) (((hPB).ext hx_15).2.2.2.2.2 ((gt l i).item)).1 (by omega) (by omega))) (SR.z 14 rfl rfl (ev_ld1 rfl ty3 rfl (At.elem1 (At.d (Fr.el (i := d) (((hPB).ext hx_15).2.2.2.2.2 ((gt l i).item)).1 (by omega) (by omega))) 0 rfl)) (SR.z 15 rfl rfl (ev_add rfl rfl rfl (r := ((gt X d) + (gt ((gt p.ships ((gt l i).item)).am) d))) rfl (by omega) (by omega)) (SR.z 16 rfl rfl (ev_ix rfl Try.underlying22 ty3 rfl rfl (by omega) (by omega) (fun _ _ => rfl)) (SR.o 17 rfl (st_setel (E := eZ) (i := d) (cs := [.int .i64 ((gt X d) + (gt ((gt p.ships ((gt l i).item)).am) d))]) (off := 0) ((gt X d) + (gt ((gt p.ships ((gt l i).item)).am) d)) rfl rfl rfl ty3 rfl rfl rfl rfl rfl .h (by first | omega | simp only [LL] <;> omega | simp <;> omega) (by first | omega | simp only [LL] <;> omega | simp <;> omega) (Nat.le_of_ble_eq_true rfl) rfl ⟨ttc (fun w_ hw_ => (tc2 (by kernel_rfl) tc0)), ?_⟩))))))
      refine SR.fin (by kernel_rfl) hl_15 hx_15 hR_15 (.c .n) (SQ.go idQ (.region (.m rfl rfl rfl (.v (ev_add rfl rfl rfl (r := (d + 1)) rfl (by omega) (by omega)) rfl (.a rfl rfl rfl ?_)))))
      exact SP.nil (SQ.roundb (X := Int × (List Int)) (x := (d, X)) ⟨(d + 1), (X.set (d).toNat ((gt X d) + (gt ((gt p.ships ((gt l i).item)).am) d)))⟩ (by (try dsimp only); exact ⟨(by omega), (by omega), (mix_step s_2 hsl (by omega) (by omega) (by rw [stQ3 hst (by assumption), gt_add (by omega), hXd])), (by (try simp only [List.length_set]); omega)⟩) (by dsimp only; omega) (Sub.get (.c4 rfl rfl rfl rfl (.c4 rfl rfl rfl rfl (.c rfl .n)))) (fun w hw => hw.keep (.c (.t .h) (.c .h (.c .h (.c .h (.c .h .n)))))))
     refine .seq (.region (.m rfl rfl rfl (.m rfl rfl rfl (.v (ev_ix rfl Try.underlying41 ty46 rfl rfl (by omega) (by omega) (fun _ _ => Fr.adr (i := i) hA (by omega) (by omega))) rfl (.v (ev_fa rfl fo46_0 rfl (r := ao A + (i).toNat * 2) rfl) rfl ?_)))))
     refine .v (ev_ld1 rfl ty44 rfl (At.elem1 (At.w (Fr.el (i := i) hA (by omega) (by omega))) 0 rfl)) rfl (.v (ev_cmp rfl rfl rfl rfl) rfl (.m rfl rfl rfl (.w (fun _ => ev_mv rfl rfl) rfl (.w (fun _ => ev_mv rfl rfl) rfl (.w (fun hb => ev_cmp rfl (lkg rfl hb) (lkg rfl hb) rfl) rfl ?_)))))
     refine .v (ev_and rfl rfl rfl rfl) rfl (.a rfl rfl rfl (.go idQ (.condI rfl (bA bE bD) (fun h16 => ?_) (fun h16 => ?_))))
     ·
      have hin := is_i2 hst (by first | exact .inl (by assumption : _ ∧ _).1 | exact .inr (by assumption : _ ∧ _).1)
      have hjb := hL.ship _ hin.1 hin.2
      have hdl := hjb.am.1
      have hdb := hjb.am.2 d
      have hXd := mix_gt s_2 hsl (by omega) (by omega)
      have hab := r_3.2 d
      refine SC.draw mo [rw_ eZ 3 (.slice (some ⟨b3, 0, none⟩) ((p.dims).toNat) ((p.dims).toNat)) X] [(17, fun w => At w (ab (some ⟨b3, 0, none⟩)) (ao (some ⟨b3, 0, none⟩) + (d).toNat * eZ.sz) (eZ.enc (gt X d)))] (.c (.t .h) .n) (fun w_ _ hw_ => (sc1 (row_el (E := eZ) (l := X) (i := d) 0 rfl (by omega) (by first | omega | simp only [LL] <;> omega | simp <;> omega) w_ hw_) sc0)) (fun wf_17 hl_17 hx_17 hR_17 => ?_)
      refine SR.m 0 rfl rfl rfl rfl (SR.m 1 rfl rfl rfl rfl (SR.m 2 rfl rfl rfl rfl (SR.m 3 rfl rfl rfl rfl (SR.z 4 rfl rfl (ev_ix rfl Try.underlying22 ty3 rfl rfl (by omega) (by omega) (fun _ _ => rfl)) (SR.z 5 rfl rfl (ev_ld1 rfl ty3 rfl (At.elem1 (At.ofcs 0 rfl (by kernel_rfl)) 0 rfl)) ?_)))))
      refine SR.z 6 rfl rfl (ev_fa rfl fo29_5 rfl (r := 7) rfl) (SR.z 7 rfl rfl (ev_ld1 rfl ty27 rfl (At.d (At.lent hR_17 3 rfl rfl))) (SR.m 8 rfl rfl rfl rfl (SR.z 9 rfl rfl (ev_ix rfl Try.underlying27 ty86 rfl rfl (by omega) (by omega) (fun _ _ => Fr.adr (i := (gt l i).item) ((hPB).ext hx_17).2.2.2.2.1 (by omega) (by omega))) (SR.z 10 rfl rfl (ev_fa rfl fo86_2 rfl (r := ao p.psA + ((gt l i).item).toNat * 9 + 6) rfl) (SR.z 11 rfl rfl (ev_ld1 rfl ty22 rfl (At.elem1 (At.d (Fr.el (i := (gt l i).item) ((hPB).ext hx_17).2.2.2.2.1 (by omega) (by omega))) 6 rfl)) ?_)))))
      refine SR.m 12 rfl rfl rfl rfl (SR.z 13 rfl rfl (ev_ix rfl Try.underlying22 ty3 rfl rfl (by omega) (by omega) (fun _ _ => Fr.adr (i := d) (((hPB).ext hx_17).2.2.2.2.2 ((gt l i).item)).1 (by omega) (by omega))) (SR.z 14 rfl rfl (ev_ld1 rfl ty3 rfl (At.elem1 (At.d (Fr.el (i := d) (((hPB).ext hx_17).2.2.2.2.2 ((gt l i).item)).1 (by omega) (by omega))) 0 rfl)) (SR.z 15 rfl rfl (ev_sub rfl rfl rfl (r := ((gt X d) - (gt ((gt p.ships ((gt l i).item)).am) d))) rfl (by omega) (by omega)) (SR.z 16 rfl rfl (ev_ix rfl Try.underlying22 ty3 rfl rfl (by omega) (by omega) (fun _ _ => rfl)) (SR.o 17 rfl (st_setel (E := eZ) (i := d) (cs := [.int .i64 ((gt X d) - (gt ((gt p.ships ((gt l i).item)).am) d))]) (off := 0) ((gt X d) - (gt ((gt p.ships ((gt l i).item)).am) d)) rfl rfl rfl ty3 rfl rfl rfl rfl rfl .h (by first | omega | simp only [LL] <;> omega | simp <;> omega) (by first | omega | simp only [LL] <;> omega | simp <;> omega) (Nat.le_of_ble_eq_true rfl) rfl ⟨ttc (fun w_ hw_ => (tc2 (by kernel_rfl) tc0)), ?_⟩))))))
      refine SR.fin (by kernel_rfl) hl_17 hx_17 hR_17 (.c .n) (SQ.go idQ (.region (.m rfl rfl rfl (.v (ev_add rfl rfl rfl (r := (d + 1)) rfl (by omega) (by omega)) rfl (.a rfl rfl rfl ?_)))))
      exact SP.nil (SQ.roundb (X := Int × (List Int)) (x := (d, X)) ⟨(d + 1), (X.set (d).toNat ((gt X d) - (gt ((gt p.ships ((gt l i).item)).am) d)))⟩ (by (try dsimp only); exact ⟨(by omega), (by omega), (mix_step s_2 hsl (by omega) (by omega) (by rw [stQ4 hst (by assumption), gt_sub (by omega), hXd])), (by (try simp only [List.length_set]); omega)⟩) (by dsimp only; omega) (Sub.get (.c4 rfl rfl rfl rfl (.c4 rfl rfl rfl rfl (.c rfl .n)))) (fun w hw => hw.keep (.c (.t .h) (.c .h (.c .h (.c .h (.c .h .n)))))))
     exact .skipgo idQ (.region (.m rfl rfl rfl (.v (ev_add rfl rfl rfl (r := (d + 1)) rfl (by omega) (by omega)) rfl (.a rfl rfl rfl (SP.nil (SQ.roundb (X := Int × (List Int)) (x := (d, X)) ⟨(d + 1), X⟩ (by (try dsimp only); exact ⟨(by omega), (by omega), (mix_same s_2 hsl (by omega) (by omega) (by rw [stQ5 hst (by assumption) (by assumption) (by assumption)])), (by (try simp only [List.length_set]); omega)⟩) (by dsimp only; omega) (Sub.get (.c4 rfl rfl rfl rfl (.c4 rfl rfl rfl rfl (.c rfl .n)))) (fun w hw => hw.keep (.c .h (.c .h (.c .h (.c .h (.c .h .n))))))))))))
    exact .exit idQ (.region (.m rfl rfl rfl (.v (ev_add rfl rfl rfl (r := (i + 1)) rfl (by omega) (by omega)) rfl (.a rfl rfl rfl (SP.nil (SQ.roundb (X := Int × (List Int)) (x := (i, a)) ⟨(i + 1), X⟩ (by (try dsimp only); exact ⟨(by omega), (by omega), (by have hq := r_2; rw [drop_gt (x := i) (by omega) (by omega), rlR_cons, ← mix_end s_2 hsl (by omega)] at hq; exact hq), (by rw [mix_end s_2 hsl (by omega)]; exact lOk_mono (stQ_ok hL r_3) (by omega))⟩) (by dsimp only; omega) (Sub.get (.c4 rfl rfl rfl rfl (.c rfl (.c rfl (.c rfl .n))))) (fun w hw => hw.keep (.c (.t .h) (.c (.t .h) (.c (.t .h) (.c (.t .h) .n)))))))))))
   refine SR.z 0 rfl rfl (ev_lda (cs := [.int .i64 p.dims, .int .i64 p.tn, .slice p.ptA p.time.length p.ptc, .int .i64 p.dn, .slice p.pdA p.dist.length p.pdc, .slice p.pvA p.vehs.length p.pvc, .slice p.pjA p.jobs.length p.pjc, .slice p.psA p.ships.length p.psc]) rfl rfl (At.d (At.lent hR_5 3 rfl rfl)) ty29) (SR.m 1 rfl rfl rfl rfl (SR.m 2 rfl rfl rfl rfl (SR.z 3 rfl rfl (ev_ix rfl Try.underlying41 ty46 rfl rfl (by omega) (by omega) (fun _ _ => Fr.adr (i := i) (Fr.ext hA hx_5) (by omega) (by omega))) (SR.z 4 rfl rfl (ev_lda rfl rfl (At.d (Fr.el (i := i) (Fr.ext hA hx_5) (by omega) (by omega))) ty46) ?_))))
   refine SR.two (i := 5) (j := 9) (by kernel_rfl) ⟨_, rfl, ?_⟩ ⟨_, rfl, ?_⟩
   ·
    refine st_callk rfl rfl rfl rfl hbd65 rfl .n (rstop_ p (gt l i) _ _ ((hPB).ext hx_5)) ⟨tt0, (SR.m 6 rfl rfl rfl rfl (SR.z 7 rfl rfl (ev_ext rfl rfl rfl) (SR.z 8 rfl rfl (ev_ext rfl rfl rfl) (SR.o 9 rfl (st_alloc rfl rfl rfl rfl zf81 (fun b18 => ⟨tt0, (SR.o 10 rfl (st_storea (l' := [.int .i64 ((stopD p (gt l i)).pl), .int .i64 ((stopD p (gt l i)).srv), .slice ((stopD p (gt l i)).soA) ((stopD p (gt l i)).sws.length) ((stopD p (gt l i)).soc)]) rfl rfl rfl ty81 rfl rfl rfl .h rfl rfl ⟨tt0, ?_⟩))⟩))))))⟩
    exact SR.z 11 rfl rfl (ev_as rfl rfl) (SR.fin (by kernel_rfl) hl_5 hx_5 hR_5 (.c .n) (SQ.weak (key7 b18) (Sub.get (.c4 rfl rfl rfl rfl (.c4 rfl rfl rfl rfl (.c4 rfl rfl rfl rfl (.c4 rfl rfl rfl rfl (.c4 rfl rfl rfl rfl (.c rfl (.c rfl .n)))))))) (fun w hw => hw.keep (.c .h (.c .h (.c .h (.c .h (.c .h .n))))))))
   refine st_alloc rfl rfl rfl rfl zf81 (fun b19 => ⟨tt0, (SR.o 5 rfl (st_callk rfl rfl rfl rfl hbd65 rfl .n (rstop_ p (gt l i) _ _ ((hPB).ext hx_5)) ⟨tt0, (SR.m 6 rfl rfl rfl rfl (SR.z 7 rfl rfl (ev_ext rfl rfl rfl) (SR.z 8 rfl rfl (ev_ext rfl rfl rfl) (SR.o 10 rfl (st_storea (l' := [.int .i64 ((stopD p (gt l i)).pl), .int .i64 ((stopD p (gt l i)).srv), .slice ((stopD p (gt l i)).soA) ((stopD p (gt l i)).sws.length) ((stopD p (gt l i)).soc)]) rfl rfl rfl ty81 rfl rfl rfl .h rfl rfl ⟨tt0, ?_⟩)))))⟩))⟩)
   exact SR.z 11 rfl rfl (ev_as rfl rfl) (SR.fin (by kernel_rfl) hl_5 hx_5 hR_5 (.c .n) (SQ.weak (key7 b19) (Sub.get (.c4 rfl rfl rfl rfl (.c4 rfl rfl rfl rfl (.c4 rfl rfl rfl rfl (.c4 rfl rfl rfl rfl (.c4 rfl rfl rfl rfl (.c rfl (.c rfl .n)))))))) (fun w hw => hw.keep (.c .h (.c .h (.c .h (.c .h (.c .h .n))))))))
  refine .exit idQ ?_
  have hal := r_3.1
  rw [show (p.dims).toNat = a.length from by omega]
  refine .region (.m rfl rfl rfl (.m rfl rfl rfl (.cons (st_lit eIL (e := 22) (l := [(IL.mk a (some ⟨b3, 0, none⟩) a.length)]) rfl rfl rfl rfl (by kernel_rfl) rfl rfl (fun w => by kernel_rfl) (fun b20 => .cons (st_app (E := eIL) (m := [(IL.mk a (some ⟨b3, 0, none⟩) a.length)]) rfl rfl rfl rfl Try.underlying124 ai22 rfl rfl rfl (.t (.t (.t .h))) (by first | rfl | omega | simp) (row_src 0 rfl) (by first | omega | simp only [LL] <;> omega | simp <;> omega) rfl (fun v21 => .a rfl rfl rfl ?_)))))))
  refine .go idQ ?_
  refine SC.packIL (IL.mk a (some ⟨b3, 0, none⟩) a.length) (.c (.t (.t (.t .h))) (.c (.t (.t .h)) .n)) (by dsimp only; omega) ?_
  exact .region (.m rfl rfl rfl (.v (ev_add rfl rfl rfl (r := (k + 1)) rfl (by omega) (by omega)) rfl (.a rfl rfl rfl (SP.nil (SQ.roundb (X := Int × (List IL) × Value) (x := (k, Y, u_Y)) ⟨(k + 1), (Y ++ [(IL.mk a (some ⟨b3, 0, none⟩) a.length)]), v21⟩ (by (try dsimp only); exact ⟨(by omega), (by omega), (by rw [take_gt (by omega) (by omega), List.map_append, q_2, ← loadQ_at hL (by omega) (by omega), ← r_2, drop_end (i := i) (by omega)]; rfl), (by simp only [List.length_append, List.length_singleton]; omega)⟩) (by dsimp only; omega) (Sub.get (.c4 rfl rfl rfl rfl (.c rfl .n))) (fun w hw => hw.keep (.c .h (.c .h (.c (.t .h) .n)))))))))
 refine .exit idQ (.seq (.region (.m rfl rfl rfl (.a rfl rfl rfl (.go idQ ?_)))))
 exact .ret idQ (ret1 Try.results64 rfl (.c (.t .h) (.c .h .n)) ⟨u_Y, Y, (by rw [q_2, List.take_of_length_le (by omega)]), rfl, rfl⟩)
end Go.Proofs.Ytdpmnodiebpjeaa.Sx
set_option maxRecDepth 20000
set_option maxHeartbeats 1000000
namespace Go.Proofs.Ytdpmnodiebpjeaa.Sx.FK
open Go Go.SX Go.Proofs
theorem ty72 : ty Try.prog 72 = some (true, 2) := by kernel_rfl
theorem fo72_1 : fo Try.prog 72 1 = some 1 := by kernel_rfl
theorem ty3 : ty Try.prog 3 = some (false, 1) := by kernel_rfl
theorem fo72_0 : fo Try.prog 72 0 = some 0 := by kernel_rfl
theorem ty29 : ty Try.prog 29 = some (true, 8) := by kernel_rfl
theorem hbd77 : hasBody Try.prog 77 = true := by kernel_rfl
theorem ty46 : ty Try.prog 46 = some (true, 2) := by kernel_rfl
theorem fo46_0 : fo Try.prog 46 0 = some 0 := by kernel_rfl
theorem ty44 : ty Try.prog 44 = some (false, 1) := by kernel_rfl
theorem fo46_1 : fo Try.prog 46 1 = some 1 := by kernel_rfl
theorem hbd37 : hasBody Try.prog 37 = true := by kernel_rfl
theorem zf54 : (Try.prog.info? 54).bind (fun i => i.zero.map Value.cells) = some (List.toArray [.bool false, .int .i64 0]) := by kernel_rfl
theorem ty54 : ty Try.prog 54 = some (true, 2) := by kernel_rfl
theorem hbd23 : hasBody Try.prog 23 = true := by kernel_rfl
theorem fo75_9 : fo Try.prog 75 9 = some 10 := by kernel_rfl
theorem ty73 : ty Try.prog 73 = some (false, 1) := by kernel_rfl
theorem fo75_3 : fo Try.prog 75 3 = some 3 := by kernel_rfl
theorem ty65 : ty Try.prog 65 = some (false, 1) := by kernel_rfl
theorem fo75_8 : fo Try.prog 75 8 = some 9 := by kernel_rfl
theorem hbd64 : hasBody Try.prog 64 = true := by kernel_rfl
theorem ty22 : ty Try.prog 22 = some (false, 1) := by kernel_rfl
theorem fo75_2 : fo Try.prog 75 2 = some 2 := by kernel_rfl
theorem hbd78 : hasBody Try.prog 78 = true := by kernel_rfl
theorem mo : Try.prog.follows .mixedOrders = true := by kernel_rfl
theorem fo75_0 : fo Try.prog 75 0 = some 0 := by kernel_rfl
theorem fo75_1 : fo Try.prog 75 1 = some 1 := by kernel_rfl
theorem hbd65 : hasBody Try.prog 65 = true := by kernel_rfl
theorem zf81 : (Try.prog.info? 81).bind (fun i => i.zero.map Value.cells) = some (List.toArray [.int .i64 0, .int .i64 0, .slice none 0 0]) := by kernel_rfl
theorem ty81 : ty Try.prog 81 = some (true, 3) := by kernel_rfl
theorem fo81_0 : fo Try.prog 81 0 = some 0 := by kernel_rfl
theorem fo29_1 : fo Try.prog 29 1 = some 1 := by kernel_rfl
theorem ty24 : ty Try.prog 24 = some (true, 2) := by kernel_rfl
theorem hbd66 : hasBody Try.prog 66 = true := by kernel_rfl
theorem fo29_2 : fo Try.prog 29 2 = some 3 := by kernel_rfl
end Go.Proofs.Ytdpmnodiebpjeaa.Sx.FK
namespace Go.Proofs.Ytdpmnodiebpjeaa.Sx
open Go Go.SX Go.Proofs FK
theorem rstart_ (A : Option Addr) (c : Nat) (l : List WN) (t : Int) (S : Nat → Prop) (wf : World) (hA : Fr eWN S wf A l) (hW : WinsOk l) :
  TR0 Try.prog 67 [.slice A l.length c, .int .i64 t] [] S wf (fun v_ C_ => v_ = .tuple #[.int .i64 ((startF l t).1), .bool ((startF l t).2)] ∧ C_ = []) := by
 have hla := hA.len
 refine TR.mk Try.func67 rfl Try.ntmps67 rfl rfl (fun w_ => ?_)
 refine .seq (.region (.a rfl rfl rfl (.a rfl rfl rfl (.go idQ (.seq ?_)))))
 refine .region (.a rfl rfl rfl (.a rfl rfl rfl (.go idQ (.seq (.seq ?_)))))
 refine .region (.a rfl rfl rfl (.go idQ (.block ?_)))
 refine .loop (X := Int × Int × Bool) (fun ⟨i, b0, f0⟩ => 0 ≤ i ∧ i ≤ (l.length : Int) ∧ StartI l t i b0 f0) (fun ⟨i, b0, f0⟩ => [(0, .slice A l.length c), (1, .int .i64 t), (4, .int .i64 0), (5, .bool false), (8, .int .i64 i), (6, .int .i64 b0), (7, .bool f0)]) (fun ⟨i, b0, f0⟩ => []) (fun _ => S) (fun _ => wf) (fun ⟨i, b0, f0⟩ => ((l.length : Int) - i).toNat) (fun a_ w_ hs_ hw_ => ⟨⟨0, 0, false⟩, (by exact ⟨(by omega), (by omega), (.inl ⟨rfl, rfl, rfl⟩)⟩), hs_.mono (Sub.get (.c4 rfl rfl rfl rfl (.c rfl (.c rfl (.c rfl .n))))), hw_.keep .n⟩) (fun ⟨i, b0, f0⟩ ⟨q_0, q_1, q_2⟩ => ?_)
 show SC _ _ _ _ _ ⟨[(0, .slice A l.length c), (1, .int .i64 t), (4, .int .i64 0), (5, .bool false), (8, .int .i64 i), (6, .int .i64 b0), (7, .bool f0)], [], S, wf⟩
 refine .seq (.seq (.region (.m rfl rfl rfl (.m rfl rfl rfl (.v (ev_len rfl Try.underlying76 rfl) rfl ?_)))))
 refine .v (ev_cmp rfl rfl rfl rfl) rfl (.go idQ (.condI rfl bD (fun h1 => ?_) (fun h1 => ?_)))
 ·
  refine .skipgo idQ (.seq (.block (.seq (.seq (.region ?_)))))
  refine .m rfl rfl rfl (.m rfl rfl rfl (.m rfl rfl rfl (.v (ev_ix rfl Try.underlying76 ty72 rfl rfl (by omega) (by omega) (fun _ _ => Fr.adr (i := i) hA (by omega) (by omega))) rfl (.v (ev_fa rfl fo72_1 rfl (r := ao A + (i).toNat * 2 + 1) rfl) rfl (.v (ev_ld1 rfl ty3 rfl (At.elem1 (At.w (Fr.el (i := i) hA (by omega) (by omega))) 1 rfl)) rfl ?_)))))
  refine .v (ev_cmp rfl rfl rfl rfl) rfl (.go idQ (.condI rfl bD (fun h2 => ?_) (fun h2 => ?_)))
  ·
   exact .exit idQ (.region (.m rfl rfl rfl (.v (ev_add rfl rfl rfl (r := (i + 1)) rfl (by omega) (by omega)) rfl (.a rfl rfl rfl (SP.nil (SQ.roundb (X := Int × Int × Bool) (x := (i, b0, f0)) ⟨(i + 1), b0, f0⟩ (by exact ⟨(by omega), (by omega), (start_late q_2 (by omega) (by omega) (by omega))⟩) (by dsimp only; omega) (Sub.get (.c4 rfl rfl rfl rfl (.c rfl (.c rfl (.c rfl .n))))) (fun w hw => hw.keep .n)))))))
  refine .skipgo idQ (.seq (.region (.m rfl rfl rfl (.m rfl rfl rfl (.v (ev_ix rfl Try.underlying76 ty72 rfl rfl (by omega) (by omega) (fun _ _ => Fr.adr (i := i) hA (by omega) (by omega))) rfl ?_)))))
  refine .v (ev_fa rfl fo72_0 rfl (r := ao A + (i).toNat * 2) rfl) rfl (.v (ev_ld1 rfl ty3 rfl (At.elem1 (At.w (Fr.el (i := i) hA (by omega) (by omega))) 0 rfl)) rfl (.a rfl rfl rfl (.go idQ (.seq (.seq ?_)))))
  refine .region (.m rfl rfl rfl (.m rfl rfl rfl (.v (ev_cmp rfl rfl rfl rfl) rfl (.go idQ (.condI rfl bD (fun h3 => ?_) (fun h3 => ?_))))))
  ·
   refine .region (.m rfl rfl rfl (.a rfl rfl rfl (.go idQ (.seq (.region ?_)))))
   refine .m rfl rfl rfl (.v (ev_not rfl rfl) rfl (.m rfl rfl rfl (.w (fun _ => ev_mv rfl rfl) rfl (.w (fun _ => ev_mv rfl rfl) rfl (.w (fun hb => ev_cmp rfl (lkg rfl hb) (lkg rfl hb) rfl) rfl ?_)))))
   refine .v (ev_or rfl rfl rfl rfl) rfl (.go idQ (.condI rfl (bO (bN bV) bD) (fun h4 => ?_) (fun h4 => ?_)))
   ·
    refine .region (.m rfl rfl rfl (.a rfl rfl rfl (.a rfl rfl rfl (.go idQ (.region ?_)))))
    exact .m rfl rfl rfl (.v (ev_add rfl rfl rfl (r := (i + 1)) rfl (by omega) (by omega)) rfl (.a rfl rfl rfl (SP.nil (SQ.roundb (X := Int × Int × Bool) (x := (i, b0, f0)) ⟨(i + 1), t, true⟩ (by exact ⟨(by omega), (by omega), (start_take hW q_2 (x := t) (by omega) (by omega) (by omega) (by omega) (by assumption))⟩) (by dsimp only; omega) (Sub.get (.c4 rfl rfl rfl rfl (.c rfl (.c rfl (.c rfl .n))))) (fun w hw => hw.keep .n)))))
   exact .skipgo idQ (.region (.m rfl rfl rfl (.v (ev_add rfl rfl rfl (r := (i + 1)) rfl (by omega) (by omega)) rfl (.a rfl rfl rfl (SP.nil (SQ.roundb (X := Int × Int × Bool) (x := (i, b0, f0)) ⟨(i + 1), b0, f0⟩ (by exact ⟨(by omega), (by omega), (start_keep hW q_2 (x := t) (by omega) (by omega) (by omega) (by omega) (by assumption))⟩) (by dsimp only; omega) (Sub.get (.c4 rfl rfl rfl rfl (.c rfl (.c rfl (.c rfl .n))))) (fun w hw => hw.keep .n)))))))
  refine .skipgo idQ (.seq (.region (.m rfl rfl rfl (.v (ev_not rfl rfl) rfl (.m rfl rfl rfl ?_)))))
  refine .w (fun _ => ev_mv rfl rfl) rfl (.w (fun _ => ev_mv rfl rfl) rfl (.w (fun hb => ev_cmp rfl (lkg rfl hb) (lkg rfl hb) rfl) rfl (.v (ev_or rfl rfl rfl rfl) rfl (.go idQ (.condI rfl (bO (bN bV) bD) (fun h5 => ?_) (fun h5 => ?_))))))
  ·
   refine .region (.m rfl rfl rfl (.a rfl rfl rfl (.a rfl rfl rfl (.go idQ (.region ?_)))))
   exact .m rfl rfl rfl (.v (ev_add rfl rfl rfl (r := (i + 1)) rfl (by omega) (by omega)) rfl (.a rfl rfl rfl (SP.nil (SQ.roundb (X := Int × Int × Bool) (x := (i, b0, f0)) ⟨(i + 1), (gt l i).lo, true⟩ (by exact ⟨(by omega), (by omega), (start_take hW q_2 (x := ((gt l i).lo)) (by omega) (by omega) (by omega) (by omega) (by assumption))⟩) (by dsimp only; omega) (Sub.get (.c4 rfl rfl rfl rfl (.c rfl (.c rfl (.c rfl .n))))) (fun w hw => hw.keep .n)))))
  exact .skipgo idQ (.region (.m rfl rfl rfl (.v (ev_add rfl rfl rfl (r := (i + 1)) rfl (by omega) (by omega)) rfl (.a rfl rfl rfl (SP.nil (SQ.roundb (X := Int × Int × Bool) (x := (i, b0, f0)) ⟨(i + 1), b0, f0⟩ (by exact ⟨(by omega), (by omega), (start_keep hW q_2 (x := ((gt l i).lo)) (by omega) (by omega) (by omega) (by omega) (by assumption))⟩) (by dsimp only; omega) (Sub.get (.c4 rfl rfl rfl rfl (.c rfl (.c rfl (.c rfl .n))))) (fun w hw => hw.keep .n)))))))
 refine .exit idQ (.seq (.region (.m rfl rfl rfl (.m rfl rfl rfl (.a rfl rfl rfl ?_)))))
 exact .a rfl rfl rfl (.go idQ (.ret idQ (ret2 Try.results67 rfl rfl .n ⟨(by rw [← start_fin q_2 (by omega)]), rfl⟩)))
theorem first_ (p : PB) (v : VH) (A : Option Addr) (c : Nat) (l : List Vis) (S : Nat → Prop) (wf : World) (hA : Fr eVis S wf A l) (hPB : PBF S wf p) (hVH : VHF S wf v) (hL : LawP p) (hll : l.length ≤ 60) :
  TR0 Try.prog 63 [.agg #[.int .i64 p.dims, .int .i64 p.tn, .slice p.ptA p.time.length p.ptc, .int .i64 p.dn, .slice p.pdA p.dist.length p.pdc, .slice p.pvA p.vehs.length p.pvc, .slice p.pjA p.jobs.length p.pjc, .slice p.psA p.ships.length p.psc], .agg #[.int .i64 v.st, .int .i64 v.en, .slice v.vcA v.vcap.length v.vcc, .int .u64 v.vsk, .int .i64 v.lo, .int .i64 v.hi, .int .i64 v.fix, .int .i64 v.pt, .int .i64 v.pd, .int .i64 v.mt, .slice v.vbA v.brs.length v.vbc], .slice A l.length c] [] S wf (fun v_ C_ => v_ = .int .i64 (checksF p v l) ∧ C_ = []) := by
 have hla := hA.len
 refine TR.mk Try.func63 rfl Try.ntmps63 rfl rfl (fun w_ => ?_)
 refine .seq (.region (.cons (st_boxa rfl rfl rfl rfl rfl (fun b1 => .cons (st_boxa rfl rfl rfl rfl rfl (fun b2 => .a rfl rfl rfl (.go idQ ?_)))))))
 refine .seq (.seq (.region (.v (ev_lda rfl rfl (At.whole 1 rfl) ty29) rfl (.m rfl rfl rfl (.cons (st_callk rfl rfl rfl rfl hbd77 rfl .n (rpairs_ p A c l _ _ hA hPB (by omega) (by first | omega | simp only [LL] <;> omega | simp <;> omega)) ?_))))))
 refine .v (ev_not rfl rfl) rfl (.go idQ (.condI rfl (bN bV) (fun h3 => ?_) (fun h3 => ?_)))
 ·
  exact .seq (.region (.a rfl rfl rfl (.go idQ (.ret idQ (ret1 Try.results63 rfl .n ⟨(congrArg (Value.int .i64) (ck_161 (by assumption)).symm), rfl⟩)))))
 refine .skipgo idQ (.seq ?_)
 have hp0 : pairsR p l [] 0 = true := Classical.not_not.1 (by assumption)
 refine .region (.a rfl rfl rfl (.a rfl rfl rfl (.go idQ (.seq (.region ?_)))))
 refine .a rfl rfl rfl (.go idQ (.seq (.seq (.region (.a rfl rfl rfl ?_)))))
 refine .go idQ (.block ?_)
 refine .loop (X := Int × Int × Int × Int) (fun ⟨i, n0, t0, s0⟩ => 0 ≤ i ∧ i ≤ (l.length : Int) ∧ scanR p (l.drop i.toNat) n0 t0 s0 = scanR p l 0 0 0 ∧ (0 ≤ n0 ∧ n0 ≤ i) ∧ (0 ≤ t0 ∧ t0 ≤ i)) (fun ⟨i, n0, t0, s0⟩ => [(2, .slice A l.length c), (3, .pointer (some ⟨b1, 0, none⟩)), (4, .pointer (some ⟨b2, 0, none⟩)), (10, .int .i64 i), (7, .int .i64 n0), (8, .int .i64 t0), (9, .int .u64 s0)]) (fun ⟨i, n0, t0, s0⟩ => [cel b2 [.int .i64 v.st, .int .i64 v.en, .slice v.vcA v.vcap.length v.vcc, .int .u64 v.vsk, .int .i64 v.lo, .int .i64 v.hi, .int .i64 v.fix, .int .i64 v.pt, .int .i64 v.pd, .int .i64 v.mt, .slice v.vbA v.brs.length v.vbc] 75, cel b1 [.int .i64 p.dims, .int .i64 p.tn, .slice p.ptA p.time.length p.ptc, .int .i64 p.dn, .slice p.pdA p.dist.length p.pdc, .slice p.pvA p.vehs.length p.pvc, .slice p.pjA p.jobs.length p.pjc, .slice p.psA p.ships.length p.psc] 29]) (fun _ => S) (fun _ => wf) (fun ⟨i, n0, t0, s0⟩ => ((l.length : Int) - i).toNat) (fun a_ w_ hs_ hw_ => ⟨⟨0, 0, 0, 0⟩, (by (try dsimp only); exact ⟨(by omega), (by omega), rfl, (by omega), (by omega)⟩), hs_.mono (Sub.get (.c4 rfl rfl rfl rfl (.c rfl (.c rfl (.c rfl .n))))), hw_.keep (.c .h (.c .h .n))⟩) (fun ⟨i, n0, t0, s0⟩ ⟨q_0, q_1, q_2, q_3, q_4⟩ => ?_)
 show SC _ _ _ _ _ ⟨[(2, .slice A l.length c), (3, .pointer (some ⟨b1, 0, none⟩)), (4, .pointer (some ⟨b2, 0, none⟩)), (10, .int .i64 i), (7, .int .i64 n0), (8, .int .i64 t0), (9, .int .u64 s0)], [cel b2 [.int .i64 v.st, .int .i64 v.en, .slice v.vcA v.vcap.length v.vcc, .int .u64 v.vsk, .int .i64 v.lo, .int .i64 v.hi, .int .i64 v.fix, .int .i64 v.pt, .int .i64 v.pd, .int .i64 v.mt, .slice v.vbA v.brs.length v.vbc] 75, cel b1 [.int .i64 p.dims, .int .i64 p.tn, .slice p.ptA p.time.length p.ptc, .int .i64 p.dn, .slice p.pdA p.dist.length p.pdc, .slice p.pvA p.vehs.length p.pvc, .slice p.pjA p.jobs.length p.pjc, .slice p.psA p.ships.length p.psc] 29], S, wf⟩
 refine .seq (.seq (.region (.m rfl rfl rfl (.m rfl rfl rfl (.v (ev_len rfl Try.underlying41 rfl) rfl ?_)))))
 refine .v (ev_cmp rfl rfl rfl rfl) rfl (.go idQ (.condI rfl bD (fun h4 => ?_) (fun h4 => ?_)))
 ·
  refine .skipgo idQ (.seq (.block (.seq (.region (.m rfl rfl rfl ?_)))))
  refine .m rfl rfl rfl (.v (ev_ix rfl Try.underlying41 ty46 rfl rfl (by omega) (by omega) (fun _ _ => Fr.adr (i := i) hA (by omega) (by omega))) rfl (.v (ev_fa rfl fo46_0 rfl (r := ao A + (i).toNat * 2) rfl) rfl (.v (ev_ld1 rfl ty44 rfl (At.elem1 (At.w (Fr.el (i := i) hA (by omega) (by omega))) 0 rfl)) rfl (.go idQ (.block ?_)))))
  refine .seq (.region (.v (ev_cmp rfl rfl rfl rfl) rfl (.a rfl rfl rfl (.go idQ (.condI rfl bE (fun h5 => ?_) (fun h5 => ?_))))))
  ·
   refine .seq (.seq (.region (.m rfl rfl rfl (.m rfl rfl rfl (.v (ev_ix rfl Try.underlying41 ty46 rfl rfl (by omega) (by omega) (fun _ _ => Fr.adr (i := i) hA (by omega) (by omega))) rfl ?_)))))
   refine .v (ev_fa rfl fo46_1 rfl (r := ao A + (i).toNat * 2 + 1) rfl) rfl (.v (ev_ld1 rfl ty3 rfl (At.elem1 (At.w (Fr.el (i := i) hA (by omega) (by omega))) 1 rfl)) rfl (.m rfl rfl rfl (.v (ev_cmp rfl rfl rfl rfl) rfl (.go idQ (.condI rfl bNE (fun h6 => ?_) (fun h6 => ?_))))))
   ·
    exact .seq (.region (.a rfl rfl rfl (.go idQ (.ret idQ (ret1 Try.results63 rfl .n ⟨(congrArg (Value.int .i64) (ck_162 hp0 (scan_none (p := p) (t := 0) (s := 0) (by have hq := q_2; rw [drop_gt (x := i) (by omega) (by omega), scanR_cons, if_pos (by omega), if_pos (by omega)] at hq; exact hq.symm))).symm), rfl⟩)))))
   refine .skipgo idQ (.region (.m rfl rfl rfl (.v (ev_add rfl rfl rfl (r := (n0 + 1)) rfl (by omega) (by omega)) rfl (.a rfl rfl rfl (.go idQ ?_)))))
   exact .region (.m rfl rfl rfl (.v (ev_add rfl rfl rfl (r := (i + 1)) rfl (by omega) (by omega)) rfl (.a rfl rfl rfl (SP.nil (SQ.roundb (X := Int × Int × Int × Int) (x := (i, n0, t0, s0)) ⟨(i + 1), (n0 + 1), t0, s0⟩ (by (try dsimp only); exact ⟨(by omega), (by omega), (by have hq := q_2; rw [drop_gt (x := i) (by omega) (by omega), scanR_cons] at hq; (repeat' split at hq) <;> first | exact hq | contradiction | (exfalso; omega)), (by omega), (by omega)⟩) (by dsimp only; omega) (Sub.get (.c4 rfl rfl rfl rfl (.c rfl (.c rfl (.c rfl .n))))) (fun w hw => hw.keep (.c .h (.c .h .n))))))))
  refine .seq (.seq (.region (.v (ev_cmp rfl rfl rfl rfl) rfl (.a rfl rfl rfl (.go idQ ?_)))))
  refine .condI rfl bE (fun h7 => ?_) (fun h7 => ?_)
  ·
   refine .skipgo idQ (.condI rfl bE (fun h8 => ?_) (fun h8 => ?_))
   ·
    refine .seq (.region (.m rfl rfl rfl (.m rfl rfl rfl (.v (ev_ix rfl Try.underlying41 ty46 rfl rfl (by omega) (by omega) (fun _ _ => Fr.adr (i := i) hA (by omega) (by omega))) rfl (.v (ev_lda rfl rfl (At.w (Fr.el (i := i) hA (by omega) (by omega))) ty46) rfl ?_)))))
    refine .cons (st_callk rfl rfl rfl rfl hbd37 rfl .n (rof_ (gt l i) _ _) (.m rfl rfl rfl (.v (ev_ext rfl rfl rfl) rfl (.v (ev_ext rfl rfl rfl) rfl (.cons (st_alloc rfl rfl rfl rfl zf54 (fun b9 => .cons (st_storea (l' := [.bool ((taskV (gt l i)).ship), .int .i64 ((taskV (gt l i)).item)]) rfl rfl rfl ty54 rfl rfl rfl .h rfl rfl ?_))))))))
    refine .a rfl rfl rfl (.go idQ (.seq (.region (.v (ev_lda rfl rfl (At.whole 2 rfl) ty29) rfl (.v (ev_lda rfl rfl (At.whole 0 rfl) ty54) rfl ?_)))))
    refine .cons (st_callk rfl rfl rfl rfl hbd23 rfl .n (facts_ p (taskV (gt l i)) _ _ hPB) (.m rfl rfl rfl (.v (ev_ext rfl rfl rfl) rfl (.v (ev_ext rfl rfl rfl) rfl (.a rfl rfl rfl (.a rfl rfl rfl ?_))))))
    refine .go idQ (.seq (.region (.m rfl rfl rfl (.m rfl rfl rfl (.v (ev_bor rfl rfl rfl) rfl ?_)))))
    refine .a rfl rfl rfl (.go idQ (.region (.m rfl rfl rfl (.v (ev_add rfl rfl rfl (r := (t0 + 1)) rfl (by omega) (by omega)) rfl (.a rfl rfl rfl ?_)))))
    exact .go idQ (.region (.m rfl rfl rfl (.v (ev_add rfl rfl rfl (r := (i + 1)) rfl (by omega) (by omega)) rfl (.a rfl rfl rfl (SP.nil (SQ.roundb (X := Int × Int × Int × Int) (x := (i, n0, t0, s0)) ⟨(i + 1), n0, (t0 + 1), (bor .u64 s0 (skilF p (taskV (gt l i))))⟩ (by (try dsimp only); exact ⟨(by omega), (by omega), (by have hq := q_2; rw [drop_gt (x := i) (by omega) (by omega), scanR_cons] at hq; (repeat' split at hq) <;> first | exact hq | contradiction | (exfalso; omega)), (by omega), (by omega)⟩) (by dsimp only; omega) (Sub.get (.c4 rfl rfl rfl rfl (.c rfl (.c rfl (.c rfl .n))))) (fun w hw => hw.keep (.c (.t .h) (.c (.t .h) .n)))))))))
   exact absurd h7 h8
  refine .region (.v (ev_cmp rfl rfl rfl rfl) rfl (.a rfl rfl rfl (.go idQ (.condI rfl bE (fun h10 => ?_) (fun h10 => ?_)))))
  ·
   refine .seq (.region (.m rfl rfl rfl (.m rfl rfl rfl (.v (ev_ix rfl Try.underlying41 ty46 rfl rfl (by omega) (by omega) (fun _ _ => Fr.adr (i := i) hA (by omega) (by omega))) rfl (.v (ev_lda rfl rfl (At.w (Fr.el (i := i) hA (by omega) (by omega))) ty46) rfl ?_)))))
   refine .cons (st_callk rfl rfl rfl rfl hbd37 rfl .n (rof_ (gt l i) _ _) (.m rfl rfl rfl (.v (ev_ext rfl rfl rfl) rfl (.v (ev_ext rfl rfl rfl) rfl (.cons (st_alloc rfl rfl rfl rfl zf54 (fun b11 => .cons (st_storea (l' := [.bool ((taskV (gt l i)).ship), .int .i64 ((taskV (gt l i)).item)]) rfl rfl rfl ty54 rfl rfl rfl .h rfl rfl ?_))))))))
   refine .a rfl rfl rfl (.go idQ (.seq (.region (.v (ev_lda rfl rfl (At.whole 2 rfl) ty29) rfl (.v (ev_lda rfl rfl (At.whole 0 rfl) ty54) rfl ?_)))))
   refine .cons (st_callk rfl rfl rfl rfl hbd23 rfl .n (facts_ p (taskV (gt l i)) _ _ hPB) (.m rfl rfl rfl (.v (ev_ext rfl rfl rfl) rfl (.v (ev_ext rfl rfl rfl) rfl (.a rfl rfl rfl (.a rfl rfl rfl ?_))))))
   refine .go idQ (.seq (.region (.m rfl rfl rfl (.m rfl rfl rfl (.v (ev_bor rfl rfl rfl) rfl ?_)))))
   refine .a rfl rfl rfl (.go idQ (.region (.m rfl rfl rfl (.v (ev_add rfl rfl rfl (r := (t0 + 1)) rfl (by omega) (by omega)) rfl (.a rfl rfl rfl ?_)))))
   exact .go idQ (.region (.m rfl rfl rfl (.v (ev_add rfl rfl rfl (r := (i + 1)) rfl (by omega) (by omega)) rfl (.a rfl rfl rfl (SP.nil (SQ.roundb (X := Int × Int × Int × Int) (x := (i, n0, t0, s0)) ⟨(i + 1), n0, (t0 + 1), (bor .u64 s0 (skilF p (taskV (gt l i))))⟩ (by (try dsimp only); exact ⟨(by omega), (by omega), (by have hq := q_2; rw [drop_gt (x := i) (by omega) (by omega), scanR_cons] at hq; (repeat' split at hq) <;> first | exact hq | contradiction | (exfalso; omega)), (by omega), (by omega)⟩) (by dsimp only; omega) (Sub.get (.c4 rfl rfl rfl rfl (.c rfl (.c rfl (.c rfl .n))))) (fun w hw => hw.keep (.c (.t .h) (.c (.t .h) .n)))))))))
  exact .skipgo idQ (.region (.m rfl rfl rfl (.v (ev_add rfl rfl rfl (r := (i + 1)) rfl (by omega) (by omega)) rfl (.a rfl rfl rfl (SP.nil (SQ.roundb (X := Int × Int × Int × Int) (x := (i, n0, t0, s0)) ⟨(i + 1), n0, t0, s0⟩ (by (try dsimp only); exact ⟨(by omega), (by omega), (by have hq := q_2; rw [drop_gt (x := i) (by omega) (by omega), scanR_cons] at hq; (repeat' split at hq) <;> first | exact hq | contradiction | (exfalso; omega)), (by omega), (by omega)⟩) (by dsimp only; omega) (Sub.get (.c4 rfl rfl rfl rfl (.c rfl (.c rfl (.c rfl .n))))) (fun w hw => hw.keep (.c .h (.c .h .n)))))))))
 refine .exit idQ (.seq (.seq ?_))
 have hsc : scanR p l 0 0 0 = some (n0, t0, s0) := by have hq := q_2; rw [drop_end (i := i) (by omega)] at hq; exact hq.symm
 have hss := scan_some (nb := (v.brs.length : Int)) (c := v.vsk) hsc
 refine .region (.m rfl rfl rfl (.v (ev_fa rfl fo75_9 rfl (r := 10) rfl) rfl (.v (ev_ld1 rfl ty73 rfl (At.own1 0 rfl rfl)) rfl (.v (ev_len rfl Try.underlying73 rfl) rfl (.v (ev_cmp rfl rfl rfl rfl) rfl ?_)))))
 refine .go idQ (.condI rfl bNE (fun h12 => ?_) (fun h12 => ?_))
 ·
  exact .seq (.region (.a rfl rfl rfl (.go idQ (.ret idQ (ret1 Try.results63 rfl .n ⟨(congrArg (Value.int .i64) (ck_162 hp0 (by rw [hss.1]; exact decide_eq_false (by omega))).symm), rfl⟩)))))
 refine .skipgo idQ (.seq (.seq ?_))
 have hb0 : breaksR v.brs.length l 0 = true := by rw [hss.1]; exact decide_eq_true (by omega)
 refine .region (.m rfl rfl rfl (.v (ev_fa rfl fo75_3 rfl (r := 3) rfl) rfl (.v (ev_ld1 rfl ty65 rfl (At.own1 0 rfl rfl)) rfl (.v (ev_bandn rfl rfl rfl) rfl (.v (ev_cmp rfl rfl rfl rfl) rfl ?_)))))
 refine .go idQ (.condI rfl bNE (fun h13 => ?_) (fun h13 => ?_))
 ·
  exact .seq (.region (.a rfl rfl rfl (.go idQ (.ret idQ (ret1 Try.results63 rfl .n ⟨(congrArg (Value.int .i64) (ck_163 hp0 hb0 (fun h_ => (by assumption : ¬ (_ : Int) = 0) (hss.2.2.2 ⟨ban_0, (skills_ref hp0).1 h_⟩))).symm), rfl⟩)))))
 refine .skipgo idQ (.seq (.seq ?_))
 have hs0 : skillsR p v l = true := (skills_ref hp0).2 (hss.2.2.1 (Classical.not_not.1 (by assumption))).2
 refine .region (.m rfl rfl rfl (.v (ev_fa rfl fo75_8 rfl (r := 9) rfl) rfl (.v (ev_ld1 rfl ty3 rfl (At.own1 0 rfl rfl)) rfl (.v (ev_cmp rfl rfl rfl rfl) rfl (.go idQ ?_)))))
 refine .condI rfl bD (fun h14 => ?_) (fun h14 => ?_)
 ·
  exact .seq (.region (.a rfl rfl rfl (.go idQ (.ret idQ (ret1 Try.results63 rfl .n ⟨(congrArg (Value.int .i64) (ck_164 hp0 hb0 hs0 (by rw [hss.2.1]; assumption)).symm), rfl⟩)))))
 refine .skipgo idQ (.seq ?_)
 have ht0 : ¬ tasksR l 0 > v.mt := by rw [hss.2.1]; assumption
 refine .region (.v (ev_lda rfl rfl (At.whole 1 rfl) ty29) rfl (.m rfl rfl rfl (.cons (st_call0 rfl rfl rfl rfl hbd64 rfl .n (rloads_ p A c l _ _ hA hPB (by omega) (by first | omega | simp only [LL] <;> omega | simp <;> omega)) (fun v_q17 C_q17 q17 => ?_)))))
 obtain ⟨u15, Y16, p18, rfl, rfl⟩ := q17
 show SP _ _ _ _ _ _ ⟨_, _ :: _ :: _, _, _⟩
 have hY := p18
 have hYl := loads_len hY
 refine .a rfl rfl rfl (.go idQ (.seq (.seq (.region (.a rfl rfl rfl ?_)))))
 refine .go idQ (.block ?_)
 refine .loop (X := Int) (fun j => 0 ≤ j ∧ j ≤ (Y16.length : Int) ∧ allUnder v.vcap ((Y16.map IL.il).drop j.toNat) = allUnder v.vcap (loadsF p l)) (fun j => [(2, .slice A l.length c), (3, .pointer (some ⟨b1, 0, none⟩)), (4, .pointer (some ⟨b2, 0, none⟩)), (10, .int .i64 i), (7, .int .i64 n0), (8, .int .i64 t0), (9, .int .u64 s0), (15, v_q17), (16, .int .i64 j)]) (fun j => [rw_ eIL 22 (v_q17) Y16, nestIL 3 Y16, cel b2 [.int .i64 v.st, .int .i64 v.en, .slice v.vcA v.vcap.length v.vcc, .int .u64 v.vsk, .int .i64 v.lo, .int .i64 v.hi, .int .i64 v.fix, .int .i64 v.pt, .int .i64 v.pd, .int .i64 v.mt, .slice v.vbA v.brs.length v.vbc] 75, cel b1 [.int .i64 p.dims, .int .i64 p.tn, .slice p.ptA p.time.length p.ptc, .int .i64 p.dn, .slice p.pdA p.dist.length p.pdc, .slice p.pvA p.vehs.length p.pvc, .slice p.pjA p.jobs.length p.pjc, .slice p.psA p.ships.length p.psc] 29]) (fun _ => S) (fun _ => wf) (fun j => ((Y16.length : Int) - j).toNat) (fun a_ w_ hs_ hw_ => ⟨0, (by (try dsimp only); exact ⟨(by omega), (by omega), (by rw [← hY]; rfl)⟩), hs_.mono (Sub.get (.c4 rfl rfl rfl rfl (.c4 rfl rfl rfl rfl (.c rfl .n)))), hw_.keep (.c .h (.c .h (.c .h (.c .h .n))))⟩) (fun j ⟨r_0, r_1, r_2⟩ => ?_)
 try dsimp only
 refine .seq (.seq (.region (.m rfl rfl rfl (.m rfl rfl rfl ?_))))
 refine .know (row_len 0 rfl) (fun hv21 => ?_)
 obtain ⟨A19, c20, rfl, hv21_1, hv21_2⟩ := hv21
 unfold maxLen at hv21_2
 refine .v (ev_len rfl Try.underlying124 rfl) rfl (.v (ev_cmp rfl rfl rfl rfl) rfl (.go idQ (.condI rfl bD (fun h22 => ?_) (fun h22 => ?_))))
 ·
  refine .skipgo idQ (.seq (.block (.seq ?_)))
  refine SC.draw mo [] [] .n (fun _ _ _ => sc0) (fun wf_23 hl_23 hx_23 hR_23 => ?_)
  refine SR.m 0 rfl rfl rfl rfl (SR.m 1 rfl rfl rfl rfl (SR.z 2 rfl rfl (ev_ix rfl Try.underlying124 ty22 rfl rfl (by omega) (by omega) (fun _ _ => Fr.adr (i := j) (Fr.lent (S := S) hR_23 0 rfl (by first | omega | simp only [LL] <;> omega | simp <;> omega)) (by omega) (by omega))) (SR.z 3 rfl rfl (ev_ld1 rfl ty22 rfl (At.elem1 (At.d (Fr.el (i := j) (Fr.lent (S := S) hR_23 0 rfl (by first | omega | simp only [LL] <;> omega | simp <;> omega)) (by omega) (by omega))) 0 rfl)) (SR.z 4 rfl rfl (ev_fa rfl fo75_2 rfl (r := 2) rfl) (SR.z 5 rfl rfl (ev_ld1 rfl ty22 rfl (At.d (At.lent hR_23 2 rfl rfl))) ?_)))))
  refine SR.o 6 rfl (st_callk rfl rfl rfl rfl hbd78 rfl .n (runder ((gt Y16 j).ilA) ((gt Y16 j).ilc) ((gt Y16 j).il) v.vcA v.vcc v.vcap _ _ ((ILF.lent (S := S) hR_23 1 rfl) j) (((hVH).ext hx_23).1)) ⟨tt0, (SR.z 7 rfl rfl (ev_not rfl rfl) (SR.fin (by kernel_rfl) hl_23 hx_23 hR_23 .n (SQ.go idQ (.condI rfl (bN bV) (fun h24 => ?_) (fun h24 => ?_)))))⟩)
  ·
   exact .seq (.region (.a rfl rfl rfl (.go idQ (.ret idQ (ret1 Try.results63 rfl .n ⟨(congrArg (Value.int .i64) (ck_165 hp0 hb0 hs0 ht0 (by have hq := r_2; rw [drop_gtm (i := j) (by omega) (by omega), allUnder_cons] at hq; (repeat' split at hq) <;> first | exact hq.symm | contradiction)).symm), rfl⟩)))))
  exact .skipgo idQ (.region (.m rfl rfl rfl (.v (ev_add rfl rfl rfl (r := (j + 1)) rfl (by omega) (by omega)) rfl (.a rfl rfl rfl (SP.nil (SQ.roundb (X := Int) (x := (j)) (j + 1) (by (try dsimp only); exact ⟨(by omega), (by omega), (by have hq := r_2; rw [drop_gtm (i := j) (by omega) (by omega), allUnder_cons] at hq; (repeat' split at hq) <;> first | exact hq | contradiction)⟩) (by show (_ : Nat) < _; omega) (Sub.get (.c4 rfl rfl rfl rfl (.c4 rfl rfl rfl rfl (.c rfl .n)))) (fun w hw => hw.keep (.c .h (.c .h (.c .h (.c .h .n)))))))))))
 refine .exit idQ (.seq ?_)
 have hu0 : allUnder v.vcap (loadsF p l) = true := by have hq := r_2; rw [drop_end (i := j) (by simp only [List.length_map]; omega)] at hq; exact hq.symm
 refine .region (.v (ev_fa rfl fo75_0 rfl (r := 0) rfl) rfl (.v (ev_ld1 rfl ty3 rfl (At.own1 2 rfl rfl)) rfl (.a rfl rfl rfl (.go idQ (.seq ?_)))))
 refine .seq (.region (.a rfl rfl rfl (.go idQ (.block ?_))))
 refine .loop (X := Int × Int) (fun ⟨m0, pa⟩ => 0 ≤ m0 ∧ m0 ≤ (l.length : Int) + 1 ∧ (m0 ≤ (l.length : Int) → travelQ p v (l.drop m0.toNat) pa = (travelQ p v l v.st)) ∧ (m0 = (l.length : Int) + 1 → (travelQ p v l v.st) = true)) (fun ⟨m0, pa⟩ => [(2, .slice A l.length c), (3, .pointer (some ⟨b1, 0, none⟩)), (4, .pointer (some ⟨b2, 0, none⟩)), (10, .int .i64 i), (7, .int .i64 n0), (8, .int .i64 t0), (9, .int .u64 s0), (15, .slice A19 Y16.length c20), (16, .int .i64 j), (18, .int .i64 m0), (17, .int .i64 pa)]) (fun ⟨m0, pa⟩ => [rw_ eIL 22 (.slice A19 Y16.length c20) Y16, nestIL 3 Y16, cel b2 [.int .i64 v.st, .int .i64 v.en, .slice v.vcA v.vcap.length v.vcc, .int .u64 v.vsk, .int .i64 v.lo, .int .i64 v.hi, .int .i64 v.fix, .int .i64 v.pt, .int .i64 v.pd, .int .i64 v.mt, .slice v.vbA v.brs.length v.vbc] 75, cel b1 [.int .i64 p.dims, .int .i64 p.tn, .slice p.ptA p.time.length p.ptc, .int .i64 p.dn, .slice p.pdA p.dist.length p.pdc, .slice p.pvA p.vehs.length p.pvc, .slice p.pjA p.jobs.length p.pjc, .slice p.psA p.ships.length p.psc] 29]) (fun _ => S) (fun _ => wf) (fun ⟨m0, pa⟩ => ((l.length : Int) + 1 - m0).toNat) (fun a_ w_ hs_ hw_ => ⟨⟨0, v.st⟩, (by (try dsimp only); exact ⟨(by omega), (by omega), (fun _ => rfl), (fun h_ => by omega)⟩), hs_.mono (Sub.get (.c4 rfl rfl rfl rfl (.c4 rfl rfl rfl rfl (.c rfl (.c rfl (.c rfl .n)))))), hw_.keep (.c .h (.c .h (.c .h (.c .h .n))))⟩) (fun ⟨m0, pa⟩ ⟨s_0, s_1, s_2, s_3⟩ => ?_)
 show SC _ _ _ _ _ ⟨[(2, .slice A l.length c), (3, .pointer (some ⟨b1, 0, none⟩)), (4, .pointer (some ⟨b2, 0, none⟩)), (10, .int .i64 i), (7, .int .i64 n0), (8, .int .i64 t0), (9, .int .u64 s0), (15, .slice A19 Y16.length c20), (16, .int .i64 j), (18, .int .i64 m0), (17, .int .i64 pa)], [rw_ eIL 22 (.slice A19 Y16.length c20) Y16, nestIL 3 Y16, cel b2 [.int .i64 v.st, .int .i64 v.en, .slice v.vcA v.vcap.length v.vcc, .int .u64 v.vsk, .int .i64 v.lo, .int .i64 v.hi, .int .i64 v.fix, .int .i64 v.pt, .int .i64 v.pd, .int .i64 v.mt, .slice v.vbA v.brs.length v.vbc] 75, cel b1 [.int .i64 p.dims, .int .i64 p.tn, .slice p.ptA p.time.length p.ptc, .int .i64 p.dn, .slice p.pdA p.dist.length p.pdc, .slice p.pvA p.vehs.length p.pvc, .slice p.pjA p.jobs.length p.pjc, .slice p.psA p.ships.length p.psc] 29], S, wf⟩
 refine .seq (.seq (.region (.m rfl rfl rfl (.m rfl rfl rfl (.v (ev_len rfl Try.underlying41 rfl) rfl ?_)))))
 refine .v (ev_cmp rfl rfl rfl rfl) rfl (.go idQ (.condI rfl bD (fun h25 => ?_) (fun h25 => ?_)))
 ·
  refine .skipgo idQ (.seq (.block (.seq (.region (.v (ev_fa rfl fo75_1 rfl (r := 1) rfl) rfl ?_)))))
  refine .v (ev_ld1 rfl ty3 rfl (At.own1 2 rfl rfl)) rfl (.a rfl rfl rfl (.go idQ (.seq (.seq (.region ?_)))))
  refine .m rfl rfl rfl (.m rfl rfl rfl (.v (ev_len rfl Try.underlying41 rfl) rfl (.v (ev_cmp rfl rfl rfl rfl) rfl (.go idQ (.condI rfl bD (fun h26 => ?_) (fun h26 => ?_))))))
  ·
   refine .seq ?_
   refine SC.draw mo [] [] .n (fun _ _ _ => sc0) (fun wf_27 hl_27 hx_27 hR_27 => ?_)
   refine SR.cut (fun bb28 => ([(2, .slice A l.length c), (3, .pointer (some ⟨b1, 0, none⟩)), (4, .pointer (some ⟨b2, 0, none⟩)), (10, .int .i64 i), (7, .int .i64 n0), (8, .int .i64 t0), (9, .int .u64 s0), (15, .slice A19 Y16.length c20), (16, .int .i64 j), (18, .int .i64 m0), (17, .int .i64 pa), (103, .int .i64 m0), (104, .slice A l.length c), (105, .int .i64 (l.length : Int)), (106, .bool (decide (m0 ≤ (l.length : Int)))), (109, .pointer (some ⟨b2, 1, none⟩)), (110, .int .i64 v.en), (19, .int .i64 v.en), (111, .int .i64 m0), (112, .slice A l.length c), (113, .int .i64 (l.length : Int)), (114, .bool (decide (m0 < (l.length : Int)))), (116, .agg #[.int .i64 p.dims, .int .i64 p.tn, .slice p.ptA p.time.length p.ptc, .int .i64 p.dn, .slice p.pdA p.dist.length p.pdc, .slice p.pvA p.vehs.length p.pvc, .slice p.pjA p.jobs.length p.pjc, .slice p.psA p.ships.length p.psc]), (117, .slice A l.length c), (118, .int .i64 m0), (119, .pointer (some ⟨(ab A), ao A + (m0).toNat * 2, none⟩)), (120, .agg #[.int .i64 ((gt l m0).kind), .int .i64 ((gt l m0).item)]), (121, .tuple #[.agg #[.int .i64 ((stopD p (gt l m0)).pl), .int .i64 ((stopD p (gt l m0)).srv), .slice ((stopD p (gt l m0)).soA) ((stopD p (gt l m0)).sws.length) ((stopD p (gt l m0)).soc)], .bool (isStop p (gt l m0))]), (115, .tuple #[.agg #[.int .i64 ((stopD p (gt l m0)).pl), .int .i64 ((stopD p (gt l m0)).srv), .slice ((stopD p (gt l m0)).soA) ((stopD p (gt l m0)).sws.length) ((stopD p (gt l m0)).soc)], .bool (isStop p (gt l m0))]), (122, .agg #[.int .i64 ((stopD p (gt l m0)).pl), .int .i64 ((stopD p (gt l m0)).srv), .slice ((stopD p (gt l m0)).soA) ((stopD p (gt l m0)).sws.length) ((stopD p (gt l m0)).soc)]), (123, .bool (isStop p (gt l m0))), (20, .pointer (some ⟨bb28, 0, none⟩)), (21, .bool (isStop p (gt l m0)))], [cel bb28 [.int .i64 ((stopD p (gt l m0)).pl), .int .i64 ((stopD p (gt l m0)).srv), .slice ((stopD p (gt l m0)).soA) ((stopD p (gt l m0)).sws.length) ((stopD p (gt l m0)).soc)] 81, rw_ eIL 22 (.slice A19 Y16.length c20) Y16, nestIL 3 Y16, cel b2 [.int .i64 v.st, .int .i64 v.en, .slice v.vcA v.vcap.length v.vcc, .int .u64 v.vsk, .int .i64 v.lo, .int .i64 v.hi, .int .i64 v.fix, .int .i64 v.pt, .int .i64 v.pd, .int .i64 v.mt, .slice v.vbA v.brs.length v.vbc] 75, cel b1 [.int .i64 p.dims, .int .i64 p.tn, .slice p.ptA p.time.length p.ptc, .int .i64 p.dn, .slice p.pdA p.dist.length p.pdc, .slice p.pvA p.vehs.length p.pvc, .slice p.pjA p.jobs.length p.pjc, .slice p.psA p.ships.length p.psc] 29])) S wf (fun bb28 => ?_) (fun key29 => ?_)
   ·
    try dsimp only
    refine SQ.go idQ (.seq (.region (.m rfl rfl rfl (.a rfl rfl rfl (.go idQ ?_)))))
    refine .seq (.region (.m rfl rfl rfl (.go idQ (.condI rfl bV (fun h30 => ?_) (fun h30 => ?_)))))
    ·
     refine .region (.v (ev_fa rfl fo81_0 rfl (r := 0) rfl) rfl (.v (ev_ld1 rfl ty3 rfl (At.own1 0 rfl rfl)) rfl (.a rfl rfl rfl (.go idQ (.seq ?_)))))
     refine .seq (.region (.v (ev_fa rfl fo29_1 rfl (r := 1) rfl) rfl (.v (ev_lda (cs := [.int .i64 p.tn, .slice p.ptA p.time.length p.ptc]) rfl rfl (At.own 4 rfl rfl) ty24) rfl (.m rfl rfl rfl (.m rfl rfl rfl ?_)))))
     refine .cons (st_callk rfl rfl rfl rfl hbd66 rfl .n (rcell_ p.tn p.ptA p.ptc p.time pa ((stopD p (gt l m0)).pl) _ _ hPB.1 (by have := hL.tn; have := hL.dn; omega) (by first | exact hL.tlen | (rw [hL.dn]; exact hL.dlen))) (.v (ev_cmp rfl rfl rfl rfl) rfl (.m rfl rfl rfl (.w (fun _ => ev_fa rfl fo29_2 rfl (r := 3) rfl) rfl (.w (fun hb => ev_lda (cs := [.int .i64 p.dn, .slice p.pdA p.dist.length p.pdc]) rfl (lkg rfl hb) (At.own 4 rfl rfl) ty24) rfl (.w (fun _ => ev_mv rfl rfl) rfl ?_))))))
     refine .w (fun _ => ev_mv rfl rfl) rfl (.cons (st_gcallk rfl rfl rfl rfl rfl rfl hbd66 (fun hb => (lkA1 (lkg rfl hb) (lkA1 (lkg rfl hb) (lkA1 (lkg rfl hb) lkA0)))) .n (fun hb => have hp := bF bD hb; rcell_ p.dn p.pdA p.pdc p.dist pa ((stopD p (gt l m0)).pl) _ _ hPB.2.1 (by have := hL.tn; have := hL.dn; omega) (by first | exact hL.tlen | (rw [hL.dn]; exact hL.dlen))) (.w (fun hb => ev_cmp rfl (lkg rfl hb) rfl rfl) rfl (.v (ev_or rfl rfl rfl rfl) rfl (.go idQ (.condI rfl (bO bD bD) (fun h31 => ?_) (fun h31 => ?_)))))))
     ·
      exact .seq (.region (.a rfl rfl rfl (.go idQ (.ret idQ (ret1 Try.results63 rfl .n ⟨(congrArg (Value.int .i64) (ck_166 hp0 hb0 hs0 ht0 hu0 (by have hq := s_2 (by omega); rw [drop_gt (x := m0) (by omega) (by omega), travelQ_cons, nextPl_y (by assumption), if_pos (by assumption), travelQ_eq] at hq; exact hq.symm)).symm), rfl⟩)))))
     refine .skipgo idQ (.region (.m rfl rfl rfl (.a rfl rfl rfl (.go idQ (.region ?_)))))
     exact .m rfl rfl rfl (.v (ev_add rfl rfl rfl (r := (m0 + 1)) rfl (by omega) (by omega)) rfl (.a rfl rfl rfl (SP.nil (SQ.roundb (X := Int × Int) (x := (m0, pa)) ⟨(m0 + 1), (stopD p (gt l m0)).pl⟩ (by (try dsimp only); exact ⟨(by omega), (by omega), (fun _ => by have hq := s_2 (by omega); rw [drop_gt (x := m0) (by omega) (by omega), travelQ_cons, nextPl_y (by assumption), if_neg (by assumption)] at hq; exact hq), (fun h_ => by omega)⟩) (by dsimp only; omega) (Sub.get (.c4 rfl rfl rfl rfl (.c4 rfl rfl rfl rfl (.c rfl (.c rfl (.c rfl .n)))))) (fun w hw => hw.keep (.c (.t .h) (.c (.t .h) (.c (.t .h) (.c (.t .h) .n)))))))))
    refine .skipgo idQ (.seq (.seq (.region (.v (ev_fa rfl fo29_1 rfl (r := 1) rfl) rfl (.v (ev_lda (cs := [.int .i64 p.tn, .slice p.ptA p.time.length p.ptc]) rfl rfl (At.own 4 rfl rfl) ty24) rfl ?_)))))
    refine .m rfl rfl rfl (.m rfl rfl rfl (.cons (st_callk rfl rfl rfl rfl hbd66 rfl .n (rcell_ p.tn p.ptA p.ptc p.time pa pa _ _ hPB.1 (by have := hL.tn; have := hL.dn; omega) (by first | exact hL.tlen | (rw [hL.dn]; exact hL.dlen))) (.v (ev_cmp rfl rfl rfl rfl) rfl (.m rfl rfl rfl (.w (fun _ => ev_fa rfl fo29_2 rfl (r := 3) rfl) rfl ?_))))))
    refine .w (fun hb => ev_lda (cs := [.int .i64 p.dn, .slice p.pdA p.dist.length p.pdc]) rfl (lkg rfl hb) (At.own 4 rfl rfl) ty24) rfl (.w (fun _ => ev_mv rfl rfl) rfl (.w (fun _ => ev_mv rfl rfl) rfl (.cons (st_gcallk rfl rfl rfl rfl rfl rfl hbd66 (fun hb => (lkA1 (lkg rfl hb) (lkA1 (lkg rfl hb) (lkA1 (lkg rfl hb) lkA0)))) .n (fun hb => have hp := bF bD hb; rcell_ p.dn p.pdA p.pdc p.dist pa pa _ _ hPB.2.1 (by have := hL.tn; have := hL.dn; omega) (by first | exact hL.tlen | (rw [hL.dn]; exact hL.dlen))) (.w (fun hb => ev_cmp rfl (lkg rfl hb) rfl rfl) rfl (.v (ev_or rfl rfl rfl rfl) rfl ?_))))))
    refine .go idQ (.condI rfl (bO bD bD) (fun h32 => ?_) (fun h32 => ?_))
    ·
     exact .seq (.region (.a rfl rfl rfl (.go idQ (.ret idQ (ret1 Try.results63 rfl .n ⟨(congrArg (Value.int .i64) (ck_166 hp0 hb0 hs0 ht0 hu0 (by have hq := s_2 (by omega); rw [drop_gt (x := m0) (by omega) (by omega), travelQ_cons, nextPl_n (by assumption), if_pos (by assumption), travelQ_eq] at hq; exact hq.symm)).symm), rfl⟩)))))
    refine .skipgo idQ (.region (.m rfl rfl rfl (.a rfl rfl rfl (.go idQ (.region ?_)))))
    exact .m rfl rfl rfl (.v (ev_add rfl rfl rfl (r := (m0 + 1)) rfl (by omega) (by omega)) rfl (.a rfl rfl rfl (SP.nil (SQ.roundb (X := Int × Int) (x := (m0, pa)) ⟨(m0 + 1), pa⟩ (by (try dsimp only); exact ⟨(by omega), (by omega), (fun _ => by have hq := s_2 (by omega); rw [drop_gt (x := m0) (by omega) (by omega), travelQ_cons, nextPl_n (by assumption), if_neg (by assumption)] at hq; exact hq), (fun h_ => by omega)⟩) (by dsimp only; omega) (Sub.get (.c4 rfl rfl rfl rfl (.c4 rfl rfl rfl rfl (.c rfl (.c rfl (.c rfl .n)))))) (fun w hw => hw.keep (.c (.t .h) (.c (.t .h) (.c (.t .h) (.c (.t .h) .n)))))))))
   refine SR.z 0 rfl rfl (ev_lda (cs := [.int .i64 p.dims, .int .i64 p.tn, .slice p.ptA p.time.length p.ptc, .int .i64 p.dn, .slice p.pdA p.dist.length p.pdc, .slice p.pvA p.vehs.length p.pvc, .slice p.pjA p.jobs.length p.pjc, .slice p.psA p.ships.length p.psc]) rfl rfl (At.d (At.lent hR_27 3 rfl rfl)) ty29) (SR.m 1 rfl rfl rfl rfl (SR.m 2 rfl rfl rfl rfl (SR.z 3 rfl rfl (ev_ix rfl Try.underlying41 ty46 rfl rfl (by omega) (by omega) (fun _ _ => Fr.adr (i := m0) (Fr.ext hA hx_27) (by omega) (by omega))) (SR.z 4 rfl rfl (ev_lda rfl rfl (At.d (Fr.el (i := m0) (Fr.ext hA hx_27) (by omega) (by omega))) ty46) ?_))))
   refine SR.two (i := 5) (j := 9) (by kernel_rfl) ⟨_, rfl, ?_⟩ ⟨_, rfl, ?_⟩
   ·
    refine st_callk rfl rfl rfl rfl hbd65 rfl .n (rstop_ p (gt l m0) _ _ ((hPB).ext hx_27)) ⟨tt0, (SR.m 6 rfl rfl rfl rfl (SR.z 7 rfl rfl (ev_ext rfl rfl rfl) (SR.z 8 rfl rfl (ev_ext rfl rfl rfl) (SR.o 9 rfl (st_alloc rfl rfl rfl rfl zf81 (fun b33 => ⟨tt0, (SR.o 10 rfl (st_storea (l' := [.int .i64 ((stopD p (gt l m0)).pl), .int .i64 ((stopD p (gt l m0)).srv), .slice ((stopD p (gt l m0)).soA) ((stopD p (gt l m0)).sws.length) ((stopD p (gt l m0)).soc)]) rfl rfl rfl ty81 rfl rfl rfl .h rfl rfl ⟨tt0, ?_⟩))⟩))))))⟩
    exact SR.z 11 rfl rfl (ev_as rfl rfl) (SR.fin (by kernel_rfl) hl_27 hx_27 hR_27 (.c .n) (SQ.weak (key29 b33) (Sub.get (.c4 rfl rfl rfl rfl (.c4 rfl rfl rfl rfl (.c4 rfl rfl rfl rfl (.c4 rfl rfl rfl rfl (.c4 rfl rfl rfl rfl (.c4 rfl rfl rfl rfl (.c4 rfl rfl rfl rfl (.c4 rfl rfl rfl rfl (.c rfl .n)))))))))) (fun w hw => hw.keep (.c .h (.c .h (.c .h (.c .h (.c .h .n))))))))
   refine st_alloc rfl rfl rfl rfl zf81 (fun b34 => ⟨tt0, (SR.o 5 rfl (st_callk rfl rfl rfl rfl hbd65 rfl .n (rstop_ p (gt l m0) _ _ ((hPB).ext hx_27)) ⟨tt0, (SR.m 6 rfl rfl rfl rfl (SR.z 7 rfl rfl (ev_ext rfl rfl rfl) (SR.z 8 rfl rfl (ev_ext rfl rfl rfl) (SR.o 10 rfl (st_storea (l' := [.int .i64 ((stopD p (gt l m0)).pl), .int .i64 ((stopD p (gt l m0)).srv), .slice ((stopD p (gt l m0)).soA) ((stopD p (gt l m0)).sws.length) ((stopD p (gt l m0)).soc)]) rfl rfl rfl ty81 rfl rfl rfl .h rfl rfl ⟨tt0, ?_⟩)))))⟩))⟩)
   exact SR.z 11 rfl rfl (ev_as rfl rfl) (SR.fin (by kernel_rfl) hl_27 hx_27 hR_27 (.c .n) (SQ.weak (key29 b34) (Sub.get (.c4 rfl rfl rfl rfl (.c4 rfl rfl rfl rfl (.c4 rfl rfl rfl rfl (.c4 rfl rfl rfl rfl (.c4 rfl rfl rfl rfl (.c4 rfl rfl rfl rfl (.c4 rfl rfl rfl rfl (.c4 rfl rfl rfl rfl (.c rfl .n)))))))))) (fun w hw => hw.keep (.c .h (.c .h (.c .h (.c .h (.c .h .n))))))))
  refine .skipgo idQ (.seq (.seq (.region (.v (ev_fa rfl fo29_1 rfl (r := 1) rfl) rfl (.v (ev_lda (cs := [.int .i64 p.tn, .slice p.ptA p.time.length p.ptc]) rfl rfl (At.own 3 rfl rfl) ty24) rfl ?_)))))
  refine .m rfl rfl rfl (.m rfl rfl rfl (.cons (st_callk rfl rfl rfl rfl hbd66 rfl .n (rcell_ p.tn p.ptA p.ptc p.time pa v.en _ _ hPB.1 (by have := hL.tn; have := hL.dn; omega) (by first | exact hL.tlen | (rw [hL.dn]; exact hL.dlen))) (.v (ev_cmp rfl rfl rfl rfl) rfl (.m rfl rfl rfl (.w (fun _ => ev_fa rfl fo29_2 rfl (r := 3) rfl) rfl ?_))))))
  refine .w (fun hb => ev_lda (cs := [.int .i64 p.dn, .slice p.pdA p.dist.length p.pdc]) rfl (lkg rfl hb) (At.own 3 rfl rfl) ty24) rfl (.w (fun _ => ev_mv rfl rfl) rfl (.w (fun _ => ev_mv rfl rfl) rfl (.cons (st_gcallk rfl rfl rfl rfl rfl rfl hbd66 (fun hb => (lkA1 (lkg rfl hb) (lkA1 (lkg rfl hb) (lkA1 (lkg rfl hb) lkA0)))) .n (fun hb => have hp := bF bD hb; rcell_ p.dn p.pdA p.pdc p.dist pa v.en _ _ hPB.2.1 (by have := hL.tn; have := hL.dn; omega) (by first | exact hL.tlen | (rw [hL.dn]; exact hL.dlen))) (.w (fun hb => ev_cmp rfl (lkg rfl hb) rfl rfl) rfl (.v (ev_or rfl rfl rfl rfl) rfl ?_))))))
  refine .go idQ (.condI rfl (bO bD bD) (fun h35 => ?_) (fun h35 => ?_))
  ·
   exact .seq (.region (.a rfl rfl rfl (.go idQ (.ret idQ (ret1 Try.results63 rfl .n ⟨(congrArg (Value.int .i64) (ck_166 hp0 hb0 hs0 ht0 hu0 (by have hq := s_2 (by omega); rw [drop_end (i := m0) (by omega), travelQ_nil, if_pos (by assumption), travelQ_eq] at hq; exact hq.symm)).symm), rfl⟩)))))
  refine .skipgo idQ (.region (.m rfl rfl rfl (.a rfl rfl rfl (.go idQ (.region ?_)))))
  exact .m rfl rfl rfl (.v (ev_add rfl rfl rfl (r := (m0 + 1)) rfl (by omega) (by omega)) rfl (.a rfl rfl rfl (SP.nil (SQ.roundb (X := Int × Int) (x := (m0, pa)) ⟨(m0 + 1), v.en⟩ (by (try dsimp only); exact ⟨(by omega), (by omega), (fun h_ => by omega), (fun _ => by have hq := s_2 (by omega); rw [drop_end (i := m0) (by omega), travelQ_nil, if_neg (by assumption)] at hq; exact hq.symm)⟩) (by dsimp only; omega) (Sub.get (.c4 rfl rfl rfl rfl (.c4 rfl rfl rfl rfl (.c rfl (.c rfl (.c rfl .n)))))) (fun w hw => hw.keep (.c .h (.c .h (.c .h (.c .h .n)))))))))
 exact .exit idQ (.seq (.region (.a rfl rfl rfl (.go idQ (.ret idQ (ret1 Try.results63 rfl .n ⟨(congrArg (Value.int .i64) (ck_ok hp0 hb0 hs0 ht0 hu0 (by have hq := s_3 (by omega); rw [travelQ_eq] at hq; exact hq)).symm), rfl⟩))))))
end Go.Proofs.Ytdpmnodiebpjeaa.Sx
