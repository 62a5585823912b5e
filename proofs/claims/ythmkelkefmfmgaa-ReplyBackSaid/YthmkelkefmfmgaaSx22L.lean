import Derived.Test.YthmkelkefmfmgaaProg
import Derived.Test.YthmkelkefmfmgaaSxRead
import Derived.Test.YthmkelkefmfmgaaSxWin
import Derived.Test.YthmkelkefmfmgaaSx22A
import Derived.Test.YthmkelkefmfmgaaSx22B
import Derived.Test.YthmkelkefmfmgaaSx22W
import Derived.Test.YthmkelkefmfmgaaSx22M
import Derived.Test.YthmkelkefmfmgaaSx22F
import Derived.Test.YthmkelkefmfmgaaSx22X
import Derived.Test.YthmkelkefmfmgaaSx22G
import Derived.Test.YthmkelkefmfmgaaSx22H
import Derived.Test.YthmkelkefmfmgaaSx22K
import Derived.Test.YthmkelkefmfmgaaSx22R
import Derived.Test.YthmkelkefmfmgaaSx22E
set_option maxRecDepth 20000
set_option maxHeartbeats 4000000
set_option linter.unusedVariables false
set_option linter.unusedSimpArgs false
namespace Go.Proofs.Ythmkelkefmfmgaa.Sx.FL
open Go Go.SX Go.Proofs
theorem fo30_3 : fo Try.prog 30 3 = some 12 := by kernel_rfl
theorem ty27 : ty Try.prog 27 = some (false, 1) := by kernel_rfl
theorem fo30_4 : fo Try.prog 30 4 = some 13 := by kernel_rfl
theorem ty28 : ty Try.prog 28 = some (false, 1) := by kernel_rfl
theorem fo30_0 : fo Try.prog 30 0 = some 0 := by kernel_rfl
theorem fo24_2 : fo Try.prog 24 2 = some 2 := by kernel_rfl
theorem ty9 : ty Try.prog 9 = some (false, 1) := by kernel_rfl
theorem ty52 : ty Try.prog 52 = some (true, 7) := by kernel_rfl
theorem fo52_1 : fo Try.prog 52 1 = some 1 := by kernel_rfl
theorem ty50 : ty Try.prog 50 = some (false, 1) := by kernel_rfl
theorem ty58 : ty Try.prog 58 = some (true, 9) := by kernel_rfl
theorem fo58_5 : fo Try.prog 58 5 = some 6 := by kernel_rfl
theorem ty56 : ty Try.prog 56 = some (false, 1) := by kernel_rfl
theorem zf52 : (Try.prog.info? 52).bind (fun i => i.zero.map Value.cells) = some (List.toArray [.int .i64 0, .slice none 0 0, .int .i64 0, .int .i64 0, .int .i64 0, .int .i64 0, .int .i64 0]) := by kernel_rfl
theorem zf58 : (Try.prog.info? 58).bind (fun i => i.zero.map Value.cells) = some (List.toArray [.int .i64 0, .int .i64 0, .int .i64 0, .int .i64 0, .int .i64 0, .int .i64 0, .slice none 0 0, .int .i64 0, .int .i64 0]) := by kernel_rfl
theorem fo58_0 : fo Try.prog 58 0 = some 0 := by kernel_rfl
theorem fo55_0 : fo Try.prog 55 0 = some 0 := by kernel_rfl
theorem ty53 : ty Try.prog 53 = some (false, 1) := by kernel_rfl
theorem ty62 : ty Try.prog 62 = some (true, 2) := by kernel_rfl
theorem mo : Try.prog.follows .mixedOrders = true := by kernel_rfl
theorem ty3 : ty Try.prog 3 = some (false, 1) := by kernel_rfl
theorem eqIn62 (d : Nat) (x0 y0 : Bool) (x1 y1 : Int) (w : World) : (Op.equalIn (d + 3) 62 (.agg #[(.bool x0), (.int .i64 x1)]) (.agg #[(.bool y0), (.int .i64 y1)])).run Try.prog w = .ok ((x0 == y0) && (x1 == y1)) w := by
  rw [run_equalIn_struct w (d + 2) 62 _ _ (by kernel_rfl) (by kernel_rfl)]
  have hf : (Try.prog.fieldsOf 62).toList = [{ name := "Ship", type := 4, offset := 0, embedded := false, tag := "", pkgPath := "", byteOffset := 0 }, { name := "Item", type := 3, offset := 1, embedded := false, tag := "", pkgPath := "", byteOffset := 8 }] := by kernel_rfl
  rw [hf]
  have h4 : ∀ (x y : Bool) (w : World), (Op.equalIn (d + 2) 4 (.bool x) (.bool y)).run Try.prog w = .ok (x == y) w := fun x y w => by
    simp [Op.equalIn, run_underlying Try.underlying4]
  have h3 : ∀ (x y : Int) (w : World), (Op.equalIn (d + 2) 3 (.int .i64 x) (.int .i64 y)).run Try.prog w = .ok (x == y) w := fun x y w => by
    simp [Op.equalIn, run_underlying Try.underlying3]
  have p0 : ∀ (x0 : Bool) (x1 : Int) (w : World), (part 4 #[(.bool x0), (.int .i64 x1)] 0).run Try.prog w = .ok (.bool x0) w := fun _ _ _ => by kernel_rfl
  have p1 : ∀ (x0 : Bool) (x1 : Int) (w : World), (part 3 #[(.bool x0), (.int .i64 x1)] 1).run Try.prog w = .ok (.int .i64 x1) w := fun _ _ _ => by kernel_rfl
  simp only [Op.eqFields, Sem.run_bind, h4, h3, p0, p1, Result.andThen_ok, Sem.run_ite, ne_eq]
  cases g0 : (x0 == y0) <;> cases g1 : (x1 == y1) <;> simp [g0, g1]
theorem ev62_eql (x y : Operand) (x0 y0 : Bool) (x1 y1 : Int) (w : World) : (do eqGuard .eql 62 x y (.agg #[(.bool x0), (.int .i64 x1)]) (.agg #[(.bool y0), (.int .i64 y1)]); binOp .eql 62 (.agg #[(.bool x0), (.int .i64 x1)]) (.agg #[(.bool y0), (.int .i64 y1)]) : Sem Value).run Try.prog w = .ok (.bool (((x0 == y0) && (x1 == y1)))) w := by
  have h1 : (Op.equal 62 (.agg #[(.bool x0), (.int .i64 x1)]) (.agg #[(.bool y0), (.int .i64 y1)])).run Try.prog w = .ok ((x0 == y0) && (x1 == y1)) w := eqIn62 9997 x0 y0 x1 y1 w
  have h2 : (eqGuard .eql 62 x y (.agg #[(.bool x0), (.int .i64 x1)]) (.agg #[(.bool y0), (.int .i64 y1)])).run Try.prog w = .ok () w := by kernel_rfl
  simp only [Sem.run_bind, h2, Result.andThen_ok, binOp, h1]
  rfl
theorem ev62_neq (x y : Operand) (x0 y0 : Bool) (x1 y1 : Int) (w : World) : (do eqGuard .neq 62 x y (.agg #[(.bool x0), (.int .i64 x1)]) (.agg #[(.bool y0), (.int .i64 y1)]); binOp .neq 62 (.agg #[(.bool x0), (.int .i64 x1)]) (.agg #[(.bool y0), (.int .i64 y1)]) : Sem Value).run Try.prog w = .ok (.bool (!((x0 == y0) && (x1 == y1)))) w := by
  have h1 : (Op.equal 62 (.agg #[(.bool x0), (.int .i64 x1)]) (.agg #[(.bool y0), (.int .i64 y1)])).run Try.prog w = .ok ((x0 == y0) && (x1 == y1)) w := eqIn62 9997 x0 y0 x1 y1 w
  have h2 : (eqGuard .neq 62 x y (.agg #[(.bool x0), (.int .i64 x1)]) (.agg #[(.bool y0), (.int .i64 y1)])).run Try.prog w = .ok () w := by kernel_rfl
  simp only [Sem.run_bind, h2, Result.andThen_ok, binOp, h1]
  rfl


end Go.Proofs.Ythmkelkefmfmgaa.Sx.FL
namespace Go.Proofs.Ythmkelkefmfmgaa.Sx
open Go Go.SX Go.Proofs FL





theorem long_ (cd : Int) (at_ : Int) (path : ByteArray) (op : Bool) (x0 : Int) (x1 : Int) (x2 : Int) (x3 : Int) (x4 : Int) (x5 : Int) (x6 : Int) (x7 : Int) (pA : Option Addr) (pc : Nat) (ps : List PV) (kA : Option Addr) (kc : Nat) (lf : List TK) (S : Nat → Prop) (wf : World) (hP : Fr ePL S wf pA ps) (hN : NP S wf ps) :
    TR0 Try.prog 9 [.agg #[.int .i64 cd, .int .i64 at_, .string path, .bool op, .int .i64 x0, .int .i64 x1, .int .i64 x2, .int .i64 x3, .int .i64 x4, .int .i64 x5, .int .i64 x6, .int .i64 x7, .slice pA ps.length pc, .slice kA lf.length kc]] [] S wf (fun v_ C_ => ∃ (r : Bool), (r = false → ps.length ≤ 8 ∧ lf.length ≤ 50 ∧ path.size ≤ 2000 ∧ ∀ p ∈ ps, p.steps.length ≤ 60 ∧ ∀ s ∈ p.steps, s.load.length ≤ 10) ∧ v_ = .bool r ∧ C_ = []) := by
  have hla := hP.len
  refine TR.mk Try.func9 rfl Try.ntmps9 rfl rfl (fun w_ => ?_)
  refine .seq (.region (.cons (st_boxa rfl rfl rfl rfl rfl (fun b1 => .cons (Ev.step (ev_as rfl rfl) rfl rfl rfl (.go (fun _ _ h => h) (.seq ?_)))))))
  refine .seq (.region (.cons (Ev.step (ev_fa rfl fo30_3 rfl (r := 12) rfl) rfl rfl rfl (.cons (Ev.step (ev_ld1 rfl ty27 rfl (At.own1 0 rfl rfl)) rfl rfl rfl (.cons (Ev.step (ev_len rfl Try.underlying27 rfl) rfl rfl rfl (.cons (Ev.step (ev_cmp rfl rfl rfl rfl) rfl rfl rfl ?_)))))))))
  refine .cons (Ev.step (ev_mv rfl rfl) rfl rfl rfl (.cons (Ev.gstep (fun _ => ev_fa rfl fo30_4 rfl (r := 13) rfl) rfl rfl rfl rfl rfl (.cons (Ev.gstep (fun hb => ev_ld1 rfl ty28 (lkg rfl hb) (At.own1 0 rfl rfl)) rfl rfl rfl rfl rfl (.cons (Ev.gstep (fun hb => ev_len rfl Try.underlying28 (lkg rfl hb)) rfl rfl rfl rfl rfl (.cons (Ev.gstep (fun hb => ev_cmp rfl (lkg rfl hb) rfl rfl) rfl rfl rfl rfl rfl (.cons (Ev.step (ev_or rfl rfl rfl rfl) rfl rfl rfl ?_)))))))))))
  refine .cons (Ev.step (ev_mv rfl rfl) rfl rfl rfl (.cons (Ev.gstep (fun _ => ev_fa rfl fo30_0 rfl (r := 0) rfl) rfl rfl rfl rfl rfl (.cons (Ev.gstep (fun hb => ev_fa rfl fo24_2 (lkg rfl hb) (r := 2) rfl) rfl rfl rfl rfl rfl (.cons (Ev.gstep (fun hb => ev_ld1 rfl ty9 (lkg rfl hb) (At.own1 0 rfl rfl)) rfl rfl rfl rfl rfl (.cons (Ev.gstep (fun hb => ev_lens rfl Try.underlying9 (lkg rfl hb)) rfl rfl rfl rfl rfl (.cons (Ev.gstep (fun hb => ev_cmp rfl (lkg rfl hb) rfl rfl) rfl rfl rfl rfl rfl ?_)))))))))))
  refine .cons (Ev.step (ev_or rfl rfl rfl rfl) rfl rfl rfl (.go (fun _ _ h => h) (.condI rfl (bO (bO bD bD) bD) (fun h2 => ?_) (fun h2 => ?_))))
  ·
    exact .seq (.region (.cons (Ev.step (ev_as rfl rfl) rfl rfl rfl (.go (fun _ _ h => h) (.ret (fun _ _ h => h) (ret1 Try.results9 rfl .n ⟨true, (fun h_ => by cases h_), rfl, rfl⟩))))))
  ·
    refine .skipgo (fun _ _ h => h) (.seq (.seq (.region (.cons (Ev.step (ev_fa rfl fo30_3 rfl (r := 12) rfl) rfl rfl rfl (.cons (Ev.step (ev_ld1 rfl ty27 rfl (At.own1 0 rfl rfl)) rfl rfl rfl ?_)))))))
    refine .cons (Ev.step (ev_len rfl Try.underlying27 rfl) rfl rfl rfl (.cons (Ev.step (ev_mv rfl rfl) rfl rfl rfl (.go (fun _ _ h => h) (.block ?_)))))
    refine .loop (X := Int) (fun i => 0 ≤ i ∧ i ≤ ps.length ∧ ∀ p ∈ ps.take i.toNat, p.steps.length ≤ 60 ∧ ∀ s ∈ p.steps, s.load.length ≤ 10) (fun i => [(1, .pointer (some ⟨b1, 0, none⟩)), (24, .int .i64 (ps.length : Int)), (25, .int .i64 i)]) (fun i => [cel b1 [.int .i64 cd, .int .i64 at_, .string path, .bool op, .int .i64 x0, .int .i64 x1, .int .i64 x2, .int .i64 x3, .int .i64 x4, .int .i64 x5, .int .i64 x6, .int .i64 x7, .slice pA ps.length pc, .slice kA lf.length kc] 30]) (fun _ => S) (fun _ => wf) (fun i => (ps.length - i.toNat)) (fun a_ w_ hs_ hw_ => ⟨0, (by exact ⟨by omega, by omega, by simp⟩), hs_.mono (Sub.get (.c rfl (.c rfl (.c rfl .n)))), hw_.keep (.c .h .n)⟩) (fun i ⟨q_0, q_1, q_2⟩ => ?_)
    show SC _ _ _ _ _ ⟨[(1, .pointer (some ⟨b1, 0, none⟩)), (24, .int .i64 (ps.length : Int)), (25, .int .i64 i)], [cel b1 [.int .i64 cd, .int .i64 at_, .string path, .bool op, .int .i64 x0, .int .i64 x1, .int .i64 x2, .int .i64 x3, .int .i64 x4, .int .i64 x5, .int .i64 x6, .int .i64 x7, .slice pA ps.length pc, .slice kA lf.length kc] 30], S, wf⟩
    refine .seq (.region (.cons (Ev.step (ev_cmp rfl rfl rfl rfl) rfl rfl rfl (.go (fun _ _ h => h) (.seq (.condI rfl bD (fun h3 => ?_) (fun h3 => ?_)))))))
    ·
      refine .skipgo (fun _ _ h => h) (.seq (.block (.seq (.region (.cons (Ev.step (ev_mv rfl rfl) rfl rfl rfl ?_))))))
      refine .cons (Ev.step (ev_as rfl rfl) rfl rfl rfl (.go (fun _ _ h => h) (.seq (.seq (.region (.cons (Ev.step (ev_fa rfl fo30_3 rfl (r := 12) rfl) rfl rfl rfl ?_)))))))
      refine .cons (Ev.step (ev_ld1 rfl ty27 rfl (At.own1 0 rfl rfl)) rfl rfl rfl (.cons (Ev.step (ev_mv rfl rfl) rfl rfl rfl (.cons (Ev.step (ev_ix rfl Try.underlying27 ty52 rfl rfl (by omega) (by omega) (fun _ _ => Fr.adr (i := i) hP (by omega) (by omega))) rfl rfl rfl (.cons (Ev.step (ev_fa rfl fo52_1 rfl (r := ao pA + (i).toNat * 7 + 1) rfl) rfl rfl rfl (.cons (Ev.step (ev_ld1 rfl ty50 rfl (At.elem1 (At.w (Fr.el (i := i) hP (by omega) (by omega))) 1 rfl)) rfl rfl rfl (.cons (Ev.step (ev_len rfl Try.underlying50 rfl) rfl rfl rfl ?_)))))))))))
      refine .cons (Ev.step (ev_cmp rfl rfl rfl rfl) rfl rfl rfl (.go (fun _ _ h => h) (.condI rfl bD (fun h4 => ?_) (fun h4 => ?_))))
      ·
        exact .seq (.region (.cons (Ev.step (ev_as rfl rfl) rfl rfl rfl (.go (fun _ _ h => h) (.ret (fun _ _ h => h) (ret1 Try.results9 rfl .n ⟨true, (fun h_ => by cases h_), rfl, rfl⟩))))))
      ·
        refine .skipgo (fun _ _ h => h) (.seq (.region (.cons (Ev.step (ev_fa rfl fo30_3 rfl (r := 12) rfl) rfl rfl rfl (.cons (Ev.step (ev_ld1 rfl ty27 rfl (At.own1 0 rfl rfl)) rfl rfl rfl (.cons (Ev.step (ev_mv rfl rfl) rfl rfl rfl ?_))))))))
        refine .cons (Ev.step (ev_ix rfl Try.underlying27 ty52 rfl rfl (by omega) (by omega) (fun _ _ => Fr.adr (i := i) hP (by omega) (by omega))) rfl rfl rfl (.cons (Ev.step (ev_fa rfl fo52_1 rfl (r := ao pA + (i).toNat * 7 + 1) rfl) rfl rfl rfl (.cons (Ev.step (ev_ld1 rfl ty50 rfl (At.elem1 (At.w (Fr.el (i := i) hP (by omega) (by omega))) 1 rfl)) rfl rfl rfl (.cons (Ev.step (ev_len rfl Try.underlying50 rfl) rfl rfl rfl (.cons (Ev.step (ev_mv rfl rfl) rfl rfl rfl (.go (fun _ _ h => h) ?_))))))))))
        refine .block ?_
        refine .loop (X := Int) (fun j => 0 ≤ j ∧ j ≤ (gt ps i).steps.length ∧ ∀ s ∈ (gt ps i).steps.take j.toNat, s.load.length ≤ 10) (fun j => [(1, .pointer (some ⟨b1, 0, none⟩)), (3, .int .i64 i), (24, .int .i64 (ps.length : Int)), (25, .int .i64 i), (42, .int .i64 (((gt ps i).steps.length : Nat) : Int)), (43, .int .i64 j)]) (fun j => [cel b1 [.int .i64 cd, .int .i64 at_, .string path, .bool op, .int .i64 x0, .int .i64 x1, .int .i64 x2, .int .i64 x3, .int .i64 x4, .int .i64 x5, .int .i64 x6, .int .i64 x7, .slice pA ps.length pc, .slice kA lf.length kc] 30]) (fun _ => S) (fun _ => wf) (fun j => ((gt ps i).steps.length - j.toNat)) (fun a_ w_ hs_ hw_ => ⟨0, (by exact ⟨by omega, by omega, by simp⟩), hs_.mono (Sub.get (.c rfl (.c rfl (.c rfl (.c rfl (.c rfl (.c rfl .n))))))), hw_.keep (.c .h .n)⟩) (fun j ⟨r_0, r_1, r_2⟩ => ?_)
        show SC _ _ _ _ _ ⟨[(1, .pointer (some ⟨b1, 0, none⟩)), (3, .int .i64 i), (24, .int .i64 (ps.length : Int)), (25, .int .i64 i), (42, .int .i64 (((gt ps i).steps.length : Nat) : Int)), (43, .int .i64 j)], [cel b1 [.int .i64 cd, .int .i64 at_, .string path, .bool op, .int .i64 x0, .int .i64 x1, .int .i64 x2, .int .i64 x3, .int .i64 x4, .int .i64 x5, .int .i64 x6, .int .i64 x7, .slice pA ps.length pc, .slice kA lf.length kc] 30], S, wf⟩
        refine .seq (.region (.cons (Ev.step (ev_cmp rfl rfl rfl rfl) rfl rfl rfl (.go (fun _ _ h => h) (.seq (.condI rfl bD (fun h5 => ?_) (fun h5 => ?_)))))))
        ·
          refine .skipgo (fun _ _ h => h) (.seq (.block (.seq (.region (.cons (Ev.step (ev_mv rfl rfl) rfl rfl rfl ?_))))))
          refine .cons (Ev.step (ev_as rfl rfl) rfl rfl rfl (.go (fun _ _ h => h) (.seq (.region (.cons (Ev.step (ev_fa rfl fo30_3 rfl (r := 12) rfl) rfl rfl rfl (.cons (Ev.step (ev_ld1 rfl ty27 rfl (At.own1 0 rfl rfl)) rfl rfl rfl ?_))))))))
          refine .cons (Ev.step (ev_mv rfl rfl) rfl rfl rfl (.cons (Ev.step (ev_ix rfl Try.underlying27 ty52 rfl rfl (by omega) (by omega) (fun _ _ => Fr.adr (i := i) hP (by omega) (by omega))) rfl rfl rfl (.cons (Ev.step (ev_fa rfl fo52_1 rfl (r := ao pA + (i).toNat * 7 + 1) rfl) rfl rfl rfl (.cons (Ev.step (ev_ld1 rfl ty50 rfl (At.elem1 (At.w (Fr.el (i := i) hP (by omega) (by omega))) 1 rfl)) rfl rfl rfl (.cons (Ev.step (ev_mv rfl rfl) rfl rfl rfl (.cons (Ev.step (ev_ix rfl Try.underlying50 ty58 rfl rfl (by omega) (by omega) (fun _ _ => Fr.adr (i := j) (hN _ (gt_mem (i := i) (by omega) (by omega))).1 (by omega) (by omega))) rfl rfl rfl ?_)))))))))))
          refine .cons (Ev.step (ev_fa rfl fo58_5 rfl (r := ao ((gt ps i).sA) + (j).toNat * 9 + 6) rfl) rfl rfl rfl (.cons (Ev.step (ev_ld1 rfl ty56 rfl (At.elem1 (At.w (Fr.el (i := j) (hN _ (gt_mem (i := i) (by omega) (by omega))).1 (by omega) (by omega))) 6 rfl)) rfl rfl rfl (.cons (Ev.step (ev_len rfl Try.underlying56 rfl) rfl rfl rfl (.cons (Ev.step (ev_cmp rfl rfl rfl rfl) rfl rfl rfl (.go (fun _ _ h => h) (.condI rfl bD (fun h6 => ?_) (fun h6 => ?_))))))))))
          ·
            exact .seq (.region (.cons (Ev.step (ev_as rfl rfl) rfl rfl rfl (.go (fun _ _ h => h) (.ret (fun _ _ h => h) (ret1 Try.results9 rfl .n ⟨true, (fun h_ => by cases h_), rfl, rfl⟩))))))
          ·
            exact .skipgo (fun _ _ h => h) (.region (.cons (Ev.step (ev_add rfl rfl rfl (r := (j + 1)) rfl (by omega) (by omega)) rfl rfl rfl (.cons (Ev.step (ev_mv rfl rfl) rfl rfl rfl (SP.nil (SQ.roundb (X := Int) (x := (j)) (j + 1) (by exact ⟨by omega, by omega, all_next r_2 (by omega) (by omega) (by omega)⟩) (by show (_ : Nat) < _; omega) (Sub.get (.c rfl (.c rfl (.c rfl (.c rfl (.c rfl (.c rfl .n))))))) (fun w hw => hw.keep (.c .h .n)))))))))
        ·
          exact .exit (fun _ _ h => h) (.region (.cons (Ev.step (ev_add rfl rfl rfl (r := (i + 1)) rfl (by omega) (by omega)) rfl rfl rfl (.cons (Ev.step (ev_mv rfl rfl) rfl rfl rfl (SP.nil (SQ.roundb (X := Int) (x := (i)) (i + 1) (by exact ⟨by omega, by omega, all_next q_2 (by omega) (by omega) ⟨by omega, all_end r_2 (by omega)⟩⟩) (by show (_ : Nat) < _; omega) (Sub.get (.c rfl (.c rfl (.c rfl .n)))) (fun w hw => hw.keep (.c .h .n)))))))))
    ·
      exact .exit (fun _ _ h => h) (.seq (.region (.cons (Ev.step (ev_as rfl rfl) rfl rfl rfl (.go (fun _ _ h => h) (.ret (fun _ _ h => h) (ret1 Try.results9 rfl .n ⟨false, (fun _ => ⟨by simp_all <;> omega, by simp_all <;> omega, by simp_all <;> omega, all_end q_2 (by omega)⟩), rfl, rfl⟩)))))))

theorem kindsOk (cd : Int) (at_ : Int) (path : ByteArray) (op : Bool) (x0 : Int) (x1 : Int) (x2 : Int) (x3 : Int) (x4 : Int) (x5 : Int) (x6 : Int) (x7 : Int) (pA : Option Addr) (pc : Nat) (ps : List PV) (kA : Option Addr) (kc : Nat) (lf : List TK) (S : Nat → Prop) (wf : World) (hP : Fr ePL S wf pA ps) (hN : NP S wf ps) :
    TR0 Try.prog 16 [.agg #[.int .i64 cd, .int .i64 at_, .string path, .bool op, .int .i64 x0, .int .i64 x1, .int .i64 x2, .int .i64 x3, .int .i64 x4, .int .i64 x5, .int .i64 x6, .int .i64 x7, .slice pA ps.length pc, .slice kA lf.length kc]] [] S wf (fun v_ C_ => ∃ (r : Bool), (r = true → ∀ p ∈ ps, ∀ s ∈ p.steps, 1 ≤ s.kind ∧ s.kind ≤ 6) ∧ v_ = .bool r ∧ C_ = []) := by
  have hla := hP.len
  refine TR.mk Try.func16 rfl Try.ntmps16 rfl rfl (fun w_ => ?_)
  refine .seq (.region (.cons (st_boxa rfl rfl rfl rfl rfl (fun b1 => .cons (Ev.step (ev_as rfl rfl) rfl rfl rfl (.go (fun _ _ h => h) (.seq ?_)))))))
  refine .seq (.region (.cons (Ev.step (ev_fa rfl fo30_3 rfl (r := 12) rfl) rfl rfl rfl (.cons (Ev.step (ev_ld1 rfl ty27 rfl (At.own1 0 rfl rfl)) rfl rfl rfl (.cons (Ev.step (ev_len rfl Try.underlying27 rfl) rfl rfl rfl (.cons (Ev.step (ev_mv rfl rfl) rfl rfl rfl ?_)))))))))
  refine .go (fun _ _ h => h) (.block ?_)
  refine .loop (X := Int) (fun i => 0 ≤ i ∧ i ≤ ps.length ∧ ∀ p ∈ ps.take i.toNat, ∀ s ∈ p.steps, 1 ≤ s.kind ∧ s.kind ≤ 6) (fun i => [(8, .slice pA ps.length pc), (9, .int .i64 (ps.length : Int)), (10, .int .i64 i)]) (fun i => []) (fun _ => S) (fun _ => wf) (fun i => (ps.length - i.toNat)) (fun a_ w_ hs_ hw_ => ⟨0, (by exact ⟨by omega, by omega, by simp⟩), hs_.mono (Sub.get (.c rfl (.c rfl (.c rfl .n)))), hw_.keep .n⟩) (fun i ⟨q_0, q_1, q_2⟩ => ?_)
  show SC _ _ _ _ _ ⟨[(8, .slice pA ps.length pc), (9, .int .i64 (ps.length : Int)), (10, .int .i64 i)], [], S, wf⟩
  refine .seq (.region (.cons (Ev.step (ev_cmp rfl rfl rfl rfl) rfl rfl rfl (.go (fun _ _ h => h) (.seq (.condI rfl bD (fun h2 => ?_) (fun h2 => ?_)))))))
  ·
    refine .skipgo (fun _ _ h => h) (.seq (.block (.seq (.region (.cons (Ev.step (ev_ix rfl Try.underlying27 ty52 rfl rfl (by omega) (by omega) (fun _ _ => Fr.adr (i := i) hP (by omega) (by omega))) rfl rfl rfl ?_))))))
    refine .cons (Ev.step (ev_lda rfl rfl (At.w (Fr.el (i := i) hP (by omega) (by omega))) ty52) rfl rfl rfl (.cons (st_alloc rfl rfl rfl rfl zf52 (fun b3 => .cons (st_storea (l' := [.int .i64 ((gt ps i).veh), .slice ((gt ps i).sA) ((gt ps i).steps.length) ((gt ps i).sc), .int .i64 ((gt ps i).time), .int .i64 ((gt ps i).dist), .int .i64 ((gt ps i).wait), .int .i64 ((gt ps i).serv), .int .i64 ((gt ps i).cost)]) rfl rfl rfl ty52 rfl rfl rfl .h rfl rfl (.go (fun _ _ h => h) (.seq ?_)))))))
    have hsl := (hN _ (gt_mem (i := i) (by omega) (by omega))).1.len
    refine .region (.cons (Ev.step (ev_fa rfl fo52_1 rfl (r := 1) rfl) rfl rfl rfl (.cons (Ev.step (ev_ld1 rfl ty50 rfl (At.own1 0 rfl rfl)) rfl rfl rfl (.cons (Ev.step (ev_len rfl Try.underlying50 rfl) rfl rfl rfl (.cons (Ev.step (ev_mv rfl rfl) rfl rfl rfl (.go (fun _ _ h => h) ?_)))))))))
    refine .block ?_
    refine .loop (X := Int) (fun j => 0 ≤ j ∧ j ≤ (gt ps i).steps.length ∧ ∀ s ∈ (gt ps i).steps.take j.toNat, 1 ≤ s.kind ∧ s.kind ≤ 6) (fun j => [(8, .slice pA ps.length pc), (9, .int .i64 (ps.length : Int)), (10, .int .i64 i), (15, .slice ((gt ps i).sA) ((gt ps i).steps.length) ((gt ps i).sc)), (16, .int .i64 (((gt ps i).steps.length : Nat) : Int)), (17, .int .i64 j)]) (fun j => []) (fun _ => S) (fun _ => wf) (fun j => ((gt ps i).steps.length - j.toNat)) (fun a_ w_ hs_ hw_ => ⟨0, (by exact ⟨by omega, by omega, by simp⟩), hs_.mono (Sub.get (.c rfl (.c rfl (.c rfl (.c rfl (.c rfl (.c rfl .n))))))), hw_.keep .n⟩) (fun j ⟨r_0, r_1, r_2⟩ => ?_)
    show SC _ _ _ _ _ ⟨[(8, .slice pA ps.length pc), (9, .int .i64 (ps.length : Int)), (10, .int .i64 i), (15, .slice ((gt ps i).sA) ((gt ps i).steps.length) ((gt ps i).sc)), (16, .int .i64 (((gt ps i).steps.length : Nat) : Int)), (17, .int .i64 j)], [], S, wf⟩
    refine .seq (.region (.cons (Ev.step (ev_cmp rfl rfl rfl rfl) rfl rfl rfl (.go (fun _ _ h => h) (.seq (.condI rfl bD (fun h4 => ?_) (fun h4 => ?_)))))))
    ·
      refine .skipgo (fun _ _ h => h) (.seq (.block (.seq (.region (.cons (Ev.step (ev_ix rfl Try.underlying50 ty58 rfl rfl (by omega) (by omega) (fun _ _ => Fr.adr (i := j) (hN _ (gt_mem (i := i) (by omega) (by omega))).1 (by omega) (by omega))) rfl rfl rfl ?_))))))
      refine .cons (Ev.step (ev_lda rfl rfl (At.w (Fr.el (i := j) (hN _ (gt_mem (i := i) (by omega) (by omega))).1 (by omega) (by omega))) ty58) rfl rfl rfl (.cons (st_alloc rfl rfl rfl rfl zf58 (fun b5 => .cons (st_storea (l' := [.int .i64 ((gt ((gt ps i).steps) j).kind), .int .i64 ((gt ((gt ps i).steps) j).item), .int .i64 ((gt ((gt ps i).steps) j).place), .int .i64 ((gt ((gt ps i).steps) j).arr), .int .i64 ((gt ((gt ps i).steps) j).wait), .int .i64 ((gt ((gt ps i).steps) j).serv), .slice ((gt ((gt ps i).steps) j).lA) ((gt ((gt ps i).steps) j).load.length) ((gt ((gt ps i).steps) j).lc), .int .i64 ((gt ((gt ps i).steps) j).time), .int .i64 ((gt ((gt ps i).steps) j).dist)]) rfl rfl rfl ty58 rfl rfl rfl .h rfl rfl (.go (fun _ _ h => h) (.seq (.region ?_))))))))
      refine .cons (Ev.step (ev_fa rfl fo58_0 rfl (r := 0) rfl) rfl rfl rfl (.cons (Ev.step (ev_fa rfl fo55_0 rfl (r := 0) rfl) rfl rfl rfl (.cons (Ev.step (ev_ld1 rfl ty53 rfl (At.own1 0 rfl rfl)) rfl rfl rfl (.cons (Ev.step (ev_cmp rfl rfl rfl rfl) rfl rfl rfl (.cons (Ev.step (ev_mv rfl rfl) rfl rfl rfl (.cons (Ev.gstep (fun _ => ev_fa rfl fo58_0 rfl (r := 0) rfl) rfl rfl rfl rfl rfl ?_)))))))))))
      refine .cons (Ev.gstep (fun hb => ev_fa rfl fo55_0 (lkg rfl hb) (r := 0) rfl) rfl rfl rfl rfl rfl (.cons (Ev.gstep (fun hb => ev_ld1 rfl ty53 (lkg rfl hb) (At.own1 0 rfl rfl)) rfl rfl rfl rfl rfl (.cons (Ev.gstep (fun hb => ev_cmp rfl (lkg rfl hb) rfl rfl) rfl rfl rfl rfl rfl (.cons (Ev.step (ev_or rfl rfl rfl rfl) rfl rfl rfl (.go (fun _ _ h => h) (.condI rfl (bO bD bD) (fun h6 => ?_) (fun h6 => ?_))))))))))
      ·
        exact .seq (.region (.cons (Ev.step (ev_as rfl rfl) rfl rfl rfl (.go (fun _ _ h => h) (.ret (fun _ _ h => h) (ret1 Try.results16 rfl .n ⟨false, (fun h_ => by cases h_), rfl, rfl⟩))))))
      ·
        exact .skipgo (fun _ _ h => h) (.region (.cons (Ev.step (ev_add rfl rfl rfl (r := (j + 1)) rfl (by omega) (by omega)) rfl rfl rfl (.cons (Ev.step (ev_mv rfl rfl) rfl rfl rfl (SP.nil (SQ.roundb (X := Int) (x := (j)) (j + 1) (by exact ⟨by omega, by omega, all_next r_2 (by omega) (by omega) (by simp_all <;> omega)⟩) (by show (_ : Nat) < _; omega) (Sub.get (.c rfl (.c rfl (.c rfl (.c rfl (.c rfl (.c rfl .n))))))) (fun w hw => hw.keep .n))))))))
    ·
      exact .exit (fun _ _ h => h) (.region (.cons (Ev.step (ev_add rfl rfl rfl (r := (i + 1)) rfl (by omega) (by omega)) rfl rfl rfl (.cons (Ev.step (ev_mv rfl rfl) rfl rfl rfl (SP.nil (SQ.roundb (X := Int) (x := (i)) (i + 1) (by exact ⟨by omega, by omega, all_next q_2 (by omega) (by omega) (all_end r_2 (by omega))⟩) (by show (_ : Nat) < _; omega) (Sub.get (.c rfl (.c rfl (.c rfl .n)))) (fun w hw => hw.keep .n))))))))
  ·
    exact .exit (fun _ _ h => h) (.seq (.region (.cons (Ev.step (ev_as rfl rfl) rfl rfl rfl (.go (fun _ _ h => h) (.ret (fun _ _ h => h) (ret1 Try.results16 rfl .n ⟨true, (fun _ => all_end q_2 (by omega)), rfl, rfl⟩)))))))

theorem sameT (A : Option Addr) (n : Nat) (c : Nat) (a : List TK) (B : Option Addr) (n2 : Nat) (c2 : Nat) (b : List TK) (S : Nat → Prop) (wf : World) (hA : Fr eTK S wf A a) (hB : Fr eTK S wf B b) (hn : a.length = n) (hn2 : b.length = n2) (hab : a = b) :
    TR0 Try.prog 44 [.slice A n c, .slice B n2 c2] [] S wf (fun v_ C_ => v_ = .bool true ∧ C_ = []) := by
  have hla := hA.len
  have hlb := hB.len
  have hll := congrArg List.length hab
  refine TR.mk Try.func44 rfl Try.ntmps44 rfl rfl (fun w_ => ?_)
  refine .seq (.region (.cons (Ev.step (ev_as rfl rfl) rfl rfl rfl (.go (fun _ _ h => h) (.seq (.seq ?_))))))
  refine .region (.cons (Ev.step (ev_mv rfl rfl) rfl rfl rfl (.cons (Ev.step (ev_len rfl Try.underlying28 rfl) rfl rfl rfl (.cons (Ev.step (ev_mv rfl rfl) rfl rfl rfl (.cons (Ev.step (ev_len rfl Try.underlying28 rfl) rfl rfl rfl (.cons (Ev.step (ev_cmp rfl rfl rfl rfl) rfl rfl rfl ?_))))))))))
  refine .go (fun _ _ h => h) (.condI rfl bNE (fun h1 => ?_) (fun h1 => ?_))
  ·
    exact .seq (.region (.cons (Ev.step (ev_as rfl rfl) rfl rfl rfl (.go (fun _ _ h => h) (.ret (fun _ _ h => h) (ret1 Try.results44 rfl .n ⟨(by exfalso; first | omega | (subst hab; simp_all; done)), rfl⟩))))))
  ·
    refine .skipgo (fun _ _ h => h) (.seq (.seq (.region (.cons (Ev.step (ev_as rfl rfl) rfl rfl rfl (.go (fun _ _ h => h) ?_))))))
    refine .block ?_
    refine .loop (X := Int) (fun i => 0 ≤ i ∧ i ≤ a.length) (fun i => [(0, .slice A n c), (1, .slice B n2 c2), (5, .int .i64 i)]) (fun i => []) (fun _ => S) (fun _ => wf) (fun i => (a.length - i.toNat)) (fun a_ w_ hs_ hw_ => ⟨0, (by exact ⟨by omega, by omega⟩), hs_.mono (Sub.get (.c rfl (.c rfl (.c rfl .n)))), hw_.keep .n⟩) (fun i ⟨q_0, q_1⟩ => ?_)
    show SC _ _ _ _ _ ⟨[(0, .slice A n c), (1, .slice B n2 c2), (5, .int .i64 i)], [], S, wf⟩
    refine .seq (.seq (.region (.cons (Ev.step (ev_mv rfl rfl) rfl rfl rfl (.cons (Ev.step (ev_mv rfl rfl) rfl rfl rfl (.cons (Ev.step (ev_len rfl Try.underlying28 rfl) rfl rfl rfl ?_))))))))
    refine .cons (Ev.step (ev_cmp rfl rfl rfl rfl) rfl rfl rfl (.go (fun _ _ h => h) (.condI rfl bD (fun h2 => ?_) (fun h2 => ?_))))
    ·
      refine .skipgo (fun _ _ h => h) (.seq (.block (.seq ?_)))
      refine SC.draw mo [] [] .n (fun _ _ _ c hc => by cases hc) (fun wf_3 hl_3 hx_3 hR_3 => ?_)
      refine SR.take 0 rfl (by kernel_rfl) (by kernel_rfl) (by kernel_rfl) rfl (fun _ _ _ h => h) rfl rfl rfl (ev_mv rfl rfl) (SR.take 1 rfl (by kernel_rfl) (by kernel_rfl) (by kernel_rfl) rfl (fun _ _ _ h => h) rfl rfl rfl (ev_mv rfl rfl) (SR.take 2 rfl (by kernel_rfl) (by kernel_rfl) (by kernel_rfl) rfl (fun _ _ _ h => h) rfl rfl rfl (ev_ix rfl Try.underlying28 ty62 rfl rfl (by omega) (by omega) (fun _ _ => Fr.adr (i := i) (Fr.ext hA hx_3) (by omega) (by omega))) (SR.take 3 rfl (by kernel_rfl) (by kernel_rfl) (by kernel_rfl) rfl (fun _ _ _ h => h) rfl rfl rfl (ev_lda rfl rfl (At.d (Fr.el (i := i) (Fr.ext hA hx_3) (by omega) (by omega))) ty62) (SR.take 4 rfl (by kernel_rfl) (by kernel_rfl) (by kernel_rfl) rfl (fun _ _ _ h => h) rfl rfl rfl (ev_mv rfl rfl) (SR.take 5 rfl (by kernel_rfl) (by kernel_rfl) (by kernel_rfl) rfl (fun _ _ _ h => h) rfl rfl rfl (ev_mv rfl rfl) ?_)))))
      refine SR.take 6 rfl (by kernel_rfl) (by kernel_rfl) (by kernel_rfl) rfl (fun _ _ _ h => h) rfl rfl rfl (ev_ix rfl Try.underlying28 ty62 rfl rfl (by omega) (by omega) (fun _ _ => Fr.adr (i := i) (Fr.ext hB hx_3) (by omega) (by omega))) (SR.take 7 rfl (by kernel_rfl) (by kernel_rfl) (by kernel_rfl) rfl (fun _ _ _ h => h) rfl rfl rfl (ev_lda rfl rfl (At.d (Fr.el (i := i) (Fr.ext hB hx_3) (by omega) (by omega))) ty62) (SR.take 8 rfl (by kernel_rfl) (by kernel_rfl) (by kernel_rfl) rfl (fun _ _ _ h => h) rfl rfl rfl (ev_bin rfl rfl rfl (r := .bool (!((((gt a i).ship) == ((gt b i).ship)) && (((gt a i).item) == ((gt b i).item))))) (ev62_neq _ _ _ _ _ _)) (SR.fin (by kernel_rfl) hl_3 hx_3 hR_3 .n (SQ.go (fun _ _ h => h) (.condI rfl (bN (bA bV bE)) (fun h4 => ?_) (fun h4 => ?_))))))
      ·
        exact .seq (.region (.cons (Ev.step (ev_as rfl rfl) rfl rfl rfl (.go (fun _ _ h => h) (.ret (fun _ _ h => h) (ret1 Try.results44 rfl .n ⟨(by exfalso; first | omega | (subst hab; simp_all; done)), rfl⟩))))))
      ·
        exact .skipgo (fun _ _ h => h) (.region (.cons (Ev.step (ev_mv rfl rfl) rfl rfl rfl (.cons (Ev.step (ev_add rfl rfl rfl (r := (i + 1)) rfl (by omega) (by omega)) rfl rfl rfl (.cons (Ev.step (ev_as rfl rfl) rfl rfl rfl (SP.nil (SQ.roundb (X := Int) (x := (i)) (i + 1) (by exact ⟨by omega, by omega⟩) (by show (_ : Nat) < _; omega) (Sub.get (.c rfl (.c rfl (.c rfl .n)))) (fun w hw => hw.keep .n))))))))))
    ·
      exact .exit (fun _ _ h => h) (.seq (.region (.cons (Ev.step (ev_as rfl rfl) rfl rfl rfl (.go (fun _ _ h => h) (.ret (fun _ _ h => h) (ret1 Try.results44 rfl .n ⟨rfl, rfl⟩)))))))

theorem sameI (A : Option Addr) (n : Nat) (c : Nat) (a : List Int) (B : Option Addr) (n2 : Nat) (c2 : Nat) (b : List Int) (S : Nat → Prop) (wf : World) (hA : Fr eZ S wf A a) (hB : Fr eZ S wf B b) (hn : a.length = n) (hn2 : b.length = n2) (hab : a = b) :
    TR0 Try.prog 65 [.slice A n c, .slice B n2 c2] [] S wf (fun v_ C_ => v_ = .bool true ∧ C_ = []) := by
  have hla := hA.len
  have hlb := hB.len
  have hll := congrArg List.length hab
  refine TR.mk Try.func65 rfl Try.ntmps65 rfl rfl (fun w_ => ?_)
  refine .seq (.region (.cons (Ev.step (ev_as rfl rfl) rfl rfl rfl (.go (fun _ _ h => h) (.seq (.seq ?_))))))
  refine .region (.cons (Ev.step (ev_mv rfl rfl) rfl rfl rfl (.cons (Ev.step (ev_len rfl Try.underlying56 rfl) rfl rfl rfl (.cons (Ev.step (ev_mv rfl rfl) rfl rfl rfl (.cons (Ev.step (ev_len rfl Try.underlying56 rfl) rfl rfl rfl (.cons (Ev.step (ev_cmp rfl rfl rfl rfl) rfl rfl rfl ?_))))))))))
  refine .go (fun _ _ h => h) (.condI rfl bNE (fun h1 => ?_) (fun h1 => ?_))
  ·
    exact .seq (.region (.cons (Ev.step (ev_as rfl rfl) rfl rfl rfl (.go (fun _ _ h => h) (.ret (fun _ _ h => h) (ret1 Try.results65 rfl .n ⟨(by exfalso; first | omega | (subst hab; simp_all; done)), rfl⟩))))))
  ·
    refine .skipgo (fun _ _ h => h) (.seq (.seq (.region (.cons (Ev.step (ev_as rfl rfl) rfl rfl rfl (.go (fun _ _ h => h) ?_))))))
    refine .block ?_
    refine .loop (X := Int) (fun i => 0 ≤ i ∧ i ≤ a.length) (fun i => [(0, .slice A n c), (1, .slice B n2 c2), (5, .int .i64 i)]) (fun i => []) (fun _ => S) (fun _ => wf) (fun i => (a.length - i.toNat)) (fun a_ w_ hs_ hw_ => ⟨0, (by exact ⟨by omega, by omega⟩), hs_.mono (Sub.get (.c rfl (.c rfl (.c rfl .n)))), hw_.keep .n⟩) (fun i ⟨q_0, q_1⟩ => ?_)
    show SC _ _ _ _ _ ⟨[(0, .slice A n c), (1, .slice B n2 c2), (5, .int .i64 i)], [], S, wf⟩
    refine .seq (.seq (.region (.cons (Ev.step (ev_mv rfl rfl) rfl rfl rfl (.cons (Ev.step (ev_mv rfl rfl) rfl rfl rfl (.cons (Ev.step (ev_len rfl Try.underlying56 rfl) rfl rfl rfl ?_))))))))
    refine .cons (Ev.step (ev_cmp rfl rfl rfl rfl) rfl rfl rfl (.go (fun _ _ h => h) (.condI rfl bD (fun h2 => ?_) (fun h2 => ?_))))
    ·
      refine .skipgo (fun _ _ h => h) (.seq (.block (.seq ?_)))
      refine SC.draw mo [] [] .n (fun _ _ _ c hc => by cases hc) (fun wf_3 hl_3 hx_3 hR_3 => ?_)
      refine SR.take 0 rfl (by kernel_rfl) (by kernel_rfl) (by kernel_rfl) rfl (fun _ _ _ h => h) rfl rfl rfl (ev_mv rfl rfl) (SR.take 1 rfl (by kernel_rfl) (by kernel_rfl) (by kernel_rfl) rfl (fun _ _ _ h => h) rfl rfl rfl (ev_mv rfl rfl) (SR.take 2 rfl (by kernel_rfl) (by kernel_rfl) (by kernel_rfl) rfl (fun _ _ _ h => h) rfl rfl rfl (ev_ix rfl Try.underlying56 ty3 rfl rfl (by omega) (by omega) (fun _ _ => Fr.adr (i := i) (Fr.ext hA hx_3) (by omega) (by omega))) (SR.take 3 rfl (by kernel_rfl) (by kernel_rfl) (by kernel_rfl) rfl (fun _ _ _ h => h) rfl rfl rfl (ev_ld1 rfl ty3 rfl (At.elem1 (At.d (Fr.el (i := i) (Fr.ext hA hx_3) (by omega) (by omega))) 0 rfl)) (SR.take 4 rfl (by kernel_rfl) (by kernel_rfl) (by kernel_rfl) rfl (fun _ _ _ h => h) rfl rfl rfl (ev_mv rfl rfl) (SR.take 5 rfl (by kernel_rfl) (by kernel_rfl) (by kernel_rfl) rfl (fun _ _ _ h => h) rfl rfl rfl (ev_mv rfl rfl) ?_)))))
      refine SR.take 6 rfl (by kernel_rfl) (by kernel_rfl) (by kernel_rfl) rfl (fun _ _ _ h => h) rfl rfl rfl (ev_ix rfl Try.underlying56 ty3 rfl rfl (by omega) (by omega) (fun _ _ => Fr.adr (i := i) (Fr.ext hB hx_3) (by omega) (by omega))) (SR.take 7 rfl (by kernel_rfl) (by kernel_rfl) (by kernel_rfl) rfl (fun _ _ _ h => h) rfl rfl rfl (ev_ld1 rfl ty3 rfl (At.elem1 (At.d (Fr.el (i := i) (Fr.ext hB hx_3) (by omega) (by omega))) 0 rfl)) (SR.take 8 rfl (by kernel_rfl) (by kernel_rfl) (by kernel_rfl) rfl (fun _ _ _ h => h) rfl rfl rfl (ev_cmp rfl rfl rfl rfl) (SR.fin (by kernel_rfl) hl_3 hx_3 hR_3 .n (SQ.go (fun _ _ h => h) (.condI rfl bNE (fun h4 => ?_) (fun h4 => ?_))))))
      ·
        exact .seq (.region (.cons (Ev.step (ev_as rfl rfl) rfl rfl rfl (.go (fun _ _ h => h) (.ret (fun _ _ h => h) (ret1 Try.results65 rfl .n ⟨(by exfalso; first | omega | (subst hab; simp_all; done)), rfl⟩))))))
      ·
        exact .skipgo (fun _ _ h => h) (.region (.cons (Ev.step (ev_mv rfl rfl) rfl rfl rfl (.cons (Ev.step (ev_add rfl rfl rfl (r := (i + 1)) rfl (by omega) (by omega)) rfl rfl rfl (.cons (Ev.step (ev_as rfl rfl) rfl rfl rfl (SP.nil (SQ.roundb (X := Int) (x := (i)) (i + 1) (by exact ⟨by omega, by omega⟩) (by show (_ : Nat) < _; omega) (Sub.get (.c rfl (.c rfl (.c rfl .n)))) (fun w hw => hw.keep .n))))))))))
    ·
      exact .exit (fun _ _ h => h) (.seq (.region (.cons (Ev.step (ev_as rfl rfl) rfl rfl rfl (.go (fun _ _ h => h) (.ret (fun _ _ h => h) (ret1 Try.results65 rfl .n ⟨rfl, rfl⟩)))))))

end Go.Proofs.Ythmkelkefmfmgaa.Sx
