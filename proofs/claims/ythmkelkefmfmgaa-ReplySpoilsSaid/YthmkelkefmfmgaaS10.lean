import Derived.Test.YthmkelkefmfmgaaProg
import Derived.Test.YthmkelkefmfmgaaS9
set_option linter.unusedVariables false
set_option linter.unusedSimpArgs false
set_option linter.unusedSectionVars false
set_option maxRecDepth 20000
set_option maxHeartbeats 4000000
namespace Go.Proofs.Ythmkelkefmfmgaa.Sx.FQG
open Go Go.SX Go.Proofs
theorem fo30_0 : fo Try.prog 30 0 = some 0 := by kernel_rfl
theorem fo24_0 : fo Try.prog 24 0 = some 0 := by kernel_rfl
theorem ty22 : ty Try.prog 22 = some (false, 1) := by kernel_rfl
theorem ty24 : ty Try.prog 24 = some (true, 3) := by kernel_rfl
theorem fo30_1 : fo Try.prog 30 1 = some 3 := by kernel_rfl
theorem ty4 : ty Try.prog 4 = some (false, 1) := by kernel_rfl
theorem fo30_2 : fo Try.prog 30 2 = some 4 := by kernel_rfl
theorem ty26 : ty Try.prog 26 = some (true, 8) := by kernel_rfl
theorem fo30_3 : fo Try.prog 30 3 = some 12 := by kernel_rfl
theorem ty27 : ty Try.prog 27 = some (false, 1) := by kernel_rfl
theorem fo30_4 : fo Try.prog 30 4 = some 13 := by kernel_rfl
theorem ty28 : ty Try.prog 28 = some (false, 1) := by kernel_rfl
theorem hbd44 : hasBody Try.prog 44 = true := by kernel_rfl
theorem ty52 : ty Try.prog 52 = some (true, 7) := by kernel_rfl
theorem hbd45 : hasBody Try.prog 45 = true := by kernel_rfl
theorem mo : Try.prog.follows .mixedOrders = true := by kernel_rfl
theorem eqIn24 (d : Nat) (x0 y0 : Int) (x1 y1 : Int) (x2 y2 : ByteArray) (w : World) : (Op.equalIn (d + 3) 24 (.agg #[(.int .i64 x0), (.int .i64 x1), (.string x2)]) (.agg #[(.int .i64 y0), (.int .i64 y1), (.string y2)])).run Try.prog w = .ok ((x0 == y0) && ((x1 == y1) && (x2 == y2))) w := by
 rw [run_equalIn_struct w (d + 2) 24 _ _ (by kernel_rfl) (by kernel_rfl)]
 have hf : (Try.prog.fieldsOf 24).toList = [{ name := "Code", type := 22, offset := 0, embedded := false, tag := "", pkgPath := "", byteOffset := 0 }, { name := "At", type := 3, offset := 1, embedded := false, tag := "", pkgPath := "", byteOffset := 8 }, { name := "Path", type := 9, offset := 2, embedded := false, tag := "", pkgPath := "", byteOffset := 16 }] := by kernel_rfl
 rw [hf]
 have h22 : ∀ (x y : Int) (w : World), (Op.equalIn (d + 2) 22 (.int .i64 x) (.int .i64 y)).run Try.prog w = .ok (x == y) w := fun x y w => by
  simp [Op.equalIn, run_underlying Try.underlying22]
 have h3 : ∀ (x y : Int) (w : World), (Op.equalIn (d + 2) 3 (.int .i64 x) (.int .i64 y)).run Try.prog w = .ok (x == y) w := fun x y w => by
  simp [Op.equalIn, run_underlying Try.underlying3]
 have h9 : ∀ (x y : ByteArray) (w : World), (Op.equalIn (d + 2) 9 (.string x) (.string y)).run Try.prog w = .ok (x == y) w := fun x y w => by
  simp [Op.equalIn, run_underlying Try.underlying9]
 have p0 : ∀ (x0 : Int) (x1 : Int) (x2 : ByteArray) (w : World), (part 22 #[(.int .i64 x0), (.int .i64 x1), (.string x2)] 0).run Try.prog w = .ok (.int .i64 x0) w := fun _ _ _ _ => by kernel_rfl
 have p1 : ∀ (x0 : Int) (x1 : Int) (x2 : ByteArray) (w : World), (part 3 #[(.int .i64 x0), (.int .i64 x1), (.string x2)] 1).run Try.prog w = .ok (.int .i64 x1) w := fun _ _ _ _ => by kernel_rfl
 have p2 : ∀ (x0 : Int) (x1 : Int) (x2 : ByteArray) (w : World), (part 9 #[(.int .i64 x0), (.int .i64 x1), (.string x2)] 2).run Try.prog w = .ok (.string x2) w := fun _ _ _ _ => by kernel_rfl
 simp only [Op.eqFields, Sem.run_bind, h22, h3, h9, p0, p1, p2, Result.andThen_ok, Sem.run_ite, ne_eq]
 cases g0 : (x0 == y0) <;> cases g1 : (x1 == y1) <;> cases g2 : (x2 == y2) <;> simp [g0, g1, g2]
theorem ev24_eql (x y : Operand) (x0 y0 : Int) (x1 y1 : Int) (x2 y2 : ByteArray) (w : World) : (do eqGuard .eql 24 x y (.agg #[(.int .i64 x0), (.int .i64 x1), (.string x2)]) (.agg #[(.int .i64 y0), (.int .i64 y1), (.string y2)]); binOp .eql 24 (.agg #[(.int .i64 x0), (.int .i64 x1), (.string x2)]) (.agg #[(.int .i64 y0), (.int .i64 y1), (.string y2)]) : Sem Value).run Try.prog w = .ok (.bool (((x0 == y0) && ((x1 == y1) && (x2 == y2))))) w := by
 have h1 : (Op.equal 24 (.agg #[(.int .i64 x0), (.int .i64 x1), (.string x2)]) (.agg #[(.int .i64 y0), (.int .i64 y1), (.string y2)])).run Try.prog w = .ok ((x0 == y0) && ((x1 == y1) && (x2 == y2))) w := eqIn24 9997 x0 y0 x1 y1 x2 y2 w
 have h2 : (eqGuard .eql 24 x y (.agg #[(.int .i64 x0), (.int .i64 x1), (.string x2)]) (.agg #[(.int .i64 y0), (.int .i64 y1), (.string y2)])).run Try.prog w = .ok () w := by kernel_rfl
 simp only [Sem.run_bind, h2, Result.andThen_ok, binOp, h1]
 rfl
theorem eqIn26 (d : Nat) (x0 y0 : Int) (x1 y1 : Int) (x2 y2 : Int) (x3 y3 : Int) (x4 y4 : Int) (x5 y5 : Int) (x6 y6 : Int) (x7 y7 : Int) (w : World) : (Op.equalIn (d + 3) 26 (.agg #[(.int .i64 x0), (.int .i64 x1), (.int .i64 x2), (.int .i64 x3), (.int .i64 x4), (.int .i64 x5), (.int .i64 x6), (.int .i64 x7)]) (.agg #[(.int .i64 y0), (.int .i64 y1), (.int .i64 y2), (.int .i64 y3), (.int .i64 y4), (.int .i64 y5), (.int .i64 y6), (.int .i64 y7)])).run Try.prog w = .ok ((x0 == y0) && ((x1 == y1) && ((x2 == y2) && ((x3 == y3) && ((x4 == y4) && ((x5 == y5) && ((x6 == y6) && (x7 == y7)))))))) w := by
 rw [run_equalIn_struct w (d + 2) 26 _ _ (by kernel_rfl) (by kernel_rfl)]
 have hf : (Try.prog.fieldsOf 26).toList = [{ name := "Routes", type := 3, offset := 0, embedded := false, tag := "", pkgPath := "", byteOffset := 0 }, { name := "Value", type := 3, offset := 1, embedded := false, tag := "", pkgPath := "", byteOffset := 8 }, { name := "Cost", type := 3, offset := 2, embedded := false, tag := "", pkgPath := "", byteOffset := 16 }, { name := "Time", type := 3, offset := 3, embedded := false, tag := "", pkgPath := "", byteOffset := 24 }, { name := "Dist", type := 3, offset := 4, embedded := false, tag := "", pkgPath := "", byteOffset := 32 }, { name := "Wait", type := 3, offset := 5, embedded := false, tag := "", pkgPath := "", byteOffset := 40 }, { name := "Service", type := 3, offset := 6, embedded := false, tag := "", pkgPath := "", byteOffset := 48 }, { name := "Left", type := 3, offset := 7, embedded := false, tag := "", pkgPath := "", byteOffset := 56 }] := by kernel_rfl
 rw [hf]
 have h3 : ∀ (x y : Int) (w : World), (Op.equalIn (d + 2) 3 (.int .i64 x) (.int .i64 y)).run Try.prog w = .ok (x == y) w := fun x y w => by
  simp [Op.equalIn, run_underlying Try.underlying3]
 have p0 : ∀ (x0 : Int) (x1 : Int) (x2 : Int) (x3 : Int) (x4 : Int) (x5 : Int) (x6 : Int) (x7 : Int) (w : World), (part 3 #[(.int .i64 x0), (.int .i64 x1), (.int .i64 x2), (.int .i64 x3), (.int .i64 x4), (.int .i64 x5), (.int .i64 x6), (.int .i64 x7)] 0).run Try.prog w = .ok (.int .i64 x0) w := fun _ _ _ _ _ _ _ _ _ => by kernel_rfl
 have p1 : ∀ (x0 : Int) (x1 : Int) (x2 : Int) (x3 : Int) (x4 : Int) (x5 : Int) (x6 : Int) (x7 : Int) (w : World), (part 3 #[(.int .i64 x0), (.int .i64 x1), (.int .i64 x2), (.int .i64 x3), (.int .i64 x4), (.int .i64 x5), (.int .i64 x6), (.int .i64 x7)] 1).run Try.prog w = .ok (.int .i64 x1) w := fun _ _ _ _ _ _ _ _ _ => by kernel_rfl
 have p2 : ∀ (x0 : Int) (x1 : Int) (x2 : Int) (x3 : Int) (x4 : Int) (x5 : Int) (x6 : Int) (x7 : Int) (w : World), (part 3 #[(.int .i64 x0), (.int .i64 x1), (.int .i64 x2), (.int .i64 x3), (.int .i64 x4), (.int .i64 x5), (.int .i64 x6), (.int .i64 x7)] 2).run Try.prog w = .ok (.int .i64 x2) w := fun _ _ _ _ _ _ _ _ _ => by kernel_rfl
 have p3 : ∀ (x0 : Int) (x1 : Int) (x2 : Int) (x3 : Int) (x4 : Int) (x5 : Int) (x6 : Int) (x7 : Int) (w : World), (part 3 #[(.int .i64 x0), (.int .i64 x1), (.int .i64 x2), (.int .i64 x3), (.int .i64 x4), (.int .i64 x5), (.int .i64 x6), (.int .i64 x7)] 3).run Try.prog w = .ok (.int .i64 x3) w := fun _ _ _ _ _ _ _ _ _ => by kernel_rfl
 have p4 : ∀ (x0 : Int) (x1 : Int) (x2 : Int) (x3 : Int) (x4 : Int) (x5 : Int) (x6 : Int) (x7 : Int) (w : World), (part 3 #[(.int .i64 x0), (.int .i64 x1), (.int .i64 x2), (.int .i64 x3), (.int .i64 x4), (.int .i64 x5), (.int .i64 x6), (.int .i64 x7)] 4).run Try.prog w = .ok (.int .i64 x4) w := fun _ _ _ _ _ _ _ _ _ => by kernel_rfl
 have p5 : ∀ (x0 : Int) (x1 : Int) (x2 : Int) (x3 : Int) (x4 : Int) (x5 : Int) (x6 : Int) (x7 : Int) (w : World), (part 3 #[(.int .i64 x0), (.int .i64 x1), (.int .i64 x2), (.int .i64 x3), (.int .i64 x4), (.int .i64 x5), (.int .i64 x6), (.int .i64 x7)] 5).run Try.prog w = .ok (.int .i64 x5) w := fun _ _ _ _ _ _ _ _ _ => by kernel_rfl
 have p6 : ∀ (x0 : Int) (x1 : Int) (x2 : Int) (x3 : Int) (x4 : Int) (x5 : Int) (x6 : Int) (x7 : Int) (w : World), (part 3 #[(.int .i64 x0), (.int .i64 x1), (.int .i64 x2), (.int .i64 x3), (.int .i64 x4), (.int .i64 x5), (.int .i64 x6), (.int .i64 x7)] 6).run Try.prog w = .ok (.int .i64 x6) w := fun _ _ _ _ _ _ _ _ _ => by kernel_rfl
 have p7 : ∀ (x0 : Int) (x1 : Int) (x2 : Int) (x3 : Int) (x4 : Int) (x5 : Int) (x6 : Int) (x7 : Int) (w : World), (part 3 #[(.int .i64 x0), (.int .i64 x1), (.int .i64 x2), (.int .i64 x3), (.int .i64 x4), (.int .i64 x5), (.int .i64 x6), (.int .i64 x7)] 7).run Try.prog w = .ok (.int .i64 x7) w := fun _ _ _ _ _ _ _ _ _ => by kernel_rfl
 simp only [Op.eqFields, Sem.run_bind, h3, p0, p1, p2, p3, p4, p5, p6, p7, Result.andThen_ok, Sem.run_ite, ne_eq]
 cases g0 : (x0 == y0) <;> cases g1 : (x1 == y1) <;> cases g2 : (x2 == y2) <;> cases g3 : (x3 == y3) <;> cases g4 : (x4 == y4) <;> cases g5 : (x5 == y5) <;> cases g6 : (x6 == y6) <;> cases g7 : (x7 == y7) <;> simp [g0, g1, g2, g3, g4, g5, g6, g7]
theorem ev26_neq (x y : Operand) (x0 y0 : Int) (x1 y1 : Int) (x2 y2 : Int) (x3 y3 : Int) (x4 y4 : Int) (x5 y5 : Int) (x6 y6 : Int) (x7 y7 : Int) (w : World) : (do eqGuard .neq 26 x y (.agg #[(.int .i64 x0), (.int .i64 x1), (.int .i64 x2), (.int .i64 x3), (.int .i64 x4), (.int .i64 x5), (.int .i64 x6), (.int .i64 x7)]) (.agg #[(.int .i64 y0), (.int .i64 y1), (.int .i64 y2), (.int .i64 y3), (.int .i64 y4), (.int .i64 y5), (.int .i64 y6), (.int .i64 y7)]); binOp .neq 26 (.agg #[(.int .i64 x0), (.int .i64 x1), (.int .i64 x2), (.int .i64 x3), (.int .i64 x4), (.int .i64 x5), (.int .i64 x6), (.int .i64 x7)]) (.agg #[(.int .i64 y0), (.int .i64 y1), (.int .i64 y2), (.int .i64 y3), (.int .i64 y4), (.int .i64 y5), (.int .i64 y6), (.int .i64 y7)]) : Sem Value).run Try.prog w = .ok (.bool (!((x0 == y0) && ((x1 == y1) && ((x2 == y2) && ((x3 == y3) && ((x4 == y4) && ((x5 == y5) && ((x6 == y6) && (x7 == y7)))))))))) w := by
 have h1 : (Op.equal 26 (.agg #[(.int .i64 x0), (.int .i64 x1), (.int .i64 x2), (.int .i64 x3), (.int .i64 x4), (.int .i64 x5), (.int .i64 x6), (.int .i64 x7)]) (.agg #[(.int .i64 y0), (.int .i64 y1), (.int .i64 y2), (.int .i64 y3), (.int .i64 y4), (.int .i64 y5), (.int .i64 y6), (.int .i64 y7)])).run Try.prog w = .ok ((x0 == y0) && ((x1 == y1) && ((x2 == y2) && ((x3 == y3) && ((x4 == y4) && ((x5 == y5) && ((x6 == y6) && (x7 == y7)))))))) w := eqIn26 9997 x0 y0 x1 y1 x2 y2 x3 y3 x4 y4 x5 y5 x6 y6 x7 y7 w
 have h2 : (eqGuard .neq 26 x y (.agg #[(.int .i64 x0), (.int .i64 x1), (.int .i64 x2), (.int .i64 x3), (.int .i64 x4), (.int .i64 x5), (.int .i64 x6), (.int .i64 x7)]) (.agg #[(.int .i64 y0), (.int .i64 y1), (.int .i64 y2), (.int .i64 y3), (.int .i64 y4), (.int .i64 y5), (.int .i64 y6), (.int .i64 y7)])).run Try.prog w = .ok () w := by kernel_rfl
 simp only [Sem.run_bind, h2, Result.andThen_ok, binOp, h1]
 rfl
end Go.Proofs.Ythmkelkefmfmgaa.Sx.FQG
namespace Go.Proofs.Ythmkelkefmfmgaa.Sx
open Go Go.SX Go.Proofs FQG
theorem sameRc (cd1 : Int) (at_1 : Int) (path1 : ByteArray) (op1 : Bool) (x01 : Int) (x11 : Int) (x21 : Int) (x31 : Int) (x41 : Int) (x51 : Int) (x61 : Int) (x71 : Int) (pA1 : Option Addr) (pc1 : Nat) (ps1 : List PV) (kA1 : Option Addr) (kc1 : Nat) (lf1 : List TK) (cd2 : Int) (at_2 : Int) (path2 : ByteArray) (op2 : Bool) (x02 : Int) (x12 : Int) (x22 : Int) (x32 : Int) (x42 : Int) (x52 : Int) (x62 : Int) (x72 : Int) (pA2 : Option Addr) (pc2 : Nat) (ps2 : List PV) (kA2 : Option Addr) (kc2 : Nat) (lf2 : List TK) (S : Nat → Prop) (wf : World) (hA : Fr ePL S wf pA1 ps1) (hB : Fr ePL S wf pA2 ps2) (hC : Fr eTK S wf kA1 lf1) (hD : Fr eTK S wf kA2 lf2) (hNa : NP S wf ps1) (hNb : NP S wf ps2) :
  TR0 Try.prog 18 [.agg #[.int .i64 cd1, .int .i64 at_1, .string path1, .bool op1, .int .i64 x01, .int .i64 x11, .int .i64 x21, .int .i64 x31, .int .i64 x41, .int .i64 x51, .int .i64 x61, .int .i64 x71, .slice pA1 ps1.length pc1, .slice kA1 lf1.length kc1], .agg #[.int .i64 cd2, .int .i64 at_2, .string path2, .bool op2, .int .i64 x02, .int .i64 x12, .int .i64 x22, .int .i64 x32, .int .i64 x42, .int .i64 x52, .int .i64 x62, .int .i64 x72, .slice pA2 ps2.length pc2, .slice kA2 lf2.length kc2]] [] S wf (fun v_ C_ => ∃ (r : Bool), (r = true → treeF cd1 at_1 path1 op1 ⟨x01, x11, x21, x31, x41, x51, x61, x71⟩ ps1 lf1 = treeF cd2 at_2 path2 op2 ⟨x02, x12, x22, x32, x42, x52, x62, x72⟩ ps2 lf2) ∧ v_ = .bool r ∧ C_ = []) := by
 have hla := hA.len
 have hlb := hB.len
 have hlc := hC.len
 have hld := hD.len
 refine TR.mk Try.func18 rfl Try.ntmps18 rfl rfl (fun w_ => ?_)
 refine .seq (.region ?_)
 refine .cons (st_boxa rfl rfl rfl rfl rfl (fun b1 => ?_))
 refine .cons (st_boxa rfl rfl rfl rfl rfl (fun b2 => ?_))
 refine .v (ev_as rfl rfl) rfl ?_
 refine .go idQ (.seq (.seq (.region ?_)))
 refine .v (ev_fa rfl fo30_0 rfl (r := 0) rfl) rfl ?_
 refine .v (ev_fa rfl fo24_0 rfl (r := 0) rfl) rfl ?_
 refine .v (ev_ld1 rfl ty22 rfl (At.own1 1 rfl rfl)) rfl ?_
 refine .v (ev_cmp rfl rfl rfl rfl) rfl ?_
 refine .v (ev_mv rfl rfl) rfl ?_
 refine .w (fun _ => ev_fa rfl fo30_0 rfl (r := 0) rfl) rfl ?_
 refine .w (fun hb => ev_fa rfl fo24_0 (lkg rfl hb) (r := 0) rfl) rfl ?_
 refine .w (fun hb => ev_ld1 rfl ty22 (lkg rfl hb) (At.own1 0 rfl rfl)) rfl ?_
 refine .w (fun hb => ev_cmp rfl (lkg rfl hb) rfl rfl) rfl ?_
 refine .v (ev_or rfl rfl rfl rfl) rfl ?_
 refine .go idQ ?_
 refine .condI rfl (bO bNE bNE) (fun h3 => ?_) (fun h3 => ?_)
 ·
  refine .seq (.region ?_)
  refine .v (ev_fa rfl fo30_0 rfl (r := 0) rfl) rfl ?_
  refine .v (ev_lda (cs := [.int .i64 cd1, .int .i64 at_1, .string path1]) rfl rfl (At.own 1 rfl rfl) ty24) rfl ?_
  refine .v (ev_fa rfl fo30_0 rfl (r := 0) rfl) rfl ?_
  refine .v (ev_lda (cs := [.int .i64 cd2, .int .i64 at_2, .string path2]) rfl rfl (At.own 0 rfl rfl) ty24) rfl ?_
  refine .v (ev_bin rfl rfl rfl (r := .bool ((cd1 == cd2) && ((at_1 == at_2) && (path1 == path2)))) (ev24_eql _ _ _ _ _ _ _ _)) rfl ?_
  refine .v (ev_as rfl rfl) rfl ?_
  refine .go idQ ?_
  exact .ret idQ (ret1 Try.results18 rfl .n ⟨((cd1 == cd2) && ((at_1 == at_2) && (path1 == path2))), (fun h_ => by rw [Bool.and_eq_true, Bool.and_eq_true] at h_; exact tree_sameF (by assumption) (eq_of_beq h_.1) (eq_of_beq h_.2.1) h_.2.2), rfl, rfl⟩)
 refine .skipgo idQ (.seq (.seq (.region ?_)))
 refine .v (ev_fa rfl fo30_1 rfl (r := 3) rfl) rfl ?_
 refine .v (ev_ld1 rfl ty4 rfl (At.own1 1 rfl rfl)) rfl ?_
 refine .v (ev_fa rfl fo30_1 rfl (r := 3) rfl) rfl ?_
 refine .v (ev_ld1 rfl ty4 rfl (At.own1 0 rfl rfl)) rfl ?_
 refine .v (ev_bcmp rfl Try.underlying4 rfl rfl rfl) rfl ?_
 refine .v (ev_mv rfl rfl) rfl ?_
 refine .w (fun _ => ev_fa rfl fo30_2 rfl (r := 4) rfl) rfl ?_
 refine .w (fun hb => ev_lda (cs := [.int .i64 x01, .int .i64 x11, .int .i64 x21, .int .i64 x31, .int .i64 x41, .int .i64 x51, .int .i64 x61, .int .i64 x71]) rfl (lkg rfl hb) (At.own 1 rfl rfl) ty26) rfl ?_
 refine .w (fun _ => ev_fa rfl fo30_2 rfl (r := 4) rfl) rfl ?_
 refine .w (fun hb => ev_lda (cs := [.int .i64 x02, .int .i64 x12, .int .i64 x22, .int .i64 x32, .int .i64 x42, .int .i64 x52, .int .i64 x62, .int .i64 x72]) rfl (lkg rfl hb) (At.own 0 rfl rfl) ty26) rfl ?_
 refine .w (fun hb => ev_bin rfl (lkg rfl hb) (lkg rfl hb) (r := .bool (!((x01 == x02) && ((x11 == x12) && ((x21 == x22) && ((x31 == x32) && ((x41 == x42) && ((x51 == x52) && ((x61 == x62) && (x71 == x72)))))))))) (ev26_neq _ _ _ _ _ _ _ _ _ _ _ _ _ _ _ _ _ _)) rfl ?_
 refine .v (ev_or rfl rfl rfl rfl) rfl ?_
 refine .v (ev_mv rfl rfl) rfl ?_
 refine .w (fun _ => ev_fa rfl fo30_3 rfl (r := 12) rfl) rfl ?_
 refine .w (fun hb => ev_ld1 rfl ty27 (lkg rfl hb) (At.own1 1 rfl rfl)) rfl ?_
 refine .w (fun hb => ev_len rfl Try.underlying27 (lkg rfl hb)) rfl ?_
 refine .w (fun _ => ev_fa rfl fo30_3 rfl (r := 12) rfl) rfl ?_
 refine .w (fun hb => ev_ld1 rfl ty27 (lkg rfl hb) (At.own1 0 rfl rfl)) rfl ?_
 refine .w (fun hb => ev_len rfl Try.underlying27 (lkg rfl hb)) rfl ?_
 refine .w (fun hb => ev_cmp rfl (lkg rfl hb) (lkg rfl hb) rfl) rfl ?_
 refine .v (ev_or rfl rfl rfl rfl) rfl ?_
 refine .v (ev_mv rfl rfl) rfl ?_
 refine .w (fun _ => ev_fa rfl fo30_4 rfl (r := 13) rfl) rfl ?_
 refine .w (fun hb => ev_ld1 rfl ty28 (lkg rfl hb) (At.own1 1 rfl rfl)) rfl ?_
 refine .w (fun _ => ev_fa rfl fo30_4 rfl (r := 13) rfl) rfl ?_
 refine .w (fun hb => ev_ld1 rfl ty28 (lkg rfl hb) (At.own1 0 rfl rfl)) rfl ?_
 rcases Bool.eq_false_or_eq_true (((op1 != op2) || (!((x01 == x02) && ((x11 == x12) && ((x21 == x22) && ((x31 == x32) && ((x41 == x42) && ((x51 == x52) && ((x61 == x62) && (x71 == x72)))))))))) || ((ps1.length : Int) != (ps2.length : Int))) with hb4 | hb4
 ·
  refine SP.reslot (t := 42) rfl hb4 ?_
  have hb4_ := bT (bO (bO bV (bN (bA bE (bA bE (bA bE (bA bE (bA bE (bA bE (bA bE bE))))))))) bNE) hb4
  refine .cons (.off rfl rfl rfl rfl rfl rfl ?_)
  refine .cons (.off rfl rfl rfl rfl rfl rfl ?_)
  refine .v (ev_pickt rfl rfl rfl rfl) rfl ?_
  refine .go idQ ?_
  refine .cond_t rfl ?_
  refine .seq (.region ?_)
  refine .v (ev_as rfl rfl) rfl ?_
  refine .go idQ ?_
  exact .ret idQ (ret1 Try.results18 rfl .n ⟨false, (fun h_ => by cases h_), rfl, rfl⟩)
 refine SP.reslot (t := 42) rfl hb4 ?_
 have hb4_ := bF (bO (bO bV (bN (bA bE (bA bE (bA bE (bA bE (bA bE (bA bE (bA bE bE))))))))) bNE) hb4
 refine .cons (.on rfl rfl rfl (st_call00 rfl rfl rfl rfl hbd44 (lkA1 (lkg rfl hb4) (lkA1 (lkg rfl hb4) lkA0)) .n (sameTc kA1 lf1.length kc1 lf1 kA2 lf2.length kc2 lf2 _ _ hC hD (by first | omega | simp only [LL] <;> omega | simp <;> omega) (by first | omega | simp only [LL] <;> omega | simp <;> omega)) (by intro v C h; obtain ⟨_, _, rfl, rfl⟩ := h; rfl) (fun v_q6 q6 => ?_)))
 obtain ⟨r5, p7, rfl, -⟩ := q6
 refine .cons (.on rfl rfl rfl (Ev.step (ev_not rfl rfl) rfl rfl rfl ?_))
 refine .v (ev_pickf rfl rfl rfl rfl) rfl ?_
 refine .go idQ ?_
 refine .condI rfl (bN bV) (fun h8 => ?_) (fun h8 => ?_)
 ·
  refine .seq (.region ?_)
  refine .v (ev_as rfl rfl) rfl ?_
  refine .go idQ ?_
  exact .ret idQ (ret1 Try.results18 rfl .n ⟨false, (fun h_ => by cases h_), rfl, rfl⟩)
 refine .skipgo idQ (.seq (.seq ?_))
 have hlf_ := p7 (by simp_all)
 have hll : ps1.length = ps2.length := by first | omega | simp_all
 have hop_ : op1 = op2 := by simp_all
 have hsu_ : (⟨x01, x11, x21, x31, x41, x51, x61, x71⟩ : SU) = ⟨x02, x12, x22, x32, x42, x52, x62, x72⟩ := by simp_all
 refine .region ?_
 refine .v (ev_fa rfl fo30_3 rfl (r := 12) rfl) rfl ?_
 refine .v (ev_ld1 rfl ty27 rfl (At.own1 1 rfl rfl)) rfl ?_
 refine .v (ev_len rfl Try.underlying27 rfl) rfl ?_
 refine .v (ev_mv rfl rfl) rfl ?_
 refine .go idQ (.block ?_)
 refine .loop (X := Int) (fun i => 0 ≤ i ∧ i ≤ ps1.length ∧ (ps1.take i.toNat).map pv = (ps2.take i.toNat).map pv) (fun i => [(2, .pointer (some ⟨b1, 0, none⟩)), (3, .pointer (some ⟨b2, 0, none⟩)), (52, .int .i64 (ps1.length : Int)), (53, .int .i64 i)]) (fun i => [cel b1 [.int .i64 cd1, .int .i64 at_1, .string path1, .bool op1, .int .i64 x01, .int .i64 x11, .int .i64 x21, .int .i64 x31, .int .i64 x41, .int .i64 x51, .int .i64 x61, .int .i64 x71, .slice pA1 ps1.length pc1, .slice kA1 lf1.length kc1] 30, cel b2 [.int .i64 cd2, .int .i64 at_2, .string path2, .bool op2, .int .i64 x02, .int .i64 x12, .int .i64 x22, .int .i64 x32, .int .i64 x42, .int .i64 x52, .int .i64 x62, .int .i64 x72, .slice pA2 ps2.length pc2, .slice kA2 lf2.length kc2] 30]) (fun _ => S) (fun _ => wf) (fun i => (ps1.length - i.toNat)) (fun a_ w_ hs_ hw_ => ⟨0, (by exact ⟨by omega, by omega, rfl⟩), hs_.mono (Sub.get (.c rfl (.c rfl (.c rfl (.c rfl .n))))), hw_.keep (.c (.t .h) (.c .h .n))⟩) (fun i ⟨q_0, q_1, q_2⟩ => ?_)
 show SC _ _ _ _ _ ⟨[(2, .pointer (some ⟨b1, 0, none⟩)), (3, .pointer (some ⟨b2, 0, none⟩)), (52, .int .i64 (ps1.length : Int)), (53, .int .i64 i)], [cel b1 [.int .i64 cd1, .int .i64 at_1, .string path1, .bool op1, .int .i64 x01, .int .i64 x11, .int .i64 x21, .int .i64 x31, .int .i64 x41, .int .i64 x51, .int .i64 x61, .int .i64 x71, .slice pA1 ps1.length pc1, .slice kA1 lf1.length kc1] 30, cel b2 [.int .i64 cd2, .int .i64 at_2, .string path2, .bool op2, .int .i64 x02, .int .i64 x12, .int .i64 x22, .int .i64 x32, .int .i64 x42, .int .i64 x52, .int .i64 x62, .int .i64 x72, .slice pA2 ps2.length pc2, .slice kA2 lf2.length kc2] 30], S, wf⟩
 refine .seq (.region ?_)
 refine .v (ev_cmp rfl rfl rfl rfl) rfl ?_
 refine .go idQ (.seq ?_)
 refine .condI rfl bD (fun h9 => ?_) (fun h9 => ?_)
 ·
  refine .skipgo idQ (.seq (.block (.seq (.region ?_))))
  refine .v (ev_mv rfl rfl) rfl ?_
  refine .v (ev_as rfl rfl) rfl ?_
  refine .go idQ (.seq ?_)
  refine SC.draw mo [] [] .n (fun _ _ _ c hc => by cases hc) (fun wf_10 hl_10 hx_10 hR_10 => ?_)
  refine SR.k 0 rfl (by kernel_rfl) rfl (ev_fa rfl fo30_3 rfl (r := 12) rfl) ?_
  refine SR.k 1 rfl (by kernel_rfl) rfl (ev_ld1 rfl ty27 rfl (At.d (At.lent hR_10 0 rfl rfl))) ?_
  refine SR.k 2 rfl (by kernel_rfl) rfl (ev_mv rfl rfl) ?_
  refine SR.k 3 rfl (by kernel_rfl) rfl (ev_ix rfl Try.underlying27 ty52 rfl rfl (by omega) (by omega) (fun _ _ => Fr.adr (i := i) (Fr.ext hA hx_10) (by omega) (by omega))) ?_
  refine SR.k 4 rfl (by kernel_rfl) rfl (ev_lda rfl rfl (At.d (Fr.el (i := i) (Fr.ext hA hx_10) (by omega) (by omega))) ty52) ?_
  refine SR.k 5 rfl (by kernel_rfl) rfl (ev_fa rfl fo30_3 rfl (r := 12) rfl) ?_
  refine SR.k 6 rfl (by kernel_rfl) rfl (ev_ld1 rfl ty27 rfl (At.d (At.lent hR_10 1 rfl rfl))) ?_
  refine SR.k 7 rfl (by kernel_rfl) rfl (ev_mv rfl rfl) ?_
  refine SR.k 8 rfl (by kernel_rfl) rfl (ev_ix rfl Try.underlying27 ty52 rfl rfl (by omega) (by omega) (fun _ _ => Fr.adr (i := i) (Fr.ext hB hx_10) (by omega) (by omega))) ?_
  refine SR.k 9 rfl (by kernel_rfl) rfl (ev_lda rfl rfl (At.d (Fr.el (i := i) (Fr.ext hB hx_10) (by omega) (by omega))) ty52) ?_
  refine SR.one (j := 10) (by kernel_rfl) rfl (st_call00 rfl rfl rfl rfl hbd45 rfl .n (same13c ((gt ps1 i).veh) ((gt ps1 i).sA) ((gt ps1 i).sc) ((gt ps1 i).steps) ((gt ps1 i).time) ((gt ps1 i).dist) ((gt ps1 i).wait) ((gt ps1 i).serv) ((gt ps1 i).cost) ((gt ps2 i).veh) ((gt ps2 i).sA) ((gt ps2 i).sc) ((gt ps2 i).steps) ((gt ps2 i).time) ((gt ps2 i).dist) ((gt ps2 i).wait) ((gt ps2 i).serv) ((gt ps2 i).cost) _ _ ((((hNa).ext hx_10) _ (gt_mem (i := i) (by omega) (by omega))).1) ((((hNb).ext hx_10) _ (gt_mem (i := i) (by omega) (by omega))).1) ((((hNa).ext hx_10) _ (gt_mem (i := i) (by omega) (by omega))).2) ((((hNb).ext hx_10) _ (gt_mem (i := i) (by omega) (by omega))).2)) (by intro v C h; obtain ⟨_, _, rfl, rfl⟩ := h; rfl) (fun v_q12 q12 => ⟨tt0, ?_⟩))
  obtain ⟨r11, p13, rfl, -⟩ := q12
  refine SR.k 11 rfl (by kernel_rfl) rfl (ev_not rfl rfl) ?_
  refine SR.fin (by kernel_rfl) hl_10 hx_10 hR_10 .n ?_
  refine SQ.go idQ ?_
  refine .condI rfl (bN bV) (fun h14 => ?_) (fun h14 => ?_)
  ·
   refine .seq (.region ?_)
   refine .v (ev_as rfl rfl) rfl ?_
   refine .go idQ ?_
   exact .ret idQ (ret1 Try.results18 rfl .n ⟨false, (fun h_ => by cases h_), rfl, rfl⟩)
  refine .skipgo idQ (.region ?_)
  refine .v (ev_add rfl rfl rfl (r := (i + 1)) rfl (by omega) (by omega)) rfl ?_
  refine .v (ev_mv rfl rfl) rfl ?_
  exact SP.nil (SQ.roundb (X := Int) (x := (i)) (i + 1) (by exact ⟨by omega, by omega, take_same q_2 q_0 (by omega) hll (pv_eq (p13 (by simp_all)))⟩) (by show (_ : Nat) < _; omega) (Sub.get (.c rfl (.c rfl (.c rfl (.c rfl .n))))) (fun w hw => hw.keep (.c .h (.c .h .n))))
 refine .exit idQ ?_
 refine .seq (.region ?_)
 refine .v (ev_as rfl rfl) rfl ?_
 refine .go idQ ?_
 exact .ret idQ (ret1 Try.results18 rfl .n ⟨true, (fun _ => tree_same (by omega) hop_ hsu_ (tsame_end q_2 (by omega) hll) hlf_), rfl, rfl⟩)
end Go.Proofs.Ythmkelkefmfmgaa.Sx
set_option maxRecDepth 20000
set_option maxHeartbeats 4000000
namespace Go.Proofs.Ythmkelkefmfmgaa.Sx.FQH
open Go Go.SX Go.Proofs
theorem hbd8 : hasBody Try.prog 8 = true := by kernel_rfl
theorem ty30 : ty Try.prog 30 = some (true, 14) := by kernel_rfl
theorem hbd9 : hasBody Try.prog 9 = true := by kernel_rfl
theorem hbd10 : hasBody Try.prog 10 = true := by kernel_rfl
theorem fo30_0 : fo Try.prog 30 0 = some 0 := by kernel_rfl
theorem fo24_2 : fo Try.prog 24 2 = some 2 := by kernel_rfl
theorem ty9 : ty Try.prog 9 = some (false, 1) := by kernel_rfl
theorem hbd13 : hasBody Try.prog 13 = true := by kernel_rfl
theorem ty5 : ty Try.prog 5 = some (false, 1) := by kernel_rfl
theorem hbd14 : hasBody Try.prog 14 = true := by kernel_rfl
theorem hbd17 : hasBody Try.prog 17 = true := by kernel_rfl
theorem zf30 : (Try.prog.info? 30).bind (fun i => i.zero.map Value.cells) = some (List.toArray [.int .i64 0, .int .i64 0, .string ⟨#[]⟩, .bool false, .int .i64 0, .int .i64 0, .int .i64 0, .int .i64 0, .int .i64 0, .int .i64 0, .int .i64 0, .int .i64 0, .slice none 0 0, .slice none 0 0]) := by kernel_rfl
theorem hbd18 : hasBody Try.prog 18 = true := by kernel_rfl
theorem fo24_0 : fo Try.prog 24 0 = some 0 := by kernel_rfl
theorem ty22 : ty Try.prog 22 = some (false, 1) := by kernel_rfl
theorem hbd16 : hasBody Try.prog 16 = true := by kernel_rfl
end Go.Proofs.Ythmkelkefmfmgaa.Sx.FQH
namespace Go.Proofs.Ythmkelkefmfmgaa.Sx
open Go Go.SX Go.Proofs FQH
theorem replySpoils (cd : Int) (at_ : Int) (path : ByteArray) (op : Bool) (x0 : Int) (x1 : Int) (x2 : Int) (x3 : Int) (x4 : Int) (x5 : Int) (x6 : Int) (x7 : Int) (pA : Option Addr) (pc : Nat) (ps : List PV) (kA : Option Addr) (kc : Nat) (lf : List TK) (ai : Int) (cv : Int) (S : Nat → Prop) (wf : World) (hP : Fr ePL S wf pA ps) (hK : Fr eTK S wf kA lf) (hN : NP S wf ps) (hcv : 0 ≤ cv ∧ cv < 256) :
  TR0 Try.prog 7 [.agg #[.int .i64 cd, .int .i64 at_, .string path, .bool op, .int .i64 x0, .int .i64 x1, .int .i64 x2, .int .i64 x3, .int .i64 x4, .int .i64 x5, .int .i64 x6, .int .i64 x7, .slice pA ps.length pc, .slice kA lf.length kc], .int .i64 ai, .int .u8 cv] [] S wf (fun v_ C_ => v_ = .bool true ∧ C_ = []) := by
 have hla := hP.len
 have hlk := hK.len
 have hbp := bs_len path
 refine TR.mk Try.func7 rfl Try.ntmps7 rfl rfl (fun w_ => ?_)
 refine .seq (.region ?_)
 refine .cons (st_boxa rfl rfl rfl rfl rfl (fun b1 => ?_))
 refine .v (ev_as rfl rfl) rfl ?_
 refine .go idQ (.seq (.seq (.region ?_)))
 refine .cons (st_callk rfl rfl rfl rfl hbd8 rfl .n (awake _ _) ?_)
 refine .v (ev_not rfl rfl) rfl ?_
 refine .go idQ ?_
 refine .cond_f rfl ?_
 refine .skipgo idQ (.seq (.seq (.region ?_)))
 refine .v (ev_lda rfl rfl (At.whole 0 rfl) ty30) rfl ?_
 refine .cons (st_call00 rfl rfl rfl rfl hbd9 rfl .n (long_ cd at_ path op x0 x1 x2 x3 x4 x5 x6 x7 pA pc ps kA kc lf _ _ hP hN) (by intro v C h; obtain ⟨_, _, rfl, rfl⟩ := h; rfl) (fun v_q3 q3 => ?_))
 obtain ⟨r2, p4, rfl, -⟩ := q3
 refine .v (ev_mv rfl rfl) rfl ?_
 refine .w (fun _ => ev_lda rfl rfl (At.whole 0 rfl) ty30) rfl ?_
 rcases Bool.eq_false_or_eq_true r2 with hb5 | hb5
 ·
  refine SP.reslot (t := 19) rfl hb5 ?_
  refine .cons (.off rfl rfl rfl rfl rfl rfl ?_)
  refine .cons (.off rfl rfl rfl rfl rfl rfl ?_)
  refine .v (ev_pickt rfl rfl rfl rfl) rfl ?_
  refine .go idQ ?_
  refine .cond_t rfl ?_
  refine .seq (.region ?_)
  refine .v (ev_as rfl rfl) rfl ?_
  refine .go idQ ?_
  exact .ret idQ (ret1 Try.results7 rfl .n ⟨rfl, rfl⟩)
 refine SP.reslot (t := 19) rfl hb5 ?_
 refine .cons (.on rfl rfl rfl (st_call00 rfl rfl rfl rfl hbd10 (lkA1 (lkg rfl hb5) lkA0) .n (fits_g cd at_ path op x0 x1 x2 x3 x4 x5 x6 x7 pA pc ps kA kc lf _ _ hP hK hN (p4 (by first | assumption | simp_all)).1 (p4 (by first | assumption | simp_all)).2.1 (p4 (by first | assumption | simp_all)).2.2.1 (p4 (by first | assumption | simp_all)).2.2.2) (by intro v C h; obtain ⟨_, _, rfl, rfl⟩ := h; rfl) (fun v_q7 q7 => ?_)))
 obtain ⟨r6, p8, rfl, -⟩ := q7
 refine .cons (.on rfl rfl rfl (Ev.step (ev_not rfl rfl) rfl rfl rfl ?_))
 refine .v (ev_pickf rfl rfl rfl rfl) rfl ?_
 refine .go idQ ?_
 refine .condI rfl (bN bV) (fun h9 => ?_) (fun h9 => ?_)
 ·
  refine .seq (.region ?_)
  refine .v (ev_as rfl rfl) rfl ?_
  refine .go idQ ?_
  exact .ret idQ (ret1 Try.results7 rfl .n ⟨rfl, rfl⟩)
 refine .skipgo idQ (.seq (.seq ?_))
 obtain ⟨b1_, b2_, b3_, b4_⟩ := p4 (by simp_all)
 have hfit := p8 (by simp_all)
 refine .region ?_
 refine .v (ev_as rfl rfl) rfl ?_
 refine .go idQ (.block ?_)
 refine .loop (X := Int) (fun i => 0 ≤ i ∧ i ≤ path.size ∧ ∀ x ∈ (bs path).take i.toNat, ¬ x < 32) (fun i => [(1, .int .i64 ai), (2, .int .u8 cv), (3, .pointer (some ⟨b1, 0, none⟩)), (7, .int .i64 i)]) (fun i => [cel b1 [.int .i64 cd, .int .i64 at_, .string path, .bool op, .int .i64 x0, .int .i64 x1, .int .i64 x2, .int .i64 x3, .int .i64 x4, .int .i64 x5, .int .i64 x6, .int .i64 x7, .slice pA ps.length pc, .slice kA lf.length kc] 30]) (fun _ => S) (fun _ => wf) (fun i => (path.size - i.toNat)) (fun a_ w_ hs_ hw_ => ⟨0, (by exact ⟨by omega, by omega, by simp⟩), hs_.mono (Sub.get (.c rfl (.c rfl (.c rfl (.c rfl .n))))), hw_.keep (.c .h .n)⟩) (fun i ⟨q_0, q_1, q_2⟩ => ?_)
 show SC _ _ _ _ _ ⟨[(1, .int .i64 ai), (2, .int .u8 cv), (3, .pointer (some ⟨b1, 0, none⟩)), (7, .int .i64 i)], [cel b1 [.int .i64 cd, .int .i64 at_, .string path, .bool op, .int .i64 x0, .int .i64 x1, .int .i64 x2, .int .i64 x3, .int .i64 x4, .int .i64 x5, .int .i64 x6, .int .i64 x7, .slice pA ps.length pc, .slice kA lf.length kc] 30], S, wf⟩
 refine .seq (.seq (.region ?_))
 refine .v (ev_mv rfl rfl) rfl ?_
 refine .v (ev_fa rfl fo30_0 rfl (r := 0) rfl) rfl ?_
 refine .v (ev_fa rfl fo24_2 rfl (r := 2) rfl) rfl ?_
 refine .v (ev_ld1 rfl ty9 rfl (At.own1 0 rfl rfl)) rfl ?_
 refine .v (ev_lens rfl Try.underlying9 rfl) rfl ?_
 refine .v (ev_cmp rfl rfl rfl rfl) rfl ?_
 refine .go idQ ?_
 refine .condI rfl bD (fun h10 => ?_) (fun h10 => ?_)
 ·
  refine .skipgo idQ (.seq (.block (.seq (.region ?_))))
  refine .v (ev_fa rfl fo30_0 rfl (r := 0) rfl) rfl ?_
  refine .v (ev_fa rfl fo24_2 rfl (r := 2) rfl) rfl ?_
  refine .v (ev_ld1 rfl ty9 rfl (At.own1 0 rfl rfl)) rfl ?_
  refine .v (ev_mv rfl rfl) rfl ?_
  refine .v (ev_ixs rfl Try.underlying9 rfl rfl (by omega) (by first | omega | (rw [bs_len]; omega) | decide)) rfl ?_
  refine .v (ev_cmp rfl rfl rfl rfl) rfl ?_
  refine .go idQ ?_
  refine .condI rfl bD (fun h11 => ?_) (fun h11 => ?_)
  ·
   refine .seq (.region ?_)
   refine .v (ev_as rfl rfl) rfl ?_
   refine .go idQ ?_
   exact .ret idQ (ret1 Try.results7 rfl .n ⟨rfl, rfl⟩)
  refine .skipgo idQ (.region ?_)
  refine .v (ev_mv rfl rfl) rfl ?_
  refine .v (ev_add rfl rfl rfl (r := (i + 1)) rfl (by omega) (by omega)) rfl ?_
  refine .v (ev_as rfl rfl) rfl ?_
  exact SP.nil (SQ.roundb (X := Int) (x := (i)) (i + 1) (by exact ⟨by omega, by omega, cl_next q_2 q_0 (by rw [bs_len]; omega) (by assumption)⟩) (by show (_ : Nat) < _; omega) (Sub.get (.c rfl (.c rfl (.c rfl (.c rfl .n))))) (fun w hw => hw.keep (.c .h .n)))
 refine .exit idQ ?_
 refine .seq ?_
 have hcl := cln_reply (cd := cd) (at_ := at_) (path := path) (op := op) (su := ⟨x0, x1, x2, x3, x4, x5, x6, x7⟩) (ps := ps) (lf := lf) (cl_end q_2 (by omega))
 refine .region ?_
 refine .v (ev_lda rfl rfl (At.whole 0 rfl) ty30) rfl ?_
 refine .cons (st_call00 rfl rfl rfl rfl hbd13 rfl .n (text_ cd at_ path op x0 x1 x2 x3 x4 x5 x6 x7 pA pc ps kA kc lf _ _ hP hK hN b1_ b2_ b3_ b4_ hfit) (by intro v C h; obtain ⟨_, _, _, rfl, rfl⟩ := h; rfl) (fun v_q13 q13 => ?_))
 obtain ⟨o12, p14, p15, rfl, -⟩ := q13
 have hpos_ := txt_pos cd at_ path op ⟨x0, x1, x2, x3, x4, x5, x6, x7⟩ ps lf
 rw [← p14, bs_len] at hpos_
 refine .cons (st_s2b rfl rfl rfl rfl Try.underlying9 Try.underlying36 Try.underlying5 rfl (by omega) (fun b16 c17 hc18 hc19 => ?_))
 unfold maxLen at hc19
 have hbl20 := bs_len o12
 refine .v (ev_as rfl rfl) rfl ?_
 refine .go idQ (.seq (.seq (.region ?_)))
 refine .v (ev_mv rfl rfl) rfl ?_
 refine .v (ev_len rfl Try.underlying36 rfl) rfl ?_
 refine .v (ev_cmp rfl rfl rfl rfl) rfl ?_
 refine .go idQ ?_
 refine .condI rfl bD (fun h21 => ?_) (fun h21 => ?_)
 ·
  refine .seq (.region ?_)
  refine .v (ev_as rfl rfl) rfl ?_
  refine .go idQ ?_
  exact .ret idQ (ret1 Try.results7 rfl .n ⟨rfl, rfl⟩)
 refine .skipgo idQ (.seq ?_)
 have hun_ : IntKind.u64.wrap (o12.size : Int) = o12.size := by rw [IntKind.wrap_u64]; omega
 have hum_ := umod_rng (a := ai) (n := (o12.size : Int)) (by omega) (by omega)
 refine .region ?_
 refine .v (ev_mv rfl rfl) rfl ?_
 refine .v (ev_cv rfl Try.underlying3 Try.underlying48 rfl rfl) rfl ?_
 refine .v (ev_mv rfl rfl) rfl ?_
 refine .v (ev_len rfl Try.underlying36 rfl) rfl ?_
 refine .v (ev_cv rfl Try.underlying3 Try.underlying48 rfl rfl) rfl ?_
 refine .v (ev_rem rfl rfl rfl (by omega)) rfl ?_
 refine .v (ev_cv rfl Try.underlying48 Try.underlying3 rfl rfl) rfl ?_
 refine .v (ev_as rfl rfl) rfl ?_
 refine .go idQ (.seq (.seq (.region ?_)))
 refine .v (ev_mv rfl rfl) rfl ?_
 refine .v (ev_mv rfl rfl) rfl ?_
 refine .v (ev_ix rfl Try.underlying36 ty5 rfl rfl (by omega) (by omega) (ro_adr (i := (IntKind.i64.wrap (Int.tmod (IntKind.u64.wrap ai) (IntKind.u64.wrap (o12.size : Int))))) 0 rfl (by omega) (by first | omega | simp only [LL] <;> omega | simp <;> omega))) rfl ?_
 refine .v (ev_ld1 rfl ty5 rfl (At.elem1 (ro_el (E := eY) (l := (bs o12)) (i := (IntKind.i64.wrap (Int.tmod (IntKind.u64.wrap ai) (IntKind.u64.wrap (o12.size : Int))))) 0 rfl (by omega) (by first | omega | simp only [LL] <;> omega | simp <;> omega)) 0 rfl)) rfl ?_
 refine .v (ev_mv rfl rfl) rfl ?_
 refine .v (ev_cmp rfl rfl rfl rfl) rfl ?_
 refine .go idQ ?_
 refine .condI rfl bE (fun h22 => ?_) (fun h22 => ?_)
 ·
  refine .seq (.region ?_)
  refine .v (ev_as rfl rfl) rfl ?_
  refine .go idQ ?_
  exact .ret idQ (ret1 Try.results7 rfl .n ⟨rfl, rfl⟩)
 refine .skipgo idQ (.seq (.region ?_))
 refine .v (ev_mv rfl rfl) rfl ?_
 refine .v (ev_mv rfl rfl) rfl ?_
 refine .v (ev_mv rfl rfl) rfl ?_
 refine .v (ev_ix rfl Try.underlying36 ty5 rfl rfl (by omega) (by omega) (ro_adr (i := (IntKind.i64.wrap (Int.tmod (IntKind.u64.wrap ai) (IntKind.u64.wrap (o12.size : Int))))) 0 rfl (by omega) (by first | omega | simp only [LL] <;> omega | simp <;> omega))) rfl ?_
 refine .cons (st_setro (i := (IntKind.i64.wrap (Int.tmod (IntKind.u64.wrap ai) (IntKind.u64.wrap (o12.size : Int))))) (z := cv) rfl rfl rfl ty5 rfl rfl rfl .h (by first | omega | simp only [LL] <;> omega | simp <;> omega) (by first | omega | simp only [LL] <;> omega | simp <;> omega) ?_)
 refine .go idQ (.seq (.region ?_))
 refine .v (ev_mv rfl rfl) rfl ?_
 refine .cons (st_lend0 rfl rfl rfl rfl hbd14 rfl .n (.c .h .n) (fun w_ hw => parse_ (some ⟨b16, 0, none⟩) o12.size c17 ((bs o12).set ((IntKind.i64.wrap (Int.tmod (IntKind.u64.wrap ai) (IntKind.u64.wrap (o12.size : Int))))).toNat cv) _ _ (Fr.lendo hw 0 rfl (by first | omega | simp only [LL] <;> omega | simp <;> omega)) (by rw [List.length_set]; omega) (set_range (bs_range o12) hcv) (by omega)) (fun v_q27 C_q27 q27 => ?_))
 obtain ⟨at_23, e24, u25, L26, p28, p29, p30, p31, rfl, rfl⟩ := q27
 show SP _ _ _ _ _ _ ⟨_, _ :: _ :: _ :: _, _, _⟩
 have hKW_ := parse_kw (set_range (bs_range o12) hcv) p29 p31
 refine .v (ev_mv rfl rfl) rfl ?_
 refine .v (ev_ext rfl rfl rfl) rfl ?_
 refine .v (ev_ext rfl rfl rfl) rfl ?_
 refine .v (ev_ext rfl rfl rfl) rfl ?_
 refine .v (ev_as rfl rfl) rfl ?_
 refine .v (ev_as rfl rfl) rfl ?_
 refine .v (ev_as rfl rfl) rfl ?_
 refine .go idQ (.seq (.seq (.region ?_)))
 refine .v (ev_mv rfl rfl) rfl ?_
 refine .v (ev_cmp rfl rfl rfl rfl) rfl ?_
 refine .go idQ ?_
 refine .condI rfl bNE (fun h32 => ?_) (fun h32 => ?_)
 ·
  refine .seq (.region ?_)
  refine .v (ev_as rfl rfl) rfl ?_
  refine .go idQ ?_
  exact .ret idQ (ret1 Try.results7 rfl .n ⟨rfl, rfl⟩)
 refine .skipgo idQ (.seq (.region ?_))
 refine .v (ev_mv rfl rfl) rfl ?_
 refine .know (row_len 0 rfl) (fun hv35 => ?_)
 obtain ⟨A33, c34, rfl, hv35_1, hv35_2⟩ := hv35
 unfold maxLen at hv35_2
 refine .cons (st_lend0 rfl rfl rfl rfl hbd17 rfl .n (.c .h (.c .h .n)) (fun w_ hw => read_g A33 L26.length c34 L26 _ _ (Fr.lend hw 0 rfl (by first | omega | simp only [LL] <;> omega | simp <;> omega)) (NT.lend hw 1 rfl) (by first | omega | simp only [LL] <;> omega | simp <;> omega) hKW_) (fun v_q55 C_q55 q55 => ?_))
 obtain ⟨cd36, at_37, path38, op39, x040, x141, x242, x343, x444, x545, x646, x747, pA48, pc49, Ps50, kA51, kc52, Lt53, ok54, p56, p57, p58, p59, rfl, rfl⟩ := q55
 show SP _ _ _ _ _ _ ⟨_, _ :: _ :: _ :: _ :: _ :: _, _, _⟩
 refine .v (ev_mv rfl rfl) rfl ?_
 refine .v (ev_ext rfl rfl rfl) rfl ?_
 refine .v (ev_ext rfl rfl rfl) rfl ?_
 refine .cons (st_alloc rfl rfl rfl rfl zf30 (fun b60 => ?_))
 refine .cons (st_storea (l' := [.int .i64 cd36, .int .i64 at_37, .string path38, .bool op39, .int .i64 x040, .int .i64 x141, .int .i64 x242, .int .i64 x343, .int .i64 x444, .int .i64 x545, .int .i64 x646, .int .i64 x747, .slice pA48 Ps50.length pc49, .slice kA51 Lt53.length kc52]) rfl rfl rfl ty30 rfl rfl rfl .h rfl rfl ?_)
 refine .v (ev_as rfl rfl) rfl ?_
 refine .go idQ (.seq (.region ?_))
 refine .v (ev_mv rfl rfl) rfl ?_
 refine .v (ev_not rfl rfl) rfl ?_
 refine .v (ev_mv rfl rfl) rfl ?_
 refine .w (fun _ => ev_lda rfl rfl (At.whole 0 rfl) ty30) rfl ?_
 refine .w (fun _ => ev_lda rfl rfl (At.whole 7 rfl) ty30) rfl ?_
 rcases Bool.eq_false_or_eq_true (!ok54) with hb61 | hb61
 ·
  refine SP.reslot (t := 76) rfl hb61 ?_
  have hb61_ := bT (bN bV) hb61
  refine .cons (.off rfl rfl rfl rfl rfl rfl ?_)
  refine .cons (.off rfl rfl rfl rfl rfl rfl ?_)
  refine .v (ev_pickt rfl rfl rfl rfl) rfl ?_
  refine .v (ev_mv rfl rfl) rfl ?_
  refine .cons (.off rfl rfl rfl rfl rfl rfl ?_)
  refine .cons (.off rfl rfl rfl rfl rfl rfl ?_)
  refine .cons (.off rfl rfl rfl rfl rfl rfl ?_)
  refine .cons (.off rfl rfl rfl rfl rfl rfl ?_)
  refine .cons (.off rfl rfl rfl rfl rfl rfl ?_)
  refine .cons (.offu rfl rfl rfl rfl rfl ?_)
  refine .cons (.offu rfl rfl rfl rfl rfl ?_)
  refine .cons (.offu rfl rfl rfl rfl rfl ?_)
  refine .cons (.off rfl rfl rfl rfl rfl rfl ?_)
  refine .v (ev_pickt rfl rfl rfl rfl) rfl ?_
  refine .v (ev_as rfl rfl) rfl ?_
  refine .go idQ ?_
  exact .ret idQ (ret1 Try.results7 rfl .n ⟨rfl, rfl⟩)
 refine SP.reslot (t := 76) rfl hb61 ?_
 have hb61_ := bF (bN bV) hb61
 refine .cons (.on rfl rfl rfl (st_lend0 rfl rfl rfl rfl hbd18 (lkA1 (lkg rfl hb61) (lkA1 (lkg rfl hb61) lkA0)) .n (.c (.t .h) (.c (.t (.t .h)) (.c (.t .h) .n))) (fun w_ hw => sameRc cd36 at_37 path38 op39 x040 x141 x242 x343 x444 x545 x646 x747 pA48 pc49 Ps50 kA51 kc52 Lt53 cd at_ path op x0 x1 x2 x3 x4 x5 x6 x7 pA pc ps kA kc lf _ _ (Fr.lend hw 0 rfl (by first | omega | simp only [LL] <;> omega | simp <;> omega)) (Fr.ext hP hw.lendx) (Fr.lend hw 1 rfl (by first | omega | simp only [LL] <;> omega | simp <;> omega)) (Fr.ext hK hw.lendx) (NP.lend hw 2 rfl) ((hN).ext hw.lendx)) (fun v_q63 C_q63 q63 => ?_)))
 obtain ⟨r62, p64, rfl, rfl⟩ := q63
 show SP _ _ _ _ _ _ ⟨_, _ :: _ :: _ :: _, _, _⟩
 have hno_ : ¬ r62 = true := fun h_ => spoil_no p14 hcv hum_.1 hum_.2 (by assumption) (by rw [← p28]; omega) p29 ((lay_reply cd at_ path op ⟨x0, x1, x2, x3, x4, x5, x6, x7⟩ ps lf).trans ((p64 h_).symm.trans (p59 (by simp_all)))) hcl
 refine .cons (.on rfl rfl rfl (Ev.step (ev_not rfl rfl) rfl rfl rfl ?_))
 refine .v (ev_pickf rfl rfl rfl rfl) rfl ?_
 refine .v (ev_mv rfl rfl) rfl ?_
 refine .w (fun _ => ev_fa rfl fo30_0 rfl (r := 0) rfl) rfl ?_
 refine .w (fun hb => ev_fa rfl fo24_0 (lkg rfl hb) (r := 0) rfl) rfl ?_
 refine .w (fun hb => ev_ld1 rfl ty22 (lkg rfl hb) (At.own1 7 rfl rfl)) rfl ?_
 refine .w (fun hb => ev_cmp rfl (lkg rfl hb) rfl rfl) rfl ?_
 refine .w (fun hb => ev_mv rfl (lkg rfl hb)) rfl ?_
 rcases Bool.eq_false_or_eq_true (!r62) with hb65 | hb65
 ·
  have hb65_ := bT (bN bV) hb65
  refine SP.reslotv (t := 87) rfl (gv_off hb65) ?_
  refine .cons (.offu rfl rfl rfl rfl rfl ?_)
  refine .cons (.offu rfl rfl rfl rfl rfl ?_)
  refine .cons (.offu rfl rfl rfl rfl rfl ?_)
  refine SP.reslot (t := 82) rfl hb65 ?_
  refine .cons (.off rfl rfl rfl rfl rfl rfl ?_)
  refine .v (ev_pickt rfl rfl rfl rfl) rfl ?_
  refine .v (ev_as rfl rfl) rfl ?_
  refine .go idQ ?_
  exact .ret idQ (ret1 Try.results7 rfl .n ⟨rfl, rfl⟩)
 have hb65_ := bF (bN bV) hb65
 refine SP.reslotv (t := 87) rfl (gv_on hb65) ?_
 refine .w (fun _ => ev_lda rfl rfl (At.whole 7 rfl) ty30) rfl ?_
 rcases Bool.eq_false_or_eq_true (cd == 0) with hb66 | hb66
 ·
  refine SP.reslot (t := 87) rfl hb66 ?_
  have hb66_ := bT bE hb66
  refine .cons (.on rfl rfl rfl (st_call00 rfl rfl rfl rfl hbd16 (lkA1 (lkg rfl hb66) lkA0) .n (kindsOk cd at_ path op x0 x1 x2 x3 x4 x5 x6 x7 pA pc ps kA kc lf _ _ hP hN) (by intro v C h; obtain ⟨_, _, rfl, rfl⟩ := h; rfl) (fun v_q68 q68 => ?_)))
  obtain ⟨r67, p69, rfl, -⟩ := q68
  refine .cons (.on rfl rfl rfl (Ev.step (ev_not rfl rfl) rfl rfl rfl ?_))
  refine SP.reslot (t := 82) rfl hb65 ?_
  refine .cons (.on rfl rfl rfl (Ev.step (ev_pickt rfl rfl rfl rfl) rfl rfl rfl ?_))
  refine .v (ev_pickf rfl rfl rfl rfl) rfl ?_
  refine .v (ev_as rfl rfl) rfl ?_
  refine .go idQ ?_
  exact .ret idQ (ret1 Try.results7 rfl .n ⟨(by simp_all), rfl⟩)
 refine SP.reslot (t := 87) rfl hb66 ?_
 have hb66_ := bF bE hb66
 refine .cons (.off rfl rfl rfl rfl rfl rfl ?_)
 refine .cons (.off rfl rfl rfl rfl rfl rfl ?_)
 refine SP.reslot (t := 82) rfl hb65 ?_
 refine .cons (.on rfl rfl rfl (Ev.step (ev_pickf rfl rfl rfl rfl) rfl rfl rfl ?_))
 refine .v (ev_pickf rfl rfl rfl rfl) rfl ?_
 refine .v (ev_as rfl rfl) rfl ?_
 refine .go idQ ?_
 exact .ret idQ (ret1 Try.results7 rfl .n ⟨(by simp_all), rfl⟩)
end Go.Proofs.Ythmkelkefmfmgaa.Sx
set_option maxRecDepth 20000
namespace Go.Proofs.Ythmkelkefmfmgaa.Sx
open Go Go.SX Go.Proofs
theorem cO58 : Try.prog.cellsOf 58 = 9 := by kernel_rfl
theorem cO52 : Try.prog.cellsOf 52 = 7 := by kernel_rfl
theorem cO62 : Try.prog.cellsOf 62 = 2 := by kernel_rfl
theorem cO30 : Try.prog.cellsOf 30 = 14 := by kernel_rfl
theorem cO24 : Try.prog.cellsOf 24 = 3 := by kernel_rfl
theorem cO26 : Try.prog.cellsOf 26 = 8 := by kernel_rfl
theorem cO55 : Try.prog.cellsOf 55 = 2 := by kernel_rfl
theorem cO22 : Try.prog.cellsOf 22 = 1 := by kernel_rfl
theorem cO3 : Try.prog.cellsOf 3 = 1 := by kernel_rfl
theorem cO9 : Try.prog.cellsOf 9 = 1 := by kernel_rfl
theorem cO4 : Try.prog.cellsOf 4 = 1 := by kernel_rfl
theorem cO53 : Try.prog.cellsOf 53 = 1 := by kernel_rfl
theorem cO56 : Try.prog.cellsOf 56 = 1 := by kernel_rfl
theorem cO50 : Try.prog.cellsOf 50 = 1 := by kernel_rfl
theorem cO27 : Try.prog.cellsOf 27 = 1 := by kernel_rfl
theorem cO28 : Try.prog.cellsOf 28 = 1 := by kernel_rfl
def eSU : Enc SU where
 sz := 8
 enc x := [.int .i64 x.routes, .int .i64 x.value, .int .i64 x.cost, .int .i64 x.time, .int .i64 x.dist, .int .i64 x.wait, .int .i64 x.serv, .int .i64 x.left]
 len _ := rfl
 one x u hu := by simp at hu; rcases hu with rfl | rfl | rfl | rfl | rfl | rfl | rfl | rfl <;> rfl
 pos := by decide
structure Fl where
 cd : Int
 at_ : Int
 path : ByteArray
def eFl : Enc Fl where
 sz := 3
 enc x := [.int .i64 x.cd, .int .i64 x.at_, .string x.path]
 len _ := rfl
 one x u hu := by simp at hu; rcases hu with rfl | rfl | rfl <;> rfl
 pos := by decide
section
variable {w : World}
theorem tw55 : TellsW Try.prog w 55 eVis (fun _ => True) := by
 intro H enc base spare held n cs y h hw
 obtain ⟨k, hl, hf⟩ := struct_w Try.underlying55 h hw
 rw [cO55] at hl
 match cs, hl with
 | [v0, v1], _ =>
  obtain ⟨y0, h0, w0⟩ := hf 0 _ rfl
  replace h0 : DataW.trod enc Try.prog w base spare held k 53 (([v0, v1].drop 0).take (Try.prog.cellsOf 53)) = some y0 := h0
  rw [cO53] at h0
  replace h0 : DataW.trod enc Try.prog w base spare held k 53 [v0] = some y0 := h0
  obtain ⟨y1, h1, w1⟩ := hf 1 _ rfl
  replace h1 : DataW.trod enc Try.prog w base spare held k 3 (([v0, v1].drop 1).take (Try.prog.cellsOf 3)) = some y1 := h1
  rw [cO3] at h1
  replace h1 : DataW.trod enc Try.prog w base spare held k 3 [v1] = some y1 := h1
  obtain ⟨m0, e0, _, _⟩ := DataW.trod_int Try.underlying53 h0
  simp only [List.cons.injEq, and_true] at e0
  subst e0
  obtain ⟨m1, e1, _, _⟩ := DataW.trod_int Try.underlying3 h1
  simp only [List.cons.injEq, and_true] at e1
  subst e1
  exact ⟨⟨m0, m1⟩, rfl, trivial⟩
theorem tw26 : TellsW Try.prog w 26 eSU (fun _ => True) := by
 intro H enc base spare held n cs y h hw
 obtain ⟨k, hl, hf⟩ := struct_w Try.underlying26 h hw
 rw [cO26] at hl
 match cs, hl with
 | [v0, v1, v2, v3, v4, v5, v6, v7], _ =>
  obtain ⟨y0, h0, w0⟩ := hf 0 _ rfl
  replace h0 : DataW.trod enc Try.prog w base spare held k 3 (([v0, v1, v2, v3, v4, v5, v6, v7].drop 0).take (Try.prog.cellsOf 3)) = some y0 := h0
  rw [cO3] at h0
  replace h0 : DataW.trod enc Try.prog w base spare held k 3 [v0] = some y0 := h0
  obtain ⟨y1, h1, w1⟩ := hf 1 _ rfl
  replace h1 : DataW.trod enc Try.prog w base spare held k 3 (([v0, v1, v2, v3, v4, v5, v6, v7].drop 1).take (Try.prog.cellsOf 3)) = some y1 := h1
  rw [cO3] at h1
  replace h1 : DataW.trod enc Try.prog w base spare held k 3 [v1] = some y1 := h1
  obtain ⟨y2, h2, w2⟩ := hf 2 _ rfl
  replace h2 : DataW.trod enc Try.prog w base spare held k 3 (([v0, v1, v2, v3, v4, v5, v6, v7].drop 2).take (Try.prog.cellsOf 3)) = some y2 := h2
  rw [cO3] at h2
  replace h2 : DataW.trod enc Try.prog w base spare held k 3 [v2] = some y2 := h2
  obtain ⟨y3, h3, w3⟩ := hf 3 _ rfl
  replace h3 : DataW.trod enc Try.prog w base spare held k 3 (([v0, v1, v2, v3, v4, v5, v6, v7].drop 3).take (Try.prog.cellsOf 3)) = some y3 := h3
  rw [cO3] at h3
  replace h3 : DataW.trod enc Try.prog w base spare held k 3 [v3] = some y3 := h3
  obtain ⟨y4, h4, w4⟩ := hf 4 _ rfl
  replace h4 : DataW.trod enc Try.prog w base spare held k 3 (([v0, v1, v2, v3, v4, v5, v6, v7].drop 4).take (Try.prog.cellsOf 3)) = some y4 := h4
  rw [cO3] at h4
  replace h4 : DataW.trod enc Try.prog w base spare held k 3 [v4] = some y4 := h4
  obtain ⟨y5, h5, w5⟩ := hf 5 _ rfl
  replace h5 : DataW.trod enc Try.prog w base spare held k 3 (([v0, v1, v2, v3, v4, v5, v6, v7].drop 5).take (Try.prog.cellsOf 3)) = some y5 := h5
  rw [cO3] at h5
  replace h5 : DataW.trod enc Try.prog w base spare held k 3 [v5] = some y5 := h5
  obtain ⟨y6, h6, w6⟩ := hf 6 _ rfl
  replace h6 : DataW.trod enc Try.prog w base spare held k 3 (([v0, v1, v2, v3, v4, v5, v6, v7].drop 6).take (Try.prog.cellsOf 3)) = some y6 := h6
  rw [cO3] at h6
  replace h6 : DataW.trod enc Try.prog w base spare held k 3 [v6] = some y6 := h6
  obtain ⟨y7, h7, w7⟩ := hf 7 _ rfl
  replace h7 : DataW.trod enc Try.prog w base spare held k 3 (([v0, v1, v2, v3, v4, v5, v6, v7].drop 7).take (Try.prog.cellsOf 3)) = some y7 := h7
  rw [cO3] at h7
  replace h7 : DataW.trod enc Try.prog w base spare held k 3 [v7] = some y7 := h7
  obtain ⟨m0, e0, _, _⟩ := DataW.trod_int Try.underlying3 h0
  simp only [List.cons.injEq, and_true] at e0
  subst e0
  obtain ⟨m1, e1, _, _⟩ := DataW.trod_int Try.underlying3 h1
  simp only [List.cons.injEq, and_true] at e1
  subst e1
  obtain ⟨m2, e2, _, _⟩ := DataW.trod_int Try.underlying3 h2
  simp only [List.cons.injEq, and_true] at e2
  subst e2
  obtain ⟨m3, e3, _, _⟩ := DataW.trod_int Try.underlying3 h3
  simp only [List.cons.injEq, and_true] at e3
  subst e3
  obtain ⟨m4, e4, _, _⟩ := DataW.trod_int Try.underlying3 h4
  simp only [List.cons.injEq, and_true] at e4
  subst e4
  obtain ⟨m5, e5, _, _⟩ := DataW.trod_int Try.underlying3 h5
  simp only [List.cons.injEq, and_true] at e5
  subst e5
  obtain ⟨m6, e6, _, _⟩ := DataW.trod_int Try.underlying3 h6
  simp only [List.cons.injEq, and_true] at e6
  subst e6
  obtain ⟨m7, e7, _, _⟩ := DataW.trod_int Try.underlying3 h7
  simp only [List.cons.injEq, and_true] at e7
  subst e7
  exact ⟨⟨m0, m1, m2, m3, m4, m5, m6, m7⟩, rfl, trivial⟩
theorem tw24 : TellsW Try.prog w 24 eFl (fun _ => True) := by
 intro H enc base spare held n cs y h hw
 obtain ⟨k, hl, hf⟩ := struct_w Try.underlying24 h hw
 rw [cO24] at hl
 match cs, hl with
 | [v0, v1, v2], _ =>
  obtain ⟨y0, h0, w0⟩ := hf 0 _ rfl
  replace h0 : DataW.trod enc Try.prog w base spare held k 22 (([v0, v1, v2].drop 0).take (Try.prog.cellsOf 22)) = some y0 := h0
  rw [cO22] at h0
  replace h0 : DataW.trod enc Try.prog w base spare held k 22 [v0] = some y0 := h0
  obtain ⟨y1, h1, w1⟩ := hf 1 _ rfl
  replace h1 : DataW.trod enc Try.prog w base spare held k 3 (([v0, v1, v2].drop 1).take (Try.prog.cellsOf 3)) = some y1 := h1
  rw [cO3] at h1
  replace h1 : DataW.trod enc Try.prog w base spare held k 3 [v1] = some y1 := h1
  obtain ⟨y2, h2, w2⟩ := hf 2 _ rfl
  replace h2 : DataW.trod enc Try.prog w base spare held k 9 (([v0, v1, v2].drop 2).take (Try.prog.cellsOf 9)) = some y2 := h2
  rw [cO9] at h2
  replace h2 : DataW.trod enc Try.prog w base spare held k 9 [v2] = some y2 := h2
  obtain ⟨m0, e0, _, _⟩ := DataW.trod_int Try.underlying22 h0
  simp only [List.cons.injEq, and_true] at e0
  subst e0
  obtain ⟨m1, e1, _, _⟩ := DataW.trod_int Try.underlying3 h1
  simp only [List.cons.injEq, and_true] at e1
  subst e1
  obtain ⟨m2, e2, _, _⟩ := DataW.trod_string Try.underlying9 h2
  simp only [List.cons.injEq, and_true] at e2
  subst e2
  exact ⟨⟨m0, m1, m2⟩, rfl, trivial⟩
theorem tw62 : TellsW Try.prog w 62 eTK (fun _ => True) := by
 intro H enc base spare held n cs y h hw
 obtain ⟨k, hl, hf⟩ := struct_w Try.underlying62 h hw
 rw [cO62] at hl
 match cs, hl with
 | [v0, v1], _ =>
  obtain ⟨y0, h0, w0⟩ := hf 0 _ rfl
  replace h0 : DataW.trod enc Try.prog w base spare held k 4 (([v0, v1].drop 0).take (Try.prog.cellsOf 4)) = some y0 := h0
  rw [cO4] at h0
  replace h0 : DataW.trod enc Try.prog w base spare held k 4 [v0] = some y0 := h0
  obtain ⟨y1, h1, w1⟩ := hf 1 _ rfl
  replace h1 : DataW.trod enc Try.prog w base spare held k 3 (([v0, v1].drop 1).take (Try.prog.cellsOf 3)) = some y1 := h1
  rw [cO3] at h1
  replace h1 : DataW.trod enc Try.prog w base spare held k 3 [v1] = some y1 := h1
  obtain ⟨m0, e0, _⟩ := DataW.trod_bool Try.underlying4 h0
  simp only [List.cons.injEq, and_true] at e0
  subst e0
  obtain ⟨m1, e1, _, _⟩ := DataW.trod_int Try.underlying3 h1
  simp only [List.cons.injEq, and_true] at e1
  subst e1
  exact ⟨⟨m0, m1⟩, rfl, trivial⟩
theorem tw58 : TellsW Try.prog w 58 eST (fun s => Fr eZ (fun b => b < w.heap.size) w s.lA s.load) := by
 intro H enc base spare held n cs y h hw
 obtain ⟨k, hl, hf⟩ := struct_w Try.underlying58 h hw
 rw [cO58] at hl
 match cs, hl with
 | [v0, v1, v2, v3, v4, v5, v6, v7, v8], _ =>
  obtain ⟨y0, h0, w0⟩ := hf 0 _ rfl
  replace h0 : DataW.trod enc Try.prog w base spare held k 55 (([v0, v1, v2, v3, v4, v5, v6, v7, v8].drop 0).take (Try.prog.cellsOf 55)) = some y0 := h0
  rw [cO55] at h0
  replace h0 : DataW.trod enc Try.prog w base spare held k 55 [v0, v1] = some y0 := h0
  obtain ⟨y1, h1, w1⟩ := hf 1 _ rfl
  replace h1 : DataW.trod enc Try.prog w base spare held k 3 (([v0, v1, v2, v3, v4, v5, v6, v7, v8].drop 2).take (Try.prog.cellsOf 3)) = some y1 := h1
  rw [cO3] at h1
  replace h1 : DataW.trod enc Try.prog w base spare held k 3 [v2] = some y1 := h1
  obtain ⟨y2, h2, w2⟩ := hf 2 _ rfl
  replace h2 : DataW.trod enc Try.prog w base spare held k 3 (([v0, v1, v2, v3, v4, v5, v6, v7, v8].drop 3).take (Try.prog.cellsOf 3)) = some y2 := h2
  rw [cO3] at h2
  replace h2 : DataW.trod enc Try.prog w base spare held k 3 [v3] = some y2 := h2
  obtain ⟨y3, h3, w3⟩ := hf 3 _ rfl
  replace h3 : DataW.trod enc Try.prog w base spare held k 3 (([v0, v1, v2, v3, v4, v5, v6, v7, v8].drop 4).take (Try.prog.cellsOf 3)) = some y3 := h3
  rw [cO3] at h3
  replace h3 : DataW.trod enc Try.prog w base spare held k 3 [v4] = some y3 := h3
  obtain ⟨y4, h4, w4⟩ := hf 4 _ rfl
  replace h4 : DataW.trod enc Try.prog w base spare held k 3 (([v0, v1, v2, v3, v4, v5, v6, v7, v8].drop 5).take (Try.prog.cellsOf 3)) = some y4 := h4
  rw [cO3] at h4
  replace h4 : DataW.trod enc Try.prog w base spare held k 3 [v5] = some y4 := h4
  obtain ⟨y5, h5, w5⟩ := hf 5 _ rfl
  replace h5 : DataW.trod enc Try.prog w base spare held k 56 (([v0, v1, v2, v3, v4, v5, v6, v7, v8].drop 6).take (Try.prog.cellsOf 56)) = some y5 := h5
  rw [cO56] at h5
  replace h5 : DataW.trod enc Try.prog w base spare held k 56 [v6] = some y5 := h5
  obtain ⟨y6, h6, w6⟩ := hf 6 _ rfl
  replace h6 : DataW.trod enc Try.prog w base spare held k 3 (([v0, v1, v2, v3, v4, v5, v6, v7, v8].drop 7).take (Try.prog.cellsOf 3)) = some y6 := h6
  rw [cO3] at h6
  replace h6 : DataW.trod enc Try.prog w base spare held k 3 [v7] = some y6 := h6
  obtain ⟨y7, h7, w7⟩ := hf 7 _ rfl
  replace h7 : DataW.trod enc Try.prog w base spare held k 3 (([v0, v1, v2, v3, v4, v5, v6, v7, v8].drop 8).take (Try.prog.cellsOf 3)) = some y7 := h7
  rw [cO3] at h7
  replace h7 : DataW.trod enc Try.prog w base spare held k 3 [v8] = some y7 := h7
  obtain ⟨m1, e1, _, _⟩ := DataW.trod_int Try.underlying3 h1
  simp only [List.cons.injEq, and_true] at e1
  subst e1
  obtain ⟨m2, e2, _, _⟩ := DataW.trod_int Try.underlying3 h2
  simp only [List.cons.injEq, and_true] at e2
  subst e2
  obtain ⟨m3, e3, _, _⟩ := DataW.trod_int Try.underlying3 h3
  simp only [List.cons.injEq, and_true] at e3
  subst e3
  obtain ⟨m4, e4, _, _⟩ := DataW.trod_int Try.underlying3 h4
  simp only [List.cons.injEq, and_true] at e4
  subst e4
  obtain ⟨m6, e6, _, _⟩ := DataW.trod_int Try.underlying3 h6
  simp only [List.cons.injEq, and_true] at e6
  subst e6
  obtain ⟨m7, e7, _, _⟩ := DataW.trod_int Try.underlying3 h7
  simp only [List.cons.injEq, and_true] at e7
  subst e7
  obtain ⟨a, ea, _⟩ := tw55 enc base spare held k _ _ h0 w0
  simp only [eVis, List.cons.injEq, and_true] at ea
  obtain ⟨rfl, rfl⟩ := ea
  obtain ⟨LA, ll, lc, el, fr, _⟩ := rows_w (E := eZ) Try.underlying56 cO3 (int_w Try.underlying3) (by decide +kernel) h5 w5
  simp only [List.cons.injEq, and_true] at el
  subst el
  exact ⟨⟨a.kind, a.item, m1, m2, m3, m4, ll, m6, m7, LA, lc⟩, rfl, fr⟩
theorem tw52 : TellsW Try.prog w 52 ePL (fun p => Fr eST (fun b => b < w.heap.size) w p.sA p.steps ∧ NS (fun b => b < w.heap.size) w p.steps) := by
 intro H enc base spare held n cs y h hw
 obtain ⟨k, hl, hf⟩ := struct_w Try.underlying52 h hw
 rw [cO52] at hl
 match cs, hl with
 | [v0, v1, v2, v3, v4, v5, v6], _ =>
  obtain ⟨y0, h0, w0⟩ := hf 0 _ rfl
  replace h0 : DataW.trod enc Try.prog w base spare held k 3 (([v0, v1, v2, v3, v4, v5, v6].drop 0).take (Try.prog.cellsOf 3)) = some y0 := h0
  rw [cO3] at h0
  replace h0 : DataW.trod enc Try.prog w base spare held k 3 [v0] = some y0 := h0
  obtain ⟨y1, h1, w1⟩ := hf 1 _ rfl
  replace h1 : DataW.trod enc Try.prog w base spare held k 50 (([v0, v1, v2, v3, v4, v5, v6].drop 1).take (Try.prog.cellsOf 50)) = some y1 := h1
  rw [cO50] at h1
  replace h1 : DataW.trod enc Try.prog w base spare held k 50 [v1] = some y1 := h1
  obtain ⟨y2, h2, w2⟩ := hf 2 _ rfl
  replace h2 : DataW.trod enc Try.prog w base spare held k 3 (([v0, v1, v2, v3, v4, v5, v6].drop 2).take (Try.prog.cellsOf 3)) = some y2 := h2
  rw [cO3] at h2
  replace h2 : DataW.trod enc Try.prog w base spare held k 3 [v2] = some y2 := h2
  obtain ⟨y3, h3, w3⟩ := hf 3 _ rfl
  replace h3 : DataW.trod enc Try.prog w base spare held k 3 (([v0, v1, v2, v3, v4, v5, v6].drop 3).take (Try.prog.cellsOf 3)) = some y3 := h3
  rw [cO3] at h3
  replace h3 : DataW.trod enc Try.prog w base spare held k 3 [v3] = some y3 := h3
  obtain ⟨y4, h4, w4⟩ := hf 4 _ rfl
  replace h4 : DataW.trod enc Try.prog w base spare held k 3 (([v0, v1, v2, v3, v4, v5, v6].drop 4).take (Try.prog.cellsOf 3)) = some y4 := h4
  rw [cO3] at h4
  replace h4 : DataW.trod enc Try.prog w base spare held k 3 [v4] = some y4 := h4
  obtain ⟨y5, h5, w5⟩ := hf 5 _ rfl
  replace h5 : DataW.trod enc Try.prog w base spare held k 3 (([v0, v1, v2, v3, v4, v5, v6].drop 5).take (Try.prog.cellsOf 3)) = some y5 := h5
  rw [cO3] at h5
  replace h5 : DataW.trod enc Try.prog w base spare held k 3 [v5] = some y5 := h5
  obtain ⟨y6, h6, w6⟩ := hf 6 _ rfl
  replace h6 : DataW.trod enc Try.prog w base spare held k 3 (([v0, v1, v2, v3, v4, v5, v6].drop 6).take (Try.prog.cellsOf 3)) = some y6 := h6
  rw [cO3] at h6
  replace h6 : DataW.trod enc Try.prog w base spare held k 3 [v6] = some y6 := h6
  obtain ⟨m0, e0, _, _⟩ := DataW.trod_int Try.underlying3 h0
  simp only [List.cons.injEq, and_true] at e0
  subst e0
  obtain ⟨m2, e2, _, _⟩ := DataW.trod_int Try.underlying3 h2
  simp only [List.cons.injEq, and_true] at e2
  subst e2
  obtain ⟨m3, e3, _, _⟩ := DataW.trod_int Try.underlying3 h3
  simp only [List.cons.injEq, and_true] at e3
  subst e3
  obtain ⟨m4, e4, _, _⟩ := DataW.trod_int Try.underlying3 h4
  simp only [List.cons.injEq, and_true] at e4
  subst e4
  obtain ⟨m5, e5, _, _⟩ := DataW.trod_int Try.underlying3 h5
  simp only [List.cons.injEq, and_true] at e5
  subst e5
  obtain ⟨m6, e6, _, _⟩ := DataW.trod_int Try.underlying3 h6
  simp only [List.cons.injEq, and_true] at e6
  subst e6
  obtain ⟨LA, ll, lc, el, fr, gd⟩ := rows_w (E := eST) Try.underlying50 cO58 tw58 (by decide +kernel) h1 w1
  simp only [List.cons.injEq, and_true] at el
  subst el
  exact ⟨⟨m0, ll, m2, m3, m4, m5, m6, LA, lc⟩, rfl, fr, gd⟩
structure RP where
 cd : Int
 at_ : Int
 path : ByteArray
 op : Bool
 s : SU
 pA : Option Addr
 pc : Nat
 ps : List PV
 kA : Option Addr
 kc : Nat
 lf : List TK
def eRP : Enc RP where
 sz := 14
 enc x := [.int .i64 x.cd, .int .i64 x.at_, .string x.path, .bool x.op, .int .i64 x.s.routes, .int .i64 x.s.value, .int .i64 x.s.cost, .int .i64 x.s.time, .int .i64 x.s.dist, .int .i64 x.s.wait, .int .i64 x.s.serv, .int .i64 x.s.left, .slice x.pA x.ps.length x.pc, .slice x.kA x.lf.length x.kc]
 len _ := rfl
 one x u hu := by simp at hu; rcases hu with rfl | rfl | rfl | rfl | rfl | rfl | rfl | rfl | rfl | rfl | rfl | rfl | rfl | rfl <;> rfl
 pos := by decide
theorem tw30 : TellsW Try.prog w 30 eRP (fun x => Fr ePL (fun b => b < w.heap.size) w x.pA x.ps ∧ NP (fun b => b < w.heap.size) w x.ps ∧ Fr eTK (fun b => b < w.heap.size) w x.kA x.lf) := by
 intro H enc base spare held n cs y h hw
 obtain ⟨k, hl, hf⟩ := struct_w Try.underlying30 h hw
 rw [cO30] at hl
 match cs, hl with
 | [v0, v1, v2, v3, v4, v5, v6, v7, v8, v9, v10, v11, v12, v13], _ =>
  obtain ⟨y0, h0, w0⟩ := hf 0 _ rfl
  replace h0 : DataW.trod enc Try.prog w base spare held k 24 (([v0, v1, v2, v3, v4, v5, v6, v7, v8, v9, v10, v11, v12, v13].drop 0).take (Try.prog.cellsOf 24)) = some y0 := h0
  rw [cO24] at h0
  replace h0 : DataW.trod enc Try.prog w base spare held k 24 [v0, v1, v2] = some y0 := h0
  obtain ⟨y1, h1, w1⟩ := hf 1 _ rfl
  replace h1 : DataW.trod enc Try.prog w base spare held k 4 (([v0, v1, v2, v3, v4, v5, v6, v7, v8, v9, v10, v11, v12, v13].drop 3).take (Try.prog.cellsOf 4)) = some y1 := h1
  rw [cO4] at h1
  replace h1 : DataW.trod enc Try.prog w base spare held k 4 [v3] = some y1 := h1
  obtain ⟨y2, h2, w2⟩ := hf 2 _ rfl
  replace h2 : DataW.trod enc Try.prog w base spare held k 26 (([v0, v1, v2, v3, v4, v5, v6, v7, v8, v9, v10, v11, v12, v13].drop 4).take (Try.prog.cellsOf 26)) = some y2 := h2
  rw [cO26] at h2
  replace h2 : DataW.trod enc Try.prog w base spare held k 26 [v4, v5, v6, v7, v8, v9, v10, v11] = some y2 := h2
  obtain ⟨y3, h3, w3⟩ := hf 3 _ rfl
  replace h3 : DataW.trod enc Try.prog w base spare held k 27 (([v0, v1, v2, v3, v4, v5, v6, v7, v8, v9, v10, v11, v12, v13].drop 12).take (Try.prog.cellsOf 27)) = some y3 := h3
  rw [cO27] at h3
  replace h3 : DataW.trod enc Try.prog w base spare held k 27 [v12] = some y3 := h3
  obtain ⟨y4, h4, w4⟩ := hf 4 _ rfl
  replace h4 : DataW.trod enc Try.prog w base spare held k 28 (([v0, v1, v2, v3, v4, v5, v6, v7, v8, v9, v10, v11, v12, v13].drop 13).take (Try.prog.cellsOf 28)) = some y4 := h4
  rw [cO28] at h4
  replace h4 : DataW.trod enc Try.prog w base spare held k 28 [v13] = some y4 := h4
  obtain ⟨m1, e1, _⟩ := DataW.trod_bool Try.underlying4 h1
  simp only [List.cons.injEq, and_true] at e1
  subst e1
  obtain ⟨a, ea, _⟩ := tw24 enc base spare held k _ _ h0 w0
  simp only [eFl, List.cons.injEq, and_true] at ea
  obtain ⟨rfl, rfl, rfl⟩ := ea
  obtain ⟨b, eb, _⟩ := tw26 enc base spare held k _ _ h2 w2
  simp only [eSU, List.cons.injEq, and_true] at eb
  obtain ⟨rfl, rfl, rfl, rfl, rfl, rfl, rfl, rfl⟩ := eb
  obtain ⟨PA, pl, pc, ep, frp, gp⟩ := rows_w (E := ePL) Try.underlying27 cO52 tw52 (by decide +kernel) h3 w3
  simp only [List.cons.injEq, and_true] at ep
  subst ep
  obtain ⟨KA, kl, kc, ek, frk, _⟩ := rows_w (E := eTK) Try.underlying28 cO62 tw62 (by decide +kernel) h4 w4
  simp only [List.cons.injEq, and_true] at ek
  subst ek
  exact ⟨⟨a.cd, a.at_, a.path, m1, b, PA, pc, pl, KA, kc, kl⟩, rfl, frp, gp, frk⟩
end
end Go.Proofs.Ythmkelkefmfmgaa.Sx
