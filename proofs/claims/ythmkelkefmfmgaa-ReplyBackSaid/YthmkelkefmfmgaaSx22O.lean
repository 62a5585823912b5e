import Derived.Test.YthmkelkefmfmgaaProg
import Derived.Test.YthmkelkefmfmgaaSxRead
import Derived.Test.YthmkelkefmfmgaaSxWin
import Derived.Test.YthmkelkefmfmgaaSx22A
import Derived.Test.YthmkelkefmfmgaaSx22B
import Derived.Test.YthmkelkefmfmgaaSx22W
import Derived.Test.YthmkelkefmfmgaaSx22M
import Derived.Test.YthmkelkefmfmgaaSx22F
import Derived.Test.YthmkelkefmfmgaaSx22X
import Derived.Test.YthmkelkefmfmgaaSx22G
import Derived.Test.YthmkelkefmfmgaaSx22H
import Derived.Test.YthmkelkefmfmgaaSx22K
import Derived.Test.YthmkelkefmfmgaaSx22R
import Derived.Test.YthmkelkefmfmgaaSx22E
import Derived.Test.YthmkelkefmfmgaaSx22L
import Derived.Test.YthmkelkefmfmgaaSx22N
set_option maxRecDepth 20000
set_option maxHeartbeats 4000000
set_option linter.unusedVariables false
set_option linter.unusedSimpArgs false
namespace Go.Proofs.Ythmkelkefmfmgaa.Sx.FO
open Go Go.SX Go.Proofs
theorem fo30_0 : fo Try.prog 30 0 = some 0 := by kernel_rfl
theorem fo24_0 : fo Try.prog 24 0 = some 0 := by kernel_rfl
theorem ty22 : ty Try.prog 22 = some (false, 1) := by kernel_rfl
theorem ty24 : ty Try.prog 24 = some (true, 3) := by kernel_rfl
theorem fo30_1 : fo Try.prog 30 1 = some 3 := by kernel_rfl
theorem ty4 : ty Try.prog 4 = some (false, 1) := by kernel_rfl
theorem fo30_2 : fo Try.prog 30 2 = some 4 := by kernel_rfl
theorem ty26 : ty Try.prog 26 = some (true, 8) := by kernel_rfl
theorem fo30_3 : fo Try.prog 30 3 = some 12 := by kernel_rfl
theorem ty27 : ty Try.prog 27 = some (false, 1) := by kernel_rfl
theorem fo30_4 : fo Try.prog 30 4 = some 13 := by kernel_rfl
theorem ty28 : ty Try.prog 28 = some (false, 1) := by kernel_rfl
theorem hbd44 : hasBody Try.prog 44 = true := by kernel_rfl
theorem ty52 : ty Try.prog 52 = some (true, 7) := by kernel_rfl
theorem hbd45 : hasBody Try.prog 45 = true := by kernel_rfl
theorem mo : Try.prog.follows .mixedOrders = true := by kernel_rfl
theorem eqIn24 (d : Nat) (x0 y0 : Int) (x1 y1 : Int) (x2 y2 : ByteArray) (w : World) : (Op.equalIn (d + 3) 24 (.agg #[(.int .i64 x0), (.int .i64 x1), (.string x2)]) (.agg #[(.int .i64 y0), (.int .i64 y1), (.string y2)])).run Try.prog w = .ok ((x0 == y0) && ((x1 == y1) && (x2 == y2))) w := by
  rw [run_equalIn_struct w (d + 2) 24 _ _ (by kernel_rfl) (by kernel_rfl)]
  have hf : (Try.prog.fieldsOf 24).toList = [{ name := "Code", type := 22, offset := 0, embedded := false, tag := "", pkgPath := "", byteOffset := 0 }, { name := "At", type := 3, offset := 1, embedded := false, tag := "", pkgPath := "", byteOffset := 8 }, { name := "Path", type := 9, offset := 2, embedded := false, tag := "", pkgPath := "", byteOffset := 16 }] := by kernel_rfl
  rw [hf]
  have h22 : ∀ (x y : Int) (w : World), (Op.equalIn (d + 2) 22 (.int .i64 x) (.int .i64 y)).run Try.prog w = .ok (x == y) w := fun x y w => by
    simp [Op.equalIn, run_underlying Try.underlying22]
  have h3 : ∀ (x y : Int) (w : World), (Op.equalIn (d + 2) 3 (.int .i64 x) (.int .i64 y)).run Try.prog w = .ok (x == y) w := fun x y w => by
    simp [Op.equalIn, run_underlying Try.underlying3]
  have h9 : ∀ (x y : ByteArray) (w : World), (Op.equalIn (d + 2) 9 (.string x) (.string y)).run Try.prog w = .ok (x == y) w := fun x y w => by
    simp [Op.equalIn, run_underlying Try.underlying9]
  have p0 : ∀ (x0 : Int) (x1 : Int) (x2 : ByteArray) (w : World), (part 22 #[(.int .i64 x0), (.int .i64 x1), (.string x2)] 0).run Try.prog w = .ok (.int .i64 x0) w := fun _ _ _ _ => by kernel_rfl
  have p1 : ∀ (x0 : Int) (x1 : Int) (x2 : ByteArray) (w : World), (part 3 #[(.int .i64 x0), (.int .i64 x1), (.string x2)] 1).run Try.prog w = .ok (.int .i64 x1) w := fun _ _ _ _ => by kernel_rfl
  have p2 : ∀ (x0 : Int) (x1 : Int) (x2 : ByteArray) (w : World), (part 9 #[(.int .i64 x0), (.int .i64 x1), (.string x2)] 2).run Try.prog w = .ok (.string x2) w := fun _ _ _ _ => by kernel_rfl
  simp only [Op.eqFields, Sem.run_bind, h22, h3, h9, p0, p1, p2, Result.andThen_ok, Sem.run_ite, ne_eq]
  cases g0 : (x0 == y0) <;> cases g1 : (x1 == y1) <;> cases g2 : (x2 == y2) <;> simp [g0, g1, g2]
theorem ev24_eql (x y : Operand) (x0 y0 : Int) (x1 y1 : Int) (x2 y2 : ByteArray) (w : World) : (do eqGuard .eql 24 x y (.agg #[(.int .i64 x0), (.int .i64 x1), (.string x2)]) (.agg #[(.int .i64 y0), (.int .i64 y1), (.string y2)]); binOp .eql 24 (.agg #[(.int .i64 x0), (.int .i64 x1), (.string x2)]) (.agg #[(.int .i64 y0), (.int .i64 y1), (.string y2)]) : Sem Value).run Try.prog w = .ok (.bool (((x0 == y0) && ((x1 == y1) && (x2 == y2))))) w := by
  have h1 : (Op.equal 24 (.agg #[(.int .i64 x0), (.int .i64 x1), (.string x2)]) (.agg #[(.int .i64 y0), (.int .i64 y1), (.string y2)])).run Try.prog w = .ok ((x0 == y0) && ((x1 == y1) && (x2 == y2))) w := eqIn24 9997 x0 y0 x1 y1 x2 y2 w
  have h2 : (eqGuard .eql 24 x y (.agg #[(.int .i64 x0), (.int .i64 x1), (.string x2)]) (.agg #[(.int .i64 y0), (.int .i64 y1), (.string y2)])).run Try.prog w = .ok () w := by kernel_rfl
  simp only [Sem.run_bind, h2, Result.andThen_ok, binOp, h1]
  rfl
theorem ev24_neq (x y : Operand) (x0 y0 : Int) (x1 y1 : Int) (x2 y2 : ByteArray) (w : World) : (do eqGuard .neq 24 x y (.agg #[(.int .i64 x0), (.int .i64 x1), (.string x2)]) (.agg #[(.int .i64 y0), (.int .i64 y1), (.string y2)]); binOp .neq 24 (.agg #[(.int .i64 x0), (.int .i64 x1), (.string x2)]) (.agg #[(.int .i64 y0), (.int .i64 y1), (.string y2)]) : Sem Value).run Try.prog w = .ok (.bool (!((x0 == y0) && ((x1 == y1) && (x2 == y2))))) w := by
  have h1 : (Op.equal 24 (.agg #[(.int .i64 x0), (.int .i64 x1), (.string x2)]) (.agg #[(.int .i64 y0), (.int .i64 y1), (.string y2)])).run Try.prog w = .ok ((x0 == y0) && ((x1 == y1) && (x2 == y2))) w := eqIn24 9997 x0 y0 x1 y1 x2 y2 w
  have h2 : (eqGuard .neq 24 x y (.agg #[(.int .i64 x0), (.int .i64 x1), (.string x2)]) (.agg #[(.int .i64 y0), (.int .i64 y1), (.string y2)])).run Try.prog w = .ok () w := by kernel_rfl
  simp only [Sem.run_bind, h2, Result.andThen_ok, binOp, h1]
  rfl
theorem eqIn26 (d : Nat) (x0 y0 : Int) (x1 y1 : Int) (x2 y2 : Int) (x3 y3 : Int) (x4 y4 : Int) (x5 y5 : Int) (x6 y6 : Int) (x7 y7 : Int) (w : World) : (Op.equalIn (d + 3) 26 (.agg #[(.int .i64 x0), (.int .i64 x1), (.int .i64 x2), (.int .i64 x3), (.int .i64 x4), (.int .i64 x5), (.int .i64 x6), (.int .i64 x7)]) (.agg #[(.int .i64 y0), (.int .i64 y1), (.int .i64 y2), (.int .i64 y3), (.int .i64 y4), (.int .i64 y5), (.int .i64 y6), (.int .i64 y7)])).run Try.prog w = .ok ((x0 == y0) && ((x1 == y1) && ((x2 == y2) && ((x3 == y3) && ((x4 == y4) && ((x5 == y5) && ((x6 == y6) && (x7 == y7)))))))) w := by
  rw [run_equalIn_struct w (d + 2) 26 _ _ (by kernel_rfl) (by kernel_rfl)]
  have hf : (Try.prog.fieldsOf 26).toList = [{ name := "Routes", type := 3, offset := 0, embedded := false, tag := "", pkgPath := "", byteOffset := 0 }, { name := "Value", type := 3, offset := 1, embedded := false, tag := "", pkgPath := "", byteOffset := 8 }, { name := "Cost", type := 3, offset := 2, embedded := false, tag := "", pkgPath := "", byteOffset := 16 }, { name := "Time", type := 3, offset := 3, embedded := false, tag := "", pkgPath := "", byteOffset := 24 }, { name := "Dist", type := 3, offset := 4, embedded := false, tag := "", pkgPath := "", byteOffset := 32 }, { name := "Wait", type := 3, offset := 5, embedded := false, tag := "", pkgPath := "", byteOffset := 40 }, { name := "Service", type := 3, offset := 6, embedded := false, tag := "", pkgPath := "", byteOffset := 48 }, { name := "Left", type := 3, offset := 7, embedded := false, tag := "", pkgPath := "", byteOffset := 56 }] := by kernel_rfl
  rw [hf]
  have h3 : ∀ (x y : Int) (w : World), (Op.equalIn (d + 2) 3 (.int .i64 x) (.int .i64 y)).run Try.prog w = .ok (x == y) w := fun x y w => by
    simp [Op.equalIn, run_underlying Try.underlying3]
  have p0 : ∀ (x0 : Int) (x1 : Int) (x2 : Int) (x3 : Int) (x4 : Int) (x5 : Int) (x6 : Int) (x7 : Int) (w : World), (part 3 #[(.int .i64 x0), (.int .i64 x1), (.int .i64 x2), (.int .i64 x3), (.int .i64 x4), (.int .i64 x5), (.int .i64 x6), (.int .i64 x7)] 0).run Try.prog w = .ok (.int .i64 x0) w := fun _ _ _ _ _ _ _ _ _ => by kernel_rfl
  have p1 : ∀ (x0 : Int) (x1 : Int) (x2 : Int) (x3 : Int) (x4 : Int) (x5 : Int) (x6 : Int) (x7 : Int) (w : World), (part 3 #[(.int .i64 x0), (.int .i64 x1), (.int .i64 x2), (.int .i64 x3), (.int .i64 x4), (.int .i64 x5), (.int .i64 x6), (.int .i64 x7)] 1).run Try.prog w = .ok (.int .i64 x1) w := fun _ _ _ _ _ _ _ _ _ => by kernel_rfl
  have p2 : ∀ (x0 : Int) (x1 : Int) (x2 : Int) (x3 : Int) (x4 : Int) (x5 : Int) (x6 : Int) (x7 : Int) (w : World), (part 3 #[(.int .i64 x0), (.int .i64 x1), (.int .i64 x2), (.int .i64 x3), (.int .i64 x4), (.int .i64 x5), (.int .i64 x6), (.int .i64 x7)] 2).run Try.prog w = .ok (.int .i64 x2) w := fun _ _ _ _ _ _ _ _ _ => by kernel_rfl
  have p3 : ∀ (x0 : Int) (x1 : Int) (x2 : Int) (x3 : Int) (x4 : Int) (x5 : Int) (x6 : Int) (x7 : Int) (w : World), (part 3 #[(.int .i64 x0), (.int .i64 x1), (.int .i64 x2), (.int .i64 x3), (.int .i64 x4), (.int .i64 x5), (.int .i64 x6), (.int .i64 x7)] 3).run Try.prog w = .ok (.int .i64 x3) w := fun _ _ _ _ _ _ _ _ _ => by kernel_rfl
  have p4 : ∀ (x0 : Int) (x1 : Int) (x2 : Int) (x3 : Int) (x4 : Int) (x5 : Int) (x6 : Int) (x7 : Int) (w : World), (part 3 #[(.int .i64 x0), (.int .i64 x1), (.int .i64 x2), (.int .i64 x3), (.int .i64 x4), (.int .i64 x5), (.int .i64 x6), (.int .i64 x7)] 4).run Try.prog w = .ok (.int .i64 x4) w := fun _ _ _ _ _ _ _ _ _ => by kernel_rfl
  have p5 : ∀ (x0 : Int) (x1 : Int) (x2 : Int) (x3 : Int) (x4 : Int) (x5 : Int) (x6 : Int) (x7 : Int) (w : World), (part 3 #[(.int .i64 x0), (.int .i64 x1), (.int .i64 x2), (.int .i64 x3), (.int .i64 x4), (.int .i64 x5), (.int .i64 x6), (.int .i64 x7)] 5).run Try.prog w = .ok (.int .i64 x5) w := fun _ _ _ _ _ _ _ _ _ => by kernel_rfl
  have p6 : ∀ (x0 : Int) (x1 : Int) (x2 : Int) (x3 : Int) (x4 : Int) (x5 : Int) (x6 : Int) (x7 : Int) (w : World), (part 3 #[(.int .i64 x0), (.int .i64 x1), (.int .i64 x2), (.int .i64 x3), (.int .i64 x4), (.int .i64 x5), (.int .i64 x6), (.int .i64 x7)] 6).run Try.prog w = .ok (.int .i64 x6) w := fun _ _ _ _ _ _ _ _ _ => by kernel_rfl
  have p7 : ∀ (x0 : Int) (x1 : Int) (x2 : Int) (x3 : Int) (x4 : Int) (x5 : Int) (x6 : Int) (x7 : Int) (w : World), (part 3 #[(.int .i64 x0), (.int .i64 x1), (.int .i64 x2), (.int .i64 x3), (.int .i64 x4), (.int .i64 x5), (.int .i64 x6), (.int .i64 x7)] 7).run Try.prog w = .ok (.int .i64 x7) w := fun _ _ _ _ _ _ _ _ _ => by kernel_rfl
  simp only [Op.eqFields, Sem.run_bind, h3, p0, p1, p2, p3, p4, p5, p6, p7, Result.andThen_ok, Sem.run_ite, ne_eq]
  cases g0 : (x0 == y0) <;> cases g1 : (x1 == y1) <;> cases g2 : (x2 == y2) <;> cases g3 : (x3 == y3) <;> cases g4 : (x4 == y4) <;> cases g5 : (x5 == y5) <;> cases g6 : (x6 == y6) <;> cases g7 : (x7 == y7) <;> simp [g0, g1, g2, g3, g4, g5, g6, g7]
theorem ev26_eql (x y : Operand) (x0 y0 : Int) (x1 y1 : Int) (x2 y2 : Int) (x3 y3 : Int) (x4 y4 : Int) (x5 y5 : Int) (x6 y6 : Int) (x7 y7 : Int) (w : World) : (do eqGuard .eql 26 x y (.agg #[(.int .i64 x0), (.int .i64 x1), (.int .i64 x2), (.int .i64 x3), (.int .i64 x4), (.int .i64 x5), (.int .i64 x6), (.int .i64 x7)]) (.agg #[(.int .i64 y0), (.int .i64 y1), (.int .i64 y2), (.int .i64 y3), (.int .i64 y4), (.int .i64 y5), (.int .i64 y6), (.int .i64 y7)]); binOp .eql 26 (.agg #[(.int .i64 x0), (.int .i64 x1), (.int .i64 x2), (.int .i64 x3), (.int .i64 x4), (.int .i64 x5), (.int .i64 x6), (.int .i64 x7)]) (.agg #[(.int .i64 y0), (.int .i64 y1), (.int .i64 y2), (.int .i64 y3), (.int .i64 y4), (.int .i64 y5), (.int .i64 y6), (.int .i64 y7)]) : Sem Value).run Try.prog w = .ok (.bool (((x0 == y0) && ((x1 == y1) && ((x2 == y2) && ((x3 == y3) && ((x4 == y4) && ((x5 == y5) && ((x6 == y6) && (x7 == y7)))))))))) w := by
  have h1 : (Op.equal 26 (.agg #[(.int .i64 x0), (.int .i64 x1), (.int .i64 x2), (.int .i64 x3), (.int .i64 x4), (.int .i64 x5), (.int .i64 x6), (.int .i64 x7)]) (.agg #[(.int .i64 y0), (.int .i64 y1), (.int .i64 y2), (.int .i64 y3), (.int .i64 y4), (.int .i64 y5), (.int .i64 y6), (.int .i64 y7)])).run Try.prog w = .ok ((x0 == y0) && ((x1 == y1) && ((x2 == y2) && ((x3 == y3) && ((x4 == y4) && ((x5 == y5) && ((x6 == y6) && (x7 == y7)))))))) w := eqIn26 9997 x0 y0 x1 y1 x2 y2 x3 y3 x4 y4 x5 y5 x6 y6 x7 y7 w
  have h2 : (eqGuard .eql 26 x y (.agg #[(.int .i64 x0), (.int .i64 x1), (.int .i64 x2), (.int .i64 x3), (.int .i64 x4), (.int .i64 x5), (.int .i64 x6), (.int .i64 x7)]) (.agg #[(.int .i64 y0), (.int .i64 y1), (.int .i64 y2), (.int .i64 y3), (.int .i64 y4), (.int .i64 y5), (.int .i64 y6), (.int .i64 y7)])).run Try.prog w = .ok () w := by kernel_rfl
  simp only [Sem.run_bind, h2, Result.andThen_ok, binOp, h1]
  rfl
theorem ev26_neq (x y : Operand) (x0 y0 : Int) (x1 y1 : Int) (x2 y2 : Int) (x3 y3 : Int) (x4 y4 : Int) (x5 y5 : Int) (x6 y6 : Int) (x7 y7 : Int) (w : World) : (do eqGuard .neq 26 x y (.agg #[(.int .i64 x0), (.int .i64 x1), (.int .i64 x2), (.int .i64 x3), (.int .i64 x4), (.int .i64 x5), (.int .i64 x6), (.int .i64 x7)]) (.agg #[(.int .i64 y0), (.int .i64 y1), (.int .i64 y2), (.int .i64 y3), (.int .i64 y4), (.int .i64 y5), (.int .i64 y6), (.int .i64 y7)]); binOp .neq 26 (.agg #[(.int .i64 x0), (.int .i64 x1), (.int .i64 x2), (.int .i64 x3), (.int .i64 x4), (.int .i64 x5), (.int .i64 x6), (.int .i64 x7)]) (.agg #[(.int .i64 y0), (.int .i64 y1), (.int .i64 y2), (.int .i64 y3), (.int .i64 y4), (.int .i64 y5), (.int .i64 y6), (.int .i64 y7)]) : Sem Value).run Try.prog w = .ok (.bool (!((x0 == y0) && ((x1 == y1) && ((x2 == y2) && ((x3 == y3) && ((x4 == y4) && ((x5 == y5) && ((x6 == y6) && (x7 == y7)))))))))) w := by
  have h1 : (Op.equal 26 (.agg #[(.int .i64 x0), (.int .i64 x1), (.int .i64 x2), (.int .i64 x3), (.int .i64 x4), (.int .i64 x5), (.int .i64 x6), (.int .i64 x7)]) (.agg #[(.int .i64 y0), (.int .i64 y1), (.int .i64 y2), (.int .i64 y3), (.int .i64 y4), (.int .i64 y5), (.int .i64 y6), (.int .i64 y7)])).run Try.prog w = .ok ((x0 == y0) && ((x1 == y1) && ((x2 == y2) && ((x3 == y3) && ((x4 == y4) && ((x5 == y5) && ((x6 == y6) && (x7 == y7)))))))) w := eqIn26 9997 x0 y0 x1 y1 x2 y2 x3 y3 x4 y4 x5 y5 x6 y6 x7 y7 w
  have h2 : (eqGuard .neq 26 x y (.agg #[(.int .i64 x0), (.int .i64 x1), (.int .i64 x2), (.int .i64 x3), (.int .i64 x4), (.int .i64 x5), (.int .i64 x6), (.int .i64 x7)]) (.agg #[(.int .i64 y0), (.int .i64 y1), (.int .i64 y2), (.int .i64 y3), (.int .i64 y4), (.int .i64 y5), (.int .i64 y6), (.int .i64 y7)])).run Try.prog w = .ok () w := by kernel_rfl
  simp only [Sem.run_bind, h2, Result.andThen_ok, binOp, h1]
  rfl


end Go.Proofs.Ythmkelkefmfmgaa.Sx.FO
namespace Go.Proofs.Ythmkelkefmfmgaa.Sx
open Go Go.SX Go.Proofs FO





theorem sameR (cd1 : Int) (at_1 : Int) (path1 : ByteArray) (op1 : Bool) (x01 : Int) (x11 : Int) (x21 : Int) (x31 : Int) (x41 : Int) (x51 : Int) (x61 : Int) (x71 : Int) (pA1 : Option Addr) (pc1 : Nat) (ps1 : List PV) (kA1 : Option Addr) (kc1 : Nat) (lf1 : List TK) (cd2 : Int) (at_2 : Int) (path2 : ByteArray) (op2 : Bool) (x02 : Int) (x12 : Int) (x22 : Int) (x32 : Int) (x42 : Int) (x52 : Int) (x62 : Int) (x72 : Int) (pA2 : Option Addr) (pc2 : Nat) (ps2 : List PV) (kA2 : Option Addr) (kc2 : Nat) (lf2 : List TK) (S : Nat → Prop) (wf : World) (hA : Fr ePL S wf pA1 ps1) (hB : Fr ePL S wf pA2 ps2) (hC : Fr eTK S wf kA1 lf1) (hD : Fr eTK S wf kA2 lf2) (hNa : NP S wf ps1) (hNb : NP S wf ps2) (hc : cd1 = 0 ∧ cd2 = 0) (he : op1 = op2 ∧ x01 = x02 ∧ x11 = x12 ∧ x21 = x22 ∧ x31 = x32 ∧ x41 = x42 ∧ x51 = x52 ∧ x61 = x62 ∧ x71 = x72) (hps : ps1.map pv = ps2.map pv) (hlf : lf1 = lf2) :
    TR0 Try.prog 18 [.agg #[.int .i64 cd1, .int .i64 at_1, .string path1, .bool op1, .int .i64 x01, .int .i64 x11, .int .i64 x21, .int .i64 x31, .int .i64 x41, .int .i64 x51, .int .i64 x61, .int .i64 x71, .slice pA1 ps1.length pc1, .slice kA1 lf1.length kc1], .agg #[.int .i64 cd2, .int .i64 at_2, .string path2, .bool op2, .int .i64 x02, .int .i64 x12, .int .i64 x22, .int .i64 x32, .int .i64 x42, .int .i64 x52, .int .i64 x62, .int .i64 x72, .slice pA2 ps2.length pc2, .slice kA2 lf2.length kc2]] [] S wf (fun v_ C_ => v_ = .bool true ∧ C_ = []) := by
  have hla := hA.len
  have hlb := hB.len
  have hll : ps1.length = ps2.length := by have h_ := congrArg List.length hps; simpa using h_
  have hlt := congrArg List.length hlf
  obtain ⟨c1, c2⟩ := hc
  obtain ⟨f0, f1, f2, f3, f4, f5, f6, f7, f8⟩ := he
  refine TR.mk Try.func18 rfl Try.ntmps18 rfl rfl (fun w_ => ?_)
  refine .seq (.region (.cons (st_boxa rfl rfl rfl rfl rfl (fun b1 => .cons (st_boxa rfl rfl rfl rfl rfl (fun b2 => .cons (Ev.step (ev_as rfl rfl) rfl rfl rfl (.go (fun _ _ h => h) ?_))))))))
  refine .seq (.seq (.region (.cons (Ev.step (ev_fa rfl fo30_0 rfl (r := 0) rfl) rfl rfl rfl (.cons (Ev.step (ev_fa rfl fo24_0 rfl (r := 0) rfl) rfl rfl rfl (.cons (Ev.step (ev_ld1 rfl ty22 rfl (At.own1 1 rfl rfl)) rfl rfl rfl ?_))))))))
  refine .cons (Ev.step (ev_cmp rfl rfl rfl rfl) rfl rfl rfl (.cons (Ev.step (ev_mv rfl rfl) rfl rfl rfl (.cons (Ev.gstep (fun _ => ev_fa rfl fo30_0 rfl (r := 0) rfl) rfl rfl rfl rfl rfl (.cons (Ev.gstep (fun hb => ev_fa rfl fo24_0 (lkg rfl hb) (r := 0) rfl) rfl rfl rfl rfl rfl (.cons (Ev.gstep (fun hb => ev_ld1 rfl ty22 (lkg rfl hb) (At.own1 0 rfl rfl)) rfl rfl rfl rfl rfl (.cons (Ev.gstep (fun hb => ev_cmp rfl (lkg rfl hb) rfl rfl) rfl rfl rfl rfl rfl ?_)))))))))))
  refine .cons (Ev.step (ev_or rfl rfl rfl rfl) rfl rfl rfl (.go (fun _ _ h => h) (.condI rfl (bO bNE bNE) (fun h3 => ?_) (fun h3 => ?_))))
  ·
    refine .seq (.region (.cons (Ev.step (ev_fa rfl fo30_0 rfl (r := 0) rfl) rfl rfl rfl (.cons (Ev.step (ev_lda (cs := [.int .i64 cd1, .int .i64 at_1, .string path1]) rfl rfl (At.own 1 rfl rfl) ty24) rfl rfl rfl (.cons (Ev.step (ev_fa rfl fo30_0 rfl (r := 0) rfl) rfl rfl rfl (.cons (Ev.step (ev_lda (cs := [.int .i64 cd2, .int .i64 at_2, .string path2]) rfl rfl (At.own 0 rfl rfl) ty24) rfl rfl rfl ?_)))))))))
    exact .cons (Ev.step (ev_bin rfl rfl rfl (r := .bool ((cd1 == cd2) && ((at_1 == at_2) && (path1 == path2)))) (ev24_eql _ _ _ _ _ _ _ _)) rfl rfl rfl (.cons (Ev.step (ev_as rfl rfl) rfl rfl rfl (.go (fun _ _ h => h) (.ret (fun _ _ h => h) (ret1 Try.results18 rfl .n ⟨(by exfalso; simp_all; done), rfl⟩))))))
  ·
    refine .skipgo (fun _ _ h => h) (.seq (.seq (.region (.cons (Ev.step (ev_fa rfl fo30_1 rfl (r := 3) rfl) rfl rfl rfl (.cons (Ev.step (ev_ld1 rfl ty4 rfl (At.own1 1 rfl rfl)) rfl rfl rfl ?_)))))))
    refine .cons (Ev.step (ev_fa rfl fo30_1 rfl (r := 3) rfl) rfl rfl rfl (.cons (Ev.step (ev_ld1 rfl ty4 rfl (At.own1 0 rfl rfl)) rfl rfl rfl (.cons (Ev.step (ev_bcmp rfl Try.underlying4 rfl rfl rfl) rfl rfl rfl (.cons (Ev.step (ev_mv rfl rfl) rfl rfl rfl (.cons (Ev.gstep (fun _ => ev_fa rfl fo30_2 rfl (r := 4) rfl) rfl rfl rfl rfl rfl (.cons (Ev.gstep (fun hb => ev_lda (cs := [.int .i64 x01, .int .i64 x11, .int .i64 x21, .int .i64 x31, .int .i64 x41, .int .i64 x51, .int .i64 x61, .int .i64 x71]) rfl (lkg rfl hb) (At.own 1 rfl rfl) ty26) rfl rfl rfl rfl rfl ?_)))))))))))
    refine .cons (Ev.gstep (fun _ => ev_fa rfl fo30_2 rfl (r := 4) rfl) rfl rfl rfl rfl rfl (.cons (Ev.gstep (fun hb => ev_lda (cs := [.int .i64 x02, .int .i64 x12, .int .i64 x22, .int .i64 x32, .int .i64 x42, .int .i64 x52, .int .i64 x62, .int .i64 x72]) rfl (lkg rfl hb) (At.own 0 rfl rfl) ty26) rfl rfl rfl rfl rfl (.cons (Ev.gstep (fun hb => ev_bin rfl (lkg rfl hb) (lkg rfl hb) (r := .bool (!((x01 == x02) && ((x11 == x12) && ((x21 == x22) && ((x31 == x32) && ((x41 == x42) && ((x51 == x52) && ((x61 == x62) && (x71 == x72)))))))))) (ev26_neq _ _ _ _ _ _ _ _ _ _ _ _ _ _ _ _ _ _)) rfl rfl rfl rfl rfl (.cons (Ev.step (ev_or rfl rfl rfl rfl) rfl rfl rfl (.cons (Ev.step (ev_mv rfl rfl) rfl rfl rfl (.cons (Ev.gstep (fun _ => ev_fa rfl fo30_3 rfl (r := 12) rfl) rfl rfl rfl rfl rfl ?_)))))))))))
    refine .cons (Ev.gstep (fun hb => ev_ld1 rfl ty27 (lkg rfl hb) (At.own1 1 rfl rfl)) rfl rfl rfl rfl rfl (.cons (Ev.gstep (fun hb => ev_len rfl Try.underlying27 (lkg rfl hb)) rfl rfl rfl rfl rfl (.cons (Ev.gstep (fun _ => ev_fa rfl fo30_3 rfl (r := 12) rfl) rfl rfl rfl rfl rfl (.cons (Ev.gstep (fun hb => ev_ld1 rfl ty27 (lkg rfl hb) (At.own1 0 rfl rfl)) rfl rfl rfl rfl rfl (.cons (Ev.gstep (fun hb => ev_len rfl Try.underlying27 (lkg rfl hb)) rfl rfl rfl rfl rfl (.cons (Ev.gstep (fun hb => ev_cmp rfl (lkg rfl hb) (lkg rfl hb) rfl) rfl rfl rfl rfl rfl ?_)))))))))))
    refine .cons (Ev.step (ev_or rfl rfl rfl rfl) rfl rfl rfl (.cons (Ev.step (ev_mv rfl rfl) rfl rfl rfl (.cons (Ev.gstep (fun _ => ev_fa rfl fo30_4 rfl (r := 13) rfl) rfl rfl rfl rfl rfl (.cons (Ev.gstep (fun hb => ev_ld1 rfl ty28 (lkg rfl hb) (At.own1 1 rfl rfl)) rfl rfl rfl rfl rfl (.cons (Ev.gstep (fun _ => ev_fa rfl fo30_4 rfl (r := 13) rfl) rfl rfl rfl rfl rfl (.cons (Ev.gstep (fun hb => ev_ld1 rfl ty28 (lkg rfl hb) (At.own1 0 rfl rfl)) rfl rfl rfl rfl rfl ?_)))))))))))
    refine .cons (st_gcallk rfl rfl rfl rfl rfl rfl hbd44 (fun hb => (lkA1 (lkg rfl hb) (lkA1 (lkg rfl hb) lkA0))) .n (fun hb => have hp := bF (bO (bO bV (bN (bA bE (bA bE (bA bE (bA bE (bA bE (bA bE (bA bE bE))))))))) bNE) hb; sameT kA1 lf1.length kc1 lf1 kA2 lf2.length kc2 lf2 _ _ hC hD (by first | ((try simp only [List.length_nil, List.length_cons, List.length_append, List.length_set, List.length_singleton, List.length_take, List.length_drop, List.length_reverse]) <;> omega) | omega) (by first | ((try simp only [List.length_nil, List.length_cons, List.length_append, List.length_set, List.length_singleton, List.length_take, List.length_drop, List.length_reverse]) <;> omega) | omega) hlf) (.cons (Ev.gstep (fun hb => ev_not rfl (lkg rfl hb)) rfl rfl rfl rfl rfl (.cons (Ev.step (ev_or rfl rfl rfl rfl) rfl rfl rfl (.go (fun _ _ h => h) (.condI rfl (bO (bO (bO bV (bN (bA bE (bA bE (bA bE (bA bE (bA bE (bA bE (bA bE bE))))))))) bNE) bV) (fun h4 => ?_) (fun h4 => ?_))))))))
    ·
      exact .seq (.region (.cons (Ev.step (ev_as rfl rfl) rfl rfl rfl (.go (fun _ _ h => h) (.ret (fun _ _ h => h) (ret1 Try.results18 rfl .n ⟨(by exfalso; simp_all; done), rfl⟩))))))
    ·
      refine .skipgo (fun _ _ h => h) (.seq (.seq (.region (.cons (Ev.step (ev_fa rfl fo30_3 rfl (r := 12) rfl) rfl rfl rfl (.cons (Ev.step (ev_ld1 rfl ty27 rfl (At.own1 1 rfl rfl)) rfl rfl rfl ?_)))))))
      refine .cons (Ev.step (ev_len rfl Try.underlying27 rfl) rfl rfl rfl (.cons (Ev.step (ev_mv rfl rfl) rfl rfl rfl (.go (fun _ _ h => h) (.block ?_)))))
      refine .loop (X := Int) (fun i => 0 ≤ i ∧ i ≤ ps1.length) (fun i => [(2, .pointer (some ⟨b1, 0, none⟩)), (3, .pointer (some ⟨b2, 0, none⟩)), (52, .int .i64 (ps1.length : Int)), (53, .int .i64 i)]) (fun i => [cel b1 [.int .i64 cd1, .int .i64 at_1, .string path1, .bool op1, .int .i64 x01, .int .i64 x11, .int .i64 x21, .int .i64 x31, .int .i64 x41, .int .i64 x51, .int .i64 x61, .int .i64 x71, .slice pA1 ps1.length pc1, .slice kA1 lf1.length kc1] 30, cel b2 [.int .i64 cd2, .int .i64 at_2, .string path2, .bool op2, .int .i64 x02, .int .i64 x12, .int .i64 x22, .int .i64 x32, .int .i64 x42, .int .i64 x52, .int .i64 x62, .int .i64 x72, .slice pA2 ps2.length pc2, .slice kA2 lf2.length kc2] 30]) (fun _ => S) (fun _ => wf) (fun i => (ps1.length - i.toNat)) (fun a_ w_ hs_ hw_ => ⟨0, (by exact ⟨by omega, by omega⟩), hs_.mono (Sub.get (.c rfl (.c rfl (.c rfl (.c rfl .n))))), hw_.keep (.c (.t .h) (.c .h .n))⟩) (fun i ⟨q_0, q_1⟩ => ?_)
      show SC _ _ _ _ _ ⟨[(2, .pointer (some ⟨b1, 0, none⟩)), (3, .pointer (some ⟨b2, 0, none⟩)), (52, .int .i64 (ps1.length : Int)), (53, .int .i64 i)], [cel b1 [.int .i64 cd1, .int .i64 at_1, .string path1, .bool op1, .int .i64 x01, .int .i64 x11, .int .i64 x21, .int .i64 x31, .int .i64 x41, .int .i64 x51, .int .i64 x61, .int .i64 x71, .slice pA1 ps1.length pc1, .slice kA1 lf1.length kc1] 30, cel b2 [.int .i64 cd2, .int .i64 at_2, .string path2, .bool op2, .int .i64 x02, .int .i64 x12, .int .i64 x22, .int .i64 x32, .int .i64 x42, .int .i64 x52, .int .i64 x62, .int .i64 x72, .slice pA2 ps2.length pc2, .slice kA2 lf2.length kc2] 30], S, wf⟩
      refine .seq (.region (.cons (Ev.step (ev_cmp rfl rfl rfl rfl) rfl rfl rfl (.go (fun _ _ h => h) (.seq (.condI rfl bD (fun h5 => ?_) (fun h5 => ?_)))))))
      ·
        refine .skipgo (fun _ _ h => h) (.seq (.block (.seq (.region (.cons (Ev.step (ev_mv rfl rfl) rfl rfl rfl ?_))))))
        refine .cons (Ev.step (ev_as rfl rfl) rfl rfl rfl (.go (fun _ _ h => h) (.seq ?_)))
        refine SC.draw mo [] [] .n (fun _ _ _ c hc => by cases hc) (fun wf_6 hl_6 hx_6 hR_6 => ?_)
        refine SR.take 0 rfl (by kernel_rfl) (by kernel_rfl) (by kernel_rfl) rfl (fun _ _ _ h => h) rfl rfl rfl (ev_fa rfl fo30_3 rfl (r := 12) rfl) (SR.take 1 rfl (by kernel_rfl) (by kernel_rfl) (by kernel_rfl) rfl (fun _ _ _ h => h) rfl rfl rfl (ev_ld1 rfl ty27 rfl (At.d (At.lent hR_6 0 rfl rfl))) (SR.take 2 rfl (by kernel_rfl) (by kernel_rfl) (by kernel_rfl) rfl (fun _ _ _ h => h) rfl rfl rfl (ev_mv rfl rfl) (SR.take 3 rfl (by kernel_rfl) (by kernel_rfl) (by kernel_rfl) rfl (fun _ _ _ h => h) rfl rfl rfl (ev_ix rfl Try.underlying27 ty52 rfl rfl (by omega) (by omega) (fun _ _ => Fr.adr (i := i) (Fr.ext hA hx_6) (by omega) (by omega))) (SR.take 4 rfl (by kernel_rfl) (by kernel_rfl) (by kernel_rfl) rfl (fun _ _ _ h => h) rfl rfl rfl (ev_lda rfl rfl (At.d (Fr.el (i := i) (Fr.ext hA hx_6) (by omega) (by omega))) ty52) (SR.take 5 rfl (by kernel_rfl) (by kernel_rfl) (by kernel_rfl) rfl (fun _ _ _ h => h) rfl rfl rfl (ev_fa rfl fo30_3 rfl (r := 12) rfl) ?_)))))
        refine SR.take 6 rfl (by kernel_rfl) (by kernel_rfl) (by kernel_rfl) rfl (fun _ _ _ h => h) rfl rfl rfl (ev_ld1 rfl ty27 rfl (At.d (At.lent hR_6 1 rfl rfl))) (SR.take 7 rfl (by kernel_rfl) (by kernel_rfl) (by kernel_rfl) rfl (fun _ _ _ h => h) rfl rfl rfl (ev_mv rfl rfl) (SR.take 8 rfl (by kernel_rfl) (by kernel_rfl) (by kernel_rfl) rfl (fun _ _ _ h => h) rfl rfl rfl (ev_ix rfl Try.underlying27 ty52 rfl rfl (by omega) (by omega) (fun _ _ => Fr.adr (i := i) (Fr.ext hB hx_6) (by omega) (by omega))) (SR.take 9 rfl (by kernel_rfl) (by kernel_rfl) (by kernel_rfl) rfl (fun _ _ _ h => h) rfl rfl rfl (ev_lda rfl rfl (At.d (Fr.el (i := i) (Fr.ext hB hx_6) (by omega) (by omega))) ty52) (SR.one (j := 10) (by kernel_rfl) rfl (st_callk rfl rfl rfl rfl hbd45 rfl .n (same13 ((gt ps1 i).veh) ((gt ps1 i).sA) ((gt ps1 i).sc) ((gt ps1 i).steps) ((gt ps1 i).time) ((gt ps1 i).dist) ((gt ps1 i).wait) ((gt ps1 i).serv) ((gt ps1 i).cost) ((gt ps2 i).veh) ((gt ps2 i).sA) ((gt ps2 i).sc) ((gt ps2 i).steps) ((gt ps2 i).time) ((gt ps2 i).dist) ((gt ps2 i).wait) ((gt ps2 i).serv) ((gt ps2 i).cost) _ _ ((((hNa).ext hx_6) _ (gt_mem (i := i) (by omega) (by omega))).1) ((((hNb).ext hx_6) _ (gt_mem (i := i) (by omega) (by omega))).1) ((((hNa).ext hx_6) _ (gt_mem (i := i) (by omega) (by omega))).2) ((((hNb).ext hx_6) _ (gt_mem (i := i) (by omega) (by omega))).2) (pv_gt hps (i := i) (by omega) (by omega)).1 (pv_gt hps (i := i) (by omega) (by omega)).2) ⟨tt0, (SR.take 11 rfl (by kernel_rfl) (by kernel_rfl) (by kernel_rfl) rfl (fun _ _ _ h => h) rfl rfl rfl (ev_not rfl rfl) ?_)⟩)))))
        refine SR.fin (by kernel_rfl) hl_6 hx_6 hR_6 .n (SQ.go (fun _ _ h => h) (.cond_f rfl (.skipgo (fun _ _ h => h) (.region (.cons (Ev.step (ev_add rfl rfl rfl (r := (i + 1)) rfl (by omega) (by omega)) rfl rfl rfl ?_))))))
        exact .cons (Ev.step (ev_mv rfl rfl) rfl rfl rfl (SP.nil (SQ.roundb (X := Int) (x := (i)) (i + 1) (by exact ⟨by omega, by omega⟩) (by show (_ : Nat) < _; omega) (Sub.get (.c rfl (.c rfl (.c rfl (.c rfl .n))))) (fun w hw => hw.keep (.c .h (.c .h .n))))))
      ·
        exact .exit (fun _ _ h => h) (.seq (.region (.cons (Ev.step (ev_as rfl rfl) rfl rfl rfl (.go (fun _ _ h => h) (.ret (fun _ _ h => h) (ret1 Try.results18 rfl .n ⟨rfl, rfl⟩)))))))

end Go.Proofs.Ythmkelkefmfmgaa.Sx
