import Derived.Test.YtimhdimhdimbjaaGreatProg
import Derived.Test.YtimhdimhdimbjaaGreatS7
set_option linter.unusedVariables false
set_option linter.unusedSimpArgs false
set_option linter.unusedSectionVars false
set_option maxRecDepth 20000
set_option maxHeartbeats 1000000
namespace Go.Proofs.YtimhdimhdimbjaaGreat.Sx.FED
open Go Go.SX Go.Proofs Go.Proofs.Tryz FA FB FC FD FE FF FG FH FJ FK FL FM FP FQ FU FW FEA FEB FEC
theorem hbd77 : hasBody prog 77 = true := by kernel_rfl
theorem hbd40 : hasBody prog 40 = true := by kernel_rfl
theorem hbd44 : hasBody prog 44 = true := by kernel_rfl
theorem hbd45 : hasBody prog 45 = true := by kernel_rfl
theorem hbd41 : hasBody prog 41 = true := by kernel_rfl
theorem hbd42 : hasBody prog 42 = true := by kernel_rfl
theorem hbd43 : hasBody prog 43 = true := by kernel_rfl
theorem hbd59 : hasBody prog 59 = true := by kernel_rfl
end Go.Proofs.YtimhdimhdimbjaaGreat.Sx.FED
namespace Go.Proofs.YtimhdimhdimbjaaGreat.Sx
open Go Go.SX Go.Proofs Go.Proofs.Tryz FA FB FC FD FE FF FG FH FJ FK FL FM FP FQ FU FW FEA FEB FEC FED
theorem in_ (a : Int) (b : Int) (S : Nat → Prop) (wf : World) (h : 0 ≤ a ∧ a ≤ b) :
  TR0 prog 40 [.int .i64 a, .int .i64 b] [] S wf (fun v_ C_ => v_ = .bool true ∧ C_ = []) := by
 refine TR.mk func40 G ntmps40 G G (fun w_ => ?_)
 refine .seq (.region (.a G G G (.go idQ (.seq (.region (.m G G G ?_))))))
 refine .e G G G G G (.m G G G (.w (fun _ => ev_mv G G) G (.w (fun _ => ev_mv G G) G ?_)))
 refine .w (fun hb => ev_cmp G (lkg G hb) (lkg G hb) G) G (.v (ev_and G G G G) G (.a G G G (.go idQ ?_)))
 exact .ret idQ (ret1 results40 G .n ⟨(congrArg Value.bool (by rw [Bool.and_eq_true]; exact ⟨decide_eq_true h.1, decide_eq_true h.2⟩)), G⟩)
theorem valid_ (a : Int) (S : Nat → Prop) (wf : World) (h : 0 ≤ a ∧ a < 4611686018427387904) :
  TR0 prog 45 [.int .u64 a] [] S wf (fun v_ C_ => v_ = .bool true ∧ C_ = []) := by
 refine TR.mk func45 G ntmps45 G G (fun w_ => ?_)
 refine .seq (.region (.a G G G (.go idQ (.seq (.region (.m G G G ?_))))))
 refine .v (ev_shr (r := (Int.fdiv a 4611686018427387904)) G G G (by decide) G) G (.e G G G G G (.a G G G (.go idQ ?_)))
 exact .ret idQ (ret1 results45 G .n ⟨(congrArg Value.bool (valid_62 h)), G⟩)
theorem lchk_ (A : Option Addr) (c : Nat) (l : List Int) (n : Int) (S : Nat → Prop) (wf : World) (hA : Fr eZ S wf A l) (hl : (l.length : Int) = n) (hr : rng l 1000000) :
  TR0 prog 44 [.slice A l.length c, .int .i64 n] [] S wf (fun v_ C_ => v_ = .int .i64 0 ∧ C_ = []) := by
 have hla := hA.len
 refine TR.mk func44 G ntmps44 G G (fun w_ => ?_)
 refine .seq (.region (.a G G G (.go idQ (.seq (.seq (.region (.m G G G ?_)))))))
 refine .g underlying22 G G G (.m G G G (.e G G G G G (.go idQ ?_)))
 refine .condI G bNE (fun h1 => ?_) (fun h1 => ?_)
 ·
  exfalso; omega
 refine .skipgo idQ (.seq (.seq (.region (.m G G G (.g underlying22 G G G (.m G G G ?_))))))
 refine .go idQ (.block (.loop (X := Int) (fun i => 0 ≤ i ∧ i ≤ (l.length : Int)) (fun i => [(11, .slice A l.length c), (12, .int .i64 (l.length : Int)), (13, .int .i64 i)]) (fun i => []) (fun _ => S) (fun _ => wf) (fun i => ((l.length : Int) - i).toNat) (fun a_ w_ hs_ hw_ => ⟨0, (by (try dsimp only); exact ⟨oO, oO⟩), hs_.mono (Sub.get (.c G (.c G (.c G .n)))), hw_.keep .n⟩) (fun i ⟨q_0, q_1⟩ => ?_)))
 try dsimp only
 have hri := hr i
 refine .seq (.region (.e G G G G G (.go idQ (.seq (.condI G bD (fun h2 => ?_) (fun h2 => ?_))))))
 ·
  refine .skipgo idQ (.seq (.block (.seq (.region (.v (ev_ix G underlying22 ty3 G G oO oO (fun _ _ => Fr.adr (i := i) hA oO oO)) G (.v (ev_ld1 G ty3 G (At.elem1 (At.w (Fr.el (i := i) hA oO oO)) 0 G)) G (.a G G G ?_)))))))
  refine .go idQ (.seq (.region (.m G G G (.e G G G G G (.m G G G ?_)))))
  refine .w (fun _ => ev_mv G G) G (.w (fun hb => ev_cmp G (lkg G hb) G G) G (.r G G G G G (.go idQ ?_)))
  refine .condI G (bO bD bD) (fun h3 => ?_) (fun h3 => ?_)
  ·
   exfalso; omega
  refine .skipgo idQ (.region (.p ((i + 1)) oO oO G G G G G (.m G G G ?_)))
  exact SP.nil (SQ.roundb (X := Int) (x := (i)) (i + 1) (by (try dsimp only); exact ⟨oO, oO⟩) (by show (_ : Nat) < _; omega) (Sub.get (.c G (.c G (.c G .n)))) (kp .n))
 refine .exit idQ ?_
 refine .seq (.region (.a G G G (.go idQ (.ret idQ (ret1 results44 G .n ⟨G, G⟩)))))
theorem hchk_ (A : Option Addr) (c : Nat) (l : List WN) (S : Nat → Prop) (wf : World) (hA : Fr eWN S wf A l) (hW : WinsOk l) :
  TR0 prog 77 [.slice A l.length c] [] S wf (fun v_ C_ => v_ = .tuple #[.int .i64 (-1), .int .i64 0] ∧ C_ = []) := by
 have hla := hA.len
 have hwl := hW.len
 refine TR.mk func77 G ntmps77 G G (fun w_ => ?_)
 refine .seq (.region (.a G G G (.a G G G (.go idQ (.seq (.seq (.region ?_)))))))
 refine .m G G G (.g underlying73 G G G (.e G G G G G (.m G G G ?_)))
 refine .w (fun _ => ev_mv G G) G (.w (fun hb => ev_len G underlying73 (lkg G hb)) G (.w (fun hb => ev_cmp G (lkg G hb) G G) G (.r G G G G G ?_)))
 refine .go idQ (.condI G (bO bD bD) (fun h1 => ?_) (fun h1 => ?_))
 ·
  exfalso; omega
 refine .skipgo idQ (.seq (.seq (.region (.m G G G (.g underlying73 G G G (.m G G G ?_))))))
 refine .go idQ (.block (.loop (X := Int) (fun i => 0 ≤ i ∧ i ≤ (l.length : Int)) (fun i => [(0, .slice A l.length c), (14, .slice A l.length c), (15, .int .i64 (l.length : Int)), (16, .int .i64 i)]) (fun i => []) (fun _ => S) (fun _ => wf) (fun i => ((l.length : Int) - i).toNat) (fun a_ w_ hs_ hw_ => ⟨0, (by (try dsimp only); exact ⟨oO, oO⟩), hs_.mono (Sub.get (.c4 G G G G .n)), hw_.keep .n⟩) (fun i ⟨q_0, q_1⟩ => ?_)))
 try dsimp only
 have hwe := hW.each i
 have hwn := hW.next i
 refine .seq (.region (.e G G G G G (.go idQ (.seq (.condI G bD (fun h2 => ?_) (fun h2 => ?_))))))
 ·
  refine .skipgo idQ (.seq (.block (.seq (.region (.m G G G (.v (ev_ix G underlying73 ty69 G G oO oO (fun _ _ => Fr.adr (i := i) hA oO oO)) G (.v (ev_lda G G (At.w (Fr.el (i := i) hA oO oO)) ty69) G ?_)))))))
  refine .cons (st_alloc G G G G zf69 (fun b3 => ?_))
  refine .a G G G (.cons (st_storea (l' := [.int .i64 ((gt l i).lo), .int .i64 ((gt l i).hi)]) G G G ty69 G G G .h G G (.go idQ (.seq ?_))))
  refine SC.draw mo [] [] .n (fun _ _ _ => sc0) (fun wf_4 hl_4 hx_4 hR_4 => ?_)
  refine SR.z 0 G G (ev_fa G fo69_0 G (r := 0) G) ?_
  refine SR.z 1 G G (ev_ld1 G ty3 G (At.d (At.lent hR_4 0 G G))) ?_
  refine SR.z 2 G G (ev_cmp G G G G) ?_
  refine SR.m 3 G G G G ?_
  refine SR.y 4 G G (fun _ => ev_fa G fo69_1 G (r := 1) G) ?_
  refine SR.y 5 G G (fun hb => ev_ld1 G ty3 (lkg G hb) (At.d (At.lent hR_4 0 G G))) ?_
  refine SR.y 6 G G (fun hb => ev_cmp G (lkg G hb) G G) ?_
  refine SR.z 7 G G (ev_or G G G G) ?_
  refine SR.m 8 G G G G ?_
  refine SR.y 9 G G (fun _ => ev_fa G fo69_0 G (r := 0) G) ?_
  refine SR.y 10 G G (fun hb => ev_ld1 G ty3 (lkg G hb) (At.d (At.lent hR_4 0 G G))) ?_
  refine SR.y 11 G G (fun _ => ev_fa G fo69_1 G (r := 1) G) ?_
  refine SR.y 12 G G (fun hb => ev_ld1 G ty3 (lkg G hb) (At.d (At.lent hR_4 0 G G))) ?_
  refine SR.y 13 G G (fun hb => ev_cmp G (lkg G hb) (lkg G hb) G) ?_
  refine SR.z 14 G G (ev_or G G G G) ?_
  refine SR.m 15 G G G G ?_
  refine SR.y 16 G G (fun _ => ev_mv G G) ?_
  refine SR.y 17 G G (fun hb => ev_cmp G (lkg G hb) G G) ?_
  refine SR.y 18 G G (fun hb => ev_mv G (lkg G hb)) ?_
  refine SR.ggtake (b1 := (((decide (((gt l i).lo) < 0)) || (decide (((gt l i).hi) > 1000000))) || (decide (((gt l i).lo) > ((gt l i).hi))))) (b := (decide (i > 0))) 19 cb_ft G kR kR kR G (fun _ _ _ _ h => h) G G G G G (fun hb1 _ => ev_fa G fo69_0 G (r := 0) G) ?_
  refine SR.ggtake (b1 := (((decide (((gt l i).lo) < 0)) || (decide (((gt l i).hi) > 1000000))) || (decide (((gt l i).lo) > ((gt l i).hi))))) (b := (decide (i > 0))) 20 cb_ft G kR kR kR G (fun _ _ _ _ h => h) G G G G G (fun hb1 hb => ev_ld1 G ty3 (lkg G hb) (At.d (At.lent hR_4 0 G G))) ?_
  refine SR.ggtake (b1 := (((decide (((gt l i).lo) < 0)) || (decide (((gt l i).hi) > 1000000))) || (decide (((gt l i).lo) > ((gt l i).hi))))) (b := (decide (i > 0))) 21 cb_ft G kR kR kR G (fun _ _ _ _ h => h) G G G G G (fun hb1 _ => ev_mv G G) ?_
  refine SR.ggtake (b1 := (((decide (((gt l i).lo) < 0)) || (decide (((gt l i).hi) > 1000000))) || (decide (((gt l i).lo) > ((gt l i).hi))))) (b := (decide (i > 0))) 22 cb_ft G kR kR kR G (fun _ _ _ _ h => h) G G G G G (fun hb1 _ => ev_mv G G) ?_
  refine SR.ggtake (b1 := (((decide (((gt l i).lo) < 0)) || (decide (((gt l i).hi) > 1000000))) || (decide (((gt l i).lo) > ((gt l i).hi))))) (b := (decide (i > 0))) 23 cb_ft G kR kR kR G (fun _ _ _ _ h => h) G G G G G (fun hb1 hb => have hp := bT (bA (bN (bO (bO bD bD) bD)) bD) hb; ev_sub G (lkg G hb) G (r := (i - 1)) G (by have _h := hp; omega) (by have _h := hp; omega)) ?_
  refine SR.ggtake (b1 := (((decide (((gt l i).lo) < 0)) || (decide (((gt l i).hi) > 1000000))) || (decide (((gt l i).lo) > ((gt l i).hi))))) (b := (decide (i > 0))) 24 cb_ft G kR kR kR G (fun _ _ _ _ h => h) G G G G G (fun hb1 hb => have hp := bT (bA (bN (bO (bO bD bD) bD)) bD) hb; ev_ix G underlying73 ty69 (lkg G hb) (lkg G hb) (by have _h := hp; omega) (by have _h := hp; omega) (fun _ _ => Fr.adr (i := (i - 1)) (Fr.ext hA hx_4) (by have _h := hp; omega) (by have _h := hp; omega))) ?_
  refine SR.ggtake (b1 := (((decide (((gt l i).lo) < 0)) || (decide (((gt l i).hi) > 1000000))) || (decide (((gt l i).lo) > ((gt l i).hi))))) (b := (decide (i > 0))) 25 cb_ft G kR kR kR G (fun _ _ _ _ h => h) G G G G G (fun hb1 hb => ev_fa G fo69_1 (lkg G hb) (r := ao A + ((i - 1)).toNat * 2 + 1) G) ?_
  refine SR.ggtake (b1 := (((decide (((gt l i).lo) < 0)) || (decide (((gt l i).hi) > 1000000))) || (decide (((gt l i).lo) > ((gt l i).hi))))) (b := (decide (i > 0))) 26 cb_ft G kR kR kR G (fun _ _ _ _ h => h) G G G G G (fun hb1 hb => have hp := bT (bA (bN (bO (bO bD bD) bD)) bD) hb; ev_ld1 G ty3 (lkg G hb) (At.elem1 (At.d (Fr.el (i := (i - 1)) (Fr.ext hA hx_4) (by have _h := hp; omega) (by have _h := hp; omega))) 1 G)) ?_
  refine SR.ggtake (b1 := (((decide (((gt l i).lo) < 0)) || (decide (((gt l i).hi) > 1000000))) || (decide (((gt l i).lo) > ((gt l i).hi))))) (b := (decide (i > 0))) 27 cb_ft G kR kR kR G (fun _ _ _ _ h => h) G G G G G (fun hb1 hb => ev_cmp G (lkg G hb) (lkg G hb) G) ?_
  refine SR.y 28 G G (fun hb => ev_and G (lkg G hb) (lkgn G cb_ft hb) G) ?_
  refine SR.z 29 G G (ev_or G G G G) ?_
  refine SR.fin kR hl_4 hx_4 hR_4 .n ?_
  refine SQ.go idQ ?_
  refine .condI G (bO (bO (bO bD bD) bD) (bA bD bD)) (fun h5 => ?_) (fun h5 => ?_)
  ·
   exfalso; omega
  refine .skipgo idQ (.region (.p ((i + 1)) oO oO G G G G G (.m G G G ?_)))
  exact SP.nil (SQ.roundb (X := Int) (x := (i)) (i + 1) (by (try dsimp only); exact ⟨oO, oO⟩) (by show (_ : Nat) < _; omega) (Sub.get (.c4 G G G G .n)) (kp .n))
 refine .exit idQ ?_
 refine .seq (.region (.a G G G (.a G G G (.go idQ ?_))))
 exact .ret idQ (ret2 results77 G G .n ⟨G, G⟩)
theorem mmat_ (n : Int) (A : Option Addr) (c : Nat) (l : List Int) (k : Int) (S : Nat → Prop) (wf : World) (hA : Fr eZ S wf A l) (hk : 1 ≤ k ∧ k ≤ 32) (hn : n = k) (hl : (l.length : Int) = k * k) (hc : ∀ i : Int, -1 ≤ gt l i ∧ gt l i ≤ 32000000) (hg : ∀ a : Int, 0 ≤ a → a < k → gt l (a * k + a) = 0) :
  TR0 prog 41 [.agg #[.int .i64 n, .slice A l.length c], .int .i64 k] [] S wf (fun v_ C_ => v_ = .bool true ∧ C_ = []) := by
 have hla := hA.len
 refine TR.mk func41 G ntmps41 G G (fun w_ => ?_)
 refine .seq (.region (.cons (st_boxa G G G G G (fun b1 => (.a G G G (.go idQ (.seq (.seq (.region ?_)))))))))
 refine .f fo24_0 0 G G G G (.l ty3 0 G G G G G (.m G G G (.e G G G G G ?_)))
 refine .m G G G (.w (fun _ => ev_fa G fo24_1 G (r := 1) G) G (.w (fun hb => ev_ld1 G ty22 (lkg G hb) (At.own1 0 G G)) G (.w (fun hb => ev_len G underlying22 (lkg G hb)) G ?_)))
 refine .w (fun _ => ev_mv G G) G (.w (fun _ => ev_mv G G) G (.w (fun hb => have hp := bF bNE hb; ev_mul G (lkg G hb) (lkg G hb) (r := (k * k)) G (by have _h := hp; have hm_ := mulb (a := k) (b := k) oO oO oO oO; omega) (by have _h := hp; have hm_ := mulb (a := k) (b := k) oO oO oO oO; omega)) G (.w (fun hb => ev_cmp G (lkg G hb) (lkg G hb) G) G ?_)))
 refine .r G G G G G (.go idQ (.condI G (bO bNE bNE) (fun h2 => ?_) (fun h2 => ?_)))
 ·
  exfalso; omega
 refine .skipgo idQ (.seq (.seq (.region (.f fo24_1 1 G G G G (.l ty22 0 G G G G G (.g underlying22 G G G ?_))))))
 refine .m G G G (.go idQ (.block (.loop (X := Int) (fun i => 0 ≤ i ∧ i ≤ (l.length : Int)) (fun i => [(1, .int .i64 k), (21, .slice A l.length c), (22, .int .i64 (l.length : Int)), (23, .int .i64 i)]) (fun i => [cel b1 [.int .i64 n, .slice A l.length c] 24]) (fun _ => S) (fun _ => wf) (fun i => ((l.length : Int) - i).toNat) (fun a_ w_ hs_ hw_ => ⟨0, (by (try dsimp only); exact ⟨oO, oO⟩), hs_.mono (Sub.get (.c4 G G G G .n)), hw_.keep (.c .h .n)⟩) (fun i ⟨q_0, q_1⟩ => ?_))))
 try dsimp only
 have hci := hc i
 have hdg := diag_at hk.1 hl hg (i := i)
 refine .seq (.region (.e G G G G G (.go idQ (.seq (.condI G bD (fun h3 => ?_) (fun h3 => ?_))))))
 ·
  refine .skipgo idQ (.seq (.block (.seq (.region (.m G G G (.v (ev_ix G underlying22 ty3 G G oO oO (fun _ _ => Fr.adr (i := i) hA oO oO)) G (.v (ev_ld1 G ty3 G (At.elem1 (At.w (Fr.el (i := i) hA oO oO)) 0 G)) G ?_)))))))
  refine .a G G G (.a G G G (.go idQ (.seq (.region (.m G G G ?_)))))
  refine .e G G G G G (.m G G G (.w (fun _ => ev_mv G G) G (.w (fun hb => ev_cmp G (lkg G hb) G G) G ?_)))
  refine .r G G G G G (.m G G G (.w (fun _ => ev_mv G G) G (.w (fun _ => ev_mv G G) G ?_)))
  refine .w (fun hb => have hp := bF (bO bD bD) hb; ev_add G (lkg G hb) G (r := (k + 1)) G (by have _h := hp; omega) (by have _h := hp; omega)) G (.w (fun hb => ev_rem G (lkg G hb) (lkg G hb) oO) G (.w (fun hb => ev_cmp G (lkg G hb) G G) G (.w (fun hb => ev_mv G (lkg G hb)) G ?_)))
  refine .cons (Ev.ggstep (b1 := ((decide ((gt l i) < (-1))) || (decide ((gt l i) > 32000000)))) (b := ((Int.tmod i (k + 1)) == 0)) cb_ft (fun hb1 _ => ev_mv G G) G G G G G ?_)
  refine .cons (Ev.ggstep (b1 := ((decide ((gt l i) < (-1))) || (decide ((gt l i) > 32000000)))) (b := ((Int.tmod i (k + 1)) == 0)) cb_ft (fun hb1 hb => ev_cmp G (lkg G hb) G G) G G G G G ?_)
  refine .w (fun hb => ev_and G (lkg G hb) (lkgn G cb_ft hb) G) G (.r G G G G G (.go idQ (.condI G (bO (bO bD bD) (bA bE bNE)) (fun h4 => ?_) (fun h4 => ?_))))
  ·
   exfalso; omega
  refine .skipgo idQ (.region (.p ((i + 1)) oO oO G G G G G (.m G G G ?_)))
  exact SP.nil (SQ.roundb (X := Int) (x := (i)) (i + 1) (by (try dsimp only); exact ⟨oO, oO⟩) (by show (_ : Nat) < _; omega) (Sub.get (.c4 G G G G .n)) (kp (.c .h .n)))
 refine .exit idQ ?_
 refine .seq (.region (.a G G G (.go idQ (.ret idQ (ret1 results41 G .n ⟨G, G⟩)))))
theorem mstop_ (s : SO) (k : Int) (S : Nat → Prop) (wf : World) (hS : SOF S wf s) (hk : 1 ≤ k ∧ k ≤ 32) (hs : StopOk k s) :
  TR0 prog 43 [.agg #[.int .i64 s.pl, .int .i64 s.srv, .slice s.soA s.sws.length s.soc], .int .i64 k] [] S wf (fun v_ C_ => v_ = .bool true ∧ C_ = []) := by
 have hp := hs.pl
 have hv := hs.srv
 refine TR.mk func43 G ntmps43 G G (fun w_ => ?_)
 refine .seq (.region (.cons (st_boxa G G G G G (fun b1 => (.a G G G (.go idQ (.seq (.region ?_))))))))
 refine .f fo78_2 2 G G G G (.l ty73 0 G G G G G (.cons (st_callk G G G G hbd77 G .n (hchk_ s.soA s.soc s.sws _ _ hS hs.win) (.m G G G ?_))))
 refine .x G G G G (.x G G G G (.a G G G (.a G G G ?_)))
 refine .go idQ (.seq (.region (.f fo78_0 0 G G G G (.l ty3 0 G G G G G (.m G G G ?_)))))
 refine .v (ev_sub G G G (r := (k - 1)) G oO oO) G (.cons (st_callk G G G G hbd40 G .n (in_ s.pl (k - 1) _ _ oO) (.m G G G (.cons (.on G G G (Ev.step (ev_fa G fo78_1 G (r := 1) G) G G G ?_))))))
 refine .cons (.on G G G (Ev.step (ev_ld1 G ty3 G (At.own1 0 G G)) G G G ?_))
 refine .cons (.on G G G (st_callk G G G G hbd40 G .n (in_ s.srv 1000000 _ _ oO) ?_))
 refine .v (ev_pickt G G G G) G (.m G G G (.cons (.on G G G (Ev.step (ev_mv G G) G G G (.cons (.on G G G (Ev.step (ev_cmp (r := true) G G G G) G G G ?_)))))))
 refine .v (ev_pickt G G G G) G (.a G G G (.go idQ (.ret idQ (ret1 results43 G .n ⟨G, G⟩))))
theorem mveh_ (v : VH) (d : Int) (k : Int) (S : Nat → Prop) (wf : World) (hV : VHF S wf v) (hk : 1 ≤ k ∧ k ≤ 32) (hv : VehOk d k v) :
  TR0 prog 42 [.agg #[.int .i64 v.st, .int .i64 v.en, .slice v.vcA v.vcap.length v.vcc, .int .u64 v.vsk, .int .i64 v.lo, .int .i64 v.hi, .int .i64 v.fix, .int .i64 v.pt, .int .i64 v.pd, .int .i64 v.mt, .slice v.vbA v.brs.length v.vbc], .int .i64 d, .int .i64 k] [] S wf (fun v_ C_ => v_ = .bool true ∧ C_ = []) := by
 have hbl := hV.2.1.len
 have v1 := hv.st
 have v2 := hv.en
 have v3 := hv.sk
 have v4 := hv.fix
 have v5 := hv.pt
 have v6 := hv.pd
 have v7 := hv.mt
 have v8 := hv.brs
 refine TR.mk func42 G ntmps42 G G (fun w_ => ?_)
 refine .seq (.region (.cons (st_boxa G G G G G (fun b1 => (.a G G G (.go idQ (.seq (.seq (.region ?_)))))))))
 refine .f fo72_9 10 G G G G (.l ty70 0 G G G G G (.g underlying70 G G G (.m G G G ?_)))
 refine .go idQ (.block (.loop (X := Int) (fun i => 0 ≤ i ∧ i ≤ (v.brs.length : Int)) (fun i => [(1, .int .i64 d), (2, .int .i64 k), (3, .pointer (some ⟨b1, 0, none⟩)), (14, .slice v.vbA v.brs.length v.vbc), (15, .int .i64 (v.brs.length : Int)), (16, .int .i64 i)]) (fun i => [cel b1 [.int .i64 v.st, .int .i64 v.en, .slice v.vcA v.vcap.length v.vcc, .int .u64 v.vsk, .int .i64 v.lo, .int .i64 v.hi, .int .i64 v.fix, .int .i64 v.pt, .int .i64 v.pd, .int .i64 v.mt, .slice v.vbA v.brs.length v.vbc] 72]) (fun _ => S) (fun _ => wf) (fun i => ((v.brs.length : Int) - i).toNat) (fun a_ w_ hs_ hw_ => ⟨0, (by (try dsimp only); exact ⟨oO, oO⟩), hs_.mono (Sub.get (.c4 G G G G (.c G (.c G .n)))), hw_.keep (.c .h .n)⟩) (fun i ⟨q_0, q_1⟩ => ?_)))
 try dsimp only
 refine .seq (.region (.e G G G G G (.go idQ (.seq (.condI G bD (fun h2 => ?_) (fun h2 => ?_))))))
 ·
  refine .skipgo idQ (.seq (.block (.seq (.region (.v (ev_ix G underlying70 ty75 G G oO oO (fun _ _ => Fr.adr (i := i) hV.2.1 oO oO)) G (.v (ev_lda G G (At.w (Fr.el (i := i) hV.2.1 oO oO)) ty75) G (.cons (st_alloc G G G G zf75 (fun b3 => ?_)))))))))
  refine .cons (st_storea (l' := [.slice ((gt v.brs i).bwA) ((gt v.brs i).bws.length) ((gt v.brs i).bwc), .int .i64 ((gt v.brs i).bsrv)]) G G G ty75 G G G .h G G ?_)
  refine .go idQ (.seq ?_)
  have hbi := hv.brk i oO oO
  refine .region (.f fo75_0 0 G G G G (.l ty73 0 G G G G G (.cons (st_callk G G G G hbd77 G .n (hchk_ ((gt v.brs i).bwA) ((gt v.brs i).bwc) ((gt v.brs i).bws) _ _ (hV.2.2 i) hbi.1) ?_))))
  refine .m G G G (.x G G G G (.x G G G G (.a G G G ?_)))
  refine .a G G G (.go idQ (.seq ?_))
  have hbs := hbi.2
  refine .region (.m G G G (.v (ev_cmp (r := false) G G G G) G (.m G G G ?_)))
  refine .cons (.on G G G (Ev.step (ev_fa G fo75_1 G (r := 1) G) G G G ?_))
  refine .cons (.on G G G (Ev.step (ev_ld1 G ty3 G (At.own1 0 G G)) G G G ?_))
  refine .cons (.on G G G (st_callk G G G G hbd40 G .n (in_ ((gt v.brs i).bsrv) 1000000 _ _ oO) ?_))
  refine .cons (.on G G G (Ev.step (ev_not G G) G G G ?_))
  refine .v (ev_pickf G G G G) G (.go idQ (.cond_f G (.skipgo idQ (.region ?_))))
  refine .p ((i + 1)) oO oO G G G G G (.m G G G ?_)
  exact SP.nil (SQ.roundb (X := Int) (x := (i)) (i + 1) (by (try dsimp only); exact ⟨oO, oO⟩) (by show (_ : Nat) < _; omega) (Sub.get (.c4 G G G G (.c G (.c G .n)))) (kp (.c (.t .h) .n)))
 refine .exit idQ ?_
 refine .seq (.region (.f fo72_4 4 G G G G (.v (ev_lda (cs := [.int .i64 v.lo, .int .i64 v.hi]) G G (At.own 0 G G) ty69) G (.cons (st_lit eWN (e := 69) (l := [(WN.mk v.lo v.hi)]) G G G G kR G G kW (fun b4 => ?_))))))
 refine .cons (st_lendk G G G G hbd77 G .n (.c .h .n) (fun w_ hw => hchk_ (some ⟨b4, 0, none⟩) 1 [(WN.mk v.lo v.hi)] _ _ (Fr.lend hw 0 G lO) (shift_to hv.sh)) ?_)
 refine .m G G G (.x G G G G (.x G G G G (.a G G G ?_)))
 refine .a G G G (.go idQ (.seq (.region (.f fo72_0 0 G G G G (.l ty3 1 G G G G G ?_)))))
 refine .m G G G (.v (ev_sub G G G (r := (k - 1)) G oO oO) G (.cons (st_callk G G G G hbd40 G .n (in_ v.st (k - 1) _ _ oO) (.m G G G ?_))))
 refine .cons (.on G G G (Ev.step (ev_fa G fo72_1 G (r := 1) G) G G G ?_))
 refine .cons (.on G G G (Ev.step (ev_ld1 G ty3 G (At.own1 1 G G)) G G G ?_))
 refine .cons (.on G G G (Ev.step (ev_mv G G) G G G ?_))
 refine .cons (.on G G G (Ev.step (ev_sub G G G (r := (k - 1)) G oO oO) G G G ?_))
 refine .cons (.on G G G (st_callk G G G G hbd40 G .n (in_ v.en (k - 1) _ _ oO) ?_))
 refine .v (ev_pickt G G G G) G (.m G G G (.cons (.on G G G (Ev.step (ev_fa G fo72_2 G (r := 2) G) G G G (.cons (.on G G G (Ev.step (ev_ld1 G ty22 G (At.own1 1 G G)) G G G ?_)))))))
 refine .cons (.on G G G (Ev.step (ev_mv G G) G G G ?_))
 refine .cons (.on G G G (st_callk G G G G hbd44 G .n (lchk_ v.vcA v.vcc v.vcap d _ _ hV.1 hv.cap.1 hv.cap.2) ?_))
 refine .cons (.on G G G (Ev.step (ev_cmp (r := true) G G G G) G G G ?_))
 refine .v (ev_pickt G G G G) G (.m G G G (.cons (.on G G G (Ev.step (ev_fa G fo72_3 G (r := 3) G) G G G (.cons (.on G G G (Ev.step (ev_ld1 G ty67 G (At.own1 1 G G)) G G G ?_)))))))
 refine .cons (.on G G G (st_callk G G G G hbd45 G .n (valid_ v.vsk _ _ oO) ?_))
 refine .v (ev_pickt G G G G) G (.m G G G (.cons (.on G G G (Ev.step (ev_mv G G) G G G (.cons (.on G G G (Ev.step (ev_cmp (r := true) G G G G) G G G ?_)))))))
 refine .v (ev_pickt G G G G) G (.m G G G (.cons (.on G G G (Ev.step (ev_fa G fo72_5 G (r := 6) G) G G G (.cons (.on G G G (Ev.step (ev_ld1 G ty3 G (At.own1 1 G G)) G G G ?_)))))))
 refine .cons (.on G G G (st_callk G G G G hbd40 G .n (in_ v.fix 1000000 _ _ oO) ?_))
 refine .v (ev_pickt G G G G) G (.m G G G (.cons (.on G G G (Ev.step (ev_fa G fo72_6 G (r := 7) G) G G G (.cons (.on G G G (Ev.step (ev_ld1 G ty3 G (At.own1 1 G G)) G G G ?_)))))))
 refine .cons (.on G G G (st_callk G G G G hbd40 G .n (in_ v.pt 1000000 _ _ oO) ?_))
 refine .v (ev_pickt G G G G) G (.m G G G (.cons (.on G G G (Ev.step (ev_fa G fo72_7 G (r := 8) G) G G G (.cons (.on G G G (Ev.step (ev_ld1 G ty3 G (At.own1 1 G G)) G G G ?_)))))))
 refine .cons (.on G G G (st_callk G G G G hbd40 G .n (in_ v.pd 1000000 _ _ oO) ?_))
 refine .v (ev_pickt G G G G) G (.m G G G (.cons (.on G G G (Ev.step (ev_fa G fo72_8 G (r := 9) G) G G G (.cons (.on G G G (Ev.step (ev_ld1 G ty3 G (At.own1 1 G G)) G G G ?_)))))))
 refine .cons (.on G G G (st_callk G G G G hbd40 G .n (in_ v.mt 12 _ _ oO) ?_))
 refine .v (ev_pickt G G G G) G (.m G G G (.cons (.on G G G (Ev.step (ev_fa G fo72_9 G (r := 10) G) G G G (.cons (.on G G G (Ev.step (ev_ld1 G ty70 G (At.own1 1 G G)) G G G ?_)))))))
 refine .cons (.on G G G (Ev.step (ev_len G underlying70 G) G G G ?_))
 refine .cons (.on G G G (Ev.step (ev_cmp G G G G) G G G ?_))
 refine .v (ev_pickt G G G G) G (.a G G G (.go idQ (.ret idQ (ret1 results42 G .n ⟨(congrArg Value.bool (decide_eq_true oO)), G⟩))))
theorem mcheck_ (p : PB) (S : Nat → Prop) (wf : World) (hPB : PBF S wf p) (hL : LawP p) :
  TR0 prog 18 [.agg (cPB p).toArray] [] S wf (fun v_ C_ => v_ = .int .i64 0 ∧ C_ = []) := by
 have hlv := hPB.2.2.1.1.len
 have hlj := hPB.2.2.2.1.1.len
 have hls := hPB.2.2.2.2.1.len
 have c1 := hL.dims
 have c2 := hL.tn
 have c3 := hL.nv
 have c4 := hL.nj
 have c5 := hL.dn
 refine TR.mk func18 G ntmps18 G G (fun w_ => ?_)
 refine .seq (.region (.cons (st_boxa G G G G G (fun b1 => (.a G G G (.go idQ (.seq (.region ?_))))))))
 refine .f fo29_1 1 G G G G (.f fo24_0 1 G G G G (.l ty3 0 G G G G G (.a G G G ?_)))
 refine .go idQ (.seq (.block (.seq (.seq (.region (.f fo29_0 0 G G G G (.l ty3 0 G G G G G (.cons (st_callk G G G G hbd40 G .n (in_ p.dims 3 _ _ oO) ?_)))))))))
 refine .v (ev_not G G) G (.a G G G (.go idQ (.cond_f G ?_)))
 refine .seq (.region (.m G G G (.e G G G G G (.m G G G ?_))))
 refine .w (fun _ => ev_mv G G) G (.w (fun hb => ev_cmp G (lkg G hb) G G) G (.r G G G G G (.a G G G ?_)))
 refine .go idQ (.condI G (bO bD bD) (fun h2 => ?_) (fun h2 => ?_))
 ·
  exfalso; omega
 refine .seq (.region (.f fo29_1 1 G G G G (.v (ev_lda (cs := [.int .i64 p.tn, .slice p.ptA p.time.length p.ptc]) G G (At.own 0 G G) ty24) G (.m G G G ?_))))
 refine .cons (st_callk G G G G hbd41 G .n (mmat_ p.tn p.ptA p.ptc p.time p.tn _ _ hPB.1 hL.tn G hL.tlen hL.tc hL.tg) ?_)
 refine .v (ev_not G G) G (.a G G G (.go idQ (.cond_f G ?_)))
 refine .region (.f fo29_2 3 G G G G (.v (ev_lda (cs := [.int .i64 p.dn, .slice p.pdA p.dist.length p.pdc]) G G (At.own 0 G G) ty24) G (.m G G G ?_)))
 refine .cons (st_callk G G G G hbd41 G .n (mmat_ p.dn p.pdA p.pdc p.dist p.tn _ _ hPB.2.1 hL.tn hL.dn hL.dlen hL.dc hL.dg) ?_)
 refine .v (ev_not G G) G (.a G G G (.go idQ (.cond_f G ?_)))
 refine .seq (.region (.f fo29_3 5 G G G G (.l ty25 0 G G G G G (.g underlying25 G G G ?_))))
 refine .e G G G G G (.m G G G (.w (fun _ => ev_fa G fo29_4 G (r := 6) G) G (.w (fun hb => ev_ld1 G ty26 (lkg G hb) (At.own1 0 G G)) G ?_)))
 refine .w (fun hb => ev_len G underlying26 (lkg G hb)) G (.w (fun _ => ev_fa G fo29_5 G (r := 7) G) G (.w (fun hb => ev_ld1 G ty27 (lkg G hb) (At.own1 0 G G)) G (.w (fun hb => ev_len G underlying27 (lkg G hb)) G ?_)))
 refine .w (fun hb => have hp := bF bD hb; ev_add G (lkg G hb) (lkg G hb) (r := ((p.jobs.length : Int) + (p.ships.length : Int))) G (by have _h := hp; omega) (by have _h := hp; omega)) G (.w (fun hb => ev_cmp G (lkg G hb) G G) G (.r G G G G G (.a G G G ?_)))
 refine .go idQ (.condI G (bO bD bD) (fun h3 => ?_) (fun h3 => ?_))
 ·
  exfalso; omega
 refine .skipgo idQ (.seq (.seq (.region (.f fo29_3 5 G G G G (.l ty25 0 G G G G G (.g underlying25 G G G ?_))))))
 refine .m G G G (.go idQ (.block (.loop (X := Int) (fun i => 0 ≤ i ∧ i ≤ (p.vehs.length : Int)) (fun i => [(1, .pointer (some ⟨b1, 0, none⟩)), (3, .int .i64 p.tn), (50, .slice p.pvA p.vehs.length p.pvc), (51, .int .i64 (p.vehs.length : Int)), (52, .int .i64 i)]) (fun i => [cel b1 (cPB p) 29]) (fun _ => S) (fun _ => wf) (fun i => ((p.vehs.length : Int) - i).toNat) (fun a_ w_ hs_ hw_ => ⟨0, (by (try dsimp only); exact ⟨oO, oO⟩), hs_.mono (Sub.get (.c4 G G G G (.c G .n))), hw_.keep (.c .h .n)⟩) (fun i ⟨q_0, q_1⟩ => ?_))))
 try dsimp only
 refine .seq (.region (.e G G G G G (.go idQ (.seq (.condI G bD (fun h4 => ?_) (fun h4 => ?_))))))
 ·
  refine .skipgo idQ (.seq (.block (.seq (.region (.v (ev_ix G underlying25 ty72 G G oO oO (fun _ _ => Fr.adr (i := i) hPB.2.2.1.1 oO oO)) G (.v (ev_lda G G (At.w (Fr.el (i := i) hPB.2.2.1.1 oO oO)) ty72) G (.cons (st_alloc G G G G zf72 (fun b5 => ?_)))))))))
  refine .cons (st_storea (l' := [.int .i64 ((gt p.vehs i).st), .int .i64 ((gt p.vehs i).en), .slice ((gt p.vehs i).vcA) ((gt p.vehs i).vcap.length) ((gt p.vehs i).vcc), .int .u64 ((gt p.vehs i).vsk), .int .i64 ((gt p.vehs i).lo), .int .i64 ((gt p.vehs i).hi), .int .i64 ((gt p.vehs i).fix), .int .i64 ((gt p.vehs i).pt), .int .i64 ((gt p.vehs i).pd), .int .i64 ((gt p.vehs i).mt), .slice ((gt p.vehs i).vbA) ((gt p.vehs i).brs.length) ((gt p.vehs i).vbc)]) G G G ty72 G G G .h G G ?_)
  refine .go idQ (.seq (.region (.d 0 ty72 G G G G (.f fo29_0 0 G G G G (.l ty3 1 G G G G G ?_)))))
  refine .m G G G (.cons (st_callk G G G G hbd42 G .n (mveh_ (gt p.vehs i) p.dims p.tn _ _ (hPB.2.2.1.2 i) hL.tn (hL.veh i oO oO)) (.v (ev_not G G) G (.go idQ ?_))))
  refine .cond_f G ?_
  refine .skipgo idQ (.region (.p ((i + 1)) oO oO G G G G G (.m G G G ?_)))
  exact SP.nil (SQ.roundb (X := Int) (x := (i)) (i + 1) (by (try dsimp only); exact ⟨oO, oO⟩) (by show (_ : Nat) < _; omega) (Sub.get (.c4 G G G G (.c G .n))) (kp (.c (.t .h) .n)))
 refine .exit idQ ?_
 refine .seq (.seq (.region (.f fo29_4 6 G G G G (.l ty26 0 G G G G G (.g underlying26 G G G ?_)))))
 refine .m G G G (.go idQ (.block (.loop (X := Int) (fun k => 0 ≤ k ∧ k ≤ (p.jobs.length : Int)) (fun k => [(1, .pointer (some ⟨b1, 0, none⟩)), (3, .int .i64 p.tn), (50, .slice p.pvA p.vehs.length p.pvc), (51, .int .i64 (p.vehs.length : Int)), (52, .int .i64 i), (64, .slice p.pjA p.jobs.length p.pjc), (65, .int .i64 (p.jobs.length : Int)), (66, .int .i64 k)]) (fun k => [cel b1 (cPB p) 29]) (fun _ => S) (fun _ => wf) (fun k => ((p.jobs.length : Int) - k).toNat) (fun a_ w_ hs_ hw_ => ⟨0, (by (try dsimp only); exact ⟨oO, oO⟩), hs_.mono (Sub.get (.c4 G G G G (.c4 G G G G .n))), hw_.keep (.c .h .n)⟩) (fun k ⟨r_0, r_1⟩ => ?_))))
 try dsimp only
 refine .seq (.region (.e G G G G G (.go idQ (.seq (.condI G bD (fun h6 => ?_) (fun h6 => ?_))))))
 ·
  refine .skipgo idQ (.seq (.block (.seq (.region (.v (ev_ix G underlying26 ty80 G G oO oO (fun _ _ => Fr.adr (i := k) hPB.2.2.2.1.1 oO oO)) G (.v (ev_lda G G (At.w (Fr.el (i := k) hPB.2.2.2.1.1 oO oO)) ty80) G (.cons (st_alloc G G G G zf80 (fun b7 => ?_)))))))))
  refine .cons (st_storea (l' := [.int .i64 (((gt p.jobs k).so).pl), .int .i64 (((gt p.jobs k).so).srv), .slice (((gt p.jobs k).so).soA) (((gt p.jobs k).so).sws.length) (((gt p.jobs k).so).soc), .slice ((gt p.jobs k).jdA) ((gt p.jobs k).drop.length) ((gt p.jobs k).jdc), .slice ((gt p.jobs k).jkA) ((gt p.jobs k).pick.length) ((gt p.jobs k).jkc), .int .u64 ((gt p.jobs k).jsk), .int .i64 ((gt p.jobs k).jpr)]) G G G ty80 G G G .h G G ?_)
  refine .go idQ (.seq ?_)
  have hJ := hL.job k oO oO
  have j1 := hJ.sk
  have j2 := hJ.pr
  refine .region (.f fo80_0 0 G G G G (.v (ev_lda (cs := [.int .i64 (((gt p.jobs k).so).pl), .int .i64 (((gt p.jobs k).so).srv), .slice (((gt p.jobs k).so).soA) (((gt p.jobs k).so).sws.length) (((gt p.jobs k).so).soc)]) G G (At.own 0 G G) ty78) G (.m G G G ?_)))
  refine .cons (st_callk G G G G hbd43 G .n (mstop_ ((gt p.jobs k).so) p.tn _ _ ((hPB.2.2.2.1.2 k).2.2) hL.tn hJ.so) ?_)
  refine .v (ev_not G G) G (.m G G G (.cons (.on G G G (Ev.step (ev_fa G fo80_1 G (r := 3) G) G G G (.cons (.on G G G (Ev.step (ev_ld1 G ty22 G (At.own1 0 G G)) G G G ?_)))))))
  refine .cons (.on G G G (Ev.step (ev_fa G fo29_0 G (r := 0) G) G G G ?_))
  refine .cons (.on G G G (Ev.step (ev_ld1 G ty3 G (At.own1 1 G G)) G G G ?_))
  refine .cons (.on G G G (st_callk G G G G hbd44 G .n (lchk_ ((gt p.jobs k).jdA) ((gt p.jobs k).jdc) ((gt p.jobs k).drop) p.dims _ _ ((hPB.2.2.2.1.2 k).1) hJ.drop.1 hJ.drop.2) ?_))
  refine .cons (.on G G G (Ev.step (ev_cmp (r := false) G G G G) G G G ?_))
  refine .v (ev_pickf G G G G) G (.m G G G (.cons (.on G G G (Ev.step (ev_fa G fo80_2 G (r := 4) G) G G G (.cons (.on G G G (Ev.step (ev_ld1 G ty22 G (At.own1 0 G G)) G G G ?_)))))))
  refine .cons (.on G G G (Ev.step (ev_fa G fo29_0 G (r := 0) G) G G G ?_))
  refine .cons (.on G G G (Ev.step (ev_ld1 G ty3 G (At.own1 1 G G)) G G G ?_))
  refine .cons (.on G G G (st_callk G G G G hbd44 G .n (lchk_ ((gt p.jobs k).jkA) ((gt p.jobs k).jkc) ((gt p.jobs k).pick) p.dims _ _ ((hPB.2.2.2.1.2 k).2.1) hJ.pick.1 hJ.pick.2) ?_))
  refine .cons (.on G G G (Ev.step (ev_cmp (r := false) G G G G) G G G ?_))
  refine .v (ev_pickf G G G G) G (.m G G G (.cons (.on G G G (Ev.step (ev_fa G fo80_3 G (r := 5) G) G G G (.cons (.on G G G (Ev.step (ev_ld1 G ty67 G (At.own1 0 G G)) G G G ?_)))))))
  refine .cons (.on G G G (st_callk G G G G hbd45 G .n (valid_ ((gt p.jobs k).jsk) _ _ oO) ?_))
  refine .cons (.on G G G (Ev.step (ev_not G G) G G G ?_))
  refine .v (ev_pickf G G G G) G (.m G G G (.cons (.on G G G (Ev.step (ev_fa G fo80_4 G (r := 6) G) G G G (.cons (.on G G G (Ev.step (ev_ld1 G ty3 G (At.own1 0 G G)) G G G ?_)))))))
  refine .cons (.on G G G (st_callk G G G G hbd40 G .n (in_ ((gt p.jobs k).jpr) 100 _ _ oO) ?_))
  refine .cons (.on G G G (Ev.step (ev_not G G) G G G ?_))
  refine .v (ev_pickf G G G G) G (.go idQ (.cond_f G (.skipgo idQ (.region ?_))))
  refine .p ((k + 1)) oO oO G G G G G (.m G G G ?_)
  exact SP.nil (SQ.roundb (X := Int) (x := (k)) (k + 1) (by (try dsimp only); exact ⟨oO, oO⟩) (by show (_ : Nat) < _; omega) (Sub.get (.c4 G G G G (.c4 G G G G .n))) (kp (.c (.t .h) .n)))
 refine .exit idQ ?_
 refine .seq (.seq (.region (.f fo29_5 7 G G G G (.l ty27 0 G G G G G (.g underlying27 G G G ?_)))))
 refine .m G G G (.go idQ (.block (.loop (X := Int) (fun m => 0 ≤ m ∧ m ≤ (p.ships.length : Int)) (fun m => [(1, .pointer (some ⟨b1, 0, none⟩)), (3, .int .i64 p.tn), (50, .slice p.pvA p.vehs.length p.pvc), (51, .int .i64 (p.vehs.length : Int)), (52, .int .i64 i), (64, .slice p.pjA p.jobs.length p.pjc), (65, .int .i64 (p.jobs.length : Int)), (66, .int .i64 k), (105, .slice p.psA p.ships.length p.psc), (106, .int .i64 (p.ships.length : Int)), (107, .int .i64 m)]) (fun m => [cel b1 (cPB p) 29]) (fun _ => S) (fun _ => wf) (fun m => ((p.ships.length : Int) - m).toNat) (fun a_ w_ hs_ hw_ => ⟨0, (by (try dsimp only); exact ⟨oO, oO⟩), hs_.mono (Sub.get (.c4 G G G G (.c4 G G G G (.c G (.c G (.c G .n)))))), hw_.keep (.c .h .n)⟩) (fun m ⟨s_0, s_1⟩ => ?_))))
 try dsimp only
 refine .seq (.region (.e G G G G G (.go idQ (.seq (.condI G bD (fun h8 => ?_) (fun h8 => ?_))))))
 ·
  refine .skipgo idQ (.seq (.block (.seq (.region (.v (ev_ix G underlying27 ty83 G G oO oO (fun _ _ => Fr.adr (i := m) hPB.2.2.2.2.1 oO oO)) G (.v (ev_lda G G (At.w (Fr.el (i := m) hPB.2.2.2.2.1 oO oO)) ty83) G (.cons (st_alloc G G G G zf83 (fun b9 => ?_)))))))))
  refine .cons (st_storea (l' := [.int .i64 (((gt p.ships m).sp).pl), .int .i64 (((gt p.ships m).sp).srv), .slice (((gt p.ships m).sp).soA) (((gt p.ships m).sp).sws.length) (((gt p.ships m).sp).soc), .int .i64 (((gt p.ships m).sd).pl), .int .i64 (((gt p.ships m).sd).srv), .slice (((gt p.ships m).sd).soA) (((gt p.ships m).sd).sws.length) (((gt p.ships m).sd).soc), .slice ((gt p.ships m).saA) ((gt p.ships m).am.length) ((gt p.ships m).sac), .int .u64 ((gt p.ships m).ssk), .int .i64 ((gt p.ships m).spr)]) G G G ty83 G G G .h G G ?_)
  refine .go idQ (.seq ?_)
  have hH := hL.ship m oO oO
  have j1 := hH.sk
  have j2 := hH.pr
  refine .region (.f fo83_0 0 G G G G (.v (ev_lda (cs := [.int .i64 (((gt p.ships m).sp).pl), .int .i64 (((gt p.ships m).sp).srv), .slice (((gt p.ships m).sp).soA) (((gt p.ships m).sp).sws.length) (((gt p.ships m).sp).soc)]) G G (At.own 0 G G) ty78) G (.m G G G ?_)))
  refine .cons (st_callk G G G G hbd43 G .n (mstop_ ((gt p.ships m).sp) p.tn _ _ ((hPB.2.2.2.2.2 m).2.1) hL.tn hH.sp) ?_)
  refine .v (ev_not G G) G (.m G G G (.cons (.on G G G (Ev.step (ev_fa G fo83_1 G (r := 3) G) G G G (.cons (.on G G G (Ev.step (ev_lda (cs := [.int .i64 (((gt p.ships m).sd).pl), .int .i64 (((gt p.ships m).sd).srv), .slice (((gt p.ships m).sd).soA) (((gt p.ships m).sd).sws.length) (((gt p.ships m).sd).soc)]) G G (At.own 0 G G) ty78) G G G ?_)))))))
  refine .cons (.on G G G (Ev.step (ev_mv G G) G G G ?_))
  refine .cons (.on G G G (st_callk G G G G hbd43 G .n (mstop_ ((gt p.ships m).sd) p.tn _ _ ((hPB.2.2.2.2.2 m).2.2) hL.tn hH.sd) ?_))
  refine .cons (.on G G G (Ev.step (ev_not G G) G G G ?_))
  refine .v (ev_pickf G G G G) G (.m G G G (.cons (.on G G G (Ev.step (ev_fa G fo83_2 G (r := 6) G) G G G (.cons (.on G G G (Ev.step (ev_ld1 G ty22 G (At.own1 0 G G)) G G G ?_)))))))
  refine .cons (.on G G G (Ev.step (ev_fa G fo29_0 G (r := 0) G) G G G ?_))
  refine .cons (.on G G G (Ev.step (ev_ld1 G ty3 G (At.own1 1 G G)) G G G ?_))
  refine .cons (.on G G G (st_callk G G G G hbd44 G .n (lchk_ ((gt p.ships m).saA) ((gt p.ships m).sac) ((gt p.ships m).am) p.dims _ _ ((hPB.2.2.2.2.2 m).1) hH.am.1 hH.am.2) ?_))
  refine .cons (.on G G G (Ev.step (ev_cmp (r := false) G G G G) G G G ?_))
  refine .v (ev_pickf G G G G) G (.m G G G (.cons (.on G G G (Ev.step (ev_fa G fo83_3 G (r := 7) G) G G G (.cons (.on G G G (Ev.step (ev_ld1 G ty67 G (At.own1 0 G G)) G G G ?_)))))))
  refine .cons (.on G G G (st_callk G G G G hbd45 G .n (valid_ ((gt p.ships m).ssk) _ _ oO) ?_))
  refine .cons (.on G G G (Ev.step (ev_not G G) G G G ?_))
  refine .v (ev_pickf G G G G) G (.m G G G (.cons (.on G G G (Ev.step (ev_fa G fo83_4 G (r := 8) G) G G G (.cons (.on G G G (Ev.step (ev_ld1 G ty3 G (At.own1 0 G G)) G G G ?_)))))))
  refine .cons (.on G G G (st_callk G G G G hbd40 G .n (in_ ((gt p.ships m).spr) 100 _ _ oO) ?_))
  refine .cons (.on G G G (Ev.step (ev_not G G) G G G ?_))
  refine .v (ev_pickf G G G G) G (.go idQ (.cond_f G (.skipgo idQ (.region ?_))))
  refine .p ((m + 1)) oO oO G G G G G (.m G G G ?_)
  exact SP.nil (SQ.roundb (X := Int) (x := (m)) (m + 1) (by (try dsimp only); exact ⟨oO, oO⟩) (by show (_ : Nat) < _; omega) (Sub.get (.c4 G G G G (.c4 G G G G (.c G (.c G (.c G .n)))))) (kp (.c (.t .h) .n)))
 refine .exit idQ ?_
 refine .seq (.region (.a G G G (.go idQ (.ret idQ (ret1 results18 G .n ⟨G, G⟩)))))
theorem xsmall_ (p : PB) (S : Nat → Prop) (wf : World) (hPB : PBF S wf p) :
  TR0 prog 19 [.agg (cPB p).toArray] [] S wf (fun v_ C_ => v_ = .bool (decide ((p.vehs.length : Int) ≤ 1) && decide (((p.jobs.length : Int) + (2 * (p.ships.length : Int))) ≤ 8)) ∧ C_ = []) := by
 have hlv := hPB.2.2.1.1.len
 have hlj := hPB.2.2.2.1.1.len
 have hls := hPB.2.2.2.2.1.len
 refine TR.mk func19 G ntmps19 G G (fun w_ => ?_)
 refine .seq (.region (.cons (st_boxa G G G G G (fun b1 => (.a G G G (.go idQ (.seq (.region ?_))))))))
 refine .f fo29_3 5 G G G G (.l ty25 0 G G G G G (.g underlying25 G G G (.e G G G G G ?_)))
 refine .m G G G (.w (fun _ => ev_fa G fo29_4 G (r := 6) G) G (.w (fun hb => ev_ld1 G ty26 (lkg G hb) (At.own1 0 G G)) G (.w (fun hb => ev_len G underlying26 (lkg G hb)) G ?_)))
 refine .w (fun _ => ev_fa G fo29_5 G (r := 7) G) G (.w (fun hb => ev_ld1 G ty27 (lkg G hb) (At.own1 0 G G)) G (.w (fun hb => ev_len G underlying27 (lkg G hb)) G (.w (fun hb => have hp := bT bD hb; ev_mul G G (lkg G hb) (r := (2 * (p.ships.length : Int))) G (by have _h := hp; omega) (by have _h := hp; omega)) G ?_)))
 refine .w (fun hb => have hp := bT bD hb; ev_add G (lkg G hb) (lkg G hb) (r := ((p.jobs.length : Int) + (2 * (p.ships.length : Int)))) G (by have _h := hp; omega) (by have _h := hp; omega)) G (.w (fun hb => ev_cmp G (lkg G hb) G G) G (.v (ev_and G G G G) G (.a G G G ?_)))
 refine .go idQ (.ret idQ (ret1 results19 G .n ⟨G, G⟩))
theorem rsmall19_ (p : PB) (S : Nat → Prop) (wf : World) (hPB : PBF S wf p) :
  TR0 prog 7 [.agg (cPB p).toArray] [] S wf (fun v_ C_ => v_ = .bool (decide ((p.vehs.length : Int) ≤ 1) && decide (((p.jobs.length : Int) + (2 * (p.ships.length : Int))) ≤ 8)) ∧ C_ = []) := by
 have hlv := hPB.2.2.1.1.len
 have hlj := hPB.2.2.2.1.1.len
 have hls := hPB.2.2.2.2.1.len
 refine TR.mk func7 G ntmps7 G G (fun w_ => ?_)
 refine .seq (.region (.cons (st_boxa G G G G G (fun b1 => (.a G G G (.go idQ (.seq (.region ?_))))))))
 refine .f fo29_3 5 G G G G (.l ty25 0 G G G G G (.g underlying25 G G G (.e G G G G G ?_)))
 refine .m G G G (.w (fun _ => ev_fa G fo29_4 G (r := 6) G) G (.w (fun hb => ev_ld1 G ty26 (lkg G hb) (At.own1 0 G G)) G (.w (fun hb => ev_len G underlying26 (lkg G hb)) G ?_)))
 refine .w (fun _ => ev_fa G fo29_5 G (r := 7) G) G (.w (fun hb => ev_ld1 G ty27 (lkg G hb) (At.own1 0 G G)) G (.w (fun hb => ev_len G underlying27 (lkg G hb)) G (.w (fun hb => have hp := bT bD hb; ev_mul G G (lkg G hb) (r := (2 * (p.ships.length : Int))) G (by have _h := hp; omega) (by have _h := hp; omega)) G ?_)))
 refine .w (fun hb => have hp := bT bD hb; ev_add G (lkg G hb) (lkg G hb) (r := ((p.jobs.length : Int) + (2 * (p.ships.length : Int)))) G (by have _h := hp; omega) (by have _h := hp; omega)) G (.w (fun hb => ev_cmp G (lkg G hb) G G) G (.v (ev_and G G G G) G (.a G G G ?_)))
 refine .go idQ (.ret idQ (ret1 results7 G .n ⟨G, G⟩))
theorem dbetter_ (sx1 : Int) (sx2 : Int) (sy1 : Int) (sy2 : Int) (S : Nat → Prop) (wf : World) :
  TR0 prog 24 [.agg #[.int .i64 sx1, .int .i64 sx2], .agg #[.int .i64 sy1, .int .i64 sy2]] [] S wf (fun v_ C_ => v_ = .bool (decide (sx1 > sy1) || ((sx1 == sy1) && decide (sx2 < sy2))) ∧ C_ = []) := by
 refine TR.mk func24 G ntmps24 G G (fun w_ => ?_)
 refine .seq (.region (.cons (st_boxa G G G G G (fun b1 => (.cons (st_boxa G G G G G (fun b2 => (.a G G G ?_))))))))
 refine .go idQ (.seq (.region (.f fo41_0 0 G G G G (.l ty3 1 G G G G G (.f fo41_0 0 G G G G ?_)))))
 refine .l ty3 0 G G G G G (.e G G G G G (.m G G G (.w (fun _ => ev_fa G fo41_0 G (r := 0) G) G ?_)))
 refine .w (fun hb => ev_ld1 G ty3 (lkg G hb) (At.own1 1 G G)) G (.w (fun _ => ev_fa G fo41_0 G (r := 0) G) G (.w (fun hb => ev_ld1 G ty3 (lkg G hb) (At.own1 0 G G)) G (.w (fun hb => ev_cmp G (lkg G hb) (lkg G hb) G) G ?_)))
 refine .w (fun hb => ev_mv G (lkg G hb)) G (.cons (Ev.ggstep (b1 := (decide (sx1 > sy1))) (b := (sx1 == sy1)) cb_ft (fun hb1 _ => ev_fa G fo41_1 G (r := 1) G) G G G G G (.cons (Ev.ggstep (b1 := (decide (sx1 > sy1))) (b := (sx1 == sy1)) cb_ft (fun hb1 hb => ev_ld1 G ty3 (lkg G hb) (At.own1 1 G G)) G G G G G (.cons (Ev.ggstep (b1 := (decide (sx1 > sy1))) (b := (sx1 == sy1)) cb_ft (fun hb1 _ => ev_fa G fo41_1 G (r := 1) G) G G G G G ?_))))))
 refine .cons (Ev.ggstep (b1 := (decide (sx1 > sy1))) (b := (sx1 == sy1)) cb_ft (fun hb1 hb => ev_ld1 G ty3 (lkg G hb) (At.own1 0 G G)) G G G G G ?_)
 refine .cons (Ev.ggstep (b1 := (decide (sx1 > sy1))) (b := (sx1 == sy1)) cb_ft (fun hb1 hb => ev_cmp G (lkg G hb) (lkg G hb) G) G G G G G ?_)
 refine .w (fun hb => ev_and G (lkg G hb) (lkgn G cb_ft hb) G) G (.r G G G G G (.a G G G (.go idQ ?_)))
 exact .ret idQ (ret1 results24 G .n ⟨G, G⟩)
theorem rbetter_ (sx1 : Int) (sx2 : Int) (sy1 : Int) (sy2 : Int) (S : Nat → Prop) (wf : World) :
  TR0 prog 13 [.agg #[.int .i64 sx1, .int .i64 sx2], .agg #[.int .i64 sy1, .int .i64 sy2]] [] S wf (fun v_ C_ => ∃ (r : Bool), (r = true ↔ BetS (sx1, sx2) (sy1, sy2)) ∧ v_ = .bool r ∧ C_ = []) := by
 refine TR.mk func13 G ntmps13 G G (fun w_ => ?_)
 refine .seq (.region (.cons (st_boxa G G G G G (fun b1 => (.cons (st_boxa G G G G G (fun b2 => (.a G G G ?_))))))))
 refine .go idQ (.seq (.seq (.region (.f fo41_0 0 G G G G (.l ty3 1 G G G G G (.f fo41_0 0 G G G G ?_))))))
 refine .l ty3 0 G G G G G (.e G G G G G (.go idQ (.condI G bNE (fun h3 => ?_) (fun h3 => ?_))))
 ·
  refine .seq (.region (.f fo41_0 0 G G G G (.l ty3 1 G G G G G (.f fo41_0 0 G G G G ?_))))
  refine .l ty3 0 G G G G G (.e G G G G G (.a G G G (.go idQ ?_)))
  exact .ret idQ (ret1 results13 G .n ⟨decide (sx1 > sy1), (by unfold BetS; rw [decide_eq_true_eq]; simp only; omega), G, G⟩)
 refine .skipgo idQ (.seq (.region (.f fo41_1 1 G G G G (.l ty3 1 G G G G G (.f fo41_1 1 G G G G ?_)))))
 refine .l ty3 0 G G G G G (.e G G G G G (.a G G G (.go idQ ?_)))
 exact .ret idQ (ret1 results13 G .n ⟨decide (sx2 < sy2), (by unfold BetS; rw [decide_eq_true_eq]; simp only; omega), G, G⟩)
theorem dscore_ (p : PB) (A : Option Addr) (c : Nat) (l : List RT) (S : Nat → Prop) (wf : World) (hA : Fr eRT S wf A l) (hPB : PBF S wf p) (hRT : RTF S wf l) (hL : LawP p) (hls : l.length ≤ 15) (hvs : ∀ i : Int, (gt l i).vis.length ≤ 50) (hS : SolI p (l.map rc)) :
  TR0 prog 23 [.agg (cPB p).toArray, .agg #[.slice A l.length c]] [] S wf (fun v_ C_ => ∃ (va : Int) (ca : Int), (va = (valR p (l.map rc))) ∧ (ca = (cstR p (l.map rc))) ∧ (0 ≤ va ∧ va ≤ 100000) ∧ (-100000000000000000 ≤ ca ∧ ca ≤ 100000000000000000) ∧ v_ = .tuple #[.agg #[.int .i64 va, .int .i64 ca], .int .i64 0] ∧ C_ = []) := by
 have hla := hA.len
 have hlv := hPB.2.2.1.1.len
 refine TR.mk func23 G ntmps23 G G (fun w_ => ?_)
 refine .seq (.region (.cons (st_boxa G G G G G (fun b1 => (.cons (st_boxa G G G G G (fun b2 => (.cons (st_alloc G G G G zf41 (fun b3 => ?_))))))))))
 refine .a G G G (.go idQ (.seq (.region (.cons (st_alloc G G G G zf41 (fun b4 => (.go idQ (.seq (.seq (.region ?_))))))))))
 refine .f fo34_0 0 G G G G (.l ty32 2 G G G G G (.g underlying32 G G G (.m G G G ?_)))
 refine .go idQ (.block (.loop (X := Int × Int × Int) (fun ⟨i, va0, ca0⟩ => 0 ≤ i ∧ i ≤ (l.length : Int) ∧ va0 = valR p ((l.take i.toNat).map rc) ∧ ca0 = cstR p ((l.take i.toNat).map rc) ∧ (0 ≤ va0 ∧ va0 ≤ 5000 * i) ∧ (-(4100000000000000 * i) ≤ ca0 ∧ ca0 ≤ 4100000000000000 * i)) (fun ⟨i, va0, ca0⟩ => [(2, .pointer (some ⟨b1, 0, none⟩)), (4, .pointer (some ⟨b3, 0, none⟩)), (6, .pointer (some ⟨b4, 0, none⟩)), (16, .slice A l.length c), (17, .int .i64 (l.length : Int)), (18, .int .i64 i)]) (fun ⟨i, va0, ca0⟩ => [cel b4 [.int .i64 va0, .int .i64 ca0] 41, cel b3 [.int .i64 0, .int .i64 0] 41, cel b2 [.slice A l.length c] 34, cel b1 (cPB p) 29]) (fun _ => S) (fun _ => wf) (fun ⟨i, va0, ca0⟩ => ((l.length : Int) - i).toNat) (fun a_ w_ hs_ hw_ => ⟨⟨0, 0, 0⟩, (by (try dsimp only); exact ⟨oO, oO, G, G, oO, oO⟩), hs_.mono (Sub.get (.c4 G G G G (.c G (.c G .n)))), hw_.keep (.d (.d .n))⟩) (fun ⟨i, va0, ca0⟩ ⟨q_0, q_1, q_2, q_3, q_4, q_5⟩ => ?_)))
 try dsimp only
 refine .seq (.region (.e G G G G G (.go idQ (.seq (.condI G bD (fun h5 => ?_) (fun h5 => ?_))))))
 ·
  refine .skipgo idQ (.seq (.block (.seq (.region (.v (ev_ix G underlying32 ty54 G G oO oO (fun _ _ => Fr.adr (i := i) hA oO oO)) G (.v (ev_lda G G (At.w (Fr.el (i := i) hA oO oO)) ty54) G (.cons (st_alloc G G G G zf54 (fun b6 => ?_)))))))))
  refine .cons (st_storea (l' := [.int .i64 ((gt l i).veh), .slice ((gt l i).rA) ((gt l i).vis.length) ((gt l i).rc)]) G G G ty54 G G G .h G G ?_)
  refine .go idQ (.seq ?_)
  obtain ⟨hv1, hv2, hv3, hv4⟩ := sol_at hS (i := i) oO oO
  have hvi := hvs i
  have hfc := fit_cost5 hL (k := (gt l i).veh) (l := (gt l i).vis) oO
  have hkk := fit_kind hL hv3
  refine .region (.d 4 ty29 G G G G (.f fo54_0 0 G G G G (.l ty3 0 G G G G G ?_)))
  refine .v (ev_fa rfl fo54_1 rfl (r := 1) rfl) rfl (.v (ev_ld1 rfl ty52 rfl (At.own1 0 rfl rfl)) rfl (.cons (st_call00 rfl rfl rfl rfl hbd59 rfl .n (fit_ p ((gt l i).veh) ((gt l i).rA) ((gt l i).rc) ((gt l i).vis) _ _ (hRT i) hPB oO lO) (by intro v C h; obtain ⟨_, _, _, _, rfl, rfl⟩ := h; rfl) (fun v_q11 q11 => ?_))))
  obtain ⟨vh7, sA8, sn9, sc10, rfl, -⟩ := q11
  refine .m G G G (.x G G G G (.x G G G G (.cons (st_alloc G G G G zf86 (fun b12 => ?_)))))
  refine .cons (st_storea (l' := [.int .i64 vh7, .slice sA8 sn9 sc10, .int .i64 ((fitV p ((gt l i).veh) ((gt l i).vis)).time), .int .i64 ((fitV p ((gt l i).veh) ((gt l i).vis)).dist), .int .i64 ((fitV p ((gt l i).veh) ((gt l i).vis)).wait), .int .i64 ((fitV p ((gt l i).veh) ((gt l i).vis)).serv), .int .i64 ((fitV p ((gt l i).veh) ((gt l i).vis)).cost)]) G G G ty86 G G G .h G G ?_)
  refine .a G G G (.go idQ (.seq (.seq (.region (.m G G G (.e G G G G G ?_))))))
  refine .go idQ (.condI G bNE (fun h13 => ?_) (fun h13 => ?_))
  ·
   exfalso; omega
  refine .skipgo idQ (.seq (.region (.f fo41_1 1 G G G G (.l ty3 2 G G G G G (.f fo86_6 6 G G G G ?_)))))
  refine .l ty3 0 G G G G G (.v (ev_add G G G (r := (ca0 + ((fitV p ((gt l i).veh) ((gt l i).vis)).cost))) G oO oO) G (.f fo41_1 1 G G G G (.cons (st_store1 G G G ty3 G G G (.t2 .h) (.t .h) ?_))))
  refine .go idQ (.seq (.region (.f fo54_1 1 G G G G (.l ty52 2 G G G G G (.g underlying52 G G G ?_)))))
  refine .m G G G (.go idQ (.block (.loop (X := Int × Int) (fun ⟨j, va2⟩ => 0 ≤ j ∧ j ≤ ((gt l i).vis.length : Int) ∧ va2 = va0 + isum (valV p) ((gt l i).vis.take j.toNat) ∧ (0 ≤ va2 ∧ va2 ≤ 5000 * i + 100 * j)) (fun ⟨j, va2⟩ => [(2, .pointer (some ⟨b1, 0, none⟩)), (4, .pointer (some ⟨b3, 0, none⟩)), (6, .pointer (some ⟨b4, 0, none⟩)), (16, .slice A l.length c), (17, .int .i64 (l.length : Int)), (18, .int .i64 i), (42, .slice ((gt l i).rA) ((gt l i).vis.length) ((gt l i).rc)), (43, .int .i64 (((gt l i).vis.length : Nat) : Int)), (44, .int .i64 j)]) (fun ⟨j, va2⟩ => [cel b4 [.int .i64 va2, .int .i64 (ca0 + ((fitV p ((gt l i).veh) ((gt l i).vis)).cost))] 41, cel b12 [.int .i64 vh7, .slice sA8 sn9 sc10, .int .i64 ((fitV p ((gt l i).veh) ((gt l i).vis)).time), .int .i64 ((fitV p ((gt l i).veh) ((gt l i).vis)).dist), .int .i64 ((fitV p ((gt l i).veh) ((gt l i).vis)).wait), .int .i64 ((fitV p ((gt l i).veh) ((gt l i).vis)).serv), .int .i64 ((fitV p ((gt l i).veh) ((gt l i).vis)).cost)] 86, cel b6 [.int .i64 ((gt l i).veh), .slice ((gt l i).rA) ((gt l i).vis.length) ((gt l i).rc)] 54, cel b3 [.int .i64 0, .int .i64 0] 41, cel b2 [.slice A l.length c] 34, cel b1 (cPB p) 29]) (fun _ => S) (fun _ => wf) (fun ⟨j, va2⟩ => (((gt l i).vis.length : Int) - j).toNat) (fun a_ w_ hs_ hw_ => ⟨⟨0, va0⟩, (by (try dsimp only); exact ⟨oO, oO, (by simp [isum]), oO⟩), hs_.mono (Sub.get (.c4 G G G G (.c4 G G G G (.c G .n)))), hw_.keep (.d (.d (.d .n)))⟩) (fun ⟨j, va2⟩ ⟨r_0, r_1, r_2, r_3⟩ => ?_))))
  try dsimp only
  refine .seq (.region (.e G G G G G (.go idQ (.seq (.condI G bD (fun h14 => ?_) (fun h14 => ?_))))))
  ·
   refine .skipgo idQ (.seq (.block (.seq (.region (.v (ev_ix G underlying52 ty92 G G oO oO (fun _ _ => Fr.adr (i := j) (hRT i) oO oO)) G (.v (ev_lda G G (At.w (Fr.el (i := j) (hRT i) oO oO)) ty92) G (.cons (st_alloc G G G G zf92 (fun b15 => ?_)))))))))
   refine .cons (st_storea (l' := [.int .i64 ((gt ((gt l i).vis) j).kind), .int .i64 ((gt ((gt l i).vis) j).item)]) G G G ty92 G G G .h G G ?_)
   refine .go idQ (.seq (.region (.f fo92_0 0 G G G G (.l ty90 0 G G G G G (.e G G G G G ?_)))))
   refine .m G G G (.w (fun _ => ev_fa G fo92_0 G (r := 0) G) G (.w (fun hb => ev_ld1 G ty90 (lkg G hb) (At.own1 0 G G)) G (.w (fun hb => ev_cmp G (lkg G hb) G G) G ?_)))
   refine .r G G G G G (.go idQ (.condI G (bO bE bE) (fun h16 => ?_) (fun h16 => ?_)))
   ·
    refine .seq (.region (.d 0 ty92 G G G G (.cons (st_callk G G G G hbd60 G .n (of_ (gt ((gt l i).vis) j) _ _) (.m G G G ?_)))))
    refine .x G G G G (.x G G G G (.cons (st_alloc G G G G zf61 (fun b17 => (.cons (st_storea (l' := [.bool ((taskV (gt ((gt l i).vis) j)).ship), .int .i64 ((taskV (gt ((gt l i).vis) j)).item)]) G G G ty61 G G G .h G G ?_))))))
    refine .a G G G (.go idQ ?_)
    have hpr := prio_rng hL (taskV (gt (gt l i).vis j))
    refine SC.draw mo [cel b4 [.int .i64 va2, .int .i64 (ca0 + ((fitV p ((gt l i).veh) ((gt l i).vis)).cost))] 41] [(7, fun w => At w b4 0 [.int .i64 va2, .int .i64 (ca0 + ((fitV p ((gt l i).veh) ((gt l i).vis)).cost))])] (.c (.t2 .h) .n) (fun w_ _ hw_ => (sc1 (At.whole 0 G w_ hw_) sc0)) (fun wf_18 hl_18 hx_18 hR_18 => ?_)
    refine SR.z 0 G G (ev_fa G fo41_0 G (r := 0) G) ?_
    refine SR.z 1 G G (ev_ld1 G ty3 G (At.elem1 (v := .int .i64 va2) (At.ofcs 0 G kR) 0 G)) ?_
    refine SR.z 2 G G (ev_lda (cs := (cPB p)) G G (At.d (At.lent hR_18 6 G G)) ty29) ?_
    refine SR.z 3 G G (ev_lda (cs := [.bool ((taskV (gt ((gt l i).vis) j)).ship), .int .i64 ((taskV (gt ((gt l i).vis) j)).item)]) G G (At.d (At.lent hR_18 0 G G)) ty61) ?_
    refine SR.o 4 G (st_callk G G G G hbd48 G .n (prio_ p (taskV (gt ((gt l i).vis) j)) _ _ ((hPB).ext hx_18)) ⟨ttw 0 G, ?_⟩)
    refine SR.z 5 G G (ev_add G G G (r := (va2 + (prioF p (taskV (gt ((gt l i).vis) j))))) G oO oO) ?_
    refine SR.z 6 G G (ev_fa G fo41_0 G (r := 0) G) ?_
    refine SR.o 7 G (st_store1 G G G ty3 G G G .h .h ⟨ttc (fun w_ hw_ => (tc2 kR tc0)), ?_⟩)
    refine SR.fin kR hl_18 hx_18 hR_18 (.c .n) ?_
    refine SQ.go idQ ?_
    refine .region (.p ((j + 1)) oO oO G G G G G (.m G G G ?_))
    exact SP.nil (SQ.roundb (X := Int × Int) (x := (j, va2)) ⟨(j + 1), (va2 + (prioF p (taskV (gt ((gt l i).vis) j))))⟩ (by (try dsimp only); exact ⟨oO, oO, (by rw [val_in oO oO, valV_ok (by have := hkk _ (gt_in (l := (gt l i).vis) (i := j) oO oO); omega)]; omega), oO⟩) dO (Sub.get (.c4 G G G G (.c4 G G G G (.c G .n)))) (kp (.c .h (.c (.t2 .h) (.c (.t2 .h) (.c (.t2 .h) (.c (.t2 .h) (.c (.t2 .h) .n))))))))
   refine .skipgo idQ (.region (.p ((j + 1)) oO oO G G G G G (.m G G G ?_)))
   exact SP.nil (SQ.roundb (X := Int × Int) (x := (j, va2)) ⟨(j + 1), va2⟩ (by (try dsimp only); exact ⟨oO, oO, (by rw [val_in oO oO, valV_no (by have := hkk _ (gt_in (l := (gt l i).vis) (i := j) oO oO); omega)]; omega), oO⟩) dO (Sub.get (.c4 G G G G (.c4 G G G G (.c G .n)))) (kp (.c (.t .h) (.c (.t .h) (.c (.t .h) (.c (.t .h) (.c (.t .h) (.c (.t .h) .n))))))))
  refine .exit idQ ?_
  refine .region (.p ((i + 1)) oO oO G G G G G (.m G G G ?_))
  exact SP.nil (SQ.roundb (X := Int × Int × Int) (x := (i, va0, ca0)) ⟨(i + 1), va2, (ca0 + ((fitV p ((gt l i).veh) ((gt l i).vis)).cost))⟩ (by (try dsimp only); exact ⟨oO, oO, (by rw [val_take oO oO, ← q_2, show (gt l i).vis = (gt l i).vis.take j.toNat from (List.take_of_length_le oO).symm]; omega), (by rw [cst_take oO oO]; omega), oO, oO⟩) dO (Sub.get (.c4 G G G G (.c G (.c G .n)))) (kp (.c .h (.c (.t2 .h) (.c (.t2 .h) (.c (.t2 .h) .n))))))
 refine .exit idQ ?_
 refine .seq (.region (.d 0 ty41 G G G G (.cons (st_storea (l' := [.int .i64 va0, .int .i64 ca0]) G G G ty41 G G G (.t .h) G G (.a G G G ?_)))))
 refine .go idQ (.ret idQ (retv2 results23 (.c 0 G G ty41) (.t G) .n ⟨va0, ca0, (by rw [q_2, List.take_of_length_le oO]), (by rw [q_3, List.take_of_length_le oO]), oO, oO, G, G⟩))
end Go.Proofs.YtimhdimhdimbjaaGreat.Sx
set_option maxRecDepth 20000
set_option maxHeartbeats 1000000
namespace Go.Proofs.YtimhdimhdimbjaaGreat.Sx.FEE
open Go Go.SX Go.Proofs Go.Proofs.Tryz FA FB FC FD FE FF FG FH FJ FK FL FM FP FQ FU FW FEA FEB FEC FED
theorem hbd52 : hasBody prog 52 = true := by kernel_rfl
theorem hbd18 : hasBody prog 18 = true := by kernel_rfl
theorem hbd19 : hasBody prog 19 = true := by kernel_rfl
theorem hbd20 : hasBody prog 20 = true := by kernel_rfl
theorem hbd21 : hasBody prog 21 = true := by kernel_rfl
theorem hbd22 : hasBody prog 22 = true := by kernel_rfl
theorem hbd23 : hasBody prog 23 = true := by kernel_rfl
theorem hbd24 : hasBody prog 24 = true := by kernel_rfl
end Go.Proofs.YtimhdimhdimbjaaGreat.Sx.FEE
namespace Go.Proofs.YtimhdimhdimbjaaGreat.Sx
open Go Go.SX Go.Proofs Go.Proofs.Tryz FA FB FC FD FE FF FG FH FJ FK FL FM FP FQ FU FW FEA FEB FEC FED FEE
theorem route_ (p : PB) (tA : Option Addr) (tc : Nat) (ts : List TK) (S : Nat → Prop) (wf : World) (hA : Fr eTK S wf tA ts) (hPB : PBF S wf p) (hR : RtIn p ts) :
  TR0 prog 21 [.agg (cPB p).toArray, .slice tA ts.length tc] [] S wf (fun v_ C_ => ∃ (u : Value) (l : List Vis), (RouteR p ts l) ∧ v_ = u ∧ C_ = [rw_ eVis 92 (u) l]) := by
 have hla := hA.len
 have hL := hR.law
 have hnv := hR.nv
 have hlv := hPB.2.2.1.1.len
 have hlj := hPB.2.2.2.1.1.len
 have hls := hPB.2.2.2.2.1.len
 have htl : ts.length ≤ 8 := Nat.le_trans visL_len hR.len
 refine TR.mk func21 G ntmps21 G G (fun w_ => ?_)
 refine .seq (.region (.cons (st_boxa G G G G G (fun b1 => (.a G G G (.go idQ (.seq ?_)))))))
 refine SC.draw mo [] [] .n (fun _ _ _ => sc0) (fun wf_2 hl_2 hx_2 hR_2 => ?_)
 refine SR.cutx (X := Nat × (Option Addr) × Nat × Nat) (fun (yb3, yA4, yc5, yb6) => ([(1, .slice tA ts.length tc), (2, .pointer (some ⟨b1, 0, none⟩)), (4, .slice none 0 0), (5, .pointer (some ⟨yb3, 0, none⟩))], [cel yb3 [.int .i64 p.dims, .int .i64 p.tn, .slice p.ptA p.time.length p.ptc, .int .i64 p.dn, .slice p.pdA p.dist.length p.pdc, .slice p.pvA p.vehs.length p.pvc, .slice p.pjA p.jobs.length p.pjc, .slice p.psA p.ships.length p.psc, .int .i64 ((gt p.vehs 0).st), .int .i64 ((gt p.vehs 0).en), .slice ((gt p.vehs 0).vcA) ((gt p.vehs 0).vcap.length) ((gt p.vehs 0).vcc), .int .u64 ((gt p.vehs 0).vsk), .int .i64 ((gt p.vehs 0).lo), .int .i64 ((gt p.vehs 0).hi), .int .i64 ((gt p.vehs 0).fix), .int .i64 ((gt p.vehs 0).pt), .int .i64 ((gt p.vehs 0).pd), .int .i64 ((gt p.vehs 0).mt), .slice ((gt p.vehs 0).vbA) ((gt p.vehs 0).brs.length) ((gt p.vehs 0).vbc), .slice none 0 0, .slice yA4 ((List.replicate (p.dims).toNat (0 : Int)).length) yc5, .map (some yb6), .slice none 0 0, .int .i64 0] 123, mp keKY.f lbV yb6 ([] : List (KY × LB)), rw_ eZ 3 (.slice yA4 ((List.replicate (p.dims).toNat (0 : Int)).length) yc5) (List.replicate (p.dims).toNat (0 : Int)), cel b1 (cPB p) 29])) S wf (fun ⟨yb3, yA4, yc5, yb6⟩ => ?_) (fun key7 => ?_)
 ·
  try dsimp only
  refine SQ.go idQ ?_
  refine .seq (.seq (.region (.m G G G (.g underlying58 G G G (.m G G G ?_)))))
  refine .v (ev_nil G G) G (.f fo123_1 8 G G G G (.f fo72_8 17 G G G G (.l ty3 0 G G G G G ?_)))
  refine .e G G G G G (.go idQ (.condI G bD (fun h8 => ?_) (fun h8 => ?_)))
  ·
   refine .seq (.region (.a G G G (.go idQ ?_)))
   refine SC.nilrow eVis 92 ?_
   exact .ret idQ (ret1 results21 G (.c .h .n) ⟨(.slice none 0 0), ([] : List Vis), (route_many hR h8), G, G⟩)
  refine .skipgo idQ (.seq (.seq (.region (.m G G G (.g underlying58 G G G (.m G G G ?_))))))
  refine .go idQ (.block ?_)
  refine SC.nilrow eVis 92 ?_
  refine .loop (X := Int × (List Vis) × Value × (List Int) × Value) (fun ⟨i, Xa, u_Xa, fs, u_fs⟩ => 0 ≤ i ∧ i ≤ (ts.length : Int) ∧ Xa = visL (ts.take i.toNat) ∧ lOk p (1000000 * i) fs ∧ (∀ d : Int, gt fs d = isum (fun x => ent p x true d) (visL (ts.take i.toNat))) ∧ (∀ j : Int, 0 ≤ j → j < i → ban .u64 (skilF p (gt ts j)) (gt p.vehs 0).vsk = 0)) (fun ⟨i, Xa, u_Xa, fs, u_fs⟩ => [(2, .pointer (some ⟨b1, 0, none⟩)), (5, .pointer (some ⟨yb3, 0, none⟩)), (27, .slice tA ts.length tc), (28, .int .i64 (ts.length : Int)), (29, .int .i64 i)]) (fun ⟨i, Xa, u_Xa, fs, u_fs⟩ => [rw_ eVis 92 (u_Xa) Xa, cel yb3 [.int .i64 p.dims, .int .i64 p.tn, .slice p.ptA p.time.length p.ptc, .int .i64 p.dn, .slice p.pdA p.dist.length p.pdc, .slice p.pvA p.vehs.length p.pvc, .slice p.pjA p.jobs.length p.pjc, .slice p.psA p.ships.length p.psc, .int .i64 ((gt p.vehs 0).st), .int .i64 ((gt p.vehs 0).en), .slice ((gt p.vehs 0).vcA) ((gt p.vehs 0).vcap.length) ((gt p.vehs 0).vcc), .int .u64 ((gt p.vehs 0).vsk), .int .i64 ((gt p.vehs 0).lo), .int .i64 ((gt p.vehs 0).hi), .int .i64 ((gt p.vehs 0).fix), .int .i64 ((gt p.vehs 0).pt), .int .i64 ((gt p.vehs 0).pd), .int .i64 ((gt p.vehs 0).mt), .slice ((gt p.vehs 0).vbA) ((gt p.vehs 0).brs.length) ((gt p.vehs 0).vbc), u_Xa, u_fs, .map (some yb6), .slice none 0 0, .int .i64 0] 123, mp keKY.f lbV yb6 ([] : List (KY × LB)), rw_ eZ 3 (u_fs) fs, cel b1 (cPB p) 29]) (fun _ => S) (fun _ => wf) (fun ⟨i, Xa, u_Xa, fs, u_fs⟩ => ((ts.length : Int) - i).toNat) (fun a_ w_ hs_ hw_ => ⟨⟨0, ([] : List Vis), .slice none 0 0, (List.replicate (p.dims).toNat (0 : Int)), .slice yA4 ((List.replicate (p.dims).toNat (0 : Int)).length) yc5⟩, (by (try dsimp only); exact ⟨oO, oO, G, (by refine ⟨by have := hL.dims; rw [List.length_replicate]; omega, bdd_mono (bdd_zero _) oO⟩), (fs_zero), (fun j h0_ h1_ => by omega)⟩), hs_.mono (Sub.get (.c4 G G G G (.c G .n))), hw_.keep (.d (.d (.c .h .n)))⟩) (fun ⟨i, Xa, u_Xa, fs, u_fs⟩ ⟨q_0, q_1, q_2, q_3, q_4, q_5⟩ => ?_)
  try dsimp only
  have hxl : Xa.length ≤ 8 := by rw [q_2]; exact Nat.le_trans (visL_takele _) hR.len
  have hfl := q_3.1
  have hvt := visT_len (gt ts i)
  have hdm := hL.dims
  refine .seq (.region (.e G G G G G (.go idQ (.seq (.condI G bD (fun h9 => ?_) (fun h9 => ?_))))))
  ·
   refine .skipgo idQ (.seq (.block (.seq (.region (.v (ev_ix G underlying58 ty61 G G oO oO (fun _ _ => Fr.adr (i := i) hA oO oO)) G (.v (ev_lda G G (At.w (Fr.el (i := i) hA oO oO)) ty61) G (.cons (st_alloc G G G G zf61 (fun b10 => ?_)))))))))
   refine .cons (st_storea (l' := [.bool ((gt ts i).ship), .int .i64 ((gt ts i).item)]) G G G ty61 G G G .h G G ?_)
   refine .go idQ (.seq (.seq ?_))
   refine SC.draw mo [] [] .n (fun _ _ _ => sc0) (fun wf_11 hl_11 hx_11 hR_11 => ?_)
   refine SR.m 0 G G G G ?_
   refine SR.z 1 G G (ev_nil G G) ?_
   refine SR.z 2 G G (ev_fa G fo123_1 G (r := 8) G) ?_
   refine SR.z 3 G G (ev_fa G fo72_3 G (r := 11) G) ?_
   refine SR.z 4 G G (ev_ld1 G ty67 G (At.d (At.lent hR_11 2 G G))) ?_
   refine SR.z 5 G G (ev_lda (cs := (cPB p)) G G (At.d (At.lent hR_11 5 G G)) ty29) ?_
   refine SR.z 6 G G (ev_lda (cs := [.bool ((gt ts i).ship), .int .i64 ((gt ts i).item)]) G G (At.d (At.lent hR_11 0 G G)) ty61) ?_
   refine SR.o 7 G (st_callk G G G G hbd51 G .n (skil_ p (gt ts i) _ _ ((hPB).ext hx_11)) ⟨tt0, ?_⟩)
   refine SR.o 8 G (st_callk G G G G hbd50 G .n (covers_ ((gt p.vehs 0).vsk) (skilF p (gt ts i)) _ _) ⟨tt0, ?_⟩)
   refine SR.z 9 G G (ev_not G G) ?_
   refine SR.fin kR hl_11 hx_11 hR_11 .n ?_
   refine SQ.go idQ ?_
   refine .condI G (bN bE) (fun h12 => ?_) (fun h12 => ?_)
   ·
    refine .seq (.region (.a G G G (.go idQ ?_)))
    refine SC.nilrow eVis 92 ?_
    exact .ret idQ (ret1 results21 G (.c .h .n) ⟨(.slice none 0 0), ([] : List Vis), (route_skill hR (j := i) oO oO h12), G, G⟩)
   refine .skipgo idQ (.seq ?_)
   have hth := hR.th _ (gt_in (l := ts) (i := i) oO oO)
   have hcv : ban .u64 (skilF p (gt ts i)) (gt p.vehs 0).vsk = 0 := Classical.not_not.1 h12
   refine SC.draw mo [rw_ eVis 92 (u_Xa) Xa, cel yb3 [.int .i64 p.dims, .int .i64 p.tn, .slice p.ptA p.time.length p.ptc, .int .i64 p.dn, .slice p.pdA p.dist.length p.pdc, .slice p.pvA p.vehs.length p.pvc, .slice p.pjA p.jobs.length p.pjc, .slice p.psA p.ships.length p.psc, .int .i64 ((gt p.vehs 0).st), .int .i64 ((gt p.vehs 0).en), .slice ((gt p.vehs 0).vcA) ((gt p.vehs 0).vcap.length) ((gt p.vehs 0).vcc), .int .u64 ((gt p.vehs 0).vsk), .int .i64 ((gt p.vehs 0).lo), .int .i64 ((gt p.vehs 0).hi), .int .i64 ((gt p.vehs 0).fix), .int .i64 ((gt p.vehs 0).pt), .int .i64 ((gt p.vehs 0).pd), .int .i64 ((gt p.vehs 0).mt), .slice ((gt p.vehs 0).vbA) ((gt p.vehs 0).brs.length) ((gt p.vehs 0).vbc), u_Xa, u_fs, .map (some yb6), .slice none 0 0, .int .i64 0] 123] [(10, fun w => At w yb3 0 [.int .i64 p.dims, .int .i64 p.tn, .slice p.ptA p.time.length p.ptc, .int .i64 p.dn, .slice p.pdA p.dist.length p.pdc, .slice p.pvA p.vehs.length p.pvc, .slice p.pjA p.jobs.length p.pjc, .slice p.psA p.ships.length p.psc, .int .i64 ((gt p.vehs 0).st), .int .i64 ((gt p.vehs 0).en), .slice ((gt p.vehs 0).vcA) ((gt p.vehs 0).vcap.length) ((gt p.vehs 0).vcc), .int .u64 ((gt p.vehs 0).vsk), .int .i64 ((gt p.vehs 0).lo), .int .i64 ((gt p.vehs 0).hi), .int .i64 ((gt p.vehs 0).fix), .int .i64 ((gt p.vehs 0).pt), .int .i64 ((gt p.vehs 0).pd), .int .i64 ((gt p.vehs 0).mt), .slice ((gt p.vehs 0).vbA) ((gt p.vehs 0).brs.length) ((gt p.vehs 0).vbc), u_Xa, u_fs, .map (some yb6), .slice none 0 0, .int .i64 0])] (.c (.t .h) (.c (.t .h) .n)) (fun w_ _ hw_ => (sc1 (At.whole 1 G w_ hw_) sc0)) (fun wf_13 hl_13 hx_13 hR_13 => ?_)
   refine SR.m 0 G G G G ?_
   refine SR.m 1 G G G G ?_
   refine SR.z 2 G G (ev_nil G G) ?_
   refine SR.z 3 G G (ev_fa G fo123_2 G (r := 19) G) ?_
   refine SR.z 4 G G (ev_ld1 G ty52 G (At.elem1 (v := u_Xa) (At.ofcs 0 G kR) 19 G)) ?_
   refine SR.z 5 G G (ev_lda (cs := [.bool ((gt ts i).ship), .int .i64 ((gt ts i).item)]) G G (At.d (At.lent hR_13 0 G G)) ty61) ?_
   refine SR.o 6 rfl (st_call0 rfl rfl rfl rfl hbd52 rfl .n (mvis_ (gt ts i) _ _) (fun v_q15 C_q15 q15 => ⟨ttc (fun w_ hw_ => (tc1 (by obtain ⟨_, rfl, rfl⟩ := q15; exact At.whole 2 rfl w_ hw_) tc0)), ?_⟩))
   obtain ⟨u14, rfl, rfl⟩ := q15
   show SR _ _ _ _ _ _ _ _ _ ⟨_, _ :: _, _, _⟩
   refine .know (row_len 0 G) (fun hv18 => ?_)
   obtain ⟨A16, c17, rfl, hv18_1, hv18_2⟩ := hv18
   unfold maxLen at hv18_2
   refine SR.o 7 G (st_app (E := eVis) (m := (visT (gt ts i))) G G G G underlying52 ai92 G G G (.t .h) rO (row_src 0 G) (by first | ((try simp only [List.length_nil, List.length_cons, List.length_append, List.length_set, List.length_singleton, List.length_take, List.length_drop, List.length_reverse, addL_len]) <;> omega) | omega) G (fun v19 => ⟨ttw 2 G, ?_⟩))
   refine SR.z 8 G G (ev_nil G G) ?_
   refine SR.z 9 G G (ev_fa G fo123_2 G (r := 19) G) ?_
   refine .know (row_len 0 G) (fun hv22 => ?_)
   obtain ⟨A20, c21, rfl, hv22_1, hv22_2⟩ := hv22
   unfold maxLen at hv22_2
   refine SR.o 10 G (st_store1 G G G ty52 G G G (.t2 .h) (.t4 (.t4 (.t4 (.t4 (.t2 (.t .h)))))) ⟨ttc (fun w_ hw_ => (tc2 kR tc0)), ?_⟩)
   refine SR.fin kR hl_13 hx_13 hR_13 (.c (.c (.c .n))) ?_
   refine SQ.go idQ ?_
   refine .seq (.region (.f fo61_0 0 G G G G (.l ty4 3 G G G G G (.v (ev_not G G) G ?_))))
   refine .go idQ (.condI G (bN bV) (fun h23 => ?_) (fun h23 => ?_))
   ·
    have hin := there_job hth (by simpa using h23)
    have hjb := hL.job _ hin.1 hin.2
    refine .know (row_len 5 G) (fun hv26 => ?_)
    obtain ⟨A24, c25, rfl, hv26_1, hv26_2⟩ := hv26
    unfold maxLen at hv26_2
    refine SC.draw mo [cel yb3 [.int .i64 p.dims, .int .i64 p.tn, .slice p.ptA p.time.length p.ptc, .int .i64 p.dn, .slice p.pdA p.dist.length p.pdc, .slice p.pvA p.vehs.length p.pvc, .slice p.pjA p.jobs.length p.pjc, .slice p.psA p.ships.length p.psc, .int .i64 ((gt p.vehs 0).st), .int .i64 ((gt p.vehs 0).en), .slice ((gt p.vehs 0).vcA) ((gt p.vehs 0).vcap.length) ((gt p.vehs 0).vcc), .int .u64 ((gt p.vehs 0).vsk), .int .i64 ((gt p.vehs 0).lo), .int .i64 ((gt p.vehs 0).hi), .int .i64 ((gt p.vehs 0).fix), .int .i64 ((gt p.vehs 0).pt), .int .i64 ((gt p.vehs 0).pd), .int .i64 ((gt p.vehs 0).mt), .slice ((gt p.vehs 0).vbA) ((gt p.vehs 0).brs.length) ((gt p.vehs 0).vbc), .slice A20 ((Xa ++ (visT (gt ts i))).length) c21, .slice A24 fs.length c25, .map (some yb6), .slice none 0 0, .int .i64 0] 123] [(18, fun w => At w yb3 0 [.int .i64 p.dims, .int .i64 p.tn, .slice p.ptA p.time.length p.ptc, .int .i64 p.dn, .slice p.pdA p.dist.length p.pdc, .slice p.pvA p.vehs.length p.pvc, .slice p.pjA p.jobs.length p.pjc, .slice p.psA p.ships.length p.psc, .int .i64 ((gt p.vehs 0).st), .int .i64 ((gt p.vehs 0).en), .slice ((gt p.vehs 0).vcA) ((gt p.vehs 0).vcap.length) ((gt p.vehs 0).vcc), .int .u64 ((gt p.vehs 0).vsk), .int .i64 ((gt p.vehs 0).lo), .int .i64 ((gt p.vehs 0).hi), .int .i64 ((gt p.vehs 0).fix), .int .i64 ((gt p.vehs 0).pt), .int .i64 ((gt p.vehs 0).pd), .int .i64 ((gt p.vehs 0).mt), .slice ((gt p.vehs 0).vbA) ((gt p.vehs 0).brs.length) ((gt p.vehs 0).vbc), .slice A20 ((Xa ++ (visT (gt ts i))).length) c21, .slice A24 fs.length c25, .map (some yb6), .slice none 0 0, .int .i64 0])] (.c .h .n) (fun w_ _ hw_ => (sc1 (At.whole 0 G w_ hw_) sc0)) (fun wf_27 hl_27 hx_27 hR_27 => ?_)
    refine SR.m 0 G G G G ?_
    refine SR.m 1 G G G G ?_
    refine SR.z 2 G G (ev_nil G G) ?_
    refine SR.z 3 G G (ev_fa G fo123_3 G (r := 20) G) ?_
    refine SR.z 4 G G (ev_ld1 G ty22 G (At.elem1 (v := .slice A24 fs.length c25) (At.ofcs 0 G kR) 20 G)) ?_
    refine SR.z 5 G G (ev_fa G fo29_4 G (r := 6) G) ?_
    refine SR.z 6 G G (ev_ld1 G ty26 G (At.d (At.lent hR_27 5 G G))) ?_
    refine SR.z 7 G G (ev_fa G fo61_1 G (r := 1) G) ?_
    refine SR.z 8 G G (ev_ld1 G ty3 G (At.d (At.lent hR_27 2 G G))) ?_
    refine SR.z 9 G G (ev_ix G underlying26 ty80 G G oO oO (fun _ _ => Fr.adr (i := (gt ts i).item) ((hPB).ext hx_27).2.2.2.1.1 oO oO)) ?_
    refine SR.z 10 G G (ev_fa G fo80_1 G (r := ao p.pjA + ((gt ts i).item).toNat * 7 + 3) G) ?_
    refine SR.z 11 G G (ev_ld1 G ty22 G (At.elem1 (At.d (Fr.el (i := (gt ts i).item) ((hPB).ext hx_27).2.2.2.1.1 oO oO)) 3 G)) ?_
    refine SR.o 12 rfl (st_call0 rfl rfl rfl rfl hbd53 rfl .n (laddL A24 c25 fs ((gt p.jobs ((gt ts i).item)).jdA) ((gt p.jobs ((gt ts i).item)).jdc) ((gt p.jobs ((gt ts i).item)).drop) _ _ (Fr.lent (S := S) hR_27 4 rfl (by first | ((try simp only [List.length_nil, List.length_cons, List.length_append, List.length_set, List.length_singleton, List.length_take, List.length_drop, List.length_reverse, addL_len]) <;> omega) | omega)) ((((hPB).ext hx_27).2.2.2.1.2 ((gt ts i).item)).1) (by have h_ := q_3.1; have := hjb.drop.1; omega) (by have h_ := q_3.1; have hd_ := hL.dims; omega) (bdd_mono q_3.2 oO) (rng_bdd hjb.drop.2 oO oO)) (fun v_q29 C_q29 q29 => ⟨ttc (fun w_ hw_ => (tc1 (by obtain ⟨_, rfl, rfl⟩ := q29; exact At.whole 1 rfl w_ hw_) tc0)), ?_⟩))
    obtain ⟨u28, rfl, rfl⟩ := q29
    show SR _ _ _ _ _ _ _ _ _ ⟨_, _ :: _, _, _⟩
    refine SR.m 13 G G G G ?_
    refine SR.z 14 G G (ev_ext G G G) ?_
    refine SR.z 15 G G (ev_ext G G G) ?_
    refine SR.z 16 G G (ev_nil G G) ?_
    refine SR.z 17 G G (ev_fa G fo123_3 G (r := 20) G) ?_
    refine .know (row_len 0 G) (fun hv32 => ?_)
    obtain ⟨A30, c31, rfl, hv32_1, hv32_2⟩ := hv32
    unfold maxLen at hv32_2
    refine SR.o 18 G (st_store1 G G G ty22 G G G (.t .h) (.t4 (.t4 (.t4 (.t4 (.t4 .h))))) ⟨ttc (fun w_ hw_ => (tc2 kR tc0)), ?_⟩)
    refine SR.fin kR hl_27 hx_27 hR_27 (.c (.c .n)) ?_
    refine SQ.go idQ ?_
    refine .region (.p ((i + 1)) oO oO G G G G G (.m G G G ?_))
    exact SP.nil (SQ.roundb (X := Int × (List Vis) × Value × (List Int) × Value) (x := (i, Xa, u_Xa, fs, (.slice A24 fs.length c25))) ⟨(i + 1), (Xa ++ (visT (gt ts i))), .slice A20 ((Xa ++ (visT (gt ts i))).length) c21, (addL fs ((gt p.jobs ((gt ts i).item)).drop)), .slice A30 ((addL fs ((gt p.jobs ((gt ts i).item)).drop)).length) c31⟩ (by (try dsimp only); exact ⟨by omega, by omega, (by rw [visL_take oO oO, ← q_2]), (lOk_mono (lOk_add q_3 hjb.drop (Int.le_refl _)) oO), (fs_job q_4 hth (by simpa using h23) (by have h_ := q_3.1; have := hjb.drop.1; omega) oO oO), (upto_nx q_5 hcv)⟩) dO (Sub.get (.c4 G G G G (.c G .n))) (kp (.c (.t2 .h) (.c .h (.c (.t2 (.t .h)) (.c .h (.c (.t2 (.t .h)) .n)))))))
   refine .skipgo idQ (.region (.p ((i + 1)) oO oO G G G G G (.m G G G ?_)))
   exact SP.nil (SQ.roundb (X := Int × (List Vis) × Value × (List Int) × Value) (x := (i, Xa, u_Xa, fs, u_fs)) ⟨(i + 1), (Xa ++ (visT (gt ts i))), .slice A20 ((Xa ++ (visT (gt ts i))).length) c21, fs, u_fs⟩ (by (try dsimp only); exact ⟨by omega, by omega, (by rw [visL_take oO oO, ← q_2]), (lOk_mono q_3 oO), (fs_ship q_4 hth (by simpa using h23) oO oO), (upto_nx q_5 hcv)⟩) dO (Sub.get (.c4 G G G G (.c G .n))) (kp (.c (.t .h) (.c .h (.c (.t2 .h) (.c (.t2 .h) (.c (.t2 .h) .n)))))))
  refine .exit idQ ?_
  refine .seq (.know (row_len 0 G) (fun hv35 => ?_))
  obtain ⟨A33, c34, rfl, hv35_1, hv35_2⟩ := hv35
  unfold maxLen at hv35_2
  refine .know (row_len 3 G) (fun hv38 => ?_)
  obtain ⟨A36, c37, rfl, hv38_1, hv38_2⟩ := hv38
  unfold maxLen at hv38_2
  obtain rfl : i = (ts.length : Int) := by omega
  rw [Int.toNat_natCast, List.take_length] at q_2 q_4
  obtain rfl := q_2
  have hO := cx_ok hR (fun j h0_ h1_ => q_5 j h0_ oO) oO ⟨q_3.1, q_4⟩
  have hx0 := xi_start (fst := fs) hR
  refine SC.nestLB0 132 ?_
  refine SC.pool0 92 ?_
  have hn8 := hR.len
  have hn1 := visL_pos hR
  have hb2 := (hL.veh 0 oO oO).brs
  have htp := tp_le (f := ((visL ts).length : Int) + ((gt p.vehs 0).brs.length : Int)) oO
  have hfl := q_3.1
  have hdm := hL.dims
  refine SC.draw mo [nestVL 92 [(VL.mk [] none 0)], nestLB 132 ([] : List (KY × LB)), cel yb3 [.int .i64 p.dims, .int .i64 p.tn, .slice p.ptA p.time.length p.ptc, .int .i64 p.dn, .slice p.pdA p.dist.length p.pdc, .slice p.pvA p.vehs.length p.pvc, .slice p.pjA p.jobs.length p.pjc, .slice p.psA p.ships.length p.psc, .int .i64 ((gt p.vehs 0).st), .int .i64 ((gt p.vehs 0).en), .slice ((gt p.vehs 0).vcA) ((gt p.vehs 0).vcap.length) ((gt p.vehs 0).vcc), .int .u64 ((gt p.vehs 0).vsk), .int .i64 ((gt p.vehs 0).lo), .int .i64 ((gt p.vehs 0).hi), .int .i64 ((gt p.vehs 0).fix), .int .i64 ((gt p.vehs 0).pt), .int .i64 ((gt p.vehs 0).pd), .int .i64 ((gt p.vehs 0).mt), .slice ((gt p.vehs 0).vbA) ((gt p.vehs 0).brs.length) ((gt p.vehs 0).vbc), .slice A33 ((visL ts).length) c34, .slice A36 fs.length c37, .map (some yb6), .slice none 0 0, .int .i64 0] 123, mp keKY.f lbV yb6 ([] : List (KY × LB))] [] (.d (.c (.t .h) (.c (.t .h) .n))) (fun _ _ _ => sc0) (fun wf_39 hl_39 hx_39 hR_39 => ?_)
  refine SR.m 0 G G G G ?_
  refine SR.m 1 G G G G ?_
  refine SR.z 2 G G (ev_nil G G) ?_
  refine SR.z 3 G G (ev_fa G fo123_1 G (r := 8) G) ?_
  refine SR.z 4 G G (ev_fa G fo72_0 G (r := 8) G) ?_
  refine SR.m 7 G G G G ?_
  refine SR.z 8 G G (ev_nil G G) ?_
  refine SR.z 9 G G (ev_fa G fo123_1 G (r := 8) G) ?_
  refine SR.z 10 G G (ev_fa G fo72_4 G (r := 12) G) ?_
  refine SR.z 11 G G (ev_fa G fo69_0 G (r := 12) G) ?_
  refine SR.two (i := 5) (j := 12) kR ⟨_, G, ?_⟩ ⟨_, G, ?_⟩
  ·
   refine Ev.step (ev_ld1 G ty3 G (At.own1 2 G G)) G G G ⟨tt0, ?_⟩
   refine SR.z 6 G G (ev_any (v := .agg #[.int .i64 0, .int .i64 0, .int .i64 ((gt p.vehs 0).st)]) G kR (fun _ => by kernel_rfl)) ?_
   refine SR.o 12 G (Ev.step (ev_ld1 G ty3 G (At.own1 2 G G)) G G G ⟨tt0, ?_⟩)
   refine SR.z 13 G G (ev_any (v := .agg #[.int .i64 0, .int .i64 0, .int .i64 ((gt p.vehs 0).st), .int .i64 ((gt p.vehs 0).lo), .int .i64 0, .slice none 0 0]) G kR (fun _ => by kernel_rfl)) ?_
   refine SR.o 14 G (st_call0 G G G G hbd54 G (.c (.t2 .h) (.c (.t2 .h) (.c (.t .h) (.c .h .n)))) (grow_ 13 p (gt p.vehs 0) yb3 A33 c34 (visL ts) A36 c37 fs yb6 (VL.mk [] none 0) 0 0 0 ((gt p.vehs 0).st) ((gt p.vehs 0).lo) 0 (VL.mk [] none 0) [(VL.mk [] none 0)] ([] : List (KY × LB)) (((visL ts).length : Int) + ((gt p.vehs 0).brs.length : Int)) 0 _ _ (Fr.lent (S := S) hR_39 0 G (by first | ((try simp only [List.length_nil, List.length_cons, List.length_append, List.length_set, List.length_singleton, List.length_take, List.length_drop, List.length_reverse, addL_len]) <;> omega) | omega)) (Fr.lent (S := S) hR_39 1 G (by first | ((try simp only [List.length_nil, List.length_cons, List.length_append, List.length_set, List.length_singleton, List.length_take, List.length_drop, List.length_reverse, addL_len]) <;> omega) | omega)) ((hPB).ext hx_39) (((hPB).ext hx_39).2.2.1.2 0) hO oO oO sri_start hx0 (List.mem_singleton.2 G) (fun κ_ => Int.le_refl _) oO ⟨hn1, hn8⟩ (lOk_mono q_3 oO)) (fun v_q44 C_q44 q44 => ⟨tt0, ?_⟩))
   obtain ⟨M240, B241, c242, P243, p45, p46, p47, rfl, rfl⟩ := q44
   show SR _ _ _ _ _ _ _ _ _ ⟨_, _ :: _ :: _ :: _ :: _, _, _⟩
   refine SR.fin kR hl_39 hx_39 hR_39 (.c (.c (.c (.c .n)))) ?_
   refine SQ.go idQ ?_
   refine .seq ?_
   have hmB : B241 ∈ P243 := p45.bok.elim (fun e_ => by rw [e_]; exact p46.sub _ (List.mem_singleton.2 rfl)) (fun h_ => h_.1)
   refine SC.outVLm (x := B241) hmB (.c (.t2 (.t .h)) .n) ?_
   refine .region (.m G G G (.v (ev_nil G G) G (.f fo123_5 22 G G G G ?_)))
   refine .l ty52 1 G G G G G (.a G G G (.go idQ (.ret idQ (ret1 results21 G (.c .h .n) ⟨(.slice B241.wlA B241.vl.length B241.wlc), B241.vl, (route_found hR hO p45 p47), G, G⟩))))
  refine Ev.step (ev_ld1 G ty3 G (At.own1 2 G G)) G G G ⟨tt0, ?_⟩
  refine SR.o 5 G (Ev.step (ev_ld1 G ty3 G (At.own1 2 G G)) G G G ⟨tt0, ?_⟩)
  refine SR.z 6 G G (ev_any (v := .agg #[.int .i64 0, .int .i64 0, .int .i64 ((gt p.vehs 0).st)]) G kR (fun _ => by kernel_rfl)) ?_
  refine SR.z 13 G G (ev_any (v := .agg #[.int .i64 0, .int .i64 0, .int .i64 ((gt p.vehs 0).st), .int .i64 ((gt p.vehs 0).lo), .int .i64 0, .slice none 0 0]) G kR (fun _ => by kernel_rfl)) ?_
  refine SR.o 14 G (st_call0 G G G G hbd54 G (.c (.t2 .h) (.c (.t2 .h) (.c (.t .h) (.c .h .n)))) (grow_ 13 p (gt p.vehs 0) yb3 A33 c34 (visL ts) A36 c37 fs yb6 (VL.mk [] none 0) 0 0 0 ((gt p.vehs 0).st) ((gt p.vehs 0).lo) 0 (VL.mk [] none 0) [(VL.mk [] none 0)] ([] : List (KY × LB)) (((visL ts).length : Int) + ((gt p.vehs 0).brs.length : Int)) 0 _ _ (Fr.lent (S := S) hR_39 0 G (by first | ((try simp only [List.length_nil, List.length_cons, List.length_append, List.length_set, List.length_singleton, List.length_take, List.length_drop, List.length_reverse, addL_len]) <;> omega) | omega)) (Fr.lent (S := S) hR_39 1 G (by first | ((try simp only [List.length_nil, List.length_cons, List.length_append, List.length_set, List.length_singleton, List.length_take, List.length_drop, List.length_reverse, addL_len]) <;> omega) | omega)) ((hPB).ext hx_39) (((hPB).ext hx_39).2.2.1.2 0) hO oO oO sri_start hx0 (List.mem_singleton.2 G) (fun κ_ => Int.le_refl _) oO ⟨hn1, hn8⟩ (lOk_mono q_3 oO)) (fun v_q52 C_q52 q52 => ⟨tt0, ?_⟩))
  obtain ⟨M248, B249, c250, P251, p53, p54, p55, rfl, rfl⟩ := q52
  show SR _ _ _ _ _ _ _ _ _ ⟨_, _ :: _ :: _ :: _ :: _, _, _⟩
  refine SR.fin kR hl_39 hx_39 hR_39 (.c (.c (.c (.c .n)))) ?_
  refine SQ.go idQ ?_
  refine .seq ?_
  have hmB : B249 ∈ P251 := p53.bok.elim (fun e_ => by rw [e_]; exact p54.sub _ (List.mem_singleton.2 rfl)) (fun h_ => h_.1)
  refine SC.outVLm (x := B249) hmB (.c (.t2 (.t .h)) .n) ?_
  refine .region (.m G G G (.v (ev_nil G G) G (.f fo123_5 22 G G G G ?_)))
  refine .l ty52 1 G G G G G (.a G G G (.go idQ (.ret idQ (ret1 results21 G (.c .h .n) ⟨(.slice B249.wlA B249.vl.length B249.wlc), B249.vl, (route_found hR hO p53 p55), G, G⟩))))
 refine SR.z 0 G G (ev_lda (cs := (cPB p)) G G (At.d (At.lent hR_2 0 G G)) ty29) ?_
 refine SR.z 1 G G (ev_fa G fo29_3 G (r := 5) G) ?_
 refine SR.z 2 G G (ev_ld1 G ty25 G (At.d (At.lent hR_2 0 G G))) ?_
 refine SR.z 3 G G (ev_ix G underlying25 ty72 G G oO oO (fun _ _ => Fr.adr (i := 0) ((hPB).ext hx_2).2.2.1.1 oO oO)) ?_
 refine SR.z 4 G G (ev_lda G G (At.d (Fr.el (i := 0) ((hPB).ext hx_2).2.2.1.1 oO oO)) ty72) ?_
 refine SR.z 5 G G (ev_fa G fo29_0 G (r := 0) G) ?_
 refine SR.z 6 G G (ev_ld1 G ty3 G (At.d (At.lent hR_2 0 G G))) ?_
 refine SR.two (i := 7) (j := 8) kR ⟨_, G, ?_⟩ ⟨_, G, ?_⟩
 ·
  refine st_call0 G G G G hbd49 G .n (lzero_ p.dims _ _ hL.dims) (fun v_q57 C_q57 q57 => ⟨tt0, ?_⟩)
  obtain ⟨u56, rfl, rfl⟩ := q57
  show SR _ _ _ _ _ _ _ _ _ ⟨_, _ :: _, _, _⟩
  refine SR.o 8 G (st_mkmap (α := KY) (β := LB) keKY.f lbV G G G G (fun b58 => ⟨tt0, ?_⟩))
  refine .know (row_len 1 G) (fun hv61 => ?_)
  obtain ⟨A59, c60, rfl, hv61_1, hv61_2⟩ := hv61
  unfold maxLen at hv61_2
  refine SR.z 9 G G (ev_any (v := .agg #[.int .i64 p.dims, .int .i64 p.tn, .slice p.ptA p.time.length p.ptc, .int .i64 p.dn, .slice p.pdA p.dist.length p.pdc, .slice p.pvA p.vehs.length p.pvc, .slice p.pjA p.jobs.length p.pjc, .slice p.psA p.ships.length p.psc, .int .i64 ((gt p.vehs 0).st), .int .i64 ((gt p.vehs 0).en), .slice ((gt p.vehs 0).vcA) ((gt p.vehs 0).vcap.length) ((gt p.vehs 0).vcc), .int .u64 ((gt p.vehs 0).vsk), .int .i64 ((gt p.vehs 0).lo), .int .i64 ((gt p.vehs 0).hi), .int .i64 ((gt p.vehs 0).fix), .int .i64 ((gt p.vehs 0).pt), .int .i64 ((gt p.vehs 0).pd), .int .i64 ((gt p.vehs 0).mt), .slice ((gt p.vehs 0).vbA) ((gt p.vehs 0).brs.length) ((gt p.vehs 0).vbc), .slice none 0 0, .slice A59 ((List.replicate (p.dims).toNat (0 : Int)).length) c60, .map (some b58), .slice none 0 0, .int .i64 0]) G kR (fun _ => by kernel_rfl)) ?_
  refine SR.o 10 G (st_boxa G G G G G (fun b62 => ⟨tt0, ?_⟩))
  refine SR.z 11 G G (ev_as G G) ?_
  refine SR.fin kR hl_2 hx_2 hR_2 (.c (.c (.c .n))) ?_
  exact SQ.weak (key7 (b62, A59, c60, b58)) (Sub.get (.c4 G G G G .n)) (kp (.d (.d .n)))
 refine st_mkmap (α := KY) (β := LB) keKY.f lbV G G G G (fun b63 => ⟨tt0, ?_⟩)
 refine SR.o 7 G (st_call0 G G G G hbd49 G .n (lzero_ p.dims _ _ hL.dims) (fun v_q65 C_q65 q65 => ⟨tt0, ?_⟩))
 obtain ⟨u64, rfl, rfl⟩ := q65
 show SR _ _ _ _ _ _ _ _ _ ⟨_, _ :: _, _, _⟩
 refine .know (row_len 0 G) (fun hv68 => ?_)
 obtain ⟨A66, c67, rfl, hv68_1, hv68_2⟩ := hv68
 unfold maxLen at hv68_2
 refine SR.z 9 G G (ev_any (v := .agg #[.int .i64 p.dims, .int .i64 p.tn, .slice p.ptA p.time.length p.ptc, .int .i64 p.dn, .slice p.pdA p.dist.length p.pdc, .slice p.pvA p.vehs.length p.pvc, .slice p.pjA p.jobs.length p.pjc, .slice p.psA p.ships.length p.psc, .int .i64 ((gt p.vehs 0).st), .int .i64 ((gt p.vehs 0).en), .slice ((gt p.vehs 0).vcA) ((gt p.vehs 0).vcap.length) ((gt p.vehs 0).vcc), .int .u64 ((gt p.vehs 0).vsk), .int .i64 ((gt p.vehs 0).lo), .int .i64 ((gt p.vehs 0).hi), .int .i64 ((gt p.vehs 0).fix), .int .i64 ((gt p.vehs 0).pt), .int .i64 ((gt p.vehs 0).pd), .int .i64 ((gt p.vehs 0).mt), .slice ((gt p.vehs 0).vbA) ((gt p.vehs 0).brs.length) ((gt p.vehs 0).vbc), .slice none 0 0, .slice A66 ((List.replicate (p.dims).toNat (0 : Int)).length) c67, .map (some b63), .slice none 0 0, .int .i64 0]) G kR (fun _ => by kernel_rfl)) ?_
 refine SR.o 10 G (st_boxa G G G G G (fun b69 => ⟨tt0, ?_⟩))
 refine SR.z 11 G G (ev_as G G) ?_
 refine SR.fin kR hl_2 hx_2 hR_2 (.c (.c (.c .n))) ?_
 exact SQ.weak (key7 (b69, A66, c67, b63)) (Sub.get (.c4 G G G G .n)) (kp (.c .h (.c (.t .h) (.d .n))))
theorem xbest_ (p : PB) (S : Nat → Prop) (wf : World) (hPB : PBF S wf p) (hL : LawP p) (hs : p.vehs.length ≤ 1 ∧ p.jobs.length + 2 * p.ships.length ≤ 8) :
  TR0 prog 8 [.agg (cPB p).toArray] [] S wf (fun v_ C_ => ∃ (rv : Value) (R : List RT), (BestR p (R.map rc)) ∧ v_ = .tuple #[.agg #[rv], .bool true] ∧ C_ = [rw_ eRT 54 (rv) R, nestR 92 R]) := by
 have hlv := hPB.2.2.1.1.len
 have hlj := hPB.2.2.2.1.1.len
 have hls := hPB.2.2.2.2.1.len
 refine TR.mk func8 G ntmps8 G G (fun w_ => ?_)
 refine .seq (.region (.cons (st_boxa G G G G G (fun b1 => (.cons (st_alloc G G G G zf34 (fun b2 => (.a G G G ?_))))))))
 refine .go idQ (.seq (.seq (.region (.d 1 ty29 G G G G (.cons (st_callk G G G G hbd18 G .n (mcheck_ p _ _ hPB hL) (.v (ev_cmp (r := false) G G G G) G ?_)))))))
 refine .m G G G (.cons (.on G G G (Ev.step (ev_lda G G (At.whole 1 G) ty29) G G G (.cons (.on G G G (st_callk G G G G hbd19 G .n (xsmall_ p _ _ hPB) (.cons (.on G G G (Ev.step (ev_not G G) G G G ?_)))))))))
 refine .v (ev_pickf G G G G) G (.go idQ (.condI G (bN (bA bD bD)) (fun h3 => ?_) (fun h3 => ?_)))
 ·
  exfalso; omega
 refine .skipgo idQ (.seq (.region (.cons (st_alloc G G G G zf34 (fun b4 => (.go idQ (.seq (.region (.cons (st_alloc G G G G zf41 (fun b5 => ?_)))))))))))
 refine .go idQ (.seq (.region (.d 3 ty29 G G G G (.cons (st_call0 G G G G hbd20 G .n (mtasks_ p _ _ hPB hL) (fun v_q7 C_q7 q7 => ?_))))))
 obtain ⟨u6, rfl, rfl⟩ := q7
 show SP _ _ _ _ _ _ ⟨_, _ :: _, _, _⟩
 refine .a G G G (.go idQ (.seq (.seq ?_)))
 have htl := taskL_len hL
 obtain ⟨Nn, hNn⟩ : ∃ Nn : Nat, Nn = 2 ^ (taskL p).length := ⟨_, rfl⟩
 have hsh : (shlI 1 ((taskL p).length : Int)) = (Nn : Int) := by rw [hNn, shl_1 oO oO, Int.toNat_natCast]
 have hp8 : Nn ≤ 4096 := by rw [hNn]; exact pow_le8 oO
 refine .region (.m G G G (.know (row_len 0 G) (fun hv10 => ?_)))
 obtain ⟨A8, c9, rfl, hv10_1, hv10_2⟩ := hv10
 unfold maxLen at hv10_2
 refine .g underlying58 G G G (.v (ev_shl (r := (shlI 1 (((taskL p).length : Nat) : Int))) G G G oO G) G (.m G G G (.go idQ (.block ?_))))
 refine SC.nilrow eRT 54 ?_
 refine SC.nestR0 92 ?_
 refine .loop (X := Int × (List RT) × Value × Int × Int) (fun ⟨i, Rb, u_Rb, bv, bc⟩ => 0 ≤ i ∧ i ≤ (shlI 1 ((taskL p).length : Int)) ∧ BesI p i (Rb.map rc) ∧ bv = valR p (Rb.map rc) ∧ bc = cstR p (Rb.map rc)) (fun ⟨i, Rb, u_Rb, bv, bc⟩ => [(1, .pointer (some ⟨b1, 0, none⟩)), (2, .pointer (some ⟨b2, 0, none⟩)), (3, .bool false), (4, .pointer (some ⟨b4, 0, none⟩)), (5, .pointer (some ⟨b5, 0, none⟩)), (6, .slice A8 ((taskL p).length) c9), (28, .int .i64 (shlI 1 (((taskL p).length : Nat) : Int))), (29, .int .i64 i)]) (fun ⟨i, Rb, u_Rb, bv, bc⟩ => [nestR 92 Rb, rw_ eRT 54 (u_Rb) Rb, rw_ eTK 61 (.slice A8 ((taskL p).length) c9) (taskL p), cel b5 [.int .i64 bv, .int .i64 bc] 41, cel b4 [u_Rb] 34, cel b2 [.slice none 0 0] 34, cel b1 (cPB p) 29]) (fun _ => S) (fun _ => wf) (fun ⟨i, Rb, u_Rb, bv, bc⟩ => ((shlI 1 ((taskL p).length : Int)) - i).toNat) (fun a_ w_ hs_ hw_ => ⟨⟨0, ([] : List RT), .slice none 0 0, 0, 0⟩, (by (try dsimp only); exact ⟨oO, oO, BesI.init, G, G⟩), hs_.mono (Sub.get (.c4 G G G G (.c4 G G G G .n))), hw_.keep (.d (.d (.d (.c .h .n))))⟩) (fun ⟨i, Rb, u_Rb, bv, bc⟩ ⟨q_0, q_1, q_2, q_3, q_4⟩ => ?_)
 try dsimp only
 refine .seq (.region (.e G G G G G (.go idQ (.seq (.condI G bD (fun h11 => ?_) (fun h11 => ?_))))))
 ·
  refine .skipgo idQ (.seq (.block (.seq (.region (.m G G G (.a G G G (.go idQ (.seq (.seq (.region ?_))))))))))
  refine .f fo29_3 5 G G G G (.l ty25 6 G G G G G (.g underlying25 G G G (.e G G G G G ?_)))
  refine .m G G G (.w (fun _ => ev_mv G G) G (.w (fun hb => ev_cmp G (lkg G hb) G G) G (.r G G G G G ?_)))
  refine .go idQ (.condI G (bO bE bE) (fun h12 => ?_) (fun h12 => ?_))
  ·
   refine .exit idQ ?_
   refine .region (.p ((i + 1)) oO oO G G G G G (.m G G G ?_))
   exact SP.nil (SQ.roundb (X := Int × (List RT) × Value × Int × Int) (x := (i, Rb, u_Rb, bv, bc)) ⟨(i + 1), Rb, u_Rb, bv, bc⟩ (by (try dsimp only); exact ⟨by omega, by omega, (q_2.skip oO), q_3, q_4⟩) dO (Sub.get (.c4 G G G G (.c4 G G G G .n))) (kp (.d (.d (.d (.c .h .n))))))
  refine .skipgo idQ (.seq (.region (.a G G G (.go idQ (.seq (.seq (.region (.m G G G ?_))))))))
  refine .g underlying58 G G G (.m G G G (.go idQ (.block ?_)))
  refine SC.nilrow eTK 61 ?_
  refine .loop (X := Int × (List TK) × Value) (fun ⟨j, Xs, u_Xs⟩ => 0 ≤ j ∧ j ≤ ((taskL p).length : Int) ∧ Xs = selT i ((taskL p).take j.toNat) 0) (fun ⟨j, Xs, u_Xs⟩ => [(1, .pointer (some ⟨b1, 0, none⟩)), (2, .pointer (some ⟨b2, 0, none⟩)), (3, .bool false), (4, .pointer (some ⟨b4, 0, none⟩)), (5, .pointer (some ⟨b5, 0, none⟩)), (6, .slice A8 ((taskL p).length) c9), (28, .int .i64 (shlI 1 (((taskL p).length : Nat) : Int))), (29, .int .i64 i), (7, .int .i64 i), (40, .slice A8 ((taskL p).length) c9), (41, .int .i64 (((taskL p).length : Nat) : Int)), (42, .int .i64 j), (8, u_Xs)]) (fun ⟨j, Xs, u_Xs⟩ => [rw_ eTK 61 (u_Xs) Xs, nestR 92 Rb, rw_ eRT 54 (u_Rb) Rb, rw_ eTK 61 (.slice A8 ((taskL p).length) c9) (taskL p), cel b5 [.int .i64 bv, .int .i64 bc] 41, cel b4 [u_Rb] 34, cel b2 [.slice none 0 0] 34, cel b1 (cPB p) 29]) (fun _ => S) (fun _ => wf) (fun ⟨j, Xs, u_Xs⟩ => (((taskL p).length : Int) - j).toNat) (fun a_ w_ hs_ hw_ => ⟨⟨0, ([] : List TK), .slice none 0 0⟩, (by (try dsimp only); exact ⟨oO, oO, G⟩), hs_.mono (Sub.get (.c4 G G G G (.c4 G G G G (.c4 G G G G (.c G .n))))), hw_.keep (.d (.d (.d (.d .n))))⟩) (fun ⟨j, Xs, u_Xs⟩ ⟨r_0, r_1, r_2⟩ => ?_)
  try dsimp only
  have hxl := selT_len r_2
  refine .seq (.region (.e G G G G G (.go idQ (.seq (.condI G bD (fun h13 => ?_) (fun h13 => ?_))))))
  ·
   refine .skipgo idQ (.seq (.block (.seq (.region (.m G G G (.v (ev_ix G underlying58 ty61 G G oO oO (row_adr (i := j) 3 G oO lO)) G (.v (ev_lda G G (row_el (E := eTK) (l := (taskL p)) (i := j) 3 G oO lO) ty61) G ?_)))))))
   refine .cons (st_alloc G G G G zf61 (fun b14 => ?_))
   refine .a G G G (.cons (st_storea (l' := [.bool ((gt (taskL p) j).ship), .int .i64 ((gt (taskL p) j).item)]) G G G ty61 G G G .h G G (.go idQ (.seq (.region (.m G G G ?_))))))
   refine .m G G G (.v (ev_shr (r := (shrI i j)) G G G oO G) G (.v (ev_band G G G) G (.e G G G G G ?_)))
   refine .go idQ (.condI G bNE (fun h15 => ?_) (fun h15 => ?_))
   ·
    refine .region (.m G G G (.d 0 ty61 G G G G (.cons (st_lit eTK (e := 61) (l := [(gt (taskL p) j)]) G G G G kR G G kW (fun b16 => ?_)))))
    refine .cons (st_app (E := eTK) (m := [(gt (taskL p) j)]) G G G G underlying58 ai61 G G G (.t2 .h) rO (row_src 0 G) lO G (fun v17 => ?_))
    refine .a G G G (.go idQ (.region (.p ((j + 1)) oO oO G G G G G (.m G G G ?_))))
    exact SP.nil (SQ.roundb (X := Int × (List TK) × Value) (x := (j, Xs, u_Xs)) ⟨(j + 1), (Xs ++ [(gt (taskL p) j)]), v17⟩ (by (try dsimp only); exact ⟨by omega, by omega, (by rw [selT_next r_2 oO oO, if_pos (bit_1 oO oO oO oO h15)])⟩) dO (Sub.get (.c4 G G G G (.c4 G G G G (.c4 G G G G (.c G .n))))) (kp (.c .h (.c (.t2 .h) (.c (.t2 .h) (.c (.t2 .h) (.c (.t2 .h) (.c (.t2 .h) (.c (.t2 .h) (.c (.t2 .h) .n))))))))))
   refine .skipgo idQ (.region (.p ((j + 1)) oO oO G G G G G (.m G G G ?_)))
   exact SP.nil (SQ.roundb (X := Int × (List TK) × Value) (x := (j, Xs, u_Xs)) ⟨(j + 1), Xs, u_Xs⟩ (by (try dsimp only); exact ⟨by omega, by omega, (by rw [selT_next r_2 oO oO, if_neg (by rw [(bit_0 oO oO oO oO).1 (Classical.not_not.1 h15)]; decide)])⟩) dO (Sub.get (.c4 G G G G (.c4 G G G G (.c4 G G G G (.c G .n))))) (kp (.c (.t .h) (.c (.t .h) (.c (.t .h) (.c (.t .h) (.c (.t .h) (.c (.t .h) (.c (.t .h) (.c (.t .h) .n))))))))))
  refine .exit idQ ?_
  refine .seq (.know (row_len 0 G) (fun hv20 => ?_))
  obtain ⟨A18, c19, rfl, hv20_1, hv20_2⟩ := hv20
  unfold maxLen at hv20_2
  obtain rfl : Xs = selT i (taskL p) 0 := by rw [r_2, List.take_of_length_le oO]
  have hRt := rt_in hL hs (set := i) oO oO (by rw [Int.toNat_natCast, ← hNn]; omega)
  have hsl := selT_all (p := p) (set := i)
  refine .region (.d 7 ty29 G G G G (.m G G G (.cons (st_lend0 G G G G hbd21 G .n (.c .h .n) (fun w_ hw => route_ p A18 c19 (selT i (taskL p) 0) _ _ (Fr.lend hw 0 G lO) ((hPB).ext hw.lendx) hRt) (fun v_q23 C_q23 q23 => ?_)))))
  obtain ⟨u21, l22, p24, rfl, rfl⟩ := q23
  show SP _ _ _ _ _ _ ⟨_, _ :: _ :: _, _, _⟩
  refine .a G G G (.go idQ (.seq (.seq (.region (.m G G G (.know (row_len 0 G) (fun hv27 => ?_)))))))
  obtain ⟨A25, c26, rfl, hv27_1, hv27_2⟩ := hv27
  unfold maxLen at hv27_2
  refine .g underlying52 G G G (.e G G G G G (.go idQ (.condI G bE (fun h28 => ?_) (fun h28 => ?_))))
  ·
   refine .exit idQ ?_
   refine .region (.p ((i + 1)) oO oO G G G G G (.m G G G ?_))
   exact SP.nil (SQ.roundb (X := Int × (List RT) × Value × Int × Int) (x := (i, Rb, u_Rb, bv, bc)) ⟨(i + 1), Rb, u_Rb, bv, bc⟩ (by (try dsimp only); exact ⟨by omega, by omega, (q_2.none p24 (List.length_eq_zero_iff.1 oO)), q_3, q_4⟩) dO (Sub.get (.c4 G G G G (.c4 G G G G .n))) (kp (.c (.t2 .h) (.c (.t2 .h) (.c (.t2 .h) (.c (.t2 .h) (.c (.t2 .h) (.c (.t2 .h) (.c (.t2 .h) .n)))))))))
  refine .skipgo idQ (.seq ?_)
  have hne : l22 ≠ [] := fun e_ => by have h_ := congrArg List.length e_; simp only [List.length_nil] at h_; omega
  have hfl := (p24.1.resolve_left hne)
  have hl8 : l22.length ≤ 8 := by rw [hfl.2.length_eq]; exact hRt.len
  refine .region (.v (ev_any (v := .agg #[.slice none 0 0]) G kR (fun _ => by kernel_rfl)) G (.m G G G (.cons (st_lend0 G G G G hbd22 G .n (.c .h .n) (fun w_ hw => swith_ none 0 ([] : List RT) 0 A25 c26 l22 _ _ (Fr.nil _ _ _ _) (Fr.lend hw 0 G lO) RTF.nil (Nat.zero_le _) (fun i_ => by rw [gt_none]; exact Nat.zero_le _) lO) (fun v_q31 C_q31 q31 => ?_)))))
  obtain ⟨u29, R30, p32, rfl, rfl⟩ := q31
  show SP _ _ _ _ _ _ ⟨_, _ :: _ :: _ :: _, _, _⟩
  refine .know (row_len 0 G) (fun hv35 => ?_)
  obtain ⟨A33, c34, rfl, hv35_1, hv35_2⟩ := hv35
  unfold maxLen at hv35_2
  have hW1 : R30.map rc = [(0, l22)] := by rw [p32]; exact with_one hne
  have hWl : R30.length = 1 := by have h_ := congrArg List.length hW1; rw [List.length_map] at h_; exact h_
  have hWs : SolI p (R30.map rc) := by rw [hW1]; exact (one_sol hL hne hfl.1).1
  have hWv : ∀ i_ : Int, (gt R30 i_).vis.length ≤ 50 := fun i_ => by have h_ := RBd_gt (b := 8) (l := R30) (by rw [hW1]; intro r_ hr_; simp only [List.mem_singleton] at hr_; subst hr_; show (l22.length : Int) ≤ 8; omega) (by decide) i_; omega
  refine .cons (st_alloc G G G G zf34 (fun b36 => ?_))
  refine .cons (st_storea (l' := [.slice A33 R30.length c34]) G G G ty34 G G G .h G G ?_)
  refine .go idQ (.seq (.region (.d 11 ty29 G G G G (.d 0 ty34 G G G G (.cons (st_lend0 G G G G hbd23 G .n (.c (.t .h) (.c (.t .h) .n)) (fun w_ hw => dscore_ p A33 c34 R30 _ _ (Fr.lend hw 0 G lO) ((hPB).ext hw.lendx) (RTF.lend hw 1 G) hL oO hWv hWs) (fun v_q39 C_q39 q39 => ?_)))))))
  obtain ⟨va37, ca38, p40, p41, p42, p43, rfl, rfl⟩ := q39
  show SP _ _ _ _ _ _ ⟨_, _ :: _ :: _, _, _⟩
  have hsc : BetS (scL p l22) (scR p (Rb.map rc)) ↔ (va37 > bv ∨ (va37 = bv ∧ ca38 < bc)) := by rw [← scR_one, ← hW1]; unfold BetS scR; rw [p40, p41, q_3, q_4]
  refine .m G G G (.x G G G G (.x G G G G (.cons (st_alloc G G G G zf41 (fun b44 => ?_)))))
  refine .cons (st_storea (l' := [.int .i64 va37, .int .i64 ca38]) G G G ty41 G G G .h G G ?_)
  refine .a G G G (.go idQ (.seq (.region (.m G G G (.v (ev_cmp (r := true) G G G G) G ?_)))))
  refine .m G G G (.cons (.on G G G (Ev.step (ev_lda G G (At.whole 0 G) ty41) G G G (.cons (.on G G G (Ev.step (ev_lda G G (At.whole 9 G) ty41) G G G (.cons (.on G G G (st_callk G G G G hbd24 G .n (dbetter_ va37 ca38 bv bc _ _) ?_)))))))))
  refine .v (ev_pickt G G G G) G (.go idQ (.condI G (bO bD (bA bE bD)) (fun h45 => ?_) (fun h45 => ?_)))
  ·
   refine SC.draw mo [cel b5 [.int .i64 bv, .int .i64 bc] 41, cel b4 [u_Rb] 34] [] (.c (.t4 (.t4 (.t .h))) (.c (.t4 (.t4 (.t .h))) .n)) (fun _ _ _ => sc0) (fun wf_46 hl_46 hx_46 hR_46 => ?_)
   refine SR.z 0 G G (ev_lda (cs := [.slice A33 R30.length c34]) G G (At.d (At.lent hR_46 3 G G)) ty34) ?_
   refine SR.z 1 G G (ev_lda (cs := [.int .i64 va37, .int .i64 ca38]) G G (At.d (At.lent hR_46 0 G G)) ty41) ?_
   refine SR.o 2 G (st_storea (l' := [.slice A33 R30.length c34]) G G G ty34 G G G (.t .h) G G ⟨tt0, ?_⟩)
   refine SR.o 3 G (st_storea (l' := [.int .i64 va37, .int .i64 ca38]) G G G ty41 G G G (.t .h) G G ⟨tt0, ?_⟩)
   refine SR.fin kR hl_46 hx_46 hR_46 (.c (.c .n)) ?_
   refine SQ.go idQ ?_
   refine .region (.p ((i + 1)) oO oO G G G G G (.m G G G ?_))
   exact SP.nil (SQ.roundb (X := Int × (List RT) × Value × Int × Int) (x := (i, Rb, u_Rb, bv, bc)) ⟨(i + 1), R30, .slice A33 R30.length c34, va37, ca38⟩ (by (try dsimp only); exact ⟨by omega, by omega, (by rw [hW1]; exact q_2.take p24 hne (hsc.2 h45)), (p40), (p41)⟩) dO (Sub.get (.c4 G G G G (.c4 G G G G .n))) (kp (.c (.t4 .h) (.c (.t2 (.t .h)) (.c (.t4 (.t4 .h)) (.d (.c (.t4 (.t2 .h)) (.c (.t4 (.t2 .h)) .n))))))))
  refine .skipgo idQ (.region (.p ((i + 1)) oO oO G G G G G (.m G G G ?_)))
  exact SP.nil (SQ.roundb (X := Int × (List RT) × Value × Int × Int) (x := (i, Rb, u_Rb, bv, bc)) ⟨(i + 1), Rb, u_Rb, bv, bc⟩ (by (try dsimp only); exact ⟨by omega, by omega, (q_2.keep p24 hne (fun hb_ => h45 (hsc.1 hb_))), q_3, q_4⟩) dO (Sub.get (.c4 G G G G (.c4 G G G G .n))) (kp (.c (.t4 (.t2 .h)) (.c (.t4 (.t2 .h)) (.c (.t4 (.t2 .h)) (.c (.t4 (.t2 .h)) (.c (.t4 (.t2 .h)) (.c (.t4 (.t2 .h)) (.c (.t4 (.t2 .h)) .n)))))))))
 refine .exit idQ ?_
 refine .seq (.region (.d 4 ty34 G G G G (.know (row_len 1 G) (fun hv49 => ?_))))
 obtain ⟨A47, c48, rfl, hv49_1, hv49_2⟩ := hv49
 unfold maxLen at hv49_2
 refine .cons (st_storea (l' := [.slice A47 Rb.length c48]) G G G ty34 G G G (.t4 (.t .h)) G G ?_)
 refine .a G G G (.go idQ (.ret idQ (retv2 results8 (.c 0 G G ty34) (.t G) (.c (.t2 .h) (.c (.t .h) .n)) ⟨.slice A47 Rb.length c48, Rb, (best_of hL q_2 (by rw [← hNn]; omega)), G, G⟩)))
end Go.Proofs.YtimhdimhdimbjaaGreat.Sx
