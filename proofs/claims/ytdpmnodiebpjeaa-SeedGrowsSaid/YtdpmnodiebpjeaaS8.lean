import Derived.Test.YtdpmnodiebpjeaaProg
import Derived.Test.YtdpmnodiebpjeaaS7
set_option linter.unusedVariables false
set_option linter.unusedSimpArgs false
set_option linter.unusedSectionVars false
set_option maxRecDepth 20000
set_option maxHeartbeats 1000000
namespace Go.Proofs.Ytdpmnodiebpjeaa.Sx.FP
open Go Go.SX Go.Proofs
theorem ty3 : ty Try.prog 3 = some (false, 1) := by kernel_rfl
theorem ty72 : ty Try.prog 72 = some (true, 2) := by kernel_rfl
theorem fo72_0 : fo Try.prog 72 0 = some 0 := by kernel_rfl
theorem fo72_1 : fo Try.prog 72 1 = some 1 := by kernel_rfl
theorem mo : Try.prog.follows .mixedOrders = true := by kernel_rfl
theorem hbd88 : hasBody Try.prog 88 = true := by kernel_rfl
theorem fo24_0 : fo Try.prog 24 0 = some 0 := by kernel_rfl
theorem fo24_1 : fo Try.prog 24 1 = some 1 := by kernel_rfl
theorem ty22 : ty Try.prog 22 = some (false, 1) := by kernel_rfl
theorem fo81_0 : fo Try.prog 81 0 = some 0 := by kernel_rfl
theorem hbd54 : hasBody Try.prog 54 = true := by kernel_rfl
theorem fo81_1 : fo Try.prog 81 1 = some 1 := by kernel_rfl
theorem fo81_2 : fo Try.prog 81 2 = some 2 := by kernel_rfl
theorem ty76 : ty Try.prog 76 = some (false, 1) := by kernel_rfl
theorem hbd74 : hasBody Try.prog 74 = true := by kernel_rfl
theorem fo75_9 : fo Try.prog 75 9 = some 10 := by kernel_rfl
theorem ty73 : ty Try.prog 73 = some (false, 1) := by kernel_rfl
theorem ty78 : ty Try.prog 78 = some (true, 2) := by kernel_rfl
theorem fo78_0 : fo Try.prog 78 0 = some 0 := by kernel_rfl
theorem fo78_1 : fo Try.prog 78 1 = some 1 := by kernel_rfl
theorem fo75_0 : fo Try.prog 75 0 = some 0 := by kernel_rfl
theorem fo75_1 : fo Try.prog 75 1 = some 1 := by kernel_rfl
theorem fo75_2 : fo Try.prog 75 2 = some 2 := by kernel_rfl
theorem hbd58 : hasBody Try.prog 58 = true := by kernel_rfl
theorem fo75_3 : fo Try.prog 75 3 = some 3 := by kernel_rfl
theorem ty65 : ty Try.prog 65 = some (false, 1) := by kernel_rfl
theorem fo75_4 : fo Try.prog 75 4 = some 4 := by kernel_rfl
theorem fo75_5 : fo Try.prog 75 5 = some 6 := by kernel_rfl
theorem fo75_6 : fo Try.prog 75 6 = some 7 := by kernel_rfl
theorem fo75_7 : fo Try.prog 75 7 = some 8 := by kernel_rfl
theorem fo75_8 : fo Try.prog 75 8 = some 9 := by kernel_rfl
theorem fo29_1 : fo Try.prog 29 1 = some 1 := by kernel_rfl
theorem fo29_0 : fo Try.prog 29 0 = some 0 := by kernel_rfl
theorem ty24 : ty Try.prog 24 = some (true, 2) := by kernel_rfl
theorem hbd55 : hasBody Try.prog 55 = true := by kernel_rfl
theorem fo29_2 : fo Try.prog 29 2 = some 3 := by kernel_rfl
theorem fo29_3 : fo Try.prog 29 3 = some 5 := by kernel_rfl
theorem ty25 : ty Try.prog 25 = some (false, 1) := by kernel_rfl
theorem fo29_4 : fo Try.prog 29 4 = some 6 := by kernel_rfl
theorem ty26 : ty Try.prog 26 = some (false, 1) := by kernel_rfl
theorem fo29_5 : fo Try.prog 29 5 = some 7 := by kernel_rfl
theorem ty27 : ty Try.prog 27 = some (false, 1) := by kernel_rfl
theorem ty75 : ty Try.prog 75 = some (true, 11) := by kernel_rfl
theorem hbd56 : hasBody Try.prog 56 = true := by kernel_rfl
theorem ty83 : ty Try.prog 83 = some (true, 7) := by kernel_rfl
theorem zf83 : (Try.prog.info? 83).bind (fun i => i.zero.map Value.cells) = some (List.toArray [.int .i64 0, .int .i64 0, .slice none 0 0, .slice none 0 0, .slice none 0 0, .int .u64 0, .int .i64 0]) := by kernel_rfl
theorem fo83_0 : fo Try.prog 83 0 = some 0 := by kernel_rfl
theorem ty81 : ty Try.prog 81 = some (true, 3) := by kernel_rfl
theorem hbd57 : hasBody Try.prog 57 = true := by kernel_rfl
theorem fo83_1 : fo Try.prog 83 1 = some 3 := by kernel_rfl
theorem fo83_2 : fo Try.prog 83 2 = some 4 := by kernel_rfl
theorem fo83_3 : fo Try.prog 83 3 = some 5 := by kernel_rfl
theorem fo83_4 : fo Try.prog 83 4 = some 6 := by kernel_rfl
theorem ty86 : ty Try.prog 86 = some (true, 9) := by kernel_rfl
theorem zf86 : (Try.prog.info? 86).bind (fun i => i.zero.map Value.cells) = some (List.toArray [.int .i64 0, .int .i64 0, .slice none 0 0, .int .i64 0, .int .i64 0, .slice none 0 0, .slice none 0 0, .int .u64 0, .int .i64 0]) := by kernel_rfl
theorem fo86_0 : fo Try.prog 86 0 = some 0 := by kernel_rfl
theorem fo86_1 : fo Try.prog 86 1 = some 3 := by kernel_rfl
theorem fo86_2 : fo Try.prog 86 2 = some 6 := by kernel_rfl
theorem fo86_3 : fo Try.prog 86 3 = some 7 := by kernel_rfl
theorem fo86_4 : fo Try.prog 86 4 = some 8 := by kernel_rfl
theorem ty29 : ty Try.prog 29 = some (true, 8) := by kernel_rfl
theorem hbd39 : hasBody Try.prog 39 = true := by kernel_rfl
theorem hbd25 : hasBody Try.prog 25 = true := by kernel_rfl
end Go.Proofs.Ytdpmnodiebpjeaa.Sx.FP
namespace Go.Proofs.Ytdpmnodiebpjeaa.Sx
open Go Go.SX Go.Proofs FP
theorem rchk_ (A : Option Addr) (c : Nat) (l : List Int) (n : Int) (S : Nat → Prop) (wf : World) (hA : Fr eZ S wf A l) :
  TR0 Try.prog 58 [.slice A l.length c, .int .i64 n] [] S wf (fun v_ C_ => v_ = .int .i64 (chkE l n) ∧ C_ = []) := by
 have hla := hA.len
 refine TR.mk Try.func58 rfl Try.ntmps58 rfl rfl (fun w_ => ?_)
 refine .seq (.region (.a rfl rfl rfl (.go idQ (.seq (.seq ?_)))))
 refine .region (.m rfl rfl rfl (.v (ev_len rfl Try.underlying22 rfl) rfl (.m rfl rfl rfl (.v (ev_cmp rfl rfl rfl rfl) rfl (.go idQ ?_)))))
 refine .condI rfl bNE (fun h1 => ?_) (fun h1 => ?_)
 ·
  exact .seq (.region (.a rfl rfl rfl (.go idQ (.ret idQ (ret1 Try.results58 rfl .n ⟨(congrArg (Value.int .i64) (chk_43 (by omega))), rfl⟩)))))
 refine .skipgo idQ (.seq (.seq (.region (.a rfl rfl rfl (.go idQ (.block ?_))))))
 refine .loop (X := Int) (fun i => 0 ≤ i ∧ i ≤ (l.length : Int) ∧ (∀ j : Int, 0 ≤ j → j < i → 0 ≤ gt l j ∧ gt l j ≤ 1000000)) (fun i => [(0, .slice A l.length c), (5, .int .i64 i)]) (fun i => []) (fun _ => S) (fun _ => wf) (fun i => ((l.length : Int) - i).toNat) (fun a_ w_ hs_ hw_ => ⟨0, (by exact ⟨(by omega), (by omega), (fun j h0_ h1_ => by omega)⟩), hs_.mono (Sub.get (.c rfl (.c rfl .n))), hw_.keep .n⟩) (fun i ⟨q_0, q_1, q_2⟩ => ?_)
 try dsimp only
 refine .seq (.seq (.region (.m rfl rfl rfl (.m rfl rfl rfl (.v (ev_len rfl Try.underlying22 rfl) rfl ?_)))))
 refine .v (ev_cmp rfl rfl rfl rfl) rfl (.go idQ (.condI rfl bD (fun h2 => ?_) (fun h2 => ?_)))
 ·
  refine .skipgo idQ (.seq (.block (.seq (.region (.m rfl rfl rfl ?_)))))
  refine .m rfl rfl rfl (.v (ev_ix rfl Try.underlying22 ty3 rfl rfl (by omega) (by omega) (fun _ _ => Fr.adr (i := i) hA (by omega) (by omega))) rfl (.v (ev_ld1 rfl ty3 rfl (At.elem1 (At.w (Fr.el (i := i) hA (by omega) (by omega))) 0 rfl)) rfl (.v (ev_cmp rfl rfl rfl rfl) rfl (.m rfl rfl rfl (.w (fun _ => ev_mv rfl rfl) rfl ?_)))))
  refine .w (fun _ => ev_mv rfl rfl) rfl (.w (fun hb => have hp := bF bD hb; ev_ix rfl Try.underlying22 ty3 (lkg rfl hb) (lkg rfl hb) (by have _h := hp; omega) (by have _h := hp; omega) (fun _ _ => Fr.adr (i := i) hA (by have _h := hp; omega) (by have _h := hp; omega))) rfl (.w (fun hb => have hp := bF bD hb; ev_ld1 rfl ty3 (lkg rfl hb) (At.elem1 (At.w (Fr.el (i := i) hA (by have _h := hp; omega) (by have _h := hp; omega))) 0 rfl)) rfl (.w (fun hb => ev_cmp rfl (lkg rfl hb) rfl rfl) rfl (.v (ev_or rfl rfl rfl rfl) rfl (.go idQ ?_)))))
  refine .condI rfl (bO bD bD) (fun h3 => ?_) (fun h3 => ?_)
  ·
   exact .seq (.region (.a rfl rfl rfl (.go idQ (.ret idQ (ret1 Try.results58 rfl .n ⟨(congrArg (Value.int .i64) (chk_2 (i := i) (by omega) (by omega))), rfl⟩)))))
  exact .skipgo idQ (.region (.m rfl rfl rfl (.v (ev_add rfl rfl rfl (r := (i + 1)) rfl (by omega) (by omega)) rfl (.a rfl rfl rfl (SP.nil (SQ.roundb (X := Int) (x := (i)) (i + 1) (by exact ⟨(by omega), (by omega), (upto_nx q_2 (by omega))⟩) (by show (_ : Nat) < _; omega) (Sub.get (.c rfl (.c rfl .n))) (fun w hw => hw.keep .n)))))))
 exact .exit idQ (.seq (.region (.a rfl rfl rfl (.go idQ (.ret idQ (ret1 Try.results58 rfl .n ⟨(congrArg (Value.int .i64) (chk_ok (i := i) (by omega) q_2 (by omega))), rfl⟩))))))
theorem rwins_ (A : Option Addr) (c : Nat) (l : List WN) (S : Nat → Prop) (wf : World) (hA : Fr eWN S wf A l) :
  TR0 Try.prog 88 [.slice A l.length c] [] S wf (fun v_ C_ => ∃ (x : Int) (e : Int), (e = 0 ↔ WinsOk l) ∧ v_ = .tuple #[.int .i64 x, .int .i64 e] ∧ C_ = []) := by
 have hla := hA.len
 refine TR.mk Try.func88 rfl Try.ntmps88 rfl rfl (fun w_ => ?_)
 refine .seq (.region (.a rfl rfl rfl (.a rfl rfl rfl (.go idQ (.seq ?_)))))
 refine .seq (.region (.m rfl rfl rfl (.v (ev_len rfl Try.underlying76 rfl) rfl (.v (ev_cmp rfl rfl rfl rfl) rfl (.m rfl rfl rfl ?_)))))
 refine .w (fun _ => ev_mv rfl rfl) rfl (.w (fun hb => ev_len rfl Try.underlying76 (lkg rfl hb)) rfl (.w (fun hb => ev_cmp rfl (lkg rfl hb) rfl rfl) rfl (.v (ev_or rfl rfl rfl rfl) rfl (.go idQ (.condI rfl (bO bD bD) (fun h1 => ?_) (fun h1 => ?_))))))
 ·
  exact .seq (.region (.a rfl rfl rfl (.a rfl rfl rfl (.go idQ (.ret idQ (ret2 Try.results88 rfl rfl .n ⟨(-1), 43, (⟨fun h_ => by omega, fun h_ => absurd h_ (wins_len (by omega))⟩), rfl, rfl⟩))))))
 refine .skipgo idQ (.seq (.seq (.region (.a rfl rfl rfl (.go idQ (.block ?_))))))
 refine .loop (X := Int) (fun i => 0 ≤ i ∧ i ≤ (l.length : Int) ∧ (∀ j : Int, 0 ≤ j → j < i → winAt l j)) (fun i => [(0, .slice A l.length c), (4, .int .i64 i)]) (fun i => []) (fun _ => S) (fun _ => wf) (fun i => ((l.length : Int) - i).toNat) (fun a_ w_ hs_ hw_ => ⟨0, (by exact ⟨(by omega), (by omega), (fun j h0_ h1_ => by omega)⟩), hs_.mono (Sub.get (.c rfl (.c rfl .n))), hw_.keep .n⟩) (fun i ⟨q_0, q_1, q_2⟩ => ?_)
 try dsimp only
 refine .seq (.seq (.region (.m rfl rfl rfl (.m rfl rfl rfl (.v (ev_len rfl Try.underlying76 rfl) rfl ?_)))))
 refine .v (ev_cmp rfl rfl rfl rfl) rfl (.go idQ (.condI rfl bD (fun h2 => ?_) (fun h2 => ?_)))
 ·
  refine .skipgo idQ (.seq (.block (.seq (.seq ?_))))
  refine SC.draw mo [] [] .n (fun _ _ _ => sc0) (fun wf_3 hl_3 hx_3 hR_3 => ?_)
  refine SR.m 0 rfl rfl rfl rfl (SR.m 1 rfl rfl rfl rfl (SR.z 2 rfl rfl (ev_ix rfl Try.underlying76 ty72 rfl rfl (by omega) (by omega) (fun _ _ => Fr.adr (i := i) (Fr.ext hA hx_3) (by omega) (by omega))) (SR.z 3 rfl rfl (ev_fa rfl fo72_0 rfl (r := ao A + (i).toNat * 2) rfl) (SR.z 4 rfl rfl (ev_ld1 rfl ty3 rfl (At.elem1 (At.d (Fr.el (i := i) (Fr.ext hA hx_3) (by omega) (by omega))) 0 rfl)) (SR.z 5 rfl rfl (ev_cmp rfl rfl rfl rfl) ?_)))))
  refine SR.m 6 rfl rfl rfl rfl (SR.y 7 rfl rfl (fun _ => ev_mv rfl rfl) (SR.y 8 rfl rfl (fun _ => ev_mv rfl rfl) (SR.y 9 rfl rfl (fun hb => have hp := bF bD hb; ev_ix rfl Try.underlying76 ty72 (lkg rfl hb) (lkg rfl hb) (by have _h := hp; omega) (by have _h := hp; omega) (fun _ _ => Fr.adr (i := i) (Fr.ext hA hx_3) (by have _h := hp; omega) (by have _h := hp; omega))) (SR.y 10 rfl rfl (fun hb => ev_fa rfl fo72_1 (lkg rfl hb) (r := ao A + (i).toNat * 2 + 1) rfl) (SR.y 11 rfl rfl (fun hb => have hp := bF bD hb; ev_ld1 rfl ty3 (lkg rfl hb) (At.elem1 (At.d (Fr.el (i := i) (Fr.ext hA hx_3) (by have _h := hp; omega) (by have _h := hp; omega))) 1 rfl)) ?_)))))
  refine SR.y 12 rfl rfl (fun hb => ev_cmp rfl (lkg rfl hb) rfl rfl) (SR.z 13 rfl rfl (ev_or rfl rfl rfl rfl) (SR.m 14 rfl rfl rfl rfl (SR.y 15 rfl rfl (fun _ => ev_mv rfl rfl) (SR.y 16 rfl rfl (fun _ => ev_mv rfl rfl) (SR.y 17 rfl rfl (fun hb => have hp := bF (bO bD bD) hb; ev_ix rfl Try.underlying76 ty72 (lkg rfl hb) (lkg rfl hb) (by have _h := hp; omega) (by have _h := hp; omega) (fun _ _ => Fr.adr (i := i) (Fr.ext hA hx_3) (by have _h := hp; omega) (by have _h := hp; omega))) ?_)))))
  refine SR.y 18 rfl rfl (fun hb => ev_fa rfl fo72_0 (lkg rfl hb) (r := ao A + (i).toNat * 2) rfl) (SR.y 19 rfl rfl (fun hb => have hp := bF (bO bD bD) hb; ev_ld1 rfl ty3 (lkg rfl hb) (At.elem1 (At.d (Fr.el (i := i) (Fr.ext hA hx_3) (by have _h := hp; omega) (by have _h := hp; omega))) 0 rfl)) (SR.y 20 rfl rfl (fun _ => ev_mv rfl rfl) (SR.y 21 rfl rfl (fun _ => ev_mv rfl rfl) (SR.y 22 rfl rfl (fun hb => have hp := bF (bO bD bD) hb; ev_ix rfl Try.underlying76 ty72 (lkg rfl hb) (lkg rfl hb) (by have _h := hp; omega) (by have _h := hp; omega) (fun _ _ => Fr.adr (i := i) (Fr.ext hA hx_3) (by have _h := hp; omega) (by have _h := hp; omega))) (SR.y 23 rfl rfl (fun hb => ev_fa rfl fo72_1 (lkg rfl hb) (r := ao A + (i).toNat * 2 + 1) rfl) ?_)))))
  refine SR.y 24 rfl rfl (fun hb => have hp := bF (bO bD bD) hb; ev_ld1 rfl ty3 (lkg rfl hb) (At.elem1 (At.d (Fr.el (i := i) (Fr.ext hA hx_3) (by have _h := hp; omega) (by have _h := hp; omega))) 1 rfl)) (SR.y 25 rfl rfl (fun hb => ev_cmp rfl (lkg rfl hb) (lkg rfl hb) rfl) (SR.z 26 rfl rfl (ev_or rfl rfl rfl rfl) (SR.fin (by kernel_rfl) hl_3 hx_3 hR_3 .n (SQ.go idQ (.condI rfl (bO (bO bD bD) bD) (fun h4 => ?_) (fun h4 => ?_))))))
  ·
   refine .seq (.region (.m rfl rfl rfl (.a rfl rfl rfl (.a rfl rfl rfl (.go idQ ?_)))))
   exact .ret idQ (ret2 Try.results88 rfl rfl .n ⟨i, 2, (⟨fun h_ => by omega, fun h_ => absurd h_ (wins_no (i := i) (by omega) (by omega) (fun h_ => by obtain ⟨⟨h0_, h1_, h2_⟩, h3_⟩ := h_; omega))⟩), rfl, rfl⟩)
  refine .skipgo idQ (.seq ?_)
  refine SC.draw mo [] [] .n (fun _ _ _ => sc0) (fun wf_5 hl_5 hx_5 hR_5 => ?_)
  refine SR.m 0 rfl rfl rfl rfl (SR.z 1 rfl rfl (ev_cmp rfl rfl rfl rfl) (SR.m 2 rfl rfl rfl rfl (SR.y 3 rfl rfl (fun _ => ev_mv rfl rfl) (SR.y 4 rfl rfl (fun _ => ev_mv rfl rfl) (SR.y 5 rfl rfl (fun hb => have hp := bT bD hb; ev_ix rfl Try.underlying76 ty72 (lkg rfl hb) (lkg rfl hb) (by have _h := hp; omega) (by have _h := hp; omega) (fun _ _ => Fr.adr (i := i) (Fr.ext hA hx_5) (by have _h := hp; omega) (by have _h := hp; omega))) ?_)))))
  refine SR.y 6 rfl rfl (fun hb => ev_fa rfl fo72_0 (lkg rfl hb) (r := ao A + (i).toNat * 2) rfl) (SR.y 7 rfl rfl (fun hb => have hp := bT bD hb; ev_ld1 rfl ty3 (lkg rfl hb) (At.elem1 (At.d (Fr.el (i := i) (Fr.ext hA hx_5) (by have _h := hp; omega) (by have _h := hp; omega))) 0 rfl)) (SR.y 8 rfl rfl (fun _ => ev_mv rfl rfl) (SR.y 9 rfl rfl (fun _ => ev_mv rfl rfl) (SR.y 10 rfl rfl (fun hb => have hp := bT bD hb; ev_sub rfl (lkg rfl hb) rfl (r := (i - 1)) rfl (by have _h := hp; omega) (by have _h := hp; omega)) (SR.y 11 rfl rfl (fun hb => have hp := bT bD hb; ev_ix rfl Try.underlying76 ty72 (lkg rfl hb) (lkg rfl hb) (by have _h := hp; omega) (by have _h := hp; omega) (fun _ _ => Fr.adr (i := (i - 1)) (Fr.ext hA hx_5) (by have _h := hp; omega) (by have _h := hp; omega))) ?_)))))
  refine SR.y 12 rfl rfl (fun hb => ev_fa rfl fo72_1 (lkg rfl hb) (r := ao A + ((i - 1)).toNat * 2 + 1) rfl) (SR.y 13 rfl rfl (fun hb => have hp := bT bD hb; ev_ld1 rfl ty3 (lkg rfl hb) (At.elem1 (At.d (Fr.el (i := (i - 1)) (Fr.ext hA hx_5) (by have _h := hp; omega) (by have _h := hp; omega))) 1 rfl)) (SR.y 14 rfl rfl (fun hb => ev_cmp rfl (lkg rfl hb) (lkg rfl hb) rfl) (SR.z 15 rfl rfl (ev_and rfl rfl rfl rfl) (SR.fin (by kernel_rfl) hl_5 hx_5 hR_5 .n (SQ.go idQ ?_)))))
  refine .condI rfl (bA bD bD) (fun h6 => ?_) (fun h6 => ?_)
  ·
   refine .seq (.region (.m rfl rfl rfl (.a rfl rfl rfl (.a rfl rfl rfl (.go idQ ?_)))))
   exact .ret idQ (ret2 Try.results88 rfl rfl .n ⟨i, 2, (⟨fun h_ => by omega, fun h_ => absurd h_ (wins_no (i := i) (by omega) (by omega) (fun h_ => by obtain ⟨⟨h0_, h1_, h2_⟩, h3_⟩ := h_; omega))⟩), rfl, rfl⟩)
  exact .skipgo idQ (.region (.m rfl rfl rfl (.v (ev_add rfl rfl rfl (r := (i + 1)) rfl (by omega) (by omega)) rfl (.a rfl rfl rfl (SP.nil (SQ.roundb (X := Int) (x := (i)) (i + 1) (by exact ⟨(by omega), (by omega), (upto_nx q_2 (by refine ⟨by omega, fun h_ => ?_⟩; omega))⟩) (by show (_ : Nat) < _; omega) (Sub.get (.c rfl (.c rfl .n))) (fun w hw => hw.keep .n)))))))
 refine .exit idQ (.seq (.region (.a rfl rfl rfl (.a rfl rfl rfl (.go idQ ?_)))))
 exact .ret idQ (ret2 Try.results88 rfl rfl .n ⟨(-1), 0, (⟨fun _ => wins_of (by omega) q_2 (by omega), fun _ => rfl⟩), rfl, rfl⟩)
theorem rwin_ (A : Option Addr) (c : Nat) (l : List WN) (S : Nat → Prop) (wf : World) (hA : Fr eWN S wf A l) :
  TR0 Try.prog 74 [.slice A l.length c] [] S wf (fun v_ C_ => v_ = .bool (dec (WinsOk l)) ∧ C_ = []) := by
 refine TR.mk Try.func74 rfl Try.ntmps74 rfl rfl (fun w_ => ?_)
 refine .seq (.region (.a rfl rfl rfl (.go idQ (.seq (.region ?_)))))
 refine .m rfl rfl rfl (.cons (st_call00 rfl rfl rfl rfl hbd88 rfl .n (rwins_ A c l _ _ hA) (by intro v C h; obtain ⟨_, _, _, rfl, rfl⟩ := h; rfl) (fun v_q3 q3 => ?_)))
 obtain ⟨x1, e2, p4, rfl, -⟩ := q3
 refine .m rfl rfl rfl (.v (ev_ext rfl rfl rfl) rfl (.v (ev_ext rfl rfl rfl) rfl (.a rfl rfl rfl (.a rfl rfl rfl (.go idQ ?_)))))
 refine .seq (.region (.m rfl rfl rfl (.v (ev_cmp rfl rfl rfl rfl) rfl (.a rfl rfl rfl (.go idQ ?_)))))
 exact .ret idQ (ret1 Try.results74 rfl .n ⟨(congrArg Value.bool (eq_dec p4)), rfl⟩)
theorem rmat_ (n : Int) (A : Option Addr) (c : Nat) (l : List Int) (k : Int) (S : Nat → Prop) (wf : World) (hA : Fr eZ S wf A l) (hk : 1 ≤ k ∧ k ≤ 32) :
  TR0 Try.prog 55 [.agg #[.int .i64 n, .slice A l.length c], .int .i64 k] [] S wf (fun v_ C_ => v_ = .bool (dec (MatOk n l k)) ∧ C_ = []) := by
 have hla := hA.len
 have hkk := ij_rng (i := 0) (j := 0) (k := k) (by omega) (by omega) (by omega) (by omega) (by omega)
 refine TR.mk Try.func55 rfl Try.ntmps55 rfl rfl (fun w_ => ?_)
 refine .seq (.region (.cons (st_boxa rfl rfl rfl rfl rfl (fun b1 => .a rfl rfl rfl (.go idQ (.seq ?_))))))
 refine .seq (.region (.v (ev_fa rfl fo24_0 rfl (r := 0) rfl) rfl (.v (ev_ld1 rfl ty3 rfl (At.own1 0 rfl rfl)) rfl (.m rfl rfl rfl (.v (ev_cmp rfl rfl rfl rfl) rfl ?_)))))
 refine .m rfl rfl rfl (.w (fun _ => ev_fa rfl fo24_1 rfl (r := 1) rfl) rfl (.w (fun hb => ev_ld1 rfl ty22 (lkg rfl hb) (At.own1 0 rfl rfl)) rfl (.w (fun hb => ev_len rfl Try.underlying22 (lkg rfl hb)) rfl (.w (fun _ => ev_mv rfl rfl) rfl (.w (fun _ => ev_mv rfl rfl) rfl ?_)))))
 refine .w (fun hb => have hp := bF bNE hb; ev_mul rfl (lkg rfl hb) (lkg rfl hb) (r := (k * k)) rfl (by have _h := hp; omega) (by have _h := hp; omega)) rfl (.w (fun hb => ev_cmp rfl (lkg rfl hb) (lkg rfl hb) rfl) rfl (.v (ev_or rfl rfl rfl rfl) rfl (.go idQ (.condI rfl (bO bNE bNE) (fun h2 => ?_) (fun h2 => ?_)))))
 ·
  exact .seq (.region (.a rfl rfl rfl (.go idQ (.ret idQ (ret1 Try.results55 rfl .n ⟨(congrArg Value.bool (dec_f (fun h_ => by have h1_ := h_.1; have h2_ := h_.2.1; omega)).symm), rfl⟩)))))
 refine .skipgo idQ (.seq (.seq (.region (.a rfl rfl rfl (.go idQ (.block ?_))))))
 refine .loop (X := Int) (fun i => 0 ≤ i ∧ i ≤ k ∧ (∀ a b : Int, 0 ≤ a → a < i → 0 ≤ b → b < k → matAt l k a b)) (fun i => [(1, .int .i64 k), (2, .pointer (some ⟨b1, 0, none⟩)), (5, .int .i64 i)]) (fun i => [cel b1 [.int .i64 n, .slice A l.length c] 24]) (fun _ => S) (fun _ => wf) (fun i => (k - i).toNat) (fun a_ w_ hs_ hw_ => ⟨0, (by exact ⟨(by omega), (by omega), (fun a b h0_ h1_ h2_ h3_ => by omega)⟩), hs_.mono (Sub.get (.c rfl (.c rfl (.c rfl .n)))), hw_.keep (.c .h .n)⟩) (fun i ⟨q_0, q_1, q_2⟩ => ?_)
 try dsimp only
 refine .seq (.seq (.region (.m rfl rfl rfl (.m rfl rfl rfl (.v (ev_cmp rfl rfl rfl rfl) rfl ?_)))))
 refine .go idQ (.condI rfl bD (fun h3 => ?_) (fun h3 => ?_))
 ·
  refine .skipgo idQ (.seq (.block (.seq (.region (.a rfl rfl rfl ?_)))))
  refine .go idQ (.block ?_)
  refine .loop (X := Int) (fun j => 0 ≤ j ∧ j ≤ k ∧ (∀ b : Int, 0 ≤ b → b < j → matAt l k i b)) (fun j => [(1, .int .i64 k), (2, .pointer (some ⟨b1, 0, none⟩)), (5, .int .i64 i), (6, .int .i64 j)]) (fun j => [cel b1 [.int .i64 n, .slice A l.length c] 24]) (fun _ => S) (fun _ => wf) (fun j => (k - j).toNat) (fun a_ w_ hs_ hw_ => ⟨0, (by exact ⟨(by omega), (by omega), (fun b h0_ h1_ => by omega)⟩), hs_.mono (Sub.get (.c4 rfl rfl rfl rfl .n)), hw_.keep (.c .h .n)⟩) (fun j ⟨r_0, r_1, r_2⟩ => ?_)
  try dsimp only
  refine .seq (.seq (.region (.m rfl rfl rfl (.m rfl rfl rfl (.v (ev_cmp rfl rfl rfl rfl) rfl ?_)))))
  refine .go idQ (.condI rfl bD (fun h4 => ?_) (fun h4 => ?_))
  ·
   refine .skipgo idQ (.seq (.block (.seq ?_)))
   have hij := ij_rng (i := i) (j := j) (k := k) (by omega) (by omega) (by omega) (by omega) (by omega)
   refine .region (.v (ev_fa rfl fo24_1 rfl (r := 1) rfl) rfl (.v (ev_ld1 rfl ty22 rfl (At.own1 0 rfl rfl)) rfl (.m rfl rfl rfl (.m rfl rfl rfl (.v (ev_mul rfl rfl rfl (r := (i * k)) rfl (by omega) (by omega)) rfl ?_)))))
   refine .m rfl rfl rfl (.v (ev_add rfl rfl rfl (r := ((i * k) + j)) rfl (by omega) (by omega)) rfl (.v (ev_ix rfl Try.underlying22 ty3 rfl rfl (by omega) (by omega) (fun _ _ => Fr.adr (i := ((i * k) + j)) hA (by omega) (by omega))) rfl (.v (ev_ld1 rfl ty3 rfl (At.elem1 (At.w (Fr.el (i := ((i * k) + j)) hA (by omega) (by omega))) 0 rfl)) rfl (.a rfl rfl rfl (.go idQ ?_)))))
   refine .seq (.region (.m rfl rfl rfl (.v (ev_cmp rfl rfl rfl rfl) rfl (.m rfl rfl rfl (.w (fun _ => ev_mv rfl rfl) rfl ?_)))))
   refine .w (fun hb => ev_cmp rfl (lkg rfl hb) rfl rfl) rfl (.v (ev_or rfl rfl rfl rfl) rfl (.m rfl rfl rfl (.w (fun _ => ev_mv rfl rfl) rfl (.w (fun _ => ev_mv rfl rfl) rfl (.w (fun hb => ev_cmp rfl (lkg rfl hb) (lkg rfl hb) rfl) rfl ?_)))))
   refine .w (fun hb => ev_mv rfl (lkg rfl hb)) rfl (.cons (Ev.ggstep (b1 := ((decide ((gt l ((i * k) + j)) < (-1))) || (decide ((gt l ((i * k) + j)) > 32000000)))) (b := (i == j)) cb_ft (fun hb1 _ => ev_mv rfl rfl) rfl rfl rfl rfl rfl (.cons (Ev.ggstep (b1 := ((decide ((gt l ((i * k) + j)) < (-1))) || (decide ((gt l ((i * k) + j)) > 32000000)))) (b := (i == j)) cb_ft (fun hb1 hb => ev_cmp rfl (lkg rfl hb) rfl rfl) rfl rfl rfl rfl rfl (.w (fun hb => ev_and rfl (lkg rfl hb) (lkgn rfl cb_ft hb) rfl) rfl (.v (ev_or rfl rfl rfl rfl) rfl (.go idQ ?_)))))))
   refine .condI rfl (bO (bO bD bD) (bA bE bNE)) (fun h5 => ?_) (fun h5 => ?_)
   ·
    exact .seq (.region (.a rfl rfl rfl (.go idQ (.ret idQ (ret1 Try.results55 rfl .n ⟨(congrArg Value.bool (dec_f (fun h_ => by obtain ⟨h2_, h3_, h4_⟩ := h_.2.2 i j (by omega) (by omega) (by omega) (by omega); omega)).symm), rfl⟩)))))
   exact .skipgo idQ (.region (.m rfl rfl rfl (.v (ev_add rfl rfl rfl (r := (j + 1)) rfl (by omega) (by omega)) rfl (.a rfl rfl rfl (SP.nil (SQ.roundb (X := Int) (x := (j)) (j + 1) (by exact ⟨(by omega), (by omega), (upto_nx r_2 ⟨by omega, by omega, fun h_ => by omega⟩)⟩) (by show (_ : Nat) < _; omega) (Sub.get (.c4 rfl rfl rfl rfl .n)) (fun w hw => hw.keep (.c .h .n))))))))
  exact .exit idQ (.region (.m rfl rfl rfl (.v (ev_add rfl rfl rfl (r := (i + 1)) rfl (by omega) (by omega)) rfl (.a rfl rfl rfl (SP.nil (SQ.roundb (X := Int) (x := (i)) (i + 1) (by exact ⟨(by omega), (by omega), (mat_nx q_2 r_2 (by omega))⟩) (by show (_ : Nat) < _; omega) (Sub.get (.c rfl (.c rfl (.c rfl .n)))) (fun w hw => hw.keep (.c .h .n))))))))
 exact .exit idQ (.seq (.region (.a rfl rfl rfl (.go idQ (.ret idQ (ret1 Try.results55 rfl .n ⟨(congrArg Value.bool (dec_t ⟨by omega, by omega, fun a_ b_ h0_ h1_ h2_ h3_ => q_2 a_ b_ h0_ (by omega) h2_ h3_⟩).symm), rfl⟩))))))
theorem rstopc_ (s : SO) (k : Int) (S : Nat → Prop) (wf : World) (hS : SOF S wf s) (hk : 1 ≤ k ∧ k ≤ 32) :
  TR0 Try.prog 57 [.agg #[.int .i64 s.pl, .int .i64 s.srv, .slice s.soA s.sws.length s.soc], .int .i64 k] [] S wf (fun v_ C_ => v_ = .bool (dec (StopOk k s)) ∧ C_ = []) := by
 refine TR.mk Try.func57 rfl Try.ntmps57 rfl rfl (fun w_ => ?_)
 refine .seq (.region (.cons (st_boxa rfl rfl rfl rfl rfl (fun b1 => .a rfl rfl rfl (.go idQ (.seq ?_))))))
 refine .region (.v (ev_fa rfl fo81_0 rfl (r := 0) rfl) rfl (.v (ev_ld1 rfl ty3 rfl (At.own1 0 rfl rfl)) rfl (.m rfl rfl rfl (.v (ev_sub rfl rfl rfl (r := (k - 1)) rfl (by omega) (by omega)) rfl (.cons (st_callk rfl rfl rfl rfl hbd54 rfl .n (up_ s.pl (k - 1) _ _) ?_))))))
 refine .m rfl rfl rfl (.w (fun _ => ev_fa rfl fo81_1 rfl (r := 1) rfl) rfl (.w (fun hb => ev_ld1 rfl ty3 (lkg rfl hb) (At.own1 0 rfl rfl)) rfl (.cons (st_gcallk rfl rfl rfl rfl rfl rfl hbd54 (fun hb => (lkA1 (lkg rfl hb) (lkA1 rfl lkA0))) .n (fun hb => have hp := bT (bA bD bD) hb; up_ s.srv 1000000 _ _) (.v (ev_and rfl rfl rfl rfl) rfl (.m rfl rfl rfl ?_))))))
 refine .w (fun _ => ev_fa rfl fo81_2 rfl (r := 2) rfl) rfl (.w (fun hb => ev_ld1 rfl ty76 (lkg rfl hb) (At.own1 0 rfl rfl)) rfl (.cons (st_gcallk rfl rfl rfl rfl rfl rfl hbd74 (fun hb => (lkA1 (lkg rfl hb) lkA0)) .n (fun hb => have hp := bT (bA (bA bD bD) (bA bD bD)) hb; rwin_ s.soA s.soc s.sws _ _ hS) (.v (ev_and rfl rfl rfl rfl) rfl (.a rfl rfl rfl (.go idQ ?_))))))
 exact .ret idQ (ret1 Try.results57 rfl .n ⟨(congrArg Value.bool stopB_), rfl⟩)
theorem rveh_ (v : VH) (d : Int) (k : Int) (S : Nat → Prop) (wf : World) (hV : VHF S wf v) (hk : 1 ≤ k ∧ k ≤ 32) (hsk : 0 ≤ v.vsk) :
  TR0 Try.prog 56 [.agg #[.int .i64 v.st, .int .i64 v.en, .slice v.vcA v.vcap.length v.vcc, .int .u64 v.vsk, .int .i64 v.lo, .int .i64 v.hi, .int .i64 v.fix, .int .i64 v.pt, .int .i64 v.pd, .int .i64 v.mt, .slice v.vbA v.brs.length v.vbc], .int .i64 d, .int .i64 k] [] S wf (fun v_ C_ => v_ = .bool (dec (VehOk d k v)) ∧ C_ = []) := by
 have hbl := hV.2.1.len
 refine TR.mk Try.func56 rfl Try.ntmps56 rfl rfl (fun w_ => ?_)
 refine .seq (.region (.cons (st_boxa rfl rfl rfl rfl rfl (fun b1 => .a rfl rfl rfl (.go idQ (.seq ?_))))))
 refine .seq (.region (.v (ev_fa rfl fo75_9 rfl (r := 10) rfl) rfl (.v (ev_ld1 rfl ty73 rfl (At.own1 0 rfl rfl)) rfl (.v (ev_len rfl Try.underlying73 rfl) rfl (.v (ev_cmp rfl rfl rfl rfl) rfl ?_)))))
 refine .go idQ (.condI rfl bD (fun h2 => ?_) (fun h2 => ?_))
 ·
  exact .seq (.region (.a rfl rfl rfl (.go idQ (.ret idQ (ret1 Try.results56 rfl .n ⟨(congrArg Value.bool (vehB_1 (by omega))), rfl⟩)))))
 refine .skipgo idQ (.seq (.seq (.region (.a rfl rfl rfl (.go idQ (.block ?_))))))
 refine .loop (X := Int) (fun i => 0 ≤ i ∧ i ≤ (v.brs.length : Int) ∧ (∀ j : Int, 0 ≤ j → j < i → WinsOk (gt v.brs j).bws ∧ 0 ≤ (gt v.brs j).bsrv ∧ (gt v.brs j).bsrv ≤ 1000000)) (fun i => [(1, .int .i64 d), (2, .int .i64 k), (3, .pointer (some ⟨b1, 0, none⟩)), (7, .int .i64 i)]) (fun i => [cel b1 [.int .i64 v.st, .int .i64 v.en, .slice v.vcA v.vcap.length v.vcc, .int .u64 v.vsk, .int .i64 v.lo, .int .i64 v.hi, .int .i64 v.fix, .int .i64 v.pt, .int .i64 v.pd, .int .i64 v.mt, .slice v.vbA v.brs.length v.vbc] 75]) (fun _ => S) (fun _ => wf) (fun i => ((v.brs.length : Int) - i).toNat) (fun a_ w_ hs_ hw_ => ⟨0, (by exact ⟨(by omega), (by omega), (fun j h0_ h1_ => by omega)⟩), hs_.mono (Sub.get (.c4 rfl rfl rfl rfl .n)), hw_.keep (.c .h .n)⟩) (fun i ⟨q_0, q_1, q_2⟩ => ?_)
 try dsimp only
 refine .seq (.seq (.region (.m rfl rfl rfl (.v (ev_fa rfl fo75_9 rfl (r := 10) rfl) rfl (.v (ev_ld1 rfl ty73 rfl (At.own1 0 rfl rfl)) rfl ?_)))))
 refine .v (ev_len rfl Try.underlying73 rfl) rfl (.v (ev_cmp rfl rfl rfl rfl) rfl (.go idQ (.condI rfl bD (fun h3 => ?_) (fun h3 => ?_))))
 ·
  refine .skipgo idQ (.seq (.block (.seq (.region (.v (ev_fa rfl fo75_9 rfl (r := 10) rfl) rfl ?_)))))
  refine .v (ev_ld1 rfl ty73 rfl (At.own1 0 rfl rfl)) rfl (.m rfl rfl rfl (.v (ev_ix rfl Try.underlying73 ty78 rfl rfl (by omega) (by omega) (fun _ _ => Fr.adr (i := i) hV.2.1 (by omega) (by omega))) rfl (.v (ev_fa rfl fo78_0 rfl (r := ao v.vbA + (i).toNat * 2) rfl) rfl (.v (ev_ld1 rfl ty76 rfl (At.elem1 (At.w (Fr.el (i := i) hV.2.1 (by omega) (by omega))) 0 rfl)) rfl (.cons (st_callk rfl rfl rfl rfl hbd74 rfl .n (rwin_ ((gt v.brs i).bwA) ((gt v.brs i).bwc) ((gt v.brs i).bws) _ _ (hV.2.2 i)) ?_))))))
  refine .v (ev_not rfl rfl) rfl (.m rfl rfl rfl (.w (fun _ => ev_fa rfl fo75_9 rfl (r := 10) rfl) rfl (.w (fun hb => ev_ld1 rfl ty73 (lkg rfl hb) (At.own1 0 rfl rfl)) rfl (.w (fun _ => ev_mv rfl rfl) rfl (.w (fun hb => have hp := bF (bN bV) hb; ev_ix rfl Try.underlying73 ty78 (lkg rfl hb) (lkg rfl hb) (by have _h := hp; omega) (by have _h := hp; omega) (fun _ _ => Fr.adr (i := i) hV.2.1 (by have _h := hp; omega) (by have _h := hp; omega))) rfl ?_)))))
  refine .w (fun hb => ev_fa rfl fo78_1 (lkg rfl hb) (r := ao v.vbA + (i).toNat * 2 + 1) rfl) rfl (.w (fun hb => have hp := bF (bN bV) hb; ev_ld1 rfl ty3 (lkg rfl hb) (At.elem1 (At.w (Fr.el (i := i) hV.2.1 (by have _h := hp; omega) (by have _h := hp; omega))) 1 rfl)) rfl (.cons (st_gcallk rfl rfl rfl rfl rfl rfl hbd54 (fun hb => (lkA1 (lkg rfl hb) (lkA1 rfl lkA0))) .n (fun hb => have hp := bF (bN bV) hb; up_ ((gt v.brs i).bsrv) 1000000 _ _) (.w (fun hb => ev_not rfl (lkg rfl hb)) rfl (.v (ev_or rfl rfl rfl rfl) rfl (.go idQ ?_))))))
  refine .condI rfl (bO (bN bV) (bN (bA bD bD))) (fun h4 => ?_) (fun h4 => ?_)
  ·
   exact .seq (.region (.a rfl rfl rfl (.go idQ (.ret idQ (ret1 Try.results56 rfl .n ⟨(congrArg Value.bool (vehB_2 (i := i) (by omega) (by omega) (fun h_ => h4.elim (fun h2_ => h2_ (dec_t h_.1)) (fun h2_ => by have := h_.2; omega)))), rfl⟩)))))
  exact .skipgo idQ (.region (.m rfl rfl rfl (.v (ev_add rfl rfl rfl (r := (i + 1)) rfl (by omega) (by omega)) rfl (.a rfl rfl rfl (SP.nil (SQ.roundb (X := Int) (x := (i)) (i + 1) (by exact ⟨(by omega), (by omega), (upto_nx q_2 ⟨dec_p (Classical.byContradiction fun h2_ => h4 (.inl h2_)), by omega⟩)⟩) (by show (_ : Nat) < _; omega) (Sub.get (.c4 rfl rfl rfl rfl .n)) (fun w hw => hw.keep (.c .h .n))))))))
 refine .exit idQ (.seq (.region (.v (ev_fa rfl fo75_0 rfl (r := 0) rfl) rfl (.v (ev_ld1 rfl ty3 rfl (At.own1 0 rfl rfl)) rfl (.m rfl rfl rfl ?_)))))
 refine .v (ev_sub rfl rfl rfl (r := (k - 1)) rfl (by omega) (by omega)) rfl (.cons (st_callk rfl rfl rfl rfl hbd54 rfl .n (up_ v.st (k - 1) _ _) (.m rfl rfl rfl (.w (fun _ => ev_fa rfl fo75_1 rfl (r := 1) rfl) rfl (.w (fun hb => ev_ld1 rfl ty3 (lkg rfl hb) (At.own1 0 rfl rfl)) rfl (.w (fun _ => ev_mv rfl rfl) rfl ?_))))))
 refine .w (fun hb => have hp := bT (bA bD bD) hb; ev_sub rfl (lkg rfl hb) rfl (r := (k - 1)) rfl (by have _h := hp; omega) (by have _h := hp; omega)) rfl (.cons (st_gcallk rfl rfl rfl rfl rfl rfl hbd54 (fun hb => (lkA1 (lkg rfl hb) (lkA1 (lkg rfl hb) lkA0))) .n (fun hb => have hp := bT (bA bD bD) hb; up_ v.en (k - 1) _ _) (.v (ev_and rfl rfl rfl rfl) rfl (.m rfl rfl rfl (.w (fun _ => ev_fa rfl fo75_2 rfl (r := 2) rfl) rfl (.w (fun hb => ev_ld1 rfl ty22 (lkg rfl hb) (At.own1 0 rfl rfl)) rfl ?_))))))
 refine .w (fun _ => ev_mv rfl rfl) rfl (.cons (st_gcallk rfl rfl rfl rfl rfl rfl hbd58 (fun hb => (lkA1 (lkg rfl hb) (lkA1 (lkg rfl hb) lkA0))) .n (fun hb => have hp := bT (bA (bA bD bD) (bA bD bD)) hb; rchk_ v.vcA v.vcc v.vcap d _ _ hV.1) (.w (fun hb => ev_cmp rfl (lkg rfl hb) rfl rfl) rfl (.v (ev_and rfl rfl rfl rfl) rfl (.m rfl rfl rfl (.w (fun _ => ev_fa rfl fo75_3 rfl (r := 3) rfl) rfl ?_))))))
 refine .w (fun hb => ev_ld1 rfl ty65 (lkg rfl hb) (At.own1 0 rfl rfl)) rfl (.w (fun hb => ev_cmp rfl (lkg rfl hb) rfl rfl) rfl (.v (ev_and rfl rfl rfl rfl) rfl (.m rfl rfl rfl (.w (fun _ => ev_fa rfl fo75_4 rfl (r := 4) rfl) rfl (.w (fun hb => ev_lda (cs := [.int .i64 v.lo, .int .i64 v.hi]) rfl (lkg rfl hb) (At.own 0 rfl rfl) ty72) rfl ?_)))))
 rcases Bool.eq_false_or_eq_true ((((decide (v.st ≥ 0) && decide (v.st ≤ (k - 1))) && (decide (v.en ≥ 0) && decide (v.en ≤ (k - 1)))) && ((chkE v.vcap d) == 0)) && (decide (v.vsk < 4611686018427387904))) with hb5 | hb5
 ·
  refine SP.reslot (t := 61) rfl hb5 ?_
  have hb5_ := bT (bA (bA (bA (bA bD bD) (bA bD bD)) bE) bD) hb5
  refine SP.reslotv (t := 63) rfl (gv_on hb5) (.cons (.on rfl rfl rfl (st_lit eWN (e := 72) (l := [(WN.mk v.lo v.hi)]) rfl rfl rfl rfl (by kernel_rfl) rfl rfl (fun w => by kernel_rfl) (fun b6 => .cons (.on rfl rfl rfl (st_lendk rfl rfl rfl rfl hbd74 rfl .n (.c .h .n) (fun w_ hw => rwin_ (some ⟨b6, 0, none⟩) 1 [(WN.mk v.lo v.hi)] _ _ (Fr.lend hw 0 rfl (by first | omega | simp only [LL] <;> omega | simp <;> omega))) (.v (ev_pickt rfl rfl rfl rfl) rfl (.m rfl rfl rfl (.w (fun _ => ev_fa rfl fo75_5 rfl (r := 6) rfl) rfl ?_)))))))))
  refine .w (fun hb => ev_ld1 rfl ty3 (lkg rfl hb) (At.own1 1 rfl rfl)) rfl (.cons (st_gcallk rfl rfl rfl rfl rfl rfl hbd54 (fun hb => (lkA1 (lkg rfl hb) (lkA1 rfl lkA0))) .n (fun hb => have hp := bT bV hb; up_ v.fix 1000000 _ _) (.v (ev_and rfl rfl rfl rfl) rfl (.m rfl rfl rfl (.w (fun _ => ev_fa rfl fo75_6 rfl (r := 7) rfl) rfl (.w (fun hb => ev_ld1 rfl ty3 (lkg rfl hb) (At.own1 1 rfl rfl)) rfl ?_))))))
  refine .cons (st_gcallk rfl rfl rfl rfl rfl rfl hbd54 (fun hb => (lkA1 (lkg rfl hb) (lkA1 rfl lkA0))) .n (fun hb => have hp := bT (bA bV (bA bD bD)) hb; up_ v.pt 1000000 _ _) (.v (ev_and rfl rfl rfl rfl) rfl (.m rfl rfl rfl (.w (fun _ => ev_fa rfl fo75_7 rfl (r := 8) rfl) rfl (.w (fun hb => ev_ld1 rfl ty3 (lkg rfl hb) (At.own1 1 rfl rfl)) rfl (.cons (st_gcallk rfl rfl rfl rfl rfl rfl hbd54 (fun hb => (lkA1 (lkg rfl hb) (lkA1 rfl lkA0))) .n (fun hb => have hp := bT (bA (bA bV (bA bD bD)) (bA bD bD)) hb; up_ v.pd 1000000 _ _) ?_)))))))
  refine .v (ev_and rfl rfl rfl rfl) rfl (.m rfl rfl rfl (.w (fun _ => ev_fa rfl fo75_8 rfl (r := 9) rfl) rfl (.w (fun hb => ev_ld1 rfl ty3 (lkg rfl hb) (At.own1 1 rfl rfl)) rfl (.cons (st_gcallk rfl rfl rfl rfl rfl rfl hbd54 (fun hb => (lkA1 (lkg rfl hb) (lkA1 rfl lkA0))) .n (fun hb => have hp := bT (bA (bA (bA bV (bA bD bD)) (bA bD bD)) (bA bD bD)) hb; up_ v.mt 12 _ _) (.v (ev_and rfl rfl rfl rfl) rfl ?_))))))
  exact .a rfl rfl rfl (.go idQ (.ret idQ (ret1 Try.results56 rfl .n ⟨(congrArg Value.bool (vehB_4 (by omega) hsk (fun j h0_ h1_ => q_2 j h0_ (by omega)) hb5)), rfl⟩)))
 refine SP.reslot (t := 61) rfl hb5 ?_
 have hb5_ := bF (bA (bA (bA (bA bD bD) (bA bD bD)) bE) bD) hb5
 refine .cons (.off rfl rfl rfl rfl rfl rfl (.cons (.off rfl rfl rfl rfl rfl rfl (.v (ev_pickf rfl rfl rfl rfl) rfl (.m rfl rfl rfl (.cons (.off rfl rfl rfl rfl rfl rfl (.cons (.off rfl rfl rfl rfl rfl rfl ?_)))))))))
 refine .cons (.off rfl rfl rfl rfl rfl rfl (.v (ev_pickf rfl rfl rfl rfl) rfl (.m rfl rfl rfl (.cons (.off rfl rfl rfl rfl rfl rfl (.cons (.off rfl rfl rfl rfl rfl rfl (.cons (.off rfl rfl rfl rfl rfl rfl ?_)))))))))
 refine .v (ev_pickf rfl rfl rfl rfl) rfl (.m rfl rfl rfl (.cons (.off rfl rfl rfl rfl rfl rfl (.cons (.off rfl rfl rfl rfl rfl rfl (.cons (.off rfl rfl rfl rfl rfl rfl (.v (ev_pickf rfl rfl rfl rfl) rfl ?_))))))))
 refine .m rfl rfl rfl (.cons (.off rfl rfl rfl rfl rfl rfl (.cons (.off rfl rfl rfl rfl rfl rfl (.cons (.off rfl rfl rfl rfl rfl rfl (.v (ev_pickf rfl rfl rfl rfl) rfl (.a rfl rfl rfl ?_))))))))
 exact .go idQ (.ret idQ (ret1 Try.results56 rfl .n ⟨(congrArg Value.bool (vehB_3 hb5)), rfl⟩))
theorem rcheck_ (p : PB) (S : Nat → Prop) (wf : World) (hPB : PBF S wf p) (hU : SkU p) :
  TR0 Try.prog 39 [.agg #[.int .i64 p.dims, .int .i64 p.tn, .slice p.ptA p.time.length p.ptc, .int .i64 p.dn, .slice p.pdA p.dist.length p.pdc, .slice p.pvA p.vehs.length p.pvc, .slice p.pjA p.jobs.length p.pjc, .slice p.psA p.ships.length p.psc]] [] S wf (fun v_ C_ => ∃ (e : Int), (e = 0 → LawP p) ∧ v_ = .int .i64 e ∧ C_ = []) := by
 have hlv := hPB.2.2.1.1.len
 have hlj := hPB.2.2.2.1.1.len
 have hls := hPB.2.2.2.2.1.len
 refine TR.mk Try.func39 rfl Try.ntmps39 rfl rfl (fun w_ => ?_)
 refine .seq (.region (.cons (st_boxa rfl rfl rfl rfl rfl (fun b1 => .a rfl rfl rfl (.go idQ (.seq ?_))))))
 refine .region (.v (ev_fa rfl fo29_1 rfl (r := 1) rfl) rfl (.v (ev_fa rfl fo24_0 rfl (r := 1) rfl) rfl (.v (ev_ld1 rfl ty3 rfl (At.own1 0 rfl rfl)) rfl (.a rfl rfl rfl (.go idQ ?_)))))
 refine .seq (.seq (.region (.v (ev_fa rfl fo29_0 rfl (r := 0) rfl) rfl (.v (ev_ld1 rfl ty3 rfl (At.own1 0 rfl rfl)) rfl (.cons (st_callk rfl rfl rfl rfl hbd54 rfl .n (up_ p.dims 3 _ _) ?_))))))
 refine .v (ev_not rfl rfl) rfl (.m rfl rfl rfl (.w (fun _ => ev_mv rfl rfl) rfl (.w (fun hb => ev_cmp rfl (lkg rfl hb) rfl rfl) rfl (.v (ev_or rfl rfl rfl rfl) rfl (.m rfl rfl rfl ?_)))))
 refine .w (fun _ => ev_mv rfl rfl) rfl (.w (fun hb => ev_cmp rfl (lkg rfl hb) rfl rfl) rfl (.v (ev_or rfl rfl rfl rfl) rfl (.m rfl rfl rfl (.w (fun _ => ev_fa rfl fo29_1 rfl (r := 1) rfl) rfl (.w (fun hb => ev_lda (cs := [.int .i64 p.tn, .slice p.ptA p.time.length p.ptc]) rfl (lkg rfl hb) (At.own 0 rfl rfl) ty24) rfl ?_)))))
 refine .w (fun _ => ev_mv rfl rfl) rfl (.cons (st_gcallk rfl rfl rfl rfl rfl rfl hbd55 (fun hb => (lkA1 (lkg rfl hb) (lkA1 (lkg rfl hb) lkA0))) .n (fun hb => have hp := bF (bO (bO (bN (bA bD bD)) bD) bD) hb; rmat_ p.tn p.ptA p.ptc p.time p.tn _ _ hPB.1 (by omega)) (.w (fun hb => ev_not rfl (lkg rfl hb)) rfl (.v (ev_or rfl rfl rfl rfl) rfl (.m rfl rfl rfl (.w (fun _ => ev_fa rfl fo29_2 rfl (r := 3) rfl) rfl ?_))))))
 refine .w (fun hb => ev_lda (cs := [.int .i64 p.dn, .slice p.pdA p.dist.length p.pdc]) rfl (lkg rfl hb) (At.own 0 rfl rfl) ty24) rfl (.w (fun _ => ev_mv rfl rfl) rfl (.cons (st_gcallk rfl rfl rfl rfl rfl rfl hbd55 (fun hb => (lkA1 (lkg rfl hb) (lkA1 (lkg rfl hb) lkA0))) .n (fun hb => have hp := bF (bO (bO (bO (bN (bA bD bD)) bD) bD) (bN bV)) hb; rmat_ p.dn p.pdA p.pdc p.dist p.tn _ _ hPB.2.1 (by omega)) (.w (fun hb => ev_not rfl (lkg rfl hb)) rfl (.v (ev_or rfl rfl rfl rfl) rfl (.go idQ ?_))))))
 refine .condI rfl (bO (bO (bO (bO (bN (bA bD bD)) bD) bD) (bN bV)) (bN bV)) (fun h2 => ?_) (fun h2 => ?_)
 ·
  exact .seq (.region (.a rfl rfl rfl (.go idQ (.ret idQ (ret1 Try.results39 rfl .n ⟨2, (fun h_ => by omega), rfl, rfl⟩)))))
 refine .skipgo idQ (.seq (.seq (.region (.v (ev_fa rfl fo29_3 rfl (r := 5) rfl) rfl (.v (ev_ld1 rfl ty25 rfl (At.own1 0 rfl rfl)) rfl ?_)))))
 refine .v (ev_len rfl Try.underlying25 rfl) rfl (.v (ev_cmp rfl rfl rfl rfl) rfl (.m rfl rfl rfl (.w (fun _ => ev_fa rfl fo29_4 rfl (r := 6) rfl) rfl (.w (fun hb => ev_ld1 rfl ty26 (lkg rfl hb) (At.own1 0 rfl rfl)) rfl (.w (fun hb => ev_len rfl Try.underlying26 (lkg rfl hb)) rfl ?_)))))
 refine .w (fun _ => ev_fa rfl fo29_5 rfl (r := 7) rfl) rfl (.w (fun hb => ev_ld1 rfl ty27 (lkg rfl hb) (At.own1 0 rfl rfl)) rfl (.w (fun hb => ev_len rfl Try.underlying27 (lkg rfl hb)) rfl (.w (fun hb => have hp := bF bD hb; ev_add rfl (lkg rfl hb) (lkg rfl hb) (r := ((p.jobs.length : Int) + (p.ships.length : Int))) rfl (by have _h := hp; omega) (by have _h := hp; omega)) rfl (.w (fun hb => ev_cmp rfl (lkg rfl hb) rfl rfl) rfl (.v (ev_or rfl rfl rfl rfl) rfl ?_)))))
 refine .go idQ (.condI rfl (bO bD bD) (fun h3 => ?_) (fun h3 => ?_))
 ·
  exact .seq (.region (.a rfl rfl rfl (.go idQ (.ret idQ (ret1 Try.results39 rfl .n ⟨27, (fun h_ => by omega), rfl, rfl⟩)))))
 refine .skipgo idQ (.seq (.seq ?_))
 have hM := mat_of h2
 have hN : (p.vehs.length : Int) ≤ 4 ∧ (p.jobs.length : Int) + p.ships.length ≤ 12 := by omega
 have hM1 := hM.2.1
 refine .region (.a rfl rfl rfl (.go idQ (.block ?_)))
 refine .loop (X := Int) (fun i => 0 ≤ i ∧ i ≤ (p.vehs.length : Int) ∧ (∀ j : Int, 0 ≤ j → j < i → VehOk p.dims p.tn (gt p.vehs j))) (fun i => [(1, .pointer (some ⟨b1, 0, none⟩)), (3, .int .i64 p.tn), (4, .int .i64 i)]) (fun i => [cel b1 [.int .i64 p.dims, .int .i64 p.tn, .slice p.ptA p.time.length p.ptc, .int .i64 p.dn, .slice p.pdA p.dist.length p.pdc, .slice p.pvA p.vehs.length p.pvc, .slice p.pjA p.jobs.length p.pjc, .slice p.psA p.ships.length p.psc] 29]) (fun _ => S) (fun _ => wf) (fun i => ((p.vehs.length : Int) - i).toNat) (fun a_ w_ hs_ hw_ => ⟨0, (by exact ⟨(by omega), (by omega), (fun j h0_ h1_ => by omega)⟩), hs_.mono (Sub.get (.c rfl (.c rfl (.c rfl .n)))), hw_.keep (.c .h .n)⟩) (fun i ⟨q_0, q_1, q_2⟩ => ?_)
 try dsimp only
 refine .seq (.seq (.region (.m rfl rfl rfl (.v (ev_fa rfl fo29_3 rfl (r := 5) rfl) rfl (.v (ev_ld1 rfl ty25 rfl (At.own1 0 rfl rfl)) rfl ?_)))))
 refine .v (ev_len rfl Try.underlying25 rfl) rfl (.v (ev_cmp rfl rfl rfl rfl) rfl (.go idQ (.condI rfl bD (fun h4 => ?_) (fun h4 => ?_))))
 ·
  refine .skipgo idQ (.seq (.block (.seq ?_)))
  refine SC.draw mo [] [] .n (fun _ _ _ => sc0) (fun wf_5 hl_5 hx_5 hR_5 => ?_)
  refine SR.z 0 rfl rfl (ev_fa rfl fo29_3 rfl (r := 5) rfl) (SR.z 1 rfl rfl (ev_ld1 rfl ty25 rfl (At.d (At.lent hR_5 0 rfl rfl))) (SR.m 2 rfl rfl rfl rfl (SR.z 3 rfl rfl (ev_ix rfl Try.underlying25 ty75 rfl rfl (by omega) (by omega) (fun _ _ => Fr.adr (i := i) ((hPB).ext hx_5).2.2.1.1 (by omega) (by omega))) (SR.z 4 rfl rfl (ev_lda rfl rfl (At.d (Fr.el (i := i) ((hPB).ext hx_5).2.2.1.1 (by omega) (by omega))) ty75) (SR.z 5 rfl rfl (ev_fa rfl fo29_0 rfl (r := 0) rfl) ?_)))))
  refine SR.z 6 rfl rfl (ev_ld1 rfl ty3 rfl (At.d (At.lent hR_5 0 rfl rfl))) (SR.m 7 rfl rfl rfl rfl (SR.o 8 rfl (st_callk rfl rfl rfl rfl hbd56 rfl .n (rveh_ (gt p.vehs i) p.dims p.tn _ _ (((hPB).ext hx_5).2.2.1.2 i) (by omega) (hU.v i)) ⟨tt0, (SR.z 9 rfl rfl (ev_not rfl rfl) (SR.fin (by kernel_rfl) hl_5 hx_5 hR_5 .n (SQ.go idQ ?_)))⟩)))
  refine .condI rfl (bN bV) (fun h6 => ?_) (fun h6 => ?_)
  ·
   exact .seq (.region (.a rfl rfl rfl (.go idQ (.ret idQ (ret1 Try.results39 rfl .n ⟨2, (fun h_ => by omega), rfl, rfl⟩)))))
  exact .skipgo idQ (.region (.m rfl rfl rfl (.v (ev_add rfl rfl rfl (r := (i + 1)) rfl (by omega) (by omega)) rfl (.a rfl rfl rfl (SP.nil (SQ.roundb (X := Int) (x := (i)) (i + 1) (by exact ⟨(by omega), (by omega), (upto_nx q_2 (dec_p (Classical.byContradiction fun h2_ => h6 h2_)))⟩) (by show (_ : Nat) < _; omega) (Sub.get (.c rfl (.c rfl (.c rfl .n)))) (fun w hw => hw.keep (.c .h .n))))))))
 refine .exit idQ (.seq (.seq (.region (.a rfl rfl rfl (.go idQ ?_)))))
 refine .block ?_
 refine .loop (X := Int) (fun k => 0 ≤ k ∧ k ≤ (p.jobs.length : Int) ∧ (∀ j : Int, 0 ≤ j → j < k → JobOk p.dims p.tn (gt p.jobs j))) (fun k => [(1, .pointer (some ⟨b1, 0, none⟩)), (3, .int .i64 p.tn), (4, .int .i64 i), (5, .int .i64 k)]) (fun k => [cel b1 [.int .i64 p.dims, .int .i64 p.tn, .slice p.ptA p.time.length p.ptc, .int .i64 p.dn, .slice p.pdA p.dist.length p.pdc, .slice p.pvA p.vehs.length p.pvc, .slice p.pjA p.jobs.length p.pjc, .slice p.psA p.ships.length p.psc] 29]) (fun _ => S) (fun _ => wf) (fun k => ((p.jobs.length : Int) - k).toNat) (fun a_ w_ hs_ hw_ => ⟨0, (by exact ⟨(by omega), (by omega), (fun j h0_ h1_ => by omega)⟩), hs_.mono (Sub.get (.c4 rfl rfl rfl rfl .n)), hw_.keep (.c .h .n)⟩) (fun k ⟨r_0, r_1, r_2⟩ => ?_)
 try dsimp only
 refine .seq (.seq (.region (.m rfl rfl rfl (.v (ev_fa rfl fo29_4 rfl (r := 6) rfl) rfl (.v (ev_ld1 rfl ty26 rfl (At.own1 0 rfl rfl)) rfl ?_)))))
 refine .v (ev_len rfl Try.underlying26 rfl) rfl (.v (ev_cmp rfl rfl rfl rfl) rfl (.go idQ (.condI rfl bD (fun h7 => ?_) (fun h7 => ?_))))
 ·
  refine .skipgo idQ (.seq (.block (.seq (.region (.v (ev_fa rfl fo29_4 rfl (r := 6) rfl) rfl ?_)))))
  refine .v (ev_ld1 rfl ty26 rfl (At.own1 0 rfl rfl)) rfl (.m rfl rfl rfl (.v (ev_ix rfl Try.underlying26 ty83 rfl rfl (by omega) (by omega) (fun _ _ => Fr.adr (i := k) hPB.2.2.2.1.1 (by omega) (by omega))) rfl (.v (ev_lda rfl rfl (At.w (Fr.el (i := k) hPB.2.2.2.1.1 (by omega) (by omega))) ty83) rfl (.cons (st_alloc rfl rfl rfl rfl zf83 (fun b8 => .cons (st_storea (l' := [.int .i64 (((gt p.jobs k).so).pl), .int .i64 (((gt p.jobs k).so).srv), .slice (((gt p.jobs k).so).soA) (((gt p.jobs k).so).sws.length) (((gt p.jobs k).so).soc), .slice ((gt p.jobs k).jdA) ((gt p.jobs k).drop.length) ((gt p.jobs k).jdc), .slice ((gt p.jobs k).jkA) ((gt p.jobs k).pick.length) ((gt p.jobs k).jkc), .int .u64 ((gt p.jobs k).jsk), .int .i64 ((gt p.jobs k).jpr)]) rfl rfl rfl ty83 rfl rfl rfl .h rfl rfl ?_)))))))
  refine .go idQ (.seq (.region (.v (ev_fa rfl fo83_0 rfl (r := 0) rfl) rfl (.v (ev_lda (cs := [.int .i64 (((gt p.jobs k).so).pl), .int .i64 (((gt p.jobs k).so).srv), .slice (((gt p.jobs k).so).soA) (((gt p.jobs k).so).sws.length) (((gt p.jobs k).so).soc)]) rfl rfl (At.own 0 rfl rfl) ty81) rfl (.m rfl rfl rfl ?_)))))
  refine .cons (st_callk rfl rfl rfl rfl hbd57 rfl .n (rstopc_ ((gt p.jobs k).so) p.tn _ _ ((hPB.2.2.2.1.2 k).2.2) (by omega)) (.v (ev_not rfl rfl) rfl (.m rfl rfl rfl (.w (fun _ => ev_fa rfl fo83_1 rfl (r := 3) rfl) rfl (.w (fun hb => ev_ld1 rfl ty22 (lkg rfl hb) (At.own1 0 rfl rfl)) rfl (.w (fun _ => ev_fa rfl fo29_0 rfl (r := 0) rfl) rfl ?_))))))
  refine .w (fun hb => ev_ld1 rfl ty3 (lkg rfl hb) (At.own1 1 rfl rfl)) rfl (.cons (st_gcallk rfl rfl rfl rfl rfl rfl hbd58 (fun hb => (lkA1 (lkg rfl hb) (lkA1 (lkg rfl hb) lkA0))) .n (fun hb => have hp := bF (bN bV) hb; rchk_ ((gt p.jobs k).jdA) ((gt p.jobs k).jdc) ((gt p.jobs k).drop) p.dims _ _ ((hPB.2.2.2.1.2 k).1)) (.w (fun hb => ev_cmp rfl (lkg rfl hb) rfl rfl) rfl (.v (ev_or rfl rfl rfl rfl) rfl (.m rfl rfl rfl (.w (fun _ => ev_fa rfl fo83_2 rfl (r := 4) rfl) rfl ?_))))))
  refine .w (fun hb => ev_ld1 rfl ty22 (lkg rfl hb) (At.own1 0 rfl rfl)) rfl (.w (fun _ => ev_fa rfl fo29_0 rfl (r := 0) rfl) rfl (.w (fun hb => ev_ld1 rfl ty3 (lkg rfl hb) (At.own1 1 rfl rfl)) rfl (.cons (st_gcallk rfl rfl rfl rfl rfl rfl hbd58 (fun hb => (lkA1 (lkg rfl hb) (lkA1 (lkg rfl hb) lkA0))) .n (fun hb => have hp := bF (bO (bN bV) bNE) hb; rchk_ ((gt p.jobs k).jkA) ((gt p.jobs k).jkc) ((gt p.jobs k).pick) p.dims _ _ ((hPB.2.2.2.1.2 k).2.1)) (.w (fun hb => ev_cmp rfl (lkg rfl hb) rfl rfl) rfl (.v (ev_or rfl rfl rfl rfl) rfl ?_))))))
  refine .m rfl rfl rfl (.w (fun _ => ev_fa rfl fo83_3 rfl (r := 5) rfl) rfl (.w (fun hb => ev_ld1 rfl ty65 (lkg rfl hb) (At.own1 0 rfl rfl)) rfl (.w (fun hb => ev_cmp rfl (lkg rfl hb) rfl rfl) rfl (.v (ev_or rfl rfl rfl rfl) rfl (.m rfl rfl rfl ?_)))))
  refine .w (fun _ => ev_fa rfl fo83_4 rfl (r := 6) rfl) rfl (.w (fun hb => ev_ld1 rfl ty3 (lkg rfl hb) (At.own1 0 rfl rfl)) rfl (.cons (st_gcallk rfl rfl rfl rfl rfl rfl hbd54 (fun hb => (lkA1 (lkg rfl hb) (lkA1 rfl lkA0))) .n (fun hb => have hp := bF (bO (bO (bO (bN bV) bNE) bNE) bD) hb; up_ ((gt p.jobs k).jpr) 100 _ _) (.w (fun hb => ev_not rfl (lkg rfl hb)) rfl (.v (ev_or rfl rfl rfl rfl) rfl (.go idQ ?_))))))
  refine .condI rfl (bO (bO (bO (bO (bN bV) bNE) bNE) bD) (bN (bA bD bD))) (fun h9 => ?_) (fun h9 => ?_)
  ·
   exact .seq (.region (.a rfl rfl rfl (.go idQ (.ret idQ (ret1 Try.results39 rfl .n ⟨2, (fun h_ => by omega), rfl, rfl⟩)))))
  exact .skipgo idQ (.region (.m rfl rfl rfl (.v (ev_add rfl rfl rfl (r := (k + 1)) rfl (by omega) (by omega)) rfl (.a rfl rfl rfl (SP.nil (SQ.roundb (X := Int) (x := (k)) (k + 1) (by exact ⟨(by omega), (by omega), (upto_nx r_2 (job_of h9 (hU.j k)))⟩) (by show (_ : Nat) < _; omega) (Sub.get (.c4 rfl rfl rfl rfl .n)) (fun w hw => hw.keep (.c (.t .h) .n))))))))
 refine .exit idQ (.seq (.seq (.region (.a rfl rfl rfl (.go idQ ?_)))))
 refine .block ?_
 refine .loop (X := Int) (fun m => 0 ≤ m ∧ m ≤ (p.ships.length : Int) ∧ (∀ j : Int, 0 ≤ j → j < m → ShipOk p.dims p.tn (gt p.ships j))) (fun m => [(1, .pointer (some ⟨b1, 0, none⟩)), (3, .int .i64 p.tn), (4, .int .i64 i), (5, .int .i64 k), (7, .int .i64 m)]) (fun m => [cel b1 [.int .i64 p.dims, .int .i64 p.tn, .slice p.ptA p.time.length p.ptc, .int .i64 p.dn, .slice p.pdA p.dist.length p.pdc, .slice p.pvA p.vehs.length p.pvc, .slice p.pjA p.jobs.length p.pjc, .slice p.psA p.ships.length p.psc] 29]) (fun _ => S) (fun _ => wf) (fun m => ((p.ships.length : Int) - m).toNat) (fun a_ w_ hs_ hw_ => ⟨0, (by exact ⟨(by omega), (by omega), (fun j h0_ h1_ => by omega)⟩), hs_.mono (Sub.get (.c4 rfl rfl rfl rfl (.c rfl .n))), hw_.keep (.c .h .n)⟩) (fun m ⟨s_0, s_1, s_2⟩ => ?_)
 try dsimp only
 refine .seq (.seq (.region (.m rfl rfl rfl (.v (ev_fa rfl fo29_5 rfl (r := 7) rfl) rfl (.v (ev_ld1 rfl ty27 rfl (At.own1 0 rfl rfl)) rfl ?_)))))
 refine .v (ev_len rfl Try.underlying27 rfl) rfl (.v (ev_cmp rfl rfl rfl rfl) rfl (.go idQ (.condI rfl bD (fun h10 => ?_) (fun h10 => ?_))))
 ·
  refine .skipgo idQ (.seq (.block (.seq (.region (.v (ev_fa rfl fo29_5 rfl (r := 7) rfl) rfl ?_)))))
  refine .v (ev_ld1 rfl ty27 rfl (At.own1 0 rfl rfl)) rfl (.m rfl rfl rfl (.v (ev_ix rfl Try.underlying27 ty86 rfl rfl (by omega) (by omega) (fun _ _ => Fr.adr (i := m) hPB.2.2.2.2.1 (by omega) (by omega))) rfl (.v (ev_lda rfl rfl (At.w (Fr.el (i := m) hPB.2.2.2.2.1 (by omega) (by omega))) ty86) rfl (.cons (st_alloc rfl rfl rfl rfl zf86 (fun b11 => .cons (st_storea (l' := [.int .i64 (((gt p.ships m).sp).pl), .int .i64 (((gt p.ships m).sp).srv), .slice (((gt p.ships m).sp).soA) (((gt p.ships m).sp).sws.length) (((gt p.ships m).sp).soc), .int .i64 (((gt p.ships m).sd).pl), .int .i64 (((gt p.ships m).sd).srv), .slice (((gt p.ships m).sd).soA) (((gt p.ships m).sd).sws.length) (((gt p.ships m).sd).soc), .slice ((gt p.ships m).saA) ((gt p.ships m).am.length) ((gt p.ships m).sac), .int .u64 ((gt p.ships m).ssk), .int .i64 ((gt p.ships m).spr)]) rfl rfl rfl ty86 rfl rfl rfl .h rfl rfl ?_)))))))
  refine .go idQ (.seq (.region (.v (ev_fa rfl fo86_0 rfl (r := 0) rfl) rfl (.v (ev_lda (cs := [.int .i64 (((gt p.ships m).sp).pl), .int .i64 (((gt p.ships m).sp).srv), .slice (((gt p.ships m).sp).soA) (((gt p.ships m).sp).sws.length) (((gt p.ships m).sp).soc)]) rfl rfl (At.own 0 rfl rfl) ty81) rfl (.m rfl rfl rfl ?_)))))
  refine .cons (st_callk rfl rfl rfl rfl hbd57 rfl .n (rstopc_ ((gt p.ships m).sp) p.tn _ _ ((hPB.2.2.2.2.2 m).2.1) (by omega)) (.v (ev_not rfl rfl) rfl (.m rfl rfl rfl (.w (fun _ => ev_fa rfl fo86_1 rfl (r := 3) rfl) rfl (.w (fun hb => ev_lda (cs := [.int .i64 (((gt p.ships m).sd).pl), .int .i64 (((gt p.ships m).sd).srv), .slice (((gt p.ships m).sd).soA) (((gt p.ships m).sd).sws.length) (((gt p.ships m).sd).soc)]) rfl (lkg rfl hb) (At.own 0 rfl rfl) ty81) rfl (.w (fun _ => ev_mv rfl rfl) rfl ?_))))))
  refine .cons (st_gcallk rfl rfl rfl rfl rfl rfl hbd57 (fun hb => (lkA1 (lkg rfl hb) (lkA1 (lkg rfl hb) lkA0))) .n (fun hb => have hp := bF (bN bV) hb; rstopc_ ((gt p.ships m).sd) p.tn _ _ ((hPB.2.2.2.2.2 m).2.2) (by omega)) (.w (fun hb => ev_not rfl (lkg rfl hb)) rfl (.v (ev_or rfl rfl rfl rfl) rfl (.m rfl rfl rfl (.w (fun _ => ev_fa rfl fo86_2 rfl (r := 6) rfl) rfl (.w (fun hb => ev_ld1 rfl ty22 (lkg rfl hb) (At.own1 0 rfl rfl)) rfl ?_))))))
  refine .w (fun _ => ev_fa rfl fo29_0 rfl (r := 0) rfl) rfl (.w (fun hb => ev_ld1 rfl ty3 (lkg rfl hb) (At.own1 1 rfl rfl)) rfl (.cons (st_gcallk rfl rfl rfl rfl rfl rfl hbd58 (fun hb => (lkA1 (lkg rfl hb) (lkA1 (lkg rfl hb) lkA0))) .n (fun hb => have hp := bF (bO (bN bV) (bN bV)) hb; rchk_ ((gt p.ships m).saA) ((gt p.ships m).sac) ((gt p.ships m).am) p.dims _ _ ((hPB.2.2.2.2.2 m).1)) (.w (fun hb => ev_cmp rfl (lkg rfl hb) rfl rfl) rfl (.v (ev_or rfl rfl rfl rfl) rfl (.m rfl rfl rfl ?_))))))
  refine .w (fun _ => ev_fa rfl fo86_3 rfl (r := 7) rfl) rfl (.w (fun hb => ev_ld1 rfl ty65 (lkg rfl hb) (At.own1 0 rfl rfl)) rfl (.w (fun hb => ev_cmp rfl (lkg rfl hb) rfl rfl) rfl (.v (ev_or rfl rfl rfl rfl) rfl (.m rfl rfl rfl (.w (fun _ => ev_fa rfl fo86_4 rfl (r := 8) rfl) rfl ?_)))))
  refine .w (fun hb => ev_ld1 rfl ty3 (lkg rfl hb) (At.own1 0 rfl rfl)) rfl (.cons (st_gcallk rfl rfl rfl rfl rfl rfl hbd54 (fun hb => (lkA1 (lkg rfl hb) (lkA1 rfl lkA0))) .n (fun hb => have hp := bF (bO (bO (bO (bN bV) (bN bV)) bNE) bD) hb; up_ ((gt p.ships m).spr) 100 _ _) (.w (fun hb => ev_not rfl (lkg rfl hb)) rfl (.v (ev_or rfl rfl rfl rfl) rfl (.go idQ (.condI rfl (bO (bO (bO (bO (bN bV) (bN bV)) bNE) bD) (bN (bA bD bD))) (fun h12 => ?_) (fun h12 => ?_)))))))
  ·
   exact .seq (.region (.a rfl rfl rfl (.go idQ (.ret idQ (ret1 Try.results39 rfl .n ⟨2, (fun h_ => by omega), rfl, rfl⟩)))))
  exact .skipgo idQ (.region (.m rfl rfl rfl (.v (ev_add rfl rfl rfl (r := (m + 1)) rfl (by omega) (by omega)) rfl (.a rfl rfl rfl (SP.nil (SQ.roundb (X := Int) (x := (m)) (m + 1) (by exact ⟨(by omega), (by omega), (upto_nx s_2 (ship_of h12 (hU.s m)))⟩) (by show (_ : Nat) < _; omega) (Sub.get (.c4 rfl rfl rfl rfl (.c rfl .n))) (fun w hw => hw.keep (.c (.t .h) .n))))))))
 exact .exit idQ (.seq (.region (.a rfl rfl rfl (.go idQ (.ret idQ (ret1 Try.results39 rfl .n ⟨0, (fun _ => law_of hM hN.1 hN.2 (by rw [← show i = (p.vehs.length : Int) from by omega]; exact q_2) (by rw [← show k = (p.jobs.length : Int) from by omega]; exact r_2) (by rw [← show m = (p.ships.length : Int) from by omega]; exact s_2)), rfl, rfl⟩))))))
theorem lawful_ (p : PB) (S : Nat → Prop) (wf : World) (hPB : PBF S wf p) (hU : SkU p) :
  TR0 Try.prog 25 [.agg #[.int .i64 p.dims, .int .i64 p.tn, .slice p.ptA p.time.length p.ptc, .int .i64 p.dn, .slice p.pdA p.dist.length p.pdc, .slice p.pvA p.vehs.length p.pvc, .slice p.pjA p.jobs.length p.pjc, .slice p.psA p.ships.length p.psc]] [] S wf (fun v_ C_ => ∃ (b : Bool), (b = true → LawP p) ∧ v_ = .bool b ∧ C_ = []) := by
 refine TR.mk Try.func25 rfl Try.ntmps25 rfl rfl (fun w_ => ?_)
 refine .seq (.region (.cons (st_boxa rfl rfl rfl rfl rfl (fun b1 => .a rfl rfl rfl (.go idQ (.seq ?_))))))
 refine .region (.v (ev_lda rfl rfl (At.whole 0 rfl) ty29) rfl (.cons (st_call00 rfl rfl rfl rfl hbd39 rfl .n (rcheck_ p _ _ hPB hU) (by intro v C h; obtain ⟨_, _, rfl, rfl⟩ := h; rfl) (fun v_q3 q3 => ?_))))
 obtain ⟨e2, p4, rfl, -⟩ := q3
 exact .v (ev_cmp rfl rfl rfl rfl) rfl (.a rfl rfl rfl (.go idQ (.ret idQ (ret1 Try.results25 rfl .n ⟨(e2 == 0), (fun h_ => p4 (by simpa using h_)), rfl, rfl⟩))))
theorem small_ (p : PB) (S : Nat → Prop) (wf : World) (hPB : PBF S wf p) (hU : SkU p) :
  TR0 Try.prog 8 [.agg #[.int .i64 p.dims, .int .i64 p.tn, .slice p.ptA p.time.length p.ptc, .int .i64 p.dn, .slice p.pdA p.dist.length p.pdc, .slice p.pvA p.vehs.length p.pvc, .slice p.pjA p.jobs.length p.pjc, .slice p.psA p.ships.length p.psc]] [] S wf (fun v_ C_ => ∃ (b : Bool), (b = true → LawP p ∧ (p.jobs.length : Int) + 2 * p.ships.length ≤ 7) ∧ v_ = .bool b ∧ C_ = []) := by
 have hlj := hPB.2.2.2.1.1.len
 have hls := hPB.2.2.2.2.1.len
 refine TR.mk Try.func8 rfl Try.ntmps8 rfl rfl (fun w_ => ?_)
 refine .seq (.region (.cons (st_boxa rfl rfl rfl rfl rfl (fun b1 => .a rfl rfl rfl (.go idQ (.seq ?_))))))
 refine .region (.v (ev_lda rfl rfl (At.whole 0 rfl) ty29) rfl (.cons (st_call00 rfl rfl rfl rfl hbd25 rfl .n (lawful_ p _ _ hPB hU) (by intro v C h; obtain ⟨_, _, rfl, rfl⟩ := h; rfl) (fun v_q3 q3 => ?_))))
 obtain ⟨b2, p4, rfl, -⟩ := q3
 refine .m rfl rfl rfl (.w (fun _ => ev_fa rfl fo29_4 rfl (r := 6) rfl) rfl (.w (fun hb => ev_ld1 rfl ty26 (lkg rfl hb) (At.own1 0 rfl rfl)) rfl (.w (fun hb => ev_len rfl Try.underlying26 (lkg rfl hb)) rfl (.w (fun _ => ev_fa rfl fo29_5 rfl (r := 7) rfl) rfl (.w (fun hb => ev_ld1 rfl ty27 (lkg rfl hb) (At.own1 0 rfl rfl)) rfl ?_)))))
 refine .w (fun hb => ev_len rfl Try.underlying27 (lkg rfl hb)) rfl (.w (fun hb => have hp := bT bV hb; ev_mul rfl rfl (lkg rfl hb) (r := (2 * (p.ships.length : Int))) rfl (by have _h := hp; omega) (by have _h := hp; omega)) rfl (.w (fun hb => have hp := bT bV hb; ev_add rfl (lkg rfl hb) (lkg rfl hb) (r := ((p.jobs.length : Int) + (2 * (p.ships.length : Int)))) rfl (by have _h := hp; omega) (by have _h := hp; omega)) rfl (.w (fun hb => ev_cmp rfl (lkg rfl hb) rfl rfl) rfl (.v (ev_and rfl rfl rfl rfl) rfl (.a rfl rfl rfl ?_)))))
 exact .go idQ (.ret idQ (ret1 Try.results8 rfl .n ⟨(b2 && (decide (((p.jobs.length : Int) + (2 * (p.ships.length : Int))) ≤ 7))), (fun h_ => by rw [Bool.and_eq_true] at h_; exact ⟨p4 h_.1, by have := of_decide_eq_true h_.2; omega⟩), rfl, rfl⟩))
end Go.Proofs.Ytdpmnodiebpjeaa.Sx
set_option maxRecDepth 20000
set_option maxHeartbeats 1000000
namespace Go.Proofs.Ytdpmnodiebpjeaa.Sx.FQ
open Go Go.SX Go.Proofs
theorem zf29 : (Try.prog.info? 29).bind (fun i => i.zero.map Value.cells) = some (List.toArray [.int .i64 0, .int .i64 0, .slice none 0 0, .int .i64 0, .slice none 0 0, .slice none 0 0, .slice none 0 0, .slice none 0 0]) := by kernel_rfl
theorem zf24 : (Try.prog.info? 24).bind (fun i => i.zero.map Value.cells) = some (List.toArray [.int .i64 0, .slice none 0 0]) := by kernel_rfl
theorem ty24 : ty Try.prog 24 = some (true, 2) := by kernel_rfl
theorem ty72 : ty Try.prog 72 = some (true, 2) := by kernel_rfl
theorem ty29 : ty Try.prog 29 = some (true, 8) := by kernel_rfl
theorem mo : Try.prog.follows .mixedOrders = true := by kernel_rfl
theorem hbd24 : hasBody Try.prog 24 = true := by kernel_rfl
theorem hbd10 : hasBody Try.prog 10 = true := by kernel_rfl
theorem zf35 : (Try.prog.info? 35).bind (fun i => i.zero.map Value.cells) = some (List.toArray [.slice none 0 0]) := by kernel_rfl
theorem ty35 : ty Try.prog 35 = some (true, 1) := by kernel_rfl
theorem fo35_0 : fo Try.prog 35 0 = some 0 := by kernel_rfl
theorem ty33 : ty Try.prog 33 = some (false, 1) := by kernel_rfl
theorem ty43 : ty Try.prog 43 = some (true, 2) := by kernel_rfl
theorem fo43_1 : fo Try.prog 43 1 = some 1 := by kernel_rfl
theorem ty41 : ty Try.prog 41 = some (false, 1) := by kernel_rfl
theorem hbd18 : hasBody Try.prog 18 = true := by kernel_rfl
end Go.Proofs.Ytdpmnodiebpjeaa.Sx.FQ
namespace Go.Proofs.Ytdpmnodiebpjeaa.Sx
open Go Go.SX Go.Proofs FQ
theorem line_ (S : Nat → Prop) (wf : World) :
  TR Try.prog 24 [] [] S wf (fun v_ C_ S_ wf_ => (∃ (q : PB), (PBF S_ wf_ q) ∧ (era q = lineP) ∧ v_ = .agg #[.int .i64 q.dims, .int .i64 q.tn, .slice q.ptA q.time.length q.ptc, .int .i64 q.dn, .slice q.pdA q.dist.length q.pdc, .slice q.pvA q.vehs.length q.pvc, .slice q.pjA q.jobs.length q.pjc, .slice q.psA q.ships.length q.psc]) ∧ C_ = []) := by
 refine TR.mk Try.func24 rfl Try.ntmps24 rfl rfl (fun w_ => ?_)
 refine .seq (.region (.cons (st_alloc rfl rfl rfl rfl zf29 (fun b1 => .go idQ (.seq (.region ?_))))))
 refine .cons (st_lit eZ (e := 3) (l := [0, 10, 10, 0]) rfl rfl rfl rfl (by kernel_rfl) rfl rfl (fun w => by kernel_rfl) (fun b2 => .v (ev_any (v := .agg #[.int .i64 2, .slice (some ⟨b2, 0, none⟩) 4 4]) rfl (by kernel_rfl) (fun _ => by kernel_rfl)) rfl (.cons (st_alloc rfl rfl rfl rfl zf24 (fun b3 => .cons (st_storea (l' := [.int .i64 2, .slice (some ⟨b2, 0, none⟩) 4 4]) rfl rfl rfl ty24 rfl rfl rfl .h rfl rfl (.go idQ (.seq ?_))))))))
 refine .region (.v (ev_any (v := .agg #[.int .i64 0, .int .i64 1000000]) rfl (by kernel_rfl) (fun _ => by kernel_rfl)) rfl (.cons (st_lit eWN (e := 72) (l := [(WN.mk 0 1000000)]) rfl rfl rfl rfl (by kernel_rfl) rfl rfl (fun w => by kernel_rfl) (fun b4 => .a rfl rfl rfl (.go idQ (.seq ?_))))))
 have hw1 : ([(WN.mk 0 1000000)] : List WN).length = 1 := rfl
 refine SC.draw mo [cel b1 [.int .i64 0, .int .i64 0, .slice none 0 0, .int .i64 0, .slice none 0 0, .slice none 0 0, .slice none 0 0, .slice none 0 0] 29] [] (.c (.t (.t (.t .h))) .n) (fun _ _ _ => sc0) (fun wf_5 hl_5 hx_5 hR_5 => ?_)
 refine SR.z 0 rfl rfl (ev_lda (cs := [.int .i64 2, .slice (some ⟨b2, 0, none⟩) 4 4]) rfl rfl (At.d (At.lent hR_5 1 rfl rfl)) ty24) (SR.z 1 rfl rfl (ev_lda (cs := [.int .i64 2, .slice (some ⟨b2, 0, none⟩) 4 4]) rfl rfl (At.d (At.lent hR_5 1 rfl rfl)) ty24) (SR.m 2 rfl rfl rfl rfl (SR.z 3 rfl rfl (ev_ix rfl Try.underlying76 ty72 rfl rfl (by omega) (by omega) (fun _ _ => Fr.adr (i := 0) (Fr.lent (S := S) hR_5 0 rfl (by first | omega | simp only [LL] <;> omega | simp <;> omega)) (by omega) (by omega))) (SR.z 4 rfl rfl (ev_lda rfl rfl (At.d (Fr.el (i := 0) (Fr.lent (S := S) hR_5 0 rfl (by first | omega | simp only [LL] <;> omega | simp <;> omega)) (by omega) (by omega))) ty72) (SR.z 5 rfl rfl (ev_any (v := .agg #[.int .i64 0, .int .i64 0, .slice none 0 0, .int .u64 0, .int .i64 ((gt [(WN.mk 0 1000000)] 0).lo), .int .i64 ((gt [(WN.mk 0 1000000)] 0).hi), .int .i64 0, .int .i64 1, .int .i64 0, .int .i64 12, .slice none 0 0]) rfl (by kernel_rfl) (fun _ => by kernel_rfl)) ?_)))))
 refine SR.m 7 rfl rfl rfl rfl (SR.z 8 rfl rfl (ev_any (v := .agg #[.int .i64 1, .int .i64 5, .slice (some ⟨b4, 0, none⟩) 1 1]) rfl (by kernel_rfl) (fun _ => by kernel_rfl)) (SR.z 9 rfl rfl (ev_any (v := .agg #[.int .i64 1, .int .i64 5, .slice (some ⟨b4, 0, none⟩) 1 1, .slice none 0 0, .slice none 0 0, .int .u64 0, .int .i64 1]) rfl (by kernel_rfl) (fun _ => by kernel_rfl)) (SR.m 10 rfl rfl rfl rfl (SR.z 11 rfl rfl (ev_any (v := .agg #[.int .i64 1, .int .i64 0, .slice (some ⟨b4, 0, none⟩) 1 1]) rfl (by kernel_rfl) (fun _ => by kernel_rfl)) (SR.z 12 rfl rfl (ev_any (v := .agg #[.int .i64 1, .int .i64 0, .slice (some ⟨b4, 0, none⟩) 1 1, .slice none 0 0, .slice none 0 0, .int .u64 0, .int .i64 5]) rfl (by kernel_rfl) (fun _ => by kernel_rfl)) ?_)))))
 refine SR.two (i := 6) (j := 13) (by kernel_rfl) ⟨_, rfl, ?_⟩ ⟨_, rfl, ?_⟩
 ·
  refine st_lit eVH (e := 75) (l := [(VH.mk 0 0 [] 0 ((gt [(WN.mk 0 1000000)] 0).lo) ((gt [(WN.mk 0 1000000)] 0).hi) 0 1 0 12 [] none 0 none 0)]) rfl rfl rfl rfl (by kernel_rfl) rfl rfl (fun w => by kernel_rfl) (fun b6 => ⟨tt0, (SR.o 13 rfl (st_lit eJB (e := 83) (l := [(JB.mk (SO.mk 1 5 [(WN.mk 0 1000000)] (some ⟨b4, 0, none⟩) 1) [] [] 0 1 none 0 none 0), (JB.mk (SO.mk 1 0 [(WN.mk 0 1000000)] (some ⟨b4, 0, none⟩) 1) [] [] 0 5 none 0 none 0)]) rfl rfl rfl rfl (by kernel_rfl) rfl rfl (fun w => by kernel_rfl) (fun b7 => ⟨tt0, (SR.z 14 rfl rfl (ev_any (v := .agg #[.int .i64 0, .int .i64 2, .slice (some ⟨b2, 0, none⟩) 4 4, .int .i64 2, .slice (some ⟨b2, 0, none⟩) 4 4, .slice (some ⟨b6, 0, none⟩) 1 1, .slice (some ⟨b7, 0, none⟩) 2 2, .slice none 0 0]) rfl (by kernel_rfl) (fun _ => by kernel_rfl)) (SR.o 15 rfl (st_storea (l' := [.int .i64 0, .int .i64 2, .slice (some ⟨b2, 0, none⟩) 4 4, .int .i64 2, .slice (some ⟨b2, 0, none⟩) 4 4, .slice (some ⟨b6, 0, none⟩) 1 1, .slice (some ⟨b7, 0, none⟩) 2 2, .slice none 0 0]) rfl rfl rfl ty29 rfl rfl rfl (.t (.t .h)) rfl rfl ⟨tt0, (SR.fin (by kernel_rfl) hl_5 hx_5 hR_5 (.c (.c (.c .n))) (SQ.go idQ ?_))⟩)))⟩)))⟩)
  refine SC.freeze (R := [rw_ eJB 83 (.slice (some ⟨b7, 0, none⟩) 2 2) [(JB.mk (SO.mk 1 5 [(WN.mk 0 1000000)] (some ⟨b4, 0, none⟩) 1) [] [] 0 1 none 0 none 0), (JB.mk (SO.mk 1 0 [(WN.mk 0 1000000)] (some ⟨b4, 0, none⟩) 1) [] [] 0 5 none 0 none 0)], rw_ eVH 75 (.slice (some ⟨b6, 0, none⟩) 1 1) [(VH.mk 0 0 [] 0 ((gt [(WN.mk 0 1000000)] 0).lo) ((gt [(WN.mk 0 1000000)] 0).hi) 0 1 0 12 [] none 0 none 0)], rw_ eWN 72 (.slice (some ⟨b4, 0, none⟩) 1 1) [(WN.mk 0 1000000)], rw_ eZ 3 (.slice (some ⟨b2, 0, none⟩) 4 4) [0, 10, 10, 0]]) (.c (.t .h) (.c (.t .h) (.c (.t .h) (.c (.t (.t .h)) .n)))) (fun Sz8 wfz8 hxz8 hhz8 hsz8 => ?_)
  have hfz8_0 := Fr.of_row (hhz8 _ (by simp)) (fun b hb => hsz8 b (feet_of 0 rfl hb)) (by first | omega | simp only [LL] <;> omega | simp <;> omega)
  have hfz8_1 := Fr.of_row (hhz8 _ (by simp)) (fun b hb => hsz8 b (feet_of 1 rfl hb)) (by first | omega | simp only [LL] <;> omega | simp <;> omega)
  have hfz8_2 := Fr.of_row (hhz8 _ (by simp)) (fun b hb => hsz8 b (feet_of 2 rfl hb)) (by first | omega | simp only [LL] <;> omega | simp <;> omega)
  have hfz8_3 := Fr.of_row (hhz8 _ (by simp)) (fun b hb => hsz8 b (feet_of 3 rfl hb)) (by first | omega | simp only [LL] <;> omega | simp <;> omega)
  exact .ret idQ (retz1 Try.results24 (.c 0 rfl rfl ty29) hxz8 ⟨⟨(PB.mk 0 2 [0, 10, 10, 0] 2 [0, 10, 10, 0] [(VH.mk 0 0 [] 0 ((gt [(WN.mk 0 1000000)] 0).lo) ((gt [(WN.mk 0 1000000)] 0).hi) 0 1 0 12 [] none 0 none 0)] [(JB.mk (SO.mk 1 5 [(WN.mk 0 1000000)] (some ⟨b4, 0, none⟩) 1) [] [] 0 1 none 0 none 0), (JB.mk (SO.mk 1 0 [(WN.mk 0 1000000)] (some ⟨b4, 0, none⟩) 1) [] [] 0 5 none 0 none 0)] [] (some ⟨b2, 0, none⟩) 4 (some ⟨b2, 0, none⟩) 4 (some ⟨b6, 0, none⟩) 1 (some ⟨b7, 0, none⟩) 2 none 0), ⟨hfz8_3, hfz8_3, ⟨hfz8_1, one_all (Φ := VHF _ _) ⟨Fr.nil _ _ _ _, Fr.nil _ _ _ _, fun i => by rw [gt_none]; exact Fr.nil _ _ _ _⟩ VHF.dflt⟩, ⟨hfz8_0, two_all (Φ := JBF _ _) ⟨Fr.nil _ _ _ _, Fr.nil _ _ _ _, hfz8_2⟩ ⟨Fr.nil _ _ _ _, Fr.nil _ _ _ _, hfz8_2⟩ JBF.dflt⟩, ⟨Fr.nil _ _ _ _, fun i => by rw [gt_none]; exact SHF.dflt⟩⟩, rfl, rfl⟩, rfl⟩)
 refine st_lit eJB (e := 83) (l := [(JB.mk (SO.mk 1 5 [(WN.mk 0 1000000)] (some ⟨b4, 0, none⟩) 1) [] [] 0 1 none 0 none 0), (JB.mk (SO.mk 1 0 [(WN.mk 0 1000000)] (some ⟨b4, 0, none⟩) 1) [] [] 0 5 none 0 none 0)]) rfl rfl rfl rfl (by kernel_rfl) rfl rfl (fun w => by kernel_rfl) (fun b9 => ⟨tt0, (SR.o 6 rfl (st_lit eVH (e := 75) (l := [(VH.mk 0 0 [] 0 ((gt [(WN.mk 0 1000000)] 0).lo) ((gt [(WN.mk 0 1000000)] 0).hi) 0 1 0 12 [] none 0 none 0)]) rfl rfl rfl rfl (by kernel_rfl) rfl rfl (fun w => by kernel_rfl) (fun b10 => ⟨tt0, (SR.z 14 rfl rfl (ev_any (v := .agg #[.int .i64 0, .int .i64 2, .slice (some ⟨b2, 0, none⟩) 4 4, .int .i64 2, .slice (some ⟨b2, 0, none⟩) 4 4, .slice (some ⟨b10, 0, none⟩) 1 1, .slice (some ⟨b9, 0, none⟩) 2 2, .slice none 0 0]) rfl (by kernel_rfl) (fun _ => by kernel_rfl)) (SR.o 15 rfl (st_storea (l' := [.int .i64 0, .int .i64 2, .slice (some ⟨b2, 0, none⟩) 4 4, .int .i64 2, .slice (some ⟨b2, 0, none⟩) 4 4, .slice (some ⟨b10, 0, none⟩) 1 1, .slice (some ⟨b9, 0, none⟩) 2 2, .slice none 0 0]) rfl rfl rfl ty29 rfl rfl rfl (.t (.t .h)) rfl rfl ⟨tt0, (SR.fin (by kernel_rfl) hl_5 hx_5 hR_5 (.c (.c (.c .n))) (SQ.go idQ ?_))⟩)))⟩)))⟩)
 refine SC.freeze (R := [rw_ eVH 75 (.slice (some ⟨b10, 0, none⟩) 1 1) [(VH.mk 0 0 [] 0 ((gt [(WN.mk 0 1000000)] 0).lo) ((gt [(WN.mk 0 1000000)] 0).hi) 0 1 0 12 [] none 0 none 0)], rw_ eJB 83 (.slice (some ⟨b9, 0, none⟩) 2 2) [(JB.mk (SO.mk 1 5 [(WN.mk 0 1000000)] (some ⟨b4, 0, none⟩) 1) [] [] 0 1 none 0 none 0), (JB.mk (SO.mk 1 0 [(WN.mk 0 1000000)] (some ⟨b4, 0, none⟩) 1) [] [] 0 5 none 0 none 0)], rw_ eWN 72 (.slice (some ⟨b4, 0, none⟩) 1 1) [(WN.mk 0 1000000)], rw_ eZ 3 (.slice (some ⟨b2, 0, none⟩) 4 4) [0, 10, 10, 0]]) (.c (.t .h) (.c (.t .h) (.c (.t .h) (.c (.t (.t .h)) .n)))) (fun Sz11 wfz11 hxz11 hhz11 hsz11 => ?_)
 have hfz11_0 := Fr.of_row (hhz11 _ (by simp)) (fun b hb => hsz11 b (feet_of 0 rfl hb)) (by first | omega | simp only [LL] <;> omega | simp <;> omega)
 have hfz11_1 := Fr.of_row (hhz11 _ (by simp)) (fun b hb => hsz11 b (feet_of 1 rfl hb)) (by first | omega | simp only [LL] <;> omega | simp <;> omega)
 have hfz11_2 := Fr.of_row (hhz11 _ (by simp)) (fun b hb => hsz11 b (feet_of 2 rfl hb)) (by first | omega | simp only [LL] <;> omega | simp <;> omega)
 have hfz11_3 := Fr.of_row (hhz11 _ (by simp)) (fun b hb => hsz11 b (feet_of 3 rfl hb)) (by first | omega | simp only [LL] <;> omega | simp <;> omega)
 exact .ret idQ (retz1 Try.results24 (.c 0 rfl rfl ty29) hxz11 ⟨⟨(PB.mk 0 2 [0, 10, 10, 0] 2 [0, 10, 10, 0] [(VH.mk 0 0 [] 0 ((gt [(WN.mk 0 1000000)] 0).lo) ((gt [(WN.mk 0 1000000)] 0).hi) 0 1 0 12 [] none 0 none 0)] [(JB.mk (SO.mk 1 5 [(WN.mk 0 1000000)] (some ⟨b4, 0, none⟩) 1) [] [] 0 1 none 0 none 0), (JB.mk (SO.mk 1 0 [(WN.mk 0 1000000)] (some ⟨b4, 0, none⟩) 1) [] [] 0 5 none 0 none 0)] [] (some ⟨b2, 0, none⟩) 4 (some ⟨b2, 0, none⟩) 4 (some ⟨b10, 0, none⟩) 1 (some ⟨b9, 0, none⟩) 2 none 0), ⟨hfz11_3, hfz11_3, ⟨hfz11_0, one_all (Φ := VHF _ _) ⟨Fr.nil _ _ _ _, Fr.nil _ _ _ _, fun i => by rw [gt_none]; exact Fr.nil _ _ _ _⟩ VHF.dflt⟩, ⟨hfz11_1, two_all (Φ := JBF _ _) ⟨Fr.nil _ _ _ _, Fr.nil _ _ _ _, hfz11_2⟩ ⟨Fr.nil _ _ _ _, Fr.nil _ _ _ _, hfz11_2⟩ JBF.dflt⟩, ⟨Fr.nil _ _ _ _, fun i => by rw [gt_none]; exact SHF.dflt⟩⟩, rfl, rfl⟩, rfl⟩)
theorem awake15_ (S : Nat → Prop) (wf : World) :
  TR0 Try.prog 7 [] [] S wf (fun v_ C_ => v_ = .bool true ∧ C_ = []) := by
 refine TR.mk Try.func7 rfl Try.ntmps7 rfl rfl (fun w_ => ?_)
 refine .seq (.region (.a rfl rfl rfl (.go idQ (.seq (.region ?_)))))
 refine .cons (st_call rfl rfl rfl rfl hbd24 rfl .n (line_ _ _) (fun v_q2 C_q2 S_q2 wf_q2 q2 hx_q2 => ?_))
 obtain ⟨⟨q1, p3, p4, rfl⟩, rfl⟩ := q2
 show SP _ _ _ _ _ _ ⟨_, [], _, _⟩
 have hLq : LawP q1 := law_era (p := lineP) p4 line_law
 refine .cons (st_call0 rfl rfl rfl rfl hbd10 rfl .n (sgreedy_ q1 _ _ p3 hLq) (fun v_q7 C_q7 q7 => ?_))
 obtain ⟨u5, R6, p8, rfl, rfl⟩ := q7
 show SP _ _ _ _ _ _ ⟨_, _ :: _ :: _, _, _⟩
 refine .know (row_len 0 rfl) (fun hv11 => ?_)
 obtain ⟨A9, c10, rfl, hv11_1, hv11_2⟩ := hv11
 unfold maxLen at hv11_2
 obtain ⟨hR1, hR2⟩ := awake_ p8 p4
 refine .cons (st_alloc rfl rfl rfl rfl zf35 (fun b12 => .cons (st_storea (l' := [.slice A9 R6.length c10]) rfl rfl rfl ty35 rfl rfl rfl .h rfl rfl (.go idQ (.seq (.region (.v (ev_fa rfl fo35_0 rfl (r := 0) rfl) rfl ?_)))))))
 refine .v (ev_ld1 rfl ty33 rfl (At.own1 0 rfl rfl)) rfl (.v (ev_len rfl Try.underlying33 rfl) rfl (.v (ev_cmp rfl rfl rfl rfl) rfl (.m rfl rfl rfl (.w (fun _ => ev_fa rfl fo35_0 rfl (r := 0) rfl) rfl (.w (fun hb => ev_ld1 rfl ty33 (lkg rfl hb) (At.own1 0 rfl rfl)) rfl ?_)))))
 refine .w (fun hb => have hp := bT bE hb; ev_ix rfl Try.underlying33 ty43 (lkg rfl hb) rfl (by have _h := hp; omega) (by have _h := hp; omega) (row_adr (i := 0) 1 rfl (by have _h := hp; omega) (by have _h := hp; omega))) rfl (.w (fun hb => ev_fa rfl fo43_1 (lkg rfl hb) (r := ao A9 + ((0 : Int)).toNat * 2 + 1) rfl) rfl (.w (fun hb => have hp := bT bE hb; ev_ld1 rfl ty41 (lkg rfl hb) (At.elem1 (row_el (E := eRT) (l := R6) (i := 0) 1 rfl (by have _h := hp; omega) (by have _h := hp; omega)) 1 rfl)) rfl (.w (fun hb => ev_len rfl Try.underlying41 (lkg rfl hb)) rfl (.w (fun hb => ev_cmp rfl (lkg rfl hb) rfl rfl) rfl (.v (ev_and rfl rfl rfl rfl) rfl ?_)))))
 refine .m rfl rfl rfl (.w (fun _ => ev_any (v := .agg #[.bool true, .int .i64 0]) rfl (by kernel_rfl) (fun _ => by kernel_rfl)) rfl ?_)
 rcases Bool.eq_false_or_eq_true (((R6.length : Int) == 1) && ((((gt R6 0).vis.length : Nat) : Int) == 2)) with hb13 | hb13
 ·
  refine SP.reslot (t := 17) rfl hb13 ?_
  have hb13_ := bT (bA bE bE) hb13
  refine .cons (.on rfl rfl rfl (st_call0 rfl rfl rfl rfl hbd18 (lkA1 rfl (lkA1 (lkg rfl hb13) lkA0)) .n (sways_ none 0 ([] : List Vis) (TK.mk true 0) _ _ (Fr.nil _ _ _ _) (by first | omega | simp only [LL] <;> omega | simp <;> omega)) (fun v_q16 C_q16 q16 => ?_)))
  obtain ⟨u14, Y15, p17, rfl, rfl⟩ := q16
  show SP _ _ _ _ _ _ ⟨_, _ :: _ :: _, _, _⟩
  have hY1 : Y15.length = 1 := by have h_ := congrArg List.length p17; rw [List.length_map] at h_; exact h_
  refine .know (row_len 0 rfl) (fun hv20 => ?_)
  obtain ⟨A18, c19, rfl, hv20_1, hv20_2⟩ := hv20
  unfold maxLen at hv20_2
  refine .cons (.on rfl rfl rfl (Ev.step (ev_len rfl Try.underlying51 rfl) rfl rfl rfl (.cons (.on rfl rfl rfl (Ev.step (ev_cmp rfl rfl rfl rfl) rfl rfl rfl (.v (ev_pickt rfl rfl rfl rfl) rfl (.a rfl rfl rfl (.go idQ ?_))))))))
  refine SC.thaw hx_q2 ?_
  exact .ret idQ (ret1 Try.results7 rfl .n ⟨(by rw [hY1]; rfl), rfl⟩)
 refine SP.reslot (t := 17) rfl hb13 ?_
 have hb13_ := bF (bA bE bE) hb13
 exfalso; revert hb13; rw [hR1, hR2]; decide
end Go.Proofs.Ytdpmnodiebpjeaa.Sx
