import Derived.Test.YthmkelkefmfmgaaProg
import Derived.Test.YthmkelkefmfmgaaSxJson
set_option maxRecDepth 20000
set_option maxHeartbeats 4000000
set_option linter.unusedVariables false
set_option linter.unusedSimpArgs false
namespace Go.Proofs.Ythmkelkefmfmgaa.Sx.FA
open Go Go.SX Go.Proofs
theorem ty5 : ty Try.prog 5 = some (false, 1) := by kernel_rfl
theorem hb46 : hasBody Try.prog 46 = true := by kernel_rfl
theorem ai5 : (Try.prog.info? 5).map (fun i => (i.zero, i.size, i.bytes)) = some (some (.int .u8 0), 1, 1) := by kernel_rfl
theorem mo : Try.prog.follows .mixedOrders = true := by kernel_rfl
theorem hb51 : hasBody Try.prog 51 = true := by kernel_rfl


end Go.Proofs.Ythmkelkefmfmgaa.Sx.FA
namespace Go.Proofs.Ythmkelkefmfmgaa.Sx
open Go Go.SX Go.Proofs FA





theorem fits1 (a : Int) (S : Nat → Prop) (wf : World) :
    TR0 Try.prog 47 [.int .i64 a] [] S wf (fun v_ C_ => v_ = .bool (decide (a ≥ (-4611686018427387903)) && decide (a ≤ 4611686018427387903)) ∧ C_ = []) := by
  refine TR.mk Try.func47 rfl Try.ntmps47 rfl rfl (fun w_ => ?_)
  refine .seq (.region (.cons (Ev.step (ev_as rfl rfl) rfl rfl rfl (.go (fun _ _ h => h) (.seq (.region ?_))))))
  refine .cons (Ev.step (ev_mv rfl rfl) rfl rfl rfl (.cons (Ev.step (ev_cmp rfl rfl rfl rfl) rfl rfl rfl (.cons (Ev.step (ev_mv rfl rfl) rfl rfl rfl (.cons (Ev.gstep (fun _ => ev_mv rfl rfl) rfl rfl rfl rfl rfl (.cons (Ev.gstep (fun hb => ev_cmp rfl (lkg rfl hb) rfl rfl) rfl rfl rfl rfl rfl (.cons (Ev.step (ev_and rfl rfl rfl rfl) rfl rfl rfl ?_)))))))))))
  exact .cons (Ev.step (ev_as rfl rfl) rfl rfl rfl (.go (fun _ _ h => h) (.ret (fun _ _ h => h) (ret1 Try.results47 rfl .n ⟨rfl, rfl⟩))))

theorem rune (A : Option Addr) (n : Nat) (c : Nat) (l : List Int) (S : Nat → Prop) (wf : World) (hA : Fr eY S wf A l) (hn : l.length = n) (hr : ∀ x ∈ l, isB x) (h0 : 0 < n) :
    TR0 Try.prog 46 [.slice A n c] [] S wf (fun v_ C_ => v_ = .int .i64 (runeF l) ∧ C_ = []) := by
  have hla := hA.len
  have hg0 := gt_range hr 0
  unfold isB at hg0
  refine TR.mk Try.func46 rfl Try.ntmps46 rfl rfl (fun w_ => ?_)
  refine .seq (.region (.cons (Ev.step (ev_as rfl rfl) rfl rfl rfl (.go (fun _ _ h => h) (.seq (.region ?_))))))
  refine .cons (Ev.step (ev_as rfl rfl) rfl rfl rfl (.cons (Ev.step (ev_as rfl rfl) rfl rfl rfl (.go (fun _ _ h => h) (.seq (.region (.cons (Ev.step (ev_mv rfl rfl) rfl rfl rfl ?_))))))))
  refine .cons (Ev.step (ev_ix rfl Try.underlying36 ty5 rfl rfl (by omega) (by omega) (fun _ _ => Fr.adr (i := 0) hA (by omega) (by omega))) rfl rfl rfl (.cons (Ev.step (ev_ld1 rfl ty5 rfl (At.elem1 (At.w (Fr.el (i := 0) hA (by omega) (by omega))) 0 rfl)) rfl rfl rfl (.cons (Ev.step (ev_cv rfl Try.underlying5 Try.underlying3 rfl (wrap_b_i64 (gt_range hr _))) rfl rfl rfl (.cons (Ev.step (ev_as rfl rfl) rfl rfl rfl (.go (fun _ _ h => h) (.seq ?_)))))))))
  refine .region (.cons (Ev.step (ev_as rfl rfl) rfl rfl rfl (.go (fun _ _ h => h) (.seq (.block (.seq ?_))))))
  refine .region (.cons (Ev.step (ev_mv rfl rfl) rfl rfl rfl (.cons (Ev.step (ev_cmp rfl rfl rfl rfl) rfl rfl rfl (.cons (Ev.step (ev_as rfl rfl) rfl rfl rfl (.go (fun _ _ h => h) (.condI rfl bD (fun h1 => ?_) (fun h1 => ?_)))))))))
  ·
    exact .seq (.region (.cons (Ev.step (ev_as rfl rfl) rfl rfl rfl (.go (fun _ _ h => h) (.ret (fun _ _ h => h) (ret1 Try.results46 rfl .n ⟨(congrArg (Value.int .i64) (rsel1 (by assumption))), rfl⟩))))))
  ·
    refine .seq (.region (.cons (Ev.step (ev_mv rfl rfl) rfl rfl rfl (.cons (Ev.step (ev_cmp rfl rfl rfl rfl) rfl rfl rfl (.cons (Ev.step (ev_mv rfl rfl) rfl rfl rfl (.cons (Ev.gstep (fun _ => ev_mv rfl rfl) rfl rfl rfl rfl rfl ?_)))))))))
    refine .cons (Ev.gstep (fun hb => ev_cmp rfl (lkg rfl hb) rfl rfl) rfl rfl rfl rfl rfl (.cons (Ev.step (ev_and rfl rfl rfl rfl) rfl rfl rfl (.cons (Ev.step (ev_as rfl rfl) rfl rfl rfl (.go (fun _ _ h => h) (.condI rfl (bA bD bD) (fun h2 => ?_) (fun h2 => ?_))))))))
    ·
      refine .region (.cons (Ev.step (ev_mv rfl rfl) rfl rfl rfl (.cons (Ev.step (ev_band rfl rfl rfl) rfl rfl rfl (.cons (Ev.step (ev_as rfl rfl) rfl rfl rfl (.cons (Ev.step (ev_as rfl rfl) rfl rfl rfl (.cons (Ev.step (ev_as rfl rfl) rfl rfl rfl ?_))))))))))
      refine .go (fun _ _ h => h) (.seq (.seq (.region (.cons (Ev.step (ev_mv rfl rfl) rfl rfl rfl (.cons (Ev.step (ev_cmp (r := false) rfl rfl rfl rfl) rfl rfl rfl ?_)))))))
      refine .cons (Ev.step (ev_mv rfl rfl) rfl rfl rfl (.cons (.on rfl rfl rfl (Ev.step (ev_mv rfl rfl) rfl rfl rfl (.cons (.on rfl rfl rfl (Ev.step (ev_len rfl Try.underlying36 rfl) rfl rfl rfl (.cons (.on rfl rfl rfl (Ev.step (ev_mv rfl rfl) rfl rfl rfl (.cons (.on rfl rfl rfl (Ev.step (ev_cmp rfl rfl rfl rfl) rfl rfl rfl (.cons (Ev.step (ev_pickf rfl rfl rfl rfl) rfl rfl rfl ?_)))))))))))))))
      refine .go (fun _ _ h => h) (.condI rfl bD (fun h3 => ?_) (fun h3 => ?_))
      ·
        exact .seq (.region (.cons (Ev.step (ev_as rfl rfl) rfl rfl rfl (.go (fun _ _ h => h) (.ret (fun _ _ h => h) (ret1 Try.results46 rfl .n ⟨(congrArg (Value.int .i64) (rn_short (rsel2 (l := l) (by assumption) (by assumption)) (by omega))), rfl⟩))))))
      ·
        refine .skipgo (fun _ _ h => h) (.seq (.seq (.region (.cons (Ev.step (ev_as rfl rfl) rfl rfl rfl (.go (fun _ _ h => h) ?_))))))
        refine .block ?_
        refine .loop (X := Int × Int) (fun ⟨i, x⟩ => 1 ≤ i ∧ i ≤ 2 ∧ runeGo ((l.take (2 : Int).toNat).drop i.toNat) x = runeGo ((l.take (2 : Int).toNat).drop 1) (bnd .i64 (gt l 0) 31)) (fun ⟨i, x⟩ => [(0, .slice A n c), (3, .int .i64 2), (4, .int .i64 128), (6, .int .i64 x), (7, .int .i64 i)]) (fun ⟨i, x⟩ => []) (fun _ => S) (fun _ => wf) (fun ⟨i, x⟩ => (2 - i).toNat) (fun a_ w_ hs_ hw_ => ⟨⟨1, (bnd .i64 (gt l 0) 31)⟩, (by exact ⟨by omega, by omega, rfl⟩), hs_.mono (Sub.get (.c rfl (.c rfl (.c rfl (.c rfl (.c rfl .n)))))), hw_.keep .n⟩) (fun ⟨i, x⟩ ⟨q_0, q_1, q_2⟩ => ?_)
        show SC _ _ _ _ _ ⟨[(0, .slice A n c), (3, .int .i64 2), (4, .int .i64 128), (6, .int .i64 x), (7, .int .i64 i)], [], S, wf⟩
        refine .seq (.seq (.region (.cons (Ev.step (ev_mv rfl rfl) rfl rfl rfl (.cons (Ev.step (ev_mv rfl rfl) rfl rfl rfl (.cons (Ev.step (ev_cmp rfl rfl rfl rfl) rfl rfl rfl ?_))))))))
        refine .go (fun _ _ h => h) (.condI rfl bD (fun h4 => ?_) (fun h4 => ?_))
        ·
          refine .skipgo (fun _ _ h => h) (.seq (.block (.seq (.seq (.region ?_)))))
          refine .cons (Ev.step (ev_mv rfl rfl) rfl rfl rfl (.cons (Ev.step (ev_mv rfl rfl) rfl rfl rfl (.cons (Ev.step (ev_ix rfl Try.underlying36 ty5 rfl rfl (by omega) (by omega) (fun _ _ => Fr.adr (i := i) hA (by omega) (by omega))) rfl rfl rfl (.cons (Ev.step (ev_ld1 rfl ty5 rfl (At.elem1 (At.w (Fr.el (i := i) hA (by omega) (by omega))) 0 rfl)) rfl rfl rfl (.cons (Ev.step (ev_shr (r := (Int.fdiv (gt l i) 64)) rfl rfl rfl (by decide) rfl) rfl rfl rfl (.cons (Ev.step (ev_cmp rfl rfl rfl rfl) rfl rfl rfl ?_)))))))))))
          refine .go (fun _ _ h => h) (.condI rfl bNE (fun h5 => ?_) (fun h5 => ?_))
          ·
            exact .seq (.region (.cons (Ev.step (ev_as rfl rfl) rfl rfl rfl (.go (fun _ _ h => h) (.ret (fun _ _ h => h) (ret1 Try.results46 rfl .n ⟨(congrArg (Value.int .i64) (rn_bad (rsel2 (l := l) (by assumption) (by assumption)) q_0 (by omega) (by omega) q_2 (by omega))), rfl⟩))))))
          ·
            refine .skipgo (fun _ _ h => h) (.region (.cons (Ev.step (ev_mv rfl rfl) rfl rfl rfl (.cons (Ev.step (ev_shl (r := (IntKind.i64.wrap (x * 64))) rfl rfl rfl (by decide) rfl) rfl rfl rfl (.cons (Ev.step (ev_mv rfl rfl) rfl rfl rfl (.cons (Ev.step (ev_mv rfl rfl) rfl rfl rfl ?_)))))))))
            refine .cons (Ev.step (ev_ix rfl Try.underlying36 ty5 rfl rfl (by omega) (by omega) (fun _ _ => Fr.adr (i := i) hA (by omega) (by omega))) rfl rfl rfl (.cons (Ev.step (ev_ld1 rfl ty5 rfl (At.elem1 (At.w (Fr.el (i := i) hA (by omega) (by omega))) 0 rfl)) rfl rfl rfl (.cons (Ev.step (ev_band rfl rfl rfl) rfl rfl rfl (.cons (Ev.step (ev_cv rfl Try.underlying5 Try.underlying3 rfl rfl) rfl rfl rfl (.cons (Ev.step (ev_bor rfl rfl rfl) rfl rfl rfl (.cons (Ev.step (ev_as rfl rfl) rfl rfl rfl ?_)))))))))))
            exact .go (fun _ _ h => h) (.region (.cons (Ev.step (ev_mv rfl rfl) rfl rfl rfl (.cons (Ev.step (ev_add rfl rfl rfl (r := (i + 1)) rfl (by omega) (by omega)) rfl rfl rfl (.cons (Ev.step (ev_as rfl rfl) rfl rfl rfl (SP.nil (SQ.roundb (X := Int × Int) (x := (i, x)) ⟨(i + 1), (bor .i64 (IntKind.i64.wrap (x * 64)) (IntKind.i64.wrap (bnd .u8 (gt l i) 63)))⟩ (by exact ⟨by omega, by omega, (rn_step q_0 (by omega) (by omega) (by omega)).symm.trans q_2⟩) (by dsimp only; omega) (Sub.get (.c rfl (.c rfl (.c rfl (.c rfl (.c rfl .n)))))) (fun w hw => hw.keep .n))))))))))
        ·
          refine .exit (fun _ _ h => h) (.seq (.seq (.region (.cons (Ev.step (ev_mv rfl rfl) rfl rfl rfl (.cons (Ev.step (ev_mv rfl rfl) rfl rfl rfl ?_)))))))
          refine .cons (Ev.step (ev_cmp rfl rfl rfl rfl) rfl rfl rfl (.cons (Ev.step (ev_mv rfl rfl) rfl rfl rfl (.cons (Ev.gstep (fun _ => ev_mv rfl rfl) rfl rfl rfl rfl rfl (.cons (Ev.gstep (fun hb => ev_cmp rfl (lkg rfl hb) rfl rfl) rfl rfl rfl rfl rfl (.cons (Ev.step (ev_or rfl rfl rfl rfl) rfl rfl rfl (.cons (Ev.step (ev_mv rfl rfl) rfl rfl rfl ?_)))))))))))
          refine .cons (Ev.gstep (fun _ => ev_mv rfl rfl) rfl rfl rfl rfl rfl (.cons (Ev.gstep (fun hb => ev_cmp rfl (lkg rfl hb) rfl rfl) rfl rfl rfl rfl rfl (.cons (Ev.gstep (fun hb => ev_mv rfl (lkg rfl hb)) rfl rfl rfl rfl rfl ?_)))))
          rcases Bool.eq_false_or_eq_true ((decide (x < 128)) || (decide (x > 1114111))) with hb6 | hb6
          ·
            have hb6_ := bT (bO bD bD) hb6
            refine SP.reslotv (t := 80) rfl (gv_off hb6) (.cons (.offu rfl rfl rfl rfl rfl (.cons (.offu rfl rfl rfl rfl rfl (SP.reslot (t := 77) rfl hb6 (.cons (.off rfl rfl rfl rfl rfl rfl (.cons (Ev.step (ev_pickt rfl rfl rfl rfl) rfl rfl rfl ?_)))))))))
            refine .go (fun _ _ h => h) (.cond_t rfl (.seq (.region (.cons (Ev.step (ev_as rfl rfl) rfl rfl rfl (.go (fun _ _ h => h) ?_))))))
            exact .ret (fun _ _ h => h) (ret1 Try.results46 rfl .n ⟨(congrArg (Value.int .i64) (rn_no (rsel2 (l := l) (by assumption) (by assumption)) q_0 (by omega) (by omega) q_2 (by unfold runeBad; omega))), rfl⟩)
          ·
            have hb6_ := bF (bO bD bD) hb6
            refine SP.reslotv (t := 80) rfl (gv_on hb6) (.cons (Ev.gstep (fun _ => ev_mv rfl rfl) rfl rfl rfl rfl rfl (.cons (Ev.gstep (fun hb => ev_cmp rfl (lkg rfl hb) rfl rfl) rfl rfl rfl rfl rfl (SP.reslot (t := 77) rfl hb6 (.cons (.on rfl rfl rfl (Ev.step (ev_and rfl rfl rfl rfl) rfl rfl rfl (.cons (Ev.step (ev_pickf rfl rfl rfl rfl) rfl rfl rfl ?_))))))))))
            refine .go (fun _ _ h => h) (.condI rfl (bA bD bD) (fun h7 => ?_) (fun h7 => ?_))
            ·
              exact .seq (.region (.cons (Ev.step (ev_as rfl rfl) rfl rfl rfl (.go (fun _ _ h => h) (.ret (fun _ _ h => h) (ret1 Try.results46 rfl .n ⟨(congrArg (Value.int .i64) (rn_no (rsel2 (l := l) (by assumption) (by assumption)) q_0 (by omega) (by omega) q_2 (by unfold runeBad; omega))), rfl⟩))))))
            ·
              refine .skipgo (fun _ _ h => h) (.seq (.region (.cons (Ev.step (ev_mv rfl rfl) rfl rfl rfl (.cons (Ev.step (ev_as rfl rfl) rfl rfl rfl (.go (fun _ _ h => h) ?_)))))))
              exact .ret (fun _ _ h => h) (ret1 Try.results46 rfl .n ⟨(congrArg (Value.int .i64) (rn_yes (rsel2 (l := l) (by assumption) (by assumption)) q_0 (by omega) (by omega) q_2 (by unfold runeBad; omega))), rfl⟩)
    ·
      refine .seq (.region (.cons (Ev.step (ev_mv rfl rfl) rfl rfl rfl (.cons (Ev.step (ev_cmp rfl rfl rfl rfl) rfl rfl rfl (.cons (Ev.step (ev_mv rfl rfl) rfl rfl rfl (.cons (Ev.gstep (fun _ => ev_mv rfl rfl) rfl rfl rfl rfl rfl ?_)))))))))
      refine .cons (Ev.gstep (fun hb => ev_cmp rfl (lkg rfl hb) rfl rfl) rfl rfl rfl rfl rfl (.cons (Ev.step (ev_and rfl rfl rfl rfl) rfl rfl rfl (.cons (Ev.step (ev_as rfl rfl) rfl rfl rfl (.go (fun _ _ h => h) (.condI rfl (bA bD bD) (fun h8 => ?_) (fun h8 => ?_))))))))
      ·
        refine .region (.cons (Ev.step (ev_mv rfl rfl) rfl rfl rfl (.cons (Ev.step (ev_band rfl rfl rfl) rfl rfl rfl (.cons (Ev.step (ev_as rfl rfl) rfl rfl rfl (.cons (Ev.step (ev_as rfl rfl) rfl rfl rfl (.cons (Ev.step (ev_as rfl rfl) rfl rfl rfl ?_))))))))))
        refine .go (fun _ _ h => h) (.seq (.seq (.region (.cons (Ev.step (ev_mv rfl rfl) rfl rfl rfl (.cons (Ev.step (ev_cmp (r := false) rfl rfl rfl rfl) rfl rfl rfl ?_)))))))
        refine .cons (Ev.step (ev_mv rfl rfl) rfl rfl rfl (.cons (.on rfl rfl rfl (Ev.step (ev_mv rfl rfl) rfl rfl rfl (.cons (.on rfl rfl rfl (Ev.step (ev_len rfl Try.underlying36 rfl) rfl rfl rfl (.cons (.on rfl rfl rfl (Ev.step (ev_mv rfl rfl) rfl rfl rfl (.cons (.on rfl rfl rfl (Ev.step (ev_cmp rfl rfl rfl rfl) rfl rfl rfl (.cons (Ev.step (ev_pickf rfl rfl rfl rfl) rfl rfl rfl ?_)))))))))))))))
        refine .go (fun _ _ h => h) (.condI rfl bD (fun h9 => ?_) (fun h9 => ?_))
        ·
          exact .seq (.region (.cons (Ev.step (ev_as rfl rfl) rfl rfl rfl (.go (fun _ _ h => h) (.ret (fun _ _ h => h) (ret1 Try.results46 rfl .n ⟨(congrArg (Value.int .i64) (rn_short (rsel3 (l := l) (by assumption) (by assumption)) (by omega))), rfl⟩))))))
        ·
          refine .skipgo (fun _ _ h => h) (.seq (.seq (.region (.cons (Ev.step (ev_as rfl rfl) rfl rfl rfl (.go (fun _ _ h => h) ?_))))))
          refine .block ?_
          refine .loop (X := Int × Int) (fun ⟨i, x⟩ => 1 ≤ i ∧ i ≤ 3 ∧ runeGo ((l.take (3 : Int).toNat).drop i.toNat) x = runeGo ((l.take (3 : Int).toNat).drop 1) (bnd .i64 (gt l 0) 15)) (fun ⟨i, x⟩ => [(0, .slice A n c), (3, .int .i64 3), (4, .int .i64 2048), (6, .int .i64 x), (7, .int .i64 i)]) (fun ⟨i, x⟩ => []) (fun _ => S) (fun _ => wf) (fun ⟨i, x⟩ => (3 - i).toNat) (fun a_ w_ hs_ hw_ => ⟨⟨1, (bnd .i64 (gt l 0) 15)⟩, (by exact ⟨by omega, by omega, rfl⟩), hs_.mono (Sub.get (.c rfl (.c rfl (.c rfl (.c rfl (.c rfl .n)))))), hw_.keep .n⟩) (fun ⟨i, x⟩ ⟨q_0, q_1, q_2⟩ => ?_)
          show SC _ _ _ _ _ ⟨[(0, .slice A n c), (3, .int .i64 3), (4, .int .i64 2048), (6, .int .i64 x), (7, .int .i64 i)], [], S, wf⟩
          refine .seq (.seq (.region (.cons (Ev.step (ev_mv rfl rfl) rfl rfl rfl (.cons (Ev.step (ev_mv rfl rfl) rfl rfl rfl (.cons (Ev.step (ev_cmp rfl rfl rfl rfl) rfl rfl rfl ?_))))))))
          refine .go (fun _ _ h => h) (.condI rfl bD (fun h10 => ?_) (fun h10 => ?_))
          ·
            refine .skipgo (fun _ _ h => h) (.seq (.block (.seq (.seq (.region ?_)))))
            refine .cons (Ev.step (ev_mv rfl rfl) rfl rfl rfl (.cons (Ev.step (ev_mv rfl rfl) rfl rfl rfl (.cons (Ev.step (ev_ix rfl Try.underlying36 ty5 rfl rfl (by omega) (by omega) (fun _ _ => Fr.adr (i := i) hA (by omega) (by omega))) rfl rfl rfl (.cons (Ev.step (ev_ld1 rfl ty5 rfl (At.elem1 (At.w (Fr.el (i := i) hA (by omega) (by omega))) 0 rfl)) rfl rfl rfl (.cons (Ev.step (ev_shr (r := (Int.fdiv (gt l i) 64)) rfl rfl rfl (by decide) rfl) rfl rfl rfl (.cons (Ev.step (ev_cmp rfl rfl rfl rfl) rfl rfl rfl ?_)))))))))))
            refine .go (fun _ _ h => h) (.condI rfl bNE (fun h11 => ?_) (fun h11 => ?_))
            ·
              exact .seq (.region (.cons (Ev.step (ev_as rfl rfl) rfl rfl rfl (.go (fun _ _ h => h) (.ret (fun _ _ h => h) (ret1 Try.results46 rfl .n ⟨(congrArg (Value.int .i64) (rn_bad (rsel3 (l := l) (by assumption) (by assumption)) q_0 (by omega) (by omega) q_2 (by omega))), rfl⟩))))))
            ·
              refine .skipgo (fun _ _ h => h) (.region (.cons (Ev.step (ev_mv rfl rfl) rfl rfl rfl (.cons (Ev.step (ev_shl (r := (IntKind.i64.wrap (x * 64))) rfl rfl rfl (by decide) rfl) rfl rfl rfl (.cons (Ev.step (ev_mv rfl rfl) rfl rfl rfl (.cons (Ev.step (ev_mv rfl rfl) rfl rfl rfl ?_)))))))))
              refine .cons (Ev.step (ev_ix rfl Try.underlying36 ty5 rfl rfl (by omega) (by omega) (fun _ _ => Fr.adr (i := i) hA (by omega) (by omega))) rfl rfl rfl (.cons (Ev.step (ev_ld1 rfl ty5 rfl (At.elem1 (At.w (Fr.el (i := i) hA (by omega) (by omega))) 0 rfl)) rfl rfl rfl (.cons (Ev.step (ev_band rfl rfl rfl) rfl rfl rfl (.cons (Ev.step (ev_cv rfl Try.underlying5 Try.underlying3 rfl rfl) rfl rfl rfl (.cons (Ev.step (ev_bor rfl rfl rfl) rfl rfl rfl (.cons (Ev.step (ev_as rfl rfl) rfl rfl rfl ?_)))))))))))
              exact .go (fun _ _ h => h) (.region (.cons (Ev.step (ev_mv rfl rfl) rfl rfl rfl (.cons (Ev.step (ev_add rfl rfl rfl (r := (i + 1)) rfl (by omega) (by omega)) rfl rfl rfl (.cons (Ev.step (ev_as rfl rfl) rfl rfl rfl (SP.nil (SQ.roundb (X := Int × Int) (x := (i, x)) ⟨(i + 1), (bor .i64 (IntKind.i64.wrap (x * 64)) (IntKind.i64.wrap (bnd .u8 (gt l i) 63)))⟩ (by exact ⟨by omega, by omega, (rn_step q_0 (by omega) (by omega) (by omega)).symm.trans q_2⟩) (by dsimp only; omega) (Sub.get (.c rfl (.c rfl (.c rfl (.c rfl (.c rfl .n)))))) (fun w hw => hw.keep .n))))))))))
          ·
            refine .exit (fun _ _ h => h) (.seq (.seq (.region (.cons (Ev.step (ev_mv rfl rfl) rfl rfl rfl (.cons (Ev.step (ev_mv rfl rfl) rfl rfl rfl ?_)))))))
            refine .cons (Ev.step (ev_cmp rfl rfl rfl rfl) rfl rfl rfl (.cons (Ev.step (ev_mv rfl rfl) rfl rfl rfl (.cons (Ev.gstep (fun _ => ev_mv rfl rfl) rfl rfl rfl rfl rfl (.cons (Ev.gstep (fun hb => ev_cmp rfl (lkg rfl hb) rfl rfl) rfl rfl rfl rfl rfl (.cons (Ev.step (ev_or rfl rfl rfl rfl) rfl rfl rfl (.cons (Ev.step (ev_mv rfl rfl) rfl rfl rfl ?_)))))))))))
            refine .cons (Ev.gstep (fun _ => ev_mv rfl rfl) rfl rfl rfl rfl rfl (.cons (Ev.gstep (fun hb => ev_cmp rfl (lkg rfl hb) rfl rfl) rfl rfl rfl rfl rfl (.cons (Ev.gstep (fun hb => ev_mv rfl (lkg rfl hb)) rfl rfl rfl rfl rfl ?_)))))
            rcases Bool.eq_false_or_eq_true ((decide (x < 2048)) || (decide (x > 1114111))) with hb12 | hb12
            ·
              have hb12_ := bT (bO bD bD) hb12
              refine SP.reslotv (t := 80) rfl (gv_off hb12) (.cons (.offu rfl rfl rfl rfl rfl (.cons (.offu rfl rfl rfl rfl rfl (SP.reslot (t := 77) rfl hb12 (.cons (.off rfl rfl rfl rfl rfl rfl (.cons (Ev.step (ev_pickt rfl rfl rfl rfl) rfl rfl rfl ?_)))))))))
              refine .go (fun _ _ h => h) (.cond_t rfl (.seq (.region (.cons (Ev.step (ev_as rfl rfl) rfl rfl rfl (.go (fun _ _ h => h) ?_))))))
              exact .ret (fun _ _ h => h) (ret1 Try.results46 rfl .n ⟨(congrArg (Value.int .i64) (rn_no (rsel3 (l := l) (by assumption) (by assumption)) q_0 (by omega) (by omega) q_2 (by unfold runeBad; omega))), rfl⟩)
            ·
              have hb12_ := bF (bO bD bD) hb12
              refine SP.reslotv (t := 80) rfl (gv_on hb12) (.cons (Ev.gstep (fun _ => ev_mv rfl rfl) rfl rfl rfl rfl rfl (.cons (Ev.gstep (fun hb => ev_cmp rfl (lkg rfl hb) rfl rfl) rfl rfl rfl rfl rfl (SP.reslot (t := 77) rfl hb12 (.cons (.on rfl rfl rfl (Ev.step (ev_and rfl rfl rfl rfl) rfl rfl rfl (.cons (Ev.step (ev_pickf rfl rfl rfl rfl) rfl rfl rfl ?_))))))))))
              refine .go (fun _ _ h => h) (.condI rfl (bA bD bD) (fun h13 => ?_) (fun h13 => ?_))
              ·
                exact .seq (.region (.cons (Ev.step (ev_as rfl rfl) rfl rfl rfl (.go (fun _ _ h => h) (.ret (fun _ _ h => h) (ret1 Try.results46 rfl .n ⟨(congrArg (Value.int .i64) (rn_no (rsel3 (l := l) (by assumption) (by assumption)) q_0 (by omega) (by omega) q_2 (by unfold runeBad; omega))), rfl⟩))))))
              ·
                refine .skipgo (fun _ _ h => h) (.seq (.region (.cons (Ev.step (ev_mv rfl rfl) rfl rfl rfl (.cons (Ev.step (ev_as rfl rfl) rfl rfl rfl (.go (fun _ _ h => h) ?_)))))))
                exact .ret (fun _ _ h => h) (ret1 Try.results46 rfl .n ⟨(congrArg (Value.int .i64) (rn_yes (rsel3 (l := l) (by assumption) (by assumption)) q_0 (by omega) (by omega) q_2 (by unfold runeBad; omega))), rfl⟩)
      ·
        refine .seq (.region (.cons (Ev.step (ev_mv rfl rfl) rfl rfl rfl (.cons (Ev.step (ev_cmp rfl rfl rfl rfl) rfl rfl rfl (.cons (Ev.step (ev_mv rfl rfl) rfl rfl rfl (.cons (Ev.gstep (fun _ => ev_mv rfl rfl) rfl rfl rfl rfl rfl ?_)))))))))
        refine .cons (Ev.gstep (fun hb => ev_cmp rfl (lkg rfl hb) rfl rfl) rfl rfl rfl rfl rfl (.cons (Ev.step (ev_and rfl rfl rfl rfl) rfl rfl rfl (.cons (Ev.step (ev_as rfl rfl) rfl rfl rfl (.go (fun _ _ h => h) (.condI rfl (bA bD bD) (fun h14 => ?_) (fun h14 => ?_))))))))
        ·
          refine .region (.cons (Ev.step (ev_mv rfl rfl) rfl rfl rfl (.cons (Ev.step (ev_band rfl rfl rfl) rfl rfl rfl (.cons (Ev.step (ev_as rfl rfl) rfl rfl rfl (.cons (Ev.step (ev_as rfl rfl) rfl rfl rfl (.cons (Ev.step (ev_as rfl rfl) rfl rfl rfl ?_))))))))))
          refine .go (fun _ _ h => h) (.seq (.seq (.region (.cons (Ev.step (ev_mv rfl rfl) rfl rfl rfl (.cons (Ev.step (ev_cmp (r := false) rfl rfl rfl rfl) rfl rfl rfl ?_)))))))
          refine .cons (Ev.step (ev_mv rfl rfl) rfl rfl rfl (.cons (.on rfl rfl rfl (Ev.step (ev_mv rfl rfl) rfl rfl rfl (.cons (.on rfl rfl rfl (Ev.step (ev_len rfl Try.underlying36 rfl) rfl rfl rfl (.cons (.on rfl rfl rfl (Ev.step (ev_mv rfl rfl) rfl rfl rfl (.cons (.on rfl rfl rfl (Ev.step (ev_cmp rfl rfl rfl rfl) rfl rfl rfl (.cons (Ev.step (ev_pickf rfl rfl rfl rfl) rfl rfl rfl ?_)))))))))))))))
          refine .go (fun _ _ h => h) (.condI rfl bD (fun h15 => ?_) (fun h15 => ?_))
          ·
            exact .seq (.region (.cons (Ev.step (ev_as rfl rfl) rfl rfl rfl (.go (fun _ _ h => h) (.ret (fun _ _ h => h) (ret1 Try.results46 rfl .n ⟨(congrArg (Value.int .i64) (rn_short (rsel4 (l := l) (by assumption) (by assumption)) (by omega))), rfl⟩))))))
          ·
            refine .skipgo (fun _ _ h => h) (.seq (.seq (.region (.cons (Ev.step (ev_as rfl rfl) rfl rfl rfl (.go (fun _ _ h => h) ?_))))))
            refine .block ?_
            refine .loop (X := Int × Int) (fun ⟨i, x⟩ => 1 ≤ i ∧ i ≤ 4 ∧ runeGo ((l.take (4 : Int).toNat).drop i.toNat) x = runeGo ((l.take (4 : Int).toNat).drop 1) (bnd .i64 (gt l 0) 7)) (fun ⟨i, x⟩ => [(0, .slice A n c), (3, .int .i64 4), (4, .int .i64 65536), (6, .int .i64 x), (7, .int .i64 i)]) (fun ⟨i, x⟩ => []) (fun _ => S) (fun _ => wf) (fun ⟨i, x⟩ => (4 - i).toNat) (fun a_ w_ hs_ hw_ => ⟨⟨1, (bnd .i64 (gt l 0) 7)⟩, (by exact ⟨by omega, by omega, rfl⟩), hs_.mono (Sub.get (.c rfl (.c rfl (.c rfl (.c rfl (.c rfl .n)))))), hw_.keep .n⟩) (fun ⟨i, x⟩ ⟨q_0, q_1, q_2⟩ => ?_)
            show SC _ _ _ _ _ ⟨[(0, .slice A n c), (3, .int .i64 4), (4, .int .i64 65536), (6, .int .i64 x), (7, .int .i64 i)], [], S, wf⟩
            refine .seq (.seq (.region (.cons (Ev.step (ev_mv rfl rfl) rfl rfl rfl (.cons (Ev.step (ev_mv rfl rfl) rfl rfl rfl (.cons (Ev.step (ev_cmp rfl rfl rfl rfl) rfl rfl rfl ?_))))))))
            refine .go (fun _ _ h => h) (.condI rfl bD (fun h16 => ?_) (fun h16 => ?_))
            ·
              refine .skipgo (fun _ _ h => h) (.seq (.block (.seq (.seq (.region ?_)))))
              refine .cons (Ev.step (ev_mv rfl rfl) rfl rfl rfl (.cons (Ev.step (ev_mv rfl rfl) rfl rfl rfl (.cons (Ev.step (ev_ix rfl Try.underlying36 ty5 rfl rfl (by omega) (by omega) (fun _ _ => Fr.adr (i := i) hA (by omega) (by omega))) rfl rfl rfl (.cons (Ev.step (ev_ld1 rfl ty5 rfl (At.elem1 (At.w (Fr.el (i := i) hA (by omega) (by omega))) 0 rfl)) rfl rfl rfl (.cons (Ev.step (ev_shr (r := (Int.fdiv (gt l i) 64)) rfl rfl rfl (by decide) rfl) rfl rfl rfl (.cons (Ev.step (ev_cmp rfl rfl rfl rfl) rfl rfl rfl ?_)))))))))))
              refine .go (fun _ _ h => h) (.condI rfl bNE (fun h17 => ?_) (fun h17 => ?_))
              ·
                exact .seq (.region (.cons (Ev.step (ev_as rfl rfl) rfl rfl rfl (.go (fun _ _ h => h) (.ret (fun _ _ h => h) (ret1 Try.results46 rfl .n ⟨(congrArg (Value.int .i64) (rn_bad (rsel4 (l := l) (by assumption) (by assumption)) q_0 (by omega) (by omega) q_2 (by omega))), rfl⟩))))))
              ·
                refine .skipgo (fun _ _ h => h) (.region (.cons (Ev.step (ev_mv rfl rfl) rfl rfl rfl (.cons (Ev.step (ev_shl (r := (IntKind.i64.wrap (x * 64))) rfl rfl rfl (by decide) rfl) rfl rfl rfl (.cons (Ev.step (ev_mv rfl rfl) rfl rfl rfl (.cons (Ev.step (ev_mv rfl rfl) rfl rfl rfl ?_)))))))))
                refine .cons (Ev.step (ev_ix rfl Try.underlying36 ty5 rfl rfl (by omega) (by omega) (fun _ _ => Fr.adr (i := i) hA (by omega) (by omega))) rfl rfl rfl (.cons (Ev.step (ev_ld1 rfl ty5 rfl (At.elem1 (At.w (Fr.el (i := i) hA (by omega) (by omega))) 0 rfl)) rfl rfl rfl (.cons (Ev.step (ev_band rfl rfl rfl) rfl rfl rfl (.cons (Ev.step (ev_cv rfl Try.underlying5 Try.underlying3 rfl rfl) rfl rfl rfl (.cons (Ev.step (ev_bor rfl rfl rfl) rfl rfl rfl (.cons (Ev.step (ev_as rfl rfl) rfl rfl rfl ?_)))))))))))
                exact .go (fun _ _ h => h) (.region (.cons (Ev.step (ev_mv rfl rfl) rfl rfl rfl (.cons (Ev.step (ev_add rfl rfl rfl (r := (i + 1)) rfl (by omega) (by omega)) rfl rfl rfl (.cons (Ev.step (ev_as rfl rfl) rfl rfl rfl (SP.nil (SQ.roundb (X := Int × Int) (x := (i, x)) ⟨(i + 1), (bor .i64 (IntKind.i64.wrap (x * 64)) (IntKind.i64.wrap (bnd .u8 (gt l i) 63)))⟩ (by exact ⟨by omega, by omega, (rn_step q_0 (by omega) (by omega) (by omega)).symm.trans q_2⟩) (by dsimp only; omega) (Sub.get (.c rfl (.c rfl (.c rfl (.c rfl (.c rfl .n)))))) (fun w hw => hw.keep .n))))))))))
            ·
              refine .exit (fun _ _ h => h) (.seq (.seq (.region (.cons (Ev.step (ev_mv rfl rfl) rfl rfl rfl (.cons (Ev.step (ev_mv rfl rfl) rfl rfl rfl ?_)))))))
              refine .cons (Ev.step (ev_cmp rfl rfl rfl rfl) rfl rfl rfl (.cons (Ev.step (ev_mv rfl rfl) rfl rfl rfl (.cons (Ev.gstep (fun _ => ev_mv rfl rfl) rfl rfl rfl rfl rfl (.cons (Ev.gstep (fun hb => ev_cmp rfl (lkg rfl hb) rfl rfl) rfl rfl rfl rfl rfl (.cons (Ev.step (ev_or rfl rfl rfl rfl) rfl rfl rfl (.cons (Ev.step (ev_mv rfl rfl) rfl rfl rfl ?_)))))))))))
              refine .cons (Ev.gstep (fun _ => ev_mv rfl rfl) rfl rfl rfl rfl rfl (.cons (Ev.gstep (fun hb => ev_cmp rfl (lkg rfl hb) rfl rfl) rfl rfl rfl rfl rfl (.cons (Ev.gstep (fun hb => ev_mv rfl (lkg rfl hb)) rfl rfl rfl rfl rfl ?_)))))
              rcases Bool.eq_false_or_eq_true ((decide (x < 65536)) || (decide (x > 1114111))) with hb18 | hb18
              ·
                have hb18_ := bT (bO bD bD) hb18
                refine SP.reslotv (t := 80) rfl (gv_off hb18) (.cons (.offu rfl rfl rfl rfl rfl (.cons (.offu rfl rfl rfl rfl rfl (SP.reslot (t := 77) rfl hb18 (.cons (.off rfl rfl rfl rfl rfl rfl (.cons (Ev.step (ev_pickt rfl rfl rfl rfl) rfl rfl rfl ?_)))))))))
                refine .go (fun _ _ h => h) (.cond_t rfl (.seq (.region (.cons (Ev.step (ev_as rfl rfl) rfl rfl rfl (.go (fun _ _ h => h) ?_))))))
                exact .ret (fun _ _ h => h) (ret1 Try.results46 rfl .n ⟨(congrArg (Value.int .i64) (rn_no (rsel4 (l := l) (by assumption) (by assumption)) q_0 (by omega) (by omega) q_2 (by unfold runeBad; omega))), rfl⟩)
              ·
                have hb18_ := bF (bO bD bD) hb18
                refine SP.reslotv (t := 80) rfl (gv_on hb18) (.cons (Ev.gstep (fun _ => ev_mv rfl rfl) rfl rfl rfl rfl rfl (.cons (Ev.gstep (fun hb => ev_cmp rfl (lkg rfl hb) rfl rfl) rfl rfl rfl rfl rfl (SP.reslot (t := 77) rfl hb18 (.cons (.on rfl rfl rfl (Ev.step (ev_and rfl rfl rfl rfl) rfl rfl rfl (.cons (Ev.step (ev_pickf rfl rfl rfl rfl) rfl rfl rfl ?_))))))))))
                refine .go (fun _ _ h => h) (.condI rfl (bA bD bD) (fun h19 => ?_) (fun h19 => ?_))
                ·
                  exact .seq (.region (.cons (Ev.step (ev_as rfl rfl) rfl rfl rfl (.go (fun _ _ h => h) (.ret (fun _ _ h => h) (ret1 Try.results46 rfl .n ⟨(congrArg (Value.int .i64) (rn_no (rsel4 (l := l) (by assumption) (by assumption)) q_0 (by omega) (by omega) q_2 (by unfold runeBad; omega))), rfl⟩))))))
                ·
                  refine .skipgo (fun _ _ h => h) (.seq (.region (.cons (Ev.step (ev_mv rfl rfl) rfl rfl rfl (.cons (Ev.step (ev_as rfl rfl) rfl rfl rfl (.go (fun _ _ h => h) ?_)))))))
                  exact .ret (fun _ _ h => h) (ret1 Try.results46 rfl .n ⟨(congrArg (Value.int .i64) (rn_yes (rsel4 (l := l) (by assumption) (by assumption)) q_0 (by omega) (by omega) q_2 (by unfold runeBad; omega))), rfl⟩)
        ·
          refine .skipgo (fun _ _ h => h) (.seq (.seq (.region (.cons (Ev.step (ev_mv rfl rfl) rfl rfl rfl (.cons (Ev.step (ev_cmp (r := true) rfl rfl rfl rfl) rfl rfl rfl ?_)))))))
          refine .cons (Ev.step (ev_mv rfl rfl) rfl rfl rfl (.cons (.off rfl rfl rfl rfl rfl rfl (.cons (.off rfl rfl rfl rfl rfl rfl (.cons (.off rfl rfl rfl rfl rfl rfl (.cons (.off rfl rfl rfl rfl rfl rfl (.cons (Ev.step (ev_pickt rfl rfl rfl rfl) rfl rfl rfl ?_)))))))))))
          refine .go (fun _ _ h => h) (.cond_t rfl (.seq (.region (.cons (Ev.step (ev_as rfl rfl) rfl rfl rfl (.go (fun _ _ h => h) ?_))))))
          exact .ret (fun _ _ h => h) (ret1 Try.results46 rfl .n ⟨(congrArg (Value.int .i64) (rsel0 (by assumption) (by assumption) (by assumption) (by assumption))), rfl⟩)

theorem utf (s : ByteArray) (S : Nat → Prop) (wf : World) (hs : s.size ≤ 1000000000) :
    TR0 Try.prog 19 [.string s] [] S wf (fun v_ C_ => v_ = .bool (utfF (bs s)) ∧ C_ = []) := by
  have hbs := bs_len s
  refine TR.mk Try.func19 rfl Try.ntmps19 rfl rfl (fun w_ => ?_)
  refine .seq (.region (.cons (Ev.step (ev_as rfl rfl) rfl rfl rfl (.go (fun _ _ h => h) (.seq (.region ?_))))))
  refine .cons (Ev.step (ev_mv rfl rfl) rfl rfl rfl (.cons (st_s2b rfl rfl rfl rfl Try.underlying9 Try.underlying36 Try.underlying5 rfl (by omega) (fun b1 c2 hc3 hc4 => ?_))))
  unfold maxLen at hc4
  have hbl5 := bs_len s
  refine .cons (Ev.step (ev_as rfl rfl) rfl rfl rfl (.go (fun _ _ h => h) (.seq (.seq (.region (.cons (Ev.step (ev_as rfl rfl) rfl rfl rfl ?_)))))))
  refine .go (fun _ _ h => h) (.block ?_)
  refine .loop (X := Int) (fun i => 0 ≤ i ∧ i ≤ s.size ∧ utfF ((bs s).drop i.toNat) = utfF (bs s)) (fun i => [(3, .slice (some ⟨b1, 0, none⟩) s.size c2), (4, .int .i64 i)]) (fun i => [ro_ eY 5 (.slice (some ⟨b1, 0, none⟩) s.size c2) (bs s)]) (fun _ => S) (fun _ => wf) (fun i => (s.size - i.toNat)) (fun a_ w_ hs_ hw_ => ⟨0, (by exact ⟨by omega, by omega, rfl⟩), hs_.mono (Sub.get (.c rfl (.c rfl .n))), hw_.keep (.c .h .n)⟩) (fun i ⟨q_0, q_1, q_2⟩ => ?_)
  show SC _ _ _ _ _ ⟨[(3, .slice (some ⟨b1, 0, none⟩) s.size c2), (4, .int .i64 i)], [ro_ eY 5 (.slice (some ⟨b1, 0, none⟩) s.size c2) (bs s)], S, wf⟩
  refine .seq (.seq (.region (.cons (Ev.step (ev_mv rfl rfl) rfl rfl rfl (.cons (Ev.step (ev_mv rfl rfl) rfl rfl rfl (.cons (Ev.step (ev_len rfl Try.underlying36 rfl) rfl rfl rfl ?_))))))))
  refine .cons (Ev.step (ev_cmp rfl rfl rfl rfl) rfl rfl rfl (.go (fun _ _ h => h) (.condI rfl bD (fun h6 => ?_) (fun h6 => ?_))))
  ·
    refine .skipgo (fun _ _ h => h) (.block (.seq (.region (.cons (Ev.step (ev_mv rfl rfl) rfl rfl rfl (.cons (Ev.step (ev_mv rfl rfl) rfl rfl rfl ?_)))))))
    refine .cons (Ev.step (ev_slc rfl Try.underlying36 ty5 rfl (.s rfl (by omega)) .n (by omega) (by omega)) rfl rfl rfl (.cons (st_lendk rfl rfl rfl rfl hb46 rfl .n (.c .h .n) (fun w_ hw => rune (cutA (some ⟨b1, 0, none⟩) c2 (i).toNat 1) (s.size - (i).toNat) (c2 - (i).toNat) (((bs s).take s.size).drop (i).toNat) _ _ (Fr.view (Fr.lendo hw 0 rfl (by first | ((try simp only [List.length_nil, List.length_cons, List.length_append, List.length_set, List.length_singleton, List.length_take, List.length_drop, List.length_reverse]) <;> omega) | omega)) (i).toNat s.size 1 rfl (by omega)) (by first | ((try simp only [List.length_nil, List.length_cons, List.length_append, List.length_set, List.length_singleton, List.length_take, List.length_drop, List.length_reverse]) <;> omega) | omega) (rng_drop (rng_take (bs_range _) _) _) (by omega)) (.cons (Ev.step (ev_as rfl rfl) rfl rfl rfl (.go (fun _ _ h => h) (.seq (.seq ?_))))))))
    have hrb := rune_bd (s := s) (i := i) q_0 (by omega)
    refine .region (.cons (Ev.step (ev_mv rfl rfl) rfl rfl rfl (.cons (Ev.step (ev_cmp rfl rfl rfl rfl) rfl rfl rfl (.go (fun _ _ h => h) (.condI rfl bE (fun h7 => ?_) (fun h7 => ?_)))))))
    ·
      exact .seq (.region (.cons (Ev.step (ev_as rfl rfl) rfl rfl rfl (.go (fun _ _ h => h) (.ret (fun _ _ h => h) (ret1 Try.results19 rfl .n ⟨(congrArg Value.bool (utf_bad0 q_0 (by omega) q_2 (by assumption))), rfl⟩))))))
    ·
      refine .skipgo (fun _ _ h => h) (.region (.cons (Ev.step (ev_mv rfl rfl) rfl rfl rfl (.cons (Ev.step (ev_mv rfl rfl) rfl rfl rfl (.cons (Ev.step (ev_add rfl rfl rfl (r := (i + (runeF (((bs s).take s.size).drop (i).toNat)))) rfl (by omega) (by omega)) rfl rfl rfl (.cons (Ev.step (ev_as rfl rfl) rfl rfl rfl ?_)))))))))
      exact SP.nil (SQ.roundb (X := Int) (x := (i)) (i + (runeF (((bs s).take s.size).drop (i).toNat))) (by exact utf_go q_0 (by omega) q_2 (by assumption)) (by show (_ : Nat) < _; omega) (Sub.get (.c rfl (.c rfl .n))) (fun w hw => hw.keep (.c .h .n)))
  ·
    exact .exit (fun _ _ h => h) (.seq (.region (.cons (Ev.step (ev_as rfl rfl) rfl rfl rfl (.go (fun _ _ h => h) (.ret (fun _ _ h => h) (ret1 Try.results19 rfl .n ⟨(congrArg Value.bool (utf_end q_2 (by omega))), rfl⟩)))))))

theorem quote_ (v : Value) (o : List Int) (s : ByteArray) (S : Nat → Prop) (wf : World) (hs : s.size ≤ 1000000000) (ho : o.length ≤ 1000000000000) :
    TR0 Try.prog 52 [v, .string s] [rw_ eY 5 (v) o] S wf (fun v_ C_ => ∃ (u : Value), v_ = u ∧ C_ = [rw_ eY 5 (u) (o ++ quoteF s)]) := by
  have hbs := bs_len s
  refine TR.mk Try.func52 rfl Try.ntmps52 rfl rfl (fun w_ => ?_)
  refine .seq (.region (.cons (Ev.step (ev_as rfl rfl) rfl rfl rfl (.go (fun _ _ h => h) (.seq (.region ?_))))))
  refine .cons (Ev.step (ev_as rfl rfl) rfl rfl rfl (.go (fun _ _ h => h) (.seq (.region (.cons (Ev.step (ev_mv rfl rfl) rfl rfl rfl (.cons (st_s2b rfl rfl rfl rfl Try.underlying9 Try.underlying36 Try.underlying5 rfl (by omega) (fun b1 c2 hc3 hc4 => ?_)))))))))
  unfold maxLen at hc4
  have hbl5 := bs_len s
  refine .cons (Ev.step (ev_as rfl rfl) rfl rfl rfl (.go (fun _ _ h => h) (.seq (.region (.cons (Ev.step (ev_mv rfl rfl) rfl rfl rfl (.cons (st_lit eY (e := 5) (l := [34]) rfl rfl rfl rfl (by kernel_rfl) rfl rfl (fun w => by kernel_rfl) (fun b6 => ?_)))))))))
  refine .cons (st_app (E := eY) (m := [34]) rfl rfl rfl rfl Try.underlying36 ai5 rfl rfl rfl (.t (.t .h)) (by first | rfl | omega | simp) (row_src 0 rfl) (by first | ((try simp only [List.length_nil, List.length_cons, List.length_append, List.length_set, List.length_singleton, List.length_take, List.length_drop, List.length_reverse]) <;> omega) | omega) rfl (fun v7 => .cons (Ev.step (ev_as rfl rfl) rfl rfl rfl (.go (fun _ _ h => h) (.seq (.seq (.region ?_)))))))
  refine .cons (Ev.step (ev_as rfl rfl) rfl rfl rfl (.go (fun _ _ h => h) (.block ?_)))
  refine .loop (X := Int × (List Int) × Value) (fun ⟨i, O, U⟩ => 0 ≤ i ∧ i ≤ s.size ∧ O ++ quoF ((bs s).drop i.toNat) = (o ++ [34] ++ quoF (bs s)) ∧ (O.length : Int) ≤ o.length + 1 + 6 * i) (fun ⟨i, O, U⟩ => [(0, U), (5, .string ⟨#[48, 49, 50, 51, 52, 53, 54, 55, 56, 57, 97, 98, 99, 100, 101, 102]⟩), (6, .slice (some ⟨b1, 0, none⟩) s.size c2), (7, .int .i64 i)]) (fun ⟨i, O, U⟩ => [rw_ eY 5 (U) O, ro_ eY 5 (.slice (some ⟨b1, 0, none⟩) s.size c2) (bs s)]) (fun _ => S) (fun _ => wf) (fun ⟨i, O, U⟩ => (s.size - i.toNat)) (fun a_ w_ hs_ hw_ => ⟨⟨0, (o ++ [34]), v7⟩, (by exact ⟨by omega, by omega, rfl, by simp only [List.length_append, List.length_cons, List.length_nil]; omega⟩), hs_.mono (Sub.get (.c rfl (.c rfl (.c rfl (.c rfl .n))))), hw_.keep (.c .h (.c (.t .h) .n))⟩) (fun ⟨i, O, U⟩ ⟨q_0, q_1, q_2, q_3⟩ => ?_)
  show SC _ _ _ _ _ ⟨[(0, U), (5, .string ⟨#[48, 49, 50, 51, 52, 53, 54, 55, 56, 57, 97, 98, 99, 100, 101, 102]⟩), (6, .slice (some ⟨b1, 0, none⟩) s.size c2), (7, .int .i64 i)], [rw_ eY 5 (U) O, ro_ eY 5 (.slice (some ⟨b1, 0, none⟩) s.size c2) (bs s)], S, wf⟩
  refine .seq (.seq (.region (.cons (Ev.step (ev_mv rfl rfl) rfl rfl rfl (.cons (Ev.step (ev_mv rfl rfl) rfl rfl rfl (.cons (Ev.step (ev_len rfl Try.underlying36 rfl) rfl rfl rfl ?_))))))))
  refine .cons (Ev.step (ev_cmp rfl rfl rfl rfl) rfl rfl rfl (.go (fun _ _ h => h) (.condI rfl bD (fun h8 => ?_) (fun h8 => ?_))))
  ·
    refine .skipgo (fun _ _ h => h) (.block (.seq (.region (.cons (Ev.step (ev_mv rfl rfl) rfl rfl rfl (.cons (Ev.step (ev_mv rfl rfl) rfl rfl rfl ?_)))))))
    refine .cons (Ev.step (ev_slc rfl Try.underlying36 ty5 rfl (.s rfl (by omega)) .n (by omega) (by omega)) rfl rfl rfl (.cons (st_lendk rfl rfl rfl rfl hb46 rfl .n (.c (.t .h) .n) (fun w_ hw => rune (cutA (some ⟨b1, 0, none⟩) c2 (i).toNat 1) (s.size - (i).toNat) (c2 - (i).toNat) (((bs s).take s.size).drop (i).toNat) _ _ (Fr.view (Fr.lendo hw 0 rfl (by first | ((try simp only [List.length_nil, List.length_cons, List.length_append, List.length_set, List.length_singleton, List.length_take, List.length_drop, List.length_reverse]) <;> omega) | omega)) (i).toNat s.size 1 rfl (by omega)) (by first | ((try simp only [List.length_nil, List.length_cons, List.length_append, List.length_set, List.length_singleton, List.length_take, List.length_drop, List.length_reverse]) <;> omega) | omega) (rng_drop (rng_take (bs_range _) _) _) (by omega)) (.cons (Ev.step (ev_as rfl rfl) rfl rfl rfl (.go (fun _ _ h => h) (.seq ?_)))))))
    have hrb := rune_bd (s := s) (i := i) q_0 (by omega)
    refine .region (.cons (Ev.step (ev_mv rfl rfl) rfl rfl rfl (.cons (Ev.step (ev_mv rfl rfl) rfl rfl rfl (.cons (Ev.step (ev_ix rfl Try.underlying36 ty5 rfl rfl (by omega) (by omega) (ro_adr (i := i) 1 rfl (by omega) (by first | ((try simp only [List.length_nil, List.length_cons, List.length_append, List.length_set, List.length_singleton, List.length_take, List.length_drop, List.length_reverse]) <;> omega) | omega))) rfl rfl rfl (.cons (Ev.step (ev_ld1 rfl ty5 rfl (At.elem1 (ro_el (E := eY) (l := (bs s)) (i := i) 1 rfl (by omega) (by first | ((try simp only [List.length_nil, List.length_cons, List.length_append, List.length_set, List.length_singleton, List.length_take, List.length_drop, List.length_reverse]) <;> omega) | omega)) 0 rfl)) rfl rfl rfl (.cons (Ev.step (ev_as rfl rfl) rfl rfl rfl ?_))))))))))
    refine .go (fun _ _ h => h) (.seq (.block (.seq (.region (.cons (Ev.step (ev_mv rfl rfl) rfl rfl rfl ?_))))))
    refine .cons (Ev.step (ev_cmp rfl rfl rfl rfl) rfl rfl rfl (.cons (Ev.step (ev_as rfl rfl) rfl rfl rfl (.go (fun _ _ h => h) (.condI rfl bE (fun h9 => ?_) (fun h9 => ?_))))))
    ·
      refine .seq (.region (.cons (Ev.step (ev_mv rfl rfl) rfl rfl rfl (.cons (st_lit eY (e := 5) (l := [239, 191, 189]) rfl rfl rfl rfl (by kernel_rfl) rfl rfl (fun w => by kernel_rfl) (fun b10 => .cons (st_app (E := eY) (m := [239, 191, 189]) rfl rfl rfl rfl Try.underlying36 ai5 rfl rfl rfl (.t .h) (by first | rfl | omega | simp) (row_src 0 rfl) (by first | ((try simp only [List.length_nil, List.length_cons, List.length_append, List.length_set, List.length_singleton, List.length_take, List.length_drop, List.length_reverse]) <;> omega) | omega) rfl (fun v11 => .cons (Ev.step (ev_as rfl rfl) rfl rfl rfl ?_)))))))))
      refine .go (fun _ _ h => h) (.region (.cons (Ev.step (ev_as rfl rfl) rfl rfl rfl (.go (fun _ _ h => h) (.region (.cons (Ev.step (ev_mv rfl rfl) rfl rfl rfl ?_)))))))
      exact .cons (Ev.step (ev_mv rfl rfl) rfl rfl rfl (.cons (Ev.step (ev_add rfl rfl rfl (r := (i + 1)) rfl (by omega) (by omega)) rfl rfl rfl (.cons (Ev.step (ev_as rfl rfl) rfl rfl rfl (SP.nil (SQ.roundb (X := Int × (List Int) × Value) (x := (i, O, U)) ⟨(i + 1), (O ++ [239, 191, 189]), v11⟩ (by exact ⟨by omega, by omega, quo_go q_2 q_0 (by omega) (by omega) (qg_bad (by assumption)), by simp only [List.length_append, List.length_cons, List.length_nil, List.length_take, List.length_drop]; omega⟩) (by dsimp only; omega) (Sub.get (.c rfl (.c rfl (.c rfl (.c rfl .n))))) (fun w hw => hw.keep (.c .h (.c (.t .h) .n))))))))))
    ·
      refine .seq (.region (.cons (Ev.step (ev_mv rfl rfl) rfl rfl rfl (.cons (Ev.step (ev_cmp rfl rfl rfl rfl) rfl rfl rfl (.cons (Ev.step (ev_mv rfl rfl) rfl rfl rfl (.cons (Ev.gstep (fun _ => ev_mv rfl rfl) rfl rfl rfl rfl rfl ?_)))))))))
      refine .cons (Ev.gstep (fun hb => ev_cmp rfl (lkg rfl hb) rfl rfl) rfl rfl rfl rfl rfl (.cons (Ev.step (ev_or rfl rfl rfl rfl) rfl rfl rfl (.cons (Ev.step (ev_as rfl rfl) rfl rfl rfl (.go (fun _ _ h => h) (.condI rfl (bO bE bE) (fun h12 => ?_) (fun h12 => ?_))))))))
      ·
        refine .region (.cons (Ev.step (ev_mv rfl rfl) rfl rfl rfl (.cons (Ev.step (ev_mv rfl rfl) rfl rfl rfl (.cons (st_lit eY (e := 5) (l := [92, (gt (bs s) i)]) rfl rfl rfl rfl (by kernel_rfl) rfl rfl (fun w => by kernel_rfl) (fun b13 => .cons (st_app (E := eY) (m := [92, (gt (bs s) i)]) rfl rfl rfl rfl Try.underlying36 ai5 rfl rfl rfl (.t .h) (by first | rfl | omega | simp) (row_src 0 rfl) (by first | ((try simp only [List.length_nil, List.length_cons, List.length_append, List.length_set, List.length_singleton, List.length_take, List.length_drop, List.length_reverse]) <;> omega) | omega) rfl (fun v14 => .cons (Ev.step (ev_as rfl rfl) rfl rfl rfl ?_))))))))))
        refine .go (fun _ _ h => h) (.region (.cons (Ev.step (ev_mv rfl rfl) rfl rfl rfl (.cons (Ev.step (ev_mv rfl rfl) rfl rfl rfl (.cons (Ev.step (ev_add rfl rfl rfl (r := (i + (runeF (((bs s).take s.size).drop (i).toNat)))) rfl (by omega) (by omega)) rfl rfl rfl (.cons (Ev.step (ev_as rfl rfl) rfl rfl rfl ?_)))))))))
        exact SP.nil (SQ.roundb (X := Int × (List Int) × Value) (x := (i, O, U)) ⟨(i + (runeF (((bs s).take s.size).drop (i).toNat))), (O ++ [92, (gt (bs s) i)]), v14⟩ (by exact ⟨by omega, by omega, quo_go q_2 q_0 (by omega) (by omega) (qg_mark q_0 (by assumption) (by assumption)), by simp only [List.length_append, List.length_cons, List.length_nil, List.length_take, List.length_drop]; omega⟩) (by dsimp only; omega) (Sub.get (.c rfl (.c rfl (.c rfl (.c rfl .n))))) (fun w hw => hw.keep (.c .h (.c (.t .h) .n))))
      ·
        refine .seq (.region (.cons (Ev.step (ev_mv rfl rfl) rfl rfl rfl (.cons (Ev.step (ev_cmp rfl rfl rfl rfl) rfl rfl rfl (.cons (Ev.step (ev_as rfl rfl) rfl rfl rfl (.go (fun _ _ h => h) ?_))))))))
        refine .condI rfl bD (fun h15 => ?_) (fun h15 => ?_)
        ·
          have hrg := gt_range (bs_range s) i
          unfold isB at hrg
          refine SC.draw mo [rw_ eY 5 (U) O] [] (.c .h .n) (fun _ _ _ c hc => by cases hc) (fun wf_16 hl_16 hx_16 hR_16 => ?_)
          refine SR.take 0 rfl (by kernel_rfl) (by kernel_rfl) (by kernel_rfl) rfl (fun _ _ _ h => h) rfl rfl rfl (ev_mv rfl rfl) (SR.take 1 rfl (by kernel_rfl) (by kernel_rfl) (by kernel_rfl) rfl (fun _ _ _ h => h) rfl rfl rfl (ev_mv rfl rfl) (SR.take 2 rfl (by kernel_rfl) (by kernel_rfl) (by kernel_rfl) rfl (fun _ _ _ h => h) rfl rfl rfl (ev_mv rfl rfl) (SR.take 3 rfl (by kernel_rfl) (by kernel_rfl) (by kernel_rfl) rfl (fun _ _ _ h => h) rfl rfl rfl (ev_quon rfl rfl rfl (by omega) (by decide) (by first | exact wrap_small (by omega) (by omega) | exact wrap_in (by omega) (by omega))) (SR.take 4 rfl (by kernel_rfl) (by kernel_rfl) (by kernel_rfl) rfl (fun _ _ _ h => h) rfl rfl rfl (ev_ixs rfl Try.underlying9 rfl rfl (by omega) (by show _ < ((16 : Nat) : Int); omega)) (SR.take 5 rfl (by kernel_rfl) (by kernel_rfl) (by kernel_rfl) rfl (fun _ _ _ h => h) rfl rfl rfl (ev_mv rfl rfl) ?_)))))
          refine SR.take 6 rfl (by kernel_rfl) (by kernel_rfl) (by kernel_rfl) rfl (fun _ _ _ h => h) rfl rfl rfl (ev_mv rfl rfl) (SR.take 7 rfl (by kernel_rfl) (by kernel_rfl) (by kernel_rfl) rfl (fun _ _ _ h => h) rfl rfl rfl (ev_remn rfl rfl rfl (by omega) (by decide) ) (SR.take 8 rfl (by kernel_rfl) (by kernel_rfl) (by kernel_rfl) rfl (fun _ _ _ h => h) rfl rfl rfl (ev_ixs rfl Try.underlying9 rfl rfl (by omega) (by show _ < ((16 : Nat) : Int); omega)) (SR.one (j := 9) (by kernel_rfl) rfl (st_lit eY (e := 5) (l := [92, 117, 48, 48, (gt (bs ⟨#[48, 49, 50, 51, 52, 53, 54, 55, 56, 57, 97, 98, 99, 100, 101, 102]⟩) ((gt (bs s) i) / 16)), (gt (bs ⟨#[48, 49, 50, 51, 52, 53, 54, 55, 56, 57, 97, 98, 99, 100, 101, 102]⟩) ((gt (bs s) i) % 16))]) rfl rfl rfl rfl (by kernel_rfl) rfl rfl (fun w => by kernel_rfl) (fun b17 => ⟨tt0, (SR.one (j := 10) (by kernel_rfl) rfl (st_app (E := eY) (m := [92, 117, 48, 48, (gt (bs ⟨#[48, 49, 50, 51, 52, 53, 54, 55, 56, 57, 97, 98, 99, 100, 101, 102]⟩) ((gt (bs s) i) / 16)), (gt (bs ⟨#[48, 49, 50, 51, 52, 53, 54, 55, 56, 57, 97, 98, 99, 100, 101, 102]⟩) ((gt (bs s) i) % 16))]) rfl rfl rfl rfl Try.underlying36 ai5 rfl rfl rfl (.t .h) (by first | rfl | omega | simp) (row_src 0 rfl) (by first | ((try simp only [List.length_nil, List.length_cons, List.length_append, List.length_set, List.length_singleton, List.length_take, List.length_drop, List.length_reverse]) <;> omega) | omega) rfl (fun v18 => ⟨tt0, (SR.take 11 rfl (by kernel_rfl) (by kernel_rfl) (by kernel_rfl) rfl (fun _ _ _ h => h) rfl rfl rfl (ev_as rfl rfl) ?_)⟩)))⟩)))))
          refine SR.fin (by kernel_rfl) hl_16 hx_16 hR_16 (.c (.c .n)) (SQ.go (fun _ _ h => h) (.region (.cons (Ev.step (ev_mv rfl rfl) rfl rfl rfl (.cons (Ev.step (ev_mv rfl rfl) rfl rfl rfl (.cons (Ev.step (ev_add rfl rfl rfl (r := (i + (runeF (((bs s).take s.size).drop (i).toNat)))) rfl (by omega) (by omega)) rfl rfl rfl ?_))))))))
          exact .cons (Ev.step (ev_as rfl rfl) rfl rfl rfl (SP.nil (SQ.roundb (X := Int × (List Int) × Value) (x := (i, O, U)) ⟨(i + (runeF (((bs s).take s.size).drop (i).toNat))), (O ++ [92, 117, 48, 48, (gt (bs ⟨#[48, 49, 50, 51, 52, 53, 54, 55, 56, 57, 97, 98, 99, 100, 101, 102]⟩) ((gt (bs s) i) / 16)), (gt (bs ⟨#[48, 49, 50, 51, 52, 53, 54, 55, 56, 57, 97, 98, 99, 100, 101, 102]⟩) ((gt (bs s) i) % 16))]), v18⟩ (by exact ⟨by omega, by omega, quo_go q_2 q_0 (by omega) (by omega) (qg_low q_0 (by assumption) (by assumption) (by assumption)), by simp only [List.length_append, List.length_cons, List.length_nil, List.length_take, List.length_drop]; omega⟩) (by dsimp only; omega) (Sub.get (.c rfl (.c rfl (.c rfl (.c rfl .n))))) (fun w hw => hw.keep (.c .h (.c (.t .h) .n))))))
        ·
          refine .region (.cons (Ev.step (ev_mv rfl rfl) rfl rfl rfl (.cons (Ev.step (ev_mv rfl rfl) rfl rfl rfl (.cons (Ev.step (ev_mv rfl rfl) rfl rfl rfl (.cons (Ev.step (ev_mv rfl rfl) rfl rfl rfl (.cons (Ev.step (ev_mv rfl rfl) rfl rfl rfl ?_))))))))))
          refine .cons (Ev.step (ev_add rfl rfl rfl (r := (i + (runeF (((bs s).take s.size).drop (i).toNat)))) rfl (by omega) (by omega)) rfl rfl rfl (.cons (Ev.step (ev_slc rfl Try.underlying36 ty5 rfl (.s rfl (by omega)) (.s rfl (by omega)) (by omega) (by omega)) rfl rfl rfl (.cons (st_app (E := eY) (m := (((bs s).take ((i + (runeF (((bs s).take s.size).drop (i).toNat)))).toNat).drop (i).toNat)) rfl rfl rfl rfl Try.underlying36 ai5 rfl rfl rfl .h (by (try simp only [List.length_take, List.length_drop]) <;> omega) (srcv 1 rfl (fun _ h_ => Fr.view (Fr.of_ro h_ (fun _ h => h) (by first | ((try simp only [List.length_nil, List.length_cons, List.length_append, List.length_set, List.length_singleton, List.length_take, List.length_drop, List.length_reverse]) <;> omega) | omega)) (i).toNat ((i + (runeF (((bs s).take s.size).drop (i).toNat)))).toNat 1 rfl (by omega))) (by first | ((try simp only [List.length_nil, List.length_cons, List.length_append, List.length_set, List.length_singleton, List.length_take, List.length_drop, List.length_reverse]) <;> omega) | omega) rfl (fun v19 => .cons (Ev.step (ev_as rfl rfl) rfl rfl rfl (.go (fun _ _ h => h) (.region ?_)))))))))
          exact .cons (Ev.step (ev_mv rfl rfl) rfl rfl rfl (.cons (Ev.step (ev_mv rfl rfl) rfl rfl rfl (.cons (Ev.step (ev_add rfl rfl rfl (r := (i + (runeF (((bs s).take s.size).drop (i).toNat)))) rfl (by omega) (by omega)) rfl rfl rfl (.cons (Ev.step (ev_as rfl rfl) rfl rfl rfl (SP.nil (SQ.roundb (X := Int × (List Int) × Value) (x := (i, O, U)) ⟨(i + (runeF (((bs s).take s.size).drop (i).toNat))), (O ++ (((bs s).take ((i + (runeF (((bs s).take s.size).drop (i).toNat)))).toNat).drop (i).toNat)), v19⟩ (by exact ⟨by omega, by omega, quo_go q_2 q_0 (by omega) (by omega) (qg_raw q_0 (by assumption) (by assumption) (by assumption) (by omega) rfl), by simp only [List.length_append, List.length_cons, List.length_nil, List.length_take, List.length_drop]; omega⟩) (by dsimp only; omega) (Sub.get (.c rfl (.c rfl (.c rfl (.c rfl .n))))) (fun w hw => hw.keep (.c .h (.c .h .n))))))))))))
  ·
    refine .exit (fun _ _ h => h) (.seq (.region (.cons (Ev.step (ev_mv rfl rfl) rfl rfl rfl (.cons (st_lit eY (e := 5) (l := [34]) rfl rfl rfl rfl (by kernel_rfl) rfl rfl (fun w => by kernel_rfl) (fun b20 => .cons (st_app (E := eY) (m := [34]) rfl rfl rfl rfl Try.underlying36 ai5 rfl rfl rfl (.t .h) (by first | rfl | omega | simp) (row_src 0 rfl) (by first | ((try simp only [List.length_nil, List.length_cons, List.length_append, List.length_set, List.length_singleton, List.length_take, List.length_drop, List.length_reverse]) <;> omega) | omega) rfl (fun v21 => ?_)))))))))
    exact .cons (Ev.step (ev_as rfl rfl) rfl rfl rfl (.go (fun _ _ h => h) (.ret (fun _ _ h => h) (ret1 Try.results52 rfl (.c .h .n) ⟨v21, rfl, (by rw [quo_end q_2 (by omega), quoteF]; simp)⟩))))

theorem numtxt0 (a : Int) (S : Nat → Prop) (wf : World) (h0 : 0 ≤ a) (h1 : a ≤ 9223372036854775807) :
    TR0 Try.prog 51 [.int .i64 a] [] S wf (fun v_ C_ => v_ = .string (numS a) ∧ C_ = []) := by
  refine TR.mk Try.func51 rfl Try.ntmps51 rfl rfl (fun w_ => ?_)
  refine .seq (.region (.cons (Ev.step (ev_as rfl rfl) rfl rfl rfl (.go (fun _ _ h => h) (.seq (.seq ?_))))))
  refine .region (.cons (Ev.step (ev_mv rfl rfl) rfl rfl rfl (.cons (Ev.step (ev_cmp rfl rfl rfl rfl) rfl rfl rfl (.go (fun _ _ h => h) (.condI rfl bE (fun h1 => ?_) (fun h1 => ?_)))))))
  ·
    exfalso; omega
  ·
    refine .skipgo (fun _ _ h => h) (.seq (.seq (.region (.cons (Ev.step (ev_mv rfl rfl) rfl rfl rfl (.cons (Ev.step (ev_cmp rfl rfl rfl rfl) rfl rfl rfl ?_)))))))
    refine .go (fun _ _ h => h) (.condI rfl bD (fun h2 => ?_) (fun h2 => ?_))
    ·
      exfalso; omega
    ·
      refine .skipgo (fun _ _ h => h) (.seq (.region (.cons (Ev.step (ev_as rfl rfl) rfl rfl rfl (.go (fun _ _ h => h) (.block ?_))))))
      refine .loop (X := Int × ByteArray) (fun ⟨x, s⟩ => 0 ≤ x ∧ x ≤ a ∧ decL x.toNat ++ bs s = decL a.toNat ∧ (s.size : Int) + x ≤ a ∧ (s.size = 0 ∨ 1 ≤ x)) (fun ⟨x, s⟩ => [(0, .int .i64 x), (3, .string s)]) (fun ⟨x, s⟩ => []) (fun _ => S) (fun _ => wf) (fun ⟨x, s⟩ => x.toNat) (fun a_ w_ hs_ hw_ => ⟨⟨a, ⟨#[]⟩⟩, (by exact ⟨by omega, by omega, by rw [show bs ⟨#[]⟩ = [] from rfl, List.append_nil], by show ((0 : Nat) : Int) + a ≤ a; omega, .inl rfl⟩), hs_.mono (Sub.get (.c rfl (.c rfl .n))), hw_.keep .n⟩) (fun ⟨x, s⟩ ⟨q_0, q_1, q_2, q_3, q_4⟩ => ?_)
      show SC _ _ _ _ _ ⟨[(0, .int .i64 x), (3, .string s)], [], S, wf⟩
      refine .block (.seq (.region (.cons (Ev.step (ev_mv rfl rfl) rfl rfl rfl (.cons (Ev.step (ev_remn rfl rfl rfl (by omega) (by decide) ) rfl rfl rfl (.cons (Ev.step (ev_add rfl rfl rfl (r := (48 + (x % 10))) rfl (by omega) (by omega)) rfl rfl rfl ?_))))))))
      refine .cons (Ev.step (ev_cv rfl Try.underlying3 Try.underlying5 rfl (wrap_small (by omega) (by omega))) rfl rfl rfl (.cons (st_lit eY (e := 5) (l := [(48 + (x % 10))]) rfl rfl rfl rfl (by kernel_rfl) rfl rfl (fun w => by kernel_rfl) (fun b3 => .cons (Ev.step (ev_b2s (l := [(48 + (x % 10))]) rfl Try.underlying36 Try.underlying5 Try.underlying9 rfl (by first | rfl | assumption | omega | ((try simp only [List.length_take, List.length_drop, List.length_append, List.length_cons, List.length_nil]) <;> omega)) (row_src 0 rfl)) rfl rfl rfl (.cons (Ev.step (ev_mv rfl rfl) rfl rfl rfl (.cons (Ev.step (ev_sadd rfl rfl rfl (by first | omega | (simp only [mkS_size, List.length_cons, List.length_nil]; omega))) rfl rfl rfl (.cons (Ev.step (ev_as rfl rfl) rfl rfl rfl ?_)))))))))))
      refine .go (fun _ _ h => h) (.seq (.region (.cons (Ev.step (ev_mv rfl rfl) rfl rfl rfl (.cons (Ev.step (ev_quon rfl rfl rfl (by omega) (by decide) (by first | exact wrap_small (by omega) (by omega) | exact wrap_in (by omega) (by omega))) rfl rfl rfl (.cons (Ev.step (ev_as rfl rfl) rfl rfl rfl ?_))))))))
      refine .go (fun _ _ h => h) (.seq (.region (.cons (Ev.step (ev_mv rfl rfl) rfl rfl rfl (.cons (Ev.step (ev_cmp rfl rfl rfl rfl) rfl rfl rfl (.go (fun _ _ h => h) ?_)))))))
      refine .condI rfl bE (fun h4 => ?_) (fun h4 => ?_)
      ·
        exact .seq (.region (.cons (Ev.step (ev_mv rfl rfl) rfl rfl rfl (.cons (Ev.step (ev_as rfl rfl) rfl rfl rfl (.go (fun _ _ h => h) (.ret (fun _ _ h => h) (ret1 Try.results51 rfl .n ⟨(congrArg Value.string (num_done q_2 (by omega) (by omega) (by omega))), rfl⟩))))))))
      ·
        exact .skip (SQ.roundb (X := Int × ByteArray) (x := (x, s)) ⟨(x / 10), ((mkS [(48 + (x % 10))]) ++ s)⟩ (by exact ⟨by omega, by omega, num_next q_2 (by omega) (by assumption), by rw [dig_size]; omega, .inr (by omega)⟩) (by dsimp only; omega) (Sub.get (.c rfl (.c rfl .n))) (fun w hw => hw.keep .n))

theorem numtxt (a : Int) (S : Nat → Prop) (wf : World) (h_a : -9223372036854775808 ≤ a ∧ a ≤ 9223372036854775807) :
    TR0 Try.prog 51 [.int .i64 a] [] S wf (fun v_ C_ => v_ = .string (numS a) ∧ C_ = []) := by
  refine TR.mk Try.func51 rfl Try.ntmps51 rfl rfl (fun w_ => ?_)
  refine .seq (.region (.cons (Ev.step (ev_as rfl rfl) rfl rfl rfl (.go (fun _ _ h => h) (.seq (.seq ?_))))))
  refine .region (.cons (Ev.step (ev_mv rfl rfl) rfl rfl rfl (.cons (Ev.step (ev_cmp rfl rfl rfl rfl) rfl rfl rfl (.go (fun _ _ h => h) (.condI rfl bE (fun h1 => ?_) (fun h1 => ?_)))))))
  ·
    exact .seq (.region (.cons (Ev.step (ev_as rfl rfl) rfl rfl rfl (.go (fun _ _ h => h) (.ret (fun _ _ h => h) (ret1 Try.results51 rfl .n ⟨(congrArg Value.string (by rw [show a = -9223372036854775808 by omega]; exact num_min)), rfl⟩))))))
  ·
    refine .skipgo (fun _ _ h => h) (.seq (.seq (.region (.cons (Ev.step (ev_mv rfl rfl) rfl rfl rfl (.cons (Ev.step (ev_cmp rfl rfl rfl rfl) rfl rfl rfl ?_)))))))
    refine .go (fun _ _ h => h) (.condI rfl bD (fun h2 => ?_) (fun h2 => ?_))
    ·
      refine .seq ?_
      have hns := numS_size (a := -a) (by omega) (by omega)
      refine .region (.cons (Ev.step (ev_mv rfl rfl) rfl rfl rfl (.cons (Ev.step (ev_neg rfl rfl (by omega) (by omega)) rfl rfl rfl (.cons (st_callk rfl rfl rfl rfl hb51 rfl .n (numtxt0 (-a) _ _ (by omega) (by omega)) (.cons (Ev.step (ev_sadd rfl rfl rfl (by show (((1 : Nat) + (_ : Nat) : Nat) : Int) ≤ 9223372036854775807; first | omega | (simp only [mkS_size, List.length_cons, List.length_nil]; omega))) rfl rfl rfl (.cons (Ev.step (ev_as rfl rfl) rfl rfl rfl ?_))))))))))
      exact .go (fun _ _ h => h) (.ret (fun _ _ h => h) (ret1 Try.results51 rfl .n ⟨(congrArg Value.string (num_neg (by omega))), rfl⟩))
    ·
      refine .skipgo (fun _ _ h => h) (.seq (.region (.cons (Ev.step (ev_as rfl rfl) rfl rfl rfl (.go (fun _ _ h => h) (.block ?_))))))
      refine .loop (X := Int × ByteArray) (fun ⟨x, s⟩ => 0 ≤ x ∧ x ≤ a ∧ decL x.toNat ++ bs s = decL a.toNat ∧ (s.size : Int) + x ≤ a ∧ (s.size = 0 ∨ 1 ≤ x)) (fun ⟨x, s⟩ => [(0, .int .i64 x), (3, .string s)]) (fun ⟨x, s⟩ => []) (fun _ => S) (fun _ => wf) (fun ⟨x, s⟩ => x.toNat) (fun a_ w_ hs_ hw_ => ⟨⟨a, ⟨#[]⟩⟩, (by exact ⟨by omega, by omega, by rw [show bs ⟨#[]⟩ = [] from rfl, List.append_nil], by show ((0 : Nat) : Int) + a ≤ a; omega, .inl rfl⟩), hs_.mono (Sub.get (.c rfl (.c rfl .n))), hw_.keep .n⟩) (fun ⟨x, s⟩ ⟨q_0, q_1, q_2, q_3, q_4⟩ => ?_)
      show SC _ _ _ _ _ ⟨[(0, .int .i64 x), (3, .string s)], [], S, wf⟩
      refine .block (.seq (.region (.cons (Ev.step (ev_mv rfl rfl) rfl rfl rfl (.cons (Ev.step (ev_remn rfl rfl rfl (by omega) (by decide) ) rfl rfl rfl (.cons (Ev.step (ev_add rfl rfl rfl (r := (48 + (x % 10))) rfl (by omega) (by omega)) rfl rfl rfl ?_))))))))
      refine .cons (Ev.step (ev_cv rfl Try.underlying3 Try.underlying5 rfl (wrap_small (by omega) (by omega))) rfl rfl rfl (.cons (st_lit eY (e := 5) (l := [(48 + (x % 10))]) rfl rfl rfl rfl (by kernel_rfl) rfl rfl (fun w => by kernel_rfl) (fun b3 => .cons (Ev.step (ev_b2s (l := [(48 + (x % 10))]) rfl Try.underlying36 Try.underlying5 Try.underlying9 rfl (by first | rfl | assumption | omega | ((try simp only [List.length_take, List.length_drop, List.length_append, List.length_cons, List.length_nil]) <;> omega)) (row_src 0 rfl)) rfl rfl rfl (.cons (Ev.step (ev_mv rfl rfl) rfl rfl rfl (.cons (Ev.step (ev_sadd rfl rfl rfl (by first | omega | (simp only [mkS_size, List.length_cons, List.length_nil]; omega))) rfl rfl rfl (.cons (Ev.step (ev_as rfl rfl) rfl rfl rfl ?_)))))))))))
      refine .go (fun _ _ h => h) (.seq (.region (.cons (Ev.step (ev_mv rfl rfl) rfl rfl rfl (.cons (Ev.step (ev_quon rfl rfl rfl (by omega) (by decide) (by first | exact wrap_small (by omega) (by omega) | exact wrap_in (by omega) (by omega))) rfl rfl rfl (.cons (Ev.step (ev_as rfl rfl) rfl rfl rfl ?_))))))))
      refine .go (fun _ _ h => h) (.seq (.region (.cons (Ev.step (ev_mv rfl rfl) rfl rfl rfl (.cons (Ev.step (ev_cmp rfl rfl rfl rfl) rfl rfl rfl (.go (fun _ _ h => h) ?_)))))))
      refine .condI rfl bE (fun h4 => ?_) (fun h4 => ?_)
      ·
        exact .seq (.region (.cons (Ev.step (ev_mv rfl rfl) rfl rfl rfl (.cons (Ev.step (ev_as rfl rfl) rfl rfl rfl (.go (fun _ _ h => h) (.ret (fun _ _ h => h) (ret1 Try.results51 rfl .n ⟨(congrArg Value.string (num_done q_2 (by omega) (by omega) (by omega))), rfl⟩))))))))
      ·
        exact .skip (SQ.roundb (X := Int × ByteArray) (x := (x, s)) ⟨(x / 10), ((mkS [(48 + (x % 10))]) ++ s)⟩ (by exact ⟨by omega, by omega, num_next q_2 (by omega) (by assumption), by rw [dig_size]; omega, .inr (by omega)⟩) (by dsimp only; omega) (Sub.get (.c rfl (.c rfl .n))) (fun w hw => hw.keep .n))

end Go.Proofs.Ythmkelkefmfmgaa.Sx
