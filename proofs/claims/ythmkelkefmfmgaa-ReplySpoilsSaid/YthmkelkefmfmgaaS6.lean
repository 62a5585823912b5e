import Derived.Test.YthmkelkefmfmgaaProg
import Derived.Test.YthmkelkefmfmgaaS5
set_option linter.unusedVariables false
set_option linter.unusedSimpArgs false
set_option linter.unusedSectionVars false
set_option maxRecDepth 20000
set_option maxHeartbeats 4000000
namespace Go.Proofs.Ythmkelkefmfmgaa.Sx.FPC
open Go Go.SX Go.Proofs
theorem fo86_1 : fo Try.prog 86 1 = some 1 := by kernel_rfl
theorem ty3 : ty Try.prog 3 = some (false, 1) := by kernel_rfl
theorem fo86_0 : fo Try.prog 86 0 = some 0 := by kernel_rfl
theorem ty36 : ty Try.prog 36 = some (false, 1) := by kernel_rfl
theorem mo : Try.prog.follows .mixedOrders = true := by kernel_rfl
theorem ty5 : ty Try.prog 5 = some (false, 1) := by kernel_rfl
theorem hbd71 : hasBody Try.prog 71 = true := by kernel_rfl
theorem hbd38 : hasBody Try.prog 38 = true := by kernel_rfl
theorem hbd54 : hasBody Try.prog 54 = true := by kernel_rfl
theorem fo86_2 : fo Try.prog 86 2 = some 2 := by kernel_rfl
theorem hbd57 : hasBody Try.prog 57 = true := by kernel_rfl
theorem fo90_4 : fo Try.prog 90 4 = some 4 := by kernel_rfl
theorem ty82 : ty Try.prog 82 = some (false, 1) := by kernel_rfl
theorem ty9 : ty Try.prog 9 = some (false, 1) := by kernel_rfl
theorem ai9 : (Try.prog.info? 9).map (fun i => (i.zero, i.size, i.bytes)) = some (some (.string ⟨#[]⟩), 1, 16) := by kernel_rfl
end Go.Proofs.Ythmkelkefmfmgaa.Sx.FPC
namespace Go.Proofs.Ythmkelkefmfmgaa.Sx
open Go Go.SX Go.Proofs FPC
theorem parse1_ (s : ByteArray) (S : Nat → Prop) (wf : World) (hs : s.size ≤ 100000) :
  TR0 Try.prog 71 [.string s] [] S wf (fun v_ C_ => ∃ (r : Int) (e : Int), ((r, e) = parse1 (bs s)) ∧ (-4611686018427387903 ≤ r ∧ r ≤ 4611686018427387903) ∧ v_ = .tuple #[.int .i64 r, .int .i64 e] ∧ C_ = []) := by
 have hbs := bs_len s
 refine TR.mk Try.func71 rfl Try.ntmps71 rfl rfl (fun w_ => ?_)
 refine .seq (.region ?_)
 refine .v (ev_as rfl rfl) rfl ?_
 refine .v (ev_as rfl rfl) rfl ?_
 refine .go idQ (.seq (.region ?_))
 refine .v (ev_as rfl rfl) rfl ?_
 refine .go idQ (.seq (.seq (.region ?_)))
 refine .v (ev_mv rfl rfl) rfl ?_
 refine .v (ev_lens rfl Try.underlying9 rfl) rfl ?_
 refine .v (ev_cmp rfl rfl rfl rfl) rfl ?_
 refine .v (ev_mv rfl rfl) rfl ?_
 refine .w (fun _ => ev_mv rfl rfl) rfl ?_
 refine .w (fun hb => have hp := bT bD hb; ev_ixs rfl Try.underlying9 (lkg rfl hb) rfl (by have _h := hp; omega) (by first | omega | (rw [bs_len]; omega) | decide)) rfl ?_
 refine .w (fun hb => ev_cmp rfl (lkg rfl hb) rfl rfl) rfl ?_
 refine .v (ev_and rfl rfl rfl rfl) rfl ?_
 refine .go idQ ?_
 refine .condI rfl (bA bD bE) (fun h1 => ?_) (fun h1 => ?_)
 ·
  refine .region ?_
  refine .v (ev_as rfl rfl) rfl ?_
  refine .go idQ (.seq (.seq ?_))
  have hsg : sgn (bs s) = 1 := sgn_1 (by rw [bs_len]; assumption)
  refine .region ?_
  refine .v (ev_mv rfl rfl) rfl ?_
  refine .v (ev_mv rfl rfl) rfl ?_
  refine .v (ev_lens rfl Try.underlying9 rfl) rfl ?_
  refine .v (ev_cmp rfl rfl rfl rfl) rfl ?_
  refine .go idQ ?_
  refine .condI rfl bE (fun h2 => ?_) (fun h2 => ?_)
  ·
   refine .seq (.region ?_)
   refine .v (ev_as rfl rfl) rfl ?_
   refine .v (ev_as rfl rfl) rfl ?_
   refine .go idQ ?_
   exact .ret idQ (ret2 Try.results71 rfl rfl .n ⟨0, 11, p1_1 hsg (by rw [bs_len]; omega), (by omega), rfl, rfl⟩)
  refine .skipgo idQ (.seq (.seq (.region ?_)))
  refine .v (ev_mv rfl rfl) rfl ?_
  refine .v (ev_as rfl rfl) rfl ?_
  refine .go idQ (.block ?_)
  refine .loop (X := Int) (fun x => 1 ≤ x ∧ x ≤ s.size ∧ Dg (bs s) 1 x) (fun x => [(0, .string s), (4, .int .i64 1), (5, .int .i64 x)]) (fun x => []) (fun _ => S) (fun _ => wf) (fun x => (s.size + 1 - x).toNat) (fun a_ w_ hs_ hw_ => ⟨1, (by exact ⟨by omega, by omega, Dg.none⟩), hs_.mono (Sub.get (.c rfl (.c rfl (.c rfl .n)))), hw_.keep .n⟩) (fun x ⟨q_0, q_1, q_2⟩ => ?_)
  show SC _ _ _ _ _ ⟨[(0, .string s), (4, .int .i64 1), (5, .int .i64 x)], [], S, wf⟩
  refine .seq (.seq (.region ?_))
  refine .v (ev_mv rfl rfl) rfl ?_
  refine .v (ev_mv rfl rfl) rfl ?_
  refine .v (ev_lens rfl Try.underlying9 rfl) rfl ?_
  refine .v (ev_cmp rfl rfl rfl rfl) rfl ?_
  refine .go idQ ?_
  refine .condI rfl bD (fun h3 => ?_) (fun h3 => ?_)
  ·
   refine .skipgo idQ (.seq (.block (.seq (.region ?_))))
   refine .v (ev_mv rfl rfl) rfl ?_
   refine .v (ev_mv rfl rfl) rfl ?_
   refine .v (ev_ixs rfl Try.underlying9 rfl rfl (by omega) (by first | omega | (rw [bs_len]; omega) | decide)) rfl ?_
   refine .v (ev_cmp rfl rfl rfl rfl) rfl ?_
   refine .v (ev_mv rfl rfl) rfl ?_
   refine .w (fun _ => ev_mv rfl rfl) rfl ?_
   refine .w (fun _ => ev_mv rfl rfl) rfl ?_
   refine .w (fun hb => have hp := bF bD hb; ev_ixs rfl Try.underlying9 (lkg rfl hb) (lkg rfl hb) (by have _h := hp; omega) (by first | omega | (rw [bs_len]; omega) | decide)) rfl ?_
   refine .w (fun hb => ev_cmp rfl (lkg rfl hb) rfl rfl) rfl ?_
   refine .v (ev_or rfl rfl rfl rfl) rfl ?_
   refine .go idQ ?_
   refine .condI rfl (bO bD bD) (fun h4 => ?_) (fun h4 => ?_)
   ·
    refine .seq (.region ?_)
    refine .v (ev_as rfl rfl) rfl ?_
    refine .v (ev_as rfl rfl) rfl ?_
    refine .go idQ ?_
    exact .ret idQ (ret2 Try.results71 rfl rfl .n ⟨0, 11, p1_2 hsg (by rw [bs_len]; omega) (by omega) q_0 (by rw [bs_len]; omega) (by assumption), (by omega), rfl, rfl⟩)
   refine .skipgo idQ (.region ?_)
   refine .v (ev_mv rfl rfl) rfl ?_
   refine .v (ev_add rfl rfl rfl (r := (x + 1)) rfl (by omega) (by omega)) rfl ?_
   refine .v (ev_as rfl rfl) rfl ?_
   exact SP.nil (SQ.roundb (X := Int) (x := (x)) (x + 1) (by exact ⟨by omega, by omega, q_2.next (by assumption)⟩) (by show (_ : Nat) < _; omega) (Sub.get (.c rfl (.c rfl (.c rfl .n)))) (fun w hw => hw.keep .n))
  refine .exit idQ ?_
  refine .seq (.seq ?_)
  have hd_ : Dg (bs s) 1 s.size := by rw [show (s.size : Int) = x by omega]; exact q_2
  refine .region ?_
  refine .v (ev_mv rfl rfl) rfl ?_
  refine .v (ev_mv rfl rfl) rfl ?_
  refine .v (ev_ixs rfl Try.underlying9 rfl rfl (by omega) (by first | omega | (rw [bs_len]; omega) | decide)) rfl ?_
  refine .v (ev_cmp rfl rfl rfl rfl) rfl ?_
  refine .v (ev_mv rfl rfl) rfl ?_
  refine .w (fun _ => ev_mv rfl rfl) rfl ?_
  refine .w (fun hb => ev_scmp rfl (lkg rfl hb) rfl rfl) rfl ?_
  refine .v (ev_and rfl rfl rfl rfl) rfl ?_
  refine .go idQ ?_
  refine .condI rfl (bA bE bV) (fun h5 => ?_) (fun h5 => ?_)
  ·
   refine .seq (.region ?_)
   refine .v (ev_as rfl rfl) rfl ?_
   refine .v (ev_as rfl rfl) rfl ?_
   refine .go idQ ?_
   exact .ret idQ (ret2 Try.results71 rfl rfl .n ⟨0, 11, p1_3 hsg (by rw [bs_len]; omega) (by omega) (by rw [bs_len]; exact hd_) (by have hz_ := h5; exact (by first | exact ⟨hz_.1, str_ne.1 hz_.2⟩ | exact fun h_ => hz_ ⟨h_.1, str_ne.2 h_.2⟩)), (by omega), rfl, rfl⟩)
  refine .skipgo idQ (.seq (.seq ?_))
  have hzn := h5
  refine .region ?_
  refine .v (ev_mv rfl rfl) rfl ?_
  refine .v (ev_lens rfl Try.underlying9 rfl) rfl ?_
  refine .v (ev_mv rfl rfl) rfl ?_
  refine .v (ev_sub rfl rfl rfl (r := ((s.size : Int) - 1)) rfl (by omega) (by omega)) rfl ?_
  refine .v (ev_cmp rfl rfl rfl rfl) rfl ?_
  refine .go idQ ?_
  refine .condI rfl bD (fun h6 => ?_) (fun h6 => ?_)
  ·
   refine .seq (.region ?_)
   refine .v (ev_as rfl rfl) rfl ?_
   refine .v (ev_as rfl rfl) rfl ?_
   refine .go idQ ?_
   exact .ret idQ (ret2 Try.results71 rfl rfl .n ⟨0, 10, p1_4 hsg (by rw [bs_len]; omega) (by omega) (by rw [bs_len]; exact hd_) (by have hz_ := hzn; exact (by first | exact ⟨hz_.1, str_ne.1 hz_.2⟩ | exact fun h_ => hz_ ⟨h_.1, str_ne.2 h_.2⟩)) (by rw [bs_len]; omega), (by omega), rfl, rfl⟩)
  refine .skipgo idQ (.seq (.region ?_))
  refine .v (ev_as rfl rfl) rfl ?_
  refine .go idQ (.seq (.seq (.region ?_)))
  refine .v (ev_mv rfl rfl) rfl ?_
  refine .v (ev_as rfl rfl) rfl ?_
  refine .go idQ (.block ?_)
  refine .loop (X := Int × Int) (fun ⟨k, y⟩ => 1 ≤ k ∧ k ≤ s.size ∧ (0 ≤ y ∧ y < 10 ^ (k - 1).toNat) ∧ decV ((bs s).drop k.toNat) y = decV ((bs s).drop (1 : Int).toNat) 0) (fun ⟨k, y⟩ => [(0, .string s), (4, .int .i64 1), (6, .int .u64 y), (7, .int .i64 k)]) (fun ⟨k, y⟩ => []) (fun _ => S) (fun _ => wf) (fun ⟨k, y⟩ => (s.size + 1 - k).toNat) (fun a_ w_ hs_ hw_ => ⟨⟨1, 0⟩, (by exact ⟨by omega, by omega, ⟨by omega, by simp⟩, rfl⟩), hs_.mono (Sub.get (.c rfl (.c rfl (.c rfl (.c rfl .n))))), hw_.keep .n⟩) (fun ⟨k, y⟩ ⟨t_0, t_1, t_2, t_3⟩ => ?_)
  show SC _ _ _ _ _ ⟨[(0, .string s), (4, .int .i64 1), (6, .int .u64 y), (7, .int .i64 k)], [], S, wf⟩
  refine .seq (.seq (.region ?_))
  refine .v (ev_mv rfl rfl) rfl ?_
  refine .v (ev_mv rfl rfl) rfl ?_
  refine .v (ev_lens rfl Try.underlying9 rfl) rfl ?_
  refine .v (ev_cmp rfl rfl rfl rfl) rfl ?_
  refine .go idQ ?_
  refine .condI rfl bD (fun h7 => ?_) (fun h7 => ?_)
  ·
   refine .skipgo idQ (.seq (.block ?_))
   have hpb := pow_bd t_2.2 (by omega)
   have hdg := hd_ k (by omega) (by omega)
   refine .region ?_
   refine .v (ev_mv rfl rfl) rfl ?_
   refine .v (ev_aru64 rfl rfl rfl (r := (10 * y)) rfl (by omega) (by omega)) rfl ?_
   refine .v (ev_mv rfl rfl) rfl ?_
   refine .v (ev_mv rfl rfl) rfl ?_
   refine .v (ev_ixs rfl Try.underlying9 rfl rfl (by omega) (by first | omega | (rw [bs_len]; omega) | decide)) rfl ?_
   refine .v (ev_aru8 rfl rfl rfl (r := ((gt (bs s) k) - 48)) rfl (by omega) (by omega)) rfl ?_
   refine .v (ev_cv rfl Try.underlying5 Try.underlying125 rfl (wrap_u64_in (by omega) (by omega))) rfl ?_
   refine .v (ev_aru64 rfl rfl rfl (r := ((10 * y) + ((gt (bs s) k) - 48))) rfl (by omega) (by omega)) rfl ?_
   refine .v (ev_as rfl rfl) rfl ?_
   refine .go idQ (.region ?_)
   refine .v (ev_mv rfl rfl) rfl ?_
   refine .v (ev_add rfl rfl rfl (r := (k + 1)) rfl (by omega) (by omega)) rfl ?_
   refine .v (ev_as rfl rfl) rfl ?_
   exact SP.nil (SQ.roundb (X := Int × Int) (x := (k, y)) ⟨(k + 1), ((10 * y) + ((gt (bs s) k) - 48))⟩ (by exact ⟨by omega, by omega, ⟨by omega, pow_next t_0 t_2.2 (by omega)⟩, dec_go (by omega) (by rw [bs_len]; omega) t_3⟩) (by dsimp only; omega) (Sub.get (.c rfl (.c rfl (.c rfl (.c rfl .n))))) (fun w hw => hw.keep .n))
  refine .exit idQ ?_
  refine .seq (.seq (.region ?_))
  refine .v (ev_mv rfl rfl) rfl ?_
  refine .v (ev_cmp rfl rfl rfl rfl) rfl ?_
  refine .go idQ ?_
  refine .condI rfl bD (fun h8 => ?_) (fun h8 => ?_)
  ·
   refine .seq (.region ?_)
   refine .v (ev_as rfl rfl) rfl ?_
   refine .v (ev_as rfl rfl) rfl ?_
   refine .go idQ ?_
   exact .ret idQ (ret2 Try.results71 rfl rfl .n ⟨0, 10, p1_5 hsg (by rw [bs_len]; omega) (by omega) (by rw [bs_len]; exact hd_) (by have hz_ := hzn; exact (by first | exact ⟨hz_.1, str_ne.1 hz_.2⟩ | exact fun h_ => hz_ ⟨h_.1, str_ne.2 h_.2⟩)) (by rw [bs_len]; omega) t_3 (by rw [bs_len]; omega) (by omega), (by omega), rfl, rfl⟩)
  refine .skipgo idQ (.seq (.seq (.region ?_)))
  refine .v (ev_mv rfl rfl) rfl ?_
  refine .v (ev_cmp (r := true) rfl rfl rfl rfl) rfl ?_
  refine .go idQ ?_
  refine .cond_t rfl ?_
  refine .seq (.region ?_)
  refine .v (ev_mv rfl rfl) rfl ?_
  refine .v (ev_cv rfl Try.underlying125 Try.underlying3 rfl (wrap_in (by omega) (by omega))) rfl ?_
  refine .v (ev_neg rfl rfl (by omega) (by omega)) rfl ?_
  refine .v (ev_as rfl rfl) rfl ?_
  refine .v (ev_as rfl rfl) rfl ?_
  refine .go idQ ?_
  exact .ret idQ (ret2 Try.results71 rfl rfl .n ⟨(-y), 0, (by rw [p1_6 hsg (by rw [bs_len]; omega) (by omega) (by rw [bs_len]; exact hd_) (by have hz_ := hzn; exact (by first | exact ⟨hz_.1, str_ne.1 hz_.2⟩ | exact fun h_ => hz_ ⟨h_.1, str_ne.2 h_.2⟩)) (by rw [bs_len]; omega) t_3 (by rw [bs_len]; omega) (by omega)]; rfl), (by omega), rfl, rfl⟩)
 refine .skipgo idQ (.seq (.seq ?_))
 have hsg : sgn (bs s) = 0 := sgn_0 (by rw [bs_len]; assumption)
 refine .region ?_
 refine .v (ev_mv rfl rfl) rfl ?_
 refine .v (ev_mv rfl rfl) rfl ?_
 refine .v (ev_lens rfl Try.underlying9 rfl) rfl ?_
 refine .v (ev_cmp rfl rfl rfl rfl) rfl ?_
 refine .go idQ ?_
 refine .condI rfl bE (fun h9 => ?_) (fun h9 => ?_)
 ·
  refine .seq (.region ?_)
  refine .v (ev_as rfl rfl) rfl ?_
  refine .v (ev_as rfl rfl) rfl ?_
  refine .go idQ ?_
  exact .ret idQ (ret2 Try.results71 rfl rfl .n ⟨0, 11, p1_1 hsg (by rw [bs_len]; omega), (by omega), rfl, rfl⟩)
 refine .skipgo idQ (.seq (.seq (.region ?_)))
 refine .v (ev_mv rfl rfl) rfl ?_
 refine .v (ev_as rfl rfl) rfl ?_
 refine .go idQ (.block ?_)
 refine .loop (X := Int) (fun x => 0 ≤ x ∧ x ≤ s.size ∧ Dg (bs s) 0 x) (fun x => [(0, .string s), (4, .int .i64 0), (5, .int .i64 x)]) (fun x => []) (fun _ => S) (fun _ => wf) (fun x => (s.size + 1 - x).toNat) (fun a_ w_ hs_ hw_ => ⟨0, (by exact ⟨by omega, by omega, Dg.none⟩), hs_.mono (Sub.get (.c rfl (.c rfl (.c rfl .n)))), hw_.keep .n⟩) (fun x ⟨q_0, q_1, q_2⟩ => ?_)
 show SC _ _ _ _ _ ⟨[(0, .string s), (4, .int .i64 0), (5, .int .i64 x)], [], S, wf⟩
 refine .seq (.seq (.region ?_))
 refine .v (ev_mv rfl rfl) rfl ?_
 refine .v (ev_mv rfl rfl) rfl ?_
 refine .v (ev_lens rfl Try.underlying9 rfl) rfl ?_
 refine .v (ev_cmp rfl rfl rfl rfl) rfl ?_
 refine .go idQ ?_
 refine .condI rfl bD (fun h10 => ?_) (fun h10 => ?_)
 ·
  refine .skipgo idQ (.seq (.block (.seq (.region ?_))))
  refine .v (ev_mv rfl rfl) rfl ?_
  refine .v (ev_mv rfl rfl) rfl ?_
  refine .v (ev_ixs rfl Try.underlying9 rfl rfl (by omega) (by first | omega | (rw [bs_len]; omega) | decide)) rfl ?_
  refine .v (ev_cmp rfl rfl rfl rfl) rfl ?_
  refine .v (ev_mv rfl rfl) rfl ?_
  refine .w (fun _ => ev_mv rfl rfl) rfl ?_
  refine .w (fun _ => ev_mv rfl rfl) rfl ?_
  refine .w (fun hb => have hp := bF bD hb; ev_ixs rfl Try.underlying9 (lkg rfl hb) (lkg rfl hb) (by have _h := hp; omega) (by first | omega | (rw [bs_len]; omega) | decide)) rfl ?_
  refine .w (fun hb => ev_cmp rfl (lkg rfl hb) rfl rfl) rfl ?_
  refine .v (ev_or rfl rfl rfl rfl) rfl ?_
  refine .go idQ ?_
  refine .condI rfl (bO bD bD) (fun h11 => ?_) (fun h11 => ?_)
  ·
   refine .seq (.region ?_)
   refine .v (ev_as rfl rfl) rfl ?_
   refine .v (ev_as rfl rfl) rfl ?_
   refine .go idQ ?_
   exact .ret idQ (ret2 Try.results71 rfl rfl .n ⟨0, 11, p1_2 hsg (by rw [bs_len]; omega) (by omega) q_0 (by rw [bs_len]; omega) (by assumption), (by omega), rfl, rfl⟩)
  refine .skipgo idQ (.region ?_)
  refine .v (ev_mv rfl rfl) rfl ?_
  refine .v (ev_add rfl rfl rfl (r := (x + 1)) rfl (by omega) (by omega)) rfl ?_
  refine .v (ev_as rfl rfl) rfl ?_
  exact SP.nil (SQ.roundb (X := Int) (x := (x)) (x + 1) (by exact ⟨by omega, by omega, q_2.next (by assumption)⟩) (by show (_ : Nat) < _; omega) (Sub.get (.c rfl (.c rfl (.c rfl .n)))) (fun w hw => hw.keep .n))
 refine .exit idQ ?_
 refine .seq (.seq ?_)
 have hd_ : Dg (bs s) 0 s.size := by rw [show (s.size : Int) = x by omega]; exact q_2
 refine .region ?_
 refine .v (ev_mv rfl rfl) rfl ?_
 refine .v (ev_mv rfl rfl) rfl ?_
 refine .v (ev_ixs rfl Try.underlying9 rfl rfl (by omega) (by first | omega | (rw [bs_len]; omega) | decide)) rfl ?_
 refine .v (ev_cmp rfl rfl rfl rfl) rfl ?_
 refine .v (ev_mv rfl rfl) rfl ?_
 refine .w (fun _ => ev_mv rfl rfl) rfl ?_
 refine .w (fun hb => ev_scmp rfl (lkg rfl hb) rfl rfl) rfl ?_
 refine .v (ev_and rfl rfl rfl rfl) rfl ?_
 refine .go idQ ?_
 refine .condI rfl (bA bE bV) (fun h12 => ?_) (fun h12 => ?_)
 ·
  refine .seq (.region ?_)
  refine .v (ev_as rfl rfl) rfl ?_
  refine .v (ev_as rfl rfl) rfl ?_
  refine .go idQ ?_
  exact .ret idQ (ret2 Try.results71 rfl rfl .n ⟨0, 11, p1_3 hsg (by rw [bs_len]; omega) (by omega) (by rw [bs_len]; exact hd_) (by have hz_ := h12; exact (by first | exact ⟨hz_.1, str_ne.1 hz_.2⟩ | exact fun h_ => hz_ ⟨h_.1, str_ne.2 h_.2⟩)), (by omega), rfl, rfl⟩)
 refine .skipgo idQ (.seq (.seq ?_))
 have hzn := h12
 refine .region ?_
 refine .v (ev_mv rfl rfl) rfl ?_
 refine .v (ev_lens rfl Try.underlying9 rfl) rfl ?_
 refine .v (ev_mv rfl rfl) rfl ?_
 refine .v (ev_sub rfl rfl rfl (r := ((s.size : Int) - 0)) rfl (by omega) (by omega)) rfl ?_
 refine .v (ev_cmp rfl rfl rfl rfl) rfl ?_
 refine .go idQ ?_
 refine .condI rfl bD (fun h13 => ?_) (fun h13 => ?_)
 ·
  refine .seq (.region ?_)
  refine .v (ev_as rfl rfl) rfl ?_
  refine .v (ev_as rfl rfl) rfl ?_
  refine .go idQ ?_
  exact .ret idQ (ret2 Try.results71 rfl rfl .n ⟨0, 10, p1_4 hsg (by rw [bs_len]; omega) (by omega) (by rw [bs_len]; exact hd_) (by have hz_ := hzn; exact (by first | exact ⟨hz_.1, str_ne.1 hz_.2⟩ | exact fun h_ => hz_ ⟨h_.1, str_ne.2 h_.2⟩)) (by rw [bs_len]; omega), (by omega), rfl, rfl⟩)
 refine .skipgo idQ (.seq (.region ?_))
 refine .v (ev_as rfl rfl) rfl ?_
 refine .go idQ (.seq (.seq (.region ?_)))
 refine .v (ev_mv rfl rfl) rfl ?_
 refine .v (ev_as rfl rfl) rfl ?_
 refine .go idQ (.block ?_)
 refine .loop (X := Int × Int) (fun ⟨k, y⟩ => 0 ≤ k ∧ k ≤ s.size ∧ (0 ≤ y ∧ y < 10 ^ (k - 0).toNat) ∧ decV ((bs s).drop k.toNat) y = decV ((bs s).drop (0 : Int).toNat) 0) (fun ⟨k, y⟩ => [(0, .string s), (4, .int .i64 0), (6, .int .u64 y), (7, .int .i64 k)]) (fun ⟨k, y⟩ => []) (fun _ => S) (fun _ => wf) (fun ⟨k, y⟩ => (s.size + 1 - k).toNat) (fun a_ w_ hs_ hw_ => ⟨⟨0, 0⟩, (by exact ⟨by omega, by omega, ⟨by omega, by simp⟩, rfl⟩), hs_.mono (Sub.get (.c rfl (.c rfl (.c rfl (.c rfl .n))))), hw_.keep .n⟩) (fun ⟨k, y⟩ ⟨t_0, t_1, t_2, t_3⟩ => ?_)
 show SC _ _ _ _ _ ⟨[(0, .string s), (4, .int .i64 0), (6, .int .u64 y), (7, .int .i64 k)], [], S, wf⟩
 refine .seq (.seq (.region ?_))
 refine .v (ev_mv rfl rfl) rfl ?_
 refine .v (ev_mv rfl rfl) rfl ?_
 refine .v (ev_lens rfl Try.underlying9 rfl) rfl ?_
 refine .v (ev_cmp rfl rfl rfl rfl) rfl ?_
 refine .go idQ ?_
 refine .condI rfl bD (fun h14 => ?_) (fun h14 => ?_)
 ·
  refine .skipgo idQ (.seq (.block ?_))
  have hpb := pow_bd t_2.2 (by omega)
  have hdg := hd_ k (by omega) (by omega)
  refine .region ?_
  refine .v (ev_mv rfl rfl) rfl ?_
  refine .v (ev_aru64 rfl rfl rfl (r := (10 * y)) rfl (by omega) (by omega)) rfl ?_
  refine .v (ev_mv rfl rfl) rfl ?_
  refine .v (ev_mv rfl rfl) rfl ?_
  refine .v (ev_ixs rfl Try.underlying9 rfl rfl (by omega) (by first | omega | (rw [bs_len]; omega) | decide)) rfl ?_
  refine .v (ev_aru8 rfl rfl rfl (r := ((gt (bs s) k) - 48)) rfl (by omega) (by omega)) rfl ?_
  refine .v (ev_cv rfl Try.underlying5 Try.underlying125 rfl (wrap_u64_in (by omega) (by omega))) rfl ?_
  refine .v (ev_aru64 rfl rfl rfl (r := ((10 * y) + ((gt (bs s) k) - 48))) rfl (by omega) (by omega)) rfl ?_
  refine .v (ev_as rfl rfl) rfl ?_
  refine .go idQ (.region ?_)
  refine .v (ev_mv rfl rfl) rfl ?_
  refine .v (ev_add rfl rfl rfl (r := (k + 1)) rfl (by omega) (by omega)) rfl ?_
  refine .v (ev_as rfl rfl) rfl ?_
  exact SP.nil (SQ.roundb (X := Int × Int) (x := (k, y)) ⟨(k + 1), ((10 * y) + ((gt (bs s) k) - 48))⟩ (by exact ⟨by omega, by omega, ⟨by omega, pow_next t_0 t_2.2 (by omega)⟩, dec_go (by omega) (by rw [bs_len]; omega) t_3⟩) (by dsimp only; omega) (Sub.get (.c rfl (.c rfl (.c rfl (.c rfl .n))))) (fun w hw => hw.keep .n))
 refine .exit idQ ?_
 refine .seq (.seq (.region ?_))
 refine .v (ev_mv rfl rfl) rfl ?_
 refine .v (ev_cmp rfl rfl rfl rfl) rfl ?_
 refine .go idQ ?_
 refine .condI rfl bD (fun h15 => ?_) (fun h15 => ?_)
 ·
  refine .seq (.region ?_)
  refine .v (ev_as rfl rfl) rfl ?_
  refine .v (ev_as rfl rfl) rfl ?_
  refine .go idQ ?_
  exact .ret idQ (ret2 Try.results71 rfl rfl .n ⟨0, 10, p1_5 hsg (by rw [bs_len]; omega) (by omega) (by rw [bs_len]; exact hd_) (by have hz_ := hzn; exact (by first | exact ⟨hz_.1, str_ne.1 hz_.2⟩ | exact fun h_ => hz_ ⟨h_.1, str_ne.2 h_.2⟩)) (by rw [bs_len]; omega) t_3 (by rw [bs_len]; omega) (by omega), (by omega), rfl, rfl⟩)
 refine .skipgo idQ (.seq (.seq (.region ?_)))
 refine .v (ev_mv rfl rfl) rfl ?_
 refine .v (ev_cmp (r := false) rfl rfl rfl rfl) rfl ?_
 refine .go idQ ?_
 refine .cond_f rfl ?_
 refine .skipgo idQ (.seq (.region ?_))
 refine .v (ev_mv rfl rfl) rfl ?_
 refine .v (ev_cv rfl Try.underlying125 Try.underlying3 rfl (wrap_in (by omega) (by omega))) rfl ?_
 refine .v (ev_as rfl rfl) rfl ?_
 refine .v (ev_as rfl rfl) rfl ?_
 refine .go idQ ?_
 exact .ret idQ (ret2 Try.results71 rfl rfl .n ⟨y, 0, (by rw [p1_6 hsg (by rw [bs_len]; omega) (by omega) (by rw [bs_len]; exact hd_) (by have hz_ := hzn; exact (by first | exact ⟨hz_.1, str_ne.1 hz_.2⟩ | exact fun h_ => hz_ ⟨h_.1, str_ne.2 h_.2⟩)) (by rw [bs_len]; omega) t_3 (by rw [bs_len]; omega) (by omega)]; rfl), (by omega), rfl, rfl⟩)
theorem number_ (g : Nat) (A : Option Addr) (n : Nat) (c : Nat) (b : List Int) (i : Int) (bad : Int) (pos : Int) (v : Value) (S : Nat → Prop) (wf : World) (hA : Fr eY S wf A b) (hn : b.length = n) (hN : n ≤ 65536) (hr : ∀ x ∈ b, isB x) (hcap : n ≤ c) (hi : 0 ≤ i ∧ i ≤ 100000) (hi2 : i < n) (hnb : numB (gt b i)) :
  TR0 Try.prog 58 [.pointer (some ⟨g, 0, none⟩)] [cel g [.slice A n c, .int .i64 i, .int .i64 bad, .int .i64 pos, v] 86] S wf (fun v_ C_ => ∃ (r : Int) (i2 : Int) (bad2 : Int) (pos2 : Int), (r = numberF b (LS.mk i bad pos)) ∧ ((LS.mk i2 bad2 pos2) = numberS b (LS.mk i bad pos)) ∧ ((i + 1 ≤ i2 ∧ i2 ≤ n)) ∧ (-4611686018427387903 ≤ r ∧ r ≤ 4611686018427387903) ∧ v_ = .int .i64 r ∧ C_ = [cel g [.slice A n c, .int .i64 i2, .int .i64 bad2, .int .i64 pos2, v] 86]) := by
 have hla := hA.len
 refine TR.mk Try.func58 rfl Try.ntmps58 rfl rfl (fun w_ => ?_)
 refine .seq (.region ?_)
 refine .v (ev_as rfl rfl) rfl ?_
 refine .go idQ (.seq (.region ?_))
 refine .v (ev_mv rfl rfl) rfl ?_
 refine .v (ev_nil rfl rfl) rfl ?_
 refine .v (ev_fa rfl fo86_1 rfl (r := 1) rfl) rfl ?_
 refine .v (ev_ld1 rfl ty3 rfl (At.own1 0 rfl rfl)) rfl ?_
 refine .v (ev_as rfl rfl) rfl ?_
 refine .go idQ (.seq (.block ?_))
 refine .loop (X := Int) (fun x => 0 ≤ x ∧ (i ≤ x ∧ x ≤ n) ∧ x + numC (b.drop x.toNat) = i + numC (b.drop i.toNat)) (fun x => [(0, .pointer (some ⟨g, 0, none⟩)), (3, .int .i64 i)]) (fun x => [cel g [.slice A n c, .int .i64 x, .int .i64 bad, .int .i64 pos, v] 86]) (fun _ => S) (fun _ => wf) (fun x => (n + 1 - x).toNat) (fun a_ w_ hs_ hw_ => ⟨i, (by exact ⟨by omega, by omega, rfl⟩), hs_.mono (Sub.get (.c rfl (.c rfl .n))), hw_.keep (.c .h .n)⟩) (fun x ⟨q_0, q_1, q_2⟩ => ?_)
 show SC _ _ _ _ _ ⟨[(0, .pointer (some ⟨g, 0, none⟩)), (3, .int .i64 i)], [cel g [.slice A n c, .int .i64 x, .int .i64 bad, .int .i64 pos, v] 86], S, wf⟩
 refine .seq (.seq ?_)
 refine SC.draw mo [] [] .n (fun _ _ _ c hc => by cases hc) (fun wf_1 hl_1 hx_1 hR_1 => ?_)
 refine SR.k 0 rfl (by kernel_rfl) rfl (ev_mv rfl rfl) ?_
 refine SR.k 1 rfl (by kernel_rfl) rfl (ev_nil rfl rfl) ?_
 refine SR.k 2 rfl (by kernel_rfl) rfl (ev_fa rfl fo86_1 rfl (r := 1) rfl) ?_
 refine SR.k 3 rfl (by kernel_rfl) rfl (ev_ld1 rfl ty3 rfl (At.d (At.lent hR_1 0 rfl rfl))) ?_
 refine SR.k 4 rfl (by kernel_rfl) rfl (ev_mv rfl rfl) ?_
 refine SR.k 5 rfl (by kernel_rfl) rfl (ev_nil rfl rfl) ?_
 refine SR.k 6 rfl (by kernel_rfl) rfl (ev_fa rfl fo86_0 rfl (r := 0) rfl) ?_
 refine SR.k 7 rfl (by kernel_rfl) rfl (ev_ld1 rfl ty36 rfl (At.d (At.lent hR_1 0 rfl rfl))) ?_
 refine SR.k 8 rfl (by kernel_rfl) rfl (ev_len rfl Try.underlying36 rfl) ?_
 refine SR.k 9 rfl (by kernel_rfl) rfl (ev_cmp rfl rfl rfl rfl) ?_
 refine SR.fin (by kernel_rfl) hl_1 hx_1 hR_1 .n ?_
 refine SQ.go idQ ?_
 refine .condI rfl bD (fun h2 => ?_) (fun h2 => ?_)
 ·
  refine .skipgo idQ (.block (.seq ?_))
  refine SC.draw mo [] [] .n (fun _ _ _ c hc => by cases hc) (fun wf_3 hl_3 hx_3 hR_3 => ?_)
  refine SR.k 0 rfl (by kernel_rfl) rfl (ev_mv rfl rfl) ?_
  refine SR.k 1 rfl (by kernel_rfl) rfl (ev_nil rfl rfl) ?_
  refine SR.k 2 rfl (by kernel_rfl) rfl (ev_fa rfl fo86_0 rfl (r := 0) rfl) ?_
  refine SR.k 3 rfl (by kernel_rfl) rfl (ev_ld1 rfl ty36 rfl (At.d (At.lent hR_3 0 rfl rfl))) ?_
  refine SR.k 4 rfl (by kernel_rfl) rfl (ev_mv rfl rfl) ?_
  refine SR.k 5 rfl (by kernel_rfl) rfl (ev_nil rfl rfl) ?_
  refine SR.k 6 rfl (by kernel_rfl) rfl (ev_fa rfl fo86_1 rfl (r := 1) rfl) ?_
  refine SR.k 7 rfl (by kernel_rfl) rfl (ev_ld1 rfl ty3 rfl (At.d (At.lent hR_3 0 rfl rfl))) ?_
  refine SR.k 8 rfl (by kernel_rfl) rfl (ev_ix rfl Try.underlying36 ty5 rfl rfl (by omega) (by omega) (fun _ _ => Fr.adr (i := x) (Fr.ext hA hx_3) (by omega) (by omega))) ?_
  refine SR.k 9 rfl (by kernel_rfl) rfl (ev_ld1 rfl ty5 rfl (At.elem1 (At.d (Fr.el (i := x) (Fr.ext hA hx_3) (by omega) (by omega))) 0 rfl)) ?_
  refine SR.k 10 rfl (by kernel_rfl) rfl (ev_as rfl rfl) ?_
  refine SR.fin (by kernel_rfl) hl_3 hx_3 hR_3 .n ?_
  refine SQ.go idQ ?_
  refine .seq (.seq (.region ?_))
  refine .v (ev_mv rfl rfl) rfl ?_
  refine .v (ev_cmp rfl rfl rfl rfl) rfl ?_
  refine .v (ev_mv rfl rfl) rfl ?_
  refine .w (fun _ => ev_mv rfl rfl) rfl ?_
  refine .w (fun hb => ev_cmp rfl (lkg rfl hb) rfl rfl) rfl ?_
  refine .v (ev_or rfl rfl rfl rfl) rfl ?_
  refine .v (ev_mv rfl rfl) rfl ?_
  refine .w (fun _ => ev_mv rfl rfl) rfl ?_
  refine .w (fun hb => ev_cmp rfl (lkg rfl hb) rfl rfl) rfl ?_
  refine .v (ev_and rfl rfl rfl rfl) rfl ?_
  refine .v (ev_mv rfl rfl) rfl ?_
  refine .w (fun _ => ev_mv rfl rfl) rfl ?_
  refine .w (fun hb => ev_cmp rfl (lkg rfl hb) rfl rfl) rfl ?_
  refine .v (ev_and rfl rfl rfl rfl) rfl ?_
  refine .v (ev_mv rfl rfl) rfl ?_
  refine .w (fun _ => ev_mv rfl rfl) rfl ?_
  refine .w (fun hb => ev_cmp rfl (lkg rfl hb) rfl rfl) rfl ?_
  refine .v (ev_and rfl rfl rfl rfl) rfl ?_
  refine .v (ev_mv rfl rfl) rfl ?_
  refine .w (fun _ => ev_mv rfl rfl) rfl ?_
  refine .w (fun hb => ev_cmp rfl (lkg rfl hb) rfl rfl) rfl ?_
  refine .v (ev_and rfl rfl rfl rfl) rfl ?_
  refine .v (ev_mv rfl rfl) rfl ?_
  refine .w (fun _ => ev_mv rfl rfl) rfl ?_
  refine .w (fun hb => ev_cmp rfl (lkg rfl hb) rfl rfl) rfl ?_
  refine .v (ev_and rfl rfl rfl rfl) rfl ?_
  refine .go idQ ?_
  refine .condI rfl (bA (bA (bA (bA (bA (bO bD bD) bNE) bNE) bNE) bNE) bNE) (fun h4 => ?_) (fun h4 => ?_)
  ·
   refine .exit idQ ?_
   refine .seq ?_
   have hE : (LS.mk x bad pos) = numEnd b (LS.mk i bad pos) := num_end q_0 q_2 (fun _ h_ => h_ h4)
   refine SC.draw mo [] [] .n (fun _ _ _ c hc => by cases hc) (fun wf_5 hl_5 hx_5 hR_5 => ?_)
   refine SR.k 0 rfl (by kernel_rfl) rfl (ev_mv rfl rfl) ?_
   refine SR.k 1 rfl (by kernel_rfl) rfl (ev_nil rfl rfl) ?_
   refine SR.k 2 rfl (by kernel_rfl) rfl (ev_fa rfl fo86_0 rfl (r := 0) rfl) ?_
   refine SR.k 3 rfl (by kernel_rfl) rfl (ev_ld1 rfl ty36 rfl (At.d (At.lent hR_5 0 rfl rfl))) ?_
   refine SR.k 4 rfl (by kernel_rfl) rfl (ev_mv rfl rfl) ?_
   refine SR.k 5 rfl (by kernel_rfl) rfl (ev_mv rfl rfl) ?_
   refine SR.k 6 rfl (by kernel_rfl) rfl (ev_nil rfl rfl) ?_
   refine SR.k 7 rfl (by kernel_rfl) rfl (ev_fa rfl fo86_1 rfl (r := 1) rfl) ?_
   refine SR.k 8 rfl (by kernel_rfl) rfl (ev_ld1 rfl ty3 rfl (At.d (At.lent hR_5 0 rfl rfl))) ?_
   refine SR.k 9 rfl (by kernel_rfl) rfl (ev_slc rfl Try.underlying36 ty5 rfl (.s rfl (by omega)) (.s rfl (by omega)) (by omega) (by omega)) ?_
   refine SR.k 10 rfl (by kernel_rfl) rfl (ev_b2s (l := ((b.take (x).toNat).drop (i).toNat)) rfl Try.underlying36 Try.underlying5 Try.underlying9 rfl (by first | rfl | assumption | omega | ((try simp only [List.length_take, List.length_drop, List.length_append, List.length_cons, List.length_nil]) <;> omega)) (Src.d (Fr.flat (Fr.view (Fr.ext hA hx_5) (i).toNat (x).toNat 1 rfl (by omega))))) ?_
   refine SR.one (j := 11) (by kernel_rfl) rfl (st_call00 rfl rfl rfl rfl hbd71 rfl .n (parse1_ (mkS ((b.take (x).toNat).drop (i).toNat)) _ _ (by show (mkS _).size ≤ _; rw [mkS_size, List.length_drop, List.length_take]; omega)) (by intro v C h; obtain ⟨_, _, _, _, rfl, rfl⟩ := h; rfl) (fun v_q8 q8 => ⟨tt0, ?_⟩))
   obtain ⟨r6, e7, p9, p10, rfl, -⟩ := q8
   refine SR.k 12 rfl (by kernel_rfl) rfl (ev_mv rfl rfl) ?_
   refine SR.k 13 rfl (by kernel_rfl) rfl (ev_ext rfl rfl rfl) ?_
   refine SR.k 14 rfl (by kernel_rfl) rfl (ev_ext rfl rfl rfl) ?_
   refine SR.k 15 rfl (by kernel_rfl) rfl (ev_as rfl rfl) ?_
   refine SR.k 16 rfl (by kernel_rfl) rfl (ev_as rfl rfl) ?_
   refine SR.fin (by kernel_rfl) hl_5 hx_5 hR_5 .n ?_
   refine SQ.go idQ ?_
   refine .seq (.seq (.region ?_))
   refine .v (ev_mv rfl rfl) rfl ?_
   refine .v (ev_cmp rfl rfl rfl rfl) rfl ?_
   refine .go idQ ?_
   refine .condI rfl bNE (fun h11 => ?_) (fun h11 => ?_)
   ·
    refine .region ?_
    refine .v (ev_mv rfl rfl) rfl ?_
    refine .v (ev_mv rfl rfl) rfl ?_
    refine .cons (st_call0 rfl rfl rfl rfl hbd38 rfl (.c .h .n) (no_ g A n c x bad pos v i 25 _ _) (fun v_q14 C_q14 q14 => ?_))
    obtain ⟨bad212, pos213, p15, rfl, rfl⟩ := q14
    show SP _ _ _ _ _ _ ⟨_, _ :: _, _, _⟩
    refine .go idQ (.seq (.region ?_))
    refine .v (ev_mv rfl rfl) rfl ?_
    refine .v (ev_as rfl rfl) rfl ?_
    refine .go idQ ?_
    exact .ret idQ (ret1 Try.results58 rfl (.c .h .n) ⟨r6, x, bad212, pos213, (number_of (s := mkS ((b.take x.toNat).drop i.toNat)) hE (bs_mkS (rng_drop (rng_take hr _) _)) p9).1, (by rw [(number_of (s := mkS ((b.take x.toNat).drop i.toNat)) hE (bs_mkS (rng_drop (rng_take hr _) _)) p9).2, if_pos (by assumption)]; exact noF_eq p15), (by have h_ := num_pos hE (by omega) (by omega) hnb; omega), p10, rfl, rfl⟩)
   refine .skipgo idQ (.seq (.region ?_))
   refine .v (ev_mv rfl rfl) rfl ?_
   refine .v (ev_as rfl rfl) rfl ?_
   refine .go idQ ?_
   exact .ret idQ (ret1 Try.results58 rfl (.c .h .n) ⟨r6, x, bad, pos, (number_of (s := mkS ((b.take x.toNat).drop i.toNat)) hE (bs_mkS (rng_drop (rng_take hr _) _)) p9).1, (by rw [(number_of (s := mkS ((b.take x.toNat).drop i.toNat)) hE (bs_mkS (rng_drop (rng_take hr _) _)) p9).2, if_neg (by assumption)]), (by have h_ := num_pos hE (by omega) (by omega) hnb; omega), p10, rfl, rfl⟩)
  refine .skipgo idQ (.region ?_)
  refine .v (ev_mv rfl rfl) rfl ?_
  refine .v (ev_mv rfl rfl) rfl ?_
  refine .v (ev_nil rfl rfl) rfl ?_
  refine .v (ev_fa rfl fo86_1 rfl (r := 1) rfl) rfl ?_
  refine .v (ev_ld1 rfl ty3 rfl (At.own1 0 rfl rfl)) rfl ?_
  refine .v (ev_add rfl rfl rfl (r := (x + 1)) rfl (by omega) (by omega)) rfl ?_
  refine .v (ev_nil rfl rfl) rfl ?_
  refine .v (ev_fa rfl fo86_1 rfl (r := 1) rfl) rfl ?_
  refine .cons (st_store1 rfl rfl rfl ty3 rfl rfl rfl .h (.t .h) ?_)
  exact SP.nil (SQ.roundb (X := Int) (x := (x)) (x + 1) (by exact ⟨by omega, by omega, num_go q_0 (by omega) (by unfold SX.numB; assumption) q_2⟩) (by show (_ : Nat) < _; omega) (Sub.get (.c rfl (.c rfl .n))) (fun w hw => hw.keep (.c .h .n)))
 refine .exit idQ ?_
 refine .seq ?_
 have hE : (LS.mk x bad pos) = numEnd b (LS.mk i bad pos) := num_end q_0 q_2 (fun h_ => by omega)
 refine SC.draw mo [] [] .n (fun _ _ _ c hc => by cases hc) (fun wf_16 hl_16 hx_16 hR_16 => ?_)
 refine SR.k 0 rfl (by kernel_rfl) rfl (ev_mv rfl rfl) ?_
 refine SR.k 1 rfl (by kernel_rfl) rfl (ev_nil rfl rfl) ?_
 refine SR.k 2 rfl (by kernel_rfl) rfl (ev_fa rfl fo86_0 rfl (r := 0) rfl) ?_
 refine SR.k 3 rfl (by kernel_rfl) rfl (ev_ld1 rfl ty36 rfl (At.d (At.lent hR_16 0 rfl rfl))) ?_
 refine SR.k 4 rfl (by kernel_rfl) rfl (ev_mv rfl rfl) ?_
 refine SR.k 5 rfl (by kernel_rfl) rfl (ev_mv rfl rfl) ?_
 refine SR.k 6 rfl (by kernel_rfl) rfl (ev_nil rfl rfl) ?_
 refine SR.k 7 rfl (by kernel_rfl) rfl (ev_fa rfl fo86_1 rfl (r := 1) rfl) ?_
 refine SR.k 8 rfl (by kernel_rfl) rfl (ev_ld1 rfl ty3 rfl (At.d (At.lent hR_16 0 rfl rfl))) ?_
 refine SR.k 9 rfl (by kernel_rfl) rfl (ev_slc rfl Try.underlying36 ty5 rfl (.s rfl (by omega)) (.s rfl (by omega)) (by omega) (by omega)) ?_
 refine SR.k 10 rfl (by kernel_rfl) rfl (ev_b2s (l := ((b.take (x).toNat).drop (i).toNat)) rfl Try.underlying36 Try.underlying5 Try.underlying9 rfl (by first | rfl | assumption | omega | ((try simp only [List.length_take, List.length_drop, List.length_append, List.length_cons, List.length_nil]) <;> omega)) (Src.d (Fr.flat (Fr.view (Fr.ext hA hx_16) (i).toNat (x).toNat 1 rfl (by omega))))) ?_
 refine SR.one (j := 11) (by kernel_rfl) rfl (st_call00 rfl rfl rfl rfl hbd71 rfl .n (parse1_ (mkS ((b.take (x).toNat).drop (i).toNat)) _ _ (by show (mkS _).size ≤ _; rw [mkS_size, List.length_drop, List.length_take]; omega)) (by intro v C h; obtain ⟨_, _, _, _, rfl, rfl⟩ := h; rfl) (fun v_q19 q19 => ⟨tt0, ?_⟩))
 obtain ⟨r17, e18, p20, p21, rfl, -⟩ := q19
 refine SR.k 12 rfl (by kernel_rfl) rfl (ev_mv rfl rfl) ?_
 refine SR.k 13 rfl (by kernel_rfl) rfl (ev_ext rfl rfl rfl) ?_
 refine SR.k 14 rfl (by kernel_rfl) rfl (ev_ext rfl rfl rfl) ?_
 refine SR.k 15 rfl (by kernel_rfl) rfl (ev_as rfl rfl) ?_
 refine SR.k 16 rfl (by kernel_rfl) rfl (ev_as rfl rfl) ?_
 refine SR.fin (by kernel_rfl) hl_16 hx_16 hR_16 .n ?_
 refine SQ.go idQ ?_
 refine .seq (.seq (.region ?_))
 refine .v (ev_mv rfl rfl) rfl ?_
 refine .v (ev_cmp rfl rfl rfl rfl) rfl ?_
 refine .go idQ ?_
 refine .condI rfl bNE (fun h22 => ?_) (fun h22 => ?_)
 ·
  refine .region ?_
  refine .v (ev_mv rfl rfl) rfl ?_
  refine .v (ev_mv rfl rfl) rfl ?_
  refine .cons (st_call0 rfl rfl rfl rfl hbd38 rfl (.c .h .n) (no_ g A n c x bad pos v i 25 _ _) (fun v_q25 C_q25 q25 => ?_))
  obtain ⟨bad223, pos224, p26, rfl, rfl⟩ := q25
  show SP _ _ _ _ _ _ ⟨_, _ :: _, _, _⟩
  refine .go idQ (.seq (.region ?_))
  refine .v (ev_mv rfl rfl) rfl ?_
  refine .v (ev_as rfl rfl) rfl ?_
  refine .go idQ ?_
  exact .ret idQ (ret1 Try.results58 rfl (.c .h .n) ⟨r17, x, bad223, pos224, (number_of (s := mkS ((b.take x.toNat).drop i.toNat)) hE (bs_mkS (rng_drop (rng_take hr _) _)) p20).1, (by rw [(number_of (s := mkS ((b.take x.toNat).drop i.toNat)) hE (bs_mkS (rng_drop (rng_take hr _) _)) p20).2, if_pos (by assumption)]; exact noF_eq p26), (by have h_ := num_pos hE (by omega) (by omega) hnb; omega), p21, rfl, rfl⟩)
 refine .skipgo idQ (.seq (.region ?_))
 refine .v (ev_mv rfl rfl) rfl ?_
 refine .v (ev_as rfl rfl) rfl ?_
 refine .go idQ ?_
 exact .ret idQ (ret1 Try.results58 rfl (.c .h .n) ⟨r17, x, bad, pos, (number_of (s := mkS ((b.take x.toNat).drop i.toNat)) hE (bs_mkS (rng_drop (rng_take hr _) _)) p20).1, (by rw [(number_of (s := mkS ((b.take x.toNat).drop i.toNat)) hE (bs_mkS (rng_drop (rng_take hr _) _)) p20).2, if_neg (by assumption)]), (by have h_ := num_pos hE (by omega) (by omega) hnb; omega), p21, rfl, rfl⟩)
theorem name_ (g : Nat) (A : Option Addr) (n : Nat) (c : Nat) (b : List Int) (i : Int) (bad : Int) (pos : Int) (v : Value) (h : Nat) (kd : Int) (NV : Value) (KV : Value) (X : List ByteArray) (S : Nat → Prop) (wf : World) (hA : Fr eY S wf A b) (hn : b.length = n) (hN : n ≤ 65536) (hr : ∀ x ∈ b, isB x) (hcap : n ≤ c) (hi : 0 ≤ i ∧ i ≤ n) (hb0 : bad = 0) (hXl : X.length ≤ 100000) (hX : ∀ y ∈ X, y.size ≤ 200000) :
  TR0 Try.prog 72 [.pointer (some ⟨g, 0, none⟩), .pointer (some ⟨h, 0, none⟩)] [cel g [.slice A n c, .int .i64 i, .int .i64 bad, .int .i64 pos, v] 86, cel h [.int .i64 kd, .bool false, .int .i64 0, .string ⟨#[]⟩, NV, KV] 90, rw_ eS 9 (NV) X] S wf (fun v_ C_ => ∃ (i2 : Int) (bad2 : Int) (pos2 : Int) (NV2 : Value) (X2 : List ByteArray), (((LS.mk i2 bad2 pos2), X2) = nameS b X (LS.mk i bad pos)) ∧ ((i ≤ i2 ∧ i2 ≤ n + 2 ∧ (bad2 = 0 → i2 ≤ n))) ∧ (X2.length ≤ X.length + 1) ∧ (∀ y ∈ X2, y.size ≤ 200000) ∧ v_ = .tuple #[] ∧ C_ = [cel g [.slice A n c, .int .i64 i2, .int .i64 bad2, .int .i64 pos2, v] 86, cel h [.int .i64 kd, .bool false, .int .i64 0, .string ⟨#[]⟩, NV2, KV] 90, rw_ eS 9 (NV2) X2]) := by
 have hla := hA.len
 refine TR.mk Try.func72 rfl Try.ntmps72 rfl rfl (fun w_ => ?_)
 refine .seq (.region ?_)
 refine .v (ev_mv rfl rfl) rfl ?_
 refine .cons (st_call0 rfl rfl rfl rfl hbd54 rfl (.c .h .n) (next_ g A n c b i bad pos v _ _ hA (by first | omega | simp only [LL] <;> omega | simp <;> omega) (by omega) (by omega) (by omega) (by omega)) (fun v_q5 C_q5 q5 => ?_))
 obtain ⟨r1, i22, bad23, pos24, p6, p7, p8, p9, rfl, rfl⟩ := q5
 show SP _ _ _ _ _ _ ⟨_, _ :: _, _, _⟩
 refine .v (ev_as rfl rfl) rfl ?_
 refine .go idQ (.seq (.region ?_))
 refine .v (ev_mv rfl rfl) rfl ?_
 refine .v (ev_nil rfl rfl) rfl ?_
 refine .v (ev_fa rfl fo86_1 rfl (r := 1) rfl) rfl ?_
 refine .v (ev_ld1 rfl ty3 rfl (At.own1 0 rfl rfl)) rfl ?_
 refine .v (ev_as rfl rfl) rfl ?_
 refine .go idQ (.seq (.seq (.region ?_)))
 refine .v (ev_mv rfl rfl) rfl ?_
 refine .v (ev_cmp rfl rfl rfl rfl) rfl ?_
 refine .v (ev_mv rfl rfl) rfl ?_
 refine .w (fun _ => ev_mv rfl rfl) rfl ?_
 refine .w (fun hb => ev_cmp rfl (lkg rfl hb) rfl rfl) rfl ?_
 refine .v (ev_and rfl rfl rfl rfl) rfl ?_
 refine .go idQ ?_
 refine .condI rfl (bA bD bNE) (fun h10 => ?_) (fun h10 => ?_)
 ·
  refine .region ?_
  refine .v (ev_mv rfl rfl) rfl ?_
  refine .v (ev_mv rfl rfl) rfl ?_
  refine .cons (st_call0 rfl rfl rfl rfl hbd38 rfl (.c .h .n) (no_ g A n c i22 bad23 pos24 v i22 22 _ _) (fun v_q13 C_q13 q13 => ?_))
  obtain ⟨bad211, pos212, p14, rfl, rfl⟩ := q13
  show SP _ _ _ _ _ _ ⟨_, _ :: _, _, _⟩
  refine .go idQ (.seq (.seq (.region ?_)))
  refine .v (ev_mv rfl rfl) rfl ?_
  refine .v (ev_nil rfl rfl) rfl ?_
  refine .v (ev_fa rfl fo86_2 rfl (r := 2) rfl) rfl ?_
  refine .v (ev_ld1 rfl ty3 rfl (At.own1 0 rfl rfl)) rfl ?_
  refine .v (ev_cmp rfl rfl rfl rfl) rfl ?_
  refine .go idQ ?_
  refine .condI rfl bNE (fun h15 => ?_) (fun h15 => ?_)
  ·
   exact .ret idQ (ret0 Try.results72 (.c .h (.c .h (.c .h .n))) ⟨i22, bad211, pos212, NV, X, name_1 p6 p7 (by omega) (by omega) p14, (by omega), (by omega), hX, rfl, rfl⟩)
  exfalso; omega
 refine .skipgo idQ (.seq (.seq (.region ?_)))
 refine .v (ev_mv rfl rfl) rfl ?_
 refine .v (ev_nil rfl rfl) rfl ?_
 refine .v (ev_fa rfl fo86_2 rfl (r := 2) rfl) rfl ?_
 refine .v (ev_ld1 rfl ty3 rfl (At.own1 0 rfl rfl)) rfl ?_
 refine .v (ev_cmp rfl rfl rfl rfl) rfl ?_
 refine .go idQ ?_
 refine .condI rfl bNE (fun h16 => ?_) (fun h16 => ?_)
 ·
  exact .ret idQ (ret0 Try.results72 (.c .h (.c .h (.c .h .n))) ⟨i22, bad23, pos24, NV, X, name_2 p6 p7 (by omega) (by omega), (by omega), (by omega), hX, rfl, rfl⟩)
 refine .skipgo idQ (.seq (.region ?_))
 refine .v (ev_mv rfl rfl) rfl ?_
 refine .cons (st_call0 rfl rfl rfl rfl hbd57 rfl (.c .h .n) (text2_ g A n c b i22 bad23 pos24 v _ _ hA (by first | omega | simp only [LL] <;> omega | simp <;> omega) (by omega) (by omega) (by omega) (by omega) (by omega) (by omega)) (fun v_q21 C_q21 q21 => ?_))
 obtain ⟨s17, i218, bad219, pos220, p22, p23, p24, p25, rfl, rfl⟩ := q21
 show SP _ _ _ _ _ _ ⟨_, _ :: _, _, _⟩
 have hsz := p25
 refine .v (ev_as rfl rfl) rfl ?_
 refine .go idQ (.seq (.seq ?_))
 refine .know (row_len 2 rfl) (fun hv28 => ?_)
 obtain ⟨A26, c27, rfl, hv28_1, hv28_2⟩ := hv28
 unfold maxLen at hv28_2
 refine .region ?_
 refine .v (ev_as rfl rfl) rfl ?_
 refine .go idQ (.block ?_)
 refine .loop (X := Int × Int × Int) (fun ⟨x, bad1, pos1⟩ => 0 ≤ x ∧ x ≤ X.length ∧ (bad219 ≠ 0 → bad1 ≠ 0) ∧ (LS.mk i218 bad1 pos1) = (if bad219 = 0 ∧ hasN (X.take x.toNat) s17 = true then noF (LS.mk i218 bad219 pos220) i22 28 else (LS.mk i218 bad219 pos220))) (fun ⟨x, bad1, pos1⟩ => [(0, .pointer (some ⟨g, 0, none⟩)), (1, .pointer (some ⟨h, 0, none⟩)), (5, .int .i64 i22), (6, .string s17), (7, .int .i64 x)]) (fun ⟨x, bad1, pos1⟩ => [cel g [.slice A n c, .int .i64 i218, .int .i64 bad1, .int .i64 pos1, v] 86, cel h [.int .i64 kd, .bool false, .int .i64 0, .string ⟨#[]⟩, .slice A26 X.length c27, KV] 90, rw_ eS 9 (.slice A26 X.length c27) X]) (fun _ => S) (fun _ => wf) (fun ⟨x, bad1, pos1⟩ => (X.length - x).toNat) (fun a_ w_ hs_ hw_ => ⟨⟨0, bad219, pos220⟩, (by exact ⟨by omega, by omega, fun h_ => h_, by rw [show (0 : Int).toNat = 0 from rfl, List.take_zero, hasN_nil, if_neg (by simp)]⟩), hs_.mono (Sub.get (.c rfl (.c rfl (.c rfl (.c rfl (.c rfl .n)))))), hw_.keep (.c .h (.c .h (.c .h .n)))⟩) (fun ⟨x, bad1, pos1⟩ ⟨q_0, q_1, q_2, q_3⟩ => ?_)
 show SC _ _ _ _ _ ⟨[(0, .pointer (some ⟨g, 0, none⟩)), (1, .pointer (some ⟨h, 0, none⟩)), (5, .int .i64 i22), (6, .string s17), (7, .int .i64 x)], [cel g [.slice A n c, .int .i64 i218, .int .i64 bad1, .int .i64 pos1, v] 86, cel h [.int .i64 kd, .bool false, .int .i64 0, .string ⟨#[]⟩, .slice A26 X.length c27, KV] 90, rw_ eS 9 (.slice A26 X.length c27) X], S, wf⟩
 refine .seq (.seq (.region ?_))
 refine .v (ev_mv rfl rfl) rfl ?_
 refine .v (ev_mv rfl rfl) rfl ?_
 refine .v (ev_nil rfl rfl) rfl ?_
 refine .v (ev_fa rfl fo90_4 rfl (r := 4) rfl) rfl ?_
 refine .v (ev_ld1 rfl ty82 rfl (At.own1 1 rfl rfl)) rfl ?_
 refine .v (ev_len rfl Try.underlying82 rfl) rfl ?_
 refine .v (ev_cmp rfl rfl rfl rfl) rfl ?_
 refine .v (ev_mv rfl rfl) rfl ?_
 refine .w (fun _ => ev_mv rfl rfl) rfl ?_
 refine .w (fun hb => ev_nil rfl (lkg rfl hb)) rfl ?_
 refine .w (fun hb => ev_fa rfl fo86_2 (lkg rfl hb) (r := 2) rfl) rfl ?_
 refine .w (fun hb => ev_ld1 rfl ty3 (lkg rfl hb) (At.own1 0 rfl rfl)) rfl ?_
 refine .w (fun hb => ev_cmp rfl (lkg rfl hb) rfl rfl) rfl ?_
 refine .v (ev_and rfl rfl rfl rfl) rfl ?_
 refine .go idQ ?_
 refine .condI rfl (bA bD bE) (fun h29 => ?_) (fun h29 => ?_)
 ·
  refine .skipgo idQ (.seq (.block (.seq (.region ?_))))
  refine .v (ev_mv rfl rfl) rfl ?_
  refine .v (ev_nil rfl rfl) rfl ?_
  refine .v (ev_fa rfl fo90_4 rfl (r := 4) rfl) rfl ?_
  refine .v (ev_ld1 rfl ty82 rfl (At.own1 1 rfl rfl)) rfl ?_
  refine .v (ev_mv rfl rfl) rfl ?_
  refine .v (ev_ix rfl Try.underlying82 ty9 rfl rfl (by omega) (by omega) (row_adr (i := x) 2 rfl (by omega) (by omega))) rfl ?_
  refine .v (ev_ld1 rfl ty9 rfl (At.elem1 (row_el (E := eS) (l := X) (i := x) 2 rfl (by omega) (by omega)) 0 rfl)) rfl ?_
  refine .v (ev_mv rfl rfl) rfl ?_
  refine .v (ev_scmp rfl rfl rfl rfl) rfl ?_
  refine .go idQ ?_
  refine .condI rfl bV (fun h30 => ?_) (fun h30 => ?_)
  ·
   refine .region ?_
   refine .v (ev_mv rfl rfl) rfl ?_
   refine .v (ev_mv rfl rfl) rfl ?_
   refine .cons (st_call0 rfl rfl rfl rfl hbd38 rfl (.c .h .n) (no_ g A n c i218 bad1 pos1 v i22 28 _ _) (fun v_q33 C_q33 q33 => ?_))
   obtain ⟨bad231, pos232, p34, rfl, rfl⟩ := q33
   show SP _ _ _ _ _ _ ⟨_, _ :: _, _, _⟩
   refine .go idQ (.region ?_)
   refine .v (ev_mv rfl rfl) rfl ?_
   refine .v (ev_add rfl rfl rfl (r := (x + 1)) rfl (by omega) (by omega)) rfl ?_
   refine .v (ev_as rfl rfl) rfl ?_
   exact SP.nil (SQ.roundb (X := Int × Int × Int) (x := (x, bad1, pos1)) ⟨(x + 1), bad231, pos232⟩ (by exact ⟨by omega, by omega, by omega, nm_go q_0 (by omega) (by simp_all) q_3 (.inl ⟨by assumption, p34⟩)⟩) (by dsimp only; omega) (Sub.get (.c rfl (.c rfl (.c rfl (.c rfl (.c rfl .n)))))) (fun w hw => hw.keep (.c .h (.c .h (.c .h .n)))))
  refine .skipgo idQ (.region ?_)
  refine .v (ev_mv rfl rfl) rfl ?_
  refine .v (ev_add rfl rfl rfl (r := (x + 1)) rfl (by omega) (by omega)) rfl ?_
  refine .v (ev_as rfl rfl) rfl ?_
  exact SP.nil (SQ.roundb (X := Int × Int × Int) (x := (x, bad1, pos1)) ⟨(x + 1), bad1, pos1⟩ (by exact ⟨by omega, by omega, by omega, nm_go q_0 (by omega) (by simp_all) q_3 (.inr ⟨by assumption, rfl, rfl⟩)⟩) (by dsimp only; omega) (Sub.get (.c rfl (.c rfl (.c rfl (.c rfl (.c rfl .n)))))) (fun w hw => hw.keep (.c .h (.c .h (.c .h .n)))))
 refine .exit idQ ?_
 refine .seq ?_
 have hen := nm_end q_0 q_1 q_3 (by simp_all)
 refine .region ?_
 refine .v (ev_mv rfl rfl) rfl ?_
 refine .cons (st_call0 rfl rfl rfl rfl hbd54 rfl (.c .h .n) (next_ g A n c b i218 bad1 pos1 v _ _ hA (by first | omega | simp only [LL] <;> omega | simp <;> omega) (by omega) (by omega) (by omega) (by omega)) (fun v_q39 C_q39 q39 => ?_))
 obtain ⟨r35, i236, bad237, pos238, p40, p41, p42, p43, rfl, rfl⟩ := q39
 show SP _ _ _ _ _ _ ⟨_, _ :: _, _, _⟩
 refine .v (ev_as rfl rfl) rfl ?_
 refine .go idQ (.seq (.seq (.region ?_)))
 refine .v (ev_mv rfl rfl) rfl ?_
 refine .v (ev_cmp rfl rfl rfl rfl) rfl ?_
 refine .v (ev_mv rfl rfl) rfl ?_
 refine .w (fun _ => ev_mv rfl rfl) rfl ?_
 refine .w (fun hb => ev_cmp rfl (lkg rfl hb) rfl rfl) rfl ?_
 refine .v (ev_and rfl rfl rfl rfl) rfl ?_
 refine .go idQ ?_
 refine .condI rfl (bA bD bNE) (fun h44 => ?_) (fun h44 => ?_)
 ·
  refine .region ?_
  refine .v (ev_mv rfl rfl) rfl ?_
  refine .v (ev_mv rfl rfl) rfl ?_
  refine .v (ev_nil rfl rfl) rfl ?_
  refine .v (ev_fa rfl fo86_1 rfl (r := 1) rfl) rfl ?_
  refine .v (ev_ld1 rfl ty3 rfl (At.own1 0 rfl rfl)) rfl ?_
  refine .cons (st_call0 rfl rfl rfl rfl hbd38 rfl (.c .h .n) (no_ g A n c i236 bad237 pos238 v i236 22 _ _) (fun v_q47 C_q47 q47 => ?_))
  obtain ⟨bad245, pos246, p48, rfl, rfl⟩ := q47
  show SP _ _ _ _ _ _ ⟨_, _ :: _, _, _⟩
  refine .go idQ (.seq (.region ?_))
  refine .v (ev_mv rfl rfl) rfl ?_
  refine .v (ev_mv rfl rfl) rfl ?_
  refine .v (ev_nil rfl rfl) rfl ?_
  refine .v (ev_fa rfl fo86_1 rfl (r := 1) rfl) rfl ?_
  refine .v (ev_ld1 rfl ty3 rfl (At.own1 0 rfl rfl)) rfl ?_
  refine .v (ev_add rfl rfl rfl (r := (i236 + 1)) rfl (by omega) (by omega)) rfl ?_
  refine .v (ev_nil rfl rfl) rfl ?_
  refine .v (ev_fa rfl fo86_1 rfl (r := 1) rfl) rfl ?_
  refine .cons (st_store1 rfl rfl rfl ty3 rfl rfl rfl .h (.t .h) ?_)
  refine .go idQ (.region ?_)
  refine .v (ev_mv rfl rfl) rfl ?_
  refine .v (ev_mv rfl rfl) rfl ?_
  refine .v (ev_nil rfl rfl) rfl ?_
  refine .v (ev_fa rfl fo90_4 rfl (r := 4) rfl) rfl ?_
  refine .v (ev_ld1 rfl ty82 rfl (At.own1 1 rfl rfl)) rfl ?_
  refine .v (ev_mv rfl rfl) rfl ?_
  refine .cons (st_lit eS (e := 9) (l := [s17]) rfl rfl rfl rfl (by kernel_rfl) rfl rfl (fun w => by kernel_rfl) (fun b49 => ?_))
  refine .cons (st_app (E := eS) (m := [s17]) rfl rfl rfl rfl Try.underlying82 ai9 rfl rfl rfl (.t (.t (.t .h))) (by first | rfl | omega | simp) (row_src 0 rfl) (by first | omega | simp only [LL] <;> omega | simp <;> omega) rfl (fun v50 => ?_))
  refine .v (ev_nil rfl rfl) rfl ?_
  refine .v (ev_fa rfl fo90_4 rfl (r := 4) rfl) rfl ?_
  refine .know (row_len 0 rfl) (fun hv53 => ?_)
  obtain ⟨A51, c52, rfl, hv53_1, hv53_2⟩ := hv53
  unfold maxLen at hv53_2
  refine .cons (st_store1 rfl rfl rfl ty82 rfl rfl rfl (.t (.t (.t .h))) (.t (.t (.t (.t .h)))) ?_)
  exact SP.nil (end0 Try.results72 (.c (.t (.t (.t .h))) (.c .h (.c .h .n))) ⟨(i236 + 1), bad245, pos246, .slice A51 ((X ++ [s17]).length) c52, (X ++ [s17]), name_3 p6 p7 (by omega) (by omega) p22 p23 hen p40 p41 (by rw [if_pos (by omega)]; exact noF_eq p48), (by omega), (by simp only [List.length_append, List.length_cons, List.length_nil]; omega), (fun y_ hy_ => by rcases List.mem_append.1 hy_ with hy_ | hy_; exact hX y_ hy_; simp only [List.mem_singleton] at hy_; subst hy_; omega), rfl, rfl⟩)
 refine .skipgo idQ (.seq (.region ?_))
 refine .v (ev_mv rfl rfl) rfl ?_
 refine .v (ev_mv rfl rfl) rfl ?_
 refine .v (ev_nil rfl rfl) rfl ?_
 refine .v (ev_fa rfl fo86_1 rfl (r := 1) rfl) rfl ?_
 refine .v (ev_ld1 rfl ty3 rfl (At.own1 0 rfl rfl)) rfl ?_
 refine .v (ev_add rfl rfl rfl (r := (i236 + 1)) rfl (by omega) (by omega)) rfl ?_
 refine .v (ev_nil rfl rfl) rfl ?_
 refine .v (ev_fa rfl fo86_1 rfl (r := 1) rfl) rfl ?_
 refine .cons (st_store1 rfl rfl rfl ty3 rfl rfl rfl .h (.t .h) ?_)
 refine .go idQ (.region ?_)
 refine .v (ev_mv rfl rfl) rfl ?_
 refine .v (ev_mv rfl rfl) rfl ?_
 refine .v (ev_nil rfl rfl) rfl ?_
 refine .v (ev_fa rfl fo90_4 rfl (r := 4) rfl) rfl ?_
 refine .v (ev_ld1 rfl ty82 rfl (At.own1 1 rfl rfl)) rfl ?_
 refine .v (ev_mv rfl rfl) rfl ?_
 refine .cons (st_lit eS (e := 9) (l := [s17]) rfl rfl rfl rfl (by kernel_rfl) rfl rfl (fun w => by kernel_rfl) (fun b54 => ?_))
 refine .cons (st_app (E := eS) (m := [s17]) rfl rfl rfl rfl Try.underlying82 ai9 rfl rfl rfl (.t (.t (.t .h))) (by first | rfl | omega | simp) (row_src 0 rfl) (by first | omega | simp only [LL] <;> omega | simp <;> omega) rfl (fun v55 => ?_))
 refine .v (ev_nil rfl rfl) rfl ?_
 refine .v (ev_fa rfl fo90_4 rfl (r := 4) rfl) rfl ?_
 refine .know (row_len 0 rfl) (fun hv58 => ?_)
 obtain ⟨A56, c57, rfl, hv58_1, hv58_2⟩ := hv58
 unfold maxLen at hv58_2
 refine .cons (st_store1 rfl rfl rfl ty82 rfl rfl rfl (.t (.t (.t .h))) (.t (.t (.t (.t .h)))) ?_)
 exact SP.nil (end0 Try.results72 (.c (.t (.t (.t .h))) (.c .h (.c .h .n))) ⟨(i236 + 1), bad237, pos238, .slice A56 ((X ++ [s17]).length) c57, (X ++ [s17]), name_3 p6 p7 (by omega) (by omega) p22 p23 hen p40 p41 (by rw [if_neg (by omega)]), (by omega), (by simp only [List.length_append, List.length_cons, List.length_nil]; omega), (fun y_ hy_ => by rcases List.mem_append.1 hy_ with hy_ | hy_; exact hX y_ hy_; simp only [List.mem_singleton] at hy_; subst hy_; omega), rfl, rfl⟩)
end Go.Proofs.Ythmkelkefmfmgaa.Sx
set_option maxRecDepth 20000
set_option maxHeartbeats 4000000
namespace Go.Proofs.Ythmkelkefmfmgaa.Sx.FPD
open Go Go.SX Go.Proofs
theorem fo86_2 : fo Try.prog 86 2 = some 2 := by kernel_rfl
theorem ty3 : ty Try.prog 3 = some (false, 1) := by kernel_rfl
theorem fo86_4 : fo Try.prog 86 4 = some 4 := by kernel_rfl
theorem ty34 : ty Try.prog 34 = some (false, 1) := by kernel_rfl
theorem hbd38 : hasBody Try.prog 38 = true := by kernel_rfl
theorem ty90 : ty Try.prog 90 = some (true, 6) := by kernel_rfl
theorem ai90 : (Try.prog.info? 90).map (fun i => (i.zero, i.size, i.bytes)) = some (some (.agg #[.int .i64 0, .bool false, .int .i64 0, .string ⟨#[]⟩, .slice none 0 0, .slice none 0 0]), 6, 88) := by kernel_rfl
theorem mo : Try.prog.follows .mixedOrders = true := by kernel_rfl
end Go.Proofs.Ythmkelkefmfmgaa.Sx.FPD
namespace Go.Proofs.Ythmkelkefmfmgaa.Sx
open Go Go.SX Go.Proofs FPD
theorem put0 (g : Nat) (A : Option Addr) (n : Nat) (c : Nat) (i : Int) (bad : Int) (pos : Int) (v : Value) (l : List TV) (k : Int) (tr_ : Bool) (nn : Int) (s : ByteArray) (fr : Int) (S : Nat → Prop) (wf : World) (hl : l.length ≤ 8192) (hB : ∀ t ∈ l, TB t.v) (hT : TB (TN.mk k tr_ nn s [] [])) :
  TR0 Try.prog 56 [.pointer (some ⟨g, 0, none⟩), .agg #[.int .i64 k, .bool tr_, .int .i64 nn, .string s, .slice none 0 0, .slice none 0 0], .int .i64 fr] [cel g [.slice A n c, .int .i64 i, .int .i64 bad, .int .i64 pos, v] 86, rw_ eTV 90 (v) l, nest 9 3 l] S wf (fun v_ C_ => ∃ (r : Int) (bad2 : Int) (pos2 : Int) (u : Value) (L : List TV), ((VR.mk r (LS.mk i bad2 pos2) (vs L)) = putV (LS.mk i bad pos) (vs l) (TN.mk k tr_ nn s [] []) fr) ∧ (L.length ≤ 8192) ∧ (∀ t ∈ L, TB t.v) ∧ ((bad2 = 0 → bad = 0)) ∧ v_ = .int .i64 r ∧ C_ = [cel g [.slice A n c, .int .i64 i, .int .i64 bad2, .int .i64 pos2, u] 86, rw_ eTV 90 (u) L, nest 9 3 L]) := by
 refine TR.mk Try.func56 rfl Try.ntmps56 rfl rfl (fun w_ => ?_)
 refine .seq (.region ?_)
 refine .cons (st_boxa rfl rfl rfl rfl rfl (fun b1 => ?_))
 refine .v (ev_as rfl rfl) rfl ?_
 refine .go idQ (.seq (.seq (.region ?_)))
 refine .v (ev_mv rfl rfl) rfl ?_
 refine .v (ev_nil rfl rfl) rfl ?_
 refine .v (ev_fa rfl fo86_2 rfl (r := 2) rfl) rfl ?_
 refine .v (ev_ld1 rfl ty3 rfl (At.own1 1 rfl rfl)) rfl ?_
 refine .v (ev_cmp rfl rfl rfl rfl) rfl ?_
 refine .v (ev_mv rfl rfl) rfl ?_
 refine .w (fun _ => ev_mv rfl rfl) rfl ?_
 refine .w (fun hb => ev_nil rfl (lkg rfl hb)) rfl ?_
 refine .w (fun hb => ev_fa rfl fo86_4 (lkg rfl hb) (r := 4) rfl) rfl ?_
 refine .w (fun hb => ev_ld1 rfl ty34 (lkg rfl hb) (At.own1 1 rfl rfl)) rfl ?_
 refine .know (row_len 2 rfl) (fun hv4 => ?_)
 obtain ⟨A2, c3, rfl, hv4_1, hv4_2⟩ := hv4
 unfold maxLen at hv4_2
 refine .w (fun hb => ev_len rfl Try.underlying34 (lkg rfl hb)) rfl ?_
 refine .w (fun hb => ev_cmp rfl (lkg rfl hb) rfl rfl) rfl ?_
 refine .v (ev_and rfl rfl rfl rfl) rfl ?_
 refine .go idQ ?_
 refine .condI rfl (bA bE bD) (fun h5 => ?_) (fun h5 => ?_)
 ·
  refine .region ?_
  refine .v (ev_mv rfl rfl) rfl ?_
  refine .v (ev_mv rfl rfl) rfl ?_
  refine .cons (st_call0 rfl rfl rfl rfl hbd38 rfl (.c (.t .h) .n) (no_ g A n c i bad pos (.slice A2 l.length c3) fr 27 _ _) (fun v_q8 C_q8 q8 => ?_))
  obtain ⟨bad26, pos27, p9, rfl, rfl⟩ := q8
  show SP _ _ _ _ _ _ ⟨_, _ :: _, _, _⟩
  refine .go idQ (.seq (.seq (.region ?_)))
  refine .v (ev_mv rfl rfl) rfl ?_
  refine .v (ev_nil rfl rfl) rfl ?_
  refine .v (ev_fa rfl fo86_2 rfl (r := 2) rfl) rfl ?_
  refine .v (ev_ld1 rfl ty3 rfl (At.own1 0 rfl rfl)) rfl ?_
  refine .v (ev_cmp rfl rfl rfl rfl) rfl ?_
  refine .go idQ ?_
  refine .condI rfl bNE (fun h10 => ?_) (fun h10 => ?_)
  ·
   refine .seq (.region ?_)
   refine .v (ev_as rfl rfl) rfl ?_
   refine .go idQ ?_
   exact .ret idQ (ret1 Try.results56 rfl (.c .h (.c (.t .h) (.c (.t .h) .n))) ⟨0, bad26, pos27, (.slice A2 l.length c3), l, put_full (by omega) (by omega) p9, (by omega), hB, (by omega), rfl, rfl⟩)
  exfalso; omega
 refine .skipgo idQ (.seq (.seq (.region ?_)))
 refine .v (ev_mv rfl rfl) rfl ?_
 refine .v (ev_nil rfl rfl) rfl ?_
 refine .v (ev_fa rfl fo86_2 rfl (r := 2) rfl) rfl ?_
 refine .v (ev_ld1 rfl ty3 rfl (At.own1 1 rfl rfl)) rfl ?_
 refine .v (ev_cmp rfl rfl rfl rfl) rfl ?_
 refine .go idQ ?_
 refine .condI rfl bNE (fun h11 => ?_) (fun h11 => ?_)
 ·
  refine .seq (.region ?_)
  refine .v (ev_as rfl rfl) rfl ?_
  refine .go idQ ?_
  exact .ret idQ (ret1 Try.results56 rfl (.c (.t .h) (.c (.t .h) (.c (.t .h) .n))) ⟨0, bad, pos, .slice A2 l.length c3, l, put_bad (by omega), (by omega), hB, (by omega), rfl, rfl⟩)
 refine .skipgo idQ (.seq ?_)
 refine SC.draw mo [cel g [.slice A n c, .int .i64 i, .int .i64 bad, .int .i64 pos, .slice A2 l.length c3] 86, rw_ eTV 90 (.slice A2 l.length c3) l] [(10, fun w => At w g 0 [.slice A n c, .int .i64 i, .int .i64 bad, .int .i64 pos, .slice A2 l.length c3])] (.c (.t .h) (.c (.t .h) .n)) (fun w_ _ hw_ => (sc1 (At.whole 0 rfl w_ hw_) sc0)) (fun wf_12 hl_12 hx_12 hR_12 => ?_)
 refine SR.k 0 rfl (by kernel_rfl) rfl (ev_mv rfl rfl) ?_
 refine SR.k 1 rfl (by kernel_rfl) rfl (ev_mv rfl rfl) ?_
 refine SR.k 2 rfl (by kernel_rfl) rfl (ev_nil rfl rfl) ?_
 refine SR.k 3 rfl (by kernel_rfl) rfl (ev_fa rfl fo86_4 rfl (r := 4) rfl) ?_
 refine SR.k 4 rfl (by kernel_rfl) rfl (ev_ld1 rfl ty34 rfl (At.elem1 (v := .slice A2 l.length c3) (At.ofcs 0 rfl (by kernel_rfl)) 4 rfl)) ?_
 refine SR.k 5 rfl (by kernel_rfl) rfl (ev_lda (cs := [.int .i64 k, .bool tr_, .int .i64 nn, .string s, .slice none 0 0, .slice none 0 0]) rfl rfl (At.d (At.lent hR_12 0 rfl rfl)) ty90) ?_
 refine SR.one (j := 6) (by kernel_rfl) rfl (st_lit eTV (e := 90) (l := [(TV.mk (TN.mk k tr_ nn s [] []) none 0 none 0)]) rfl rfl rfl rfl (by kernel_rfl) rfl rfl (fun w => by kernel_rfl) (fun b13 => ⟨ttc (fun w_ hw_ => (tc1 (by first | exact At.whole 0 rfl w_ hw_ | exact At.whole 1 rfl w_ hw_ | exact At.whole 2 rfl w_ hw_ | exact At.whole 3 rfl w_ hw_ | exact At.whole 4 rfl w_ hw_ | exact At.whole 5 rfl w_ hw_ | exact At.whole 6 rfl w_ hw_) tc0)), ?_⟩))
 refine SR.one (j := 7) (by kernel_rfl) rfl (st_app (E := eTV) (m := [(TV.mk (TN.mk k tr_ nn s [] []) none 0 none 0)]) rfl rfl rfl rfl Try.underlying34 ai90 rfl rfl rfl (.t (.t .h)) (by first | rfl | omega | simp) (row_src 0 rfl) (by first | omega | simp only [LL] <;> omega | simp <;> omega) rfl (fun v14 => ⟨ttc (fun w_ hw_ => (tc1 (by first | exact At.whole 0 rfl w_ hw_ | exact At.whole 1 rfl w_ hw_ | exact At.whole 2 rfl w_ hw_ | exact At.whole 3 rfl w_ hw_ | exact At.whole 4 rfl w_ hw_ | exact At.whole 5 rfl w_ hw_ | exact At.whole 6 rfl w_ hw_) tc0)), ?_⟩))
 refine SR.k 8 rfl (by kernel_rfl) rfl (ev_nil rfl rfl) ?_
 refine SR.k 9 rfl (by kernel_rfl) rfl (ev_fa rfl fo86_4 rfl (r := 4) rfl) ?_
 refine .know (row_len 0 rfl) (fun hv17 => ?_)
 obtain ⟨A15, c16, rfl, hv17_1, hv17_2⟩ := hv17
 unfold maxLen at hv17_2
 refine SR.one (j := 10) (by kernel_rfl) rfl (st_store1 rfl rfl rfl ty34 rfl rfl rfl (.t (.t .h)) (.t (.t (.t (.t .h)))) ⟨ttc (fun w_ hw_ => (tc2 (by kernel_rfl) tc0)), ?_⟩)
 refine SR.fin (by kernel_rfl) hl_12 hx_12 hR_12 (.c (.c (.c .n))) ?_
 refine SQ.go idQ ?_
 refine .seq (.region ?_)
 refine .v (ev_mv rfl rfl) rfl ?_
 refine .v (ev_nil rfl rfl) rfl ?_
 refine .v (ev_fa rfl fo86_4 rfl (r := 4) rfl) rfl ?_
 refine .v (ev_ld1 rfl ty34 rfl (At.own1 0 rfl rfl)) rfl ?_
 refine .v (ev_len rfl Try.underlying34 rfl) rfl ?_
 refine .v (ev_sub rfl rfl rfl (r := ((((l ++ [(TV.mk (TN.mk k tr_ nn s [] []) none 0 none 0)]).length : Nat) : Int) - 1)) rfl (by omega) (by omega)) rfl ?_
 refine .v (ev_as rfl rfl) rfl ?_
 refine .go idQ ?_
 refine SC.packl (TN.mk k tr_ nn s [] []) (.t (.t (.t (.t .h)))) rfl rfl ?_
 exact .ret idQ (ret1 Try.results56 rfl (.c (.t .h) (.c (.t .h) (.c .h .n))) ⟨(l.length : Int), bad, pos, .slice A15 ((l ++ [(TV.mk (TN.mk k tr_ nn s [] []) none 0 none 0)]).length) c16, (l ++ [(TV.mk (TN.mk k tr_ nn s [] []) none 0 none 0)]), put_ok (v := (TV.mk (TN.mk k tr_ nn s [] []) none 0 none 0)) (by omega) (by omega), (by simp only [List.length_append, List.length_cons, List.length_nil]; omega), (fun y_ hy_ => by rcases List.mem_append.1 hy_ with hy_ | hy_; exact hB y_ hy_; simp only [List.mem_singleton] at hy_; subst hy_; exact hT), (by omega), (congrArg (Value.int .i64) (by simp)), rfl⟩)
theorem put1 (g : Nat) (A : Option Addr) (n : Nat) (c : Nat) (i : Int) (bad : Int) (pos : Int) (v : Value) (l : List TV) (k : Int) (nA : Option Addr) (nc : Nat) (ns : List ByteArray) (kA : Option Addr) (kc : Nat) (ks : List Int) (fr : Int) (S : Nat → Prop) (wf : World) (hl : l.length ≤ 8192) (hB : ∀ t ∈ l, TB t.v) (hT : TB (TN.mk k false 0 ⟨#[]⟩ ns ks)) (hnl : ns.length ≤ 1000000) (hkl : ks.length ≤ 1000000) :
  TR0 Try.prog 56 [.pointer (some ⟨g, 0, none⟩), .agg #[.int .i64 k, .bool false, .int .i64 0, .string ⟨#[]⟩, .slice nA ns.length nc, .slice kA ks.length kc], .int .i64 fr] [cel g [.slice A n c, .int .i64 i, .int .i64 bad, .int .i64 pos, v] 86, rw_ eTV 90 (v) l, nest 9 3 l, rw_ eS 9 (.slice nA ns.length nc) ns, rw_ eZ 3 (.slice kA ks.length kc) ks] S wf (fun v_ C_ => ∃ (r : Int) (bad2 : Int) (pos2 : Int) (u : Value) (L : List TV), ((VR.mk r (LS.mk i bad2 pos2) (vs L)) = putV (LS.mk i bad pos) (vs l) (TN.mk k false 0 ⟨#[]⟩ ns ks) fr) ∧ (L.length ≤ 8192) ∧ (∀ t ∈ L, TB t.v) ∧ ((bad2 = 0 → bad = 0)) ∧ v_ = .int .i64 r ∧ C_ = [cel g [.slice A n c, .int .i64 i, .int .i64 bad2, .int .i64 pos2, u] 86, rw_ eTV 90 (u) L, nest 9 3 L]) := by
 refine TR.mk Try.func56 rfl Try.ntmps56 rfl rfl (fun w_ => ?_)
 refine .seq (.region ?_)
 refine .cons (st_boxa rfl rfl rfl rfl rfl (fun b1 => ?_))
 refine .v (ev_as rfl rfl) rfl ?_
 refine .go idQ (.seq (.seq (.region ?_)))
 refine .v (ev_mv rfl rfl) rfl ?_
 refine .v (ev_nil rfl rfl) rfl ?_
 refine .v (ev_fa rfl fo86_2 rfl (r := 2) rfl) rfl ?_
 refine .v (ev_ld1 rfl ty3 rfl (At.own1 1 rfl rfl)) rfl ?_
 refine .v (ev_cmp rfl rfl rfl rfl) rfl ?_
 refine .v (ev_mv rfl rfl) rfl ?_
 refine .w (fun _ => ev_mv rfl rfl) rfl ?_
 refine .w (fun hb => ev_nil rfl (lkg rfl hb)) rfl ?_
 refine .w (fun hb => ev_fa rfl fo86_4 (lkg rfl hb) (r := 4) rfl) rfl ?_
 refine .w (fun hb => ev_ld1 rfl ty34 (lkg rfl hb) (At.own1 1 rfl rfl)) rfl ?_
 refine .know (row_len 2 rfl) (fun hv4 => ?_)
 obtain ⟨A2, c3, rfl, hv4_1, hv4_2⟩ := hv4
 unfold maxLen at hv4_2
 refine .w (fun hb => ev_len rfl Try.underlying34 (lkg rfl hb)) rfl ?_
 refine .w (fun hb => ev_cmp rfl (lkg rfl hb) rfl rfl) rfl ?_
 refine .v (ev_and rfl rfl rfl rfl) rfl ?_
 refine .go idQ ?_
 refine .condI rfl (bA bE bD) (fun h5 => ?_) (fun h5 => ?_)
 ·
  refine .region ?_
  refine .v (ev_mv rfl rfl) rfl ?_
  refine .v (ev_mv rfl rfl) rfl ?_
  refine .cons (st_call0 rfl rfl rfl rfl hbd38 rfl (.c (.t .h) .n) (no_ g A n c i bad pos (.slice A2 l.length c3) fr 27 _ _) (fun v_q8 C_q8 q8 => ?_))
  obtain ⟨bad26, pos27, p9, rfl, rfl⟩ := q8
  show SP _ _ _ _ _ _ ⟨_, _ :: _, _, _⟩
  refine .go idQ (.seq (.seq (.region ?_)))
  refine .v (ev_mv rfl rfl) rfl ?_
  refine .v (ev_nil rfl rfl) rfl ?_
  refine .v (ev_fa rfl fo86_2 rfl (r := 2) rfl) rfl ?_
  refine .v (ev_ld1 rfl ty3 rfl (At.own1 0 rfl rfl)) rfl ?_
  refine .v (ev_cmp rfl rfl rfl rfl) rfl ?_
  refine .go idQ ?_
  refine .condI rfl bNE (fun h10 => ?_) (fun h10 => ?_)
  ·
   refine .seq (.region ?_)
   refine .v (ev_as rfl rfl) rfl ?_
   refine .go idQ ?_
   exact .ret idQ (ret1 Try.results56 rfl (.c .h (.c (.t .h) (.c (.t .h) .n))) ⟨0, bad26, pos27, (.slice A2 l.length c3), l, put_full (by omega) (by omega) p9, (by omega), hB, (by omega), rfl, rfl⟩)
  exfalso; omega
 refine .skipgo idQ (.seq (.seq (.region ?_)))
 refine .v (ev_mv rfl rfl) rfl ?_
 refine .v (ev_nil rfl rfl) rfl ?_
 refine .v (ev_fa rfl fo86_2 rfl (r := 2) rfl) rfl ?_
 refine .v (ev_ld1 rfl ty3 rfl (At.own1 1 rfl rfl)) rfl ?_
 refine .v (ev_cmp rfl rfl rfl rfl) rfl ?_
 refine .go idQ ?_
 refine .condI rfl bNE (fun h11 => ?_) (fun h11 => ?_)
 ·
  refine .seq (.region ?_)
  refine .v (ev_as rfl rfl) rfl ?_
  refine .go idQ ?_
  exact .ret idQ (ret1 Try.results56 rfl (.c (.t .h) (.c (.t .h) (.c (.t .h) .n))) ⟨0, bad, pos, .slice A2 l.length c3, l, put_bad (by omega), (by omega), hB, (by omega), rfl, rfl⟩)
 refine .skipgo idQ (.seq ?_)
 refine SC.draw mo [cel g [.slice A n c, .int .i64 i, .int .i64 bad, .int .i64 pos, .slice A2 l.length c3] 86, rw_ eTV 90 (.slice A2 l.length c3) l] [(10, fun w => At w g 0 [.slice A n c, .int .i64 i, .int .i64 bad, .int .i64 pos, .slice A2 l.length c3])] (.c (.t .h) (.c (.t .h) .n)) (fun w_ _ hw_ => (sc1 (At.whole 0 rfl w_ hw_) sc0)) (fun wf_12 hl_12 hx_12 hR_12 => ?_)
 refine SR.k 0 rfl (by kernel_rfl) rfl (ev_mv rfl rfl) ?_
 refine SR.k 1 rfl (by kernel_rfl) rfl (ev_mv rfl rfl) ?_
 refine SR.k 2 rfl (by kernel_rfl) rfl (ev_nil rfl rfl) ?_
 refine SR.k 3 rfl (by kernel_rfl) rfl (ev_fa rfl fo86_4 rfl (r := 4) rfl) ?_
 refine SR.k 4 rfl (by kernel_rfl) rfl (ev_ld1 rfl ty34 rfl (At.elem1 (v := .slice A2 l.length c3) (At.ofcs 0 rfl (by kernel_rfl)) 4 rfl)) ?_
 refine SR.k 5 rfl (by kernel_rfl) rfl (ev_lda (cs := [.int .i64 k, .bool false, .int .i64 0, .string ⟨#[]⟩, .slice nA ns.length nc, .slice kA ks.length kc]) rfl rfl (At.d (At.lent hR_12 0 rfl rfl)) ty90) ?_
 refine SR.one (j := 6) (by kernel_rfl) rfl (st_lit eTV (e := 90) (l := [(TV.mk (TN.mk k false 0 ⟨#[]⟩ ns ks) nA nc kA kc)]) rfl rfl rfl rfl (by kernel_rfl) rfl rfl (fun w => by kernel_rfl) (fun b13 => ⟨ttc (fun w_ hw_ => (tc1 (by first | exact At.whole 0 rfl w_ hw_ | exact At.whole 1 rfl w_ hw_ | exact At.whole 2 rfl w_ hw_ | exact At.whole 3 rfl w_ hw_ | exact At.whole 4 rfl w_ hw_ | exact At.whole 5 rfl w_ hw_ | exact At.whole 6 rfl w_ hw_) tc0)), ?_⟩))
 refine SR.one (j := 7) (by kernel_rfl) rfl (st_app (E := eTV) (m := [(TV.mk (TN.mk k false 0 ⟨#[]⟩ ns ks) nA nc kA kc)]) rfl rfl rfl rfl Try.underlying34 ai90 rfl rfl rfl (.t (.t .h)) (by first | rfl | omega | simp) (row_src 0 rfl) (by first | omega | simp only [LL] <;> omega | simp <;> omega) rfl (fun v14 => ⟨ttc (fun w_ hw_ => (tc1 (by first | exact At.whole 0 rfl w_ hw_ | exact At.whole 1 rfl w_ hw_ | exact At.whole 2 rfl w_ hw_ | exact At.whole 3 rfl w_ hw_ | exact At.whole 4 rfl w_ hw_ | exact At.whole 5 rfl w_ hw_ | exact At.whole 6 rfl w_ hw_) tc0)), ?_⟩))
 refine SR.k 8 rfl (by kernel_rfl) rfl (ev_nil rfl rfl) ?_
 refine SR.k 9 rfl (by kernel_rfl) rfl (ev_fa rfl fo86_4 rfl (r := 4) rfl) ?_
 refine .know (row_len 0 rfl) (fun hv17 => ?_)
 obtain ⟨A15, c16, rfl, hv17_1, hv17_2⟩ := hv17
 unfold maxLen at hv17_2
 refine SR.one (j := 10) (by kernel_rfl) rfl (st_store1 rfl rfl rfl ty34 rfl rfl rfl (.t (.t .h)) (.t (.t (.t (.t .h)))) ⟨ttc (fun w_ hw_ => (tc2 (by kernel_rfl) tc0)), ?_⟩)
 refine SR.fin (by kernel_rfl) hl_12 hx_12 hR_12 (.c (.c (.c .n))) ?_
 refine SQ.go idQ ?_
 refine .seq (.region ?_)
 refine .v (ev_mv rfl rfl) rfl ?_
 refine .v (ev_nil rfl rfl) rfl ?_
 refine .v (ev_fa rfl fo86_4 rfl (r := 4) rfl) rfl ?_
 refine .v (ev_ld1 rfl ty34 rfl (At.own1 0 rfl rfl)) rfl ?_
 refine .v (ev_len rfl Try.underlying34 rfl) rfl ?_
 refine .v (ev_sub rfl rfl rfl (r := ((((l ++ [(TV.mk (TN.mk k false 0 ⟨#[]⟩ ns ks) nA nc kA kc)]).length : Nat) : Int) - 1)) rfl (by omega) (by omega)) rfl ?_
 refine .v (ev_as rfl rfl) rfl ?_
 refine .go idQ ?_
 refine SC.pack (TV.mk (TN.mk k false 0 ⟨#[]⟩ ns ks) nA nc kA kc) (.c (.t (.t (.t (.t .h)))) (.c (.t (.t (.t (.t .h)))) (.c (.t (.t (.t (.t .h)))) .n))) (by show ns.length ≤ _; omega) (by show ks.length ≤ _; omega) ?_
 exact .ret idQ (ret1 Try.results56 rfl (.c (.t .h) (.c (.t .h) (.c .h .n))) ⟨(l.length : Int), bad, pos, .slice A15 ((l ++ [(TV.mk (TN.mk k false 0 ⟨#[]⟩ ns ks) nA nc kA kc)]).length) c16, (l ++ [(TV.mk (TN.mk k false 0 ⟨#[]⟩ ns ks) nA nc kA kc)]), put_ok (v := (TV.mk (TN.mk k false 0 ⟨#[]⟩ ns ks) nA nc kA kc)) (by omega) (by omega), (by simp only [List.length_append, List.length_cons, List.length_nil]; omega), (fun y_ hy_ => by rcases List.mem_append.1 hy_ with hy_ | hy_; exact hB y_ hy_; simp only [List.mem_singleton] at hy_; subst hy_; exact hT), (by omega), (congrArg (Value.int .i64) (by simp)), rfl⟩)
end Go.Proofs.Ythmkelkefmfmgaa.Sx
set_option maxRecDepth 20000
set_option maxHeartbeats 4000000
namespace Go.Proofs.Ythmkelkefmfmgaa.Sx.FPE
open Go Go.SX Go.Proofs
theorem zf90 : (Try.prog.info? 90).bind (fun i => i.zero.map Value.cells) = some (List.toArray [.int .i64 0, .bool false, .int .i64 0, .string ⟨#[]⟩, .slice none 0 0, .slice none 0 0]) := by kernel_rfl
theorem ty90 : ty Try.prog 90 = some (true, 6) := by kernel_rfl
theorem fo90_0 : fo Try.prog 90 0 = some 0 := by kernel_rfl
theorem ty88 : ty Try.prog 88 = some (false, 1) := by kernel_rfl
theorem hbd54 : hasBody Try.prog 54 = true := by kernel_rfl
theorem fo86_1 : fo Try.prog 86 1 = some 1 := by kernel_rfl
theorem ty3 : ty Try.prog 3 = some (false, 1) := by kernel_rfl
theorem hbd56 : hasBody Try.prog 56 = true := by kernel_rfl
theorem fo86_2 : fo Try.prog 86 2 = some 2 := by kernel_rfl
theorem hbd72 : hasBody Try.prog 72 = true := by kernel_rfl
theorem fo90_5 : fo Try.prog 90 5 = some 5 := by kernel_rfl
theorem ty56 : ty Try.prog 56 = some (false, 1) := by kernel_rfl
theorem hbd36 : hasBody Try.prog 36 = true := by kernel_rfl
theorem ai3 : (Try.prog.info? 3).map (fun i => (i.zero, i.size, i.bytes)) = some (some (.int .i64 0), 1, 8) := by kernel_rfl
theorem mo : Try.prog.follows .mixedOrders = true := by kernel_rfl
theorem hbd38 : hasBody Try.prog 38 = true := by kernel_rfl
end Go.Proofs.Ythmkelkefmfmgaa.Sx.FPE
namespace Go.Proofs.Ythmkelkefmfmgaa.Sx
open Go Go.SX Go.Proofs FPE
theorem many_ (d : Nat) (g : Nat) (A : Option Addr) (n : Nat) (c : Nat) (b : List Int) (i : Int) (bad : Int) (pos : Int) (v : Value) (l : List TV) (ob : Bool) (deep : Int) (fr : Int) (S : Nat → Prop) (wf : World) (hA : Fr eY S wf A b) (hn : b.length = n) (hN : n ≤ 65536) (hr : ∀ x ∈ b, isB x) (hcap : n ≤ c) (hi : 0 ≤ i ∧ i ≤ n) (hb0 : bad = 0) (hl : l.length ≤ 8192) (hB : ∀ t ∈ l, TB t.v) (hdp : deep = 17 - d) (hd1 : 1 ≤ d ∧ d ≤ 16) (hval : ∀ (g : Nat) (A : Option Addr) (n : Nat) (c : Nat) (b : List Int) (i : Int) (bad : Int) (pos : Int) (v : Value) (l : List TV) (deep : Int) (S : Nat → Prop) (wf : World) (hA : Fr eY S wf A b) (hn : b.length = n) (hN : n ≤ 65536) (hr : ∀ x ∈ b, isB x) (hcap : n ≤ c) (hi : 0 ≤ i ∧ (bad = 0 → i ≤ n) ∧ i ≤ n + 40) (hl : l.length ≤ 8192) (hB : ∀ t ∈ l, TB t.v) (hdp : deep = 18 - d) (hd1 : 1 ≤ d ∧ d ≤ 17),
  TR0 Try.prog 36 [.pointer (some ⟨g, 0, none⟩), .int .i64 deep] [cel g [.slice A n c, .int .i64 i, .int .i64 bad, .int .i64 pos, v] 86, rw_ eTV 90 (v) l, nest 9 3 l] S wf (fun v_ C_ => ∃ (r : Int) (i2 : Int) (bad2 : Int) (pos2 : Int) (u : Value) (L : List TV), ((VR.mk r (LS.mk i2 bad2 pos2) (vs L)) = valueF b d (LS.mk i bad pos) (vs l)) ∧ ((i ≤ i2 ∧ (i2 ≤ i ∨ i2 ≤ n + d + 3) ∧ (bad2 = 0 → i2 ≤ n) ∧ (bad2 = 0 → i < i2 ∧ bad = 0))) ∧ (L.length ≤ 8192) ∧ (∀ t ∈ L, TB t.v) ∧ v_ = .int .i64 r ∧ C_ = [cel g [.slice A n c, .int .i64 i2, .int .i64 bad2, .int .i64 pos2, u] 86, rw_ eTV 90 (u) L, nest 9 3 L])) :
  TR0 Try.prog 59 [.pointer (some ⟨g, 0, none⟩), .bool ob, .int .i64 deep, .int .i64 fr] [cel g [.slice A n c, .int .i64 i, .int .i64 bad, .int .i64 pos, v] 86, rw_ eTV 90 (v) l, nest 9 3 l] S wf (fun v_ C_ => ∃ (r : Int) (i2 : Int) (bad2 : Int) (pos2 : Int) (u : Value) (L : List TV), ((VR.mk r (LS.mk i2 bad2 pos2) (vs L)) = manyF b (valueF b d) ob fr (LS.mk i bad pos) (vs l)) ∧ ((i ≤ i2 ∧ i2 ≤ n + d + 4 ∧ (bad2 = 0 → i2 ≤ n))) ∧ (L.length ≤ 8192) ∧ (∀ t ∈ L, TB t.v) ∧ v_ = .int .i64 r ∧ C_ = [cel g [.slice A n c, .int .i64 i2, .int .i64 bad2, .int .i64 pos2, u] 86, rw_ eTV 90 (u) L, nest 9 3 L]) := by
 have hla := hA.len
 refine TR.mk Try.func59 rfl Try.ntmps59 rfl rfl (fun w_ => ?_)
 refine .seq (.region ?_)
 refine .v (ev_as rfl rfl) rfl ?_
 refine .go idQ (.seq (.region ?_))
 refine .v (ev_any (v := .agg #[.int .i64 5, .bool false, .int .i64 0, .string ⟨#[]⟩, .slice none 0 0, .slice none 0 0]) rfl (by kernel_rfl) (fun _ => by kernel_rfl)) rfl ?_
 refine .cons (st_alloc rfl rfl rfl rfl zf90 (fun b1 => ?_))
 refine .cons (st_storea (l' := [.int .i64 5, .bool false, .int .i64 0, .string ⟨#[]⟩, .slice none 0 0, .slice none 0 0]) rfl rfl rfl ty90 rfl rfl rfl .h rfl rfl ?_)
 refine .go idQ (.seq (.region ?_))
 refine .v (ev_as rfl rfl) rfl ?_
 refine .go idQ (.seq (.seq (.region ?_)))
 refine .v (ev_mv rfl rfl) rfl ?_
 refine .go idQ ?_
 refine .condI rfl bV (fun h2 => ?_) (fun h2 => ?_)
 ·
  refine .seq (.region ?_)
  refine .v (ev_fa rfl fo90_0 rfl (r := 0) rfl) rfl ?_
  refine .cons (st_store1 rfl rfl rfl ty88 rfl rfl rfl .h .h ?_)
  refine .go idQ (.region ?_)
  refine .v (ev_as rfl rfl) rfl ?_
  refine .go idQ (.seq (.seq ?_))
  subst h2
  refine SC.nilrow eS 9 ?_
  refine SC.nilrow eZ 3 ?_
  refine .region ?_
  refine .v (ev_mv rfl rfl) rfl ?_
  refine .cons (st_call0 rfl rfl rfl rfl hbd54 rfl (.c (.t (.t (.t .h))) .n) (next_ g A n c b i bad pos v _ _ hA (by first | omega | simp only [LL] <;> omega | simp <;> omega) (by omega) (by omega) (by omega) (by omega)) (fun v_q7 C_q7 q7 => ?_))
  obtain ⟨r3, i24, bad25, pos26, p8, p9, p10, p11, rfl, rfl⟩ := q7
  show SP _ _ _ _ _ _ ⟨_, _ :: _, _, _⟩
  refine .v (ev_mv rfl rfl) rfl ?_
  refine .v (ev_cmp rfl rfl rfl rfl) rfl ?_
  refine .go idQ ?_
  refine .condI rfl bE (fun h12 => ?_) (fun h12 => ?_)
  ·
   refine .seq (.region ?_)
   refine .v (ev_mv rfl rfl) rfl ?_
   refine .v (ev_mv rfl rfl) rfl ?_
   refine .v (ev_nil rfl rfl) rfl ?_
   refine .v (ev_fa rfl fo86_1 rfl (r := 1) rfl) rfl ?_
   refine .v (ev_ld1 rfl ty3 rfl (At.own1 0 rfl rfl)) rfl ?_
   refine .v (ev_add rfl rfl rfl (r := (i24 + 1)) rfl (by omega) (by omega)) rfl ?_
   refine .v (ev_nil rfl rfl) rfl ?_
   refine .v (ev_fa rfl fo86_1 rfl (r := 1) rfl) rfl ?_
   refine .cons (st_store1 rfl rfl rfl ty3 rfl rfl rfl .h (.t .h) ?_)
   refine .go idQ (.seq (.region ?_))
   refine .v (ev_mv rfl rfl) rfl ?_
   refine .v (ev_lda rfl rfl (At.whole 3 rfl) ty90) rfl ?_
   refine .v (ev_mv rfl rfl) rfl ?_
   refine .cons (st_call0 rfl rfl rfl rfl hbd56 rfl (.c .h (.c (.t (.t (.t .h))) (.c (.t (.t (.t .h))) .n))) (put0 g A n c (i24 + 1) bad25 pos26 v l 6 false 0 ⟨#[]⟩ fr _ _ (by first | omega | simp only [LL] <;> omega | simp <;> omega) hB (tb_leaf (by decide) (by decide) (by decide))) (fun v_q18 C_q18 q18 => ?_))
   obtain ⟨r13, bad214, pos215, u16, L17, p19, p20, p21, p22, rfl, rfl⟩ := q18
   show SP _ _ _ _ _ _ ⟨_, _ :: _ :: _ :: _, _, _⟩
   refine .v (ev_as rfl rfl) rfl ?_
   refine .go idQ ?_
   exact .ret idQ (ret1 Try.results59 rfl (.c .h (.c .h (.c .h .n))) ⟨r13, (i24 + 1), bad214, pos215, u16, L17, many_0 p8 p9 (by assumption) p19, (by omega), p20, p21, rfl, rfl⟩)
  refine .skipgo idQ (.seq (.block ?_))
  refine .loop (X := Nat × Int × Int × Int × Value × (List TV) × Value × (List ByteArray) × Value × (List Int)) (fun ⟨k, i1, bad1, pos1, U, LL, NV, X, KV, Y⟩ => (bad1 = 0 → (n : Int) + 1 - i1 ≤ k ∧ i1 ≤ n) ∧ (i ≤ i1 ∧ i1 ≤ n + d + 4) ∧ LL.length ≤ 8192 ∧ (∀ t ∈ LL, TB t.v) ∧ (∀ y ∈ X, y.size ≤ 200000) ∧ (bad1 = 0 → (X.length : Int) ≤ i1 - i ∧ (Y.length : Int) ≤ i1 - i) ∧ manyL b (valueF b d) true fr k (LS.mk i1 bad1 pos1) (vs LL) X Y = manyF b (valueF b d) true fr (LS.mk i bad pos) (vs l)) (fun ⟨k, i1, bad1, pos1, U, LL, NV, X, KV, Y⟩ => [(0, .pointer (some ⟨g, 0, none⟩)), (1, .bool true), (2, .int .i64 deep), (3, .int .i64 fr), (9, .pointer (some ⟨b1, 0, none⟩)), (10, .int .i64 125)]) (fun ⟨k, i1, bad1, pos1, U, LL, NV, X, KV, Y⟩ => [cel g [.slice A n c, .int .i64 i1, .int .i64 bad1, .int .i64 pos1, U] 86, rw_ eTV 90 (U) LL, nest 9 3 LL, cel b1 [.int .i64 6, .bool false, .int .i64 0, .string ⟨#[]⟩, NV, KV] 90, rw_ eS 9 (NV) X, rw_ eZ 3 (KV) Y]) (fun _ => S) (fun _ => wf) (fun ⟨k, i1, bad1, pos1, U, LL, NV, X, KV, Y⟩ => k) (fun a_ w_ hs_ hw_ => ⟨⟨b.length + 2, i24, bad25, pos26, v, l, (.slice none 0 0), ([] : List ByteArray), (.slice none 0 0), ([] : List Int)⟩, (by exact ⟨by omega, by omega, hl, hB, fun y_ hy_ => (by cases hy_), fun _ => ⟨by simp; omega, by simp; omega⟩, (many_1 p8 p9 (by assumption) rfl)⟩), hs_.mono (Sub.get (.c rfl (.c rfl (.c rfl (.c rfl (.c rfl (.c rfl .n))))))), hw_.keep (.c .h (.c (.t (.t (.t .h))) (.c (.t (.t (.t .h))) (.c (.t (.t .h)) (.c (.t .h) (.c .h .n))))))⟩) (fun ⟨k, i1, bad1, pos1, U, LL, NV, X, KV, Y⟩ ⟨q_0, q_1, q_2, q_3, q_4, q_5, q_6⟩ => ?_)
  show SC _ _ _ _ _ ⟨[(0, .pointer (some ⟨g, 0, none⟩)), (1, .bool true), (2, .int .i64 deep), (3, .int .i64 fr), (9, .pointer (some ⟨b1, 0, none⟩)), (10, .int .i64 125)], [cel g [.slice A n c, .int .i64 i1, .int .i64 bad1, .int .i64 pos1, U] 86, rw_ eTV 90 (U) LL, nest 9 3 LL, cel b1 [.int .i64 6, .bool false, .int .i64 0, .string ⟨#[]⟩, NV, KV] 90, rw_ eS 9 (NV) X, rw_ eZ 3 (KV) Y], S, wf⟩
  refine .seq (.seq (.region ?_))
  refine .v (ev_mv rfl rfl) rfl ?_
  refine .v (ev_nil rfl rfl) rfl ?_
  refine .v (ev_fa rfl fo86_2 rfl (r := 2) rfl) rfl ?_
  refine .v (ev_ld1 rfl ty3 rfl (At.own1 0 rfl rfl)) rfl ?_
  refine .v (ev_cmp rfl rfl rfl rfl) rfl ?_
  refine .go idQ ?_
  refine .condI rfl bE (fun h23 => ?_) (fun h23 => ?_)
  ·
   refine .skipgo idQ (.block (.seq (.seq (.region ?_))))
   refine .v (ev_mv rfl rfl) rfl ?_
   refine .go idQ ?_
   refine .cond_t rfl ?_
   refine .region ?_
   refine .v (ev_mv rfl rfl) rfl ?_
   refine .cons (st_call0 rfl rfl rfl rfl hbd72 rfl (.c .h (.c (.t (.t .h)) (.c (.t (.t .h)) .n))) (name_ g A n c b i1 bad1 pos1 U b1 6 NV KV X _ _ hA (by first | omega | simp only [LL] <;> omega | simp <;> omega) (by omega) (by omega) (by omega) (by omega) (by omega) (by first | omega | simp only [LL] <;> omega | simp <;> omega) q_4) (fun v_q29 C_q29 q29 => ?_))
   obtain ⟨i224, bad225, pos226, NV227, X228, p30, p31, p32, p33, rfl, rfl⟩ := q29
   show SP _ _ _ _ _ _ ⟨_, _ :: _ :: _ :: _, _, _⟩
   refine .go idQ (.seq ?_)
   refine SC.draw mo [cel g [.slice A n c, .int .i64 i224, .int .i64 bad225, .int .i64 pos226, U] 86, cel b1 [.int .i64 6, .bool false, .int .i64 0, .string ⟨#[]⟩, NV227, KV] 90, rw_ eTV 90 (U) LL, nest 9 3 LL, rw_ eZ 3 (KV) Y] [(9, fun w => At w b1 0 [.int .i64 6, .bool false, .int .i64 0, .string ⟨#[]⟩, NV227, KV])] (.c .h (.c .h (.c (.t .h) (.c (.t .h) (.c (.t .h) .n))))) (fun w_ _ hw_ => (sc1 (At.whole 1 rfl w_ hw_) sc0)) (fun wf_34 hl_34 hx_34 hR_34 => ?_)
   refine SR.k 0 rfl (by kernel_rfl) rfl (ev_fa rfl fo90_5 rfl (r := 5) rfl) ?_
   refine SR.k 1 rfl (by kernel_rfl) rfl (ev_ld1 rfl ty56 rfl (At.elem1 (v := KV) (At.ofcs 0 rfl (by kernel_rfl)) 5 rfl)) ?_
   refine SR.k 2 rfl (by kernel_rfl) rfl (ev_mv rfl rfl) ?_
   refine SR.k 3 rfl (by kernel_rfl) rfl (ev_mv rfl rfl) ?_
   refine SR.k 4 rfl (by kernel_rfl) rfl (ev_add rfl rfl rfl (r := (deep + 1)) rfl (by omega) (by omega)) ?_
   refine SR.one (j := 5) (by kernel_rfl) rfl (st_call0 rfl rfl rfl rfl hbd36 rfl (.c .h (.c (.t .h) (.c (.t .h) .n))) (hval g A n c b i224 bad225 pos226 U LL (deep + 1) _ _ (Fr.ext hA hx_34) (by first | omega | simp only [LL] <;> omega | simp <;> omega) (by omega) hr (by omega) (by omega) (by first | omega | simp only [LL] <;> omega | simp <;> omega) q_3 (by omega) (by omega)) (fun v_q41 C_q41 q41 => ⟨ttc (fun w_ hw_ => (tc1 (by obtain ⟨_, _, _, _, _, _, _, _, _, _, rfl, rfl⟩ := q41; first | exact At.whole 0 rfl w_ hw_ | exact At.whole 1 rfl w_ hw_ | exact At.whole 2 rfl w_ hw_ | exact At.whole 3 rfl w_ hw_ | exact At.whole 4 rfl w_ hw_ | exact At.whole 5 rfl w_ hw_ | exact At.whole 6 rfl w_ hw_) tc0)), ?_⟩))
   obtain ⟨r35, i236, bad237, pos238, u39, L40, p42, p43, p44, p45, rfl, rfl⟩ := q41
   show SR _ _ _ _ _ _ _ _ _ ⟨_, _ :: _ :: _ :: _, _, _⟩
   refine SR.one (j := 6) (by kernel_rfl) rfl (st_lit eZ (e := 3) (l := [r35]) rfl rfl rfl rfl (by kernel_rfl) rfl rfl (fun w => by kernel_rfl) (fun b46 => ⟨ttc (fun w_ hw_ => (tc1 (by first | exact At.whole 0 rfl w_ hw_ | exact At.whole 1 rfl w_ hw_ | exact At.whole 2 rfl w_ hw_ | exact At.whole 3 rfl w_ hw_ | exact At.whole 4 rfl w_ hw_ | exact At.whole 5 rfl w_ hw_ | exact At.whole 6 rfl w_ hw_) tc0)), ?_⟩))
   refine SR.one (j := 7) (by kernel_rfl) rfl (st_app (E := eZ) (m := [r35]) rfl rfl rfl rfl Try.underlying56 ai3 rfl rfl rfl (.t (.t (.t (.t (.t .h))))) (by first | rfl | omega | simp) (row_src 0 rfl) (by first | omega | simp only [LL] <;> omega | simp <;> omega) rfl (fun v47 => ⟨ttc (fun w_ hw_ => (tc1 (by first | exact At.whole 0 rfl w_ hw_ | exact At.whole 1 rfl w_ hw_ | exact At.whole 2 rfl w_ hw_ | exact At.whole 3 rfl w_ hw_ | exact At.whole 4 rfl w_ hw_ | exact At.whole 5 rfl w_ hw_ | exact At.whole 6 rfl w_ hw_) tc0)), ?_⟩))
   refine SR.k 8 rfl (by kernel_rfl) rfl (ev_fa rfl fo90_5 rfl (r := 5) rfl) ?_
   refine .know (row_len 0 rfl) (fun hv50 => ?_)
   obtain ⟨A48, c49, rfl, hv50_1, hv50_2⟩ := hv50
   unfold maxLen at hv50_2
   refine SR.one (j := 9) (by kernel_rfl) rfl (st_store1 rfl rfl rfl ty56 rfl rfl rfl (.t (.t (.t (.t (.t .h))))) (.t (.t (.t (.t (.t .h))))) ⟨ttc (fun w_ hw_ => (tc2 (by kernel_rfl) tc0)), ?_⟩)
   refine SR.fin (by kernel_rfl) hl_34 hx_34 hR_34 (.c (.c (.c (.c (.c (.c .n)))))) ?_
   refine SQ.go idQ ?_
   refine .seq (.region ?_)
   refine .v (ev_mv rfl rfl) rfl ?_
   refine .cons (st_call0 rfl rfl rfl rfl hbd54 rfl (.c (.t (.t (.t .h))) .n) (next_ g A n c b i236 bad237 pos238 u39 _ _ hA (by first | omega | simp only [LL] <;> omega | simp <;> omega) (by omega) (by omega) (by omega) (by omega)) (fun v_q55 C_q55 q55 => ?_))
   obtain ⟨r51, i252, bad253, pos254, p56, p57, p58, p59, rfl, rfl⟩ := q55
   show SP _ _ _ _ _ _ ⟨_, _ :: _, _, _⟩
   refine .v (ev_as rfl rfl) rfl ?_
   refine .go idQ (.seq (.seq (.region ?_)))
   refine .v (ev_mv rfl rfl) rfl ?_
   refine .v (ev_cmp rfl rfl rfl rfl) rfl ?_
   refine .v (ev_mv rfl rfl) rfl ?_
   refine .w (fun _ => ev_mv rfl rfl) rfl ?_
   refine .w (fun hb => ev_cmp rfl (lkg rfl hb) rfl rfl) rfl ?_
   refine .v (ev_and rfl rfl rfl rfl) rfl ?_
   refine .v (ev_mv rfl rfl) rfl ?_
   refine .w (fun _ => ev_mv rfl rfl) rfl ?_
   refine .w (fun _ => ev_mv rfl rfl) rfl ?_
   refine .w (fun hb => ev_cmp rfl (lkg rfl hb) (lkg rfl hb) rfl) rfl ?_
   refine .v (ev_and rfl rfl rfl rfl) rfl ?_
   refine .go idQ ?_
   refine .condI rfl (bA (bA bD bNE) bNE) (fun h60 => ?_) (fun h60 => ?_)
   ·
    refine .region ?_
    refine .v (ev_mv rfl rfl) rfl ?_
    refine .v (ev_mv rfl rfl) rfl ?_
    refine .v (ev_nil rfl rfl) rfl ?_
    refine .v (ev_fa rfl fo86_1 rfl (r := 1) rfl) rfl ?_
    refine .v (ev_ld1 rfl ty3 rfl (At.own1 0 rfl rfl)) rfl ?_
    refine .cons (st_call0 rfl rfl rfl rfl hbd38 rfl (.c .h .n) (no_ g A n c i252 bad253 pos254 u39 i252 22 _ _) (fun v_q63 C_q63 q63 => ?_))
    obtain ⟨bad261, pos262, p64, rfl, rfl⟩ := q63
    show SP _ _ _ _ _ _ ⟨_, _ :: _, _, _⟩
    refine .go idQ (.seq (.region ?_))
    refine .v (ev_mv rfl rfl) rfl ?_
    refine .v (ev_mv rfl rfl) rfl ?_
    refine .v (ev_nil rfl rfl) rfl ?_
    refine .v (ev_fa rfl fo86_1 rfl (r := 1) rfl) rfl ?_
    refine .v (ev_ld1 rfl ty3 rfl (At.own1 0 rfl rfl)) rfl ?_
    refine .v (ev_add rfl rfl rfl (r := (i252 + 1)) rfl (by omega) (by omega)) rfl ?_
    refine .v (ev_nil rfl rfl) rfl ?_
    refine .v (ev_fa rfl fo86_1 rfl (r := 1) rfl) rfl ?_
    refine .cons (st_store1 rfl rfl rfl ty3 rfl rfl rfl .h (.t .h) ?_)
    refine .go idQ (.seq (.region ?_))
    refine .v (ev_mv rfl rfl) rfl ?_
    refine .v (ev_mv rfl rfl) rfl ?_
    refine .v (ev_cmp rfl rfl rfl rfl) rfl ?_
    refine .go idQ ?_
    refine .condI rfl bE (fun h65 => ?_) (fun h65 => ?_)
    ·
     refine .seq (.region ?_)
     refine .v (ev_mv rfl rfl) rfl ?_
     refine .v (ev_lda rfl rfl (At.whole 1 rfl) ty90) rfl ?_
     refine .v (ev_mv rfl rfl) rfl ?_
     refine .know (row_len 6 rfl) (fun hv68 => ?_)
     obtain ⟨A66, c67, rfl, hv68_1, hv68_2⟩ := hv68
     unfold maxLen at hv68_2
     refine .cons (st_call0 rfl rfl rfl rfl hbd56 rfl (.c .h (.c (.t (.t (.t .h))) (.c (.t (.t (.t .h))) (.c (.t (.t (.t .h))) (.c (.t .h) .n))))) (put1 g A n c (i252 + 1) bad261 pos262 u39 L40 6 A66 c67 X228 A48 c49 (Y ++ [r35]) fr _ _ (by first | omega | simp only [LL] <;> omega | simp <;> omega) p45 (tb_obj p33 (by omega) (by simp only [List.length_append, List.length_cons, List.length_nil]; omega)) (by first | omega | simp only [LL] <;> omega | simp <;> omega) (by first | omega | simp only [LL] <;> omega | simp <;> omega)) (fun v_q74 C_q74 q74 => ?_))
     obtain ⟨r69, bad270, pos271, u72, L73, p75, p76, p77, p78, rfl, rfl⟩ := q74
     show SP _ _ _ _ _ _ ⟨_, _ :: _ :: _ :: _, _, _⟩
     refine .v (ev_as rfl rfl) rfl ?_
     refine .go idQ ?_
     exact .ret idQ (ret1 Try.results59 rfl (.c .h (.c .h (.c .h .n))) ⟨r69, (i252 + 1), bad270, pos271, u72, L73, many_put (by omega) (by omega) q_6 (.inl ⟨rfl, p30⟩) p42 p56 p57 ((by rw [if_pos (by unfold endB; simp only [if_true, Bool.false_eq_true, if_false]; omega)]; exact noF_eq p64)) (by assumption) p75, (by omega), p76, p77, rfl, rfl⟩)
    exact .skip (SQ.roundb (X := Nat × Int × Int × Int × Value × (List TV) × Value × (List ByteArray) × Value × (List Int)) (x := (k, i1, bad1, pos1, U, LL, NV, X, KV, Y)) ⟨k - 1, (i252 + 1), bad261, pos262, u39, L40, NV227, X228, .slice A48 ((Y ++ [r35]).length) c49, (Y ++ [r35])⟩ (by exact ⟨by omega, by omega, p44, p45, p33, by intro h_; simp only [List.length_append, List.length_cons, List.length_nil]; omega, many_go (by omega) (by omega) q_6 (.inl ⟨rfl, p30⟩) p42 p56 p57 ((by rw [if_pos (by unfold endB; simp only [if_true, Bool.false_eq_true, if_false]; omega)]; exact noF_eq p64)) (by assumption)⟩) (by show k - 1 < k; omega) (Sub.get (.c rfl (.c rfl (.c rfl (.c rfl (.c rfl (.c rfl .n))))))) (fun w hw => hw.keep (.c .h (.c (.t (.t (.t .h))) (.c (.t (.t (.t .h))) (.c .h (.c (.t (.t .h)) (.c .h .n))))))))
   refine .skipgo idQ (.seq (.region ?_))
   refine .v (ev_mv rfl rfl) rfl ?_
   refine .v (ev_mv rfl rfl) rfl ?_
   refine .v (ev_nil rfl rfl) rfl ?_
   refine .v (ev_fa rfl fo86_1 rfl (r := 1) rfl) rfl ?_
   refine .v (ev_ld1 rfl ty3 rfl (At.own1 0 rfl rfl)) rfl ?_
   refine .v (ev_add rfl rfl rfl (r := (i252 + 1)) rfl (by omega) (by omega)) rfl ?_
   refine .v (ev_nil rfl rfl) rfl ?_
   refine .v (ev_fa rfl fo86_1 rfl (r := 1) rfl) rfl ?_
   refine .cons (st_store1 rfl rfl rfl ty3 rfl rfl rfl .h (.t .h) ?_)
   refine .go idQ (.seq (.region ?_))
   refine .v (ev_mv rfl rfl) rfl ?_
   refine .v (ev_mv rfl rfl) rfl ?_
   refine .v (ev_cmp rfl rfl rfl rfl) rfl ?_
   refine .go idQ ?_
   refine .condI rfl bE (fun h79 => ?_) (fun h79 => ?_)
   ·
    refine .seq (.region ?_)
    refine .v (ev_mv rfl rfl) rfl ?_
    refine .v (ev_lda rfl rfl (At.whole 1 rfl) ty90) rfl ?_
    refine .v (ev_mv rfl rfl) rfl ?_
    refine .know (row_len 6 rfl) (fun hv82 => ?_)
    obtain ⟨A80, c81, rfl, hv82_1, hv82_2⟩ := hv82
    unfold maxLen at hv82_2
    refine .cons (st_call0 rfl rfl rfl rfl hbd56 rfl (.c .h (.c (.t (.t (.t .h))) (.c (.t (.t (.t .h))) (.c (.t (.t (.t .h))) (.c (.t .h) .n))))) (put1 g A n c (i252 + 1) bad253 pos254 u39 L40 6 A80 c81 X228 A48 c49 (Y ++ [r35]) fr _ _ (by first | omega | simp only [LL] <;> omega | simp <;> omega) p45 (tb_obj p33 (by omega) (by simp only [List.length_append, List.length_cons, List.length_nil]; omega)) (by first | omega | simp only [LL] <;> omega | simp <;> omega) (by first | omega | simp only [LL] <;> omega | simp <;> omega)) (fun v_q88 C_q88 q88 => ?_))
    obtain ⟨r83, bad284, pos285, u86, L87, p89, p90, p91, p92, rfl, rfl⟩ := q88
    show SP _ _ _ _ _ _ ⟨_, _ :: _ :: _ :: _, _, _⟩
    refine .v (ev_as rfl rfl) rfl ?_
    refine .go idQ ?_
    exact .ret idQ (ret1 Try.results59 rfl (.c .h (.c .h (.c .h .n))) ⟨r83, (i252 + 1), bad284, pos285, u86, L87, many_put (by omega) (by omega) q_6 (.inl ⟨rfl, p30⟩) p42 p56 p57 ((by rw [if_neg (by unfold endB; simp only [if_true, Bool.false_eq_true, if_false]; omega)])) (by assumption) p89, (by omega), p90, p91, rfl, rfl⟩)
   exact .skip (SQ.roundb (X := Nat × Int × Int × Int × Value × (List TV) × Value × (List ByteArray) × Value × (List Int)) (x := (k, i1, bad1, pos1, U, LL, NV, X, KV, Y)) ⟨k - 1, (i252 + 1), bad253, pos254, u39, L40, NV227, X228, .slice A48 ((Y ++ [r35]).length) c49, (Y ++ [r35])⟩ (by exact ⟨by omega, by omega, p44, p45, p33, by intro h_; simp only [List.length_append, List.length_cons, List.length_nil]; omega, many_go (by omega) (by omega) q_6 (.inl ⟨rfl, p30⟩) p42 p56 p57 ((by rw [if_neg (by unfold endB; simp only [if_true, Bool.false_eq_true, if_false]; omega)])) (by assumption)⟩) (by show k - 1 < k; omega) (Sub.get (.c rfl (.c rfl (.c rfl (.c rfl (.c rfl (.c rfl .n))))))) (fun w hw => hw.keep (.c .h (.c (.t (.t (.t .h))) (.c (.t (.t (.t .h))) (.c .h (.c (.t (.t .h)) (.c .h .n))))))))
  refine .exit idQ ?_
  refine .seq (.region ?_)
  refine .v (ev_as rfl rfl) rfl ?_
  refine .go idQ ?_
  exact .ret idQ (ret1 Try.results59 rfl (.c .h (.c .h (.c .h .n))) ⟨0, i1, bad1, pos1, U, LL, many_stop (by omega) q_6, (by omega), q_2, q_3, rfl, rfl⟩)
 refine .skipgo idQ (.seq (.seq ?_))
 have hob : ob = false := by simpa using h2
 subst hob
 refine SC.nilrow eS 9 ?_
 refine SC.nilrow eZ 3 ?_
 refine .region ?_
 refine .v (ev_mv rfl rfl) rfl ?_
 refine .cons (st_call0 rfl rfl rfl rfl hbd54 rfl (.c (.t (.t (.t .h))) .n) (next_ g A n c b i bad pos v _ _ hA (by first | omega | simp only [LL] <;> omega | simp <;> omega) (by omega) (by omega) (by omega) (by omega)) (fun v_q97 C_q97 q97 => ?_))
 obtain ⟨r93, i294, bad295, pos296, p98, p99, p100, p101, rfl, rfl⟩ := q97
 show SP _ _ _ _ _ _ ⟨_, _ :: _, _, _⟩
 refine .v (ev_mv rfl rfl) rfl ?_
 refine .v (ev_cmp rfl rfl rfl rfl) rfl ?_
 refine .go idQ ?_
 refine .condI rfl bE (fun h102 => ?_) (fun h102 => ?_)
 ·
  refine .seq (.region ?_)
  refine .v (ev_mv rfl rfl) rfl ?_
  refine .v (ev_mv rfl rfl) rfl ?_
  refine .v (ev_nil rfl rfl) rfl ?_
  refine .v (ev_fa rfl fo86_1 rfl (r := 1) rfl) rfl ?_
  refine .v (ev_ld1 rfl ty3 rfl (At.own1 0 rfl rfl)) rfl ?_
  refine .v (ev_add rfl rfl rfl (r := (i294 + 1)) rfl (by omega) (by omega)) rfl ?_
  refine .v (ev_nil rfl rfl) rfl ?_
  refine .v (ev_fa rfl fo86_1 rfl (r := 1) rfl) rfl ?_
  refine .cons (st_store1 rfl rfl rfl ty3 rfl rfl rfl .h (.t .h) ?_)
  refine .go idQ (.seq (.region ?_))
  refine .v (ev_mv rfl rfl) rfl ?_
  refine .v (ev_lda rfl rfl (At.whole 3 rfl) ty90) rfl ?_
  refine .v (ev_mv rfl rfl) rfl ?_
  refine .cons (st_call0 rfl rfl rfl rfl hbd56 rfl (.c .h (.c (.t (.t (.t .h))) (.c (.t (.t (.t .h))) .n))) (put0 g A n c (i294 + 1) bad295 pos296 v l 5 false 0 ⟨#[]⟩ fr _ _ (by first | omega | simp only [LL] <;> omega | simp <;> omega) hB (tb_leaf (by decide) (by decide) (by decide))) (fun v_q108 C_q108 q108 => ?_))
  obtain ⟨r103, bad2104, pos2105, u106, L107, p109, p110, p111, p112, rfl, rfl⟩ := q108
  show SP _ _ _ _ _ _ ⟨_, _ :: _ :: _ :: _, _, _⟩
  refine .v (ev_as rfl rfl) rfl ?_
  refine .go idQ ?_
  exact .ret idQ (ret1 Try.results59 rfl (.c .h (.c .h (.c .h .n))) ⟨r103, (i294 + 1), bad2104, pos2105, u106, L107, many_0 p98 p99 (by assumption) p109, (by omega), p110, p111, rfl, rfl⟩)
 refine .skipgo idQ (.seq (.block ?_))
 refine .loop (X := Nat × Int × Int × Int × Value × (List TV) × Value × (List ByteArray) × Value × (List Int)) (fun ⟨k, i1, bad1, pos1, U, LL, NV, X, KV, Y⟩ => (bad1 = 0 → (n : Int) + 1 - i1 ≤ k ∧ i1 ≤ n) ∧ (i ≤ i1 ∧ i1 ≤ n + d + 4) ∧ LL.length ≤ 8192 ∧ (∀ t ∈ LL, TB t.v) ∧ (∀ y ∈ X, y.size ≤ 200000) ∧ (bad1 = 0 → (X.length : Int) ≤ i1 - i ∧ (Y.length : Int) ≤ i1 - i) ∧ manyL b (valueF b d) false fr k (LS.mk i1 bad1 pos1) (vs LL) X Y = manyF b (valueF b d) false fr (LS.mk i bad pos) (vs l)) (fun ⟨k, i1, bad1, pos1, U, LL, NV, X, KV, Y⟩ => [(0, .pointer (some ⟨g, 0, none⟩)), (1, .bool false), (2, .int .i64 deep), (3, .int .i64 fr), (9, .pointer (some ⟨b1, 0, none⟩)), (10, .int .i64 93)]) (fun ⟨k, i1, bad1, pos1, U, LL, NV, X, KV, Y⟩ => [cel g [.slice A n c, .int .i64 i1, .int .i64 bad1, .int .i64 pos1, U] 86, rw_ eTV 90 (U) LL, nest 9 3 LL, cel b1 [.int .i64 5, .bool false, .int .i64 0, .string ⟨#[]⟩, NV, KV] 90, rw_ eS 9 (NV) X, rw_ eZ 3 (KV) Y]) (fun _ => S) (fun _ => wf) (fun ⟨k, i1, bad1, pos1, U, LL, NV, X, KV, Y⟩ => k) (fun a_ w_ hs_ hw_ => ⟨⟨b.length + 2, i294, bad295, pos296, v, l, (.slice none 0 0), ([] : List ByteArray), (.slice none 0 0), ([] : List Int)⟩, (by exact ⟨by omega, by omega, hl, hB, fun y_ hy_ => (by cases hy_), fun _ => ⟨by simp; omega, by simp; omega⟩, (many_1 p98 p99 (by assumption) rfl)⟩), hs_.mono (Sub.get (.c rfl (.c rfl (.c rfl (.c rfl (.c rfl (.c rfl .n))))))), hw_.keep (.c .h (.c (.t (.t (.t .h))) (.c (.t (.t (.t .h))) (.c (.t (.t .h)) (.c (.t .h) (.c .h .n))))))⟩) (fun ⟨k, i1, bad1, pos1, U, LL, NV, X, KV, Y⟩ ⟨q_0, q_1, q_2, q_3, q_4, q_5, q_6⟩ => ?_)
 show SC _ _ _ _ _ ⟨[(0, .pointer (some ⟨g, 0, none⟩)), (1, .bool false), (2, .int .i64 deep), (3, .int .i64 fr), (9, .pointer (some ⟨b1, 0, none⟩)), (10, .int .i64 93)], [cel g [.slice A n c, .int .i64 i1, .int .i64 bad1, .int .i64 pos1, U] 86, rw_ eTV 90 (U) LL, nest 9 3 LL, cel b1 [.int .i64 5, .bool false, .int .i64 0, .string ⟨#[]⟩, NV, KV] 90, rw_ eS 9 (NV) X, rw_ eZ 3 (KV) Y], S, wf⟩
 refine .seq (.seq (.region ?_))
 refine .v (ev_mv rfl rfl) rfl ?_
 refine .v (ev_nil rfl rfl) rfl ?_
 refine .v (ev_fa rfl fo86_2 rfl (r := 2) rfl) rfl ?_
 refine .v (ev_ld1 rfl ty3 rfl (At.own1 0 rfl rfl)) rfl ?_
 refine .v (ev_cmp rfl rfl rfl rfl) rfl ?_
 refine .go idQ ?_
 refine .condI rfl bE (fun h113 => ?_) (fun h113 => ?_)
 ·
  refine .skipgo idQ (.block (.seq (.seq (.region ?_))))
  refine .v (ev_mv rfl rfl) rfl ?_
  refine .go idQ ?_
  refine .cond_f rfl ?_
  refine .skipgo idQ (.seq ?_)
  refine SC.draw mo [cel g [.slice A n c, .int .i64 i1, .int .i64 bad1, .int .i64 pos1, U] 86, rw_ eTV 90 (U) LL, nest 9 3 LL, cel b1 [.int .i64 5, .bool false, .int .i64 0, .string ⟨#[]⟩, NV, KV] 90, rw_ eZ 3 (KV) Y] [(9, fun w => At w b1 0 [.int .i64 5, .bool false, .int .i64 0, .string ⟨#[]⟩, NV, KV])] (.c .h (.c .h (.c .h (.c .h (.c (.t .h) .n))))) (fun w_ _ hw_ => (sc1 (At.whole 3 rfl w_ hw_) sc0)) (fun wf_114 hl_114 hx_114 hR_114 => ?_)
  refine SR.k 0 rfl (by kernel_rfl) rfl (ev_fa rfl fo90_5 rfl (r := 5) rfl) ?_
  refine SR.k 1 rfl (by kernel_rfl) rfl (ev_ld1 rfl ty56 rfl (At.elem1 (v := KV) (At.ofcs 0 rfl (by kernel_rfl)) 5 rfl)) ?_
  refine SR.k 2 rfl (by kernel_rfl) rfl (ev_mv rfl rfl) ?_
  refine SR.k 3 rfl (by kernel_rfl) rfl (ev_mv rfl rfl) ?_
  refine SR.k 4 rfl (by kernel_rfl) rfl (ev_add rfl rfl rfl (r := (deep + 1)) rfl (by omega) (by omega)) ?_
  refine SR.one (j := 5) (by kernel_rfl) rfl (st_call0 rfl rfl rfl rfl hbd36 rfl (.c .h (.c .h (.c .h .n))) (hval g A n c b i1 bad1 pos1 U LL (deep + 1) _ _ (Fr.ext hA hx_114) (by first | omega | simp only [LL] <;> omega | simp <;> omega) (by omega) hr (by omega) (by omega) (by first | omega | simp only [LL] <;> omega | simp <;> omega) q_3 (by omega) (by omega)) (fun v_q121 C_q121 q121 => ⟨ttc (fun w_ hw_ => (tc1 (by obtain ⟨_, _, _, _, _, _, _, _, _, _, rfl, rfl⟩ := q121; first | exact At.whole 0 rfl w_ hw_ | exact At.whole 1 rfl w_ hw_ | exact At.whole 2 rfl w_ hw_ | exact At.whole 3 rfl w_ hw_ | exact At.whole 4 rfl w_ hw_ | exact At.whole 5 rfl w_ hw_ | exact At.whole 6 rfl w_ hw_) tc0)), ?_⟩))
  obtain ⟨r115, i2116, bad2117, pos2118, u119, L120, p122, p123, p124, p125, rfl, rfl⟩ := q121
  show SR _ _ _ _ _ _ _ _ _ ⟨_, _ :: _ :: _ :: _, _, _⟩
  refine SR.one (j := 6) (by kernel_rfl) rfl (st_lit eZ (e := 3) (l := [r115]) rfl rfl rfl rfl (by kernel_rfl) rfl rfl (fun w => by kernel_rfl) (fun b126 => ⟨ttc (fun w_ hw_ => (tc1 (by first | exact At.whole 0 rfl w_ hw_ | exact At.whole 1 rfl w_ hw_ | exact At.whole 2 rfl w_ hw_ | exact At.whole 3 rfl w_ hw_ | exact At.whole 4 rfl w_ hw_ | exact At.whole 5 rfl w_ hw_ | exact At.whole 6 rfl w_ hw_) tc0)), ?_⟩))
  refine SR.one (j := 7) (by kernel_rfl) rfl (st_app (E := eZ) (m := [r115]) rfl rfl rfl rfl Try.underlying56 ai3 rfl rfl rfl (.t (.t (.t (.t (.t .h))))) (by first | rfl | omega | simp) (row_src 0 rfl) (by first | omega | simp only [LL] <;> omega | simp <;> omega) rfl (fun v127 => ⟨ttc (fun w_ hw_ => (tc1 (by first | exact At.whole 0 rfl w_ hw_ | exact At.whole 1 rfl w_ hw_ | exact At.whole 2 rfl w_ hw_ | exact At.whole 3 rfl w_ hw_ | exact At.whole 4 rfl w_ hw_ | exact At.whole 5 rfl w_ hw_ | exact At.whole 6 rfl w_ hw_) tc0)), ?_⟩))
  refine SR.k 8 rfl (by kernel_rfl) rfl (ev_fa rfl fo90_5 rfl (r := 5) rfl) ?_
  refine .know (row_len 0 rfl) (fun hv130 => ?_)
  obtain ⟨A128, c129, rfl, hv130_1, hv130_2⟩ := hv130
  unfold maxLen at hv130_2
  refine SR.one (j := 9) (by kernel_rfl) rfl (st_store1 rfl rfl rfl ty56 rfl rfl rfl (.t (.t (.t (.t (.t .h))))) (.t (.t (.t (.t (.t .h))))) ⟨ttc (fun w_ hw_ => (tc2 (by kernel_rfl) tc0)), ?_⟩)
  refine SR.fin (by kernel_rfl) hl_114 hx_114 hR_114 (.c (.c (.c (.c (.c (.c .n)))))) ?_
  refine SQ.go idQ ?_
  refine .seq (.region ?_)
  refine .v (ev_mv rfl rfl) rfl ?_
  refine .cons (st_call0 rfl rfl rfl rfl hbd54 rfl (.c (.t (.t (.t .h))) .n) (next_ g A n c b i2116 bad2117 pos2118 u119 _ _ hA (by first | omega | simp only [LL] <;> omega | simp <;> omega) (by omega) (by omega) (by omega) (by omega)) (fun v_q135 C_q135 q135 => ?_))
  obtain ⟨r131, i2132, bad2133, pos2134, p136, p137, p138, p139, rfl, rfl⟩ := q135
  show SP _ _ _ _ _ _ ⟨_, _ :: _, _, _⟩
  refine .v (ev_as rfl rfl) rfl ?_
  refine .go idQ (.seq (.seq (.region ?_)))
  refine .v (ev_mv rfl rfl) rfl ?_
  refine .v (ev_cmp rfl rfl rfl rfl) rfl ?_
  refine .v (ev_mv rfl rfl) rfl ?_
  refine .w (fun _ => ev_mv rfl rfl) rfl ?_
  refine .w (fun hb => ev_cmp rfl (lkg rfl hb) rfl rfl) rfl ?_
  refine .v (ev_and rfl rfl rfl rfl) rfl ?_
  refine .v (ev_mv rfl rfl) rfl ?_
  refine .w (fun _ => ev_mv rfl rfl) rfl ?_
  refine .w (fun _ => ev_mv rfl rfl) rfl ?_
  refine .w (fun hb => ev_cmp rfl (lkg rfl hb) (lkg rfl hb) rfl) rfl ?_
  refine .v (ev_and rfl rfl rfl rfl) rfl ?_
  refine .go idQ ?_
  refine .condI rfl (bA (bA bD bNE) bNE) (fun h140 => ?_) (fun h140 => ?_)
  ·
   refine .region ?_
   refine .v (ev_mv rfl rfl) rfl ?_
   refine .v (ev_mv rfl rfl) rfl ?_
   refine .v (ev_nil rfl rfl) rfl ?_
   refine .v (ev_fa rfl fo86_1 rfl (r := 1) rfl) rfl ?_
   refine .v (ev_ld1 rfl ty3 rfl (At.own1 0 rfl rfl)) rfl ?_
   refine .cons (st_call0 rfl rfl rfl rfl hbd38 rfl (.c .h .n) (no_ g A n c i2132 bad2133 pos2134 u119 i2132 22 _ _) (fun v_q143 C_q143 q143 => ?_))
   obtain ⟨bad2141, pos2142, p144, rfl, rfl⟩ := q143
   show SP _ _ _ _ _ _ ⟨_, _ :: _, _, _⟩
   refine .go idQ (.seq (.region ?_))
   refine .v (ev_mv rfl rfl) rfl ?_
   refine .v (ev_mv rfl rfl) rfl ?_
   refine .v (ev_nil rfl rfl) rfl ?_
   refine .v (ev_fa rfl fo86_1 rfl (r := 1) rfl) rfl ?_
   refine .v (ev_ld1 rfl ty3 rfl (At.own1 0 rfl rfl)) rfl ?_
   refine .v (ev_add rfl rfl rfl (r := (i2132 + 1)) rfl (by omega) (by omega)) rfl ?_
   refine .v (ev_nil rfl rfl) rfl ?_
   refine .v (ev_fa rfl fo86_1 rfl (r := 1) rfl) rfl ?_
   refine .cons (st_store1 rfl rfl rfl ty3 rfl rfl rfl .h (.t .h) ?_)
   refine .go idQ (.seq (.region ?_))
   refine .v (ev_mv rfl rfl) rfl ?_
   refine .v (ev_mv rfl rfl) rfl ?_
   refine .v (ev_cmp rfl rfl rfl rfl) rfl ?_
   refine .go idQ ?_
   refine .condI rfl bE (fun h145 => ?_) (fun h145 => ?_)
   ·
    refine .seq (.region ?_)
    refine .v (ev_mv rfl rfl) rfl ?_
    refine .v (ev_lda rfl rfl (At.whole 1 rfl) ty90) rfl ?_
    refine .v (ev_mv rfl rfl) rfl ?_
    refine .know (row_len 6 rfl) (fun hv148 => ?_)
    obtain ⟨A146, c147, rfl, hv148_1, hv148_2⟩ := hv148
    unfold maxLen at hv148_2
    refine .cons (st_call0 rfl rfl rfl rfl hbd56 rfl (.c .h (.c (.t (.t (.t .h))) (.c (.t (.t (.t .h))) (.c (.t (.t (.t .h))) (.c (.t .h) .n))))) (put1 g A n c (i2132 + 1) bad2141 pos2142 u119 L120 5 A146 c147 X A128 c129 (Y ++ [r115]) fr _ _ (by first | omega | simp only [LL] <;> omega | simp <;> omega) p125 (tb_obj q_4 (by omega) (by simp only [List.length_append, List.length_cons, List.length_nil]; omega)) (by first | omega | simp only [LL] <;> omega | simp <;> omega) (by first | omega | simp only [LL] <;> omega | simp <;> omega)) (fun v_q154 C_q154 q154 => ?_))
    obtain ⟨r149, bad2150, pos2151, u152, L153, p155, p156, p157, p158, rfl, rfl⟩ := q154
    show SP _ _ _ _ _ _ ⟨_, _ :: _ :: _ :: _, _, _⟩
    refine .v (ev_as rfl rfl) rfl ?_
    refine .go idQ ?_
    exact .ret idQ (ret1 Try.results59 rfl (.c .h (.c .h (.c .h .n))) ⟨r149, (i2132 + 1), bad2150, pos2151, u152, L153, many_put (by omega) (by omega) q_6 (.inr ⟨rfl, rfl, rfl, rfl, rfl⟩) p122 p136 p137 ((by rw [if_pos (by unfold endB; simp only [if_true, Bool.false_eq_true, if_false]; omega)]; exact noF_eq p144)) (by assumption) p155, (by omega), p156, p157, rfl, rfl⟩)
   exact .skip (SQ.roundb (X := Nat × Int × Int × Int × Value × (List TV) × Value × (List ByteArray) × Value × (List Int)) (x := (k, i1, bad1, pos1, U, LL, NV, X, KV, Y)) ⟨k - 1, (i2132 + 1), bad2141, pos2142, u119, L120, NV, X, .slice A128 ((Y ++ [r115]).length) c129, (Y ++ [r115])⟩ (by exact ⟨by omega, by omega, p124, p125, q_4, by intro h_; simp only [List.length_append, List.length_cons, List.length_nil]; omega, many_go (by omega) (by omega) q_6 (.inr ⟨rfl, rfl, rfl, rfl, rfl⟩) p122 p136 p137 ((by rw [if_pos (by unfold endB; simp only [if_true, Bool.false_eq_true, if_false]; omega)]; exact noF_eq p144)) (by assumption)⟩) (by show k - 1 < k; omega) (Sub.get (.c rfl (.c rfl (.c rfl (.c rfl (.c rfl (.c rfl .n))))))) (fun w hw => hw.keep (.c .h (.c (.t (.t (.t .h))) (.c (.t (.t (.t .h))) (.c .h (.c (.t (.t .h)) (.c .h .n))))))))
  refine .skipgo idQ (.seq (.region ?_))
  refine .v (ev_mv rfl rfl) rfl ?_
  refine .v (ev_mv rfl rfl) rfl ?_
  refine .v (ev_nil rfl rfl) rfl ?_
  refine .v (ev_fa rfl fo86_1 rfl (r := 1) rfl) rfl ?_
  refine .v (ev_ld1 rfl ty3 rfl (At.own1 0 rfl rfl)) rfl ?_
  refine .v (ev_add rfl rfl rfl (r := (i2132 + 1)) rfl (by omega) (by omega)) rfl ?_
  refine .v (ev_nil rfl rfl) rfl ?_
  refine .v (ev_fa rfl fo86_1 rfl (r := 1) rfl) rfl ?_
  refine .cons (st_store1 rfl rfl rfl ty3 rfl rfl rfl .h (.t .h) ?_)
  refine .go idQ (.seq (.region ?_))
  refine .v (ev_mv rfl rfl) rfl ?_
  refine .v (ev_mv rfl rfl) rfl ?_
  refine .v (ev_cmp rfl rfl rfl rfl) rfl ?_
  refine .go idQ ?_
  refine .condI rfl bE (fun h159 => ?_) (fun h159 => ?_)
  ·
   refine .seq (.region ?_)
   refine .v (ev_mv rfl rfl) rfl ?_
   refine .v (ev_lda rfl rfl (At.whole 1 rfl) ty90) rfl ?_
   refine .v (ev_mv rfl rfl) rfl ?_
   refine .know (row_len 6 rfl) (fun hv162 => ?_)
   obtain ⟨A160, c161, rfl, hv162_1, hv162_2⟩ := hv162
   unfold maxLen at hv162_2
   refine .cons (st_call0 rfl rfl rfl rfl hbd56 rfl (.c .h (.c (.t (.t (.t .h))) (.c (.t (.t (.t .h))) (.c (.t (.t (.t .h))) (.c (.t .h) .n))))) (put1 g A n c (i2132 + 1) bad2133 pos2134 u119 L120 5 A160 c161 X A128 c129 (Y ++ [r115]) fr _ _ (by first | omega | simp only [LL] <;> omega | simp <;> omega) p125 (tb_obj q_4 (by omega) (by simp only [List.length_append, List.length_cons, List.length_nil]; omega)) (by first | omega | simp only [LL] <;> omega | simp <;> omega) (by first | omega | simp only [LL] <;> omega | simp <;> omega)) (fun v_q168 C_q168 q168 => ?_))
   obtain ⟨r163, bad2164, pos2165, u166, L167, p169, p170, p171, p172, rfl, rfl⟩ := q168
   show SP _ _ _ _ _ _ ⟨_, _ :: _ :: _ :: _, _, _⟩
   refine .v (ev_as rfl rfl) rfl ?_
   refine .go idQ ?_
   exact .ret idQ (ret1 Try.results59 rfl (.c .h (.c .h (.c .h .n))) ⟨r163, (i2132 + 1), bad2164, pos2165, u166, L167, many_put (by omega) (by omega) q_6 (.inr ⟨rfl, rfl, rfl, rfl, rfl⟩) p122 p136 p137 ((by rw [if_neg (by unfold endB; simp only [if_true, Bool.false_eq_true, if_false]; omega)])) (by assumption) p169, (by omega), p170, p171, rfl, rfl⟩)
  exact .skip (SQ.roundb (X := Nat × Int × Int × Int × Value × (List TV) × Value × (List ByteArray) × Value × (List Int)) (x := (k, i1, bad1, pos1, U, LL, NV, X, KV, Y)) ⟨k - 1, (i2132 + 1), bad2133, pos2134, u119, L120, NV, X, .slice A128 ((Y ++ [r115]).length) c129, (Y ++ [r115])⟩ (by exact ⟨by omega, by omega, p124, p125, q_4, by intro h_; simp only [List.length_append, List.length_cons, List.length_nil]; omega, many_go (by omega) (by omega) q_6 (.inr ⟨rfl, rfl, rfl, rfl, rfl⟩) p122 p136 p137 ((by rw [if_neg (by unfold endB; simp only [if_true, Bool.false_eq_true, if_false]; omega)])) (by assumption)⟩) (by show k - 1 < k; omega) (Sub.get (.c rfl (.c rfl (.c rfl (.c rfl (.c rfl (.c rfl .n))))))) (fun w hw => hw.keep (.c .h (.c (.t (.t (.t .h))) (.c (.t (.t (.t .h))) (.c .h (.c (.t (.t .h)) (.c .h .n))))))))
 refine .exit idQ ?_
 refine .seq (.region ?_)
 refine .v (ev_as rfl rfl) rfl ?_
 refine .go idQ ?_
 exact .ret idQ (ret1 Try.results59 rfl (.c .h (.c .h (.c .h .n))) ⟨0, i1, bad1, pos1, U, LL, many_stop (by omega) q_6, (by omega), q_2, q_3, rfl, rfl⟩)
end Go.Proofs.Ythmkelkefmfmgaa.Sx
set_option maxRecDepth 20000
set_option maxHeartbeats 4000000
namespace Go.Proofs.Ythmkelkefmfmgaa.Sx.FPF
open Go Go.SX Go.Proofs
theorem hbd54 : hasBody Try.prog 54 = true := by kernel_rfl
theorem fo86_1 : fo Try.prog 86 1 = some 1 := by kernel_rfl
theorem ty3 : ty Try.prog 3 = some (false, 1) := by kernel_rfl
theorem hbd55 : hasBody Try.prog 55 = true := by kernel_rfl
theorem hbd56 : hasBody Try.prog 56 = true := by kernel_rfl
theorem hbd57 : hasBody Try.prog 57 = true := by kernel_rfl
theorem hbd58 : hasBody Try.prog 58 = true := by kernel_rfl
theorem hbd38 : hasBody Try.prog 38 = true := by kernel_rfl
theorem hbd59 : hasBody Try.prog 59 = true := by kernel_rfl
end Go.Proofs.Ythmkelkefmfmgaa.Sx.FPF
namespace Go.Proofs.Ythmkelkefmfmgaa.Sx
open Go Go.SX Go.Proofs FPF
theorem valueP_ : ∀ (d : Nat) (g : Nat) (A : Option Addr) (n : Nat) (c : Nat) (b : List Int) (i : Int) (bad : Int) (pos : Int) (v : Value) (l : List TV) (deep : Int) (S : Nat → Prop) (wf : World) (hA : Fr eY S wf A b) (hn : b.length = n) (hN : n ≤ 65536) (hr : ∀ x ∈ b, isB x) (hcap : n ≤ c) (hi : 0 ≤ i ∧ (bad = 0 → i ≤ n) ∧ i ≤ n + 40) (hl : l.length ≤ 8192) (hB : ∀ t ∈ l, TB t.v) (hdp : deep = 18 - d) (hd1 : 1 ≤ d ∧ d ≤ 17),
  TR0 Try.prog 36 [.pointer (some ⟨g, 0, none⟩), .int .i64 deep] [cel g [.slice A n c, .int .i64 i, .int .i64 bad, .int .i64 pos, v] 86, rw_ eTV 90 (v) l, nest 9 3 l] S wf (fun v_ C_ => ∃ (r : Int) (i2 : Int) (bad2 : Int) (pos2 : Int) (u : Value) (L : List TV), ((VR.mk r (LS.mk i2 bad2 pos2) (vs L)) = valueF b d (LS.mk i bad pos) (vs l)) ∧ ((i ≤ i2 ∧ (i2 ≤ i ∨ i2 ≤ n + d + 3) ∧ (bad2 = 0 → i2 ≤ n) ∧ (bad2 = 0 → i < i2 ∧ bad = 0))) ∧ (L.length ≤ 8192) ∧ (∀ t ∈ L, TB t.v) ∧ v_ = .int .i64 r ∧ C_ = [cel g [.slice A n c, .int .i64 i2, .int .i64 bad2, .int .i64 pos2, u] 86, rw_ eTV 90 (u) L, nest 9 3 L]) := by
 refine nat_ind ?_ (fun d ih => ?_)
 · intro g A n c b i bad pos v l deep S wf hA hn hN hr hcap hi hl hB hdp hd1; exfalso; omega
 intro g A n c b i bad pos v l deep S wf hA hn hN hr hcap hi hl hB hdp hd1
 have hla := hA.len
 refine TR.mk Try.func36 rfl Try.ntmps36 rfl rfl (fun w_ => ?_)
 refine .seq (.region ?_)
 refine .v (ev_as rfl rfl) rfl ?_
 refine .go idQ (.seq (.region ?_))
 refine .v (ev_mv rfl rfl) rfl ?_
 refine .cons (st_call0 rfl rfl rfl rfl hbd54 rfl (.c .h .n) (next_ g A n c b i bad pos v _ _ hA (by first | omega | simp only [LL] <;> omega | simp <;> omega) (by omega) (by omega) (by omega) (by omega)) (fun v_q5 C_q5 q5 => ?_))
 obtain ⟨r1, i22, bad23, pos24, p6, p7, p8, p9, rfl, rfl⟩ := q5
 show SP _ _ _ _ _ _ ⟨_, _ :: _, _, _⟩
 refine .v (ev_as rfl rfl) rfl ?_
 refine .go idQ (.seq (.region ?_))
 refine .v (ev_mv rfl rfl) rfl ?_
 refine .v (ev_nil rfl rfl) rfl ?_
 refine .v (ev_fa rfl fo86_1 rfl (r := 1) rfl) rfl ?_
 refine .v (ev_ld1 rfl ty3 rfl (At.own1 0 rfl rfl)) rfl ?_
 refine .v (ev_as rfl rfl) rfl ?_
 refine .go idQ (.seq (.block (.seq (.region ?_))))
 refine .v (ev_mv rfl rfl) rfl ?_
 refine .v (ev_cmp rfl rfl rfl rfl) rfl ?_
 refine .v (ev_as rfl rfl) rfl ?_
 refine .go idQ ?_
 refine .condI rfl bD (fun h10 => ?_) (fun h10 => ?_)
 ·
  refine .seq (.region ?_)
  refine .v (ev_as rfl rfl) rfl ?_
  refine .go idQ ?_
  exact .ret idQ (ret1 Try.results36 rfl (.c .h (.c .h (.c .h .n))) ⟨0, i22, bad23, pos24, v, l, val_1 p6 p7 (by omega), (by omega), hl, hB, rfl, rfl⟩)
 refine .seq (.region ?_)
 refine .v (ev_mv rfl rfl) rfl ?_
 refine .v (ev_cmp rfl rfl rfl rfl) rfl ?_
 refine .v (ev_as rfl rfl) rfl ?_
 refine .go idQ ?_
 refine .condI rfl bE (fun h11 => ?_) (fun h11 => ?_)
 ·
  refine .seq (.region ?_)
  refine .v (ev_mv rfl rfl) rfl ?_
  refine .cons (st_call0 rfl rfl rfl rfl hbd55 rfl (.c .h .n) (word2_ g A n c b i22 bad23 pos24 v ⟨#[110, 117, 108, 108]⟩ _ _ hA (by first | omega | simp only [LL] <;> omega | simp <;> omega) (by omega) (by omega) (by omega) (by omega) (by decide)) (fun v_q15 C_q15 q15 => ?_))
  obtain ⟨i212, bad213, pos214, p16, p17, rfl, rfl⟩ := q15
  show SP _ _ _ _ _ _ ⟨_, _ :: _, _, _⟩
  refine .go idQ (.seq (.region ?_))
  refine .v (ev_mv rfl rfl) rfl ?_
  refine .v (ev_any (v := .agg #[.int .i64 1, .bool false, .int .i64 0, .string ⟨#[]⟩, .slice none 0 0, .slice none 0 0]) rfl (by kernel_rfl) (fun _ => by kernel_rfl)) rfl ?_
  refine .v (ev_mv rfl rfl) rfl ?_
  refine .cons (st_call0 rfl rfl rfl rfl hbd56 rfl (.c .h (.c .h (.c .h .n))) (put0 g A n c i212 bad213 pos214 v l 1 false 0 ⟨#[]⟩ i22 _ _ (by first | omega | simp only [LL] <;> omega | simp <;> omega) hB (tb_leaf (by decide) (by decide) (by decide))) (fun v_q23 C_q23 q23 => ?_))
  obtain ⟨r18, bad219, pos220, u21, L22, p24, p25, p26, p27, rfl, rfl⟩ := q23
  show SP _ _ _ _ _ _ ⟨_, _ :: _ :: _ :: _, _, _⟩
  refine .v (ev_as rfl rfl) rfl ?_
  refine .go idQ ?_
  exact .ret idQ (ret1 Try.results36 rfl (.c .h (.c .h (.c .h .n))) ⟨r18, i212, bad219, pos220, u21, L22, val_2 p6 p7 (by omega) (by rw [← bs_null, ← p16]; exact p24), (by have h_ : (⟨#[110, 117, 108, 108]⟩ : ByteArray).size = 4 := rfl; omega), p25, p26, rfl, rfl⟩)
 refine .seq (.region ?_)
 refine .v (ev_mv rfl rfl) rfl ?_
 refine .v (ev_cmp rfl rfl rfl rfl) rfl ?_
 refine .v (ev_as rfl rfl) rfl ?_
 refine .go idQ ?_
 refine .condI rfl bE (fun h28 => ?_) (fun h28 => ?_)
 ·
  refine .seq (.region ?_)
  refine .v (ev_mv rfl rfl) rfl ?_
  refine .cons (st_call0 rfl rfl rfl rfl hbd55 rfl (.c .h .n) (word2_ g A n c b i22 bad23 pos24 v ⟨#[116, 114, 117, 101]⟩ _ _ hA (by first | omega | simp only [LL] <;> omega | simp <;> omega) (by omega) (by omega) (by omega) (by omega) (by decide)) (fun v_q32 C_q32 q32 => ?_))
  obtain ⟨i229, bad230, pos231, p33, p34, rfl, rfl⟩ := q32
  show SP _ _ _ _ _ _ ⟨_, _ :: _, _, _⟩
  refine .go idQ (.seq (.region ?_))
  refine .v (ev_mv rfl rfl) rfl ?_
  refine .v (ev_any (v := .agg #[.int .i64 2, .bool true, .int .i64 0, .string ⟨#[]⟩, .slice none 0 0, .slice none 0 0]) rfl (by kernel_rfl) (fun _ => by kernel_rfl)) rfl ?_
  refine .v (ev_mv rfl rfl) rfl ?_
  refine .cons (st_call0 rfl rfl rfl rfl hbd56 rfl (.c .h (.c .h (.c .h .n))) (put0 g A n c i229 bad230 pos231 v l 2 true 0 ⟨#[]⟩ i22 _ _ (by first | omega | simp only [LL] <;> omega | simp <;> omega) hB (tb_leaf (by decide) (by decide) (by decide))) (fun v_q40 C_q40 q40 => ?_))
  obtain ⟨r35, bad236, pos237, u38, L39, p41, p42, p43, p44, rfl, rfl⟩ := q40
  show SP _ _ _ _ _ _ ⟨_, _ :: _ :: _ :: _, _, _⟩
  refine .v (ev_as rfl rfl) rfl ?_
  refine .go idQ ?_
  exact .ret idQ (ret1 Try.results36 rfl (.c .h (.c .h (.c .h .n))) ⟨r35, i229, bad236, pos237, u38, L39, val_3 p6 p7 (by omega) (by rw [← bs_true, ← p33]; exact p41), (by have h_ : (⟨#[116, 114, 117, 101]⟩ : ByteArray).size = 4 := rfl; omega), p42, p43, rfl, rfl⟩)
 refine .seq (.region ?_)
 refine .v (ev_mv rfl rfl) rfl ?_
 refine .v (ev_cmp rfl rfl rfl rfl) rfl ?_
 refine .v (ev_as rfl rfl) rfl ?_
 refine .go idQ ?_
 refine .condI rfl bE (fun h45 => ?_) (fun h45 => ?_)
 ·
  refine .seq (.region ?_)
  refine .v (ev_mv rfl rfl) rfl ?_
  refine .cons (st_call0 rfl rfl rfl rfl hbd55 rfl (.c .h .n) (word2_ g A n c b i22 bad23 pos24 v ⟨#[102, 97, 108, 115, 101]⟩ _ _ hA (by first | omega | simp only [LL] <;> omega | simp <;> omega) (by omega) (by omega) (by omega) (by omega) (by decide)) (fun v_q49 C_q49 q49 => ?_))
  obtain ⟨i246, bad247, pos248, p50, p51, rfl, rfl⟩ := q49
  show SP _ _ _ _ _ _ ⟨_, _ :: _, _, _⟩
  refine .go idQ (.seq (.region ?_))
  refine .v (ev_mv rfl rfl) rfl ?_
  refine .v (ev_any (v := .agg #[.int .i64 2, .bool false, .int .i64 0, .string ⟨#[]⟩, .slice none 0 0, .slice none 0 0]) rfl (by kernel_rfl) (fun _ => by kernel_rfl)) rfl ?_
  refine .v (ev_mv rfl rfl) rfl ?_
  refine .cons (st_call0 rfl rfl rfl rfl hbd56 rfl (.c .h (.c .h (.c .h .n))) (put0 g A n c i246 bad247 pos248 v l 2 false 0 ⟨#[]⟩ i22 _ _ (by first | omega | simp only [LL] <;> omega | simp <;> omega) hB (tb_leaf (by decide) (by decide) (by decide))) (fun v_q57 C_q57 q57 => ?_))
  obtain ⟨r52, bad253, pos254, u55, L56, p58, p59, p60, p61, rfl, rfl⟩ := q57
  show SP _ _ _ _ _ _ ⟨_, _ :: _ :: _ :: _, _, _⟩
  refine .v (ev_as rfl rfl) rfl ?_
  refine .go idQ ?_
  exact .ret idQ (ret1 Try.results36 rfl (.c .h (.c .h (.c .h .n))) ⟨r52, i246, bad253, pos254, u55, L56, val_4 p6 p7 (by omega) (by rw [← bs_false, ← p50]; exact p58), (by have h_ : (⟨#[102, 97, 108, 115, 101]⟩ : ByteArray).size = 5 := rfl; omega), p59, p60, rfl, rfl⟩)
 refine .seq (.region ?_)
 refine .v (ev_mv rfl rfl) rfl ?_
 refine .v (ev_cmp rfl rfl rfl rfl) rfl ?_
 refine .v (ev_as rfl rfl) rfl ?_
 refine .go idQ ?_
 refine .condI rfl bE (fun h62 => ?_) (fun h62 => ?_)
 ·
  refine .seq (.region ?_)
  refine .v (ev_mv rfl rfl) rfl ?_
  refine .v (ev_mv rfl rfl) rfl ?_
  refine .cons (st_call0 rfl rfl rfl rfl hbd57 rfl (.c .h .n) (text2_ g A n c b i22 bad23 pos24 v _ _ hA (by first | omega | simp only [LL] <;> omega | simp <;> omega) (by omega) (by omega) (by omega) (by omega) (by omega) (by omega)) (fun v_q67 C_q67 q67 => ?_))
  obtain ⟨s63, i264, bad265, pos266, p68, p69, p70, p71, rfl, rfl⟩ := q67
  show SP _ _ _ _ _ _ ⟨_, _ :: _, _, _⟩
  refine .v (ev_any (v := .agg #[.int .i64 4, .bool false, .int .i64 0, .string s63, .slice none 0 0, .slice none 0 0]) rfl (by kernel_rfl) (fun _ => by kernel_rfl)) rfl ?_
  refine .v (ev_mv rfl rfl) rfl ?_
  refine .cons (st_call0 rfl rfl rfl rfl hbd56 rfl (.c .h (.c .h (.c .h .n))) (put0 g A n c i264 bad265 pos266 v l 4 false 0 s63 i22 _ _ (by first | omega | simp only [LL] <;> omega | simp <;> omega) hB (tb_leaf (by omega) (by decide) (by decide))) (fun v_q77 C_q77 q77 => ?_))
  obtain ⟨r72, bad273, pos274, u75, L76, p78, p79, p80, p81, rfl, rfl⟩ := q77
  show SP _ _ _ _ _ _ ⟨_, _ :: _ :: _ :: _, _, _⟩
  refine .v (ev_as rfl rfl) rfl ?_
  refine .go idQ ?_
  exact .ret idQ (ret1 Try.results36 rfl (.c .h (.c .h (.c .h .n))) ⟨r72, i264, bad273, pos274, u75, L76, val_5 p6 p7 (by omega) (by rw [← p68, ← p69]; exact p78), (by omega), p79, p80, rfl, rfl⟩)
 refine .seq (.region ?_)
 refine .v (ev_mv rfl rfl) rfl ?_
 refine .v (ev_cmp rfl rfl rfl rfl) rfl ?_
 refine .v (ev_mv rfl rfl) rfl ?_
 refine .w (fun _ => ev_mv rfl rfl) rfl ?_
 refine .w (fun hb => ev_cmp rfl (lkg rfl hb) rfl rfl) rfl ?_
 refine .w (fun hb => ev_mv rfl (lkg rfl hb)) rfl ?_
 rcases Bool.eq_false_or_eq_true (r1 == 45) with hb82 | hb82
 ·
  have hb82_ := bT bE hb82
  refine SP.reslotv (t := 58) rfl (gv_off hb82) ?_
  refine .cons (.offu rfl rfl rfl rfl rfl ?_)
  refine .cons (.offu rfl rfl rfl rfl rfl ?_)
  refine SP.reslot (t := 55) rfl hb82 ?_
  refine .cons (.off rfl rfl rfl rfl rfl rfl ?_)
  refine .v (ev_pickt rfl rfl rfl rfl) rfl ?_
  refine .v (ev_as rfl rfl) rfl ?_
  refine .go idQ ?_
  refine .cond_t rfl ?_
  refine .seq (.region ?_)
  refine .v (ev_mv rfl rfl) rfl ?_
  refine .v (ev_mv rfl rfl) rfl ?_
  refine .cons (st_call0 rfl rfl rfl rfl hbd58 rfl (.c .h .n) (number_ g A n c b i22 bad23 pos24 v _ _ hA (by first | omega | simp only [LL] <;> omega | simp <;> omega) (by omega) (by omega) (by omega) (by omega) (by omega) (by unfold SX.numB; omega)) (fun v_q87 C_q87 q87 => ?_))
  obtain ⟨r83, i284, bad285, pos286, p88, p89, p90, p91, rfl, rfl⟩ := q87
  show SP _ _ _ _ _ _ ⟨_, _ :: _, _, _⟩
  refine .v (ev_any (v := .agg #[.int .i64 3, .bool false, .int .i64 r83, .string ⟨#[]⟩, .slice none 0 0, .slice none 0 0]) rfl (by kernel_rfl) (fun _ => by kernel_rfl)) rfl ?_
  refine .v (ev_mv rfl rfl) rfl ?_
  refine .cons (st_call0 rfl rfl rfl rfl hbd56 rfl (.c .h (.c .h (.c .h .n))) (put0 g A n c i284 bad285 pos286 v l 3 false r83 ⟨#[]⟩ i22 _ _ (by first | omega | simp only [LL] <;> omega | simp <;> omega) hB (tb_leaf (by decide) (by omega) (by omega))) (fun v_q97 C_q97 q97 => ?_))
  obtain ⟨r92, bad293, pos294, u95, L96, p98, p99, p100, p101, rfl, rfl⟩ := q97
  show SP _ _ _ _ _ _ ⟨_, _ :: _ :: _ :: _, _, _⟩
  refine .v (ev_as rfl rfl) rfl ?_
  refine .go idQ ?_
  exact .ret idQ (ret1 Try.results36 rfl (.c .h (.c .h (.c .h .n))) ⟨r92, i284, bad293, pos294, u95, L96, val_6 p6 p7 (by omega) (by rw [← p88, ← p89]; exact p98), (by omega), p99, p100, rfl, rfl⟩)
 have hb82_ := bF bE hb82
 refine SP.reslotv (t := 58) rfl (gv_on hb82) ?_
 refine .w (fun _ => ev_mv rfl rfl) rfl ?_
 refine .w (fun hb => ev_cmp rfl (lkg rfl hb) rfl rfl) rfl ?_
 refine SP.reslot (t := 55) rfl hb82 ?_
 refine .cons (.on rfl rfl rfl (Ev.step (ev_and rfl rfl rfl rfl) rfl rfl rfl ?_))
 refine .v (ev_pickf rfl rfl rfl rfl) rfl ?_
 refine .v (ev_as rfl rfl) rfl ?_
 refine .go idQ ?_
 refine .condI rfl (bA bD bD) (fun h102 => ?_) (fun h102 => ?_)
 ·
  refine .seq (.region ?_)
  refine .v (ev_mv rfl rfl) rfl ?_
  refine .v (ev_mv rfl rfl) rfl ?_
  refine .cons (st_call0 rfl rfl rfl rfl hbd58 rfl (.c .h .n) (number_ g A n c b i22 bad23 pos24 v _ _ hA (by first | omega | simp only [LL] <;> omega | simp <;> omega) (by omega) (by omega) (by omega) (by omega) (by omega) (by unfold SX.numB; omega)) (fun v_q107 C_q107 q107 => ?_))
  obtain ⟨r103, i2104, bad2105, pos2106, p108, p109, p110, p111, rfl, rfl⟩ := q107
  show SP _ _ _ _ _ _ ⟨_, _ :: _, _, _⟩
  refine .v (ev_any (v := .agg #[.int .i64 3, .bool false, .int .i64 r103, .string ⟨#[]⟩, .slice none 0 0, .slice none 0 0]) rfl (by kernel_rfl) (fun _ => by kernel_rfl)) rfl ?_
  refine .v (ev_mv rfl rfl) rfl ?_
  refine .cons (st_call0 rfl rfl rfl rfl hbd56 rfl (.c .h (.c .h (.c .h .n))) (put0 g A n c i2104 bad2105 pos2106 v l 3 false r103 ⟨#[]⟩ i22 _ _ (by first | omega | simp only [LL] <;> omega | simp <;> omega) hB (tb_leaf (by decide) (by omega) (by omega))) (fun v_q117 C_q117 q117 => ?_))
  obtain ⟨r112, bad2113, pos2114, u115, L116, p118, p119, p120, p121, rfl, rfl⟩ := q117
  show SP _ _ _ _ _ _ ⟨_, _ :: _ :: _ :: _, _, _⟩
  refine .v (ev_as rfl rfl) rfl ?_
  refine .go idQ ?_
  exact .ret idQ (ret1 Try.results36 rfl (.c .h (.c .h (.c .h .n))) ⟨r112, i2104, bad2113, pos2114, u115, L116, val_6 p6 p7 (by omega) (by rw [← p108, ← p109]; exact p118), (by omega), p119, p120, rfl, rfl⟩)
 refine .seq (.region ?_)
 refine .v (ev_mv rfl rfl) rfl ?_
 refine .v (ev_cmp rfl rfl rfl rfl) rfl ?_
 refine .v (ev_mv rfl rfl) rfl ?_
 refine .w (fun _ => ev_mv rfl rfl) rfl ?_
 refine .w (fun hb => ev_cmp rfl (lkg rfl hb) rfl rfl) rfl ?_
 refine .v (ev_or rfl rfl rfl rfl) rfl ?_
 refine .v (ev_as rfl rfl) rfl ?_
 refine .go idQ ?_
 refine .condI rfl (bO bE bE) (fun h122 => ?_) (fun h122 => ?_)
 ·
  refine .seq (.seq (.region ?_))
  refine .v (ev_mv rfl rfl) rfl ?_
  refine .v (ev_cmp rfl rfl rfl rfl) rfl ?_
  refine .go idQ ?_
  refine .condI rfl bD (fun h123 => ?_) (fun h123 => ?_)
  ·
   refine .seq (.region ?_)
   refine .v (ev_mv rfl rfl) rfl ?_
   refine .v (ev_mv rfl rfl) rfl ?_
   refine .cons (st_call0 rfl rfl rfl rfl hbd38 rfl (.c .h .n) (no_ g A n c i22 bad23 pos24 v i22 26 _ _) (fun v_q126 C_q126 q126 => ?_))
   obtain ⟨bad2124, pos2125, p127, rfl, rfl⟩ := q126
   show SP _ _ _ _ _ _ ⟨_, _ :: _, _, _⟩
   refine .go idQ (.seq (.region ?_))
   refine .v (ev_as rfl rfl) rfl ?_
   refine .go idQ ?_
   exact .ret idQ (ret1 Try.results36 rfl (.c .h (.c .h (.c .h .n))) ⟨0, i22, bad2124, pos2125, v, l, val_7 p6 p7 (by omega) (by omega) (noF_eq p127), (by omega), hl, hB, rfl, rfl⟩)
  refine .skipgo idQ (.seq (.region ?_))
  refine .v (ev_mv rfl rfl) rfl ?_
  refine .v (ev_mv rfl rfl) rfl ?_
  refine .v (ev_nil rfl rfl) rfl ?_
  refine .v (ev_fa rfl fo86_1 rfl (r := 1) rfl) rfl ?_
  refine .v (ev_ld1 rfl ty3 rfl (At.own1 0 rfl rfl)) rfl ?_
  refine .v (ev_add rfl rfl rfl (r := (i22 + 1)) rfl (by omega) (by omega)) rfl ?_
  refine .v (ev_nil rfl rfl) rfl ?_
  refine .v (ev_fa rfl fo86_1 rfl (r := 1) rfl) rfl ?_
  refine .cons (st_store1 rfl rfl rfl ty3 rfl rfl rfl .h (.t .h) ?_)
  refine .go idQ (.seq (.region ?_))
  refine .v (ev_mv rfl rfl) rfl ?_
  refine .v (ev_mv rfl rfl) rfl ?_
  refine .v (ev_cmp rfl rfl rfl rfl) rfl ?_
  refine .v (ev_mv rfl rfl) rfl ?_
  refine .v (ev_mv rfl rfl) rfl ?_
  refine .cons (st_call0 rfl rfl rfl rfl hbd59 rfl (.c .h (.c .h (.c .h .n))) (many_ d g A n c b (i22 + 1) bad23 pos24 v l (r1 == 123) deep i22 _ _ hA (by first | omega | simp only [LL] <;> omega | simp <;> omega) (by omega) (by omega) (by omega) (by omega) (by omega) (by first | omega | simp only [LL] <;> omega | simp <;> omega) hB (by omega) (by omega) ih) (fun v_q134 C_q134 q134 => ?_))
  obtain ⟨r128, i2129, bad2130, pos2131, u132, L133, p135, p136, p137, p138, rfl, rfl⟩ := q134
  show SP _ _ _ _ _ _ ⟨_, _ :: _ :: _ :: _, _, _⟩
  refine .v (ev_as rfl rfl) rfl ?_
  refine .go idQ ?_
  exact .ret idQ (ret1 Try.results36 rfl (.c .h (.c .h (.c .h .n))) ⟨r128, i2129, bad2130, pos2131, u132, L133, val_8 p6 p7 (by omega) (by omega) rfl p135, (by omega), p137, p138, rfl, rfl⟩)
 refine .skipgo idQ (.seq (.region ?_))
 refine .v (ev_mv rfl rfl) rfl ?_
 refine .v (ev_mv rfl rfl) rfl ?_
 refine .cons (st_call0 rfl rfl rfl rfl hbd38 rfl (.c .h .n) (no_ g A n c i22 bad23 pos24 v i22 22 _ _) (fun v_q141 C_q141 q141 => ?_))
 obtain ⟨bad2139, pos2140, p142, rfl, rfl⟩ := q141
 show SP _ _ _ _ _ _ ⟨_, _ :: _, _, _⟩
 refine .go idQ (.seq (.region ?_))
 refine .v (ev_as rfl rfl) rfl ?_
 refine .go idQ ?_
 exact .ret idQ (ret1 Try.results36 rfl (.c .h (.c .h (.c .h .n))) ⟨0, i22, bad2139, pos2140, v, l, val_9 p6 p7 (by omega) (by omega) (by omega) (by omega) (by omega) (by omega) (by omega) (noF_eq p142), (by omega), hl, hB, rfl, rfl⟩)
end Go.Proofs.Ythmkelkefmfmgaa.Sx
set_option maxRecDepth 20000
set_option maxHeartbeats 4000000
namespace Go.Proofs.Ythmkelkefmfmgaa.Sx.FPG
open Go Go.SX Go.Proofs
theorem hbd36 : hasBody Try.prog 36 = true := by kernel_rfl
theorem hbd37 : hasBody Try.prog 37 = true := by kernel_rfl
theorem fo86_2 : fo Try.prog 86 2 = some 2 := by kernel_rfl
theorem ty3 : ty Try.prog 3 = some (false, 1) := by kernel_rfl
theorem fo86_1 : fo Try.prog 86 1 = some 1 := by kernel_rfl
theorem hbd38 : hasBody Try.prog 38 = true := by kernel_rfl
theorem fo86_3 : fo Try.prog 86 3 = some 3 := by kernel_rfl
theorem mo : Try.prog.follows .mixedOrders = true := by kernel_rfl
theorem fo86_4 : fo Try.prog 86 4 = some 4 := by kernel_rfl
theorem ty34 : ty Try.prog 34 = some (false, 1) := by kernel_rfl
end Go.Proofs.Ythmkelkefmfmgaa.Sx.FPG
namespace Go.Proofs.Ythmkelkefmfmgaa.Sx
open Go Go.SX Go.Proofs FPG
theorem parse_ (A : Option Addr) (n : Nat) (c : Nat) (b : List Int) (S : Nat → Prop) (wf : World) (hA : Fr eY S wf A b) (hn : b.length = n) (hr : ∀ x ∈ b, isB x) (hcap : n ≤ c) :
  TR0 Try.prog 14 [.slice A n c] [] S wf (fun v_ C_ => ∃ (at_ : Int) (e : Int) (u : Value) (L : List TV), (e = parseE b) ∧ (vs L = parseT b) ∧ (∀ t ∈ L, TB t.v) ∧ (L.length ≤ 8192) ∧ v_ = .tuple #[u, .int .i64 at_, .int .i64 e] ∧ C_ = [rw_ eTV 90 (u) L, nest 9 3 L]) := by
 have hla := hA.len
 refine TR.mk Try.func14 rfl Try.ntmps14 rfl rfl (fun w_ => ?_)
 refine .seq (.region ?_)
 refine .v (ev_as rfl rfl) rfl ?_
 refine .v (ev_as rfl rfl) rfl ?_
 refine .v (ev_as rfl rfl) rfl ?_
 refine .go idQ (.seq (.seq (.region ?_)))
 refine .v (ev_mv rfl rfl) rfl ?_
 refine .v (ev_len rfl Try.underlying36 rfl) rfl ?_
 refine .v (ev_cmp rfl rfl rfl rfl) rfl ?_
 refine .go idQ ?_
 refine .condI rfl bD (fun h1 => ?_) (fun h1 => ?_)
 ·
  refine .seq (.region ?_)
  refine .v (ev_as rfl rfl) rfl ?_
  refine .v (ev_as rfl rfl) rfl ?_
  refine .v (ev_as rfl rfl) rfl ?_
  refine .go idQ ?_
  refine SC.nilrow eTV 90 ?_
  refine SC.nest0 9 3 ?_
  exact .ret idQ (ret3 Try.results14 rfl rfl rfl (.c (.t .h) (.c .h .n)) ⟨65536, 20, (.slice none 0 0), ([] : List TV), (parse_0 (by rw [hn]; omega)).1, (parse_0 (by rw [hn]; omega)).2, (fun t ht => by cases ht), (by simp), rfl, rfl⟩)
 refine .skipgo idQ (.seq (.region ?_))
 refine .v (ev_mv rfl rfl) rfl ?_
 refine .v (ev_any (v := .agg #[.slice A n c, .int .i64 0, .int .i64 0, .int .i64 0, .slice none 0 0]) rfl (by kernel_rfl) (fun _ => by kernel_rfl)) rfl ?_
 refine .cons (st_boxa rfl rfl rfl rfl rfl (fun b2 => ?_))
 refine .v (ev_as rfl rfl) rfl ?_
 refine .go idQ (.seq ?_)
 refine SC.nilrow eTV 90 ?_
 refine SC.nest0 9 3 ?_
 refine .region ?_
 refine .v (ev_mv rfl rfl) rfl ?_
 refine .cons (st_call0 rfl rfl rfl rfl hbd36 rfl (.c (.t (.t .h)) (.c (.t .h) (.c .h .n))) (valueP_ 17 b2 A n c b 0 0 0 (.slice none 0 0) ([] : List TV) 1 _ _ hA (by first | omega | simp only [LL] <;> omega | simp <;> omega) (by omega) (by omega) (by omega) (by omega) (by first | omega | simp only [LL] <;> omega | simp <;> omega) (fun t ht => by cases ht) (by omega) (by omega)) (fun v_q9 C_q9 q9 => ?_))
 obtain ⟨r3, i24, bad25, pos26, u7, L8, p10, p11, p12, p13, rfl, rfl⟩ := q9
 show SP _ _ _ _ _ _ ⟨_, _ :: _ :: _ :: _, _, _⟩
 refine .go idQ (.seq (.region ?_))
 refine .v (ev_mv rfl rfl) rfl ?_
 refine .cons (st_call0 rfl rfl rfl rfl hbd37 rfl (.c .h .n) (gap_ b2 A n c b i24 bad25 pos26 u7 _ _ hA (by first | omega | simp only [LL] <;> omega | simp <;> omega) (by omega) (by omega) (by omega) (by omega)) (fun v_q15 C_q15 q15 => ?_))
 obtain ⟨i214, p16, p17, rfl, rfl⟩ := q15
 show SP _ _ _ _ _ _ ⟨_, _ :: _, _, _⟩
 refine .go idQ (.seq (.seq (.region ?_)))
 refine .v (ev_mv rfl rfl) rfl ?_
 refine .v (ev_nil rfl rfl) rfl ?_
 refine .v (ev_fa rfl fo86_2 rfl (r := 2) rfl) rfl ?_
 refine .v (ev_ld1 rfl ty3 rfl (At.own1 0 rfl rfl)) rfl ?_
 refine .v (ev_cmp rfl rfl rfl rfl) rfl ?_
 refine .v (ev_mv rfl rfl) rfl ?_
 refine .w (fun _ => ev_mv rfl rfl) rfl ?_
 refine .w (fun hb => ev_nil rfl (lkg rfl hb)) rfl ?_
 refine .w (fun hb => ev_fa rfl fo86_1 (lkg rfl hb) (r := 1) rfl) rfl ?_
 refine .w (fun hb => ev_ld1 rfl ty3 (lkg rfl hb) (At.own1 0 rfl rfl)) rfl ?_
 refine .w (fun _ => ev_mv rfl rfl) rfl ?_
 refine .w (fun hb => ev_len rfl Try.underlying36 (lkg rfl hb)) rfl ?_
 refine .w (fun hb => ev_cmp rfl (lkg rfl hb) (lkg rfl hb) rfl) rfl ?_
 refine .v (ev_and rfl rfl rfl rfl) rfl ?_
 refine .go idQ ?_
 refine .condI rfl (bA bE bD) (fun h18 => ?_) (fun h18 => ?_)
 ·
  refine .region ?_
  refine .v (ev_mv rfl rfl) rfl ?_
  refine .v (ev_mv rfl rfl) rfl ?_
  refine .v (ev_nil rfl rfl) rfl ?_
  refine .v (ev_fa rfl fo86_1 rfl (r := 1) rfl) rfl ?_
  refine .v (ev_ld1 rfl ty3 rfl (At.own1 0 rfl rfl)) rfl ?_
  refine .cons (st_call0 rfl rfl rfl rfl hbd38 rfl (.c .h .n) (no_ b2 A n c i214 bad25 pos26 u7 i214 22 _ _) (fun v_q21 C_q21 q21 => ?_))
  obtain ⟨bad219, pos220, p22, rfl, rfl⟩ := q21
  show SP _ _ _ _ _ _ ⟨_, _ :: _, _, _⟩
  refine .go idQ (.seq (.seq (.region ?_)))
  refine .v (ev_mv rfl rfl) rfl ?_
  refine .v (ev_nil rfl rfl) rfl ?_
  refine .v (ev_fa rfl fo86_2 rfl (r := 2) rfl) rfl ?_
  refine .v (ev_ld1 rfl ty3 rfl (At.own1 0 rfl rfl)) rfl ?_
  refine .v (ev_cmp rfl rfl rfl rfl) rfl ?_
  refine .go idQ ?_
  refine .condI rfl bNE (fun h23 => ?_) (fun h23 => ?_)
  ·
   refine .seq ?_
   refine SC.draw mo [] [] .n (fun _ _ _ c hc => by cases hc) (fun wf_24 hl_24 hx_24 hR_24 => ?_)
   refine SR.k 0 rfl (by kernel_rfl) rfl (ev_mv rfl rfl) ?_
   refine SR.k 1 rfl (by kernel_rfl) rfl (ev_nil rfl rfl) ?_
   refine SR.k 2 rfl (by kernel_rfl) rfl (ev_fa rfl fo86_3 rfl (r := 3) rfl) ?_
   refine SR.k 3 rfl (by kernel_rfl) rfl (ev_ld1 rfl ty3 rfl (At.d (At.lent hR_24 0 rfl rfl))) ?_
   refine SR.k 4 rfl (by kernel_rfl) rfl (ev_mv rfl rfl) ?_
   refine SR.k 5 rfl (by kernel_rfl) rfl (ev_nil rfl rfl) ?_
   refine SR.k 6 rfl (by kernel_rfl) rfl (ev_fa rfl fo86_2 rfl (r := 2) rfl) ?_
   refine SR.k 7 rfl (by kernel_rfl) rfl (ev_ld1 rfl ty3 rfl (At.d (At.lent hR_24 0 rfl rfl))) ?_
   refine SR.k 8 rfl (by kernel_rfl) rfl (ev_as rfl rfl) ?_
   refine SR.k 9 rfl (by kernel_rfl) rfl (ev_as rfl rfl) ?_
   refine SR.k 10 rfl (by kernel_rfl) rfl (ev_as rfl rfl) ?_
   refine SR.fin (by kernel_rfl) hl_24 hx_24 hR_24 .n ?_
   refine SQ.go idQ ?_
   refine SC.nilrow eTV 90 ?_
   refine SC.nest0 9 3 ?_
   exact .ret idQ (ret3 Try.results14 rfl rfl rfl (.c (.t .h) (.c .h .n)) ⟨pos220, bad219, (.slice none 0 0), ([] : List TV), (parse_1 (by rw [hn]; omega) p10 (parse_p p10 p16 (by rw [if_pos (by rw [hn]; omega)]; exact noF_eq p22)) (by omega)).1, (parse_1 (by rw [hn]; omega) p10 (parse_p p10 p16 (by rw [if_pos (by rw [hn]; omega)]; exact noF_eq p22)) (by omega)).2, (fun t ht => by cases ht), (by simp), rfl, rfl⟩)
  refine .skipgo idQ (.seq (.region ?_))
  refine .v (ev_mv rfl rfl) rfl ?_
  refine .v (ev_nil rfl rfl) rfl ?_
  refine .v (ev_fa rfl fo86_4 rfl (r := 4) rfl) rfl ?_
  refine .v (ev_ld1 rfl ty34 rfl (At.own1 0 rfl rfl)) rfl ?_
  refine .v (ev_as rfl rfl) rfl ?_
  refine .v (ev_as rfl rfl) rfl ?_
  refine .v (ev_as rfl rfl) rfl ?_
  refine .go idQ ?_
  exact .ret idQ (ret3 Try.results14 rfl rfl rfl (.c (.t .h) (.c (.t .h) .n)) ⟨0, 0, u7, L8, (parse_2 (by rw [hn]; omega) p10 (parse_p p10 p16 (by rw [if_pos (by rw [hn]; omega)]; exact noF_eq p22)) (by omega)).1, (parse_2 (by rw [hn]; omega) p10 (parse_p p10 p16 (by rw [if_pos (by rw [hn]; omega)]; exact noF_eq p22)) (by omega)).2, p13, p12, rfl, rfl⟩)
 refine .skipgo idQ (.seq (.seq (.region ?_)))
 refine .v (ev_mv rfl rfl) rfl ?_
 refine .v (ev_nil rfl rfl) rfl ?_
 refine .v (ev_fa rfl fo86_2 rfl (r := 2) rfl) rfl ?_
 refine .v (ev_ld1 rfl ty3 rfl (At.own1 0 rfl rfl)) rfl ?_
 refine .v (ev_cmp rfl rfl rfl rfl) rfl ?_
 refine .go idQ ?_
 refine .condI rfl bNE (fun h25 => ?_) (fun h25 => ?_)
 ·
  refine .seq ?_
  refine SC.draw mo [] [] .n (fun _ _ _ c hc => by cases hc) (fun wf_26 hl_26 hx_26 hR_26 => ?_)
  refine SR.k 0 rfl (by kernel_rfl) rfl (ev_mv rfl rfl) ?_
  refine SR.k 1 rfl (by kernel_rfl) rfl (ev_nil rfl rfl) ?_
  refine SR.k 2 rfl (by kernel_rfl) rfl (ev_fa rfl fo86_3 rfl (r := 3) rfl) ?_
  refine SR.k 3 rfl (by kernel_rfl) rfl (ev_ld1 rfl ty3 rfl (At.d (At.lent hR_26 0 rfl rfl))) ?_
  refine SR.k 4 rfl (by kernel_rfl) rfl (ev_mv rfl rfl) ?_
  refine SR.k 5 rfl (by kernel_rfl) rfl (ev_nil rfl rfl) ?_
  refine SR.k 6 rfl (by kernel_rfl) rfl (ev_fa rfl fo86_2 rfl (r := 2) rfl) ?_
  refine SR.k 7 rfl (by kernel_rfl) rfl (ev_ld1 rfl ty3 rfl (At.d (At.lent hR_26 0 rfl rfl))) ?_
  refine SR.k 8 rfl (by kernel_rfl) rfl (ev_as rfl rfl) ?_
  refine SR.k 9 rfl (by kernel_rfl) rfl (ev_as rfl rfl) ?_
  refine SR.k 10 rfl (by kernel_rfl) rfl (ev_as rfl rfl) ?_
  refine SR.fin (by kernel_rfl) hl_26 hx_26 hR_26 .n ?_
  refine SQ.go idQ ?_
  refine SC.nilrow eTV 90 ?_
  refine SC.nest0 9 3 ?_
  exact .ret idQ (ret3 Try.results14 rfl rfl rfl (.c (.t .h) (.c .h .n)) ⟨pos26, bad25, (.slice none 0 0), ([] : List TV), (parse_1 (by rw [hn]; omega) p10 (parse_p p10 p16 (by rw [if_neg (by rw [hn]; omega)])) (by omega)).1, (parse_1 (by rw [hn]; omega) p10 (parse_p p10 p16 (by rw [if_neg (by rw [hn]; omega)])) (by omega)).2, (fun t ht => by cases ht), (by simp), rfl, rfl⟩)
 refine .skipgo idQ (.seq (.region ?_))
 refine .v (ev_mv rfl rfl) rfl ?_
 refine .v (ev_nil rfl rfl) rfl ?_
 refine .v (ev_fa rfl fo86_4 rfl (r := 4) rfl) rfl ?_
 refine .v (ev_ld1 rfl ty34 rfl (At.own1 0 rfl rfl)) rfl ?_
 refine .v (ev_as rfl rfl) rfl ?_
 refine .v (ev_as rfl rfl) rfl ?_
 refine .v (ev_as rfl rfl) rfl ?_
 refine .go idQ ?_
 exact .ret idQ (ret3 Try.results14 rfl rfl rfl (.c (.t .h) (.c (.t .h) .n)) ⟨0, 0, u7, L8, (parse_2 (by rw [hn]; omega) p10 (parse_p p10 p16 (by rw [if_neg (by rw [hn]; omega)])) (by omega)).1, (parse_2 (by rw [hn]; omega) p10 (parse_p p10 p16 (by rw [if_neg (by rw [hn]; omega)])) (by omega)).2, p13, p12, rfl, rfl⟩)
end Go.Proofs.Ythmkelkefmfmgaa.Sx
set_option maxRecDepth 20000
set_option maxHeartbeats 4000000
namespace Go.Proofs.Ythmkelkefmfmgaa.Sx.FGA
open Go Go.SX Go.Proofs
theorem zf112 : (Try.prog.info? 112).bind (fun i => i.zero.map Value.cells) = some (List.toArray [.slice none 0 0, .int .i64 0]) := by kernel_rfl
theorem ty112 : ty Try.prog 112 = some (true, 2) := by kernel_rfl
theorem hbd61 : hasBody Try.prog 61 = true := by kernel_rfl
theorem zf90 : (Try.prog.info? 90).bind (fun i => i.zero.map Value.cells) = some (List.toArray [.int .i64 0, .bool false, .int .i64 0, .string ⟨#[]⟩, .slice none 0 0, .slice none 0 0]) := by kernel_rfl
theorem ty90 : ty Try.prog 90 = some (true, 6) := by kernel_rfl
theorem fo90_5 : fo Try.prog 90 5 = some 5 := by kernel_rfl
theorem ty56 : ty Try.prog 56 = some (false, 1) := by kernel_rfl
theorem ty3 : ty Try.prog 3 = some (false, 1) := by kernel_rfl
theorem fo112_1 : fo Try.prog 112 1 = some 1 := by kernel_rfl
theorem mo : Try.prog.follows .mixedOrders = true := by kernel_rfl
theorem fo112_0 : fo Try.prog 112 0 = some 0 := by kernel_rfl
theorem ty34 : ty Try.prog 34 = some (false, 1) := by kernel_rfl
theorem hbd60 : hasBody Try.prog 60 = true := by kernel_rfl
theorem fo90_0 : fo Try.prog 90 0 = some 0 := by kernel_rfl
theorem ty88 : ty Try.prog 88 = some (false, 1) := by kernel_rfl
theorem fo90_1 : fo Try.prog 90 1 = some 1 := by kernel_rfl
theorem ty4 : ty Try.prog 4 = some (false, 1) := by kernel_rfl
theorem fo90_2 : fo Try.prog 90 2 = some 2 := by kernel_rfl
theorem fo90_3 : fo Try.prog 90 3 = some 3 := by kernel_rfl
theorem ty9 : ty Try.prog 9 = some (false, 1) := by kernel_rfl
theorem fo90_4 : fo Try.prog 90 4 = some 4 := by kernel_rfl
theorem ty82 : ty Try.prog 82 = some (false, 1) := by kernel_rfl
end Go.Proofs.Ythmkelkefmfmgaa.Sx.FGA
namespace Go.Proofs.Ythmkelkefmfmgaa.Sx
open Go Go.SX Go.Proofs FGA
theorem kid_g (A : Option Addr) (n : Nat) (c : Nat) (l : List TV) (i : Int) (k : Int) (S : Nat → Prop) (wf : World) (hP : Fr eTV S wf A l) (hN : NT S wf l) (hn : l.length = n) (hi : 0 ≤ i ∧ i < n) (h0 : 0 ≤ k) :
  TR0 Try.prog 60 [.agg #[.slice A n c, .int .i64 i], .int .i64 k] [] S wf (fun v_ C_ => ∃ (A2 : Option Addr) (c2 : Nat), (kidN l i k = false → A2 = A ∧ c2 = c) ∧ v_ = .agg #[.slice A2 ((kidL l i k).length) c2, .int .i64 (kidI l i k)] ∧ C_ = [mb (kidN l i k) (rw_ eTV 90 (.slice A2 ((kidL l i k).length) c2) (kidL l i k))]) := by
 have hla := hP.len
 refine TR.mk Try.func60 rfl Try.ntmps60 rfl rfl (fun w_ => ?_)
 refine .seq (.region ?_)
 refine .cons (st_boxa rfl rfl rfl rfl rfl (fun b1 => ?_))
 refine .cons (st_alloc rfl rfl rfl rfl zf112 (fun b2 => ?_))
 refine .go idQ (.seq (.region ?_))
 refine .v (ev_lda rfl rfl (At.whole 1 rfl) ty112) rfl ?_
 refine .cons (st_callk rfl rfl rfl rfl hbd61 rfl .n (value_ A n c l i _ _ hP (by first | omega | simp only [LL] <;> omega | simp <;> omega) (by omega)) ?_)
 refine .cons (st_alloc rfl rfl rfl rfl zf90 (fun b3 => ?_))
 refine .cons (st_storea (l' := [.int .i64 ((gt l i).v.kind), .bool ((gt l i).v.truth), .int .i64 ((gt l i).v.num), .string ((gt l i).v.text), .slice ((gt l i).nA) ((gt l i).v.ns.length) ((gt l i).nc), .slice ((gt l i).kA) ((gt l i).v.ks.length) ((gt l i).kc)]) rfl rfl rfl ty90 rfl rfl rfl .h rfl rfl ?_)
 refine .go idQ (.seq (.seq ?_))
 refine SC.draw mo [] [] .n (fun _ _ _ c hc => by cases hc) (fun wf_4 hl_4 hx_4 hR_4 => ?_)
 refine SR.k 0 rfl (by kernel_rfl) rfl (ev_mv rfl rfl) ?_
 refine SR.k 1 rfl (by kernel_rfl) rfl (ev_fa rfl fo90_5 rfl (r := 5) rfl) ?_
 refine SR.k 2 rfl (by kernel_rfl) rfl (ev_ld1 rfl ty56 rfl (At.d (At.lent hR_4 0 rfl rfl))) ?_
 refine SR.k 3 rfl (by kernel_rfl) rfl (ev_len rfl Try.underlying56 rfl) ?_
 refine SR.k 4 rfl (by kernel_rfl) rfl (ev_cmp rfl rfl rfl rfl) ?_
 refine SR.k 5 rfl (by kernel_rfl) rfl (ev_mv rfl rfl) ?_
 refine SR.gtake 6 rfl (by kernel_rfl) (by kernel_rfl) (by kernel_rfl) rfl (fun _ _ _ _ h => h) rfl rfl rfl rfl rfl (fun _ => ev_fa rfl fo90_5 rfl (r := 5) rfl) ?_
 refine SR.gtake 7 rfl (by kernel_rfl) (by kernel_rfl) (by kernel_rfl) rfl (fun _ _ _ _ h => h) rfl rfl rfl rfl rfl (fun hb => ev_ld1 rfl ty56 (lkg rfl hb) (At.d (At.lent hR_4 0 rfl rfl))) ?_
 refine SR.gtake 8 rfl (by kernel_rfl) (by kernel_rfl) (by kernel_rfl) rfl (fun _ _ _ _ h => h) rfl rfl rfl rfl rfl (fun _ => ev_mv rfl rfl) ?_
 refine SR.gtake 9 rfl (by kernel_rfl) (by kernel_rfl) (by kernel_rfl) rfl (fun _ _ _ _ h => h) rfl rfl rfl rfl rfl (fun hb => have hp := bF bD hb; ev_ix rfl Try.underlying56 ty3 (lkg rfl hb) (lkg rfl hb) (by have _h := hp; omega) (by have _h := hp; omega) (fun _ _ => Fr.adr (i := k) (((hN).ext hx_4) _ (gt_mem (i := i) (by have _h := hp; omega) (by have _h := hp; omega))).2 (by have _h := hp; omega) (by have _h := hp; omega))) ?_
 refine SR.gtake 10 rfl (by kernel_rfl) (by kernel_rfl) (by kernel_rfl) rfl (fun _ _ _ _ h => h) rfl rfl rfl rfl rfl (fun hb => have hp := bF bD hb; ev_ld1 rfl ty3 (lkg rfl hb) (At.elem1 (At.d (Fr.el (i := k) (((hN).ext hx_4) _ (gt_mem (i := i) (by have _h := hp; omega) (by have _h := hp; omega))).2 (by have _h := hp; omega) (by have _h := hp; omega))) 0 rfl)) ?_
 refine SR.gtake 11 rfl (by kernel_rfl) (by kernel_rfl) (by kernel_rfl) rfl (fun _ _ _ _ h => h) rfl rfl rfl rfl rfl (fun hb => ev_cmp rfl (lkg rfl hb) rfl rfl) ?_
 refine SR.k 12 rfl (by kernel_rfl) rfl (ev_or rfl rfl rfl rfl) ?_
 refine SR.k 13 rfl (by kernel_rfl) rfl (ev_mv rfl rfl) ?_
 refine SR.gtake 14 rfl (by kernel_rfl) (by kernel_rfl) (by kernel_rfl) rfl (fun _ _ _ _ h => h) rfl rfl rfl rfl rfl (fun _ => ev_fa rfl fo90_5 rfl (r := 5) rfl) ?_
 refine SR.gtake 15 rfl (by kernel_rfl) (by kernel_rfl) (by kernel_rfl) rfl (fun _ _ _ _ h => h) rfl rfl rfl rfl rfl (fun hb => ev_ld1 rfl ty56 (lkg rfl hb) (At.d (At.lent hR_4 0 rfl rfl))) ?_
 refine SR.gtake 16 rfl (by kernel_rfl) (by kernel_rfl) (by kernel_rfl) rfl (fun _ _ _ _ h => h) rfl rfl rfl rfl rfl (fun _ => ev_mv rfl rfl) ?_
 refine SR.gtake 17 rfl (by kernel_rfl) (by kernel_rfl) (by kernel_rfl) rfl (fun _ _ _ _ h => h) rfl rfl rfl rfl rfl (fun hb => have hp := bF (bO bD bD) hb; ev_ix rfl Try.underlying56 ty3 (lkg rfl hb) (lkg rfl hb) (by have _h := hp; omega) (by have _h := hp; omega) (fun _ _ => Fr.adr (i := k) (((hN).ext hx_4) _ (gt_mem (i := i) (by have _h := hp; omega) (by have _h := hp; omega))).2 (by have _h := hp; omega) (by have _h := hp; omega))) ?_
 refine SR.gtake 18 rfl (by kernel_rfl) (by kernel_rfl) (by kernel_rfl) rfl (fun _ _ _ _ h => h) rfl rfl rfl rfl rfl (fun hb => have hp := bF (bO bD bD) hb; ev_ld1 rfl ty3 (lkg rfl hb) (At.elem1 (At.d (Fr.el (i := k) (((hN).ext hx_4) _ (gt_mem (i := i) (by have _h := hp; omega) (by have _h := hp; omega))).2 (by have _h := hp; omega) (by have _h := hp; omega))) 0 rfl)) ?_
 refine SR.gtake 19 rfl (by kernel_rfl) (by kernel_rfl) (by kernel_rfl) rfl (fun _ _ _ _ h => h) rfl rfl rfl rfl rfl (fun _ => ev_fa rfl fo112_1 rfl (r := 1) rfl) ?_
 refine SR.gtake 20 rfl (by kernel_rfl) (by kernel_rfl) (by kernel_rfl) rfl (fun _ _ _ _ h => h) rfl rfl rfl rfl rfl (fun hb => ev_ld1 rfl ty3 (lkg rfl hb) (At.d (At.lent hR_4 2 rfl rfl))) ?_
 refine SR.gtake 21 rfl (by kernel_rfl) (by kernel_rfl) (by kernel_rfl) rfl (fun _ _ _ _ h => h) rfl rfl rfl rfl rfl (fun hb => ev_cmp rfl (lkg rfl hb) (lkg rfl hb) rfl) ?_
 refine SR.k 22 rfl (by kernel_rfl) rfl (ev_or rfl rfl rfl rfl) ?_
 refine SR.fin (by kernel_rfl) hl_4 hx_4 hR_4 .n ?_
 refine SQ.go idQ ?_
 refine .condI rfl (bO (bO bD bD) bD) (fun h5 => ?_) (fun h5 => ?_)
 ·
  refine .seq (.region ?_)
  refine .v (ev_any (v := .agg #[.int .i64 0, .bool false, .int .i64 0, .string ⟨#[]⟩, .slice none 0 0, .slice none 0 0]) rfl (by kernel_rfl) (fun _ => by kernel_rfl)) rfl ?_
  refine .cons (st_lit eTV (e := 90) (l := [(TV.mk (TN.mk 0 false 0 ⟨#[]⟩ [] []) none 0 none 0)]) rfl rfl rfl rfl (by kernel_rfl) rfl rfl (fun w => by kernel_rfl) (fun b6 => ?_))
  refine .v (ev_any (v := .agg #[.slice (some ⟨b6, 0, none⟩) 1 1, .int .i64 0]) rfl (by kernel_rfl) (fun _ => by kernel_rfl)) rfl ?_
  refine .cons (st_storea (l' := [.slice (some ⟨b6, 0, none⟩) 1 1, .int .i64 0]) rfl rfl rfl ty112 rfl rfl rfl (.t (.t .h)) rfl rfl ?_)
  refine .go idQ ?_
  have hk_ : ¬ kidOk l i k := fun h_ => by have h1_ := h_.2.1; have h2_ := h_.2.2.1; have h3_ := h_.2.2.2; unfold kidT at h2_ h3_; omega
  refine SC.mbT' (.t .h) (m := mb (kidN l i k) (rw_ eTV 90 (.slice (some ⟨b6, 0, none⟩) ((kidL l i k).length) 1) (kidL l i k))) (by rw [(kid_no hk_).1, (kid_no hk_).2.1]; rfl) ?_
  exact .ret idQ (retv1 Try.results60 (.c 1 rfl rfl ty112) (.c .h .n) ⟨some ⟨b6, 0, none⟩, 1, (fun h_ => by rw [(kid_no hk_).1] at h_; cases h_), (by rw [(kid_no hk_).2.1, (kid_no hk_).2.2]; rfl), rfl⟩)
 refine .skipgo idQ (.seq ?_)
 refine SC.draw mo [cel b2 [.slice none 0 0, .int .i64 0] 112] [] (.c (.t .h) .n) (fun _ _ _ c hc => by cases hc) (fun wf_7 hl_7 hx_7 hR_7 => ?_)
 refine SR.k 0 rfl (by kernel_rfl) rfl (ev_fa rfl fo112_0 rfl (r := 0) rfl) ?_
 refine SR.k 1 rfl (by kernel_rfl) rfl (ev_ld1 rfl ty34 rfl (At.d (At.lent hR_7 1 rfl rfl))) ?_
 refine SR.k 2 rfl (by kernel_rfl) rfl (ev_fa rfl fo90_5 rfl (r := 5) rfl) ?_
 refine SR.k 3 rfl (by kernel_rfl) rfl (ev_ld1 rfl ty56 rfl (At.d (At.lent hR_7 0 rfl rfl))) ?_
 refine SR.k 4 rfl (by kernel_rfl) rfl (ev_mv rfl rfl) ?_
 refine SR.k 5 rfl (by kernel_rfl) rfl (ev_ix rfl Try.underlying56 ty3 rfl rfl (by omega) (by omega) (fun _ _ => Fr.adr (i := k) (((hN).ext hx_7) _ (gt_mem (i := i) (by omega) (by omega))).2 (by omega) (by omega))) ?_
 refine SR.k 6 rfl (by kernel_rfl) rfl (ev_ld1 rfl ty3 rfl (At.elem1 (At.d (Fr.el (i := k) (((hN).ext hx_7) _ (gt_mem (i := i) (by omega) (by omega))).2 (by omega) (by omega))) 0 rfl)) ?_
 refine SR.k 7 rfl (by kernel_rfl) rfl (ev_any (v := .agg #[.slice A n c, .int .i64 (gt ((gt l i).v.ks) k)]) rfl (by kernel_rfl) (fun _ => by kernel_rfl)) ?_
 refine SR.one (j := 8) (by kernel_rfl) rfl (st_storea (l' := [.slice A n c, .int .i64 (gt ((gt l i).v.ks) k)]) rfl rfl rfl ty112 rfl rfl rfl .h rfl rfl ⟨tt0, ?_⟩)
 refine SR.fin (by kernel_rfl) hl_7 hx_7 hR_7 (.c .n) ?_
 refine SQ.go idQ ?_
 have hk_ : kidOk l i k := ⟨h0, by omega, by unfold kidT; omega, by unfold kidT; omega⟩
 refine SC.mbF' (rw_ eTV 90 (.slice A ((kidL l i k).length) c) (kidL l i k)) (m := mb (kidN l i k) (rw_ eTV 90 (.slice A ((kidL l i k).length) c) (kidL l i k))) (by rw [(kid_yes hk_).1]) ?_
 exact .ret idQ (retv1 Try.results60 (.c 1 rfl rfl ty112) (.c .h .n) ⟨A, c, (fun _ => ⟨rfl, rfl⟩), (by rw [(kid_yes hk_).2.1, (kid_yes hk_).2.2, hn]; rfl), rfl⟩)
theorem num_g (A : Option Addr) (n : Nat) (c : Nat) (l : List TV) (i : Int) (k : Int) (S : Nat → Prop) (wf : World) (hP : Fr eTV S wf A l) (hN : NT S wf l) (hn : l.length = n) (hi : 0 ≤ i ∧ i < n) (h0 : 0 ≤ k) :
  TR0 Try.prog 62 [.agg #[.slice A n c, .int .i64 i], .int .i64 k] [] S wf (fun v_ C_ => v_ = .int .i64 (numG l i k) ∧ C_ = []) := by
 have hla := hP.len
 refine TR.mk Try.func62 rfl Try.ntmps62 rfl rfl (fun w_ => ?_)
 refine .seq (.region ?_)
 refine .cons (st_boxa rfl rfl rfl rfl rfl (fun b1 => ?_))
 refine .v (ev_as rfl rfl) rfl ?_
 refine .go idQ (.seq (.region ?_))
 refine .v (ev_lda rfl rfl (At.whole 0 rfl) ty112) rfl ?_
 refine .v (ev_mv rfl rfl) rfl ?_
 refine .cons (st_call0 rfl rfl rfl rfl hbd60 rfl .n (kid_g A n c l i k _ _ hP hN (by first | omega | simp only [LL] <;> omega | simp <;> omega) (by omega) (by omega)) (fun v_q4 C_q4 q4 => ?_))
 obtain ⟨A22, c23, p5, rfl, rfl⟩ := q4
 show SP _ _ _ _ _ _ ⟨_, _ :: _, _, _⟩
 have hkr6 := kid_rng (l := l) (i := i) (k := k) (by omega)
 have hkl7 := kid_len (l := l) (i := i) (k := k) (by omega) (by omega)
 refine .cons (st_lendk rfl rfl rfl rfl hbd61 rfl .n (.c .h .n) (fun w_ hw => value_ A22 ((kidL l i k).length) c23 (kidL l i k) (kidI l i k) _ _ (Fr.lendm hw 0 rfl (kid_len (l := l) (i := i) (k := k) (by omega) (by omega)).1 (kid_fr p5 hP)) (by first | omega | simp only [LL] <;> omega | simp <;> omega) (by first | omega | simp only [LL] <;> omega | simp <;> omega)) ?_)
 refine .v (ev_any (v := .int .i64 ((gt (kidL l i k) (kidI l i k)).v.num)) rfl (by kernel_rfl) (fun _ => by kernel_rfl)) rfl ?_
 refine .v (ev_as rfl rfl) rfl ?_
 refine .go idQ ?_
 exact .ret idQ (ret1 Try.results62 rfl .n ⟨rfl, rfl⟩)
end Go.Proofs.Ythmkelkefmfmgaa.Sx
