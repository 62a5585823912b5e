import Derived.Test.YtfmfhkaimhmgdaaProg
import Derived.Test.YtfmfhkaimhmgdaaSxGrow
import Derived.Test.YtfmfhkaimhmgdaaSx17A
import Derived.Test.YtfmfhkaimhmgdaaSx17S
import Derived.Test.YtfmfhkaimhmgdaaSx17I
import Derived.Test.YtfmfhkaimhmgdaaSx17J
import Derived.Test.YtfmfhkaimhmgdaaSx17K
import Derived.Test.YtfmfhkaimhmgdaaSx17L
import Derived.Test.YtfmfhkaimhmgdaaSx17N
import Derived.Test.YtfmfhkaimhmgdaaSx17W
import Derived.Test.YtfmfhkaimhmgdaaSx17X
import Derived.Test.YtfmfhkaimhmgdaaSx17Y
set_option maxRecDepth 20000
set_option linter.unusedVariables false
set_option linter.unusedSimpArgs false
namespace Go.Proofs.Ytfmfhkaimhmgdaa.Sx.FZ
open Go Go.SX Go.Proofs
theorem hb9 : hasBody Try.prog 9 = true := by kernel_rfl
theorem ai44 : (Try.prog.info? 44).map (fun i => (i.zero, i.size, i.bytes)) = some (some (.agg #[.int .i64 0, .int .i64 0]), 2, 16) := by kernel_rfl
theorem hb10 : hasBody Try.prog 10 = true := by kernel_rfl
theorem fo24_0 : fo Try.prog 24 0 = some 0 := by kernel_rfl
theorem ty3 : ty Try.prog 3 = some (false, 1) := by kernel_rfl
theorem fo24_1 : fo Try.prog 24 1 = some 1 := by kernel_rfl
theorem fo24_2 : fo Try.prog 24 2 = some 2 := by kernel_rfl
theorem fo24_3 : fo Try.prog 24 3 = some 3 := by kernel_rfl
theorem hb11 : hasBody Try.prog 11 = true := by kernel_rfl
theorem hb12 : hasBody Try.prog 12 = true := by kernel_rfl


end Go.Proofs.Ytfmfhkaimhmgdaa.Sx.FZ
namespace Go.Proofs.Ytfmfhkaimhmgdaa.Sx
open Go Go.SX Go.Proofs FZ





theorem interSizes (A : Option Addr) (c : Nat) (a : List Vis) (B : Option Addr) (d : Nat) (b : List Vis) (q : Int) (i : Int) (j : Int) (k : Int) (S : Nat → Prop) (wf : World) (hA : Fr eVis S wf A a) (hB : Fr eVis S wf B b) (h_q : -9223372036854775808 ≤ q ∧ q ≤ 9223372036854775807) (h_i : -9223372036854775808 ≤ i ∧ i ≤ 9223372036854775807) (h_j : -9223372036854775808 ≤ j ∧ j ≤ 9223372036854775807) (h_k : -9223372036854775808 ≤ k ∧ k ≤ 9223372036854775807) :
    TR0 Try.prog 8 [.slice A a.length c, .slice B b.length d, .agg #[.int .i64 q, .int .i64 i, .int .i64 j, .int .i64 k]] [] S wf (fun v_ C_ => v_ = .bool true ∧ C_ = []) := by
  have hla := hA.len
  have hlb := hB.len
  refine TR.mk Try.func8 rfl Try.ntmps8 rfl rfl (fun w => ?_)
  refine .seq ?_
  refine .region ?_
  refine .cons (st_boxa rfl rfl rfl rfl rfl (fun b1 => ?_))
  refine .cons (Ev.step (ev_as rfl rfl) rfl rfl rfl ?_)
  refine .go (fun _ _ h => h) ?_
  refine .seq ?_
  refine .seq ?_
  refine .region ?_
  refine .cons (st_callk rfl rfl rfl rfl hb9 rfl .n (awake _ _) ?_)
  refine .cons (Ev.step (ev_not rfl rfl) rfl rfl rfl ?_)
  refine .go (fun _ _ h => h) ?_
  refine .cond_f rfl ?_
  refine .skipgo (fun _ _ h => h) ?_
  refine .seq ?_
  refine .seq ?_
  refine .region ?_
  refine .cons (Ev.step (ev_mv rfl rfl) rfl rfl rfl ?_)
  refine .cons (Ev.step (ev_len rfl Try.underlying22 rfl) rfl rfl rfl ?_)
  refine .cons (Ev.step (ev_cmp rfl rfl rfl rfl) rfl rfl rfl ?_)
  refine .cons (Ev.step (ev_mv rfl rfl) rfl rfl rfl ?_)
  refine .cons (Ev.gstep (fun _ => ev_mv rfl rfl) rfl rfl rfl rfl rfl ?_)
  refine .cons (Ev.gstep (fun hb => ev_len rfl Try.underlying22 (lkg rfl hb)) rfl rfl rfl rfl rfl ?_)
  refine .cons (Ev.gstep (fun hb => ev_cmp rfl (lkg rfl hb) rfl rfl) rfl rfl rfl rfl rfl ?_)
  refine .cons (Ev.step (ev_or rfl rfl rfl rfl) rfl rfl rfl ?_)
  refine .go (fun _ _ h => h) ?_
  refine .condI rfl (bO bD bD) (fun h2 => ?_) (fun h2 => ?_)
  ·
    refine .seq ?_
    refine .region ?_
    refine .cons (Ev.step (ev_as rfl rfl) rfl rfl rfl ?_)
    refine .go (fun _ _ h => h) ?_
    exact .ret (fun _ _ h => h) (ret1 Try.results8 rfl .n ⟨rfl, rfl⟩)
  ·
    refine .skipgo (fun _ _ h => h) ?_
    refine .seq ?_
    refine .region ?_
    refine .cons (st_lit eVis (e := 44) (l := []) rfl rfl rfl rfl (by kernel_rfl) rfl rfl (fun w => by kernel_rfl) (fun b3 => ?_))
    refine .cons (Ev.step (ev_mv rfl rfl) rfl rfl rfl ?_)
    refine .cons (st_app0 (E := eVis) (m := a) rfl rfl rfl rfl Try.underlying22 ai44 rfl rfl rfl .h (by first | rfl | omega | simp) (Src.w (Fr.flat hA)) (by (try simp only [List.length_nil, List.length_cons, List.length_append, List.length_set, List.length_singleton, List.length_take, List.length_drop, List.length_reverse]) <;> omega) rfl (fun v4 => ?_))
    refine .cons (st_lit eVis (e := 44) (l := []) rfl rfl rfl rfl (by kernel_rfl) rfl rfl (fun w => by kernel_rfl) (fun b5 => ?_))
    refine .cons (Ev.step (ev_mv rfl rfl) rfl rfl rfl ?_)
    refine .cons (st_app0 (E := eVis) (m := b) rfl rfl rfl rfl Try.underlying22 ai44 rfl rfl rfl .h (by first | rfl | omega | simp) (Src.w (Fr.flat hB)) (by (try simp only [List.length_nil, List.length_cons, List.length_append, List.length_set, List.length_singleton, List.length_take, List.length_drop, List.length_reverse]) <;> omega) rfl (fun v6 => ?_))
    refine .know (row_len 1 rfl) (fun hv9 => ?_)
    obtain ⟨A7, c8, rfl, hv9_1, hv9_2⟩ := hv9
    unfold maxLen at hv9_2
    refine .know (row_len 0 rfl) (fun hv12 => ?_)
    obtain ⟨A10, c11, rfl, hv12_1, hv12_2⟩ := hv12
    unfold maxLen at hv12_2
    refine .cons (st_lend0 rfl rfl rfl rfl hb10 rfl .n (.c (.t .h) (.c .h .n)) (fun w_ hw => new_ A7 c8 a A10 c11 b _ _ (Fr.lend hw 0 rfl (by (try simp only [List.length_nil, List.length_cons, List.length_append, List.length_set, List.length_singleton, List.length_take, List.length_drop, List.length_reverse]) <;> omega)) (Fr.lend hw 1 rfl (by (try simp only [List.length_nil, List.length_cons, List.length_append, List.length_set, List.length_singleton, List.length_take, List.length_drop, List.length_reverse]) <;> omega)) (by (try simp only [List.length_nil, List.length_cons, List.length_append, List.length_set, List.length_singleton, List.length_take, List.length_drop, List.length_reverse]) <;> omega) (by (try simp only [List.length_nil, List.length_cons, List.length_append, List.length_set, List.length_singleton, List.length_take, List.length_drop, List.length_reverse]) <;> omega)) (fun v_q16 C_q16 q16 => ?_))
    obtain ⟨g13, v14, w15, rfl, rfl⟩ := q16
    show SP _ _ _ _ _ _ ⟨_, _ :: _ :: _ :: _ :: _ :: _, _, _⟩
    refine .cons (Ev.step (ev_as rfl rfl) rfl rfl rfl ?_)
    refine .go (fun _ _ h => h) ?_
    refine .seq ?_
    refine .region ?_
    refine .cons (Ev.step (ev_fa rfl fo24_0 rfl (r := 0) rfl) rfl rfl rfl ?_)
    refine .cons (Ev.step (ev_ld1 rfl ty3 rfl (At.own1 5 rfl rfl)) rfl rfl rfl ?_)
    refine .cons (Ev.step (ev_cv rfl Try.underlying3 Try.underlying28 rfl rfl) rfl rfl rfl ?_)
    refine .cons (Ev.step (ev_rem rfl rfl rfl (by omega)) rfl rfl rfl ?_)
    refine .cons (Ev.step (ev_cv rfl Try.underlying28 Try.underlying3 rfl rfl) rfl rfl rfl ?_)
    refine .cons (Ev.step (ev_as rfl rfl) rfl rfl rfl ?_)
    refine .go (fun _ _ h => h) ?_
    refine .seq ?_
    refine .region ?_
    refine .cons (Ev.step (ev_mv rfl rfl) rfl rfl rfl ?_)
    refine .cons (Ev.step (ev_mv rfl rfl) rfl rfl rfl ?_)
    refine .cons (Ev.step (ev_fa rfl fo24_1 rfl (r := 1) rfl) rfl rfl rfl ?_)
    refine .cons (Ev.step (ev_ld1 rfl ty3 rfl (At.own1 5 rfl rfl)) rfl rfl rfl ?_)
    refine .cons (Ev.step (ev_fa rfl fo24_2 rfl (r := 2) rfl) rfl rfl rfl ?_)
    refine .cons (Ev.step (ev_ld1 rfl ty3 rfl (At.own1 5 rfl rfl)) rfl rfl rfl ?_)
    refine .cons (Ev.step (ev_fa rfl fo24_3 rfl (r := 3) rfl) rfl rfl rfl ?_)
    refine .cons (Ev.step (ev_ld1 rfl ty3 rfl (At.own1 5 rfl rfl)) rfl rfl rfl ?_)
    refine .cons (st_call0 rfl rfl rfl rfl hb11 rfl (.c .h (.c .h (.c .h .n))) (play_ g13 v14 w15 a b (IntKind.i64.wrap (Int.tmod (IntKind.u64.wrap q) 6)) i j k _ _ (by (try simp only [List.length_nil, List.length_cons, List.length_append, List.length_set, List.length_singleton, List.length_take, List.length_drop, List.length_reverse]) <;> omega) (by (try simp only [List.length_nil, List.length_cons, List.length_append, List.length_set, List.length_singleton, List.length_take, List.length_drop, List.length_reverse]) <;> omega) (by omega) (by omega) (by omega)) (fun v_q22 C_q22 q22 => ?_))
    obtain ⟨r17, x18, y19, p20, q21, p23, rfl, rfl⟩ := q22
    show SP _ _ _ _ _ _ ⟨_, _ :: _ :: _ :: _, _, _⟩
    obtain ⟨hs1_, hs2_, hs3_, hs4_, hs5_⟩ := sized_play p23
    refine .cons (Ev.step (ev_as rfl rfl) rfl rfl rfl ?_)
    refine .go (fun _ _ h => h) ?_
    refine .seq ?_
    refine .region ?_
    refine .cons (Ev.step (ev_mv rfl rfl) rfl rfl rfl ?_)
    refine .cons (st_call0 rfl rfl rfl rfl hb12 rfl (.c .h (.c .h (.c .h .n))) (visits_ g13 x18 y19 p20 q21 _ _ (by (try simp only [List.length_nil, List.length_cons, List.length_append, List.length_set, List.length_singleton, List.length_take, List.length_drop, List.length_reverse]) <;> omega) (by (try simp only [List.length_nil, List.length_cons, List.length_append, List.length_set, List.length_singleton, List.length_take, List.length_drop, List.length_reverse]) <;> omega)) (fun v_q26 C_q26 q26 => ?_))
    obtain ⟨x24, y25, rfl, rfl⟩ := q26
    show SP _ _ _ _ _ _ ⟨_, _ :: _ :: _ :: _ :: _ :: _, _, _⟩
    refine .cons (Ev.step (ev_mv rfl rfl) rfl rfl rfl ?_)
    refine .cons (Ev.step (ev_ext rfl rfl rfl) rfl rfl rfl ?_)
    refine .cons (Ev.step (ev_ext rfl rfl rfl) rfl rfl rfl ?_)
    refine .cons (Ev.step (ev_as rfl rfl) rfl rfl rfl ?_)
    refine .cons (Ev.step (ev_as rfl rfl) rfl rfl rfl ?_)
    refine .go (fun _ _ h => h) ?_
    refine .seq ?_
    refine .seq ?_
    refine .region ?_
    refine .cons (Ev.step (ev_mv rfl rfl) rfl rfl rfl ?_)
    refine .know (row_len 3 rfl) (fun hv29 => ?_)
    obtain ⟨A27, c28, rfl, hv29_1, hv29_2⟩ := hv29
    unfold maxLen at hv29_2
    refine .cons (Ev.step (ev_len rfl Try.underlying22 rfl) rfl rfl rfl ?_)
    refine .cons (Ev.step (ev_mv rfl rfl) rfl rfl rfl ?_)
    refine .know (row_len 4 rfl) (fun hv32 => ?_)
    obtain ⟨A30, c31, rfl, hv32_1, hv32_2⟩ := hv32
    unfold maxLen at hv32_2
    refine .cons (Ev.step (ev_len rfl Try.underlying22 rfl) rfl rfl rfl ?_)
    refine .cons (Ev.step (ev_add rfl rfl rfl (r := ((p20.length : Int) + (q21.length : Int))) rfl (by omega) (by omega)) rfl rfl rfl ?_)
    refine .cons (Ev.step (ev_mv rfl rfl) rfl rfl rfl ?_)
    refine .cons (Ev.step (ev_len rfl Try.underlying22 rfl) rfl rfl rfl ?_)
    refine .cons (Ev.step (ev_mv rfl rfl) rfl rfl rfl ?_)
    refine .cons (Ev.step (ev_len rfl Try.underlying22 rfl) rfl rfl rfl ?_)
    refine .cons (Ev.step (ev_add rfl rfl rfl (r := ((a.length : Int) + (b.length : Int))) rfl (by omega) (by omega)) rfl rfl rfl ?_)
    refine .cons (Ev.step (ev_cmp rfl rfl rfl rfl) rfl rfl rfl ?_)
    refine .go (fun _ _ h => h) ?_
    refine .condI rfl bNE (fun h33 => ?_) (fun h33 => ?_)
    ·
      refine .seq ?_
      exfalso; omega
    ·
      refine .skipgo (fun _ _ h => h) ?_
      refine .seq ?_
      refine .seq ?_
      rcases r17 with _ | _
      ·
        have hs2_ := hs2_ rfl
        refine .region ?_
        refine .cons (Ev.step (ev_mv rfl rfl) rfl rfl rfl ?_)
        refine .cons (Ev.step (ev_not rfl rfl) rfl rfl rfl ?_)
        refine .cons (Ev.step (ev_mv rfl rfl) rfl rfl rfl ?_)
        refine .cons (.off rfl rfl rfl rfl rfl rfl ?_)
        refine .cons (.off rfl rfl rfl rfl rfl rfl ?_)
        refine .cons (Ev.step (ev_pickt rfl rfl rfl rfl) rfl rfl rfl ?_)
        refine .cons (Ev.step (ev_mv rfl rfl) rfl rfl rfl ?_)
        refine .cons (.off rfl rfl rfl rfl rfl rfl ?_)
        refine .cons (.off rfl rfl rfl rfl rfl rfl ?_)
        refine .cons (Ev.step (ev_pickt rfl rfl rfl rfl) rfl rfl rfl ?_)
        refine .go (fun _ _ h => h) ?_
        refine .cond_t rfl ?_
        refine .seq ?_
        refine .region ?_
        refine .cons (Ev.step (ev_mv rfl rfl) rfl rfl rfl ?_)
        refine .cons (Ev.step (ev_len rfl Try.underlying22 rfl) rfl rfl rfl ?_)
        refine .cons (Ev.step (ev_mv rfl rfl) rfl rfl rfl ?_)
        refine .cons (Ev.step (ev_len rfl Try.underlying22 rfl) rfl rfl rfl ?_)
        refine .cons (Ev.step (ev_cmp rfl rfl rfl rfl) rfl rfl rfl ?_)
        refine .cons (Ev.step (ev_as rfl rfl) rfl rfl rfl ?_)
        refine .go (fun _ _ h => h) ?_
        exact .ret (fun _ _ h => h) (ret1 Try.results8 rfl .n ⟨(congrArg Value.bool (bE.2 (by omega))), rfl⟩)
      ·
        have hs4_ := hs4_ rfl
        have hs5_ := hs5_ rfl
        have hb_ := play_rng p23
        refine .region ?_
        refine .cons (Ev.step (ev_mv rfl rfl) rfl rfl rfl ?_)
        refine .cons (Ev.step (ev_not rfl rfl) rfl rfl rfl ?_)
        refine .cons (Ev.step (ev_mv rfl rfl) rfl rfl rfl ?_)
        refine .cons (.on rfl rfl rfl (Ev.step (ev_mv rfl rfl) rfl rfl rfl ?_))
        refine .cons (.on rfl rfl rfl (Ev.step (ev_cmp rfl rfl rfl rfl) rfl rfl rfl ?_))
        refine .cons (Ev.step (ev_pickf rfl rfl rfl rfl) rfl rfl rfl ?_)
        refine .cons (Ev.step (ev_mv rfl rfl) rfl rfl rfl ?_)
        refine .cons (Ev.gstep (fun _ => ev_mv rfl rfl) rfl rfl rfl rfl rfl ?_)
        refine .cons (Ev.gstep (fun hb => ev_cmp rfl (lkg rfl hb) rfl rfl) rfl rfl rfl rfl rfl ?_)
        refine .cons (Ev.step (ev_or rfl rfl rfl rfl) rfl rfl rfl ?_)
        refine .go (fun _ _ h => h) ?_
        refine .condI rfl (bO bE bE) (fun h34 => ?_) (fun h34 => ?_)
        ·
          refine .seq ?_
          refine .region ?_
          refine .cons (Ev.step (ev_mv rfl rfl) rfl rfl rfl ?_)
          refine .cons (Ev.step (ev_len rfl Try.underlying22 rfl) rfl rfl rfl ?_)
          refine .cons (Ev.step (ev_mv rfl rfl) rfl rfl rfl ?_)
          refine .cons (Ev.step (ev_len rfl Try.underlying22 rfl) rfl rfl rfl ?_)
          refine .cons (Ev.step (ev_cmp rfl rfl rfl rfl) rfl rfl rfl ?_)
          refine .cons (Ev.step (ev_as rfl rfl) rfl rfl rfl ?_)
          refine .go (fun _ _ h => h) ?_
          exact .ret (fun _ _ h => h) (ret1 Try.results8 rfl .n ⟨(congrArg Value.bool (bE.2 (by omega))), rfl⟩)
        ·
          refine .skipgo (fun _ _ h => h) ?_
          refine .seq ?_
          refine .seq ?_
          refine .region ?_
          refine .cons (Ev.step (ev_mv rfl rfl) rfl rfl rfl ?_)
          refine .cons (Ev.step (ev_cmp rfl rfl rfl rfl) rfl rfl rfl ?_)
          refine .go (fun _ _ h => h) ?_
          refine .condI rfl bE (fun h35 => ?_) (fun h35 => ?_)
          ·
            refine .seq ?_
            refine .region ?_
            refine .cons (Ev.step (ev_mv rfl rfl) rfl rfl rfl ?_)
            refine .cons (Ev.step (ev_len rfl Try.underlying22 rfl) rfl rfl rfl ?_)
            refine .cons (Ev.step (ev_fa rfl fo24_1 rfl (r := 1) rfl) rfl rfl rfl ?_)
            refine .cons (Ev.step (ev_ld1 rfl ty3 rfl (At.own1 7 rfl rfl)) rfl rfl rfl ?_)
            refine .cons (Ev.step (ev_mv rfl rfl) rfl rfl rfl ?_)
            refine .cons (Ev.step (ev_len rfl Try.underlying22 rfl) rfl rfl rfl ?_)
            refine .cons (Ev.step (ev_add rfl rfl rfl (r := (i + (b.length : Int))) rfl (by omega) (by omega)) rfl rfl rfl ?_)
            refine .cons (Ev.step (ev_fa rfl fo24_2 rfl (r := 2) rfl) rfl rfl rfl ?_)
            refine .cons (Ev.step (ev_ld1 rfl ty3 rfl (At.own1 7 rfl rfl)) rfl rfl rfl ?_)
            refine .cons (Ev.step (ev_sub rfl rfl rfl (r := ((i + (b.length : Int)) - j)) rfl (by omega) (by omega)) rfl rfl rfl ?_)
            refine .cons (Ev.step (ev_cmp rfl rfl rfl rfl) rfl rfl rfl ?_)
            refine .cons (Ev.step (ev_as rfl rfl) rfl rfl rfl ?_)
            refine .go (fun _ _ h => h) ?_
            exact .ret (fun _ _ h => h) (ret1 Try.results8 rfl .n ⟨(congrArg Value.bool (bE.2 (by omega))), rfl⟩)
          ·
            refine .skipgo (fun _ _ h => h) ?_
            refine .seq ?_
            refine .region ?_
            refine .cons (Ev.step (ev_mv rfl rfl) rfl rfl rfl ?_)
            refine .cons (Ev.step (ev_cmp rfl rfl rfl rfl) rfl rfl rfl ?_)
            refine .cons (Ev.step (ev_mv rfl rfl) rfl rfl rfl ?_)
            refine .cons (Ev.gstep (fun _ => ev_mv rfl rfl) rfl rfl rfl rfl rfl ?_)
            refine .cons (Ev.gstep (fun hb => ev_len rfl Try.underlying22 (lkg rfl hb)) rfl rfl rfl rfl rfl ?_)
            refine .cons (Ev.gstep (fun _ => ev_fa rfl fo24_1 rfl (r := 1) rfl) rfl rfl rfl rfl rfl ?_)
            refine .cons (Ev.gstep (fun hb => ev_ld1 rfl ty3 (lkg rfl hb) (At.own1 7 rfl rfl)) rfl rfl rfl rfl rfl ?_)
            refine .cons (Ev.gstep (fun _ => ev_fa rfl fo24_2 rfl (r := 2) rfl) rfl rfl rfl rfl rfl ?_)
            refine .cons (Ev.gstep (fun hb => ev_ld1 rfl ty3 (lkg rfl hb) (At.own1 7 rfl rfl)) rfl rfl rfl rfl rfl ?_)
            refine .cons (Ev.gstep (fun hb => have hp := bF bNE hb; ev_add rfl (lkg rfl hb) (lkg rfl hb) (r := (i + j)) rfl (by have _h := hp; omega) (by have _h := hp; omega)) rfl rfl rfl rfl rfl ?_)
            refine .cons (Ev.gstep (fun hb => ev_cmp rfl (lkg rfl hb) (lkg rfl hb) rfl) rfl rfl rfl rfl rfl ?_)
            refine .cons (Ev.step (ev_or rfl rfl rfl rfl) rfl rfl rfl ?_)
            refine .cons (Ev.step (ev_as rfl rfl) rfl rfl rfl ?_)
            refine .go (fun _ _ h => h) ?_
            exact .ret (fun _ _ h => h) (ret1 Try.results8 rfl .n ⟨(congrArg Value.bool ((bO bNE bE).2 (by omega))), rfl⟩)

end Go.Proofs.Ytfmfhkaimhmgdaa.Sx
