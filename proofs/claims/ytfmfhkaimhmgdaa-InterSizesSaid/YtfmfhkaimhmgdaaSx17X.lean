import Derived.Test.YtfmfhkaimhmgdaaProg
import Derived.Test.YtfmfhkaimhmgdaaSxGrow
import Derived.Test.YtfmfhkaimhmgdaaSx17A
import Derived.Test.YtfmfhkaimhmgdaaSx17S
import Derived.Test.YtfmfhkaimhmgdaaSx17I
import Derived.Test.YtfmfhkaimhmgdaaSx17J
import Derived.Test.YtfmfhkaimhmgdaaSx17K
import Derived.Test.YtfmfhkaimhmgdaaSx17L
import Derived.Test.YtfmfhkaimhmgdaaSx17N
import Derived.Test.YtfmfhkaimhmgdaaSx17W
set_option maxRecDepth 20000
set_option linter.unusedVariables false
set_option linter.unusedSimpArgs false
namespace Go.Proofs.Ytfmfhkaimhmgdaa.Sx.FX
open Go Go.SX Go.Proofs
theorem hb9 : hasBody Try.prog 9 = true := by kernel_rfl
theorem hb12 : hasBody Try.prog 12 = true := by kernel_rfl
theorem fo24_1 : fo Try.prog 24 1 = some 1 := by kernel_rfl
theorem ty3 : ty Try.prog 3 = some (false, 1) := by kernel_rfl
theorem fo24_2 : fo Try.prog 24 2 = some 2 := by kernel_rfl
theorem fo24_3 : fo Try.prog 24 3 = some 3 := by kernel_rfl
theorem hb11 : hasBody Try.prog 11 = true := by kernel_rfl
theorem ai44 : (Try.prog.info? 44).map (fun i => (i.zero, i.size, i.bytes)) = some (some (.agg #[.int .i64 0, .int .i64 0]), 2, 16) := by kernel_rfl
theorem hb10 : hasBody Try.prog 10 = true := by kernel_rfl
theorem ty44 : ty Try.prog 44 = some (true, 2) := by kernel_rfl
theorem hb14 : hasBody Try.prog 14 = true := by kernel_rfl


end Go.Proofs.Ytfmfhkaimhmgdaa.Sx.FX
namespace Go.Proofs.Ytfmfhkaimhmgdaa.Sx
open Go Go.SX Go.Proofs FX





theorem interOwn (A : Option Addr) (c : Nat) (a : List Vis) (B : Option Addr) (d : Nat) (b : List Vis) (q : Int) (i : Int) (j : Int) (k : Int) (S : Nat → Prop) (wf : World) (hA : Fr eVis S wf A a) (hB : Fr eVis S wf B b) (h_q : -9223372036854775808 ≤ q ∧ q ≤ 9223372036854775807) (h_i : -9223372036854775808 ≤ i ∧ i ≤ 9223372036854775807) (h_j : -9223372036854775808 ≤ j ∧ j ≤ 9223372036854775807) (h_k : -9223372036854775808 ≤ k ∧ k ≤ 9223372036854775807) :
    TR0 Try.prog 7 [.slice A a.length c, .slice B b.length d, .agg #[.int .i64 q, .int .i64 i, .int .i64 j, .int .i64 k]] [] S wf (fun v_ C_ => v_ = .bool true ∧ C_ = []) := by
  have hla := hA.len
  have hlb := hB.len
  refine TR.mk Try.func7 rfl Try.ntmps7 rfl rfl (fun w => ?_)
  refine .seq (.region (.cons (st_boxa rfl rfl rfl rfl rfl (fun b1 => .cons (Ev.step (ev_as rfl rfl) rfl rfl rfl (.go (fun _ _ h => h) (.seq ?_)))))))
  refine .seq (.region (.cons (st_callk rfl rfl rfl rfl hb9 rfl .n (awake _ _) (.cons (Ev.step (ev_not rfl rfl) rfl rfl rfl (.go (fun _ _ h => h) (.cond_f rfl ?_)))))))
  refine .skipgo (fun _ _ h => h) (.seq (.region (.cons (Ev.step (ev_as rfl rfl) rfl rfl rfl (.go (fun _ _ h => h) (.seq ?_))))))
  refine .seq (.region (.cons (Ev.step (ev_as rfl rfl) rfl rfl rfl (.go (fun _ _ h => h) (.block ?_)))))
  refine .loop (X := Int) (fun x => 0 ≤ x ∧ x ≤ 6) (fun x => [(0, .slice A a.length c), (1, .slice B b.length d), (5, .pointer (some ⟨b1, 0, none⟩)), (7, .pointer none), (8, .int .i64 x)]) (fun x => [cel b1 [.int .i64 q, .int .i64 i, .int .i64 j, .int .i64 k] 24]) (fun _ => S) (fun _ => wf) (fun x => (6 - x).toNat) (fun a_ w_ hs_ hw_ => ⟨0, (by refine ⟨?_, ?_⟩ <;> omega), hs_.mono (Sub.get (.c rfl (.c rfl (.c rfl (.c rfl (.c rfl .n)))))), hw_.keep (.c .h .n)⟩) (fun x ⟨hk2_0, hk2_1⟩ => ?_)
  show SC _ _ _ _ _ ⟨[(0, .slice A a.length c), (1, .slice B b.length d), (5, .pointer (some ⟨b1, 0, none⟩)), (7, .pointer none), (8, .int .i64 x)], [cel b1 [.int .i64 q, .int .i64 i, .int .i64 j, .int .i64 k] 24], S, wf⟩
  refine .seq (.seq (.region (.cons (Ev.step (ev_mv rfl rfl) rfl rfl rfl (.cons (Ev.step (ev_cmp rfl rfl rfl rfl) rfl rfl rfl (.go (fun _ _ h => h) ?_)))))))
  refine .condI rfl bD (fun h3 => ?_) (fun h3 => ?_)
  ·
    refine .skipgo (fun _ _ h => h) (.seq (.block (.seq (.region (.cons (Ev.step (ev_mv rfl rfl) rfl rfl rfl ?_))))))
    refine .cons (st_callk rfl rfl rfl rfl hb12 rfl .n (visits_nil _ _) (.cons (Ev.step (ev_mv rfl rfl) rfl rfl rfl (.cons (Ev.step (ev_ext rfl rfl rfl) rfl rfl rfl (.cons (Ev.step (ev_ext rfl rfl rfl) rfl rfl rfl (.cons (Ev.step (ev_as rfl rfl) rfl rfl rfl (.cons (Ev.step (ev_as rfl rfl) rfl rfl rfl ?_)))))))))))
    refine .go (fun _ _ h => h) (.seq (.region (.cons (Ev.step (ev_mv rfl rfl) rfl rfl rfl (.cons (Ev.step (ev_mv rfl rfl) rfl rfl rfl (.cons (Ev.step (ev_fa rfl fo24_1 rfl (r := 1) rfl) rfl rfl rfl ?_))))))))
    refine .cons (Ev.step (ev_ld1 rfl ty3 rfl (At.own1 0 rfl rfl)) rfl rfl rfl (.cons (Ev.step (ev_fa rfl fo24_2 rfl (r := 2) rfl) rfl rfl rfl (.cons (Ev.step (ev_ld1 rfl ty3 rfl (At.own1 0 rfl rfl)) rfl rfl rfl (.cons (Ev.step (ev_fa rfl fo24_3 rfl (r := 3) rfl) rfl rfl rfl (.cons (Ev.step (ev_ld1 rfl ty3 rfl (At.own1 0 rfl rfl)) rfl rfl rfl (.cons (st_callk rfl rfl rfl rfl hb11 rfl .n (play_nil x i j k _ _ (by omega) (by omega) (by omega)) ?_)))))))))))
    refine .cons (Ev.step (ev_mv rfl rfl) rfl rfl rfl (.cons (.on rfl rfl rfl (Ev.step (ev_mv rfl rfl) rfl rfl rfl (.cons (.on rfl rfl rfl (Ev.step (ev_len rfl Try.underlying22 rfl) rfl rfl rfl (.cons (.on rfl rfl rfl (Ev.step (ev_cmp (r := false) rfl rfl rfl rfl) rfl rfl rfl (.cons (Ev.step (ev_pickf rfl rfl rfl rfl) rfl rfl rfl (.cons (Ev.step (ev_mv rfl rfl) rfl rfl rfl ?_))))))))))))))
    refine .cons (.on rfl rfl rfl (Ev.step (ev_mv rfl rfl) rfl rfl rfl (.cons (.on rfl rfl rfl (Ev.step (ev_len rfl Try.underlying22 rfl) rfl rfl rfl (.cons (.on rfl rfl rfl (Ev.step (ev_cmp (r := false) rfl rfl rfl rfl) rfl rfl rfl (.cons (Ev.step (ev_pickf rfl rfl rfl rfl) rfl rfl rfl (.go (fun _ _ h => h) (.cond_f rfl ?_))))))))))))
    exact .skipgo (fun _ _ h => h) (.region (.cons (Ev.step (ev_mv rfl rfl) rfl rfl rfl (.cons (Ev.step (ev_add rfl rfl rfl (r := (x + 1)) rfl (by omega) (by omega)) rfl rfl rfl (.cons (Ev.step (ev_as rfl rfl) rfl rfl rfl (SP.nil (SQ.round (X := Int) (x := (x)) (x + 1) (by refine ⟨?_, ?_⟩ <;> omega) (by show (_ : Nat) < _; omega) (Sub.get (.c rfl (.c rfl (.c rfl (.c rfl (.c rfl .n)))))) (fun w hw => hw.keep (.c .h .n)))))))))))
  ·
    refine .exit (fun _ _ h => h) (.seq (.seq (.region (.cons (Ev.step (ev_mv rfl rfl) rfl rfl rfl (.cons (Ev.step (ev_len rfl Try.underlying22 rfl) rfl rfl rfl ?_)))))))
    refine .cons (Ev.step (ev_cmp rfl rfl rfl rfl) rfl rfl rfl (.cons (Ev.step (ev_mv rfl rfl) rfl rfl rfl (.cons (Ev.gstep (fun _ => ev_mv rfl rfl) rfl rfl rfl rfl rfl (.cons (Ev.gstep (fun hb => ev_len rfl Try.underlying22 (lkg rfl hb)) rfl rfl rfl rfl rfl (.cons (Ev.gstep (fun hb => ev_cmp rfl (lkg rfl hb) rfl rfl) rfl rfl rfl rfl rfl (.cons (Ev.step (ev_or rfl rfl rfl rfl) rfl rfl rfl ?_)))))))))))
    refine .go (fun _ _ h => h) (.condI rfl (bO bD bD) (fun h4 => ?_) (fun h4 => ?_))
    ·
      exact .seq (.region (.cons (Ev.step (ev_as rfl rfl) rfl rfl rfl (.go (fun _ _ h => h) (.ret (fun _ _ h => h) (ret1 Try.results7 rfl .n ⟨rfl, rfl⟩))))))
    ·
      refine .skipgo (fun _ _ h => h) (.seq (.region (.cons (st_lit eVis (e := 44) (l := []) rfl rfl rfl rfl (by kernel_rfl) rfl rfl (fun w => by kernel_rfl) (fun b5 => .cons (Ev.step (ev_mv rfl rfl) rfl rfl rfl (.cons (st_app0 (E := eVis) (m := a) rfl rfl rfl rfl Try.underlying22 ai44 rfl rfl rfl .h (by first | rfl | omega | simp) (Src.w (Fr.flat hA)) (by (try simp only [List.length_nil, List.length_cons, List.length_append, List.length_set, List.length_singleton, List.length_take, List.length_drop, List.length_reverse]) <;> omega) rfl (fun v6 => ?_)))))))))
      refine .cons (st_lit eVis (e := 44) (l := []) rfl rfl rfl rfl (by kernel_rfl) rfl rfl (fun w => by kernel_rfl) (fun b7 => .cons (Ev.step (ev_mv rfl rfl) rfl rfl rfl (.cons (st_app0 (E := eVis) (m := b) rfl rfl rfl rfl Try.underlying22 ai44 rfl rfl rfl .h (by first | rfl | omega | simp) (Src.w (Fr.flat hB)) (by (try simp only [List.length_nil, List.length_cons, List.length_append, List.length_set, List.length_singleton, List.length_take, List.length_drop, List.length_reverse]) <;> omega) rfl (fun v8 => .cons (Ev.step (ev_as rfl rfl) rfl rfl rfl (.cons (Ev.step (ev_as rfl rfl) rfl rfl rfl (.go (fun _ _ h => h) ?_))))))))))
      refine .seq (.region (.cons (Ev.step (ev_mv rfl rfl) rfl rfl rfl (.cons (Ev.step (ev_mv rfl rfl) rfl rfl rfl ?_)))))
      refine .know (row_len 1 rfl) (fun hv11 => ?_)
      obtain ⟨A9, c10, rfl, hv11_1, hv11_2⟩ := hv11
      unfold maxLen at hv11_2
      refine .know (row_len 0 rfl) (fun hv14 => ?_)
      obtain ⟨A12, c13, rfl, hv14_1, hv14_2⟩ := hv14
      unfold maxLen at hv14_2
      refine .cons (st_lend0 rfl rfl rfl rfl hb10 rfl .n (.c (.t .h) (.c .h .n)) (fun w_ hw => new_ A9 c10 a A12 c13 b _ _ (Fr.lend hw 0 rfl (by (try simp only [List.length_nil, List.length_cons, List.length_append, List.length_set, List.length_singleton, List.length_take, List.length_drop, List.length_reverse]) <;> omega)) (Fr.lend hw 1 rfl (by (try simp only [List.length_nil, List.length_cons, List.length_append, List.length_set, List.length_singleton, List.length_take, List.length_drop, List.length_reverse]) <;> omega)) (by (try simp only [List.length_nil, List.length_cons, List.length_append, List.length_set, List.length_singleton, List.length_take, List.length_drop, List.length_reverse]) <;> omega) (by (try simp only [List.length_nil, List.length_cons, List.length_append, List.length_set, List.length_singleton, List.length_take, List.length_drop, List.length_reverse]) <;> omega)) (fun v_q18 C_q18 q18 => ?_))
      obtain ⟨g15, v16, w17, rfl, rfl⟩ := q18
      show SP _ _ _ _ _ _ ⟨_, _ :: _ :: _ :: _ :: _ :: _, _, _⟩
      refine .cons (Ev.step (ev_as rfl rfl) rfl rfl rfl (.go (fun _ _ h => h) (.seq (.region (.cons (Ev.step (ev_mv rfl rfl) rfl rfl rfl (.cons (st_call0 rfl rfl rfl rfl hb12 rfl (.c .h (.c .h (.c .h .n))) (visits_ g15 v16 w17 a b _ _ (by (try simp only [List.length_nil, List.length_cons, List.length_append, List.length_set, List.length_singleton, List.length_take, List.length_drop, List.length_reverse]) <;> omega) (by (try simp only [List.length_nil, List.length_cons, List.length_append, List.length_set, List.length_singleton, List.length_take, List.length_drop, List.length_reverse]) <;> omega)) (fun v_q21 C_q21 q21 => ?_)))))))))
      obtain ⟨x19, y20, rfl, rfl⟩ := q21
      show SP _ _ _ _ _ _ ⟨_, _ :: _ :: _ :: _ :: _ :: _, _, _⟩
      refine .cons (Ev.step (ev_mv rfl rfl) rfl rfl rfl (.cons (Ev.step (ev_ext rfl rfl rfl) rfl rfl rfl (.cons (Ev.step (ev_ext rfl rfl rfl) rfl rfl rfl (.cons (Ev.step (ev_as rfl rfl) rfl rfl rfl (.cons (Ev.step (ev_as rfl rfl) rfl rfl rfl (.go (fun _ _ h => h) ?_))))))))))
      refine .seq (.seq ?_)
      refine .know (row_len 3 rfl) (fun hv24 => ?_)
      obtain ⟨A22, c23, rfl, hv24_1, hv24_2⟩ := hv24
      unfold maxLen at hv24_2
      refine .know (row_len 4 rfl) (fun hv27 => ?_)
      obtain ⟨A25, c26, rfl, hv27_1, hv27_2⟩ := hv27
      unfold maxLen at hv27_2
      refine .region (.cons (Ev.step (ev_mv rfl rfl) rfl rfl rfl (.cons (Ev.step (ev_len rfl Try.underlying22 rfl) rfl rfl rfl (.cons (Ev.step (ev_mv rfl rfl) rfl rfl rfl (.go (fun _ _ h => h) (.block ?_))))))))
      refine .loop (X := Int × (List Vis) × (List Vis)) (fun ⟨za, Xa, Ya⟩ => 0 ≤ za ∧ Xa.length = a.length ∧ Ya.length = a.length) (fun ⟨za, Xa, Ya⟩ => [(0, .slice A a.length c), (1, .slice B b.length d), (11, .slice A9 a.length c10), (12, .slice A12 b.length c13), (13, .pointer (some ⟨g15, 0, none⟩)), (14, .slice A22 a.length c23), (15, .slice A25 b.length c26), (73, .int .i64 (a.length : Int)), (74, .int .i64 za)]) (fun ⟨za, Xa, Ya⟩ => [cel g15 [v16, w17] 49, rw_ eVis 44 (v16) a, rw_ eVis 44 (w17) b, rw_ eVis 44 (.slice A22 a.length c23) Ya, rw_ eVis 44 (.slice A25 b.length c26) b, rw_ eVis 44 (.slice A9 a.length c10) Xa, rw_ eVis 44 (.slice A12 b.length c13) b, cel b1 [.int .i64 q, .int .i64 i, .int .i64 j, .int .i64 k] 24]) (fun _ => S) (fun _ => wf) (fun ⟨za, Xa, Ya⟩ => (a.length - za.toNat)) (fun a_ w_ hs_ hw_ => ⟨⟨0, a, a⟩, ⟨by omega, by simp, by simp⟩, hs_.mono (Sub.get (.c rfl (.c rfl (.c rfl (.c rfl (.c rfl (.c rfl (.c rfl (.c rfl (.c rfl .n)))))))))), hw_.keep (.c .h (.c .h (.c .h (.c .h (.c .h (.c .h (.c .h (.c .h .n))))))))⟩) (fun ⟨za, Xa, Ya⟩ ⟨hk28_0, hk28_1, hk28_2⟩ => ?_)
      show SC _ _ _ _ _ ⟨[(0, .slice A a.length c), (1, .slice B b.length d), (11, .slice A9 a.length c10), (12, .slice A12 b.length c13), (13, .pointer (some ⟨g15, 0, none⟩)), (14, .slice A22 a.length c23), (15, .slice A25 b.length c26), (73, .int .i64 (a.length : Int)), (74, .int .i64 za)], [cel g15 [v16, w17] 49, rw_ eVis 44 (v16) a, rw_ eVis 44 (w17) b, rw_ eVis 44 (.slice A22 a.length c23) Ya, rw_ eVis 44 (.slice A25 b.length c26) b, rw_ eVis 44 (.slice A9 a.length c10) Xa, rw_ eVis 44 (.slice A12 b.length c13) b, cel b1 [.int .i64 q, .int .i64 i, .int .i64 j, .int .i64 k] 24], S, wf⟩
      refine .seq (.region (.cons (Ev.step (ev_cmp rfl rfl rfl rfl) rfl rfl rfl (.go (fun _ _ h => h) (.seq (.condI rfl bD (fun h29 => ?_) (fun h29 => ?_)))))))
      ·
        refine .skipgo (fun _ _ h => h) (.seq (.block (.seq (.region (.cons (Ev.step (ev_mv rfl rfl) rfl rfl rfl ?_))))))
        refine .cons (Ev.step (ev_as rfl rfl) rfl rfl rfl (.go (fun _ _ h => h) (.region (.cons (Ev.step (ev_mv rfl rfl) rfl rfl rfl (.cons (Ev.step (ev_mv rfl rfl) rfl rfl rfl (.cons (Ev.step (ev_mv rfl rfl) rfl rfl rfl ?_)))))))))
        refine .cons (Ev.step (ev_mv rfl rfl) rfl rfl rfl (.cons (Ev.step (ev_any (v := .agg #[.int .i64 77, .int .i64 0]) rfl (by kernel_rfl) (fun _ => by kernel_rfl)) rfl rfl rfl (.cons (Ev.step (ev_any (v := .agg #[.int .i64 78, .int .i64 0]) rfl (by kernel_rfl) (fun _ => by kernel_rfl)) rfl rfl rfl (.cons (Ev.step (ev_ix rfl Try.underlying22 ty44 rfl rfl (by omega) (by omega) (row_adr (i := za) 5 rfl (by omega) (by omega))) rfl rfl rfl (.cons (st_setel (E := eVis) (i := za) (cs := [.int .i64 77, .int .i64 0]) (off := 0) (Vis.mk 77 0) rfl rfl rfl ty44 rfl rfl rfl rfl rfl (.t (.t (.t (.t (.t .h))))) (by (try simp only [List.length_nil, List.length_cons, List.length_append, List.length_set, List.length_singleton, List.length_take, List.length_drop, List.length_reverse]) <;> omega) (by (try simp only [List.length_nil, List.length_cons, List.length_append, List.length_set, List.length_singleton, List.length_take, List.length_drop, List.length_reverse]) <;> omega) (Nat.le_of_ble_eq_true rfl) rfl (.cons (Ev.step (ev_ix rfl Try.underlying22 ty44 rfl rfl (by omega) (by omega) (row_adr (i := za) 4 rfl (by omega) (by omega))) rfl rfl rfl ?_)))))))))))
        exact .cons (st_setel (E := eVis) (i := za) (cs := [.int .i64 78, .int .i64 0]) (off := 0) (Vis.mk 78 0) rfl rfl rfl ty44 rfl rfl rfl rfl rfl (.t (.t (.t (.t .h)))) (by (try simp only [List.length_nil, List.length_cons, List.length_append, List.length_set, List.length_singleton, List.length_take, List.length_drop, List.length_reverse]) <;> omega) (by (try simp only [List.length_nil, List.length_cons, List.length_append, List.length_set, List.length_singleton, List.length_take, List.length_drop, List.length_reverse]) <;> omega) (Nat.le_of_ble_eq_true rfl) rfl (.go (fun _ _ h => h) (.region (.cons (Ev.step (ev_add rfl rfl rfl (r := (za + 1)) rfl (by omega) (by omega)) rfl rfl rfl (.cons (Ev.step (ev_mv rfl rfl) rfl rfl rfl (SP.nil (SQ.round (X := Int × (List Vis) × (List Vis)) (x := (za, Xa, Ya)) ⟨(za + 1), (Xa.set (za).toNat (Vis.mk 77 0)), (Ya.set (za).toNat (Vis.mk 78 0))⟩ (by exact ⟨by omega, by simp only [List.length_set]; assumption, by simp only [List.length_set]; assumption⟩) (by dsimp only; omega) (Sub.get (.c rfl (.c rfl (.c rfl (.c rfl (.c rfl (.c rfl (.c rfl (.c rfl (.c rfl .n)))))))))) (fun w hw => hw.keep (.c (.t (.t .h)) (.c (.t (.t .h)) (.c (.t (.t .h)) (.c .h (.c (.t .h) (.c .h (.c .h (.c .h .n))))))))))))))))))
      ·
        refine .exit (fun _ _ h => h) (.seq (.seq (.region (.cons (Ev.step (ev_mv rfl rfl) rfl rfl rfl (.cons (Ev.step (ev_len rfl Try.underlying22 rfl) rfl rfl rfl ?_)))))))
        refine .cons (Ev.step (ev_mv rfl rfl) rfl rfl rfl (.go (fun _ _ h => h) (.block ?_)))
        refine .loop (X := Int × (List Vis) × (List Vis)) (fun ⟨zb, Xb, Yb⟩ => 0 ≤ zb ∧ Xb.length = b.length ∧ Yb.length = b.length) (fun ⟨zb, Xb, Yb⟩ => [(0, .slice A a.length c), (1, .slice B b.length d), (12, .slice A12 b.length c13), (13, .pointer (some ⟨g15, 0, none⟩)), (15, .slice A25 b.length c26), (87, .int .i64 (b.length : Int)), (88, .int .i64 zb)]) (fun ⟨zb, Xb, Yb⟩ => [cel g15 [v16, w17] 49, rw_ eVis 44 (v16) a, rw_ eVis 44 (w17) b, rw_ eVis 44 (.slice A22 a.length c23) Ya, rw_ eVis 44 (.slice A25 b.length c26) Yb, rw_ eVis 44 (.slice A9 a.length c10) Xa, rw_ eVis 44 (.slice A12 b.length c13) Xb, cel b1 [.int .i64 q, .int .i64 i, .int .i64 j, .int .i64 k] 24]) (fun _ => S) (fun _ => wf) (fun ⟨zb, Xb, Yb⟩ => (b.length - zb.toNat)) (fun a_ w_ hs_ hw_ => ⟨⟨0, b, b⟩, ⟨by omega, by simp, by simp⟩, hs_.mono (Sub.get (.c rfl (.c rfl (.c rfl (.c rfl (.c rfl (.c rfl (.c rfl .n)))))))), hw_.keep (.c .h (.c .h (.c .h (.c .h (.c .h (.c .h (.c .h (.c .h .n))))))))⟩) (fun ⟨zb, Xb, Yb⟩ ⟨hk30_0, hk30_1, hk30_2⟩ => ?_)
        show SC _ _ _ _ _ ⟨[(0, .slice A a.length c), (1, .slice B b.length d), (12, .slice A12 b.length c13), (13, .pointer (some ⟨g15, 0, none⟩)), (15, .slice A25 b.length c26), (87, .int .i64 (b.length : Int)), (88, .int .i64 zb)], [cel g15 [v16, w17] 49, rw_ eVis 44 (v16) a, rw_ eVis 44 (w17) b, rw_ eVis 44 (.slice A22 a.length c23) Ya, rw_ eVis 44 (.slice A25 b.length c26) Yb, rw_ eVis 44 (.slice A9 a.length c10) Xa, rw_ eVis 44 (.slice A12 b.length c13) Xb, cel b1 [.int .i64 q, .int .i64 i, .int .i64 j, .int .i64 k] 24], S, wf⟩
        refine .seq (.region (.cons (Ev.step (ev_cmp rfl rfl rfl rfl) rfl rfl rfl (.go (fun _ _ h => h) (.seq (.condI rfl bD (fun h31 => ?_) (fun h31 => ?_)))))))
        ·
          refine .skipgo (fun _ _ h => h) (.seq (.block (.seq (.region (.cons (Ev.step (ev_mv rfl rfl) rfl rfl rfl ?_))))))
          refine .cons (Ev.step (ev_as rfl rfl) rfl rfl rfl (.go (fun _ _ h => h) (.region (.cons (Ev.step (ev_mv rfl rfl) rfl rfl rfl (.cons (Ev.step (ev_mv rfl rfl) rfl rfl rfl (.cons (Ev.step (ev_mv rfl rfl) rfl rfl rfl ?_)))))))))
          refine .cons (Ev.step (ev_mv rfl rfl) rfl rfl rfl (.cons (Ev.step (ev_any (v := .agg #[.int .i64 77, .int .i64 0]) rfl (by kernel_rfl) (fun _ => by kernel_rfl)) rfl rfl rfl (.cons (Ev.step (ev_any (v := .agg #[.int .i64 78, .int .i64 0]) rfl (by kernel_rfl) (fun _ => by kernel_rfl)) rfl rfl rfl (.cons (Ev.step (ev_ix rfl Try.underlying22 ty44 rfl rfl (by omega) (by omega) (row_adr (i := zb) 6 rfl (by omega) (by omega))) rfl rfl rfl (.cons (st_setel (E := eVis) (i := zb) (cs := [.int .i64 77, .int .i64 0]) (off := 0) (Vis.mk 77 0) rfl rfl rfl ty44 rfl rfl rfl rfl rfl (.t (.t (.t (.t (.t (.t .h)))))) (by (try simp only [List.length_nil, List.length_cons, List.length_append, List.length_set, List.length_singleton, List.length_take, List.length_drop, List.length_reverse]) <;> omega) (by (try simp only [List.length_nil, List.length_cons, List.length_append, List.length_set, List.length_singleton, List.length_take, List.length_drop, List.length_reverse]) <;> omega) (Nat.le_of_ble_eq_true rfl) rfl (.cons (Ev.step (ev_ix rfl Try.underlying22 ty44 rfl rfl (by omega) (by omega) (row_adr (i := zb) 5 rfl (by omega) (by omega))) rfl rfl rfl ?_)))))))))))
          exact .cons (st_setel (E := eVis) (i := zb) (cs := [.int .i64 78, .int .i64 0]) (off := 0) (Vis.mk 78 0) rfl rfl rfl ty44 rfl rfl rfl rfl rfl (.t (.t (.t (.t (.t .h))))) (by (try simp only [List.length_nil, List.length_cons, List.length_append, List.length_set, List.length_singleton, List.length_take, List.length_drop, List.length_reverse]) <;> omega) (by (try simp only [List.length_nil, List.length_cons, List.length_append, List.length_set, List.length_singleton, List.length_take, List.length_drop, List.length_reverse]) <;> omega) (Nat.le_of_ble_eq_true rfl) rfl (.go (fun _ _ h => h) (.region (.cons (Ev.step (ev_add rfl rfl rfl (r := (zb + 1)) rfl (by omega) (by omega)) rfl rfl rfl (.cons (Ev.step (ev_mv rfl rfl) rfl rfl rfl (SP.nil (SQ.round (X := Int × (List Vis) × (List Vis)) (x := (zb, Xb, Yb)) ⟨(zb + 1), (Xb.set (zb).toNat (Vis.mk 77 0)), (Yb.set (zb).toNat (Vis.mk 78 0))⟩ (by exact ⟨by omega, by simp only [List.length_set]; assumption, by simp only [List.length_set]; assumption⟩) (by dsimp only; omega) (Sub.get (.c rfl (.c rfl (.c rfl (.c rfl (.c rfl (.c rfl (.c rfl .n)))))))) (fun w hw => hw.keep (.c (.t (.t .h)) (.c (.t (.t .h)) (.c (.t (.t .h)) (.c (.t (.t .h)) (.c .h (.c (.t .h) (.c .h (.c .h .n))))))))))))))))))
        ·
          refine .exit (fun _ _ h => h) (.seq (.region (.cons (Ev.step (ev_mv rfl rfl) rfl rfl rfl (.cons (st_call0 rfl rfl rfl rfl hb12 rfl (.c .h (.c .h (.c .h .n))) (visits_ g15 v16 w17 a b _ _ (by (try simp only [List.length_nil, List.length_cons, List.length_append, List.length_set, List.length_singleton, List.length_take, List.length_drop, List.length_reverse]) <;> omega) (by (try simp only [List.length_nil, List.length_cons, List.length_append, List.length_set, List.length_singleton, List.length_take, List.length_drop, List.length_reverse]) <;> omega)) (fun v_q34 C_q34 q34 => ?_)))))))
          obtain ⟨x32, y33, rfl, rfl⟩ := q34
          show SP _ _ _ _ _ _ ⟨_, _ :: _ :: _ :: _ :: _ :: _, _, _⟩
          refine .cons (Ev.step (ev_mv rfl rfl) rfl rfl rfl (.cons (Ev.step (ev_ext rfl rfl rfl) rfl rfl rfl (.cons (Ev.step (ev_ext rfl rfl rfl) rfl rfl rfl (.cons (Ev.step (ev_as rfl rfl) rfl rfl rfl (.cons (Ev.step (ev_as rfl rfl) rfl rfl rfl (.go (fun _ _ h => h) ?_))))))))))
          refine .seq (.region (.cons (Ev.step (ev_mv rfl rfl) rfl rfl rfl (.cons (Ev.step (ev_mv rfl rfl) rfl rfl rfl ?_)))))
          refine .know (row_len 3 rfl) (fun hv37 => ?_)
          obtain ⟨A35, c36, rfl, hv37_1, hv37_2⟩ := hv37
          unfold maxLen at hv37_2
          refine .cons (st_lendk rfl rfl rfl rfl hb14 rfl .n (.c (.t (.t (.t .h))) .n) (fun w_ hw => same A35 c36 a A c a _ _ (Fr.lend hw 0 rfl (by (try simp only [List.length_nil, List.length_cons, List.length_append, List.length_set, List.length_singleton, List.length_take, List.length_drop, List.length_reverse]) <;> omega)) (Fr.ext hA hw.lendx)) (.cons (Ev.step (ev_mv rfl rfl) rfl rfl rfl (.cons (Ev.gstep (fun _ => ev_mv rfl rfl) rfl rfl rfl rfl rfl (.cons (Ev.gstep (fun _ => ev_mv rfl rfl) rfl rfl rfl rfl rfl ?_)))))))
          refine .know (row_len 4 rfl) (fun hv40 => ?_)
          obtain ⟨A38, c39, rfl, hv40_1, hv40_2⟩ := hv40
          unfold maxLen at hv40_2
          exact .cons (st_glendk rfl rfl rfl rfl rfl rfl hb14 (fun hb => (lkA1 (lkg rfl hb) (lkA1 (lkg rfl hb) lkA0))) .n (.c (.t (.t (.t (.t .h)))) .n) (fun hb w_ hw => have hp := bT bV hb; same A38 c39 b B d b _ _ (Fr.lend hw 0 rfl (by (try simp only [List.length_nil, List.length_cons, List.length_append, List.length_set, List.length_singleton, List.length_take, List.length_drop, List.length_reverse]) <;> omega)) (Fr.ext hB hw.lendx)) (.cons (Ev.step (ev_and rfl rfl rfl rfl) rfl rfl rfl (.cons (Ev.step (ev_as rfl rfl) rfl rfl rfl (.go (fun _ _ h => h) (.ret (fun _ _ h => h) (ret1 Try.results7 rfl .n ⟨(congrArg Value.bool (by simp)), rfl⟩))))))))

end Go.Proofs.Ytfmfhkaimhmgdaa.Sx
