import Derived.Test.YtfmfhkaimhmgdaaProg
import Derived.Test.YtfmfhkaimhmgdaaSxGrow
import Derived.Test.YtfmfhkaimhmgdaaSx17A
set_option maxRecDepth 20000
set_option linter.unusedVariables false
set_option linter.unusedSimpArgs false
namespace Go.Proofs.Ytfmfhkaimhmgdaa.Sx.FS
open Go Go.SX Go.Proofs
theorem ty44 : ty Try.prog 44 = some (true, 2) := by kernel_rfl
theorem mo : Try.prog.follows .mixedOrders = true := by kernel_rfl
theorem zf44 : (Try.prog.info? 44).bind (fun i => i.zero.map Value.cells) = some (List.toArray [.int .i64 0, .int .i64 0]) := by kernel_rfl
theorem ai44 : (Try.prog.info? 44).map (fun i => (i.zero, i.size, i.bytes)) = some (some (.agg #[.int .i64 0, .int .i64 0]), 2, 16) := by kernel_rfl
theorem ty22 : ty Try.prog 22 = some (false, 1) := by kernel_rfl
theorem hb40 : hasBody Try.prog 40 = true := by kernel_rfl
theorem ovl44 (args : Array Value) (w : World) : (callFunc 44 args).run Try.prog w = (Extern.SlicesOverlaps.overlaps #[22, 22] #[4] args >>= fun v => pure (Next.value v) : Sem Next).run Try.prog w := by kernel_rfl

end Go.Proofs.Ytfmfhkaimhmgdaa.Sx.FS
namespace Go.Proofs.Ytfmfhkaimhmgdaa.Sx
open Go Go.SX Go.Proofs FS





theorem delete_ (v : Value) (l : List Vis) (i : Int) (j : Int) (S : Nat → Prop) (wf : World) (h0 : 0 ≤ i) (h1 : i < j) (h2 : j ≤ l.length) (hl : l.length ≤ 2000000) :
    TR0 Try.prog 43 [v, .int .i64 i, .int .i64 j] [rw_ eVis 44 (v) l] S wf (fun v_ C_ => ∃ (u : Value), v_ = u ∧ C_ = [rw_ eVis 44 (u) (l.take i.toNat ++ l.drop j.toNat)]) := by
  refine TR.mk Try.func43 rfl Try.ntmps43 rfl rfl (fun w_ => ?_)
  refine .seq (.region (.cons (Ev.step (ev_as rfl rfl) rfl rfl rfl (.go (fun _ _ h => h) (.seq (.region ?_))))))
  refine .cons (Ev.step (ev_mv rfl rfl) rfl rfl rfl (.cons (Ev.step (ev_mv rfl rfl) rfl rfl rfl (.cons (Ev.step (ev_mv rfl rfl) rfl rfl rfl (.cons (Ev.step (ev_mv rfl rfl) rfl rfl rfl ?_)))))))
  refine .know (row_len 0 rfl) (fun hv3 => ?_)
  obtain ⟨A1, c2, rfl, hv3_1, hv3_2⟩ := hv3
  unfold maxLen at hv3_2
  refine .cons (Ev.step (ev_len rfl Try.underlying22 rfl) rfl rfl rfl (.cons (Ev.step (ev_slc3 rfl Try.underlying22 ty44 rfl (.s rfl (by omega)) rfl (.s rfl (by omega)) (.s rfl (by omega)) (by omega) (by omega) (by omega)) rfl rfl rfl (.go (fun _ _ h => h) (.seq (.seq (.region ?_)))))))
  refine .cons (Ev.step (ev_mv rfl rfl) rfl rfl rfl (.cons (Ev.step (ev_mv rfl rfl) rfl rfl rfl (.cons (Ev.step (ev_cmp rfl rfl rfl rfl) rfl rfl rfl (.go (fun _ _ h => h) (.condI rfl bE (fun h4 => ?_) (fun h4 => ?_))))))))
  ·
    exfalso; omega
  ·
    refine .skipgo (fun _ _ h => h) (.seq ?_)
    refine SC.open (A := A1) .h (fun _ _ _ e4 => ?_) (fun g5 sp_T6 eA en_T6 ec_T6 em_T6 el_T6 => ?_)
    ·
      exfalso; have e5 := congrArg List.length e4; simp only [List.length_nil] at e5; omega
    subst eA
    have el_T6 : sp_T6.length + l.length * 2 = c2 * 2 := el_T6
    unfold maxLen at em_T6
    obtain ⟨T6, hT6⟩ : ∃ T6, T6 = flat eVis l ++ sp_T6 := ⟨_, rfl⟩
    have hT6l : T6.length = c2 * 2 := by rw [hT6, List.length_append, fl_eVis]; omega
    refine SC.recel .h hT6.symm ?_
    have hT6p : T6.take (l.length * eVis.sz) = flat eVis l := pre_flat hT6
    refine .region (.cons (Ev.step (ev_mv rfl rfl) rfl rfl rfl (.cons (Ev.step (ev_len rfl Try.underlying22 rfl) rfl rfl rfl (.cons (Ev.step (ev_as rfl rfl) rfl rfl rfl (.go (fun _ _ h => h) (.seq ?_))))))))
    refine SC.draw mo [cel g5 T6 44] [] (.c .h .n) (fun _ _ _ c hc => by cases hc) (fun wf_7 hl_7 hx_7 hR_7 => ?_)
    refine SR.take 0 rfl (by kernel_rfl) (by kernel_rfl) (by kernel_rfl) rfl (fun _ _ _ h => h) rfl rfl rfl (ev_mv rfl rfl) (SR.take 1 rfl (by kernel_rfl) (by kernel_rfl) (by kernel_rfl) rfl (fun _ _ _ h => h) rfl rfl rfl (ev_mv rfl rfl) (SR.take 2 rfl (by kernel_rfl) (by kernel_rfl) (by kernel_rfl) rfl (fun _ _ _ h => h) rfl rfl rfl (ev_slc0 rfl Try.underlying22 ty44 rfl (.s rfl (by omega)) (by omega)) (SR.take 3 rfl (by kernel_rfl) (by kernel_rfl) (by kernel_rfl) rfl (fun _ _ _ h => h) rfl rfl rfl (ev_mv rfl rfl) (SR.take 4 rfl (by kernel_rfl) (by kernel_rfl) (by kernel_rfl) rfl (fun _ _ _ h => h) rfl rfl rfl (ev_mv rfl rfl) (SR.take 5 rfl (by kernel_rfl) (by kernel_rfl) (by kernel_rfl) rfl (fun _ _ _ h => h) rfl rfl rfl (ev_slcs rfl Try.underlying22 ty44 rfl (.s rfl (by omega)) .n (by omega) (by omega)) ?_)))))
    refine SR.one (j := 6) (by kernel_rfl) rfl (st_appp (p := ((i).toNat) * 2) (n := ((i).toNat)) (m := (l.length - (j).toNat)) (c := c2) (flat eVis (l.drop j.toNat)) rfl rfl rfl rfl Try.underlying22 ty44 rfl rfl rfl (by omega) (by rw [fl_eVis] <;> (try simp only [List.length_drop, List.length_take]) <;> omega) (all_flat _ _) (src_blk (off := 0) (c := c2) (l := ((j).toNat)) (sz := 2) 0 rfl (cut_flat (i := ((j).toNat)) (p := 0 + ((j).toNat) * 2) hT6p (by show _ * 2 = _; omega) (by omega)) (cut_ok (i := ((j).toNat)) (c := c2) (by omega))) .h rfl (by rw [fl_eVis, hT6l] <;> (try simp only [List.length_drop, List.length_take]) <;> omega) ⟨tt0, ?_⟩)
    obtain ⟨T8, hT8⟩ : ∃ T8, T8 = put T6 (((i).toNat) * 2) (flat eVis (l.drop j.toNat)) := ⟨_, rfl⟩
    have hT8l : T8.length = T6.length := by rw [hT8]; exact put_length (by rw [fl_eVis, hT6l] <;> (try simp only [List.length_drop, List.length_take]) <;> omega)
    rw [hT6l] at hT8l
    refine SR.recel .h hT8.symm ?_
    refine SR.take 7 rfl (by kernel_rfl) (by kernel_rfl) (by kernel_rfl) rfl (fun _ _ _ h => h) rfl rfl rfl (ev_as rfl rfl) (SR.fin (by kernel_rfl) hl_7 hx_7 hR_7 (.c .n) (SQ.go (fun _ _ h => h) (.seq (.region (.cons (Ev.step (ev_mv rfl rfl) rfl rfl rfl ?_))))))
    refine .cons (Ev.step (ev_mv rfl rfl) rfl rfl rfl (.cons (Ev.step (ev_len rfl Try.underlying22 rfl) rfl rfl rfl (.cons (Ev.step (ev_mv rfl rfl) rfl rfl rfl (.cons (Ev.step (ev_slcs rfl Try.underlying22 ty44 rfl (.s rfl (by omega)) (.s rfl (by omega)) (by omega) (by omega)) rfl rfl rfl (.cons (st_clearp (off := 0) (p := ((((((i).toNat) + (l.length - (j).toNat) : Nat) : Int)).toNat) * 2) (sz := 2) (n := ((((l.length : Int)).toNat) - (((((i).toNat) + (l.length - (j).toNat) : Nat) : Int)).toNat)) (c0 := c2) (l0 := ((((((i).toNat) + (l.length - (j).toNat) : Nat) : Int)).toNat)) (z := [.int .i64 0, .int .i64 0]) rfl rfl rfl Try.underlying22 ty44 zf44 rfl rfl rfl (by omega) .h (by omega) (by rw [hT8l]; omega) (fun zs9 hzs9 => ?_))))))))))
    obtain ⟨T10, hT10⟩ : ∃ T10, T10 = put T8 (((((((i).toNat) + (l.length - (j).toNat) : Nat) : Int)).toNat) * 2) zs9 := ⟨_, rfl⟩
    have hT10l : T10.length = T8.length := by rw [hT10]; exact put_length (by rw [hzs9, hT8l]; omega)
    rw [hT8l] at hT10l
    refine SP.recel .h hT10.symm ?_
    refine .go (fun _ _ h => h) (.seq (.region (.cons (Ev.step (ev_mv rfl rfl) rfl rfl rfl (.cons (Ev.step (ev_as rfl rfl) rfl rfl rfl (.go (fun _ _ h => h) ?_)))))))
    refine SC.close' (E := eVis) (n := ((i).toNat) + (l.length - (j).toNat)) ((l.take i.toNat ++ l.drop j.toNat)) .h (del_law (E := eVis) hT6p (by rw [hT6l]; show _ * 2 ≤ _; omega) (put_at hT8 (by show _ * 2 = _ * 2; omega)) (put_at hT10 (by show _ * 2 = _ * 2; omega)) (by omega) (by omega)) (by (try simp only [List.length_nil, List.length_append, List.length_take, List.length_drop, List.length_reverse]) <;> omega) (by omega) (by show _ ≤ 9223372036854775807; omega) hT10l ?_
    exact .ret (fun _ _ h => h) (ret1 Try.results43 rfl (.c .h .n) ⟨.slice (some ⟨g5, 0, none⟩) (((i).toNat) + (l.length - (j).toNat)) c2, rfl, rfl⟩)

theorem reverse_ (g : Nat) (off : Nat) (n : Nat) (c : Nat) (a : List Value) (m : List Vis) (b : List Value) (S : Nat → Prop) (wf : World) (ha : a.length = off) (hn : m.length = n) (hm : m.length ≤ 2000000) :
    TR0 Try.prog 46 [.slice (some ⟨g, off, none⟩) n c] [cel g (a ++ flat eVis m ++ b) 44] S wf (fun v_ C_ => v_ = .tuple #[] ∧ C_ = [cel g (a ++ flat eVis m.reverse ++ b) 44]) := by
  refine TR.mk Try.func46 rfl Try.ntmps46 rfl rfl (fun w_ => ?_)
  refine .seq (.region (.cons (Ev.step (ev_mv rfl rfl) rfl rfl rfl (.cons (Ev.step (ev_len rfl Try.underlying22 rfl) rfl rfl rfl (.cons (Ev.step (ev_sub rfl rfl rfl (r := ((n : Int) - 1)) rfl (by omega) (by omega)) rfl rfl rfl (.cons (Ev.step (ev_as rfl rfl) rfl rfl rfl ?_)))))))))
  refine .cons (Ev.step (ev_as rfl rfl) rfl rfl rfl (.go (fun _ _ h => h) (.block ?_)))
  refine .loop (X := Int × Int × (List Vis)) (fun ⟨x, y, X⟩ => 0 ≤ x ∧ x ≤ m.length ∧ y ≤ m.length ∧ x + y = (m.length : Int) - 1 ∧ revI m X x y ∧ X.length = m.length) (fun ⟨x, y, X⟩ => [(0, .slice (some ⟨g, off, none⟩) n c), (2, .int .i64 x), (3, .int .i64 y)]) (fun ⟨x, y, X⟩ => [cel g (a ++ flat eVis X ++ b) 44]) (fun _ => S) (fun _ => wf) (fun ⟨x, y, X⟩ => (y - x + 1).toNat) (fun a_ w_ hs_ hw_ => ⟨⟨0, (n : Int) - 1, m⟩, (by subst hn; exact ⟨by omega, by omega, by omega, by omega, revI_init, rfl⟩), hs_.mono (Sub.get (.c rfl (.c rfl (.c rfl .n)))), hw_.keep (.c .h .n)⟩) (fun ⟨x, y, X⟩ ⟨q_0, q_1, q_2, q_3, q_4, q_5⟩ => ?_)
  show SC _ _ _ _ _ ⟨[(0, .slice (some ⟨g, off, none⟩) n c), (2, .int .i64 x), (3, .int .i64 y)], [cel g (a ++ flat eVis X ++ b) 44], S, wf⟩
  refine .seq (.seq (.region (.cons (Ev.step (ev_mv rfl rfl) rfl rfl rfl (.cons (Ev.step (ev_mv rfl rfl) rfl rfl rfl (.cons (Ev.step (ev_cmp rfl rfl rfl rfl) rfl rfl rfl ?_))))))))
  refine .go (fun _ _ h => h) (.condI rfl bD (fun h1 => ?_) (fun h1 => ?_))
  ·
    refine .skipgo (fun _ _ h => h) (.seq (.block ?_))
    refine SC.draw mo [cel g (a ++ flat eVis X ++ b) 44] [] (.c .h .n) (fun _ _ _ c hc => by cases hc) (fun wf_2 hl_2 hx_2 hR_2 => ?_)
    refine SR.take 0 rfl (by kernel_rfl) (by kernel_rfl) (by kernel_rfl) rfl (fun _ _ _ h => h) rfl rfl rfl (ev_mv rfl rfl) (SR.take 1 rfl (by kernel_rfl) (by kernel_rfl) (by kernel_rfl) rfl (fun _ _ _ h => h) rfl rfl rfl (ev_mv rfl rfl) (SR.take 2 rfl (by kernel_rfl) (by kernel_rfl) (by kernel_rfl) rfl (fun _ _ _ h => h) rfl rfl rfl (ev_mv rfl rfl) (SR.take 3 rfl (by kernel_rfl) (by kernel_rfl) (by kernel_rfl) rfl (fun _ _ _ h => h) rfl rfl rfl (ev_mv rfl rfl) (SR.take 4 rfl (by kernel_rfl) (by kernel_rfl) (by kernel_rfl) rfl (fun _ _ _ h => h) rfl rfl rfl (ev_mv rfl rfl) (SR.take 5 rfl (by kernel_rfl) (by kernel_rfl) (by kernel_rfl) rfl (fun _ _ _ h => h) rfl rfl rfl (ev_mv rfl rfl) ?_)))))
    refine SR.take 6 rfl (by kernel_rfl) (by kernel_rfl) (by kernel_rfl) rfl (fun _ _ _ h => h) rfl rfl rfl (ev_ix rfl Try.underlying22 ty44 rfl rfl (by omega) (by omega) (fun _ _ => rfl)) (SR.take 8 rfl (by kernel_rfl) (by kernel_rfl) (by kernel_rfl) rfl (fun _ _ _ h => h) rfl rfl rfl (ev_mv rfl rfl) (SR.take 9 rfl (by kernel_rfl) (by kernel_rfl) (by kernel_rfl) rfl (fun _ _ _ h => h) rfl rfl rfl (ev_mv rfl rfl) (SR.take 10 rfl (by kernel_rfl) (by kernel_rfl) (by kernel_rfl) rfl (fun _ _ _ h => h) rfl rfl rfl (ev_ix rfl Try.underlying22 ty44 rfl rfl (by omega) (by omega) (fun _ _ => rfl)) ?_)))
    refine SR.two (i := 7) (j := 11) (by kernel_rfl) ⟨_, rfl, ?_⟩ ⟨_, rfl, ?_⟩
    ·
      refine Ev.step (ev_lda rfl rfl (win_el (E := eVis) (m := X) (i := y) (off := off) 0 rfl (by assumption) (by omega) (by (try simp only [List.length_nil, List.length_cons, List.length_append, List.length_set, List.length_singleton, List.length_take, List.length_drop, List.length_reverse]) <;> omega)) ty44) rfl rfl rfl ⟨tt0, (SR.one (j := 11) (by kernel_rfl) rfl (Ev.step (ev_lda rfl rfl (win_el (E := eVis) (m := X) (i := x) (off := off) 0 rfl (by assumption) (by omega) (by (try simp only [List.length_nil, List.length_cons, List.length_append, List.length_set, List.length_singleton, List.length_take, List.length_drop, List.length_reverse]) <;> omega)) ty44) rfl rfl rfl ⟨tt0, (SR.take 12 rfl (by kernel_rfl) (by kernel_rfl) (by kernel_rfl) rfl (fun _ _ _ h => h) rfl rfl rfl (ev_ix rfl Try.underlying22 ty44 rfl rfl (by omega) (by omega) (fun _ _ => rfl)) (SR.one (j := 13) (by kernel_rfl) rfl (st_setwin (E := eVis) (m := X) (i := x) (off := off) (vs := [.int .i64 ((gt X y).kind), .int .i64 ((gt X y).item)]) (gt X y) rfl rfl rfl ty44 rfl rfl rfl .h rfl (by assumption) (by (try simp only [List.length_nil, List.length_cons, List.length_append, List.length_set, List.length_singleton, List.length_take, List.length_drop, List.length_reverse]) <;> omega) (by (try simp only [List.length_nil, List.length_cons, List.length_append, List.length_set, List.length_singleton, List.length_take, List.length_drop, List.length_reverse]) <;> omega) rfl ⟨tt0, (SR.take 14 rfl (by kernel_rfl) (by kernel_rfl) (by kernel_rfl) rfl (fun _ _ _ h => h) rfl rfl rfl (ev_ix rfl Try.underlying22 ty44 rfl rfl (by omega) (by omega) (fun _ _ => rfl)) (SR.one (j := 15) (by kernel_rfl) rfl (st_setwin (E := eVis) (m := (X.set (x).toNat (gt X y))) (i := y) (off := off) (vs := [.int .i64 ((gt X x).kind), .int .i64 ((gt X x).item)]) (gt X x) rfl rfl rfl ty44 rfl rfl rfl .h rfl (by assumption) (by (try simp only [List.length_nil, List.length_cons, List.length_append, List.length_set, List.length_singleton, List.length_take, List.length_drop, List.length_reverse]) <;> omega) (by (try simp only [List.length_nil, List.length_cons, List.length_append, List.length_set, List.length_singleton, List.length_take, List.length_drop, List.length_reverse]) <;> omega) rfl ⟨tt0, ?_⟩)))⟩)))⟩))⟩
      refine SR.fin (by kernel_rfl) hl_2 hx_2 hR_2 (.c .n) (SQ.go (fun _ _ h => h) (.region (.cons (Ev.step (ev_mv rfl rfl) rfl rfl rfl (.cons (Ev.step (ev_add rfl rfl rfl (r := (x + 1)) rfl (by omega) (by omega)) rfl rfl rfl (.cons (Ev.step (ev_mv rfl rfl) rfl rfl rfl ?_))))))))
      exact .cons (Ev.step (ev_sub rfl rfl rfl (r := (y - 1)) rfl (by omega) (by omega)) rfl rfl rfl (.cons (Ev.step (ev_as rfl rfl) rfl rfl rfl (.cons (Ev.step (ev_as rfl rfl) rfl rfl rfl (SP.nil (SQ.round (X := Int × Int × (List Vis)) (x := (x, y, X)) ⟨(x + 1), (y - 1), ((X.set (x).toNat (gt X y)).set (y).toNat (gt X x))⟩ (by exact ⟨by omega, by omega, by omega, by omega, revI_next q_4 (by omega) (by omega) (by omega), by simp only [List.length_set]; omega⟩) (by dsimp only; omega) (Sub.get (.c rfl (.c rfl (.c rfl .n)))) (fun w hw => hw.keep (.c .h .n)))))))))
    ·
      refine Ev.step (ev_lda rfl rfl (win_el (E := eVis) (m := X) (i := x) (off := off) 0 rfl (by assumption) (by omega) (by (try simp only [List.length_nil, List.length_cons, List.length_append, List.length_set, List.length_singleton, List.length_take, List.length_drop, List.length_reverse]) <;> omega)) ty44) rfl rfl rfl ⟨tt0, (SR.one (j := 7) (by kernel_rfl) rfl (Ev.step (ev_lda rfl rfl (win_el (E := eVis) (m := X) (i := y) (off := off) 0 rfl (by assumption) (by omega) (by (try simp only [List.length_nil, List.length_cons, List.length_append, List.length_set, List.length_singleton, List.length_take, List.length_drop, List.length_reverse]) <;> omega)) ty44) rfl rfl rfl ⟨tt0, (SR.take 12 rfl (by kernel_rfl) (by kernel_rfl) (by kernel_rfl) rfl (fun _ _ _ h => h) rfl rfl rfl (ev_ix rfl Try.underlying22 ty44 rfl rfl (by omega) (by omega) (fun _ _ => rfl)) (SR.one (j := 13) (by kernel_rfl) rfl (st_setwin (E := eVis) (m := X) (i := x) (off := off) (vs := [.int .i64 ((gt X y).kind), .int .i64 ((gt X y).item)]) (gt X y) rfl rfl rfl ty44 rfl rfl rfl .h rfl (by assumption) (by (try simp only [List.length_nil, List.length_cons, List.length_append, List.length_set, List.length_singleton, List.length_take, List.length_drop, List.length_reverse]) <;> omega) (by (try simp only [List.length_nil, List.length_cons, List.length_append, List.length_set, List.length_singleton, List.length_take, List.length_drop, List.length_reverse]) <;> omega) rfl ⟨tt0, (SR.take 14 rfl (by kernel_rfl) (by kernel_rfl) (by kernel_rfl) rfl (fun _ _ _ h => h) rfl rfl rfl (ev_ix rfl Try.underlying22 ty44 rfl rfl (by omega) (by omega) (fun _ _ => rfl)) (SR.one (j := 15) (by kernel_rfl) rfl (st_setwin (E := eVis) (m := (X.set (x).toNat (gt X y))) (i := y) (off := off) (vs := [.int .i64 ((gt X x).kind), .int .i64 ((gt X x).item)]) (gt X x) rfl rfl rfl ty44 rfl rfl rfl .h rfl (by assumption) (by (try simp only [List.length_nil, List.length_cons, List.length_append, List.length_set, List.length_singleton, List.length_take, List.length_drop, List.length_reverse]) <;> omega) (by (try simp only [List.length_nil, List.length_cons, List.length_append, List.length_set, List.length_singleton, List.length_take, List.length_drop, List.length_reverse]) <;> omega) rfl ⟨tt0, ?_⟩)))⟩)))⟩))⟩
      refine SR.fin (by kernel_rfl) hl_2 hx_2 hR_2 (.c .n) (SQ.go (fun _ _ h => h) (.region (.cons (Ev.step (ev_mv rfl rfl) rfl rfl rfl (.cons (Ev.step (ev_add rfl rfl rfl (r := (x + 1)) rfl (by omega) (by omega)) rfl rfl rfl (.cons (Ev.step (ev_mv rfl rfl) rfl rfl rfl ?_))))))))
      exact .cons (Ev.step (ev_sub rfl rfl rfl (r := (y - 1)) rfl (by omega) (by omega)) rfl rfl rfl (.cons (Ev.step (ev_as rfl rfl) rfl rfl rfl (.cons (Ev.step (ev_as rfl rfl) rfl rfl rfl (SP.nil (SQ.round (X := Int × Int × (List Vis)) (x := (x, y, X)) ⟨(x + 1), (y - 1), ((X.set (x).toNat (gt X y)).set (y).toNat (gt X x))⟩ (by exact ⟨by omega, by omega, by omega, by omega, revI_next q_4 (by omega) (by omega) (by omega), by simp only [List.length_set]; omega⟩) (by dsimp only; omega) (Sub.get (.c rfl (.c rfl (.c rfl .n)))) (fun w hw => hw.keep (.c .h .n)))))))))
  ·
    exact .exitq (fun _ _ h => h) (end0 Try.results46 (.c .h .n) ⟨rfl, (by rw [revI_end q_4 (by omega) (by omega)])⟩)

theorem reverse_nil (S : Nat → Prop) (wf : World) :
    TR0 Try.prog 46 [.slice none 0 0] [] S wf (fun v_ C_ => v_ = .tuple #[] ∧ C_ = []) := by
  refine TR.mk Try.func46 rfl Try.ntmps46 rfl rfl (fun w_ => ?_)
  refine .seq (.region (.cons (Ev.step (ev_mv rfl rfl) rfl rfl rfl (.cons (Ev.step (ev_len rfl Try.underlying22 rfl) rfl rfl rfl (.cons (Ev.step (ev_sub rfl rfl rfl (r := (-1)) rfl (by omega) (by omega)) rfl rfl rfl (.cons (Ev.step (ev_as rfl rfl) rfl rfl rfl ?_)))))))))
  refine .cons (Ev.step (ev_as rfl rfl) rfl rfl rfl (.go (fun _ _ h => h) (.block ?_)))
  refine .loop (X := Int) (fun x => x = 0) (fun x => [(0, .slice none 0 0), (2, .int .i64 0), (3, .int .i64 (-1))]) (fun x => []) (fun _ => S) (fun _ => wf) (fun x => 0) (fun a_ w_ hs_ hw_ => ⟨0, rfl, hs_.mono (Sub.get (.c rfl (.c rfl (.c rfl .n)))), hw_.keep .n⟩) (fun x hk1 => ?_)
  show SC _ _ _ _ _ ⟨[(0, .slice none 0 0), (2, .int .i64 0), (3, .int .i64 (-1))], [], S, wf⟩
  refine .seq (.seq (.region (.cons (Ev.step (ev_mv rfl rfl) rfl rfl rfl (.cons (Ev.step (ev_mv rfl rfl) rfl rfl rfl (.cons (Ev.step (ev_cmp (r := false) rfl rfl rfl rfl) rfl rfl rfl ?_))))))))
  exact .go (fun _ _ h => h) (.cond_f rfl (.exitq (fun _ _ h => h) (end0 Try.results46 .n ⟨rfl, rfl⟩)))

theorem insert_ (v : Value) (l : List Vis) (i : Int) (w : Value) (m : List Vis) (S : Nat → Prop) (wf : World) (h0 : 0 ≤ i) (h2 : i ≤ l.length) (h3 : 0 < m.length) (hl : l.length ≤ 2000000) (hm : m.length ≤ 2000000) :
    TR0 Try.prog 36 [v, .int .i64 i, w] [rw_ eVis 44 (v) l, rw_ eVis 44 (w) m] S wf (fun v_ C_ => ∃ (u : Value), v_ = u ∧ C_ = [rw_ eVis 44 (u) (l.take i.toNat ++ m ++ l.drop i.toNat), rw_ eVis 44 (w) m]) := by
  refine TR.mk Try.func36 rfl Try.ntmps36 rfl rfl (fun w_ => ?_)
  refine .seq (.region (.cons (Ev.step (ev_as rfl rfl) rfl rfl rfl (.go (fun _ _ h => h) (.seq (.region ?_))))))
  refine .cons (Ev.step (ev_mv rfl rfl) rfl rfl rfl (.cons (Ev.step (ev_mv rfl rfl) rfl rfl rfl ?_)))
  refine .know (row_len 0 rfl) (fun hv3 => ?_)
  obtain ⟨A1, c2, rfl, hv3_1, hv3_2⟩ := hv3
  unfold maxLen at hv3_2
  refine .cons (Ev.step (ev_slc rfl Try.underlying22 ty44 rfl (.s rfl (by omega)) .n (by omega) (by omega)) rfl rfl rfl (.go (fun _ _ h => h) (.seq (.region (.cons (Ev.step (ev_mv rfl rfl) rfl rfl rfl ?_))))))
  refine .know (row_len 1 rfl) (fun hv6 => ?_)
  obtain ⟨A4, c5, rfl, hv6_1, hv6_2⟩ := hv6
  unfold maxLen at hv6_2
  refine .cons (Ev.step (ev_len rfl Try.underlying22 rfl) rfl rfl rfl (.cons (Ev.step (ev_as rfl rfl) rfl rfl rfl (.go (fun _ _ h => h) (.seq (.seq (.region ?_)))))))
  refine .cons (Ev.step (ev_mv rfl rfl) rfl rfl rfl (.cons (Ev.step (ev_cmp rfl rfl rfl rfl) rfl rfl rfl (.go (fun _ _ h => h) (.condI rfl bE (fun h7 => ?_) (fun h7 => ?_))))))
  ·
    exfalso; omega
  ·
    refine .skipgo (fun _ _ h => h) (.seq (.region (.cons (Ev.step (ev_mv rfl rfl) rfl rfl rfl (.cons (Ev.step (ev_len rfl Try.underlying22 rfl) rfl rfl rfl (.cons (Ev.step (ev_as rfl rfl) rfl rfl rfl ?_))))))))
    refine .go (fun _ _ h => h) (.seq (.seq (.region (.cons (Ev.step (ev_mv rfl rfl) rfl rfl rfl (.cons (Ev.step (ev_mv rfl rfl) rfl rfl rfl ?_)))))))
    refine .cons (Ev.step (ev_cmp rfl rfl rfl rfl) rfl rfl rfl (.go (fun _ _ h => h) (.condI rfl bE (fun h8 => ?_) (fun h8 => ?_))))
    ·
      refine .seq (.region (.cons (Ev.step (ev_mv rfl rfl) rfl rfl rfl (.cons (Ev.step (ev_mv rfl rfl) rfl rfl rfl (.cons (st_app (E := eVis) (m := m) rfl rfl rfl rfl Try.underlying22 ai44 rfl rfl rfl .h (by first | rfl | omega | simp) (row_src 1 rfl) (by (try simp only [List.length_nil, List.length_cons, List.length_append, List.length_set, List.length_singleton, List.length_take, List.length_drop, List.length_reverse]) <;> omega) rfl (fun v9 => .cons (Ev.step (ev_as rfl rfl) rfl rfl rfl ?_)))))))))
      exact .go (fun _ _ h => h) (.ret (fun _ _ h => h) (ret1 Try.results36 rfl (.c .h (.c .h .n)) ⟨v9, rfl, (by rw [ins_end (l := l) (v := m) (i := i.toNat) (by omega)])⟩))
    ·
      refine .skipgo (fun _ _ h => h) (.seq (.seq (.region (.cons (Ev.step (ev_mv rfl rfl) rfl rfl rfl (.cons (Ev.step (ev_mv rfl rfl) rfl rfl rfl ?_)))))))
      refine .cons (Ev.step (ev_add rfl rfl rfl (r := ((l.length : Int) + (m.length : Int))) rfl (by omega) (by omega)) rfl rfl rfl (.cons (Ev.step (ev_mv rfl rfl) rfl rfl rfl (.cons (Ev.step (ev_cap rfl Try.underlying22 rfl) rfl rfl rfl (.cons (Ev.step (ev_cmp rfl rfl rfl rfl) rfl rfl rfl (.go (fun _ _ h => h) (.condI rfl bD (fun h10 => ?_) (fun h10 => ?_))))))))))
      ·
        refine .seq ?_
        refine .know (row_form 1 rfl (by omega)) (fun hv13 => ?_)
        obtain ⟨g11, c12, hv13, hv13_1, hv13_2⟩ := hv13
        injection hv13 with eA _ _; subst eA
        refine SC.open (A := A1) .h (fun _ _ _ e4 => ?_) (fun g14 sp_T15 eA en_T15 ec_T15 em_T15 el_T15 => ?_)
        ·
          exfalso; have e5 := congrArg List.length e4; simp only [List.length_nil] at e5; omega
        subst eA
        have el_T15 : sp_T15.length + l.length * 2 = c2 * 2 := el_T15
        unfold maxLen at em_T15
        obtain ⟨T15, hT15⟩ : ∃ T15, T15 = flat eVis l ++ sp_T15 := ⟨_, rfl⟩
        have hT15l : T15.length = c2 * 2 := by rw [hT15, List.length_append, fl_eVis]; omega
        refine SC.recel .h hT15.symm ?_
        have hT15p : T15.take (l.length * eVis.sz) = flat eVis l := pre_flat hT15
        refine .region (.cons (Ev.step (ev_mv rfl rfl) rfl rfl rfl (.cons (Ev.step (ev_mv rfl rfl) rfl rfl rfl (.cons (Ev.step (ev_slc0 rfl Try.underlying22 ty44 rfl (.s rfl (by omega)) (by omega)) rfl rfl rfl (.cons (Ev.step (ev_mv rfl rfl) rfl rfl rfl (.cons (Ev.step (ev_mv rfl rfl) rfl rfl rfl ?_))))))))))
        refine .cons (Ev.step (ev_add rfl rfl rfl (r := ((l.length : Int) + (m.length : Int))) rfl (by omega) (by omega)) rfl rfl rfl (.cons (Ev.step (ev_mv rfl rfl) rfl rfl rfl (.cons (Ev.step (ev_sub rfl rfl rfl (r := (((l.length : Int) + (m.length : Int)) - i)) rfl (by omega) (by omega)) rfl rfl rfl (.cons (st_growz (k := ((((l.length : Int) + (m.length : Int)) - i)).toNat) (i := 0) (n := ((i).toNat)) (c := c2) rfl rfl rfl rfl Try.underlying22 Try.underlying3 ai44 rfl rfl rfl rfl rfl (by omega) (by omega) (by omega) (by omega) rfl (by rw [hT15l]; omega) (fun g16 c17 sp18 hT19_1 hT19_2 hT19_3 => ?_))))))))
        unfold maxLen at hT19_2
        obtain ⟨T19, hT19⟩ : ∃ T19, T19 = T15.take (((i).toNat) * 2) ++ sp18 := ⟨_, rfl⟩
        have hT19l : T19.length = c17 * 2 := by rw [hT19]; exact hT19_3
        refine SP.recel .h hT19.symm ?_
        refine .cons (Ev.step (ev_as rfl rfl) rfl rfl rfl (.go (fun _ _ h => h) (.seq (.region (.cons (Ev.step (ev_mv rfl rfl) rfl rfl rfl (.cons (Ev.step (ev_mv rfl rfl) rfl rfl rfl ?_))))))))
        refine .cons (Ev.step (ev_slcs rfl Try.underlying22 ty44 rfl (.s rfl (by omega)) .n (by omega) (by omega)) rfl rfl rfl (.cons (Ev.step (ev_mv rfl rfl) rfl rfl rfl (.cons (st_copyp (off := 0) (p := ((i).toNat) * 2) (nd := ((((i).toNat) + ((((l.length : Int) + (m.length : Int)) - i)).toNat) - (i).toNat)) (ns := m.length) (c0 := c17) (l0 := ((i).toNat)) (flat eVis m) rfl rfl rfl rfl Try.underlying22 ty44 rfl rfl (by omega) rfl (Nat.min_eq_left (by omega)) (by rw [fl_eVis] <;> (try simp only [List.length_drop, List.length_take]) <;> omega) (all_flat _ _) (row_src 2 rfl) .h (by omega) (by rw [fl_eVis, hT19l] <;> (try simp only [List.length_drop, List.length_take]) <;> omega) ?_)))))
        obtain ⟨T20, hT20⟩ : ∃ T20, T20 = put T19 (((i).toNat) * 2) (flat eVis m) := ⟨_, rfl⟩
        have hT20l : T20.length = T19.length := by rw [hT20]; exact put_length (by rw [fl_eVis, hT19l] <;> (try simp only [List.length_drop, List.length_take]) <;> omega)
        rw [hT19l] at hT20l
        refine SP.recel .h hT20.symm ?_
        refine .go (fun _ _ h => h) (.seq ?_)
        refine SC.draw mo [cel g16 T20 44, cel g14 T15 44] [] (.c .h (.c .h .n)) (fun _ _ _ c hc => by cases hc) (fun wf_21 hl_21 hx_21 hR_21 => ?_)
        refine SR.take 0 rfl (by kernel_rfl) (by kernel_rfl) (by kernel_rfl) rfl (fun _ _ _ h => h) rfl rfl rfl (ev_mv rfl rfl) (SR.take 1 rfl (by kernel_rfl) (by kernel_rfl) (by kernel_rfl) rfl (fun _ _ _ h => h) rfl rfl rfl (ev_mv rfl rfl) (SR.take 2 rfl (by kernel_rfl) (by kernel_rfl) (by kernel_rfl) rfl (fun _ _ _ h => h) rfl rfl rfl (ev_mv rfl rfl) (SR.take 3 rfl (by kernel_rfl) (by kernel_rfl) (by kernel_rfl) rfl (fun _ _ _ h => h) rfl rfl rfl (ev_add rfl rfl rfl (r := (i + (m.length : Int))) rfl (by omega) (by omega)) (SR.take 4 rfl (by kernel_rfl) (by kernel_rfl) (by kernel_rfl) rfl (fun _ _ _ h => h) rfl rfl rfl (ev_slcs rfl Try.underlying22 ty44 rfl (.s rfl (by omega)) .n (by omega) (by omega)) (SR.take 5 rfl (by kernel_rfl) (by kernel_rfl) (by kernel_rfl) rfl (fun _ _ _ h => h) rfl rfl rfl (ev_mv rfl rfl) ?_)))))
        refine SR.take 6 rfl (by kernel_rfl) (by kernel_rfl) (by kernel_rfl) rfl (fun _ _ _ h => h) rfl rfl rfl (ev_mv rfl rfl) (SR.take 7 rfl (by kernel_rfl) (by kernel_rfl) (by kernel_rfl) rfl (fun _ _ _ h => h) rfl rfl rfl (ev_slcs rfl Try.underlying22 ty44 rfl (.s rfl (by omega)) .n (by omega) (by omega)) (SR.one (j := 8) (by kernel_rfl) rfl (st_copyp (off := 0) (p := (((i + (m.length : Int))).toNat) * 2) (nd := ((((i).toNat) + ((((l.length : Int) + (m.length : Int)) - i)).toNat) - ((i + (m.length : Int))).toNat)) (ns := (l.length - (i).toNat)) (c0 := c17) (l0 := (((i + (m.length : Int))).toNat)) (flat eVis (l.drop i.toNat)) rfl rfl rfl rfl Try.underlying22 ty44 rfl rfl (by omega) rfl (Nat.min_eq_left (by omega)) (by rw [fl_eVis] <;> (try simp only [List.length_drop, List.length_take]) <;> omega) (all_flat _ _) (src_blk (off := 0) (c := c2) (l := ((i).toNat)) (sz := 2) 1 rfl (cut_flat (i := ((i).toNat)) (p := 0 + ((i).toNat) * 2) hT15p (by show _ * 2 = _; omega) (by omega)) (cut_ok (i := ((i).toNat)) (c := c2) (by omega))) .h (by omega) (by rw [fl_eVis, hT20l] <;> (try simp only [List.length_drop, List.length_take]) <;> omega) ⟨tt0, ?_⟩)))
        obtain ⟨T22, hT22⟩ : ∃ T22, T22 = put T20 ((((i + (m.length : Int))).toNat) * 2) (flat eVis (l.drop i.toNat)) := ⟨_, rfl⟩
        have hT22l : T22.length = T20.length := by rw [hT22]; exact put_length (by rw [fl_eVis, hT20l] <;> (try simp only [List.length_drop, List.length_take]) <;> omega)
        rw [hT20l] at hT22l
        refine SR.recel .h hT22.symm ?_
        refine SR.fin (by kernel_rfl) hl_21 hx_21 hR_21 (.c (.c .n)) (SQ.go (fun _ _ h => h) (.seq (.region (.cons (Ev.step (ev_mv rfl rfl) rfl rfl rfl (.cons (Ev.step (ev_as rfl rfl) rfl rfl rfl ?_)))))))
        refine .go (fun _ _ h => h) ?_
        refine SC.close' (E := eVis) (n := ((i).toNat) + ((((l.length : Int) + (m.length : Int)) - i)).toNat) ((l.take i.toNat ++ m ++ l.drop i.toNat)) .h (mid_rest (E := eVis) (grown_head (p := i.toNat * eVis.sz) hT19 (by rw [hT15l]; show _ * 2 ≤ _; omega) (head_flat (i := i.toNat) (p := i.toNat * eVis.sz) hT15p rfl (by omega))) (by rw [hT19l]; show _ * 2 ≤ _; omega) (put_at hT20 (by show _ * 2 = _ * 2; omega)) (put_at hT22 (by show _ * 2 = _ * 2; omega)) (by omega)) (by (try simp only [List.length_nil, List.length_append, List.length_take, List.length_drop, List.length_reverse]) <;> omega) (by omega) (by show _ ≤ 9223372036854775807; omega) hT22l ?_
        exact .ret (fun _ _ h => h) (ret1 Try.results36 rfl (.c .h (.c (.t .h) .n)) ⟨.slice (some ⟨g16, 0, none⟩) (((i).toNat) + ((((l.length : Int) + (m.length : Int)) - i)).toNat) c17, rfl, rfl⟩)
      ·
        refine .skipgo (fun _ _ h => h) (.seq ?_)
        refine .know (row_form 1 rfl (by omega)) (fun hv25 => ?_)
        obtain ⟨g23, c24, hv25, hv25_1, hv25_2⟩ := hv25
        injection hv25 with eA _ _; subst eA
        refine SC.open (A := A1) .h (fun _ _ _ e4 => ?_) (fun g26 sp_T27 eA en_T27 ec_T27 em_T27 el_T27 => ?_)
        ·
          exfalso; have e5 := congrArg List.length e4; simp only [List.length_nil] at e5; omega
        subst eA
        have el_T27 : sp_T27.length + l.length * 2 = c2 * 2 := el_T27
        unfold maxLen at em_T27
        obtain ⟨T27, hT27⟩ : ∃ T27, T27 = flat eVis l ++ sp_T27 := ⟨_, rfl⟩
        have hT27l : T27.length = c2 * 2 := by rw [hT27, List.length_append, fl_eVis]; omega
        refine SC.recel .h hT27.symm ?_
        have hT27p : T27.take (l.length * eVis.sz) = flat eVis l := pre_flat hT27
        refine .region (.cons (Ev.step (ev_mv rfl rfl) rfl rfl rfl (.cons (Ev.step (ev_mv rfl rfl) rfl rfl rfl (.cons (Ev.step (ev_mv rfl rfl) rfl rfl rfl (.cons (Ev.step (ev_add rfl rfl rfl (r := ((l.length : Int) + (m.length : Int))) rfl (by omega) (by omega)) rfl rfl rfl (.cons (Ev.step (ev_slc0 rfl Try.underlying22 ty44 rfl (.s rfl (by omega)) (by omega)) rfl rfl rfl ?_))))))))))
        refine .cons (Ev.step (ev_as rfl rfl) rfl rfl rfl (.go (fun _ _ h => h) (.seq (.seq (.region (.cons (Ev.step (ev_mv rfl rfl) rfl rfl rfl ?_)))))))
        refine .cons (Ev.step (ev_mv rfl rfl) rfl rfl rfl (.cons (Ev.step (ev_mv rfl rfl) rfl rfl rfl (.cons (Ev.step (ev_mv rfl rfl) rfl rfl rfl (.cons (Ev.step (ev_add rfl rfl rfl (r := (i + (m.length : Int))) rfl (by omega) (by omega)) rfl rfl rfl (.cons (Ev.step (ev_slcs rfl Try.underlying22 ty44 rfl (.s rfl (by omega)) .n (by omega) (by omega)) rfl rfl rfl (.cons (Ev.step (ev_apart (e := 44) rfl ovl44 Try.underlying22 ty44 rfl rfl (apart_row (.t .h) .h (by rw [hT27l]; omega))) rfl rfl rfl ?_)))))))))))
        refine .cons (Ev.step (ev_not rfl rfl) rfl rfl rfl (.go (fun _ _ h => h) (.cond_t rfl (.seq ?_))))
        refine SC.draw mo [cel g26 T27 44] [] (.c .h .n) (fun _ _ _ c hc => by cases hc) (fun wf_28 hl_28 hx_28 hR_28 => ?_)
        refine SR.take 0 rfl (by kernel_rfl) (by kernel_rfl) (by kernel_rfl) rfl (fun _ _ _ h => h) rfl rfl rfl (ev_mv rfl rfl) (SR.take 1 rfl (by kernel_rfl) (by kernel_rfl) (by kernel_rfl) rfl (fun _ _ _ h => h) rfl rfl rfl (ev_mv rfl rfl) (SR.take 2 rfl (by kernel_rfl) (by kernel_rfl) (by kernel_rfl) rfl (fun _ _ _ h => h) rfl rfl rfl (ev_mv rfl rfl) (SR.take 3 rfl (by kernel_rfl) (by kernel_rfl) (by kernel_rfl) rfl (fun _ _ _ h => h) rfl rfl rfl (ev_add rfl rfl rfl (r := (i + (m.length : Int))) rfl (by omega) (by omega)) (SR.take 4 rfl (by kernel_rfl) (by kernel_rfl) (by kernel_rfl) rfl (fun _ _ _ h => h) rfl rfl rfl (ev_slcs rfl Try.underlying22 ty44 rfl (.s rfl (by omega)) .n (by omega) (by omega)) (SR.take 5 rfl (by kernel_rfl) (by kernel_rfl) (by kernel_rfl) rfl (fun _ _ _ h => h) rfl rfl rfl (ev_mv rfl rfl) ?_)))))
        refine SR.take 6 rfl (by kernel_rfl) (by kernel_rfl) (by kernel_rfl) rfl (fun _ _ _ h => h) rfl rfl rfl (ev_mv rfl rfl) (SR.take 7 rfl (by kernel_rfl) (by kernel_rfl) (by kernel_rfl) rfl (fun _ _ _ h => h) rfl rfl rfl (ev_slcs rfl Try.underlying22 ty44 rfl (.s rfl (by omega)) .n (by omega) (by omega)) (SR.one (j := 8) (by kernel_rfl) rfl (st_copyp (off := 0) (p := (((i + (m.length : Int))).toNat) * 2) (nd := (((((l.length : Int) + (m.length : Int))).toNat) - ((i + (m.length : Int))).toNat)) (ns := (((((l.length : Int) + (m.length : Int))).toNat) - (i).toNat)) (c0 := c2) (l0 := (((i + (m.length : Int))).toNat)) (flat eVis (l.drop i.toNat)) rfl rfl rfl rfl Try.underlying22 ty44 rfl rfl (by omega) rfl (Nat.min_eq_right (by omega)) (by rw [fl_eVis] <;> (try simp only [List.length_drop, List.length_take]) <;> omega) (all_flat _ _) (src_blk (off := 0) (c := c2) (l := ((i).toNat)) (sz := 2) 0 rfl (cut_flat (i := ((i).toNat)) (p := 0 + ((i).toNat) * 2) hT27p (by show _ * 2 = _; omega) (by omega)) (cut_ok (i := ((i).toNat)) (c := c2) (by omega))) .h (by omega) (by rw [fl_eVis, hT27l] <;> (try simp only [List.length_drop, List.length_take]) <;> omega) ⟨tt0, ?_⟩)))
        obtain ⟨T29, hT29⟩ : ∃ T29, T29 = put T27 ((((i + (m.length : Int))).toNat) * 2) (flat eVis (l.drop i.toNat)) := ⟨_, rfl⟩
        have hT29l : T29.length = T27.length := by rw [hT29]; exact put_length (by rw [fl_eVis, hT27l] <;> (try simp only [List.length_drop, List.length_take]) <;> omega)
        rw [hT27l] at hT29l
        refine SR.recel .h hT29.symm ?_
        refine SR.fin (by kernel_rfl) hl_28 hx_28 hR_28 (.c .n) (SQ.go (fun _ _ h => h) (.seq (.region (.cons (Ev.step (ev_mv rfl rfl) rfl rfl rfl (.cons (Ev.step (ev_mv rfl rfl) rfl rfl rfl ?_)))))))
        refine .cons (Ev.step (ev_slcs rfl Try.underlying22 ty44 rfl (.s rfl (by omega)) .n (by omega) (by omega)) rfl rfl rfl (.cons (Ev.step (ev_mv rfl rfl) rfl rfl rfl (.cons (st_copyp (off := 0) (p := ((i).toNat) * 2) (nd := (((((l.length : Int) + (m.length : Int))).toNat) - (i).toNat)) (ns := m.length) (c0 := c2) (l0 := ((i).toNat)) (flat eVis m) rfl rfl rfl rfl Try.underlying22 ty44 rfl rfl (by omega) rfl (Nat.min_eq_left (by omega)) (by rw [fl_eVis] <;> (try simp only [List.length_drop, List.length_take]) <;> omega) (all_flat _ _) (row_src 1 rfl) .h (by omega) (by rw [fl_eVis, hT29l] <;> (try simp only [List.length_drop, List.length_take]) <;> omega) ?_)))))
        obtain ⟨T30, hT30⟩ : ∃ T30, T30 = put T29 (((i).toNat) * 2) (flat eVis m) := ⟨_, rfl⟩
        have hT30l : T30.length = T29.length := by rw [hT30]; exact put_length (by rw [fl_eVis, hT29l] <;> (try simp only [List.length_drop, List.length_take]) <;> omega)
        rw [hT29l] at hT30l
        refine SP.recel .h hT30.symm ?_
        refine .go (fun _ _ h => h) (.seq (.region (.cons (Ev.step (ev_mv rfl rfl) rfl rfl rfl (.cons (Ev.step (ev_as rfl rfl) rfl rfl rfl (.go (fun _ _ h => h) ?_)))))))
        refine SC.close' (E := eVis) (n := (((l.length : Int) + (m.length : Int))).toNat) ((l.take i.toNat ++ m ++ l.drop i.toNat)) .h (rest_mid (E := eVis) (head_flat (i := i.toNat) (p := i.toNat * eVis.sz) hT27p rfl (by omega)) (by rw [hT27l]; show _ * 2 ≤ _; omega) (put_at hT29 (by show _ * 2 = _ * 2; omega)) (put_at hT30 (by show _ * 2 = _ * 2; omega)) (by omega)) (by (try simp only [List.length_nil, List.length_append, List.length_take, List.length_drop, List.length_reverse]) <;> omega) (by omega) (by show _ ≤ 9223372036854775807; omega) hT30l ?_
        exact .ret (fun _ _ h => h) (ret1 Try.results36 rfl (.c .h (.c .h .n)) ⟨.slice (some ⟨g26, 0, none⟩) ((((l.length : Int) + (m.length : Int))).toNat) c2, rfl, rfl⟩)

theorem grow_nil (z : Int) (S : Nat → Prop) (wf : World) (h0 : 0 ≤ z) (h1 : z ≤ 4000000) :
    TR0 Try.prog 40 [.slice none 0 0, .int .i64 z] [] S wf (fun v_ C_ => ∃ (u : Value), v_ = u ∧ C_ = [rw_ eVis 44 (u) ([] : List Vis)]) := by
  refine TR.mk Try.func40 rfl Try.ntmps40 rfl rfl (fun w_ => ?_)
  refine .seq (.region (.cons (Ev.step (ev_as rfl rfl) rfl rfl rfl (.go (fun _ _ h => h) (.seq (.seq ?_))))))
  refine .region (.cons (Ev.step (ev_mv rfl rfl) rfl rfl rfl (.cons (Ev.step (ev_cmp rfl rfl rfl rfl) rfl rfl rfl (.go (fun _ _ h => h) (.condI rfl bD (fun h1 => ?_) (fun h1 => ?_)))))))
  ·
    exfalso; omega
  ·
    refine .skipgo (fun _ _ h => h) (.seq (.seq (.region (.cons (Ev.step (ev_mv rfl rfl) rfl rfl rfl (.cons (Ev.step (ev_mv rfl rfl) rfl rfl rfl ?_)))))))
    refine .cons (Ev.step (ev_cap rfl Try.underlying22 rfl) rfl rfl rfl (.cons (Ev.step (ev_mv rfl rfl) rfl rfl rfl (.cons (Ev.step (ev_len rfl Try.underlying22 rfl) rfl rfl rfl (.cons (Ev.step (ev_sub rfl rfl rfl (r := 0) rfl (by omega) (by omega)) rfl rfl rfl (.cons (Ev.step (ev_sub rfl rfl rfl (r := (z - 0)) rfl (by omega) (by omega)) rfl rfl rfl (.cons (Ev.step (ev_as rfl rfl) rfl rfl rfl ?_)))))))))))
    refine .go (fun _ _ h => h) (.seq (.region (.cons (Ev.step (ev_mv rfl rfl) rfl rfl rfl (.cons (Ev.step (ev_cmp rfl rfl rfl rfl) rfl rfl rfl (.go (fun _ _ h => h) ?_)))))))
    refine .condI rfl bD (fun h2 => ?_) (fun h2 => ?_)
    ·
      refine .region (.cons (Ev.step (ev_mv rfl rfl) rfl rfl rfl (.cons (Ev.step (ev_mv rfl rfl) rfl rfl rfl (.cons (Ev.step (ev_cap rfl Try.underlying22 rfl) rfl rfl rfl (.cons (Ev.step (ev_slc rfl Try.underlying22 ty44 rfl .n (.s rfl (by omega)) (by omega) (by omega)) rfl rfl rfl (.cons (Ev.step (ev_mv rfl rfl) rfl rfl rfl ?_))))))))))
      refine .cons (st_nilz (k := ((z - 0)).toNat) rfl rfl rfl rfl Try.underlying22 Try.underlying3 ai44 rfl rfl rfl rfl rfl (by omega) (by omega) (by omega) (fun g3 c4 T5 hT5_1 hT5_2 hT5l => ?_))
      unfold maxLen at hT5_2
      refine .cons (Ev.step (ev_mv rfl rfl) rfl rfl rfl (.cons (Ev.step (ev_len rfl Try.underlying22 rfl) rfl rfl rfl (.cons (Ev.step (ev_slc0 rfl Try.underlying22 ty44 rfl (.s rfl (by omega)) (by omega)) rfl rfl rfl (.cons (Ev.step (ev_as rfl rfl) rfl rfl rfl (.go (fun _ _ h => h) (.seq ?_)))))))))
      refine .region (.cons (Ev.step (ev_mv rfl rfl) rfl rfl rfl (.cons (Ev.step (ev_as rfl rfl) rfl rfl rfl (.go (fun _ _ h => h) ?_)))))
      refine SC.close' (E := eVis) (n := 0) (([] : List Vis)) .h ((by simp [flat])) (by (try simp only [List.length_nil, List.length_append, List.length_take, List.length_drop, List.length_reverse]) <;> omega) (by omega) (by show _ ≤ 9223372036854775807; omega) hT5l ?_
      exact .ret (fun _ _ h => h) (ret1 Try.results40 rfl (.c .h .n) ⟨.slice (some ⟨g3, 0, none⟩) 0 c4, rfl, rfl⟩)
    ·
      refine .skipgo (fun _ _ h => h) (.seq (.region (.cons (Ev.step (ev_mv rfl rfl) rfl rfl rfl (.cons (Ev.step (ev_as rfl rfl) rfl rfl rfl (.go (fun _ _ h => h) ?_)))))))
      refine SC.nilrow eVis 44 ?_
      exact .ret (fun _ _ h => h) (ret1 Try.results40 rfl (.c .h .n) ⟨.slice none 0 0, rfl, rfl⟩)

theorem concat_ (s : Nat) (A : Option Addr) (n : Nat) (c : Nat) (B : Option Addr) (m : Nat) (d : Nat) (a : List Vis) (b : List Vis) (S : Nat → Prop) (wf : World) (hA : Fr eVis S wf A a) (hB : Fr eVis S wf B b) (hn : a.length = n) (hm : b.length = m) (ha : a.length ≤ 1000000) (hb : b.length ≤ 1000000) :
    TR0 Try.prog 32 [.slice (some ⟨s, 0, none⟩) 2 2] [rw_ eV 22 (.slice (some ⟨s, 0, none⟩) 2 2) [⟨.slice A n c, rfl⟩, ⟨.slice B m d, rfl⟩]] S wf (fun v_ C_ => ∃ (u : Value), v_ = u ∧ C_ = [rw_ eV 22 (.slice (some ⟨s, 0, none⟩) 2 2) [⟨.slice A n c, rfl⟩, ⟨.slice B m d, rfl⟩], rw_ eVis 44 (u) (a ++ b)]) := by
  refine TR.mk Try.func32 rfl Try.ntmps32 rfl rfl (fun w_ => ?_)
  refine .seq (.region (.cons (Ev.step (ev_as rfl rfl) rfl rfl rfl (.go (fun _ _ h => h) (.seq (.region ?_))))))
  refine .cons (Ev.step (ev_as rfl rfl) rfl rfl rfl (.go (fun _ _ h => h) (.seq (.seq (.region (.cons (Ev.step (ev_mv rfl rfl) rfl rfl rfl ?_)))))))
  refine .cons (Ev.step (ev_len rfl Try.underlying69 rfl) rfl rfl rfl (.cons (Ev.step (ev_mv rfl rfl) rfl rfl rfl (.go (fun _ _ h => h) (.block ?_)))))
  refine .loop (X := Int × Int) (fun ⟨x, z⟩ => 0 ≤ x ∧ x ≤ 2 ∧ ((x = 0 ∧ z = 0) ∨ (x = 1 ∧ z = n) ∨ (x = 2 ∧ z = n + m))) (fun ⟨x, z⟩ => [(0, .slice (some ⟨s, 0, none⟩) 2 2), (3, .int .i64 z), (9, .slice (some ⟨s, 0, none⟩) 2 2), (10, .int .i64 2), (11, .int .i64 x)]) (fun ⟨x, z⟩ => [rw_ eV 22 (.slice (some ⟨s, 0, none⟩) 2 2) [⟨.slice A n c, rfl⟩, ⟨.slice B m d, rfl⟩]]) (fun _ => S) (fun _ => wf) (fun ⟨x, z⟩ => (2 - x).toNat) (fun a_ w_ hs_ hw_ => ⟨⟨0, 0⟩, (by exact ⟨by omega, by omega, by omega⟩), hs_.mono (Sub.get (.c rfl (.c rfl (.c rfl (.c rfl (.c rfl .n)))))), hw_.keep (.c .h .n)⟩) (fun ⟨x, z⟩ ⟨hk1_0, hk1_1, hk1_2⟩ => ?_)
  show SC _ _ _ _ _ ⟨[(0, .slice (some ⟨s, 0, none⟩) 2 2), (3, .int .i64 z), (9, .slice (some ⟨s, 0, none⟩) 2 2), (10, .int .i64 2), (11, .int .i64 x)], [rw_ eV 22 (.slice (some ⟨s, 0, none⟩) 2 2) [⟨.slice A n c, rfl⟩, ⟨.slice B m d, rfl⟩]], S, wf⟩
  refine .seq (.region (.cons (Ev.step (ev_cmp rfl rfl rfl rfl) rfl rfl rfl (.go (fun _ _ h => h) (.seq (.condI rfl bD (fun h2 => ?_) (fun h2 => ?_)))))))
  ·
    refine .skipgo (fun _ _ h => h) (.seq (.block (.seq ?_)))
    obtain rfl | rfl : x = 0 ∨ x = 1 := by omega
    ·
      refine .region (.cons (Ev.step (ev_ix rfl Try.underlying69 ty22 rfl rfl (by omega) (by omega) (row_adr (i := 0) 0 rfl (by omega) (by (try simp only [List.length_nil, List.length_cons, List.length_append, List.length_set, List.length_singleton, List.length_take, List.length_drop, List.length_reverse]) <;> omega))) rfl rfl rfl (.cons (Ev.step (ev_ld1 rfl ty22 rfl (At.elem1 (v := .slice A n c) (row_el (E := eV) (l := [⟨.slice A n c, rfl⟩, ⟨.slice B m d, rfl⟩]) (i := 0) 0 rfl (by omega) (by (try simp only [List.length_nil, List.length_cons, List.length_append, List.length_set, List.length_singleton, List.length_take, List.length_drop, List.length_reverse]) <;> omega)) 0 rfl)) rfl rfl rfl (.cons (Ev.step (ev_as rfl rfl) rfl rfl rfl (.go (fun _ _ h => h) (.seq ?_))))))))
      refine .region (.cons (Ev.step (ev_mv rfl rfl) rfl rfl rfl (.cons (Ev.step (ev_mv rfl rfl) rfl rfl rfl (.cons (Ev.step (ev_len rfl Try.underlying22 rfl) rfl rfl rfl (.cons (Ev.step (ev_add rfl rfl rfl (r := (z + (n : Int))) rfl (by omega) (by omega)) rfl rfl rfl (.cons (Ev.step (ev_as rfl rfl) rfl rfl rfl ?_))))))))))
      refine .go (fun _ _ h => h) (.seq (.region (.cons (Ev.step (ev_mv rfl rfl) rfl rfl rfl (.cons (Ev.step (ev_cmp rfl rfl rfl rfl) rfl rfl rfl (.go (fun _ _ h => h) ?_)))))))
      refine .condI rfl bD (fun h3 => ?_) (fun h3 => ?_)
      ·
        exfalso; omega
      ·
        exact .skipgo (fun _ _ h => h) (.region (.cons (Ev.step (ev_add rfl rfl rfl (r := 1) rfl (by omega) (by omega)) rfl rfl rfl (.cons (Ev.step (ev_mv rfl rfl) rfl rfl rfl (SP.nil (SQ.round (X := Int × Int) (x := (0, z)) ⟨1, (z + (n : Int))⟩ (by exact ⟨by omega, by omega, by omega⟩) (by dsimp only; omega) (Sub.get (.c rfl (.c rfl (.c rfl (.c rfl (.c rfl .n)))))) (fun w hw => hw.keep (.c .h .n)))))))))
    ·
      refine .region (.cons (Ev.step (ev_ix rfl Try.underlying69 ty22 rfl rfl (by omega) (by omega) (row_adr (i := 1) 0 rfl (by omega) (by (try simp only [List.length_nil, List.length_cons, List.length_append, List.length_set, List.length_singleton, List.length_take, List.length_drop, List.length_reverse]) <;> omega))) rfl rfl rfl (.cons (Ev.step (ev_ld1 rfl ty22 rfl (At.elem1 (v := .slice B m d) (row_el (E := eV) (l := [⟨.slice A n c, rfl⟩, ⟨.slice B m d, rfl⟩]) (i := 1) 0 rfl (by omega) (by (try simp only [List.length_nil, List.length_cons, List.length_append, List.length_set, List.length_singleton, List.length_take, List.length_drop, List.length_reverse]) <;> omega)) 0 rfl)) rfl rfl rfl (.cons (Ev.step (ev_as rfl rfl) rfl rfl rfl (.go (fun _ _ h => h) (.seq ?_))))))))
      refine .region (.cons (Ev.step (ev_mv rfl rfl) rfl rfl rfl (.cons (Ev.step (ev_mv rfl rfl) rfl rfl rfl (.cons (Ev.step (ev_len rfl Try.underlying22 rfl) rfl rfl rfl (.cons (Ev.step (ev_add rfl rfl rfl (r := (z + (m : Int))) rfl (by omega) (by omega)) rfl rfl rfl (.cons (Ev.step (ev_as rfl rfl) rfl rfl rfl ?_))))))))))
      refine .go (fun _ _ h => h) (.seq (.region (.cons (Ev.step (ev_mv rfl rfl) rfl rfl rfl (.cons (Ev.step (ev_cmp rfl rfl rfl rfl) rfl rfl rfl (.go (fun _ _ h => h) ?_)))))))
      refine .condI rfl bD (fun h4 => ?_) (fun h4 => ?_)
      ·
        exfalso; omega
      ·
        exact .skipgo (fun _ _ h => h) (.region (.cons (Ev.step (ev_add rfl rfl rfl (r := 2) rfl (by omega) (by omega)) rfl rfl rfl (.cons (Ev.step (ev_mv rfl rfl) rfl rfl rfl (SP.nil (SQ.round (X := Int × Int) (x := (1, z)) ⟨2, (z + (m : Int))⟩ (by exact ⟨by omega, by omega, by omega⟩) (by dsimp only; omega) (Sub.get (.c rfl (.c rfl (.c rfl (.c rfl (.c rfl .n)))))) (fun w hw => hw.keep (.c .h .n)))))))))
  ·
    refine .exit (fun _ _ h => h) (.seq (.region (.cons (Ev.step (ev_mv rfl rfl) rfl rfl rfl (.cons (st_call0 rfl rfl rfl rfl hb40 rfl .n (grow_nil z _ _ (by omega) (by omega)) (fun v_q6 C_q6 q6 => ?_)))))))
    obtain ⟨u5, rfl, rfl⟩ := q6
    show SP _ _ _ _ _ _ ⟨_, _ :: _, _, _⟩
    refine .cons (Ev.step (ev_as rfl rfl) rfl rfl rfl (.go (fun _ _ h => h) (.seq (.seq (.region (.cons (Ev.step (ev_mv rfl rfl) rfl rfl rfl ?_)))))))
    refine .cons (Ev.step (ev_len rfl Try.underlying69 rfl) rfl rfl rfl (.cons (Ev.step (ev_mv rfl rfl) rfl rfl rfl (.go (fun _ _ h => h) (.block ?_)))))
    refine .loop (X := Int × (List Vis) × Value) (fun ⟨y, X, U⟩ => 0 ≤ y ∧ y ≤ 2 ∧ X.length ≤ 2000000 ∧ X = ([a, b].take y.toNat).flatten) (fun ⟨y, X, U⟩ => [(0, .slice (some ⟨s, 0, none⟩) 2 2), (6, U), (25, .slice (some ⟨s, 0, none⟩) 2 2), (26, .int .i64 2), (27, .int .i64 y)]) (fun ⟨y, X, U⟩ => [rw_ eVis 44 (U) X, rw_ eV 22 (.slice (some ⟨s, 0, none⟩) 2 2) [⟨.slice A n c, rfl⟩, ⟨.slice B m d, rfl⟩]]) (fun _ => S) (fun _ => wf) (fun ⟨y, X, U⟩ => (2 - y).toNat) (fun a_ w_ hs_ hw_ => ⟨⟨0, ([] : List Vis), v_q6⟩, (by exact ⟨by omega, by omega, by simp, by simp⟩), hs_.mono (Sub.get (.c rfl (.c rfl (.c rfl (.c rfl (.c rfl .n)))))), hw_.keep (.c .h (.c .h .n))⟩) (fun ⟨y, X, U⟩ ⟨q_0, q_1, q_2, q_3⟩ => ?_)
    show SC _ _ _ _ _ ⟨[(0, .slice (some ⟨s, 0, none⟩) 2 2), (6, U), (25, .slice (some ⟨s, 0, none⟩) 2 2), (26, .int .i64 2), (27, .int .i64 y)], [rw_ eVis 44 (U) X, rw_ eV 22 (.slice (some ⟨s, 0, none⟩) 2 2) [⟨.slice A n c, rfl⟩, ⟨.slice B m d, rfl⟩]], S, wf⟩
    refine .seq (.region (.cons (Ev.step (ev_cmp rfl rfl rfl rfl) rfl rfl rfl (.go (fun _ _ h => h) (.seq (.condI rfl bD (fun h7 => ?_) (fun h7 => ?_)))))))
    ·
      refine .skipgo (fun _ _ h => h) (.seq (.block (.seq ?_)))
      obtain rfl | rfl : y = 0 ∨ y = 1 := by omega
      ·
        refine .region (.cons (Ev.step (ev_ix rfl Try.underlying69 ty22 rfl rfl (by omega) (by omega) (row_adr (i := 0) 1 rfl (by omega) (by (try simp only [List.length_nil, List.length_cons, List.length_append, List.length_set, List.length_singleton, List.length_take, List.length_drop, List.length_reverse]) <;> omega))) rfl rfl rfl (.cons (Ev.step (ev_ld1 rfl ty22 rfl (At.elem1 (v := .slice A n c) (row_el (E := eV) (l := [⟨.slice A n c, rfl⟩, ⟨.slice B m d, rfl⟩]) (i := 0) 1 rfl (by omega) (by (try simp only [List.length_nil, List.length_cons, List.length_append, List.length_set, List.length_singleton, List.length_take, List.length_drop, List.length_reverse]) <;> omega)) 0 rfl)) rfl rfl rfl (.cons (Ev.step (ev_as rfl rfl) rfl rfl rfl (.go (fun _ _ h => h) (.region ?_))))))))
        refine .cons (Ev.step (ev_mv rfl rfl) rfl rfl rfl (.cons (Ev.step (ev_mv rfl rfl) rfl rfl rfl (.cons (st_app (E := eVis) (m := a) rfl rfl rfl rfl Try.underlying22 ai44 rfl rfl rfl .h (by first | rfl | omega | simp) (Src.w (Fr.flat hA)) (by (try simp only [List.length_nil, List.length_cons, List.length_append, List.length_set, List.length_singleton, List.length_take, List.length_drop, List.length_reverse]) <;> omega) rfl (fun v8 => .cons (Ev.step (ev_as rfl rfl) rfl rfl rfl (.go (fun _ _ h => h) (.region ?_)))))))))
        exact .cons (Ev.step (ev_add rfl rfl rfl (r := 1) rfl (by omega) (by omega)) rfl rfl rfl (.cons (Ev.step (ev_mv rfl rfl) rfl rfl rfl (SP.nil (SQ.round (X := Int × (List Vis) × Value) (x := (0, X, U)) ⟨1, (X ++ a), v8⟩ (by subst q_3; exact ⟨by omega, by omega, by simp; omega, by simp⟩) (by dsimp only; omega) (Sub.get (.c rfl (.c rfl (.c rfl (.c rfl (.c rfl .n)))))) (fun w hw => hw.keep (.c .h (.c .h .n))))))))
      ·
        refine .region (.cons (Ev.step (ev_ix rfl Try.underlying69 ty22 rfl rfl (by omega) (by omega) (row_adr (i := 1) 1 rfl (by omega) (by (try simp only [List.length_nil, List.length_cons, List.length_append, List.length_set, List.length_singleton, List.length_take, List.length_drop, List.length_reverse]) <;> omega))) rfl rfl rfl (.cons (Ev.step (ev_ld1 rfl ty22 rfl (At.elem1 (v := .slice B m d) (row_el (E := eV) (l := [⟨.slice A n c, rfl⟩, ⟨.slice B m d, rfl⟩]) (i := 1) 1 rfl (by omega) (by (try simp only [List.length_nil, List.length_cons, List.length_append, List.length_set, List.length_singleton, List.length_take, List.length_drop, List.length_reverse]) <;> omega)) 0 rfl)) rfl rfl rfl (.cons (Ev.step (ev_as rfl rfl) rfl rfl rfl (.go (fun _ _ h => h) (.region ?_))))))))
        refine .cons (Ev.step (ev_mv rfl rfl) rfl rfl rfl (.cons (Ev.step (ev_mv rfl rfl) rfl rfl rfl (.cons (st_app (E := eVis) (m := b) rfl rfl rfl rfl Try.underlying22 ai44 rfl rfl rfl .h (by first | rfl | omega | simp) (Src.w (Fr.flat hB)) (by (try simp only [List.length_nil, List.length_cons, List.length_append, List.length_set, List.length_singleton, List.length_take, List.length_drop, List.length_reverse]) <;> omega) rfl (fun v9 => .cons (Ev.step (ev_as rfl rfl) rfl rfl rfl (.go (fun _ _ h => h) (.region ?_)))))))))
        exact .cons (Ev.step (ev_add rfl rfl rfl (r := 2) rfl (by omega) (by omega)) rfl rfl rfl (.cons (Ev.step (ev_mv rfl rfl) rfl rfl rfl (SP.nil (SQ.round (X := Int × (List Vis) × Value) (x := (1, X, U)) ⟨2, (X ++ b), v9⟩ (by subst q_3; exact ⟨by omega, by omega, by simp; omega, by simp⟩) (by dsimp only; omega) (Sub.get (.c rfl (.c rfl (.c rfl (.c rfl (.c rfl .n)))))) (fun w hw => hw.keep (.c .h (.c .h .n))))))))
    ·
      refine .exit (fun _ _ h => h) (.seq (.region (.cons (Ev.step (ev_mv rfl rfl) rfl rfl rfl (.cons (Ev.step (ev_as rfl rfl) rfl rfl rfl (.go (fun _ _ h => h) ?_)))))))
      exact .ret (fun _ _ h => h) (ret1 Try.results32 rfl (.c (.t .h) (.c .h .n)) ⟨U, rfl, (by obtain rfl : y = 2 := (by omega); subst q_3; simp)⟩)

end Go.Proofs.Ytfmfhkaimhmgdaa.Sx
