import Derived.Test.YteabdapdlfhncaaProg
import Derived.Test.YteabdapdlfhncaaSxWin
import Derived.Test.YteabdapdlfhncaaSx16A
set_option maxRecDepth 20000
set_option maxHeartbeats 4000000
set_option linter.unusedVariables false
set_option linter.unusedSimpArgs false
namespace Go.Proofs.Yteabdapdlfhncaa.Sx.FS
open Go Go.SX Go.Proofs
theorem ty36 : ty Try.prog 36 = some (true, 2) := by kernel_rfl
theorem mo : Try.prog.follows .mixedOrders = true := by kernel_rfl
theorem zf36 : (Try.prog.info? 36).bind (fun i => i.zero.map Value.cells) = some (List.toArray [.int .i64 0, .int .i64 0]) := by kernel_rfl
theorem ai36 : (Try.prog.info? 36).map (fun i => (i.zero, i.size, i.bytes)) = some (some (.agg #[.int .i64 0, .int .i64 0]), 2, 16) := by kernel_rfl
theorem ovl28 (args : Array Value) (w : World) : (callFunc 28 args).run Try.prog w = (Extern.SlicesOverlaps.overlaps #[22, 22] #[4] args >>= fun v => pure (Next.value v) : Sem Next).run Try.prog w := by kernel_rfl

end Go.Proofs.Yteabdapdlfhncaa.Sx.FS
namespace Go.Proofs.Yteabdapdlfhncaa.Sx
open Go Go.SX Go.Proofs FS





theorem delete_ (v : Value) (l : List Vis) (i : Int) (j : Int) (S : Nat → Prop) (wf : World) (h0 : 0 ≤ i) (h1 : i < j) (h2 : j ≤ l.length) (hl : l.length ≤ 2000000) :
    TR0 Try.prog 23 [v, .int .i64 i, .int .i64 j] [rw_ eVis 36 (v) l] S wf (fun v_ C_ => ∃ (u : Value), v_ = u ∧ C_ = [rw_ eVis 36 (u) (l.take i.toNat ++ l.drop j.toNat)]) := by
  refine TR.mk Try.func23 rfl Try.ntmps23 rfl rfl (fun w_ => ?_)
  refine .seq (.region (.cons (Ev.step (ev_as rfl rfl) rfl rfl rfl (.go (fun _ _ h => h) (.seq (.region ?_))))))
  refine .cons (Ev.step (ev_mv rfl rfl) rfl rfl rfl (.cons (Ev.step (ev_mv rfl rfl) rfl rfl rfl (.cons (Ev.step (ev_mv rfl rfl) rfl rfl rfl (.cons (Ev.step (ev_mv rfl rfl) rfl rfl rfl ?_)))))))
  refine .know (row_len 0 rfl) (fun hv3 => ?_)
  obtain ⟨A1, c2, rfl, hv3_1, hv3_2⟩ := hv3
  unfold maxLen at hv3_2
  refine .cons (Ev.step (ev_len rfl Try.underlying22 rfl) rfl rfl rfl (.cons (Ev.step (ev_slc3 rfl Try.underlying22 ty36 rfl (.s rfl (by omega)) rfl (.s rfl (by omega)) (.s rfl (by omega)) (by omega) (by omega) (by omega)) rfl rfl rfl (.go (fun _ _ h => h) (.seq (.seq (.region ?_)))))))
  refine .cons (Ev.step (ev_mv rfl rfl) rfl rfl rfl (.cons (Ev.step (ev_mv rfl rfl) rfl rfl rfl (.cons (Ev.step (ev_cmp rfl rfl rfl rfl) rfl rfl rfl (.go (fun _ _ h => h) (.condI rfl bE (fun h4 => ?_) (fun h4 => ?_))))))))
  ·
    exfalso; omega
  ·
    refine .skipgo (fun _ _ h => h) (.seq ?_)
    refine SC.open (A := A1) .h (fun _ _ _ e4 => ?_) (fun g5 sp_T6 eA en_T6 ec_T6 em_T6 el_T6 => ?_)
    ·
      exfalso; have e5 := congrArg List.length e4; simp only [List.length_nil] at e5; omega
    subst eA
    have el_T6 : sp_T6.length + l.length * 2 = c2 * 2 := el_T6
    unfold maxLen at em_T6
    obtain ⟨T6, hT6⟩ : ∃ T6, T6 = flat eVis l ++ sp_T6 := ⟨_, rfl⟩
    have hT6l : T6.length = c2 * 2 := by rw [hT6, List.length_append, fl_eVis]; omega
    refine SC.recel .h hT6.symm ?_
    have hT6p : T6.take (l.length * eVis.sz) = flat eVis l := pre_flat hT6
    refine .region (.cons (Ev.step (ev_mv rfl rfl) rfl rfl rfl (.cons (Ev.step (ev_len rfl Try.underlying22 rfl) rfl rfl rfl (.cons (Ev.step (ev_as rfl rfl) rfl rfl rfl (.go (fun _ _ h => h) (.seq ?_))))))))
    refine SC.draw mo [cel g5 T6 36] [] (.c .h .n) (fun _ _ _ c hc => by cases hc) (fun wf_7 hl_7 hx_7 hR_7 => ?_)
    refine SR.take 0 rfl (by kernel_rfl) (by kernel_rfl) (by kernel_rfl) rfl (fun _ _ _ h => h) rfl rfl rfl (ev_mv rfl rfl) (SR.take 1 rfl (by kernel_rfl) (by kernel_rfl) (by kernel_rfl) rfl (fun _ _ _ h => h) rfl rfl rfl (ev_mv rfl rfl) (SR.take 2 rfl (by kernel_rfl) (by kernel_rfl) (by kernel_rfl) rfl (fun _ _ _ h => h) rfl rfl rfl (ev_slc0 rfl Try.underlying22 ty36 rfl (.s rfl (by omega)) (by omega)) (SR.take 3 rfl (by kernel_rfl) (by kernel_rfl) (by kernel_rfl) rfl (fun _ _ _ h => h) rfl rfl rfl (ev_mv rfl rfl) (SR.take 4 rfl (by kernel_rfl) (by kernel_rfl) (by kernel_rfl) rfl (fun _ _ _ h => h) rfl rfl rfl (ev_mv rfl rfl) (SR.take 5 rfl (by kernel_rfl) (by kernel_rfl) (by kernel_rfl) rfl (fun _ _ _ h => h) rfl rfl rfl (ev_slcs rfl Try.underlying22 ty36 rfl (.s rfl (by omega)) .n (by omega) (by omega)) ?_)))))
    refine SR.one (j := 6) (by kernel_rfl) rfl (st_appp (p := ((i).toNat) * 2) (n := ((i).toNat)) (m := (l.length - (j).toNat)) (c := c2) (flat eVis (l.drop j.toNat)) rfl rfl rfl rfl Try.underlying22 ty36 rfl rfl rfl (by omega) (by rw [fl_eVis] <;> (try simp only [List.length_drop, List.length_take]) <;> omega) (all_flat _ _) (src_blk (off := 0) (c := c2) (l := ((j).toNat)) (sz := 2) 0 rfl (cut_flat (i := ((j).toNat)) (p := 0 + ((j).toNat) * 2) hT6p (by show _ * 2 = _; omega) (by omega)) (cut_ok (i := ((j).toNat)) (c := c2) (by omega))) .h rfl (by rw [fl_eVis, hT6l] <;> (try simp only [List.length_drop, List.length_take]) <;> omega) ⟨tt0, ?_⟩)
    obtain ⟨T8, hT8⟩ : ∃ T8, T8 = put T6 (((i).toNat) * 2) (flat eVis (l.drop j.toNat)) := ⟨_, rfl⟩
    have hT8l : T8.length = T6.length := by rw [hT8]; exact put_length (by rw [fl_eVis, hT6l] <;> (try simp only [List.length_drop, List.length_take]) <;> omega)
    rw [hT6l] at hT8l
    refine SR.recel .h hT8.symm ?_
    refine SR.take 7 rfl (by kernel_rfl) (by kernel_rfl) (by kernel_rfl) rfl (fun _ _ _ h => h) rfl rfl rfl (ev_as rfl rfl) (SR.fin (by kernel_rfl) hl_7 hx_7 hR_7 (.c .n) (SQ.go (fun _ _ h => h) (.seq (.region (.cons (Ev.step (ev_mv rfl rfl) rfl rfl rfl ?_))))))
    refine .cons (Ev.step (ev_mv rfl rfl) rfl rfl rfl (.cons (Ev.step (ev_len rfl Try.underlying22 rfl) rfl rfl rfl (.cons (Ev.step (ev_mv rfl rfl) rfl rfl rfl (.cons (Ev.step (ev_slcs rfl Try.underlying22 ty36 rfl (.s rfl (by omega)) (.s rfl (by omega)) (by omega) (by omega)) rfl rfl rfl (.cons (st_clearp (off := 0) (p := ((((((i).toNat) + (l.length - (j).toNat) : Nat) : Int)).toNat) * 2) (sz := 2) (n := ((((l.length : Int)).toNat) - (((((i).toNat) + (l.length - (j).toNat) : Nat) : Int)).toNat)) (c0 := c2) (l0 := ((((((i).toNat) + (l.length - (j).toNat) : Nat) : Int)).toNat)) (z := [.int .i64 0, .int .i64 0]) rfl rfl rfl Try.underlying22 ty36 zf36 rfl rfl rfl (by omega) .h (by omega) (by rw [hT8l]; omega) (fun zs9 hzs9 => ?_))))))))))
    obtain ⟨T10, hT10⟩ : ∃ T10, T10 = put T8 (((((((i).toNat) + (l.length - (j).toNat) : Nat) : Int)).toNat) * 2) zs9 := ⟨_, rfl⟩
    have hT10l : T10.length = T8.length := by rw [hT10]; exact put_length (by rw [hzs9, hT8l]; omega)
    rw [hT8l] at hT10l
    refine SP.recel .h hT10.symm ?_
    refine .go (fun _ _ h => h) (.seq (.region (.cons (Ev.step (ev_mv rfl rfl) rfl rfl rfl (.cons (Ev.step (ev_as rfl rfl) rfl rfl rfl (.go (fun _ _ h => h) ?_)))))))
    refine SC.close' (E := eVis) (n := ((i).toNat) + (l.length - (j).toNat)) ((l.take i.toNat ++ l.drop j.toNat)) .h (del_law (E := eVis) hT6p (by rw [hT6l]; show _ * 2 ≤ _; omega) (put_at hT8 (by show _ * 2 = _ * 2; omega)) (put_at hT10 (by show _ * 2 = _ * 2; omega)) (by omega) (by omega)) (by (try simp only [List.length_nil, List.length_append, List.length_take, List.length_drop, List.length_reverse]) <;> omega) (by omega) (by show _ ≤ 9223372036854775807; omega) hT10l ?_
    exact .ret (fun _ _ h => h) (ret1 Try.results23 rfl (.c .h .n) ⟨.slice (some ⟨g5, 0, none⟩) (((i).toNat) + (l.length - (j).toNat)) c2, rfl, rfl⟩)

theorem reverse_ (g : Nat) (off : Nat) (n : Nat) (c : Nat) (a : List Value) (m : List Vis) (b : List Value) (S : Nat → Prop) (wf : World) (ha : a.length = off) (hn : m.length = n) (hm : m.length ≤ 2000000) :
    TR0 Try.prog 21 [.slice (some ⟨g, off, none⟩) n c] [cel g (a ++ flat eVis m ++ b) 36] S wf (fun v_ C_ => v_ = .tuple #[] ∧ C_ = [cel g (a ++ flat eVis m.reverse ++ b) 36]) := by
  refine TR.mk Try.func21 rfl Try.ntmps21 rfl rfl (fun w_ => ?_)
  refine .seq (.region (.cons (Ev.step (ev_mv rfl rfl) rfl rfl rfl (.cons (Ev.step (ev_len rfl Try.underlying22 rfl) rfl rfl rfl (.cons (Ev.step (ev_sub rfl rfl rfl (r := ((n : Int) - 1)) rfl (by omega) (by omega)) rfl rfl rfl (.cons (Ev.step (ev_as rfl rfl) rfl rfl rfl ?_)))))))))
  refine .cons (Ev.step (ev_as rfl rfl) rfl rfl rfl (.go (fun _ _ h => h) (.block ?_)))
  refine .loop (X := Int × Int × (List Vis)) (fun ⟨x, y, X⟩ => 0 ≤ x ∧ x ≤ m.length ∧ y ≤ m.length ∧ x + y = (m.length : Int) - 1 ∧ revI m X x y ∧ X.length = m.length) (fun ⟨x, y, X⟩ => [(0, .slice (some ⟨g, off, none⟩) n c), (2, .int .i64 x), (3, .int .i64 y)]) (fun ⟨x, y, X⟩ => [cel g (a ++ flat eVis X ++ b) 36]) (fun _ => S) (fun _ => wf) (fun ⟨x, y, X⟩ => (y - x + 1).toNat) (fun a_ w_ hs_ hw_ => ⟨⟨0, (n : Int) - 1, m⟩, (by subst hn; exact ⟨by omega, by omega, by omega, by omega, revI_init, rfl⟩), hs_.mono (Sub.get (.c rfl (.c rfl (.c rfl .n)))), hw_.keep (.c .h .n)⟩) (fun ⟨x, y, X⟩ ⟨q_0, q_1, q_2, q_3, q_4, q_5⟩ => ?_)
  show SC _ _ _ _ _ ⟨[(0, .slice (some ⟨g, off, none⟩) n c), (2, .int .i64 x), (3, .int .i64 y)], [cel g (a ++ flat eVis X ++ b) 36], S, wf⟩
  refine .seq (.seq (.region (.cons (Ev.step (ev_mv rfl rfl) rfl rfl rfl (.cons (Ev.step (ev_mv rfl rfl) rfl rfl rfl (.cons (Ev.step (ev_cmp rfl rfl rfl rfl) rfl rfl rfl ?_))))))))
  refine .go (fun _ _ h => h) (.condI rfl bD (fun h1 => ?_) (fun h1 => ?_))
  ·
    refine .skipgo (fun _ _ h => h) (.seq (.block ?_))
    refine SC.draw mo [cel g (a ++ flat eVis X ++ b) 36] [] (.c .h .n) (fun _ _ _ c hc => by cases hc) (fun wf_2 hl_2 hx_2 hR_2 => ?_)
    refine SR.take 0 rfl (by kernel_rfl) (by kernel_rfl) (by kernel_rfl) rfl (fun _ _ _ h => h) rfl rfl rfl (ev_mv rfl rfl) (SR.take 1 rfl (by kernel_rfl) (by kernel_rfl) (by kernel_rfl) rfl (fun _ _ _ h => h) rfl rfl rfl (ev_mv rfl rfl) (SR.take 2 rfl (by kernel_rfl) (by kernel_rfl) (by kernel_rfl) rfl (fun _ _ _ h => h) rfl rfl rfl (ev_mv rfl rfl) (SR.take 3 rfl (by kernel_rfl) (by kernel_rfl) (by kernel_rfl) rfl (fun _ _ _ h => h) rfl rfl rfl (ev_mv rfl rfl) (SR.take 4 rfl (by kernel_rfl) (by kernel_rfl) (by kernel_rfl) rfl (fun _ _ _ h => h) rfl rfl rfl (ev_mv rfl rfl) (SR.take 5 rfl (by kernel_rfl) (by kernel_rfl) (by kernel_rfl) rfl (fun _ _ _ h => h) rfl rfl rfl (ev_mv rfl rfl) ?_)))))
    refine SR.take 6 rfl (by kernel_rfl) (by kernel_rfl) (by kernel_rfl) rfl (fun _ _ _ h => h) rfl rfl rfl (ev_ix rfl Try.underlying22 ty36 rfl rfl (by omega) (by omega) (fun _ _ => rfl)) (SR.take 8 rfl (by kernel_rfl) (by kernel_rfl) (by kernel_rfl) rfl (fun _ _ _ h => h) rfl rfl rfl (ev_mv rfl rfl) (SR.take 9 rfl (by kernel_rfl) (by kernel_rfl) (by kernel_rfl) rfl (fun _ _ _ h => h) rfl rfl rfl (ev_mv rfl rfl) (SR.take 10 rfl (by kernel_rfl) (by kernel_rfl) (by kernel_rfl) rfl (fun _ _ _ h => h) rfl rfl rfl (ev_ix rfl Try.underlying22 ty36 rfl rfl (by omega) (by omega) (fun _ _ => rfl)) ?_)))
    refine SR.two (i := 7) (j := 11) (by kernel_rfl) ⟨_, rfl, ?_⟩ ⟨_, rfl, ?_⟩
    ·
      refine Ev.step (ev_lda rfl rfl (win_el (E := eVis) (m := X) (i := y) (off := off) 0 rfl (by assumption) (by omega) (by first | ((try simp only [List.length_nil, List.length_cons, List.length_append, List.length_set, List.length_singleton, List.length_take, List.length_drop, List.length_reverse]) <;> omega) | omega)) ty36) rfl rfl rfl ⟨tt0, (SR.one (j := 11) (by kernel_rfl) rfl (Ev.step (ev_lda rfl rfl (win_el (E := eVis) (m := X) (i := x) (off := off) 0 rfl (by assumption) (by omega) (by first | ((try simp only [List.length_nil, List.length_cons, List.length_append, List.length_set, List.length_singleton, List.length_take, List.length_drop, List.length_reverse]) <;> omega) | omega)) ty36) rfl rfl rfl ⟨tt0, (SR.take 12 rfl (by kernel_rfl) (by kernel_rfl) (by kernel_rfl) rfl (fun _ _ _ h => h) rfl rfl rfl (ev_ix rfl Try.underlying22 ty36 rfl rfl (by omega) (by omega) (fun _ _ => rfl)) (SR.one (j := 13) (by kernel_rfl) rfl (st_setwin (E := eVis) (m := X) (i := x) (off := off) (vs := [.int .i64 ((gt X y).kind), .int .i64 ((gt X y).item)]) (gt X y) rfl rfl rfl ty36 rfl rfl rfl .h rfl (by assumption) (by first | ((try simp only [List.length_nil, List.length_cons, List.length_append, List.length_set, List.length_singleton, List.length_take, List.length_drop, List.length_reverse]) <;> omega) | omega) (by first | ((try simp only [List.length_nil, List.length_cons, List.length_append, List.length_set, List.length_singleton, List.length_take, List.length_drop, List.length_reverse]) <;> omega) | omega) rfl ⟨tt0, (SR.take 14 rfl (by kernel_rfl) (by kernel_rfl) (by kernel_rfl) rfl (fun _ _ _ h => h) rfl rfl rfl (ev_ix rfl Try.underlying22 ty36 rfl rfl (by omega) (by omega) (fun _ _ => rfl)) (SR.one (j := 15) (by kernel_rfl) rfl (st_setwin (E := eVis) (m := (X.set (x).toNat (gt X y))) (i := y) (off := off) (vs := [.int .i64 ((gt X x).kind), .int .i64 ((gt X x).item)]) (gt X x) rfl rfl rfl ty36 rfl rfl rfl .h rfl (by assumption) (by first | ((try simp only [List.length_nil, List.length_cons, List.length_append, List.length_set, List.length_singleton, List.length_take, List.length_drop, List.length_reverse]) <;> omega) | omega) (by first | ((try simp only [List.length_nil, List.length_cons, List.length_append, List.length_set, List.length_singleton, List.length_take, List.length_drop, List.length_reverse]) <;> omega) | omega) rfl ⟨tt0, ?_⟩)))⟩)))⟩))⟩
      refine SR.fin (by kernel_rfl) hl_2 hx_2 hR_2 (.c .n) (SQ.go (fun _ _ h => h) (.region (.cons (Ev.step (ev_mv rfl rfl) rfl rfl rfl (.cons (Ev.step (ev_add rfl rfl rfl (r := (x + 1)) rfl (by omega) (by omega)) rfl rfl rfl (.cons (Ev.step (ev_mv rfl rfl) rfl rfl rfl ?_))))))))
      exact .cons (Ev.step (ev_sub rfl rfl rfl (r := (y - 1)) rfl (by omega) (by omega)) rfl rfl rfl (.cons (Ev.step (ev_as rfl rfl) rfl rfl rfl (.cons (Ev.step (ev_as rfl rfl) rfl rfl rfl (SP.nil (SQ.round (X := Int × Int × (List Vis)) (x := (x, y, X)) ⟨(x + 1), (y - 1), ((X.set (x).toNat (gt X y)).set (y).toNat (gt X x))⟩ (by exact ⟨by omega, by omega, by omega, by omega, revI_next q_4 (by omega) (by omega) (by omega), by simp only [List.length_set]; omega⟩) (by dsimp only; omega) (Sub.get (.c rfl (.c rfl (.c rfl .n)))) (fun w hw => hw.keep (.c .h .n)))))))))
    ·
      refine Ev.step (ev_lda rfl rfl (win_el (E := eVis) (m := X) (i := x) (off := off) 0 rfl (by assumption) (by omega) (by first | ((try simp only [List.length_nil, List.length_cons, List.length_append, List.length_set, List.length_singleton, List.length_take, List.length_drop, List.length_reverse]) <;> omega) | omega)) ty36) rfl rfl rfl ⟨tt0, (SR.one (j := 7) (by kernel_rfl) rfl (Ev.step (ev_lda rfl rfl (win_el (E := eVis) (m := X) (i := y) (off := off) 0 rfl (by assumption) (by omega) (by first | ((try simp only [List.length_nil, List.length_cons, List.length_append, List.length_set, List.length_singleton, List.length_take, List.length_drop, List.length_reverse]) <;> omega) | omega)) ty36) rfl rfl rfl ⟨tt0, (SR.take 12 rfl (by kernel_rfl) (by kernel_rfl) (by kernel_rfl) rfl (fun _ _ _ h => h) rfl rfl rfl (ev_ix rfl Try.underlying22 ty36 rfl rfl (by omega) (by omega) (fun _ _ => rfl)) (SR.one (j := 13) (by kernel_rfl) rfl (st_setwin (E := eVis) (m := X) (i := x) (off := off) (vs := [.int .i64 ((gt X y).kind), .int .i64 ((gt X y).item)]) (gt X y) rfl rfl rfl ty36 rfl rfl rfl .h rfl (by assumption) (by first | ((try simp only [List.length_nil, List.length_cons, List.length_append, List.length_set, List.length_singleton, List.length_take, List.length_drop, List.length_reverse]) <;> omega) | omega) (by first | ((try simp only [List.length_nil, List.length_cons, List.length_append, List.length_set, List.length_singleton, List.length_take, List.length_drop, List.length_reverse]) <;> omega) | omega) rfl ⟨tt0, (SR.take 14 rfl (by kernel_rfl) (by kernel_rfl) (by kernel_rfl) rfl (fun _ _ _ h => h) rfl rfl rfl (ev_ix rfl Try.underlying22 ty36 rfl rfl (by omega) (by omega) (fun _ _ => rfl)) (SR.one (j := 15) (by kernel_rfl) rfl (st_setwin (E := eVis) (m := (X.set (x).toNat (gt X y))) (i := y) (off := off) (vs := [.int .i64 ((gt X x).kind), .int .i64 ((gt X x).item)]) (gt X x) rfl rfl rfl ty36 rfl rfl rfl .h rfl (by assumption) (by first | ((try simp only [List.length_nil, List.length_cons, List.length_append, List.length_set, List.length_singleton, List.length_take, List.length_drop, List.length_reverse]) <;> omega) | omega) (by first | ((try simp only [List.length_nil, List.length_cons, List.length_append, List.length_set, List.length_singleton, List.length_take, List.length_drop, List.length_reverse]) <;> omega) | omega) rfl ⟨tt0, ?_⟩)))⟩)))⟩))⟩
      refine SR.fin (by kernel_rfl) hl_2 hx_2 hR_2 (.c .n) (SQ.go (fun _ _ h => h) (.region (.cons (Ev.step (ev_mv rfl rfl) rfl rfl rfl (.cons (Ev.step (ev_add rfl rfl rfl (r := (x + 1)) rfl (by omega) (by omega)) rfl rfl rfl (.cons (Ev.step (ev_mv rfl rfl) rfl rfl rfl ?_))))))))
      exact .cons (Ev.step (ev_sub rfl rfl rfl (r := (y - 1)) rfl (by omega) (by omega)) rfl rfl rfl (.cons (Ev.step (ev_as rfl rfl) rfl rfl rfl (.cons (Ev.step (ev_as rfl rfl) rfl rfl rfl (SP.nil (SQ.round (X := Int × Int × (List Vis)) (x := (x, y, X)) ⟨(x + 1), (y - 1), ((X.set (x).toNat (gt X y)).set (y).toNat (gt X x))⟩ (by exact ⟨by omega, by omega, by omega, by omega, revI_next q_4 (by omega) (by omega) (by omega), by simp only [List.length_set]; omega⟩) (by dsimp only; omega) (Sub.get (.c rfl (.c rfl (.c rfl .n)))) (fun w hw => hw.keep (.c .h .n)))))))))
  ·
    exact .exitq (fun _ _ h => h) (end0 Try.results21 (.c .h .n) ⟨rfl, (by rw [revI_end q_4 (by omega) (by omega)])⟩)

theorem reverse_nil (S : Nat → Prop) (wf : World) :
    TR0 Try.prog 21 [.slice none 0 0] [] S wf (fun v_ C_ => v_ = .tuple #[] ∧ C_ = []) := by
  refine TR.mk Try.func21 rfl Try.ntmps21 rfl rfl (fun w_ => ?_)
  refine .seq (.region (.cons (Ev.step (ev_mv rfl rfl) rfl rfl rfl (.cons (Ev.step (ev_len rfl Try.underlying22 rfl) rfl rfl rfl (.cons (Ev.step (ev_sub rfl rfl rfl (r := (-1)) rfl (by omega) (by omega)) rfl rfl rfl (.cons (Ev.step (ev_as rfl rfl) rfl rfl rfl ?_)))))))))
  refine .cons (Ev.step (ev_as rfl rfl) rfl rfl rfl (.go (fun _ _ h => h) (.block ?_)))
  refine .loop (X := Int) (fun x => x = 0) (fun x => [(0, .slice none 0 0), (2, .int .i64 0), (3, .int .i64 (-1))]) (fun x => []) (fun _ => S) (fun _ => wf) (fun x => 0) (fun a_ w_ hs_ hw_ => ⟨0, rfl, hs_.mono (Sub.get (.c rfl (.c rfl (.c rfl .n)))), hw_.keep .n⟩) (fun x hk1 => ?_)
  show SC _ _ _ _ _ ⟨[(0, .slice none 0 0), (2, .int .i64 0), (3, .int .i64 (-1))], [], S, wf⟩
  refine .seq (.seq (.region (.cons (Ev.step (ev_mv rfl rfl) rfl rfl rfl (.cons (Ev.step (ev_mv rfl rfl) rfl rfl rfl (.cons (Ev.step (ev_cmp (r := false) rfl rfl rfl rfl) rfl rfl rfl ?_))))))))
  exact .go (fun _ _ h => h) (.cond_f rfl (.exitq (fun _ _ h => h) (end0 Try.results21 .n ⟨rfl, rfl⟩)))

theorem insert_ (v : Value) (l : List Vis) (i : Int) (w : Value) (m : List Vis) (S : Nat → Prop) (wf : World) (h0 : 0 ≤ i) (h2 : i ≤ l.length) (h3 : 0 < m.length) (hl : l.length ≤ 2000000) (hm : m.length ≤ 2000000) :
    TR0 Try.prog 22 [v, .int .i64 i, w] [rw_ eVis 36 (v) l, rw_ eVis 36 (w) m] S wf (fun v_ C_ => ∃ (u : Value), v_ = u ∧ C_ = [rw_ eVis 36 (u) (l.take i.toNat ++ m ++ l.drop i.toNat), rw_ eVis 36 (w) m]) := by
  refine TR.mk Try.func22 rfl Try.ntmps22 rfl rfl (fun w_ => ?_)
  refine .seq (.region (.cons (Ev.step (ev_as rfl rfl) rfl rfl rfl (.go (fun _ _ h => h) (.seq (.region ?_))))))
  refine .cons (Ev.step (ev_mv rfl rfl) rfl rfl rfl (.cons (Ev.step (ev_mv rfl rfl) rfl rfl rfl ?_)))
  refine .know (row_len 0 rfl) (fun hv3 => ?_)
  obtain ⟨A1, c2, rfl, hv3_1, hv3_2⟩ := hv3
  unfold maxLen at hv3_2
  refine .cons (Ev.step (ev_slc rfl Try.underlying22 ty36 rfl (.s rfl (by omega)) .n (by omega) (by omega)) rfl rfl rfl (.go (fun _ _ h => h) (.seq (.region (.cons (Ev.step (ev_mv rfl rfl) rfl rfl rfl ?_))))))
  refine .know (row_len 1 rfl) (fun hv6 => ?_)
  obtain ⟨A4, c5, rfl, hv6_1, hv6_2⟩ := hv6
  unfold maxLen at hv6_2
  refine .cons (Ev.step (ev_len rfl Try.underlying22 rfl) rfl rfl rfl (.cons (Ev.step (ev_as rfl rfl) rfl rfl rfl (.go (fun _ _ h => h) (.seq (.seq (.region ?_)))))))
  refine .cons (Ev.step (ev_mv rfl rfl) rfl rfl rfl (.cons (Ev.step (ev_cmp rfl rfl rfl rfl) rfl rfl rfl (.go (fun _ _ h => h) (.condI rfl bE (fun h7 => ?_) (fun h7 => ?_))))))
  ·
    exfalso; omega
  ·
    refine .skipgo (fun _ _ h => h) (.seq (.region (.cons (Ev.step (ev_mv rfl rfl) rfl rfl rfl (.cons (Ev.step (ev_len rfl Try.underlying22 rfl) rfl rfl rfl (.cons (Ev.step (ev_as rfl rfl) rfl rfl rfl ?_))))))))
    refine .go (fun _ _ h => h) (.seq (.seq (.region (.cons (Ev.step (ev_mv rfl rfl) rfl rfl rfl (.cons (Ev.step (ev_mv rfl rfl) rfl rfl rfl ?_)))))))
    refine .cons (Ev.step (ev_cmp rfl rfl rfl rfl) rfl rfl rfl (.go (fun _ _ h => h) (.condI rfl bE (fun h8 => ?_) (fun h8 => ?_))))
    ·
      refine .seq (.region (.cons (Ev.step (ev_mv rfl rfl) rfl rfl rfl (.cons (Ev.step (ev_mv rfl rfl) rfl rfl rfl (.cons (st_app (E := eVis) (m := m) rfl rfl rfl rfl Try.underlying22 ai36 rfl rfl rfl .h (by first | rfl | omega | simp) (row_src 1 rfl) (by first | ((try simp only [List.length_nil, List.length_cons, List.length_append, List.length_set, List.length_singleton, List.length_take, List.length_drop, List.length_reverse]) <;> omega) | omega) rfl (fun v9 => .cons (Ev.step (ev_as rfl rfl) rfl rfl rfl ?_)))))))))
      exact .go (fun _ _ h => h) (.ret (fun _ _ h => h) (ret1 Try.results22 rfl (.c .h (.c .h .n)) ⟨v9, rfl, (by rw [ins_end (l := l) (v := m) (i := i.toNat) (by omega)])⟩))
    ·
      refine .skipgo (fun _ _ h => h) (.seq (.seq (.region (.cons (Ev.step (ev_mv rfl rfl) rfl rfl rfl (.cons (Ev.step (ev_mv rfl rfl) rfl rfl rfl ?_)))))))
      refine .cons (Ev.step (ev_add rfl rfl rfl (r := ((l.length : Int) + (m.length : Int))) rfl (by omega) (by omega)) rfl rfl rfl (.cons (Ev.step (ev_mv rfl rfl) rfl rfl rfl (.cons (Ev.step (ev_cap rfl Try.underlying22 rfl) rfl rfl rfl (.cons (Ev.step (ev_cmp rfl rfl rfl rfl) rfl rfl rfl (.go (fun _ _ h => h) (.condI rfl bD (fun h10 => ?_) (fun h10 => ?_))))))))))
      ·
        refine .seq ?_
        refine .know (row_form 1 rfl (by omega)) (fun hv13 => ?_)
        obtain ⟨g11, c12, hv13, hv13_1, hv13_2⟩ := hv13
        injection hv13 with eA _ _; subst eA
        refine SC.open (A := A1) .h (fun _ _ _ e4 => ?_) (fun g14 sp_T15 eA en_T15 ec_T15 em_T15 el_T15 => ?_)
        ·
          exfalso; have e5 := congrArg List.length e4; simp only [List.length_nil] at e5; omega
        subst eA
        have el_T15 : sp_T15.length + l.length * 2 = c2 * 2 := el_T15
        unfold maxLen at em_T15
        obtain ⟨T15, hT15⟩ : ∃ T15, T15 = flat eVis l ++ sp_T15 := ⟨_, rfl⟩
        have hT15l : T15.length = c2 * 2 := by rw [hT15, List.length_append, fl_eVis]; omega
        refine SC.recel .h hT15.symm ?_
        have hT15p : T15.take (l.length * eVis.sz) = flat eVis l := pre_flat hT15
        refine .region (.cons (Ev.step (ev_mv rfl rfl) rfl rfl rfl (.cons (Ev.step (ev_mv rfl rfl) rfl rfl rfl (.cons (Ev.step (ev_slc0 rfl Try.underlying22 ty36 rfl (.s rfl (by omega)) (by omega)) rfl rfl rfl (.cons (Ev.step (ev_mv rfl rfl) rfl rfl rfl (.cons (Ev.step (ev_mv rfl rfl) rfl rfl rfl ?_))))))))))
        refine .cons (Ev.step (ev_add rfl rfl rfl (r := ((l.length : Int) + (m.length : Int))) rfl (by omega) (by omega)) rfl rfl rfl (.cons (Ev.step (ev_mv rfl rfl) rfl rfl rfl (.cons (Ev.step (ev_sub rfl rfl rfl (r := (((l.length : Int) + (m.length : Int)) - i)) rfl (by omega) (by omega)) rfl rfl rfl (.cons (st_growz (k := ((((l.length : Int) + (m.length : Int)) - i)).toNat) (i := 0) (n := ((i).toNat)) (c := c2) rfl rfl rfl rfl Try.underlying22 Try.underlying3 ai36 rfl rfl rfl rfl rfl (by omega) (by omega) (by omega) (by omega) rfl (by rw [hT15l]; omega) (fun g16 c17 sp18 hT19_1 hT19_2 hT19_3 => ?_))))))))
        unfold maxLen at hT19_2
        obtain ⟨T19, hT19⟩ : ∃ T19, T19 = T15.take (((i).toNat) * 2) ++ sp18 := ⟨_, rfl⟩
        have hT19l : T19.length = c17 * 2 := by rw [hT19]; exact hT19_3
        refine SP.recel .h hT19.symm ?_
        refine .cons (Ev.step (ev_as rfl rfl) rfl rfl rfl (.go (fun _ _ h => h) (.seq (.region (.cons (Ev.step (ev_mv rfl rfl) rfl rfl rfl (.cons (Ev.step (ev_mv rfl rfl) rfl rfl rfl ?_))))))))
        refine .cons (Ev.step (ev_slcs rfl Try.underlying22 ty36 rfl (.s rfl (by omega)) .n (by omega) (by omega)) rfl rfl rfl (.cons (Ev.step (ev_mv rfl rfl) rfl rfl rfl (.cons (st_copyp (off := 0) (p := ((i).toNat) * 2) (nd := ((((i).toNat) + ((((l.length : Int) + (m.length : Int)) - i)).toNat) - (i).toNat)) (ns := m.length) (c0 := c17) (l0 := ((i).toNat)) (flat eVis m) rfl rfl rfl rfl Try.underlying22 ty36 rfl rfl (by omega) rfl (Nat.min_eq_left (by omega)) (by rw [fl_eVis] <;> (try simp only [List.length_drop, List.length_take]) <;> omega) (all_flat _ _) (row_src 2 rfl) .h (by omega) (by rw [fl_eVis, hT19l] <;> (try simp only [List.length_drop, List.length_take]) <;> omega) ?_)))))
        obtain ⟨T20, hT20⟩ : ∃ T20, T20 = put T19 (((i).toNat) * 2) (flat eVis m) := ⟨_, rfl⟩
        have hT20l : T20.length = T19.length := by rw [hT20]; exact put_length (by rw [fl_eVis, hT19l] <;> (try simp only [List.length_drop, List.length_take]) <;> omega)
        rw [hT19l] at hT20l
        refine SP.recel .h hT20.symm ?_
        refine .go (fun _ _ h => h) (.seq ?_)
        refine SC.draw mo [cel g16 T20 36, cel g14 T15 36] [] (.c .h (.c .h .n)) (fun _ _ _ c hc => by cases hc) (fun wf_21 hl_21 hx_21 hR_21 => ?_)
        refine SR.take 0 rfl (by kernel_rfl) (by kernel_rfl) (by kernel_rfl) rfl (fun _ _ _ h => h) rfl rfl rfl (ev_mv rfl rfl) (SR.take 1 rfl (by kernel_rfl) (by kernel_rfl) (by kernel_rfl) rfl (fun _ _ _ h => h) rfl rfl rfl (ev_mv rfl rfl) (SR.take 2 rfl (by kernel_rfl) (by kernel_rfl) (by kernel_rfl) rfl (fun _ _ _ h => h) rfl rfl rfl (ev_mv rfl rfl) (SR.take 3 rfl (by kernel_rfl) (by kernel_rfl) (by kernel_rfl) rfl (fun _ _ _ h => h) rfl rfl rfl (ev_add rfl rfl rfl (r := (i + (m.length : Int))) rfl (by omega) (by omega)) (SR.take 4 rfl (by kernel_rfl) (by kernel_rfl) (by kernel_rfl) rfl (fun _ _ _ h => h) rfl rfl rfl (ev_slcs rfl Try.underlying22 ty36 rfl (.s rfl (by omega)) .n (by omega) (by omega)) (SR.take 5 rfl (by kernel_rfl) (by kernel_rfl) (by kernel_rfl) rfl (fun _ _ _ h => h) rfl rfl rfl (ev_mv rfl rfl) ?_)))))
        refine SR.take 6 rfl (by kernel_rfl) (by kernel_rfl) (by kernel_rfl) rfl (fun _ _ _ h => h) rfl rfl rfl (ev_mv rfl rfl) (SR.take 7 rfl (by kernel_rfl) (by kernel_rfl) (by kernel_rfl) rfl (fun _ _ _ h => h) rfl rfl rfl (ev_slcs rfl Try.underlying22 ty36 rfl (.s rfl (by omega)) .n (by omega) (by omega)) (SR.one (j := 8) (by kernel_rfl) rfl (st_copyp (off := 0) (p := (((i + (m.length : Int))).toNat) * 2) (nd := ((((i).toNat) + ((((l.length : Int) + (m.length : Int)) - i)).toNat) - ((i + (m.length : Int))).toNat)) (ns := (l.length - (i).toNat)) (c0 := c17) (l0 := (((i + (m.length : Int))).toNat)) (flat eVis (l.drop i.toNat)) rfl rfl rfl rfl Try.underlying22 ty36 rfl rfl (by omega) rfl (Nat.min_eq_left (by omega)) (by rw [fl_eVis] <;> (try simp only [List.length_drop, List.length_take]) <;> omega) (all_flat _ _) (src_blk (off := 0) (c := c2) (l := ((i).toNat)) (sz := 2) 1 rfl (cut_flat (i := ((i).toNat)) (p := 0 + ((i).toNat) * 2) hT15p (by show _ * 2 = _; omega) (by omega)) (cut_ok (i := ((i).toNat)) (c := c2) (by omega))) .h (by omega) (by rw [fl_eVis, hT20l] <;> (try simp only [List.length_drop, List.length_take]) <;> omega) ⟨tt0, ?_⟩)))
        obtain ⟨T22, hT22⟩ : ∃ T22, T22 = put T20 ((((i + (m.length : Int))).toNat) * 2) (flat eVis (l.drop i.toNat)) := ⟨_, rfl⟩
        have hT22l : T22.length = T20.length := by rw [hT22]; exact put_length (by rw [fl_eVis, hT20l] <;> (try simp only [List.length_drop, List.length_take]) <;> omega)
        rw [hT20l] at hT22l
        refine SR.recel .h hT22.symm ?_
        refine SR.fin (by kernel_rfl) hl_21 hx_21 hR_21 (.c (.c .n)) (SQ.go (fun _ _ h => h) (.seq (.region (.cons (Ev.step (ev_mv rfl rfl) rfl rfl rfl (.cons (Ev.step (ev_as rfl rfl) rfl rfl rfl ?_)))))))
        refine .go (fun _ _ h => h) ?_
        refine SC.close' (E := eVis) (n := ((i).toNat) + ((((l.length : Int) + (m.length : Int)) - i)).toNat) ((l.take i.toNat ++ m ++ l.drop i.toNat)) .h (mid_rest (E := eVis) (grown_head (p := i.toNat * eVis.sz) hT19 (by rw [hT15l]; show _ * 2 ≤ _; omega) (head_flat (i := i.toNat) (p := i.toNat * eVis.sz) hT15p rfl (by omega))) (by rw [hT19l]; show _ * 2 ≤ _; omega) (put_at hT20 (by show _ * 2 = _ * 2; omega)) (put_at hT22 (by show _ * 2 = _ * 2; omega)) (by omega)) (by (try simp only [List.length_nil, List.length_append, List.length_take, List.length_drop, List.length_reverse]) <;> omega) (by omega) (by show _ ≤ 9223372036854775807; omega) hT22l ?_
        exact .ret (fun _ _ h => h) (ret1 Try.results22 rfl (.c .h (.c (.t .h) .n)) ⟨.slice (some ⟨g16, 0, none⟩) (((i).toNat) + ((((l.length : Int) + (m.length : Int)) - i)).toNat) c17, rfl, rfl⟩)
      ·
        refine .skipgo (fun _ _ h => h) (.seq ?_)
        refine .know (row_form 1 rfl (by omega)) (fun hv25 => ?_)
        obtain ⟨g23, c24, hv25, hv25_1, hv25_2⟩ := hv25
        injection hv25 with eA _ _; subst eA
        refine SC.open (A := A1) .h (fun _ _ _ e4 => ?_) (fun g26 sp_T27 eA en_T27 ec_T27 em_T27 el_T27 => ?_)
        ·
          exfalso; have e5 := congrArg List.length e4; simp only [List.length_nil] at e5; omega
        subst eA
        have el_T27 : sp_T27.length + l.length * 2 = c2 * 2 := el_T27
        unfold maxLen at em_T27
        obtain ⟨T27, hT27⟩ : ∃ T27, T27 = flat eVis l ++ sp_T27 := ⟨_, rfl⟩
        have hT27l : T27.length = c2 * 2 := by rw [hT27, List.length_append, fl_eVis]; omega
        refine SC.recel .h hT27.symm ?_
        have hT27p : T27.take (l.length * eVis.sz) = flat eVis l := pre_flat hT27
        refine .region (.cons (Ev.step (ev_mv rfl rfl) rfl rfl rfl (.cons (Ev.step (ev_mv rfl rfl) rfl rfl rfl (.cons (Ev.step (ev_mv rfl rfl) rfl rfl rfl (.cons (Ev.step (ev_add rfl rfl rfl (r := ((l.length : Int) + (m.length : Int))) rfl (by omega) (by omega)) rfl rfl rfl (.cons (Ev.step (ev_slc0 rfl Try.underlying22 ty36 rfl (.s rfl (by omega)) (by omega)) rfl rfl rfl ?_))))))))))
        refine .cons (Ev.step (ev_as rfl rfl) rfl rfl rfl (.go (fun _ _ h => h) (.seq (.seq (.region (.cons (Ev.step (ev_mv rfl rfl) rfl rfl rfl ?_)))))))
        refine .cons (Ev.step (ev_mv rfl rfl) rfl rfl rfl (.cons (Ev.step (ev_mv rfl rfl) rfl rfl rfl (.cons (Ev.step (ev_mv rfl rfl) rfl rfl rfl (.cons (Ev.step (ev_add rfl rfl rfl (r := (i + (m.length : Int))) rfl (by omega) (by omega)) rfl rfl rfl (.cons (Ev.step (ev_slcs rfl Try.underlying22 ty36 rfl (.s rfl (by omega)) .n (by omega) (by omega)) rfl rfl rfl (.cons (Ev.step (ev_apart (e := 36) rfl ovl28 Try.underlying22 ty36 rfl rfl (apart_row (.t .h) .h (by rw [hT27l]; omega))) rfl rfl rfl ?_)))))))))))
        refine .cons (Ev.step (ev_not rfl rfl) rfl rfl rfl (.go (fun _ _ h => h) (.cond_t rfl (.seq ?_))))
        refine SC.draw mo [cel g26 T27 36] [] (.c .h .n) (fun _ _ _ c hc => by cases hc) (fun wf_28 hl_28 hx_28 hR_28 => ?_)
        refine SR.take 0 rfl (by kernel_rfl) (by kernel_rfl) (by kernel_rfl) rfl (fun _ _ _ h => h) rfl rfl rfl (ev_mv rfl rfl) (SR.take 1 rfl (by kernel_rfl) (by kernel_rfl) (by kernel_rfl) rfl (fun _ _ _ h => h) rfl rfl rfl (ev_mv rfl rfl) (SR.take 2 rfl (by kernel_rfl) (by kernel_rfl) (by kernel_rfl) rfl (fun _ _ _ h => h) rfl rfl rfl (ev_mv rfl rfl) (SR.take 3 rfl (by kernel_rfl) (by kernel_rfl) (by kernel_rfl) rfl (fun _ _ _ h => h) rfl rfl rfl (ev_add rfl rfl rfl (r := (i + (m.length : Int))) rfl (by omega) (by omega)) (SR.take 4 rfl (by kernel_rfl) (by kernel_rfl) (by kernel_rfl) rfl (fun _ _ _ h => h) rfl rfl rfl (ev_slcs rfl Try.underlying22 ty36 rfl (.s rfl (by omega)) .n (by omega) (by omega)) (SR.take 5 rfl (by kernel_rfl) (by kernel_rfl) (by kernel_rfl) rfl (fun _ _ _ h => h) rfl rfl rfl (ev_mv rfl rfl) ?_)))))
        refine SR.take 6 rfl (by kernel_rfl) (by kernel_rfl) (by kernel_rfl) rfl (fun _ _ _ h => h) rfl rfl rfl (ev_mv rfl rfl) (SR.take 7 rfl (by kernel_rfl) (by kernel_rfl) (by kernel_rfl) rfl (fun _ _ _ h => h) rfl rfl rfl (ev_slcs rfl Try.underlying22 ty36 rfl (.s rfl (by omega)) .n (by omega) (by omega)) (SR.one (j := 8) (by kernel_rfl) rfl (st_copyp (off := 0) (p := (((i + (m.length : Int))).toNat) * 2) (nd := (((((l.length : Int) + (m.length : Int))).toNat) - ((i + (m.length : Int))).toNat)) (ns := (((((l.length : Int) + (m.length : Int))).toNat) - (i).toNat)) (c0 := c2) (l0 := (((i + (m.length : Int))).toNat)) (flat eVis (l.drop i.toNat)) rfl rfl rfl rfl Try.underlying22 ty36 rfl rfl (by omega) rfl (Nat.min_eq_right (by omega)) (by rw [fl_eVis] <;> (try simp only [List.length_drop, List.length_take]) <;> omega) (all_flat _ _) (src_blk (off := 0) (c := c2) (l := ((i).toNat)) (sz := 2) 0 rfl (cut_flat (i := ((i).toNat)) (p := 0 + ((i).toNat) * 2) hT27p (by show _ * 2 = _; omega) (by omega)) (cut_ok (i := ((i).toNat)) (c := c2) (by omega))) .h (by omega) (by rw [fl_eVis, hT27l] <;> (try simp only [List.length_drop, List.length_take]) <;> omega) ⟨tt0, ?_⟩)))
        obtain ⟨T29, hT29⟩ : ∃ T29, T29 = put T27 ((((i + (m.length : Int))).toNat) * 2) (flat eVis (l.drop i.toNat)) := ⟨_, rfl⟩
        have hT29l : T29.length = T27.length := by rw [hT29]; exact put_length (by rw [fl_eVis, hT27l] <;> (try simp only [List.length_drop, List.length_take]) <;> omega)
        rw [hT27l] at hT29l
        refine SR.recel .h hT29.symm ?_
        refine SR.fin (by kernel_rfl) hl_28 hx_28 hR_28 (.c .n) (SQ.go (fun _ _ h => h) (.seq (.region (.cons (Ev.step (ev_mv rfl rfl) rfl rfl rfl (.cons (Ev.step (ev_mv rfl rfl) rfl rfl rfl ?_)))))))
        refine .cons (Ev.step (ev_slcs rfl Try.underlying22 ty36 rfl (.s rfl (by omega)) .n (by omega) (by omega)) rfl rfl rfl (.cons (Ev.step (ev_mv rfl rfl) rfl rfl rfl (.cons (st_copyp (off := 0) (p := ((i).toNat) * 2) (nd := (((((l.length : Int) + (m.length : Int))).toNat) - (i).toNat)) (ns := m.length) (c0 := c2) (l0 := ((i).toNat)) (flat eVis m) rfl rfl rfl rfl Try.underlying22 ty36 rfl rfl (by omega) rfl (Nat.min_eq_left (by omega)) (by rw [fl_eVis] <;> (try simp only [List.length_drop, List.length_take]) <;> omega) (all_flat _ _) (row_src 1 rfl) .h (by omega) (by rw [fl_eVis, hT29l] <;> (try simp only [List.length_drop, List.length_take]) <;> omega) ?_)))))
        obtain ⟨T30, hT30⟩ : ∃ T30, T30 = put T29 (((i).toNat) * 2) (flat eVis m) := ⟨_, rfl⟩
        have hT30l : T30.length = T29.length := by rw [hT30]; exact put_length (by rw [fl_eVis, hT29l] <;> (try simp only [List.length_drop, List.length_take]) <;> omega)
        rw [hT29l] at hT30l
        refine SP.recel .h hT30.symm ?_
        refine .go (fun _ _ h => h) (.seq (.region (.cons (Ev.step (ev_mv rfl rfl) rfl rfl rfl (.cons (Ev.step (ev_as rfl rfl) rfl rfl rfl (.go (fun _ _ h => h) ?_)))))))
        refine SC.close' (E := eVis) (n := (((l.length : Int) + (m.length : Int))).toNat) ((l.take i.toNat ++ m ++ l.drop i.toNat)) .h (rest_mid (E := eVis) (head_flat (i := i.toNat) (p := i.toNat * eVis.sz) hT27p rfl (by omega)) (by rw [hT27l]; show _ * 2 ≤ _; omega) (put_at hT29 (by show _ * 2 = _ * 2; omega)) (put_at hT30 (by show _ * 2 = _ * 2; omega)) (by omega)) (by (try simp only [List.length_nil, List.length_append, List.length_take, List.length_drop, List.length_reverse]) <;> omega) (by omega) (by show _ ≤ 9223372036854775807; omega) hT30l ?_
        exact .ret (fun _ _ h => h) (ret1 Try.results22 rfl (.c .h (.c .h .n)) ⟨.slice (some ⟨g26, 0, none⟩) ((((l.length : Int) + (m.length : Int))).toNat) c2, rfl, rfl⟩)

theorem replace_ (v : Value) (l : List Vis) (i : Int) (j : Int) (w : Value) (m : List Vis) (S : Nat → Prop) (wf : World) (h0 : 0 ≤ i) (h1 : i < j) (h2 : j ≤ l.length) (h3 : 0 < m.length) (hl : l.length ≤ 2000000) (hm : m.length ≤ 2000000) :
    TR0 Try.prog 27 [v, .int .i64 i, .int .i64 j, w] [rw_ eVis 36 (v) l, rw_ eVis 36 (w) m] S wf (fun v_ C_ => ∃ (u : Value), v_ = u ∧ C_ = [rw_ eVis 36 (u) (l.take i.toNat ++ m ++ l.drop j.toNat), rw_ eVis 36 (w) m]) := by
  refine TR.mk Try.func27 rfl Try.ntmps27 rfl rfl (fun w_ => ?_)
  refine .seq (.region (.cons (Ev.step (ev_as rfl rfl) rfl rfl rfl (.go (fun _ _ h => h) (.seq (.region ?_))))))
  refine .cons (Ev.step (ev_mv rfl rfl) rfl rfl rfl (.cons (Ev.step (ev_mv rfl rfl) rfl rfl rfl (.cons (Ev.step (ev_mv rfl rfl) rfl rfl rfl ?_)))))
  refine .know (row_len 0 rfl) (fun hv3 => ?_)
  obtain ⟨A1, c2, rfl, hv3_1, hv3_2⟩ := hv3
  unfold maxLen at hv3_2
  refine .cons (Ev.step (ev_slc rfl Try.underlying22 ty36 rfl (.s rfl (by omega)) (.s rfl (by omega)) (by omega) (by omega)) rfl rfl rfl (.go (fun _ _ h => h) (.seq (.seq (.region (.cons (Ev.step (ev_mv rfl rfl) rfl rfl rfl ?_)))))))
  refine .cons (Ev.step (ev_mv rfl rfl) rfl rfl rfl (.cons (Ev.step (ev_cmp rfl rfl rfl rfl) rfl rfl rfl (.go (fun _ _ h => h) (.condI rfl bE (fun h4 => ?_) (fun h4 => ?_))))))
  ·
    exfalso; omega
  ·
    refine .skipgo (fun _ _ h => h) (.seq (.seq (.region (.cons (Ev.step (ev_mv rfl rfl) rfl rfl rfl (.cons (Ev.step (ev_mv rfl rfl) rfl rfl rfl ?_)))))))
    refine .cons (Ev.step (ev_len rfl Try.underlying22 rfl) rfl rfl rfl (.cons (Ev.step (ev_cmp rfl rfl rfl rfl) rfl rfl rfl (.go (fun _ _ h => h) (.condI rfl bE (fun h5 => ?_) (fun h5 => ?_))))))
    ·
      refine .seq ?_
      refine SC.open (A := A1) .h (fun _ _ _ e4 => ?_) (fun g6 sp_T7 eA en_T7 ec_T7 em_T7 el_T7 => ?_)
      ·
        exfalso; have e5 := congrArg List.length e4; simp only [List.length_nil] at e5; omega
      subst eA
      have el_T7 : sp_T7.length + l.length * 2 = c2 * 2 := el_T7
      unfold maxLen at em_T7
      obtain ⟨T7, hT7⟩ : ∃ T7, T7 = flat eVis l ++ sp_T7 := ⟨_, rfl⟩
      have hT7l : T7.length = c2 * 2 := by rw [hT7, List.length_append, fl_eVis]; omega
      refine SC.recel .h hT7.symm ?_
      have hT7p : T7.take (l.length * eVis.sz) = flat eVis l := pre_flat hT7
      refine .know (row_len 1 rfl) (fun hv10 => ?_)
      obtain ⟨A8, c9, rfl, hv10_1, hv10_2⟩ := hv10
      unfold maxLen at hv10_2
      rcases Nat.lt_or_ge c2 (i.toNat + m.length) with hroom | hroom
      ·
        refine .region (.cons (Ev.step (ev_mv rfl rfl) rfl rfl rfl (.cons (Ev.step (ev_mv rfl rfl) rfl rfl rfl (.cons (Ev.step (ev_slc0 rfl Try.underlying22 ty36 rfl (.s rfl (by omega)) (by omega)) rfl rfl rfl (.cons (Ev.step (ev_mv rfl rfl) rfl rfl rfl ?_))))))))
        refine SP.close' (n := (i).toNat) (c := c2) (l.take i.toNat) .h ((by rw [List.length_take, Nat.min_eq_left (by omega)]; exact head_flat (i := i.toNat) hT7p rfl (by omega))) (by (try simp only [List.length_take]) <;> omega) (by omega) (by show _ ≤ 9223372036854775807; omega) hT7l ?_
        refine .cons (st_app (E := eVis) (m := m) rfl rfl rfl rfl Try.underlying22 ai36 rfl rfl rfl .h (by first | rfl | omega | simp) (row_src 1 rfl) (by first | ((try simp only [List.length_nil, List.length_cons, List.length_append, List.length_set, List.length_singleton, List.length_take, List.length_drop, List.length_reverse]) <;> omega) | omega) rfl (fun v11 => .cons (Ev.step (ev_as rfl rfl) rfl rfl rfl (.go (fun _ _ h => h) (.seq (.seq (.region ?_)))))))
        refine .cons (Ev.step (ev_mv rfl rfl) rfl rfl rfl ?_)
        refine .know (row_len 0 rfl) (fun hv14 => ?_)
        obtain ⟨A12, c13, rfl, hv14_1, hv14_2⟩ := hv14
        unfold maxLen at hv14_2
        refine .cons (Ev.step (ev_len rfl Try.underlying22 rfl) rfl rfl rfl (.cons (Ev.step (ev_mv rfl rfl) rfl rfl rfl (.cons (Ev.step (ev_len rfl Try.underlying22 rfl) rfl rfl rfl (.cons (Ev.step (ev_cmp rfl rfl rfl rfl) rfl rfl rfl (.go (fun _ _ h => h) (.condI rfl bD (fun h15 => ?_) (fun h15 => ?_))))))))))
        ·
          exfalso; simp only [List.length_append, List.length_take] at *; omega
        ·
          refine .skipgo (fun _ _ h => h) (.seq (.region (.cons (Ev.step (ev_mv rfl rfl) rfl rfl rfl (.cons (Ev.step (ev_as rfl rfl) rfl rfl rfl (.go (fun _ _ h => h) ?_)))))))
          exact .ret (fun _ _ h => h) (ret1 Try.results27 rfl (.c .h (.c .h .n)) ⟨.slice A12 (((l.take i.toNat) ++ m).length) c13, rfl, (by rw [← rep_end (l := l) (v := m) (i := i.toNat) (j := j.toNat) (by omega)])⟩)
      ·
        refine .region (.cons (Ev.step (ev_mv rfl rfl) rfl rfl rfl (.cons (Ev.step (ev_mv rfl rfl) rfl rfl rfl (.cons (Ev.step (ev_slc0 rfl Try.underlying22 ty36 rfl (.s rfl (by omega)) (by omega)) rfl rfl rfl (.cons (Ev.step (ev_mv rfl rfl) rfl rfl rfl (.cons (st_appp (p := ((i).toNat) * 2) (n := ((i).toNat)) (m := m.length) (c := c2) (flat eVis m) rfl rfl rfl rfl Try.underlying22 ty36 rfl rfl rfl (by omega) (by rw [fl_eVis] <;> (try simp only [List.length_drop, List.length_take]) <;> omega) (all_flat _ _) (row_src 1 rfl) .h rfl (by rw [fl_eVis, hT7l] <;> (try simp only [List.length_drop, List.length_take]) <;> omega) ?_))))))))))
        obtain ⟨T16, hT16⟩ : ∃ T16, T16 = put T7 (((i).toNat) * 2) (flat eVis m) := ⟨_, rfl⟩
        have hT16l : T16.length = T7.length := by rw [hT16]; exact put_length (by rw [fl_eVis, hT7l] <;> (try simp only [List.length_drop, List.length_take]) <;> omega)
        rw [hT7l] at hT16l
        refine SP.recel .h hT16.symm ?_
        refine .cons (Ev.step (ev_as rfl rfl) rfl rfl rfl (.go (fun _ _ h => h) (.seq (.seq (.region (.cons (Ev.step (ev_mv rfl rfl) rfl rfl rfl ?_)))))))
        refine .cons (Ev.step (ev_len rfl Try.underlying22 rfl) rfl rfl rfl (.cons (Ev.step (ev_mv rfl rfl) rfl rfl rfl (.cons (Ev.step (ev_len rfl Try.underlying22 rfl) rfl rfl rfl (.cons (Ev.step (ev_cmp rfl rfl rfl rfl) rfl rfl rfl (.go (fun _ _ h => h) (.condI rfl bD (fun h17 => ?_) (fun h17 => ?_))))))))))
        ·
          refine .region (.cons (Ev.step (ev_mv rfl rfl) rfl rfl rfl (.cons (Ev.step (ev_mv rfl rfl) rfl rfl rfl (.cons (Ev.step (ev_len rfl Try.underlying22 rfl) rfl rfl rfl (.cons (Ev.step (ev_slcs rfl Try.underlying22 ty36 rfl (.s rfl (by omega)) .n (by omega) (by omega)) rfl rfl rfl (.cons (st_clearp (off := 0) (p := ((((((i).toNat) + m.length : Nat) : Int)).toNat) * 2) (sz := 2) (n := (l.length - (((((i).toNat) + m.length : Nat) : Int)).toNat)) (c0 := c2) (l0 := ((((((i).toNat) + m.length : Nat) : Int)).toNat)) (z := [.int .i64 0, .int .i64 0]) rfl rfl rfl Try.underlying22 ty36 zf36 rfl rfl rfl (by omega) .h (by omega) (by rw [hT16l]; omega) (fun zs18 hzs18 => ?_)))))))))))
          obtain ⟨T19, hT19⟩ : ∃ T19, T19 = put T16 (((((((i).toNat) + m.length : Nat) : Int)).toNat) * 2) zs18 := ⟨_, rfl⟩
          have hT19l : T19.length = T16.length := by rw [hT19]; exact put_length (by rw [hzs18, hT16l]; omega)
          rw [hT16l] at hT19l
          refine SP.recel .h hT19.symm ?_
          refine .go (fun _ _ h => h) (.seq (.region (.cons (Ev.step (ev_mv rfl rfl) rfl rfl rfl (.cons (Ev.step (ev_as rfl rfl) rfl rfl rfl (.go (fun _ _ h => h) ?_)))))))
          refine SC.close' (E := eVis) (n := ((i).toNat) + m.length) ((l.take i.toNat ++ m ++ l.drop j.toNat)) .h (then_clear (mid_end (E := eVis) (head_flat (i := i.toNat) (p := i.toNat * eVis.sz) hT7p rfl (by omega)) (by rw [hT7l]; show _ * 2 ≤ _; omega) (put_at hT16 (by show _ * 2 = _ * 2; omega)) (by omega) (by omega)) hT19 (by rw [len3 (by omega)]; show _ * 2 ≤ _; omega) (by rw [hT16l]; omega)) (by (try simp only [List.length_nil, List.length_append, List.length_take, List.length_drop, List.length_reverse]) <;> omega) (by omega) (by show _ ≤ 9223372036854775807; omega) hT19l ?_
          exact .ret (fun _ _ h => h) (ret1 Try.results27 rfl (.c .h (.c .h .n)) ⟨.slice (some ⟨g6, 0, none⟩) (((i).toNat) + m.length) c2, rfl, rfl⟩)
        ·
          refine .skipgo (fun _ _ h => h) (.seq (.region (.cons (Ev.step (ev_mv rfl rfl) rfl rfl rfl (.cons (Ev.step (ev_as rfl rfl) rfl rfl rfl (.go (fun _ _ h => h) ?_)))))))
          refine SC.close' (E := eVis) (n := ((i).toNat) + m.length) ((l.take i.toNat ++ m ++ l.drop j.toNat)) .h (mid_end (E := eVis) (head_flat (i := i.toNat) (p := i.toNat * eVis.sz) hT7p rfl (by omega)) (by rw [hT7l]; show _ * 2 ≤ _; omega) (put_at hT16 (by show _ * 2 = _ * 2; omega)) (by omega) (by omega)) (by (try simp only [List.length_nil, List.length_append, List.length_take, List.length_drop, List.length_reverse]) <;> omega) (by omega) (by show _ ≤ 9223372036854775807; omega) hT16l ?_
          exact .ret (fun _ _ h => h) (ret1 Try.results27 rfl (.c .h (.c .h .n)) ⟨.slice (some ⟨g6, 0, none⟩) (((i).toNat) + m.length) c2, rfl, rfl⟩)
    ·
      refine .skipgo (fun _ _ h => h) (.seq ?_)
      refine .know (row_form 1 rfl (by omega)) (fun hv22 => ?_)
      obtain ⟨g20, c21, rfl, hv22_1, hv22_2⟩ := hv22
      unfold maxLen at hv22_2
      refine SC.draw mo [] [] .n (fun _ _ _ c hc => by cases hc) (fun wf_23 hl_23 hx_23 hR_23 => ?_)
      refine SR.take 0 rfl (by kernel_rfl) (by kernel_rfl) (by kernel_rfl) rfl (fun _ _ _ h => h) rfl rfl rfl (ev_mv rfl rfl) (SR.take 1 rfl (by kernel_rfl) (by kernel_rfl) (by kernel_rfl) rfl (fun _ _ _ h => h) rfl rfl rfl (ev_mv rfl rfl) (SR.take 2 rfl (by kernel_rfl) (by kernel_rfl) (by kernel_rfl) rfl (fun _ _ _ h => h) rfl rfl rfl (ev_slc rfl Try.underlying22 ty36 rfl .n (.s rfl (by omega)) (by omega) (by omega)) (SR.take 3 rfl (by kernel_rfl) (by kernel_rfl) (by kernel_rfl) rfl (fun _ _ _ h => h) rfl rfl rfl (ev_len rfl Try.underlying22 rfl) (SR.take 4 rfl (by kernel_rfl) (by kernel_rfl) (by kernel_rfl) rfl (fun _ _ _ h => h) rfl rfl rfl (ev_mv rfl rfl) (SR.take 5 rfl (by kernel_rfl) (by kernel_rfl) (by kernel_rfl) rfl (fun _ _ _ h => h) rfl rfl rfl (ev_len rfl Try.underlying22 rfl) ?_)))))
      refine SR.take 6 rfl (by kernel_rfl) (by kernel_rfl) (by kernel_rfl) rfl (fun _ _ _ h => h) rfl rfl rfl (ev_add rfl rfl rfl (r := (((((i).toNat) - 0 : Nat) : Int) + (m.length : Int))) rfl (by omega) (by omega)) (SR.take 7 rfl (by kernel_rfl) (by kernel_rfl) (by kernel_rfl) rfl (fun _ _ _ h => h) rfl rfl rfl (ev_mv rfl rfl) (SR.take 8 rfl (by kernel_rfl) (by kernel_rfl) (by kernel_rfl) rfl (fun _ _ _ h => h) rfl rfl rfl (ev_mv rfl rfl) (SR.take 9 rfl (by kernel_rfl) (by kernel_rfl) (by kernel_rfl) rfl (fun _ _ _ h => h) rfl rfl rfl (ev_slc rfl Try.underlying22 ty36 rfl (.s rfl (by omega)) .n (by omega) (by omega)) (SR.take 10 rfl (by kernel_rfl) (by kernel_rfl) (by kernel_rfl) rfl (fun _ _ _ h => h) rfl rfl rfl (ev_len rfl Try.underlying22 rfl) (SR.take 11 rfl (by kernel_rfl) (by kernel_rfl) (by kernel_rfl) rfl (fun _ _ _ h => h) rfl rfl rfl (ev_add rfl rfl rfl (r := ((((((i).toNat) - 0 : Nat) : Int) + (m.length : Int)) + ((l.length - (j).toNat : Nat) : Int))) rfl (by omega) (by omega)) ?_)))))
      refine SR.take 12 rfl (by kernel_rfl) (by kernel_rfl) (by kernel_rfl) rfl (fun _ _ _ h => h) rfl rfl rfl (ev_as rfl rfl) (SR.fin (by kernel_rfl) hl_23 hx_23 hR_23 .n (SQ.go (fun _ _ h => h) (.seq (.seq (.region ?_)))))
      refine .cons (Ev.step (ev_mv rfl rfl) rfl rfl rfl (.cons (Ev.step (ev_mv rfl rfl) rfl rfl rfl (.cons (Ev.step (ev_cap rfl Try.underlying22 rfl) rfl rfl rfl (.cons (Ev.step (ev_cmp rfl rfl rfl rfl) rfl rfl rfl (.go (fun _ _ h => h) (.condI rfl bD (fun h24 => ?_) (fun h24 => ?_))))))))))
      ·
        refine .seq ?_
        refine SC.open (A := A1) .h (fun _ _ _ e4 => ?_) (fun g25 sp_T26 eA en_T26 ec_T26 em_T26 el_T26 => ?_)
        ·
          exfalso; have e5 := congrArg List.length e4; simp only [List.length_nil] at e5; omega
        subst eA
        have el_T26 : sp_T26.length + l.length * 2 = c2 * 2 := el_T26
        unfold maxLen at em_T26
        obtain ⟨T26, hT26⟩ : ∃ T26, T26 = flat eVis l ++ sp_T26 := ⟨_, rfl⟩
        have hT26l : T26.length = c2 * 2 := by rw [hT26, List.length_append, fl_eVis]; omega
        refine SC.recel .h hT26.symm ?_
        have hT26p : T26.take (l.length * eVis.sz) = flat eVis l := pre_flat hT26
        refine .region (.cons (Ev.step (ev_mv rfl rfl) rfl rfl rfl (.cons (Ev.step (ev_mv rfl rfl) rfl rfl rfl (.cons (Ev.step (ev_slc0 rfl Try.underlying22 ty36 rfl (.s rfl (by omega)) (by omega)) rfl rfl rfl (.cons (Ev.step (ev_mv rfl rfl) rfl rfl rfl (.cons (Ev.step (ev_mv rfl rfl) rfl rfl rfl ?_))))))))))
        refine .cons (Ev.step (ev_sub rfl rfl rfl (r := (((((((i).toNat) - 0 : Nat) : Int) + (m.length : Int)) + ((l.length - (j).toNat : Nat) : Int)) - i)) rfl (by omega) (by omega)) rfl rfl rfl (.cons (st_growz (k := ((((((((i).toNat) - 0 : Nat) : Int) + (m.length : Int)) + ((l.length - (j).toNat : Nat) : Int)) - i)).toNat) (i := 0) (n := ((i).toNat)) (c := c2) rfl rfl rfl rfl Try.underlying22 Try.underlying3 ai36 rfl rfl rfl rfl rfl (by omega) (by omega) (by omega) (by omega) rfl (by rw [hT26l]; omega) (fun g27 c28 sp29 hT30_1 hT30_2 hT30_3 => ?_))))
        unfold maxLen at hT30_2
        obtain ⟨T30, hT30⟩ : ∃ T30, T30 = T26.take (((i).toNat) * 2) ++ sp29 := ⟨_, rfl⟩
        have hT30l : T30.length = c28 * 2 := by rw [hT30]; exact hT30_3
        refine SP.recel .h hT30.symm ?_
        refine .cons (Ev.step (ev_as rfl rfl) rfl rfl rfl (.go (fun _ _ h => h) (.seq (.region (.cons (Ev.step (ev_mv rfl rfl) rfl rfl rfl (.cons (Ev.step (ev_mv rfl rfl) rfl rfl rfl ?_))))))))
        refine .cons (Ev.step (ev_slcs rfl Try.underlying22 ty36 rfl (.s rfl (by omega)) .n (by omega) (by omega)) rfl rfl rfl (.cons (Ev.step (ev_mv rfl rfl) rfl rfl rfl (.cons (st_copyp (off := 0) (p := ((i).toNat) * 2) (nd := ((((i).toNat) + ((((((((i).toNat) - 0 : Nat) : Int) + (m.length : Int)) + ((l.length - (j).toNat : Nat) : Int)) - i)).toNat) - (i).toNat)) (ns := m.length) (c0 := c28) (l0 := ((i).toNat)) (flat eVis m) rfl rfl rfl rfl Try.underlying22 ty36 rfl rfl (by omega) rfl (Nat.min_eq_left (by omega)) (by rw [fl_eVis] <;> (try simp only [List.length_drop, List.length_take]) <;> omega) (all_flat _ _) (row_src 2 rfl) .h (by omega) (by rw [fl_eVis, hT30l] <;> (try simp only [List.length_drop, List.length_take]) <;> omega) ?_)))))
        obtain ⟨T31, hT31⟩ : ∃ T31, T31 = put T30 (((i).toNat) * 2) (flat eVis m) := ⟨_, rfl⟩
        have hT31l : T31.length = T30.length := by rw [hT31]; exact put_length (by rw [fl_eVis, hT30l] <;> (try simp only [List.length_drop, List.length_take]) <;> omega)
        rw [hT30l] at hT31l
        refine SP.recel .h hT31.symm ?_
        refine .go (fun _ _ h => h) (.seq ?_)
        refine SC.draw mo [cel g27 T31 36, cel g25 T26 36] [] (.c .h (.c .h .n)) (fun _ _ _ c hc => by cases hc) (fun wf_32 hl_32 hx_32 hR_32 => ?_)
        refine SR.take 0 rfl (by kernel_rfl) (by kernel_rfl) (by kernel_rfl) rfl (fun _ _ _ h => h) rfl rfl rfl (ev_mv rfl rfl) (SR.take 1 rfl (by kernel_rfl) (by kernel_rfl) (by kernel_rfl) rfl (fun _ _ _ h => h) rfl rfl rfl (ev_mv rfl rfl) (SR.take 2 rfl (by kernel_rfl) (by kernel_rfl) (by kernel_rfl) rfl (fun _ _ _ h => h) rfl rfl rfl (ev_mv rfl rfl) (SR.take 3 rfl (by kernel_rfl) (by kernel_rfl) (by kernel_rfl) rfl (fun _ _ _ h => h) rfl rfl rfl (ev_len rfl Try.underlying22 rfl) (SR.take 4 rfl (by kernel_rfl) (by kernel_rfl) (by kernel_rfl) rfl (fun _ _ _ h => h) rfl rfl rfl (ev_add rfl rfl rfl (r := (i + (m.length : Int))) rfl (by omega) (by omega)) (SR.take 5 rfl (by kernel_rfl) (by kernel_rfl) (by kernel_rfl) rfl (fun _ _ _ h => h) rfl rfl rfl (ev_slcs rfl Try.underlying22 ty36 rfl (.s rfl (by omega)) .n (by omega) (by omega)) ?_)))))
        refine SR.take 6 rfl (by kernel_rfl) (by kernel_rfl) (by kernel_rfl) rfl (fun _ _ _ h => h) rfl rfl rfl (ev_mv rfl rfl) (SR.take 7 rfl (by kernel_rfl) (by kernel_rfl) (by kernel_rfl) rfl (fun _ _ _ h => h) rfl rfl rfl (ev_mv rfl rfl) (SR.take 8 rfl (by kernel_rfl) (by kernel_rfl) (by kernel_rfl) rfl (fun _ _ _ h => h) rfl rfl rfl (ev_slcs rfl Try.underlying22 ty36 rfl (.s rfl (by omega)) .n (by omega) (by omega)) (SR.one (j := 9) (by kernel_rfl) rfl (st_copyp (off := 0) (p := (((i + (m.length : Int))).toNat) * 2) (nd := ((((i).toNat) + ((((((((i).toNat) - 0 : Nat) : Int) + (m.length : Int)) + ((l.length - (j).toNat : Nat) : Int)) - i)).toNat) - ((i + (m.length : Int))).toNat)) (ns := (l.length - (j).toNat)) (c0 := c28) (l0 := (((i + (m.length : Int))).toNat)) (flat eVis (l.drop j.toNat)) rfl rfl rfl rfl Try.underlying22 ty36 rfl rfl (by omega) rfl (Nat.min_eq_left (by omega)) (by rw [fl_eVis] <;> (try simp only [List.length_drop, List.length_take]) <;> omega) (all_flat _ _) (src_blk (off := 0) (c := c2) (l := ((j).toNat)) (sz := 2) 1 rfl (cut_flat (i := ((j).toNat)) (p := 0 + ((j).toNat) * 2) hT26p (by show _ * 2 = _; omega) (by omega)) (cut_ok (i := ((j).toNat)) (c := c2) (by omega))) .h (by omega) (by rw [fl_eVis, hT31l] <;> (try simp only [List.length_drop, List.length_take]) <;> omega) ⟨tt0, ?_⟩))))
        obtain ⟨T33, hT33⟩ : ∃ T33, T33 = put T31 ((((i + (m.length : Int))).toNat) * 2) (flat eVis (l.drop j.toNat)) := ⟨_, rfl⟩
        have hT33l : T33.length = T31.length := by rw [hT33]; exact put_length (by rw [fl_eVis, hT31l] <;> (try simp only [List.length_drop, List.length_take]) <;> omega)
        rw [hT31l] at hT33l
        refine SR.recel .h hT33.symm ?_
        refine SR.fin (by kernel_rfl) hl_32 hx_32 hR_32 (.c (.c .n)) (SQ.go (fun _ _ h => h) (.seq (.region (.cons (Ev.step (ev_mv rfl rfl) rfl rfl rfl (.cons (Ev.step (ev_as rfl rfl) rfl rfl rfl ?_)))))))
        refine .go (fun _ _ h => h) ?_
        refine SC.close' (E := eVis) (n := ((i).toNat) + ((((((((i).toNat) - 0 : Nat) : Int) + (m.length : Int)) + ((l.length - (j).toNat : Nat) : Int)) - i)).toNat) ((l.take i.toNat ++ m ++ l.drop j.toNat)) .h (mid_rest (E := eVis) (grown_head (p := i.toNat * eVis.sz) hT30 (by rw [hT26l]; show _ * 2 ≤ _; omega) (head_flat (i := i.toNat) (p := i.toNat * eVis.sz) hT26p rfl (by omega))) (by rw [hT30l]; show _ * 2 ≤ _; omega) (put_at hT31 (by show _ * 2 = _ * 2; omega)) (put_at hT33 (by show _ * 2 = _ * 2; omega)) (by omega)) (by (try simp only [List.length_nil, List.length_append, List.length_take, List.length_drop, List.length_reverse]) <;> omega) (by omega) (by show _ ≤ 9223372036854775807; omega) hT33l ?_
        exact .ret (fun _ _ h => h) (ret1 Try.results27 rfl (.c .h (.c (.t .h) .n)) ⟨.slice (some ⟨g27, 0, none⟩) (((i).toNat) + ((((((((i).toNat) - 0 : Nat) : Int) + (m.length : Int)) + ((l.length - (j).toNat : Nat) : Int)) - i)).toNat) c28, rfl, rfl⟩)
      ·
        refine .skipgo (fun _ _ h => h) (.seq ?_)
        refine SC.open (A := A1) .h (fun _ _ _ e4 => ?_) (fun g34 sp_T35 eA en_T35 ec_T35 em_T35 el_T35 => ?_)
        ·
          exfalso; have e5 := congrArg List.length e4; simp only [List.length_nil] at e5; omega
        subst eA
        have el_T35 : sp_T35.length + l.length * 2 = c2 * 2 := el_T35
        unfold maxLen at em_T35
        obtain ⟨T35, hT35⟩ : ∃ T35, T35 = flat eVis l ++ sp_T35 := ⟨_, rfl⟩
        have hT35l : T35.length = c2 * 2 := by rw [hT35, List.length_append, fl_eVis]; omega
        refine SC.recel .h hT35.symm ?_
        have hT35p : T35.take (l.length * eVis.sz) = flat eVis l := pre_flat hT35
        refine .region (.cons (Ev.step (ev_mv rfl rfl) rfl rfl rfl (.cons (Ev.step (ev_mv rfl rfl) rfl rfl rfl (.cons (Ev.step (ev_slc0 rfl Try.underlying22 ty36 rfl (.s rfl (by omega)) (by omega)) rfl rfl rfl (.cons (Ev.step (ev_as rfl rfl) rfl rfl rfl (.go (fun _ _ h => h) ?_)))))))))
        refine .seq (.seq (.region (.cons (Ev.step (ev_mv rfl rfl) rfl rfl rfl (.cons (Ev.step (ev_mv rfl rfl) rfl rfl rfl (.cons (Ev.step (ev_len rfl Try.underlying22 rfl) rfl rfl rfl ?_))))))))
        refine .cons (Ev.step (ev_add rfl rfl rfl (r := (i + (m.length : Int))) rfl (by omega) (by omega)) rfl rfl rfl (.cons (Ev.step (ev_mv rfl rfl) rfl rfl rfl (.cons (Ev.step (ev_cmp rfl rfl rfl rfl) rfl rfl rfl (.go (fun _ _ h => h) (.condI rfl bD (fun h36 => ?_) (fun h36 => ?_))))))))
        ·
          refine .seq (.region (.cons (Ev.step (ev_mv rfl rfl) rfl rfl rfl (.cons (Ev.step (ev_mv rfl rfl) rfl rfl rfl (.cons (Ev.step (ev_slcs rfl Try.underlying22 ty36 rfl (.s rfl (by omega)) .n (by omega) (by omega)) rfl rfl rfl (.cons (Ev.step (ev_mv rfl rfl) rfl rfl rfl ?_)))))))))
          refine .cons (st_copyp (off := 0) (p := ((i).toNat) * 2) (nd := (((((((((i).toNat) - 0 : Nat) : Int) + (m.length : Int)) + ((l.length - (j).toNat : Nat) : Int))).toNat) - (i).toNat)) (ns := m.length) (c0 := c2) (l0 := ((i).toNat)) (flat eVis m) rfl rfl rfl rfl Try.underlying22 ty36 rfl rfl (by omega) rfl (Nat.min_eq_left (by omega)) (by rw [fl_eVis] <;> (try simp only [List.length_drop, List.length_take]) <;> omega) (all_flat _ _) (row_src 1 rfl) .h (by omega) (by rw [fl_eVis, hT35l] <;> (try simp only [List.length_drop, List.length_take]) <;> omega) ?_)
          obtain ⟨T37, hT37⟩ : ∃ T37, T37 = put T35 (((i).toNat) * 2) (flat eVis m) := ⟨_, rfl⟩
          have hT37l : T37.length = T35.length := by rw [hT37]; exact put_length (by rw [fl_eVis, hT35l] <;> (try simp only [List.length_drop, List.length_take]) <;> omega)
          rw [hT35l] at hT37l
          refine SP.recel .h hT37.symm ?_
          refine .go (fun _ _ h => h) (.seq ?_)
          refine SC.draw mo [cel g34 T37 36] [] (.c .h .n) (fun _ _ _ c hc => by cases hc) (fun wf_38 hl_38 hx_38 hR_38 => ?_)
          refine SR.take 0 rfl (by kernel_rfl) (by kernel_rfl) (by kernel_rfl) rfl (fun _ _ _ h => h) rfl rfl rfl (ev_mv rfl rfl) (SR.take 1 rfl (by kernel_rfl) (by kernel_rfl) (by kernel_rfl) rfl (fun _ _ _ h => h) rfl rfl rfl (ev_mv rfl rfl) (SR.take 2 rfl (by kernel_rfl) (by kernel_rfl) (by kernel_rfl) rfl (fun _ _ _ h => h) rfl rfl rfl (ev_mv rfl rfl) (SR.take 3 rfl (by kernel_rfl) (by kernel_rfl) (by kernel_rfl) rfl (fun _ _ _ h => h) rfl rfl rfl (ev_len rfl Try.underlying22 rfl) (SR.take 4 rfl (by kernel_rfl) (by kernel_rfl) (by kernel_rfl) rfl (fun _ _ _ h => h) rfl rfl rfl (ev_add rfl rfl rfl (r := (i + (m.length : Int))) rfl (by omega) (by omega)) (SR.take 5 rfl (by kernel_rfl) (by kernel_rfl) (by kernel_rfl) rfl (fun _ _ _ h => h) rfl rfl rfl (ev_slcs rfl Try.underlying22 ty36 rfl (.s rfl (by omega)) .n (by omega) (by omega)) ?_)))))
          refine SR.take 6 rfl (by kernel_rfl) (by kernel_rfl) (by kernel_rfl) rfl (fun _ _ _ h => h) rfl rfl rfl (ev_mv rfl rfl) (SR.take 7 rfl (by kernel_rfl) (by kernel_rfl) (by kernel_rfl) rfl (fun _ _ _ h => h) rfl rfl rfl (ev_mv rfl rfl) (SR.take 8 rfl (by kernel_rfl) (by kernel_rfl) (by kernel_rfl) rfl (fun _ _ _ h => h) rfl rfl rfl (ev_slcs rfl Try.underlying22 ty36 rfl (.s rfl (by omega)) .n (by omega) (by omega)) (SR.one (j := 9) (by kernel_rfl) rfl (st_copyp (off := 0) (p := (((i + (m.length : Int))).toNat) * 2) (nd := (((((((((i).toNat) - 0 : Nat) : Int) + (m.length : Int)) + ((l.length - (j).toNat : Nat) : Int))).toNat) - ((i + (m.length : Int))).toNat)) (ns := (l.length - (j).toNat)) (c0 := c2) (l0 := (((i + (m.length : Int))).toNat)) (flat eVis (l.drop j.toNat)) rfl rfl rfl rfl Try.underlying22 ty36 rfl rfl (by omega) rfl (Nat.min_eq_left (by omega)) (by rw [fl_eVis] <;> (try simp only [List.length_drop, List.length_take]) <;> omega) (all_flat _ _) (src_blk (off := 0) (c := c2) (l := ((j).toNat)) (sz := 2) 0 rfl (cut_put (q := 0 + ((j).toNat) * 2) hT37 (by rw [hT35l]; omega) (by rw [fl_eVis]; omega) (cut_flat (i := ((j).toNat)) (p := 0 + ((j).toNat) * 2) hT35p (by show _ * 2 = _; omega) (by omega))) (cut_ok (i := ((j).toNat)) (c := c2) (by omega))) .h (by omega) (by rw [fl_eVis, hT37l] <;> (try simp only [List.length_drop, List.length_take]) <;> omega) ⟨tt0, ?_⟩))))
          obtain ⟨T39, hT39⟩ : ∃ T39, T39 = put T37 ((((i + (m.length : Int))).toNat) * 2) (flat eVis (l.drop j.toNat)) := ⟨_, rfl⟩
          have hT39l : T39.length = T37.length := by rw [hT39]; exact put_length (by rw [fl_eVis, hT37l] <;> (try simp only [List.length_drop, List.length_take]) <;> omega)
          rw [hT37l] at hT39l
          refine SR.recel .h hT39.symm ?_
          refine SR.fin (by kernel_rfl) hl_38 hx_38 hR_38 (.c .n) (SQ.go (fun _ _ h => h) (.seq (.region (.cons (Ev.step (ev_mv rfl rfl) rfl rfl rfl (.cons (Ev.step (ev_mv rfl rfl) rfl rfl rfl ?_)))))))
          refine .cons (Ev.step (ev_slcs rfl Try.underlying22 ty36 rfl (.s rfl (by omega)) .n (by omega) (by omega)) rfl rfl rfl (.cons (st_clearp (off := 0) (p := ((((((((i).toNat) - 0 : Nat) : Int) + (m.length : Int)) + ((l.length - (j).toNat : Nat) : Int))).toNat) * 2) (sz := 2) (n := (l.length - (((((((i).toNat) - 0 : Nat) : Int) + (m.length : Int)) + ((l.length - (j).toNat : Nat) : Int))).toNat)) (c0 := c2) (l0 := ((((((((i).toNat) - 0 : Nat) : Int) + (m.length : Int)) + ((l.length - (j).toNat : Nat) : Int))).toNat)) (z := [.int .i64 0, .int .i64 0]) rfl rfl rfl Try.underlying22 ty36 zf36 rfl rfl rfl (by omega) .h (by omega) (by rw [hT39l]; omega) (fun zs40 hzs40 => ?_))))
          obtain ⟨T41, hT41⟩ : ∃ T41, T41 = put T39 (((((((((i).toNat) - 0 : Nat) : Int) + (m.length : Int)) + ((l.length - (j).toNat : Nat) : Int))).toNat) * 2) zs40 := ⟨_, rfl⟩
          have hT41l : T41.length = T39.length := by rw [hT41]; exact put_length (by rw [hzs40, hT39l]; omega)
          rw [hT39l] at hT41l
          refine SP.recel .h hT41.symm ?_
          refine .go (fun _ _ h => h) (.seq (.region (.cons (Ev.step (ev_mv rfl rfl) rfl rfl rfl (.cons (Ev.step (ev_as rfl rfl) rfl rfl rfl (.go (fun _ _ h => h) ?_)))))))
          refine SC.close' (E := eVis) (n := (((((((i).toNat) - 0 : Nat) : Int) + (m.length : Int)) + ((l.length - (j).toNat : Nat) : Int))).toNat) ((l.take i.toNat ++ m ++ l.drop j.toNat)) .h (then_clear (mid_rest (E := eVis) (head_flat (i := i.toNat) (p := i.toNat * eVis.sz) hT35p rfl (by omega)) (by rw [hT35l]; show _ * 2 ≤ _; omega) (put_at hT37 (by show _ * 2 = _ * 2; omega)) (put_at hT39 (by show _ * 2 = _ * 2; omega)) (by omega)) hT41 (by rw [len3 (by omega)]; show _ * 2 ≤ _; omega) (by rw [hT39l]; omega)) (by (try simp only [List.length_nil, List.length_append, List.length_take, List.length_drop, List.length_reverse]) <;> omega) (by omega) (by show _ ≤ 9223372036854775807; omega) hT41l ?_
          exact .ret (fun _ _ h => h) (ret1 Try.results27 rfl (.c .h (.c .h .n)) ⟨.slice (some ⟨g34, 0, none⟩) ((((((((i).toNat) - 0 : Nat) : Int) + (m.length : Int)) + ((l.length - (j).toNat : Nat) : Int))).toNat) c2, rfl, rfl⟩)
        ·
          refine .skipgo (fun _ _ h => h) (.seq (.seq (.region (.cons (Ev.step (ev_mv rfl rfl) rfl rfl rfl (.cons (Ev.step (ev_mv rfl rfl) rfl rfl rfl ?_)))))))
          refine .cons (Ev.step (ev_mv rfl rfl) rfl rfl rfl (.cons (Ev.step (ev_len rfl Try.underlying22 rfl) rfl rfl rfl (.cons (Ev.step (ev_add rfl rfl rfl (r := (i + (m.length : Int))) rfl (by omega) (by omega)) rfl rfl rfl (.cons (Ev.step (ev_slcs rfl Try.underlying22 ty36 rfl (.s rfl (by omega)) .n (by omega) (by omega)) rfl rfl rfl (.cons (Ev.step (ev_mv rfl rfl) rfl rfl rfl (.cons (Ev.step (ev_apart (e := 36) rfl ovl28 Try.underlying22 ty36 rfl rfl (apart_row' (.t .h) .h (by omega))) rfl rfl rfl ?_)))))))))))
          refine .cons (Ev.step (ev_not rfl rfl) rfl rfl rfl (.go (fun _ _ h => h) (.cond_t rfl (.seq ?_))))
          refine SC.draw mo [cel g34 T35 36] [] (.c .h .n) (fun _ _ _ c hc => by cases hc) (fun wf_42 hl_42 hx_42 hR_42 => ?_)
          refine SR.take 0 rfl (by kernel_rfl) (by kernel_rfl) (by kernel_rfl) rfl (fun _ _ _ h => h) rfl rfl rfl (ev_mv rfl rfl) (SR.take 1 rfl (by kernel_rfl) (by kernel_rfl) (by kernel_rfl) rfl (fun _ _ _ h => h) rfl rfl rfl (ev_mv rfl rfl) (SR.take 2 rfl (by kernel_rfl) (by kernel_rfl) (by kernel_rfl) rfl (fun _ _ _ h => h) rfl rfl rfl (ev_mv rfl rfl) (SR.take 3 rfl (by kernel_rfl) (by kernel_rfl) (by kernel_rfl) rfl (fun _ _ _ h => h) rfl rfl rfl (ev_len rfl Try.underlying22 rfl) (SR.take 4 rfl (by kernel_rfl) (by kernel_rfl) (by kernel_rfl) rfl (fun _ _ _ h => h) rfl rfl rfl (ev_add rfl rfl rfl (r := (i + (m.length : Int))) rfl (by omega) (by omega)) (SR.take 5 rfl (by kernel_rfl) (by kernel_rfl) (by kernel_rfl) rfl (fun _ _ _ h => h) rfl rfl rfl (ev_slcs rfl Try.underlying22 ty36 rfl (.s rfl (by omega)) .n (by omega) (by omega)) ?_)))))
          refine SR.take 6 rfl (by kernel_rfl) (by kernel_rfl) (by kernel_rfl) rfl (fun _ _ _ h => h) rfl rfl rfl (ev_mv rfl rfl) (SR.take 7 rfl (by kernel_rfl) (by kernel_rfl) (by kernel_rfl) rfl (fun _ _ _ h => h) rfl rfl rfl (ev_mv rfl rfl) (SR.take 8 rfl (by kernel_rfl) (by kernel_rfl) (by kernel_rfl) rfl (fun _ _ _ h => h) rfl rfl rfl (ev_slcs rfl Try.underlying22 ty36 rfl (.s rfl (by omega)) .n (by omega) (by omega)) (SR.one (j := 9) (by kernel_rfl) rfl (st_copyp (off := 0) (p := (((i + (m.length : Int))).toNat) * 2) (nd := (((((((((i).toNat) - 0 : Nat) : Int) + (m.length : Int)) + ((l.length - (j).toNat : Nat) : Int))).toNat) - ((i + (m.length : Int))).toNat)) (ns := (l.length - (j).toNat)) (c0 := c2) (l0 := (((i + (m.length : Int))).toNat)) (flat eVis (l.drop j.toNat)) rfl rfl rfl rfl Try.underlying22 ty36 rfl rfl (by omega) rfl (Nat.min_eq_left (by omega)) (by rw [fl_eVis] <;> (try simp only [List.length_drop, List.length_take]) <;> omega) (all_flat _ _) (src_blk (off := 0) (c := c2) (l := ((j).toNat)) (sz := 2) 0 rfl (cut_flat (i := ((j).toNat)) (p := 0 + ((j).toNat) * 2) hT35p (by show _ * 2 = _; omega) (by omega)) (cut_ok (i := ((j).toNat)) (c := c2) (by omega))) .h (by omega) (by rw [fl_eVis, hT35l] <;> (try simp only [List.length_drop, List.length_take]) <;> omega) ⟨tt0, ?_⟩))))
          obtain ⟨T43, hT43⟩ : ∃ T43, T43 = put T35 ((((i + (m.length : Int))).toNat) * 2) (flat eVis (l.drop j.toNat)) := ⟨_, rfl⟩
          have hT43l : T43.length = T35.length := by rw [hT43]; exact put_length (by rw [fl_eVis, hT35l] <;> (try simp only [List.length_drop, List.length_take]) <;> omega)
          rw [hT35l] at hT43l
          refine SR.recel .h hT43.symm ?_
          refine SR.fin (by kernel_rfl) hl_42 hx_42 hR_42 (.c .n) (SQ.go (fun _ _ h => h) (.seq (.region (.cons (Ev.step (ev_mv rfl rfl) rfl rfl rfl (.cons (Ev.step (ev_mv rfl rfl) rfl rfl rfl ?_)))))))
          refine .cons (Ev.step (ev_slcs rfl Try.underlying22 ty36 rfl (.s rfl (by omega)) .n (by omega) (by omega)) rfl rfl rfl (.cons (Ev.step (ev_mv rfl rfl) rfl rfl rfl (.cons (st_copyp (off := 0) (p := ((i).toNat) * 2) (nd := (((((((((i).toNat) - 0 : Nat) : Int) + (m.length : Int)) + ((l.length - (j).toNat : Nat) : Int))).toNat) - (i).toNat)) (ns := m.length) (c0 := c2) (l0 := ((i).toNat)) (flat eVis m) rfl rfl rfl rfl Try.underlying22 ty36 rfl rfl (by omega) rfl (Nat.min_eq_left (by omega)) (by rw [fl_eVis] <;> (try simp only [List.length_drop, List.length_take]) <;> omega) (all_flat _ _) (row_src 1 rfl) .h (by omega) (by rw [fl_eVis, hT43l] <;> (try simp only [List.length_drop, List.length_take]) <;> omega) ?_)))))
          obtain ⟨T44, hT44⟩ : ∃ T44, T44 = put T43 (((i).toNat) * 2) (flat eVis m) := ⟨_, rfl⟩
          have hT44l : T44.length = T43.length := by rw [hT44]; exact put_length (by rw [fl_eVis, hT43l] <;> (try simp only [List.length_drop, List.length_take]) <;> omega)
          rw [hT43l] at hT44l
          refine SP.recel .h hT44.symm ?_
          refine .go (fun _ _ h => h) (.seq (.region (.cons (Ev.step (ev_mv rfl rfl) rfl rfl rfl (.cons (Ev.step (ev_as rfl rfl) rfl rfl rfl (.go (fun _ _ h => h) ?_)))))))
          refine SC.close' (E := eVis) (n := (((((((i).toNat) - 0 : Nat) : Int) + (m.length : Int)) + ((l.length - (j).toNat : Nat) : Int))).toNat) ((l.take i.toNat ++ m ++ l.drop j.toNat)) .h (rest_mid (E := eVis) (head_flat (i := i.toNat) (p := i.toNat * eVis.sz) hT35p rfl (by omega)) (by rw [hT35l]; show _ * 2 ≤ _; omega) (put_at hT43 (by show _ * 2 = _ * 2; omega)) (put_at hT44 (by show _ * 2 = _ * 2; omega)) (by omega)) (by (try simp only [List.length_nil, List.length_append, List.length_take, List.length_drop, List.length_reverse]) <;> omega) (by omega) (by show _ ≤ 9223372036854775807; omega) hT44l ?_
          exact .ret (fun _ _ h => h) (ret1 Try.results27 rfl (.c .h (.c .h .n)) ⟨.slice (some ⟨g34, 0, none⟩) ((((((((i).toNat) - 0 : Nat) : Int) + (m.length : Int)) + ((l.length - (j).toNat : Nat) : Int))).toNat) c2, rfl, rfl⟩)

end Go.Proofs.Yteabdapdlfhncaa.Sx
