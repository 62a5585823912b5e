import Derived.Test.YtdpmnodiebpjeaaProg
import Derived.Test.YtdpmnodiebpjeaaS9
set_option linter.unusedVariables false
set_option linter.unusedSimpArgs false
set_option linter.unusedSectionVars false
set_option maxRecDepth 20000
set_option maxHeartbeats 1000000
namespace Go.Proofs.Ytdpmnodiebpjeaa.Sx.FV
open Go Go.SX Go.Proofs
theorem hbd7 : hasBody Try.prog 7 = true := by kernel_rfl
theorem ty29 : ty Try.prog 29 = some (true, 8) := by kernel_rfl
theorem hbd8 : hasBody Try.prog 8 = true := by kernel_rfl
theorem hbd11 : hasBody Try.prog 11 = true := by kernel_rfl
theorem hbd10 : hasBody Try.prog 10 = true := by kernel_rfl
theorem zf35 : (Try.prog.info? 35).bind (fun i => i.zero.map Value.cells) = some (List.toArray [.slice none 0 0]) := by kernel_rfl
theorem ty35 : ty Try.prog 35 = some (true, 1) := by kernel_rfl
theorem hbd13 : hasBody Try.prog 13 = true := by kernel_rfl
theorem fo35_0 : fo Try.prog 35 0 = some 0 := by kernel_rfl
theorem ty33 : ty Try.prog 33 = some (false, 1) := by kernel_rfl
theorem ty43 : ty Try.prog 43 = some (true, 2) := by kernel_rfl
theorem zf43 : (Try.prog.info? 43).bind (fun i => i.zero.map Value.cells) = some (List.toArray [.int .i64 0, .slice none 0 0]) := by kernel_rfl
theorem fo43_1 : fo Try.prog 43 1 = some 1 := by kernel_rfl
theorem ty41 : ty Try.prog 41 = some (false, 1) := by kernel_rfl
theorem ty46 : ty Try.prog 46 = some (true, 2) := by kernel_rfl
theorem zf46 : (Try.prog.info? 46).bind (fun i => i.zero.map Value.cells) = some (List.toArray [.int .i64 0, .int .i64 0]) := by kernel_rfl
theorem zv4 : (Try.prog.info? 4).bind (fun i => i.zero) = some (.bool false) := by kernel_rfl
end Go.Proofs.Ytdpmnodiebpjeaa.Sx.FV
namespace Go.Proofs.Ytdpmnodiebpjeaa.Sx
open Go Go.SX Go.Proofs FV
theorem seedRight_ (p : PB) (S : Nat → Prop) (wf : World) (hPB : PBF S wf p) (hU : SkU p) :
  TR0 Try.prog 4 [.agg #[.int .i64 p.dims, .int .i64 p.tn, .slice p.ptA p.time.length p.ptc, .int .i64 p.dn, .slice p.pdA p.dist.length p.pdc, .slice p.pvA p.vehs.length p.pvc, .slice p.pjA p.jobs.length p.pjc, .slice p.psA p.ships.length p.psc]] [] S wf (fun v_ C_ => v_ = .bool true ∧ C_ = []) := by
 refine TR.mk Try.func4 rfl Try.ntmps4 rfl rfl (fun w_ => ?_)
 refine .seq (.region (.cons (st_boxa rfl rfl rfl rfl rfl (fun b1 => .a rfl rfl rfl (.go idQ (.seq ?_))))))
 refine .seq (.region (.cons (st_callk rfl rfl rfl rfl hbd7 rfl .n (awake15_ _ _) (.v (ev_not rfl rfl) rfl (.go idQ (.cond_f rfl ?_))))))
 refine .skipgo idQ (.seq (.seq (.region (.v (ev_lda rfl rfl (At.whole 0 rfl) ty29) rfl (.cons (st_call00 rfl rfl rfl rfl hbd8 rfl .n (small_ p _ _ hPB hU) (by intro v C h; obtain ⟨_, _, rfl, rfl⟩ := h; rfl) (fun v_q3 q3 => ?_)))))))
 obtain ⟨b2, p4, rfl, -⟩ := q3
 refine .v (ev_not rfl rfl) rfl (.go idQ (.condI rfl (bN bV) (fun h5 => ?_) (fun h5 => ?_)))
 ·
  exact .seq (.region (.a rfl rfl rfl (.go idQ (.ret idQ (ret1 Try.results4 rfl .n ⟨rfl, rfl⟩)))))
 refine .skipgo idQ (.seq ?_)
 have hLp := p4 (by first | assumption | exact Classical.not_not.1 (by assumption))
 refine .region (.v (ev_lda rfl rfl (At.whole 0 rfl) ty29) rfl (.cons (st_call rfl rfl rfl rfl hbd11 rfl .n (copied_ p _ _ hPB hLp.1) (fun v_q7 C_q7 S_q7 wf_q7 q7 hx_q7 => ?_))))
 obtain ⟨⟨q6, p8, p9, rfl⟩, rfl⟩ := q7
 show SP _ _ _ _ _ _ ⟨_, [cel b1 [.int .i64 p.dims, .int .i64 p.tn, .slice p.ptA p.time.length p.ptc, .int .i64 p.dn, .slice p.pdA p.dist.length p.pdc, .slice p.pvA p.vehs.length p.pvc, .slice p.pjA p.jobs.length p.pjc, .slice p.psA p.ships.length p.psc] 29], _, _⟩
 have hLq : LawP q6 := law_era p9 hLp.1
 refine .cons (st_call0 rfl rfl rfl rfl hbd10 rfl .n (sgreedy_ q6 _ _ p8 hLq) (fun v_q12 C_q12 q12 => ?_))
 obtain ⟨u10, R11, p13, rfl, rfl⟩ := q12
 show SP _ _ _ _ _ _ ⟨_, _ :: _ :: _, _, _⟩
 have hg : R11.map rc = greedyF p := by rw [p13]; exact greedy_era p9
 have hRl := greedy_lr hLp.1 hg
 have hS : SolI p (R11.map rc) := by rw [hg]; exact (greedy_right p).1
 have hN : (allV (R11.map rc)).Nodup := by rw [hg]; exact (greedy_right p).2
 have hvs : ∀ i : Int, (gt R11 i).vis.length ≤ 40 := fun i => by have h_ := RBd_gt (b := 40) (by rw [hg]; exact greedy_bd hLp.1) (by omega) i; omega
 refine .know (row_len 0 rfl) (fun hv16 => ?_)
 obtain ⟨A14, c15, rfl, hv16_1, hv16_2⟩ := hv16
 unfold maxLen at hv16_2
 refine .cons (st_alloc rfl rfl rfl rfl zf35 (fun b17 => .cons (st_storea (l' := [.slice A14 R11.length c15]) rfl rfl rfl ty35 rfl rfl rfl .h rfl rfl (.go idQ (.seq (.region (.v (ev_lda rfl rfl (At.whole 3 rfl) ty29) rfl ?_)))))))
 refine .v (ev_lda rfl rfl (At.whole 0 rfl) ty35) rfl (.cons (st_lendk rfl rfl rfl rfl hbd13 rfl .n (.c (.t .h) (.c (.t .h) .n)) (fun w_ hw => rcheck15_ p A14 c15 R11 _ _ (Fr.lend hw 0 rfl (by first | omega | simp only [LL] <;> omega | simp <;> omega)) ((((hPB).ext hx_q7)).ext hw.lendx) (RTF.lend hw 1 rfl) hLp.1 (by first | omega | simp only [LL] <;> omega | simp <;> omega) (by first | omega | simp only [LL] <;> omega | simp <;> omega) (fun i_ => by have := hvs i_; omega) hS hN) (.m rfl rfl rfl (.v (ev_ext rfl rfl rfl) rfl (.v (ev_ext rfl rfl rfl) rfl (.a rfl rfl rfl ?_))))))
 refine .a rfl rfl rfl (.go idQ (.seq (.seq (.region (.m rfl rfl rfl ?_)))))
 refine .v (ev_cmp (r := false) rfl rfl rfl rfl) rfl (.go idQ (.cond_f rfl (.skipgo idQ (.seq ?_))))
 refine SC.freeze (R := [rw_ eRT 43 (.slice A14 R11.length c15) R11, nestR 46 R11]) (.c (.t .h) (.c (.t .h) .n)) (fun Sz18 wfz18 hxz18 hhz18 hsz18 => ?_)
 have hfz18_0 := Fr.of_row (hhz18 _ (by simp)) (fun b hb => hsz18 b (feet_of 0 rfl hb)) (by first | omega | simp only [LL] <;> omega | simp <;> omega)
 have hfz18_1 := RTF.of (hhz18 _ (by simp)) (fun b hb => hsz18 b (feet_of 1 rfl hb))
 refine .region (.cons (st_mkmap (α := Vis) (β := Bool) keVis.f (.bool) rfl rfl rfl rfl (fun b19 => .a rfl rfl rfl (.go idQ (.seq (.seq ?_))))))
 refine .region (.v (ev_fa rfl fo35_0 rfl (r := 0) rfl) rfl (.v (ev_ld1 rfl ty33 rfl (At.own1 1 rfl rfl)) rfl (.v (ev_len rfl Try.underlying33 rfl) rfl (.m rfl rfl rfl (.go idQ ?_)))))
 refine .block ?_
 refine .loop (X := Int × (List (Vis × Bool))) (fun ⟨i, m⟩ => 0 ≤ i ∧ i ≤ ((R11.length : Nat) : Int) ∧ (∀ x : Vis, mget m x false = true → x ∈ allV ((R11.take i.toNat).map rc))) (fun ⟨i, m⟩ => [(6, .map (some b19)), (29, .slice A14 R11.length c15), (30, .int .i64 (R11.length : Int)), (31, .int .i64 i)]) (fun ⟨i, m⟩ => [mp keVis.f (.bool) b19 m, cel b17 [.slice A14 R11.length c15] 35, cel b1 [.int .i64 p.dims, .int .i64 p.tn, .slice p.ptA p.time.length p.ptc, .int .i64 p.dn, .slice p.pdA p.dist.length p.pdc, .slice p.pvA p.vehs.length p.pvc, .slice p.pjA p.jobs.length p.pjc, .slice p.psA p.ships.length p.psc] 29]) (fun _ => Sz18) (fun _ => wfz18) (fun ⟨i, m⟩ => (((R11.length : Nat) : Int) - i).toNat) (fun a_ w_ hs_ hw_ => ⟨⟨0, ([] : List (Vis × Bool))⟩, (by exact ⟨(by omega), (by omega), (fun x h_ => by cases h_)⟩), hs_.mono (Sub.get (.c4 rfl rfl rfl rfl .n)), hw_.keep (.c .h (.c .h (.c .h .n)))⟩) (fun ⟨i, m⟩ ⟨q_0, q_1, q_2⟩ => ?_)
 show SC _ _ _ _ _ ⟨[(6, .map (some b19)), (29, .slice A14 R11.length c15), (30, .int .i64 (R11.length : Int)), (31, .int .i64 i)], [mp keVis.f (.bool) b19 m, cel b17 [.slice A14 R11.length c15] 35, cel b1 [.int .i64 p.dims, .int .i64 p.tn, .slice p.ptA p.time.length p.ptc, .int .i64 p.dn, .slice p.pdA p.dist.length p.pdc, .slice p.pvA p.vehs.length p.pvc, .slice p.pjA p.jobs.length p.pjc, .slice p.psA p.ships.length p.psc] 29], Sz18, wfz18⟩
 refine .seq (.region (.v (ev_cmp rfl rfl rfl rfl) rfl (.go idQ (.seq (.condI rfl bD (fun h20 => ?_) (fun h20 => ?_))))))
 ·
  refine .skipgo idQ (.seq (.block (.seq (.region (.v (ev_ix rfl Try.underlying33 ty43 rfl rfl (by omega) (by omega) (fun _ _ => Fr.adr (i := i) hfz18_0 (by omega) (by omega))) rfl ?_)))))
  refine .v (ev_lda rfl rfl (At.w (Fr.el (i := i) hfz18_0 (by omega) (by omega))) ty43) rfl (.cons (st_alloc rfl rfl rfl rfl zf43 (fun b21 => .cons (st_storea (l' := [.int .i64 ((gt R11 i).veh), .slice ((gt R11 i).rA) ((gt R11 i).vis.length) ((gt R11 i).rc)]) rfl rfl rfl ty43 rfl rfl rfl .h rfl rfl (.go idQ (.seq ?_))))))
  have hvi := hvs i
  refine .region (.v (ev_fa rfl fo43_1 rfl (r := 1) rfl) rfl (.v (ev_ld1 rfl ty41 rfl (At.own1 0 rfl rfl)) rfl (.v (ev_len rfl Try.underlying41 rfl) rfl (.m rfl rfl rfl (.go idQ ?_)))))
  refine .block ?_
  refine .loop (X := Int × (List (Vis × Bool))) (fun ⟨j, m2⟩ => 0 ≤ j ∧ j ≤ (((gt R11 i).vis.length : Nat) : Int) ∧ (∀ x : Vis, mget m2 x false = true → x ∈ allV ((R11.take i.toNat).map rc) ∨ x ∈ (gt R11 i).vis.take j.toNat)) (fun ⟨j, m2⟩ => [(6, .map (some b19)), (29, .slice A14 R11.length c15), (30, .int .i64 (R11.length : Int)), (31, .int .i64 i), (36, .slice ((gt R11 i).rA) ((gt R11 i).vis.length) ((gt R11 i).rc)), (37, .int .i64 (((gt R11 i).vis.length : Nat) : Int)), (38, .int .i64 j)]) (fun ⟨j, m2⟩ => [cel b21 [.int .i64 ((gt R11 i).veh), .slice ((gt R11 i).rA) ((gt R11 i).vis.length) ((gt R11 i).rc)] 43, mp keVis.f (.bool) b19 m2, cel b17 [.slice A14 R11.length c15] 35, cel b1 [.int .i64 p.dims, .int .i64 p.tn, .slice p.ptA p.time.length p.ptc, .int .i64 p.dn, .slice p.pdA p.dist.length p.pdc, .slice p.pvA p.vehs.length p.pvc, .slice p.pjA p.jobs.length p.pjc, .slice p.psA p.ships.length p.psc] 29]) (fun _ => Sz18) (fun _ => wfz18) (fun ⟨j, m2⟩ => ((((gt R11 i).vis.length : Nat) : Int) - j).toNat) (fun a_ w_ hs_ hw_ => ⟨⟨0, m⟩, (by exact ⟨(by omega), (by omega), (fun x h_ => .inl (q_2 x h_))⟩), hs_.mono (Sub.get (.c4 rfl rfl rfl rfl (.c rfl (.c rfl (.c rfl .n))))), hw_.keep (.c .h (.c .h (.c .h (.c .h .n))))⟩) (fun ⟨j, m2⟩ ⟨r_0, r_1, r_2⟩ => ?_)
  show SC _ _ _ _ _ ⟨[(6, .map (some b19)), (29, .slice A14 R11.length c15), (30, .int .i64 (R11.length : Int)), (31, .int .i64 i), (36, .slice ((gt R11 i).rA) ((gt R11 i).vis.length) ((gt R11 i).rc)), (37, .int .i64 (((gt R11 i).vis.length : Nat) : Int)), (38, .int .i64 j)], [cel b21 [.int .i64 ((gt R11 i).veh), .slice ((gt R11 i).rA) ((gt R11 i).vis.length) ((gt R11 i).rc)] 43, mp keVis.f (.bool) b19 m2, cel b17 [.slice A14 R11.length c15] 35, cel b1 [.int .i64 p.dims, .int .i64 p.tn, .slice p.ptA p.time.length p.ptc, .int .i64 p.dn, .slice p.pdA p.dist.length p.pdc, .slice p.pvA p.vehs.length p.pvc, .slice p.pjA p.jobs.length p.pjc, .slice p.psA p.ships.length p.psc] 29], Sz18, wfz18⟩
  refine .seq (.region (.v (ev_cmp rfl rfl rfl rfl) rfl (.go idQ (.seq (.condI rfl bD (fun h22 => ?_) (fun h22 => ?_))))))
  ·
   refine .skipgo idQ (.seq (.block (.seq (.region (.v (ev_ix rfl Try.underlying41 ty46 rfl rfl (by omega) (by omega) (fun _ _ => Fr.adr (i := j) (hfz18_1 i) (by omega) (by omega))) rfl ?_)))))
   refine .v (ev_lda rfl rfl (At.w (Fr.el (i := j) (hfz18_1 i) (by omega) (by omega))) ty46) rfl (.cons (st_alloc rfl rfl rfl rfl zf46 (fun b23 => .cons (st_storea (l' := [.int .i64 ((gt ((gt R11 i).vis) j).kind), .int .i64 ((gt ((gt R11 i).vis) j).item)]) rfl rfl rfl ty46 rfl rfl rfl .h rfl rfl (.go idQ (.seq (.seq ?_)))))))
   refine .region (.m rfl rfl rfl (.v (ev_lda rfl rfl (At.whole 0 rfl) ty46) rfl (.v (ev_lkp keVis (m := m2) (x := (gt ((gt R11 i).vis) j)) (z := false) rfl Try.underlying40 zv4 rfl rfl 2 rfl) rfl (.go idQ (.condI rfl bV (fun h24 => ?_) (fun h24 => ?_))))))
   ·
    exfalso; rcases r_2 _ (by assumption) with h_ | h_; exact nodup_no hN (by omega) (by omega) (by omega) (by omega) h_; exact nodup_in hN (by omega) (by omega) (by omega) (by omega) h_
   refine .skipgo idQ (.region (.m rfl rfl rfl (.v (ev_lda rfl rfl (At.whole 0 rfl) ty46) rfl (.cons (st_mapSet keVis (u := undef) (x := (gt ((gt R11 i).vis) j)) (v := true) rfl rfl rfl Try.underlying40 rfl rfl rfl (.t (.t .h)) (.go idQ ?_))))))
   exact .region (.v (ev_add rfl rfl rfl (r := (j + 1)) rfl (by omega) (by omega)) rfl (.m rfl rfl rfl (SP.nil (SQ.roundb (X := Int × (List (Vis × Bool))) (x := (j, m2)) ⟨(j + 1), (mset m2 (gt ((gt R11 i).vis) j) true)⟩ (by exact ⟨(by omega), (by omega), (seen_nx r_2 (by omega) (by omega))⟩) (by dsimp only; omega) (Sub.get (.c4 rfl rfl rfl rfl (.c rfl (.c rfl (.c rfl .n))))) (fun w hw => hw.keep (.c (.t (.t .h)) (.c .h (.c (.t .h) (.c (.t .h) .n)))))))))
  exact .exit idQ (.region (.v (ev_add rfl rfl rfl (r := (i + 1)) rfl (by omega) (by omega)) rfl (.m rfl rfl rfl (SP.nil (SQ.roundb (X := Int × (List (Vis × Bool))) (x := (i, m)) ⟨(i + 1), m2⟩ (by exact ⟨(by omega), (by omega), (fun x h_ => by rw [allV_take (by omega) (by omega)]; rcases r_2 x h_ with h2_ | h2_; exact List.mem_append_left _ h2_; exact List.mem_append_right _ (List.mem_of_mem_take h2_))⟩) (by dsimp only; omega) (Sub.get (.c4 rfl rfl rfl rfl .n)) (fun w hw => hw.keep (.c (.t .h) (.c (.t .h) (.c (.t .h) .n)))))))))
 refine .exit idQ (.seq (.region (.a rfl rfl rfl (.go idQ ?_))))
 refine SC.thaw hxz18 ?_
 refine SC.thaw hx_q7 ?_
 exact .ret idQ (ret1 Try.results4 rfl .n ⟨rfl, rfl⟩)
end Go.Proofs.Ytdpmnodiebpjeaa.Sx
namespace Go.SX
open Go Go.RowKit
def TellsW (P : Program) (w : World) (e : TypeId) {α : Type} (E : Enc α) (good : α → Prop) : Prop :=
  ∀ {H : Type} (enc : TypeId × Value → H) (base : Nat) (spare : Nat → Bool) (held : Bool) (n : Nat) (cs : List Value) (y : DataW H × List MemPlace), DataW.trod enc P w base spare held n e cs = some y → (∀ b ∈ y.1.weights P e, b ≤ reachBytes) → ∃ a, cs = E.enc a ∧ good a
section
variable {H : Type} {enc : TypeId × Value → H} {P : Program} {w : World} {base : Nat} {spare : Nat → Bool} {held : Bool}
theorem weightsAll_mem {e : TypeId} {d : DataW H} {b : Nat} : ∀ {l : List (DataW H)}, d ∈ l → b ∈ d.weights P e → b ∈ DataW.weightsAll P e l
  | [], h, _ => by cases h
  | x :: r, h, hb => by
    unfold DataW.weightsAll
    rcases List.mem_cons.1 h with rfl | h
    · exact List.mem_append_left _ hb
    · exact List.mem_append_right _ (weightsAll_mem h hb)
theorem rows_w {α : Type} [Inhabited α] {E : Enc α} {good : α → Prop} {t e : TypeId} {fuel : Nat} {cs : List Value} {x : DataW H × List MemPlace} (ht : P.underlying t = some (.slice e)) (he : P.cellsOf e = E.sz) (hT : TellsW P w e E good) (hbo : 1 ≤ P.bytesOf e)
    (h : DataW.trod enc P w base spare held fuel t cs = some x) (hw : ∀ b ∈ x.1.weights P t, b ≤ reachBytes) :
    ∃ A l cap, cs = [.slice A l.length cap] ∧ Fr E (fun b => b < w.heap.size) w A l ∧ ∀ y ∈ l, good y := by
  rcases DataW.trod_slice ht h with h0 | ⟨a, len, cap, elems, rest, n, hx1, rfl, rfl, hb, hl, hm, hlen, hel, hsp, hns⟩
  · exact ⟨none, [], 0, h0.1, Fr.nil _ _ _ _, by simp⟩
  have hw2 : ∀ b ∈ DataW.weights P t (.slice (elems.map (·.1)) (rest.map (·.1))), b ≤ reachBytes := hw
  have each : ∀ i, i < len → ∃ x : α, good x ∧ w.cells? base (a.add (i * E.sz)) E.sz = some (E.enc x) := by
    intro i hi
    have h1 := hel i hi
    have h2 : elems[i]? = some (elems[i]'(by omega)) := List.getElem?_eq_getElem (by omega)
    rw [h2, he, Option.bind_eq_some_iff] at h1
    obtain ⟨cs', h3, h4⟩ := h1
    obtain ⟨x, rfl, hg⟩ := hT enc base spare held n cs' _ h4 (fun b hb => hw2 b (by
      unfold DataW.weights
      rw [ht]
      exact List.mem_cons_of_mem _ (List.mem_append_left _ (weightsAll_mem (List.mem_map_of_mem (List.getElem_mem (by omega))) hb))))
    exact ⟨x, hg, h3⟩
  let f : Nat → α := fun i => if hi : i < len then (each i hi).choose else default
  have hf : ∀ i (hi : i < len), f i = (each i hi).choose := fun i hi => dif_pos hi
  have hbig : len ≤ 140737488355328 := by
    have h1 := hw2 ((elems.map (·.1)).length + (rest.map (·.1)).length |>.mul (P.bytesOf e)) (by unfold DataW.weights; rw [ht]; exact List.mem_cons_self ..)
    have h11 : elems.length * 1 ≤ ((elems.map (·.1)).length + (rest.map (·.1)).length) * P.bytesOf e := Nat.mul_le_mul (by simp) hbo
    have h12 : reachBytes < 2 ^ 47 := reachBytes_lt
    have h13 : ((elems.map (·.1)).length + (rest.map (·.1)).length) * P.bytesOf e ≤ reachBytes := h1
    omega
  have hgood : ∀ x ∈ (List.range len).map f, good x := by
    intro x hx
    obtain ⟨i, hi, rfl⟩ := List.mem_map.1 hx
    have hlt : i < len := by simpa using hi
    rw [hf i hlt]
    exact (each i hlt).choose_spec.1
  refine ⟨some a, (List.range len).map f, cap, by simp, ⟨by simpa using hbig, ?_⟩, hgood⟩
  rcases Nat.eq_zero_or_pos len with h0 | h0
  · subst h0; exact .inl (by simp)
  have hat : ∀ i, i < len → ∀ j u, (E.enc (f i))[j]? = some u → w.cell? (a.add (i * E.sz + j)) = some u := by
    intro i hi j u hj
    obtain ⟨_, h1, h2⟩ := World.cells?_some (each i hi).choose_spec.2
    rw [← hf i hi] at h1 h2
    have hjs : j < E.sz := by have := (List.getElem?_eq_some_iff.1 hj).1; omega
    rw [← add_zero_add, h2 j hjs, hj]
  have hpos := E.pos
  have hspot : a.spot = none := by
    have h1 : (E.enc (f 0)).length = E.sz := E.len _
    have h2 := hat 0 h0 0 ((E.enc (f 0))[0]'(by omega)) (List.getElem?_eq_getElem (by omega))
    have h3 := World.cell?_spot h2
    simpa [Addr.add] using h3
  obtain ⟨b, off, spot⟩ := a
  simp only at hspot
  subst hspot
  have hall : ∀ i x, ((List.range len).map f)[i]? = some x → At w b (off + i * E.sz) (E.enc x) := fun i x hx j u hu => by
    simp only [List.getElem?_map, Option.map_eq_some_iff] at hx
    obtain ⟨i', hi', rfl⟩ := hx
    have hi2 := List.getElem?_eq_some_iff.1 hi'
    obtain ⟨hlt, heq⟩ := hi2
    simp at heq hlt
    subst heq
    have := hat i hlt j u hu
    rw [show off + i * E.sz + j = off + (i * E.sz + j) from by omega]
    have e1 : (⟨b, off, none⟩ : Addr).add (i * E.sz + j) = ⟨b, off + (i * E.sz + j), none⟩ := by
      unfold Addr.add
      split
      · rename_i h0; rw [h0]; rfl
      · rfl
    rwa [e1] at this
  refine .inr ⟨b, off, rfl, ?_, hall⟩
  have hx := hall 0 (f 0) (by simp [h0])
  have hl1 := E.len (f 0)
  have := hx 0 ((E.enc (f 0))[0]'(by omega)) (List.getElem?_eq_getElem (by omega))
  unfold World.cell? at this
  cases hb1 : w.heap[b]? with
  | none => simp only [hb1] at this; cases this
  | some o => exact lt_of_some hb1
theorem struct_w {t : TypeId} {fuel : Nat} {cs : List Value} {x : DataW H × List MemPlace} {fs : Array Field} (ht : P.underlying t = some (.struct fs)) (h : DataW.trod enc P w base spare held fuel t cs = some x) (hw : ∀ b ∈ x.1.weights P t, b ≤ reachBytes) :
    ∃ n, cs.length = P.cellsOf t ∧ ∀ (i : Nat) (f : Field), fs[i]? = some f → ∃ y : DataW H × List MemPlace, DataW.trod enc P w base spare held n f.type ((cs.drop f.offset).take (P.cellsOf f.type)) = some y ∧ ∀ b ∈ y.1.weights P f.type, b ≤ reachBytes := by
  obtain ⟨xs, n, _, rfl, hl, hx, hf⟩ := DataW.trod_struct ht h
  refine ⟨n, hl, fun i f hi => ?_⟩
  have h1 := hf i f hi
  have hlt : i < fs.size := (Array.getElem?_eq_some_iff.1 hi).1
  rw [List.getElem?_eq_getElem (by omega)] at h1
  refine ⟨xs[i]'(by omega), h1, fun b hb => hw b ?_⟩
  show b ∈ DataW.weights P t (.agg (xs.map (·.1)))
  unfold DataW.weights
  rw [ht]
  exact DataW.weights_mem_each (j := i) (d := (xs[i]'(by omega)).1) (by simp [hi]) (by simp [List.getElem?_eq_getElem (show i < xs.length by omega)]) b hb
theorem int_w {e : TypeId} (he : P.underlying e = some (.int .i64)) : TellsW P w e eZ (fun _ => True) := fun enc base spare held n cs y hy _ => by
  obtain ⟨m, rfl, _, _⟩ := DataW.trod_int he hy
  exact ⟨m, rfl, trivial⟩
end
end Go.SX
set_option maxRecDepth 20000
namespace Go.Proofs.Ytdpmnodiebpjeaa.Sx
open Go Go.SX Go.Proofs
theorem cO3 : Try.prog.cellsOf 3 = 1 := by kernel_rfl
theorem cO22 : Try.prog.cellsOf 22 = 1 := by kernel_rfl
theorem cO24 : Try.prog.cellsOf 24 = 2 := by kernel_rfl
theorem cO25 : Try.prog.cellsOf 25 = 1 := by kernel_rfl
theorem cO26 : Try.prog.cellsOf 26 = 1 := by kernel_rfl
theorem cO27 : Try.prog.cellsOf 27 = 1 := by kernel_rfl
theorem cO29 : Try.prog.cellsOf 29 = 8 := by kernel_rfl
theorem cO65 : Try.prog.cellsOf 65 = 1 := by kernel_rfl
theorem cO72 : Try.prog.cellsOf 72 = 2 := by kernel_rfl
theorem cO73 : Try.prog.cellsOf 73 = 1 := by kernel_rfl
theorem cO75 : Try.prog.cellsOf 75 = 11 := by kernel_rfl
theorem cO76 : Try.prog.cellsOf 76 = 1 := by kernel_rfl
theorem cO78 : Try.prog.cellsOf 78 = 2 := by kernel_rfl
theorem cO81 : Try.prog.cellsOf 81 = 3 := by kernel_rfl
theorem cO83 : Try.prog.cellsOf 83 = 7 := by kernel_rfl
theorem cO86 : Try.prog.cellsOf 86 = 9 := by kernel_rfl
theorem wf_u64 {n : Int} (h : (Lit.int .u64 n).wf = true) : 0 ≤ n := by simp [Lit.wf, IntKind.min, IntKind.max, IntKind.signed, IntKind.bits] at h; omega
def eSO : Enc SO where
 sz := 5 - 2
 enc x := [.int .i64 x.pl, .int .i64 x.srv, .slice x.soA x.sws.length x.soc]
 len _ := rfl
 one x u hu := by simp at hu; rcases hu with rfl | rfl | rfl <;> rfl
 pos := by decide
structure MX where
 n : Int
 l : List Int
 A : Option Addr
 c : Nat
def eMX : Enc MX where
 sz := 2
 enc x := [.int .i64 x.n, .slice x.A x.l.length x.c]
 len _ := rfl
 one x u hu := by simp at hu; rcases hu with rfl | rfl <;> rfl
 pos := by decide
def ePB : Enc PB where
 sz := 8
 enc p := [.int .i64 p.dims, .int .i64 p.tn, .slice p.ptA p.time.length p.ptc, .int .i64 p.dn, .slice p.pdA p.dist.length p.pdc, .slice p.pvA p.vehs.length p.pvc, .slice p.pjA p.jobs.length p.pjc, .slice p.psA p.ships.length p.psc]
 len _ := rfl
 one x u hu := by simp at hu; rcases hu with rfl | rfl | rfl | rfl | rfl | rfl | rfl | rfl <;> rfl
 pos := by decide
section
variable {w : World}
abbrev HS (w : World) : Nat → Prop := fun b => b < w.heap.size
theorem tw72 : TellsW Try.prog w 72 eWN (fun _ => True) := by
 intro H enc base spare held n cs y h hw
 obtain ⟨k, hl, hf⟩ := struct_w Try.underlying72 h hw
 rw [cO72] at hl
 match cs, hl with
 | [v0, v1], _ =>
  obtain ⟨y0, h0, w0⟩ := hf 0 _ rfl
  replace h0 : DataW.trod enc Try.prog w base spare held k 3 (([v0, v1].drop 0).take (Try.prog.cellsOf 3)) = some y0 := h0
  rw [cO3] at h0
  replace h0 : DataW.trod enc Try.prog w base spare held k 3 [v0] = some y0 := h0
  obtain ⟨y1, h1, w1⟩ := hf 1 _ rfl
  replace h1 : DataW.trod enc Try.prog w base spare held k 3 (([v0, v1].drop 1).take (Try.prog.cellsOf 3)) = some y1 := h1
  rw [cO3] at h1
  replace h1 : DataW.trod enc Try.prog w base spare held k 3 [v1] = some y1 := h1
  obtain ⟨m0, e0, _, wf0⟩ := DataW.trod_int Try.underlying3 h0
  simp only [List.cons.injEq, and_true] at e0
  subst e0
  obtain ⟨m1, e1, _, wf1⟩ := DataW.trod_int Try.underlying3 h1
  simp only [List.cons.injEq, and_true] at e1
  subst e1
  exact ⟨⟨m0, m1⟩, rfl, trivial⟩
theorem tw78 : TellsW Try.prog w 78 eBK (fun b => BKF (HS w) w b) := by
 intro H enc base spare held n cs y h hw
 obtain ⟨k, hl, hf⟩ := struct_w Try.underlying78 h hw
 rw [cO78] at hl
 match cs, hl with
 | [v0, v1], _ =>
  obtain ⟨y0, h0, w0⟩ := hf 0 _ rfl
  replace h0 : DataW.trod enc Try.prog w base spare held k 76 (([v0, v1].drop 0).take (Try.prog.cellsOf 76)) = some y0 := h0
  rw [cO76] at h0
  replace h0 : DataW.trod enc Try.prog w base spare held k 76 [v0] = some y0 := h0
  obtain ⟨y1, h1, w1⟩ := hf 1 _ rfl
  replace h1 : DataW.trod enc Try.prog w base spare held k 3 (([v0, v1].drop 1).take (Try.prog.cellsOf 3)) = some y1 := h1
  rw [cO3] at h1
  replace h1 : DataW.trod enc Try.prog w base spare held k 3 [v1] = some y1 := h1
  obtain ⟨m1, e1, _, wf1⟩ := DataW.trod_int Try.underlying3 h1
  simp only [List.cons.injEq, and_true] at e1
  subst e1
  obtain ⟨AW, lW, cW, elW, frW, gdW⟩ := rows_w (E := eWN) Try.underlying76 cO72 tw72 (by decide +kernel) h0 w0
  simp only [List.cons.injEq, and_true] at elW
  subst elW
  exact ⟨⟨lW, m1, AW, cW⟩, rfl, frW⟩
theorem tw75 : TellsW Try.prog w 75 eVH (fun v => VHF (HS w) w v ∧ 0 ≤ v.vsk) := by
 intro H enc base spare held n cs y h hw
 obtain ⟨k, hl, hf⟩ := struct_w Try.underlying75 h hw
 rw [cO75] at hl
 match cs, hl with
 | [v0, v1, v2, v3, v4, v5, v6, v7, v8, v9, v10], _ =>
  obtain ⟨y0, h0, w0⟩ := hf 0 _ rfl
  replace h0 : DataW.trod enc Try.prog w base spare held k 3 (([v0, v1, v2, v3, v4, v5, v6, v7, v8, v9, v10].drop 0).take (Try.prog.cellsOf 3)) = some y0 := h0
  rw [cO3] at h0
  replace h0 : DataW.trod enc Try.prog w base spare held k 3 [v0] = some y0 := h0
  obtain ⟨y1, h1, w1⟩ := hf 1 _ rfl
  replace h1 : DataW.trod enc Try.prog w base spare held k 3 (([v0, v1, v2, v3, v4, v5, v6, v7, v8, v9, v10].drop 1).take (Try.prog.cellsOf 3)) = some y1 := h1
  rw [cO3] at h1
  replace h1 : DataW.trod enc Try.prog w base spare held k 3 [v1] = some y1 := h1
  obtain ⟨y2, h2, w2⟩ := hf 2 _ rfl
  replace h2 : DataW.trod enc Try.prog w base spare held k 22 (([v0, v1, v2, v3, v4, v5, v6, v7, v8, v9, v10].drop 2).take (Try.prog.cellsOf 22)) = some y2 := h2
  rw [cO22] at h2
  replace h2 : DataW.trod enc Try.prog w base spare held k 22 [v2] = some y2 := h2
  obtain ⟨y3, h3, w3⟩ := hf 3 _ rfl
  replace h3 : DataW.trod enc Try.prog w base spare held k 65 (([v0, v1, v2, v3, v4, v5, v6, v7, v8, v9, v10].drop 3).take (Try.prog.cellsOf 65)) = some y3 := h3
  rw [cO65] at h3
  replace h3 : DataW.trod enc Try.prog w base spare held k 65 [v3] = some y3 := h3
  obtain ⟨y4, h4, w4⟩ := hf 4 _ rfl
  replace h4 : DataW.trod enc Try.prog w base spare held k 72 (([v0, v1, v2, v3, v4, v5, v6, v7, v8, v9, v10].drop 4).take (Try.prog.cellsOf 72)) = some y4 := h4
  rw [cO72] at h4
  replace h4 : DataW.trod enc Try.prog w base spare held k 72 [v4, v5] = some y4 := h4
  obtain ⟨y5, h5, w5⟩ := hf 5 _ rfl
  replace h5 : DataW.trod enc Try.prog w base spare held k 3 (([v0, v1, v2, v3, v4, v5, v6, v7, v8, v9, v10].drop 6).take (Try.prog.cellsOf 3)) = some y5 := h5
  rw [cO3] at h5
  replace h5 : DataW.trod enc Try.prog w base spare held k 3 [v6] = some y5 := h5
  obtain ⟨y6, h6, w6⟩ := hf 6 _ rfl
  replace h6 : DataW.trod enc Try.prog w base spare held k 3 (([v0, v1, v2, v3, v4, v5, v6, v7, v8, v9, v10].drop 7).take (Try.prog.cellsOf 3)) = some y6 := h6
  rw [cO3] at h6
  replace h6 : DataW.trod enc Try.prog w base spare held k 3 [v7] = some y6 := h6
  obtain ⟨y7, h7, w7⟩ := hf 7 _ rfl
  replace h7 : DataW.trod enc Try.prog w base spare held k 3 (([v0, v1, v2, v3, v4, v5, v6, v7, v8, v9, v10].drop 8).take (Try.prog.cellsOf 3)) = some y7 := h7
  rw [cO3] at h7
  replace h7 : DataW.trod enc Try.prog w base spare held k 3 [v8] = some y7 := h7
  obtain ⟨y8, h8, w8⟩ := hf 8 _ rfl
  replace h8 : DataW.trod enc Try.prog w base spare held k 3 (([v0, v1, v2, v3, v4, v5, v6, v7, v8, v9, v10].drop 9).take (Try.prog.cellsOf 3)) = some y8 := h8
  rw [cO3] at h8
  replace h8 : DataW.trod enc Try.prog w base spare held k 3 [v9] = some y8 := h8
  obtain ⟨y9, h9, w9⟩ := hf 9 _ rfl
  replace h9 : DataW.trod enc Try.prog w base spare held k 73 (([v0, v1, v2, v3, v4, v5, v6, v7, v8, v9, v10].drop 10).take (Try.prog.cellsOf 73)) = some y9 := h9
  rw [cO73] at h9
  replace h9 : DataW.trod enc Try.prog w base spare held k 73 [v10] = some y9 := h9
  obtain ⟨m0, e0, _, wf0⟩ := DataW.trod_int Try.underlying3 h0
  simp only [List.cons.injEq, and_true] at e0
  subst e0
  obtain ⟨m1, e1, _, wf1⟩ := DataW.trod_int Try.underlying3 h1
  simp only [List.cons.injEq, and_true] at e1
  subst e1
  obtain ⟨m3, e3, _, wf3⟩ := DataW.trod_int Try.underlying65 h3
  simp only [List.cons.injEq, and_true] at e3
  subst e3
  obtain ⟨m5, e5, _, wf5⟩ := DataW.trod_int Try.underlying3 h5
  simp only [List.cons.injEq, and_true] at e5
  subst e5
  obtain ⟨m6, e6, _, wf6⟩ := DataW.trod_int Try.underlying3 h6
  simp only [List.cons.injEq, and_true] at e6
  subst e6
  obtain ⟨m7, e7, _, wf7⟩ := DataW.trod_int Try.underlying3 h7
  simp only [List.cons.injEq, and_true] at e7
  subst e7
  obtain ⟨m8, e8, _, wf8⟩ := DataW.trod_int Try.underlying3 h8
  simp only [List.cons.injEq, and_true] at e8
  subst e8
  obtain ⟨aS, eaS, gaS⟩ := tw72 enc base spare held k _ _ h4 w4
  simp only [eWN, List.cons.injEq, and_true] at eaS
  obtain ⟨rfl, rfl⟩ := eaS
  obtain ⟨AC, lC, cC, elC, frC, gdC⟩ := rows_w (E := eZ) Try.underlying22 cO3 (int_w Try.underlying3) (by decide +kernel) h2 w2
  simp only [List.cons.injEq, and_true] at elC
  subst elC
  obtain ⟨AB, lB, cB, elB, frB, gdB⟩ := rows_w (E := eBK) Try.underlying73 cO78 tw78 (by decide +kernel) h9 w9
  simp only [List.cons.injEq, and_true] at elB
  subst elB
  exact ⟨⟨m0, m1, lC, m3, aS.lo, aS.hi, m5, m6, m7, m8, lB, AC, cC, AB, cB⟩, rfl, ⟨frC, frB, gt_all (Φ := BKF (HS w) w) gdB (Fr.nil _ _ _ _)⟩, wf_u64 wf3⟩
theorem tw81 : TellsW Try.prog w 81 eSO (fun s => SOF (HS w) w s) := by
 intro H enc base spare held n cs y h hw
 obtain ⟨k, hl, hf⟩ := struct_w Try.underlying81 h hw
 rw [cO81] at hl
 match cs, hl with
 | [v0, v1, v2], _ =>
  obtain ⟨y0, h0, w0⟩ := hf 0 _ rfl
  replace h0 : DataW.trod enc Try.prog w base spare held k 3 (([v0, v1, v2].drop 0).take (Try.prog.cellsOf 3)) = some y0 := h0
  rw [cO3] at h0
  replace h0 : DataW.trod enc Try.prog w base spare held k 3 [v0] = some y0 := h0
  obtain ⟨y1, h1, w1⟩ := hf 1 _ rfl
  replace h1 : DataW.trod enc Try.prog w base spare held k 3 (([v0, v1, v2].drop 1).take (Try.prog.cellsOf 3)) = some y1 := h1
  rw [cO3] at h1
  replace h1 : DataW.trod enc Try.prog w base spare held k 3 [v1] = some y1 := h1
  obtain ⟨y2, h2, w2⟩ := hf 2 _ rfl
  replace h2 : DataW.trod enc Try.prog w base spare held k 76 (([v0, v1, v2].drop 2).take (Try.prog.cellsOf 76)) = some y2 := h2
  rw [cO76] at h2
  replace h2 : DataW.trod enc Try.prog w base spare held k 76 [v2] = some y2 := h2
  obtain ⟨m0, e0, _, wf0⟩ := DataW.trod_int Try.underlying3 h0
  simp only [List.cons.injEq, and_true] at e0
  subst e0
  obtain ⟨m1, e1, _, wf1⟩ := DataW.trod_int Try.underlying3 h1
  simp only [List.cons.injEq, and_true] at e1
  subst e1
  obtain ⟨AW, lW, cW, elW, frW, gdW⟩ := rows_w (E := eWN) Try.underlying76 cO72 tw72 (by decide +kernel) h2 w2
  simp only [List.cons.injEq, and_true] at elW
  subst elW
  exact ⟨⟨m0, m1, lW, AW, cW⟩, rfl, frW⟩
theorem tw83 : TellsW Try.prog w 83 eJB (fun v => JBF (HS w) w v ∧ 0 ≤ v.jsk) := by
 intro H enc base spare held n cs y h hw
 obtain ⟨k, hl, hf⟩ := struct_w Try.underlying83 h hw
 rw [cO83] at hl
 match cs, hl with
 | [v0, v1, v2, v3, v4, v5, v6], _ =>
  obtain ⟨y0, h0, w0⟩ := hf 0 _ rfl
  replace h0 : DataW.trod enc Try.prog w base spare held k 81 (([v0, v1, v2, v3, v4, v5, v6].drop 0).take (Try.prog.cellsOf 81)) = some y0 := h0
  rw [cO81] at h0
  replace h0 : DataW.trod enc Try.prog w base spare held k 81 [v0, v1, v2] = some y0 := h0
  obtain ⟨y1, h1, w1⟩ := hf 1 _ rfl
  replace h1 : DataW.trod enc Try.prog w base spare held k 22 (([v0, v1, v2, v3, v4, v5, v6].drop 3).take (Try.prog.cellsOf 22)) = some y1 := h1
  rw [cO22] at h1
  replace h1 : DataW.trod enc Try.prog w base spare held k 22 [v3] = some y1 := h1
  obtain ⟨y2, h2, w2⟩ := hf 2 _ rfl
  replace h2 : DataW.trod enc Try.prog w base spare held k 22 (([v0, v1, v2, v3, v4, v5, v6].drop 4).take (Try.prog.cellsOf 22)) = some y2 := h2
  rw [cO22] at h2
  replace h2 : DataW.trod enc Try.prog w base spare held k 22 [v4] = some y2 := h2
  obtain ⟨y3, h3, w3⟩ := hf 3 _ rfl
  replace h3 : DataW.trod enc Try.prog w base spare held k 65 (([v0, v1, v2, v3, v4, v5, v6].drop 5).take (Try.prog.cellsOf 65)) = some y3 := h3
  rw [cO65] at h3
  replace h3 : DataW.trod enc Try.prog w base spare held k 65 [v5] = some y3 := h3
  obtain ⟨y4, h4, w4⟩ := hf 4 _ rfl
  replace h4 : DataW.trod enc Try.prog w base spare held k 3 (([v0, v1, v2, v3, v4, v5, v6].drop 6).take (Try.prog.cellsOf 3)) = some y4 := h4
  rw [cO3] at h4
  replace h4 : DataW.trod enc Try.prog w base spare held k 3 [v6] = some y4 := h4
  obtain ⟨m3, e3, _, wf3⟩ := DataW.trod_int Try.underlying65 h3
  simp only [List.cons.injEq, and_true] at e3
  subst e3
  obtain ⟨m4, e4, _, wf4⟩ := DataW.trod_int Try.underlying3 h4
  simp only [List.cons.injEq, and_true] at e4
  subst e4
  obtain ⟨aS, eaS, gaS⟩ := tw81 enc base spare held k _ _ h0 w0
  simp only [eSO, List.cons.injEq, and_true] at eaS
  obtain ⟨rfl, rfl, rfl⟩ := eaS
  obtain ⟨AD, lD, cD, elD, frD, gdD⟩ := rows_w (E := eZ) Try.underlying22 cO3 (int_w Try.underlying3) (by decide +kernel) h1 w1
  simp only [List.cons.injEq, and_true] at elD
  subst elD
  obtain ⟨AK, lK, cK, elK, frK, gdK⟩ := rows_w (E := eZ) Try.underlying22 cO3 (int_w Try.underlying3) (by decide +kernel) h2 w2
  simp only [List.cons.injEq, and_true] at elK
  subst elK
  exact ⟨⟨aS, lD, lK, m3, m4, AD, cD, AK, cK⟩, rfl, ⟨frD, frK, gaS⟩, wf_u64 wf3⟩
theorem tw86 : TellsW Try.prog w 86 eSH (fun v => SHF (HS w) w v ∧ 0 ≤ v.ssk) := by
 intro H enc base spare held n cs y h hw
 obtain ⟨k, hl, hf⟩ := struct_w Try.underlying86 h hw
 rw [cO86] at hl
 match cs, hl with
 | [v0, v1, v2, v3, v4, v5, v6, v7, v8], _ =>
  obtain ⟨y0, h0, w0⟩ := hf 0 _ rfl
  replace h0 : DataW.trod enc Try.prog w base spare held k 81 (([v0, v1, v2, v3, v4, v5, v6, v7, v8].drop 0).take (Try.prog.cellsOf 81)) = some y0 := h0
  rw [cO81] at h0
  replace h0 : DataW.trod enc Try.prog w base spare held k 81 [v0, v1, v2] = some y0 := h0
  obtain ⟨y1, h1, w1⟩ := hf 1 _ rfl
  replace h1 : DataW.trod enc Try.prog w base spare held k 81 (([v0, v1, v2, v3, v4, v5, v6, v7, v8].drop 3).take (Try.prog.cellsOf 81)) = some y1 := h1
  rw [cO81] at h1
  replace h1 : DataW.trod enc Try.prog w base spare held k 81 [v3, v4, v5] = some y1 := h1
  obtain ⟨y2, h2, w2⟩ := hf 2 _ rfl
  replace h2 : DataW.trod enc Try.prog w base spare held k 22 (([v0, v1, v2, v3, v4, v5, v6, v7, v8].drop 6).take (Try.prog.cellsOf 22)) = some y2 := h2
  rw [cO22] at h2
  replace h2 : DataW.trod enc Try.prog w base spare held k 22 [v6] = some y2 := h2
  obtain ⟨y3, h3, w3⟩ := hf 3 _ rfl
  replace h3 : DataW.trod enc Try.prog w base spare held k 65 (([v0, v1, v2, v3, v4, v5, v6, v7, v8].drop 7).take (Try.prog.cellsOf 65)) = some y3 := h3
  rw [cO65] at h3
  replace h3 : DataW.trod enc Try.prog w base spare held k 65 [v7] = some y3 := h3
  obtain ⟨y4, h4, w4⟩ := hf 4 _ rfl
  replace h4 : DataW.trod enc Try.prog w base spare held k 3 (([v0, v1, v2, v3, v4, v5, v6, v7, v8].drop 8).take (Try.prog.cellsOf 3)) = some y4 := h4
  rw [cO3] at h4
  replace h4 : DataW.trod enc Try.prog w base spare held k 3 [v8] = some y4 := h4
  obtain ⟨m3, e3, _, wf3⟩ := DataW.trod_int Try.underlying65 h3
  simp only [List.cons.injEq, and_true] at e3
  subst e3
  obtain ⟨m4, e4, _, wf4⟩ := DataW.trod_int Try.underlying3 h4
  simp only [List.cons.injEq, and_true] at e4
  subst e4
  obtain ⟨aP, eaP, gaP⟩ := tw81 enc base spare held k _ _ h0 w0
  simp only [eSO, List.cons.injEq, and_true] at eaP
  obtain ⟨rfl, rfl, rfl⟩ := eaP
  obtain ⟨aD, eaD, gaD⟩ := tw81 enc base spare held k _ _ h1 w1
  simp only [eSO, List.cons.injEq, and_true] at eaD
  obtain ⟨rfl, rfl, rfl⟩ := eaD
  obtain ⟨AM, lM, cM, elM, frM, gdM⟩ := rows_w (E := eZ) Try.underlying22 cO3 (int_w Try.underlying3) (by decide +kernel) h2 w2
  simp only [List.cons.injEq, and_true] at elM
  subst elM
  exact ⟨⟨aP, aD, lM, m3, m4, AM, cM⟩, rfl, ⟨frM, gaP, gaD⟩, wf_u64 wf3⟩
theorem tw24 : TellsW Try.prog w 24 eMX (fun v => Fr eZ (HS w) w v.A v.l) := by
 intro H enc base spare held n cs y h hw
 obtain ⟨k, hl, hf⟩ := struct_w Try.underlying24 h hw
 rw [cO24] at hl
 match cs, hl with
 | [v0, v1], _ =>
  obtain ⟨y0, h0, w0⟩ := hf 0 _ rfl
  replace h0 : DataW.trod enc Try.prog w base spare held k 3 (([v0, v1].drop 0).take (Try.prog.cellsOf 3)) = some y0 := h0
  rw [cO3] at h0
  replace h0 : DataW.trod enc Try.prog w base spare held k 3 [v0] = some y0 := h0
  obtain ⟨y1, h1, w1⟩ := hf 1 _ rfl
  replace h1 : DataW.trod enc Try.prog w base spare held k 22 (([v0, v1].drop 1).take (Try.prog.cellsOf 22)) = some y1 := h1
  rw [cO22] at h1
  replace h1 : DataW.trod enc Try.prog w base spare held k 22 [v1] = some y1 := h1
  obtain ⟨m0, e0, _, wf0⟩ := DataW.trod_int Try.underlying3 h0
  simp only [List.cons.injEq, and_true] at e0
  subst e0
  obtain ⟨AC, lC, cC, elC, frC, gdC⟩ := rows_w (E := eZ) Try.underlying22 cO3 (int_w Try.underlying3) (by decide +kernel) h1 w1
  simp only [List.cons.injEq, and_true] at elC
  subst elC
  exact ⟨⟨m0, lC, AC, cC⟩, rfl, frC⟩
theorem tw29 : TellsW Try.prog w 29 ePB (fun p => PBF (HS w) w p ∧ SkU p) := by
 intro H enc base spare held n cs y h hw
 obtain ⟨k, hl, hf⟩ := struct_w Try.underlying29 h hw
 rw [cO29] at hl
 match cs, hl with
 | [v0, v1, v2, v3, v4, v5, v6, v7], _ =>
  obtain ⟨y0, h0, w0⟩ := hf 0 _ rfl
  replace h0 : DataW.trod enc Try.prog w base spare held k 3 (([v0, v1, v2, v3, v4, v5, v6, v7].drop 0).take (Try.prog.cellsOf 3)) = some y0 := h0
  rw [cO3] at h0
  replace h0 : DataW.trod enc Try.prog w base spare held k 3 [v0] = some y0 := h0
  obtain ⟨y1, h1, w1⟩ := hf 1 _ rfl
  replace h1 : DataW.trod enc Try.prog w base spare held k 24 (([v0, v1, v2, v3, v4, v5, v6, v7].drop 1).take (Try.prog.cellsOf 24)) = some y1 := h1
  rw [cO24] at h1
  replace h1 : DataW.trod enc Try.prog w base spare held k 24 [v1, v2] = some y1 := h1
  obtain ⟨y2, h2, w2⟩ := hf 2 _ rfl
  replace h2 : DataW.trod enc Try.prog w base spare held k 24 (([v0, v1, v2, v3, v4, v5, v6, v7].drop 3).take (Try.prog.cellsOf 24)) = some y2 := h2
  rw [cO24] at h2
  replace h2 : DataW.trod enc Try.prog w base spare held k 24 [v3, v4] = some y2 := h2
  obtain ⟨y3, h3, w3⟩ := hf 3 _ rfl
  replace h3 : DataW.trod enc Try.prog w base spare held k 25 (([v0, v1, v2, v3, v4, v5, v6, v7].drop 5).take (Try.prog.cellsOf 25)) = some y3 := h3
  rw [cO25] at h3
  replace h3 : DataW.trod enc Try.prog w base spare held k 25 [v5] = some y3 := h3
  obtain ⟨y4, h4, w4⟩ := hf 4 _ rfl
  replace h4 : DataW.trod enc Try.prog w base spare held k 26 (([v0, v1, v2, v3, v4, v5, v6, v7].drop 6).take (Try.prog.cellsOf 26)) = some y4 := h4
  rw [cO26] at h4
  replace h4 : DataW.trod enc Try.prog w base spare held k 26 [v6] = some y4 := h4
  obtain ⟨y5, h5, w5⟩ := hf 5 _ rfl
  replace h5 : DataW.trod enc Try.prog w base spare held k 27 (([v0, v1, v2, v3, v4, v5, v6, v7].drop 7).take (Try.prog.cellsOf 27)) = some y5 := h5
  rw [cO27] at h5
  replace h5 : DataW.trod enc Try.prog w base spare held k 27 [v7] = some y5 := h5
  obtain ⟨m0, e0, _, wf0⟩ := DataW.trod_int Try.underlying3 h0
  simp only [List.cons.injEq, and_true] at e0
  subst e0
  obtain ⟨aT, eaT, gaT⟩ := tw24 enc base spare held k _ _ h1 w1
  simp only [eMX, List.cons.injEq, and_true] at eaT
  obtain ⟨rfl, rfl⟩ := eaT
  obtain ⟨aD, eaD, gaD⟩ := tw24 enc base spare held k _ _ h2 w2
  simp only [eMX, List.cons.injEq, and_true] at eaD
  obtain ⟨rfl, rfl⟩ := eaD
  obtain ⟨AV, lV, cV, elV, frV, gdV⟩ := rows_w (E := eVH) Try.underlying25 cO75 tw75 (by decide +kernel) h3 w3
  simp only [List.cons.injEq, and_true] at elV
  subst elV
  obtain ⟨AJ, lJ, cJ, elJ, frJ, gdJ⟩ := rows_w (E := eJB) Try.underlying26 cO83 tw83 (by decide +kernel) h4 w4
  simp only [List.cons.injEq, and_true] at elJ
  subst elJ
  obtain ⟨AZ, lZ, cZ, elZ, frZ, gdZ⟩ := rows_w (E := eSH) Try.underlying27 cO86 tw86 (by decide +kernel) h5 w5
  simp only [List.cons.injEq, and_true] at elZ
  subst elZ
  exact ⟨⟨m0, aT.n, aT.l, aD.n, aD.l, lV, lJ, lZ, aT.A, aT.c, aD.A, aD.c, AV, cV, AJ, cJ, AZ, cZ⟩, rfl, ⟨gaT, gaD, ⟨frV, gt_all (Φ := VHF (HS w) w) (fun x hx => (gdV x hx).1) VHF.dflt⟩, ⟨frJ, gt_all (Φ := JBF (HS w) w) (fun x hx => (gdJ x hx).1) JBF.dflt⟩, ⟨frZ, gt_all (Φ := SHF (HS w) w) (fun x hx => (gdZ x hx).1) SHF.dflt⟩⟩, ⟨gt_all (Φ := fun v : VH => 0 ≤ v.vsk) (fun x hx => (gdV x hx).2) (Int.le_refl _), gt_all (Φ := fun v : JB => 0 ≤ v.jsk) (fun x hx => (gdJ x hx).2) (Int.le_refl _), gt_all (Φ := fun v : SH => 0 ≤ v.ssk) (fun x hx => (gdZ x hx).2) (Int.le_refl _)⟩⟩
end
end Go.Proofs.Ytdpmnodiebpjeaa.Sx
