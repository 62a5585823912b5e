import Derived.Test.YtimhdimhdimbjaaGreatS1
set_option linter.unusedVariables false
set_option linter.unusedSimpArgs false
set_option linter.unusedSectionVars false
namespace Go.SX
open Go Go.RowKit
section
variable {p : PB} {l : List Vis} {i : Int}
theorem cnt_y {x : Vis} {c : Int} (h : c = (((l.take i.toNat).count x : Nat) : Int)) (h0 : 0 ≤ i) (h1 : i < (l.length : Int)) (h2 : (gt l i).kind = x.kind ∧ (gt l i).item = x.item) : c + 1 = (((l.take (i + 1).toNat).count x : Nat) : Int) := by
  rw [take_gt h0 h1, List.count_append, vis_ext h2.1 h2.2, List.count_singleton_self, h]; omega
theorem cnt_n {x : Vis} {c : Int} (h : c = (((l.take i.toNat).count x : Nat) : Int)) (h0 : 0 ≤ i) (h1 : i < (l.length : Int)) (h2 : ¬ ((gt l i).kind = x.kind ∧ (gt l i).item = x.item)) : c = (((l.take (i + 1).toNat).count x : Nat) : Int) := by
  rw [take_gt h0 h1, List.count_append, List.count_singleton, if_neg (fun e => h2 (by have := beq_iff_eq.1 e; rw [this]; exact ⟨rfl, rfl⟩)), h]; omega
theorem take_all_len : l.take ((l.length : Int)).toNat = l := by simp
theorem okA_4 (h : (gt l i).kind = 4) : okAt p l i := .inl h
theorem okA {c1 c2 c3 : Prop} (h1 : ¬ (¬ isStop p (gt l i) = true ∨ (((l.take ((l.length : Int)).toNat).count (gt l i) : Nat) : Int) ≠ 1)) (h2 : ¬ ((gt l i).kind = 3 ∧ (((l.take (i).toNat).count (Vis.mk 2 (gt l i).item) : Nat) : Int) ≠ 1))
    (h3 : ¬ ((gt l i).kind = 2 ∧ (((l.take ((l.length : Int)).toNat).count (Vis.mk 3 (gt l i).item) : Nat) : Int) ≠ 1)) : okAt p l i := by
  rw [take_all_len] at h1 h3
  refine .inr ⟨Classical.byContradiction fun e => h1 (.inl e), Classical.byContradiction fun e => h1 (.inr e), fun hk => Classical.byContradiction fun e => h2 ⟨hk, e⟩, fun hk => Classical.byContradiction fun e => h3 ⟨hk, e⟩⟩
theorem pq_next (h : ∀ j : Int, 0 ≤ j → j < i → okAt p l j) (hi : okAt p l i) : ∀ j : Int, 0 ≤ j → j < i + 1 → okAt p l j := fun j h0 h1 => by
  by_cases hj : j = i
  · subst hj; exact hi
  · exact h j h0 (by omega)
theorem pq_yes (h : ∀ j : Int, 0 ≤ j → j < i → okAt p l j) (hi : ¬ i < (l.length : Int)) : true = pairsR p l [] 0 := (pairs_iff.2 (fun j h0 h1 => h j h0 (by omega))).symm
theorem pq_no (h0 : 0 ≤ i) (h1 : i < (l.length : Int)) (h : ¬ okAt p l i) : false = pairsR p l [] 0 := by
  cases hq : pairsR p l [] 0 with
  | false => rfl
  | true => exact absurd (pairs_iff.1 hq i h0 h1) h
theorem no1 (hk : ¬ (gt l i).kind = 4) (h : ¬ isStop p (gt l i) = true ∨ (((l.take ((l.length : Int)).toNat).count (gt l i) : Nat) : Int) ≠ 1) : ¬ okAt p l i := fun ho => by
  rw [take_all_len] at h
  rcases ho with ho | ⟨h1, h2, _⟩
  · exact hk ho
  · rcases h with h | h
    · exact h h1
    · exact h h2
theorem no2 (hk : ¬ (gt l i).kind = 4) (h : (gt l i).kind = 3 ∧ (((l.take (i).toNat).count (Vis.mk 2 (gt l i).item) : Nat) : Int) ≠ 1) : ¬ okAt p l i := fun ho => by
  rcases ho with ho | ⟨h1, h2, h3, _⟩
  · exact hk ho
  · exact h.2 (h3 h.1)
theorem no3 (hk : ¬ (gt l i).kind = 4) (h : (gt l i).kind = 2 ∧ (((l.take ((l.length : Int)).toNat).count (Vis.mk 3 (gt l i).item) : Nat) : Int) ≠ 1) : ¬ okAt p l i := fun ho => by
  rw [take_all_len] at h
  rcases ho with ho | ⟨h1, h2, _, h3⟩
  · exact hk ho
  · exact h.2 (h3 h.1)
theorem pairs_kind (h : pairsR p l [] 0 = true) (h0 : 0 ≤ i) (h1 : i < (l.length : Int)) (hs : ¬ isStop p (gt l i) = true) : (gt l i).kind = 4 := by
  rcases pairs_iff.1 h i h0 h1 with h | h
  · exact h
  · exact absurd h.1 hs
theorem checks_0 {v : VH} (h : checksF p v l = 0) : pairsR p l [] 0 = true ∧ breaksR v.brs.length l 0 = true := by
  unfold checksF at h
  refine ⟨Classical.byContradiction fun e => ?_, Classical.byContradiction fun e => ?_⟩
  · rw [if_pos e] at h; exact absurd h (by decide)
  · split at h
    · exact absurd h (by decide)
    · exact absurd h (by decide)
end
section
variable {p : PB} {x : Vis} {a : List Int} {i k : Int}
theorem stQ0 (h : ¬ isStop p x = true) {b : Bool} : stQ p x b a = a := by unfold stQ; rw [if_neg h]
theorem stQ1 (h : isStop p x = true) (h1 : x.kind = 1 ∧ i ≥ k) : stQ p x (decide (i ≥ k)) a = addL a (gt p.jobs x.item).drop := by unfold stQ; rw [if_pos h, if_pos h1.1, decide_eq_true h1.2, if_pos rfl]
theorem stQ2 (h : isStop p x = true) (h1 : x.kind = 1) (h2 : ¬ (x.kind = 1 ∧ i ≥ k)) : stQ p x (decide (i ≥ k)) a = addL a (gt p.jobs x.item).pick := by unfold stQ; rw [if_pos h, if_pos h1, decide_eq_false (fun e => h2 ⟨h1, e⟩), if_neg (by decide)]
theorem stQ3 (h : isStop p x = true) (h1 : x.kind = 2 ∧ i < k) : stQ p x (decide (i ≥ k)) a = addL a (gt p.ships x.item).am := by unfold stQ; rw [if_pos h, if_neg (by omega), decide_eq_false (by omega), if_pos ⟨h1.1, by decide⟩]
theorem stQ4 (h : isStop p x = true) (h1 : x.kind = 3 ∧ i < k) : stQ p x (decide (i ≥ k)) a = subL a (gt p.ships x.item).am := by unfold stQ; rw [if_pos h, if_neg (by omega), decide_eq_false (by omega), if_neg (by omega), if_pos ⟨h1.1, by decide⟩]
theorem stQ5 (h : isStop p x = true) (h1 : ¬ x.kind = 1) (h2 : ¬ (x.kind = 2 ∧ i < k)) (h3 : ¬ (x.kind = 3 ∧ i < k)) : stQ p x (decide (i ≥ k)) a = a := by
  unfold stQ; rw [if_pos h, if_neg h1]
  by_cases hi : i ≥ k
  · rw [decide_eq_true hi, if_neg (by simp), if_neg (by simp)]
  · rw [if_neg (fun e => h2 ⟨e.1, by omega⟩), if_neg (fun e => h3 ⟨e.1, by omega⟩)]
theorem stQ_ok (L : LawP p) {m : Int} {b : Bool} (h : lOk p m a) : lOk p (m + 1000000) (stQ p x b a) := by
  unfold stQ
  split
  · rename_i h1
    split
    · rename_i h2; have ij := is_i1 h1 h2; have j := L.job _ ij.1 ij.2
      split
      · exact lOk_add h j.drop (Int.le_refl _)
      · exact lOk_add h j.pick (Int.le_refl _)
    · split
      · rename_i h2; have ij := is_i2 h1 (.inl h2.1); exact lOk_add h (L.ship _ ij.1 ij.2).am (Int.le_refl _)
      · split
        · rename_i h2; have ij := is_i2 h1 (.inr h2.1); exact lOk_sub h (L.ship _ ij.1 ij.2).am (Int.le_refl _)
        · exact lOk_mono h (by omega)
  · exact lOk_mono h (by omega)
end
theorem times_nx {p : PB} {V : VH} {x : Vis} {r : List Vis} {now tm ds wt sr pa y srv : Int} {R : Option TM} {W : List WN} (hq : timesR p V (x :: r) ⟨now, tm, ds, wt, sr, pa⟩ = R) (hy : nextPl p pa x = y) (hW : (stopB p V x).sws = W) (hs : (stopB p V x).srv = srv) (h2 : (startF W (now + tcell p pa y)).2 = true) :
    timesR p V r ⟨(startF W (now + tcell p pa y)).1 + srv, tm + tcell p pa y, ds + dcell p pa y, wt + (startF W (now + tcell p pa y)).1 - (now + tcell p pa y), sr + srv, y⟩ = R := by
  subst hy hW hs; rw [timesR_cons, if_pos h2] at hq; exact hq
theorem times_no {p : PB} {V : VH} {x : Vis} {r : List Vis} {now tm ds wt sr pa y : Int} {R : Option TM} {W : List WN} (hq : timesR p V (x :: r) ⟨now, tm, ds, wt, sr, pa⟩ = R) (hy : nextPl p pa x = y) (hW : (stopB p V x).sws = W) (h2 : ¬ (startF W (now + tcell p pa y)).2 = true) : R = none := by
  subst hy hW; rw [timesR_cons, if_neg h2] at hq; exact hq.symm
theorem times_fin {p : PB} {V : VH} {l : List Vis} {now tm ds wt sr pa : Int} (hq : timesR p V [] ⟨now, tm, ds, wt, sr, pa⟩ = timesR p V l ⟨V.lo, 0, 0, 0, 0, V.st⟩) :
    timesF p V l = if now + tcell p pa V.en > V.hi then noPR 167 else ⟨0, tm + tcell p pa V.en, ds + dcell p pa V.en, wt, sr, V.fix + (tm + tcell p pa V.en) * V.pt + (ds + dcell p pa V.en) * V.pd⟩ := by
  rw [timesF_some hq.symm, tmEnd]
theorem sets_1 {p : PB} {k : Int} {l : List Vis} {c : List Int} {r : List (List Int)} {R : PR} (h : firstC (planS p k l) (c :: r) = R) (he : (planS p k l c).e ≠ 167) : planS p k l c = R := by rw [firstC_cons, if_pos he] at h; exact h
theorem sets_2 {p : PB} {k : Int} {l : List Vis} {c : List Int} {r : List (List Int)} {R : PR} (h : firstC (planS p k l) (c :: r) = R) (he : ¬ (planS p k l c).e ≠ 167) : firstC (planS p k l) r = R := by rw [firstC_cons, if_neg he] at h; exact h
end Go.SX
namespace Go.SX
theorem start_take {l : List WN} (W : WinsOk l) {t i best x : Int} {f : Bool} (h : StartI l t i best f) (h0 : 0 ≤ i) (h1 : i < (l.length : Int)) (ht : ¬ t > (gt l i).hi) (hx : x = max t (gt l i).lo) (hc : ¬ f = true ∨ x < best) : StartI l t (i + 1) x true := by
  cases f with
  | false => exact start_first W h h0 h1 ht hx
  | true =>
    have := (start_more h h1 (x := x) (by omega)).1
    rcases hc with hc | hc
    · exact absurd rfl hc
    · exact absurd hc this
theorem start_keep {l : List WN} (W : WinsOk l) {t i best x : Int} {f : Bool} (h : StartI l t i best f) (h0 : 0 ≤ i) (h1 : i < (l.length : Int)) (ht : ¬ t > (gt l i).hi) (hx : x = max t (gt l i).lo) (hc : ¬ (¬ f = true ∨ x < best)) : StartI l t (i + 1) best f := by
  cases f with
  | false => exact absurd (.inl (by decide)) hc
  | true => exact (start_more h h1 (x := x) (by omega)).2
end Go.SX
namespace Go.SX
theorem setR_nil : ∀ {l : List Vis} {i k : Int}, setR l i k [] = l
  | [], i, k => rfl
  | x :: l, i, k => by simp only [setR, takeB, leftB, cntB, List.nil_append, Int.add_zero]; rw [setR_nil]
theorem fit_zero {p : PB} {k : Int} {l : List Vis} (h : ¬ (k < 0 ∨ k ≥ p.vehs.length)) (hb : noBr l = true) (hn : (gt p.vehs k).brs.length = 0) : fitV p k l = planP p k l := by
  rw [fit_in h hb]; unfold zerosB; rw [hn]
  show firstC (planS p k l) [[]] = _
  have e : planS p k l [] = planP p k l := by unfold planS; rw [setR_nil]
  rw [firstC_cons, e]
  by_cases hc : (planP p k l).e = 167
  · rw [if_neg (fun h => h hc)]; exact (plan_167 hc).symm
  · rw [if_pos hc]
theorem atOk1 {m i : Int} (h0 : 0 ≤ i) (h1 : i ≤ m) : AtOk m [i] := ⟨by simp, fun j q0 q1 => by
  obtain rfl : j = 0 := by simp at q1; omega
  exact ⟨h0, h1⟩, fun h => by simp at h⟩
theorem atOk2 {m i k : Int} (h0 : 0 ≤ i) (h1 : i ≤ k) (h2 : k ≤ m) : AtOk m [i, k] := ⟨by simp, fun j q0 q1 => by
  rcases (by simp at q1; omega : j = 0 ∨ j = 1) with rfl | rfl
  · exact ⟨h0, by show i ≤ m; omega⟩
  · exact ⟨by show 0 ≤ k; omega, h2⟩, fun _ => h1⟩
theorem blk_drop {a : List Int} {i : Int} {k : Int} (h0 : 0 ≤ k) (h1 : k < (a.length : Int)) : blkR i k (a.drop k.toNat) = if gt a k = i then ⟨4, k⟩ :: blkR i (k + 1) (a.drop (k + 1).toNat) else blkR i (k + 1) (a.drop (k + 1).toNat) := by
  rw [drop_gt h0 h1, blkR_cons]
theorem blk_end {a : List Int} {i k : Int} (h1 : ¬ k < (a.length : Int)) : blkR i k (a.drop k.toNat) = [] := by rw [drop_end h1]; rfl
end Go.SX
namespace Go.SX
open Go Go.RowKit Go.Lib
section
variable {V : Env} {P : Program} {Q : Exit → Act → World → Prop} {ops : Array Oper} {N : Nat} {o : Oper} {rest : List Oper} {L : List (Nat × Value)} {H R : List Res} {S : Nat → Prop} {wf : World} {K : St → Prop} {st : St} {C : World → Prop}
theorem made_bools : ∀ n, (madeCells (Value.bool false).cells n).toList = flat eB (List.replicate n false) := by
  intro n
  have h1 : (madeCells (Value.bool false).cells n).toList = List.replicate n (.bool false) := by
    have hc : (Value.bool false).cells = #[.bool false] := rfl
    unfold madeCells
    rw [hc, Array.toList_map, Array.toList_range]
    refine List.ext_getElem (by simp) fun i h1 h2 => ?_
    simp [Nat.mod_one]
  rw [h1]
  clear h1
  induction n with
  | zero => rfl
  | succ n ih => rw [List.replicate_succ, List.replicate_succ, flat_cons, ih]; rfl
theorem st_mkbools {t e : TypeId} {x y : Operand} {kk : IntKind} {n : Nat} {a : Int} {bytes : Nat} {d : Nat} (ho : o.op = .makeSlice t x y) (hg : o.guard = none) (hd : o.dst = some d) (hdN : Nat.blt d N = true) (ht : P.underlying t = some (.slice e)) (hi : (P.info? e).map (fun i => (i.zero, i.size, i.bytes)) = some (some (.bool false), 1, bytes))
    (hx : lk L x = some (.int kk a)) (hy : lk L y = some (.int kk a)) (ha : a = (n : Int)) (hb : n * bytes ≤ 1073741824) (hb1 : Nat.ble 1 bytes = true)
    (k : ∀ b, K ⟨(d, .slice (some ⟨b, 0, none⟩) n n) :: L, rw_ eB e (.slice (some ⟨b, 0, none⟩) n n) (List.replicate n false) :: H, S, wf⟩) : OpStep V P Q ops N o ⟨L, H, S, wf⟩ K := by
  subst ha
  have hb1 := Nat.le_of_ble_eq_true hb1
  have hn : n ≤ 1073741824 := Nat.le_trans (by have := Nat.mul_le_mul_left n hb1; omega) hb
  refine .act hg hd hdN (by simp [ho, noSel]) (by simp [ho, Op.operands, known_of hx, known_of hy]) fun w hw => ?_
  obtain ⟨i, hi, hq⟩ := Option.map_eq_some_iff.1 hi
  simp only [Prod.mk.injEq] at hq
  have hbb : ((i.bytes : Nat) : Int) * (n : Int) ≤ 281474976710656 := by
    rw [hq.2.2, ← Int.natCast_mul, Nat.mul_comm]; omega
  have hr := run_make (P := P) w t e i (.bool false) ht hi hq.1 kk kk n n (by omega) (Int.le_refl _) hbb (by omega)
  simp only [Int.toNat_natCast, hq.2.1, Nat.mul_one] at hr
  refine ⟨_, _, _, by simp only [execOp, ho, ev_of hx, ev_of hy, Sem.run_bind, hr]; rfl, ?_, k w.heap.size⟩
  refine WW.change (C := []) (R := H) (C' := [rw_ eB e (.slice (some ⟨w.heap.size, 0, none⟩) n n) (List.replicate n false)]) hw (fun b hb _ => Below.heap_alloc w _ b hb) (by simp) ?_ (by simp [rw_, row, Value.ownBlock]) (fun b hb => .inr ?_) rfl rfl rfl
  · intro r hr
    simp only [List.mem_singleton] at hr
    subst hr
    refine rw_holds.2 (.inr ⟨w.heap.size, n, _, by rw [List.length_replicate], heap_alloc_new w _, by simp, by simp only [maxLen]; omega, by rw [size_madeCells]; simp [eB, Enc.scalar], ?_⟩)
    rw [made_bools, List.take_of_length_le (by rw [flat_length]; exact Nat.le_refl _)]
  · simp [rw_, row, Value.ownBlock] at hb
    omega
end
end Go.SX
namespace Go.SX
open Go Go.RowKit
section
variable {S : Nat → Prop} {wf : World}
theorem gt_snoc_all {α : Type} [Inhabited α] {X : List α} {x : α} {Φ : α → Prop} (h : ∀ i : Int, Φ (gt X i)) (hx : Φ x) (hd : Φ default) (i : Int) : Φ (gt (X ++ [x]) i) := by
  rcases gt_mem_or (X ++ [x]) i with hm | hm
  · rcases List.mem_append.1 hm with hm | hm
    · obtain ⟨n, hn, e⟩ := List.getElem_of_mem hm
      have e2 : gt X (n : Int) = gt (X ++ [x]) i := by rw [← e]; simp [gt, List.getD_eq_getElem?_getD, hn]
      rw [← e2]; exact h n
    · simp only [List.mem_singleton] at hm; rw [hm]; exact hx
  · rw [hm]; exact hd
theorem RTF.snoc {X : List RT} {x : RT} (h : RTF S wf X) (hx : Fr eVis S wf x.rA x.vis) : RTF S wf (X ++ [x]) := fun i => gt_snoc_all (Φ := fun r : RT => Fr eVis S wf r.rA r.vis) h hx (Fr.nil _ _ _ _) i
theorem gt_right {α : Type} [Inhabited α] {D Y : List α} {i : Int} (h0 : 0 ≤ i) : gt (D ++ Y) ((D.length : Int) + i) = gt Y i := by
  unfold gt; rw [List.getD_eq_getElem?_getD, List.getD_eq_getElem?_getD, show ((D.length : Int) + i).toNat = D.length + i.toNat from by omega, List.getElem?_append_right (by omega)]; congr 2; omega
theorem gt_left {α : Type} [Inhabited α] {D Y : List α} {i : Int} (h0 : 0 ≤ i) (h1 : i < (D.length : Int)) : gt (D ++ Y) i = gt D i := by
  unfold gt; rw [List.getD_eq_getElem?_getD, List.getD_eq_getElem?_getD, List.getElem?_append_left (by omega)]
end
end Go.SX
namespace Go.SX
open Go Go.RowKit
noncomputable def dec (φ : Prop) : Bool := @decide φ (Classical.propDecidable φ)
theorem dec_t {φ : Prop} (h : φ) : dec φ = true := @decide_eq_true φ (Classical.propDecidable φ) h
theorem dec_f {φ : Prop} (h : ¬ φ) : dec φ = false := @decide_eq_false φ (Classical.propDecidable φ) h
theorem dec_p {φ : Prop} (h : dec φ = true) : φ := @of_decide_eq_true φ (Classical.propDecidable φ) h
theorem rng_of {l : List Int} {m : Int} (h : ∀ i : Int, 0 ≤ i → i < (l.length : Int) → 0 ≤ gt l i ∧ gt l i ≤ m) (hm : 0 ≤ m) : rng l m := fun i => by
  rcases gt_mem_or l i with hi | hi
  · obtain ⟨n, hn, e⟩ := List.getElem_of_mem hi
    have := h n (by omega) (by omega)
    have e2 : gt l (n : Int) = gt l i := by rw [← e]; simp [gt, List.getD_eq_getElem?_getD, hn]
    rw [e2] at this; exact this
  · rw [hi]; exact ⟨Int.le_refl _, hm⟩
noncomputable def chkE (l : List Int) (n : Int) : Int := if (l.length : Int) ≠ n then 43 else if dec (rng l 1000000) = true then 0 else 2
theorem chk_0 {l : List Int} {n : Int} (h : chkE l n = 0) : (l.length : Int) = n ∧ rng l 1000000 := by
  unfold chkE at h
  split at h
  · cases h
  · rename_i h1
    split at h
    · rename_i h2; exact ⟨Classical.not_not.1 h1, dec_p h2⟩
    · cases h
theorem chk_43 {l : List Int} {n : Int} (h : (l.length : Int) ≠ n) : 43 = chkE l n := by unfold chkE; rw [if_pos h]
theorem chk_2 {l : List Int} {n i : Int} (h : ¬ (l.length : Int) ≠ n) (hi : gt l i < 0 ∨ gt l i > 1000000) : 2 = chkE l n := by
  unfold chkE; rw [if_neg h, if_neg]
  intro k; have := dec_p k i; omega
theorem chk_ok {l : List Int} {n i : Int} (h : ¬ (l.length : Int) ≠ n) (hq : ∀ j : Int, 0 ≤ j → j < i → 0 ≤ gt l j ∧ gt l j ≤ 1000000) (hi : i = (l.length : Int)) : 0 = chkE l n := by
  unfold chkE; rw [if_neg h, if_pos]
  exact dec_t (rng_of (fun j h0 h1 => hq j h0 (by omega)) (by decide))
abbrev winAt (l : List WN) (i : Int) : Prop := (0 ≤ (gt l i).lo ∧ (gt l i).hi ≤ 1000000 ∧ (gt l i).lo ≤ (gt l i).hi) ∧ (0 < i → (gt l (i - 1)).hi < (gt l i).lo)
theorem wins_of {l : List WN} {i : Int} (h : ¬ ((l.length : Int) < 1 ∨ (l.length : Int) > 4)) (hq : ∀ j : Int, 0 ≤ j → j < i → winAt l j) (hi : i = (l.length : Int)) : WinsOk l where
  len := by omega
  each j h0 h1 := (hq j h0 (by omega)).1
  next j h0 h1 := (hq j (by omega) (by omega)).2 h0
theorem wins_len {l : List WN} (h : (l.length : Int) < 1 ∨ (l.length : Int) > 4) : ¬ WinsOk l := fun k => by have := k.len; omega
theorem wins_no {l : List WN} {i : Int} (h0 : 0 ≤ i) (h1 : i < (l.length : Int)) (h : ¬ winAt l i) : ¬ WinsOk l := fun k => h ⟨k.each i h0 h1, fun hi => k.next i hi h1⟩
abbrev matAt (l : List Int) (k a b : Int) : Prop := -1 ≤ gt l (a * k + b) ∧ gt l (a * k + b) ≤ 32000000 ∧ (a = b → gt l (a * k + b) = 0)
def MatOk (n : Int) (l : List Int) (k : Int) : Prop := n = k ∧ (l.length : Int) = k * k ∧ ∀ a b : Int, 0 ≤ a → a < k → 0 ≤ b → b < k → matAt l k a b
theorem ij_rng {i j k : Int} (h0 : 0 ≤ i) (h1 : i < k) (h2 : 0 ≤ j) (h3 : j < k) (hk : k ≤ 32) : 0 ≤ i * k ∧ i * k ≤ 1024 ∧ i * k + j < k * k ∧ k * k ≤ 1024 := by
  have a := Int.mul_nonneg h0 (show 0 ≤ k by omega)
  have b : i * k ≤ (k - 1) * k := Int.mul_le_mul_of_nonneg_right (by omega) (by omega)
  have c : k * k ≤ 32 * 32 := Int.mul_le_mul hk hk (by omega) (by decide)
  rw [Int.sub_mul] at b
  omega
theorem mat_all {n k : Int} {l : List Int} (h : MatOk n l k) (hk : 1 ≤ k) (i : Int) : -1 ≤ gt l i ∧ gt l i ≤ 32000000 := by
  rcases gt_mem_or l i with hi | hi
  · obtain ⟨m, hm, e⟩ := List.getElem_of_mem hi
    have e2 : gt l (m : Int) = gt l i := by rw [← e]; simp [gt, List.getD_eq_getElem?_getD, hm]
    have hd := Int.mul_ediv_add_emod (m : Int) k
    have hm0 := Int.emod_nonneg (m : Int) (show k ≠ 0 by omega)
    have hm1 := Int.emod_lt_of_pos (m : Int) (show 0 < k by omega)
    have hd0 : 0 ≤ (m : Int) / k := Int.ediv_nonneg (by omega) (by omega)
    have hd1 : (m : Int) / k < k := by
      refine Int.ediv_lt_of_lt_mul (by omega) ?_
      have := h.2.1; omega
    have hx := h.2.2 _ _ hd0 hd1 hm0 hm1
    unfold matAt at hx
    rw [show (m : Int) / k * k + (m : Int) % k = (m : Int) from by rw [Int.mul_comm]; exact hd, e2] at hx
    exact ⟨hx.1, hx.2.1⟩
  · rw [hi]; exact ⟨by decide, by decide⟩
theorem stop_of {n : Int} {s : SO} (h1 : 0 ≤ s.pl ∧ s.pl ≤ n - 1) (h2 : 0 ≤ s.srv ∧ s.srv ≤ 1000000) (h3 : WinsOk s.sws) : StopOk n s := ⟨⟨h1.1, by omega⟩, h2, h3⟩
structure SkU (p : PB) : Prop where
  v : ∀ i : Int, 0 ≤ (gt p.vehs i).vsk
  j : ∀ i : Int, 0 ≤ (gt p.jobs i).jsk
  s : ∀ i : Int, 0 ≤ (gt p.ships i).ssk
theorem shift_of {lo hi : Int} (h : WinsOk [⟨lo, hi⟩]) : 0 ≤ lo ∧ hi ≤ 1000000 ∧ lo ≤ hi := h.each 0 (by decide) (by simp)
theorem shift_to {lo hi : Int} (h : 0 ≤ lo ∧ hi ≤ 1000000 ∧ lo ≤ hi) : WinsOk [⟨lo, hi⟩] where
  len := ⟨by simp, by simp⟩
  each i h0 h1 := by
    simp at h1
    have : i = 0 := by omega
    subst this; exact h
  next i h0 h1 := by simp at h1; omega
theorem eq_dec {e : Int} {φ : Prop} (h : e = 0 ↔ φ) : (e == 0) = dec φ := by
  rw [Bool.eq_iff_iff]
  exact ⟨fun k => dec_t (h.1 (by simpa using k)), fun k => by simpa using h.2 (dec_p k)⟩
theorem mat_nx {l : List Int} {k i j : Int} (h : ∀ a b : Int, 0 ≤ a → a < i → 0 ≤ b → b < k → matAt l k a b) (h2 : ∀ b : Int, 0 ≤ b → b < j → matAt l k i b) (hj : j = k) : ∀ a b : Int, 0 ≤ a → a < i + 1 → 0 ≤ b → b < k → matAt l k a b := fun a b h0 h1 h3 h4 => by
  by_cases ha : a = i
  · subst ha; exact h2 b h3 (by omega)
  · exact h a b h0 (by omega) h3 h4
theorem upto_nx {Φ : Int → Prop} {i : Int} (h : ∀ j : Int, 0 ≤ j → j < i → Φ j) (hi : Φ i) : ∀ j : Int, 0 ≤ j → j < i + 1 → Φ j := fun j h0 h1 => by
  by_cases hj : j = i
  · subst hj; exact hi
  · exact h j h0 (by omega)
end Go.SX
namespace Go.SX
open Go Go.RowKit
theorem stopB_ {s : SO} {k : Int} : (((decide (s.pl ≥ 0) && decide (s.pl ≤ (k - 1))) && (decide (s.srv ≥ 0) && decide (s.srv ≤ 1000000))) && (dec (WinsOk s.sws))) = dec (StopOk k s) := by
  rw [Bool.eq_iff_iff]
  simp only [Bool.and_eq_true, decide_eq_true_eq]
  refine ⟨fun h => dec_t (stop_of ⟨h.1.1.1, h.1.1.2⟩ ⟨h.1.2.1, h.1.2.2⟩ (dec_p h.2)), fun h => ?_⟩
  have k := dec_p h
  have k1 := k.pl; have k2 := k.srv
  exact ⟨⟨⟨by omega, by omega⟩, ⟨by omega, by omega⟩⟩, dec_t k.win⟩
theorem vehB_1 {v : VH} {d k : Int} (h : (v.brs.length : Int) > 2) : false = dec (VehOk d k v) := (dec_f (fun q => by have := q.brs; omega)).symm
theorem vehB_2 {v : VH} {d k i : Int} (h0 : 0 ≤ i) (h1 : i < (v.brs.length : Int)) (h : ¬ (WinsOk (gt v.brs i).bws ∧ 0 ≤ (gt v.brs i).bsrv ∧ (gt v.brs i).bsrv ≤ 1000000)) : false = dec (VehOk d k v) := (dec_f (fun q => h (q.brk i h0 h1))).symm
theorem vehB_3 {v : VH} {d k : Int} (h : (((((decide (v.st ≥ 0) && decide (v.st ≤ (k - 1))) && (decide (v.en ≥ 0) && decide (v.en ≤ (k - 1)))) && ((chkE v.vcap d) == 0)) && (decide (v.vsk < 4611686018427387904)))) = false) : false = dec (VehOk d k v) := by
  refine (dec_f (fun q => ?_)).symm
  have h2 : (((((decide (v.st ≥ 0) && decide (v.st ≤ (k - 1))) && (decide (v.en ≥ 0) && decide (v.en ≤ (k - 1)))) && ((chkE v.vcap d) == 0)) && (decide (v.vsk < 4611686018427387904)))) = true := by
    have a := q.st; have b := q.en; have c := q.cap; have e := q.sk
    have hc : chkE v.vcap d = 0 := by unfold chkE; rw [if_neg (by omega), if_pos (dec_t c.2)]
    simp only [Bool.and_eq_true, decide_eq_true_eq, beq_iff_eq]
    exact ⟨⟨⟨⟨by omega, by omega⟩, ⟨by omega, by omega⟩⟩, hc⟩, e.2⟩
  rw [h2] at h; cases h
theorem vehB_4 {v : VH} {d k : Int} (hb : ¬ (v.brs.length : Int) > 2) (hs : 0 ≤ v.vsk) (hq : ∀ j : Int, 0 ≤ j → j < (v.brs.length : Int) → WinsOk (gt v.brs j).bws ∧ 0 ≤ (gt v.brs j).bsrv ∧ (gt v.brs j).bsrv ≤ 1000000)
    (h : (((((decide (v.st ≥ 0) && decide (v.st ≤ (k - 1))) && (decide (v.en ≥ 0) && decide (v.en ≤ (k - 1)))) && ((chkE v.vcap d) == 0)) && (decide (v.vsk < 4611686018427387904)))) = true) :
    (((((dec (WinsOk [⟨v.lo, v.hi⟩])) && (decide (v.fix ≥ 0) && decide (v.fix ≤ 1000000))) && (decide (v.pt ≥ 0) && decide (v.pt ≤ 1000000))) && (decide (v.pd ≥ 0) && decide (v.pd ≤ 1000000))) && (decide (v.mt ≥ 0) && decide (v.mt ≤ 12))) = dec (VehOk d k v) := by
  simp only [Bool.and_eq_true, decide_eq_true_eq, beq_iff_eq] at h
  obtain ⟨⟨⟨⟨a1, a2⟩, ⟨a3, a4⟩⟩, a5⟩, a6⟩ := h
  rw [Bool.eq_iff_iff]
  simp only [Bool.and_eq_true, decide_eq_true_eq]
  refine ⟨fun h => dec_t ?_, fun h => ?_⟩
  · obtain ⟨⟨⟨⟨b1, b2⟩, b3⟩, b4⟩, b5⟩ := h
    exact { st := ⟨a1, by omega⟩, en := ⟨a3, by omega⟩, cap := chk_0 a5, sk := ⟨hs, a6⟩, sh := shift_of (dec_p b1), fix := ⟨b2.1, b2.2⟩, pt := ⟨b3.1, b3.2⟩, pd := ⟨b4.1, b4.2⟩, mt := ⟨b5.1, b5.2⟩, brs := by omega, brk := hq }
  · have q := dec_p h
    exact ⟨⟨⟨⟨dec_t (shift_to q.sh), q.fix⟩, q.pt⟩, q.pd⟩, q.mt⟩
end Go.SX
namespace Go.SX
open Go Go.RowKit
theorem nnd {φ : Prop} (h : ¬ ¬ dec φ = true) : φ := dec_p (Classical.not_not.1 h)
theorem job_of {d n : Int} {j : JB} (h : ¬ ((((¬ dec (StopOk n j.so) = true ∨ chkE j.drop d ≠ 0) ∨ chkE j.pick d ≠ 0) ∨ j.jsk ≥ 4611686018427387904) ∨ ¬ (j.jpr ≥ 0 ∧ j.jpr ≤ 100))) (hs : 0 ≤ j.jsk) : JobOk d n j where
  so := nnd (fun k => h (.inl (.inl (.inl (.inl k)))))
  drop := chk_0 (Classical.not_not.1 (fun k => h (.inl (.inl (.inl (.inr k))))))
  pick := chk_0 (Classical.not_not.1 (fun k => h (.inl (.inl (.inr k)))))
  sk := ⟨hs, by have := fun k => h (.inl (.inr k)); omega⟩
  pr := Classical.not_not.1 (fun k => h (.inr k))
theorem ship_of {d n : Int} {j : SH} (h : ¬ ((((¬ dec (StopOk n j.sp) = true ∨ ¬ dec (StopOk n j.sd) = true) ∨ chkE j.am d ≠ 0) ∨ j.ssk ≥ 4611686018427387904) ∨ ¬ (j.spr ≥ 0 ∧ j.spr ≤ 100))) (hs : 0 ≤ j.ssk) : ShipOk d n j where
  sp := nnd (fun k => h (.inl (.inl (.inl (.inl k)))))
  sd := nnd (fun k => h (.inl (.inl (.inl (.inr k)))))
  am := chk_0 (Classical.not_not.1 (fun k => h (.inl (.inl (.inr k)))))
  sk := ⟨hs, by have := fun k => h (.inl (.inr k)); omega⟩
  pr := Classical.not_not.1 (fun k => h (.inr k))
theorem mat_of {p : PB} (h : ¬ ((((¬ (p.dims ≥ 0 ∧ p.dims ≤ 3) ∨ p.tn < 1) ∨ p.tn > 32) ∨ ¬ dec (MatOk p.tn p.time p.tn) = true) ∨ ¬ dec (MatOk p.dn p.dist p.tn) = true)) : (0 ≤ p.dims ∧ p.dims ≤ 3) ∧ (1 ≤ p.tn ∧ p.tn ≤ 32) ∧ MatOk p.tn p.time p.tn ∧ MatOk p.dn p.dist p.tn :=
  ⟨Classical.not_not.1 (fun k => h (.inl (.inl (.inl (.inl k))))), ⟨by have := fun k => h (.inl (.inl (.inl (.inr k)))); omega, by have := fun k => h (.inl (.inl (.inr k))); omega⟩, nnd (fun k => h (.inl (.inr k))), nnd (fun k => h (.inr k))⟩
theorem law_of {p : PB} (hM : (0 ≤ p.dims ∧ p.dims ≤ 3) ∧ (1 ≤ p.tn ∧ p.tn ≤ 32) ∧ MatOk p.tn p.time p.tn ∧ MatOk p.dn p.dist p.tn) (h1 : (p.vehs.length : Int) ≤ 4) (h2 : (p.jobs.length : Int) + p.ships.length ≤ 12)
    (hv : ∀ j : Int, 0 ≤ j → j < (p.vehs.length : Int) → VehOk p.dims p.tn (gt p.vehs j)) (hj : ∀ j : Int, 0 ≤ j → j < (p.jobs.length : Int) → JobOk p.dims p.tn (gt p.jobs j)) (hs : ∀ j : Int, 0 ≤ j → j < (p.ships.length : Int) → ShipOk p.dims p.tn (gt p.ships j)) : LawP p where
  dims := hM.1
  tn := hM.2.1
  dn := hM.2.2.2.1
  tlen := hM.2.2.1.2.1
  dlen := hM.2.2.2.2.1
  tc := mat_all hM.2.2.1 hM.2.1.1
  dc := mat_all hM.2.2.2 hM.2.1.1
  tg a h0 h1 := (hM.2.2.1.2.2 a a h0 h1 h0 h1).2.2 rfl
  dg a h0 h1 := (hM.2.2.2.2.2 a a h0 h1 h0 h1).2.2 rfl
  nv := by omega
  nj := by omega
  veh := hv
  job := hj
  ship := hs
end Go.SX
namespace Go.SX
open Go Go.RowKit
section
variable {V : Env} {P : Program} {Q : Exit → Act → World → Prop} {ops : Array Oper} {N fuel : Nat} {L : List (Nat × Value)} {H R C : List Res} {S S1 : Nat → Prop} {wf wf1 : World} {B : World → Prop} {cs : List (Nat × (World → Prop))} {listed : Array Bool}
theorem retz1 {fn : Func} {r : ResultVar} {v : Value} {post : Value → List Res → (Nat → Prop) → World → Prop} (hr : fn.results = #[r]) (h1 : RV P L (WW V S1 wf1 H) r v) (hx : Ext S wf S1 wf1) (h : post v [] S1 wf1) :
    SQ V (bodyPost P fn (TRp V S wf post) .ret) N ⟨L, H, S1, wf1⟩ := fun a w hs hw => by
  refine ⟨hs.2.1, v, ?_, v, [], S1, wf1, rfl, h, hx, hw.keep .n⟩
  have e1 := h1 a w N hs hw
  rw [results_resF, hr]
  simp [e1]
end
end Go.SX
namespace Go.SX
open Go Go.RowKit
def eraB (b : BK) : BK := { b with bwA := none, bwc := 0 }
def eraO (s : SO) : SO := { s with soA := none, soc := 0 }
def eraV (v : VH) : VH := { v with brs := v.brs.map eraB, vcA := none, vcc := 0, vbA := none, vbc := 0 }
def eraJ (j : JB) : JB := { j with so := eraO j.so, jdA := none, jdc := 0, jkA := none, jkc := 0 }
def eraS (s : SH) : SH := { s with sp := eraO s.sp, sd := eraO s.sd, saA := none, sac := 0 }
def era (p : PB) : PB := { p with vehs := p.vehs.map eraV, jobs := p.jobs.map eraJ, ships := p.ships.map eraS, ptA := none, ptc := 0, pdA := none, pdc := 0, pvA := none, pvc := 0, pjA := none, pjc := 0, psA := none, psc := 0 }
section
variable {p : PB}
theorem era_gv (i : Int) : gt (era p).vehs i = eraV (gt p.vehs i) := gt_mapd eraV rfl p.vehs i
theorem era_gj (i : Int) : gt (era p).jobs i = eraJ (gt p.jobs i) := gt_mapd eraJ rfl p.jobs i
theorem era_gs (i : Int) : gt (era p).ships i = eraS (gt p.ships i) := gt_mapd eraS rfl p.ships i
theorem era_gb {v : VH} (i : Int) : gt (eraV v).brs i = eraB (gt v.brs i) := gt_mapd eraB rfl v.brs i
theorem era_lv : (era p).vehs.length = p.vehs.length := List.length_map ..
theorem era_lj : (era p).jobs.length = p.jobs.length := List.length_map ..
theorem era_ls : (era p).ships.length = p.ships.length := List.length_map ..
theorem era_lb {v : VH} : (eraV v).brs.length = v.brs.length := List.length_map ..
theorem there_e {t : TK} : thereF (era p) t = thereF p t := by unfold thereF; rw [era_lj, era_ls]
theorem prio_e {t : TK} : prioF (era p) t = prioF p t := by unfold prioF; rw [there_e, era_gj, era_gs]; rfl
theorem skil_e {t : TK} : skilF (era p) t = skilF p t := by unfold skilF; rw [there_e, era_gj, era_gs]; rfl
theorem isStop_e {x : Vis} : isStop (era p) x = isStop p x := by unfold isStop; rw [there_e]
theorem stopO_e {x : Vis} : stopO (era p) x = eraO (stopO p x) := by
  unfold stopO; rw [era_gj, era_gs]; split
  · rfl
  · split <;> rfl
theorem stopD_e {x : Vis} : stopD (era p) x = eraO (stopD p x) := by
  unfold stopD; rw [isStop_e, stopO_e]; split <;> rfl
theorem pairs_e : ∀ {l : List Vis} {m : List (Vis × Bool)} {op : Int}, pairsR (era p) l m op = pairsR p l m op
  | [], _, _ => rfl
  | x :: r, m, op => by rw [pairsR_cons, pairsR_cons, isStop_e, pairs_e, pairs_e]
theorem skills_e {v : VH} : ∀ {l : List Vis}, skillsR (era p) (eraV v) l = skillsR p v l
  | [] => rfl
  | x :: r => by rw [skillsR_cons, skillsR_cons, skil_e, skills_e]; rfl
theorem load0R_e : ∀ {l : List Vis} {a : List Int}, load0R (era p) l a = load0R p l a
  | [], _ => rfl
  | x :: r, a => by
    rw [load0R_cons, load0R_cons, isStop_e, load0R_e, load0R_e, show dropV (era p) x = dropV p x from by show (gt (era p).jobs x.item).drop = _; rw [era_gj]; rfl]
theorem loadSt_e {x : Vis} {a : List Int} : loadSt (era p) x a = loadSt p x a := by
  unfold loadSt
  rw [isStop_e, show dropV (era p) x = dropV p x from by show (gt (era p).jobs x.item).drop = _; rw [era_gj]; rfl, show pickV (era p) x = pickV p x from by show (gt (era p).jobs x.item).pick = _; rw [era_gj]; rfl, show amV (era p) x = amV p x from by show (gt (era p).ships x.item).am = _; rw [era_gs]; rfl]
theorem loadsR_e : ∀ {l : List Vis} {a : List Int}, loadsR (era p) l a = loadsR p l a
  | [], _ => rfl
  | x :: r, a => by rw [loadsR_cons, loadsR_cons, loadSt_e, loadsR_e]
theorem loads_e {l : List Vis} : loadsF (era p) l = loadsF p l := by
  unfold loadsF load0; rw [load0R_e, loadsR_e]; rfl
theorem nextPl_e {a : Int} {x : Vis} : nextPl (era p) a x = nextPl p a x := by unfold nextPl; rw [isStop_e, stopD_e]; rfl
theorem placesR_e : ∀ {l : List Vis} {a : Int}, placesR (era p) l a = placesR p l a
  | [], _ => rfl
  | x :: r, a => by rw [placesR_cons, placesR_cons, nextPl_e, placesR_e]
theorem places_e {v : VH} {l : List Vis} : placesF (era p) (eraV v) l = placesF p v l := by unfold placesF; rw [placesR_e]; rfl
theorem travel_e : ∀ {l : List Int}, travelR (era p) l = travelR p l
  | [] => rfl
  | [a] => rfl
  | a :: b :: r => by rw [travelR_cons, travelR_cons, travel_e]; rfl
theorem stopB_e {v : VH} {x : Vis} : (stopB (era p) (eraV v) x).srv = (stopB p v x).srv ∧ (stopB (era p) (eraV v) x).sws = (stopB p v x).sws := by
  unfold stopB; rw [era_gb, stopD_e]; split <;> exact ⟨rfl, rfl⟩
theorem tmSt_e {v : VH} {s : TM} {x : Vis} {b : Int} : tmSt (era p) (eraV v) s x b = tmSt p v s x b := by
  unfold tmSt; rw [stopB_e.1, nextPl_e]; rfl
theorem times_e {v : VH} : ∀ {l : List Vis} {s : TM}, timesR (era p) (eraV v) l s = timesR p v l s
  | [], _ => rfl
  | x :: r, s => by rw [timesR_cons, timesR_cons, tmSt_e, stopB_e.2, nextPl_e, times_e]; rfl
theorem timesF_e {v : VH} {l : List Vis} : timesF (era p) (eraV v) l = timesF p v l := by
  unfold timesF; rw [times_e]; rfl
theorem checks_e {v : VH} {l : List Vis} : checksF (era p) (eraV v) l = checksF p v l := by
  unfold checksF; rw [pairs_e, skills_e, loads_e, places_e, travel_e, era_lb]; rfl
theorem planP_e {k : Int} {l : List Vis} : planP (era p) k l = planP p k l := by
  unfold planP; rw [era_lv, era_gv, checks_e, timesF_e]
theorem fit_e {k : Int} {l : List Vis} : fitV (era p) k l = fitV p k l := by
  have h1 : planS (era p) k l = planS p k l := funext fun a => planP_e
  unfold fitV zerosB; rw [era_lv, era_gv, era_lb, h1]
end
theorem vehOk_e {d n : Int} {v : VH} : VehOk d n (eraV v) ↔ VehOk d n v := by
  constructor
  · rintro ⟨a, b, c, e, f, g, h, i, j, k, l⟩
    refine ⟨a, b, c, e, f, g, h, i, j, by rw [era_lb] at k; exact k, fun x h0 h1 => ?_⟩
    have := l x h0 (by rw [era_lb]; exact h1)
    rw [era_gb] at this; exact this
  · rintro ⟨a, b, c, e, f, g, h, i, j, k, l⟩
    refine ⟨a, b, c, e, f, g, h, i, j, by rw [era_lb]; exact k, fun x h0 h1 => ?_⟩
    have := l x h0 (by rw [era_lb] at h1; exact h1)
    rw [era_gb]; exact this
theorem stopOk_e {n : Int} {s : SO} : StopOk n (eraO s) ↔ StopOk n s := ⟨fun ⟨a, b, c⟩ => ⟨a, b, c⟩, fun ⟨a, b, c⟩ => ⟨a, b, c⟩⟩
theorem jobOk_e {d n : Int} {s : JB} : JobOk d n (eraJ s) ↔ JobOk d n s := ⟨fun ⟨a, b, c, e, f⟩ => ⟨stopOk_e.1 a, b, c, e, f⟩, fun ⟨a, b, c, e, f⟩ => ⟨stopOk_e.2 a, b, c, e, f⟩⟩
theorem shipOk_e {d n : Int} {s : SH} : ShipOk d n (eraS s) ↔ ShipOk d n s := ⟨fun ⟨a, b, c, e, f⟩ => ⟨stopOk_e.1 a, stopOk_e.1 b, c, e, f⟩, fun ⟨a, b, c, e, f⟩ => ⟨stopOk_e.2 a, stopOk_e.2 b, c, e, f⟩⟩
theorem law_e {p : PB} : LawP (era p) ↔ LawP p := by
  constructor
  · rintro ⟨a, b, c, d, e, f, g, tg, dg, h, i, j, k, l⟩
    refine ⟨a, b, c, d, e, f, g, tg, dg, by rw [era_lv] at h; exact h, by rw [era_lj, era_ls] at i; exact i, fun x h0 h1 => ?_, fun x h0 h1 => ?_, fun x h0 h1 => ?_⟩
    · have := j x h0 (by rw [era_lv]; exact h1); rw [era_gv] at this; exact vehOk_e.1 this
    · have := k x h0 (by rw [era_lj]; exact h1); rw [era_gj] at this; exact jobOk_e.1 this
    · have := l x h0 (by rw [era_ls]; exact h1); rw [era_gs] at this; exact shipOk_e.1 this
  · rintro ⟨a, b, c, d, e, f, g, tg, dg, h, i, j, k, l⟩
    refine ⟨a, b, c, d, e, f, g, tg, dg, by rw [era_lv]; exact h, by rw [era_lj, era_ls]; exact i, fun x h0 h1 => ?_, fun x h0 h1 => ?_, fun x h0 h1 => ?_⟩
    · rw [era_gv]; exact vehOk_e.2 (j x h0 (by rw [era_lv] at h1; exact h1))
    · rw [era_gj]; exact jobOk_e.2 (k x h0 (by rw [era_lj] at h1; exact h1))
    · rw [era_gs]; exact shipOk_e.2 (l x h0 (by rw [era_ls] at h1; exact h1))
theorem law_era {p q : PB} (h : era q = era p) (L : LawP p) : LawP q := law_e.1 (by rw [h]; exact law_e.2 L)
def lineP : PB := ⟨0, 2, [0, 10, 10, 0], 2, [0, 10, 10, 0], [⟨0, 0, [], 0, 0, 1000000, 0, 1, 0, 12, [], none, 0, none, 0⟩], [⟨⟨1, 5, [⟨0, 1000000⟩], none, 0⟩, [], [], 0, 1, none, 0, none, 0⟩, ⟨⟨1, 0, [⟨0, 1000000⟩], none, 0⟩, [], [], 0, 5, none, 0, none, 0⟩], [], none, 0, none, 0, none, 0, none, 0, none, 0⟩
theorem gt_all {α : Type} [Inhabited α] {l : List α} {Φ : α → Prop} (h : ∀ x ∈ l, Φ x) (hd : Φ default) (i : Int) : Φ (gt l i) := by
  rcases gt_mem_or l i with k | k
  · exact h _ k
  · rw [k]; exact hd
theorem gt_in {α : Type} [Inhabited α] {l : List α} {i : Int} (h0 : 0 ≤ i) (h1 : i < (l.length : Int)) : gt l i ∈ l := by
  unfold gt; rw [List.getD_eq_getElem?_getD, List.getElem?_eq_getElem (by omega)]; exact List.getElem_mem _
theorem rng_nil {m : Int} (h : 0 ≤ m) : rng [] m := fun i => by
  rcases gt_mem_or ([] : List Int) i with k | k
  · cases k
  · rw [k]; exact ⟨Int.le_refl _, h⟩
theorem line_law : LawP lineP where
  dims := ⟨by decide, by decide⟩
  tn := ⟨by decide, by decide⟩
  dn := rfl
  tlen := rfl
  dlen := rfl
  tc := gt_all (Φ := fun x : Int => -1 ≤ x ∧ x ≤ 32000000) (by decide) (by decide)
  dc := gt_all (Φ := fun x : Int => -1 ≤ x ∧ x ≤ 32000000) (by decide) (by decide)
  tg a h0 h1 := by
    have h1 : a < 2 := h1
    rcases (by omega : a = 0 ∨ a = 1) with rfl | rfl <;> rfl
  dg a h0 h1 := by
    have h1 : a < 2 := h1
    rcases (by omega : a = 0 ∨ a = 1) with rfl | rfl <;> rfl
  nv := by decide
  nj := by decide
  veh i h0 h1 := by
    have hm := gt_in h0 h1
    simp only [lineP, List.mem_singleton] at hm
    have e : gt lineP.vehs i = _ := hm
    rw [e]
    exact { st := by decide, en := by decide, cap := ⟨rfl, rng_nil (by decide)⟩, sk := by decide, sh := by decide, fix := by decide, pt := by decide, pd := by decide, mt := by decide, brs := by decide, brk := fun i h0 h1 => by simp at h1; omega }
  job i h0 h1 := by
    have hm := gt_in h0 h1
    simp only [lineP, List.mem_cons, List.mem_singleton, List.not_mem_nil, or_false] at hm
    rcases hm with hm | hm
    all_goals
      have e : gt lineP.jobs i = _ := hm
      rw [e]
      exact { so := ⟨by decide, by decide, shift_to (by decide)⟩, drop := ⟨rfl, rng_nil (by decide)⟩, pick := ⟨rfl, rng_nil (by decide)⟩, sk := by decide, pr := by decide }
  ship i h0 h1 := by simp [lineP] at h1; omega
theorem one_all {α : Type} [Inhabited α] {x : α} {Φ : α → Prop} (h : Φ x) (hd : Φ default) (i : Int) : Φ (gt [x] i) := gt_all (by simpa using h) hd i
theorem two_all {α : Type} [Inhabited α] {x y : α} {Φ : α → Prop} (h : Φ x) (h2 : Φ y) (hd : Φ default) (i : Int) : Φ (gt [x, y] i) := gt_all (by simp [h, h2]) hd i
theorem VHF.dflt {S : Nat → Prop} {wf : World} : VHF S wf default := ⟨Fr.nil _ _ _ _, Fr.nil _ _ _ _, fun i => by rw [show gt (default : VH).brs i = default from (gt_mem_or ([] : List BK) i).elim (fun h => by cases h) id]; exact Fr.nil _ _ _ _⟩
theorem JBF.dflt {S : Nat → Prop} {wf : World} : JBF S wf default := ⟨Fr.nil _ _ _ _, Fr.nil _ _ _ _, Fr.nil _ _ _ _⟩
theorem SHF.dflt {S : Nat → Prop} {wf : World} : SHF S wf default := ⟨Fr.nil _ _ _ _, Fr.nil _ _ _ _, Fr.nil _ _ _ _⟩
theorem gt_none {α : Type} [Inhabited α] (i : Int) : gt ([] : List α) i = default := (gt_mem_or ([] : List α) i).elim (fun h => by cases h) id
end Go.SX
namespace Go.SX
open Go Go.RowKit
theorem gt_sets {α : Type} [Inhabited α] {l : List α} {i : Int} {x : α} (h0 : 0 ≤ i) (h1 : i < (l.length : Int)) : gt (l.set i.toNat x) i = x := by
  unfold gt; rw [List.getD_eq_getElem?_getD, List.getElem?_set_self (by omega)]; rfl
theorem gt_setn {α : Type} [Inhabited α] {l : List α} {i j : Int} {x : α} (h0 : 0 ≤ i) (h1 : 0 ≤ j) (h : i ≠ j) : gt (l.set i.toNat x) j = gt l j := by
  unfold gt; rw [List.getD_eq_getElem?_getD, List.getD_eq_getElem?_getD, List.getElem?_set_ne (by omega)]
theorem set_set_ {α : Type} (l : List α) (n : Nat) (x y : α) : (l.set n x).set n y = l.set n y := List.set_set ..
theorem AtE {C : World → Prop} {α : Type} {E : Enc α} {b o : Nat} {x y : α} (e : x = y) (h : ∀ w, C w → At w b o (E.enc x)) : ∀ w, C w → At w b o (E.enc y) := e ▸ h
section
variable {V : Env} {P : Program} {Q : Exit → Act → World → Prop} {ops : Array Oper} {N fuel : Nat} {o : Oper} {rest : List Oper} {L : List (Nat × Value)} {H R : List Res} {S : Nat → Prop} {wf : World} {K : St → Prop} {st : St} {B : World → Prop} {cs : List (Nat × (World → Prop))} {listed : Array Bool}
theorem SR.three {i j l : Nat} (hr : Region.ready .any ops listed = [i, j, l]) (h1 : SR1 V P Q ops N B cs fuel listed st i) (h2 : SR1 V P Q ops N B cs fuel listed st j) (h3 : SR1 V P Q ops N B cs fuel listed st l) : SR V P Q ops N B cs (fuel + 1) listed st :=
  .branch hr (by simp) fun k hk => by simp at hk; rcases hk with rfl | rfl | rfl <;> assumption
theorem SR.cutx {X : Type} (F : X → List (Nat × Value) × List Res) (S0 : Nat → Prop) (wf0 : World) (h1 : ∀ b, SQ V (Q .normal) N ⟨(F b).1, (F b).2, S0, wf0⟩) (h2 : (∀ b, SQ V (Q .normal) N ⟨(F b).1, (F b).2, S0, wf0⟩) → SR V P Q ops N B cs fuel listed st) : SR V P Q ops N B cs fuel listed st := h2 h1
theorem st_setel2 {α : Type} [Inhabited α] {E : Enc α} {t e n c p : Nat} {A : Option Addr} {l l2 : List α} {i : Int} {cs : List Value} {off : Nat} {ag : Bool} {x y : Operand} {u : Value} (z : α) (ho : o.op = .store t x y) (hg : o.guard = none) (hd : o.dst = none) (ht : ty P t = some (ag, cs.length))
    (hx : lk L x = some (.pointer (some ⟨ab A, p, none⟩))) (hpo : p = ao A + i.toNat * E.sz + off) (hy : lk L y = some u) (hcu : u.cells = cs.toArray) (hcs : cs.all (·.oneCell') = true) (hp : Pick H (rw_ E e (.slice A n c) l) R)
    (h0 : 0 ≤ i) (h1 : i < (l.length : Int)) (hle : off + cs.length ≤ E.sz) (hz : (E.enc (gt l i)).take off ++ cs ++ (E.enc (gt l i)).drop (off + cs.length) = E.enc z) (h2 : l.set i.toNat z = l2)
    (k : K ⟨L, rw_ E e (.slice A n c) l2 :: R, S, wf⟩) : OpStep V P Q ops N o ⟨L, H, S, wf⟩ K := by
  subst h2
  exact st_setel z ho hg hd ht hx hpo hy hcu hcs hp h0 h1 hle hz k
theorem SC.rerow {α : Type} {E : Enc α} {e : Nat} {v : Value} {l : List α} (l' : List α) {c : Code} (hp : PickL H [rw_ E e v l] R) (hf : flat E l = flat E l') (hl : l.length = l'.length) (h : SC V P Q N c ⟨L, rw_ E e v l' :: R, S, wf⟩) : SC V P Q N c ⟨L, H, S, wf⟩ := fun a w hs hw => by
  refine h a w hs ?_
  have e1 : rw_ E e v l' = rw_ E e v l := by unfold rw_; rw [hf, hl]
  rw [e1]; exact hw.perm hp.perm
end
def resB (e : Nat) (b : BK) : Res := rowB eWN e (.slice b.bwA b.bws.length b.bwc) b.bws
def nestB (e : Nat) (l : List BK) : Res := big (resB e) l
def resV (a b c : Nat) (v : VH) : Res := both (rowB eZ a (.slice v.vcA v.vcap.length v.vcc) v.vcap) (both (rowB eBK b (.slice v.vbA v.brs.length v.vbc) v.brs) (nestB c v.brs))
def nestV (a b c : Nat) (l : List VH) : Res := big (resV a b c) l
def resJ (a c : Nat) (j : JB) : Res := both (rowB eZ a (.slice j.jdA j.drop.length j.jdc) j.drop) (both (rowB eZ a (.slice j.jkA j.pick.length j.jkc) j.pick) (rowB eWN c (.slice j.so.soA j.so.sws.length j.so.soc) j.so.sws))
def nestJ (a c : Nat) (l : List JB) : Res := big (resJ a c) l
def resZ (a c : Nat) (s : SH) : Res := both (rowB eZ a (.slice s.saA s.am.length s.sac) s.am) (both (rowB eWN c (.slice s.sp.soA s.sp.sws.length s.sp.soc) s.sp.sws) (rowB eWN c (.slice s.sd.soA s.sd.sws.length s.sd.soc) s.sd.sws))
def nestZ (a c : Nat) (l : List SH) : Res := big (resZ a c) l
section
variable {S : Nat → Prop} {w : World}
theorem BKF.of {e : Nat} {l : List BK} (h : (nestB e l).holds w) (hS : ∀ b ∈ (nestB e l).foot, S b) : ∀ i : Int, BKF S w (gt l i) := gt_all (Φ := BKF S w) (fun x hx => Fr.of_row (h x hx).1 (fun b hb => hS b (big_foot (f := resB e) hx b hb)) (h x hx).2) (Fr.nil _ _ _ _)
theorem VHF.of {a b c : Nat} {l : List VH} (h : (nestV a b c l).holds w) (hS : ∀ x ∈ (nestV a b c l).foot, S x) : ∀ i : Int, VHF S w (gt l i) := gt_all (Φ := VHF S w) (fun x hx => by
  have hf : ∀ y ∈ (resV a b c x).foot, S y := fun y hy => hS y (big_foot (f := resV a b c) hx y hy)
  obtain ⟨h1, h2, h3⟩ := h x hx
  exact ⟨Fr.of_row h1.1 (fun y hy => hf y (List.mem_append_left _ hy)) h1.2, Fr.of_row h2.1 (fun y hy => hf y (List.mem_append_right _ (List.mem_append_left _ hy))) h2.2, BKF.of h3 (fun y hy => hf y (List.mem_append_right _ (List.mem_append_right _ hy)))⟩) VHF.dflt
theorem JBF.of {a c : Nat} {l : List JB} (h : (nestJ a c l).holds w) (hS : ∀ x ∈ (nestJ a c l).foot, S x) : ∀ i : Int, JBF S w (gt l i) := gt_all (Φ := JBF S w) (fun x hx => by
  have hf : ∀ y ∈ (resJ a c x).foot, S y := fun y hy => hS y (big_foot (f := resJ a c) hx y hy)
  obtain ⟨h1, h2, h3⟩ := h x hx
  exact ⟨Fr.of_row h1.1 (fun y hy => hf y (List.mem_append_left _ hy)) h1.2, Fr.of_row h2.1 (fun y hy => hf y (List.mem_append_right _ (List.mem_append_left _ hy))) h2.2, Fr.of_row h3.1 (fun y hy => hf y (List.mem_append_right _ (List.mem_append_right _ hy))) h3.2⟩) JBF.dflt
theorem SHF.of {a c : Nat} {l : List SH} (h : (nestZ a c l).holds w) (hS : ∀ x ∈ (nestZ a c l).foot, S x) : ∀ i : Int, SHF S w (gt l i) := gt_all (Φ := SHF S w) (fun x hx => by
  have hf : ∀ y ∈ (resZ a c x).foot, S y := fun y hy => hS y (big_foot (f := resZ a c) hx y hy)
  obtain ⟨h1, h2, h3⟩ := h x hx
  exact ⟨Fr.of_row h1.1 (fun y hy => hf y (List.mem_append_left _ hy)) h1.2, Fr.of_row h2.1 (fun y hy => hf y (List.mem_append_right _ (List.mem_append_left _ hy))) h2.2, Fr.of_row h3.1 (fun y hy => hf y (List.mem_append_right _ (List.mem_append_right _ hy))) h3.2⟩) SHF.dflt
end
section
variable {V : Env} {P : Program} {Q : Exit → Act → World → Prop} {ops : Array Oper} {N : Nat} {L : List (Nat × Value)} {H R : List Res} {S : Nat → Prop} {wf : World}
theorem SC.nestB0 (e : Nat) {c : Code} (h : SC V P Q N c ⟨L, nestB e [] :: H, S, wf⟩) : SC V P Q N c ⟨L, H, S, wf⟩ := fun a w hs hw => h a w hs (hw.big0 _)
theorem SC.nestV0 (a b e : Nat) {c : Code} (h : SC V P Q N c ⟨L, nestV a b e [] :: H, S, wf⟩) : SC V P Q N c ⟨L, H, S, wf⟩ := fun a w hs hw => h a w hs (hw.big0 _)
theorem SC.nestJ0 (a e : Nat) {c : Code} (h : SC V P Q N c ⟨L, nestJ a e [] :: H, S, wf⟩) : SC V P Q N c ⟨L, H, S, wf⟩ := fun a w hs hw => h a w hs (hw.big0 _)
theorem SC.nestZ0 (a e : Nat) {c : Code} (h : SC V P Q N c ⟨L, nestZ a e [] :: H, S, wf⟩) : SC V P Q N c ⟨L, H, S, wf⟩ := fun a w hs hw => h a w hs (hw.big0 _)
theorem SC.packB {e n : Nat} {l : List BK} (s : BK) {c : Code} (hp : PickL H [nestB e l, rw_ eWN e (.slice s.bwA n s.bwc) s.bws] R) (h1 : s.bws.length = n) (hb : n ≤ 140737488355328) (h : SC V P Q N c ⟨L, nestB e (l ++ [s]) :: R, S, wf⟩) : SC V P Q N c ⟨L, H, S, wf⟩ := fun a w hs hw => by
  subst h1; exact h a w hs (WW.bigapp (hw.perm hp.perm) rfl (fun h => ⟨h, hb⟩))
theorem SC.packV {a b e n m : Nat} {l : List VH} (s : VH) {c : Code} (hp : PickL H [nestV a b e l, rw_ eZ a (.slice s.vcA n s.vcc) s.vcap, rw_ eBK b (.slice s.vbA m s.vbc) s.brs, nestB e s.brs] R) (h1 : s.vcap.length = n) (h2 : s.brs.length = m) (hb : n ≤ 140737488355328) (hb2 : m ≤ 140737488355328) (h : SC V P Q N c ⟨L, nestV a b e (l ++ [s]) :: R, S, wf⟩) : SC V P Q N c ⟨L, H, S, wf⟩ := fun ac w hs hw => by
  subst h1; subst h2
  refine h ac w hs (WW.swap (A := [nestV a b e l, rw_ eZ a (.slice s.vcA s.vcap.length s.vcc) s.vcap, rw_ eBK b (.slice s.vbA s.brs.length s.vbc) s.brs, nestB e s.brs]) (hw.perm hp.perm) ?_ (fun hA y hy => ?_))
  · simp [nestV, big, feet, List.flatMap_append, resV, both, rowB]
  · rcases List.mem_append.1 hy with hy | hy
    · exact hA _ (List.mem_cons_self ..) y hy
    · simp only [List.mem_singleton] at hy; subst hy
      exact ⟨⟨hA _ (by simp), hb⟩, ⟨hA _ (by simp), hb2⟩, hA _ (by simp)⟩
theorem SC.packJ {a e n m k : Nat} {l : List JB} (s : JB) {c : Code} (hp : PickL H [nestJ a e l, rw_ eZ a (.slice s.jdA n s.jdc) s.drop, rw_ eZ a (.slice s.jkA m s.jkc) s.pick, rw_ eWN e (.slice s.so.soA k s.so.soc) s.so.sws] R) (h1 : s.drop.length = n) (h2 : s.pick.length = m) (h3 : s.so.sws.length = k) (hb : n ≤ 140737488355328) (hb2 : m ≤ 140737488355328) (hb3 : k ≤ 140737488355328) (h : SC V P Q N c ⟨L, nestJ a e (l ++ [s]) :: R, S, wf⟩) : SC V P Q N c ⟨L, H, S, wf⟩ := fun ac w hs hw => by
  subst h1; subst h2; subst h3
  refine h ac w hs (WW.swap (A := [nestJ a e l, rw_ eZ a (.slice s.jdA s.drop.length s.jdc) s.drop, rw_ eZ a (.slice s.jkA s.pick.length s.jkc) s.pick, rw_ eWN e (.slice s.so.soA s.so.sws.length s.so.soc) s.so.sws]) (hw.perm hp.perm) ?_ (fun hA y hy => ?_))
  · simp [nestJ, big, feet, List.flatMap_append, resJ, both, rowB]
  · rcases List.mem_append.1 hy with hy | hy
    · exact hA _ (List.mem_cons_self ..) y hy
    · simp only [List.mem_singleton] at hy; subst hy
      exact ⟨⟨hA _ (by simp), hb⟩, ⟨hA _ (by simp), hb2⟩, ⟨hA _ (by simp), hb3⟩⟩
theorem SC.packZ {a e n m k : Nat} {l : List SH} (s : SH) {c : Code} (hp : PickL H [nestZ a e l, rw_ eZ a (.slice s.saA n s.sac) s.am, rw_ eWN e (.slice s.sp.soA m s.sp.soc) s.sp.sws, rw_ eWN e (.slice s.sd.soA k s.sd.soc) s.sd.sws] R) (h1 : s.am.length = n) (h2 : s.sp.sws.length = m) (h3 : s.sd.sws.length = k) (hb : n ≤ 140737488355328) (hb2 : m ≤ 140737488355328) (hb3 : k ≤ 140737488355328) (h : SC V P Q N c ⟨L, nestZ a e (l ++ [s]) :: R, S, wf⟩) : SC V P Q N c ⟨L, H, S, wf⟩ := fun ac w hs hw => by
  subst h1; subst h2; subst h3
  refine h ac w hs (WW.swap (A := [nestZ a e l, rw_ eZ a (.slice s.saA s.am.length s.sac) s.am, rw_ eWN e (.slice s.sp.soA s.sp.sws.length s.sp.soc) s.sp.sws, rw_ eWN e (.slice s.sd.soA s.sd.sws.length s.sd.soc) s.sd.sws]) (hw.perm hp.perm) ?_ (fun hA y hy => ?_))
  · simp [nestZ, big, feet, List.flatMap_append, resZ, both, rowB]
  · rcases List.mem_append.1 hy with hy | hy
    · exact hA _ (List.mem_cons_self ..) y hy
    · simp only [List.mem_singleton] at hy; subst hy
      exact ⟨⟨hA _ (by simp), hb⟩, ⟨hA _ (by simp), hb2⟩, ⟨hA _ (by simp), hb3⟩⟩
end
structure CpI {α : Type} [Inhabited α] (er : α → α) (src X D : List α) (i : Int) : Prop where
  len : X.length = src.length
  rest : ∀ j : Int, i ≤ j → gt X j = gt src j
  done : D = X.take i.toNat
  same : ∀ j : Int, 0 ≤ j → j < i → er (gt X j) = er (gt src j)
section
variable {α : Type} [Inhabited α] {er : α → α} {src X D : List α} {i : Int}
theorem cp_init : CpI er src src [] 0 := ⟨rfl, fun _ _ => rfl, rfl, fun j h0 h1 => by omega⟩
theorem cp_next (h : CpI er src X D i) (h0 : 0 ≤ i) (h1 : i < (src.length : Int)) {z : α} (hz : er z = er (gt X i)) : CpI er src (X.set i.toNat z) (D ++ [z]) (i + 1) where
  len := by rw [List.length_set]; exact h.len
  rest j hj := by rw [gt_setn h0 (by omega) (by omega)]; exact h.rest j (by omega)
  done := by
    have hl := h.len
    rw [h.done, show (i + 1).toNat = i.toNat + 1 from by omega, List.take_add_one, List.take_set_of_le (Nat.le_refl _), List.getElem?_set_self (by omega)]; rfl
  same j hj0 hj1 := by
    have hl := h.len
    by_cases hj : j = i
    · subst hj; rw [gt_sets h0 (by omega), hz, h.rest j (Int.le_refl _)]
    · rw [gt_setn h0 hj0 (by omega)]; exact h.same j hj0 (by omega)
theorem cp_end (h : CpI er src X D i) (hi : ¬ i < (src.length : Int)) : D = X ∧ X.map er = src.map er := by
  have hl := h.len
  refine ⟨by rw [h.done, List.take_of_length_le (by omega)], List.ext_getElem (by simp [hl]) fun n h1 h2 => ?_⟩
  have h1' : n < X.length := by simpa using h1
  have h2' : n < src.length := by simpa using h2
  have := h.same n (by omega) (by omega)
  have e1 : gt X (n : Int) = X[n] := by simp [gt, List.getD_eq_getElem?_getD, h1']
  have e2 : gt src (n : Int) = src[n] := by simp [gt, List.getD_eq_getElem?_getD, h2']
  rw [e1, e2] at this
  simpa using this
end
end Go.SX
namespace Go.SX
open Go Go.RowKit
theorem flat_set {α : Type} {E : Enc α} : ∀ {l : List α} {n : Nat} {x y : α}, E.enc x = E.enc y → flat E (l.set n x) = flat E (l.set n y)
  | [], _, _, _, _ => rfl
  | a :: l, 0, x, y, h => by rw [List.set_cons_zero, List.set_cons_zero, flat_cons, flat_cons, h]
  | a :: l, n + 1, x, y, h => by rw [List.set_cons_succ, List.set_cons_succ, flat_cons, flat_cons, flat_set h]
theorem set_len2 {α : Type} {l : List α} {n : Nat} {x y : α} : (l.set n x).length = (l.set n y).length := by simp
end Go.SX
namespace Go.SX
open Go Go.RowKit
section
variable {V : Env} {P : Program} {Q : Exit → Act → World → Prop} {ops : Array Oper} {N fuel : Nat} {L L' : List (Nat × Value)} {H H' : List Res} {S : Nat → Prop} {wf : World} {B : World → Prop} {cs : List (Nat × (World → Prop))} {listed : Array Bool}
theorem SR.join {X : Type} (F : X → List (Nat × Value) × List Res) (fuel' : Nat) (listed' : Array Bool) (h1 : ∀ x, SR V P Q ops N B cs fuel' listed' ⟨(F x).1, (F x).2, S, wf⟩) (h2 : (∀ x, SR V P Q ops N B cs fuel' listed' ⟨(F x).1, (F x).2, S, wf⟩) → SR V P Q ops N B cs fuel listed ⟨L, H, S, wf⟩) : SR V P Q ops N B cs fuel listed ⟨L, H, S, wf⟩ := h2 h1
theorem SR.weakj {listed' : Array Bool} (h : SR V P Q ops N B cs fuel listed' ⟨L', H', S, wf⟩) (e : listed = listed') (hL : ∀ k v, lkp L' k = some v → lkp L k = some v) (hw : ∀ w, WW V S wf H w → WW V S wf H' w) : SR V P Q ops N B cs fuel listed ⟨L, H, S, wf⟩ := by
  subst e; exact fun a w hs hw' ht hc => h a w (hs.mono hL) (hw w hw') ht hc
end
end Go.SX
namespace Go.SX
open Go Go.RowKit
theorem ttr {V : Env} {H : List Res} {S : Nat → Prop} {wf : World} {α : Type} [Inhabited α] {E : Enc α} {e n c j : Nat} {A : Option Addr} {l : List α} {i : Int} {listed : Array Bool} (k : Nat) (hk : H[k]? = some (rw_ E e (.slice A n c) l)) (h0 : 0 ≤ i) (h1 : i < (l.length : Int)) : ∀ w, WW V S wf H w → TT (Fz S wf) [(j, fun w => At w (ab A) (ao A + i.toNat * E.sz) (E.enc (gt l i)))] listed w :=
  ttc (fun w hw => tc1 (row_el k hk h0 h1 w hw) tc0)
end Go.SX
namespace Go.SX
open Go Go.RowKit
def allV (s : List RC) : List Vis := s.flatMap (fun r => r.2)
structure SolI (p : PB) (s : List RC) : Prop where
  inc : s.Pairwise (fun x y => x.1 < y.1)
  rng : ∀ r ∈ s, 0 ≤ r.1 ∧ r.1 < (p.vehs.length : Int)
  non : ∀ r ∈ s, r.2 ≠ []
  fit : ∀ r ∈ s, (fitV p r.1 r.2).e = 0
theorem with_perm {s : List RC} {v : Int} {l : List Vis} (hl : 0 < l.length) : (withF s v l).Perm (otherR v s ++ [(v, l)]) := by
  unfold withF; rw [if_pos hl]; exact sort_perm
theorem visT_nodup (t : TK) : (visT t).Nodup := by
  unfold visT; split <;> simp
theorem allT_nodup {a b : Nat} : (allT a b).Nodup ∧ ∀ t ∈ allT a b, 0 ≤ t.item := by
  constructor
  · unfold allT
    refine List.nodup_append.2 ⟨?_, ?_, fun x hx y hy e => ?_⟩
    · exact List.Pairwise.map _ (fun x y h k => h (by injection k with _ k; exact Int.ofNat.inj k)) List.nodup_range
    · exact List.Pairwise.map _ (fun x y h k => h (by injection k with _ k; exact Int.ofNat.inj k)) List.nodup_range
    · subst e
      obtain ⟨i, _, rfl⟩ := List.mem_map.1 hx
      obtain ⟨j, _, h⟩ := List.mem_map.1 hy
      injection h with h _; cases h
  · intro t ht
    unfold allT at ht
    rcases List.mem_append.1 ht with ht | ht <;> (obtain ⟨i, _, rfl⟩ := List.mem_map.1 ht; exact Int.natCast_nonneg _)
theorem taskL_nodup {p : PB} : (taskL p).Nodup ∧ ∀ t ∈ taskL p, 0 ≤ t.item := by
  unfold taskL
  exact ⟨sort_perm.nodup_iff.2 allT_nodup.1, fun t ht => allT_nodup.2 t (sort_perm.mem_iff.1 ht)⟩
end Go.SX
namespace Go.SX
open Go Go.RowKit
theorem RTF.sub {S : Nat → Prop} {wf : World} {l l' : List RT} (h : RTF S wf l) (hs : ∀ x ∈ l', x ∈ l) : RTF S wf l' := gt_all (Φ := fun r : RT => Fr eVis S wf r.rA r.vis) (fun x hx => by
  obtain ⟨n, hn, e⟩ := List.getElem_of_mem (hs x hx)
  have := h n
  rw [show gt l (n : Int) = x from by simp [gt, List.getD_eq_getElem?_getD, hn, e]] at this
  exact this) (Fr.nil _ _ _ _)
theorem allV_split {l : List RT} {i : Int} (h0 : 0 ≤ i) (h1 : i < (l.length : Int)) : allV (l.map rc) = allV ((l.take i.toNat).map rc) ++ ((gt l i).vis ++ allV ((l.drop (i + 1).toNat).map rc)) := by
  have e : l = l.take i.toNat ++ (gt l i :: l.drop (i + 1).toNat) := by rw [← drop_gt h0 h1]; exact (List.take_append_drop _ _).symm
  conv => lhs; rw [e]
  unfold allV; rw [List.map_append, List.flatMap_append]; rfl
theorem allV_take {l : List RT} {i : Int} (h0 : 0 ≤ i) (h1 : i < (l.length : Int)) : allV ((l.take (i + 1).toNat).map rc) = allV ((l.take i.toNat).map rc) ++ (gt l i).vis := by
  have hi : (i + 1).toNat = i.toNat + 1 := by omega
  have e : l.take (i + 1).toNat = l.take i.toNat ++ [gt l i] := by
    rw [hi, List.take_add_one, gt_at h0 h1]; rfl
  rw [e]; unfold allV; rw [List.map_append, List.flatMap_append]; simp [rc]
theorem nodup_no {l : List RT} (hN : (allV (l.map rc)).Nodup) {i j : Int} (h0 : 0 ≤ i) (h1 : i < (l.length : Int)) (h2 : 0 ≤ j) (h3 : j < ((gt l i).vis.length : Int)) : gt (gt l i).vis j ∉ allV ((l.take i.toNat).map rc) := fun h => by
  rw [allV_split h0 h1] at hN
  exact (List.nodup_append.1 hN).2.2 _ h _ (List.mem_append_left _ (gt_in h2 h3)) rfl
theorem sol_at {p : PB} {l : List RT} (h : SolI p (l.map rc)) {i : Int} (h0 : 0 ≤ i) (h1 : i < (l.length : Int)) : (0 ≤ (gt l i).veh ∧ (gt l i).veh < (p.vehs.length : Int)) ∧ 0 < (gt l i).vis.length ∧ (fitV p (gt l i).veh (gt l i).vis).e = 0 ∧ (0 < i → (gt l (i - 1)).veh < (gt l i).veh) := by
  have hm : rc (gt l i) ∈ l.map rc := List.mem_map_of_mem (gt_in h0 h1)
  refine ⟨h.rng _ hm, ?_, h.fit _ hm, fun hi => ?_⟩
  · have := h.non _ hm
    exact List.length_pos_iff.2 this
  · have hp := h.inc
    rw [List.pairwise_map] at hp
    have := List.pairwise_iff_getElem.1 hp (i - 1).toNat i.toNat (by omega) (by omega) (by omega)
    have e1 : gt l (i - 1) = l[(i - 1).toNat]'(by omega) := gt_some (List.getElem?_eq_getElem (by omega))
    have e2 : gt l i = l[i.toNat]'(by omega) := gt_some (List.getElem?_eq_getElem (by omega))
    rw [e1, e2]; exact this
theorem has_no {l : List RT} {x : Vis} {i : Int} (hq : ∀ j : Int, 0 ≤ j → j < i → x ∉ (gt l j).vis) (hi : i = (l.length : Int)) : x ∉ allV (l.map rc) := fun h => by
  obtain ⟨r, hr, hx⟩ := List.mem_flatMap.1 h
  obtain ⟨y, hy, rfl⟩ := List.mem_map.1 hr
  obtain ⟨n, hn, e⟩ := List.getElem_of_mem hy
  refine hq n (by omega) (by omega) ?_
  rw [show gt l (n : Int) = y from by simp [gt, List.getD_eq_getElem?_getD, hn, e]]; exact hx
theorem has_yes {l : List RT} {x : Vis} {i j : Int} (h0 : 0 ≤ i) (h1 : i < (l.length : Int)) (h2 : 0 ≤ j) (h3 : j < ((gt l i).vis.length : Int)) (h : gt (gt l i).vis j = x) : x ∈ allV (l.map rc) := by
  subst h
  exact List.mem_flatMap.2 ⟨rc (gt l i), List.mem_map_of_mem (gt_in h0 h1), gt_in h2 h3⟩
theorem not_in {l : List Vis} {x : Vis} {j : Int} (hq : ∀ k : Int, 0 ≤ k → k < j → ¬ gt l k = x) (hj : j = (l.length : Int)) : x ∉ l := fun h => by
  obtain ⟨n, hn, e⟩ := List.getElem_of_mem h
  refine hq n (by omega) (by omega) ?_
  rw [← e]; simp [gt, List.getD_eq_getElem?_getD, hn]
end Go.SX
namespace Go.SX
open Go Go.RowKit
theorem vis_of {x y : Vis} (h : x.kind = y.kind ∧ x.item = y.item) : x = y := vis_ext h.1 h.2
theorem vis_no {x y : Vis} (h : ¬ (x.kind = y.kind ∧ x.item = y.item)) : ¬ x = y := fun e => h (by rw [e]; exact ⟨rfl, rfl⟩)
end Go.SX
namespace Go.SX
open Go Go.RowKit
theorem vis_sub {l l' : List RT} {a b : Nat} (hs : ∀ x ∈ l', x ∈ l) (h : ∀ i : Int, (gt l i).vis.length ≤ a) (hab : a ≤ b) : ∀ i : Int, (gt l' i).vis.length ≤ b := gt_all (Φ := fun r : RT => r.vis.length ≤ b) (fun x hx => by
  obtain ⟨n, hn, e⟩ := List.getElem_of_mem (hs x hx)
  have := h n
  rw [show gt l (n : Int) = x from gt_some (by simp [hn, e])] at this
  omega) (Nat.zero_le _)
end Go.SX
namespace Go.SX
open Go Go.RowKit
def isum {α : Type} (f : α → Int) : List α → Int
  | [] => 0
  | x :: l => f x + isum f l
section
variable {α β : Type} {f : α → Int}
theorem isum_app {l m : List α} : isum f (l ++ m) = isum f l + isum f m := by
  induction l with
  | nil => simp [isum]
  | cons x l ih => simp only [List.cons_append, isum, ih]; omega
theorem isum_perm {l m : List α} (h : l.Perm m) : isum f l = isum f m := by
  induction h with
  | nil => rfl
  | cons x _ ih => simp only [isum, ih]
  | swap x y l => simp only [isum]; omega
  | trans _ _ a b => exact a.trans b
end
def cstR (p : PB) (s : List RC) : Int := isum (fun r : RC => (fitV p r.1 r.2).cost) s
def valV (p : PB) (x : Vis) : Int := if x.kind ≠ 3 then prioF p (taskV x) else 0
def valR (p : PB) (s : List RC) : Int := isum (valV p) (allV s)
theorem times_cost5 {p : PB} (L : LawP p) {v : VH} {l : List Vis} (hv : 0 ≤ v.fix ∧ v.fix ≤ 1000000 ∧ 0 ≤ v.pt ∧ v.pt ≤ 1000000 ∧ 0 ≤ v.pd ∧ v.pd ≤ 1000000) (hl : l.length ≤ 60) : -4100000000000000 ≤ (timesF p v l).cost ∧ (timesF p v l).cost ≤ 4100000000000000 := by
  unfold timesF
  split
  · rename_i s hs
    have b := timesR_bd L (m := 0) hs (by simp) (by simp)
    have c1 : -1 ≤ tcell p s.pl v.en ∧ tcell p s.pl v.en ≤ 32000000 := cellF_rng L.tc
    have c2 : -1 ≤ dcell p s.pl v.en ∧ dcell p s.pl v.en ≤ 32000000 := cellF_rng L.dc
    unfold tmEnd
    split
    · exact ⟨by decide, by decide⟩
    · have m1 : ∀ {a q : Int}, -2000000000 ≤ a → a ≤ 2000000000 → 0 ≤ q → q ≤ 1000000 → -2000000000000000 ≤ a * q ∧ a * q ≤ 2000000000000000 := fun {a q} h1 h2 h3 h4 => by
        have e : (a * q).natAbs ≤ 2000000000000000 := by
          rw [Int.natAbs_mul]
          exact Nat.mul_le_mul (show a.natAbs ≤ 2000000000 by omega) (show q.natAbs ≤ 1000000 by omega)
        omega
      have k1 := m1 (a := s.time + tcell p s.pl v.en) (q := v.pt) (by omega) (by omega) (by omega) (by omega)
      have k2 := m1 (a := s.dist + dcell p s.pl v.en) (q := v.pd) (by omega) (by omega) (by omega) (by omega)
      dsimp only
      omega
  · exact ⟨by decide, by decide⟩
theorem plan_cost5 {p : PB} (L : LawP p) {k : Int} {l : List Vis} (hl : l.length ≤ 60) : -4100000000000000 ≤ (planP p k l).cost ∧ (planP p k l).cost ≤ 4100000000000000 := by
  unfold planP
  split
  · exact ⟨by decide, by decide⟩
  · rename_i h
    split
    · exact ⟨Int.le_trans (by decide) (Int.le_refl 0), Int.le_trans (Int.le_refl 0) (by decide)⟩
    · have V := L.veh k (by omega) (by omega)
      exact times_cost5 L ⟨V.fix.1, V.fix.2, V.pt.1, V.pt.2, V.pd.1, V.pd.2⟩ hl
theorem fit_cost5 {p : PB} (L : LawP p) {k : Int} {l : List Vis} (hl : l.length ≤ 50) : -4100000000000000 ≤ (fitV p k l).cost ∧ (fitV p k l).cost ≤ 4100000000000000 := by
  unfold fitV
  split
  · exact ⟨by decide, by decide⟩
  · rename_i h
    split
    · exact ⟨by decide, by decide⟩
    · have V := L.veh k (by omega) (by omega)
      refine firstC_all (Q := fun r => -4100000000000000 ≤ r.cost ∧ r.cost ≤ 4100000000000000) ⟨by decide, by decide⟩ (fun c hc => plan_cost5 L ?_)
      have h1 := cands_len (m := (l.length : Int)) (a := zerosB p k) (by unfold zerosB; rw [List.length_replicate]; exact V.brs) c hc
      have h2 := setR_len (l := l) (i := 0) (k := 0) (r := c)
      omega
theorem visT_task2 {t : TK} {x : Vis} (hx : x ∈ visT t) : taskV x = t := by
  obtain ⟨sh, it⟩ := t
  cases sh with
  | true =>
    simp [visT] at hx
    rcases hx with rfl | rfl <;> rfl
  | false => simp [visT] at hx; subst hx; rfl
theorem flat_nodup2 : ∀ {D : List TK}, D.Nodup → (D.flatMap visT).Nodup
  | [], _ => List.nodup_nil
  | t :: D, h => by
    have h1 := List.nodup_cons.1 h
    rw [List.flatMap_cons]
    refine List.nodup_append.2 ⟨visT_nodup t, flat_nodup2 h1.2, fun x hx y hy e => ?_⟩
    subst e
    obtain ⟨t2, h2, h3⟩ := List.mem_flatMap.1 hy
    have e1 := visT_task2 hx
    have e2 := visT_task2 h3
    rw [e1] at e2; subst e2; exact h1.1 h2
end Go.SX
namespace Go.SX
open Go Go.RowKit
theorem cst_take {p : PB} {l : List RT} {i : Int} (h0 : 0 ≤ i) (h1 : i < (l.length : Int)) : cstR p ((l.take (i + 1).toNat).map rc) = cstR p ((l.take i.toNat).map rc) + (fitV p (gt l i).veh (gt l i).vis).cost := by
  have hi : (i + 1).toNat = i.toNat + 1 := by omega
  have e : l.take (i + 1).toNat = l.take i.toNat ++ [gt l i] := by rw [hi, List.take_add_one, gt_at h0 h1]; rfl
  rw [e, List.map_append]; unfold cstR; rw [isum_app]; simp [isum, rc]
theorem val_take {p : PB} {l : List RT} {i : Int} (h0 : 0 ≤ i) (h1 : i < (l.length : Int)) : valR p ((l.take (i + 1).toNat).map rc) = valR p ((l.take i.toNat).map rc) + isum (valV p) (gt l i).vis := by
  unfold valR; rw [allV_take h0 h1, isum_app]
theorem val_in {p : PB} {l : List Vis} {j : Int} (h0 : 0 ≤ j) (h1 : j < (l.length : Int)) : isum (valV p) (l.take (j + 1).toNat) = isum (valV p) (l.take j.toNat) + valV p (gt l j) := by
  rw [take_gt h0 h1, isum_app]; simp [isum]
theorem valV_no {p : PB} {x : Vis} (h : ¬ ¬ x.kind = 3) : valV p x = 0 := if_neg (fun k => h (fun e => k e))
theorem valV_ok {p : PB} {x : Vis} (h : ¬ x.kind = 3) : valV p x = prioF p (taskV x) := if_pos h
end Go.SX
namespace Go.SX
open Go Go.RowKit
def bt (d i : Int) : Bool := d.toNat.testBit i.toNat
def shrI (x n : Int) : Int := x.fdiv (2 ^ (min n.toNat 64))
def shlI (x n : Int) : Int := IntKind.i64.wrap (x * 2 ^ (min n.toNat 64))
def setb (d i : Int) : Int := ((d.toNat ||| 2 ^ i.toNat : Nat) : Int)
def full (n : Nat) : Int := ((2 ^ n - 1 : Nat) : Int)
theorem i64_nat {x : Nat} (h : x < 2 ^ 63) : IntKind.i64.wrap (x : Int) = x := wrap_in (by omega) (by omega)
theorem ofInt_nat {x : Nat} (h : x < 2 ^ 63) : (BitVec.ofInt 64 (x : Int)).toNat = x := by
  rw [BitVec.ofInt_natCast, BitVec.toNat_ofNat]; omega
theorem bnd_1 {x : Nat} (h : x < 2 ^ 63) : bnd .i64 (x : Int) 1 = ((x % 2 : Nat) : Int) := by
  unfold bnd
  show IntKind.i64.wrap ((BitVec.ofInt 64 (x : Int) &&& BitVec.ofInt 64 ((1 : Nat) : Int)).toNat : Int) = _
  rw [BitVec.toNat_and, ofInt_nat h, ofInt_nat (by decide), Nat.and_one_is_mod, i64_nat (by omega)]
theorem shr_nat {x : Nat} {i : Int} (h0 : 0 ≤ i) (h1 : i ≤ 64) : shrI (x : Int) i = ((x / 2 ^ i.toNat : Nat) : Int) := by
  unfold shrI
  rw [show min i.toNat 64 = i.toNat from by omega, show ((2 : Int) ^ i.toNat) = ((2 ^ i.toNat : Nat) : Int) from by simp]
  rw [Int.fdiv_eq_ediv_of_nonneg _ (Int.natCast_nonneg _)]
  rfl
theorem bit_is {d i : Int} (hd : 0 ≤ d) (hd2 : d < 4611686018427387904) (h0 : 0 ≤ i) (h1 : i ≤ 64) : bnd .i64 (shrI d i) 1 = if bt d i = true then 1 else 0 := by
  obtain ⟨n, rfl⟩ := Int.eq_ofNat_of_zero_le hd
  have h2 : n / 2 ^ i.toNat ≤ n := Nat.div_le_self _ _
  rw [shr_nat h0 h1, bnd_1 (by omega)]
  unfold bt
  rw [Int.toNat_natCast, Nat.testBit_eq_decide_div_mod_eq]
  have h3 := Nat.mod_two_eq_zero_or_one (n / 2 ^ i.toNat)
  rcases h3 with h3 | h3 <;> rw [h3] <;> simp
theorem bit_0 {d i : Int} (hd : 0 ≤ d) (hd2 : d < 4611686018427387904) (h0 : 0 ≤ i) (h1 : i ≤ 64) : bnd .i64 (shrI d i) 1 = 0 ↔ bt d i = false := by
  rw [bit_is hd hd2 h0 h1]; cases bt d i <;> simp
theorem shl_1 {i : Int} (h0 : 0 ≤ i) (h1 : i ≤ 61) : shlI 1 i = ((2 ^ i.toNat : Nat) : Int) := by
  unfold shlI
  rw [show min i.toNat 64 = i.toNat from by omega, Int.one_mul, show ((2 : Int) ^ i.toNat) = ((2 ^ i.toNat : Nat) : Int) from by simp]
  have : 2 ^ i.toNat ≤ 2 ^ 61 := Nat.pow_le_pow_right (by decide) (by omega)
  exact i64_nat (by omega)
theorem pow_le8 {n : Nat} (h : n ≤ 12) : 2 ^ n ≤ 4096 := (Nat.pow_le_pow_right (by decide) h : 2 ^ n ≤ 2 ^ 12)
theorem or_set {d i : Int} (hd : 0 ≤ d) (hd2 : d < 2305843009213693952) (h0 : 0 ≤ i) (h1 : i ≤ 60) : bor .i64 d (shlI 1 i) = setb d i := by
  obtain ⟨n, rfl⟩ := Int.eq_ofNat_of_zero_le hd
  have h2 : 2 ^ i.toNat < 2 ^ 61 := Nat.pow_lt_pow_right (by decide) (by omega)
  rw [shl_1 h0 (by omega)]
  unfold bor setb
  rw [show IntKind.i64.bits = 64 from rfl, BitVec.toNat_or, ofInt_nat (by omega), ofInt_nat (by omega), Int.toNat_natCast]
  have h3 : n ||| 2 ^ i.toNat < 2 ^ 61 := Nat.or_lt_two_pow (by omega) h2
  exact i64_nat (by omega)
theorem bt_set {d i j : Int} (hi : 0 ≤ i) (hj : 0 ≤ j) : bt (setb d i) j = (bt d j || decide (i = j)) := by
  unfold bt setb
  rw [Int.toNat_natCast, Nat.testBit_or, Nat.testBit_two_pow]
  congr 1
  rw [Bool.eq_iff_iff]; simp; omega
theorem set_rng {d i : Int} {n : Nat} (h1 : 0 ≤ d ∧ d < ((2 ^ n : Nat) : Int)) (hi : i < (n : Int)) (h0 : 0 ≤ i) : 0 ≤ setb d i ∧ setb d i < ((2 ^ n : Nat) : Int) := by
  unfold setb
  have h2 : 2 ^ i.toNat < 2 ^ n := Nat.pow_lt_pow_right (by decide) (by omega)
  have h3 : d.toNat ||| 2 ^ i.toNat < 2 ^ n := Nat.or_lt_two_pow (by omega) h2
  omega
theorem bt_zero (i : Int) : bt 0 i = false := by unfold bt; simp
theorem bt_full {n : Nat} {i : Int} (h0 : 0 ≤ i) : bt (full n) i = decide (i < (n : Int)) := by
  unfold bt full
  rw [Int.toNat_natCast, Nat.testBit_two_pow_sub_one, Bool.eq_iff_iff]; simp; omega
theorem full_is {n : Nat} (h : n ≤ 12) : shlI 1 (n : Int) - 1 = full n := by
  rw [shl_1 (by omega) (by omega), Int.toNat_natCast]
  have : 0 < 2 ^ n := Nat.pow_pos (by decide)
  unfold full; omega
theorem bt_high {d i : Int} {n : Nat} (h1 : 0 ≤ d ∧ d < ((2 ^ n : Nat) : Int)) (hi : (n : Int) ≤ i) : bt d i = false := by
  unfold bt
  have h2 : 2 ^ n ≤ 2 ^ i.toNat := Nat.pow_le_pow_right (by decide) (by omega)
  exact Nat.testBit_lt_two_pow (by omega)
theorem bt_ext {d e : Int} {n : Nat} (h1 : 0 ≤ d ∧ d < ((2 ^ n : Nat) : Int)) (h2 : 0 ≤ e ∧ e < ((2 ^ n : Nat) : Int)) (h : ∀ i : Int, 0 ≤ i → i < (n : Int) → bt d i = bt e i) : d = e := by
  have : d.toNat = e.toNat := Nat.eq_of_testBit_eq (fun i => by
    by_cases hi : i < n
    · have := h i (by omega) (by omega); unfold bt at this; simpa using this
    · have a := bt_high h1 (i := (i : Int)) (by omega)
      have b := bt_high h2 (i := (i : Int)) (by omega)
      unfold bt at a b; rw [Int.toNat_natCast] at a b; rw [a, b])
  omega
end Go.SX
namespace Go.SX
open Go Go.RowKit
def dlt (p : PB) (d : Int) (x : Vis) : Int := ent p x false d - ent p x true d
def selB (dn : Int) : List Vis → Int → List Vis
  | [], _ => []
  | x :: r, i => if bt dn i = true then x :: selB dn r (i + 1) else selB dn r (i + 1)
def abF (p : PB) (dn : Int) : List Vis → Int → List Int → List Int
  | [], _, a => a
  | x :: r, i, a => abF p dn r (i + 1) (if bt dn i = true then loadSt p x a else a)
theorem abF_cons {p : PB} {dn i : Int} {x : Vis} {r : List Vis} {a : List Int} : abF p dn (x :: r) i a = abF p dn r (i + 1) (if bt dn i = true then loadSt p x a else a) := rfl
theorem loadSt_len {p : PB} (L : LawP p) {x : Vis} {a : List Int} (h : (a.length : Int) = p.dims) : ((loadSt p x a).length : Int) = p.dims := by
  unfold loadSt
  split
  · rename_i h1
    split
    · rename_i h2; have i := is_i1 h1 h2; have j := L.job _ i.1 i.2; rw [addL_len, subL_len]; have := job_drop j; have := job_pick j; omega
    · split
      · rename_i h2; have i := is_i2 h1 (.inl h2); have j := L.ship _ i.1 i.2; rw [addL_len]; have := ship_am j; omega
      · split
        · rename_i h2; have i := is_i2 h1 (.inr h2); have j := L.ship _ i.1 i.2; rw [subL_len]; have := ship_am j; omega
        · exact h
  · exact h
theorem abF_gt {p : PB} (L : LawP p) {dn d : Int} : ∀ {l : List Vis} {i : Int} {a : List Int}, (a.length : Int) = p.dims → gt (abF p dn l i a) d = gt a d + isum (dlt p d) (selB dn l i) ∧ ((abF p dn l i a).length : Int) = p.dims
  | [], i, a, h => ⟨by simp [abF, selB, isum], h⟩
  | x :: r, i, a, h => by
    rw [abF_cons, selB]
    by_cases hb : bt dn i = true
    · rw [if_pos hb, if_pos hb]
      have := abF_gt L (dn := dn) (d := d) (l := r) (i := i + 1) (loadSt_len L (x := x) h)
      refine ⟨?_, this.2⟩
      rw [this.1, loadSt_gt L h d]
      simp only [isum, dlt]; omega
    · rw [if_neg hb, if_neg hb]; exact abF_gt L h
theorem load0R_gt2 {p : PB} (L : LawP p) {d : Int} : ∀ {l : List Vis} {a : List Int}, (a.length : Int) = p.dims → gt (load0R p l a) d = gt a d + isum (fun x => ent p x true d) l ∧ ((load0R p l a).length : Int) = p.dims
  | [], a, h => ⟨by simp [load0R, isum], h⟩
  | x :: r, a, h => by
    rw [load0R_cons]
    by_cases hx : isStop p x = true ∧ x.kind = 1
    · rw [if_pos hx]
      have i := is_i1 hx.1 hx.2; have j := L.job _ i.1 i.2; have hd := job_drop (x := x) j
      have := load0R_gt2 L (d := d) (l := r) (a := addL a (dropV p x)) (by rw [addL_len]; omega)
      refine ⟨?_, this.2⟩
      rw [this.1, gt_add (by omega)]
      have : ent p x true d = gt (dropV p x) d := by unfold ent; rw [if_pos hx.1, if_pos hx.2, if_pos rfl]
      simp only [isum, this]; omega
    · rw [if_neg hx]
      have := load0R_gt2 L (d := d) (l := r) h
      refine ⟨?_, this.2⟩
      rw [this.1]
      have : ent p x true d = 0 := by
        unfold ent
        split
        · rename_i h1
          rw [if_neg (fun k => hx ⟨h1, k⟩)]
          split
          · rfl
          · split <;> rfl
        · rfl
      simp only [isum, this]; omega
theorem load0_gt {p : PB} (L : LawP p) {l : List Vis} (d : Int) : gt (load0 p l) d = isum (fun x => ent p x true d) l ∧ ((load0 p l).length : Int) = p.dims := by
  have := load0R_gt2 L (d := d) (l := l) (zeros_len L)
  refine ⟨?_, this.2⟩
  unfold load0
  rw [this.1]
  have h0 : gt (List.replicate p.dims.toNat (0 : Int)) d = 0 := by
    rcases gt_mem_or (List.replicate p.dims.toNat (0 : Int)) d with h | h
    · exact (List.mem_replicate.1 h).2
    · exact h
  omega
theorem loads_gt {p : PB} (L : LawP p) {m : List Vis} (d : Int) : ∀ (n : Nat), n ≤ m.length → gt (gt (loadsF p m) n) d = gt (load0 p m) d + isum (dlt p d) (m.take n) ∧ ((gt (loadsF p m) n).length : Int) = p.dims
  | 0, _ => by
    have e : gt (loadsF p m) ((0 : Nat) : Int) = load0 p m := rfl
    rw [e]; exact ⟨by simp [isum], (load0_gt L d).2⟩
  | n + 1, h => by
    have ih := loads_gt L (m := m) d n (by omega)
    have e : gt (loadsF p m) ((n + 1 : Nat) : Int) = loadSt p (gt m n) (gt (loadsF p m) n) := loadsR_at (l := m) (a := load0 p m) (k := (n : Int)) (by omega) (by omega)
    rw [e, loadSt_gt L ih.2 d, ih.1]
    have e2 : m.take (n + 1) = m.take n ++ [gt m n] := by
      have := take_gt (l := m) (i := (n : Int)) (by omega) (by omega)
      simpa using this
    refine ⟨?_, loadSt_len L ih.2⟩
    rw [e2, isum_app]
    simp only [isum, dlt]; omega
theorem allUnder_iff {cap : List Int} : ∀ {l : List (List Int)}, allUnder cap l = true ↔ ∀ a ∈ l, underF a cap = true
  | [] => by simp [allUnder]
  | a :: r => by
    rw [allUnder_cons]
    by_cases h : underF a cap = true
    · rw [if_neg (fun k => k h), allUnder_iff]; simp [h]
    · rw [if_pos h]
      constructor
      · intro k; cases k
      · intro k; exact absurd (k a (List.mem_cons_self ..)) h
theorem startF_mono : ∀ {l : List WN} {t t' : Int}, (∀ w ∈ l, w.lo ≤ w.hi) → t' ≤ t → (startF l t).2 = true → (startF l t').2 = true ∧ (startF l t').1 ≤ (startF l t).1 ∧ t ≤ (startF l t).1
  | [], _, _, _, _, h => by cases h
  | w :: r, t, t', hw, ht, h => by
    rw [startF_cons] at h
    rw [startF_cons, startF_cons (t := t)]
    have h1 := hw w (List.mem_cons_self ..)
    by_cases hc : t ≤ w.hi
    · rw [if_pos hc] at h ⊢; rw [if_pos (by omega)]
      exact ⟨rfl, by show max t' w.lo ≤ max t w.lo; omega, by show t ≤ max t w.lo; omega⟩
    · rw [if_neg hc] at h ⊢
      have ih := startF_mono (l := r) (t := t) (t' := t') (fun x hx => hw x (List.mem_cons_of_mem _ hx)) ht h
      by_cases hc2 : t' ≤ w.hi
      · rw [if_pos hc2]; exact ⟨rfl, by show max t' w.lo ≤ _; omega, ih.2.2⟩
      · rw [if_neg hc2]; exact ih
theorem wins_le {l : List WN} (h : WinsOk l) : ∀ w ∈ l, w.lo ≤ w.hi := fun w hw => by
  obtain ⟨n, hn, e⟩ := List.getElem_of_mem hw
  have := (h.each n (by omega) (by omega)).2.2
  rw [show gt l (n : Int) = w from by simp [gt, List.getD_eq_getElem?_getD, hn, e]] at this
  exact this
structure RS where
  dn : Int
  bk : Int
  pl : Int
  nw : Int
  cs : Int
  deriving Inhabited, DecidableEq
structure CX where
  p : PB
  v : VH
  all : List Vis
  fst : List Int
def CX.abo (X : CX) (dn : Int) : List Int := abF X.p dn X.all 0 X.fst
def CX.und (X : CX) (dn : Int) : Prop := underF (X.abo dn) X.v.vcap = true
def CX.brk (X : CX) (s : RS) : RS := ⟨s.dn, s.bk + 1, s.pl, (startF (gt X.v.brs s.bk).bws s.nw).1 + (gt X.v.brs s.bk).bsrv, s.cs⟩
def CX.vis (X : CX) (s : RS) (i : Int) : RS :=
  ⟨setb s.dn i, s.bk, (stopD X.p (gt X.all i)).pl, (startF (stopD X.p (gt X.all i)).sws (s.nw + tcell X.p s.pl (stopD X.p (gt X.all i)).pl)).1 + (stopD X.p (gt X.all i)).srv,
    s.cs + tcell X.p s.pl (stopD X.p (gt X.all i)).pl * X.v.pt + dcell X.p s.pl (stopD X.p (gt X.all i)).pl * X.v.pd⟩
def CX.brkOk (X : CX) (s : RS) : Prop := s.bk < (X.v.brs.length : Int) ∧ (startF (gt X.v.brs s.bk).bws s.nw).2 = true
def CX.visOk (X : CX) (s : RS) (i : Int) : Prop :=
  bt s.dn i = false ∧ ((gt X.all i).kind = 3 → bt s.dn (i - 1) = true) ∧ 0 ≤ tcell X.p s.pl (stopD X.p (gt X.all i)).pl ∧ 0 ≤ dcell X.p s.pl (stopD X.p (gt X.all i)).pl ∧
    (startF (stopD X.p (gt X.all i)).sws (s.nw + tcell X.p s.pl (stopD X.p (gt X.all i)).pl)).2 = true
inductive CX.Go1 (X : CX) : RS → Vis → RS → Prop where
  | brk {s : RS} : X.und s.dn → X.brkOk s → CX.Go1 X s ⟨4, s.bk⟩ (X.brk s)
  | vis {s : RS} (i : Int) : X.und s.dn → 0 ≤ i → i < (X.all.length : Int) → X.visOk s i → CX.Go1 X s (gt X.all i) (X.vis s i)
def CX.endc (X : CX) (s : RS) : Int := s.cs + tcell X.p s.pl X.v.en * X.v.pt + dcell X.p s.pl X.v.en * X.v.pd
structure CX.EndK (X : CX) (s : RS) : Prop where
  und : X.und s.dn
  dn : s.dn = full X.all.length
  bk : s.bk = (X.v.brs.length : Int)
  tc : 0 ≤ tcell X.p s.pl X.v.en
  dc : 0 ≤ dcell X.p s.pl X.v.en
  hi : s.nw + tcell X.p s.pl X.v.en ≤ X.v.hi
inductive CX.Fin (X : CX) : RS → Int → Prop where
  | fin {s : RS} : X.EndK s → CX.Fin X s (X.endc s)
  | go {s s' : RS} {x : Vis} {k : Int} : X.Go1 s x s' → CX.Fin X s' k → CX.Fin X s k
inductive CX.Path (X : CX) : RS → List Vis → RS → Prop where
  | nil {s : RS} : CX.Path X s [] s
  | cons {s s1 s2 : RS} {x : Vis} {l : List Vis} : X.Go1 s x s1 → CX.Path X s1 l s2 → CX.Path X s (x :: l) s2
theorem CX.Path.snoc {X : CX} {s s1 s2 : RS} {x : Vis} {l : List Vis} (h : X.Path s l s1) (g : X.Go1 s1 x s2) : X.Path s (l ++ [x]) s2 := by
  induction h with
  | nil => exact .cons g .nil
  | cons a _ ih => exact .cons a (ih g)
structure CX.Ok (X : CX) : Prop where
  law : LawP X.p
  veh : VehOk X.p.dims X.p.tn X.v
  mem : ∀ x ∈ X.all, isStop X.p x = true
  nd : X.all.Nodup
  del : ∀ i : Int, 0 ≤ i → i < (X.all.length : Int) → (gt X.all i).kind = 3 → 1 ≤ i ∧ gt X.all (i - 1) = ⟨2, (gt X.all i).item⟩
  eqk : cntK 2 X.all = cntK 3 X.all
  len : X.all.length ≤ 12
  fl : (X.fst.length : Int) = X.p.dims
  fd : ∀ d : Int, gt X.fst d = isum (fun x => ent X.p x true d) X.all
  sk : ∀ x ∈ X.all, isTask x = true → ban .u64 (skilF X.p (taskV x)) X.v.vsk = 0
  tk : cntK 1 X.all + cntK 2 X.all ≤ X.v.mt
theorem CX.Fin.mono {X : CX} (O : X.Ok) (hpos : 0 ≤ X.v.pt ∧ 0 ≤ X.v.pd) {s : RS} {k : Int} (h : X.Fin s k) : ∀ s' : RS, s'.dn = s.dn → s'.bk = s.bk → s'.pl = s.pl → s'.nw ≤ s.nw → s'.cs ≤ s.cs → 0 ≤ s.bk → ∃ k', k' ≤ k ∧ X.Fin s' k' := by
  induction h with
  | fin e =>
    intro s' h1 h2 h3 h4 h5 _
    refine ⟨X.endc s', ?_, .fin ⟨by rw [h1]; exact e.und, by rw [h1]; exact e.dn, by rw [h2]; exact e.bk, by rw [h3]; exact e.tc, by rw [h3]; exact e.dc, by have := e.hi; rw [h3]; omega⟩⟩
    unfold CX.endc; rw [h3]; omega
  | @go s s1 x k g f ih =>
    intro s' h1 h2 h3 h4 h5 h0
    cases g with
    | brk u o =>
      have hb := O.veh.brk s.bk h0 o.1
      have hm := startF_mono (wins_le hb.1) h4 o.2
      obtain ⟨k', hk, hf⟩ := ih (X.brk s') h1 (by show s'.bk + 1 = s.bk + 1; omega) h3 (by show (startF (gt X.v.brs s'.bk).bws s'.nw).1 + (gt X.v.brs s'.bk).bsrv ≤ (startF (gt X.v.brs s.bk).bws s.nw).1 + (gt X.v.brs s.bk).bsrv; rw [h2]; omega) h5 (by show 0 ≤ s.bk + 1; omega)
      exact ⟨k', hk, .go (.brk (by rw [h1]; exact u) ⟨by rw [h2]; exact o.1, by rw [h2]; exact hm.1⟩) hf⟩
    | vis i u i0 i1 o =>
      obtain ⟨o1, o2, o3, o4, o5⟩ := o
      have hx : gt X.all i ∈ X.all := gt_in i0 i1
      have hm := startF_mono (t' := s'.nw + tcell X.p s'.pl (stopD X.p (gt X.all i)).pl) (wins_le (stop_ok O.law (O.mem _ hx)).win) (by rw [h3]; omega) o5
      obtain ⟨k', hk, hf⟩ := ih (X.vis s' i) (by show setb s'.dn i = setb s.dn i; rw [h1]) h2 rfl
        (by show (startF _ _).1 + _ ≤ (startF _ _).1 + _; have := hm.2.1; omega)
        (by show s'.cs + _ + _ ≤ s.cs + _ + _; rw [h3]; omega) (by show 0 ≤ s.bk; exact h0)
      exact ⟨k', hk, .go (.vis i (by rw [h1]; exact u) i0 i1 ⟨by rw [h1]; exact o1, fun h => by rw [h1]; exact o2 h, by rw [h3]; exact o3, by rw [h3]; exact o4, hm.1⟩) hf⟩
end Go.SX
namespace Go.SX
open Go Go.RowKit
def nbF (m : List Vis) : List Vis := m.filter (fun x => decide (x.kind ≠ 4))
theorem nbF_cons {x : Vis} {m : List Vis} : nbF (x :: m) = if x.kind = 4 then nbF m else x :: nbF m := by
  unfold nbF
  by_cases h : x.kind = 4 <;> simp [h]
theorem nbF_app {a b : List Vis} : nbF (a ++ b) = nbF a ++ nbF b := List.filter_append ..
theorem nbF_mem {x : Vis} {m : List Vis} : x ∈ nbF m ↔ x ∈ m ∧ x.kind ≠ 4 := by unfold nbF; simp
theorem cell_diag {p : PB} (L : LawP p) {a : Int} (h : 0 ≤ a ∧ a < p.tn) : tcell p a a = 0 ∧ dcell p a a = 0 := by
  have hd := L.dn
  refine ⟨?_, ?_⟩
  · show cellF p.tn p.time a a = 0
    unfold cellF; rw [if_neg (by omega)]; exact L.tg a h.1 h.2
  · show cellF p.dn p.dist a a = 0
    unfold cellF; rw [hd, if_neg (by omega)]; exact L.dg a h.1 h.2
theorem stop4 {p : PB} {x : Vis} (h : x.kind = 4) : isStop p x = false := by
  unfold isStop; rw [(task_no (x := x) (by omega) (by omega) (by omega)).2]; rfl
theorem kind_stop {p : PB} {x : Vis} (h : isStop p x = true) : x.kind ≠ 4 := by have := is_kind h; omega
def BitS (X : CX) (dn : Int) (u : List Vis) : Prop := (0 ≤ dn ∧ dn < ((2 ^ X.all.length : Nat) : Int)) ∧ ∀ i : Int, 0 ≤ i → i < (X.all.length : Int) → (bt dn i = true ↔ gt X.all i ∈ u)
theorem gt_inj {α : Type} [Inhabited α] {l : List α} (hn : l.Nodup) {i j : Int} (h0 : 0 ≤ i) (h1 : i < (l.length : Int)) (h2 : 0 ≤ j) (h3 : j < (l.length : Int)) (e : gt l i = gt l j) : i = j := by
  have e1 : gt l i = l[i.toNat]'(by omega) := gt_some (List.getElem?_eq_getElem (by omega))
  have e2 : gt l j = l[j.toNat]'(by omega) := gt_some (List.getElem?_eq_getElem (by omega))
  rw [e1, e2] at e
  have := (List.getElem_inj (h₀ := by omega) (h₁ := by omega) hn).1 e
  omega
theorem BitS.brk {X : CX} {dn : Int} {u : List Vis} {k : Int} (O : X.Ok) (h : BitS X dn u) : BitS X dn (u ++ [⟨4, k⟩]) := ⟨h.1, fun i h0 h1 => by
  rw [h.2 i h0 h1]
  constructor
  · intro k; exact List.mem_append_left _ k
  · intro k
    rcases List.mem_append.1 k with k | k
    · exact k
    · simp only [List.mem_singleton] at k
      have := kind_stop (O.mem _ (gt_in h0 h1))
      rw [k] at this; exact absurd rfl this⟩
theorem BitS.vis {X : CX} {dn i : Int} {u : List Vis} (O : X.Ok) (h : BitS X dn u) (h0 : 0 ≤ i) (h1 : i < (X.all.length : Int)) : BitS X (setb dn i) (u ++ [gt X.all i]) := ⟨set_rng h.1 h1 h0, fun j j0 j1 => by
  rw [bt_set h0 j0, Bool.or_eq_true, h.2 j j0 j1, decide_eq_true_eq, List.mem_append, List.mem_singleton]
  constructor
  · rintro (k | k)
    · exact .inl k
    · subst k; exact .inr rfl
  · rintro (k | k)
    · exact .inl k
    · exact .inr (gt_inj O.nd h0 h1 j0 j1 k.symm)⟩
structure TS (X : CX) (s : RS) (T : TM) : Prop where
  now : T.now = s.nw
  pl : T.pl = s.pl
  cs : s.cs = T.time * X.v.pt + T.dist * X.v.pd
  rg : 0 ≤ s.pl ∧ s.pl < X.p.tn
  bk : 0 ≤ s.bk
def brT (X : CX) (T : TM) (k : Int) : TM := tmSt X.p X.v T ⟨4, k⟩ (startF (gt X.v.brs k).bws T.now).1
theorem times_brk {X : CX} (O : X.Ok) {T : TM} {k : Int} {r : List Vis} (hp : 0 ≤ T.pl ∧ T.pl < X.p.tn) : timesR X.p X.v (⟨4, k⟩ :: r) T = if (startF (gt X.v.brs k).bws T.now).2 = true then timesR X.p X.v r (brT X T k) else none := by
  have h4 : isStop X.p ⟨4, k⟩ = false := stop4 rfl
  have e1 : nextPl X.p T.pl ⟨4, k⟩ = T.pl := nextPl_n (by rw [h4]; decide)
  have e2 : (stopB X.p X.v ⟨4, k⟩).sws = (gt X.v.brs k).bws := (stopB_b (V := X.v) (p := X.p) (x := ⟨4, k⟩) rfl).1
  rw [timesR_cons, e1, (cell_diag O.law hp).1, e2, Int.add_zero]
  rfl
theorem ts_brk {X : CX} (O : X.Ok) {s : RS} {T : TM} (h : TS X s T) : TS X (X.brk s) (brT X T s.bk) := by
  have h4 : isStop X.p ⟨4, s.bk⟩ = false := stop4 rfl
  have hp : 0 ≤ T.pl ∧ T.pl < X.p.tn := by rw [h.pl]; exact h.rg
  have e1 : nextPl X.p T.pl ⟨4, s.bk⟩ = T.pl := nextPl_n (by rw [h4]; decide)
  have e2 : (stopB X.p X.v ⟨4, s.bk⟩).srv = (gt X.v.brs s.bk).bsrv := (stopB_b (V := X.v) (p := X.p) (x := ⟨4, s.bk⟩) rfl).2
  have hd := cell_diag O.law hp
  refine ⟨?_, ?_, ?_, h.rg, by show 0 ≤ s.bk + 1; have := h.bk; omega⟩
  · show _ + (stopB X.p X.v ⟨4, s.bk⟩).srv = _; rw [e2, h.now]; rfl
  · show nextPl X.p T.pl ⟨4, s.bk⟩ = _; rw [e1, h.pl]; rfl
  · show s.cs = (T.time + tcell X.p T.pl (nextPl X.p T.pl ⟨4, s.bk⟩)) * _ + (T.dist + dcell X.p T.pl (nextPl X.p T.pl ⟨4, s.bk⟩)) * _
    rw [e1, hd.1, hd.2, h.cs]; simp
def viT (X : CX) (T : TM) (x : Vis) : TM := tmSt X.p X.v T x (startF (stopD X.p x).sws (T.now + tcell X.p T.pl (stopD X.p x).pl)).1
theorem times_vis {X : CX} {T : TM} {x : Vis} {r : List Vis} (hx : isStop X.p x = true) : timesR X.p X.v (x :: r) T = if (startF (stopD X.p x).sws (T.now + tcell X.p T.pl (stopD X.p x).pl)).2 = true then timesR X.p X.v r (viT X T x) else none := by
  have e2 : (stopB X.p X.v x).sws = (stopD X.p x).sws := (stopB_n (V := X.v) (kind_stop hx)).1
  rw [timesR_cons, nextPl_y hx, e2]; rfl
theorem ts_vis {X : CX} (O : X.Ok) {s : RS} {T : TM} {i : Int} (h : TS X s T) (h0 : 0 ≤ i) (h1 : i < (X.all.length : Int)) : TS X (X.vis s i) (viT X T (gt X.all i)) := by
  have hx := O.mem _ (gt_in h0 h1)
  have e2 : (stopB X.p X.v (gt X.all i)).srv = (stopD X.p (gt X.all i)).srv := (stopB_n (V := X.v) (kind_stop hx)).2
  refine ⟨?_, ?_, ?_, (stop_ok O.law hx).pl, h.bk⟩
  · show _ + (stopB X.p X.v (gt X.all i)).srv = _; rw [e2, h.now, h.pl]; rfl
  · exact nextPl_y hx
  · show s.cs + _ + _ = (T.time + tcell X.p T.pl (nextPl X.p T.pl (gt X.all i))) * X.v.pt + (T.dist + dcell X.p T.pl (nextPl X.p T.pl (gt X.all i))) * X.v.pd
    rw [nextPl_y hx, h.pl, h.cs, Int.add_mul, Int.add_mul]; omega
structure Tell (X : CX) (s : RS) (u r : List Vis) (T : TM) (s' : RS) (Z : TM) : Prop where
  tm : timesR X.p X.v r T = some Z
  ts : TS X s' Z
  tr : 0 ≤ tcell X.p s'.pl X.v.en → 0 ≤ dcell X.p s'.pl X.v.en → travelQ X.p X.v r s.pl = true
  br : s'.bk = (X.v.brs.length : Int) → breaksR X.v.brs.length r s.bk = true
  pr : ∀ a x b, r = a ++ x :: b → seenOk X.p (u ++ a) x
  mm : ∀ x ∈ r, x.kind ≠ 4 → x ∈ X.all
  un : ∀ a b, r = a ++ b → b ≠ [] → ∃ d, X.und d ∧ BitS X d (u ++ a)
  bt : BitS X s'.dn (u ++ r)
theorem Path.tell {X : CX} (O : X.Ok) {s s' : RS} {r : List Vis} (h : X.Path s r s') : ∀ {u : List Vis} {T : TM}, TS X s T → BitS X s.dn u → ∃ Z, Tell X s u r T s' Z := by
  induction h with
  | @nil s =>
    intro u T hT hB
    refine ⟨T, rfl, hT, fun h1 h2 => ?_, fun h => decide_eq_true h, fun a x b e => ?_, fun x hx => (by cases hx), fun a b e hb => ?_, by simpa using hB⟩
    · rw [travelQ_nil, if_neg]
      have h1 : 0 ≤ cellF X.p.tn X.p.time s.pl X.v.en := h1
      have h2 : 0 ≤ cellF X.p.dn X.p.dist s.pl X.v.en := h2
      omega
    · cases a <;> cases e
    · have := List.append_eq_nil_iff.1 e.symm; exact absurd this.2 hb
  | @cons s s1 s2 x l g _ ih =>
    intro u T hT hB
    cases g with
    | brk hu ho =>
      obtain ⟨Z, H⟩ := ih (u := u ++ [⟨4, s.bk⟩]) (ts_brk O hT) (show BitS X (X.brk s).dn (u ++ [⟨4, s.bk⟩]) from hB.brk (k := s.bk) O)
      have hp : 0 ≤ T.pl ∧ T.pl < X.p.tn := by rw [hT.pl]; exact hT.rg
      have h4 : isStop X.p ⟨4, s.bk⟩ = false := stop4 rfl
      refine ⟨Z, ?_, H.ts, fun h1 h2 => ?_, fun h => ?_, fun a x b e => ?_, fun x hx hk => ?_, fun a b e hb => ?_, ?_⟩
      · rw [times_brk O hp, if_pos (by rw [hT.now]; exact ho.2)]; exact H.tm
      · have hd := cell_diag O.law hT.rg
        have hd1 : cellF X.p.tn X.p.time s.pl s.pl = 0 := hd.1
        have hd2 : cellF X.p.dn X.p.dist s.pl s.pl = 0 := hd.2
        rw [travelQ_cons, nextPl_n (by rw [h4]; decide), if_neg (by omega)]; exact H.tr h1 h2
      · rw [breaksR_cons, if_pos rfl, if_neg (fun k => k rfl)]; exact H.br h
      · cases a with
        | nil => injection e with e1 e2; subst e1; exact .inl rfl
        | cons y a => injection e with e1 e2; subst e1; have := H.pr a x b e2; rw [List.append_assoc] at this; exact this
      · rcases List.mem_cons.1 hx with rfl | hx
        · exact absurd rfl hk
        · exact H.mm x hx hk
      · cases a with
        | nil => exact ⟨s.dn, hu, by simpa using hB⟩
        | cons y a => injection e with e1 e2; subst e1; have := H.un a b e2 hb; rw [List.append_assoc] at this; exact this
      · have := H.bt; rw [List.append_assoc] at this; exact this
    | vis i hu h0 h1 ho =>
      obtain ⟨o1, o2, o3, o4, o5⟩ := ho
      have hm := gt_in h0 h1
      have hx := O.mem _ hm
      obtain ⟨Z, H⟩ := ih (u := u ++ [gt X.all i]) (ts_vis O hT h0 h1) (hB.vis O h0 h1)
      have hk := kind_stop hx
      refine ⟨Z, ?_, H.ts, fun k1 k2 => ?_, fun h => ?_, fun a x b e => ?_, fun x hx hk => ?_, fun a b e hb => ?_, ?_⟩
      · rw [times_vis hx, if_pos (by rw [hT.now, hT.pl]; exact o5)]; exact H.tm
      · rw [travelQ_cons, nextPl_y hx, if_neg (by
          have o3 : 0 ≤ cellF X.p.tn X.p.time s.pl (stopD X.p (gt X.all i)).pl := o3
          have o4 : 0 ≤ cellF X.p.dn X.p.dist s.pl (stopD X.p (gt X.all i)).pl := o4
          omega)]
        exact H.tr k1 k2
      · rw [breaksR_cons, if_neg hk]; exact H.br h
      · cases a with
        | nil =>
          injection e with e1 e2; subst e1
          refine .inr ⟨hx, ?_, fun h3 => ?_⟩
          · rw [List.append_nil]; intro hu
            rw [(hB.2 i h0 h1).2 hu] at o1; cases o1
          · rw [List.append_nil]
            have hd := O.del i h0 h1 h3
            have := (hB.2 (i - 1) (by omega) (by omega)).1 (o2 h3)
            rw [hd.2] at this; exact this
        | cons y a => injection e with e1 e2; subst e1; have := H.pr a x b e2; rw [List.append_assoc] at this; exact this
      · rcases List.mem_cons.1 hx with rfl | hx
        · exact hm
        · exact H.mm x hx hk
      · cases a with
        | nil => exact ⟨s.dn, hu, by simpa using hB⟩
        | cons y a => injection e with e1 e2; subst e1; have := H.un a b e2 hb; rw [List.append_assoc] at this; exact this
      · have := H.bt; rw [List.append_assoc] at this; exact this
theorem ent4 {p : PB} {x : Vis} {b : Bool} {d : Int} (h : x.kind = 4) : ent p x b d = 0 := by unfold ent; rw [stop4 h]; rfl
theorem isum_nb {f : Vis → Int} (h : ∀ x : Vis, x.kind = 4 → f x = 0) : ∀ {m : List Vis}, isum f (nbF m) = isum f m
  | [] => rfl
  | x :: m => by
    rw [nbF_cons]
    split
    · rename_i h4; rw [isum_nb h]; simp only [isum, h x h4]; omega
    · simp only [isum]; rw [isum_nb h]
theorem selB_mem {dn : Int} {x : Vis} : ∀ {l : List Vis} {i : Int}, 0 ≤ i → (x ∈ selB dn l i ↔ ∃ j : Int, 0 ≤ j ∧ j < (l.length : Int) ∧ gt l j = x ∧ bt dn (i + j) = true)
  | [], i, hi => by simp [selB]; intro j h0 h1; omega
  | y :: r, i, hi => by
    have ih := selB_mem (dn := dn) (x := x) (l := r) (i := i + 1) (by omega)
    have hs : (∃ j : Int, 0 ≤ j ∧ j < ((y :: r).length : Int) ∧ gt (y :: r) j = x ∧ bt dn (i + j) = true) ↔ (y = x ∧ bt dn i = true) ∨ ∃ j : Int, 0 ≤ j ∧ j < (r.length : Int) ∧ gt r j = x ∧ bt dn (i + 1 + j) = true := by
      constructor
      · rintro ⟨j, h0, h1, h2, h3⟩
        by_cases hj : j = 0
        · subst hj; exact .inl ⟨h2, by simpa using h3⟩
        · refine .inr ⟨j - 1, by omega, by rw [List.length_cons] at h1; omega, ?_, by rw [show i + 1 + (j - 1) = i + j from by omega]; exact h3⟩
          rw [show j = (j - 1) + 1 from by omega, gt_cons1 (by omega)] at h2; exact h2
      · rintro (⟨h1, h2⟩ | ⟨j, h0, h1, h2, h3⟩)
        · exact ⟨0, by omega, by rw [List.length_cons]; omega, h1, by simpa using h2⟩
        · exact ⟨j + 1, by omega, by rw [List.length_cons]; omega, by rw [gt_cons1 h0]; exact h2, by rw [show i + (j + 1) = i + 1 + j from by omega]; exact h3⟩
    rw [hs, selB]
    split
    · rename_i hb; rw [List.mem_cons, ih]; constructor
      · rintro (k | k)
        · exact .inl ⟨k.symm, hb⟩
        · exact .inr k
      · rintro (k | k)
        · exact .inl k.1.symm
        · exact .inr k
    · rename_i hb; rw [ih]; constructor
      · exact .inr
      · rintro (k | k)
        · exact absurd k.2 hb
        · exact k
theorem selB_sub {dn : Int} : ∀ {l : List Vis} {i : Int}, (selB dn l i).Sublist l
  | [], i => .slnil
  | x :: r, i => by
    rw [selB]; split
    · exact selB_sub.cons_cons _
    · exact selB_sub.cons _
theorem sel_perm {X : CX} (O : X.Ok) {dn : Int} {u : List Vis} (hB : BitS X dn u) (hn : (nbF u).Nodup) (hm : ∀ x ∈ u, x.kind ≠ 4 → x ∈ X.all) : (selB dn X.all 0).Perm (nbF u) := by
  refine (List.perm_ext_iff_of_nodup (O.nd.sublist selB_sub) hn).2 (fun x => ?_)
  rw [selB_mem (Int.le_refl _), nbF_mem]
  constructor
  · rintro ⟨j, h0, h1, rfl, h3⟩
    rw [Int.zero_add] at h3
    exact ⟨(hB.2 j h0 h1).1 h3, kind_stop (O.mem _ (gt_in h0 h1))⟩
  · rintro ⟨h1, h2⟩
    obtain ⟨n, hn, e⟩ := List.getElem_of_mem (hm x h1 h2)
    have e2 : gt X.all (n : Int) = x := by simp [gt, List.getD_eq_getElem?_getD, hn, e]
    refine ⟨n, by omega, by omega, e2, ?_⟩
    rw [Int.zero_add, hB.2 n (by omega) (by omega), e2]; exact h1
theorem abo_loads {X : CX} (O : X.Ok) {m : List Vis} {dn : Int} {n : Nat} (hn : n ≤ m.length) (hp : (nbF m).Perm X.all) (hB : BitS X dn (m.take n)) : X.abo dn = gt (loadsF X.p m) n := by
  have h2 := fun d => loads_gt O.law (m := m) d n hn
  have h1 := fun d => abF_gt O.law (dn := dn) (d := d) (l := X.all) (i := 0) (a := X.fst) O.fl
  have hnd : (nbF (m.take n)).Nodup := by
    have : (nbF m).Nodup := hp.nodup_iff.2 O.nd
    exact this.sublist ((List.take_sublist n m).filter _)
  have hmm : ∀ x ∈ m.take n, x.kind ≠ 4 → x ∈ X.all := fun x hx hk => hp.mem_iff.1 (nbF_mem.2 ⟨List.mem_of_mem_take hx, hk⟩)
  have hs := sel_perm O hB hnd hmm
  refine ext_gt (by have := (h1 0).2; have := (h2 0).2; unfold CX.abo; omega) (fun d => ?_)
  show gt (abF X.p dn X.all 0 X.fst) d = _
  rw [(h1 d).1, (h2 d).1, O.fd d, (load0_gt O.law d).1, isum_perm hs, isum_nb (f := dlt X.p d) (fun x hx => by unfold dlt; rw [ent4 hx, ent4 hx]; rfl)]
  rw [← isum_nb (f := fun x => ent X.p x true d) (fun x hx => ent4 hx) (m := m), isum_perm hp]
end Go.SX
namespace Go.SX
open Go Go.RowKit
theorem cntK_app {k : Int} {a b : List Vis} : cntK k (a ++ b) = cntK k a + cntK k b := by unfold cntK; rw [List.filter_append, List.length_append]; omega
theorem cntK_perm {k : Int} {a b : List Vis} (h : a.Perm b) : cntK k a = cntK k b := by unfold cntK; rw [(h.filter _).length_eq]
theorem cntK_nb {k : Int} (hk : k ≠ 4) : ∀ {m : List Vis}, cntK k (nbF m) = cntK k m
  | [] => rfl
  | x :: m => by
    rw [nbF_cons, cntK_cons]
    split
    · rename_i h; rw [cntK_nb hk, if_neg (by omega)]; omega
    · rw [cntK_cons, cntK_nb hk]
theorem tasksR_is : ∀ {m : List Vis} {n : Int}, tasksR m n = n + cntK 1 m + cntK 2 m
  | [], n => by show n = n + cntK 1 [] + cntK 2 []; have : cntK 1 [] = 0 := rfl; have : cntK 2 [] = 0 := rfl; omega
  | x :: m, n => by
    rw [tasksR_cons, cntK_cons, cntK_cons]
    by_cases h1 : x.kind = 1
    · rw [if_pos (.inl h1), tasksR_is, if_pos h1, if_neg (by omega)]; omega
    · by_cases h2 : x.kind = 2
      · rw [if_pos (.inr h2), tasksR_is, if_neg h1, if_pos h2]; omega
      · rw [if_neg (by omega), tasksR_is, if_neg h1, if_neg h2]; omega
theorem pairs_is {p : PB} {m : List Vis} : pairsR p m [] 0 = true ↔ ((∀ a x b, m = a ++ x :: b → seenOk p a x) ∧ cntK 2 m = cntK 3 m) := by
  rw [pairs_walk MK_nil]
  constructor
  · rintro ⟨h1, h2⟩; exact ⟨fun a x b e => by have := h1 a x b e; simpa using this, by omega⟩
  · rintro ⟨h1, h2⟩; exact ⟨fun a x b e => by have := h1 a x b e; simpa using this, by omega⟩
theorem seen_nodup {p : PB} : ∀ {m u : List Vis}, (∀ a x b, m = a ++ x :: b → seenOk p (u ++ a) x) → (nbF m).Nodup ∧ ∀ x ∈ nbF m, x ∉ u
  | [], u, _ => ⟨List.nodup_nil, fun x h => by cases h⟩
  | y :: m, u, h => by
    have h0 := h [] y m rfl
    rw [List.append_nil] at h0
    have ih := seen_nodup (p := p) (m := m) (u := u ++ [y]) (fun a x b e => by
      have := h (y :: a) x b (by rw [e]; rfl)
      rw [List.append_assoc]; exact this)
    rw [nbF_cons]
    split
    · exact ⟨ih.1, fun x hx hu => ih.2 x hx (List.mem_append_left _ hu)⟩
    · rename_i hk
      refine ⟨List.nodup_cons.2 ⟨fun hy => ih.2 y hy (List.mem_append_right _ (by simp)), ih.1⟩, fun x hx hu => ?_⟩
      rcases List.mem_cons.1 hx with rfl | hx
      · rcases h0 with h0 | h0
        · exact hk h0
        · exact h0.2.1 hu
      · exact ih.2 x hx (List.mem_append_left _ hu)
def CX.s0 (X : CX) : RS := ⟨0, 0, X.v.st, X.v.lo, 0⟩
def CX.T0 (X : CX) : TM := ⟨X.v.lo, 0, 0, 0, 0, X.v.st⟩
theorem ts_0 {X : CX} (O : X.Ok) : TS X X.s0 X.T0 := ⟨rfl, rfl, by simp [CX.s0, CX.T0], O.veh.st, Int.le_refl _⟩
theorem bits_0 (X : CX) : BitS X 0 [] := ⟨⟨Int.le_refl _, by have : 0 < 2 ^ X.all.length := Nat.pow_pos (by decide); omega⟩, fun i h0 h1 => by rw [bt_zero]; simp⟩
theorem bits_full {X : CX} {u : List Vis} (h : BitS X (full X.all.length) u) : ∀ x ∈ X.all, x ∈ u := fun x hx => by
  obtain ⟨n, hn, e⟩ := List.getElem_of_mem hx
  have e2 : gt X.all (n : Int) = x := by simp [gt, List.getD_eq_getElem?_getD, hn, e]
  rw [← e2]
  exact (h.2 n (by omega) (by omega)).1 (by rw [bt_full (by omega)]; exact decide_eq_true (by omega))
theorem gt_loads_mem {p : PB} {m : List Vis} {a : List Int} (h : a ∈ loadsF p m) : ∃ n : Nat, n ≤ m.length ∧ gt (loadsF p m) n = a := by
  obtain ⟨n, hn, e⟩ := List.getElem_of_mem h
  rw [loadsF_len] at hn
  exact ⟨n, by omega, by rw [← e]; simp [gt, List.getD_eq_getElem?_getD, loadsF_len, hn]⟩
theorem plan_sound {X : CX} (O : X.Ok) (hv : X.v = gt X.p.vehs 0) (hl : 0 < X.p.vehs.length) {m : List Vis} {s : RS} (h : X.Path X.s0 m s) (e : X.EndK s) :
    (planP X.p 0 m).e = 0 ∧ (planP X.p 0 m).cost = X.v.fix + X.endc s ∧ (nbF m).Perm X.all := by
  obtain ⟨Z, H⟩ := Path.tell O h (u := []) (ts_0 O) (bits_0 X)
  have hpr : ∀ a x b, m = a ++ x :: b → seenOk X.p a x := fun a x b q => by have := H.pr a x b q; simpa using this
  have hbt : BitS X (full X.all.length) m := by have := H.bt; rw [e.dn] at this; simpa using this
  have hnd := seen_nodup (p := X.p) (m := m) (u := []) (fun a x b q => by have := hpr a x b q; simpa using this)
  have hperm : (nbF m).Perm X.all := (List.perm_ext_iff_of_nodup hnd.1 O.nd).2 (fun x => by
    rw [nbF_mem]
    exact ⟨fun k => H.mm x k.1 k.2, fun k => ⟨bits_full hbt x k, kind_stop (O.mem x k)⟩⟩)
  have c1 : pairsR X.p m [] 0 = true := pairs_is.2 ⟨hpr, by
    rw [← cntK_nb (k := 2) (by decide), ← cntK_nb (k := 3) (by decide), cntK_perm hperm, cntK_perm hperm, O.eqk]⟩
  have c2 : breaksR X.v.brs.length m 0 = true := H.br e.bk
  have c3 : skillsR X.p X.v m = true := skills_iff.2 (fun x hx ht => by
    by_cases hk : x.kind = 4
    · rw [(task_no (x := x) (by omega) (by omega) (by omega)).2] at ht; cases ht
    · exact O.sk x (H.mm x hx hk) ht)
  have c4 : ¬ tasksR m 0 > X.v.mt := by
    rw [tasksR_is, ← cntK_nb (k := 1) (by decide), ← cntK_nb (k := 2) (by decide), cntK_perm hperm, cntK_perm hperm]; have := O.tk; omega
  have c5 : allUnder X.v.vcap (loadsF X.p m) = true := allUnder_iff.2 (fun a ha => by
    obtain ⟨n, hn, rfl⟩ := gt_loads_mem ha
    by_cases hnm : n = m.length
    · have := abo_loads O (dn := s.dn) hn hperm (by rw [List.take_of_length_le (by omega)]; have := H.bt; simpa using this)
      rw [← this]; exact e.und
    · obtain ⟨d, hd, hB⟩ := H.un (m.take n) (m.drop n) (List.take_append_drop ..).symm (fun k => by have := congrArg List.length k; rw [List.length_drop, List.length_nil] at this; omega)
      have := abo_loads O (dn := d) hn hperm (by simpa using hB)
      rw [← this]; exact hd)
  have c6 : travelR X.p (placesF X.p X.v m) = true := by
    unfold placesF; rw [← travelQ_eq]; exact H.tr e.tc e.dc
  have hc := ck_ok c1 c2 c3 c4 c5 c6
  have hpl : planP X.p 0 m = timesF X.p X.v m := by rw [hv] at hc ⊢; exact plan_ok (by omega) hc
  have ht : timesF X.p X.v m = tmEnd X.p X.v Z := timesF_some H.tm
  have hi := e.hi
  rw [hpl, ht]
  unfold tmEnd
  rw [if_neg (by rw [H.ts.now, H.ts.pl]; omega)]
  refine ⟨rfl, ?_, hperm⟩
  show X.v.fix + (Z.time + tcell X.p Z.pl X.v.en) * X.v.pt + (Z.dist + dcell X.p Z.pl X.v.en) * X.v.pd = _
  unfold CX.endc
  rw [H.ts.pl, H.ts.cs, Int.add_mul, Int.add_mul]; omega
theorem plan_comp {X : CX} (O : X.Ok) {m : List Vis} {Z : TM} (hperm : (nbF m).Perm X.all) (hun : ∀ a ∈ loadsF X.p m, underF a X.v.vcap = true) (hpr : ∀ a x b, m = a ++ x :: b → seenOk X.p a x) (hz : ¬ Z.now + tcell X.p Z.pl X.v.en > X.v.hi) :
    ∀ {r u : List Vis} {s : RS} {T : TM}, m = u ++ r → TS X s T → BitS X s.dn u → timesR X.p X.v r T = some Z → travelQ X.p X.v r s.pl = true → breaksR X.v.brs.length r s.bk = true →
      X.Fin s ((Z.time + tcell X.p Z.pl X.v.en) * X.v.pt + (Z.dist + dcell X.p Z.pl X.v.en) * X.v.pd)
  | [], u, s, T, hm, hT, hB, h1, h2, h3 => by
    rw [List.append_nil] at hm
    obtain rfl : T = Z := by injection h1
    have hun0 := abo_loads O (dn := s.dn) (n := m.length) (Nat.le_refl _) hperm (by rw [List.take_length, hm]; exact hB)
    have hall : ∀ x ∈ X.all, x ∈ u := fun x hx => by rw [← hm]; exact (nbF_mem.1 (hperm.mem_iff.2 hx)).1
    rw [travelQ_nil] at h2
    split at h2
    · cases h2
    rename_i hc
    have hc1 : ¬ (tcell X.p s.pl X.v.en < 0 ∨ dcell X.p s.pl X.v.en < 0) := hc
    have e : X.EndK s := ⟨by
        show underF _ _ = true; rw [hun0]
        refine hun _ ?_
        have : gt (loadsF X.p m) (m.length : Int) = (loadsF X.p m)[m.length]'(by rw [loadsF_len]; omega) := gt_some (by rw [Int.toNat_natCast]; exact List.getElem?_eq_getElem (by rw [loadsF_len]; omega))
        rw [this]; exact List.getElem_mem _,
      bt_ext hB.1 (by unfold full; have : 0 < 2 ^ X.all.length := Nat.pow_pos (by decide); omega) (fun i h0 hi1 => by
        rw [(hB.2 i h0 hi1).2 (hall _ (gt_in h0 hi1)), bt_full h0]; exact (decide_eq_true hi1).symm),
      by have : decide (s.bk = (X.v.brs.length : Int)) = true := h3; exact of_decide_eq_true this, by omega, by omega, by rw [← hT.now, ← hT.pl]; omega⟩
    have := CX.Fin.fin e
    have he : X.endc s = (T.time + tcell X.p T.pl X.v.en) * X.v.pt + (T.dist + dcell X.p T.pl X.v.en) * X.v.pd := by
      unfold CX.endc; rw [← hT.pl, hT.cs, Int.add_mul, Int.add_mul]; omega
    rw [← he]; exact this
  | x :: r, u, s, T, hm, hT, hB, h1, h2, h3 => by
    have hu : X.und s.dn := by
      have hl : u.length ≤ m.length := by rw [hm, List.length_append]; omega
      have := abo_loads O (dn := s.dn) hl hperm (by rw [hm, List.take_left']; exact hB; rfl)
      show underF _ _ = true
      rw [this]
      refine hun _ ?_
      have : gt (loadsF X.p m) (u.length : Int) = (loadsF X.p m)[u.length]'(by rw [loadsF_len]; omega) := gt_some (by rw [Int.toNat_natCast]; exact List.getElem?_eq_getElem (by rw [loadsF_len]; omega))
      rw [this]; exact List.getElem_mem _
    have hm2 : m = (u ++ [x]) ++ r := by rw [hm, List.append_assoc]; rfl
    have hs := hpr u x r hm
    by_cases hk : x.kind = 4
    · rw [breaksR_cons, if_pos hk] at h3
      split at h3
      · cases h3
      rename_i hit
      have hit : x.item = s.bk := Classical.not_not.1 hit
      obtain rfl : x = ⟨4, s.bk⟩ := vis_ext hk hit
      have hp : 0 ≤ T.pl ∧ T.pl < X.p.tn := by rw [hT.pl]; exact hT.rg
      rw [times_brk O hp] at h1
      split at h1
      · rename_i ho
        have hlt : s.bk < (X.v.brs.length : Int) := by
          have := (breaks_item h3 (by have := hT.bk; omega)).1
          omega
        have h4 : isStop X.p ⟨4, s.bk⟩ = false := stop4 rfl
        have h2' : travelQ X.p X.v r (X.brk s).pl = true := by
          rw [travelQ_cons, nextPl_n (by rw [h4]; decide)] at h2
          split at h2
          · cases h2
          · exact h2
        refine .go (.brk hu ⟨hlt, by rw [← hT.now]; exact ho⟩) (plan_comp O hperm hun hpr hz hm2 (ts_brk O hT) ?_ h1 h2' h3)
        exact hB.brk (k := s.bk) O
      · cases h1
    · have hmem : x ∈ X.all := hperm.mem_iff.1 (nbF_mem.2 ⟨by rw [hm]; simp, hk⟩)
      obtain ⟨n, hn, hg⟩ := List.getElem_of_mem hmem
      have e2 : gt X.all (n : Int) = x := by simp [gt, List.getD_eq_getElem?_getD, hn, hg]
      have h0 : (0 : Int) ≤ n := by omega
      have h01 : (n : Int) < X.all.length := by omega
      subst e2
      have hx := O.mem _ hmem
      rcases hs with hs | hs
      · exact absurd hs hk
      rw [breaksR_cons, if_neg hk] at h3
      rw [times_vis hx] at h1
      split at h1
      · rename_i ho
        rw [travelQ_cons, nextPl_y hx] at h2
        split at h2
        · cases h2
        rename_i hc
        have hc1 : ¬ (tcell X.p s.pl (stopD X.p (gt X.all n)).pl < 0 ∨ dcell X.p s.pl (stopD X.p (gt X.all n)).pl < 0) := hc
        refine .go (.vis n hu h0 h01 ⟨?_, fun h => ?_, by omega, by omega, by rw [← hT.now, ← hT.pl]; exact ho⟩) (plan_comp O hperm hun hpr hz hm2 (ts_vis O hT h0 h01) (hB.vis O h0 h01) h1 h2 h3)
        · cases hb : bt s.dn n with
          | false => rfl
          | true => exact absurd ((hB.2 n h0 h01).1 hb) hs.2.1
        · have hd := O.del n h0 h01 h
          rw [hB.2 (n - 1) (by omega) (by omega), hd.2]; exact hs.2.2 h
      · cases h1
end Go.SX
namespace Go.SX
open Go Go.RowKit
theorem pairs_nb {p : PB} : ∀ {m : List Vis} {s : List (Vis × Bool)} {op : Int}, pairsR p (nbF m) s op = pairsR p m s op
  | [], _, _ => rfl
  | x :: m, s, op => by
    rw [nbF_cons, pairsR_cons]
    split
    · exact pairs_nb
    · rename_i h; rw [pairsR_cons, if_neg h]; split
      · rfl
      · exact pairs_nb
theorem skills_nb {p : PB} {v : VH} {m : List Vis} : skillsR p v (nbF m) = skillsR p v m := by
  rw [Bool.eq_iff_iff, skills_iff, skills_iff]
  constructor
  · intro h x hx ht
    by_cases hk : x.kind = 4
    · rw [(task_no (x := x) (by omega) (by omega) (by omega)).2] at ht; cases ht
    · exact h x (nbF_mem.2 ⟨hx, hk⟩) ht
  · intro h x hx ht; exact h x (nbF_mem.1 hx).1 ht
theorem tasks_nb {m : List Vis} {n : Int} : tasksR (nbF m) n = tasksR m n := by rw [tasksR_is, tasksR_is, cntK_nb (by decide), cntK_nb (by decide)]
theorem load0_nb {p : PB} : ∀ {m : List Vis} {a : List Int}, load0R p (nbF m) a = load0R p m a
  | [], _ => rfl
  | x :: m, a => by
    rw [nbF_cons, load0R_cons]
    split
    · rename_i h; rw [if_neg (by omega)]; exact load0_nb
    · rw [load0R_cons]; split <;> exact load0_nb
theorem loadSt4 {p : PB} {x : Vis} {a : List Int} (h : x.kind = 4) : loadSt p x a = a := loadSt_no (by rw [stop4 h]; decide)
theorem loads_nb {p : PB} {cap : List Int} : ∀ {m : List Vis} {a : List Int}, allUnder cap (a :: loadsR p (nbF m) a) = allUnder cap (a :: loadsR p m a)
  | [], _ => rfl
  | x :: m, a => by
    rw [nbF_cons, loadsR_cons]
    split
    · rename_i h; rw [loadSt4 h, allUnder_cons (r := a :: loadsR p m a), loads_nb]
      rw [allUnder_cons]; split <;> rfl
    · rw [loadsR_cons, allUnder_cons, allUnder_cons (r := loadSt p x a :: loadsR p m (loadSt p x a)), loads_nb]
theorem loadsF_nb {p : PB} {cap : List Int} {m : List Vis} : allUnder cap (loadsF p (nbF m)) = allUnder cap (loadsF p m) := by
  unfold loadsF
  rw [show load0 p (nbF m) = load0 p m from load0_nb]; exact loads_nb
theorem travel_nb {p : PB} (L : LawP p) {v : VH} : ∀ {m : List Vis} {a : Int}, 0 ≤ a ∧ a < p.tn → travelQ p v (nbF m) a = travelQ p v m a
  | [], _, _ => rfl
  | x :: m, a, ha => by
    rw [nbF_cons, travelQ_cons]
    split
    · rename_i h
      have hd := cell_diag L ha
      have h1 : cellF p.tn p.time a a = 0 := hd.1
      have h2 : cellF p.dn p.dist a a = 0 := hd.2
      rw [nextPl_n (by rw [stop4 h]; decide), if_neg (by omega)]; exact travel_nb L ha
    · rw [travelQ_cons, travel_nb L (nextPl_rng L ha)]
theorem checks_nb {p : PB} (L : LawP p) {v : VH} (hst : 0 ≤ v.st ∧ v.st < p.tn) {m m' : List Vis} (e : nbF m = nbF m') (h : checksF p v m = 0) (hb : breaksR v.brs.length m' 0 = true) : checksF p v m' = 0 := by
  have c1 : pairsR p m [] 0 = true := by
    cases hq : pairsR p m [] 0 with
    | true => rfl
    | false => rw [ck_161 (by rw [hq]; decide)] at h; cases h
  have c2 : breaksR v.brs.length m 0 = true := by
    cases hq : breaksR v.brs.length m 0 with
    | true => rfl
    | false => rw [ck_162 c1 hq] at h; cases h
  have c3 : skillsR p v m = true := by
    cases hq : skillsR p v m with
    | true => rfl
    | false => rw [ck_163 c1 c2 (by rw [hq]; decide)] at h; cases h
  have c4 : ¬ tasksR m 0 > v.mt := fun hq => by rw [ck_164 c1 c2 c3 hq] at h; cases h
  have c5 : allUnder v.vcap (loadsF p m) = true := by
    cases hq : allUnder v.vcap (loadsF p m) with
    | true => rfl
    | false => rw [ck_165 c1 c2 c3 c4 hq] at h; cases h
  have c6 : travelR p (placesF p v m) = true := by
    cases hq : travelR p (placesF p v m) with
    | true => rfl
    | false => rw [ck_166 c1 c2 c3 c4 c5 hq] at h; cases h
  refine ck_ok ?_ hb ?_ ?_ ?_ ?_
  · rw [← pairs_nb, ← e, pairs_nb]; exact c1
  · rw [← skills_nb, ← e, skills_nb]; exact c3
  · rw [← tasks_nb, ← e, tasks_nb]; exact c4
  · rw [← loadsF_nb, ← e, loadsF_nb]; exact c5
  · unfold placesF at *
    rw [← travelQ_eq] at c6 ⊢
    rw [← travel_nb L hst, ← e, travel_nb L hst]; exact c6
theorem checks_parts {p : PB} {v : VH} {m : List Vis} (h : checksF p v m = 0) : pairsR p m [] 0 = true ∧ breaksR v.brs.length m 0 = true ∧ allUnder v.vcap (loadsF p m) = true ∧ travelR p (placesF p v m) = true := by
  have h0 := checks_0 h
  have c3 : skillsR p v m = true := by
    cases hq : skillsR p v m with
    | true => rfl
    | false => rw [ck_163 h0.1 h0.2 (by rw [hq]; decide)] at h; cases h
  have c4 : ¬ tasksR m 0 > v.mt := fun hq => by rw [ck_164 h0.1 h0.2 c3 hq] at h; cases h
  have c5 : allUnder v.vcap (loadsF p m) = true := by
    cases hq : allUnder v.vcap (loadsF p m) with
    | true => rfl
    | false => rw [ck_165 h0.1 h0.2 c3 c4 hq] at h; cases h
  refine ⟨h0.1, h0.2, c5, ?_⟩
  cases hq : travelR p (placesF p v m) with
  | true => rfl
  | false => rw [ck_166 h0.1 h0.2 c3 c4 c5 hq] at h; cases h
def tsum (p : PB) : List Vis → Int → Int
  | [], _ => 0
  | x :: r, a => tcell p a (nextPl p a x) + tsum p r (nextPl p a x)
def dsum (p : PB) : List Vis → Int → Int
  | [], _ => 0
  | x :: r, a => dcell p a (nextPl p a x) + dsum p r (nextPl p a x)
def plR (p : PB) : List Vis → Int → Int
  | [], a => a
  | x :: r, a => plR p r (nextPl p a x)
theorem times_sum {p : PB} {v : VH} : ∀ {m : List Vis} {T Z : TM}, timesR p v m T = some Z → Z.time = T.time + tsum p m T.pl ∧ Z.dist = T.dist + dsum p m T.pl ∧ Z.pl = plR p m T.pl
  | [], T, Z, h => by injection h with h; subst h; exact ⟨by simp [tsum], by simp [dsum], rfl⟩
  | x :: m, T, Z, h => by
    rw [timesR_cons] at h
    split at h
    · have := times_sum h
      simp only [tmSt] at this
      simp only [tsum, dsum, plR]
      exact ⟨by omega, by omega, this.2.2⟩
    · cases h
theorem sum_nb {p : PB} (L : LawP p) : ∀ {m : List Vis} {a : Int}, 0 ≤ a ∧ a < p.tn → tsum p (nbF m) a = tsum p m a ∧ dsum p (nbF m) a = dsum p m a ∧ plR p (nbF m) a = plR p m a
  | [], _, _ => ⟨rfl, rfl, rfl⟩
  | x :: m, a, ha => by
    rw [nbF_cons]
    split
    · rename_i h
      have hd := cell_diag L ha
      have ih := sum_nb L (m := m) ha
      simp only [tsum, dsum, plR]
      rw [nextPl_n (by rw [stop4 h]; decide)]
      exact ⟨by omega, by omega, ih.2.2⟩
    · have ih := sum_nb L (m := m) (nextPl_rng L (x := x) ha)
      simp only [tsum, dsum, plR]
      exact ⟨by omega, by omega, ih.2.2⟩
def costNB (p : PB) (v : VH) (l : List Vis) : Int := v.fix + (tsum p l v.st + tcell p (plR p l v.st) v.en) * v.pt + (dsum p l v.st + dcell p (plR p l v.st) v.en) * v.pd
theorem planS_some {p : PB} {v : VH} {m : List Vis} (h : (timesF p v m).e = 0) : ∃ Z, timesR p v m ⟨v.lo, 0, 0, 0, 0, v.st⟩ = some Z ∧ ¬ Z.now + tcell p Z.pl v.en > v.hi ∧ timesF p v m = tmEnd p v Z := by
  unfold timesF at *
  split at h
  · rename_i s hs
    refine ⟨s, hs, fun k => ?_, rfl⟩
    unfold tmEnd at h; rw [if_pos k] at h; cases h
  · cases h
theorem plan_costNB {p : PB} (L : LawP p) {k : Int} {m : List Vis} (hst : 0 ≤ (gt p.vehs k).st ∧ (gt p.vehs k).st < p.tn) (h : (planP p k m).e = 0) : (planP p k m).cost = costNB p (gt p.vehs k) (nbF m) := by
  have h1 : planP p k m = timesF p (gt p.vehs k) m := by
    unfold planP at *
    split
    · rename_i hc; rw [if_pos hc] at h; cases h
    · rename_i hc; rw [if_neg hc] at h
      split
      · rename_i hn; rw [if_pos hn] at h; exact absurd h hn
      · rfl
  rw [h1] at h ⊢
  obtain ⟨Z, hz, hn, he⟩ := planS_some h
  have hs := times_sum hz
  have hq := sum_nb L (m := m) hst
  rw [he]
  unfold tmEnd; rw [if_neg hn]
  unfold costNB
  rw [hq.1, hq.2.1, hq.2.2, hs.1, hs.2.1, hs.2.2]
  simp
theorem noBr_iff : ∀ {l : List Vis}, noBr l = true ↔ ∀ x ∈ l, x.kind ≠ 4
  | [] => by simp [noBr]
  | x :: r => by
    rw [noBr_cons]
    split
    · rename_i h; simp [h]
    · rename_i h; rw [noBr_iff]; simp [h]
theorem takeB_nb {i : Int} : ∀ {r : List Int} {k : Int}, nbF (takeB i k r) = []
  | [], _ => rfl
  | y :: r, k => by
    rw [takeB]; split
    · rw [nbF_cons, if_pos rfl]; exact takeB_nb
    · rfl
theorem setR_nb : ∀ {l : List Vis} {i k : Int} {r : List Int}, (∀ x ∈ l, x.kind ≠ 4) → nbF (setR l i k r) = l
  | [], i, k, r, _ => takeB_nb
  | x :: l, i, k, r, h => by
    show nbF (takeB i k r ++ x :: setR l (i + 1) (k + cntB i r) (leftB i r)) = _
    rw [nbF_app, takeB_nb, nbF_cons, if_neg (h x (List.mem_cons_self ..)), setR_nb (fun y hy => h y (List.mem_cons_of_mem _ hy))]; rfl
theorem setR_breaks {nb : Int} : ∀ {l : List Vis} {r : List Int} {i k : Int}, (∀ x ∈ l, x.kind ≠ 4) → r.Pairwise (· ≤ ·) → (∀ y ∈ r, y ≤ i + l.length) → k + r.length = nb → breaksR nb (setR l i k r) k = true
  | [], [], i, k, _, _, _, h => by show decide (k = nb) = true; simp at h; exact decide_eq_true h
  | [], y :: r, i, k, hl, hp, hy, h => by
    rw [setR_pop (by have := hy y (List.mem_cons_self ..); simpa using this), breaksR_cons, if_pos rfl, if_neg (fun q => q rfl)]
    exact setR_breaks hl (List.pairwise_cons.1 hp).2 (fun z hz => hy z (List.mem_cons_of_mem _ hz)) (by rw [List.length_cons] at h; omega)
  | x :: l, [], i, k, hl, _, _, h => by
    rw [setR_go (fun y hy => by cases hy), breaksR_cons, if_neg (hl x (List.mem_cons_self ..))]
    exact setR_breaks (fun z hz => hl z (List.mem_cons_of_mem _ hz)) List.Pairwise.nil (fun z hz => by cases hz) h
  | x :: l, y :: r, i, k, hl, hp, hy, h => by
    by_cases hyi : y ≤ i
    · rw [setR_pop hyi, breaksR_cons, if_pos rfl, if_neg (fun q => q rfl)]
      exact setR_breaks hl (List.pairwise_cons.1 hp).2 (fun z hz => hy z (List.mem_cons_of_mem _ hz)) (by rw [List.length_cons] at h; omega)
    · rw [setR_go (fun z hz => by injection hz with hz; omega), breaksR_cons, if_neg (hl x (List.mem_cons_self ..))]
      exact setR_breaks (fun z hz => hl z (List.mem_cons_of_mem _ hz)) hp (fun z hz => by have := hy z hz; rw [List.length_cons] at this; omega) h
termination_by l r => l.length + r.length
theorem set_find {nb : Int} : ∀ {m : List Vis} {i k : Int}, breaksR nb m k = true → ∃ a : List Int, a.Pairwise (· ≤ ·) ∧ (∀ y ∈ a, i ≤ y ∧ y ≤ i + (nbF m).length) ∧ k + a.length = nb ∧ setR (nbF m) i k a = m
  | [], i, k, h => ⟨[], List.Pairwise.nil, (fun y hy => by cases hy), (by have : decide (k = nb) = true := h; simpa using of_decide_eq_true this), rfl⟩
  | x :: m, i, k, h => by
    rw [breaksR_cons] at h
    by_cases hk : x.kind = 4
    · rw [if_pos hk] at h
      split at h
      · cases h
      rename_i hi
      have hi : x.item = k := Classical.not_not.1 hi
      obtain ⟨a, h1, h2, h3, h4⟩ := set_find (i := i) h
      refine ⟨i :: a, List.pairwise_cons.2 ⟨fun y hy => (h2 y hy).1, h1⟩, fun y hy => ?_, by rw [List.length_cons]; omega, ?_⟩
      · rw [nbF_cons, if_pos hk]
        rcases List.mem_cons.1 hy with rfl | hy
        · omega
        · exact h2 y hy
      · rw [nbF_cons, if_pos hk, setR_pop (Int.le_refl _), h4]
        congr 1; exact (vis_ext hk hi).symm
    · rw [if_neg hk] at h
      obtain ⟨a, h1, h2, h3, h4⟩ := set_find (i := i + 1) h
      refine ⟨a, h1, fun y hy => ?_, h3, ?_⟩
      · rw [nbF_cons, if_neg hk, List.length_cons]; have := h2 y hy; omega
      · rw [nbF_cons, if_neg hk, setR_go (fun y hy => by have := (h2 y (List.mem_of_mem_head? hy)).1; omega), h4]
theorem up_mem {a m y : Int} : y ∈ up a m ↔ a ≤ y ∧ y ≤ m := by
  unfold up
  rw [List.mem_map]
  constructor
  · rintro ⟨n, hn, rfl⟩; have := List.mem_range.1 hn; omega
  · rintro ⟨h1, h2⟩; exact ⟨(y - a).toNat, List.mem_range.2 (by omega), by omega⟩
theorem cands_zero {m : Int} {nb : Nat} (hn : nb ≤ 2) (hm : 0 ≤ m) {c : List Int} : c ∈ candsA m (List.replicate nb 0) ↔ c.length = nb ∧ c.Pairwise (· ≤ ·) ∧ ∀ y ∈ c, 0 ≤ y ∧ y ≤ m := by
  match nb, hn with
  | 0, _ =>
    show c ∈ [[]] ↔ _
    constructor
    · intro h; simp only [List.mem_singleton] at h; subst h; exact ⟨rfl, List.Pairwise.nil, fun y hy => by cases hy⟩
    · rintro ⟨h, _⟩; simp [List.length_eq_zero_iff.1 h]
  | 1, _ =>
    rw [restC_all (.inl rfl) hm]
    unfold restC
    rw [if_pos (by rfl), List.mem_map]
    constructor
    · rintro ⟨x, hx, rfl⟩
      exact ⟨rfl, List.pairwise_singleton _ _, fun y hy => by simp only [List.mem_singleton] at hy; subst hy; exact up_mem.1 hx⟩
    · rintro ⟨h1, h2, h3⟩
      match c, h1 with
      | [x], _ => exact ⟨x, up_mem.2 (h3 x (by simp)), rfl⟩
  | 2, _ =>
    rw [restC_all (.inr rfl) hm]
    unfold restC
    rw [if_neg (by decide), List.mem_flatMap]
    constructor
    · rintro ⟨x, hx, hc⟩
      obtain ⟨y, hy, rfl⟩ := List.mem_map.1 hc
      have h1 := up_mem.1 hx; have h2 := up_mem.1 hy
      exact ⟨rfl, by simp; omega, fun z hz => by simp only [List.mem_cons, List.not_mem_nil, or_false] at hz; rcases hz with rfl | rfl <;> omega⟩
    · rintro ⟨h1, h2, h3⟩
      match c, h1 with
      | [x, y], _ =>
        have a := h3 x (by simp); have b := h3 y (by simp)
        have hxy : x ≤ y := by simpa using h2
        exact ⟨x, up_mem.2 a, List.mem_map.2 ⟨y, up_mem.2 ⟨hxy, b.2⟩, rfl⟩⟩
theorem firstC_mem {F : List Int → PR} : ∀ {cs : List (List Int)}, (firstC F cs).e = 0 → ∃ c ∈ cs, firstC F cs = F c
  | [], h => by cases h
  | c :: r, h => by
    rw [firstC_cons] at h ⊢
    split at h
    · rename_i hc; rw [if_pos hc]; exact ⟨c, List.mem_cons_self .., rfl⟩
    · rename_i hc; rw [if_neg hc]
      obtain ⟨d, h1, h2⟩ := firstC_mem h
      exact ⟨d, List.mem_cons_of_mem _ h1, h2⟩
theorem firstC_ok {F : List Int → PR} : ∀ {cs : List (List Int)}, (∀ c ∈ cs, (F c).e = 0 ∨ (F c).e = 167) → (∃ c ∈ cs, (F c).e = 0) → (firstC F cs).e = 0
  | [], _, h => by obtain ⟨c, h, _⟩ := h; cases h
  | c :: r, h1, h2 => by
    rw [firstC_cons]
    rcases h1 c (List.mem_cons_self ..) with hc | hc
    · rw [if_pos (by rw [hc]; decide)]; exact hc
    · rw [if_neg (by rw [hc]; decide)]
      refine firstC_ok (fun d hd => h1 d (List.mem_cons_of_mem _ hd)) ?_
      obtain ⟨d, hd, he⟩ := h2
      rcases List.mem_cons.1 hd with rfl | hd
      · rw [hc] at he; cases he
      · exact ⟨d, hd, he⟩
theorem timesF_er {p : PB} {v : VH} {l : List Vis} : (timesF p v l).e = 0 ∨ (timesF p v l).e = 167 := by
  unfold timesF
  split
  · unfold tmEnd; split
    · exact .inr rfl
    · exact .inl rfl
  · exact .inr rfl
theorem plan_e0 {p : PB} {k : Int} {m : List Vis} (h : (planP p k m).e = 0) : ¬ (k < 0 ∨ k ≥ p.vehs.length) ∧ checksF p (gt p.vehs k) m = 0 ∧ planP p k m = timesF p (gt p.vehs k) m := by
  unfold planP at *
  split at h
  · cases h
  · rename_i hc
    split at h
    · rename_i hn; exact absurd h hn
    · rename_i hn; exact ⟨hc, Classical.not_not.1 hn, by rw [if_neg hc, if_neg hn]⟩
theorem fit_of_plan {p : PB} (L : LawP p) {k : Int} {m : List Vis} (h : (planP p k m).e = 0) : (fitV p k (nbF m)).e = 0 ∧ (fitV p k (nbF m)).cost = (planP p k m).cost := by
  obtain ⟨hk, hc, hp⟩ := plan_e0 h
  have hV := L.veh k (by omega) (by omega)
  have hbr := (checks_0 hc).2
  obtain ⟨a, a1, a2, a3, a4⟩ := set_find (i := 0) hbr
  have hno : noBr (nbF m) = true := noBr_iff.2 (fun x hx => (nbF_mem.1 hx).2)
  have hn4 : ∀ x ∈ nbF m, x.kind ≠ 4 := fun x hx => (nbF_mem.1 hx).2
  rw [fit_in hk hno]
  have hz : ∀ c, c ∈ candsA ((nbF m).length : Int) (zerosB p k) ↔ c.length = (gt p.vehs k).brs.length ∧ c.Pairwise (· ≤ ·) ∧ ∀ y ∈ c, 0 ≤ y ∧ y ≤ ((nbF m).length : Int) := fun c => cands_zero hV.brs (by omega)
  have hall : ∀ c ∈ candsA ((nbF m).length : Int) (zerosB p k), nbF (setR (nbF m) 0 0 c) = nbF m ∧ planS p k (nbF m) c = timesF p (gt p.vehs k) (setR (nbF m) 0 0 c) := fun c hc2 => by
    obtain ⟨c1, c2, c3⟩ := (hz c).1 hc2
    have hb := setR_breaks (nb := (gt p.vehs k).brs.length) (l := nbF m) (r := c) (i := 0) (k := 0) hn4 c2 (fun y hy => by have := (c3 y hy).2; omega) (by omega)
    refine ⟨setR_nb hn4, ?_⟩
    unfold planS
    exact plan_ok hk (checks_nb L hV.st (setR_nb hn4).symm hc hb)
  have hav : a ∈ candsA ((nbF m).length : Int) (zerosB p k) := (hz a).2 ⟨by omega, a1, fun y hy => by have := a2 y hy; omega⟩
  have hfa : planS p k (nbF m) a = planP p k m := by unfold planS; rw [a4]
  have h0 : (firstC (planS p k (nbF m)) (candsA ((nbF m).length : Int) (zerosB p k))).e = 0 := firstC_ok (fun c hc => by rw [(hall c hc).2]; exact timesF_er) ⟨a, hav, by rw [hfa]; exact h⟩
  refine ⟨h0, ?_⟩
  obtain ⟨c, hc1, hc2⟩ := firstC_mem h0
  rw [hc2] at h0 ⊢
  have e1 : planS p k (nbF m) c = planP p k (setR (nbF m) 0 0 c) := rfl
  rw [e1] at h0 ⊢
  rw [plan_costNB L hV.st h0, plan_costNB L hV.st h, (hall c hc1).1]
theorem plan_of_fit {p : PB} (L : LawP p) {k : Int} {l : List Vis} (h : (fitV p k l).e = 0) : ∃ m, nbF m = l ∧ (planP p k m).e = 0 ∧ (planP p k m).cost = (fitV p k l).cost := by
  have hk : ¬ (k < 0 ∨ k ≥ p.vehs.length) := fun hk => by rw [fit_out hk] at h; cases h
  have hno : noBr l = true := by
    cases hq : noBr l with
    | true => rfl
    | false => rw [fit_brk hk hq] at h; cases h
  rw [fit_in hk hno] at h ⊢
  obtain ⟨c, hc1, hc2⟩ := firstC_mem h
  rw [hc2] at h ⊢
  exact ⟨setR l 0 0 c, setR_nb (noBr_iff.1 hno), h, rfl⟩
theorem fit_sound {X : CX} (O : X.Ok) (hv : X.v = gt X.p.vehs 0) (hl : 0 < X.p.vehs.length) {m : List Vis} {s : RS} (h : X.Path X.s0 m s) (e : X.EndK s) :
    (fitV X.p 0 (nbF m)).e = 0 ∧ (fitV X.p 0 (nbF m)).cost = X.v.fix + X.endc s ∧ (nbF m).Perm X.all := by
  have h1 := plan_sound O hv hl h e
  have h2 := fit_of_plan O.law h1.1
  exact ⟨h2.1, by rw [h2.2, h1.2.1], h1.2.2⟩
theorem fit_comp {X : CX} (O : X.Ok) (hv : X.v = gt X.p.vehs 0) {l : List Vis} (hp : l.Perm X.all) (h : (fitV X.p 0 l).e = 0) : X.Fin X.s0 ((fitV X.p 0 l).cost - X.v.fix) := by
  obtain ⟨m, hm, h1, h2⟩ := plan_of_fit O.law h
  obtain ⟨hk, hc, hpt⟩ := plan_e0 h1
  obtain ⟨c1, c2, c3, c4⟩ := checks_parts hc
  have ht : (timesF X.p X.v m).e = 0 := by rw [hv, ← hpt]; exact h1
  obtain ⟨Z, hz, hn, he⟩ := planS_some ht
  have hcost : (planP X.p 0 m).cost = X.v.fix + (Z.time + tcell X.p Z.pl X.v.en) * X.v.pt + (Z.dist + dcell X.p Z.pl X.v.en) * X.v.pd := by
    rw [hpt, ← hv, he]; unfold tmEnd; rw [if_neg hn]
  rw [← hv] at c2 c3 c4
  have := plan_comp O (m := m) (Z := Z) (by rw [hm]; exact hp) (allUnder_iff.1 c3) (pairs_is.1 c1).1 hn (r := m) (u := []) rfl (ts_0 O) (bits_0 X) hz (by rw [travelQ_eq]; exact c4) c2
  rw [← h2, hcost]
  have e2 : X.v.fix + (Z.time + tcell X.p Z.pl X.v.en) * X.v.pt + (Z.dist + dcell X.p Z.pl X.v.en) * X.v.pd - X.v.fix = (Z.time + tcell X.p Z.pl X.v.en) * X.v.pt + (Z.dist + dcell X.p Z.pl X.v.en) * X.v.pd := by omega
  rw [e2]; exact this
end Go.SX
namespace Go.SX
open Go Go.RowKit
section
variable {V : Env} {P : Program} {Q : Exit → Act → World → Prop} {N : Nat} {L : List (Nat × Value)} {H R : List Res} {S : Nat → Prop} {wf : World} {c : Code}
theorem split_at {α : Type} [Inhabited α] {l : List α} {i : Int} (h0 : 0 ≤ i) (h1 : i < (l.length : Int)) : l = l.take i.toNat ++ gt l i :: l.drop (i + 1).toNat := by rw [← drop_gt h0 h1]; exact (List.take_append_drop _ _).symm
theorem big_mid {α : Type} {f : α → Res} {a b : List α} {x : α} : ((big f (a ++ x :: b)).foot).Perm ((f x).foot ++ (big f (a ++ b)).foot) := by
  simp only [big, List.flatMap_append, List.flatMap_cons]
  rw [← List.append_assoc, ← List.append_assoc]
  exact List.perm_append_comm.append_right _
end
end Go.SX
namespace Go.SX
open Go Go.RowKit
theorem cb_tf {x y : Bool} : (x && !y) = ((x == true) && (y == false)) := by cases x <;> cases y <;> rfl
theorem cb_ft {x y : Bool} : (!x && y) = ((x == false) && (y == true)) := by cases x <;> cases y <;> rfl
theorem gvn {b b1 c w1 want : Bool} {v : Value} (hc : c = ((b1 == w1) && (b == want))) (hb : b1 = w1) : gv c true v = gv b want v := by
  subst hb hc
  cases b1 <;> cases b <;> cases want <;> rfl
theorem lkgn {L : List (Nat × Value)} {x : Operand} {b b1 c w1 want : Bool} {v : Value} (h : lk L x = some (gv c true v)) (hc : c = ((b1 == w1) && (b == want))) (hb : b1 = w1) : lk L x = some (gv b want v) := by
  rw [h, gvn hc hb]
section
variable {V : Env} {P : Program} {Q : Exit → Act → World → Prop} {ops : Array Oper} {N : Nat} {o : Oper} {rest : List Oper} {L : List (Nat × Value)} {H : List Res} {S : Nat → Prop} {wf : World} {K : St → Prop} {st : St}
  {B : World → Prop} {cs : List (Nat × (World → Prop))} {fuel : Nat} {listed : Array Bool}
theorem yielded_gv {a : Act} {g t : Nat} {b b1 w1 : Bool} (hs : SL N L a) (ht : (ops[g]?).bind (·.dst) = some t) (hL : lkp L t = some (gv b1 w1 (.bool b))) : yielded ops a.tmps g = if b1 = w1 then some b else none := by
  by_cases hb : b1 = w1
  · rw [if_pos hb]
    rw [gv, if_pos hb] at hL
    exact yielded_of hs ht hL
  · rw [if_neg hb]
    rw [gv, if_neg hb] at hL
    have h := hs.2.2 t _ hL
    simp only [yielded, ht]
    cases hq : a.tmps[t]? with
    | none => simp [hq]
    | some u =>
      rw [Array.getD_eq_getD_getElem?, hq] at h
      simp at h
      subst h
      simp [hq, undef]
theorem SR.ggtake {v : Value} {d g t : Nat} {want b b1 w1 c : Bool} (i : Nat) (hc : c = ((b1 == w1) && (b == want))) (hi : ops[i]? = some o) (hs : Region.noSelect ops = true) (hf : Region.free .any ops listed i = true) (hr : (Region.ready .any ops listed).contains i = true)
    (hni : (cs.map (·.1)).contains i = false) (hQ : ∀ c a w v, Q (.panic c) (a.put o.dst v) w → Q (.panic c) a w) (hg : o.guard = some (g, want)) (ht : (ops[g]?).bind (·.dst) = some t) (hL : lkp L t = some (gv b1 w1 (.bool b))) (hd : o.dst = some d) (hdN : Nat.blt d N = true)
    (h : b1 = w1 → c = true → Ev P (fun w => B w ∧ ∀ c ∈ cs, waitsFor ops c.1 i = true → c.2 w) L o v)
    (k : SR V P Q ops N B cs fuel (listed.setIfInBounds i true) ⟨(d, gv c true v) :: L, H, S, wf⟩) : SR V P Q ops N B cs (fuel + 1) listed ⟨L, H, S, wf⟩ := by
  intro a w hsl hw hT hcl
  have hr' : i ∈ Region.ready .any ops listed := by simpa using hr
  have hni' : ∀ c ∈ cs, c.1 ≠ i := fun c hc e => by
    have : (cs.map (·.1)).contains i = true := by simp; exact ⟨c.2, by rw [← e]; exact hc⟩
    rw [this] at hni
    cases hni
  have hy := yielded_gv hsl ht hL
  refine wpAnyJ_first (v := gv c true v) hi (Region.noSelect_spec hs) (fun c a w h => hQ c a w _ h) hni' fuel listed a w hcl (Region.free_spec hi hf) hr' ?_ hT ?_
  · by_cases hb1 : b1 = w1
    · rw [if_pos hb1] at hy
      by_cases hb : b = want
      · have hct : c = true := by rw [hc, hb1, hb]; simp
        have h' := h hb1 hct
        refine .inl ⟨by simp [Region.wanted, hg, hy, hb], fun w' hw' => ?_⟩
        rw [exec_ev hsl h'.1 h'.2.1, show gv c true v = v from if_pos hct]
        exact h'.2.2 w' hw'
      · have hcf : ¬ c = true := by rw [hc, hb1]; simp [hb]
        exact .inr ⟨by simp [Region.wanted, hg, hy, hb], if_neg hcf⟩
    · rw [if_neg hb1] at hy
      have hcf : ¬ c = true := by rw [hc]; simp [hb1]
      exact .inr ⟨by simp [Region.wanted, hg, hy], if_neg hcf⟩
  · rw [hd]
    exact k _ _ (hsl.put hdN _) hw ((TT.set hni').2 hT) (hcl.set hr')
theorem Ev.ggstep {d g t : Nat} {want b b1 w1 c : Bool} {v : Value} (hc : c = ((b1 == w1) && (b == want))) (h : b1 = w1 → c = true → Ev P (WW V S wf H) L o v)
    (hg : o.guard = some (g, want)) (ht : (ops[g]?).bind (·.dst) = some t) (hL : lkp L t = some (gv b1 w1 (.bool b))) (hd : o.dst = some d) (hdN : Nat.blt d N = true)
    (k : K ⟨(d, gv c true v) :: L, H, S, wf⟩) : OpStep V P Q ops N o ⟨L, H, S, wf⟩ K := by
  intro a w hs hw J hJ
  unfold Step1
  have hy := yielded_gv hs ht hL
  by_cases hct : c = true
  · have h12 : b1 = w1 ∧ b = want := by rw [hc] at hct; simpa using hct
    obtain ⟨hn, hk, h⟩ := h h12.1 hct
    rw [if_pos h12.1] at hy
    rw [if_pos (by simp [Region.wanted, hg, hy, h12.2])]
    rw [show gv c true v = v from if_pos hct] at k
    refine .inl ?_
    unfold Oper.wp
    rw [exec_ev hs hn hk, h w hw, Oper.upon_value, hd]
    exact hJ _ k _ _ (hs.put hdN v) hw
  · have hno : Region.wanted o (yielded ops a.tmps) = false := by
      by_cases hb1 : b1 = w1
      · rw [if_pos hb1] at hy
        have : ¬ b = want := fun e => hct (by rw [hc, hb1, e]; simp)
        simp [Region.wanted, hg, hy, this]
      · rw [if_neg hb1] at hy
        simp [Region.wanted, hg, hy]
    rw [if_neg (by simp [hno]), hd]
    rw [show gv c true v = undef from if_neg hct] at k
    exact hJ _ k _ _ (hs.put hdN undef) hw
end
end Go.SX
namespace Go.SX
open Go Go.RowKit
def mb (b : Bool) (r : Res) : Res where
  foot := if b then r.foot else []
  holds w := b = true → r.holds w
  stable w w' h hw hb := r.stable w w' (fun c hc => h c (by rw [hb]; exact hc)) (hw hb)
  lt w hw c hc := by
    cases b with
    | true => exact r.lt w (hw rfl) c hc
    | false => cases hc
section
variable {V : Env} {P : Program} {Q : Exit → Act → World → Prop} {ops : Array Oper} {N : Nat} {o : Oper} {rest : List Oper} {L : List (Nat × Value)} {H R : List Res} {S : Nat → Prop} {wf : World} {K : St → Prop} {st : St} {C : World → Prop}
theorem SC.mbT {r : Res} {c : Code} (hp : Pick H r R) (h : SC V P Q N c ⟨L, mb true r :: R, S, wf⟩) : SC V P Q N c ⟨L, H, S, wf⟩ := fun a w hs hw =>
  h a w hs (WW.swap (A := [r]) (hw.perm hp.perm) (by simp [mb, feet]) (fun hh _ => hh r (List.mem_cons_self ..)))
theorem SC.mbF (r : Res) {c : Code} (h : SC V P Q N c ⟨L, mb false r :: H, S, wf⟩) : SC V P Q N c ⟨L, H, S, wf⟩ := fun a w hs hw =>
  h a w hs (WW.swap (A := []) hw rfl (fun _ e => by cases e))
theorem Fr.of_mb {α : Type} {E : Enc α} {e n c : Nat} {A : Option Addr} {l : List α} {own : Bool} {w : World} {S2 : Nat → Prop} (h : (mb own (rw_ E e (.slice A n c) l)).holds w) (hS : ∀ b ∈ (mb own (rw_ E e (.slice A n c) l)).foot, S2 b) (hl : l.length ≤ 140737488355328) (hf : own = false → Fr E S2 w A l) : Fr E S2 w A l := by
  cases own with
  | true => exact Fr.of_row (h rfl) hS hl
  | false => exact hf rfl
theorem Fr.lendm {α : Type} {E : Enc α} {e n c : Nat} {A : Option Addr} {l : List α} {own : Bool} {C0 R1 : List Res} {w : World} (hw : WW V S wf (C0 ++ (R1 ++ R)) w) (i : Nat) (hi : R1[i]? = some (mb own (rw_ E e (.slice A n c) l))) (hl : l.length ≤ 140737488355328) (hf : own = false → Fr E S wf A l) : Fr E (fun b => S b ∨ b ∈ feet R1) w A l :=
  Fr.of_mb (hw.has _ (List.mem_append_right _ (List.mem_append_left _ (List.mem_of_getElem? hi)))) (fun b hb => .inr (feet_of i hi hb)) hl (fun h => (hf h).ext hw.lendx)
theorem Fr.lentm {α : Type} {E : Enc α} {e n c : Nat} {A : Option Addr} {l : List α} {own : Bool} {wf1 : World} (hx : Ext S wf (fun b => S b ∨ b ∈ feet R) wf1) (hR : ∀ r ∈ R, r.holds wf1) (i : Nat) (hi : R[i]? = some (mb own (rw_ E e (.slice A n c) l))) (hl : l.length ≤ 140737488355328) (hf : own = false → Fr E S wf A l) : Fr E (fun b => S b ∨ b ∈ feet R) wf1 A l :=
  Fr.of_mb (hR _ (List.mem_of_getElem? hi)) (fun b hb => .inr (feet_of i hi hb)) hl (fun h => (hf h).ext hx)
end
end Go.SX
namespace Go.SX
open Go Go.RowKit
structure XS where
  dn : Int
  bk : Int
  pl : Int
  nw : Int
  cs : Int
  xA : Option Addr
  xn : Nat
  xc : Nat
  deriving Inhabited
def XS.rs (x : XS) : RS := ⟨x.dn, x.bk, x.pl, x.nw, x.cs⟩
def eXS : Enc XS where
  sz := 6
  enc x := [.int .i64 x.dn, .int .i64 x.bk, .int .i64 x.pl, .int .i64 x.nw, .int .i64 x.cs, .slice x.xA x.xn x.xc]
  len _ := rfl
  one x u hu := by simp at hu; rcases hu with rfl | rfl | rfl | rfl | rfl | rfl <;> rfl
  pos := by decide
structure KY where
  kd : Int
  kb : Int
  kp : Int
  deriving Inhabited, DecidableEq
def kyV (x : KY) : Value := .agg #[.int .i64 x.kd, .int .i64 x.kb, .int .i64 x.kp]
theorem kyV_inj : ∀ x y : KY, kyV x = kyV y → x = y := by
  intro x y h
  unfold kyV at h
  injection h with h
  cases x; cases y
  simp at h
  simp [h.1, h.2]
theorem kyV_bits (x : KY) : Instr.sameBits 10000 (kyV x) (kyV x) = true := by
  have : ∀ n, Instr.sameBits (n + 1) (kyV x) (kyV x) = true := by intro n; simp [kyV, Instr.sameBits]
  exact this 9999
structure LB where
  ll : List XS
  bA : Option Addr
  bc : Nat
  deriving Inhabited
def lbV (b : LB) : Value := .slice b.bA b.ll.length b.bc
def resLB (e : Nat) (b : LB) : Res := rowB eXS e (.slice b.bA b.ll.length b.bc) b.ll
def nestLB (e : Nat) (M : List (KY × LB)) : Res := big (resLB e) (M.map Prod.snd)
def restLB (e : Nat) (M : List (KY × LB)) (x : KY) : Res := big (resLB e) ((M.filter (fun q => decide (q.1 ≠ x))).map Prod.snd)
abbrev dLB : LB := ⟨[], none, 0⟩
theorem resLB_d (e : Nat) (w : World) : (resLB e dLB).foot = [] ∧ (resLB e dLB).holds w := by
  refine ⟨rfl, ?_, Nat.zero_le _⟩
  exact ⟨by simp [flat], .inl ⟨rfl, rfl⟩⟩
theorem filter_no {M : List (KY × LB)} {x : KY} (h : x ∉ M.map Prod.fst) : M.filter (fun q => decide (q.1 ≠ x)) = M :=
  List.filter_eq_self.2 (fun q hq => decide_eq_true (fun e => h (List.mem_map.2 ⟨q, hq, e⟩)))
theorem lb_foot {e : Nat} {x : KY} : ∀ {M : List (KY × LB)}, (M.map Prod.fst).Nodup → ((nestLB e M).foot).Perm ((resLB e (mget M x dLB)).foot ++ (restLB e M x).foot)
  | [], _ => by show List.Perm [] _; exact List.Perm.refl _
  | q :: M, h => by
    rw [List.map_cons, List.nodup_cons] at h
    rw [mget_cons]
    by_cases hq : q.1 = x
    · rw [if_pos hq]
      have h1 : (q :: M).filter (fun q => decide (q.1 ≠ x)) = M := by
        rw [List.filter_cons_of_neg (by simp [hq])]; exact filter_no (by rw [← hq]; exact h.1)
      unfold restLB
      rw [h1]; exact List.Perm.refl _
    · rw [if_neg hq]
      have h1 : (q :: M).filter (fun q => decide (q.1 ≠ x)) = q :: M.filter (fun q => decide (q.1 ≠ x)) := List.filter_cons_of_pos (by simp [hq])
      unfold restLB
      rw [h1]
      have ih := lb_foot (e := e) (x := x) h.2
      show ((resLB e q.2).foot ++ (nestLB e M).foot).Perm (_ ++ ((resLB e q.2).foot ++ (restLB e M x).foot))
      refine (ih.append_left _).trans ?_
      rw [← List.append_assoc, ← List.append_assoc]
      exact List.perm_append_comm.append_right _
theorem lb_get {M : List (KY × LB)} {x : KY} : mget M x dLB = dLB ∨ (x, mget M x dLB) ∈ M := by
  cases h : mhas M x with
  | false => exact .inl (mget_none h)
  | true =>
    right
    unfold mget
    obtain ⟨v, hv⟩ := mhas_iff.1 h
    cases hf : M.find? (fun p => decide (p.1 = x)) with
    | none => have := List.find?_eq_none.1 hf _ hv; simp at this
    | some q =>
      have h1 := List.mem_of_find?_eq_some hf
      have h2 : q.1 = x := by have := List.find?_some hf; simpa using this
      simp only [Option.map_some, Option.getD_some]
      rw [← h2]; exact h1
section
variable {V : Env} {P : Program} {Q : Exit → Act → World → Prop} {ops : Array Oper} {N : Nat} {L : List (Nat × Value)} {H R : List Res} {S : Nat → Prop} {wf : World} {c : Code}
theorem WW.outLB {e : Nat} {M : List (KY × LB)} {x : KY} (hn : (M.map Prod.fst).Nodup) {w : World} (h : WW V S wf (nestLB e M :: R) w) :
    (mget M x dLB).ll.length ≤ 140737488355328 ∧ WW V S wf (rw_ eXS e (.slice (mget M x dLB).bA (mget M x dLB).ll.length (mget M x dLB).bc) (mget M x dLB).ll :: restLB e M x :: R) w := by
  have hh := h.has (nestLB e M) (List.mem_cons_self ..)
  have hx : (resLB e (mget M x dLB)).holds w := by
    rcases lb_get (M := M) (x := x) with k | k
    · rw [k]; exact (resLB_d e w).2
    · exact hh _ (List.mem_map_of_mem k)
  refine ⟨hx.2, WW.relist (A := [nestLB e M]) (B := [rw_ eXS e (.slice (mget M x dLB).bA (mget M x dLB).ll.length (mget M x dLB).bc) (mget M x dLB).ll, restLB e M x]) h ?_ (fun hA r hr => ?_)⟩
  · simp only [feet_cons, feet_nil, List.append_nil]
    exact (lb_foot hn).symm
  · rcases List.mem_cons.1 hr with rfl | hr
    · exact hx.1
    · simp only [List.mem_singleton] at hr; subst hr
      intro y hy
      obtain ⟨q, hq, rfl⟩ := List.mem_map.1 hy
      exact hh _ (List.mem_map_of_mem (List.mem_filter.1 hq).1)
theorem SC.outLB {e : Nat} {M : List (KY × LB)} (x : KY) (hn : (M.map Prod.fst).Nodup) (hp : PickL H [nestLB e M] R)
    (h : (mget M x dLB).ll.length ≤ 140737488355328 → SC V P Q N c ⟨L, rw_ eXS e (.slice (mget M x dLB).bA (mget M x dLB).ll.length (mget M x dLB).bc) (mget M x dLB).ll :: restLB e M x :: R, S, wf⟩) : SC V P Q N c ⟨L, H, S, wf⟩ := fun a w hs hw =>
  have h2 := WW.outLB (x := x) hn (hw.perm hp.perm)
  h h2.1 a w hs h2.2
theorem lb_mem {M : List (KY × LB)} {x y : KY} {q : LB} (hn : (M.map Prod.fst).Nodup) (h : (y, q) ∈ M) : q = mget M x dLB ∨ q ∈ (M.filter (fun q => decide (q.1 ≠ x))).map Prod.snd := by
  by_cases hy : y = x
  · subst hy; exact .inl (mget_mem hn h).symm
  · exact .inr (List.mem_map.2 ⟨(y, q), List.mem_filter.2 ⟨h, by simp [hy]⟩, rfl⟩)
theorem WW.inLB0 {e : Nat} {M : List (KY × LB)} {x : KY} (hn : (M.map Prod.fst).Nodup) {w : World} (hb : (mget M x dLB).ll.length ≤ 140737488355328)
    (h : WW V S wf ([rw_ eXS e (.slice (mget M x dLB).bA (mget M x dLB).ll.length (mget M x dLB).bc) (mget M x dLB).ll, restLB e M x] ++ R) w) : WW V S wf (nestLB e M :: R) w :=
  WW.relist (B := [nestLB e M]) h (by simp only [feet_cons, feet_nil, List.append_nil]; exact lb_foot hn) (fun hA r hr => by
    simp only [List.mem_singleton] at hr; subst hr
    intro y hy
    obtain ⟨⟨k, q⟩, hq, rfl⟩ := List.mem_map.1 hy
    rcases lb_mem (x := x) hn hq with rfl | hq2
    · exact ⟨hA (rw_ eXS e (.slice (mget M x dLB).bA (mget M x dLB).ll.length (mget M x dLB).bc) (mget M x dLB).ll) (by simp), hb⟩
    · exact hA (restLB e M x) (by simp) _ hq2)
theorem SC.inLB0 {e : Nat} {M : List (KY × LB)} (x : KY) (hn : (M.map Prod.fst).Nodup) (hb : (mget M x dLB).ll.length ≤ 140737488355328) (hp : PickL H [rw_ eXS e (.slice (mget M x dLB).bA (mget M x dLB).ll.length (mget M x dLB).bc) (mget M x dLB).ll, restLB e M x] R)
    (h : SC V P Q N c ⟨L, nestLB e M :: R, S, wf⟩) : SC V P Q N c ⟨L, H, S, wf⟩ := fun a w hs hw => h a w hs (WW.inLB0 hn hb (hw.perm hp.perm))
theorem mset_ins {α β : Type} [DecidableEq α] {M : List (α × β)} {x : α} {z v : β} : mset (mins M x z) x v = mset M x v := by
  cases h : mhas M x with
  | true => unfold mins; rw [if_pos h]
  | false =>
    have e1 : mins M x z = M ++ [(x, z)] := by unfold mins; rw [if_neg (by rw [h]; decide)]
    have e2 : mset M x v = M ++ [(x, v)] := by unfold mset; rw [if_neg (by rw [h]; decide)]
    have h3 : mhas (M ++ [(x, z)]) x = true := mhas_iff.2 ⟨z, by simp⟩
    rw [e1, e2]
    unfold mset
    rw [if_pos h3, List.map_append]
    have h4 : M.map (fun p => if p.1 = x then (x, v) else p) = M := by
      rw [List.map_congr_left (g := id) (fun p hp => by
        rw [if_neg]; rfl
        intro hk
        have : mhas M x = true := mhas_iff.2 ⟨p.2, by rw [← hk]; exact hp⟩
        rw [h] at this; cases this)]
      simp
    rw [h4]; simp
theorem filter_map_ {x : KY} {v : LB} : ∀ {M : List (KY × LB)}, (M.map (fun p => if p.1 = x then (x, v) else p)).filter (fun q => decide (q.1 ≠ x)) = M.filter (fun q => decide (q.1 ≠ x))
  | [] => rfl
  | q :: M => by
    rw [List.map_cons]
    by_cases hq : q.1 = x
    · rw [if_pos hq, List.filter_cons_of_neg (by simp), List.filter_cons_of_neg (by simp [hq])]; exact filter_map_
    · rw [if_neg hq, List.filter_cons_of_pos (by simp [hq]), List.filter_cons_of_pos (by simp [hq]), filter_map_]
theorem filter_set {M : List (KY × LB)} {x : KY} {v : LB} : (mset M x v).filter (fun q => decide (q.1 ≠ x)) = M.filter (fun q => decide (q.1 ≠ x)) := by
  unfold mset
  split
  · exact filter_map_
  · rw [List.filter_append]; simp
theorem SC.inLB {e n : Nat} {M : List (KY × LB)} (x : KY) (v : LB) (hn : (M.map Prod.fst).Nodup) (hp : PickL H [rw_ eXS e (.slice v.bA n v.bc) v.ll, restLB e M x] R) (hl : v.ll.length = n) (hb : n ≤ 140737488355328)
    (h : SC V P Q N c ⟨L, nestLB e (mset (mins M x dLB) x v) :: R, S, wf⟩) : SC V P Q N c ⟨L, H, S, wf⟩ := fun a w hs hw => by
  subst hl
  rw [mset_ins] at h
  have hg : mget (mset M x v) x dLB = v := by rw [mget_set, if_pos rfl]
  have hr : restLB e (mset M x v) x = restLB e M x := by unfold restLB; rw [filter_set]
  have hw' := hw.perm hp.perm
  refine h a w hs (WW.inLB0 (x := x) (nd_set hn) (by rw [hg]; exact hb) ?_)
  rw [hg, hr]; exact hw'
theorem SC.nestLB0 (e : Nat) (h : SC V P Q N c ⟨L, nestLB e [] :: H, S, wf⟩) : SC V P Q N c ⟨L, H, S, wf⟩ := fun a w hs hw => h a w hs (hw.big0 _)
theorem SC.pool0 (e : Nat) (h : SC V P Q N c ⟨L, nestVL e [⟨[], none, 0⟩] :: H, S, wf⟩) : SC V P Q N c ⟨L, H, S, wf⟩ := fun a w hs hw =>
  h a w hs (WW.swap (A := []) hw rfl (fun _ x hx => by
    simp only [List.mem_singleton] at hx; subst hx
    exact ⟨⟨by simp [flat], .inl ⟨rfl, rfl⟩⟩, Nat.zero_le _⟩))
end
theorem VLF.mem {S : Nat → Prop} {wf : World} {l : List VL} {x : VL} (h : VLF S wf l) (hx : x ∈ l) : Fr eVis S wf x.wlA x.vl := by
  obtain ⟨n, hn, e⟩ := List.getElem_of_mem hx
  have := h n
  rw [show gt l (n : Int) = x from gt_some (by simp [hn, e])] at this
  exact this
section
variable {V : Env} {P : Program} {Q : Exit → Act → World → Prop} {ops : Array Oper} {N : Nat} {o : Oper} {L : List (Nat × Value)} {H R : List Res} {S : Nat → Prop} {wf : World} {K : St → Prop} {α β : Type} [DecidableEq α] {vf : β → Value} {m : List (α × β)} {x : α} {v z : β} {b : Nat}
theorem st_mapEntryv {t k e : TypeId} (E : KE P k α) {a y : Operand} {d : Nat} (ho : o.op = .mapEntry t a y) (hg : o.guard = none) (hd : o.dst = some d) (hdN : Nat.blt d N = true) (hu : P.underlying t = some (.map k e)) (hz : (P.info? e).bind (fun i => i.zero) = some (vf z))
    (ha : lk L a = some (.map (some b))) (hy : lk L y = some (E.f x)) (hp : Pick H (mp E.f vf b m) R)
    (kx : ∀ n, K ⟨(d, .tuple #[vf (mget m x z), .int .i64 ((n : Nat) : Int)]) :: L, mpk E.f vf b (mins m x z) x n :: R, S, wf⟩) : OpStep V P Q ops N o ⟨L, H, S, wf⟩ K :=
  .act hg hd hdN (by simp [ho, noSel]) (by simp [ho, Op.operands, known_of ha, known_of hy]) fun w hw => by
    have hw' := hw.perm hp.perm
    obtain ⟨es, clock, hb, hM⟩ := hw'.has _ (List.mem_cons_self ..)
    obtain ⟨inf, hi1, hi2⟩ := Option.bind_eq_some_iff.1 hz
    have hzr : (zeroValue e).run P w = .ok (vf z) w := by simp [zeroValue, typeInfo, hi1, hi2]
    rcases hM.find w x with ⟨h1, h2⟩ | ⟨j, e0, u, h1, h2, h3, h4, h5, h6, h7⟩
    · have hv : mget m x z = z := mget_none h2
      have kx := kx clock
      rw [hv] at kx
      refine ⟨.tuple #[vf z, .int .i64 ((clock : Nat) : Int)], Go.ChangeMaps.setBlock w b (.map (es.push ⟨E.f x, vf z, clock⟩) (clock + 1)), mpk E.f vf b (mins m x z) x clock :: R, ?_, hw'.setBlock rfl rfl hb ?_, kx⟩
      · simp [execOp, ho, ev_of ha, ev_of hy, Instr.mapEntry, run_underlying hu, MapKept.run_getObj_map hb, E.check, h1, hzr, MapKept.run_setObj_map _ hb, Result.andThen, Go.ChangeMaps.setBlock, goInt]
      · have hm : mins m x z = m ++ [(x, z)] := by unfold mins; rw [if_neg (by simp [h2])]
        exact ⟨_, _, heap_setBlock_at hb, by rw [hm]; exact hM.push h2, ⟨E.f x, vf z, clock⟩, by simp, rfl, rfl⟩
    · have hj : es[j]? = some e0 := by simpa using h2
      have kx := kx e0.born
      rw [h7 z, ← h5] at kx
      refine ⟨.tuple #[e0.val, .int .i64 ((e0.born : Nat) : Int)], Go.ChangeMaps.setBlock w b (.map (es.modify j fun e => { e with key := e0.key }) clock), mpk E.f vf b (mins m x z) x e0.born :: R, ?_, hw'.setBlock rfl rfl hb ?_, kx⟩
      · simp [execOp, ho, ev_of ha, ev_of hy, Instr.mapEntry, run_underlying hu, MapKept.run_getObj_map hb, E.check, h1, hj, h3, run_stays E, MapKept.run_setObj_map _ hb, Result.andThen, Go.ChangeMaps.setBlock, goInt]
      · have hm : mins m x z = m := by unfold mins; rw [if_pos h6]
        rw [hM.same h2, hm]
        exact ⟨_, _, heap_setBlock_at hb, hM, e0, List.mem_of_getElem? h2, h3, rfl⟩
end
end Go.SX
namespace Go.SX
open Go Go.RowKit
def nun (d : Int) : Nat → Int
  | 0 => 0
  | n + 1 => nun d n + (if bt d n = false then 1 else 0)
theorem nun_pos {d : Int} : ∀ {n : Nat}, 0 ≤ nun d n ∧ nun d n ≤ n
  | 0 => by simp [nun]
  | n + 1 => by have := nun_pos (d := d) (n := n); rw [nun]; split <;> omega
theorem nun_hi {d i : Int} : ∀ {n : Nat}, (n : Int) ≤ i → nun (setb d i) n = nun d n
  | 0, _ => rfl
  | n + 1, h => by
    rw [nun, nun, nun_hi (by omega), bt_set (by omega) (by omega), decide_eq_false (by omega), Bool.or_false]
theorem nun_set {d i : Int} (h0 : 0 ≤ i) (hb : bt d i = false) : ∀ {n : Nat}, i < (n : Int) → nun (setb d i) n = nun d n - 1
  | 0, h => by omega
  | n + 1, h => by
    rw [nun, nun]
    by_cases hi : i = (n : Int)
    · rw [nun_hi (by omega), bt_set h0 (by omega), decide_eq_true hi, Bool.or_true, if_neg (by decide), ← hi, if_pos hb]; omega
    · rw [nun_set h0 hb (by omega), bt_set h0 (by omega), decide_eq_false hi, Bool.or_false]; omega
theorem nun_0 {n : Nat} : nun 0 n = n := by
  induction n with
  | zero => rfl
  | succ n ih => rw [nun, ih, if_pos (bt_zero _)]; omega
theorem nun_get {d i : Int} (h0 : 0 ≤ i) (hb : bt d i = false) {n : Nat} (hi : i < (n : Int)) : 1 ≤ nun d n := by
  have h1 := nun_set h0 hb hi
  have h2 := nun_pos (d := setb d i) (n := n)
  omega
def remK (X : CX) (k : KY) : Int := nun k.kd X.all.length + ((X.v.brs.length : Int) - k.kb)
def tp (f : Int) : Int := if f < 0 then 0 else ((10 ^ f.toNat : Nat) : Int)
theorem tp_0 {f : Int} : 0 ≤ tp f := by
  unfold tp; split
  · omega
  · exact Int.natCast_nonneg _
theorem tp_step {f n : Int} (h : 0 ≤ f) (hn : n ≤ 8) (h0 : 0 ≤ n) : 1 + (tp (f - 1) + n * tp (f - 1)) ≤ tp f := by
  have h1 : n * tp (f - 1) ≤ 8 * tp (f - 1) := Int.mul_le_mul_of_nonneg_right hn tp_0
  by_cases hf : f = 0
  · subst hf
    have e1 : tp (0 - 1) = 0 := rfl
    have e2 : tp 0 = 1 := rfl
    rw [e1] at *; rw [e2]; omega
  · have e1 : tp (f - 1) = ((10 ^ (f - 1).toNat : Nat) : Int) := by unfold tp; rw [if_neg (by omega)]
    have e2 : tp f = ((10 ^ f.toNat : Nat) : Int) := by unfold tp; rw [if_neg (by omega)]
    rw [e2, show f.toNat = (f - 1).toNat + 1 from by omega, Nat.pow_succ]
    have : 0 < 10 ^ (f - 1).toNat := Nat.pow_pos (by decide)
    omega
theorem tp_le {f : Int} (h : f ≤ 10) : tp f ≤ 10000000000 := by
  unfold tp
  split
  · decide
  · have : 10 ^ f.toNat ≤ 10 ^ 10 := Nat.pow_le_pow_right (by decide) (by omega)
    omega
theorem t_next {T i : Int} : T + i * T + T ≤ T + (i + 1) * T := by rw [Int.add_mul]; omega
def BLe (B : VL) (c k : Int) : Prop := B.wlA.isNone = false ∧ c ≤ k
theorem BLe.mono {B : VL} {c k k' : Int} (h : BLe B c k) (hk : k ≤ k') : BLe B c k' := ⟨h.1, by have := h.2; omega⟩
abbrev LM := List (KY × LB)
abbrev lbs (M : LM) (k : KY) : List XS := (mget M k dLB).ll
abbrev dVL : VL := ⟨[], none, 0⟩
structure SrI (X : CX) (f : Int) (M : LM) (B : VL) (c : Int) (P : List VL) : Prop where
  nd : (M.map Prod.fst).Nodup
  lab : ∀ κ, ∀ y ∈ lbs M κ, y.dn = κ.kd ∧ y.bk = κ.kb ∧ y.pl = κ.kp ∧ 0 ≤ y.bk
  cov : ∀ κ, ∀ y ∈ lbs M κ, remK X κ ≤ f → ∀ k, X.Fin y.rs k → BLe B c k
  bok : B = dVL ∨ (B ∈ P ∧ ∃ m s, X.Path X.s0 m s ∧ X.EndK s ∧ c = X.endc s ∧ B.vl = nbF m)
structure SrS (X : CX) (f : Int) (M : LM) (B : VL) (c : Int) (P : List VL) (M' : LM) (B' : VL) (c' : Int) (P' : List VL) (t : Int) : Prop where
  sub : ∀ v ∈ P, v ∈ P'
  new : ∀ κ, ∀ y ∈ lbs M' κ, remK X κ ≤ f ∨ y ∈ lbs M κ
  le : ∀ k, BLe B c k → BLe B' c' k
  cnt : ∀ κ, ((lbs M' κ).length : Int) ≤ (lbs M κ).length + t
structure XI (X : CX) (f : Int) (s : RS) (xv : VL) : Prop where
  path : ∃ m, X.Path X.s0 m s ∧ xv.vl = nbF m
  rem : remK X ⟨s.dn, s.bk, s.pl⟩ = f
  dn : 0 ≤ s.dn ∧ s.dn < ((2 ^ X.all.length : Nat) : Int)
  bk : 0 ≤ s.bk ∧ s.bk ≤ (X.v.brs.length : Int)
  pl : 0 ≤ s.pl ∧ s.pl < X.p.tn
  nw : 0 ≤ s.nw ∧ s.nw ≤ 2000000
  cs : 0 ≤ s.cs ∧ s.cs ≤ 64000000000000 * (12 - f)
  vl : (xv.vl.length : Int) + f ≤ 10
  wl : s.dn ≠ 0 → xv.wlA.isNone = false
section
variable {X : CX} {f : Int} {M M' M2 : LM} {B B' B2 xv xw : VL} {c c' c2 t t' : Int} {P P' P2 : List VL} {s : RS} {i : Int}
theorem SrS.refl : SrS X f M B c P M B c P 0 := ⟨fun v h => h, fun κ y h => .inr h, fun k h => h, fun κ => by omega⟩
theorem SrS.trans (h : SrS X f M B c P M' B' c' P' t) (g : SrS X f M' B' c' P' M2 B2 c2 P2 t') : SrS X f M B c P M2 B2 c2 P2 (t + t') :=
  ⟨fun v hv => g.sub v (h.sub v hv), fun κ y hy => (g.new κ y hy).elim .inl (h.new κ y), fun k hk => g.le k (h.le k hk), fun κ => by have := h.cnt κ; have := g.cnt κ; omega⟩
theorem SrS.wk {f' : Int} (h : SrS X f M B c P M' B' c' P' t) (hf : f ≤ f') (ht : t ≤ t') : SrS X f' M B c P M' B' c' P' t' :=
  ⟨h.sub, fun κ y hy => (h.new κ y hy).elim (fun k => .inl (by omega)) .inr, h.le, fun κ => by have := h.cnt κ; omega⟩
theorem SrI.best (h : SrI X f M B c P) (hs : ∀ v ∈ P, v ∈ P') (hle : ∀ k, BLe B c k → BLe B' c' k) (hb : B' = dVL ∨ (B' ∈ P' ∧ ∃ m s, X.Path X.s0 m s ∧ X.EndK s ∧ c' = X.endc s ∧ B'.vl = nbF m)) : SrI X f M B' c' P' :=
  ⟨h.nd, h.lab, fun κ y hy hr k hk => hle k (h.cov κ y hy hr k hk), hb⟩
theorem SrI.pool (h : SrI X f M B c P) (hs : ∀ v ∈ P, v ∈ P') : SrI X f M B c P' :=
  h.best hs (fun k h => h) (h.bok.elim .inl (fun ⟨a, b⟩ => .inr ⟨hs _ a, b⟩))
theorem prune (O : X.Ok) (h : SrI X f M B c P) (hx : XI X f s xv) {y : XS} (hy : y ∈ lbs M ⟨s.dn, s.bk, s.pl⟩) (h1 : y.nw ≤ s.nw) (h2 : y.cs ≤ s.cs) : ∀ k, X.Fin s k → BLe B c k := fun k hk => by
  obtain ⟨a1, a2, a3, a4⟩ := h.lab _ y hy
  have hV := O.veh
  obtain ⟨k', hk', hf⟩ := CX.Fin.mono O ⟨hV.pt.1, hV.pd.1⟩ hk y.rs a1 a2 a3 h1 h2 hx.bk.1
  exact (h.cov _ y hy (by have := hx.rem; omega) k' hf).mono hk'
theorem lbs_set {κ κ' : KY} {b : LB} : lbs (mset (mins M κ dLB) κ b) κ' = if κ = κ' then b.ll else lbs M κ' := by
  unfold lbs
  rw [mset_ins, mget_set]; split <;> rfl
theorem sri_add (h : SrI X f M B c P) {y : XS} {A : Option Addr} {cc : Nat} (hx : XI X f s xv) (hy : y.rs = s) :
    SrI X (f - 1) (mset (mins M ⟨s.dn, s.bk, s.pl⟩ dLB) ⟨s.dn, s.bk, s.pl⟩ ⟨lbs M ⟨s.dn, s.bk, s.pl⟩ ++ [y], A, cc⟩) B c P := by
  refine ⟨?_, fun κ z hz => ?_, fun κ z hz hr => ?_, h.bok⟩
  · rw [mset_ins]; exact nd_set h.nd
  · rw [lbs_set] at hz
    split at hz
    · rename_i e; subst e
      rcases List.mem_append.1 hz with hz | hz
      · exact h.lab _ z hz
      · simp only [List.mem_singleton] at hz; subst hz
        subst hy
        exact ⟨rfl, rfl, rfl, hx.bk.1⟩
    · exact h.lab κ z hz
  · rw [lbs_set] at hz
    split at hz
    · rename_i e; subst e; have := hx.rem; omega
    · exact h.cov κ z hz (by omega)
theorem srs_add {y : XS} {A : Option Addr} {cc : Nat} (hx : XI X f s xv) :
    SrS X f M B c P (mset (mins M ⟨s.dn, s.bk, s.pl⟩ dLB) ⟨s.dn, s.bk, s.pl⟩ ⟨lbs M ⟨s.dn, s.bk, s.pl⟩ ++ [y], A, cc⟩) B c P 1 := by
  refine ⟨fun v h => h, fun κ z hz => ?_, fun k h => h, fun κ => ?_⟩
  · rw [lbs_set] at hz
    split at hz
    · rename_i e; subst e; exact .inl (by have := hx.rem; omega)
    · exact .inr hz
  · rw [lbs_set]; split
    · rename_i e; subst e
      show ((lbs M _ ++ [y]).length : Int) ≤ _
      rw [List.length_append, List.length_singleton]; omega
    · omega
theorem sri_done (h : SrI X f M B c P) {y : XS} {A : Option Addr} {cc : Nat} (hx : XI X f s xv) (hy : y.rs = s)
    (h2 : SrI X (f - 1) M' B' c' P') (hs : SrS X (f - 1) (mset (mins M ⟨s.dn, s.bk, s.pl⟩ dLB) ⟨s.dn, s.bk, s.pl⟩ ⟨lbs M ⟨s.dn, s.bk, s.pl⟩ ++ [y], A, cc⟩) B c P M' B' c' P' t)
    (hF : ∀ k, X.Fin s k → BLe B' c' k) : SrI X f M' B' c' P' := by
  refine ⟨h2.nd, h2.lab, fun κ z hz hr k hk => ?_, h2.bok⟩
  rcases hs.new κ z hz with hn | hn
  · exact h2.cov κ z hz hn k hk
  · rw [lbs_set] at hn
    split at hn
    · rename_i e; subst e
      rcases List.mem_append.1 hn with hn | hn
      · exact hs.le k (h.cov _ z hn hr k hk)
      · simp only [List.mem_singleton] at hn; subst hn; subst hy; exact hF k hk
    · exact hs.le k (h.cov κ z hn hr k hk)
theorem srs_done {y : XS} {A : Option Addr} {cc : Nat} (hx : XI X f s xv)
    (hs : SrS X (f - 1) (mset (mins M ⟨s.dn, s.bk, s.pl⟩ dLB) ⟨s.dn, s.bk, s.pl⟩ ⟨lbs M ⟨s.dn, s.bk, s.pl⟩ ++ [y], A, cc⟩) B c P M' B' c' P' t) (ht : 1 + t ≤ t') : SrS X f M B c P M' B' c' P' t' :=
  ((srs_add hx).trans (hs.wk (by omega) (Int.le_refl _))).wk (Int.le_refl _) ht
theorem fin_all (hu : X.und s.dn) (he : X.EndK s → BLe B c (X.endc s)) (hb : X.brkOk s → ∀ k, X.Fin (X.brk s) k → BLe B c k)
    (hv : ∀ i : Int, 0 ≤ i → i < (X.all.length : Int) → X.visOk s i → ∀ k, X.Fin (X.vis s i) k → BLe B c k) : ∀ k, X.Fin s k → BLe B c k := fun k hk => by
  cases hk with
  | fin e => exact he e
  | go g hf =>
    cases g with
    | brk _ o => exact hb o _ hf
    | vis i _ h0 h1 o => exact hv i h0 h1 o _ hf
theorem fin_und (hu : ¬ X.und s.dn) : ∀ k, X.Fin s k → BLe B c k := fun k hk => by
  cases hk with
  | fin e => exact absurd e.und hu
  | go g hf =>
    cases g with
    | brk u o => exact absurd u hu
    | vis i u h0 h1 o => exact absurd u hu
theorem end_bok (h : SrI X f M B c P) (hx : XI X f s xv) (hm : xv ∈ P) (hn : 0 < X.all.length) (hr : (B' = B ∧ c' = c) ∨ (X.EndK s ∧ B' = xv ∧ c' = X.endc s)) :
    B' = dVL ∨ (B' ∈ P ∧ ∃ m s, X.Path X.s0 m s ∧ X.EndK s ∧ c' = X.endc s ∧ B'.vl = nbF m) := by
  rcases hr with ⟨rfl, rfl⟩ | ⟨e, rfl, rfl⟩
  · exact h.bok
  · obtain ⟨m, h1, h2⟩ := hx.path
    exact .inr ⟨hm, m, s, h1, e, rfl, h2⟩
theorem XI.f0 (hx : XI X f s xv) : 0 ≤ f := by have := hx.rem; have := hx.bk; unfold remK at *; have := nun_pos (d := s.dn) (n := X.all.length); simp only at *; omega
theorem XI.brk (O : X.Ok) (hx : XI X f s xv) (hu : X.und s.dn) (o : X.brkOk s) : XI X (f - 1) (X.brk s) xv := by
  obtain ⟨m, h1, h2⟩ := hx.path
  have hr := hx.rem
  have hb := O.veh.brk s.bk hx.bk.1 o.1
  have hst := startF_rng hb.1.each o.2
  refine ⟨⟨m ++ [⟨4, s.bk⟩], h1.snoc (.brk hu o), by rw [nbF_app, h2]; simp [nbF]⟩, ?_, hx.dn, ⟨by show 0 ≤ s.bk + 1; have := hx.bk; omega, by show s.bk + 1 ≤ _; have := o.1; omega⟩, hx.pl, ?_, ?_, by have := hx.vl; omega, hx.wl⟩
  · unfold remK at *; show nun s.dn _ + (_ - (s.bk + 1)) = _; simp only at hr; omega
  · show 0 ≤ (startF _ _).1 + _ ∧ (startF _ _).1 + _ ≤ 2000000; have := hb.2; omega
  · show 0 ≤ s.cs ∧ s.cs ≤ _; have := hx.cs; omega
theorem full_0 {n : Nat} (h : 0 < n) : full n ≠ 0 := by
  unfold full
  have : 2 ^ 1 ≤ 2 ^ n := Nat.pow_le_pow_right (by decide) h
  omega
theorem XI.vis (O : X.Ok) (hx : XI X f s xv) (hu : X.und s.dn) (h0 : 0 ≤ i) (h1 : i < (X.all.length : Int)) (o : X.visOk s i) (hw : xw.vl = xv.vl ++ [gt X.all i]) (hn : xw.wlA.isNone = false) : XI X (f - 1) (X.vis s i) xw := by
  obtain ⟨m, p1, p2⟩ := hx.path
  have hr := hx.rem
  have hs := stop_ok O.law (O.mem _ (gt_in h0 h1))
  obtain ⟨o1, o2, o3, o4, o5⟩ := o
  have hst := startF_rng hs.win.each o5
  have hV := O.veh
  have t1 := cellF_rng (n := X.p.tn) (l := X.p.time) (f := s.pl) (t := (stopD X.p (gt X.all i)).pl) O.law.tc
  have d1 := cellF_rng (n := X.p.dn) (l := X.p.dist) (f := s.pl) (t := (stopD X.p (gt X.all i)).pl) O.law.dc
  refine ⟨⟨m ++ [gt X.all i], p1.snoc (.vis i hu h0 h1 ⟨o1, o2, o3, o4, o5⟩), by rw [nbF_app, hw, p2, nbF_cons, if_neg (kind_stop (O.mem _ (gt_in h0 h1)))]; rfl⟩, ?_, set_rng hx.dn h1 h0, hx.bk, hs.pl, ?_, ?_, ?_, fun _ => hn⟩
  · unfold remK at *; show nun (setb s.dn i) _ + (_ - s.bk) = _; rw [nun_set h0 o1 h1]; simp only at hr; omega
  · show 0 ≤ (startF _ _).1 + _ ∧ (startF _ _).1 + _ ≤ 2000000; have := hs.srv; omega
  · have m1 : 0 ≤ tcell X.p s.pl (stopD X.p (gt X.all i)).pl * X.v.pt := Int.mul_nonneg o3 hV.pt.1
    have m2 : 0 ≤ dcell X.p s.pl (stopD X.p (gt X.all i)).pl * X.v.pd := Int.mul_nonneg o4 hV.pd.1
    have m3 : tcell X.p s.pl (stopD X.p (gt X.all i)).pl * X.v.pt ≤ 32000000 * 1000000 := Int.mul_le_mul t1.2 hV.pt.2 hV.pt.1 (by decide)
    have m4 : dcell X.p s.pl (stopD X.p (gt X.all i)).pl * X.v.pd ≤ 32000000 * 1000000 := Int.mul_le_mul d1.2 hV.pd.2 hV.pd.1 (by decide)
    show 0 ≤ s.cs + _ + _ ∧ s.cs + _ + _ ≤ _; have := hx.cs; omega
  · rw [hw, List.length_append, List.length_singleton]; have := hx.vl; omega
theorem full_rng {n : Nat} (h : n ≤ 12) : 0 ≤ full n ∧ full n ≤ 4095 := by unfold full; have := pow_le8 h; omega
theorem endk_of (hn : X.all.length ≤ 12) (hu : X.und s.dn) (h : ¬ ((((s.dn ≠ shlI 1 (X.all.length : Int) - 1 ∨ s.bk ≠ (X.v.brs.length : Int)) ∨ cellF X.p.tn X.p.time s.pl X.v.en < 0) ∨ cellF X.p.dn X.p.dist s.pl X.v.en < 0) ∨ s.nw + cellF X.p.tn X.p.time s.pl X.v.en > X.v.hi)) : X.EndK s := by
  rw [full_is hn] at h
  refine ⟨hu, by omega, by omega, ?_, ?_, ?_⟩
  · show 0 ≤ cellF _ _ _ _; omega
  · show 0 ≤ cellF _ _ _ _; omega
  · show s.nw + cellF _ _ _ _ ≤ _; omega
theorem endk_no (hn : X.all.length ≤ 12) (h : (((s.dn ≠ shlI 1 (X.all.length : Int) - 1 ∨ s.bk ≠ (X.v.brs.length : Int)) ∨ cellF X.p.tn X.p.time s.pl X.v.en < 0) ∨ cellF X.p.dn X.p.dist s.pl X.v.en < 0) ∨ s.nw + cellF X.p.tn X.p.time s.pl X.v.en > X.v.hi) : ¬ X.EndK s := fun e => by
  rw [full_is hn] at h
  have h1 := e.dn; have h2 := e.bk
  have h3 : 0 ≤ cellF X.p.tn X.p.time s.pl X.v.en := e.tc
  have h4 : 0 ≤ cellF X.p.dn X.p.dist s.pl X.v.en := e.dc
  have h5 : s.nw + cellF X.p.tn X.p.time s.pl X.v.en ≤ X.v.hi := e.hi
  omega
theorem end_keep {k : Int} (h : ¬ (B.wlA.isNone = true ∨ k < c)) : BLe B c k := ⟨by cases hq : B.wlA.isNone with
  | false => rfl
  | true => exact absurd (.inl hq) h, by have := fun q => h (.inr q); omega⟩
theorem end_take {k : Int} (hx : xv.wlA.isNone = false) (h : B.wlA.isNone = true ∨ k < c) : ∀ j, BLe B c j → BLe xv k j := fun j hj => by
  refine ⟨hx, ?_⟩
  rcases h with h | h
  · rw [hj.1] at h; cases h
  · have := hj.2; omega
theorem visO_no {i : Int} (h : (cellF X.p.tn X.p.time s.pl (stopD X.p (gt X.all i)).pl < 0 ∨ cellF X.p.dn X.p.dist s.pl (stopD X.p (gt X.all i)).pl < 0) ∨ ¬ (startF (stopD X.p (gt X.all i)).sws (s.nw + cellF X.p.tn X.p.time s.pl (stopD X.p (gt X.all i)).pl)).2 = true) : ¬ X.visOk s i := fun o => by
  obtain ⟨_, _, o3, o4, o5⟩ := o
  have o3 : 0 ≤ cellF X.p.tn X.p.time s.pl (stopD X.p (gt X.all i)).pl := o3
  have o4 : 0 ≤ cellF X.p.dn X.p.dist s.pl (stopD X.p (gt X.all i)).pl := o4
  rcases h with h | h
  · omega
  · exact h o5
theorem visO_yes {i : Int} (h1 : bt s.dn i = false) (h2 : (gt X.all i).kind = 3 → bt s.dn (i - 1) = true) (h : ¬ ((cellF X.p.tn X.p.time s.pl (stopD X.p (gt X.all i)).pl < 0 ∨ cellF X.p.dn X.p.dist s.pl (stopD X.p (gt X.all i)).pl < 0) ∨ ¬ (startF (stopD X.p (gt X.all i)).sws (s.nw + cellF X.p.tn X.p.time s.pl (stopD X.p (gt X.all i)).pl)).2 = true)) : X.visOk s i :=
  ⟨h1, h2, by show 0 ≤ cellF _ _ _ _; omega, by show 0 ≤ cellF _ _ _ _; omega, Classical.not_not.1 (fun k => h (.inr k))⟩
theorem SrS.pool (h : SrS X f M B c P' M2 B2 c2 P2 t) (hs : ∀ v ∈ P, v ∈ P') : SrS X f M B c P M2 B2 c2 P2 t := ⟨fun v hv => h.sub v (hs v hv), h.new, h.le, h.cnt⟩
theorem cnt_all {y : XS} {A : Option Addr} {cc : Nat} {tb : Int} (hx : XI X f s xv) (hS : SrS X (f - 1) (mset (mins M ⟨s.dn, s.bk, s.pl⟩ dLB) ⟨s.dn, s.bk, s.pl⟩ ⟨lbs M ⟨s.dn, s.bk, s.pl⟩ ++ [y], A, cc⟩) B c P M' B' c' P' t)
    (hbd : ∀ κ, ((lbs M κ).length : Int) ≤ tb) : ∀ κ, ((lbs M' κ).length : Int) ≤ tb + 1 + t := fun κ => by
  have h1 := (srs_add (M := M) (B := B) (c := c) (P := P) (y := y) (A := A) (cc := cc) hx).cnt κ
  have h2 := hS.cnt κ
  have h3 := hbd κ
  omega
theorem t_room {T T2 i : Int} {n tb : Int} (ht : tb + T2 ≤ 1000000000000) (h : 1 + (T + n * T) ≤ T2) (h0 : 0 ≤ T) (hi : i + 1 ≤ n) : tb + 1 + (T + i * T) + T ≤ 1000000000000 := by
  have h1 : (i + 1) * T ≤ n * T := Int.mul_le_mul_of_nonneg_right hi h0
  rw [Int.add_mul] at h1; omega
theorem bit_1 {d i : Int} (hd : 0 ≤ d) (hd2 : d < 4611686018427387904) (h0 : 0 ≤ i) (h1 : i ≤ 64) (h : bnd .i64 (shrI d i) 1 ≠ 0) : bt d i = true := by
  rcases Bool.eq_false_or_eq_true (bt d i) with k | k
  · exact k
  · exact absurd ((bit_0 hd hd2 h0 h1).2 k) h
theorem visO_not {i : Int} (hd : 0 ≤ s.dn) (hd2 : s.dn < 4611686018427387904) (h0 : 0 ≤ i) (h1 : i ≤ 60) (hdel : (gt X.all i).kind = 3 → 1 ≤ i)
    (h : ¬ (bnd .i64 (shrI s.dn i) 1 = 0 ∧ ((gt X.all i).kind ≠ 3 ∨ bnd .i64 (shrI s.dn (i - 1)) 1 ≠ 0))) : ¬ X.visOk s i := fun o => by
  obtain ⟨o1, o2, _⟩ := o
  refine h ⟨(bit_0 hd hd2 h0 (by omega)).2 o1, ?_⟩
  by_cases hk : (gt X.all i).kind = 3
  · right; intro e
    have := (bit_0 hd hd2 (by have := hdel hk; omega) (by omega)).1 e
    rw [o2 hk] at this; cases this
  · exact .inl hk
end
section
variable {V : Env} {P : Program} {Q : Exit → Act → World → Prop} {N : Nat} {L : List (Nat × Value)} {H R : List Res} {S : Nat → Prop} {wf : World} {c : Code}
theorem SC.outVLm {e : Nat} {l : List VL} {x : VL} (hx : x ∈ l) (hp : PickL H [nestVL e l] R) (h : SC V P Q N c ⟨L, rw_ eVis e (.slice x.wlA x.vl.length x.wlc) x.vl :: R, S, wf⟩) : SC V P Q N c ⟨L, H, S, wf⟩ := fun a w hs hw => by
  have hw1 := hw.perm hp.perm
  obtain ⟨n, hn, he⟩ := List.getElem_of_mem hx
  have e2 : gt l (n : Int) = x := gt_some (by simp [hn, he])
  have h0 : (0 : Int) ≤ n := by omega
  have h1 : (n : Int) < l.length := by omega
  have hm := big_mid (f := resVL e) (a := l.take ((n : Int)).toNat) (b := l.drop ((n : Int) + 1).toNat) (x := gt l n)
  rw [← split_at h0 h1, e2] at hm
  have h3 : WW V S wf ([nestVL e (l.take ((n : Int)).toNat ++ l.drop ((n : Int) + 1).toNat)] ++ (rw_ eVis e (.slice x.wlA x.vl.length x.wlc) x.vl :: R)) w := by
    refine WW.relist (A := [nestVL e l]) (B := [nestVL e (l.take ((n : Int)).toNat ++ l.drop ((n : Int) + 1).toNat), rw_ eVis e (.slice x.wlA x.vl.length x.wlc) x.vl]) hw1 ?_ (fun hA r hr => ?_)
    · simp only [feet_cons, feet_nil, List.append_nil]
      exact List.perm_append_comm.trans hm.symm
    · have hA := hA (nestVL e l) (by simp)
      rcases List.mem_cons.1 hr with rfl | hr
      · intro y hy
        refine hA y ?_
        rcases List.mem_append.1 hy with hy | hy
        · exact List.mem_of_mem_take hy
        · exact List.mem_of_mem_drop hy
      · simp only [List.mem_singleton] at hr; subst hr
        exact (hA x hx).1
  exact h a w hs (WW.drop (C := [nestVL e (l.take ((n : Int)).toNat ++ l.drop ((n : Int) + 1).toNat)]) h3)
end
end Go.SX
