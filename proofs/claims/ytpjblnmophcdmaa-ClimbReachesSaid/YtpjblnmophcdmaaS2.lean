import Derived.Test.YtpjblnmophcdmaaS1
set_option linter.unusedVariables false
set_option linter.unusedSimpArgs false
set_option linter.unusedSectionVars false
namespace Go.SX
open Go Go.RowKit
open Go.ChangeMaps (setBlock)
structure MB where
  mb : Nat
  mm : List (Int × Int)
  deriving Inhabited
def eMB : Enc MB where
  sz := 1
  enc x := [.map (some x.mb)]
  len _ := rfl
  one x u hu := by simp at hu; subst hu; rfl
  pos := by decide
def resM (x : MB) : Res := mp (Value.int .i64) (Value.int .i64) x.mb x.mm
def nestM (l : List MB) : Res := big resM l
def FzM (S : Nat → Prop) (wf : World) (b : Nat) (m : List (Int × Int)) : Prop := S b ∧ ∃ es clock, wf.heap[b]? = some (.map es clock) ∧ MC (Value.int .i64) (Value.int .i64) es clock m
def MPF (S : Nat → Prop) (wf : World) (l : List MB) : Prop := ∀ i : Int, 0 ≤ i → i < l.length → FzM S wf (gt l i).mb (gt l i).mm
theorem FzM.ext {S S' : Nat → Prop} {wf wf' : World} {b : Nat} {m : List (Int × Int)} (h : FzM S wf b m) (hx : Ext S wf S' wf') : FzM S' wf' b m := by
  obtain ⟨h1, es, ck, h2, h3⟩ := h
  exact ⟨(hx b h1).1, es, ck, by rw [(hx b h1).2.2]; exact h2, h3⟩
theorem MPF.ext {S S' : Nat → Prop} {wf wf' : World} {l : List MB} (h : MPF S wf l) (hx : Ext S wf S' wf') : MPF S' wf' l := fun i h0 h1 => (h i h0 h1).ext hx
theorem MPF.of {l : List MB} {S : Nat → Prop} {w : World} (h : (nestM l).holds w) (hS : ∀ b ∈ (nestM l).foot, S b) : MPF S w l := fun i h0 h1 => by
  have hm := gtM h0 h1
  obtain ⟨es, ck, e1, e2⟩ := h _ hm
  exact ⟨hS _ (big_foot (f := resM) hm _ (List.mem_singleton.2 rfl)), es, ck, e1, e2⟩
section
variable {V : Env} {P : Program} {Q : Exit → Act → World → Prop} {ops : Array Oper} {N : Nat} {L : List (Nat × Value)} {H R : List Res} {S : Nat → Prop} {wf : World}
theorem MPF.lent {l : List MB} {wf1 : World} (hR : ∀ r ∈ R, r.holds wf1) (i : Nat) (hi : R[i]? = some (nestM l)) : MPF (fun b => S b ∨ b ∈ feet R) wf1 l := MPF.of (hR _ (List.mem_of_getElem? hi)) (fun b hb => .inr (feet_of i hi hb))
theorem MPF.lend {l : List MB} {C0 R1 : List Res} {w : World} (hw : WW V S wf (C0 ++ (R1 ++ R)) w) (i : Nat) (hi : R1[i]? = some (nestM l)) : MPF (fun b => S b ∨ b ∈ feet R1) w l :=
  MPF.of (hw.has _ (List.mem_append_right _ (List.mem_append_left _ (List.mem_of_getElem? hi)))) (fun b hb => .inr (feet_of i hi hb))
def MapAt (w : World) (b : Nat) (m : List (Int × Int)) : Prop := ∃ es clock, w.heap[b]? = some (.map es clock) ∧ MC (Value.int .i64) (Value.int .i64) es clock m
theorem FzM.at {b : Nat} {m : List (Int × Int)} (h : FzM S wf b m) : ∀ w, Fz S wf w → MapAt w b m := fun w hw => by
  obtain ⟨h1, es, ck, h2, h3⟩ := h
  exact ⟨es, ck, by rw [(hw b h1).2]; exact h2, h3⟩
theorem MapAt.d {b : Nat} {m : List (Int × Int)} {X : World → Prop} (h : ∀ w, Fz S wf w → MapAt w b m) : ∀ w, (Fz S wf w ∧ X w) → MapAt w b m := fun w hw => h w hw.1
variable {o : Oper} {C : World → Prop} {K : St → Prop} {m left : List (Int × Int)} {b r : Nat} {cur : Option (Int × Int)}
theorem ev_lkpF {t k e : TypeId} {a y : Operand} {x : Int} (E : KE P k Int) (hE : E.f = Value.int .i64) (ho : o.op = .lookup t a y false) (hu : P.underlying t = some (.map k e)) (hz : (P.info? e).bind (fun i => i.zero) = some (.int .i64 0))
    (ha : lk L a = some (.map (some b))) (hy : lk L y = some (.int .i64 x)) (hm : ∀ w, C w → MapAt w b m) : Ev P C L o (.int .i64 (mget m x 0)) :=
  ⟨by simp [ho, noSel], by simp [ho, Op.operands, known_of ha, known_of hy], fun w hw => by
    obtain ⟨es, clock, hb, hM⟩ := hm w hw
    obtain ⟨inf, hi1, hi2⟩ := Option.bind_eq_some_iff.1 hz
    have hzr : (zeroValue e).run P w = .ok (.int .i64 0) w := by simp [zeroValue, typeInfo, hi1, hi2]
    rw [← hE] at hM hy
    have hy' : lk L y = some (E.f x) := by rw [hE] at hy ⊢; exact hy
    rcases hM.find w x with ⟨h1, h2⟩ | ⟨j, e0, u, h1, h2, h3, h4, h5, h6, h7⟩
    · have h1' := h1
      simp [execOp, ho, ev_of ha, ev_of hy', Instr.lookup, run_underlying hu, MapKept.run_getObj_map hb, E.check, h1, hzr, Result.andThen, mget_none h2]
    · simp [execOp, ho, ev_of ha, ev_of hy', Instr.lookup, run_underlying hu, MapKept.run_getObj_map hb, E.check, h1, hzr, Result.andThen, h7]
      rw [h5, hE]⟩
theorem ev_lkpokF {t k e : TypeId} {a y : Operand} {x : Int} (E : KE P k Int) (hE : E.f = Value.int .i64) (ho : o.op = .lookup t a y true) (hu : P.underlying t = some (.map k e)) (hz : (P.info? e).bind (fun i => i.zero) = some (.int .i64 0))
    (ha : lk L a = some (.map (some b))) (hy : lk L y = some (.int .i64 x)) (hm : ∀ w, C w → MapAt w b m) : Ev P C L o (.tuple #[.int .i64 (mget m x 0), .bool (mhas m x)]) :=
  ⟨by simp [ho, noSel], by simp [ho, Op.operands, known_of ha, known_of hy], fun w hw => by
    obtain ⟨es, clock, hb, hM⟩ := hm w hw
    obtain ⟨inf, hi1, hi2⟩ := Option.bind_eq_some_iff.1 hz
    have hzr : (zeroValue e).run P w = .ok (.int .i64 0) w := by simp [zeroValue, typeInfo, hi1, hi2]
    rw [← hE] at hM hy
    have hy' : lk L y = some (E.f x) := by rw [hE] at hy ⊢; exact hy
    rcases hM.find w x with ⟨h1, h2⟩ | ⟨j, e0, u, h1, h2, h3, h4, h5, h6, h7⟩
    · simp [execOp, ho, ev_of ha, ev_of hy', Instr.lookup, run_underlying hu, MapKept.run_getObj_map hb, E.check, h1, hzr, Result.andThen, mget_none h2, h2]
    · simp [execOp, ho, ev_of ha, ev_of hy', Instr.lookup, run_underlying hu, MapKept.run_getObj_map hb, E.check, h1, hzr, Result.andThen, h7, h6]
      rw [h5, hE]⟩
def esOf (wf : World) (b : Nat) : Array MapEntry × Nat := match wf.heap[b]? with
  | some (.map es c) => (es, c)
  | _ => (#[], 0)
theorem FzM.es {b : Nat} {m : List (Int × Int)} (h : FzM S wf b m) : wf.heap[b]? = some (.map (esOf wf b).1 (esOf wf b).2) ∧ MC (Value.int .i64) (Value.int .i64) (esOf wf b).1 (esOf wf b).2 m := by
  obtain ⟨h1, es, ck, h2, h3⟩ := h
  have : esOf wf b = (es, ck) := by unfold esOf; rw [h2]
  rw [this]; exact ⟨h2, h3⟩
def itM (r b : Nat) (wf : World) (m left : List (Int × Int)) (cur : Option (Int × Int)) : Res where
  foot := [r]
  holds w := ∃ since seen c0, w.heap[r]? = some (.mapIter (some b) since seen c0) ∧ (∀ e ∈ (esOf wf b).1.toList, e.born < since) ∧ since ≤ c0 ∧ since ≤ (esOf wf b).2 ∧
    (leftOf (esOf wf b).1 seen).toList.map (fun e => (e.key, e.val)) = left.map (fun p => (Value.int .i64 p.1, Value.int .i64 p.2)) ∧ (∀ p ∈ left, p ∈ m) ∧
    ∀ p, cur = some p → ∃ (s' : Array Nat) (e : MapEntry), e ∈ (esOf wf b).1.toList ∧ seen = s'.push e.born ∧ c0 = (esOf wf b).2 ∧ e.key = Value.int .i64 p.1 ∧ e.val = Value.int .i64 p.2
  stable w w' h hw := by rw [h r (by simp)]; exact hw
  lt w h b' hb := by
    obtain ⟨_, _, _, h1, _⟩ := h
    simp at hb; subst hb
    exact lt_of_some h1
theorem st_rangeF {t k e : TypeId} {a : Operand} {d : Nat} (hF : FzM S wf b m) (ho : o.op = .range t a) (hg : o.guard = none) (hd : o.dst = some d) (hdN : Nat.blt d N = true) (hu : P.underlying t = some (.map k e))
    (ha : lk L a = some (.map (some b)))
    (kx : ∀ r, K ⟨(d, .pointer (some ⟨r, 0, none⟩)) :: L, itM r b wf m m none :: H, S, wf⟩) : OpStep V P Q ops N o ⟨L, H, S, wf⟩ K :=
  .act hg hd hdN (by simp [ho, noSel]) (by simp [ho, Op.operands, known_of ha]) fun w hw => by
    obtain ⟨hb0, hM⟩ := hF.es
    have hb : w.heap[b]? = some (.map (esOf wf b).1 (esOf wf b).2) := by rw [(hw.fz b hF.1).2]; exact hb0
    have hlt := lt_of_some hb
    refine ⟨.pointer (some ⟨w.heap.size, 0, none⟩), w.alloc (.mapIter (some b) (esOf wf b).2 #[] (esOf wf b).2), itM w.heap.size b wf m m none :: H, ?_, ?_, kx _⟩
    · simp [execOp, ho, ev_of ha, Instr.range, run_underlying hu, MapKept.run_getObj_map hb, newObj, Sem.run, Result.andThen]
    · refine WW.change (C := []) (R := H) (C' := [itM w.heap.size b wf m m none]) hw (fun b' hb' _ => Below.heap_alloc w _ b' hb') (by simp) ?_ (by simp [itM]) (fun b' hb' => .inr (by simp [itM] at hb'; omega)) rfl rfl rfl
      intro r hr
      simp only [List.mem_singleton] at hr
      subst hr
      refine ⟨(esOf wf b).2, #[], (esOf wf b).2, heap_alloc_new w _, hM.old, Nat.le_refl _, Nat.le_refl _, ?_, fun p hp => hp, fun p hp => by cases hp⟩
      have : leftOf (esOf wf b).1 #[] = (esOf wf b).1 := by
        unfold leftOf
        exact Array.filter_eq_self.2 (fun x _ => by simp)
      rw [this]; exact hM.kv
theorem st_nextF {a : Operand} {d : Nat} (hF : FzM S wf b m) (ho : o.op = .next a false) (hg : o.guard = none) (hd : o.dst = some d) (hdN : Nat.blt d N = true)
    (ha : lk L a = some (.pointer (some ⟨r, 0, none⟩))) (hp : Pick H (itM r b wf m left cur) R)
    (k0 : left = [] → K ⟨(d, .tuple #[.bool false]) :: L, itM r b wf m left cur :: R, S, wf⟩)
    (k1 : ∀ x v, (x, v) ∈ left → (x, v) ∈ m → K ⟨(d, .tuple #[.bool true, .int .i64 x, .int .i64 v]) :: L, itM r b wf m (left.filter (fun p => decide (p.1 ≠ x))) (some (x, v)) :: R, S, wf⟩) : OpStep V P Q ops N o ⟨L, H, S, wf⟩ K :=
  .act hg hd hdN (by simp [ho, noSel]) (by simp [ho, Op.operands, known_of ha]) fun w hw => by
    have hw' := hw.perm hp.perm
    obtain ⟨hb0, hM⟩ := hF.es
    have hb : w.heap[b]? = some (.map (esOf wf b).1 (esOf wf b).2) := by rw [(hw.fz b hF.1).2]; exact hb0
    obtain ⟨since, seen, c0, hr, hold, h1, h2, hleft, hsub, hcur⟩ := hw'.has _ (List.mem_cons_self ..)
    have hbr : b ≠ r := fun e => by subst e; rw [hb] at hr; cases hr
    generalize hes : (esOf wf b).1 = es at *
    generalize hck : (esOf wf b).2 = clock at *
    rcases run_next_at (P := P) w o.type r b since c0 seen es clock hr hb hold h1 with ⟨h3, h4⟩ | ⟨e, he, w1, hw1, h4⟩
    · have hl : left = [] := by
        have h5 := congrArg List.length hleft
        simp only [List.length_map, Array.length_toList, h3] at h5
        exact List.length_eq_zero_iff.1 h5.symm
      exact ⟨_, w, _, by simp [execOp, ho, ev_of ha, h4], hw', k0 hl⟩
    · obtain ⟨j, hj⟩ := List.getElem?_of_mem he
      have hkv := congrArg (fun l => l[j]?) hleft
      simp only [List.getElem?_map, hj, Option.map_some] at hkv
      cases hlj : left[j]? with
      | none => rw [hlj] at hkv; cases hkv
      | some p =>
        rw [hlj] at hkv
        simp only [Option.map_some, Option.some.injEq, Prod.mk.injEq] at hkv
        obtain ⟨hk1, hk2⟩ := hkv
        have hes2 := left_sub he
        have hw1' : WW V S wf (itM r b wf m left cur :: R) w1 := by
          rcases hw1 with rfl | rfl
          · exact hw'
          · exact hw'.drew
        have hr1 : w1.heap[r]? = some (.mapIter (some b) since seen c0) := by rcases hw1 with rfl | rfl <;> exact hr
        have hpl : (p.1, p.2) ∈ left := List.mem_of_getElem? hlj
        have hpm : (p.1, p.2) ∈ m := hsub _ hpl
        refine ⟨.tuple #[.bool true, .int .i64 p.1, .int .i64 p.2], setBlock w1 r (.mapIter (some b) since (seen.push e.born) clock), itM r b wf m (left.filter (fun q => decide (q.1 ≠ p.1))) (some (p.1, p.2)) :: R, ?_, ?_, k1 p.1 p.2 (List.mem_of_getElem? hlj) hpm⟩
        · rw [hk1, hk2] at h4
          simp [execOp, ho, ev_of ha, h4]
        · refine WW.change (C := [itM r b wf m left cur]) (R := R) (C' := [itM r b wf m (left.filter (fun q => decide (q.1 ≠ p.1))) (some (p.1, p.2))]) hw1' (fun b' _ hn => heap_setBlock_ne _ _ _ _ (fun e => hn (by simp [itM, e]))) (by simp [setBlock]) ?_ (by simp [itM]) (fun b' hb' => .inl (by simpa [itM] using hb')) rfl rfl rfl
          intro q hq
          simp only [List.mem_singleton] at hq
          subst hq
          refine ⟨since, seen.push e.born, clock, heap_setBlock_at hr1, by rw [hes]; exact hold, h2, by rw [hck]; exact h2, ?_, fun q hq => hsub q (List.mem_filter.1 hq).1, fun q hq => ?_⟩
          · rw [hes, left_push]
            refine filter_kv (kf := Value.int .i64) (vf := Value.int .i64) _ _ hleft fun e1 he1 y hy => ?_
            have hes1 := left_sub he1
            constructor
            · intro hne hyx
              subst hyx
              have hkk : (es.toList.map MapEntry.key).Nodup := by
                have h6 : es.toList.map MapEntry.key = (m.map Prod.fst).map (Value.int .i64) := by
                  have := congrArg (List.map Prod.fst) hM.kv
                  simpa [List.map_map, Function.comp_def] using this
                rw [h6]
                exact nodup_map_inj (fun x y h => by injection h) hM.nd
              exact hne (congrArg MapEntry.born (nodup_inj hkk hes1 hes2 (hy.trans hk1.symm)))
            · intro hne hbb
              have := nodup_inj hM.bn hes1 hes2 hbb
              subst this
              exact hne (by have := hy.symm.trans hk1; injection this)
          · cases hq
            exact ⟨seen, e, by rw [hes]; exact hes2, rfl, hck.symm, hk1, hk2⟩
theorem ev_entryF {a : Operand} {x v : Int} (hF : FzM S wf b m) (ho : o.op = .entry a) (ha : lk L a = some (.pointer (some ⟨r, 0, none⟩))) (i : Nat) (hi : H[i]? = some (itM r b wf m left (some (x, v)))) : Ev P (WW V S wf H) L o (.tuple #[.int .i64 x, .int .i64 v]) :=
  ⟨by simp [ho, noSel], by simp [ho, Op.operands, known_of ha], fun w hw => by
    obtain ⟨hb0, hM⟩ := hF.es
    have hb : w.heap[b]? = some (.map (esOf wf b).1 (esOf wf b).2) := by rw [(hw.fz b hF.1).2]; exact hb0
    obtain ⟨since, seen, c0, hr, hold, h1, h2, hleft, hsub, hcur⟩ := hw.has _ (List.mem_of_getElem? hi)
    obtain ⟨s', e, he, rfl, rfl, hk, hv⟩ := hcur _ rfl
    have := run_entry_at (P := P) w r b since s' (esOf wf b).1 (esOf wf b).2 e hr hb he hM.bn
    simp [execOp, ho, ev_of ha, this, hk, hv]⟩
theorem flat_setM {l : List MB} {i : Nat} {x : MB} (hx : ∀ y, l[i]? = some y → x.mb = y.mb) : flat eMB (l.set i x) = flat eMB l := by
  induction l generalizing i with
  | nil => rfl
  | cons a l ih =>
    cases i with
    | zero =>
      have := hx a rfl
      rw [List.set_cons_zero, flat_cons, flat_cons]
      show [Value.map (some x.mb)] ++ _ = [Value.map (some a.mb)] ++ _
      rw [this]
    | succ i => rw [List.set_cons_succ, flat_cons, flat_cons, ih (fun y hy => hx y hy)]
theorem WW.outM {l : List MB} {i : Int} (h0 : 0 ≤ i) (h1 : i < (l.length : Int)) {w : World} (h : WW V S wf (nestM l :: R) w) : WW V S wf (mp (Value.int .i64) (Value.int .i64) (gt l i).mb (gt l i).mm :: nestM (l.take i.toNat ++ l.drop (i + 1).toNat) :: R) w := by
  refine WW.relist (A := [nestM l]) (B := [mp (Value.int .i64) (Value.int .i64) (gt l i).mb (gt l i).mm, nestM (l.take i.toNat ++ l.drop (i + 1).toNat)]) h ?_ (fun hA r hr => ?_)
  · simp only [feet_cons, feet_nil, List.append_nil]
    have hm := big_mid (f := resM) (a := l.take i.toNat) (b := l.drop (i + 1).toNat) (x := gt l i)
    rw [← split_at h0 h1] at hm
    exact hm.symm
  · have hA := hA (nestM l) (by simp)
    rcases List.mem_cons.1 hr with rfl | hr
    · exact hA _ (gtM h0 h1)
    · simp only [List.mem_singleton] at hr; subst hr
      intro x hx
      refine hA x ?_
      rw [split_at h0 h1]
      rcases List.mem_append.1 hx with hx | hx
      · exact List.mem_append_left _ hx
      · exact List.mem_append_right _ (List.mem_cons_of_mem _ hx)
theorem SC.outM {l : List MB} (i : Int) (h0 : 0 ≤ i) (h1 : i < (l.length : Int)) (hp : Pick H (nestM l) R) {c : Code}
    (h : SC V P Q N c ⟨L, mp (Value.int .i64) (Value.int .i64) (gt l i).mb (gt l i).mm :: nestM (l.take i.toNat ++ l.drop (i + 1).toNat) :: R, S, wf⟩) : SC V P Q N c ⟨L, H, S, wf⟩ := fun a w hs hw => h a w hs (WW.outM h0 h1 (hw.perm hp.perm))
theorem WW.inM {l : List MB} {i : Int} {e : Nat} {v : Value} {m : List (Int × Int)} (h0 : 0 ≤ i) (h1 : i < (l.length : Int)) {w : World} (h : WW V S wf (mp (Value.int .i64) (Value.int .i64) (gt l i).mb m :: nestM (l.take i.toNat ++ l.drop (i + 1).toNat) :: rw_ eMB e v l :: R) w) :
    WW V S wf (nestM (l.set i.toNat ⟨(gt l i).mb, m⟩) :: rw_ eMB e v (l.set i.toNat ⟨(gt l i).mb, m⟩) :: R) w := by
  have e1 : rw_ eMB e v (l.set i.toNat ⟨(gt l i).mb, m⟩) = rw_ eMB e v l := by
    unfold rw_
    rw [flat_setM (fun y hy => by rw [gt_at h0 h1] at hy; injection hy with hy; rw [hy]), List.length_set]
  rw [e1]
  refine WW.relist (A := [mp (Value.int .i64) (Value.int .i64) (gt l i).mb m, nestM (l.take i.toNat ++ l.drop (i + 1).toNat)]) (B := [nestM (l.set i.toNat ⟨(gt l i).mb, m⟩)]) h ?_ (fun hA r hr => ?_)
  · simp only [feet_cons, feet_nil, List.append_nil]
    have hm := big_mid (f := resM) (a := l.take i.toNat) (b := l.drop (i + 1).toNat) (x := ⟨(gt l i).mb, m⟩)
    rw [← set_at h0 h1] at hm
    exact hm
  · simp only [List.mem_singleton] at hr; subst hr
    intro y hy
    rw [set_at h0 h1] at hy
    have k1 := hA (mp (Value.int .i64) (Value.int .i64) (gt l i).mb m) (by simp)
    have k2 := hA (nestM (l.take i.toNat ++ l.drop (i + 1).toNat)) (by simp)
    rcases List.mem_append.1 hy with hy | hy
    · exact k2 y (List.mem_append_left _ hy)
    · rcases List.mem_cons.1 hy with rfl | hy
      · exact k1
      · exact k2 y (List.mem_append_right _ hy)
theorem SQ.inM {Q : Act → World → Prop} {l : List MB} {e : Nat} {v : Value} {m : List (Int × Int)} (i : Int) (h0 : 0 ≤ i) (h1 : i < (l.length : Int)) (hp : PickL H [mp (Value.int .i64) (Value.int .i64) (gt l i).mb m, nestM (l.take i.toNat ++ l.drop (i + 1).toNat), rw_ eMB e v l] R)
    (h : SQ V Q N ⟨L, nestM (l.set i.toNat ⟨(gt l i).mb, m⟩) :: rw_ eMB e v (l.set i.toNat ⟨(gt l i).mb, m⟩) :: R, S, wf⟩) : SQ V Q N ⟨L, H, S, wf⟩ := fun a w hs hw => h a w hs (WW.inM h0 h1 (hw.perm hp.perm))
theorem SQ.snocM {Q : Act → World → Prop} {l : List MB} {b : Nat} {m : List (Int × Int)} (hp : PickL H [mp (Value.int .i64) (Value.int .i64) b m, nestM l] R) (h : SQ V Q N ⟨L, nestM (l ++ [MB.mk b m]) :: R, S, wf⟩) : SQ V Q N ⟨L, H, S, wf⟩ := fun a w hs hw => by
  refine h a w hs (WW.relist (A := [mp (Value.int .i64) (Value.int .i64) b m, nestM l]) (B := [nestM (l ++ [MB.mk b m])]) (hw.perm hp.perm) ?_ (fun hA r hr => ?_))
  · simp only [feet_cons, feet_nil, List.append_nil]
    have hm := big_mid (f := resM) (a := l) (b := []) (x := MB.mk b m)
    rw [List.append_nil] at hm; exact hm
  · simp only [List.mem_singleton] at hr; subst hr
    intro y hy
    rcases List.mem_append.1 hy with hy | hy
    · exact hA (nestM l) (by simp) y hy
    · simp only [List.mem_singleton] at hy; subst hy
      exact hA (mp (Value.int .i64) (Value.int .i64) b m) (by simp)
theorem SC.nestM0 {c : Code} (h : SC V P Q N c ⟨L, nestM [] :: H, S, wf⟩) : SC V P Q N c ⟨L, H, S, wf⟩ := fun a w hs hw => h a w hs (WW.swap (A := []) hw rfl (fun _ x hx => by cases hx))
end
end Go.SX
namespace Go.SX
structure GS where
  go : List (List (Int × Int))
  gi : List (List (Int × Int))
  gl : List LK
  gg : List Bool
def mmL (l : List MB) : List (List (Int × Int)) := l.map MB.mm
theorem gt_mmL {l : List MB} {i : Int} : gt (mmL l) i = (gt l i).mm := gt_mapd MB.mm rfl l i
theorem mmL_set {l : List MB} {i : Nat} {x : MB} : mmL (l.set i x) = (mmL l).set i x.mm := by unfold mmL; rw [List.map_set]
theorem mmL_len {l : List MB} : (mmL l).length = l.length := List.length_map _
def linkG (G : GS) (k : LK) : GS := if mhas (gt G.go k.lf) k.lt = true ∧ (gt G.gl (mget (gt G.go k.lf) k.lt 0)).lw ≤ k.lw then G
  else ⟨G.go.set k.lf.toNat (mset (gt G.go k.lf) k.lt (G.gl.length : Int)), G.gi.set k.lt.toNat (mset (gt G.gi k.lt) k.lf (G.gl.length : Int)), G.gl ++ [k], G.gg⟩
structure GOK (n : Int) (G : GS) : Prop where
  n1 : 1 ≤ n ∧ n ≤ 32
  lo : (G.go.length : Int) = n
  li : (G.gi.length : Int) = n
  lg : (G.gg.length : Int) = n
  lk : ∀ j : Int, 0 ≤ j → j < G.gl.length → 0 ≤ (gt G.gl j).lf ∧ (gt G.gl j).lf < n ∧ 0 ≤ (gt G.gl j).lt ∧ (gt G.gl j).lt < n ∧ 0 ≤ (gt G.gl j).lw ∧ (gt G.gl j).lw ≤ 10000000000000000
  om : ∀ p : Int, ((gt G.go p).map Prod.fst).Nodup ∧ ∀ x, mhas (gt G.go p) x = true → 0 ≤ x ∧ x < n ∧ 0 ≤ mget (gt G.go p) x 0 ∧ mget (gt G.go p) x 0 < G.gl.length
  im : ∀ p : Int, ((gt G.gi p).map Prod.fst).Nodup ∧ ∀ x, mhas (gt G.gi p) x = true → 0 ≤ x ∧ x < n ∧ 0 ≤ mget (gt G.gi p) x 0 ∧ mget (gt G.gi p) x 0 < G.gl.length
def srtL (l : List Int) : List Int := l.mergeSort (fun x y => decide (x ≤ y))
def srtK (m : List (Int × Int)) : List Int := srtL (m.map Prod.fst)
theorem srtL_perm (l : List Int) : (srtL l).Perm l := List.mergeSort_perm _ _
theorem srtL_of {l l' : List Int} (h : l.Perm l') : srtL l = srtL l' := by
  have hs : ∀ l : List Int, List.Pairwise (fun a b : Int => decide (a ≤ b) = true) (srtL l) := fun l => List.pairwise_mergeSort (fun a b c h1 h2 => by simp at *; omega) (fun a b => by simp; omega) l
  exact List.Perm.eq_of_pairwise (fun a b _ _ h1 h2 => by simp at h1 h2; omega) (hs l) (hs l') ((srtL_perm l).trans (h.trans (srtL_perm l').symm))
theorem mhas_keys {m : List (Int × Int)} {x : Int} : mhas m x = true ↔ x ∈ m.map Prod.fst := by
  rw [mhas_iff, List.mem_map]
  exact ⟨fun ⟨v, h⟩ => ⟨_, h, rfl⟩, fun ⟨p, h, e⟩ => ⟨p.2, by rw [← e]; exact h⟩⟩
theorem mem_srtK {m : List (Int × Int)} {x : Int} : x ∈ srtK m ↔ mhas m x = true := by
  unfold srtK; rw [(srtL_perm _).mem_iff, mhas_keys]
theorem mhas_filter {m : List (Int × Int)} {x y : Int} : mhas (m.filter (fun p => decide (p.1 ≠ x))) y = (mhas m y && decide (x ≠ y)) := mhas_del
theorem rng_perm {m : List (Int × Int)} {x v : Int} (hn : (m.map Prod.fst).Nodup) (h : (x, v) ∈ m) : (m.map Prod.fst).Perm (x :: (m.filter (fun p => decide (p.1 ≠ x))).map Prod.fst) := by
  induction m with
  | nil => cases h
  | cons p m ih =>
    rw [List.map_cons, List.nodup_cons] at hn
    by_cases hp : p.1 = x
    · have hx : mhas m x = false := by
        rw [Bool.eq_false_iff]; intro q; rw [mhas_keys] at q; rw [← hp] at q; exact hn.1 q
      rw [List.filter_cons_of_neg (by simp [hp]), show m.filter (fun p => decide (p.1 ≠ x)) = m from del_none hx, List.map_cons, hp]
    · rw [List.filter_cons_of_pos (by simp [hp]), List.map_cons, List.map_cons]
      have hm : (x, v) ∈ m := by
        rcases List.mem_cons.1 h with e | e
        · exact absurd (by rw [← e]) hp
        · exact e
      exact ((ih hn.2 hm).cons p.1).trans (List.Perm.swap _ _ _)
theorem rng_nd {m : List (Int × Int)} {x : Int} (hn : (m.map Prod.fst).Nodup) : ((m.filter (fun p => decide (p.1 ≠ x))).map Prod.fst).Nodup := nd_del hn
theorem keys_step {m Lf : List (Int × Int)} {X : List Int} {x v : Int} (h : (X ++ Lf.map Prod.fst).Perm (m.map Prod.fst)) (hn : (Lf.map Prod.fst).Nodup) (hx : (x, v) ∈ Lf) : ((X ++ [x]) ++ (Lf.filter (fun p => decide (p.1 ≠ x))).map Prod.fst).Perm (m.map Prod.fst) := by
  refine List.Perm.trans ?_ h
  rw [List.append_assoc]
  exact (rng_perm hn hx).symm.append_left X
theorem nodup_le {n : Int} {l : List Int} (hn : l.Nodup) (h : ∀ x ∈ l, 0 ≤ x ∧ x < n) (h0 : 0 ≤ n) : (l.length : Int) ≤ n := by
  obtain ⟨m, rfl⟩ : ∃ m : Nat, n = m := ⟨n.toNat, by omega⟩
  induction m generalizing l with
  | zero =>
    cases l with
    | nil => simp
    | cons a l => have := h a (by simp); omega
  | succ m ih =>
    have hp : ∀ x ∈ l.filter (fun x => decide (x ≠ (m : Int))), 0 ≤ x ∧ x < (m : Int) := fun x hx => by
      rw [List.mem_filter, decide_eq_true_eq] at hx
      have := h x hx.1; omega
    have := ih (List.filter_sublist.nodup hn) hp (by omega)
    have hc : (l.length : Int) ≤ ((l.filter (fun x => decide (x ≠ (m : Int)))).length : Int) + 1 := by
      clear ih hp this h
      induction l with
      | nil => simp
      | cons a l ih2 =>
        rw [List.nodup_cons] at hn
        have := ih2 hn.2
        by_cases ha : a = (m : Int)
        · have hf : l.filter (fun x => decide (x ≠ (m : Int))) = l := List.filter_eq_self.2 fun x hx => decide_eq_true fun e => hn.1 (by rw [ha, ← e]; exact hx)
          rw [List.filter_cons_of_neg (by simp [ha]), hf]; simp
        · rw [List.filter_cons_of_pos (by simp [ha])]; simp only [List.length_cons]; omega
    omega
theorem QI.nd2 {l : List EN} {m : List (Int × Int)} (h : QI l m) : (l.map EN.ei).Nodup := by
  rw [List.Nodup, List.pairwise_iff_getElem]
  intro i j hi hj hij q
  simp only [List.length_map] at hi hj
  simp only [List.getElem_map] at q
  have a1 := gt_get (l := l) (i := (i : Int)) (by omega) (by omega)
  have a2 := gt_get (l := l) (i := (j : Int)) (by omega) (by omega)
  simp only [Int.toNat_natCast] at a1 a2
  rw [← a1, ← a2] at q
  have := h.inj (i := i) (j := j) ⟨by omega, by omega⟩ ⟨by omega, by omega⟩ q
  omega
theorem kq_len {n : Int} {l : List EN} {m : List (Int × Int)} (h : QI l m) (hr : ∀ x k, kq l x = some k → 0 ≤ x ∧ x < n) (h0 : 0 ≤ n) : (l.length : Int) ≤ n := by
  have := nodup_le h.nd2 (fun x hx => by
    obtain ⟨e, he, rfl⟩ := List.mem_map.1 hx
    exact hr e.ei e.ek (h.kq.2 he)) h0
  rwa [List.length_map] at this
theorem kq_nil {l : List EN} (h : l.length = 0) : ∀ x, kq l x = none := fun x => by
  rw [List.length_eq_zero_iff.1 h]; rfl
theorem kq_some {l : List EN} {m : List (Int × Int)} (h : QI l m) (hl : 0 < l.length) : ∃ x k, kq l x = some k := ⟨(gt l 0).ei, (gt l 0).ek, h.kq.2 (gtM (by omega) (by omega))⟩
def mo (M : List (Int × Int)) : Int → Option Int := fun x => if mhas M x = true then some (mget M x 0) else none
def setK (f : Int → Option Int) (x k : Int) : Int → Option Int := fun y => if y = x then some k else f y
abbrev K0 : Int → Option Int := fun _ => none
theorem mo_set {M : List (Int × Int)} {x v : Int} : mo (mset M x v) = setK (mo M) x v := by
  funext y
  show (if mhas (mset M x v) y = true then some (mget (mset M x v) y 0) else none) = if y = x then some v else (if mhas M y = true then some (mget M y 0) else none)
  rw [mhas_set, mget_set]
  by_cases h : y = x
  · subst h; simp
  · have h2 : ¬ x = y := fun e => h e.symm
    rw [if_neg h, if_neg h2, decide_eq_false h2, Bool.or_false]
theorem mo_none {M : List (Int × Int)} {x : Int} : mo M x = none ↔ mhas M x = false := by
  unfold mo; cases mhas M x <;> simp
def wG (G : GS) (p x : Int) : Int := (gt G.gl (mget (gt G.go p) x 0)).lw
def rC (G : GS) (D : Int → Option Int) (but p x : Int) : Prop := mhas (gt G.go p) x = true ∧ D x = none ∧ gt G.gg x = false ∧ x ≠ but
instance (G : GS) (D : Int → Option Int) (but p x : Int) : Decidable (rC G D but p x) := by unfold rC; exact inferInstance
def rlx (G : GS) (D : Int → Option Int) (but p d : Int) (K : Int → Option Int) : Int → Option Int := fun x => if rC G D but p x then putK K x (d + wG G p x) x else K x
def rlxP (G : GS) (D : Int → Option Int) (but p d : Int) (K : Int → Option Int) (Lf : List (Int × Int)) : Int → Option Int := fun x => if rC G D but p x ∧ mhas Lf x = false then putK K x (d + wG G p x) x else K x
theorem rlx_0 {G : GS} {D K : Int → Option Int} {but p d : Int} : rlxP G D but p d K (gt G.go p) = K := by
  funext x; unfold rlxP rC
  rw [if_neg]
  rintro ⟨⟨h1, _⟩, h2⟩; rw [h1] at h2; cases h2
theorem rlx_end {G : GS} {D K : Int → Option Int} {but p d : Int} : rlxP G D but p d K [] = rlx G D but p d K := by
  funext x; unfold rlxP rlx
  by_cases h : rC G D but p x
  · rw [if_pos ⟨h, rfl⟩, if_pos h]
  · rw [if_neg (fun q => h q.1), if_neg h]
theorem rlx_yes {G : GS} {D K f : Int → Option Int} {but p d x v : Int} {Lf : List (Int × Int)} (hf : f = rlxP G D but p d K Lf) (hx : (x, v) ∈ Lf) (hc : rC G D but p x) : putK f x (d + wG G p x) = rlxP G D but p d K (Lf.filter (fun q => decide (q.1 ≠ x))) := by
  have hm : mhas Lf x = true := mhas_iff.2 ⟨v, hx⟩
  funext y; subst hf
  by_cases e : y = x
  · subst e
    have hK : rlxP G D but p d K Lf y = K y := if_neg (fun q => by rw [hm] at q; cases q.2)
    show putK (rlxP G D but p d K Lf) y (d + wG G p y) y = (if rC G D but p y ∧ mhas (Lf.filter (fun q => decide (q.1 ≠ y))) y = false then putK K y (d + wG G p y) y else K y)
    rw [if_pos ⟨hc, by rw [mhas_filter]; simp⟩]
    unfold putK
    rw [if_pos rfl, if_pos rfl, hK]
  · show putK (rlxP G D but p d K Lf) x (d + wG G p x) y = (if rC G D but p y ∧ mhas (Lf.filter (fun q => decide (q.1 ≠ x))) y = false then putK K y (d + wG G p y) y else K y)
    rw [mhas_filter, decide_eq_true (show x ≠ y from fun q => e q.symm), Bool.and_true]
    have : putK (rlxP G D but p d K Lf) x (d + wG G p x) y = rlxP G D but p d K Lf y := if_neg e
    rw [this]; rfl
theorem rlx_no {G : GS} {D K f : Int → Option Int} {but p d x v : Int} {Lf : List (Int × Int)} (hf : f = rlxP G D but p d K Lf) (hx : (x, v) ∈ Lf) (hc : ¬ rC G D but p x) : f = rlxP G D but p d K (Lf.filter (fun q => decide (q.1 ≠ x))) := by
  funext y; subst hf
  unfold rlxP
  rw [mhas_filter]
  by_cases e : y = x
  · subst e; rw [if_neg (fun q => hc q.1), if_neg (fun q => hc q.1)]
  · have : decide (x ≠ y) = true := decide_eq_true (fun q => e q.symm)
    rw [this, Bool.and_true]
inductive DJ (G : GS) (but : Int) : (Int → Option Int) → (Int → Option Int) → (Int → Option Int) → Prop
  | stop {D K} : (∀ x, K x = none) → DJ G but D K D
  | step {D K R p d} : leastK K p d → DJ G but (setK D p d) (rlx G (setK D p d) but p d (delK K p)) R → DJ G but D K R
theorem DJ.det {G : GS} {but : Int} {D K R R' : Int → Option Int} (h : DJ G but D K R) (k : DJ G but D K R') : R = R' := by
  induction h with
  | stop h =>
    cases k with
    | stop => rfl
    | step h2 _ => have h3 := h2.1; rw [h] at h3; cases h3
  | step h1 _ ih =>
    cases k with
    | stop h => have h3 := h1.1; rw [h] at h3; cases h3
    | step h2 k2 =>
      obtain ⟨e1, e2⟩ := leastK_det h1 h2
      subst e1 e2
      exact ih k2
open Classical in
noncomputable def arR (G : GS) (fr but : Int) : Int → Option Int := if h : ∃ R, DJ G but K0 (putK K0 fr 0) R then h.choose else K0
theorem arR_of {G : GS} {fr but : Int} {R : Int → Option Int} (h : DJ G but K0 (putK K0 fr 0) R) : arR G fr but = R := by
  have hx : ∃ R, DJ G but K0 (putK K0 fr 0) R := ⟨R, h⟩
  unfold arR; rw [dif_pos hx]; exact hx.choose_spec.det h
structure ArI (n : Int) (G : GS) (fr but : Int) (l : List EN) (m M : List (Int × Int)) : Prop where
  qq : QQ l m
  nd : (M.map Prod.fst).Nodup
  rg : ∀ x, mhas M x = true → 0 ≤ x ∧ x < n
  kr : ∀ x k, kq l x = some k → 0 ≤ x ∧ x < n ∧ mhas M x = false ∧ 0 ≤ k ∧ k ≤ M.length * 10000000000000000
  dj : ∀ R, DJ G but (mo M) (kq l) R → DJ G but K0 (putK K0 fr 0) R
theorem ArI.len {n : Int} {G : GS} {fr but : Int} {l : List EN} {m M : List (Int × Int)} (h : ArI n G fr but l m M) (h0 : 0 ≤ n) : (l.length : Int) ≤ n ∧ (M.length : Int) ≤ n :=
  ⟨kq_len h.qq.qi (fun x k hk => ⟨(h.kr x k hk).1, (h.kr x k hk).2.1⟩) h0, by
    have := nodup_le h.nd (fun x hx => h.rg x (mhas_keys.2 hx)) h0
    rwa [List.length_map] at this⟩
theorem ar_0 {n : Int} {G : GS} {fr but : Int} {l : List EN} {m : List (Int × Int)} (hq : QQ l m) (hk : kq l = putK (kq []) fr 0) (hf : 0 ≤ fr ∧ fr < n) : ArI n G fr but l m [] := by
  have e0 : kq l = putK K0 fr 0 := hk
  refine ⟨hq, by simp, fun x hx => by simp [mhas] at hx, fun x k hx => ?_, fun R hR => ?_⟩
  · rw [e0] at hx
    unfold putK at hx
    split at hx
    · rename_i e; subst e
      simp at hx; subst hx
      exact ⟨hf.1, hf.2, rfl, by omega, by simp⟩
    · cases hx
  · rw [e0] at hR; exact hR
structure ArJ (n : Int) (G : GS) (fr but p d : Int) (K1 : Int → Option Int) (l : List EN) (m M Lf : List (Int × Int)) : Prop where
  qq : QQ l m
  nd : (M.map Prod.fst).Nodup
  rg : ∀ x, mhas M x = true → 0 ≤ x ∧ x < n
  ml : 1 ≤ M.length
  dd : 0 ≤ d ∧ d ≤ (M.length - 1) * 10000000000000000
  kr : ∀ x k, K1 x = some k → 0 ≤ x ∧ x < n ∧ mhas M x = false ∧ 0 ≤ k ∧ k ≤ M.length * 10000000000000000
  k : kq l = rlxP G (mo M) but p d K1 Lf
  dj : ∀ R, DJ G but (mo M) (rlx G (mo M) but p d K1) R → DJ G but K0 (putK K0 fr 0) R
theorem arj_0 {n : Int} {G : GS} {fr but p d : Int} {l l2 : List EN} {m m2 M : List (Int × Int)} (h : ArI n G fr but l m M) (hl : leastK (kq l) p d) (hk : kq l2 = delK (kq l) p) (hq : QQ l2 m2) : mhas M p = false ∧ (0 ≤ p ∧ p < n) ∧ ArJ n G fr but p d (kq l2) l2 m2 (mset M p d) (gt G.go p) := by
  have h1 := h.kr p d hl.1
  have hlen : (mset M p d).length = M.length + 1 := by unfold mset; rw [if_neg (by rw [h1.2.2.1]; decide)]; simp
  refine ⟨h1.2.2.1, ⟨h1.1, h1.2.1⟩, hq, nd_set h.nd, fun x hx => ?_, by omega, ⟨h1.2.2.2.1, by rw [hlen]; have := h1.2.2.2.2; omega⟩, fun x k hx => ?_, rlx_0.symm, fun R hR => h.dj R ?_⟩
  · rw [mhas_set, Bool.or_eq_true, decide_eq_true_eq] at hx
    rcases hx with hx | rfl
    · exact h.rg x hx
    · exact ⟨h1.1, h1.2.1⟩
  · rw [hk] at hx
    unfold delK at hx
    split at hx
    · cases hx
    · rename_i hne
      have h2 := h.kr x k hx
      rw [mhas_set, h2.2.2.1, hlen]
      exact ⟨h2.1, h2.2.1, by simpa using fun e => hne e.symm, h2.2.2.2.1, by have := h2.2.2.2.2; omega⟩
  · rw [mo_set, hk] at hR
    exact .step hl hR
theorem arj_bd {n : Int} {G : GS} {fr but p d : Int} {K1 : Int → Option Int} {l : List EN} {m M Lf : List (Int × Int)} (h : ArJ n G fr but p d K1 l m M Lf) (hG : GOK n G) : ∀ x k, kq l x = some k → 0 ≤ x ∧ x < n ∧ mhas M x = false ∧ 0 ≤ k ∧ k ≤ M.length * 10000000000000000 := fun x k hx => by
  rw [h.k] at hx
  unfold rlxP at hx
  split at hx
  · rename_i hc
    obtain ⟨⟨c1, c2, c3, c4⟩, _⟩ := hc
    have ho := (hG.om p).2 x c1
    have hw := hG.lk _ ho.2.2.1 ho.2.2.2
    have hml := h.ml
    have hdd := h.dd
    refine ⟨ho.1, ho.2.1, mo_none.1 c2, ?_⟩
    unfold putK at hx
    rw [if_pos rfl] at hx
    unfold wG at hx
    cases hK : K1 x with
    | none => rw [hK] at hx; simp only [Option.some.injEq] at hx; omega
    | some k0 =>
      have hk0 := h.kr x k0 hK
      rw [hK] at hx
      simp only [Option.some.injEq] at hx
      split at hx <;> omega
  · exact h.kr x k hx
theorem arj_end {n : Int} {G : GS} {fr but p d : Int} {K1 : Int → Option Int} {l : List EN} {m M : List (Int × Int)} (h : ArJ n G fr but p d K1 l m M []) (hG : GOK n G) : ArI n G fr but l m M :=
  ⟨h.qq, h.nd, h.rg, arj_bd h hG, fun R hR => h.dj R (by rw [h.k, rlx_end] at hR; exact hR)⟩
theorem arj_yes {n : Int} {G : GS} {fr but p d x v : Int} {K1 : Int → Option Int} {l l2 : List EN} {m m2 M Lf : List (Int × Int)} (h : ArJ n G fr but p d K1 l m M Lf) (hx : (x, v) ∈ Lf) (hc : rC G (mo M) but p x) (hq : QQ l2 m2) (hk : kq l2 = putK (kq l) x (d + wG G p x)) : ArJ n G fr but p d K1 l2 m2 M (Lf.filter (fun q => decide (q.1 ≠ x))) :=
  ⟨hq, h.nd, h.rg, h.ml, h.dd, h.kr, by rw [hk]; exact rlx_yes h.k hx hc, h.dj⟩
theorem arj_no {n : Int} {G : GS} {fr but p d x v : Int} {K1 : Int → Option Int} {l : List EN} {m M Lf : List (Int × Int)} (h : ArJ n G fr but p d K1 l m M Lf) (hx : (x, v) ∈ Lf) (hc : ¬ rC G (mo M) but p x) : ArJ n G fr but p d K1 l m M (Lf.filter (fun q => decide (q.1 ≠ x))) :=
  ⟨h.qq, h.nd, h.rg, h.ml, h.dd, h.kr, rlx_no h.k hx hc, h.dj⟩
theorem ar_end {n : Int} {G : GS} {fr but : Int} {l : List EN} {m M : List (Int × Int)} (h : ArI n G fr but l m M) (hl : l.length = 0) : arR G fr but = mo M := arR_of (h.dj _ (.stop (kq_nil hl)))
def scD (G : GS) (p fr to : Int) : Int := (gt G.gl (mget (gt G.gi p) fr 0)).lw + (gt G.gl (mget (gt G.go p) to 0)).lw
noncomputable def scE (G : GS) (p fr to : Int) : List LK := if gt G.gg to = true ∨ to = fr then [] else match arR G fr p to with
  | some o => if o > scD G p fr to then [⟨fr, to, scD G p fr to, p⟩] else []
  | none => [⟨fr, to, scD G p fr to, p⟩]
noncomputable def scF (G : GS) (p fr : Int) : List LK := if gt G.gg fr = true then [] else (srtK (gt G.go p)).flatMap (scE G p fr)
noncomputable def scG (G : GS) (p : Int) : List LK := (srtK (gt G.gi p)).flatMap (scF G p)
def nOf (m : List (Int × Int)) (g : List Bool) : Int := ((m.map Prod.fst).countP (fun x => !gt g x) : Nat)
noncomputable def prG (G : GS) (p : Int) : Int := 2 * ((scG G p).length : Int) - nOf (gt G.go p) G.gg - nOf (gt G.gi p) G.gg
theorem flat_next {α β : Type} [Inhabited α] {l : List α} {f : α → List β} {X : List β} {i : Int} (h : X = (l.take i.toNat).flatMap f) (h0 : 0 ≤ i) (h1 : i < (l.length : Int)) {Y : List β} (hy : Y = X ++ f (gt l i)) : Y = (l.take (i + 1).toNat).flatMap f := by
  rw [take_gt h0 h1, List.flatMap_append, hy, h]; simp
theorem cnt_rng {m Lf : List (Int × Int)} {g : List Bool} {x v c : Int} (hn : (Lf.map Prod.fst).Nodup) (hx : (x, v) ∈ Lf) (h : c = nOf m g - nOf Lf g) : c + (if gt g x = true then 0 else 1) = nOf m g - nOf (Lf.filter (fun p => decide (p.1 ≠ x))) g := by
  have h1 := (rng_perm hn hx).countP_eq (fun x => !gt g x)
  rw [List.countP_cons] at h1
  unfold nOf at *
  cases hg : gt g x with
  | true => rw [hg] at h1; rw [if_pos rfl]; rw [if_neg (by decide)] at h1; omega
  | false => rw [hg] at h1; rw [if_neg (by decide)]; rw [if_pos (by decide)] at h1; omega
theorem nOf_le (m : List (Int × Int)) (g : List Bool) : 0 ≤ nOf m g ∧ nOf m g ≤ m.length := by
  unfold nOf
  have := List.countP_le_length (p := fun x => !gt g x) (l := m.map Prod.fst)
  rw [List.length_map] at this; omega
theorem keys_le {n : Int} {m : List (Int × Int)} (hn : (m.map Prod.fst).Nodup) (h : ∀ x, mhas m x = true → 0 ≤ x ∧ x < n) (h0 : 0 ≤ n) : (m.length : Int) ≤ n := by
  have := nodup_le hn (fun x hx => h x (mhas_keys.2 hx)) h0
  rwa [List.length_map] at this
theorem srtK_len {m : List (Int × Int)} : (srtK m).length = m.length := by unfold srtK; rw [(srtL_perm _).length_eq, List.length_map]
theorem scE_len (G : GS) (p fr to : Int) : (scE G p fr to).length ≤ 1 := by
  unfold scE; split
  · simp
  · split
    · split <;> simp
    · simp
theorem flat_len {α β : Type} {l : List α} {f : α → List β} {c : Nat} (h : ∀ x ∈ l, (f x).length ≤ c) : (l.flatMap f).length ≤ l.length * c := by
  induction l with
  | nil => simp
  | cons a l ih =>
    rw [List.flatMap_cons, List.length_append, List.length_cons, Nat.succ_mul]
    have := h a (by simp)
    have := ih (fun x hx => h x (by simp [hx]))
    omega
theorem scF_len {n : Int} {G : GS} (hG : GOK n G) (p fr : Int) : (scF G p fr).length ≤ 32 := by
  unfold scF; split
  · simp
  · have h1 := flat_len (l := srtK (gt G.go p)) (f := scE G p fr) (c := 1) (fun x _ => scE_len G p fr x)
    have h2 := keys_le (hG.om p).1 (fun x hx => ⟨((hG.om p).2 x hx).1, ((hG.om p).2 x hx).2.1⟩) (by have := hG.n1; omega)
    have := hG.n1
    rw [srtK_len] at h1; omega
theorem scG_len {n : Int} {G : GS} (hG : GOK n G) (p : Int) : (scG G p).length ≤ 1024 := by
  have h1 := flat_len (l := srtK (gt G.gi p)) (f := scF G p) (c := 32) (fun x _ => scF_len hG p x)
  have h2 := keys_le (hG.im p).1 (fun x hx => ⟨((hG.im p).2 x hx).1, ((hG.im p).2 x hx).2.1⟩) (by have := hG.n1; omega)
  have := hG.n1
  rw [srtK_len] at h1
  unfold scG; omega
end Go.SX
namespace Go.SX
theorem mset_len {α β : Type} [DecidableEq α] {M : List (α × β)} {x : α} {v : β} (h : mhas M x = false) : (mset M x v).length = M.length + 1 := by unfold mset; rw [if_neg (by rw [h]; decide)]; simp
section
variable {n p x v : Int} {MO MI : List MB} {K : List LK} {g : List Bool}
theorem om_mb (hG : GOK n ⟨mmL MO, mmL MI, K, g⟩) (hm : (x, v) ∈ (gt MO p).mm) : mhas (gt MO p).mm x = true ∧ mget (gt MO p).mm x 0 = v ∧ 0 ≤ x ∧ x < n ∧ 0 ≤ v ∧ v < K.length := by
  have h := hG.om p
  have e : gt (GS.mk (mmL MO) (mmL MI) K g).go p = (gt MO p).mm := gt_mmL
  rw [e] at h
  have h1 : mhas (gt MO p).mm x = true := mhas_iff.2 ⟨v, hm⟩
  have h2 := mget_mem (z := 0) h.1 hm
  have h3 := h.2 x h1
  rw [h2] at h3
  exact ⟨h1, h2, h3⟩
theorem im_mb (hG : GOK n ⟨mmL MO, mmL MI, K, g⟩) (hm : (x, v) ∈ (gt MI p).mm) : mhas (gt MI p).mm x = true ∧ mget (gt MI p).mm x 0 = v ∧ 0 ≤ x ∧ x < n ∧ 0 ≤ v ∧ v < K.length := by
  have h := hG.im p
  have e : gt (GS.mk (mmL MO) (mmL MI) K g).gi p = (gt MI p).mm := gt_mmL
  rw [e] at h
  have h1 : mhas (gt MI p).mm x = true := mhas_iff.2 ⟨v, hm⟩
  have h2 := mget_mem (z := 0) h.1 hm
  have h3 := h.2 x h1
  rw [h2] at h3
  exact ⟨h1, h2, h3⟩
theorem om_nd (hG : GOK n ⟨mmL MO, mmL MI, K, g⟩) : ((gt MO p).mm.map Prod.fst).Nodup ∧ ((gt MO p).mm.length : Int) ≤ n := by
  have h := hG.om p
  have e : gt (GS.mk (mmL MO) (mmL MI) K g).go p = (gt MO p).mm := gt_mmL
  rw [e] at h
  exact ⟨h.1, keys_le h.1 (fun x hx => ⟨(h.2 x hx).1, (h.2 x hx).2.1⟩) (by have := hG.n1; omega)⟩
theorem im_nd (hG : GOK n ⟨mmL MO, mmL MI, K, g⟩) : ((gt MI p).mm.map Prod.fst).Nodup ∧ ((gt MI p).mm.length : Int) ≤ n := by
  have h := hG.im p
  have e : gt (GS.mk (mmL MO) (mmL MI) K g).gi p = (gt MI p).mm := gt_mmL
  rw [e] at h
  exact ⟨h.1, keys_le h.1 (fun x hx => ⟨(h.2 x hx).1, (h.2 x hx).2.1⟩) (by have := hG.n1; omega)⟩
theorem srt_mem {m : List (Int × Int)} {i : Int} (h0 : 0 ≤ i) (h1 : i < ((srtK m).length : Int)) : (gt (srtK m) i, mget m (gt (srtK m) i) 0) ∈ m ∨ False := by
  left
  have h2 := mem_srtK.1 (gtM h0 h1)
  obtain ⟨v, hv⟩ := mhas_iff.1 h2
  unfold mget
  cases hf : m.find? (fun p => decide (p.1 = gt (srtK m) i)) with
  | none => have := List.find?_eq_none.1 hf _ hv; simp at this
  | some q =>
    have a1 := List.mem_of_find?_eq_some hf
    have a2 : q.1 = gt (srtK m) i := by have := List.find?_some hf; simpa using this
    simp only [Option.map_some, Option.getD_some]
    rw [← a2]; exact a1
theorem om_srt (hG : GOK n ⟨mmL MO, mmL MI, K, g⟩) {i : Int} (hx : x = gt (srtK (gt MO p).mm) i) (h0 : 0 ≤ i) (h1 : i < ((srtK (gt MO p).mm).length : Int)) : mhas (gt MO p).mm x = true ∧ 0 ≤ x ∧ x < n ∧ 0 ≤ mget (gt MO p).mm x 0 ∧ mget (gt MO p).mm x 0 < K.length := by
  subst hx
  obtain ⟨a1, a2, a3⟩ := om_mb hG ((srt_mem h0 h1).elim id False.elim)
  exact ⟨a1, a3⟩
theorem im_srt (hG : GOK n ⟨mmL MO, mmL MI, K, g⟩) {i : Int} (hx : x = gt (srtK (gt MI p).mm) i) (h0 : 0 ≤ i) (h1 : i < ((srtK (gt MI p).mm).length : Int)) : mhas (gt MI p).mm x = true ∧ 0 ≤ x ∧ x < n ∧ 0 ≤ mget (gt MI p).mm x 0 ∧ mget (gt MI p).mm x 0 < K.length := by
  subst hx
  obtain ⟨a1, a2, a3⟩ := im_mb hG ((srt_mem h0 h1).elim id False.elim)
  exact ⟨a1, a3⟩
theorem rc_yes {M : List (Int × Int)} {but : Int} (h1 : mhas (gt MO p).mm x = true) (h : (¬ mhas M x = true ∧ ¬ gt g x = true) ∧ x ≠ but) : rC ⟨mmL MO, mmL MI, K, g⟩ (mo M) but p x :=
  ⟨by show mhas (gt (mmL MO) p) x = true; rw [gt_mmL]; exact h1, mo_none.2 (by simpa using h.1.1), by simpa using h.1.2, h.2⟩
theorem rc_no {M : List (Int × Int)} {but : Int} (h : ¬ ((¬ mhas M x = true ∧ ¬ gt g x = true) ∧ x ≠ but)) : ¬ rC ⟨mmL MO, mmL MI, K, g⟩ (mo M) but p x := fun ⟨_, h2, h3, h4⟩ =>
  h ⟨⟨by rw [mo_none.1 h2]; decide, by have h3 : gt g x = false := h3; rw [h3]; decide⟩, h4⟩
theorem wG_mb : wG ⟨mmL MO, mmL MI, K, g⟩ p x = (gt K (mget (gt MO p).mm x 0)).lw := by unfold wG; show (gt K (mget (gt (mmL MO) p) x 0)).lw = _; rw [gt_mmL]
theorem scD_mb {fr to : Int} : scD ⟨mmL MO, mmL MI, K, g⟩ p fr to = (gt K (mget (gt MI p).mm fr 0)).lw + (gt K (mget (gt MO p).mm to 0)).lw := by
  unfold scD; show (gt K (mget (gt (mmL MI) p) fr 0)).lw + (gt K (mget (gt (mmL MO) p) to 0)).lw = _; rw [gt_mmL, gt_mmL]
theorem scE_go {G : GS} {p fr to : Int} (h : gt G.gg to = true ∨ to = fr) : scE G p fr to = [] := if_pos h
theorem scE_yes {G : GS} {p fr to : Int} {M : List (Int × Int)} (hM : mo M = arR G fr p) (h1 : ¬ (gt G.gg to = true ∨ to = fr)) {d : Int} (hd : scD G p fr to = d) (h2 : ¬ mhas M to = true ∨ mget M to 0 > d) : scE G p fr to = [⟨fr, to, d, p⟩] := by
  subst hd
  unfold scE; rw [if_neg h1, ← hM]
  unfold mo
  cases hh : mhas M to with
  | false => simp
  | true =>
    simp only [if_true]
    rw [if_pos (h2.resolve_left (fun e => e hh))]
theorem scE_no {G : GS} {p fr to : Int} {M : List (Int × Int)} (hM : mo M = arR G fr p) (h1 : ¬ (gt G.gg to = true ∨ to = fr)) {d : Int} (hd : scD G p fr to = d) (h2 : ¬ (¬ mhas M to = true ∨ mget M to 0 > d)) : scE G p fr to = [] := by
  subst hd
  unfold scE; rw [if_neg h1, ← hM]
  unfold mo
  cases hh : mhas M to with
  | false => exact absurd (.inl (by rw [hh]; decide)) h2
  | true =>
    simp only [if_true]
    rw [if_neg (fun e => h2 (.inr e))]
theorem scF_go {G : GS} {p fr : Int} (h : gt G.gg fr = true) : scF G p fr = [] := if_pos h
theorem scF_do {G : GS} {p fr : Int} (h : ¬ gt G.gg fr = true) : scF G p fr = (srtK (gt G.go p)).flatMap (scE G p fr) := if_neg h
theorem scX_len (hG : GOK n ⟨mmL MO, mmL MI, K, g⟩) {i : Nat} : ((((srtK (gt MI p).mm).take i).flatMap (scF ⟨mmL MO, mmL MI, K, g⟩ p)).length : Int) ≤ 1024 := by
  have h1 := flat_len (l := (srtK (gt MI p).mm).take i) (f := scF ⟨mmL MO, mmL MI, K, g⟩ p) (c := 32) (fun x _ => scF_len hG p x)
  have h2 := (im_nd (p := p) hG).2
  have h3 := hG.n1
  rw [List.length_take, srtK_len] at h1; omega
theorem scY_len (hG : GOK n ⟨mmL MO, mmL MI, K, g⟩) {i : Nat} {fr : Int} : ((((srtK (gt MO p).mm).take i).flatMap (scE ⟨mmL MO, mmL MI, K, g⟩ p fr)).length : Int) ≤ 32 := by
  have h1 := flat_len (l := (srtK (gt MO p).mm).take i) (f := scE ⟨mmL MO, mmL MI, K, g⟩ p fr) (c := 1) (fun x _ => scE_len _ p fr x)
  have h2 := (om_nd (p := p) hG).2
  have h3 := hG.n1
  rw [List.length_take, srtK_len] at h1; omega
theorem sc_next {α : Type} [Inhabited α] {l : List α} {β : Type} {f : α → List β} {X Y Z : List β} {j : Int} (h : Y = X ++ (l.take j.toNat).flatMap f) (h0 : 0 ≤ j) (h1 : j < (l.length : Int)) (hz : Z = Y ++ f (gt l j)) : Z = X ++ (l.take (j + 1).toNat).flatMap f := by
  rw [take_gt h0 h1, List.flatMap_append, hz, h, List.append_assoc]; simp
theorem nOf_rng {m Lf : List (Int × Int)} {g : List Bool} {x v c T : Int} (hn : (Lf.map Prod.fst).Nodup) (hx : (x, v) ∈ Lf) (h : c = T - (nOf m g - nOf Lf g)) : (gt g x = true → c = T - (nOf m g - nOf (Lf.filter (fun p => decide (p.1 ≠ x))) g)) ∧ (¬ gt g x = true → c - 1 = T - (nOf m g - nOf (Lf.filter (fun p => decide (p.1 ≠ x))) g)) := by
  have := cnt_rng (c := nOf m g - nOf Lf g) hn hx rfl
  constructor
  · intro e; rw [if_pos e] at this; omega
  · intro e; rw [if_neg e] at this; omega
theorem pr_eq {p : Int} : prG ⟨mmL MO, mmL MI, K, g⟩ p = 2 * ((scG ⟨mmL MO, mmL MI, K, g⟩ p).length : Int) - nOf (gt MO p).mm g - nOf (gt MI p).mm g := by
  unfold prG; show 2 * _ - nOf (gt (mmL MO) p) g - nOf (gt (mmL MI) p) g = _; rw [gt_mmL, gt_mmL]
end
end Go.SX
namespace Go.SX
section
variable {n p x v : Int} {MO MI : List MB} {K : List LK} {g : List Bool} {k : LK}
theorem om_has (hG : GOK n ⟨mmL MO, mmL MI, K, g⟩) (h : mhas (gt MO p).mm x = true) : 0 ≤ x ∧ x < n ∧ 0 ≤ mget (gt MO p).mm x 0 ∧ mget (gt MO p).mm x 0 < K.length := by
  have h1 := (hG.om p).2 x
  have e : gt (GS.mk (mmL MO) (mmL MI) K g).go p = (gt MO p).mm := gt_mmL
  rw [e] at h1
  exact h1 h
theorem link_same (h1 : mhas (gt MO k.lf).mm k.lt = true) (h2 : (gt K (mget (gt MO k.lf).mm k.lt 0)).lw ≤ k.lw) : GS.mk (mmL MO) (mmL MI) K g = linkG ⟨mmL MO, mmL MI, K, g⟩ k := by
  unfold linkG
  rw [if_pos]
  show mhas (gt (mmL MO) k.lf) k.lt = true ∧ (gt K (mget (gt (mmL MO) k.lf) k.lt 0)).lw ≤ k.lw
  rw [gt_mmL]; exact ⟨h1, h2⟩
theorem link_new (h : ¬ (mhas (gt MO k.lf).mm k.lt = true ∧ (gt K (mget (gt MO k.lf).mm k.lt 0)).lw ≤ k.lw)) {a b : Nat} {z : Int} (hz : z = (K.length : Int)) :
    GS.mk (mmL (MO.set k.lf.toNat ⟨a, mset (gt MO k.lf).mm k.lt z⟩)) (mmL (MI.set k.lt.toNat ⟨b, mset (gt MI k.lt).mm k.lf z⟩)) (K ++ [k]) g = linkG ⟨mmL MO, mmL MI, K, g⟩ k := by
  subst hz
  unfold linkG
  rw [if_neg]
  · show _ = GS.mk ((mmL MO).set k.lf.toNat (mset (gt (mmL MO) k.lf) k.lt _)) ((mmL MI).set k.lt.toNat (mset (gt (mmL MI) k.lt) k.lf _)) _ _
    rw [gt_mmL, gt_mmL, mmL_set, mmL_set]
  · show ¬ (mhas (gt (mmL MO) k.lf) k.lt = true ∧ (gt K (mget (gt (mmL MO) k.lf) k.lt 0)).lw ≤ k.lw)
    rw [gt_mmL]; exact h
end
end Go.SX
