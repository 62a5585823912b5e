import Derived.Maps.RangeRun
import Derived.MapKept
import Derived.Lib.ConvBytes
import Derived.Laws.BytesArg
import Derived.Laws.IdiomStrings
import Derived.Lib.AppendStr
import Derived.Laws.OwnMore
import Derived.Laws.Strings
import Derived.Test.YtpjblnmophcdmaaS0
set_option linter.unusedVariables false
set_option linter.unusedSimpArgs false
set_option linter.unusedSectionVars false
namespace Go.SX
open Go Go.RowKit
open Go.ChangeMaps (setBlock)
structure KE (P : Program) (k : TypeId) (α : Type) where
  f : α → Value
  inj : ∀ x y, f x = f y → x = y
  check : ∀ w b x, (Instr.checkKey b 10000 k (f x)).run P w = .ok () w
  find : ∀ w x (es : List MapEntry), (∀ e ∈ es, ∃ y, e.key = f y) → ((Instr.findKey k (f x) es).run P w = .ok none w ∧ ∀ e ∈ es, e.key ≠ f x) ∨ ∃ j e0, (Instr.findKey k (f x) es).run P w = .ok (some (j, e0.val)) w ∧ es[j]? = some e0 ∧ e0.key = f x
  bits : ∀ x, Instr.sameBits 10000 (f x) (f x) = true
theorem find_now {kd : TypeDesc} {α : Type} [DecidableEq α] (f : α → Value) (inj : ∀ x y, f x = f y → x = y) (hs : ∀ x y, Instr.sameNow kd (f x) (f y) = some (decide (x = y))) (x : α) :
    ∀ (es : List MapEntry) (i : Nat), (∀ e ∈ es, ∃ y, e.key = f y) → (Instr.findNow kd (f x) es i = some none ∧ ∀ e ∈ es, e.key ≠ f x) ∨ ∃ j e0, Instr.findNow kd (f x) es i = some (some (i + j, e0.val)) ∧ es[j]? = some e0 ∧ e0.key = f x
  | [], i, _ => .inl ⟨by simp [Instr.findNow], by simp⟩
  | e :: es, i, h => by
    obtain ⟨y, hy⟩ := h e (by simp)
    by_cases hxy : x = y
    · refine .inr ⟨0, e, ?_, by simp, by rw [hy, hxy]⟩
      simp [Instr.findNow, hy, hs, hxy]
    · rcases find_now f inj hs x es (i + 1) (fun e he => h e (by simp [he])) with ⟨h1, h2⟩ | ⟨j, e0, h1, h2, h3⟩
      · refine .inl ⟨by simp [Instr.findNow, hy, hs, hxy, h1], ?_⟩
        intro e' he'
        rcases List.mem_cons.1 he' with rfl | he'
        · rw [hy]; exact fun h => hxy (inj _ _ h).symm
        · exact h2 e' he'
      · refine .inr ⟨j + 1, e0, ?_, by simpa using h2, h3⟩
        simp [Instr.findNow, hy, hs, hxy, h1]
        omega
def KE.int {P : Program} {k : TypeId} {q : IntKind} (hu : P.underlying k = some (.int q)) : KE P k Int where
  f := .int q
  inj x y h := by injection h
  check w b x := by
    have : ∀ n, (Instr.checkKey b (n + 1) k (.int q x)).run P w = .ok () w := by intro n; simp [Instr.checkKey, run_underlying hu]
    exact this 9999
  bits x := by
    have : ∀ n, Instr.sameBits n (.int q x) (.int q x) = true := by intro n; cases n <;> simp [Instr.sameBits]
    exact this 10000
  find w x es h := by
    have hs : ∀ x y : Int, Instr.sameNow (.int q) (.int q x) (.int q y) = some (decide (x = y)) := by
      intro x y; simp only [Instr.sameNow, if_true]; congr 1
    rcases find_now (kd := .int q) (Value.int q) (fun x y h => by injection h) hs x es 0 h with ⟨h1, h2⟩ | ⟨j, e0, h1, h2, h3⟩
    · exact .inl ⟨by simp [Instr.findKey, run_underlying hu, h1], h2⟩
    · exact .inr ⟨j, e0, by simp [Instr.findKey, run_underlying hu, h1], h2, h3⟩
structure MC {α β : Type} (kf : α → Value) (vf : β → Value) (es : Array MapEntry) (clock : Nat) (m : List (α × β)) : Prop where
  kv : es.toList.map (fun e => (e.key, e.val)) = m.map (fun p => (kf p.1, vf p.2))
  nd : (m.map Prod.fst).Nodup
  bn : (es.toList.map MapEntry.born).Nodup
  old : ∀ e ∈ es.toList, e.born < clock
def mget {α β : Type} [DecidableEq α] (m : List (α × β)) (x : α) (z : β) : β := ((m.find? (fun p => decide (p.1 = x))).map Prod.snd).getD z
def mhas {α β : Type} [DecidableEq α] (m : List (α × β)) (x : α) : Bool := m.any (fun p => decide (p.1 = x))
def mins {α β : Type} [DecidableEq α] (m : List (α × β)) (x : α) (z : β) : List (α × β) := if mhas m x then m else m ++ [(x, z)]
def mset {α β : Type} [DecidableEq α] (m : List (α × β)) (x : α) (v : β) : List (α × β) := if mhas m x then m.map (fun p => if p.1 = x then (x, v) else p) else m ++ [(x, v)]
section
variable {α β : Type} [DecidableEq α] {m : List (α × β)} {x y : α} {v z : β}
theorem mhas_iff : mhas m x = true ↔ ∃ v, (x, v) ∈ m := by
  unfold mhas
  rw [List.any_eq_true]
  constructor
  · rintro ⟨p, hp, h⟩
    rw [decide_eq_true_iff] at h
    exact ⟨p.2, by rw [← h]; exact hp⟩
  · rintro ⟨v, hv⟩
    exact ⟨(x, v), hv, by simp⟩
theorem mget_cons {p : α × β} : mget (p :: m) x z = if p.1 = x then p.2 else mget m x z := by
  unfold mget
  rw [List.find?_cons]
  by_cases h : p.1 = x <;> simp [h]
theorem mget_none (h : mhas m x = false) : mget m x z = z := by
  induction m with
  | nil => rfl
  | cons p m ih =>
    unfold mhas at h ih
    rw [List.any_cons, Bool.or_eq_false_iff] at h
    rw [mget_cons, if_neg (by simpa using h.1), ih h.2]
theorem mget_app {n : List (α × β)} : mget (m ++ n) x z = if mhas m x then mget m x z else mget n x z := by
  induction m with
  | nil => simp [mhas]
  | cons p m ih =>
    rw [List.cons_append, mget_cons, mget_cons, ih]
    unfold mhas
    rw [List.any_cons]
    by_cases h : p.1 = x
    · simp [h]
    · rw [if_neg h]; simp only [h, decide_false, Bool.false_or]; rfl
theorem mget_set : mget (mset m x v) y z = if x = y then v else mget m y z := by
  unfold mset
  split
  · rename_i h
    induction m with
    | nil => simp [mhas] at h
    | cons p m ih =>
      rw [List.map_cons, mget_cons, mget_cons]
      by_cases hp : p.1 = x
      · rw [if_pos hp]
        by_cases e : x = y
        · simp [e]
        · simp only [e, if_false, hp]
          by_cases h2 : mhas m x = true
          · rw [ih h2, if_neg e]
          · have : m.map (fun p => if p.1 = x then (x, v) else p) = m := by
              conv => rhs; rw [← List.map_id m]
              refine List.map_congr_left fun q hq => ?_
              rw [if_neg]
              · rfl
              · intro e2
                exact h2 (mhas_iff.2 ⟨q.2, by rw [← e2]; exact hq⟩)
            rw [this]
      · rw [if_neg hp]
        have h2 : mhas m x = true := by
          unfold mhas at h ⊢
          rw [List.any_cons] at h
          simpa [hp] using h
        by_cases e : p.1 = y
        · rw [if_pos e, if_pos e, if_neg (fun e2 => hp (e.trans e2.symm))]
        · rw [if_neg e, if_neg e, ih h2]
  · rename_i h
    rw [mget_app]
    by_cases e : x = y
    · subst e
      rw [if_neg h, mget_cons, if_pos rfl, if_pos rfl]
    · rw [if_neg e, mget_cons, if_neg e]
      split
      · rfl
      · rename_i h2
        rw [mget_none (m := m) (by simpa using h2)]; rfl
theorem mhas_set : mhas (mset m x v) y = (mhas m y || decide (x = y)) := by
  unfold mset
  split
  · rename_i h
    have e : mhas (m.map (fun p => if p.1 = x then (x, v) else p)) y = mhas m y := by
      unfold mhas
      rw [List.any_map]
      congr 1
      funext p
      simp only [Function.comp]
      by_cases hp : p.1 = x
      · simp [hp]
      · simp [hp]
    rw [e]
    by_cases e : x = y
    · subst e; rw [h]; simp
    · simp [e]
  · unfold mhas; simp
theorem keys_ins : (mins m x z).map Prod.fst = if mhas m x then m.map Prod.fst else m.map Prod.fst ++ [x] := by
  unfold mins; split <;> simp
theorem nd_ins (h : (m.map Prod.fst).Nodup) : ((mins m x z).map Prod.fst).Nodup := by
  rw [keys_ins]
  split
  · exact h
  · rename_i hh
    rw [List.nodup_append]
    refine ⟨h, by simp, ?_⟩
    intro a ha b hb e
    simp only [List.mem_singleton] at hb
    subst hb e
    obtain ⟨p, hp, e⟩ := List.mem_map.1 ha
    exact hh (mhas_iff.2 ⟨p.2, by rw [← e]; exact hp⟩)
theorem keys_set : (mset m x v).map Prod.fst = if mhas m x then m.map Prod.fst else m.map Prod.fst ++ [x] := by
  unfold mset; split
  · rw [List.map_map]
    refine List.map_congr_left fun p hp => ?_
    simp only [Function.comp]
    by_cases h : p.1 = x
    · rw [if_pos h, h]
    · rw [if_neg h]
  · simp
theorem nd_set (h : (m.map Prod.fst).Nodup) : ((mset m x v).map Prod.fst).Nodup := by
  have := nd_ins (m := m) (x := x) (z := v) h
  rw [keys_ins] at this
  rw [keys_set]
  exact this
theorem mget_mem (h : (m.map Prod.fst).Nodup) (hm : (x, v) ∈ m) : mget m x z = v := by
  induction m with
  | nil => cases hm
  | cons p m ih =>
    rw [List.map_cons, List.nodup_cons] at h
    rw [mget_cons]
    rcases List.mem_cons.1 hm with rfl | hm
    · simp
    · rw [if_neg, ih h.2 hm]
      intro e
      exact h.1 (by rw [e]; exact List.mem_map.2 ⟨_, hm, rfl⟩)
end
end Go.SX
namespace Go.SX
open Go Go.RowKit
open Go.ChangeMaps (setBlock)
section
variable {α β : Type}
def mp (kf : α → Value) (vf : β → Value) (b : Nat) (m : List (α × β)) : Res where
  foot := [b]
  holds w := ∃ es clock, w.heap[b]? = some (.map es clock) ∧ MC kf vf es clock m
  stable w w' h hw := by rw [h b (by simp)]; exact hw
  lt w h b' hb := by
    simp at hb; subst hb
    obtain ⟨es, clock, h1, _⟩ := h
    exact lt_of_some h1
def mpk (kf : α → Value) (vf : β → Value) (b : Nat) (m : List (α × β)) (x : α) (n : Nat) : Res where
  foot := [b]
  holds w := ∃ es clock, w.heap[b]? = some (.map es clock) ∧ MC kf vf es clock m ∧ ∃ e ∈ es.toList, e.key = kf x ∧ e.born = n
  stable w w' h hw := by rw [h b (by simp)]; exact hw
  lt w h b' hb := by
    simp at hb; subst hb
    obtain ⟨es, clock, h1, _⟩ := h
    exact lt_of_some h1
def mpr (kf : α → Value) (vf : β → Value) (b r : Nat) (m left : List (α × β)) (cur : Option (α × β)) : Res where
  foot := [b, r]
  holds w := b ≠ r ∧ ∃ es clock since seen c0, w.heap[b]? = some (.map es clock) ∧ MC kf vf es clock m ∧ w.heap[r]? = some (.mapIter (some b) since seen c0) ∧ (∀ e ∈ es.toList, e.born < since) ∧ since ≤ c0 ∧ since ≤ clock ∧
    (leftOf es seen).toList.map (fun e => (e.key, e.val)) = left.map (fun p => (kf p.1, vf p.2)) ∧ (∀ p ∈ left, p ∈ m) ∧
    ∀ p, cur = some p → ∃ (s' : Array Nat) (e : MapEntry), e ∈ es.toList ∧ seen = s'.push e.born ∧ c0 = clock ∧ e.key = kf p.1 ∧ e.val = vf p.2
  stable w w' h hw := by rw [h b (by simp), h r (by simp)]; exact hw
  lt w h b' hb := by
    obtain ⟨_, es, clock, since, seen, c0, h1, _, h2, _⟩ := h
    simp at hb
    rcases hb with rfl | rfl
    · exact lt_of_some h1
    · exact lt_of_some h2
end
section
variable {V : Env} {P : Program} {Q : Exit → Act → World → Prop} {ops : Array Oper} {N : Nat} {o : Oper} {rest : List Oper} {L : List (Nat × Value)} {H R : List Res} {S : Nat → Prop} {wf : World} {K : St → Prop} {st : St} {C : World → Prop}
variable {α β : Type} [DecidableEq α] {vf : β → Value} {m : List (α × β)} {x : α} {v z : β} {b : Nat}
theorem MC.at {kf : α → Value} {es : Array MapEntry} {clock j : Nat} {e : MapEntry} (h : MC kf vf es clock m) (hj : es.toList[j]? = some e) : ∃ p, m[j]? = some p ∧ e.key = kf p.1 ∧ e.val = vf p.2 := by
  have := congrArg (fun l => l[j]?) h.kv
  simp only [List.getElem?_map, hj, Option.map_some] at this
  cases hm : m[j]? with
  | none => rw [hm] at this; cases this
  | some p =>
    rw [hm] at this
    simp only [Option.map_some, Option.some.injEq, Prod.mk.injEq] at this
    exact ⟨p, rfl, this.1, this.2⟩
theorem MC.keys {kf : α → Value} {es : Array MapEntry} {clock : Nat} (h : MC kf vf es clock m) : ∀ e ∈ es.toList, ∃ y, e.key = kf y := fun e he => by
  obtain ⟨j, hj⟩ := List.getElem?_of_mem he
  obtain ⟨p, _, h2, _⟩ := h.at hj
  exact ⟨p.1, h2⟩
theorem MC.len {kf : α → Value} {es : Array MapEntry} {clock : Nat} (h : MC kf vf es clock m) : es.toList.length = m.length := by
  have := congrArg List.length h.kv
  simpa using this
theorem MC.find {k : TypeId} {E : KE P k α} {es : Array MapEntry} {clock : Nat} (h : MC E.f vf es clock m) (w : World) (x : α) :
    ((Instr.findKey k (E.f x) es.toList).run P w = .ok none w ∧ mhas m x = false) ∨
    ∃ j e0 v, (Instr.findKey k (E.f x) es.toList).run P w = .ok (some (j, e0.val)) w ∧ es.toList[j]? = some e0 ∧ e0.key = E.f x ∧ m[j]? = some (x, v) ∧ e0.val = vf v ∧ mhas m x = true ∧ ∀ z, mget m x z = v := by
  rcases E.find w x es.toList h.keys with ⟨h1, h2⟩ | ⟨j, e0, h1, h2, h3⟩
  · refine .inl ⟨h1, ?_⟩
    rw [Bool.eq_false_iff]
    intro hm
    obtain ⟨v, hv⟩ := mhas_iff.1 hm
    obtain ⟨j, hj⟩ := List.getElem?_of_mem hv
    have hlt : j < es.toList.length := by rw [h.len]; exact (List.getElem?_eq_some_iff.1 hj).1
    obtain ⟨p, hp, h4, _⟩ := h.at (List.getElem?_eq_getElem hlt)
    rw [hj] at hp
    cases hp
    exact h2 _ (List.getElem_mem hlt) h4
  · obtain ⟨p, hp, h4, h5⟩ := h.at h2
    have hx : p.1 = x := E.inj _ _ (h4.symm.trans h3)
    have hp' : m[j]? = some (x, p.2) := by rw [hp, ← hx]
    exact .inr ⟨j, e0, p.2, h1, h2, h3, hp', h5, mhas_iff.2 ⟨p.2, List.mem_of_getElem? hp'⟩, fun z => mget_mem h.nd (List.mem_of_getElem? hp')⟩
theorem ev_lkp {t k e : TypeId} (E : KE P k α) {a y : Operand} (ho : o.op = .lookup t a y false) (hu : P.underlying t = some (.map k e)) (hz : (P.info? e).bind (fun i => i.zero) = some (vf z))
    (ha : lk L a = some (.map (some b))) (hy : lk L y = some (E.f x)) (i : Nat) (hi : H[i]? = some (mp E.f vf b m)) : Ev P (WW V S wf H) L o (vf (mget m x z)) :=
  ⟨by simp [ho, noSel], by simp [ho, Op.operands, known_of ha, known_of hy], fun w hw => by
    obtain ⟨es, clock, hb, hM⟩ := hw.has _ (List.mem_of_getElem? hi)
    obtain ⟨inf, hi1, hi2⟩ := Option.bind_eq_some_iff.1 hz
    have hzr : (zeroValue e).run P w = .ok (vf z) w := by simp [zeroValue, typeInfo, hi1, hi2]
    rcases hM.find w x with ⟨h1, h2⟩ | ⟨j, e0, u, h1, h2, h3, h4, h5, h6, h7⟩
    · simp [execOp, ho, ev_of ha, ev_of hy, Instr.lookup, run_underlying hu, MapKept.run_getObj_map hb, E.check, h1, hzr, Result.andThen, mget_none h2]
    · simp [execOp, ho, ev_of ha, ev_of hy, Instr.lookup, run_underlying hu, MapKept.run_getObj_map hb, E.check, h1, hzr, Result.andThen, h7, h5]⟩
theorem ev_lkpok {t k e : TypeId} (E : KE P k α) {a y : Operand} (ho : o.op = .lookup t a y true) (hu : P.underlying t = some (.map k e)) (hz : (P.info? e).bind (fun i => i.zero) = some (vf z))
    (ha : lk L a = some (.map (some b))) (hy : lk L y = some (E.f x)) (i : Nat) (hi : H[i]? = some (mp E.f vf b m)) : Ev P (WW V S wf H) L o (.tuple #[vf (mget m x z), .bool (mhas m x)]) :=
  ⟨by simp [ho, noSel], by simp [ho, Op.operands, known_of ha, known_of hy], fun w hw => by
    obtain ⟨es, clock, hb, hM⟩ := hw.has _ (List.mem_of_getElem? hi)
    obtain ⟨inf, hi1, hi2⟩ := Option.bind_eq_some_iff.1 hz
    have hzr : (zeroValue e).run P w = .ok (vf z) w := by simp [zeroValue, typeInfo, hi1, hi2]
    rcases hM.find w x with ⟨h1, h2⟩ | ⟨j, e0, u, h1, h2, h3, h4, h5, h6, h7⟩
    · simp [execOp, ho, ev_of ha, ev_of hy, Instr.lookup, run_underlying hu, MapKept.run_getObj_map hb, E.check, h1, hzr, Result.andThen, mget_none h2, h2]
    · simp [execOp, ho, ev_of ha, ev_of hy, Instr.lookup, run_underlying hu, MapKept.run_getObj_map hb, E.check, h1, hzr, Result.andThen, h7, h5, h6]⟩
theorem st_mkmap {t : TypeId} (kf : α → Value) (vf : β → Value) {d : Nat} (ho : o.op = .makeMap t none) (hg : o.guard = none) (hd : o.dst = some d) (hdN : Nat.blt d N = true)
    (k : ∀ b, K ⟨(d, .map (some b)) :: L, mp kf vf b [] :: H, S, wf⟩) : OpStep V P Q ops N o ⟨L, H, S, wf⟩ K :=
  .act hg hd hdN (by simp [ho, noSel]) (by rw [ho]; simp [Op.operands]) fun w hw => by
    refine ⟨_, _, _, by simp [execOp, ho, Instr.makeMap, newObj, Sem.run]; rfl, ?_, k w.heap.size⟩
    refine WW.change (C := []) (R := H) (C' := [mp kf vf w.heap.size []]) hw (fun b hb _ => Below.heap_alloc w _ b hb) (by simp) ?_ (by simp [mp]) (fun b hb => .inr ?_) rfl rfl rfl
    · intro r hr
      simp only [List.mem_singleton] at hr
      subst hr
      exact ⟨#[], 0, heap_alloc_new w _, ⟨by simp, by simp, by simp, by simp⟩⟩
    · simp [mp] at hb
      omega
theorem heap_setBlock_ne (w : World) (b : Nat) (o : Obj) (b' : Nat) (h : b' ≠ b) : (setBlock w b o).heap[b']? = w.heap[b']? := by
  simp [setBlock, Array.getElem?_setIfInBounds, Ne.symm h]
theorem heap_setBlock_at {w : World} {b : Nat} {o o' : Obj} (h : w.heap[b]? = some o) : (setBlock w b o').heap[b]? = some o' := by
  simp [setBlock, Array.getElem?_setIfInBounds, lt_of_some h]
theorem WW.setBlock {w : World} {r r' : Res} {o' : Obj} {o1 : Obj} (hw : WW V S wf (r :: R) w) (hf : r.foot = [b]) (hf' : r'.foot = [b]) (hb : w.heap[b]? = some o1) (h : r'.holds (setBlock w b o')) : WW V S wf (r' :: R) (setBlock w b o') := by
  refine WW.change (C := [r]) (R := R) (C' := [r']) hw (fun b' _ hn => heap_setBlock_ne _ _ _ _ (by simpa [hf] using hn)) (by simp [ChangeMaps.setBlock]) ?_ (by simp [hf']) (fun b' hb' => .inl (by simpa [hf, hf'] using hb')) rfl rfl rfl
  intro q hq
  simp only [List.mem_singleton] at hq
  subst hq
  exact h
theorem MC.push {kf : α → Value} {es : Array MapEntry} {clock : Nat} (h : MC kf vf es clock m) (hx : mhas m x = false) : MC kf vf (es.push ⟨kf x, vf v, clock⟩) (clock + 1) (m ++ [(x, v)]) where
  kv := by simp [h.kv]
  nd := by
    have := nd_ins (z := v) (x := x) h.nd
    unfold mins at this
    rwa [if_neg (by simp [hx])] at this
  bn := by
    rw [Array.toList_push, List.map_append, List.nodup_append]
    refine ⟨h.bn, by simp, ?_⟩
    intro a ha c hc e
    obtain ⟨e0, he0, rfl⟩ := List.mem_map.1 ha
    simp at hc
    have := h.old e0 he0
    omega
  old e he := by
    rw [Array.toList_push, List.mem_append] at he
    rcases he with he | he
    · have := h.old e he; omega
    · simp at he; subst he; simp
theorem set_map {kf : α → Value} {j : Nat} {u : β} (hn : (m.map Prod.fst).Nodup) (h : m[j]? = some (x, u)) : m.set j (x, v) = mset m x v := by
  have hm : mhas m x = true := mhas_iff.2 ⟨u, List.mem_of_getElem? h⟩
  unfold mset
  rw [if_pos hm]
  refine List.ext_getElem? fun i => ?_
  rw [List.getElem?_map]
  by_cases hij : j = i
  · subst hij
    rw [List.getElem?_set_self (List.getElem?_eq_some_iff.1 h).1, h]
    simp
  · rw [List.getElem?_set_ne hij]
    cases hi : m[i]? with
    | none => rfl
    | some p =>
      simp only [Option.map_some, Option.some.injEq]
      rw [if_neg]
      intro e
      have h1 : (m.map Prod.fst)[i]? = some x := by simp [hi, e]
      have h2 : (m.map Prod.fst)[j]? = some x := by simp [h]
      have hlt : i < (m.map Prod.fst).length := (List.getElem?_eq_some_iff.1 h1).1
      exact hij ((List.getElem?_inj hlt hn).1 (h1.trans h2.symm)).symm
theorem MC.set {kf : α → Value} {es : Array MapEntry} {clock j : Nat} {e0 : MapEntry} {u : β} (h : MC kf vf es clock m) (hj : es.toList[j]? = some e0) (hk : e0.key = kf x) (hm : m[j]? = some (x, u)) :
    MC kf vf (es.modify j (fun e => { e with val := vf v })) clock (mset m x v) := by
  have hl : (es.modify j (fun e => { e with val := vf v })).toList = es.toList.set j { e0 with val := vf v } := by rw [Array.toList_modify, ChangeMaps.modify_eq_set _ _ _ _ hj]
  have hlt := (List.getElem?_eq_some_iff.1 hj).1
  have hg := (List.getElem?_eq_some_iff.1 hj).2
  refine ⟨?_, nd_set h.nd, ?_, ?_⟩
  · rw [hl, List.map_set, h.kv, ← set_map (kf := kf) h.nd hm, List.map_set, hk]
  · rw [hl, List.map_set]
    have : (es.toList.map MapEntry.born).set j e0.born = es.toList.map MapEntry.born := by
      have e1 : e0.born = (es.toList.map MapEntry.born)[j]'(by simpa using hlt) := by simp [hg]
      rw [e1, List.set_getElem_self]
    show ((es.toList.map MapEntry.born).set j e0.born).Nodup
    rw [this]; exact h.bn
  · intro e he
    rw [hl] at he
    rcases List.mem_or_eq_of_mem_set he with he | rfl
    · exact h.old e he
    · exact h.old e0 (List.mem_of_getElem? hj)
end
end Go.SX
namespace Go.SX
open Go Go.RowKit
open Go.ChangeMaps (setBlock)
section
variable {V : Env} {P : Program} {Q : Exit → Act → World → Prop} {ops : Array Oper} {N : Nat} {o : Oper} {rest : List Oper} {L : List (Nat × Value)} {H R : List Res} {S : Nat → Prop} {wf : World} {K : St → Prop} {st : St} {C : World → Prop}
variable {α β : Type} [DecidableEq α] {vf : β → Value} {m : List (α × β)} {x : α} {v z : β} {b : Nat}
theorem MC.same {kf : α → Value} {es : Array MapEntry} {clock j : Nat} {e0 : MapEntry} (h : MC kf vf es clock m) (hj : es.toList[j]? = some e0) : es.modify j (fun e => { e with key := e0.key }) = es := by
  apply Array.toList_inj.1
  rw [Array.toList_modify, ChangeMaps.modify_eq_set _ _ _ _ hj]
  have hlt := (List.getElem?_eq_some_iff.1 hj).1
  have hg := (List.getElem?_eq_some_iff.1 hj).2
  show es.toList.set j e0 = es.toList
  rw [← hg, List.set_getElem_self]
theorem run_stays {k : TypeId} (E : KE P k α) (w : World) (x : α) : (Instr.keyThatStays (E.f x) (E.f x)).run P w = .ok (E.f x) w := by
  simp [Instr.keyThatStays, E.bits x]
theorem st_mapEntry {t k e : TypeId} (E : KE P k α) {a y : Operand} {d : Nat} (ho : o.op = .mapEntry t a y) (hg : o.guard = none) (hd : o.dst = some d) (hdN : Nat.blt d N = true) (hu : P.underlying t = some (.map k e)) (hz : (P.info? e).bind (fun i => i.zero) = some (vf z))
    (ha : lk L a = some (.map (some b))) (hy : lk L y = some (E.f x)) (hp : Pick H (mp E.f vf b m) R)
    (kx : ∀ u n, K ⟨(d, .tuple #[u, .int .i64 ((n : Nat) : Int)]) :: L, mpk E.f vf b (mins m x z) x n :: R, S, wf⟩) : OpStep V P Q ops N o ⟨L, H, S, wf⟩ K :=
  .act hg hd hdN (by simp [ho, noSel]) (by simp [ho, Op.operands, known_of ha, known_of hy]) fun w hw => by
    have hw' := hw.perm hp.perm
    obtain ⟨es, clock, hb, hM⟩ := hw'.has _ (List.mem_cons_self ..)
    obtain ⟨inf, hi1, hi2⟩ := Option.bind_eq_some_iff.1 hz
    have hzr : (zeroValue e).run P w = .ok (vf z) w := by simp [zeroValue, typeInfo, hi1, hi2]
    rcases hM.find w x with ⟨h1, h2⟩ | ⟨j, e0, u, h1, h2, h3, h4, h5, h6, h7⟩
    · refine ⟨.tuple #[vf z, .int .i64 ((clock : Nat) : Int)], setBlock w b (.map (es.push ⟨E.f x, vf z, clock⟩) (clock + 1)), mpk E.f vf b (mins m x z) x clock :: R, ?_, hw'.setBlock rfl rfl hb ?_, kx _ clock⟩
      · simp [execOp, ho, ev_of ha, ev_of hy, Instr.mapEntry, run_underlying hu, MapKept.run_getObj_map hb, E.check, h1, hzr, MapKept.run_setObj_map _ hb, Result.andThen, setBlock, goInt]
      · have hm : mins m x z = m ++ [(x, z)] := by unfold mins; rw [if_neg (by simp [h2])]
        exact ⟨_, _, heap_setBlock_at hb, by rw [hm]; exact hM.push h2, ⟨E.f x, vf z, clock⟩, by simp, rfl, rfl⟩
    · have hj : es[j]? = some e0 := by simpa using h2
      refine ⟨.tuple #[e0.val, .int .i64 ((e0.born : Nat) : Int)], setBlock w b (.map (es.modify j fun e => { e with key := e0.key }) clock), mpk E.f vf b (mins m x z) x e0.born :: R, ?_, hw'.setBlock rfl rfl hb ?_, kx _ e0.born⟩
      · simp [execOp, ho, ev_of ha, ev_of hy, Instr.mapEntry, run_underlying hu, MapKept.run_getObj_map hb, E.check, h1, hj, h3, run_stays E, MapKept.run_setObj_map _ hb, Result.andThen, setBlock, goInt]
      · have hm : mins m x z = m := by unfold mins; rw [if_pos h6]
        rw [hM.same h2, hm]
        exact ⟨_, _, heap_setBlock_at hb, hM, e0, List.mem_of_getElem? h2, h3, rfl⟩
theorem find_of_born {es : Array MapEntry} {j : Nat} {e0 : MapEntry} (hn : (es.toList.map MapEntry.born).Nodup) (hj : es.toList[j]? = some e0) : es.findIdx? (fun e => ((e.born : Nat) : Int) == ((e0.born : Nat) : Int)) = some j := by
  have hlt := (List.getElem?_eq_some_iff.1 hj).1
  have hg := (List.getElem?_eq_some_iff.1 hj).2
  rw [Array.findIdx?_eq_some_iff_getElem]
  have hlt' : j < es.size := by simpa using hlt
  have hg' : es[j] = e0 := hg
  refine ⟨hlt', by simp [hg'], fun i hi => ?_⟩
  have hne : es[i].born ≠ e0.born := by
    intro e
    have h1 : (es.toList.map MapEntry.born)[i]? = some e0.born := by
      have hi' : i < es.toList.length := by omega
      have e' : es.toList[i].born = e0.born := e
      simp only [List.getElem?_map, List.getElem?_eq_getElem hi', Option.map_some, e']
    have h2 : (es.toList.map MapEntry.born)[j]? = some e0.born := by simp only [List.getElem?_map, hj, Option.map_some]
    have := (List.getElem?_inj (List.getElem?_eq_some_iff.1 h1).1 hn).1 (h1.trans h2.symm)
    omega
  simp only [beq_iff_eq, Int.natCast_inj]
  exact hne
theorem st_entryStore {t k : TypeId} (E : KE P k α) {a s y : Operand} {n : Nat} {u : Value} (ho : o.op = .entryStore t a s y) (hg : o.guard = none) (hd : o.dst = none)
    (ha : lk L a = some (.map (some b))) (hs : lk L s = some (.int .i64 ((n : Nat) : Int))) (hy : lk L y = some (vf v)) (hp : Pick H (mpk E.f vf b m x n) R)
    (kx : K ⟨L, mp E.f vf b (mset m x v) :: R, S, wf⟩) : OpStep V P Q ops N o ⟨L, H, S, wf⟩ K :=
  .eff hg hd (by simp [ho, noSel]) (by simp [ho, Op.operands, known_of ha, known_of hs, known_of hy]) fun w hw => by
    have hw' := hw.perm hp.perm
    obtain ⟨es, clock, hb, hM, e0, he0, hk0, hb0⟩ := hw'.has _ (List.mem_cons_self ..)
    obtain ⟨j, hj⟩ := List.getElem?_of_mem he0
    obtain ⟨p, hpm, h4, h5⟩ := hM.at hj
    have hx : p.1 = x := E.inj _ _ (h4.symm.trans hk0)
    have hfi := find_of_born hM.bn hj
    subst hb0
    refine ⟨setBlock w b (.map (es.modify j fun e => { e with val := vf v }) clock), mp E.f vf b (mset m x v) :: R, ?_, hw'.setBlock rfl rfl hb ?_, kx⟩
    · simp [execOp, ho, ev_of ha, ev_of hs, ev_of hy, Instr.entryStore, MapKept.run_getObj_map hb, asInt, asIntOf, hfi, MapKept.run_setObj_map _ hb, Result.andThen, setBlock]
    · exact ⟨_, _, heap_setBlock_at hb, hM.set hj hk0 (u := p.2) (by rw [hpm, ← hx])⟩
theorem st_mapSet {t k e : TypeId} (E : KE P k α) {a s y : Operand} {u : Value} (ho : o.op = .mapUpdate t a s y) (hg : o.guard = none) (hd : o.dst = none) (hu : P.underlying t = some (.map k e))
    (ha : lk L a = some (.map (some b))) (hs : lk L s = some (E.f x)) (hy : lk L y = some (vf v)) (hp : Pick H (mp E.f vf b m) R)
    (kx : K ⟨L, mp E.f vf b (mset m x v) :: R, S, wf⟩) : OpStep V P Q ops N o ⟨L, H, S, wf⟩ K :=
  .eff hg hd (by simp [ho, noSel]) (by simp [ho, Op.operands, known_of ha, known_of hs, known_of hy]) fun w hw => by
    have hw' := hw.perm hp.perm
    obtain ⟨es, clock, hb, hM⟩ := hw'.has _ (List.mem_cons_self ..)
    rcases hM.find w x with ⟨h1, h2⟩ | ⟨j, e0, u, h1, h2, h3, h4, h5, h6, h7⟩
    · refine ⟨setBlock w b (.map (es.push ⟨E.f x, vf v, clock⟩) (clock + 1)), mp E.f vf b (mset m x v) :: R, ?_, hw'.setBlock rfl rfl hb ?_, kx⟩
      · simp [execOp, ho, ev_of ha, ev_of hs, ev_of hy, Instr.mapUpdate, run_underlying hu, MapKept.run_getObj_map hb, E.check, h1, MapKept.run_setObj_map _ hb, Result.andThen, setBlock]
      · have hm : mset m x v = m ++ [(x, v)] := by unfold mset; rw [if_neg (by simp [h2])]
        exact ⟨_, _, heap_setBlock_at hb, by rw [hm]; exact hM.push h2⟩
    · have hj : es[j]? = some e0 := by simpa using h2
      have hmod : es.modify j (fun e => { e with key := E.f x, val := vf v }) = es.modify j (fun e => { e with val := vf v }) := by
        apply Array.toList_inj.1
        rw [Array.toList_modify, Array.toList_modify, ChangeMaps.modify_eq_set _ _ _ _ h2, ChangeMaps.modify_eq_set _ _ _ _ h2, ← h3]
      refine ⟨setBlock w b (.map (es.modify j fun e => { e with key := E.f x, val := vf v }) clock), mp E.f vf b (mset m x v) :: R, ?_, hw'.setBlock rfl rfl hb ?_, kx⟩
      · simp [execOp, ho, ev_of ha, ev_of hs, ev_of hy, Instr.mapUpdate, run_underlying hu, MapKept.run_getObj_map hb, E.check, h1, hj, h3, run_stays E, MapKept.run_setObj_map _ hb, Result.andThen, setBlock]
      · rw [hmod]
        exact ⟨_, _, heap_setBlock_at hb, hM.set h2 h3 h4⟩
theorem st_range {t k e : TypeId} (E : KE P k α) {a : Operand} {d : Nat} (ho : o.op = .range t a) (hg : o.guard = none) (hd : o.dst = some d) (hdN : Nat.blt d N = true) (hu : P.underlying t = some (.map k e))
    (ha : lk L a = some (.map (some b))) (hp : Pick H (mp E.f vf b m) R)
    (kx : ∀ r, K ⟨(d, .pointer (some ⟨r, 0, none⟩)) :: L, mpr E.f vf b r m m none :: R, S, wf⟩) : OpStep V P Q ops N o ⟨L, H, S, wf⟩ K :=
  .act hg hd hdN (by simp [ho, noSel]) (by simp [ho, Op.operands, known_of ha]) fun w hw => by
    have hw' := hw.perm hp.perm
    obtain ⟨es, clock, hb, hM⟩ := hw'.has _ (List.mem_cons_self ..)
    have hlt := lt_of_some hb
    refine ⟨.pointer (some ⟨w.heap.size, 0, none⟩), w.alloc (.mapIter (some b) clock #[] clock), mpr E.f vf b w.heap.size m m none :: R, ?_, ?_, kx _⟩
    · simp [execOp, ho, ev_of ha, Instr.range, run_underlying hu, MapKept.run_getObj_map hb, newObj, Sem.run, Result.andThen]
    · refine WW.change (C := [mp E.f vf b m]) (R := R) (C' := [mpr E.f vf b w.heap.size m m none]) hw' (fun b' hb' _ => Below.heap_alloc w _ b' hb') (by simp) ?_ ?_ ?_ rfl rfl rfl
      · intro r hr
        simp only [List.mem_singleton] at hr
        subst hr
        refine ⟨by omega, es, clock, clock, #[], clock, ?_, hM, heap_alloc_new w _, hM.old, Nat.le_refl _, Nat.le_refl _, ?_, fun p hp => hp, fun p hp => by cases hp⟩
        · rw [Below.heap_alloc w _ b hlt]; exact hb
        · have : leftOf es #[] = es := by
            unfold leftOf
            exact Array.filter_eq_self.2 (fun x _ => by simp)
          rw [this]; exact hM.kv
      · simp [mpr]; omega
      · intro b' hb'
        simp [mpr] at hb'
        rcases hb' with rfl | rfl
        · exact .inl (by simp [mp])
        · exact .inr (Nat.le_refl _)
end
end Go.SX
namespace Go.SX
open Go Go.RowKit
open Go.ChangeMaps (setBlock)
theorem nodup_inj {α β : Type} {f : α → β} {l : List α} (h : (l.map f).Nodup) {a b : α} (ha : a ∈ l) (hb : b ∈ l) (e : f a = f b) : a = b := by
  obtain ⟨i, hi⟩ := List.getElem?_of_mem ha
  obtain ⟨j, hj⟩ := List.getElem?_of_mem hb
  have h1 : (l.map f)[i]? = some (f a) := by simp [hi]
  have h2 : (l.map f)[j]? = some (f a) := by simp [hj, e]
  have := (List.getElem?_inj (List.getElem?_eq_some_iff.1 h1).1 h).1 (h1.trans h2.symm)
  subst this
  rw [hi] at hj
  injection hj
theorem nodup_map_inj {α β : Type} {f : α → β} (hf : ∀ x y, f x = f y → x = y) : ∀ {l : List α}, l.Nodup → (l.map f).Nodup
  | [], _ => by simp
  | a :: l, h => by
    rw [List.nodup_cons] at h
    rw [List.map_cons, List.nodup_cons]
    refine ⟨fun hm => ?_, nodup_map_inj hf h.2⟩
    obtain ⟨b, hb, e⟩ := List.mem_map.1 hm
    exact h.1 (hf _ _ e ▸ hb)
theorem left_push (es : Array MapEntry) (seen : Array Nat) (n : Nat) : (leftOf es (seen.push n)).toList = (leftOf es seen).toList.filter (fun e => decide (e.born ≠ n)) := by
  unfold leftOf
  rw [Array.toList_filter, Array.toList_filter, List.filter_filter]
  congr 1
  funext e
  rw [Bool.eq_iff_iff]
  simp
  constructor <;> (intro h; exact ⟨h.2, h.1⟩)
theorem left_sub {es : Array MapEntry} {seen : Array Nat} {e : MapEntry} (h : e ∈ (leftOf es seen).toList) : e ∈ es.toList := by
  unfold leftOf at h
  rw [Array.toList_filter] at h
  exact (List.mem_filter.1 h).1
section
variable {V : Env} {P : Program} {Q : Exit → Act → World → Prop} {ops : Array Oper} {N : Nat} {o : Oper} {rest : List Oper} {L : List (Nat × Value)} {H R : List Res} {S : Nat → Prop} {wf : World} {K : St → Prop} {st : St} {C : World → Prop}
variable {α β : Type} [DecidableEq α] {vf : β → Value} {m left : List (α × β)} {x : α} {v z : β} {b r : Nat} {cur : Option (α × β)}
theorem filter_kv {kf : α → Value} {x : α} {n : Nat} : ∀ (A : List MapEntry) (l : List (α × β)), A.map (fun e => (e.key, e.val)) = l.map (fun p => (kf p.1, vf p.2)) → (∀ e ∈ A, ∀ y, e.key = kf y → (e.born ≠ n ↔ y ≠ x)) →
    (A.filter (fun e => decide (e.born ≠ n))).map (fun e => (e.key, e.val)) = (l.filter (fun p => decide (p.1 ≠ x))).map (fun p => (kf p.1, vf p.2))
  | [], [], _, _ => rfl
  | [], p :: l, h, _ => by simp at h
  | e :: A, [], h, _ => by simp at h
  | e :: A, p :: l, h, hk => by
    simp only [List.map_cons, List.cons.injEq, Prod.mk.injEq] at h
    obtain ⟨⟨h1, h2⟩, h3⟩ := h
    have ih := filter_kv A l h3 (fun e he => hk e (by simp [he]))
    have hb := hk e (by simp) p.1 h1
    by_cases hx : p.1 = x
    · have hn : e.born = n := by
        refine Classical.byContradiction fun hn => ?_
        exact hb.1 hn hx
      rw [List.filter_cons_of_neg (by simp [hn]), List.filter_cons_of_neg (by simp [hx])]; exact ih
    · have hn := hb.2 hx
      rw [List.filter_cons_of_pos (by simp [hn]), List.filter_cons_of_pos (by simp [hx]), List.map_cons, List.map_cons, h1, h2, ih]
theorem st_next {k : TypeId} (E : KE P k α) {a : Operand} {d : Nat} (ho : o.op = .next a false) (hg : o.guard = none) (hd : o.dst = some d) (hdN : Nat.blt d N = true)
    (ha : lk L a = some (.pointer (some ⟨r, 0, none⟩))) (hp : Pick H (mpr E.f vf b r m left cur) R)
    (k0 : left = [] → K ⟨(d, .tuple #[.bool false]) :: L, mpr E.f vf b r m left cur :: R, S, wf⟩)
    (k1 : ∀ x v, (x, v) ∈ left → (x, v) ∈ m → K ⟨(d, .tuple #[.bool true, E.f x, vf v]) :: L, mpr E.f vf b r m (left.filter (fun p => decide (p.1 ≠ x))) (some (x, v)) :: R, S, wf⟩) : OpStep V P Q ops N o ⟨L, H, S, wf⟩ K :=
  .act hg hd hdN (by simp [ho, noSel]) (by simp [ho, Op.operands, known_of ha]) fun w hw => by
    have hw' := hw.perm hp.perm
    obtain ⟨hbr, es, clock, since, seen, c0, hb, hM, hr, hold, h1, h2, hleft, hsub, hcur⟩ := hw'.has _ (List.mem_cons_self ..)
    rcases run_next_at (P := P) w o.type r b since c0 seen es clock hr hb hold h1 with ⟨h3, h4⟩ | ⟨e, he, w1, hw1, h4⟩
    · have hl : left = [] := by
        have h5 := congrArg List.length hleft
        simp only [List.length_map, Array.length_toList, h3] at h5
        exact List.length_eq_zero_iff.1 h5.symm
      exact ⟨_, w, _, by simp [execOp, ho, ev_of ha, h4], hw', k0 hl⟩
    · obtain ⟨j, hj⟩ := List.getElem?_of_mem he
      have hkv := congrArg (fun l => l[j]?) hleft
      simp only [List.getElem?_map, hj, Option.map_some] at hkv
      cases hlj : left[j]? with
      | none => rw [hlj] at hkv; cases hkv
      | some p =>
        rw [hlj] at hkv
        simp only [Option.map_some, Option.some.injEq, Prod.mk.injEq] at hkv
        obtain ⟨hk1, hk2⟩ := hkv
        have hes := left_sub he
        have hw1' : WW V S wf (mpr E.f vf b r m left cur :: R) w1 := by
          rcases hw1 with rfl | rfl
          · exact hw'
          · exact hw'.drew
        have hb1 : w1.heap[b]? = some (.map es clock) := by rcases hw1 with rfl | rfl <;> exact hb
        have hr1 : w1.heap[r]? = some (.mapIter (some b) since seen c0) := by rcases hw1 with rfl | rfl <;> exact hr
        have hpl : (p.1, p.2) ∈ left := List.mem_of_getElem? hlj
        have hpm : (p.1, p.2) ∈ m := hsub _ hpl
        refine ⟨.tuple #[.bool true, E.f p.1, vf p.2], setBlock w1 r (.mapIter (some b) since (seen.push e.born) clock), mpr E.f vf b r m (left.filter (fun q => decide (q.1 ≠ p.1))) (some (p.1, p.2)) :: R, ?_, ?_, k1 p.1 p.2 (List.mem_of_getElem? hlj) hpm⟩
        · rw [hk1, hk2] at h4
          simp [execOp, ho, ev_of ha, h4]
        · refine WW.change (C := [mpr E.f vf b r m left cur]) (R := R) (C' := [mpr E.f vf b r m (left.filter (fun q => decide (q.1 ≠ p.1))) (some (p.1, p.2))]) hw1' (fun b' _ hn => heap_setBlock_ne _ _ _ _ (fun e => hn (by simp [mpr, e]))) (by simp [setBlock]) ?_ (by simp [mpr]; exact hbr) (fun b' hb' => .inl (by simpa [mpr] using hb')) rfl rfl rfl
          intro q hq
          simp only [List.mem_singleton] at hq
          subst hq
          refine ⟨hbr, es, clock, since, seen.push e.born, clock, ?_, hM, heap_setBlock_at hr1, hold, h2, h2, ?_, fun q hq => hsub q (List.mem_filter.1 hq).1, fun q hq => ?_⟩
          · rw [heap_setBlock_ne _ _ _ _ hbr]; exact hb1
          · rw [left_push]
            refine filter_kv _ _ hleft fun e1 he1 y hy => ?_
            have hes1 := left_sub he1
            constructor
            · intro hne hyx
              subst hyx
              have hkk : (es.toList.map MapEntry.key).Nodup := by
                have h6 : es.toList.map MapEntry.key = (m.map Prod.fst).map E.f := by
                  have := congrArg (List.map Prod.fst) hM.kv
                  simpa [List.map_map, Function.comp_def] using this
                rw [h6]
                exact nodup_map_inj E.inj hM.nd
              exact hne (congrArg MapEntry.born (nodup_inj hkk hes1 hes (hy.trans hk1.symm)))
            · intro hne hbb
              have := nodup_inj hM.bn hes1 hes hbb
              subst this
              exact hne (E.inj _ _ (hy.symm.trans hk1))
          · cases hq
            exact ⟨seen, e, hes, rfl, rfl, hk1, hk2⟩
theorem ev_entry {k : TypeId} (E : KE P k α) {a : Operand} {x : α} {v : β} (ho : o.op = .entry a) (ha : lk L a = some (.pointer (some ⟨r, 0, none⟩))) (i : Nat) (hi : H[i]? = some (mpr E.f vf b r m left (some (x, v)))) : Ev P (WW V S wf H) L o (.tuple #[E.f x, vf v]) :=
  ⟨by simp [ho, noSel], by simp [ho, Op.operands, known_of ha], fun w hw => by
    obtain ⟨hbr, es, clock, since, seen, c0, hb, hM, hr, hold, h1, h2, hleft, hsub, hcur⟩ := hw.has _ (List.mem_of_getElem? hi)
    obtain ⟨s', e, he, rfl, rfl, hk, hv⟩ := hcur _ rfl
    have := run_entry_at (P := P) w r b since s' es c0 e hr hb he hM.bn
    simp [execOp, ho, ev_of ha, this, hk, hv]⟩
end
end Go.SX
namespace Go.SX
theorem mfilter_lt {α β : Type} [DecidableEq α] {l : List (α × β)} {x : α} {v : β} (h : (x, v) ∈ l) : (l.filter (fun p => decide (p.1 ≠ x))).length < l.length := by
  rcases Nat.lt_or_ge (l.filter (fun p => decide (p.1 ≠ x))).length l.length with h1 | h1
  · exact h1
  · have h2 : l.filter (fun p => decide (p.1 ≠ x)) = l := (List.filter_sublist).eq_of_length_le h1
    rw [List.filter_eq_self] at h2
    have := h2 _ h
    simp at this
end Go.SX
namespace Go.SX
theorem SQ.roundb {V : Env} {N : Nat} {st : St} {X : Type} {I : X → Prop} {Lf : X → List (Nat × Value)} {Hf : X → List Res} {Sf : X → Nat → Prop} {Wf : X → World} {μ : X → Nat} {x : X} (y : X) (hi : I y) (hm : μ y < μ x)
    (hL : ∀ k v, lkp (Lf y) k = some v → lkp st.L k = some v) (hw : ∀ w, WW V st.S st.wf st.H w → WW V (Sf y) (Wf y) (Hf y) w) :
    SQ V (fun a w => ∃ y, (I y ∧ μ y < μ x) ∧ SL N (Lf y) a ∧ WW V (Sf y) (Wf y) (Hf y) w) N st :=
  fun a w hs hw' => ⟨y, ⟨hi, hm⟩, hs.mono hL, hw w hw'⟩
end Go.SX
namespace Go.SX
open Go Go.RowKit Go.Lib
section
variable {V : Env} {P : Program} {Q : Exit → Act → World → Prop} {ops : Array Oper} {N : Nat} {o : Oper} {rest : List Oper} {L : List (Nat × Value)} {H R : List Res} {S : Nat → Prop} {wf : World} {K : St → Prop} {st : St} {C : World → Prop}
def bnd (k : IntKind) (x y : Int) : Int := k.wrap (BitVec.ofInt k.bits x &&& BitVec.ofInt k.bits y).toNat
theorem ev_band {t t' : TypeId} {x y : Operand} {k : IntKind} {a b : Int} (ho : o.op = .binOp .and t x y t') (hx : lk L x = some (.int k a)) (hy : lk L y = some (.int k b)) : Ev P C L o (.int k (bnd k a b)) :=
  ev_bin ho hx hy (fun w => by simp [eqGuard, binOp, Op.intBits, bnd, pure])
theorem ev_shr {t t' : TypeId} {x y : Operand} {k k' : IntKind} {a r : Int} {n : Int} (ho : o.op = .binOp .shr t x y t') (hx : lk L x = some (.int k a)) (hy : lk L y = some (.int k' n)) (h0 : 0 ≤ n) (hr : a.fdiv (2 ^ (min n.toNat k.bits)) = r) : Ev P C L o (.int k r) :=
  ev_bin ho hx hy (fun w => by subst hr; simp [eqGuard, binOp, Op.shift, pure, show ¬ n < 0 by omega])
theorem made_ints (q : IntKind) : ∀ n, (madeCells (Value.int q 0).cells n).toList = flat (eI q) (List.replicate n 0) := by
  intro n
  have h1 : (madeCells (Value.int q 0).cells n).toList = List.replicate n (.int q 0) := by
    have hc : (Value.int q 0).cells = #[.int q 0] := rfl
    unfold madeCells
    rw [hc, Array.toList_map, Array.toList_range]
    refine List.ext_getElem (by simp) fun i h1 h2 => ?_
    simp [Nat.mod_one]
  rw [h1]
  clear h1
  induction n with
  | zero => rfl
  | succ n ih => rw [List.replicate_succ, List.replicate_succ, flat_cons, ih]; rfl
theorem st_mkints {t e : TypeId} {x y : Operand} {q kk : IntKind} {n : Nat} {a : Int} {bytes : Nat} {d : Nat} (ho : o.op = .makeSlice t x y) (hg : o.guard = none) (hd : o.dst = some d) (hdN : Nat.blt d N = true) (ht : P.underlying t = some (.slice e)) (hi : (P.info? e).map (fun i => (i.zero, i.size, i.bytes)) = some (some (.int q 0), 1, bytes))
    (hx : lk L x = some (.int kk a)) (hy : lk L y = some (.int kk a)) (ha : a = (n : Int)) (hb : n * bytes ≤ 1073741824) (hb1 : Nat.ble 1 bytes = true)
    (k : ∀ b, K ⟨(d, .slice (some ⟨b, 0, none⟩) n n) :: L, rw_ (eI q) e (.slice (some ⟨b, 0, none⟩) n n) (List.replicate n 0) :: H, S, wf⟩) : OpStep V P Q ops N o ⟨L, H, S, wf⟩ K := by
  subst ha
  have hb1 := Nat.le_of_ble_eq_true hb1
  have hn : n ≤ 1073741824 := Nat.le_trans (by have := Nat.mul_le_mul_left n hb1; omega) hb
  refine .act hg hd hdN (by simp [ho, noSel]) (by simp [ho, Op.operands, known_of hx, known_of hy]) fun w hw => ?_
  obtain ⟨i, hi, hq⟩ := Option.map_eq_some_iff.1 hi
  simp only [Prod.mk.injEq] at hq
  have hbb : ((i.bytes : Nat) : Int) * (n : Int) ≤ 281474976710656 := by
    rw [hq.2.2, ← Int.natCast_mul, Nat.mul_comm]; omega
  have hr := run_make (P := P) w t e i (.int q 0) ht hi hq.1 kk kk n n (by omega) (Int.le_refl _) hbb (by omega)
  simp only [Int.toNat_natCast, hq.2.1, Nat.mul_one] at hr
  refine ⟨_, _, _, by simp only [execOp, ho, ev_of hx, ev_of hy, Sem.run_bind, hr]; rfl, ?_, k w.heap.size⟩
  refine WW.change (C := []) (R := H) (C' := [rw_ (eI q) e (.slice (some ⟨w.heap.size, 0, none⟩) n n) (List.replicate n 0)]) hw (fun b hb _ => Below.heap_alloc w _ b hb) (by simp) ?_ (by simp [rw_, row, Value.ownBlock]) (fun b hb => .inr ?_) rfl rfl rfl
  · intro r hr
    simp only [List.mem_singleton] at hr
    subst hr
    refine rw_holds.2 (.inr ⟨w.heap.size, n, _, by rw [List.length_replicate], heap_alloc_new w _, by simp, by simp only [maxLen]; omega, by rw [size_madeCells]; simp [eI, Enc.scalar], ?_⟩)
    rw [made_ints, List.take_of_length_le (by rw [flat_length]; exact Nat.le_refl _)]
  · simp [rw_, row, Value.ownBlock] at hb
    omega
end
end Go.SX
namespace Go.SX
open Go Go.RowKit
def eZ : Enc Int := eI .i64
end Go.SX
namespace Go.SX
open Go Go.RowKit
section
variable {V : Env} {P : Program} {Q : Exit → Act → World → Prop} {ops : Array Oper} {N : Nat} {o : Oper} {rest : List Oper} {L : List (Nat × Value)} {H R : List Res} {S : Nat → Prop} {wf : World} {K : St → Prop} {st : St} {C : World → Prop} {cs : List (Nat × (World → Prop))}
theorem At.ofcs {B : World → Prop} {i k : Nat} {F : World → Prop} (j : Nat) (h : cs[j]? = some (k, F)) (hw : waitsFor ops k i = true) : ∀ w, (B w ∧ ∀ c ∈ cs, waitsFor ops c.1 i = true → c.2 w) → F w :=
  fun w ⟨_, hc⟩ => hc (k, F) (List.mem_of_getElem? h) hw
theorem ttc {listed : Array Bool} (h : ∀ w, WW V S wf H w → ∀ c ∈ cs, listed.getD c.1 true = false → c.2 w) : ∀ w, WW V S wf H w → TT (Fz S wf) cs listed w := fun w hw => ⟨hw.fz, h w hw⟩
theorem tc0 {listed : Array Bool} {w : World} : ∀ c ∈ ([] : List (Nat × (World → Prop))), listed.getD c.1 true = false → c.2 w := fun c hc => by cases hc
theorem tc1 {listed : Array Bool} {w : World} {k : Nat} {F : World → Prop} (h : F w) (r : ∀ c ∈ cs, listed.getD c.1 true = false → c.2 w) : ∀ c ∈ (k, F) :: cs, listed.getD c.1 true = false → c.2 w := fun c hc => by
  rcases List.mem_cons.1 hc with rfl | hc
  · exact fun _ => h
  · exact r c hc
theorem tc2 {listed : Array Bool} {w : World} {k : Nat} {F : World → Prop} (h : listed.getD k true = true) (r : ∀ c ∈ cs, listed.getD c.1 true = false → c.2 w) : ∀ c ∈ (k, F) :: cs, listed.getD c.1 true = false → c.2 w := fun c hc => by
  rcases List.mem_cons.1 hc with rfl | hc
  · intro e; simp only [h] at e; cases e
  · exact r c hc
end
end Go.SX
namespace Go.SX
theorem sc0 {w : World} : ∀ c ∈ ([] : List (Nat × (World → Prop))), c.2 w := fun c hc => by cases hc
theorem sc1 {w : World} {k : Nat} {F : World → Prop} {cs : List (Nat × (World → Prop))} (h : F w) (r : ∀ c ∈ cs, c.2 w) : ∀ c ∈ (k, F) :: cs, c.2 w := fun c hc => by
  rcases List.mem_cons.1 hc with rfl | hc
  · exact h
  · exact r c hc
end Go.SX
namespace Go.SX
open Go
theorem drop_gt {α : Type} [Inhabited α] {l : List α} {x : Int} (h0 : 0 ≤ x) (h1 : x < (l.length : Int)) : l.drop x.toNat = gt l x :: l.drop (x + 1).toNat := by
  have hx : x.toNat < l.length := by omega
  have hg : gt l x = l[x.toNat] := by simp [gt, List.getD_eq_getElem?_getD, hx]
  rw [hg, show (x + 1).toNat = x.toNat + 1 from by omega, ← List.drop_eq_getElem_cons hx]
end Go.SX
namespace Go.SX
theorem nat_ind {P : Nat → Prop} (h0 : P 0) (hs : ∀ f, P f → P (f + 1)) : ∀ f, P f := fun f => by
  induction f with
  | zero => exact h0
  | succ f ih => exact hs f ih
end Go.SX
namespace Go.SX
open Go Go.RowKit
section
variable {V : Env} {P : Program} {Q : Exit → Act → World → Prop} {N : Nat} {L : List (Nat × Value)} {H R C : List Res} {S : Nat → Prop} {wf : World}
theorem retv1 {fn : Func} {r : ResultVar} {v : Value} {post : Value → List Res → Prop} (hr : fn.results = #[r]) (h1 : RV P L (WW V S wf H) r v) (hp : PickL H C R) (h : post v C) :
    SQ V (bodyPost P fn (TRp V S wf fun v C' S' wf' => post v C' ∧ S' = S ∧ wf' = wf) .ret) N ⟨L, H, S, wf⟩ := fun a w hs hw => by
  refine ⟨hs.2.1, v, ?_, v, C, S, wf, rfl, ⟨h, rfl, rfl⟩, .of_fz hw, hw.keep hp⟩
  have e1 := h1 a w N hs hw
  rw [results_resF, hr]
  simp [e1]
end
end Go.SX
namespace Go.SX
open Go Go.RowKit
def big {α : Type} (f : α → Res) (l : List α) : Res where
  foot := l.flatMap (fun x => (f x).foot)
  holds w := ∀ x ∈ l, (f x).holds w
  stable w w' h hw x hx := (f x).stable w w' (fun b hb => h b (List.mem_flatMap.2 ⟨x, hx, hb⟩)) (hw x hx)
  lt w hw b hb := by
    obtain ⟨x, hx, hb⟩ := List.mem_flatMap.1 hb
    exact (f x).lt w (hw x hx) b hb
def rowB {α : Type} (E : Enc α) (e : Nat) (v : Value) (l : List α) : Res where
  foot := (rw_ E e v l).foot
  holds w := (rw_ E e v l).holds w ∧ l.length ≤ 140737488355328
  stable w w' h hw := ⟨(rw_ E e v l).stable w w' h hw.1, hw.2⟩
  lt w hw b hb := (rw_ E e v l).lt w hw.1 b hb
theorem big_foot {α : Type} {f : α → Res} {l : List α} {x : α} (h : x ∈ l) : ∀ b ∈ (f x).foot, b ∈ (big f l).foot := fun b hb => List.mem_flatMap.2 ⟨x, h, hb⟩
section
variable {V : Env} {P : Program} {Q : Exit → Act → World → Prop} {ops : Array Oper} {N : Nat} {L : List (Nat × Value)} {H R : List Res} {S : Nat → Prop} {wf : World}
theorem WW.swap {A : List Res} {r : Res} {w : World} (h : WW V S wf (A ++ R) w) (hf : r.foot = feet A) (hh : (∀ x ∈ A, x.holds w) → r.holds w) : WW V S wf (r :: R) w := by
  have e : feet (r :: R) = feet (A ++ R) := by rw [feet_cons, hf, feet_append]
  exact {
    has := fun x hx => by
      rcases List.mem_cons.1 hx with rfl | hx
      · exact hh (fun y hy => h.has y (List.mem_append_left _ hy))
      · exact h.has x (List.mem_append_right _ hx)
    nd := e ▸ h.nd
    sep := fun b hb => h.sep b (e ▸ hb)
    fz := h.fz, new := h.new, fr := h.fr, sz := h.sz, os := h.os, tape := h.tape, output := h.output }
end
section
variable {V : Env} {P : Program} {Q : Exit → Act → World → Prop} {ops : Array Oper} {N fuel : Nat} {L L' : List (Nat × Value)} {H H' : List Res} {S : Nat → Prop} {wf : World} {st : St} {B : World → Prop} {cs : List (Nat × (World → Prop))} {listed : Array Bool}
theorem SQ.weak {Q : Act → World → Prop} (h : SQ V Q N ⟨L', H', S, wf⟩) (hL : ∀ k v, lkp L' k = some v → lkp L k = some v) (hw : ∀ w, WW V S wf H w → WW V S wf H' w) : SQ V Q N ⟨L, H, S, wf⟩ := fun a w hs hw' => h a w (hs.mono hL) (hw w hw')
end
end Go.SX
namespace Go.SX
open Go Go.RowKit
structure IL where
  il : List Int
  ilA : Option Addr
  ilc : Nat
  deriving Inhabited
def eIL : Enc IL where
  sz := 1
  enc x := [.slice x.ilA x.il.length x.ilc]
  len _ := rfl
  one x u hu := by simp at hu; subst hu; rfl
  pos := by decide
section
variable {S S' : Nat → Prop} {wf wf' : World}
theorem gt_mem_or {α : Type} [Inhabited α] (l : List α) (i : Int) : gt l i ∈ l ∨ gt l i = default := by
  unfold gt
  by_cases h : i.toNat < l.length
  · left; rw [List.getD_eq_getElem?_getD, List.getElem?_eq_getElem h]; exact List.getElem_mem h
  · right; rw [List.getD_eq_getElem?_getD, List.getElem?_eq_none (by omega)]; rfl
theorem gt_mapd {α β : Type} [Inhabited α] [Inhabited β] (f : α → β) (hf : f default = default) (l : List α) (i : Int) : gt (l.map f) i = f (gt l i) := by
  unfold gt
  rw [List.getD_eq_getElem?_getD, List.getD_eq_getElem?_getD, List.getElem?_map]
  cases l[i.toNat]? with
  | none => simp [hf]
  | some x => simp
end
def resIL (e : Nat) (s : IL) : Res := rowB eZ e (.slice s.ilA s.il.length s.ilc) s.il
def nestIL (e : Nat) (l : List IL) : Res := big (resIL e) l
end Go.SX
namespace Go.SX
open Go Go.RowKit
section
variable {V : Env} {P : Program} {Q : Exit → Act → World → Prop} {ops : Array Oper} {N : Nat} {L : List (Nat × Value)} {H R : List Res} {S : Nat → Prop} {wf : World} {rest : List Oper}
theorem WW.relist {A B : List Res} {w : World} (h : WW V S wf (A ++ R) w) (hf : (feet B).Perm (feet A)) (hh : (∀ x ∈ A, x.holds w) → ∀ x ∈ B, x.holds w) : WW V S wf (B ++ R) w := by
  have e : (feet (B ++ R)).Perm (feet (A ++ R)) := by rw [feet_append, feet_append]; exact hf.append_right _
  exact {
    has := fun r hr => by
      rcases List.mem_append.1 hr with hr | hr
      · exact hh (fun y hy => h.has y (List.mem_append_left _ hy)) r hr
      · exact h.has r (List.mem_append_right _ hr)
    nd := e.nodup_iff.2 h.nd
    sep := fun b hb => h.sep b (e.mem_iff.1 hb)
    fz := h.fz, new := h.new, fr := h.fr, sz := h.sz, os := h.os, tape := h.tape, output := h.output }
end
end Go.SX
namespace Go.SX
open Go Go.RowKit
def cmpI (a b : Int) : Int := if a < b then -1 else if a > b then 1 else 0
end Go.SX
namespace Go.SX
theorem kbDT {φ : Prop} [Decidable φ] (h : φ) : some (decide φ) = some true := congrArg some (decide_eq_true h)
theorem kbDF {φ : Prop} [Decidable φ] (h : ¬ φ) : some (decide φ) = some false := congrArg some (decide_eq_false h)
theorem kbET {a b : Int} (h : a = b) : some (a == b) = some true := congrArg some (beq_iff_eq.2 h)
theorem kbEF {a b : Int} (h : ¬ a = b) : some (a == b) = some false := congrArg some (by simpa using h)
end Go.SX
namespace Go.SX
open Go Go.RowKit Go.Lib
section
variable {V : Env} {P : Program} {Q : Exit → Act → World → Prop} {ops : Array Oper} {N : Nat} {o : Oper} {rest : List Oper} {L : List (Nat × Value)} {H R : List Res} {S : Nat → Prop} {wf : World} {K : St → Prop} {st : St} {C : World → Prop}
theorem made_bools : ∀ n, (madeCells (Value.bool false).cells n).toList = flat eB (List.replicate n false) := by
  intro n
  have h1 : (madeCells (Value.bool false).cells n).toList = List.replicate n (.bool false) := by
    have hc : (Value.bool false).cells = #[.bool false] := rfl
    unfold madeCells
    rw [hc, Array.toList_map, Array.toList_range]
    refine List.ext_getElem (by simp) fun i h1 h2 => ?_
    simp [Nat.mod_one]
  rw [h1]
  clear h1
  induction n with
  | zero => rfl
  | succ n ih => rw [List.replicate_succ, List.replicate_succ, flat_cons, ih]; rfl
theorem st_mkbools {t e : TypeId} {x y : Operand} {kk : IntKind} {n : Nat} {a : Int} {bytes : Nat} {d : Nat} (ho : o.op = .makeSlice t x y) (hg : o.guard = none) (hd : o.dst = some d) (hdN : Nat.blt d N = true) (ht : P.underlying t = some (.slice e)) (hi : (P.info? e).map (fun i => (i.zero, i.size, i.bytes)) = some (some (.bool false), 1, bytes))
    (hx : lk L x = some (.int kk a)) (hy : lk L y = some (.int kk a)) (ha : a = (n : Int)) (hb : n * bytes ≤ 1073741824) (hb1 : Nat.ble 1 bytes = true)
    (k : ∀ b, K ⟨(d, .slice (some ⟨b, 0, none⟩) n n) :: L, rw_ eB e (.slice (some ⟨b, 0, none⟩) n n) (List.replicate n false) :: H, S, wf⟩) : OpStep V P Q ops N o ⟨L, H, S, wf⟩ K := by
  subst ha
  have hb1 := Nat.le_of_ble_eq_true hb1
  have hn : n ≤ 1073741824 := Nat.le_trans (by have := Nat.mul_le_mul_left n hb1; omega) hb
  refine .act hg hd hdN (by simp [ho, noSel]) (by simp [ho, Op.operands, known_of hx, known_of hy]) fun w hw => ?_
  obtain ⟨i, hi, hq⟩ := Option.map_eq_some_iff.1 hi
  simp only [Prod.mk.injEq] at hq
  have hbb : ((i.bytes : Nat) : Int) * (n : Int) ≤ 281474976710656 := by
    rw [hq.2.2, ← Int.natCast_mul, Nat.mul_comm]; omega
  have hr := run_make (P := P) w t e i (.bool false) ht hi hq.1 kk kk n n (by omega) (Int.le_refl _) hbb (by omega)
  simp only [Int.toNat_natCast, hq.2.1, Nat.mul_one] at hr
  refine ⟨_, _, _, by simp only [execOp, ho, ev_of hx, ev_of hy, Sem.run_bind, hr]; rfl, ?_, k w.heap.size⟩
  refine WW.change (C := []) (R := H) (C' := [rw_ eB e (.slice (some ⟨w.heap.size, 0, none⟩) n n) (List.replicate n false)]) hw (fun b hb _ => Below.heap_alloc w _ b hb) (by simp) ?_ (by simp [rw_, row, Value.ownBlock]) (fun b hb => .inr ?_) rfl rfl rfl
  · intro r hr
    simp only [List.mem_singleton] at hr
    subst hr
    refine rw_holds.2 (.inr ⟨w.heap.size, n, _, by rw [List.length_replicate], heap_alloc_new w _, by simp, by simp only [maxLen]; omega, by rw [size_madeCells]; simp [eB, Enc.scalar], ?_⟩)
    rw [made_bools, List.take_of_length_le (by rw [flat_length]; exact Nat.le_refl _)]
  · simp [rw_, row, Value.ownBlock] at hb
    omega
end
end Go.SX
namespace Go.SX
open Go Go.RowKit
theorem gt_sets {α : Type} [Inhabited α] {l : List α} {i : Int} {x : α} (h0 : 0 ≤ i) (h1 : i < (l.length : Int)) : gt (l.set i.toNat x) i = x := by
  unfold gt; rw [List.getD_eq_getElem?_getD, List.getElem?_set_self (by omega)]; rfl
theorem gt_setn {α : Type} [Inhabited α] {l : List α} {i j : Int} {x : α} (h0 : 0 ≤ i) (h1 : 0 ≤ j) (h : i ≠ j) : gt (l.set i.toNat x) j = gt l j := by
  unfold gt; rw [List.getD_eq_getElem?_getD, List.getD_eq_getElem?_getD, List.getElem?_set_ne (by omega)]
section
variable {V : Env} {P : Program} {Q : Exit → Act → World → Prop} {ops : Array Oper} {N fuel : Nat} {o : Oper} {rest : List Oper} {L : List (Nat × Value)} {H R : List Res} {S : Nat → Prop} {wf : World} {K : St → Prop} {st : St} {B : World → Prop} {cs : List (Nat × (World → Prop))} {listed : Array Bool}
theorem SR.three {i j l : Nat} (hr : Region.ready .any ops listed = [i, j, l]) (h1 : SR1 V P Q ops N B cs fuel listed st i) (h2 : SR1 V P Q ops N B cs fuel listed st j) (h3 : SR1 V P Q ops N B cs fuel listed st l) : SR V P Q ops N B cs (fuel + 1) listed st :=
  .branch hr (by simp) fun k hk => by simp at hk; rcases hk with rfl | rfl | rfl <;> assumption
theorem SR.cutx {X : Type} (F : X → List (Nat × Value) × List Res) (S0 : Nat → Prop) (wf0 : World) (h1 : ∀ b, SQ V (Q .normal) N ⟨(F b).1, (F b).2, S0, wf0⟩) (h2 : (∀ b, SQ V (Q .normal) N ⟨(F b).1, (F b).2, S0, wf0⟩) → SR V P Q ops N B cs fuel listed st) : SR V P Q ops N B cs fuel listed st := h2 h1
theorem st_setel2 {α : Type} [Inhabited α] {E : Enc α} {t e n c p : Nat} {A : Option Addr} {l l2 : List α} {i : Int} {cs : List Value} {off : Nat} {ag : Bool} {x y : Operand} {u : Value} (z : α) (ho : o.op = .store t x y) (hg : o.guard = none) (hd : o.dst = none) (ht : ty P t = some (ag, cs.length))
    (hx : lk L x = some (.pointer (some ⟨ab A, p, none⟩))) (hpo : p = ao A + i.toNat * E.sz + off) (hy : lk L y = some u) (hcu : u.cells = cs.toArray) (hcs : cs.all (·.oneCell') = true) (hp : Pick H (rw_ E e (.slice A n c) l) R)
    (h0 : 0 ≤ i) (h1 : i < (l.length : Int)) (hle : off + cs.length ≤ E.sz) (hz : (E.enc (gt l i)).take off ++ cs ++ (E.enc (gt l i)).drop (off + cs.length) = E.enc z) (h2 : l.set i.toNat z = l2)
    (k : K ⟨L, rw_ E e (.slice A n c) l2 :: R, S, wf⟩) : OpStep V P Q ops N o ⟨L, H, S, wf⟩ K := by
  subst h2
  exact st_setel z ho hg hd ht hx hpo hy hcu hcs hp h0 h1 hle hz k
end
end Go.SX
namespace Go.SX
open Go Go.RowKit
section
variable {V : Env} {P : Program} {Q : Exit → Act → World → Prop} {ops : Array Oper} {N fuel : Nat} {L L' : List (Nat × Value)} {H H' : List Res} {S : Nat → Prop} {wf : World} {B : World → Prop} {cs : List (Nat × (World → Prop))} {listed : Array Bool}
theorem SR.join {X : Type} (F : X → List (Nat × Value) × List Res) (fuel' : Nat) (listed' : Array Bool) (h1 : ∀ x, SR V P Q ops N B cs fuel' listed' ⟨(F x).1, (F x).2, S, wf⟩) (h2 : (∀ x, SR V P Q ops N B cs fuel' listed' ⟨(F x).1, (F x).2, S, wf⟩) → SR V P Q ops N B cs fuel listed ⟨L, H, S, wf⟩) : SR V P Q ops N B cs fuel listed ⟨L, H, S, wf⟩ := h2 h1
theorem SR.weakj {listed' : Array Bool} (h : SR V P Q ops N B cs fuel listed' ⟨L', H', S, wf⟩) (e : listed = listed') (hL : ∀ k v, lkp L' k = some v → lkp L k = some v) (hw : ∀ w, WW V S wf H w → WW V S wf H' w) : SR V P Q ops N B cs fuel listed ⟨L, H, S, wf⟩ := by
  subst e; exact fun a w hs hw' ht hc => h a w (hs.mono hL) (hw w hw') ht hc
end
end Go.SX
namespace Go.SX
open Go Go.RowKit
theorem ttr {V : Env} {H : List Res} {S : Nat → Prop} {wf : World} {α : Type} [Inhabited α] {E : Enc α} {e n c j : Nat} {A : Option Addr} {l : List α} {i : Int} {listed : Array Bool} (k : Nat) (hk : H[k]? = some (rw_ E e (.slice A n c) l)) (h0 : 0 ≤ i) (h1 : i < (l.length : Int)) : ∀ w, WW V S wf H w → TT (Fz S wf) [(j, fun w => At w (ab A) (ao A + i.toNat * E.sz) (E.enc (gt l i)))] listed w :=
  ttc (fun w hw => tc1 (row_el k hk h0 h1 w hw) tc0)
end Go.SX
namespace Go.SX
open Go Go.RowKit
structure AR where
  fr : Int
  to : Int
  tm : Int
  ds : Int
  deriving DecidableEq, Inhabited
def eAR : Enc AR where
  sz := 4
  enc x := [.int .i64 x.fr, .int .i64 x.to, .int .i64 x.tm, .int .i64 x.ds]
  len _ := rfl
  one x u hu := by simp at hu; rcases hu with rfl | rfl | rfl | rfl <;> rfl
  pos := by decide
structure EG where
  et : Int
  ew : Int
  deriving DecidableEq, Inhabited
def eEG : Enc EG where
  sz := 2
  enc x := [.int .i64 x.et, .int .i64 x.ew]
  len _ := rfl
  one x u hu := by simp at hu; rcases hu with rfl | rfl <;> rfl
  pos := by decide
structure LK where
  lf : Int
  lt : Int
  lw : Int
  lm : Int
  deriving DecidableEq, Inhabited
def eLK : Enc LK where
  sz := 4
  enc x := [.int .i64 x.lf, .int .i64 x.lt, .int .i64 x.lw, .int .i64 x.lm]
  len _ := rfl
  one x u hu := by simp at hu; rcases hu with rfl | rfl | rfl | rfl <;> rfl
  pos := by decide
structure EN where
  ei : Int
  ek : Int
  deriving DecidableEq, Inhabited
def eEN : Enc EN where
  sz := 2
  enc x := [.int .i64 x.ei, .int .i64 x.ek]
  len _ := rfl
  one x u hu := by simp at hu; rcases hu with rfl | rfl <;> rfl
  pos := by decide
theorem upN {Φ : Int → Prop} {i : Int} (h : ∀ j : Int, 0 ≤ j → j < i → Φ j) (hi : Φ i) : ∀ j : Int, 0 ≤ j → j < i + 1 → Φ j := fun j h0 h1 => by
  rcases (by omega : j < i ∨ j = i) with h2 | rfl
  · exact h j h0 h2
  · exact hi
def arcOk (n : Int) (a : AR) : Prop := 0 ≤ a.fr ∧ a.fr < n ∧ 0 ≤ a.to ∧ a.to < n ∧ 0 ≤ a.tm ∧ a.tm ≤ 1000000 ∧ 0 ≤ a.ds ∧ a.ds ≤ 1000000
structure RoadOk (n : Int) (l : List AR) : Prop where
  pl : 1 ≤ n ∧ n ≤ 32
  len : l.length ≤ 256
  arc : ∀ i : Int, 0 ≤ i → i < (l.length : Int) → arcOk n (gt l i)
def wgt (d : Bool) (a : AR) : Int := if d then a.ds else a.tm
def cellSt (n : Int) (d : Bool) (m : List Int) (a : AR) : List Int := if a.fr ≠ a.to ∧ (gt m (a.fr * n + a.to) < 0 ∨ wgt d a < gt m (a.fr * n + a.to)) then m.set (a.fr * n + a.to).toNat (wgt d a) else m
def tabF (n : Int) (d : Bool) (l : List AR) : List Int := l.foldl (cellSt n d) (List.replicate (n * n).toNat (-1))
theorem cellSt_len {n : Int} {d : Bool} {m : List Int} {a : AR} : (cellSt n d m a).length = m.length := by unfold cellSt; split <;> simp
theorem tab_take {n : Int} {d : Bool} {l : List AR} {i : Int} {m : List Int} (h0 : 0 ≤ i) (h1 : i < (l.length : Int)) (h : m = (l.take i.toNat).foldl (cellSt n d) (List.replicate (n * n).toNat (-1))) : cellSt n d m (gt l i) = (l.take (i + 1).toNat).foldl (cellSt n d) (List.replicate (n * n).toNat (-1)) := by
  rw [take_gt h0 h1, List.foldl_append, ← h]; rfl
theorem rep_snoc {α : Type} {x : α} {i : Int} (h : 0 ≤ i) : List.replicate (i + 1).toNat x = List.replicate i.toNat x ++ [x] := by
  rw [show (i + 1).toNat = i.toNat + 1 from by omega, List.replicate_succ']
theorem sq_le {n : Int} (h : 1 ≤ n ∧ n ≤ 32) : 1 ≤ n * n ∧ n * n ≤ 1024 := by
  have h1 : 1 * 1 ≤ n * n := Int.mul_le_mul h.1 h.1 (by decide) (by omega)
  have h2 : n * n ≤ 32 * 32 := Int.mul_le_mul h.2 h.2 (by omega) (by decide)
  omega
theorem idx_rng {n a b : Int} (ha : 0 ≤ a ∧ a < n) (hb : 0 ≤ b ∧ b < n) : 0 ≤ a * n ∧ a * n + b < n * n := by
  have h1 : 0 ≤ a * n := Int.mul_nonneg ha.1 (by omega)
  have h2 : (a + 1) * n ≤ n * n := Int.mul_le_mul_of_nonneg_right (by omega) (by omega)
  rw [Int.add_mul] at h2
  omega
theorem tab_yes {n : Int} {d : Bool} {l : List AR} {i w : Int} {m : List Int} (h : m = (l.take i.toNat).foldl (cellSt n d) (List.replicate (n * n).toNat (-1))) (h0 : 0 ≤ i) (h1 : i < (l.length : Int)) (hw : w = wgt d (gt l i))
    (hc : (gt l i).fr ≠ (gt l i).to ∧ (gt m ((gt l i).fr * n + (gt l i).to) < 0 ∨ w < gt m ((gt l i).fr * n + (gt l i).to))) : m.set ((gt l i).fr * n + (gt l i).to).toNat w = (l.take (i + 1).toNat).foldl (cellSt n d) (List.replicate (n * n).toNat (-1)) := by
  rw [← tab_take h0 h1 h]; unfold cellSt; subst hw; rw [if_pos hc]
theorem tab_no {n : Int} {d : Bool} {l : List AR} {i w : Int} {m : List Int} (h : m = (l.take i.toNat).foldl (cellSt n d) (List.replicate (n * n).toNat (-1))) (h0 : 0 ≤ i) (h1 : i < (l.length : Int)) (hw : w = wgt d (gt l i))
    (hc : ¬ ((gt l i).fr ≠ (gt l i).to ∧ (gt m ((gt l i).fr * n + (gt l i).to) < 0 ∨ w < gt m ((gt l i).fr * n + (gt l i).to)))) : m = (l.take (i + 1).toNat).foldl (cellSt n d) (List.replicate (n * n).toNat (-1)) := by
  rw [← tab_take h0 h1 h]; unfold cellSt; subst hw; rw [if_neg hc]
def orF : List Int → Int
  | [] => 0
  | x :: r => if x ≠ 0 then x else orF r
theorem or_drop {l : List Int} {i : Int} (h0 : 0 ≤ i) (h1 : i < (l.length : Int)) : l.drop i.toNat = gt l i :: l.drop (i + 1).toNat := by
  unfold gt
  rw [show (i + 1).toNat = i.toNat + 1 from by omega, List.drop_eq_getElem_cons (by omega), List.getD_eq_getElem?_getD, List.getElem?_eq_getElem (by omega)]; rfl
theorem or_next {l : List Int} {i : Int} (h : orF (l.drop i.toNat) = orF l) (h0 : 0 ≤ i) (h1 : i < (l.length : Int)) (hn : ¬ gt l i ≠ 0) : orF (l.drop (i + 1).toNat) = orF l := by
  rw [or_drop h0 h1] at h; rw [← h]; show _ = (if gt l i ≠ 0 then _ else _); rw [if_neg hn]
theorem or_at {l : List Int} {i : Int} (h : orF (l.drop i.toNat) = orF l) (h0 : 0 ≤ i) (h1 : i < (l.length : Int)) (hn : gt l i ≠ 0) : gt l i = orF l := by
  rw [or_drop h0 h1] at h; rw [← h]; show _ = (if gt l i ≠ 0 then _ else _); rw [if_pos hn]
theorem or_end {l : List Int} {i : Int} (h : orF (l.drop i.toNat) = orF l) (h1 : (l.length : Int) ≤ i) : 0 = orF l := by
  rw [List.drop_of_length_le (by omega)] at h; exact h
end Go.SX
namespace Go.SX
open Go Go.RowKit
section
variable {V : Env} {P : Program} {Q : Exit → Act → World → Prop} {ops : Array Oper} {N : Nat} {o : Oper} {L : List (Nat × Value)} {H R C : List Res} {S : Nat → Prop} {wf : World} {K : St → Prop}
theorem st_gcallkf {d g t : Nat} {want b : Bool} {f : FuncId} {xf : Operand} {x : Array Operand} {ts : Array TypeId} {args : List Value} {r : Value} (ho : o.op = .call { callee := .value xf, args := x, argTypes := ts }) (hg : o.guard = some (g, want)) (ht : (ops[g]?).bind (·.dst) = some t) (hL : lkp L t = some (.bool b)) (hd : o.dst = some d) (hdN : Nat.blt d N = true)
    (hx : b = want → lk L xf = some (.func (.func f) #[] #[])) (hf : hasBody P f = true) (ha : b = want → lkAll L x.toList = some args) (hp : PickL H C R) (hT : b = want → TR0 P f args C S wf (fun v C' => v = r ∧ C' = C))
    (k : K ⟨(d, gv b want r) :: L, H, S, wf⟩) : OpStep V P Q ops N o ⟨L, H, S, wf⟩ K := by
  refine .split (st := ⟨L, H, S, wf⟩) hg ht hL (fun hb => .viafun ho (hx hb) (st_callk rfl rfl hd hdN hf (ha hb) hp (hT hb) ?_)) hd hdN (fun hb => ?_)
  · rw [show gv b want r = r from if_pos hb] at k
    exact k
  · rw [show gv b want r = undef from if_neg hb] at k
    exact k
end
end Go.SX
namespace Go.SX
open Go Go.RowKit
open Go.ChangeMaps (setBlock)
theorem runT_callFunc {P : Program} {f : FuncId} (h : hasBody P f = true) (args : Array Value) (w : World) (es : Array Event) : (callFunc f args).runT P w es = (.ok (.enter f args) w, es) := by
  unfold hasBody at h
  split at h
  · rename_i fn hf
    simp only [Bool.and_eq_true, bne_iff_ne, ne_eq] at h
    have hn : ¬ fn.name = "runtime.NumGoroutine" := by simpa using h.1
    have hb : ¬ fn.body = none := by
      intro hq
      rw [hq] at h
      simp at h
    have h2 : (fn.name == "runtime.NumGoroutine") = false := by simpa using hn
    have h3 : fn.body.isNone = false := by cases hq : fn.body with | none => exact absurd hq hb | some _ => rfl
    unfold callFunc
    show Sem.runT P (Sem.program _) w es = _
    unfold Sem.runT
    dsimp only
    rw [show ∀ (g : Program → Sem Next), (Sem.pure P).bind g = g P from fun _ => rfl]
    simp only [hf, h2, h3]
    rfl
  · cases h
section
variable {V : Env} {P : Program} {Q : Exit → Act → World → Prop} {ops : Array Oper} {N : Nat} {o : Oper} {rest : List Oper} {L : List (Nat × Value)} {H R : List Res} {S : Nat → Prop} {wf : World} {K : St → Prop} {st : St} {C : World → Prop}
theorem not_asks_named {a : Act} {w : World} {f : FuncId} {args : Array Operand} {ts : Array TypeId} (hb : hasBody P f = true) : ¬ (named o f args ts).asks P a w := by
  intro h
  unfold Oper.asks at h
  have h1 : execOp a.eval (named o f args ts) = callFunc f (args.map a.eval) := by
    have hf : a.eval (.func f) = .func (.func f) #[] #[] := rfl
    simp only [execOp, named, resolve, hf, Deferred.ofValue, invoke]
    simp [invoke]
  rw [h1, runT_callFunc hb] at h
  simp at h
theorem OpStep.viainv {x : Operand} {name : String} {t : TypeId} {v v' : Value} {f : FuncId} {args args' : Array Operand} {ts : Array TypeId} (ho : o.op = .call { callee := .invoke x name, args := args, argTypes := ts }) (hx : lk st.L x = some (.iface t v))
    (hm : ∀ w, (method (P.types.size + Made.depth) t v name).run P w = .ok (f, v') w) (ha : args' = #[.const v'] ++ args) (hb : hasBody P f = true) (h : OpStep V P Q ops N (named o f args' ts) st K) : OpStep V P Q ops N o st K := by
  intro a w hs hw J hJ
  have h1 := h a w hs hw J hJ
  have he : a.eval x = .iface t v := hs.eval hx
  have hop : ∀ w, (execOp a.eval o).run P w = (execOp a.eval (named o f args' ts)).run P w := by
    intro w
    subst ha
    have hf : a.eval (.func f) = .func (.func f) #[] #[] := rfl
    have hc : a.eval (.const v') = v' := rfl
    simp only [execOp, ho, named, resolve, he, hf, Deferred.ofValue, invoke]
    have e0 : (#[Value.iface t v] ++ Array.map a.eval args)[0]? = some (.iface t v) := by rw [Array.getElem?_append_left (by simp)]; rfl
    have e1 : (#[Value.iface t v] ++ Array.map a.eval args).extract 1 (#[Value.iface t v] ++ Array.map a.eval args).size = Array.map a.eval args := by simp
    simp only [Sem.run_bind, Sem.run_pure, Result.andThen_ok, invoke, e0, e1, callMethod]
    simp [Sem.run_bind, program, Sem.run, hm, hc, run_callFunc hb, Result.andThen]
  unfold Step1 at h1 ⊢
  have hwt : Region.wanted (named o f args' ts) (yielded ops a.tmps) = Region.wanted o (yielded ops a.tmps) := rfl
  have hwp : (named o f args' ts).wp P a w J Q = o.wp P a w J Q := by
    unfold Oper.wp; rw [hop]; rfl
  rw [hwt, hwp] at h1
  split at h1
  · rename_i hq
    rw [if_pos hq]
    rcases h1 with h1 | h1
    · exact .inl h1
    · exact absurd h1.1 (not_asks_named hb)
  · rename_i hq
    rw [if_neg hq]; exact h1
end
def mdel {α β : Type} [DecidableEq α] (m : List (α × β)) (x : α) : List (α × β) := m.filter (fun p => decide (p.1 ≠ x))
section
variable {α β : Type} [DecidableEq α] {m : List (α × β)} {x y : α} {v z : β}
theorem mhas_del : mhas (mdel m x) y = (mhas m y && decide (x ≠ y)) := by
  rw [Bool.eq_iff_iff]
  simp only [Bool.and_eq_true, mhas_iff, mdel, List.mem_filter, decide_eq_true_eq]
  exact ⟨fun ⟨v, h1, h2⟩ => ⟨⟨v, h1⟩, fun e => h2 e.symm⟩, fun ⟨⟨v, h1⟩, h2⟩ => ⟨v, h1, fun e => h2 e.symm⟩⟩
theorem mget_del (h : x ≠ y) : mget (mdel m x) y z = mget m y z := by
  induction m with
  | nil => rfl
  | cons p m ih =>
    unfold mdel at ih ⊢
    by_cases hp : p.1 = x
    · rw [List.filter_cons_of_neg (by simp [hp]), ih, mget_cons, if_neg (by rw [hp]; exact h)]
    · rw [List.filter_cons_of_pos (by simp [hp]), mget_cons, mget_cons, ih]
theorem nd_del (h : (m.map Prod.fst).Nodup) : ((mdel m x).map Prod.fst).Nodup := (List.filter_sublist.map _).nodup h
theorem del_none (h : mhas m x = false) : mdel m x = m := by
  refine List.filter_eq_self.2 fun p hp => decide_eq_true fun e => ?_
  have : mhas m x = true := mhas_iff.2 ⟨p.2, by rw [← e]; exact hp⟩
  rw [h] at this; cases this
theorem erase_eq : ∀ {m : List (α × β)} {j : Nat}, (m.map Prod.fst).Nodup → m[j]? = some (x, v) → m.eraseIdx j = mdel m x
  | [], _, _, h => by simp at h
  | p :: m, 0, hn, h => by
    simp at h; subst h
    rw [List.map_cons, List.nodup_cons] at hn
    show m = _
    unfold mdel
    rw [List.filter_cons_of_neg (by simp)]
    exact (del_none (by
      rw [Bool.eq_false_iff]; intro hh
      obtain ⟨v, hv⟩ := mhas_iff.1 hh
      exact hn.1 (List.mem_map.2 ⟨_, hv, rfl⟩))).symm
  | p :: m, j + 1, hn, h => by
    rw [List.map_cons, List.nodup_cons] at hn
    have hx : p.1 ≠ x := fun e => hn.1 (by rw [e]; exact List.mem_map.2 ⟨_, List.mem_of_getElem? (by simpa using h), rfl⟩)
    unfold mdel
    rw [List.eraseIdx_cons_succ, List.filter_cons_of_pos (by simp [hx]), erase_eq hn.2 (by simpa using h)]
    rfl
end
section
variable {V : Env} {P : Program} {Q : Exit → Act → World → Prop} {ops : Array Oper} {N : Nat} {o : Oper} {rest : List Oper} {L : List (Nat × Value)} {H R : List Res} {S : Nat → Prop} {wf : World} {K : St → Prop} {st : St} {C : World → Prop}
variable {α β : Type} [DecidableEq α] {vf : β → Value} {m : List (α × β)} {x : α} {v z : β} {b : Nat}
theorem MC.erase {kf : α → Value} {es : Array MapEntry} {clock j : Nat} {e0 : MapEntry} {u : β} (h : MC kf vf es clock m) (hj : es.toList[j]? = some e0) (hm : m[j]? = some (x, u)) : MC kf vf (es.eraseIdxIfInBounds j) clock (mdel m x) := by
  have hl : (es.eraseIdxIfInBounds j).toList = es.toList.eraseIdx j := by
    have hlt : j < es.size := by have := (List.getElem?_eq_some_iff.1 hj).1; simpa using this
    unfold Array.eraseIdxIfInBounds
    rw [dif_pos hlt, Array.toList_eraseIdx]
  have hs : ∀ {γ : Type} (f : MapEntry → γ), ((es.toList.eraseIdx j).map f).Sublist (es.toList.map f) := fun f => (List.eraseIdx_sublist ..).map f
  have hmap : ∀ {γ δ : Type} (f : γ → δ) (l : List γ) (j : Nat), (l.eraseIdx j).map f = (l.map f).eraseIdx j := by
    intro γ δ f l
    induction l with
    | nil => intro j; rfl
    | cons a l ih => intro j; cases j with
      | zero => rfl
      | succ j => simp [ih]
  refine ⟨?_, nd_del h.nd, ?_, fun e he => ?_⟩
  · rw [hl, hmap, h.kv, ← hmap, erase_eq h.nd hm]
  · rw [hl]; exact (hs _).nodup h.bn
  · rw [hl] at he
    exact h.old e (List.mem_of_mem_eraseIdx he)
theorem st_mapDel {t k e : TypeId} {ts : Array TypeId} (E : KE P k α) {a s : Operand} (ho : o.op = .call { callee := .builtin .delete, args := #[a, s], argTypes := ts }) (hts : ts[0]? = some t) (hg : o.guard = none) (hd : o.dst = none) (hu : P.underlying t = some (.map k e))
    (ha : lk L a = some (.map (some b))) (hs : lk L s = some (E.f x)) (hp : Pick H (mp E.f vf b m) R)
    (kx : K ⟨L, mp E.f vf b (mdel m x) :: R, S, wf⟩) : OpStep V P Q ops N o ⟨L, H, S, wf⟩ K := by
  intro a_ w hsl hw J hJ
  have hw' := hw.perm hp.perm
  obtain ⟨es, clock, hb, hM⟩ := hw'.has _ (List.mem_cons_self ..)
  have hn : noSel o.op = true := by simp [ho, noSel]
  have hk : o.op.operands.all (known L) = true := by simp [ho, Op.operands, Call.operands, known_of ha, known_of hs]
  unfold Step1
  rw [if_pos (by simp [Region.wanted, hg])]
  refine .inl ?_
  unfold Oper.wp
  rw [exec_ev hsl hn hk]
  rcases hM.find w x with ⟨h1, h2⟩ | ⟨j, e0, u, h1, h2, h3, h4, h5, h6, h7⟩
  · have hr : (execOp (ev L) o).run P w = .ok (.value (.tuple #[])) (setBlock w b (.map es clock)) := by
      simp [execOp, ho, ev_of ha, ev_of hs, resolve, invoke, builtin, Builtin.delete_, hts, run_underlying hu, MapKept.run_getObj_map hb, E.check, h1, MapKept.run_setObj_map _ hb, Result.andThen, setBlock]
    rw [hr, Oper.upon_value, hd]
    refine hJ _ kx _ _ hsl (hw'.setBlock rfl rfl hb ⟨_, _, heap_setBlock_at hb, ?_⟩)
    rw [del_none h2]; exact hM
  · have hr : (execOp (ev L) o).run P w = .ok (.value (.tuple #[])) (setBlock w b (.map (es.eraseIdxIfInBounds j) clock)) := by
      simp [execOp, ho, ev_of ha, ev_of hs, resolve, invoke, builtin, Builtin.delete_, hts, run_underlying hu, MapKept.run_getObj_map hb, E.check, h1, MapKept.run_setObj_map _ hb, Result.andThen, setBlock]
    rw [hr, Oper.upon_value, hd]
    exact hJ _ kx _ _ hsl (hw'.setBlock rfl rfl hb ⟨_, _, heap_setBlock_at hb, hM.erase h2 h4⟩)
end
end Go.SX
namespace Go.SX
open Go Go.RowKit
section
variable {V : Env} {P : Program} {Q : Exit → Act → World → Prop} {ops : Array Oper} {N fuel : Nat} {o : Oper} {L : List (Nat × Value)} {H : List Res} {S : Nat → Prop} {wf : World} {B : World → Prop} {cs : List (Nat × (World → Prop))} {listed : Array Bool}
theorem SR.utake {d g t : Nat} {want : Bool} (i : Nat) (hi : ops[i]? = some o) (hs : Region.noSelect ops = true) (hf : Region.free .any ops listed i = true) (hr : (Region.ready .any ops listed).contains i = true)
    (hni : (cs.map (·.1)).contains i = false) (hQ : ∀ c a w v, Q (.panic c) (a.put o.dst v) w → Q (.panic c) a w) (hg : o.guard = some (g, want)) (ht : (ops[g]?).bind (·.dst) = some t) (hL : lkp L t = some undef) (hd : o.dst = some d)  (hdN : Nat.blt d N = true)
    (k : SR V P Q ops N B cs fuel (listed.setIfInBounds i true) ⟨(d, undef) :: L, H, S, wf⟩) : SR V P Q ops N B cs (fuel + 1) listed ⟨L, H, S, wf⟩ := by
  intro a w hsl hw hT hcl
  have hr' : i ∈ Region.ready .any ops listed := by simpa using hr
  have hni' : ∀ c ∈ cs, c.1 ≠ i := fun c hc e => by
    have : (cs.map (·.1)).contains i = true := by simp; exact ⟨c.2, by rw [← e]; exact hc⟩
    rw [this] at hni
    cases hni
  have h2 : a.tmps.getD t undef = undef := hsl.2.2 t undef hL
  have hy : yielded ops a.tmps g = none := by
    rw [Array.getD_eq_getD_getElem?] at h2
    unfold yielded
    rw [ht]
    simp only [Option.bind_some]
    cases hx : a.tmps[t]? with
    | none => rfl
    | some u => rw [hx] at h2; simp at h2; subst h2; rfl
  refine wpAnyJ_first (v := undef) hi (Region.noSelect_spec hs) (fun c a w h => hQ c a w _ h) hni' fuel listed a w hcl (Region.free_spec hi hf) hr' (.inr ⟨by simp [Region.wanted, hg, hy], rfl⟩) hT ?_
  rw [hd]
  exact k _ _ (hsl.put hdN _) hw ((TT.set hni').2 hT) (hcl.set hr')
end
end Go.SX
namespace Go.SX
open Go Go.RowKit
section
variable {α : Type} [Inhabited α] {l m : List α} {i j k : Int} {x : α}
theorem gtS (h0 : 0 ≤ i) (h1 : i < (l.length : Int)) : gt (l.set i.toNat x) i = x := by
  have : i.toNat < l.length := by omega
  simp [gt, List.getD_eq_getElem?_getD, this]
theorem gtN (h0 : 0 ≤ i) (h1 : 0 ≤ j) (h : i ≠ j) : gt (l.set i.toNat x) j = gt l j := by
  have : i.toNat ≠ j.toNat := by omega
  simp [gt, List.getD_eq_getElem?_getD, List.getElem?_set_ne this]
theorem gtA (h0 : 0 ≤ i) (h1 : i < (l.length : Int)) : gt (l ++ m) i = gt l i := by
  have : i.toNat < l.length := by omega
  simp [gt, List.getD_eq_getElem?_getD, List.getElem?_append_left this]
theorem gtB (h1 : (l.length : Int) ≤ i) : gt (l ++ m) i = gt m (i - l.length) := by
  have : l.length ≤ i.toNat := by omega
  simp only [gt, List.getD_eq_getElem?_getD, List.getElem?_append_right this]
  rw [show (i - (l.length : Int)).toNat = i.toNat - l.length from by omega]
theorem gtT {n : Nat} (h0 : 0 ≤ i) (h1 : i < (n : Int)) : gt (l.take n) i = gt l i := by
  have : i.toNat < n := by omega
  simp [gt, List.getD_eq_getElem?_getD, List.getElem?_take, this]
theorem gtM (h0 : 0 ≤ i) (h1 : i < (l.length : Int)) : gt l i ∈ l := List.mem_of_getElem? (gt_at h0 h1)
theorem memG (h : x ∈ l) : ∃ i : Int, 0 ≤ i ∧ i < l.length ∧ gt l i = x := by
  obtain ⟨n, hn, e⟩ := List.getElem_of_mem h
  exact ⟨n, by omega, by omega, by simp [gt, List.getD_eq_getElem?_getD, hn, e]⟩
end
def lessE (a b : EN) : Bool := decide (a.ek < b.ek) || ((a.ek == b.ek) && decide (a.ei < b.ei))
def ltE (a b : EN) : Prop := a.ek < b.ek ∨ (a.ek = b.ek ∧ a.ei < b.ei)
theorem less_iff {a b : EN} : lessE a b = true ↔ ltE a b := by simp [lessE, ltE]
theorem en_ext {a b : EN} (h1 : a.ei = b.ei) (h2 : a.ek = b.ek) : a = b := by cases a; cases b; simp_all
section
variable {α : Type} [Inhabited α]
def swF (l : List α) (i j : Int) : List α := (l.set i.toNat (gt l j)).set j.toNat (gt l i)
theorem swF_len {l : List α} {i j : Int} : (swF l i j).length = l.length := by simp [swF]
theorem gt_swF {l : List α} {i j k : Int} (hi : 0 ≤ i ∧ i < (l.length : Int)) (hj : 0 ≤ j ∧ j < (l.length : Int)) (hk : 0 ≤ k) : gt (swF l i j) k = if k = j then gt l i else if k = i then gt l j else gt l k := by
  unfold swF
  by_cases h1 : k = j
  · subst h1; rw [if_pos rfl, gtS (by omega) (by simp; omega)]
  · rw [if_neg h1, gtN (by omega) (by omega) (fun e => h1 e.symm)]
    by_cases h2 : k = i
    · subst h2; rw [if_pos rfl, gtS (by omega) (by omega)]
    · rw [if_neg h2, gtN (by omega) (by omega) (fun e => h2 e.symm)]
theorem gt_get {l : List α} {i : Int} (h0 : 0 ≤ i) (h1 : i < (l.length : Int)) : gt l i = l[i.toNat]'(by omega) := by
  have : i.toNat < l.length := by omega
  simp [gt, List.getD_eq_getElem?_getD, this]
theorem swF_perm {l : List α} {i j : Int} (hi : 0 ≤ i ∧ i < (l.length : Int)) (hj : 0 ≤ j ∧ j < (l.length : Int)) : (swF l i j).Perm l := by
  unfold swF
  rw [gt_get hi.1 hi.2, gt_get hj.1 hj.2]
  exact List.set_set_perm (by omega) (by omega)
end
structure QI (l : List EN) (m : List (Int × Int)) : Prop where
  nd : (m.map Prod.fst).Nodup
  pos : ∀ i : Int, 0 ≤ i → i < l.length → mhas m (gt l i).ei = true ∧ mget m (gt l i).ei 0 = i
  of : ∀ x, mhas m x = true → 0 ≤ mget m x 0 ∧ mget m x 0 < l.length ∧ (gt l (mget m x 0)).ei = x
theorem QI.inj {l : List EN} {m : List (Int × Int)} (h : QI l m) {i j : Int} (hi : 0 ≤ i ∧ i < l.length) (hj : 0 ≤ j ∧ j < l.length) (e : (gt l i).ei = (gt l j).ei) : i = j := by
  have h1 := (h.pos i hi.1 hi.2).2
  have h2 := (h.pos j hj.1 hj.2).2
  rw [e] at h1; omega
theorem QI.nil : QI [] [] := ⟨by simp, fun i h0 h1 => by simp at h1; omega, fun x h => by simp [mhas] at h⟩
theorem qi_swap {l : List EN} {m : List (Int × Int)} (h : QI l m) {i j : Int} (hi : 0 ≤ i ∧ i < l.length) (hj : 0 ≤ j ∧ j < l.length) :
    QI (swF l i j) (mset (mset m (gt (swF l i j) i).ei i) (gt (swF l i j) j).ei j) := by
  have ej : gt (swF l i j) j = gt l i := by rw [gt_swF hi hj hj.1, if_pos rfl]
  have ei : gt (swF l i j) i = gt l j := by
    rw [gt_swF hi hj hi.1]
    split
    · rename_i e; rw [e]
    · rw [if_pos rfl]
  rw [ej, ei]
  refine ⟨nd_set (nd_set h.nd), fun k h0 h1 => ?_, fun x hx => ?_⟩
  · rw [swF_len] at h1
    rw [gt_swF hi hj h0]
    simp only [mhas_set, mget_set]
    by_cases h2 : k = j
    · rw [if_pos h2]; simp [h2]
    · rw [if_neg h2]
      by_cases h3 : k = i
      · rw [if_pos h3]
        have : (gt l i).ei ≠ (gt l j).ei := fun e => h2 (by rw [h3]; exact h.inj hi hj e)
        simp [this, h3]
      · rw [if_neg h3]
        have e1 : (gt l i).ei ≠ (gt l k).ei := fun e => h3 (h.inj hi ⟨h0, h1⟩ e).symm
        have e2 : (gt l j).ei ≠ (gt l k).ei := fun e => h2 (h.inj hj ⟨h0, h1⟩ e).symm
        rw [if_neg e1, if_neg e2]
        exact ⟨by rw [(h.pos k h0 h1).1]; rfl, (h.pos k h0 h1).2⟩
  · rw [swF_len]
    simp only [mhas_set, Bool.or_eq_true, decide_eq_true_eq, mget_set] at hx ⊢
    by_cases h1 : (gt l i).ei = x
    · rw [if_pos h1]; exact ⟨hj.1, hj.2, by rw [ej]; exact h1⟩
    · rw [if_neg h1]
      by_cases h2 : (gt l j).ei = x
      · rw [if_pos h2]; exact ⟨hi.1, hi.2, by rw [ei]; exact h2⟩
      · rw [if_neg h2]
        obtain ⟨o1, o2, o3⟩ := h.of x (by simpa [h1, h2] using hx)
        refine ⟨o1, o2, ?_⟩
        rw [gt_swF hi hj o1, if_neg (fun e => h2 (by rw [← e]; exact o3)), if_neg (fun e => h1 (by rw [← e]; exact o3))]
        exact o3
theorem qi_push {l : List EN} {m : List (Int × Int)} (h : QI l m) {e : EN} (he : mhas m e.ei = false) : QI (l ++ [e]) (mset m e.ei l.length) := by
  refine ⟨nd_set h.nd, fun k h0 h1 => ?_, fun x hx => ?_⟩
  · simp only [List.length_append, List.length_singleton] at h1
    rw [mhas_set, mget_set]
    by_cases h2 : k < l.length
    · rw [gtA h0 h2]
      have := h.pos k h0 h2
      have hn : e.ei ≠ (gt l k).ei := fun q => by rw [q, this.1] at he; cases he
      rw [if_neg hn, this.1]; exact ⟨rfl, this.2⟩
    · have hk : k = l.length := by omega
      subst hk
      rw [gtB (by omega), show ((l.length : Int) - l.length) = 0 from by omega]
      simp [gt]
  · simp only [mhas_set, Bool.or_eq_true, decide_eq_true_eq, mget_set, List.length_append, List.length_singleton] at hx ⊢
    by_cases h1 : e.ei = x
    · rw [if_pos h1]
      refine ⟨by omega, by omega, ?_⟩
      rw [gtB (by omega), show ((l.length : Int) - l.length) = 0 from by omega]
      exact h1
    · rw [if_neg h1]
      obtain ⟨o1, o2, o3⟩ := h.of x (by simpa [h1] using hx)
      exact ⟨o1, by omega, by rw [gtA o1 o2]; exact o3⟩
theorem qi_pop {l : List EN} {m : List (Int × Int)} (h : QI l m) {n : Nat} (hn : l.length = n + 1) : QI (l.take n) (mdel m (gt l n).ei) := by
  refine ⟨nd_del h.nd, fun k h0 h1 => ?_, fun x hx => ?_⟩
  · rw [List.length_take, hn] at h1
    have h2 : k < (n : Int) := by omega
    rw [gtT h0 h2]
    have hne : (gt l n).ei ≠ (gt l k).ei := fun e => by have := h.inj (i := n) (j := k) ⟨by omega, by omega⟩ ⟨h0, by omega⟩ e; omega
    rw [mhas_del, mget_del hne, (h.pos k h0 (by omega)).1, (h.pos k h0 (by omega)).2]
    simp [hne]
  · rw [mhas_del, Bool.and_eq_true, decide_eq_true_eq] at hx
    obtain ⟨o1, o2, o3⟩ := h.of x hx.1
    rw [mget_del hx.2]
    have : mget m x 0 ≠ n := fun e => by rw [e] at o3; exact hx.2 o3
    refine ⟨o1, by rw [List.length_take, hn]; omega, ?_⟩
    rw [gtT o1 (by omega)]; exact o3
theorem qi_key {l : List EN} {m : List (Int × Int)} (h : QI l m) {i : Int} {e : EN} (hi : 0 ≤ i ∧ i < l.length) (he : e.ei = (gt l i).ei) : QI (l.set i.toNat e) m := by
  have hg : ∀ k : Int, 0 ≤ k → (gt (l.set i.toNat e) k).ei = (gt l k).ei := fun k h0 => by
    by_cases hk : i = k
    · subst hk; rw [gtS hi.1 hi.2]; exact he
    · rw [gtN hi.1 h0 hk]
  exact ⟨h.nd, fun k h0 h1 => by rw [hg k h0]; exact h.pos k h0 (by simpa using h1), fun x hx => by
    obtain ⟨o1, o2, o3⟩ := h.of x hx
    exact ⟨o1, by simpa using o2, by rw [hg _ o1]; exact o3⟩⟩
def Hp (l : List EN) (n : Int) : Prop := ∀ k : Int, 0 < k → k < n → ¬ ltE (gt l k) (gt l ((k - 1) / 2))
def UpI (l : List EN) (n j : Int) : Prop := (∀ k : Int, 0 < k → k < n → k ≠ j → ¬ ltE (gt l k) (gt l ((k - 1) / 2))) ∧ (∀ k : Int, 0 < k → k < n → (k - 1) / 2 = j → 0 < j → ¬ ltE (gt l k) (gt l ((j - 1) / 2)))
def DnI (l : List EN) (n i : Int) : Prop := (∀ k : Int, 0 < k → k < n → (k - 1) / 2 ≠ i → ¬ ltE (gt l k) (gt l ((k - 1) / 2))) ∧ (∀ k : Int, 0 < k → k < n → (k - 1) / 2 = i → 0 < i → ¬ ltE (gt l k) (gt l ((i - 1) / 2)))
theorem ltE_tr {a b c : EN} (h : ¬ ltE b a) (k : ¬ ltE c b) : ¬ ltE c a := by unfold ltE at *; omega
theorem ltE_as {a b : EN} (h : ltE a b) : ¬ ltE b a := by unfold ltE at *; omega
theorem Hp.root {l : List EN} {n : Int} (h : Hp l n) : ∀ (f : Nat) (k : Int), k.toNat ≤ f → 0 ≤ k → k < n → ¬ ltE (gt l k) (gt l 0)
  | 0, k, hf, h0, h1 => by rw [show k = 0 from by omega]; exact fun e => ltE_as e e
  | f + 1, k, hf, h0, h1 => by
    rcases (by omega : k = 0 ∨ 0 < k) with rfl | hk
    · exact fun e => ltE_as e e
    · exact ltE_tr (h.root f ((k - 1) / 2) (by omega) (by omega) (by omega)) (h k hk h1)
theorem up_root {l : List EN} {n : Int} (h : UpI l n 0) : Hp l n := fun k h0 h1 => h.1 k h0 h1 (by omega)
theorem up_end {l : List EN} {n j : Int} (h : UpI l n j) (hj : ¬ ltE (gt l j) (gt l ((j - 1) / 2))) : Hp l n := fun k h0 h1 => by
  by_cases hk : k = j
  · subst hk; exact hj
  · exact h.1 k h0 h1 hk
theorem up_step {l : List EN} {n j : Int} (h : UpI l n j) (hn : n = l.length) (h0 : 0 < j) (h1 : j < n) (hlt : ltE (gt l j) (gt l ((j - 1) / 2))) : UpI (swF l ((j - 1) / 2) j) n ((j - 1) / 2) := by
  have hp : 0 ≤ (j - 1) / 2 ∧ (j - 1) / 2 < (l.length : Int) := by omega
  have hj : 0 ≤ j ∧ j < (l.length : Int) := by omega
  refine ⟨fun k k0 k1 kn => ?_, fun k k0 k1 kp kz => ?_⟩
  · rw [gt_swF hp hj (by omega), gt_swF hp hj (by omega)]
    by_cases e1 : k = j
    · rw [if_pos e1, e1, if_neg (by omega), if_pos rfl]; exact ltE_as hlt
    · rw [if_neg e1, if_neg kn]
      by_cases e2 : (k - 1) / 2 = j
      · rw [if_pos e2]; exact h.2 k k0 k1 e2 h0
      · rw [if_neg e2]
        by_cases e3 : (k - 1) / 2 = (j - 1) / 2
        · rw [if_pos e3]
          have := h.1 k k0 k1 e1
          rw [e3] at this
          exact ltE_tr (fun q => absurd hlt (ltE_as q)) this
        · rw [if_neg e3]; exact h.1 k k0 k1 e1
  · have := h.1 ((j - 1) / 2) kz (by omega) (by omega)
    have e0 : gt (swF l ((j - 1) / 2) j) (((j - 1) / 2 - 1) / 2) = gt l (((j - 1) / 2 - 1) / 2) := by rw [gt_swF hp hj (by omega), if_neg (by omega), if_neg (by omega)]
    rw [e0, gt_swF hp hj (by omega)]
    by_cases e1 : k = j
    · rw [if_pos e1]; exact this
    · rw [if_neg e1, if_neg (by omega)]
      have h2 := h.1 k k0 k1 e1
      rw [kp] at h2
      exact ltE_tr this h2
theorem dn_leaf {l : List EN} {n i : Int} (h : DnI l n i) (hi : n ≤ 2 * i + 1) : Hp l n := fun k h0 h1 => h.1 k h0 h1 (by omega)
theorem dn_end {l : List EN} {n i j : Int} (h : DnI l n i) (hj : ¬ ltE (gt l j) (gt l i)) (ho : ∀ k : Int, 0 < k → k < n → (k - 1) / 2 = i → ¬ ltE (gt l k) (gt l j)) : Hp l n := fun k h0 h1 => by
  by_cases hk : (k - 1) / 2 = i
  · rw [hk]; exact ltE_tr hj (ho k h0 h1 hk)
  · exact h.1 k h0 h1 hk
theorem dn_step {l : List EN} {n i j : Int} (h : DnI l n i) (hn : n ≤ l.length) (h0 : 0 ≤ i) (h1 : j < n) (hp : (j - 1) / 2 = i) (hj0 : 0 < j) (hlt : ltE (gt l j) (gt l i)) (ho : ∀ k : Int, 0 < k → k < n → (k - 1) / 2 = i → ¬ ltE (gt l k) (gt l j)) : DnI (swF l i j) n j := by
  have hi : 0 ≤ i ∧ i < (l.length : Int) := by omega
  have hj : 0 ≤ j ∧ j < (l.length : Int) := by omega
  refine ⟨fun k k0 k1 kn => ?_, fun k k0 k1 kp kz => ?_⟩
  · rw [gt_swF hi hj (by omega), gt_swF hi hj (by omega)]
    by_cases e1 : k = j
    · rw [if_pos e1, e1, if_neg (by omega), if_pos hp]; exact ltE_as hlt
    · rw [if_neg e1, if_neg kn]
      by_cases e2 : k = i
      · rw [if_pos e2, if_neg (by omega)]
        exact h.2 j hj0 h1 hp (by omega) |> fun q => by rw [e2]; exact q
      · rw [if_neg e2]
        by_cases e3 : (k - 1) / 2 = i
        · rw [if_pos e3]; exact ho k k0 k1 e3
        · rw [if_neg e3]; exact h.1 k k0 k1 e3
  · rw [gt_swF hi hj (by omega), gt_swF hi hj (by omega), hp, if_neg (by omega), if_neg (by omega), if_neg (by omega), if_pos rfl]
    have := h.1 k k0 k1 (by omega)
    rw [kp] at this
    exact this
theorem dn_start {l : List EN} {n : Int} (h : Hp l (n + 1)) (hn : n + 1 = l.length) (h0 : 0 ≤ n) : DnI (swF l 0 n) n 0 := by
  refine ⟨fun k k0 k1 kn => ?_, fun k k0 k1 kp kz => absurd kz (by decide)⟩
  rw [gt_swF ⟨by omega, by omega⟩ ⟨by omega, by omega⟩ (by omega), gt_swF ⟨by omega, by omega⟩ ⟨by omega, by omega⟩ (by omega), if_neg (by omega), if_neg (by omega), if_neg (by omega), if_neg (by omega)]
  exact h k k0 (by omega)
theorem up_push {l : List EN} {e : EN} (h : Hp l l.length) : UpI (l ++ [e]) (l.length + 1) l.length := by
  refine ⟨fun k k0 k1 kn => ?_, fun k k0 k1 kp kz => by omega⟩
  rw [gtA (by omega) (by omega), gtA (by omega) (by omega)]
  exact h k k0 (by omega)
theorem up_key {l : List EN} {i : Int} {e : EN} (h : Hp l l.length) (hi : 0 ≤ i ∧ i < l.length) (he : ltE e (gt l i)) : UpI (l.set i.toNat e) l.length i ∧ ∀ k : Int, 0 < k → k < l.length → (k - 1) / 2 = i → ¬ ltE (gt (l.set i.toNat e) k) (gt (l.set i.toNat e) i) := by
  refine ⟨⟨fun k k0 k1 kn => ?_, fun k k0 k1 kp kz => ?_⟩, fun k k0 k1 kp => ?_⟩
  · rw [gtN (by omega) (by omega) (fun q => kn q.symm)]
    by_cases e1 : (k - 1) / 2 = i
    · rw [e1, gtS hi.1 hi.2]
      have := h k k0 k1
      rw [e1] at this
      exact ltE_tr (ltE_as he) this
    · rw [gtN (by omega) (by omega) (fun q => e1 q.symm)]; exact h k k0 k1
  · rw [gtN (by omega) (by omega) (by omega), gtN (by omega) (by omega) (by omega)]
    have h1 := h k k0 k1
    rw [kp] at h1
    exact ltE_tr (h i kz hi.2) h1
  · rw [gtN (by omega) (by omega) (by omega), gtS hi.1 hi.2]
    have := h k k0 k1
    rw [kp] at this
    exact ltE_tr (ltE_as he) this
structure QQ (l : List EN) (m : List (Int × Int)) : Prop where
  qi : QI l m
  hp : Hp l l.length
theorem QQ.nil : QQ [] [] := ⟨QI.nil, fun k h0 h1 => by simp at h1; omega⟩
def kq (l : List EN) (x : Int) : Option Int := (l.find? (fun e => decide (e.ei = x))).map EN.ek
theorem QI.kq {l : List EN} {m : List (Int × Int)} (h : QI l m) {x k : Int} : kq l x = some k ↔ ⟨x, k⟩ ∈ l := by
  unfold SX.kq
  constructor
  · intro e
    obtain ⟨a, ha, rfl⟩ := Option.map_eq_some_iff.1 e
    have h1 := List.mem_of_find?_eq_some ha
    have h2 : a.ei = x := by have := List.find?_some ha; simpa using this
    subst h2; exact h1
  · intro e
    cases hf : l.find? (fun e => decide (e.ei = x)) with
    | none => have := List.find?_eq_none.1 hf _ e; simp at this
    | some a =>
      have h1 := List.mem_of_find?_eq_some hf
      have h2 : a.ei = x := by have := List.find?_some hf; simpa using this
      obtain ⟨i, i0, i1, ei⟩ := memG h1
      obtain ⟨j, j0, j1, ej⟩ := memG e
      have := h.inj ⟨i0, i1⟩ ⟨j0, j1⟩ (by rw [ei, ej, h2])
      subst this
      rw [← ei, ej]; rfl
theorem QI.has {l : List EN} {m : List (Int × Int)} (h : QI l m) {x : Int} : mhas m x = (SX.kq l x).isSome := by
  rw [Bool.eq_iff_iff, Option.isSome_iff_exists]
  constructor
  · intro hx
    obtain ⟨o1, o2, o3⟩ := h.of x hx
    exact ⟨_, h.kq.2 (by have := gtM o1 o2; rw [← o3]; exact this)⟩
  · rintro ⟨k, hk⟩
    obtain ⟨i, i0, i1, ei⟩ := memG (h.kq.1 hk)
    have := (h.pos i i0 i1).1
    rw [ei] at this; exact this
theorem QI.kat {l : List EN} {m : List (Int × Int)} (h : QI l m) {x : Int} (hx : mhas m x = true) : SX.kq l x = some (gt l (mget m x 0)).ek := by
  obtain ⟨o1, o2, o3⟩ := h.of x hx
  refine h.kq.2 ?_
  have e : (⟨x, (gt l (mget m x 0)).ek⟩ : EN) = gt l (mget m x 0) := en_ext o3.symm rfl
  rw [e]; exact gtM o1 o2
theorem kq_ext {f g : Int → Option Int} (h : ∀ x k, f x = some k ↔ g x = some k) : f = g := by
  funext x
  cases hg : g x with
  | some k => exact (h x k).2 hg
  | none =>
    cases hf : f x with
    | none => rfl
    | some k => rw [(h x k).1 hf] at hg; cases hg
theorem kq_perm {l l' : List EN} {m m' : List (Int × Int)} (h : QI l m) (h' : QI l' m') (hp : l'.Perm l) : kq l' = kq l :=
  kq_ext fun x k => by rw [h.kq, h'.kq, hp.mem_iff]
def putK (f : Int → Option Int) (x k : Int) : Int → Option Int := fun y => if y = x then some (match f x with | some k0 => if k < k0 then k else k0 | none => k) else f y
def delK (f : Int → Option Int) (x : Int) : Int → Option Int := fun y => if y = x then none else f y
theorem put_same {f : Int → Option Int} {x k k0 : Int} (h : f x = some k0) (hk : k0 ≤ k) : putK f x k = f := by
  funext y; unfold putK
  split
  · rename_i e; rw [e, h]; simp only [Option.some.injEq]; rw [if_neg (by omega)]
  · rfl
theorem put_new {l l' : List EN} {m m' : List (Int × Int)} {x k : Int} (h : QI l m) (h' : QI l' m') (hx : mhas m x = false) (hp : l'.Perm (l ++ [⟨x, k⟩])) : kq l' = putK (kq l) x k := by
  have hn : kq l x = none := by
    cases hq : kq l x with
    | none => rfl
    | some k => rw [h.has, hq] at hx; cases hx
  refine kq_ext fun y k' => ?_
  rw [h'.kq, hp.mem_iff, List.mem_append, List.mem_singleton, ← h.kq]
  unfold putK
  rw [hn]
  by_cases hy : y = x
  · subst hy; rw [if_pos rfl, hn]; simp [EN.mk.injEq, eq_comm]
  · rw [if_neg hy]; simp [EN.mk.injEq, hy]
theorem put_low {l l' : List EN} {m m' : List (Int × Int)} {x k : Int} (h : QI l m) (h' : QI l' m') (hx : mhas m x = true) (hk : k < (gt l (mget m x 0)).ek) (hp : l'.Perm (l.set (mget m x 0).toNat ⟨(gt l (mget m x 0)).ei, k⟩)) : kq l' = putK (kq l) x k := by
  obtain ⟨o1, o2, o3⟩ := h.of x hx
  have h2 := qi_key (e := ⟨(gt l (mget m x 0)).ei, k⟩) h ⟨o1, o2⟩ rfl
  have e1 := kq_perm h2 h' hp
  rw [e1]
  refine kq_ext fun y k' => ?_
  have hy : ∀ y, kq (l.set (mget m x 0).toNat ⟨(gt l (mget m x 0)).ei, k⟩) y = if y = x then some k else kq l y := by
    intro y
    cases hm : mhas m y with
    | false =>
      have a1 : kq l y = none := by cases hq : kq l y with | none => rfl | some k => rw [h.has, hq] at hm; cases hm
      have a2 : kq (l.set (mget m x 0).toNat ⟨(gt l (mget m x 0)).ei, k⟩) y = none := by
        cases hq : kq (l.set (mget m x 0).toNat ⟨(gt l (mget m x 0)).ei, k⟩) y with | none => rfl | some k => rw [h2.has, hq] at hm; cases hm
      rw [if_neg (fun e => by rw [e, hx] at hm; cases hm), a1, a2]
    | true =>
      rw [h2.kat hm]
      by_cases hyx : y = x
      · subst hyx; rw [if_pos rfl, gtS o1 o2]
      · obtain ⟨p1, p2, p3⟩ := h.of y hm
        have hne : mget m x 0 ≠ mget m y 0 := fun e => hyx (by rw [← p3, ← e, o3])
        rw [if_neg hyx, gtN o1 p1 hne, h.kat hm]
  rw [hy]
  unfold putK
  rw [h.kat hx]
  simp only
  rw [if_pos hk]
theorem take_kq {l l' : List EN} {m m' : List (Int × Int)} {e : EN} (h : QI l m) (h' : QI l' m') (hp : (e :: l').Perm l) : kq l' = delK (kq l) e.ei := by
  refine kq_ext fun y k => ?_
  rw [h'.kq]
  unfold delK
  have hnd : ∀ k, ⟨e.ei, k⟩ ∈ l' → False := fun k hk => by
    obtain ⟨A, B, rfl⟩ := List.append_of_mem hk
    have hl : l.length = A.length + B.length + 2 := by rw [← hp.length_eq]; simp; omega
    have c1 : (l.map EN.ei).Nodup := by
      rw [List.Nodup, List.pairwise_iff_getElem]
      intro i j hi hj hij q
      simp only [List.length_map] at hi hj
      simp only [List.getElem_map] at q
      have a1 := gt_get (l := l) (i := (i : Int)) (by omega) (by omega)
      have a2 := gt_get (l := l) (i := (j : Int)) (by omega) (by omega)
      simp only [Int.toNat_natCast] at a1 a2
      rw [← a1, ← a2] at q
      have := h.inj (i := i) (j := j) ⟨by omega, by omega⟩ ⟨by omega, by omega⟩ q
      omega
    have c2 := ((hp.map EN.ei).nodup_iff).2 c1
    rw [List.map_cons, List.nodup_cons] at c2
    exact c2.1 (List.mem_map.2 ⟨_, hk, rfl⟩)
  by_cases hy : y = e.ei
  · rw [if_pos hy]
    refine ⟨fun hk => ?_, fun q => by cases q⟩
    subst hy; exact (hnd k hk).elim
  · rw [if_neg hy, h.kq, ← hp.mem_iff, List.mem_cons]
    constructor
    · exact .inr
    · rintro (q | q)
      · exact absurd (by rw [← q]) hy
      · exact q
def leastK (f : Int → Option Int) (x k : Int) : Prop := f x = some k ∧ ∀ y k', f y = some k' → k < k' ∨ (k = k' ∧ x ≤ y)
theorem least_root {l : List EN} {m : List (Int × Int)} (h : QQ l m) (hl : 0 < l.length) : leastK (kq l) (gt l 0).ei (gt l 0).ek := by
  refine ⟨h.qi.kq.2 (gtM (by omega) (by omega)), fun y k' hy => ?_⟩
  obtain ⟨i, i0, i1, ei⟩ := memG (h.qi.kq.1 hy)
  have := h.hp.root i.toNat i (Nat.le_refl _) i0 i1
  rw [ei] at this
  unfold ltE at this
  simp only at this
  omega
theorem leastK_det {f : Int → Option Int} {x y a b : Int} (h : leastK f x a) (k : leastK f y b) : x = y ∧ a = b := by
  have h1 := h.2 y b k.1
  have h2 := k.2 x a h.1
  omega
theorem par_eq {j p : Int} (h : IntKind.i64.wrap (Int.tdiv (j - 1) 2) = p) (h0 : 0 ≤ j) (h1 : j < 1000000) : (j = 0 ∧ p = 0) ∨ (0 < j ∧ p = (j - 1) / 2 ∧ 0 ≤ p ∧ p < j) := by
  rcases (by omega : j = 0 ∨ 0 < j) with rfl | hj
  · left; refine ⟨rfl, ?_⟩; rw [← h]; decide
  · right
    have : Int.tdiv (j - 1) 2 = (j - 1) / 2 := Int.tdiv_eq_ediv_of_nonneg (by omega)
    rw [this, wrap_in (by omega) (by omega)] at h
    omega
section
variable {V : Env} {P : Program} {Q : Exit → Act → World → Prop} {ops : Array Oper} {N : Nat} {o : Oper} {rest : List Oper} {L : List (Nat × Value)} {H R : List Res} {S : Nat → Prop} {wf : World} {K : St → Prop} {st : St} {C : World → Prop} {c : Code}
theorem ev_slca {t e : TypeId} {x : Operand} {hi : Option Operand} {A : Option Addr} {n c h sz : Nat} {ag : Bool} (ho : o.op = .slice t x none hi none) (hu : P.underlying t = some (.slice e)) (hs : ty P e = some (ag, sz))
    (hx : lk L x = some (.slice A n c)) (hhi : Bd L hi n h) (h2 : h ≤ c) : Ev P C L o (.slice A h c) := by
  have h3 := ev_slc (C := C) ho hu hs hx .n hhi (Nat.zero_le _) h2
  have e : cutA A c 0 sz = A := by
    unfold cutA
    split
    · rfl
    · cases A with
      | none => rfl
      | some a => simp [Addr.add]
  rw [e] at h3
  simpa using h3
theorem WW.cutrow {α : Type} {E : Enc α} {e n c : Nat} {A : Option Addr} {l : List α} (k : Nat) (hk : k ≤ l.length) {w : World} (h : WW V S wf (rw_ E e (.slice A n c) l :: R) w) : WW V S wf (rw_ E e (.slice A k c) (l.take k) :: R) w := by
  refine WW.swap (A := [rw_ E e (.slice A n c) l]) h ?_ (fun hA => ?_)
  · cases A <;> simp [rw_, row, Value.ownBlock]
  · have hh := hA _ (List.mem_singleton.2 rfl)
    refine rw_holds.2 ?_
    rcases rw_holds.1 hh with ⟨h1, rfl⟩ | ⟨g, cap, cur, h1, h2, h3, h4, h5, h6⟩
    · injection h1 with a1 a2 a3
      subst a1 a3
      have : k = 0 := by simpa using hk
      subst this
      exact .inl ⟨rfl, rfl⟩
    · injection h1 with a1 a2 a3
      subst a1 a3
      refine .inr ⟨g, _, cur, ?_, h2, by rw [List.length_take]; omega, h4, h5, ?_⟩
      · rw [List.length_take, Nat.min_eq_left hk]
      · rw [List.length_take, Nat.min_eq_left hk, ← flat_take, ← h6, List.take_take, Nat.min_eq_left (Nat.mul_le_mul_right _ hk)]
theorem SC.cutrow {α : Type} {E : Enc α} {e n c : Nat} {A : Option Addr} {l : List α} (k : Nat) (hp : Pick H (rw_ E e (.slice A n c) l) R) (hk : k ≤ l.length) {cd : Code} (h : SC V P Q N cd ⟨L, rw_ E e (.slice A k c) (l.take k) :: R, S, wf⟩) : SC V P Q N cd ⟨L, H, S, wf⟩ :=
  fun a w hs hw => h a w hs ((hw.perm hp.perm).cutrow k hk)
theorem st_gcallki {d g t : Nat} {want b : Bool} {f : FuncId} {xf : Operand} {name : String} {tt : TypeId} {rv rv' : Value} {x : Array Operand} {ts : Array TypeId} {args : List Value} {r : Value} (ho : o.op = .call { callee := .invoke xf name, args := x, argTypes := ts }) (hg : o.guard = some (g, want)) (ht : (ops[g]?).bind (·.dst) = some t) (hL : lkp L t = some (.bool b)) (hd : o.dst = some d) (hdN : Nat.blt d N = true)
    (hx : b = want → lk L xf = some (.iface tt rv)) (hm : ∀ w, (method (P.types.size + Made.depth) tt rv name).run P w = .ok (f, rv') w) (hf : hasBody P f = true) (ha : b = want → lkAll L (.const rv' :: x.toList) = some args) {CC : List Res} (hp : PickL H CC R) (hT : b = want → TR0 P f args CC S wf (fun v C' => v = r ∧ C' = CC))
    (k : K ⟨(d, gv b want r) :: L, H, S, wf⟩) : OpStep V P Q ops N o ⟨L, H, S, wf⟩ K := by
  refine .split (st := ⟨L, H, S, wf⟩) hg ht hL (fun hb => .viainv ho (hx hb) hm rfl hf (st_callk rfl rfl hd hdN hf (by have := ha hb; simpa using this) hp (hT hb) ?_)) hd hdN (fun hb => ?_)
  · rw [show gv b want r = r from if_pos hb] at k
    exact k
  · rw [show gv b want r = undef from if_neg hb] at k
    exact k
end
end Go.SX
namespace Go.SX
theorem mset_mins {α β : Type} [DecidableEq α] {M : List (α × β)} {x : α} {z v : β} : mset (mins M x z) x v = mset M x v := by
  cases h : mhas M x with
  | true => unfold mins; rw [if_pos h]
  | false =>
    have e1 : mins M x z = M ++ [(x, z)] := by unfold mins; rw [if_neg (by rw [h]; decide)]
    have e2 : mset M x v = M ++ [(x, v)] := by unfold mset; rw [if_neg (by rw [h]; decide)]
    have h3 : mhas (M ++ [(x, z)]) x = true := mhas_iff.2 ⟨z, by simp⟩
    rw [e1, e2]
    unfold mset
    rw [if_pos h3, List.map_append]
    have h4 : M.map (fun p => if p.1 = x then (x, v) else p) = M := by
      rw [List.map_congr_left (g := id) (fun p hp => by
        rw [if_neg]; rfl
        intro hk
        have : mhas M x = true := mhas_iff.2 ⟨p.2, by rw [← hk]; exact hp⟩
        rw [h] at this; cases this)]
      simp
    rw [h4]; simp
end Go.SX
namespace Go.SX
theorem dn_oth2 {X : List EN} {k x : Int} (h : ltE (gt X (2 * x + 1 + 1)) (gt X (2 * x + 1))) : ∀ j : Int, 0 < j → j < k → (j - 1) / 2 = x → ¬ ltE (gt X j) (gt X (2 * x + 1 + 1)) := fun j j0 j1 jp => by
  rcases (by omega : j = 2 * x + 1 ∨ j = 2 * x + 1 + 1) with rfl | rfl
  · exact ltE_as h
  · exact fun e => ltE_as e e
theorem dn_oth1 {X : List EN} {k x : Int} (h : ¬ (2 * x + 1 + 1 < k ∧ ltE (gt X (2 * x + 1 + 1)) (gt X (2 * x + 1)))) : ∀ j : Int, 0 < j → j < k → (j - 1) / 2 = x → ¬ ltE (gt X j) (gt X (2 * x + 1)) := fun j j0 j1 jp => by
  rcases (by omega : j = 2 * x + 1 ∨ j = 2 * x + 1 + 1) with rfl | rfl
  · exact fun e => ltE_as e e
  · exact fun e => h ⟨j1, e⟩
theorem pop_perm {l X : List EN} {n : Nat} (hn : l.length = n) (h0 : 0 < n) (h : X.Perm (swF l 0 ((n : Int) - 1))) (hx : gt X ((n : Int) - 1) = gt (swF l 0 ((n : Int) - 1)) ((n : Int) - 1)) : (gt l 0 :: X.take (n - 1)).Perm l ∧ gt X ((n - 1 : Nat) : Int) = gt l 0 := by
  have e0 : ((n - 1 : Nat) : Int) = (n : Int) - 1 := by omega
  have e1 : gt X ((n - 1 : Nat) : Int) = gt l 0 := by
    rw [e0, hx, gt_swF ⟨by omega, by omega⟩ ⟨by omega, by omega⟩ (by omega), if_pos rfl]
  refine ⟨?_, e1⟩
  have hl : X.length = n := by rw [h.length_eq, swF_len, hn]
  have h2 : X = X.take (n - 1) ++ [gt l 0] := by
    have h3 : X.take (n - 1 + 1) = X.take (n - 1) ++ [X[n - 1]'(by omega)] := by rw [List.take_append_getElem]
    rw [show n - 1 + 1 = n from by omega, List.take_of_length_le (by omega)] at h3
    have h4 := gt_get (l := X) (i := ((n - 1 : Nat) : Int)) (by omega) (by omega)
    simp only [Int.toNat_natCast] at h4
    rw [← h4, e1] at h3
    exact h3
  have h5 : (gt l 0 :: X.take (n - 1)).Perm X := by
    conv => rhs; rw [h2]
    exact (List.perm_append_comm (l₁ := [gt l 0]))
  exact h5.trans (h.trans (swF_perm ⟨by omega, by omega⟩ ⟨by omega, by omega⟩))
theorem hp_take {X : List EN} {n : Nat} {k : Int} (h : Hp X k) (hk : k = (n : Int)) : Hp (X.take n) n := fun j j0 j1 => by
  rw [gtT (by omega) (by omega), gtT (by omega) (by omega)]; exact h j j0 (by omega)
end Go.SX
namespace Go.SX
open Go Go.RowKit
theorem wrap_u64_in {r : Int} (h0 : 0 ≤ r) (h1 : r < 18446744073709551616) : IntKind.u64.wrap r = r := by
  simp only [IntKind.wrap, IntKind.bits, IntKind.signed, Bool.false_and]
  simp
  omega
section
variable {V : Env} {P : Program} {Q : Exit → Act → World → Prop} {ops : Array Oper} {N : Nat} {o : Oper} {L : List (Nat × Value)} {C : World → Prop}
theorem ev_aru64 {op : BinOp} {t t' : TypeId} {x y : Operand} {a b r : Int} (ho : o.op = .binOp op t x y t') (hx : lk L x = some (.int .u64 a)) (hy : lk L y = some (.int .u64 b)) (hr : arB op .u64 a b = some (IntKind.u64.wrap r)) (h0 : 0 ≤ r) (h1 : r < 18446744073709551616) : Ev P C L o (.int .u64 r) :=
  ev_ar ho hx hy (by rw [hr, wrap_u64_in h0 h1])
end
end Go.SX
namespace Go.SX
structure WO {α : Type} (lt : α → α → Prop) : Prop where
  as : ∀ {a b}, lt a b → ¬ lt b a
  tr : ∀ {a b c}, ¬ lt b a → ¬ lt c b → ¬ lt c a
theorem WO.rf {α : Type} {lt : α → α → Prop} (h : WO lt) (a : α) : ¬ lt a a := fun e => h.as e e
section
variable {α : Type} [Inhabited α] {lt : α → α → Prop} {l X Y Z : List α} {a b m i j k : Int}
structure SegP (a b : Int) (l X : List α) : Prop where
  len : X.length = l.length
  pm : X.Perm l
  out : ∀ i : Int, 0 ≤ i → i < a ∨ b ≤ i → gt X i = gt l i
  ins : ∀ i : Int, a ≤ i → i < b → ∃ j : Int, a ≤ j ∧ j < b ∧ gt X i = gt l j
theorem SegP.rfl' : SegP a b l l := ⟨rfl, .refl _, fun _ _ _ => rfl, fun i h0 h1 => ⟨i, h0, h1, rfl⟩⟩
theorem SegP.trans (h : SegP a b l X) (k : SegP a b X Y) : SegP a b l Y := ⟨k.len.trans h.len, k.pm.trans h.pm, fun i h0 h1 => (k.out i h0 h1).trans (h.out i h0 h1), fun i h0 h1 => by
  obtain ⟨j, j0, j1, e⟩ := k.ins i h0 h1
  obtain ⟨q, q0, q1, e2⟩ := h.ins j j0 j1
  exact ⟨q, q0, q1, e.trans e2⟩⟩
theorem SegP.mono {a' b' : Int} (h : SegP a b l X) (ha : a' ≤ a) (hb : b ≤ b') (h0 : 0 ≤ a') : SegP a' b' l X := ⟨h.len, h.pm, fun i i0 i1 => h.out i i0 (by omega), fun i i0 i1 => by
  by_cases hi : a ≤ i ∧ i < b
  · obtain ⟨j, j0, j1, e⟩ := h.ins i hi.1 hi.2
    exact ⟨j, by omega, by omega, e⟩
  · exact ⟨i, i0, i1, h.out i (by omega) (by omega)⟩⟩
theorem SegP.swap (hi : a ≤ i ∧ i < b) (hj : a ≤ j ∧ j < b) (h0 : 0 ≤ a) (hb : b ≤ l.length) : SegP a b l (swF l i j) := by
  have h1 : 0 ≤ i ∧ i < (l.length : Int) := by omega
  have h2 : 0 ≤ j ∧ j < (l.length : Int) := by omega
  refine ⟨swF_len, swF_perm h1 h2, fun k k0 k1 => ?_, fun k k0 k1 => ?_⟩
  · rw [gt_swF h1 h2 k0, if_neg (by omega), if_neg (by omega)]
  · by_cases e1 : k = j
    · exact ⟨i, hi.1, hi.2, by rw [gt_swF h1 h2 (by omega), if_pos e1]⟩
    · by_cases e2 : k = i
      · exact ⟨j, hj.1, hj.2, by rw [gt_swF h1 h2 (by omega), if_neg e1, if_pos e2]⟩
      · exact ⟨k, k0, k1, by rw [gt_swF h1 h2 (by omega), if_neg e1, if_neg e2]⟩
def Srd (lt : α → α → Prop) (l : List α) (a b : Int) : Prop := ∀ i j : Int, a ≤ i → i ≤ j → j < b → ¬ lt (gt l j) (gt l i)
theorem Srd.sub {a' b' : Int} (h : Srd lt l a b) (ha : a ≤ a') (hb : b' ≤ b) : Srd lt l a' b' := fun i j i0 i1 i2 => h i j (by omega) i1 (by omega)
theorem Srd.one (hw : WO lt) (h : b ≤ a + 1) : Srd lt l a b := fun i j i0 i1 i2 => by
  rw [show i = j from by omega]; exact hw.rf _
theorem Srd.out (h : Srd lt l a b) (hs : SegP i j l X) (h0 : 0 ≤ a) (hd : b ≤ i ∨ j ≤ a) : Srd lt X a b := fun p q p0 p1 p2 => by
  rw [hs.out p (by omega) (by omega), hs.out q (by omega) (by omega)]; exact h p q p0 p1 p2
def InsI (lt : α → α → Prop) (l : List α) (a i j : Int) : Prop := ∀ p q : Int, a ≤ p → p < q → q ≤ i → q ≠ j → ¬ lt (gt l q) (gt l p)
theorem inz_start (h : Srd lt l a i) : InsI lt l a i i := fun p q p0 p1 p2 p3 => h p q p0 (by omega) (by omega)
theorem inz_end (hw : WO lt) (h : InsI lt l a i j) (hj : j ≤ a ∨ ¬ lt (gt l j) (gt l (j - 1))) : Srd lt l a (i + 1) := fun p q p0 p1 p2 => by
  by_cases e : p = q
  · rw [e]; exact hw.rf _
  · by_cases hq : q = j
    · subst hq
      rcases hj with hj | hj
      · omega
      · by_cases e2 : p = q - 1
        · rw [e2]; exact hj
        · exact hw.tr (h p (q - 1) p0 (by omega) (by omega) (by omega)) hj
    · exact h p q p0 (by omega) (by omega) hq
theorem inz_step (hw : WO lt) (h : InsI lt l a i j) (h0 : 0 ≤ a) (hj : a < j) (hji : j ≤ i) (hi : i < l.length) (hlt : lt (gt l j) (gt l (j - 1))) : InsI lt (swF l j (j - 1)) a i (j - 1) := fun p q p0 p1 p2 p3 => by
  have h1 : 0 ≤ j ∧ j < (l.length : Int) := by omega
  have h2 : 0 ≤ j - 1 ∧ j - 1 < (l.length : Int) := by omega
  rw [gt_swF h1 h2 (by omega), gt_swF h1 h2 (by omega), if_neg p3]
  by_cases e1 : q = j
  · rw [if_pos e1]
    by_cases e2 : p = j - 1
    · rw [if_pos e2]; exact hw.as hlt
    · rw [if_neg e2, if_neg (by omega)]; exact h p (j - 1) p0 (by omega) (by omega) (by omega)
  · rw [if_neg e1]
    by_cases e2 : p = j - 1
    · rw [if_pos e2]; exact h j q (by omega) (by omega) p2 e1
    · rw [if_neg e2]
      by_cases e3 : p = j
      · rw [if_pos e3]; exact h (j - 1) q (by omega) (by omega) p2 e1
      · rw [if_neg e3]; exact h p q p0 p1 p2 e1
def SwR (l X : List α) (a b n : Int) : Prop := ∀ q : Int, 0 ≤ q → gt X q = if a ≤ q ∧ q < a + n then gt l (q - a + b) else if b ≤ q ∧ q < b + n then gt l (q - b + a) else gt l q
theorem swr_0 : SwR l l a b 0 := fun q q0 => by rw [if_neg (by omega), if_neg (by omega)]
theorem swr_next (h : SwR l X a b i) (hl : X.length = l.length) (h0 : 0 ≤ a) (hi : 0 ≤ i) (hd : a + i < b) (hb : b + i < l.length) : SwR l (swF X (a + i) (b + i)) a b (i + 1) := fun q q0 => by
  rw [gt_swF (by omega) (by omega) q0]
  by_cases e1 : q = b + i
  · rw [if_pos e1, h _ (by omega), if_neg (by omega), if_neg (by omega), if_neg (by omega), if_pos (by omega)]; congr 1; omega
  · rw [if_neg e1]
    by_cases e2 : q = a + i
    · rw [if_pos e2, h _ (by omega), if_neg (by omega), if_neg (by omega), if_pos (by omega)]; congr 1; omega
    · rw [if_neg e2, h q q0]
      by_cases e3 : a ≤ q ∧ q < a + i
      · rw [if_pos e3, if_pos (by omega)]
      · rw [if_neg e3, if_neg (show ¬ (a ≤ q ∧ q < a + (i + 1)) from by omega)]
        by_cases e4 : b ≤ q ∧ q < b + i
        · rw [if_pos e4, if_pos (by omega)]
        · rw [if_neg e4, if_neg (by omega)]
def RotT (l : List α) (a m b q : Int) : α := if q < a + (b - m) then gt l (q + (m - a)) else gt l (q - (b - m))
structure RotI (l X : List α) (a m b i j : Int) : Prop where
  i0 : 1 ≤ i ∧ i ≤ m - a
  j0 : 1 ≤ j ∧ j ≤ b - m
  lo : ∀ q : Int, a ≤ q → q < m - i → gt X q = RotT l a m b q
  hi : ∀ q : Int, m + j ≤ q → q < b → gt X q = RotT l a m b q
  x : ∀ q : Int, m - i ≤ q → q < m - i + j → gt X (q + i) = RotT l a m b q
  y : ∀ q : Int, m - i + j ≤ q → q < m + j → gt X (q - j) = RotT l a m b q
theorem rot_0 (h1 : a < m) (h2 : m < b) : RotI l l a m b (m - a) (b - m) where
  i0 := by omega
  j0 := by omega
  lo q q0 q1 := by omega
  hi q q0 q1 := by omega
  x q q0 q1 := by unfold RotT; rw [if_pos (by omega)]
  y q q0 q1 := by unfold RotT; rw [if_neg (by omega)]
theorem rot_gt (h : RotI l X a m b i j) (h0 : 0 ≤ a) (hs : SwR X Y (m - i) m j) (hij : j < i) : RotI l Y a m b (i - j) j where
  i0 := by have := h.i0; have := h.j0; omega
  j0 := h.j0
  lo q q0 q1 := by
    have h1 := h.i0; have h2 := h.j0
    rw [hs q (by omega)]
    by_cases e : m - i ≤ q ∧ q < m - i + j
    · rw [if_pos e, show q - (m - i) + m = q + i from by omega]; exact h.x q e.1 e.2
    · rw [if_neg e, if_neg (by omega)]; exact h.lo q q0 (by omega)
  hi q q0 q1 := by have h1 := h.i0; have h2 := h.j0; rw [hs q (by omega), if_neg (by omega), if_neg (by omega)]; exact h.hi q q0 q1
  x q q0 q1 := by
    have h1 := h.i0; have h2 := h.j0
    rw [hs _ (by omega), if_neg (by omega), if_pos (by omega), show q + (i - j) - m + (m - i) = q - j from by omega]; exact h.y q (by omega) (by omega)
  y q q0 q1 := by
    have h1 := h.i0; have h2 := h.j0
    rw [hs _ (by omega), if_neg (by omega), if_neg (by omega)]; exact h.y q (by omega) q1
theorem rot_lt (h : RotI l X a m b i j) (h0 : 0 ≤ a) (hs : SwR X Y (m - i) (m + j - i) i) (hij : i < j) : RotI l Y a m b i (j - i) where
  i0 := h.i0
  j0 := by have := h.i0; have := h.j0; omega
  lo q q0 q1 := by have h1 := h.i0; have h2 := h.j0; rw [hs q (by omega), if_neg (by omega), if_neg (by omega)]; exact h.lo q q0 q1
  hi q q0 q1 := by
    have h1 := h.i0; have h2 := h.j0
    rw [hs q (by omega), if_neg (by omega)]
    by_cases e : m + j - i ≤ q ∧ q < m + j - i + i
    · rw [if_pos e, show q - (m + j - i) + (m - i) = q - j from by omega]; exact h.y q (by omega) (by omega)
    · rw [if_neg e]; exact h.hi q (by omega) q1
  x q q0 q1 := by
    have h1 := h.i0; have h2 := h.j0
    rw [hs _ (by omega), if_neg (by omega), if_neg (by omega)]; exact h.x q q0 (by omega)
  y q q0 q1 := by
    have h1 := h.i0; have h2 := h.j0
    rw [hs _ (by omega), if_pos (by omega), show q - (j - i) - (m - i) + (m + j - i) = q + i from by omega]; exact h.x q (by omega) (by omega)
theorem rot_end (h : RotI l X a m b i j) (h0 : 0 ≤ a) (hs : SwR X Y (m - i) m i) (hij : i = j) : ∀ q : Int, a ≤ q → q < b → gt Y q = RotT l a m b q := fun q q0 q1 => by
  have h1 := h.i0; have h2 := h.j0
  rw [hs q (by omega)]
  by_cases e : m - i ≤ q ∧ q < m - i + i
  · rw [if_pos e, show q - (m - i) + m = q + i from by omega]; exact h.x q e.1 (by omega)
  · rw [if_neg e]
    by_cases e2 : m ≤ q ∧ q < m + i
    · rw [if_pos e2, show q - m + (m - i) = q - i from by omega, hij]; exact h.y q (by omega) (by omega)
    · rw [if_neg e2]
      by_cases e3 : q < m - i
      · exact h.lo q q0 e3
      · exact h.hi q (by omega) q1
def UpR (l X : List α) (a k : Int) : Prop := ∀ q : Int, 0 ≤ q → gt X q = if a ≤ q ∧ q < k then gt l (q + 1) else if q = k then gt l a else gt l q
theorem upr_0 : UpR l l a a := fun q q0 => by rw [if_neg (by omega)]; split; rename_i e; rw [e]; rfl
theorem upr_next (h : UpR l X a k) (hl : X.length = l.length) (h0 : 0 ≤ a) (hk : a ≤ k) (hb : k + 1 < l.length) : UpR l (swF X k (k + 1)) a (k + 1) := fun q q0 => by
  rw [gt_swF (by omega) (by omega) q0]
  by_cases e1 : q = k + 1
  · rw [if_pos e1, h k (by omega), if_neg (by omega), if_pos rfl, if_neg (by omega), if_pos e1]
  · rw [if_neg e1]
    by_cases e2 : q = k
    · rw [if_pos e2, h (k + 1) (by omega), if_neg (by omega), if_neg (by omega), if_pos (by omega), e2]
    · rw [if_neg e2, h q q0]
      by_cases e3 : a ≤ q ∧ q < k
      · rw [if_pos e3, if_pos (by omega)]
      · rw [if_neg e3, if_neg e2, if_neg (by omega), if_neg e1]
def DnR (l X : List α) (m k : Int) : Prop := ∀ q : Int, 0 ≤ q → gt X q = if k < q ∧ q ≤ m then gt l (q - 1) else if q = k then gt l m else gt l q
theorem dnr_0 : DnR l l m m := fun q q0 => by rw [if_neg (by omega)]; split; rename_i e; rw [e]; rfl
theorem dnr_next (h : DnR l X m k) (hl : X.length = l.length) (h0 : 0 < k) (hk : k ≤ m) (hb : m < l.length) : DnR l (swF X k (k - 1)) m (k - 1) := fun q q0 => by
  rw [gt_swF (by omega) (by omega) q0]
  by_cases e1 : q = k - 1
  · rw [if_pos e1, h k (by omega), if_neg (by omega), if_pos rfl, if_neg (by omega), if_pos e1]
  · rw [if_neg e1]
    by_cases e2 : q = k
    · rw [if_pos e2, h (k - 1) (by omega), if_neg (by omega), if_neg (by omega), if_pos (by omega), e2]
    · rw [if_neg e2, h q q0]
      by_cases e3 : k < q ∧ q ≤ m
      · rw [if_pos e3, if_pos (by omega)]
      · rw [if_neg e3, if_neg e2, if_neg (by omega), if_neg e1]
theorem bs_lo (hw : WO lt) (hs : Srd lt l m b) {h : Int} (hm : m ≤ h) (hb : h < b) {x : α} (hc : lt (gt l h) x) : ∀ q : Int, m ≤ q → q < h + 1 → lt (gt l q) x := fun q q0 q1 => Classical.byContradiction fun e => hw.tr e (hs q h q0 (by omega) hb) hc
theorem bs_hi (hw : WO lt) (hs : Srd lt l m b) {h : Int} (hm : m ≤ h) (hb : h < b) {x : α} (hc : ¬ lt (gt l h) x) : ∀ q : Int, h ≤ q → q < b → ¬ lt (gt l q) x := fun q q0 q1 => hw.tr hc (hs h q hm q0 q1)
theorem bs_lo' (hw : WO lt) (hs : Srd lt l a m) {h : Int} (ha : a ≤ h) (hb : h < m) {x : α} (hc : ¬ lt x (gt l h)) : ∀ q : Int, a ≤ q → q < h + 1 → ¬ lt x (gt l q) := fun q q0 q1 => hw.tr (hs q h q0 (by omega) hb) hc
theorem bs_hi' (hw : WO lt) (hs : Srd lt l a m) {h : Int} (ha : a ≤ h) (hb : h < m) {x : α} (hc : lt x (gt l h)) : ∀ q : Int, h ≤ q → q < m → lt x (gt l q) := fun q q0 q1 => Classical.byContradiction fun e => hw.tr (hs h q ha q0 q1) e hc
theorem one_up (hw : WO lt) (hm : m = a + 1) (h0 : 0 ≤ a) (hs : Srd lt l m b) (hi : m ≤ i ∧ i ≤ b) (h1 : ∀ q : Int, m ≤ q → q < i → lt (gt l q) (gt l a)) (h2 : ∀ q : Int, i ≤ q → q < b → ¬ lt (gt l q) (gt l a)) (hX : UpR l X a (i - 1)) : Srd lt X a b := fun p q p0 p1 p2 => by
  by_cases e : p = q
  · rw [e]; exact hw.rf _
  rw [hX p (by omega), hX q (by omega)]
  by_cases e1 : a ≤ q ∧ q < i - 1
  · rw [if_pos e1, if_pos (by omega)]; exact hs _ _ (by omega) (by omega) (by omega)
  · rw [if_neg e1]
    by_cases e2 : q = i - 1
    · rw [if_pos e2, if_pos (by omega)]; exact hw.as (h1 _ (by omega) (by omega))
    · rw [if_neg e2]
      by_cases e3 : a ≤ p ∧ p < i - 1
      · rw [if_pos e3]; exact hs _ _ (by omega) (by omega) (by omega)
      · rw [if_neg e3]
        by_cases e4 : p = i - 1
        · rw [if_pos e4]; exact h2 q (by omega) p2
        · rw [if_neg e4]; exact hs _ _ (by omega) (by omega) p2
theorem one_dn (hw : WO lt) (hm : b = m + 1) (h0 : 0 ≤ a) (hs : Srd lt l a m) (hi : a ≤ i ∧ i ≤ m) (h1 : ∀ q : Int, a ≤ q → q < i → ¬ lt (gt l m) (gt l q)) (h2 : ∀ q : Int, i ≤ q → q < m → lt (gt l m) (gt l q)) (hX : DnR l X m i) : Srd lt X a b := fun p q p0 p1 p2 => by
  by_cases e : p = q
  · rw [e]; exact hw.rf _
  rw [hX p (by omega), hX q (by omega)]
  by_cases e1 : i < p ∧ p ≤ m
  · rw [if_pos e1, if_pos (by omega)]; exact hs _ _ (by omega) (by omega) (by omega)
  · rw [if_neg e1]
    by_cases e2 : p = i
    · rw [if_pos e2, if_pos (by omega)]; exact hw.as (h2 _ (by omega) (by omega))
    · rw [if_neg e2]
      by_cases e3 : i < q ∧ q ≤ m
      · rw [if_pos e3]; exact hs _ _ (by omega) (by omega) (by omega)
      · rw [if_neg e3]
        by_cases e4 : q = i
        · rw [if_pos e4]; exact h1 p p0 (by omega)
        · rw [if_neg e4]; exact hs _ _ (by omega) (by omega) (by omega)
structure CutI (lt : α → α → Prop) (l : List α) (a m b mid s e : Int) : Prop where
  rng : a ≤ s ∧ s ≤ m ∧ m ≤ e ∧ e ≤ b ∧ s + e = mid + m ∧ s ≤ mid ∧ mid ≤ e
  c1 : ∀ x y : Int, a ≤ x → x < s → e ≤ y → y < b → ¬ lt (gt l y) (gt l x)
  c2 : ∀ x y : Int, s ≤ x → x < m → m ≤ y → y < e → ¬ lt (gt l x) (gt l y)
theorem cut_lo (hw : WO lt) (hA : Srd lt l a m) (hB : Srd lt l m b) {p c : Int} (hc : a ≤ c ∧ c < m) (hp : m ≤ p - c ∧ p - c < b) {lo : Int} (hlo : a ≤ lo) (hpl : p - lo < b) (h : ¬ lt (gt l (p - c)) (gt l c)) : ∀ q : Int, lo ≤ q → q < c + 1 → ¬ lt (gt l (p - q)) (gt l q) := fun q q0 q1 =>
  hw.tr (hw.tr (hA q c (by omega) (by omega) hc.2) h) (hB (p - c) (p - q) hp.1 (by omega) (by omega))
theorem cut_hi (hw : WO lt) (hA : Srd lt l a m) (hB : Srd lt l m b) {p c : Int} (hc : a ≤ c ∧ c < m) (hp : m ≤ p - c ∧ p - c < b) {hi : Int} (hhi : hi ≤ m) (hph : m ≤ p - (hi - 1)) (h : lt (gt l (p - c)) (gt l c)) : ∀ q : Int, c ≤ q → q < hi → lt (gt l (p - q)) (gt l q) := fun q q0 q1 => Classical.byContradiction fun e =>
  hw.tr (hw.tr (hA c q hc.1 q0 (by omega)) e) (hB (p - q) (p - c) (by omega) (by omega) hp.2) h
theorem cut_mk (hw : WO lt) (hA : Srd lt l a m) (hB : Srd lt l m b) {mid s e lo hi : Int} (hb : 0 ≤ a ∧ a < m ∧ m < b) (hmid : 2 * mid ≤ a + b ∧ a + b ≤ 2 * mid + 1) (hlo : (m > mid ∧ lo = mid + m - b ∧ hi = mid) ∨ (m ≤ mid ∧ lo = a ∧ hi = m)) (hs : lo ≤ s ∧ s ≤ hi) (he : e = mid + m - s)
    (h1 : ∀ q : Int, lo ≤ q → q < s → ¬ lt (gt l (mid + m - 1 - q)) (gt l q)) (h2 : ∀ q : Int, s ≤ q → q < hi → lt (gt l (mid + m - 1 - q)) (gt l q)) : CutI lt l a m b mid s e where
  rng := by omega
  c1 x y x0 x1 y0 y1 := by
    have h3 := h1 (s - 1) (by omega) (by omega)
    rw [show mid + m - 1 - (s - 1) = e from by omega] at h3
    exact hw.tr (hw.tr (hA x (s - 1) x0 (by omega) (by omega)) h3) (hB e y (by omega) y0 y1)
  c2 x y x0 x1 y0 y1 := by
    have h3 := h2 s (by omega) (by omega)
    rw [show mid + m - 1 - s = e - 1 from by omega] at h3
    exact hw.tr (hw.tr (hB y (e - 1) y0 (by omega) (by omega)) (hw.as h3)) (hA s x (by omega) x0 x1)
structure HalfI (lt : α → α → Prop) (X : List α) (a b mid s e : Int) : Prop where
  p1 : Srd lt X a s
  p2 : Srd lt X s mid
  p3 : Srd lt X mid e
  p4 : Srd lt X e b
  cr : ∀ x y : Int, a ≤ x → x < mid → mid ≤ y → y < b → ¬ lt (gt X y) (gt X x)
theorem half_rot (hw : WO lt) (hA : Srd lt l a m) (hB : Srd lt l m b) {mid s e : Int} (h0 : 0 ≤ a) (hc : CutI lt l a m b mid s e) (hs : SegP s e l X) (hr : ∀ q : Int, s ≤ q → q < e → gt X q = RotT l s m e q) : HalfI lt X a b mid s e := by
  have hrng := hc.rng
  have L : ∀ q : Int, s ≤ q → q < mid → gt X q = gt l (q + (m - s)) := fun q q0 q1 => by rw [hr q q0 (by omega)]; unfold RotT; rw [if_pos (by omega)]
  have R : ∀ q : Int, mid ≤ q → q < e → gt X q = gt l (q - (e - m)) := fun q q0 q1 => by rw [hr q (by omega) q1]; unfold RotT; rw [if_neg (by omega)]
  have O : ∀ q : Int, 0 ≤ q → q < s ∨ e ≤ q → gt X q = gt l q := hs.out
  refine ⟨fun p q p0 p1 p2 => ?_, fun p q p0 p1 p2 => ?_, fun p q p0 p1 p2 => ?_, fun p q p0 p1 p2 => ?_, fun x y x0 x1 y0 y1 => ?_⟩
  · rw [O p (by omega) (by omega), O q (by omega) (by omega)]; exact hA p q p0 p1 (by omega)
  · rw [L p p0 (by omega), L q (by omega) p2]; exact hB _ _ (by omega) (by omega) (by omega)
  · rw [R p p0 (by omega), R q (by omega) p2]; exact hA _ _ (by omega) (by omega) (by omega)
  · rw [O p (by omega) (by omega), O q (by omega) (by omega)]; exact hB p q (by omega) p1 p2
  · by_cases e1 : x < s
    · rw [O x (by omega) (by omega)]
      by_cases e2 : y < e
      · rw [R y y0 e2]; exact hA _ _ x0 (by omega) (by omega)
      · rw [O y (by omega) (by omega)]; exact hc.c1 x y x0 e1 (by omega) y1
    · rw [L x (by omega) x1]
      by_cases e2 : y < e
      · rw [R y y0 e2]; exact hc.c2 _ _ (by omega) (by omega) (by omega) (by omega)
      · rw [O y (by omega) (by omega)]; exact hB _ _ (by omega) (by omega) y1
theorem half_no (hw : WO lt) (hA : Srd lt l a m) (hB : Srd lt l m b) {mid s e : Int} (h0 : 0 ≤ a) (hc : CutI lt l a m b mid s e) (hn : ¬ (s < m ∧ m < e)) : HalfI lt l a b mid s e := by
  have hrng := hc.rng
  have hsm : s = m ∨ e = m := by omega
  refine ⟨hA.sub (by omega) (by omega), ?_, ?_, hB.sub (by omega) (by omega), fun x y x0 x1 y0 y1 => ?_⟩
  · rcases hsm with h | h
    · exact hB.sub (by omega) (by omega)
    · exact Srd.one hw (by omega)
  · rcases hsm with h | h
    · exact Srd.one hw (by omega)
    · exact hA.sub (by omega) (by omega)
  · rcases hsm with h | h
    · by_cases e1 : x < s
      · exact hc.c1 x y x0 e1 (by omega) y1
      · exact hB x y (by omega) (by omega) y1
    · by_cases e1 : y < m
      · exact hA x y x0 (by omega) e1
      · exact hc.c1 x y x0 (by omega) (by omega) y1
structure LeftI (lt : α → α → Prop) (X : List α) (a b mid e : Int) : Prop where
  p : Srd lt X a mid
  p3 : Srd lt X mid e
  p4 : Srd lt X e b
  cr : ∀ x y : Int, a ≤ x → x < mid → mid ≤ y → y < b → ¬ lt (gt X y) (gt X x)
theorem left_do {mid s e : Int} (h : HalfI lt X a b mid s e) (h0 : 0 ≤ a) (hm : 0 ≤ mid ∧ mid ≤ e) (hs : SegP a mid X Y) (hp : Srd lt Y a mid) : LeftI lt Y a b mid e where
  p := hp
  p3 := h.p3.out hs (by omega) (.inr (by omega))
  p4 := h.p4.out hs (by omega) (.inr (by omega))
  cr x y x0 x1 y0 y1 := by
    obtain ⟨j, j0, j1, ej⟩ := hs.ins x x0 x1
    rw [ej, hs.out y (by omega) (by omega)]; exact h.cr j y j0 j1 y0 y1
theorem left_no {mid s e : Int} (h : HalfI lt X a b mid s e) (hn : ¬ (a < s ∧ s < mid)) (hr : a ≤ s ∧ s ≤ mid) : LeftI lt X a b mid e where
  p := by
    rcases (by omega : s = a ∨ s = mid) with e | e
    · rw [← e]; exact h.p2
    · rw [← e]; exact h.p1
  p3 := h.p3
  p4 := h.p4
  cr := h.cr
theorem right_do {mid e : Int} (h : LeftI lt X a b mid e) (h0 : 0 ≤ a) (hm : a ≤ mid) (hs : SegP mid b X Y) (hp : Srd lt Y mid b) : Srd lt Y a b := fun p q p0 p1 p2 => by
  by_cases e1 : q < mid
  · rw [hs.out p (by omega) (by omega), hs.out q (by omega) (by omega)]; exact h.p p q p0 p1 e1
  · by_cases e2 : mid ≤ p
    · exact hp p q e2 p1 p2
    · obtain ⟨j, j0, j1, ej⟩ := hs.ins q (by omega) p2
      rw [ej, hs.out p (by omega) (by omega)]; exact h.cr p j p0 (by omega) j0 j1
theorem right_no {mid e : Int} (h : LeftI lt X a b mid e) (h0 : 0 ≤ a) (hm : a ≤ mid) (hn : ¬ (mid < e ∧ e < b)) (hr : mid ≤ e ∧ e ≤ b) : Srd lt X a b :=
  right_do h h0 hm (SegP.rfl' (a := mid) (b := b)) (by
    rcases (by omega : e = mid ∨ e = b) with e | e
    · rw [← e]; exact h.p4
    · rw [← e]; exact h.p3)
end
def cmpA (d : Bool) (x y : AR) : Int := orF [cmpI x.fr y.fr, cmpI x.to y.to, cmpI (wgt d x) (wgt d y)]
def ltA (d : Bool) (x y : AR) : Prop := x.fr < y.fr ∨ (x.fr = y.fr ∧ (x.to < y.to ∨ (x.to = y.to ∧ wgt d x < wgt d y)))
theorem cmpA_lt {d : Bool} {x y : AR} : cmpA d x y < 0 ↔ ltA d x y := by
  have hc : ∀ a b : Int, (a < b ∧ cmpI a b = -1) ∨ (a > b ∧ cmpI a b = 1) ∨ (a = b ∧ cmpI a b = 0) := fun a b => by
    unfold cmpI
    rcases Int.lt_trichotomy a b with h | h | h
    · exact .inl ⟨h, if_pos h⟩
    · exact .inr (.inr ⟨h, by rw [if_neg (by omega), if_neg (by omega)]⟩)
    · exact .inr (.inl ⟨h, by rw [if_neg (by omega), if_pos h]⟩)
  unfold cmpA ltA
  simp only [orF]
  rcases hc x.fr y.fr with ⟨h1, e1⟩ | ⟨h1, e1⟩ | ⟨h1, e1⟩ <;> rw [e1] <;> simp
  · omega
  · omega
  · rcases hc x.to y.to with ⟨h2, e2⟩ | ⟨h2, e2⟩ | ⟨h2, e2⟩ <;> rw [e2] <;> simp
    · omega
    · omega
    · rcases hc (wgt d x) (wgt d y) with ⟨h3, e3⟩ | ⟨h3, e3⟩ | ⟨h3, e3⟩ <;> rw [e3] <;> simp <;> omega
theorem ltA_wo (d : Bool) : WO (ltA d) := ⟨fun {a b} h k => by unfold ltA at *; omega, fun {a b c} h k e => by unfold ltA at *; omega⟩
end Go.SX
namespace Go.SX
theorem half_of {x h : Int} (hh : h = Int.fdiv x 2) (hx : 0 ≤ x) : 2 * h ≤ x ∧ x ≤ 2 * h + 1 := by
  rw [Int.fdiv_eq_ediv_of_nonneg _ (by decide)] at hh; omega
end Go.SX
namespace Go.SX
section
variable {α : Type} [Inhabited α] {lt : α → α → Prop} {l X Y Z : List α} {a b n bs : Int}
def BS (lt : α → α → Prop) (X : List α) (n bs : Int) : Prop := ∀ k : Int, 0 ≤ k → Srd lt X (k * bs) (min (k * bs + bs) n)
structure F1 (lt : α → α → Prop) (X : List α) (a : Int) : Prop where
  al : ∃ j : Int, 0 ≤ j ∧ a = j * 20
  dn : ∀ k : Int, 0 ≤ k → k * 20 + 20 ≤ a → Srd lt X (k * 20) (k * 20 + 20)
theorem f1_0 : F1 lt X 0 := ⟨⟨0, by omega, by omega⟩, fun k h0 h1 => by omega⟩
theorem f1_next (h : F1 lt X a) (hs : SegP a b X Y) (hb : b = a + 20) (hp : Srd lt Y a b) : F1 lt Y b := by
  obtain ⟨⟨j, j0, rfl⟩, hd⟩ := h
  subst hb
  refine ⟨⟨j + 1, by omega, by omega⟩, fun k h0 h1 => ?_⟩
  by_cases e : k * 20 + 20 ≤ j * 20
  · exact (hd k h0 e).out hs (by omega) (by omega)
  · rw [show k = j from by omega]; exact hp
theorem f1_end (hw : WO lt) (h : F1 lt X a) (ha : a ≤ n ∧ n < a + 20) (hs : SegP a n X Y) (hp : Srd lt Y a n) : BS lt Y n 20 := by
  obtain ⟨⟨j, j0, rfl⟩, hd⟩ := h
  intro k h0
  by_cases e : k * 20 + 20 ≤ j * 20
  · rw [Int.min_eq_left (by omega)]; exact (hd k h0 e).out hs (by omega) (by omega)
  · by_cases e2 : k = j
    · rw [e2, Int.min_eq_right (by omega)]; exact hp
    · exact Srd.one hw (by omega)
structure Lv (lt : α → α → Prop) (X : List α) (n bs a : Int) : Prop where
  al : ∃ j : Int, 0 ≤ j ∧ a = j * (2 * bs)
  dn : ∀ k : Int, 0 ≤ k → k * (2 * bs) + 2 * bs ≤ a → Srd lt X (k * (2 * bs)) (k * (2 * bs) + 2 * bs)
  up : ∀ k : Int, 0 ≤ k → a ≤ k * bs → Srd lt X (k * bs) (min (k * bs + bs) n)
theorem lv_0 (h : BS lt X n bs) (hb : 0 < bs) : Lv lt X n bs 0 := ⟨⟨0, by omega, by omega⟩, fun k h0 h1 => by
  have := Int.mul_nonneg h0 (show (0 : Int) ≤ 2 * bs by omega); omega, fun k h0 _ => h k h0⟩
theorem lv_use (h : Lv lt X n bs a) (hb : 0 < bs) : 0 ≤ a ∧ Srd lt X a (min (a + bs) n) ∧ Srd lt X (a + bs) (min (a + 2 * bs) n) := by
  obtain ⟨⟨j, j0, ej⟩, _, hu⟩ := h
  have h1 := Int.mul_nonneg j0 (show (0 : Int) ≤ 2 * bs by omega)
  have e1 : (2 * j) * bs = a := by rw [ej, Int.mul_comm 2 j, Int.mul_assoc]
  have e2 : (2 * j + 1) * bs = a + bs := by rw [Int.add_mul, e1, Int.one_mul]
  have a1 := hu (2 * j) (by omega) (by omega)
  have a2 := hu (2 * j + 1) (by omega) (by omega)
  rw [e1] at a1; rw [e2] at a2
  refine ⟨by omega, a1, ?_⟩
  rw [show a + 2 * bs = a + bs + bs from by omega]; exact a2
theorem lv_step {k j bs : Int} (hb : 0 < bs) (h : k * (2 * bs) + 2 * bs ≤ j * (2 * bs) + 2 * bs) (hn : ¬ k * (2 * bs) + 2 * bs ≤ j * (2 * bs)) : k = j := by
  have h1 : k ≤ j := Int.le_of_mul_le_mul_right (show k * (2 * bs) ≤ j * (2 * bs) by omega) (by omega)
  have h2 : ¬ k + 1 ≤ j := fun e => hn (by
    have := Int.mul_le_mul_of_nonneg_right e (show (0 : Int) ≤ 2 * bs by omega)
    rw [Int.add_mul, Int.one_mul] at this; exact this)
  omega
theorem lv_next (h : Lv lt X n bs a) (hb : 0 < bs) {c : Int} (hc : c = a + 2 * bs) (hs : SegP a c X Y) (hp : Srd lt Y a c) : Lv lt Y n bs c := by
  have hu := (lv_use h hb).1
  obtain ⟨⟨j, j0, ej⟩, hd, hu2⟩ := h
  subst hc
  refine ⟨⟨j + 1, by omega, by rw [Int.add_mul, ej, Int.one_mul]⟩, fun k h0 h1 => ?_, fun k h0 h1 => (hu2 k h0 (by omega)).out hs (by omega) (by omega)⟩
  by_cases e : k * (2 * bs) + 2 * bs ≤ a
  · exact (hd k h0 e).out hs (Int.mul_nonneg h0 (by omega)) (by omega)
  · rw [ej] at e h1
    rw [lv_step hb h1 e, ← ej]; exact hp
theorem lv_end (hw : WO lt) (h : Lv lt X n bs a) (hb : 0 < bs) (ha : a ≤ n ∧ n < a + 2 * bs) (hs : SegP a n X Y) (hp : Srd lt Y a n) : BS lt Y n (bs * 2) := by
  obtain ⟨⟨j, j0, ej⟩, hd, hu2⟩ := h
  intro k h0
  rw [show bs * 2 = 2 * bs from Int.mul_comm _ _]
  have hk := Int.mul_nonneg h0 (show (0 : Int) ≤ 2 * bs by omega)
  by_cases e : k * (2 * bs) + 2 * bs ≤ a
  · rw [Int.min_eq_left (by omega)]; exact (hd k h0 e).out hs hk (by omega)
  · by_cases e2 : k = j
    · rw [e2, ← ej, Int.min_eq_right (by omega)]; exact hp
    · have : j + 1 ≤ k := by
        refine Classical.byContradiction fun q => ?_
        have h2 : k + 1 ≤ j := by omega
        have h3 := Int.mul_le_mul_of_nonneg_right h2 (show (0 : Int) ≤ 2 * bs by omega)
        rw [Int.add_mul, Int.one_mul] at h3
        omega
      have h3 := Int.mul_le_mul_of_nonneg_right this (show (0 : Int) ≤ 2 * bs by omega)
      rw [Int.add_mul, Int.one_mul] at h3
      exact Srd.one hw (by omega)
theorem lv_end0 (h : Lv lt X n bs a) (hb : 0 < bs) (hn : n ≤ a + bs) : Srd lt X a n := by
  have := (lv_use h hb).2.1
  rwa [Int.min_eq_right hn] at this
theorem bs_all (h : BS lt X n bs) (hn : n ≤ bs) : Srd lt X 0 n := by
  have := h 0 (by omega)
  rw [Int.zero_mul, Int.zero_add, Int.min_eq_right hn] at this; exact this
end
end Go.SX
namespace Go.SX
def skipA (X : List AR) (i : Int) : Prop := (gt X i).fr = (gt X i).to ∨ (0 < i ∧ (gt X (i - 1)).fr = (gt X i).fr ∧ (gt X (i - 1)).to = (gt X i).to)
instance (X : List AR) (i : Int) : Decidable (skipA X i) := by unfold skipA; exact inferInstance
def kpN (X : List AR) : Nat → List AR
  | 0 => []
  | i + 1 => if skipA X i then kpN X i else kpN X i ++ [gt X i]
def kpA (X : List AR) (i : Int) : List AR := kpN X i.toNat
theorem kp_0 {X : List AR} : kpA X 0 = [] := rfl
theorem kp_s {X : List AR} {i : Int} (h : 0 ≤ i) : kpA X (i + 1) = if skipA X i then kpA X i else kpA X i ++ [gt X i] := by
  unfold kpA
  rw [show (i + 1).toNat = i.toNat + 1 from by omega, kpN, show ((i.toNat : Nat) : Int) = i from by omega]
theorem kp_skip {X : List AR} {i : Int} (h : 0 ≤ i) (hs : skipA X i) : kpA X (i + 1) = kpA X i := by rw [kp_s h, if_pos hs]
theorem kp_keep {X : List AR} {i : Int} (h : 0 ≤ i) (hs : ¬ skipA X i) : kpA X (i + 1) = kpA X i ++ [gt X i] := by rw [kp_s h, if_neg hs]
theorem kp_len {X : List AR} {i : Int} (h : 0 ≤ i) : ((kpA X i).length : Int) ≤ i := by
  obtain ⟨n, rfl⟩ : ∃ n : Nat, i = n := ⟨i.toNat, by omega⟩
  induction n with
  | zero => simp [kpA, kpN]
  | succ n ih =>
    rw [show ((n + 1 : Nat) : Int) = (n : Int) + 1 from by omega, kp_s (by omega)]
    have := ih (by omega)
    split <;> (try rw [List.length_append, List.length_singleton]) <;> omega
theorem kp_mem {X : List AR} {i : Int} (h : 0 ≤ i) {a : AR} (ha : a ∈ kpA X i) : ∃ j : Int, 0 ≤ j ∧ j < i ∧ gt X j = a ∧ ¬ skipA X j := by
  obtain ⟨n, rfl⟩ : ∃ n : Nat, i = n := ⟨i.toNat, by omega⟩
  induction n with
  | zero => simp [kpA, kpN] at ha
  | succ n ih =>
    rw [show ((n + 1 : Nat) : Int) = (n : Int) + 1 from by omega, kp_s (by omega)] at ha
    split at ha
    · obtain ⟨j, j0, j1, e⟩ := ih (by omega) ha
      exact ⟨j, j0, by omega, e⟩
    · rename_i hs
      rcases List.mem_append.1 ha with ha | ha
      · obtain ⟨j, j0, j1, e⟩ := ih (by omega) ha
        exact ⟨j, j0, by omega, e⟩
      · simp only [List.mem_singleton] at ha
        exact ⟨n, by omega, by omega, ha.symm, hs⟩
theorem kp_has {X : List AR} {i j : Int} (h0 : 0 ≤ j) (h1 : j < i) (hs : ¬ skipA X j) : gt X j ∈ kpA X i := by
  obtain ⟨n, rfl⟩ : ∃ n : Nat, i = n := ⟨i.toNat, by omega⟩
  induction n with
  | zero => omega
  | succ n ih =>
    rw [show ((n + 1 : Nat) : Int) = (n : Int) + 1 from by omega, kp_s (by omega)]
    by_cases e : j = n
    · subst e; rw [if_neg hs]; simp
    · have := ih (by omega)
      split
      · exact this
      · exact List.mem_append_left _ this
def SrtF (K : List AR) : Prop := K.Pairwise (fun a b => a.fr ≤ b.fr)
theorem kp_srt {d : Bool} {X : List AR} {n i : Int} (hX : Srd (ltA d) X 0 n) (h : 0 ≤ i) (hi : i ≤ n) : SrtF (kpA X i) := by
  obtain ⟨m, rfl⟩ : ∃ m : Nat, i = m := ⟨i.toNat, by omega⟩
  induction m with
  | zero => simp [kpA, kpN, SrtF]
  | succ m ih =>
    rw [show ((m + 1 : Nat) : Int) = (m : Int) + 1 from by omega, kp_s (by omega)]
    have := ih (by omega) (by omega)
    split
    · exact this
    · unfold SrtF
      rw [List.pairwise_append]
      refine ⟨this, by simp, fun a ha b hb => ?_⟩
      simp only [List.mem_singleton] at hb
      subst hb
      obtain ⟨j, j0, j1, e, _⟩ := kp_mem (by omega) ha
      have := hX j m j0 (by omega) (by omega)
      rw [e] at this
      unfold ltA at this; omega
def cEq (K : List AR) (p : Int) : Int := (K.countP (fun a => decide (a.fr = p)) : Nat)
def cLt (K : List AR) (p : Int) : Int := (K.countP (fun a => decide (a.fr < p)) : Nat)
theorem cEq_snoc {K : List AR} {a : AR} {p : Int} : cEq (K ++ [a]) p = cEq K p + if a.fr = p then 1 else 0 := by
  unfold cEq; rw [List.countP_append]
  by_cases h : a.fr = p <;> simp [h]
theorem cLt_s (K : List AR) (p : Int) : cLt K (p + 1) = cLt K p + cEq K p := by
  unfold cLt cEq
  induction K with
  | nil => rfl
  | cons a K ih =>
    rw [List.countP_cons, List.countP_cons, List.countP_cons]
    by_cases h1 : a.fr < p
    · rw [if_pos (show decide (a.fr < p + 1) = true from decide_eq_true (by omega)), if_pos (show decide (a.fr < p) = true from decide_eq_true h1), if_neg (show ¬ decide (a.fr = p) = true from fun q => by have := of_decide_eq_true q; omega)]; omega
    · by_cases h2 : a.fr = p
      · rw [if_pos (show decide (a.fr < p + 1) = true from decide_eq_true (by omega)), if_neg (show ¬ decide (a.fr < p) = true from fun q => by have := of_decide_eq_true q; omega), if_pos (show decide (a.fr = p) = true from decide_eq_true h2)]; omega
      · rw [if_neg (show ¬ decide (a.fr < p + 1) = true from fun q => by have := of_decide_eq_true q; omega), if_neg (show ¬ decide (a.fr < p) = true from fun q => by have := of_decide_eq_true q; omega), if_neg (show ¬ decide (a.fr = p) = true from fun q => by have := of_decide_eq_true q; omega)]; omega
theorem cLt_0 {K : List AR} (h : ∀ a ∈ K, 0 ≤ a.fr) : cLt K 0 = 0 := by
  unfold cLt
  rw [List.countP_eq_zero.2 (fun a ha => by have := h a ha; simp; omega)]; rfl
theorem cLt_le (K : List AR) (p : Int) : 0 ≤ cLt K p ∧ cLt K p ≤ K.length := by
  unfold cLt; have := List.countP_le_length (p := fun a : AR => decide (a.fr < p)) (l := K); omega
theorem cEq_le (K : List AR) (p : Int) : 0 ≤ cEq K p ∧ cEq K p ≤ K.length := by
  unfold cEq; have := List.countP_le_length (p := fun a : AR => decide (a.fr = p)) (l := K); omega
theorem srt_part {p : Int} : ∀ {K : List AR}, SrtF K → (K.take (cLt K (p + 1)).toNat).drop (cLt K p).toNat = K.filter (fun a => decide (a.fr = p))
  | [], _ => by simp
  | a :: K, h => by
    unfold SrtF at h
    rw [List.pairwise_cons] at h
    have ih := srt_part (p := p) (K := K) h.2
    have e1 : ∀ q, cLt (a :: K) q = cLt K q + if a.fr < q then 1 else 0 := fun q => by
      unfold cLt; rw [List.countP_cons]; by_cases hq : a.fr < q <;> simp [hq]
    have z1 := cLt_le K (p + 1)
    have z2 := cLt_le K p
    rw [e1, e1]
    by_cases h1 : a.fr < p
    · rw [if_pos (show a.fr < p + 1 from by omega), if_pos h1, show (cLt K (p + 1) + 1).toNat = (cLt K (p + 1)).toNat + 1 from by omega, show (cLt K p + 1).toNat = (cLt K p).toNat + 1 from by omega, List.take_succ_cons, List.drop_succ_cons, ih, List.filter_cons_of_neg (by simp; omega)]
    · have hz : cLt K p = 0 := by
        unfold cLt
        rw [List.countP_eq_zero.2 (fun b hb => by have := h.1 b hb; simp; omega)]; rfl
      rw [if_neg h1]
      by_cases h2 : a.fr = p
      · rw [if_pos (show a.fr < p + 1 from by omega), hz, show (cLt K (p + 1) + 1).toNat = (cLt K (p + 1)).toNat + 1 from by omega]
        rw [hz] at ih
        rw [List.filter_cons_of_pos (by simp [h2]), ← ih, List.take_succ_cons]; rfl
      · have hz2 : cLt K (p + 1) = 0 := by
          unfold cLt
          rw [List.countP_eq_zero.2 (fun b hb => by have := h.1 b hb; simp; omega)]; rfl
        rw [if_neg (show ¬ a.fr < p + 1 from by omega), hz2, hz]
        rw [hz2, hz] at ih
        rw [List.filter_cons_of_neg (by simp [h2]), ← ih]; simp
structure CntI (n : Int) (F : List Int) (K : List AR) : Prop where
  len : (F.length : Int) = n + 1
  z : gt F 0 = 0
  c : ∀ p : Int, 0 ≤ p → p < n → gt F (p + 1) = cEq K p
theorem cnt_0 {n : Int} (h : 0 ≤ n) : CntI n (List.replicate (n + 1).toNat 0) [] := ⟨by rw [List.length_replicate]; omega, by
  have : gt (List.replicate (n + 1).toNat (0 : Int)) 0 ∈ List.replicate (n + 1).toNat (0 : Int) := gtM (by omega) (by rw [List.length_replicate]; omega)
  exact List.eq_of_mem_replicate this, fun p h0 h1 => by
  have : gt (List.replicate (n + 1).toNat (0 : Int)) (p + 1) ∈ List.replicate (n + 1).toNat (0 : Int) := gtM (by omega) (by rw [List.length_replicate]; omega)
  rw [List.eq_of_mem_replicate this]; rfl⟩
theorem cnt_next {n : Int} {F : List Int} {K : List AR} {a : AR} (h : CntI n F K) (ha : 0 ≤ a.fr ∧ a.fr < n) : CntI n (F.set (a.fr + 1).toNat (gt F (a.fr + 1) + 1)) (K ++ [a]) := by
  have hl := h.len
  refine ⟨by rw [List.length_set]; exact hl, by rw [gtN (by omega) (by omega) (by omega)]; exact h.z, fun p h0 h1 => ?_⟩
  rw [cEq_snoc]
  by_cases e : a.fr = p
  · rw [if_pos e, e, gtS (by omega) (by omega), h.c p h0 h1]
  · rw [if_neg e, gtN (by omega) (by omega) (by omega), h.c p h0 h1]; omega
structure PreI (n : Int) (F : List Int) (K : List AR) (j : Int) : Prop where
  len : (F.length : Int) = n + 1
  lo : ∀ p : Int, 0 ≤ p → p ≤ j → gt F p = cLt K p
  hi : ∀ p : Int, j < p → p ≤ n → gt F p = cEq K (p - 1)
theorem pre_0 {n : Int} {F : List Int} {K : List AR} (h : CntI n F K) (hK : ∀ a ∈ K, 0 ≤ a.fr) : PreI n F K 0 := ⟨h.len, fun p p0 p1 => by rw [show p = 0 from by omega, h.z, cLt_0 hK], fun p p0 p1 => by
  have := h.c (p - 1) (by omega) (by omega); rw [show p - 1 + 1 = p from by omega] at this; exact this⟩
theorem pre_next {n j : Int} {F : List Int} {K : List AR} (h : PreI n F K j) (h0 : 0 ≤ j) (h1 : j < n) : PreI n (F.set (j + 1).toNat (gt F (j + 1) + gt F j)) K (j + 1) := by
  have hl := h.len
  refine ⟨by rw [List.length_set]; exact hl, fun p p0 p1 => ?_, fun p p0 p1 => ?_⟩
  · by_cases e : p = j + 1
    · rw [e, gtS (by omega) (by omega), h.hi (j + 1) (by omega) (by omega), h.lo j h0 (by omega), show j + 1 - 1 = j from by omega, cLt_s]; omega
    · rw [gtN (by omega) (by omega) (by omega)]; exact h.lo p p0 (by omega)
  · rw [gtN (by omega) (by omega) (by omega)]; exact h.hi p (by omega) p1
def egF (d : Bool) (a : AR) : EG := ⟨a.to, wgt d a⟩
def outL (fi : List Int) (ed : List EG) (p : Int) : List EG := (ed.take (gt fi (p + 1)).toNat).drop (gt fi p).toNat
theorem tab_spec {n : Int} {d : Bool} {l : List AR} (hn : 0 ≤ n) (hl : ∀ a ∈ l, arcOk n a) : (tabF n d l).length = (n * n).toNat ∧ ∀ i j : Int, 0 ≤ i → i < n → 0 ≤ j → j < n →
    (gt (tabF n d l) (i * n + j) = -1 ∧ ∀ b ∈ l, b.fr = i → b.to = j → i = j) ∨
    (0 ≤ gt (tabF n d l) (i * n + j) ∧ i ≠ j ∧ (∃ b ∈ l, b.fr = i ∧ b.to = j ∧ wgt d b = gt (tabF n d l) (i * n + j)) ∧ ∀ b ∈ l, b.fr = i → b.to = j → gt (tabF n d l) (i * n + j) ≤ wgt d b) := by
  suffices H : ∀ (l0 : List AR) (l : List AR), (∀ a ∈ l, arcOk n a) → ∀ m : List Int, m.length = (n * n).toNat → (∀ i j : Int, 0 ≤ i → i < n → 0 ≤ j → j < n →
      (gt m (i * n + j) = -1 ∧ ∀ b ∈ l0, b.fr = i → b.to = j → i = j) ∨
      (0 ≤ gt m (i * n + j) ∧ i ≠ j ∧ (∃ b ∈ l0, b.fr = i ∧ b.to = j ∧ wgt d b = gt m (i * n + j)) ∧ ∀ b ∈ l0, b.fr = i → b.to = j → gt m (i * n + j) ≤ wgt d b)) →
      (l.foldl (cellSt n d) m).length = (n * n).toNat ∧ ∀ i j : Int, 0 ≤ i → i < n → 0 ≤ j → j < n →
      (gt (l.foldl (cellSt n d) m) (i * n + j) = -1 ∧ ∀ b ∈ l0 ++ l, b.fr = i → b.to = j → i = j) ∨
      (0 ≤ gt (l.foldl (cellSt n d) m) (i * n + j) ∧ i ≠ j ∧ (∃ b ∈ l0 ++ l, b.fr = i ∧ b.to = j ∧ wgt d b = gt (l.foldl (cellSt n d) m) (i * n + j)) ∧ ∀ b ∈ l0 ++ l, b.fr = i → b.to = j → gt (l.foldl (cellSt n d) m) (i * n + j) ≤ wgt d b) by
    have h := H [] l hl (List.replicate (n * n).toNat (-1)) (by simp) (fun i j i0 i1 j0 j1 => .inl ⟨by
      have hx := idx_rng (n := n) ⟨i0, i1⟩ ⟨j0, j1⟩
      exact List.eq_of_mem_replicate (gtM (l := List.replicate (n * n).toNat (-1 : Int)) (by omega) (by rw [List.length_replicate]; omega)), fun b hb => by cases hb⟩)
    simpa [tabF] using h
  intro l0 l
  induction l generalizing l0 with
  | nil => intro _ m hm hI; simpa using ⟨hm, hI⟩
  | cons a l ih =>
    intro hl m hm hI
    have ha := hl a (by simp)
    have ha2 := ha
    unfold arcOk at ha2
    have hx := idx_rng (n := n) (a := a.fr) (b := a.to) ⟨ha.1, ha.2.1⟩ ⟨ha.2.2.1, ha.2.2.2.1⟩
    have hw : 0 ≤ wgt d a := by unfold wgt arcOk at *; split <;> omega
    have key := ih (l0 ++ [a]) (fun b hb => hl b (by simp [hb])) (cellSt n d m a) (by rw [cellSt_len, hm]) ?_
    · rw [List.foldl_cons]
      simpa [List.append_assoc] using key
    · intro i j i0 i1 j0 j1
      have hxi := idx_rng (n := n) ⟨i0, i1⟩ ⟨j0, j1⟩
      have h0 := hI i j i0 i1 j0 j1
      by_cases e : a.fr = i ∧ a.to = j
      · obtain ⟨rfl, rfl⟩ := e
        unfold cellSt
        split
        · rename_i hc
          rw [gtS (by clear h0; omega) (by clear h0; omega)]
          refine .inr ⟨hw, hc.1, ⟨a, by simp, rfl, rfl, rfl⟩, fun b hb e1 e2 => ?_⟩
          rcases List.mem_append.1 hb with hb | hb
          · rcases h0 with ⟨h1, h2⟩ | ⟨h1, h2, -, h4⟩
            · exact absurd (h2 b hb e1 e2) hc.1
            · have := h4 b hb e1 e2; have := hc.2; omega
          · simp only [List.mem_singleton] at hb; subst hb; exact Int.le_refl _
        · rename_i hc
          rcases h0 with ⟨h1, h2⟩ | ⟨h1, h2, h3, h4⟩
          · refine .inl ⟨h1, fun b hb e1 e2 => ?_⟩
            refine Classical.byContradiction fun hne => hc ⟨hne, .inl (by omega)⟩
          · refine .inr ⟨h1, h2, ?_, fun b hb e1 e2 => ?_⟩
            · obtain ⟨b, hb, q⟩ := h3; exact ⟨b, by simp [hb], q⟩
            · rcases List.mem_append.1 hb with hb | hb
              · exact h4 b hb e1 e2
              · simp only [List.mem_singleton] at hb; subst hb
                exact Classical.byContradiction fun hlt => hc ⟨h2, .inr (by omega)⟩
      · have hg : gt (cellSt n d m a) (i * n + j) = gt m (i * n + j) := by
          unfold cellSt
          split
          · refine gtN (by omega) (by omega) fun q => e ?_
            have h1 : a.fr = i := by
              rcases Int.lt_trichotomy a.fr i with h | h | h
              · have := Int.mul_le_mul_of_nonneg_right (show a.fr + 1 ≤ i by omega) hn
                rw [Int.add_mul] at this; omega
              · exact h
              · have := Int.mul_le_mul_of_nonneg_right (show i + 1 ≤ a.fr by omega) hn
                rw [Int.add_mul] at this; omega
            exact ⟨h1, by rw [h1] at q; omega⟩
          · rfl
        rw [hg]
        rcases h0 with ⟨h1, h2⟩ | ⟨h1, h2, h3, h4⟩
        · refine .inl ⟨h1, fun b hb e1 e2 => ?_⟩
          rcases List.mem_append.1 hb with hb | hb
          · exact h2 b hb e1 e2
          · simp only [List.mem_singleton] at hb; subst hb; exact absurd ⟨e1, e2⟩ e
        · refine .inr ⟨h1, h2, ?_, fun b hb e1 e2 => ?_⟩
          · obtain ⟨b, hb, q⟩ := h3; exact ⟨b, by simp [hb], q⟩
          · rcases List.mem_append.1 hb with hb | hb
            · exact h4 b hb e1 e2
            · simp only [List.mem_singleton] at hb; subst hb; exact absurd ⟨e1, e2⟩ e
structure TabOk (n : Int) (t : List Int) : Prop where
  pl : 1 ≤ n ∧ n ≤ 32
  len : (t.length : Int) = n * n
  rng : ∀ i : Int, -1 ≤ gt t i ∧ gt t i ≤ 1000000
  dg : ∀ i : Int, 0 ≤ i → i < n → gt t (i * n + i) = -1
structure GOk (n : Int) (t : List Int) (fi : List Int) (ed : List EG) : Prop where
  len : (fi.length : Int) = n + 1
  ne : ed.length ≤ 256
  rng : ∀ p : Int, 0 ≤ p → p < n → 0 ≤ gt fi p ∧ gt fi p ≤ gt fi (p + 1) ∧ gt fi (p + 1) ≤ (ed.length : Int)
  ok : ∀ p : Int, 0 ≤ p → p < n → ∀ e ∈ outL fi ed p, 0 ≤ e.et ∧ e.et < n ∧ e.et ≠ p ∧ 0 ≤ e.ew ∧ e.ew = gt t (p * n + e.et)
  all : ∀ p q : Int, 0 ≤ p → p < n → 0 ≤ q → q < n → 0 ≤ gt t (p * n + q) → ∃ e ∈ outL fi ed p, e.et = q
theorem tab_ok {n : Int} {d : Bool} {l : List AR} (hR : RoadOk n l) : TabOk n (tabF n d l) := by
  have hl : ∀ a ∈ l, arcOk n a := fun a ha => by obtain ⟨i, i0, i1, e⟩ := memG ha; rw [← e]; exact hR.arc i i0 i1
  have hs := tab_spec (d := d) (by have := hR.pl; omega) hl
  have hsq := sq_le hR.pl
  have hln : ((tabF n d l).length : Int) = n * n := by rw [hs.1]; omega
  have hcell : ∀ i : Int, 0 ≤ i → i < n * n → ∃ a b : Int, 0 ≤ a ∧ a < n ∧ 0 ≤ b ∧ b < n ∧ i = a * n + b := fun i i0 i1 => by
    have hn := hR.pl
    refine ⟨i / n, i % n, Int.ediv_nonneg i0 (by omega), Int.ediv_lt_of_lt_mul (by omega) i1, Int.emod_nonneg _ (by omega), Int.emod_lt_of_pos _ (by omega), ?_⟩
    have := Int.mul_ediv_add_emod i n
    rw [Int.mul_comm] at this; omega
  refine ⟨hR.pl, hln, fun i => ?_, fun i i0 i1 => ?_⟩
  · by_cases hi : 0 ≤ i ∧ i < n * n
    · obtain ⟨a, b, a0, a1, b0, b1, rfl⟩ := hcell i hi.1 hi.2
      rcases hs.2 a b a0 a1 b0 b1 with ⟨h1, _⟩ | ⟨h1, _, ⟨c, hc, _, _, hw⟩, _⟩
      · omega
      · have := hl c hc
        unfold arcOk at this
        have hw2 : wgt d c ≤ 1000000 := by unfold wgt; split <;> omega
        omega
    · rcases (by omega : i < 0 ∨ n * n ≤ i) with h | h
      · have e : gt (tabF n d l) i = gt (tabF n d l) 0 := by unfold gt; rw [show i.toNat = (0 : Int).toNat from by omega]
        rw [e]
        rcases hs.2 0 0 (by omega) (by have := hR.pl; omega) (by omega) (by have := hR.pl; omega) with ⟨h1, _⟩ | ⟨_, h1, _⟩
        · rw [show (0 : Int) * n + 0 = 0 from by omega] at h1; omega
        · exact absurd rfl h1
      · have : gt (tabF n d l) i = default := by unfold gt; rw [List.getD_eq_getElem?_getD, List.getElem?_eq_none (by omega)]; rfl
        rw [this]; decide
  · rcases hs.2 i i i0 i1 i0 i1 with ⟨h1, _⟩ | ⟨_, h1, _⟩
    · exact h1
    · exact absurd rfl h1
theorem graph_mk {n : Int} {d : Bool} {l X : List AR} {fi : List Int} {ed : List EG} (hR : RoadOk n l) (hp : X.Perm l) (hs : Srd (ltA d) X 0 l.length) (hf : PreI n fi (kpA X l.length) n) (he : ed = (kpA X l.length).map (egF d)) : GOk n (tabF n d l) fi ed := by
  have hl : ∀ a ∈ l, arcOk n a := fun a ha => by obtain ⟨i, i0, i1, e⟩ := memG ha; rw [← e]; exact hR.arc i i0 i1
  have hsp := (tab_spec (d := d) (by have := hR.pl; omega) hl).2
  have hX : X.length = l.length := hp.length_eq
  have hlen := hR.len
  have hk := kp_len (X := X) (i := l.length) (by omega)
  have hed : ed.length = (kpA X l.length).length := by rw [he, List.length_map]
  have hout : ∀ p : Int, 0 ≤ p → p < n → outL fi ed p = ((kpA X l.length).filter (fun a => decide (a.fr = p))).map (egF d) := fun p p0 p1 => by
    unfold outL
    rw [hf.lo p p0 (by omega), hf.lo (p + 1) (by omega) (by omega), he, ← List.map_take, ← List.map_drop, srt_part (kp_srt hs (by omega) (by omega))]
  refine ⟨hf.len, by omega, fun p p0 p1 => ?_, fun p p0 p1 e hee => ?_, fun p q p0 p1 q0 q1 ht => ?_⟩
  · rw [hf.lo p p0 (by omega), hf.lo (p + 1) (by omega) (by omega), cLt_s]
    have h1 := cLt_le (kpA X l.length) p
    have h2 := cLt_le (kpA X l.length) (p + 1)
    have h3 := cEq_le (kpA X l.length) p
    rw [cLt_s] at h2; omega
  · rw [hout p p0 p1] at hee
    obtain ⟨a, ha, rfl⟩ := List.mem_map.1 hee
    rw [List.mem_filter, decide_eq_true_eq] at ha
    obtain ⟨ha, hfr⟩ := ha
    obtain ⟨j, j0, j1, ej, hsk⟩ := kp_mem (by omega) ha
    have hal : a ∈ l := hp.mem_iff.1 (by rw [← ej]; exact gtM j0 (by omega))
    have hok := hl a hal
    unfold skipA at hsk
    rw [ej] at hsk
    have hne : a.to ≠ p := fun e => hsk (.inl (by omega))
    have hmin : ∀ b ∈ l, b.fr = a.fr → b.to = a.to → wgt d a ≤ wgt d b := fun b hb e1 e2 => by
      obtain ⟨i, i0, i1, ei⟩ := memG (hp.mem_iff.2 hb)
      by_cases hij : j ≤ i
      · have := hs j i j0 hij (by omega)
        rw [ei, ej] at this
        unfold ltA at this; omega
      · exfalso
        refine hsk (.inr ?_)
        have h1 := hs i (j - 1) i0 (by omega) (by omega)
        have h2 := hs (j - 1) j (by omega) (by omega) (by omega)
        rw [ei] at h1; rw [ej] at h2
        unfold ltA at h1 h2; omega
    unfold egF
    have hw : 0 ≤ wgt d a := by unfold wgt arcOk at *; split <;> omega
    refine ⟨hok.2.2.1, hok.2.2.2.1, hne, hw, ?_⟩
    show wgt d a = gt (tabF n d l) (p * n + a.to)
    rcases hsp p a.to p0 p1 hok.2.2.1 hok.2.2.2.1 with ⟨_, h2⟩ | ⟨_, _, ⟨b, hb, e1, e2, e3⟩, h4⟩
    · exact absurd (h2 a hal hfr rfl).symm hne
    · have := hmin b hb (by omega) e2
      have := h4 a hal hfr rfl
      omega
  · rcases hsp p q p0 p1 q0 q1 with ⟨h1, _⟩ | ⟨_, hne, ⟨b, hb, e1, e2, _⟩, _⟩
    · omega
    · -- the first arc of its ends is kept
      obtain ⟨i, i0, i1, ei⟩ := memG (hp.mem_iff.2 hb)
      have hex : ∃ m : Nat, (m : Int) < l.length ∧ (gt X m).fr = p ∧ (gt X m).to = q := ⟨i.toNat, by omega, by rw [show ((i.toNat : Nat) : Int) = i from by omega, ei]; exact ⟨e1, e2⟩⟩
      obtain ⟨m, ⟨m1, m2, m3⟩, hmin⟩ : ∃ m : Nat, ((m : Int) < l.length ∧ (gt X m).fr = p ∧ (gt X m).to = q) ∧ ∀ k : Nat, k < m → ¬ ((k : Int) < l.length ∧ (gt X k).fr = p ∧ (gt X k).to = q) := by
        have hfind : ∀ (f : Nat), (∃ m : Nat, m < f ∧ ((m : Int) < l.length ∧ (gt X m).fr = p ∧ (gt X m).to = q)) → ∃ m : Nat, ((m : Int) < l.length ∧ (gt X m).fr = p ∧ (gt X m).to = q) ∧ ∀ k : Nat, k < m → ¬ ((k : Int) < l.length ∧ (gt X k).fr = p ∧ (gt X k).to = q) := by
          intro f
          induction f with
          | zero => rintro ⟨m, h, _⟩; omega
          | succ f ih =>
            rintro ⟨m, h, hm⟩
            by_cases hb : ∃ m : Nat, m < f ∧ ((m : Int) < l.length ∧ (gt X m).fr = p ∧ (gt X m).to = q)
            · exact ih hb
            · exact ⟨m, hm, fun k hk hq => hb ⟨k, by omega, hq⟩⟩
        obtain ⟨m, hm⟩ := hex
        exact hfind (m + 1) ⟨m, by omega, hm⟩
      have hsk : ¬ skipA X m := by
        unfold skipA
        rintro (h | ⟨h1, h2, h3⟩)
        · omega
        · have := hmin (m - 1) (by omega)
          rw [show ((m - 1 : Nat) : Int) = (m : Int) - 1 from by omega] at this
          exact this ⟨by omega, by omega, by omega⟩
      refine ⟨egF d (gt X m), ?_, m3⟩
      rw [hout p p0 p1]
      exact List.mem_map.2 ⟨gt X m, List.mem_filter.2 ⟨kp_has (by omega) m1 hsk, by simp [m2]⟩, rfl⟩
end Go.SX
namespace Go.SX
theorem kp_fr {n m : Int} {X : List AR} (h : ∀ i : Int, 0 ≤ i → i < m → arcOk n (gt X i)) (hm : 0 ≤ m) : ∀ a ∈ kpA X m, 0 ≤ a.fr := fun a ha => by
  obtain ⟨j, j0, j1, ej, _⟩ := kp_mem hm ha
  have h_ := h j j0 j1
  unfold arcOk at h_; rw [ej] at h_; exact h_.1
theorem arcs_perm {n : Int} {X l : List AR} (hR : RoadOk n l) (hp : X.Perm l) : ∀ i : Int, 0 ≤ i → i < (l.length : Int) → arcOk n (gt X i) := fun i i0 i1 => by
  have := hp.length_eq
  obtain ⟨j, j0, j1, ej⟩ := memG (hp.mem_iff.1 (gtM i0 (by omega)))
  rw [← ej]; exact hR.arc j j0 j1
end Go.SX
namespace Go.SX
open Go Go.RowKit
section
variable {V : Env} {P : Program} {Q : Exit → Act → World → Prop} {N : Nat} {L : List (Nat × Value)} {H R : List Res} {S : Nat → Prop} {wf : World} {c : Code}
theorem split_at {α : Type} [Inhabited α] {l : List α} {i : Int} (h0 : 0 ≤ i) (h1 : i < (l.length : Int)) : l = l.take i.toNat ++ gt l i :: l.drop (i + 1).toNat := by rw [← drop_gt h0 h1]; exact (List.take_append_drop _ _).symm
theorem set_at {α : Type} [Inhabited α] {l : List α} {i : Int} {x : α} (h0 : 0 ≤ i) (h1 : i < (l.length : Int)) : l.set i.toNat x = l.take i.toNat ++ x :: l.drop (i + 1).toNat := by
  rw [show (i + 1).toNat = i.toNat + 1 from by omega, List.set_eq_take_append_cons_drop, if_pos (by omega)]
theorem big_mid {α : Type} {f : α → Res} {a b : List α} {x : α} : ((big f (a ++ x :: b)).foot).Perm ((f x).foot ++ (big f (a ++ b)).foot) := by
  simp only [big, List.flatMap_append, List.flatMap_cons]
  rw [← List.append_assoc, ← List.append_assoc]
  exact List.perm_append_comm.append_right _
end
end Go.SX
