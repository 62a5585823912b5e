/- Maps: a map's entries as a list of pairs. -/
import Derived.Test.YtfmfhkaimhmgdaaSxFun
import Derived.Test.YtfmfhkaimhmgdaaSxChg
import Derived.Maps.RangeRun
import Derived.MapKept
set_option linter.unusedVariables false
set_option linter.unusedSimpArgs false
set_option linter.unusedSectionVars false
namespace Go.SX
open Go Go.RowKit
open Go.ChangeMaps (setBlock)

/-- How keys are written. -/
structure KE (P : Program) (k : TypeId) (α : Type) where
  f : α → Value
  inj : ∀ x y, f x = f y → x = y
  check : ∀ w b x, (Instr.checkKey b 10000 k (f x)).run P w = .ok () w
  find : ∀ w x (es : List MapEntry), (∀ e ∈ es, ∃ y, e.key = f y) → ((Instr.findKey k (f x) es).run P w = .ok none w ∧ ∀ e ∈ es, e.key ≠ f x) ∨ ∃ j e0, (Instr.findKey k (f x) es).run P w = .ok (some (j, e0.val)) w ∧ es[j]? = some e0 ∧ e0.key = f x
  bits : ∀ x, Instr.sameBits 10000 (f x) (f x) = true

/-- Keys whose equality is asked of the type. -/
theorem find_asking {P : Program} {k : TypeId} {α : Type} [DecidableEq α] (f : α → Value) (inj : ∀ x y, f x = f y → x = y) (heq : ∀ x y w, (Op.equal k (f x) (f y)).run P w = .ok (decide (x = y)) w) (w : World) (x : α) :
    ∀ (es : List MapEntry) (i : Nat), (∀ e ∈ es, ∃ y, e.key = f y) → ((Instr.findAsking k (f x) es i).run P w = .ok none w ∧ ∀ e ∈ es, e.key ≠ f x) ∨ ∃ j e0, (Instr.findAsking k (f x) es i).run P w = .ok (some (i + j, e0.val)) w ∧ es[j]? = some e0 ∧ e0.key = f x
  | [], i, _ => .inl ⟨by simp [Instr.findAsking], by simp⟩
  | e :: es, i, h => by
    obtain ⟨y, hy⟩ := h e (by simp)
    by_cases hxy : x = y
    · refine .inr ⟨0, e, ?_, by simp, by rw [hy, hxy]⟩
      simp only [Instr.findAsking, Sem.run_bind, hy, heq, hxy, decide_true, Result.andThen_ok, if_true]
      rfl
    · rcases find_asking f inj heq w x es (i + 1) (fun e he => h e (by simp [he])) with ⟨h1, h2⟩ | ⟨j, e0, h1, h2, h3⟩
      · refine .inl ⟨?_, ?_⟩
        · simp only [Instr.findAsking, Sem.run_bind, hy, heq, hxy, decide_false, Result.andThen_ok]
          exact h1
        · intro e' he'
          rcases List.mem_cons.1 he' with rfl | he'
          · rw [hy]; exact fun h => hxy (inj _ _ h).symm
          · exact h2 e' he'
      · refine .inr ⟨j + 1, e0, ?_, by simpa using h2, h3⟩
        simp only [Instr.findAsking, Sem.run_bind, hy, heq, hxy, decide_false, Result.andThen_ok]
        rw [show i + (j + 1) = i + 1 + j from by omega]
        exact h1
theorem find_now {kd : TypeDesc} {α : Type} [DecidableEq α] (f : α → Value) (inj : ∀ x y, f x = f y → x = y) (hs : ∀ x y, Instr.sameNow kd (f x) (f y) = some (decide (x = y))) (x : α) :
    ∀ (es : List MapEntry) (i : Nat), (∀ e ∈ es, ∃ y, e.key = f y) → (Instr.findNow kd (f x) es i = some none ∧ ∀ e ∈ es, e.key ≠ f x) ∨ ∃ j e0, Instr.findNow kd (f x) es i = some (some (i + j, e0.val)) ∧ es[j]? = some e0 ∧ e0.key = f x
  | [], i, _ => .inl ⟨by simp [Instr.findNow], by simp⟩
  | e :: es, i, h => by
    obtain ⟨y, hy⟩ := h e (by simp)
    by_cases hxy : x = y
    · refine .inr ⟨0, e, ?_, by simp, by rw [hy, hxy]⟩
      simp [Instr.findNow, hy, hs, hxy]
    · rcases find_now f inj hs x es (i + 1) (fun e he => h e (by simp [he])) with ⟨h1, h2⟩ | ⟨j, e0, h1, h2, h3⟩
      · refine .inl ⟨by simp [Instr.findNow, hy, hs, hxy, h1], ?_⟩
        intro e' he'
        rcases List.mem_cons.1 he' with rfl | he'
        · rw [hy]; exact fun h => hxy (inj _ _ h).symm
        · exact h2 e' he'
      · refine .inr ⟨j + 1, e0, ?_, by simpa using h2, h3⟩
        simp [Instr.findNow, hy, hs, hxy, h1]
        omega
/-- Keys of a struct type. -/
def KE.ofStruct {P : Program} {k : TypeId} {α : Type} [DecidableEq α] {fs : Array Field} (f : α → Value) (inj : ∀ x y, f x = f y → x = y) (hu : P.underlying k = some (.struct fs)) (heq : ∀ x y w, (Op.equal k (f x) (f y)).run P w = .ok (decide (x = y)) w)
    (hc : ∀ w b x, (Instr.checkKey b 10000 k (f x)).run P w = .ok () w) (hb : ∀ x, Instr.sameBits 10000 (f x) (f x) = true) : KE P k α where
  f := f
  inj := inj
  check := hc
  bits := hb
  find w x es h := by
    have hn : ∀ (es : List MapEntry), es ≠ [] → ∀ i, Instr.findNow (.struct fs) (f x) es i = none := by
      intro es he i
      cases es with
      | nil => exact absurd rfl he
      | cons e r => simp [Instr.findNow, Instr.sameNow]
    by_cases h0 : es = []
    · subst h0
      refine .inl ⟨?_, by simp⟩
      simp [Instr.findKey, run_underlying hu, Instr.findNow]
    · have hr : (Instr.findKey k (f x) es).run P w = (Instr.findAsking k (f x) es 0).run P w := by
        simp only [Instr.findKey, Sem.run_bind, run_underlying hu, Result.andThen_ok, hn es h0 0]
      rw [hr]
      have := find_asking f inj heq w x es 0 h
      simpa using this
/-- Whole numbers as keys. -/
def KE.int {P : Program} {k : TypeId} {q : IntKind} (hu : P.underlying k = some (.int q)) : KE P k Int where
  f := .int q
  inj x y h := by injection h
  check w b x := by
    have : ∀ n, (Instr.checkKey b (n + 1) k (.int q x)).run P w = .ok () w := by intro n; simp [Instr.checkKey, run_underlying hu]
    exact this 9999
  bits x := by
    have : ∀ n, Instr.sameBits n (.int q x) (.int q x) = true := by intro n; cases n <;> simp [Instr.sameBits]
    exact this 10000
  find w x es h := by
    have hs : ∀ x y : Int, Instr.sameNow (.int q) (.int q x) (.int q y) = some (decide (x = y)) := by
      intro x y; simp only [Instr.sameNow, if_true]; congr 1
    rcases find_now (kd := .int q) (Value.int q) (fun x y h => by injection h) hs x es 0 h with ⟨h1, h2⟩ | ⟨j, e0, h1, h2, h3⟩
    · exact .inl ⟨by simp [Instr.findKey, run_underlying hu, h1], h2⟩
    · exact .inr ⟨j, e0, by simp [Instr.findKey, run_underlying hu, h1], h2, h3⟩

/-! ### What a map holds -/
structure MC {α β : Type} (kf : α → Value) (vf : β → Value) (es : Array MapEntry) (clock : Nat) (m : List (α × β)) : Prop where
  kv : es.toList.map (fun e => (e.key, e.val)) = m.map (fun p => (kf p.1, vf p.2))
  nd : (m.map Prod.fst).Nodup
  bn : (es.toList.map MapEntry.born).Nodup
  old : ∀ e ∈ es.toList, e.born < clock

def mget {α β : Type} [DecidableEq α] (m : List (α × β)) (x : α) (z : β) : β := ((m.find? (fun p => decide (p.1 = x))).map Prod.snd).getD z
def mhas {α β : Type} [DecidableEq α] (m : List (α × β)) (x : α) : Bool := m.any (fun p => decide (p.1 = x))
def mins {α β : Type} [DecidableEq α] (m : List (α × β)) (x : α) (z : β) : List (α × β) := if mhas m x then m else m ++ [(x, z)]
def mset {α β : Type} [DecidableEq α] (m : List (α × β)) (x : α) (v : β) : List (α × β) := if mhas m x then m.map (fun p => if p.1 = x then (x, v) else p) else m ++ [(x, v)]

section
variable {α β : Type} [DecidableEq α] {m : List (α × β)} {x y : α} {v z : β}
theorem mhas_iff : mhas m x = true ↔ ∃ v, (x, v) ∈ m := by
  unfold mhas
  rw [List.any_eq_true]
  constructor
  · rintro ⟨p, hp, h⟩
    rw [decide_eq_true_iff] at h
    exact ⟨p.2, by rw [← h]; exact hp⟩
  · rintro ⟨v, hv⟩
    exact ⟨(x, v), hv, by simp⟩
theorem mget_cons {p : α × β} : mget (p :: m) x z = if p.1 = x then p.2 else mget m x z := by
  unfold mget
  rw [List.find?_cons]
  by_cases h : p.1 = x <;> simp [h]
theorem mget_none (h : mhas m x = false) : mget m x z = z := by
  induction m with
  | nil => rfl
  | cons p m ih =>
    unfold mhas at h ih
    rw [List.any_cons, Bool.or_eq_false_iff] at h
    rw [mget_cons, if_neg (by simpa using h.1), ih h.2]
theorem mget_app {n : List (α × β)} : mget (m ++ n) x z = if mhas m x then mget m x z else mget n x z := by
  induction m with
  | nil => simp [mhas]
  | cons p m ih =>
    rw [List.cons_append, mget_cons, mget_cons, ih]
    unfold mhas
    rw [List.any_cons]
    by_cases h : p.1 = x
    · simp [h]
    · rw [if_neg h]; simp only [h, decide_false, Bool.false_or]; rfl
theorem mget_ins : mget (mins m x z) y z = mget m y z := by
  unfold mins
  split
  · rfl
  · rename_i h
    rw [mget_app]
    split
    · rfl
    · rename_i h2
      rw [mget_none (m := m) (by simpa using h2), mget_cons]
      split <;> rfl
theorem mhas_ins : mhas (mins m x z) y = (mhas m y || decide (x = y)) := by
  unfold mins
  split
  · rename_i h
    by_cases e : x = y
    · subst e; rw [h]; simp
    · simp [e]
  · unfold mhas; simp
theorem mget_set : mget (mset m x v) y z = if x = y then v else mget m y z := by
  unfold mset
  split
  · rename_i h
    induction m with
    | nil => simp [mhas] at h
    | cons p m ih =>
      rw [List.map_cons, mget_cons, mget_cons]
      by_cases hp : p.1 = x
      · rw [if_pos hp]
        by_cases e : x = y
        · simp [e]
        · simp only [e, if_false, hp]
          by_cases h2 : mhas m x = true
          · rw [ih h2, if_neg e]
          · have : m.map (fun p => if p.1 = x then (x, v) else p) = m := by
              conv => rhs; rw [← List.map_id m]
              refine List.map_congr_left fun q hq => ?_
              rw [if_neg]
              · rfl
              · intro e2
                exact h2 (mhas_iff.2 ⟨q.2, by rw [← e2]; exact hq⟩)
            rw [this]
      · rw [if_neg hp]
        have h2 : mhas m x = true := by
          unfold mhas at h ⊢
          rw [List.any_cons] at h
          simpa [hp] using h
        by_cases e : p.1 = y
        · rw [if_pos e, if_pos e, if_neg (fun e2 => hp (e.trans e2.symm))]
        · rw [if_neg e, if_neg e, ih h2]
  · rename_i h
    rw [mget_app]
    by_cases e : x = y
    · subst e
      rw [if_neg h, mget_cons, if_pos rfl, if_pos rfl]
    · rw [if_neg e, mget_cons, if_neg e]
      split
      · rfl
      · rename_i h2
        rw [mget_none (m := m) (by simpa using h2)]; rfl
theorem mhas_set : mhas (mset m x v) y = (mhas m y || decide (x = y)) := by
  unfold mset
  split
  · rename_i h
    have e : mhas (m.map (fun p => if p.1 = x then (x, v) else p)) y = mhas m y := by
      unfold mhas
      rw [List.any_map]
      congr 1
      funext p
      simp only [Function.comp]
      by_cases hp : p.1 = x
      · simp [hp]
      · simp [hp]
    rw [e]
    by_cases e : x = y
    · subst e; rw [h]; simp
    · simp [e]
  · unfold mhas; simp
theorem keys_ins : (mins m x z).map Prod.fst = if mhas m x then m.map Prod.fst else m.map Prod.fst ++ [x] := by
  unfold mins; split <;> simp
theorem nd_ins (h : (m.map Prod.fst).Nodup) : ((mins m x z).map Prod.fst).Nodup := by
  rw [keys_ins]
  split
  · exact h
  · rename_i hh
    rw [List.nodup_append]
    refine ⟨h, by simp, ?_⟩
    intro a ha b hb e
    simp only [List.mem_singleton] at hb
    subst hb e
    obtain ⟨p, hp, e⟩ := List.mem_map.1 ha
    exact hh (mhas_iff.2 ⟨p.2, by rw [← e]; exact hp⟩)
theorem keys_set : (mset m x v).map Prod.fst = if mhas m x then m.map Prod.fst else m.map Prod.fst ++ [x] := by
  unfold mset; split
  · rw [List.map_map]
    refine List.map_congr_left fun p hp => ?_
    simp only [Function.comp]
    by_cases h : p.1 = x
    · rw [if_pos h, h]
    · rw [if_neg h]
  · simp
theorem nd_set (h : (m.map Prod.fst).Nodup) : ((mset m x v).map Prod.fst).Nodup := by
  have := nd_ins (m := m) (x := x) (z := v) h
  rw [keys_ins] at this
  rw [keys_set]
  exact this
theorem mget_mem (h : (m.map Prod.fst).Nodup) (hm : (x, v) ∈ m) : mget m x z = v := by
  induction m with
  | nil => cases hm
  | cons p m ih =>
    rw [List.map_cons, List.nodup_cons] at h
    rw [mget_cons]
    rcases List.mem_cons.1 hm with rfl | hm
    · simp
    · rw [if_neg, ih h.2 hm]
      intro e
      exact h.1 (by rw [e]; exact List.mem_map.2 ⟨_, hm, rfl⟩)
end
end Go.SX
namespace Go.SX
open Go Go.RowKit
open Go.ChangeMaps (setBlock)
/-! ### The resources -/
section
variable {α β : Type}
def mp (kf : α → Value) (vf : β → Value) (b : Nat) (m : List (α × β)) : Res where
  foot := [b]
  holds w := ∃ es clock, w.heap[b]? = some (.map es clock) ∧ MC kf vf es clock m
  stable w w' h hw := by rw [h b (by simp)]; exact hw
  lt w h b' hb := by
    simp at hb; subst hb
    obtain ⟨es, clock, h1, _⟩ := h
    exact lt_of_some h1
/-- The same; the key x was laid in with the stamp n. -/
def mpk (kf : α → Value) (vf : β → Value) (b : Nat) (m : List (α × β)) (x : α) (n : Nat) : Res where
  foot := [b]
  holds w := ∃ es clock, w.heap[b]? = some (.map es clock) ∧ MC kf vf es clock m ∧ ∃ e ∈ es.toList, e.key = kf x ∧ e.born = n
  stable w w' h hw := by rw [h b (by simp)]; exact hw
  lt w h b' hb := by
    simp at hb; subst hb
    obtain ⟨es, clock, h1, _⟩ := h
    exact lt_of_some h1
/-- A range under way: what is left, what was handed out last. -/
def mpr (kf : α → Value) (vf : β → Value) (b r : Nat) (m left : List (α × β)) (cur : Option (α × β)) : Res where
  foot := [b, r]
  holds w := b ≠ r ∧ ∃ es clock since seen c0, w.heap[b]? = some (.map es clock) ∧ MC kf vf es clock m ∧ w.heap[r]? = some (.mapIter (some b) since seen c0) ∧ (∀ e ∈ es.toList, e.born < since) ∧ since ≤ c0 ∧ since ≤ clock ∧
    (leftOf es seen).toList.map (fun e => (e.key, e.val)) = left.map (fun p => (kf p.1, vf p.2)) ∧ (∀ p ∈ left, p ∈ m) ∧
    ∀ p, cur = some p → ∃ (s' : Array Nat) (e : MapEntry), e ∈ es.toList ∧ seen = s'.push e.born ∧ c0 = clock ∧ e.key = kf p.1 ∧ e.val = vf p.2
  stable w w' h hw := by rw [h b (by simp), h r (by simp)]; exact hw
  lt w h b' hb := by
    obtain ⟨_, es, clock, since, seen, c0, h1, _, h2, _⟩ := h
    simp at hb
    rcases hb with rfl | rfl
    · exact lt_of_some h1
    · exact lt_of_some h2
end

section
variable {V : Env} {P : Program} {Q : Exit → Act → World → Prop} {ops : Array Oper} {N : Nat} {o : Oper} {rest : List Oper} {L : List (Nat × Value)} {H R : List Res} {S : Nat → Prop} {wf : World} {K : St → Prop} {st : St} {C : World → Prop}
variable {α β : Type} [DecidableEq α] {vf : β → Value} {m : List (α × β)} {x : α} {v z : β} {b : Nat}

theorem MC.at {kf : α → Value} {es : Array MapEntry} {clock j : Nat} {e : MapEntry} (h : MC kf vf es clock m) (hj : es.toList[j]? = some e) : ∃ p, m[j]? = some p ∧ e.key = kf p.1 ∧ e.val = vf p.2 := by
  have := congrArg (fun l => l[j]?) h.kv
  simp only [List.getElem?_map, hj, Option.map_some] at this
  cases hm : m[j]? with
  | none => rw [hm] at this; cases this
  | some p =>
    rw [hm] at this
    simp only [Option.map_some, Option.some.injEq, Prod.mk.injEq] at this
    exact ⟨p, rfl, this.1, this.2⟩
theorem MC.keys {kf : α → Value} {es : Array MapEntry} {clock : Nat} (h : MC kf vf es clock m) : ∀ e ∈ es.toList, ∃ y, e.key = kf y := fun e he => by
  obtain ⟨j, hj⟩ := List.getElem?_of_mem he
  obtain ⟨p, _, h2, _⟩ := h.at hj
  exact ⟨p.1, h2⟩
theorem MC.len {kf : α → Value} {es : Array MapEntry} {clock : Nat} (h : MC kf vf es clock m) : es.toList.length = m.length := by
  have := congrArg List.length h.kv
  simpa using this
/-- Where a key stands. -/
theorem MC.find {k : TypeId} {E : KE P k α} {es : Array MapEntry} {clock : Nat} (h : MC E.f vf es clock m) (w : World) (x : α) :
    ((Instr.findKey k (E.f x) es.toList).run P w = .ok none w ∧ mhas m x = false) ∨
    ∃ j e0 v, (Instr.findKey k (E.f x) es.toList).run P w = .ok (some (j, e0.val)) w ∧ es.toList[j]? = some e0 ∧ e0.key = E.f x ∧ m[j]? = some (x, v) ∧ e0.val = vf v ∧ mhas m x = true ∧ ∀ z, mget m x z = v := by
  rcases E.find w x es.toList h.keys with ⟨h1, h2⟩ | ⟨j, e0, h1, h2, h3⟩
  · refine .inl ⟨h1, ?_⟩
    rw [Bool.eq_false_iff]
    intro hm
    obtain ⟨v, hv⟩ := mhas_iff.1 hm
    obtain ⟨j, hj⟩ := List.getElem?_of_mem hv
    have hlt : j < es.toList.length := by rw [h.len]; exact (List.getElem?_eq_some_iff.1 hj).1
    obtain ⟨p, hp, h4, _⟩ := h.at (List.getElem?_eq_getElem hlt)
    rw [hj] at hp
    cases hp
    exact h2 _ (List.getElem_mem hlt) h4
  · obtain ⟨p, hp, h4, h5⟩ := h.at h2
    have hx : p.1 = x := E.inj _ _ (h4.symm.trans h3)
    have hp' : m[j]? = some (x, p.2) := by rw [hp, ← hx]
    exact .inr ⟨j, e0, p.2, h1, h2, h3, hp', h5, mhas_iff.2 ⟨p.2, List.mem_of_getElem? hp'⟩, fun z => mget_mem h.nd (List.mem_of_getElem? hp')⟩

/-- m[x]. -/
theorem ev_lkp {t k e : TypeId} (E : KE P k α) {a y : Operand} (ho : o.op = .lookup t a y false) (hu : P.underlying t = some (.map k e)) (hz : (P.info? e).bind (fun i => i.zero) = some (vf z))
    (ha : lk L a = some (.map (some b))) (hy : lk L y = some (E.f x)) (i : Nat) (hi : H[i]? = some (mp E.f vf b m)) : Ev P (WW V S wf H) L o (vf (mget m x z)) :=
  ⟨by simp [ho, noSel], by simp [ho, Op.operands, known_of ha, known_of hy], fun w hw => by
    obtain ⟨es, clock, hb, hM⟩ := hw.has _ (List.mem_of_getElem? hi)
    obtain ⟨inf, hi1, hi2⟩ := Option.bind_eq_some_iff.1 hz
    have hzr : (zeroValue e).run P w = .ok (vf z) w := by simp [zeroValue, typeInfo, hi1, hi2]
    rcases hM.find w x with ⟨h1, h2⟩ | ⟨j, e0, u, h1, h2, h3, h4, h5, h6, h7⟩
    · simp [execOp, ho, ev_of ha, ev_of hy, Instr.lookup, run_underlying hu, MapKept.run_getObj_map hb, E.check, h1, hzr, Result.andThen, mget_none h2]
    · simp [execOp, ho, ev_of ha, ev_of hy, Instr.lookup, run_underlying hu, MapKept.run_getObj_map hb, E.check, h1, hzr, Result.andThen, h7, h5]⟩
/-- v, ok := m[x]. -/
theorem ev_lkpok {t k e : TypeId} (E : KE P k α) {a y : Operand} (ho : o.op = .lookup t a y true) (hu : P.underlying t = some (.map k e)) (hz : (P.info? e).bind (fun i => i.zero) = some (vf z))
    (ha : lk L a = some (.map (some b))) (hy : lk L y = some (E.f x)) (i : Nat) (hi : H[i]? = some (mp E.f vf b m)) : Ev P (WW V S wf H) L o (.tuple #[vf (mget m x z), .bool (mhas m x)]) :=
  ⟨by simp [ho, noSel], by simp [ho, Op.operands, known_of ha, known_of hy], fun w hw => by
    obtain ⟨es, clock, hb, hM⟩ := hw.has _ (List.mem_of_getElem? hi)
    obtain ⟨inf, hi1, hi2⟩ := Option.bind_eq_some_iff.1 hz
    have hzr : (zeroValue e).run P w = .ok (vf z) w := by simp [zeroValue, typeInfo, hi1, hi2]
    rcases hM.find w x with ⟨h1, h2⟩ | ⟨j, e0, u, h1, h2, h3, h4, h5, h6, h7⟩
    · simp [execOp, ho, ev_of ha, ev_of hy, Instr.lookup, run_underlying hu, MapKept.run_getObj_map hb, E.check, h1, hzr, Result.andThen, mget_none h2, h2]
    · simp [execOp, ho, ev_of ha, ev_of hy, Instr.lookup, run_underlying hu, MapKept.run_getObj_map hb, E.check, h1, hzr, Result.andThen, h7, h5, h6]⟩

/-- A new map. -/
theorem st_mkmap {t : TypeId} (kf : α → Value) (vf : β → Value) {d : Nat} (ho : o.op = .makeMap t none) (hg : o.guard = none) (hd : o.dst = some d) (hdN : Nat.blt d N = true)
    (k : ∀ b, K ⟨(d, .map (some b)) :: L, mp kf vf b [] :: H, S, wf⟩) : OpStep V P Q ops N o ⟨L, H, S, wf⟩ K :=
  .act hg hd hdN (by simp [ho, noSel]) (by rw [ho]; simp [Op.operands]) fun w hw => by
    refine ⟨_, _, _, by simp [execOp, ho, Instr.makeMap, newObj, Sem.run]; rfl, ?_, k w.heap.size⟩
    refine WW.change (C := []) (R := H) (C' := [mp kf vf w.heap.size []]) hw (fun b hb _ => Below.heap_alloc w _ b hb) (by simp) ?_ (by simp [mp]) (fun b hb => .inr ?_) rfl rfl rfl
    · intro r hr
      simp only [List.mem_singleton] at hr
      subst hr
      exact ⟨#[], 0, heap_alloc_new w _, ⟨by simp, by simp, by simp, by simp⟩⟩
    · simp [mp] at hb
      omega

theorem heap_setBlock_ne (w : World) (b : Nat) (o : Obj) (b' : Nat) (h : b' ≠ b) : (setBlock w b o).heap[b']? = w.heap[b']? := by
  simp [setBlock, Array.getElem?_setIfInBounds, Ne.symm h]
theorem heap_setBlock_at {w : World} {b : Nat} {o o' : Obj} (h : w.heap[b]? = some o) : (setBlock w b o').heap[b]? = some o' := by
  simp [setBlock, Array.getElem?_setIfInBounds, lt_of_some h]
theorem WW.setBlock {w : World} {r r' : Res} {o' : Obj} {o1 : Obj} (hw : WW V S wf (r :: R) w) (hf : r.foot = [b]) (hf' : r'.foot = [b]) (hb : w.heap[b]? = some o1) (h : r'.holds (setBlock w b o')) : WW V S wf (r' :: R) (setBlock w b o') := by
  refine WW.change (C := [r]) (R := R) (C' := [r']) hw (fun b' _ hn => heap_setBlock_ne _ _ _ _ (by simpa [hf] using hn)) (by simp [ChangeMaps.setBlock]) ?_ (by simp [hf']) (fun b' hb' => .inl (by simpa [hf, hf'] using hb')) rfl rfl rfl
  intro q hq
  simp only [List.mem_singleton] at hq
  subst hq
  exact h

theorem MC.push {kf : α → Value} {es : Array MapEntry} {clock : Nat} (h : MC kf vf es clock m) (hx : mhas m x = false) : MC kf vf (es.push ⟨kf x, vf v, clock⟩) (clock + 1) (m ++ [(x, v)]) where
  kv := by simp [h.kv]
  nd := by
    have := nd_ins (z := v) (x := x) h.nd
    unfold mins at this
    rwa [if_neg (by simp [hx])] at this
  bn := by
    rw [Array.toList_push, List.map_append, List.nodup_append]
    refine ⟨h.bn, by simp, ?_⟩
    intro a ha c hc e
    obtain ⟨e0, he0, rfl⟩ := List.mem_map.1 ha
    simp at hc
    have := h.old e0 he0
    omega
  old e he := by
    rw [Array.toList_push, List.mem_append] at he
    rcases he with he | he
    · have := h.old e he; omega
    · simp at he; subst he; simp
theorem set_map {kf : α → Value} {j : Nat} {u : β} (hn : (m.map Prod.fst).Nodup) (h : m[j]? = some (x, u)) : m.set j (x, v) = mset m x v := by
  have hm : mhas m x = true := mhas_iff.2 ⟨u, List.mem_of_getElem? h⟩
  unfold mset
  rw [if_pos hm]
  refine List.ext_getElem? fun i => ?_
  rw [List.getElem?_map]
  by_cases hij : j = i
  · subst hij
    rw [List.getElem?_set_self (List.getElem?_eq_some_iff.1 h).1, h]
    simp
  · rw [List.getElem?_set_ne hij]
    cases hi : m[i]? with
    | none => rfl
    | some p =>
      simp only [Option.map_some, Option.some.injEq]
      rw [if_neg]
      intro e
      have h1 : (m.map Prod.fst)[i]? = some x := by simp [hi, e]
      have h2 : (m.map Prod.fst)[j]? = some x := by simp [h]
      have hlt : i < (m.map Prod.fst).length := (List.getElem?_eq_some_iff.1 h1).1
      exact hij ((List.getElem?_inj hlt hn).1 (h1.trans h2.symm)).symm
theorem MC.set {kf : α → Value} {es : Array MapEntry} {clock j : Nat} {e0 : MapEntry} {u : β} (h : MC kf vf es clock m) (hj : es.toList[j]? = some e0) (hk : e0.key = kf x) (hm : m[j]? = some (x, u)) :
    MC kf vf (es.modify j (fun e => { e with val := vf v })) clock (mset m x v) := by
  have hl : (es.modify j (fun e => { e with val := vf v })).toList = es.toList.set j { e0 with val := vf v } := by rw [Array.toList_modify, ChangeMaps.modify_eq_set _ _ _ _ hj]
  have hlt := (List.getElem?_eq_some_iff.1 hj).1
  have hg := (List.getElem?_eq_some_iff.1 hj).2
  refine ⟨?_, nd_set h.nd, ?_, ?_⟩
  · rw [hl, List.map_set, h.kv, ← set_map (kf := kf) h.nd hm, List.map_set, hk]
  · rw [hl, List.map_set]
    have : (es.toList.map MapEntry.born).set j e0.born = es.toList.map MapEntry.born := by
      have e1 : e0.born = (es.toList.map MapEntry.born)[j]'(by simpa using hlt) := by simp [hg]
      rw [e1, List.set_getElem_self]
    show ((es.toList.map MapEntry.born).set j e0.born).Nodup
    rw [this]; exact h.bn
  · intro e he
    rw [hl] at he
    rcases List.mem_or_eq_of_mem_set he with he | rfl
    · exact h.old e he
    · exact h.old e0 (List.mem_of_getElem? hj)
end
end Go.SX
namespace Go.SX
open Go Go.RowKit
open Go.ChangeMaps (setBlock)
section
variable {V : Env} {P : Program} {Q : Exit → Act → World → Prop} {ops : Array Oper} {N : Nat} {o : Oper} {rest : List Oper} {L : List (Nat × Value)} {H R : List Res} {S : Nat → Prop} {wf : World} {K : St → Prop} {st : St} {C : World → Prop}
variable {α β : Type} [DecidableEq α] {vf : β → Value} {m : List (α × β)} {x : α} {v z : β} {b : Nat}

theorem MC.same {kf : α → Value} {es : Array MapEntry} {clock j : Nat} {e0 : MapEntry} (h : MC kf vf es clock m) (hj : es.toList[j]? = some e0) : es.modify j (fun e => { e with key := e0.key }) = es := by
  apply Array.toList_inj.1
  rw [Array.toList_modify, ChangeMaps.modify_eq_set _ _ _ _ hj]
  have hlt := (List.getElem?_eq_some_iff.1 hj).1
  have hg := (List.getElem?_eq_some_iff.1 hj).2
  show es.toList.set j e0 = es.toList
  rw [← hg, List.set_getElem_self]

theorem run_stays {k : TypeId} (E : KE P k α) (w : World) (x : α) : (Instr.keyThatStays (E.f x) (E.f x)).run P w = .ok (E.f x) w := by
  simp [Instr.keyThatStays, E.bits x]

/-- The entry of m[x], laid in if it lacks. -/
theorem st_mapEntry {t k e : TypeId} (E : KE P k α) {a y : Operand} {d : Nat} (ho : o.op = .mapEntry t a y) (hg : o.guard = none) (hd : o.dst = some d) (hdN : Nat.blt d N = true) (hu : P.underlying t = some (.map k e)) (hz : (P.info? e).bind (fun i => i.zero) = some (vf z))
    (ha : lk L a = some (.map (some b))) (hy : lk L y = some (E.f x)) (hp : Pick H (mp E.f vf b m) R)
    (kx : ∀ u n, K ⟨(d, .tuple #[u, .int .i64 ((n : Nat) : Int)]) :: L, mpk E.f vf b (mins m x z) x n :: R, S, wf⟩) : OpStep V P Q ops N o ⟨L, H, S, wf⟩ K :=
  .act hg hd hdN (by simp [ho, noSel]) (by simp [ho, Op.operands, known_of ha, known_of hy]) fun w hw => by
    have hw' := hw.perm hp.perm
    obtain ⟨es, clock, hb, hM⟩ := hw'.has _ (List.mem_cons_self ..)
    obtain ⟨inf, hi1, hi2⟩ := Option.bind_eq_some_iff.1 hz
    have hzr : (zeroValue e).run P w = .ok (vf z) w := by simp [zeroValue, typeInfo, hi1, hi2]
    rcases hM.find w x with ⟨h1, h2⟩ | ⟨j, e0, u, h1, h2, h3, h4, h5, h6, h7⟩
    · refine ⟨.tuple #[vf z, .int .i64 ((clock : Nat) : Int)], setBlock w b (.map (es.push ⟨E.f x, vf z, clock⟩) (clock + 1)), mpk E.f vf b (mins m x z) x clock :: R, ?_, hw'.setBlock rfl rfl hb ?_, kx _ clock⟩
      · simp [execOp, ho, ev_of ha, ev_of hy, Instr.mapEntry, run_underlying hu, MapKept.run_getObj_map hb, E.check, h1, hzr, MapKept.run_setObj_map _ hb, Result.andThen, setBlock, goInt]
      · have hm : mins m x z = m ++ [(x, z)] := by unfold mins; rw [if_neg (by simp [h2])]
        exact ⟨_, _, heap_setBlock_at hb, by rw [hm]; exact hM.push h2, ⟨E.f x, vf z, clock⟩, by simp, rfl, rfl⟩
    · have hj : es[j]? = some e0 := by simpa using h2
      refine ⟨.tuple #[e0.val, .int .i64 ((e0.born : Nat) : Int)], setBlock w b (.map (es.modify j fun e => { e with key := e0.key }) clock), mpk E.f vf b (mins m x z) x e0.born :: R, ?_, hw'.setBlock rfl rfl hb ?_, kx _ e0.born⟩
      · simp [execOp, ho, ev_of ha, ev_of hy, Instr.mapEntry, run_underlying hu, MapKept.run_getObj_map hb, E.check, h1, hj, h3, run_stays E, MapKept.run_setObj_map _ hb, Result.andThen, setBlock, goInt]
      · have hm : mins m x z = m := by unfold mins; rw [if_pos h6]
        rw [hM.same h2, hm]
        exact ⟨_, _, heap_setBlock_at hb, hM, e0, List.mem_of_getElem? h2, h3, rfl⟩
theorem find_of_born {es : Array MapEntry} {j : Nat} {e0 : MapEntry} (hn : (es.toList.map MapEntry.born).Nodup) (hj : es.toList[j]? = some e0) : es.findIdx? (fun e => ((e.born : Nat) : Int) == ((e0.born : Nat) : Int)) = some j := by
  have hlt := (List.getElem?_eq_some_iff.1 hj).1
  have hg := (List.getElem?_eq_some_iff.1 hj).2
  rw [Array.findIdx?_eq_some_iff_getElem]
  have hlt' : j < es.size := by simpa using hlt
  have hg' : es[j] = e0 := hg
  refine ⟨hlt', by simp [hg'], fun i hi => ?_⟩
  have hne : es[i].born ≠ e0.born := by
    intro e
    have h1 : (es.toList.map MapEntry.born)[i]? = some e0.born := by
      have hi' : i < es.toList.length := by omega
      have e' : es.toList[i].born = e0.born := e
      simp only [List.getElem?_map, List.getElem?_eq_getElem hi', Option.map_some, e']
    have h2 : (es.toList.map MapEntry.born)[j]? = some e0.born := by simp only [List.getElem?_map, hj, Option.map_some]
    have := (List.getElem?_inj (List.getElem?_eq_some_iff.1 h1).1 hn).1 (h1.trans h2.symm)
    omega
  simp only [beq_iff_eq, Int.natCast_inj]
  exact hne
/-- Its value. -/
theorem st_entryStore {t k : TypeId} (E : KE P k α) {a s y : Operand} {n : Nat} {u : Value} (ho : o.op = .entryStore t a s y) (hg : o.guard = none) (hd : o.dst = none)
    (ha : lk L a = some (.map (some b))) (hs : lk L s = some (.int .i64 ((n : Nat) : Int))) (hy : lk L y = some (vf v)) (hp : Pick H (mpk E.f vf b m x n) R)
    (kx : K ⟨L, mp E.f vf b (mset m x v) :: R, S, wf⟩) : OpStep V P Q ops N o ⟨L, H, S, wf⟩ K :=
  .eff hg hd (by simp [ho, noSel]) (by simp [ho, Op.operands, known_of ha, known_of hs, known_of hy]) fun w hw => by
    have hw' := hw.perm hp.perm
    obtain ⟨es, clock, hb, hM, e0, he0, hk0, hb0⟩ := hw'.has _ (List.mem_cons_self ..)
    obtain ⟨j, hj⟩ := List.getElem?_of_mem he0
    obtain ⟨p, hpm, h4, h5⟩ := hM.at hj
    have hx : p.1 = x := E.inj _ _ (h4.symm.trans hk0)
    have hfi := find_of_born hM.bn hj
    subst hb0
    refine ⟨setBlock w b (.map (es.modify j fun e => { e with val := vf v }) clock), mp E.f vf b (mset m x v) :: R, ?_, hw'.setBlock rfl rfl hb ?_, kx⟩
    · simp [execOp, ho, ev_of ha, ev_of hs, ev_of hy, Instr.entryStore, MapKept.run_getObj_map hb, asInt, asIntOf, hfi, MapKept.run_setObj_map _ hb, Result.andThen, setBlock]
    · exact ⟨_, _, heap_setBlock_at hb, hM.set hj hk0 (u := p.2) (by rw [hpm, ← hx])⟩
/-- m[x] = v. -/
theorem st_mapSet {t k e : TypeId} (E : KE P k α) {a s y : Operand} {u : Value} (ho : o.op = .mapUpdate t a s y) (hg : o.guard = none) (hd : o.dst = none) (hu : P.underlying t = some (.map k e))
    (ha : lk L a = some (.map (some b))) (hs : lk L s = some (E.f x)) (hy : lk L y = some (vf v)) (hp : Pick H (mp E.f vf b m) R)
    (kx : K ⟨L, mp E.f vf b (mset m x v) :: R, S, wf⟩) : OpStep V P Q ops N o ⟨L, H, S, wf⟩ K :=
  .eff hg hd (by simp [ho, noSel]) (by simp [ho, Op.operands, known_of ha, known_of hs, known_of hy]) fun w hw => by
    have hw' := hw.perm hp.perm
    obtain ⟨es, clock, hb, hM⟩ := hw'.has _ (List.mem_cons_self ..)
    rcases hM.find w x with ⟨h1, h2⟩ | ⟨j, e0, u, h1, h2, h3, h4, h5, h6, h7⟩
    · refine ⟨setBlock w b (.map (es.push ⟨E.f x, vf v, clock⟩) (clock + 1)), mp E.f vf b (mset m x v) :: R, ?_, hw'.setBlock rfl rfl hb ?_, kx⟩
      · simp [execOp, ho, ev_of ha, ev_of hs, ev_of hy, Instr.mapUpdate, run_underlying hu, MapKept.run_getObj_map hb, E.check, h1, MapKept.run_setObj_map _ hb, Result.andThen, setBlock]
      · have hm : mset m x v = m ++ [(x, v)] := by unfold mset; rw [if_neg (by simp [h2])]
        exact ⟨_, _, heap_setBlock_at hb, by rw [hm]; exact hM.push h2⟩
    · have hj : es[j]? = some e0 := by simpa using h2
      have hmod : es.modify j (fun e => { e with key := E.f x, val := vf v }) = es.modify j (fun e => { e with val := vf v }) := by
        apply Array.toList_inj.1
        rw [Array.toList_modify, Array.toList_modify, ChangeMaps.modify_eq_set _ _ _ _ h2, ChangeMaps.modify_eq_set _ _ _ _ h2, ← h3]
      refine ⟨setBlock w b (.map (es.modify j fun e => { e with key := E.f x, val := vf v }) clock), mp E.f vf b (mset m x v) :: R, ?_, hw'.setBlock rfl rfl hb ?_, kx⟩
      · simp [execOp, ho, ev_of ha, ev_of hs, ev_of hy, Instr.mapUpdate, run_underlying hu, MapKept.run_getObj_map hb, E.check, h1, hj, h3, run_stays E, MapKept.run_setObj_map _ hb, Result.andThen, setBlock]
      · rw [hmod]
        exact ⟨_, _, heap_setBlock_at hb, hM.set h2 h3 h4⟩
/-- A range begins. -/
theorem st_range {t k e : TypeId} (E : KE P k α) {a : Operand} {d : Nat} (ho : o.op = .range t a) (hg : o.guard = none) (hd : o.dst = some d) (hdN : Nat.blt d N = true) (hu : P.underlying t = some (.map k e))
    (ha : lk L a = some (.map (some b))) (hp : Pick H (mp E.f vf b m) R)
    (kx : ∀ r, K ⟨(d, .pointer (some ⟨r, 0, none⟩)) :: L, mpr E.f vf b r m m none :: R, S, wf⟩) : OpStep V P Q ops N o ⟨L, H, S, wf⟩ K :=
  .act hg hd hdN (by simp [ho, noSel]) (by simp [ho, Op.operands, known_of ha]) fun w hw => by
    have hw' := hw.perm hp.perm
    obtain ⟨es, clock, hb, hM⟩ := hw'.has _ (List.mem_cons_self ..)
    have hlt := lt_of_some hb
    refine ⟨.pointer (some ⟨w.heap.size, 0, none⟩), w.alloc (.mapIter (some b) clock #[] clock), mpr E.f vf b w.heap.size m m none :: R, ?_, ?_, kx _⟩
    · simp [execOp, ho, ev_of ha, Instr.range, run_underlying hu, MapKept.run_getObj_map hb, newObj, Sem.run, Result.andThen]
    · refine WW.change (C := [mp E.f vf b m]) (R := R) (C' := [mpr E.f vf b w.heap.size m m none]) hw' (fun b' hb' _ => Below.heap_alloc w _ b' hb') (by simp) ?_ ?_ ?_ rfl rfl rfl
      · intro r hr
        simp only [List.mem_singleton] at hr
        subst hr
        refine ⟨by omega, es, clock, clock, #[], clock, ?_, hM, heap_alloc_new w _, hM.old, Nat.le_refl _, Nat.le_refl _, ?_, fun p hp => hp, fun p hp => by cases hp⟩
        · rw [Below.heap_alloc w _ b hlt]; exact hb
        · have : leftOf es #[] = es := by
            unfold leftOf
            exact Array.filter_eq_self.2 (fun x _ => by simp)
          rw [this]; exact hM.kv
      · simp [mpr]; omega
      · intro b' hb'
        simp [mpr] at hb'
        rcases hb' with rfl | rfl
        · exact .inl (by simp [mp])
        · exact .inr (Nat.le_refl _)
end
end Go.SX
namespace Go.SX
open Go Go.RowKit
open Go.ChangeMaps (setBlock)
theorem nodup_inj {α β : Type} {f : α → β} {l : List α} (h : (l.map f).Nodup) {a b : α} (ha : a ∈ l) (hb : b ∈ l) (e : f a = f b) : a = b := by
  obtain ⟨i, hi⟩ := List.getElem?_of_mem ha
  obtain ⟨j, hj⟩ := List.getElem?_of_mem hb
  have h1 : (l.map f)[i]? = some (f a) := by simp [hi]
  have h2 : (l.map f)[j]? = some (f a) := by simp [hj, e]
  have := (List.getElem?_inj (List.getElem?_eq_some_iff.1 h1).1 h).1 (h1.trans h2.symm)
  subst this
  rw [hi] at hj
  injection hj
theorem nodup_map_inj {α β : Type} {f : α → β} (hf : ∀ x y, f x = f y → x = y) : ∀ {l : List α}, l.Nodup → (l.map f).Nodup
  | [], _ => by simp
  | a :: l, h => by
    rw [List.nodup_cons] at h
    rw [List.map_cons, List.nodup_cons]
    refine ⟨fun hm => ?_, nodup_map_inj hf h.2⟩
    obtain ⟨b, hb, e⟩ := List.mem_map.1 hm
    exact h.1 (hf _ _ e ▸ hb)
theorem left_push (es : Array MapEntry) (seen : Array Nat) (n : Nat) : (leftOf es (seen.push n)).toList = (leftOf es seen).toList.filter (fun e => decide (e.born ≠ n)) := by
  unfold leftOf
  rw [Array.toList_filter, Array.toList_filter, List.filter_filter]
  congr 1
  funext e
  rw [Bool.eq_iff_iff]
  simp
  constructor <;> (intro h; exact ⟨h.2, h.1⟩)
theorem left_sub {es : Array MapEntry} {seen : Array Nat} {e : MapEntry} (h : e ∈ (leftOf es seen).toList) : e ∈ es.toList := by
  unfold leftOf at h
  rw [Array.toList_filter] at h
  exact (List.mem_filter.1 h).1
section
variable {V : Env} {P : Program} {Q : Exit → Act → World → Prop} {ops : Array Oper} {N : Nat} {o : Oper} {rest : List Oper} {L : List (Nat × Value)} {H R : List Res} {S : Nat → Prop} {wf : World} {K : St → Prop} {st : St} {C : World → Prop}
variable {α β : Type} [DecidableEq α] {vf : β → Value} {m left : List (α × β)} {x : α} {v z : β} {b r : Nat} {cur : Option (α × β)}
theorem filter_kv {kf : α → Value} {x : α} {n : Nat} : ∀ (A : List MapEntry) (l : List (α × β)), A.map (fun e => (e.key, e.val)) = l.map (fun p => (kf p.1, vf p.2)) → (∀ e ∈ A, ∀ y, e.key = kf y → (e.born ≠ n ↔ y ≠ x)) →
    (A.filter (fun e => decide (e.born ≠ n))).map (fun e => (e.key, e.val)) = (l.filter (fun p => decide (p.1 ≠ x))).map (fun p => (kf p.1, vf p.2))
  | [], [], _, _ => rfl
  | [], p :: l, h, _ => by simp at h
  | e :: A, [], h, _ => by simp at h
  | e :: A, p :: l, h, hk => by
    simp only [List.map_cons, List.cons.injEq, Prod.mk.injEq] at h
    obtain ⟨⟨h1, h2⟩, h3⟩ := h
    have ih := filter_kv A l h3 (fun e he => hk e (by simp [he]))
    have hb := hk e (by simp) p.1 h1
    by_cases hx : p.1 = x
    · have hn : e.born = n := by
        refine Classical.byContradiction fun hn => ?_
        exact hb.1 hn hx
      rw [List.filter_cons_of_neg (by simp [hn]), List.filter_cons_of_neg (by simp [hx])]; exact ih
    · have hn := hb.2 hx
      rw [List.filter_cons_of_pos (by simp [hn]), List.filter_cons_of_pos (by simp [hx]), List.map_cons, List.map_cons, h1, h2, ih]
/-- The next entry, whichever. -/
theorem st_next {k : TypeId} (E : KE P k α) {a : Operand} {d : Nat} (ho : o.op = .next a false) (hg : o.guard = none) (hd : o.dst = some d) (hdN : Nat.blt d N = true)
    (ha : lk L a = some (.pointer (some ⟨r, 0, none⟩))) (hp : Pick H (mpr E.f vf b r m left cur) R)
    (k0 : left = [] → K ⟨(d, .tuple #[.bool false]) :: L, mpr E.f vf b r m left cur :: R, S, wf⟩)
    (k1 : ∀ x v, (x, v) ∈ left → (x, v) ∈ m → K ⟨(d, .tuple #[.bool true, E.f x, vf v]) :: L, mpr E.f vf b r m (left.filter (fun p => decide (p.1 ≠ x))) (some (x, v)) :: R, S, wf⟩) : OpStep V P Q ops N o ⟨L, H, S, wf⟩ K :=
  .act hg hd hdN (by simp [ho, noSel]) (by simp [ho, Op.operands, known_of ha]) fun w hw => by
    have hw' := hw.perm hp.perm
    obtain ⟨hbr, es, clock, since, seen, c0, hb, hM, hr, hold, h1, h2, hleft, hsub, hcur⟩ := hw'.has _ (List.mem_cons_self ..)
    rcases run_next_at (P := P) w o.type r b since c0 seen es clock hr hb hold h1 with ⟨h3, h4⟩ | ⟨e, he, w1, hw1, h4⟩
    · have hl : left = [] := by
        have h5 := congrArg List.length hleft
        simp only [List.length_map, Array.length_toList, h3] at h5
        exact List.length_eq_zero_iff.1 h5.symm
      exact ⟨_, w, _, by simp [execOp, ho, ev_of ha, h4], hw', k0 hl⟩
    · obtain ⟨j, hj⟩ := List.getElem?_of_mem he
      have hkv := congrArg (fun l => l[j]?) hleft
      simp only [List.getElem?_map, hj, Option.map_some] at hkv
      cases hlj : left[j]? with
      | none => rw [hlj] at hkv; cases hkv
      | some p =>
        rw [hlj] at hkv
        simp only [Option.map_some, Option.some.injEq, Prod.mk.injEq] at hkv
        obtain ⟨hk1, hk2⟩ := hkv
        have hes := left_sub he
        have hw1' : WW V S wf (mpr E.f vf b r m left cur :: R) w1 := by
          rcases hw1 with rfl | rfl
          · exact hw'
          · exact hw'.drew
        have hb1 : w1.heap[b]? = some (.map es clock) := by rcases hw1 with rfl | rfl <;> exact hb
        have hr1 : w1.heap[r]? = some (.mapIter (some b) since seen c0) := by rcases hw1 with rfl | rfl <;> exact hr
        have hpl : (p.1, p.2) ∈ left := List.mem_of_getElem? hlj
        have hpm : (p.1, p.2) ∈ m := hsub _ hpl
        refine ⟨.tuple #[.bool true, E.f p.1, vf p.2], setBlock w1 r (.mapIter (some b) since (seen.push e.born) clock), mpr E.f vf b r m (left.filter (fun q => decide (q.1 ≠ p.1))) (some (p.1, p.2)) :: R, ?_, ?_, k1 p.1 p.2 (List.mem_of_getElem? hlj) hpm⟩
        · rw [hk1, hk2] at h4
          simp [execOp, ho, ev_of ha, h4]
        · refine WW.change (C := [mpr E.f vf b r m left cur]) (R := R) (C' := [mpr E.f vf b r m (left.filter (fun q => decide (q.1 ≠ p.1))) (some (p.1, p.2))]) hw1' (fun b' _ hn => heap_setBlock_ne _ _ _ _ (fun e => hn (by simp [mpr, e]))) (by simp [setBlock]) ?_ (by simp [mpr]; exact hbr) (fun b' hb' => .inl (by simpa [mpr] using hb')) rfl rfl rfl
          intro q hq
          simp only [List.mem_singleton] at hq
          subst hq
          refine ⟨hbr, es, clock, since, seen.push e.born, clock, ?_, hM, heap_setBlock_at hr1, hold, h2, h2, ?_, fun q hq => hsub q (List.mem_filter.1 hq).1, fun q hq => ?_⟩
          · rw [heap_setBlock_ne _ _ _ _ hbr]; exact hb1
          · rw [left_push]
            refine filter_kv _ _ hleft fun e1 he1 y hy => ?_
            have hes1 := left_sub he1
            constructor
            · intro hne hyx
              subst hyx
              have hkk : (es.toList.map MapEntry.key).Nodup := by
                have h6 : es.toList.map MapEntry.key = (m.map Prod.fst).map E.f := by
                  have := congrArg (List.map Prod.fst) hM.kv
                  simpa [List.map_map, Function.comp_def] using this
                rw [h6]
                exact nodup_map_inj E.inj hM.nd
              exact hne (congrArg MapEntry.born (nodup_inj hkk hes1 hes (hy.trans hk1.symm)))
            · intro hne hbb
              have := nodup_inj hM.bn hes1 hes hbb
              subst this
              exact hne (E.inj _ _ (hy.symm.trans hk1))
          · cases hq
            exact ⟨seen, e, hes, rfl, rfl, hk1, hk2⟩
/-- Its key and value. -/
theorem ev_entry {k : TypeId} (E : KE P k α) {a : Operand} {x : α} {v : β} (ho : o.op = .entry a) (ha : lk L a = some (.pointer (some ⟨r, 0, none⟩))) (i : Nat) (hi : H[i]? = some (mpr E.f vf b r m left (some (x, v)))) : Ev P (WW V S wf H) L o (.tuple #[E.f x, vf v]) :=
  ⟨by simp [ho, noSel], by simp [ho, Op.operands, known_of ha], fun w hw => by
    obtain ⟨hbr, es, clock, since, seen, c0, hb, hM, hr, hold, h1, h2, hleft, hsub, hcur⟩ := hw.has _ (List.mem_of_getElem? hi)
    obtain ⟨s', e, he, rfl, rfl, hk, hv⟩ := hcur _ rfl
    have := run_entry_at (P := P) w r b since s' es c0 e hr hb he hM.bn
    simp [execOp, ho, ev_of ha, this, hk, hv]⟩
end
end Go.SX
namespace Go.SX
/-! ### Counting with a map -/
theorem count_step {m : List (Vis × Int)} {l : List Vis} {n : Int} {F : Vis → Int} (h : ∀ y, mget m y 0 = F y + ((l.take n.toNat).count y : Int)) (h0 : 0 ≤ n) (h1 : n < (l.length : Int)) : ∀ y, mget (mset (mins m (gt l n) 0) (gt l n) (mget m (gt l n) 0 + 1)) y 0 = F y + ((l.take (n + 1).toNat).count y : Int) := by
  intro y
  rw [mget_set, take_gt h0 h1, List.count_append, List.count_singleton]
  by_cases e : gt l n = y
  · subst e; rw [if_pos rfl, h]; simp; omega
  · rw [if_neg e, mget_ins, h, if_neg (by simpa using e)]; omega
theorem count_back {m : List (Vis × Int)} {l : List Vis} {n : Int} {F : Vis → Int} (h : ∀ y, mget m y 0 = F y - ((l.take n.toNat).count y : Int)) (h0 : 0 ≤ n) (h1 : n < (l.length : Int)) : ∀ y, mget (mset (mins m (gt l n) 0) (gt l n) (mget m (gt l n) 0 - 1)) y 0 = F y - ((l.take (n + 1).toNat).count y : Int) := by
  intro y
  rw [mget_set, take_gt h0 h1, List.count_append, List.count_singleton]
  by_cases e : gt l n = y
  · subst e; rw [if_pos rfl, h]; simp; omega
  · rw [if_neg e, mget_ins, h, if_neg (by simpa using e)]; omega
theorem nd_both {m : List (Vis × Int)} {x : Vis} {z v : Int} (h : (m.map Prod.fst).Nodup) : ((mset (mins m x z) x v).map Prod.fst).Nodup := nd_set (nd_ins h)
theorem mfilter_lt {α β : Type} [DecidableEq α] {l : List (α × β)} {x : α} {v : β} (h : (x, v) ∈ l) : (l.filter (fun p => decide (p.1 ≠ x))).length < l.length := by
  rcases Nat.lt_or_ge (l.filter (fun p => decide (p.1 ≠ x))).length l.length with h1 | h1
  · exact h1
  · have h2 : l.filter (fun p => decide (p.1 ≠ x)) = l := (List.filter_sublist).eq_of_length_le h1
    rw [List.filter_eq_self] at h2
    have := h2 _ h
    simp at this
/-! ### No visit is lost -/
def Cn (p q a b : List Vis) : Prop := ∀ v : Vis, p.count v + q.count v = a.count v + b.count v
theorem Cn.rfl' {a b : List Vis} : Cn a b a b := fun _ => rfl
theorem Cn.trans {p q a b c d : List Vis} (h : Cn p q a b) (k : Cn a b c d) : Cn p q c d := fun v => (h v).trans (k v)
theorem cn_split {l : List Vis} {i : Nat} (v : Vis) : (l.take i).count v + (l.drop i).count v = l.count v := by rw [← List.count_append, List.take_append_drop]
theorem cn_three {l : List Vis} {i j : Nat} (v : Vis) (h : i ≤ j) : (l.take i).count v + ((l.take j).drop i).count v + (l.drop j).count v = l.count v := by
  have h1 := cn_split (l := l) (i := j) v
  have h2 := cn_split (l := l.take j) (i := i) v
  rw [List.take_take, Nat.min_eq_left h] at h2
  omega
theorem cn_rep {a b : List Vis} {i j w : Int} (h0 : 0 ≤ i) (h1 : 0 ≤ j) (h2 : 0 ≤ w) : Cn (rep2 a b i j w) (rep2 b a j i w) a b := by
  intro v
  unfold rep2
  have h3 := cn_three (l := a) (i := i.toNat) (j := (i + w).toNat) v (by omega)
  have h4 := cn_three (l := b) (i := j.toNat) (j := (j + w).toNat) v (by omega)
  simp only [List.count_append]
  omega
theorem cn_ins {l s : List Vis} {i : Int} (v : Vis) : (insL l i s).count v = l.count v + s.count v := by
  unfold insL repL
  have := cn_split (l := l) (i := i.toNat) v
  simp only [List.count_append]
  omega
theorem cn_put {l : List Vis} {s : Bool} {y j k : Int} (v : Vis) : (putL l s y j k).count v = l.count v + (visF s y).count v := by
  cases s
  · exact cn_ins v
  · show (insL (insL l j [⟨2, y⟩]) k [⟨3, y⟩]).count v = l.count v + List.count v [⟨2, y⟩, ⟨3, y⟩]
    rw [cn_ins, cn_ins, show ([⟨2, y⟩, ⟨3, y⟩] : List Vis) = [⟨2, y⟩] ++ [⟨3, y⟩] from rfl, List.count_append]; omega
theorem cn_off {l : List Vis} {s : Bool} {y : Int} (h : (visF s y).all (fun v => decide (l.count v = 1)) = true) (v : Vis) : (l.filter (offV (visF s y))).count v + (visF s y).count v = l.count v := by
  by_cases ho : offV (visF s y) v = true
  · rw [List.count_filter ho]
    have : (visF s y).count v = 0 := by
      rw [List.count_eq_zero]
      intro hm
      unfold offV at ho
      rw [decide_eq_true_iff] at ho
      cases s <;> simp [visF, gt] at hm ho
      · exact ho hm
      · rcases hm with rfl | rfl
        · exact ho.1 rfl
        · exact ho.2 rfl
    omega
  · have h1 : (l.filter (offV (visF s y))).count v = 0 := by
      rw [List.count_eq_zero]
      intro hm
      exact ho (List.mem_filter.1 hm).2
    have h2 : v ∈ visF s y := by
      unfold offV at ho
      rw [decide_eq_true_iff] at ho
      cases s <;> simp [visF, gt] at ho ⊢
      · exact ho
      · refine Classical.byContradiction fun hc => ?_
        rw [not_or] at hc
        exact hc.2 (ho hc.1)
    have h3 : l.count v = 1 := by
      rw [List.all_eq_true] at h
      simpa using h v h2
    have h4 : (visF s y).count v = 1 := by
      cases s <;> simp [visF] at h2 ⊢
      · subst h2; simp
      · rcases h2 with rfl | rfl <;> simp [List.count_cons, Vis.mk.injEq]
    omega
theorem cn_whole {l X : List Vis} {i y : Int} {s : Bool} (h : (s, y, X, true) = wholeF l i) (v : Vis) : X.count v + (visF s y).count v = l.count v := by
  unfold wholeF at h
  injection h with e1 h
  injection h with e2 h
  injection h with e3 e4
  have e4 := (Bool.and_eq_true _ _ ▸ e4.symm : _ ∧ _).2
  rw [← e1, ← e2] at e3 e4
  rw [e3]
  exact cn_off e4 v
theorem cn_inter {a b p q : List Vis} {c i j k : Int} {r : Bool} (h : (r, p, q) = interF a b c i j k) : Cn p q a b := by
  have same : ∀ {x y : List Vis}, (r, p, q) = (false, x, y) → Cn p q x y := fun e => by
    injection e with _ e; injection e with e1 e2; rw [e1, e2]; exact Cn.rfl'
  unfold interF at h
  split at h
  · split at h
    · unfold inter0 at h
      split at h
      · rename_i ok
        injection h with _ h
        injection h with e1 e2
        intro v
        generalize hw : wholeF a i = w at *
        obtain ⟨s, y, X, t⟩ := w
        obtain ⟨o1, o2⟩ := ok
        have o1 : t = true := o1
        subst o1
        have h1 := cn_whole (l := a) (i := i) (X := X) (y := y) (s := s) hw.symm v
        unfold putF at e2 o2
        split at e2
        · rename_i hk
          have h2 := cn_put (l := b) (s := s) (y := y) (j := j) (k := k) v
          have e1 : p = X := e1
          have e2 : q = putL b s y j k := e2
          rw [e1, e2]; omega
        · rename_i hk; rw [if_neg hk] at o2; cases o2
      · exact same h
    · exact same h
  split at h
  · split at h
    · rename_i h1 h2
      injection h with _ h
      injection h with e1 e2
      rw [e1, e2]
      exact cn_rep h2.1 h2.2.2.1 (by omega)
    · exact same h
  split at h
  · unfold tailsF at h
    split at h
    · injection h with _ h
      injection h with e1 e2
      intro v
      have h3 := cn_split (l := a) (i := i.toNat) v
      have h4 := cn_split (l := b) (i := j.toNat) v
      rw [e1, e2, List.count_append, List.count_append]; omega
    · exact same h
  split at h
  · unfold turnedF at h
    split at h
    · injection h with _ h
      injection h with e1 e2
      intro v
      have h3 := cn_split (l := a) (i := i.toNat) v
      have h4 := cn_split (l := b) (i := j.toNat) v
      rw [e1, e2, List.count_append, List.count_append, List.count_reverse, List.count_reverse]; omega
    · exact same h
  split at h
  · unfold inter5 at h
    split at h
    · rename_i ok
      injection h with _ h
      injection h with e1 e2
      intro v
      generalize hw : wholeF a i = w at *
      generalize hu : wholeF b j = u at *
      obtain ⟨s, y, X, t⟩ := w
      obtain ⟨s', y', Y, t'⟩ := u
      obtain ⟨o1, o2, o3⟩ := ok
      have o1 : t = true := o1
      have o2 : t' = true := o2
      subst o1 o2
      have h1 := cn_whole (l := a) (i := i) (X := X) (y := y) (s := s) hw.symm v
      have h2 := cn_whole (l := b) (i := j) (X := Y) (y := y') (s := s') hu.symm v
      unfold putF at e1 o3
      split at e1
      · have h3 := cn_put (l := X) (s := s') (y := y') (j := min i (X.length : Int)) (k := k) v
        have e1 : p = putL X s' y' (min i (X.length : Int)) k := e1
        have e2 : q = Y ++ visF s y := e2
        rw [e1, e2, List.count_append]; omega
      · rename_i hk; rw [if_neg hk] at o3; cases o3
    · exact same h
  · exact same h
end Go.SX
namespace Go.SX
theorem gt_mem {α : Type} [Inhabited α] {l : List α} {i : Int} (h0 : 0 ≤ i) (h1 : i < (l.length : Int)) : gt l i ∈ l := List.mem_of_getElem? (gt_at h0 h1)
theorem plays_zero {a b P Q : List Vis} {M : List (Vis × Int)} {x : Vis} {v n : Int} (hn : (M.map Prod.fst).Nodup) (hm : (x, v) ∈ M) (h : ∀ y, mget M y 0 = ((a ++ b).count y : Int) - (((P ++ Q).take n.toNat).count y : Int)) (hl : ¬ n < ((P ++ Q).length : Int)) (hc : Cn P Q a b) : v = 0 := by
  have h1 := mget_mem (z := 0) hn hm
  have h2 := h x
  have h3 := hc x
  rw [List.take_of_length_le (by omega), List.count_append, List.count_append] at h2
  omega
/-- Visits as keys. -/
def visV (x : Vis) : Value := .agg #[.int .i64 x.kind, .int .i64 x.item]
theorem visV_inj : ∀ x y : Vis, visV x = visV y → x = y := by
  intro x y h
  unfold visV at h
  injection h with h
  simp at h
  exact vis_ext h.1 h.2
theorem visV_bits (x : Vis) : Instr.sameBits 10000 (visV x) (visV x) = true := by
  have : ∀ n, Instr.sameBits (n + 1) (visV x) (visV x) = true := by intro n; simp [visV, Instr.sameBits]
  exact this 9999
end Go.SX
namespace Go.SX
open Go Go.RowKit
section
variable {V : Env} {P : Program} {Q : Exit → Act → World → Prop} {ops : Array Oper} {N : Nat} {o : Oper} {rest : List Oper} {L : List (Nat × Value)} {H R : List Res} {S : Nat → Prop} {wf : World} {K : St → Prop} {st : St} {C : World → Prop}
variable {α β : Type} [DecidableEq α] {vf : β → Value} {m : List (α × β)} {x x' : α} {v z : β} {b n : Nat}
/-- m[x] while an entry was laid in. -/
theorem ev_lkpk {t k e : TypeId} (E : KE P k α) {a y : Operand} (ho : o.op = .lookup t a y false) (hu : P.underlying t = some (.map k e)) (hz : (P.info? e).bind (fun i => i.zero) = some (vf z))
    (ha : lk L a = some (.map (some b))) (hy : lk L y = some (E.f x)) (i : Nat) (hi : H[i]? = some (mpk E.f vf b (mins m x' z) x' n)) : Ev P (WW V S wf H) L o (vf (mget m x z)) :=
  ⟨by simp [ho, noSel], by simp [ho, Op.operands, known_of ha, known_of hy], fun w hw => by
    obtain ⟨es, clock, hb, hM, _⟩ := hw.has _ (List.mem_of_getElem? hi)
    obtain ⟨inf, hi1, hi2⟩ := Option.bind_eq_some_iff.1 hz
    have hzr : (zeroValue e).run P w = .ok (vf z) w := by simp [zeroValue, typeInfo, hi1, hi2]
    have hme : mget m x z = mget (mins m x' z) x z := by
      unfold mins
      split
      · rfl
      · rw [mget_app]
        split
        · rfl
        · rename_i h2
          rw [mget_none (m := m) (by simpa using h2), mget_cons]
          split <;> rfl
    rw [hme]
    rcases hM.find w x with ⟨h1, h2⟩ | ⟨j, e0, u, h1, h2, h3, h4, h5, h6, h7⟩
    · simp [execOp, ho, ev_of ha, ev_of hy, Instr.lookup, run_underlying hu, MapKept.run_getObj_map hb, E.check, h1, hzr, Result.andThen, mget_none h2]
    · simp [execOp, ho, ev_of ha, ev_of hy, Instr.lookup, run_underlying hu, MapKept.run_getObj_map hb, E.check, h1, hzr, Result.andThen, h7, h5]⟩
end
end Go.SX
namespace Go.SX
/-- The round's end within a block. -/
theorem SQ.roundb {V : Env} {N : Nat} {st : St} {X : Type} {I : X → Prop} {Lf : X → List (Nat × Value)} {Hf : X → List Res} {Sf : X → Nat → Prop} {Wf : X → World} {μ : X → Nat} {x : X} (y : X) (hi : I y) (hm : μ y < μ x)
    (hL : ∀ k v, lkp (Lf y) k = some v → lkp st.L k = some v) (hw : ∀ w, WW V st.S st.wf st.H w → WW V (Sf y) (Wf y) (Hf y) w) :
    SQ V (fun a w => ∃ y, (I y ∧ μ y < μ x) ∧ SL N (Lf y) a ∧ WW V (Sf y) (Wf y) (Hf y) w) N st :=
  fun a w hs hw' => ⟨y, ⟨hi, hm⟩, hs.mono hL, hw w hw'⟩
end Go.SX
