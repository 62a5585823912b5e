import Derived.Test.YtdpmnodiebpjeaaProg
import Derived.Test.YtdpmnodiebpjeaaS1
set_option linter.unusedVariables false
set_option linter.unusedSimpArgs false
set_option linter.unusedSectionVars false
namespace Go.SX
open Go Go.RowKit
def okAt (p : PB) (l : List Vis) (i : Int) : Prop :=
  (gt l i).kind = 4 ∨ (isStop p (gt l i) = true ∧ ((l.count (gt l i) : Nat) : Int) = 1 ∧ ((gt l i).kind = 3 → (((l.take i.toNat).count ⟨2, (gt l i).item⟩ : Nat) : Int) = 1) ∧ ((gt l i).kind = 2 → ((l.count ⟨3, (gt l i).item⟩ : Nat) : Int) = 1))
def PQ (p : PB) (l : List Vis) : Prop := ∀ i : Int, 0 ≤ i → i < (l.length : Int) → okAt p l i
def seenOk (p : PB) (pre : List Vis) (x : Vis) : Prop := x.kind = 4 ∨ (isStop p x = true ∧ x ∉ pre ∧ (x.kind = 3 → (⟨2, x.item⟩ : Vis) ∈ pre))
def MK (m : List (Vis × Bool)) (pre : List Vis) : Prop := ∀ y : Vis, mget m y false = true ↔ (y ∈ pre ∧ y.kind ≠ 4)
theorem MK_nil : MK [] [] := fun y => ⟨fun h => (by cases h), fun h => (by cases h.1)⟩
theorem MK_skip {m : List (Vis × Bool)} {pre : List Vis} {x : Vis} (h : MK m pre) (hx : x.kind = 4) : MK m (pre ++ [x]) := fun y => by
  rw [h y]; constructor
  · exact fun ⟨a, b⟩ => ⟨List.mem_append_left _ a, b⟩
  · rintro ⟨a, b⟩
    rcases List.mem_append.1 a with a | a
    · exact ⟨a, b⟩
    · simp only [List.mem_singleton] at a; subst a; exact absurd hx b
theorem MK_set {m : List (Vis × Bool)} {pre : List Vis} {x : Vis} (h : MK m pre) (hx : x.kind ≠ 4) : MK (mset m x true) (pre ++ [x]) := fun y => by
  rw [mget_set]
  by_cases hy : x = y
  · subst hy; rw [if_pos rfl]; exact ⟨fun _ => ⟨by simp, hx⟩, fun _ => rfl⟩
  · rw [if_neg hy, h y]; constructor
    · exact fun ⟨a, b⟩ => ⟨List.mem_append_left _ a, b⟩
    · rintro ⟨a, b⟩
      rcases List.mem_append.1 a with a | a
      · exact ⟨a, b⟩
      · simp only [List.mem_singleton] at a; exact absurd a.symm hy
def cntK (k : Int) (l : List Vis) : Int := ((l.filter (fun x => decide (x.kind = k))).length : Nat)
theorem cntK_cons {k : Int} {x : Vis} {l : List Vis} : cntK k (x :: l) = (if x.kind = k then 1 else 0) + cntK k l := by
  unfold cntK
  by_cases h : x.kind = k
  · rw [List.filter_cons_of_pos (by simp [h]), if_pos h]; simp; omega
  · rw [List.filter_cons_of_neg (by simp [h]), if_neg h]; simp
theorem pairs_walk {p : PB} : ∀ {rest pre : List Vis} {m : List (Vis × Bool)} {op : Int}, MK m pre →
    (pairsR p rest m op = true ↔ ((∀ a x b, rest = a ++ x :: b → seenOk p (pre ++ a) x) ∧ op + cntK 2 rest - cntK 3 rest = 0))
  | [], pre, m, op, h => by
    rw [pairsR_nil, decide_eq_true_eq]
    constructor
    · intro h1; exact ⟨fun a x b e => (by cases a <;> cases e), by simp [cntK]; omega⟩
    · rintro ⟨_, h2⟩; simp [cntK] at h2; omega
  | x :: r, pre, m, op, h => by
    rw [pairsR_cons, cntK_cons, cntK_cons]
    have split : ∀ {Q : List Vis → Vis → Prop}, (∀ a y b, x :: r = a ++ y :: b → Q a y) ↔ (Q [] x ∧ ∀ a y b, r = a ++ y :: b → Q (x :: a) y) := fun {Q} =>
      ⟨fun hh => ⟨hh [] x r rfl, fun a y b e => hh (x :: a) y b (by rw [e]; rfl)⟩, fun ⟨h1, h2⟩ a y b e => by
        cases a with
        | nil => injection e with e1 e2; subst e1; exact h1
        | cons z a => injection e with e1 e2; subst e1; exact h2 a y b e2⟩
    rw [split]
    simp only [List.append_nil]
    by_cases hk : x.kind = 4
    · rw [if_pos hk, pairs_walk (MK_skip h hk), if_neg (by omega), if_neg (by omega)]
      simp only [List.append_assoc, List.singleton_append]
      exact ⟨fun ⟨h1, h2⟩ => ⟨⟨.inl hk, h1⟩, by omega⟩, fun ⟨⟨_, h1⟩, h2⟩ => ⟨h1, by omega⟩⟩
    · rw [if_neg hk]
      by_cases hc : (¬ isStop p x = true ∨ mget m x false = true) ∨ (x.kind = 3 ∧ ¬ mget m ⟨2, x.item⟩ false = true)
      · rw [if_pos hc]
        refine ⟨fun h1 => (by cases h1), fun ⟨⟨h1, _⟩, _⟩ => ?_⟩
        exfalso
        rcases h1 with h1 | ⟨h1, h2, h3⟩
        · exact hk h1
        · rcases hc with (hc | hc) | ⟨hc, hd⟩
          · exact hc h1
          · exact h2 ((h x).1 hc).1
          · exact hd ((h ⟨2, x.item⟩).2 ⟨h3 hc, by show (2 : Int) ≠ 4; decide⟩)
      · rw [if_neg hc, pairs_walk (MK_set h hk)]
        simp only [List.append_assoc, List.singleton_append]
        have hs : seenOk p pre x := .inr ⟨Classical.byContradiction (fun e => hc (.inl (.inl e))), fun e => hc (.inl (.inr ((h x).2 ⟨e, hk⟩))), fun h3 => by
          have := Classical.byContradiction (fun e => hc (.inr ⟨h3, e⟩)); exact ((h _).1 this).1⟩
        have e : (if x.kind = 2 then op + 1 else if x.kind = 3 then op - 1 else op) = op + (if x.kind = 2 then 1 else 0) - (if x.kind = 3 then 1 else 0) := by
          by_cases h2 : x.kind = 2
          · rw [if_pos h2, if_pos h2, if_neg (by omega)]; omega
          · rw [if_neg h2, if_neg h2]; split <;> omega
        rw [e]
        exact ⟨fun ⟨h1, h2⟩ => ⟨⟨hs, h1⟩, by omega⟩, fun ⟨⟨_, h1⟩, h2⟩ => ⟨h1, by omega⟩⟩
theorem nodup_sub_len {α : Type} [BEq α] [LawfulBEq α] : ∀ {A B : List α}, A.Nodup → (∀ x ∈ A, x ∈ B) → A.length ≤ B.length
  | [], B, _, _ => Nat.zero_le _
  | a :: A, B, h, hs => by
    have ha : a ∈ B := hs a (List.mem_cons_self ..)
    have ih := nodup_sub_len (A := A) (B := B.erase a) (List.nodup_cons.1 h).2 (fun x hx => by
      have hxa : x ≠ a := fun e => (List.nodup_cons.1 h).1 (e ▸ hx)
      exact (List.mem_erase_of_ne hxa).2 (hs x (List.mem_cons_of_mem _ hx)))
    rw [List.length_erase_of_mem ha] at ih
    have := List.length_pos_of_mem ha
    rw [List.length_cons]; omega
theorem nodup_count {α : Type} [BEq α] [LawfulBEq α] : ∀ {l : List α}, (∀ x, l.count x ≤ 1) → l.Nodup
  | [], _ => List.nodup_nil
  | a :: l, h => List.nodup_cons.2 ⟨fun hm => by have := h a; rw [List.count_cons_self] at this; have := List.count_pos_iff.2 hm; omega, nodup_count (fun x => by have := h x; have := List.count_le_count_cons (a := x) (b := a) (l := l); omega)⟩
theorem nodup_map_on {α β : Type} {f : α → β} {l : List α} (h : ∀ x ∈ l, ∀ y ∈ l, f x = f y → x = y) (hn : l.Nodup) : (l.map f).Nodup :=
  List.pairwise_map.2 (List.Pairwise.imp_of_mem (fun ha hb hne e => hne (h _ ha _ hb e)) hn)
theorem count_split {l : List Vis} {i : Int} (h0 : 0 ≤ i) (h1 : i < (l.length : Int)) : ∃ b, l = l.take i.toNat ++ gt l i :: b := ⟨_, by rw [← drop_gt h0 h1, List.take_append_drop]⟩
theorem pairs_iff {p : PB} {l : List Vis} : pairsR p l [] 0 = true ↔ PQ p l := by
  rw [pairs_walk MK_nil]
  simp only [List.nil_append]
  have at_ : ∀ {a x b}, l = a ++ x :: b → (a.length : Int) < l.length ∧ gt l (a.length : Int) = x ∧ l.take a.length = a := fun {a x b} e => by
    subst e
    refine ⟨by simp; omega, ?_, by simp⟩
    unfold gt; rw [List.getD_eq_getElem?_getD, show ((a.length : Int)).toNat = a.length from by omega, List.getElem?_append_right (Nat.le_refl _), Nat.sub_self]; rfl
  constructor
  · rintro ⟨h1, h2⟩
    have uniq : ∀ x ∈ l, x.kind ≠ 4 → l.count x = 1 := by
      intro x hx hk
      have hpos := List.count_pos_iff.2 hx
      rcases Nat.lt_or_ge 1 (l.count x) with hlt | hge
      · exfalso
        obtain ⟨a, b, e⟩ := List.append_of_mem hx
        rcases Nat.lt_or_ge 0 (a.count x) with ha | ha
        · rcases h1 a x b e with h3 | ⟨_, h3, _⟩
          · exact hk h3
          · exact h3 (List.count_pos_iff.1 ha)
        · have hb : 0 < b.count x := by rw [e, List.count_append, List.count_cons_self] at hlt; omega
          obtain ⟨b1, b2, e2⟩ := List.append_of_mem (List.count_pos_iff.1 hb)
          rcases h1 (a ++ x :: b1) x b2 (by rw [e, e2]; simp) with h3 | ⟨_, h3, _⟩
          · exact hk h3
          · exact h3 (by simp)
      · omega
    intro i h0 hi
    obtain ⟨b, e⟩ := count_split h0 hi
    rcases h1 _ _ _ e with h3 | ⟨h3, h4, h5⟩
    · exact .inl h3
    · have hm : gt l i ∈ l := gt_mem h0 hi
      have hk4 : (gt l i).kind ≠ 4 := fun hk => by have := is_kind h3; omega
      refine .inr ⟨h3, by rw [uniq _ hm hk4]; rfl, fun hk => ?_, fun hk => ?_⟩
      · have hin := h5 hk
        have c1 := List.count_pos_iff.2 hin
        have c2 := uniq ⟨2, (gt l i).item⟩ (List.mem_of_mem_take hin) (by show (2 : Int) ≠ 4; decide)
        have c3 : (l.take i.toNat).count ⟨2, (gt l i).item⟩ ≤ l.count ⟨2, (gt l i).item⟩ := (List.take_sublist _ _).count_le _
        omega
      · -- as many deliveries as pickups
        have hd : (⟨3, (gt l i).item⟩ : Vis) ∈ l := by
          refine Classical.byContradiction fun hno => ?_
          have hP : ((l.filter (fun x => decide (x.kind = 2))).map Vis.item).Nodup := by
            refine nodup_map_on ?_ ?_
            · intro x hx y hy e3
              have hx2 := (List.mem_filter.1 hx).2; have hy2 := (List.mem_filter.1 hy).2
              simp at hx2 hy2
              exact vis_ext (by omega) e3
            · refine nodup_count fun x => ?_
              by_cases hx : x ∈ l.filter (fun x => decide (x.kind = 2))
              · have hx2 := (List.mem_filter.1 hx).2; simp at hx2
                have := uniq x (List.mem_filter.1 hx).1 (by omega)
                have := (List.filter_sublist (p := fun x => decide (x.kind = 2)) (l := l)).count_le x
                omega
              · rw [List.count_eq_zero.2 hx]; omega
          have hD : ((gt l i).item :: (l.filter (fun x => decide (x.kind = 3))).map Vis.item).Nodup := by
            refine List.nodup_cons.2 ⟨fun hm3 => ?_, ?_⟩
            · obtain ⟨y, hy, hye⟩ := List.mem_map.1 hm3
              have hy2 := (List.mem_filter.1 hy).2; simp at hy2
              have : y = ⟨3, (gt l i).item⟩ := vis_ext hy2 hye
              exact hno (this ▸ (List.mem_filter.1 hy).1)
            · refine nodup_map_on ?_ ?_
              · intro x hx y hy e3
                have hx2 := (List.mem_filter.1 hx).2; have hy2 := (List.mem_filter.1 hy).2
                simp at hx2 hy2
                exact vis_ext (by omega) e3
              · refine nodup_count fun x => ?_
                by_cases hx : x ∈ l.filter (fun x => decide (x.kind = 3))
                · have hx2 := (List.mem_filter.1 hx).2; simp at hx2
                  have := uniq x (List.mem_filter.1 hx).1 (by omega)
                  have := (List.filter_sublist (p := fun x => decide (x.kind = 3)) (l := l)).count_le x
                  omega
                · rw [List.count_eq_zero.2 hx]; omega
          have hsub : ∀ x ∈ ((gt l i).item :: (l.filter (fun x => decide (x.kind = 3))).map Vis.item), x ∈ (l.filter (fun x => decide (x.kind = 2))).map Vis.item := by
            intro x hx
            rcases List.mem_cons.1 hx with rfl | hx
            · exact List.mem_map.2 ⟨gt l i, List.mem_filter.2 ⟨hm, by simp [hk]⟩, rfl⟩
            · obtain ⟨y, hy, rfl⟩ := List.mem_map.1 hx
              have hy2 := (List.mem_filter.1 hy).2; simp at hy2
              obtain ⟨a, b2, e2⟩ := List.append_of_mem (List.mem_filter.1 hy).1
              rcases h1 a y b2 e2 with h7 | ⟨_, _, h7⟩
              · omega
              · exact List.mem_map.2 ⟨⟨2, y.item⟩, List.mem_filter.2 ⟨by rw [e2]; exact List.mem_append_left _ (h7 hy2), by simp⟩, rfl⟩
          have := nodup_sub_len hD hsub
          simp only [List.length_cons, List.length_map] at this
          unfold cntK at h2
          omega
        have := uniq _ hd (by show (3 : Int) ≠ 4; decide)
        rw [this]; rfl
  · intro h
    have okx : ∀ a x b, l = a ++ x :: b → okAt p l (a.length : Int) ∧ gt l (a.length : Int) = x ∧ l.take a.length = a := fun a x b e => by
      obtain ⟨h1, h2, h3⟩ := at_ e
      exact ⟨h _ (by omega) h1, h2, h3⟩
    have mem_split : ∀ x ∈ l, ∃ a b, l = a ++ x :: b := fun x hx => List.append_of_mem hx
    refine ⟨fun a x b e => ?_, ?_⟩
    · obtain ⟨h1, h2, h3⟩ := okx a x b e
      unfold okAt at h1
      rw [h2, show ((a.length : Int)).toNat = a.length from by omega, h3] at h1
      rcases h1 with h1 | ⟨h1, h4, h5, _⟩
      · exact .inl h1
      · refine .inr ⟨h1, fun hx => ?_, fun hk => ?_⟩
        · have := List.count_pos_iff.2 hx
          rw [e, List.count_append, List.count_cons_self] at h4; omega
        · exact List.count_pos_iff.1 (by have := h5 hk; omega)
    · have one : ∀ k : Int, k ≠ 4 → ((l.filter (fun x => decide (x.kind = k))).map Vis.item).Nodup := fun k hk => by
        refine nodup_map_on ?_ ?_
        · intro x hx y hy e3
          have hx2 := (List.mem_filter.1 hx).2; have hy2 := (List.mem_filter.1 hy).2
          simp at hx2 hy2
          exact vis_ext (by omega) e3
        · refine nodup_count fun x => ?_
          by_cases hx : x ∈ l.filter (fun x => decide (x.kind = k))
          · have hx2 := (List.mem_filter.1 hx).2; simp at hx2
            obtain ⟨a, b, e⟩ := mem_split x (List.mem_filter.1 hx).1
            obtain ⟨h1, h2, _⟩ := okx a x b e
            unfold okAt at h1; rw [h2] at h1
            have h4 : ((l.count x : Nat) : Int) = 1 := h1.elim (fun h => by omega) (fun h => h.2.1)
            have := (List.filter_sublist (p := fun x => decide (x.kind = k)) (l := l)).count_le x
            omega
          · rw [List.count_eq_zero.2 hx]; omega
      have s1 : ∀ x ∈ (l.filter (fun x => decide (x.kind = 3))).map Vis.item, x ∈ (l.filter (fun x => decide (x.kind = 2))).map Vis.item := by
        intro x hx
        obtain ⟨y, hy, rfl⟩ := List.mem_map.1 hx
        have hy2 := (List.mem_filter.1 hy).2; simp at hy2
        obtain ⟨a, b, e⟩ := mem_split y (List.mem_filter.1 hy).1
        obtain ⟨h1, h2, h3⟩ := okx a y b e
        unfold okAt at h1; rw [h2, show ((a.length : Int)).toNat = a.length from by omega, h3] at h1
        rcases h1 with h1 | ⟨_, _, h5, _⟩
        · omega
        · have : (⟨2, y.item⟩ : Vis) ∈ a := List.count_pos_iff.1 (by have := h5 hy2; omega)
          exact List.mem_map.2 ⟨⟨2, y.item⟩, List.mem_filter.2 ⟨by rw [e]; exact List.mem_append_left _ this, by simp⟩, rfl⟩
      have s2 : ∀ x ∈ (l.filter (fun x => decide (x.kind = 2))).map Vis.item, x ∈ (l.filter (fun x => decide (x.kind = 3))).map Vis.item := by
        intro x hx
        obtain ⟨y, hy, rfl⟩ := List.mem_map.1 hx
        have hy2 := (List.mem_filter.1 hy).2; simp at hy2
        obtain ⟨a, b, e⟩ := mem_split y (List.mem_filter.1 hy).1
        obtain ⟨h1, h2, h3⟩ := okx a y b e
        unfold okAt at h1; rw [h2] at h1
        rcases h1 with h1 | ⟨_, _, _, h5⟩
        · omega
        · have : (⟨3, y.item⟩ : Vis) ∈ l := List.count_pos_iff.1 (by have := h5 hy2; omega)
          exact List.mem_map.2 ⟨⟨3, y.item⟩, List.mem_filter.2 ⟨this, by simp⟩, rfl⟩
      have l1 := nodup_sub_len (one 3 (by decide)) s1
      have l2 := nodup_sub_len (one 2 (by decide)) s2
      simp only [List.length_map] at l1 l2
      unfold cntK; omega
end Go.SX
namespace Go.SX
open Go Go.RowKit
theorem u64_wrap (x : BitVec 64) : IntKind.u64.wrap (x.toNat : Int) = x.toNat := by
  have := x.isLt
  simp only [IntKind.wrap, IntKind.bits, IntKind.signed, Bool.false_and]
  simp; omega
theorem ban_zero {a c : Int} : ban .u64 a c = 0 ↔ (BitVec.ofInt 64 a &&& ~~~ BitVec.ofInt 64 c) = 0#64 := by
  show IntKind.u64.wrap ((BitVec.ofInt 64 a &&& ~~~ BitVec.ofInt 64 c).toNat : Int) = 0 ↔ _
  rw [u64_wrap]
  constructor
  · intro h; apply BitVec.eq_of_toNat_eq; simpa using h
  · intro h; rw [h]; rfl
theorem bor_of {a b : Int} : BitVec.ofInt 64 (bor .u64 a b) = BitVec.ofInt 64 a ||| BitVec.ofInt 64 b := by
  show BitVec.ofInt 64 (IntKind.u64.wrap ((BitVec.ofInt 64 a ||| BitVec.ofInt 64 b).toNat : Int)) = _
  rw [u64_wrap]
  apply BitVec.eq_of_toNat_eq
  rw [BitVec.ofInt_natCast, BitVec.toNat_ofNat]
  exact Nat.mod_eq_of_lt (BitVec.isLt _)
theorem ban_bor {a b c : Int} : ban .u64 (bor .u64 a b) c = 0 ↔ ban .u64 a c = 0 ∧ ban .u64 b c = 0 := by
  rw [ban_zero, ban_zero, ban_zero, bor_of]
  generalize BitVec.ofInt 64 a = x
  generalize BitVec.ofInt 64 b = y
  generalize BitVec.ofInt 64 c = z
  have key : ∀ {u : BitVec 64}, u = 0#64 ↔ ∀ i, u.getLsbD i = false := fun {u} => ⟨fun h i => by rw [h]; simp, fun h => BitVec.eq_of_getLsbD_eq (fun i hi => by rw [h]; simp)⟩
  rw [key, key, key]
  constructor
  · intro h
    refine ⟨fun i => ?_, fun i => ?_⟩ <;> have := h i <;> rw [BitVec.getLsbD_and, BitVec.getLsbD_or] at this <;> rw [BitVec.getLsbD_and] <;> revert this <;> cases x.getLsbD i <;> cases y.getLsbD i <;> cases (~~~z).getLsbD i <;> simp
  · rintro ⟨h1, h2⟩ i
    have a1 := h1 i; have a2 := h2 i
    rw [BitVec.getLsbD_and] at a1 a2
    rw [BitVec.getLsbD_and, BitVec.getLsbD_or]
    revert a1 a2
    cases x.getLsbD i <;> cases y.getLsbD i <;> cases (~~~z).getLsbD i <;> simp
theorem ban_0 {c : Int} : ban .u64 0 c = 0 := by rw [ban_zero]; simp
def scanR (p : PB) : List Vis → Int → Int → Int → Option (Int × Int × Int)
  | [], n, t, s => some (n, t, s)
  | x :: r, n, t, s => if x.kind = 4 then (if x.item ≠ n then none else scanR p r (n + 1) t s) else if x.kind = 1 ∨ x.kind = 2 then scanR p r n (t + 1) (bor .u64 s (skilF p (taskV x))) else scanR p r n t s
theorem scanR_cons {p : PB} {x : Vis} {r : List Vis} {n t s : Int} : scanR p (x :: r) n t s = if x.kind = 4 then (if x.item ≠ n then none else scanR p r (n + 1) t s) else if x.kind = 1 ∨ x.kind = 2 then scanR p r n (t + 1) (bor .u64 s (skilF p (taskV x))) else scanR p r n t s := rfl
theorem scan_none {p : PB} {nb : Int} : ∀ {l : List Vis} {n t s : Int}, scanR p l n t s = none → breaksR nb l n = false
  | [], n, t, s, h => by cases h
  | x :: r, n, t, s, h => by
    rw [scanR_cons] at h; rw [breaksR_cons]
    split at h
    · rename_i hk; rw [if_pos hk]
      split at h
      · rename_i hi; rw [if_pos hi]
      · rename_i hi; rw [if_neg hi]; exact scan_none h
    · rename_i hk; rw [if_neg hk]
      split at h <;> exact scan_none h
theorem scan_some {p : PB} {nb c : Int} : ∀ {l : List Vis} {n t s n' t' s' : Int}, scanR p l n t s = some (n', t', s') → breaksR nb l n = decide (n' = nb) ∧ tasksR l t = t' ∧ (ban .u64 s' c = 0 ↔ (ban .u64 s c = 0 ∧ ∀ x ∈ l, (x.kind = 1 ∨ x.kind = 2) → ban .u64 (skilF p (taskV x)) c = 0))
  | [], n, t, s, n', t', s', h => by
    have h : some (n, t, s) = some (n', t', s') := h
    cases h
    exact ⟨rfl, rfl, ⟨fun h => ⟨h, fun x hx => (by cases hx)⟩, fun h => h.1⟩⟩
  | x :: r, n, t, s, n', t', s', h => by
    rw [scanR_cons] at h; rw [breaksR_cons, tasksR_cons]
    by_cases hk : x.kind = 4
    · rw [if_pos hk] at h ⊢
      rw [if_neg (show ¬ (x.kind = 1 ∨ x.kind = 2) by omega)]
      by_cases hi : x.item ≠ n
      · rw [if_pos hi] at h; cases h
      · rw [if_neg hi] at h ⊢
        obtain ⟨h1, h2, h3⟩ := scan_some h
        refine ⟨h1, h2, h3.trans ⟨fun ⟨q1, q2⟩ => ⟨q1, fun y hy hk2 => ?_⟩, fun ⟨q1, q2⟩ => ⟨q1, fun y hy => q2 y (List.mem_cons_of_mem _ hy)⟩⟩⟩
        rcases List.mem_cons.1 hy with rfl | hy
        · omega
        · exact q2 y hy hk2
    · rw [if_neg hk] at h ⊢
      by_cases hk2 : x.kind = 1 ∨ x.kind = 2
      · rw [if_pos hk2] at h ⊢
        obtain ⟨h1, h2, h3⟩ := scan_some h
        refine ⟨h1, h2, h3.trans ?_⟩
        rw [ban_bor]
        refine ⟨fun ⟨⟨q1, q3⟩, q2⟩ => ⟨q1, fun y hy hk3 => ?_⟩, fun ⟨q1, q2⟩ => ⟨⟨q1, q2 x (List.mem_cons_self ..) hk2⟩, fun y hy => q2 y (List.mem_cons_of_mem _ hy)⟩⟩
        rcases List.mem_cons.1 hy with rfl | hy
        · exact q3
        · exact q2 y hy hk3
      · rw [if_neg hk2] at h ⊢
        obtain ⟨h1, h2, h3⟩ := scan_some h
        refine ⟨h1, h2, h3.trans ⟨fun ⟨q1, q2⟩ => ⟨q1, fun y hy hk3 => ?_⟩, fun ⟨q1, q2⟩ => ⟨q1, fun y hy => q2 y (List.mem_cons_of_mem _ hy)⟩⟩⟩
        rcases List.mem_cons.1 hy with rfl | hy
        · exact absurd hk3 hk2
        · exact q2 y hy hk3
theorem skills_iff {p : PB} {v : VH} : ∀ {l : List Vis}, skillsR p v l = true ↔ ∀ x ∈ l, isTask x = true → ban .u64 (skilF p (taskV x)) v.vsk = 0
  | [] => ⟨fun _ x hx => (by cases hx), fun _ => rfl⟩
  | x :: r => by
    rw [skillsR_cons]
    split
    · rename_i h; exact ⟨fun h1 => (by cases h1), fun h1 => absurd (h1 x (List.mem_cons_self ..) h.1) h.2⟩
    · rename_i h
      rw [skills_iff]
      refine ⟨fun h1 y hy ht => ?_, fun h1 y hy => h1 y (List.mem_cons_of_mem _ hy)⟩
      rcases List.mem_cons.1 hy with rfl | hy
      · exact Classical.byContradiction fun hc => h ⟨ht, hc⟩
      · exact h1 y hy ht
theorem skills_ref {p : PB} {v : VH} {l : List Vis} (hp : pairsR p l [] 0 = true) : (skillsR p v l = true ↔ ∀ x ∈ l, (x.kind = 1 ∨ x.kind = 2) → ban .u64 (skilF p (taskV x)) v.vsk = 0) := by
  rw [skills_iff]
  refine ⟨fun h x hx hk => h x hx (by unfold isTask; simp; omega), fun h x hx ht => ?_⟩
  have hk : x.kind = 1 ∨ x.kind = 2 ∨ x.kind = 3 := by unfold isTask at ht; exact of_decide_eq_true ht
  by_cases h3 : x.kind = 3
  · obtain ⟨n, hn, e⟩ := List.getElem_of_mem hx
    have e2 : gt l (n : Int) = x := by simp [gt, List.getD_eq_getElem?_getD, hn, e]
    have hq := pairs_iff.1 hp (n : Int) (by omega) (by omega)
    unfold okAt at hq; rw [e2] at hq
    rcases hq with hq | ⟨_, _, hq, _⟩
    · omega
    · have hc : 0 < (l.take ((n : Int)).toNat).count ⟨2, x.item⟩ := by have := hq h3; omega
      have hm : (⟨2, x.item⟩ : Vis) ∈ l := List.mem_of_mem_take (List.count_pos_iff.1 hc)
      have := h _ hm (.inr rfl)
      rw [(task3 h3).1]
      rw [(task2 (x := ⟨2, x.item⟩) rfl).1] at this; exact this
  · exact h x hx (by omega)
section
variable {p : PB} {v : VH} {l : List Vis}
theorem ck_161 (h : ¬ pairsR p l [] 0 = true) : checksF p v l = 161 := by unfold checksF; rw [if_pos h]
theorem ck_162 (h : pairsR p l [] 0 = true) (h1 : breaksR v.brs.length l 0 = false) : checksF p v l = 162 := by unfold checksF; simp [h, h1]
theorem ck_163 (h : pairsR p l [] 0 = true) (h1 : breaksR v.brs.length l 0 = true) (h2 : ¬ skillsR p v l = true) : checksF p v l = 163 := by unfold checksF; simp [h, h1, h2]
theorem ck_164 (h : pairsR p l [] 0 = true) (h1 : breaksR v.brs.length l 0 = true) (h2 : skillsR p v l = true) (h3 : tasksR l 0 > v.mt) : checksF p v l = 164 := by unfold checksF; simp only [h, h1, h2, not_true_eq_false, if_false, if_pos h3]
theorem ck_165 (h : pairsR p l [] 0 = true) (h1 : breaksR v.brs.length l 0 = true) (h2 : skillsR p v l = true) (h3 : ¬ tasksR l 0 > v.mt) (h4 : allUnder v.vcap (loadsF p l) = false) : checksF p v l = 165 := by
  unfold checksF; simp only [h, h1, h2, h4, not_true_eq_false, if_false, if_neg h3]; rfl
theorem ck_166 (h : pairsR p l [] 0 = true) (h1 : breaksR v.brs.length l 0 = true) (h2 : skillsR p v l = true) (h3 : ¬ tasksR l 0 > v.mt) (h4 : allUnder v.vcap (loadsF p l) = true) (h5 : travelR p (placesF p v l) = false) : checksF p v l = 166 := by
  unfold checksF; simp only [h, h1, h2, h4, h5, not_true_eq_false, if_false, if_neg h3]; rfl
theorem ck_ok (h : pairsR p l [] 0 = true) (h1 : breaksR v.brs.length l 0 = true) (h2 : skillsR p v l = true) (h3 : ¬ tasksR l 0 > v.mt) (h4 : allUnder v.vcap (loadsF p l) = true) (h5 : travelR p (placesF p v l) = true) : checksF p v l = 0 := by
  unfold checksF; simp only [h, h1, h2, h4, h5, not_true_eq_false, if_false, if_neg h3]
end
theorem job_drop {p : PB} {x : Vis} {d n : Int} (j : JobOk d n (gt p.jobs x.item)) : ((dropV p x).length : Int) = d := j.drop.1
theorem job_pick {p : PB} {x : Vis} {d n : Int} (j : JobOk d n (gt p.jobs x.item)) : ((pickV p x).length : Int) = d := j.pick.1
theorem ship_am {p : PB} {x : Vis} {d n : Int} (j : ShipOk d n (gt p.ships x.item)) : ((amV p x).length : Int) = d := j.am.1
def stQ (p : PB) (x : Vis) (late : Bool) (a : List Int) : List Int :=
  if isStop p x = true then (if x.kind = 1 then (if late = true then addL a (dropV p x) else addL a (pickV p x)) else if x.kind = 2 ∧ ¬ late = true then addL a (amV p x) else if x.kind = 3 ∧ ¬ late = true then subL a (amV p x) else a) else a
def rlR (p : PB) (k : Int) : List Vis → Int → List Int → List Int
  | [], i, a => a
  | x :: r, i, a => rlR p k r (i + 1) (stQ p x (decide (i ≥ k)) a)
theorem rlR_cons {p : PB} {k i : Int} {x : Vis} {r : List Vis} {a : List Int} : rlR p k (x :: r) i a = rlR p k r (i + 1) (stQ p x (decide (i ≥ k)) a) := rfl
def ent (p : PB) (x : Vis) (late : Bool) (d : Int) : Int :=
  if isStop p x = true then (if x.kind = 1 then (if late = true then gt (dropV p x) d else gt (pickV p x) d) else if x.kind = 2 then (if late = true then 0 else gt (amV p x) d) else if x.kind = 3 then (if late = true then 0 else - gt (amV p x) d) else 0) else 0
theorem stQ_len {p : PB} (L : LawP p) {x : Vis} {late : Bool} {a : List Int} (h : (a.length : Int) = p.dims) : ((stQ p x late a).length : Int) = p.dims := by
  unfold stQ
  split
  · rename_i h1
    split
    · rename_i h2; have i := is_i1 h1 h2; have j := L.job _ i.1 i.2
      split
      · rw [addL_len]; have := job_drop j; omega
      · rw [addL_len]; have := job_pick j; omega
    · split
      · rename_i h2; have i := is_i2 h1 (.inl h2.1); have j := L.ship _ i.1 i.2; rw [addL_len]; have := ship_am j; omega
      · split
        · rename_i h2; have i := is_i2 h1 (.inr h2.1); have j := L.ship _ i.1 i.2; rw [subL_len]; have := ship_am j; omega
        · exact h
  · exact h
theorem stQ_gt {p : PB} (L : LawP p) {x : Vis} {late : Bool} {a : List Int} (h : (a.length : Int) = p.dims) (d : Int) : gt (stQ p x late a) d = gt a d + ent p x late d := by
  unfold stQ ent
  by_cases h1 : isStop p x = true
  · rw [if_pos h1, if_pos h1]
    by_cases k1 : x.kind = 1
    · have i := is_i1 h1 k1; have j := L.job _ i.1 i.2
      rw [if_pos k1, if_pos k1]
      cases late with
      | true => rw [if_pos rfl, if_pos rfl, gt_add (by have := job_drop j; omega)]
      | false => rw [if_neg (by decide), if_neg (by decide), gt_add (by have := job_pick j; omega)]
    · rw [if_neg k1, if_neg k1]
      by_cases k2 : x.kind = 2
      · have i := is_i2 h1 (.inl k2); have j := L.ship _ i.1 i.2
        rw [if_pos k2]
        cases late with
        | true => rw [if_neg (by simp), if_neg (by simp), if_pos rfl]; omega
        | false => rw [if_pos ⟨k2, by decide⟩, if_neg (by decide), gt_add (by have := ship_am j; omega)]
      · rw [if_neg (by simp [k2]), if_neg k2]
        by_cases k3 : x.kind = 3
        · have i := is_i2 h1 (.inr k3); have j := L.ship _ i.1 i.2
          rw [if_pos k3]
          cases late with
          | true => rw [if_neg (by simp), if_pos rfl]; omega
          | false => rw [if_pos ⟨k3, by decide⟩, if_neg (by decide), gt_sub (by have := ship_am j; omega)]; omega
        · rw [if_neg (by simp [k3]), if_neg k3]; omega
  · rw [if_neg h1, if_neg h1]; omega
def sumQ (p : PB) (k d : Int) : List Vis → Int → Int
  | [], i => 0
  | x :: r, i => ent p x (decide (i ≥ k)) d + sumQ p k d r (i + 1)
theorem rlR_gt {p : PB} (L : LawP p) {k d : Int} : ∀ {l : List Vis} {i : Int} {a : List Int}, (a.length : Int) = p.dims → gt (rlR p k l i a) d = gt a d + sumQ p k d l i ∧ ((rlR p k l i a).length : Int) = p.dims
  | [], i, a, h => ⟨by simp [rlR, sumQ], h⟩
  | x :: r, i, a, h => by
    rw [rlR_cons, sumQ]
    have ih := rlR_gt L (k := k) (d := d) (l := r) (i := i + 1) (stQ_len L (x := x) (late := decide (i ≥ k)) h)
    rw [stQ_gt L h] at ih
    exact ⟨by rw [ih.1]; omega, ih.2⟩
theorem load0R_gt {p : PB} (L : LawP p) {k d : Int} : ∀ {l : List Vis} {i : Int} {a : List Int}, (a.length : Int) = p.dims → k ≤ i → gt (load0R p l a) d = gt a d + sumQ p k d l i
  | [], i, a, h, hk => by simp [load0R, sumQ]
  | x :: r, i, a, h, hk => by
    rw [load0R_cons, sumQ, decide_eq_true (show i ≥ k by omega)]
    unfold ent
    by_cases h1 : isStop p x = true
    · rw [if_pos h1]
      by_cases k1 : x.kind = 1
      · have ij := is_i1 h1 k1; have j := L.job _ ij.1 ij.2
        rw [if_pos ⟨h1, k1⟩, if_pos k1, if_pos rfl, load0R_gt L (k := k) (i := i + 1) (by rw [addL_len]; have := job_drop j; omega) (by omega), gt_add (by have := job_drop j; omega)]; omega
      · rw [if_neg (fun h => k1 h.2), if_neg k1, load0R_gt L (k := k) (i := i + 1) h (by omega)]
        split
        · rw [if_pos rfl]; omega
        · split
          · rw [if_pos rfl]; omega
          · omega
    · rw [if_neg (fun h => h1 h.1), if_neg h1, load0R_gt L (k := k) (i := i + 1) h (by omega)]; omega
theorem loadSt_gt {p : PB} (L : LawP p) {x : Vis} {a : List Int} (h : (a.length : Int) = p.dims) (d : Int) : gt (loadSt p x a) d = gt a d + ent p x false d - ent p x true d := by
  unfold loadSt ent
  by_cases h1 : isStop p x = true
  · rw [if_pos h1, if_pos h1, if_pos h1]
    by_cases k1 : x.kind = 1
    · have i := is_i1 h1 k1; have j := L.job _ i.1 i.2
      rw [if_pos k1, if_pos k1, if_pos k1, if_neg (by decide), if_pos rfl, gt_add (by rw [subL_len]; have := job_drop j; have := job_pick j; omega), gt_sub (by have := job_drop j; omega)]; omega
    · rw [if_neg k1, if_neg k1, if_neg k1]
      by_cases k2 : x.kind = 2
      · have i := is_i2 h1 (.inl k2); have j := L.ship _ i.1 i.2
        rw [if_pos k2, if_pos k2, if_pos k2, if_neg (by decide), if_pos rfl, gt_add (by have := ship_am j; omega)]; omega
      · rw [if_neg k2, if_neg k2, if_neg k2]
        by_cases k3 : x.kind = 3
        · have i := is_i2 h1 (.inr k3); have j := L.ship _ i.1 i.2
          rw [if_pos k3, if_pos k3, if_pos k3, if_neg (by decide), if_pos rfl, gt_sub (by have := ship_am j; omega)]; omega
        · rw [if_neg k3, if_neg k3, if_neg k3]; omega
  · rw [if_neg h1, if_neg h1, if_neg h1]; omega
theorem sumQ_next {p : PB} {k d : Int} : ∀ {l : List Vis} {i : Int}, i ≤ k → k < i + l.length → sumQ p (k + 1) d l i = sumQ p k d l i + ent p (gt l (k - i)) false d - ent p (gt l (k - i)) true d
  | [], i, h0, h1 => by simp at h1; omega
  | x :: r, i, h0, h1 => by
    have far : ∀ {r : List Vis} {i : Int}, k < i → sumQ p (k + 1) d r i = sumQ p k d r i := fun {r} => by
      induction r with
      | nil => intro i h; rfl
      | cons y r ih => intro i h; rw [sumQ, sumQ, ih (by omega), decide_eq_true (show i ≥ k + 1 by omega), decide_eq_true (show i ≥ k by omega)]
    rw [sumQ, sumQ]
    by_cases hi : i = k
    · subst hi
      rw [far (by omega), decide_eq_false (show ¬ i ≥ i + 1 by omega), decide_eq_true (show i ≥ i by omega), show i - i = 0 from by omega]
      show ent p x false d + _ = _ + ent p x false d - ent p x true d
      omega
    · rw [sumQ_next (by omega) (by rw [List.length_cons] at h1; omega), decide_eq_false (show ¬ i ≥ k + 1 by omega), decide_eq_false (show ¬ i ≥ k by omega)]
      have e : gt (x :: r) (k - i) = gt r (k - (i + 1)) := by
        have := gt_cons1 (x := x) (X := r) (i := k - (i + 1)) (by omega); rwa [show k - (i + 1) + 1 = k - i from by omega] at this
      rw [e]; omega
theorem loadsR_at {p : PB} : ∀ {l : List Vis} {a : List Int} {k : Int}, 0 ≤ k → k < (l.length : Int) → gt (a :: loadsR p l a) (k + 1) = loadSt p (gt l k) (gt (a :: loadsR p l a) k)
  | [], a, k, h0, h1 => by simp at h1; omega
  | x :: r, a, k, h0, h1 => by
    rw [gt_cons1 h0, loadsR_cons]
    by_cases hk : k = 0
    · subst hk; rfl
    · have ih := loadsR_at (p := p) (l := r) (a := loadSt p x a) (k := k - 1) (by omega) (by rw [List.length_cons] at h1; omega)
      rw [show k - 1 + 1 = k from by omega] at ih
      rw [ih]
      have e1 : gt (x :: r) k = gt r (k - 1) := by
        have := gt_cons1 (x := x) (X := r) (i := k - 1) (by omega); rwa [show k - 1 + 1 = k from by omega] at this
      have e2 : gt (a :: (loadSt p x a :: loadsR p r (loadSt p x a))) k = gt (loadSt p x a :: loadsR p r (loadSt p x a)) (k - 1) := by
        have := gt_cons1 (x := a) (X := loadSt p x a :: loadsR p r (loadSt p x a)) (i := k - 1) (by omega); rwa [show k - 1 + 1 = k from by omega] at this
      rw [e1, e2]
theorem ext_gt {a b : List Int} (hl : a.length = b.length) (h : ∀ d : Int, gt a d = gt b d) : a = b := by
  refine List.ext_getElem hl fun i h1 h2 => ?_
  have := h (i : Int)
  simp [gt, List.getD_eq_getElem?_getD, h1, h2] at this
  exact this
def loadQ (p : PB) (l : List Vis) (k : Int) : List Int := rlR p k l 0 (List.replicate p.dims.toNat 0)
theorem zeros_len {p : PB} (L : LawP p) : ((List.replicate p.dims.toNat (0 : Int)).length : Int) = p.dims := by have := L.dims; rw [List.length_replicate]; omega
theorem loadQ_eq {p : PB} (L : LawP p) {l : List Vis} : ∀ (n : Nat), n ≤ l.length → gt (loadsF p l) (n : Int) = loadQ p l n
  | 0, _ => by
    have h1 := (rlR_gt L (k := ((0 : Nat) : Int)) (d := 0) (l := l) (i := 0) (zeros_len L)).2
    have h2 := (load0_ok L (l := l)).1
    refine ext_gt (show (load0 p l).length = (rlR p ((0 : Nat) : Int) l 0 _).length by omega) fun d => ?_
    have e : gt (loadsF p l) ((0 : Nat) : Int) = load0 p l := rfl
    rw [e]
    have h3 := (rlR_gt L (k := 0) (d := d) (l := l) (i := 0) (zeros_len L)).1
    have h4 := load0R_gt L (k := 0) (d := d) (l := l) (i := 0) (zeros_len L) (Int.le_refl _)
    unfold loadQ load0
    rw [h4]; exact h3.symm
  | n + 1, hn => by
    have ih := loadQ_eq L (l := l) n (by omega)
    have e : gt (loadsF p l) ((n + 1 : Nat) : Int) = loadSt p (gt l (n : Int)) (gt (loadsF p l) (n : Int)) := by
      have := loadsR_at (p := p) (l := l) (a := load0 p l) (k := (n : Int)) (by omega) (by omega)
      rw [show ((n + 1 : Nat) : Int) = (n : Int) + 1 from by omega]; exact this
    have hl : ((loadQ p l (n : Int)).length : Int) = p.dims := (rlR_gt L (k := (n : Int)) (d := 0) (l := l) (i := 0) (zeros_len L)).2
    have hl2 : ((loadQ p l ((n + 1 : Nat) : Int)).length : Int) = p.dims := (rlR_gt L (k := ((n + 1 : Nat) : Int)) (d := 0) (l := l) (i := 0) (zeros_len L)).2
    rw [e, ih]
    refine ext_gt ?_ fun d => ?_
    · have h5 : lOk p 0 (List.replicate p.dims.toNat 0) := ⟨zeros_len L, bdd_zero _⟩
      have h6 : ((loadSt p (gt l (n : Int)) (loadQ p l (n : Int))).length : Int) = p.dims := by
        have hb : ∃ m, bdd m (loadQ p l (n : Int)) := by
          have hex : ∀ a : List Int, ∃ m, bdd m a := fun a => by
            induction a with
            | nil => exact ⟨0, fun i => by unfold gt; simp⟩
            | cons x a ih =>
              obtain ⟨m, hm⟩ := ih
              refine ⟨(m.natAbs : Int) + x.natAbs, fun i => ?_⟩
              by_cases hi : i ≤ 0
              · have : gt (x :: a) i = x := by unfold gt; rw [show i.toNat = 0 from by omega]; rfl
                rw [this]; omega
              · have e3 := gt_cons1 (x := x) (X := a) (i := i - 1) (by omega)
                rw [show i - 1 + 1 = i from by omega] at e3
                rw [e3]; have := hm (i - 1); omega
          exact hex _
        obtain ⟨m, hm⟩ := hb
        exact (lOk_St (x := gt l (n : Int)) L (m := m) (k := m + 2000000) ⟨hl, hm⟩ (Int.le_refl _)).1
      omega
    · rw [loadSt_gt L hl]
      have h7 := (rlR_gt L (k := (n : Int)) (d := d) (l := l) (i := 0) (zeros_len L)).1
      have h8 := (rlR_gt L (k := (n : Int) + 1) (d := d) (l := l) (i := 0) (zeros_len L)).1
      have h9 := sumQ_next (p := p) (k := (n : Int)) (d := d) (l := l) (i := 0) (by omega) (by omega)
      rw [show (n : Int) - 0 = n from by omega] at h9
      unfold loadQ
      rw [show ((n + 1 : Nat) : Int) = (n : Int) + 1 from by omega, h7, h8, h9]; omega
theorem loadQ_at {p : PB} (L : LawP p) {l : List Vis} {k : Int} (h0 : 0 ≤ k) (h1 : k ≤ (l.length : Int)) : loadQ p l k = gt (loadsF p l) k := by
  have := loadQ_eq L (l := l) k.toNat (by omega)
  rw [show ((k.toNat : Nat) : Int) = k from by omega] at this; exact this.symm
theorem mix_gt {a s X : List Int} {d : Int} (hq : X = s.take d.toNat ++ a.drop d.toNat) (hl : s.length = a.length) (h0 : 0 ≤ d) (h1 : d < (a.length : Int)) : gt X d = gt a d := by
  have hs : (s.take d.toNat).length = d.toNat := by simp; omega
  rw [hq]; unfold gt
  rw [List.getD_eq_getElem?_getD, List.getD_eq_getElem?_getD, List.getElem?_append_right (by omega), hs, Nat.sub_self, List.getElem?_drop, Nat.add_zero]
theorem mix_step {a s X : List Int} {d z : Int} (hq : X = s.take d.toNat ++ a.drop d.toNat) (hl : s.length = a.length) (h0 : 0 ≤ d) (h1 : d < (a.length : Int)) (hz : gt s d = z) : X.set d.toNat z = s.take (d + 1).toNat ++ a.drop (d + 1).toNat := by
  have hs : (s.take d.toNat).length = d.toNat := by simp; omega
  rw [hq, List.set_append_right _ _ (by omega), hs, Nat.sub_self, List.drop_eq_getElem_cons (i := d.toNat) (by omega), List.set_cons_zero, take_gt h0 (by omega), hz, show (d + 1).toNat = d.toNat + 1 from by omega, List.append_assoc]; rfl
theorem mix_same {a s X : List Int} {d : Int} (hq : X = s.take d.toNat ++ a.drop d.toNat) (hl : s.length = a.length) (h0 : 0 ≤ d) (h1 : d < (a.length : Int)) (hz : gt s d = gt a d) : X = s.take (d + 1).toNat ++ a.drop (d + 1).toNat := by
  rw [hq, drop_gt h0 h1, take_gt h0 (by omega), hz, List.append_assoc]; rfl
theorem mix_end {a s X : List Int} {d : Int} (hq : X = s.take d.toNat ++ a.drop d.toNat) (hl : s.length = a.length) (h1 : ¬ d < (a.length : Int)) : X = s := by
  rw [hq, List.take_of_length_le (by omega), List.drop_of_length_le (by omega), List.append_nil]
def travelQ (p : PB) (v : VH) : List Vis → Int → Bool
  | [], a => if cellF p.tn p.time a v.en < 0 ∨ cellF p.dn p.dist a v.en < 0 then false else true
  | x :: r, a => if cellF p.tn p.time a (nextPl p a x) < 0 ∨ cellF p.dn p.dist a (nextPl p a x) < 0 then false else travelQ p v r (nextPl p a x)
theorem travelQ_nil {p : PB} {v : VH} {a : Int} : travelQ p v [] a = if cellF p.tn p.time a v.en < 0 ∨ cellF p.dn p.dist a v.en < 0 then false else true := rfl
theorem travelQ_cons {p : PB} {v : VH} {x : Vis} {r : List Vis} {a : Int} : travelQ p v (x :: r) a = if cellF p.tn p.time a (nextPl p a x) < 0 ∨ cellF p.dn p.dist a (nextPl p a x) < 0 then false else travelQ p v r (nextPl p a x) := rfl
theorem travelQ_eq {p : PB} {v : VH} : ∀ {l : List Vis} {a : Int}, travelQ p v l a = travelR p (a :: placesR p l a ++ [v.en])
  | [], a => by
    rw [travelQ_nil]
    show _ = travelR p [a, v.en]
    rw [travelR_cons]; rfl
  | x :: r, a => by
    rw [travelQ_cons, placesR_cons]
    show _ = travelR p (a :: nextPl p a x :: (placesR p r (nextPl p a x) ++ [v.en]))
    rw [travelR_cons, travelQ_eq]; rfl
def blkR (i : Int) : Int → List Int → List Vis
  | k, [] => []
  | k, y :: r => if y = i then ⟨4, k⟩ :: blkR i (k + 1) r else blkR i (k + 1) r
theorem blkR_cons {i k y : Int} {r : List Int} : blkR i k (y :: r) = if y = i then ⟨4, k⟩ :: blkR i (k + 1) r else blkR i (k + 1) r := rfl
def setQ (a : List Int) : List Vis → Int → List Vis
  | [], i => blkR i 0 a
  | x :: l, i => blkR i 0 a ++ x :: setQ a l (i + 1)
theorem setQ_eq {m : Int} {a : List Int} (ha : AtOk m a) {l : List Vis} : setQ a l 0 = setR l 0 0 a := by
  have none_ : ∀ {i : Int} {l : List Vis} {k : Int}, setQ [] l i = setR l i k [] := fun {i l} => by
    induction l generalizing i with
    | nil => intro k; rfl
    | cons x l ih => intro k; simp only [setQ, setR, blkR, takeB, List.nil_append, cntB, leftB, Int.add_zero]; rw [← ih]
  obtain ⟨h1, h2, h3⟩ := ha
  match a, h1, h2, h3 with
  | [], _, _, _ => exact none_
  | [y], _, h2, _ =>
    have hy : 0 ≤ y := (h2 0 (by decide) (by simp)).1
    have late : ∀ {l : List Vis} {i k : Int}, y < i → setQ [y] l i = setR l i k [] := fun {l} => by
      induction l with
      | nil => intro i k h; simp only [setQ, setR, blkR, takeB]; rw [if_neg (by omega)]
      | cons x l ih => intro i k h; simp only [setQ, setR, blkR, takeB, List.nil_append, cntB, leftB, Int.add_zero]; rw [if_neg (by omega), ← ih (by omega)]; rfl
    have early : ∀ {l : List Vis} {i : Int}, i ≤ y → setQ [y] l i = setR l i 0 [y] := fun {l} => by
      induction l with
      | nil =>
        intro i h
        simp only [setQ, setR, blkR, takeB]
        by_cases hi : y = i
        · rw [if_pos hi, if_pos (by omega)]
        · rw [if_neg hi, if_neg (by omega)]
      | cons x l ih =>
        intro i h
        simp only [setQ, setR, blkR, takeB, cntB, leftB]
        by_cases hi : y = i
        · rw [if_pos hi, if_pos (by omega), if_pos (by omega), if_pos (by omega), late (by omega)]
        · rw [if_neg hi, if_neg (by omega), if_neg (by omega), if_neg (by omega), ih (by omega)]; rfl
    exact early hy
  | [y, z], _, h2, h3 =>
    have hy : 0 ≤ y := (h2 0 (by decide) (by simp)).1
    have hyz : y ≤ z := h3 rfl
    have late : ∀ {l : List Vis} {i k : Int}, z < i → setQ [y, z] l i = setR l i k [] := fun {l} => by
      induction l with
      | nil => intro i k h; simp only [setQ, setR, blkR, takeB]; rw [if_neg (by omega), if_neg (by omega)]
      | cons x l ih => intro i k h; simp only [setQ, setR, blkR, takeB, List.nil_append, cntB, leftB, Int.add_zero]; rw [if_neg (by omega), if_neg (by omega), ← ih (by omega)]; rfl
    have mid : ∀ {l : List Vis} {i : Int}, y < i → i ≤ z → setQ [y, z] l i = setR l i 1 [z] := fun {l} => by
      induction l with
      | nil =>
        intro i h h'
        simp only [setQ, setR, blkR, takeB]
        rw [if_neg (show ¬ y = i by omega)]
        by_cases hi : z = i
        · rw [if_pos hi, if_pos (by omega)]; rfl
        · rw [if_neg hi, if_neg (by omega)]
      | cons x l ih =>
        intro i h h'
        simp only [setQ, setR, blkR, takeB, cntB, leftB]
        rw [if_neg (show ¬ y = i by omega)]
        by_cases hi : z = i
        · rw [if_pos hi, if_pos (by omega), if_pos (by omega), if_pos (by omega), late (by omega)]; rfl
        · rw [if_neg hi, if_neg (by omega), if_neg (by omega), if_neg (by omega), ih (by omega) (by omega)]; rfl
    have early : ∀ {l : List Vis} {i : Int}, i ≤ y → setQ [y, z] l i = setR l i 0 [y, z] := fun {l} => by
      induction l with
      | nil =>
        intro i h
        simp only [setQ, setR, blkR, takeB]
        by_cases hi : y = i
        · rw [if_pos hi, if_pos (show y ≤ i by omega)]
          by_cases hz : z = i
          · rw [if_pos hz, if_pos (by omega)]
          · rw [if_neg hz, if_neg (by omega)]
        · rw [if_neg hi, if_neg (show ¬ z = i by omega), if_neg (show ¬ y ≤ i by omega)]
      | cons x l ih =>
        intro i h
        simp only [setQ, setR, blkR, takeB, cntB, leftB]
        by_cases hi : y = i
        · rw [if_pos hi]
          by_cases hz : z = i
          · simp only [if_pos hz, if_pos (show y ≤ i by omega), if_pos (show z ≤ i by omega)]; rw [late (by omega)]
          · simp only [if_neg hz, if_pos (show y ≤ i by omega), if_neg (show ¬ z ≤ i by omega)]; rw [mid (by omega) (by omega)]; rfl
        · rw [if_neg hi, if_neg (show ¬ z = i by omega)]
          simp only [if_neg (show ¬ y ≤ i by omega)]
          rw [ih (by omega)]; rfl
    exact early hy
  | _ :: _ :: _ :: _, h1, _, _ => simp at h1
def restC (n m i : Int) : List (List Int) := if n = 1 then (up i m).map (fun x => [x]) else (up i m).flatMap (fun x => (up x m).map (fun y => [x, y]))
theorem restC_all {n : Nat} {m : Int} (h : n = 1 ∨ n = 2) (hm : 0 ≤ m) : candsA m (List.replicate n 0) = restC n m 0 := by
  rcases h with rfl | rfl
  · show candsA m [0] = _
    simp [candsA, restC]
  · show candsA m [0, 0] = _
    unfold restC
    rw [if_neg (by decide)]
    conv => rhs; rw [up_cons hm, List.flatMap_cons]
    rfl
theorem restC_1 {m i : Int} (h : i ≤ m) : restC 1 m i = [i] :: restC 1 m (i + 1) := by unfold restC; rw [if_pos rfl, if_pos rfl, up_cons h]; rfl
theorem restC_2 {m i : Int} (h : i ≤ m) : restC 2 m i = (up i m).map (fun y => [i, y]) ++ restC 2 m (i + 1) := by
  unfold restC; rw [if_neg (by decide), if_neg (by decide)]
  conv => lhs; rw [up_cons h, List.flatMap_cons]
theorem restC_end {n m i : Int} (h : m < i) : restC n m i = [] := by unfold restC; rw [up_nil h]; split <;> rfl
def StartI (l : List WN) (t : Int) (i best : Int) (found : Bool) : Prop :=
  (found = false ∧ best = 0 ∧ startF (l.drop i.toNat) t = startF l t) ∨ (found = true ∧ startF l t = (best, true) ∧ ∀ j : Int, i ≤ j → j < (l.length : Int) → best < (gt l j).lo)
theorem start_late {l : List WN} {t i best : Int} {f : Bool} (h : StartI l t i best f) (h0 : 0 ≤ i) (h1 : i < (l.length : Int)) (ht : t > (gt l i).hi) : StartI l t (i + 1) best f := by
  rcases h with ⟨a, b, c⟩ | ⟨a, b, c⟩
  · refine .inl ⟨a, b, ?_⟩
    rw [drop_gt h0 h1, startF_cons, if_neg (by omega)] at c; exact c
  · exact .inr ⟨a, b, fun j q0 q1 => c j (by omega) q1⟩
theorem wins_lt {l : List WN} (W : WinsOk l) {i : Int} (h0 : 0 ≤ i) : ∀ (n : Nat) {j : Int}, j = i + 1 + n → j < (l.length : Int) → (gt l i).hi < (gt l j).lo
  | 0, j, hj, h => by have := W.next j (by omega) h; rw [show j - 1 = i from by omega] at this; exact this
  | n + 1, j, hj, h => by
    have ih := wins_lt W h0 n (j := j - 1) (by omega) (by omega)
    have h1 := W.next j (by omega) h
    have h2 := W.each (j - 1) (by omega) (by omega)
    omega
theorem start_first {l : List WN} (W : WinsOk l) {t i best : Int} {x : Int} (h : StartI l t i best false) (h0 : 0 ≤ i) (h1 : i < (l.length : Int)) (ht : ¬ t > (gt l i).hi) (hx : x = max t (gt l i).lo) : StartI l t (i + 1) x true := by
  rcases h with ⟨a, b, c⟩ | ⟨a, _⟩
  · refine .inr ⟨rfl, ?_, fun j q0 q1 => ?_⟩
    · rw [drop_gt h0 h1, startF_cons, if_pos (by omega)] at c; rw [← c, hx]
    · have := wins_lt W h0 (j - (i + 1)).toNat (j := j) (by omega) q1
      have h2 := W.each i h0 h1
      omega
  · cases a
theorem start_more {l : List WN} {t i best x : Int} (h : StartI l t i best true) (h1 : i < (l.length : Int)) (hx : x ≥ (gt l i).lo) : ¬ x < best ∧ StartI l t (i + 1) best true := by
  rcases h with ⟨a, _⟩ | ⟨a, b, c⟩
  · cases a
  · have := c i (Int.le_refl _) h1
    exact ⟨by omega, .inr ⟨a, b, fun j q0 q1 => c j (by omega) q1⟩⟩
theorem start_fin {l : List WN} {t i best : Int} {f : Bool} (h : StartI l t i best f) (h1 : ¬ i < (l.length : Int)) : (best, f) = startF l t := by
  rcases h with ⟨a, b, c⟩ | ⟨a, b, c⟩
  · rw [drop_end h1] at c; rw [a, b, ← c]; rfl
  · rw [a, b]
end Go.SX
namespace Go.SX
open Go Go.RowKit
section
variable {p : PB} {l : List Vis} {i : Int}
theorem cnt_y {x : Vis} {c : Int} (h : c = (((l.take i.toNat).count x : Nat) : Int)) (h0 : 0 ≤ i) (h1 : i < (l.length : Int)) (h2 : (gt l i).kind = x.kind ∧ (gt l i).item = x.item) : c + 1 = (((l.take (i + 1).toNat).count x : Nat) : Int) := by
  rw [take_gt h0 h1, List.count_append, vis_ext h2.1 h2.2, List.count_singleton_self, h]; omega
theorem cnt_n {x : Vis} {c : Int} (h : c = (((l.take i.toNat).count x : Nat) : Int)) (h0 : 0 ≤ i) (h1 : i < (l.length : Int)) (h2 : ¬ ((gt l i).kind = x.kind ∧ (gt l i).item = x.item)) : c = (((l.take (i + 1).toNat).count x : Nat) : Int) := by
  rw [take_gt h0 h1, List.count_append, List.count_singleton, if_neg (fun e => h2 (by have := beq_iff_eq.1 e; rw [this]; exact ⟨rfl, rfl⟩)), h]; omega
theorem take_all_len : l.take ((l.length : Int)).toNat = l := by simp
theorem okA_4 (h : (gt l i).kind = 4) : okAt p l i := .inl h
theorem okA {c1 c2 c3 : Prop} (h1 : ¬ (¬ isStop p (gt l i) = true ∨ (((l.take ((l.length : Int)).toNat).count (gt l i) : Nat) : Int) ≠ 1)) (h2 : ¬ ((gt l i).kind = 3 ∧ (((l.take (i).toNat).count (Vis.mk 2 (gt l i).item) : Nat) : Int) ≠ 1))
    (h3 : ¬ ((gt l i).kind = 2 ∧ (((l.take ((l.length : Int)).toNat).count (Vis.mk 3 (gt l i).item) : Nat) : Int) ≠ 1)) : okAt p l i := by
  rw [take_all_len] at h1 h3
  refine .inr ⟨Classical.byContradiction fun e => h1 (.inl e), Classical.byContradiction fun e => h1 (.inr e), fun hk => Classical.byContradiction fun e => h2 ⟨hk, e⟩, fun hk => Classical.byContradiction fun e => h3 ⟨hk, e⟩⟩
theorem pq_next (h : ∀ j : Int, 0 ≤ j → j < i → okAt p l j) (hi : okAt p l i) : ∀ j : Int, 0 ≤ j → j < i + 1 → okAt p l j := fun j h0 h1 => by
  by_cases hj : j = i
  · subst hj; exact hi
  · exact h j h0 (by omega)
theorem pq_yes (h : ∀ j : Int, 0 ≤ j → j < i → okAt p l j) (hi : ¬ i < (l.length : Int)) : true = pairsR p l [] 0 := (pairs_iff.2 (fun j h0 h1 => h j h0 (by omega))).symm
theorem pq_no (h0 : 0 ≤ i) (h1 : i < (l.length : Int)) (h : ¬ okAt p l i) : false = pairsR p l [] 0 := by
  cases hq : pairsR p l [] 0 with
  | false => rfl
  | true => exact absurd (pairs_iff.1 hq i h0 h1) h
theorem no1 (hk : ¬ (gt l i).kind = 4) (h : ¬ isStop p (gt l i) = true ∨ (((l.take ((l.length : Int)).toNat).count (gt l i) : Nat) : Int) ≠ 1) : ¬ okAt p l i := fun ho => by
  rw [take_all_len] at h
  rcases ho with ho | ⟨h1, h2, _⟩
  · exact hk ho
  · rcases h with h | h
    · exact h h1
    · exact h h2
theorem no2 (hk : ¬ (gt l i).kind = 4) (h : (gt l i).kind = 3 ∧ (((l.take (i).toNat).count (Vis.mk 2 (gt l i).item) : Nat) : Int) ≠ 1) : ¬ okAt p l i := fun ho => by
  rcases ho with ho | ⟨h1, h2, h3, _⟩
  · exact hk ho
  · exact h.2 (h3 h.1)
theorem no3 (hk : ¬ (gt l i).kind = 4) (h : (gt l i).kind = 2 ∧ (((l.take ((l.length : Int)).toNat).count (Vis.mk 3 (gt l i).item) : Nat) : Int) ≠ 1) : ¬ okAt p l i := fun ho => by
  rw [take_all_len] at h
  rcases ho with ho | ⟨h1, h2, _, h3⟩
  · exact hk ho
  · exact h.2 (h3 h.1)
theorem pairs_kind (h : pairsR p l [] 0 = true) (h0 : 0 ≤ i) (h1 : i < (l.length : Int)) (hs : ¬ isStop p (gt l i) = true) : (gt l i).kind = 4 := by
  rcases pairs_iff.1 h i h0 h1 with h | h
  · exact h
  · exact absurd h.1 hs
theorem checks_0 {v : VH} (h : checksF p v l = 0) : pairsR p l [] 0 = true ∧ breaksR v.brs.length l 0 = true := by
  unfold checksF at h
  refine ⟨Classical.byContradiction fun e => ?_, Classical.byContradiction fun e => ?_⟩
  · rw [if_pos e] at h; exact absurd h (by decide)
  · split at h
    · exact absurd h (by decide)
    · exact absurd h (by decide)
end
section
variable {p : PB} {x : Vis} {a : List Int} {i k : Int}
theorem stQ0 (h : ¬ isStop p x = true) {b : Bool} : stQ p x b a = a := by unfold stQ; rw [if_neg h]
theorem stQ1 (h : isStop p x = true) (h1 : x.kind = 1 ∧ i ≥ k) : stQ p x (decide (i ≥ k)) a = addL a (gt p.jobs x.item).drop := by unfold stQ; rw [if_pos h, if_pos h1.1, decide_eq_true h1.2, if_pos rfl]
theorem stQ2 (h : isStop p x = true) (h1 : x.kind = 1) (h2 : ¬ (x.kind = 1 ∧ i ≥ k)) : stQ p x (decide (i ≥ k)) a = addL a (gt p.jobs x.item).pick := by unfold stQ; rw [if_pos h, if_pos h1, decide_eq_false (fun e => h2 ⟨h1, e⟩), if_neg (by decide)]
theorem stQ3 (h : isStop p x = true) (h1 : x.kind = 2 ∧ i < k) : stQ p x (decide (i ≥ k)) a = addL a (gt p.ships x.item).am := by unfold stQ; rw [if_pos h, if_neg (by omega), decide_eq_false (by omega), if_pos ⟨h1.1, by decide⟩]
theorem stQ4 (h : isStop p x = true) (h1 : x.kind = 3 ∧ i < k) : stQ p x (decide (i ≥ k)) a = subL a (gt p.ships x.item).am := by unfold stQ; rw [if_pos h, if_neg (by omega), decide_eq_false (by omega), if_neg (by omega), if_pos ⟨h1.1, by decide⟩]
theorem stQ5 (h : isStop p x = true) (h1 : ¬ x.kind = 1) (h2 : ¬ (x.kind = 2 ∧ i < k)) (h3 : ¬ (x.kind = 3 ∧ i < k)) : stQ p x (decide (i ≥ k)) a = a := by
  unfold stQ; rw [if_pos h, if_neg h1]
  by_cases hi : i ≥ k
  · rw [decide_eq_true hi, if_neg (by simp), if_neg (by simp)]
  · rw [if_neg (fun e => h2 ⟨e.1, by omega⟩), if_neg (fun e => h3 ⟨e.1, by omega⟩)]
theorem stQ_ok (L : LawP p) {m : Int} {b : Bool} (h : lOk p m a) : lOk p (m + 1000000) (stQ p x b a) := by
  unfold stQ
  split
  · rename_i h1
    split
    · rename_i h2; have ij := is_i1 h1 h2; have j := L.job _ ij.1 ij.2
      split
      · exact lOk_add h j.drop (Int.le_refl _)
      · exact lOk_add h j.pick (Int.le_refl _)
    · split
      · rename_i h2; have ij := is_i2 h1 (.inl h2.1); exact lOk_add h (L.ship _ ij.1 ij.2).am (Int.le_refl _)
      · split
        · rename_i h2; have ij := is_i2 h1 (.inr h2.1); exact lOk_sub h (L.ship _ ij.1 ij.2).am (Int.le_refl _)
        · exact lOk_mono h (by omega)
  · exact lOk_mono h (by omega)
end
theorem times_nx {p : PB} {V : VH} {x : Vis} {r : List Vis} {now tm ds wt sr pa y srv : Int} {R : Option TM} {W : List WN} (hq : timesR p V (x :: r) ⟨now, tm, ds, wt, sr, pa⟩ = R) (hy : nextPl p pa x = y) (hW : (stopB p V x).sws = W) (hs : (stopB p V x).srv = srv) (h2 : (startF W (now + tcell p pa y)).2 = true) :
    timesR p V r ⟨(startF W (now + tcell p pa y)).1 + srv, tm + tcell p pa y, ds + dcell p pa y, wt + (startF W (now + tcell p pa y)).1 - (now + tcell p pa y), sr + srv, y⟩ = R := by
  subst hy hW hs; rw [timesR_cons, if_pos h2] at hq; exact hq
theorem times_no {p : PB} {V : VH} {x : Vis} {r : List Vis} {now tm ds wt sr pa y : Int} {R : Option TM} {W : List WN} (hq : timesR p V (x :: r) ⟨now, tm, ds, wt, sr, pa⟩ = R) (hy : nextPl p pa x = y) (hW : (stopB p V x).sws = W) (h2 : ¬ (startF W (now + tcell p pa y)).2 = true) : R = none := by
  subst hy hW; rw [timesR_cons, if_neg h2] at hq; exact hq.symm
theorem times_fin {p : PB} {V : VH} {l : List Vis} {now tm ds wt sr pa : Int} (hq : timesR p V [] ⟨now, tm, ds, wt, sr, pa⟩ = timesR p V l ⟨V.lo, 0, 0, 0, 0, V.st⟩) :
    timesF p V l = if now + tcell p pa V.en > V.hi then noPR 167 else ⟨0, tm + tcell p pa V.en, ds + dcell p pa V.en, wt, sr, V.fix + (tm + tcell p pa V.en) * V.pt + (ds + dcell p pa V.en) * V.pd⟩ := by
  rw [timesF_some hq.symm, tmEnd]
theorem sets_1 {p : PB} {k : Int} {l : List Vis} {c : List Int} {r : List (List Int)} {R : PR} (h : firstC (planS p k l) (c :: r) = R) (he : (planS p k l c).e ≠ 167) : planS p k l c = R := by rw [firstC_cons, if_pos he] at h; exact h
theorem sets_2 {p : PB} {k : Int} {l : List Vis} {c : List Int} {r : List (List Int)} {R : PR} (h : firstC (planS p k l) (c :: r) = R) (he : ¬ (planS p k l c).e ≠ 167) : firstC (planS p k l) r = R := by rw [firstC_cons, if_neg he] at h; exact h
end Go.SX
namespace Go.SX
theorem start_take {l : List WN} (W : WinsOk l) {t i best x : Int} {f : Bool} (h : StartI l t i best f) (h0 : 0 ≤ i) (h1 : i < (l.length : Int)) (ht : ¬ t > (gt l i).hi) (hx : x = max t (gt l i).lo) (hc : ¬ f = true ∨ x < best) : StartI l t (i + 1) x true := by
  cases f with
  | false => exact start_first W h h0 h1 ht hx
  | true =>
    have := (start_more h h1 (x := x) (by omega)).1
    rcases hc with hc | hc
    · exact absurd rfl hc
    · exact absurd hc this
theorem start_keep {l : List WN} (W : WinsOk l) {t i best x : Int} {f : Bool} (h : StartI l t i best f) (h0 : 0 ≤ i) (h1 : i < (l.length : Int)) (ht : ¬ t > (gt l i).hi) (hx : x = max t (gt l i).lo) (hc : ¬ (¬ f = true ∨ x < best)) : StartI l t (i + 1) best f := by
  cases f with
  | false => exact absurd (.inl (by decide)) hc
  | true => exact (start_more h h1 (x := x) (by omega)).2
end Go.SX
namespace Go.SX
theorem setR_nil : ∀ {l : List Vis} {i k : Int}, setR l i k [] = l
  | [], i, k => rfl
  | x :: l, i, k => by simp only [setR, takeB, leftB, cntB, List.nil_append, Int.add_zero]; rw [setR_nil]
theorem fit_zero {p : PB} {k : Int} {l : List Vis} (h : ¬ (k < 0 ∨ k ≥ p.vehs.length)) (hb : noBr l = true) (hn : (gt p.vehs k).brs.length = 0) : fitV p k l = planP p k l := by
  rw [fit_in h hb]; unfold zerosB; rw [hn]
  show firstC (planS p k l) [[]] = _
  have e : planS p k l [] = planP p k l := by unfold planS; rw [setR_nil]
  rw [firstC_cons, e]
  by_cases hc : (planP p k l).e = 167
  · rw [if_neg (fun h => h hc)]; exact (plan_167 hc).symm
  · rw [if_pos hc]
theorem atOk1 {m i : Int} (h0 : 0 ≤ i) (h1 : i ≤ m) : AtOk m [i] := ⟨by simp, fun j q0 q1 => by
  obtain rfl : j = 0 := by simp at q1; omega
  exact ⟨h0, h1⟩, fun h => by simp at h⟩
theorem atOk2 {m i k : Int} (h0 : 0 ≤ i) (h1 : i ≤ k) (h2 : k ≤ m) : AtOk m [i, k] := ⟨by simp, fun j q0 q1 => by
  rcases (by simp at q1; omega : j = 0 ∨ j = 1) with rfl | rfl
  · exact ⟨h0, by show i ≤ m; omega⟩
  · exact ⟨by show 0 ≤ k; omega, h2⟩, fun _ => h1⟩
theorem blk_drop {a : List Int} {i : Int} {k : Int} (h0 : 0 ≤ k) (h1 : k < (a.length : Int)) : blkR i k (a.drop k.toNat) = if gt a k = i then ⟨4, k⟩ :: blkR i (k + 1) (a.drop (k + 1).toNat) else blkR i (k + 1) (a.drop (k + 1).toNat) := by
  rw [drop_gt h0 h1, blkR_cons]
theorem blk_end {a : List Int} {i k : Int} (h1 : ¬ k < (a.length : Int)) : blkR i k (a.drop k.toNat) = [] := by rw [drop_end h1]; rfl
end Go.SX
namespace Go.SX
open Go Go.RowKit Go.Lib
section
variable {V : Env} {P : Program} {Q : Exit → Act → World → Prop} {ops : Array Oper} {N : Nat} {o : Oper} {rest : List Oper} {L : List (Nat × Value)} {H R : List Res} {S : Nat → Prop} {wf : World} {K : St → Prop} {st : St} {C : World → Prop}
theorem made_bools : ∀ n, (madeCells (Value.bool false).cells n).toList = flat eB (List.replicate n false) := by
  intro n
  have h1 : (madeCells (Value.bool false).cells n).toList = List.replicate n (.bool false) := by
    have hc : (Value.bool false).cells = #[.bool false] := rfl
    unfold madeCells
    rw [hc, Array.toList_map, Array.toList_range]
    refine List.ext_getElem (by simp) fun i h1 h2 => ?_
    simp [Nat.mod_one]
  rw [h1]
  clear h1
  induction n with
  | zero => rfl
  | succ n ih => rw [List.replicate_succ, List.replicate_succ, flat_cons, ih]; rfl
theorem st_mkbools {t e : TypeId} {x y : Operand} {kk : IntKind} {n : Nat} {a : Int} {bytes : Nat} {d : Nat} (ho : o.op = .makeSlice t x y) (hg : o.guard = none) (hd : o.dst = some d) (hdN : Nat.blt d N = true) (ht : P.underlying t = some (.slice e)) (hi : (P.info? e).map (fun i => (i.zero, i.size, i.bytes)) = some (some (.bool false), 1, bytes))
    (hx : lk L x = some (.int kk a)) (hy : lk L y = some (.int kk a)) (ha : a = (n : Int)) (hb : n * bytes ≤ 1073741824) (hb1 : Nat.ble 1 bytes = true)
    (k : ∀ b, K ⟨(d, .slice (some ⟨b, 0, none⟩) n n) :: L, rw_ eB e (.slice (some ⟨b, 0, none⟩) n n) (List.replicate n false) :: H, S, wf⟩) : OpStep V P Q ops N o ⟨L, H, S, wf⟩ K := by
  subst ha
  have hb1 := Nat.le_of_ble_eq_true hb1
  have hn : n ≤ 1073741824 := Nat.le_trans (by have := Nat.mul_le_mul_left n hb1; omega) hb
  refine .act hg hd hdN (by simp [ho, noSel]) (by simp [ho, Op.operands, known_of hx, known_of hy]) fun w hw => ?_
  obtain ⟨i, hi, hq⟩ := Option.map_eq_some_iff.1 hi
  simp only [Prod.mk.injEq] at hq
  have hbb : ((i.bytes : Nat) : Int) * (n : Int) ≤ 281474976710656 := by
    rw [hq.2.2, ← Int.natCast_mul, Nat.mul_comm]; omega
  have hr := run_make (P := P) w t e i (.bool false) ht hi hq.1 kk kk n n (by omega) (Int.le_refl _) hbb (by omega)
  simp only [Int.toNat_natCast, hq.2.1, Nat.mul_one] at hr
  refine ⟨_, _, _, by simp only [execOp, ho, ev_of hx, ev_of hy, Sem.run_bind, hr]; rfl, ?_, k w.heap.size⟩
  refine WW.change (C := []) (R := H) (C' := [rw_ eB e (.slice (some ⟨w.heap.size, 0, none⟩) n n) (List.replicate n false)]) hw (fun b hb _ => Below.heap_alloc w _ b hb) (by simp) ?_ (by simp [rw_, row, Value.ownBlock]) (fun b hb => .inr ?_) rfl rfl rfl
  · intro r hr
    simp only [List.mem_singleton] at hr
    subst hr
    refine rw_holds.2 (.inr ⟨w.heap.size, n, _, by rw [List.length_replicate], heap_alloc_new w _, by simp, by simp only [maxLen]; omega, by rw [size_madeCells]; simp [eB, Enc.scalar], ?_⟩)
    rw [made_bools, List.take_of_length_le (by rw [flat_length]; exact Nat.le_refl _)]
  · simp [rw_, row, Value.ownBlock] at hb
    omega
end
end Go.SX
namespace Go.SX
open Go Go.RowKit
section
variable {V : Env} {N : Nat} {L : List (Nat × Value)} {H R : List Res} {S : Nat → Prop} {wf : World} {Q : Act → World → Prop}
theorem SQ.packR {e : Nat} {l : List RT} (s : RT) (hp : PickL H [nestR e l, rw_ eVis e (.slice s.rA s.vis.length s.rc) s.vis] R) (hb : s.vis.length ≤ 140737488355328) (h : SQ V Q N ⟨L, nestR e (l ++ [s]) :: R, S, wf⟩) : SQ V Q N ⟨L, H, S, wf⟩ := fun a w hs hw => h a w hs (WW.bigapp (hw.perm hp.perm) rfl (fun h => ⟨h, hb⟩))
end
section
variable {V : Env} {P : Program} {Q : Exit → Act → World → Prop} {ops : Array Oper} {N : Nat} {L : List (Nat × Value)} {H R : List Res} {S : Nat → Prop} {wf : World} {st : St}
theorem SC.reslotv {t : Nat} {u v : Value} {c : Code} (hL : lkp st.L t = some u) (e : u = v) (h : SC V P Q N c ⟨(t, v) :: st.L, st.H, st.S, st.wf⟩) : SC V P Q N c st := by
  subst e
  intro a w hs hw
  refine h a w (hs.mono fun k v hk => ?_) hw
  unfold lkp at hk
  cases hq : Nat.beq k t with
  | true =>
    have := Nat.eq_of_beq_eq_true hq
    subst this
    rw [hq] at hk
    simp at hk
    subst hk
    exact hL
  | false =>
    rw [hq] at hk
    exact hk
end
section
variable {S : Nat → Prop} {wf : World}
theorem gt_right {α : Type} [Inhabited α] {D Y : List α} {i : Int} (h0 : 0 ≤ i) : gt (D ++ Y) ((D.length : Int) + i) = gt Y i := by
  unfold gt; rw [List.getD_eq_getElem?_getD, List.getD_eq_getElem?_getD, show ((D.length : Int) + i).toNat = D.length + i.toNat from by omega, List.getElem?_append_right (by omega)]; congr 2; omega
theorem VLF.right {D Y : List VL} (h : VLF S wf (D ++ Y)) : VLF S wf Y := fun i => by
  rcases gt_mem_or Y i with hm | hm
  · obtain ⟨n, hn, e⟩ := List.getElem_of_mem hm
    have e2 : gt (D ++ Y) ((D.length : Int) + n) = gt Y i := by rw [gt_right (by omega), ← e]; simp [gt, List.getD_eq_getElem?_getD, hn]
    have := h ((D.length : Int) + n); rw [e2] at this; exact this
  · rw [hm]; exact Fr.nil _ _ _ _
end
end Go.SX
namespace Go.SX
open Go Go.RowKit
theorem SQ.reslotv {V : Env} {N : Nat} {st : St} {Q : Act → World → Prop} {t : Nat} {u v : Value} (hL : lkp st.L t = some u) (e : u = v) (h : SQ V Q N ⟨(t, v) :: st.L, st.H, st.S, st.wf⟩) : SQ V Q N st := by
  subst e
  intro a w hs hw
  refine h a w (hs.mono fun k v hk => ?_) hw
  unfold lkp at hk
  cases hq : Nat.beq k t with
  | true =>
    have := Nat.eq_of_beq_eq_true hq
    subst this
    rw [hq] at hk
    simp at hk
    subst hk
    exact hL
  | false =>
    rw [hq] at hk
    exact hk
end Go.SX
namespace Go.SX
open Go Go.RowKit
noncomputable def dec (φ : Prop) : Bool := @decide φ (Classical.propDecidable φ)
theorem dec_t {φ : Prop} (h : φ) : dec φ = true := @decide_eq_true φ (Classical.propDecidable φ) h
theorem dec_f {φ : Prop} (h : ¬ φ) : dec φ = false := @decide_eq_false φ (Classical.propDecidable φ) h
theorem dec_p {φ : Prop} (h : dec φ = true) : φ := @of_decide_eq_true φ (Classical.propDecidable φ) h
theorem rng_of {l : List Int} {m : Int} (h : ∀ i : Int, 0 ≤ i → i < (l.length : Int) → 0 ≤ gt l i ∧ gt l i ≤ m) (hm : 0 ≤ m) : rng l m := fun i => by
  rcases gt_mem_or l i with hi | hi
  · obtain ⟨n, hn, e⟩ := List.getElem_of_mem hi
    have := h n (by omega) (by omega)
    have e2 : gt l (n : Int) = gt l i := by rw [← e]; simp [gt, List.getD_eq_getElem?_getD, hn]
    rw [e2] at this; exact this
  · rw [hi]; exact ⟨Int.le_refl _, hm⟩
noncomputable def chkE (l : List Int) (n : Int) : Int := if (l.length : Int) ≠ n then 43 else if dec (rng l 1000000) = true then 0 else 2
theorem chk_0 {l : List Int} {n : Int} (h : chkE l n = 0) : (l.length : Int) = n ∧ rng l 1000000 := by
  unfold chkE at h
  split at h
  · cases h
  · rename_i h1
    split at h
    · rename_i h2; exact ⟨Classical.not_not.1 h1, dec_p h2⟩
    · cases h
theorem chk_43 {l : List Int} {n : Int} (h : (l.length : Int) ≠ n) : 43 = chkE l n := by unfold chkE; rw [if_pos h]
theorem chk_2 {l : List Int} {n i : Int} (h : ¬ (l.length : Int) ≠ n) (hi : gt l i < 0 ∨ gt l i > 1000000) : 2 = chkE l n := by
  unfold chkE; rw [if_neg h, if_neg]
  intro k; have := dec_p k i; omega
theorem chk_ok {l : List Int} {n i : Int} (h : ¬ (l.length : Int) ≠ n) (hq : ∀ j : Int, 0 ≤ j → j < i → 0 ≤ gt l j ∧ gt l j ≤ 1000000) (hi : i = (l.length : Int)) : 0 = chkE l n := by
  unfold chkE; rw [if_neg h, if_pos]
  exact dec_t (rng_of (fun j h0 h1 => hq j h0 (by omega)) (by decide))
abbrev winAt (l : List WN) (i : Int) : Prop := (0 ≤ (gt l i).lo ∧ (gt l i).hi ≤ 1000000 ∧ (gt l i).lo ≤ (gt l i).hi) ∧ (0 < i → (gt l (i - 1)).hi < (gt l i).lo)
theorem wins_of {l : List WN} {i : Int} (h : ¬ ((l.length : Int) < 1 ∨ (l.length : Int) > 4)) (hq : ∀ j : Int, 0 ≤ j → j < i → winAt l j) (hi : i = (l.length : Int)) : WinsOk l where
  len := by omega
  each j h0 h1 := (hq j h0 (by omega)).1
  next j h0 h1 := (hq j (by omega) (by omega)).2 h0
theorem wins_len {l : List WN} (h : (l.length : Int) < 1 ∨ (l.length : Int) > 4) : ¬ WinsOk l := fun k => by have := k.len; omega
theorem wins_no {l : List WN} {i : Int} (h0 : 0 ≤ i) (h1 : i < (l.length : Int)) (h : ¬ winAt l i) : ¬ WinsOk l := fun k => h ⟨k.each i h0 h1, fun hi => k.next i hi h1⟩
abbrev matAt (l : List Int) (k a b : Int) : Prop := -1 ≤ gt l (a * k + b) ∧ gt l (a * k + b) ≤ 32000000 ∧ (a = b → gt l (a * k + b) = 0)
def MatOk (n : Int) (l : List Int) (k : Int) : Prop := n = k ∧ (l.length : Int) = k * k ∧ ∀ a b : Int, 0 ≤ a → a < k → 0 ≤ b → b < k → matAt l k a b
theorem ij_rng {i j k : Int} (h0 : 0 ≤ i) (h1 : i < k) (h2 : 0 ≤ j) (h3 : j < k) (hk : k ≤ 32) : 0 ≤ i * k ∧ i * k ≤ 1024 ∧ i * k + j < k * k ∧ k * k ≤ 1024 := by
  have a := Int.mul_nonneg h0 (show 0 ≤ k by omega)
  have b : i * k ≤ (k - 1) * k := Int.mul_le_mul_of_nonneg_right (by omega) (by omega)
  have c : k * k ≤ 32 * 32 := Int.mul_le_mul hk hk (by omega) (by decide)
  rw [Int.sub_mul] at b
  omega
theorem mat_all {n k : Int} {l : List Int} (h : MatOk n l k) (hk : 1 ≤ k) (i : Int) : -1 ≤ gt l i ∧ gt l i ≤ 32000000 := by
  rcases gt_mem_or l i with hi | hi
  · obtain ⟨m, hm, e⟩ := List.getElem_of_mem hi
    have e2 : gt l (m : Int) = gt l i := by rw [← e]; simp [gt, List.getD_eq_getElem?_getD, hm]
    have hd := Int.mul_ediv_add_emod (m : Int) k
    have hm0 := Int.emod_nonneg (m : Int) (show k ≠ 0 by omega)
    have hm1 := Int.emod_lt_of_pos (m : Int) (show 0 < k by omega)
    have hd0 : 0 ≤ (m : Int) / k := Int.ediv_nonneg (by omega) (by omega)
    have hd1 : (m : Int) / k < k := by
      refine Int.ediv_lt_of_lt_mul (by omega) ?_
      have := h.2.1; omega
    have hx := h.2.2 _ _ hd0 hd1 hm0 hm1
    unfold matAt at hx
    rw [show (m : Int) / k * k + (m : Int) % k = (m : Int) from by rw [Int.mul_comm]; exact hd, e2] at hx
    exact ⟨hx.1, hx.2.1⟩
  · rw [hi]; exact ⟨by decide, by decide⟩
theorem stop_of {n : Int} {s : SO} (h1 : 0 ≤ s.pl ∧ s.pl ≤ n - 1) (h2 : 0 ≤ s.srv ∧ s.srv ≤ 1000000) (h3 : WinsOk s.sws) : StopOk n s := ⟨⟨h1.1, by omega⟩, h2, h3⟩
structure SkU (p : PB) : Prop where
  v : ∀ i : Int, 0 ≤ (gt p.vehs i).vsk
  j : ∀ i : Int, 0 ≤ (gt p.jobs i).jsk
  s : ∀ i : Int, 0 ≤ (gt p.ships i).ssk
theorem shift_of {lo hi : Int} (h : WinsOk [⟨lo, hi⟩]) : 0 ≤ lo ∧ hi ≤ 1000000 ∧ lo ≤ hi := h.each 0 (by decide) (by simp)
theorem shift_to {lo hi : Int} (h : 0 ≤ lo ∧ hi ≤ 1000000 ∧ lo ≤ hi) : WinsOk [⟨lo, hi⟩] where
  len := ⟨by simp, by simp⟩
  each i h0 h1 := by
    simp at h1
    have : i = 0 := by omega
    subst this; exact h
  next i h0 h1 := by simp at h1; omega
theorem eq_dec {e : Int} {φ : Prop} (h : e = 0 ↔ φ) : (e == 0) = dec φ := by
  rw [Bool.eq_iff_iff]
  exact ⟨fun k => dec_t (h.1 (by simpa using k)), fun k => by simpa using h.2 (dec_p k)⟩
theorem mat_nx {l : List Int} {k i j : Int} (h : ∀ a b : Int, 0 ≤ a → a < i → 0 ≤ b → b < k → matAt l k a b) (h2 : ∀ b : Int, 0 ≤ b → b < j → matAt l k i b) (hj : j = k) : ∀ a b : Int, 0 ≤ a → a < i + 1 → 0 ≤ b → b < k → matAt l k a b := fun a b h0 h1 h3 h4 => by
  by_cases ha : a = i
  · subst ha; exact h2 b h3 (by omega)
  · exact h a b h0 (by omega) h3 h4
theorem upto_nx {Φ : Int → Prop} {i : Int} (h : ∀ j : Int, 0 ≤ j → j < i → Φ j) (hi : Φ i) : ∀ j : Int, 0 ≤ j → j < i + 1 → Φ j := fun j h0 h1 => by
  by_cases hj : j = i
  · subst hj; exact hi
  · exact h j h0 (by omega)
end Go.SX
namespace Go.SX
open Go Go.RowKit
theorem stopB_ {s : SO} {k : Int} : (((decide (s.pl ≥ 0) && decide (s.pl ≤ (k - 1))) && (decide (s.srv ≥ 0) && decide (s.srv ≤ 1000000))) && (dec (WinsOk s.sws))) = dec (StopOk k s) := by
  rw [Bool.eq_iff_iff]
  simp only [Bool.and_eq_true, decide_eq_true_eq]
  refine ⟨fun h => dec_t (stop_of ⟨h.1.1.1, h.1.1.2⟩ ⟨h.1.2.1, h.1.2.2⟩ (dec_p h.2)), fun h => ?_⟩
  have k := dec_p h
  have k1 := k.pl; have k2 := k.srv
  exact ⟨⟨⟨by omega, by omega⟩, ⟨by omega, by omega⟩⟩, dec_t k.win⟩
theorem vehB_1 {v : VH} {d k : Int} (h : (v.brs.length : Int) > 2) : false = dec (VehOk d k v) := (dec_f (fun q => by have := q.brs; omega)).symm
theorem vehB_2 {v : VH} {d k i : Int} (h0 : 0 ≤ i) (h1 : i < (v.brs.length : Int)) (h : ¬ (WinsOk (gt v.brs i).bws ∧ 0 ≤ (gt v.brs i).bsrv ∧ (gt v.brs i).bsrv ≤ 1000000)) : false = dec (VehOk d k v) := (dec_f (fun q => h (q.brk i h0 h1))).symm
theorem vehB_3 {v : VH} {d k : Int} (h : (((((decide (v.st ≥ 0) && decide (v.st ≤ (k - 1))) && (decide (v.en ≥ 0) && decide (v.en ≤ (k - 1)))) && ((chkE v.vcap d) == 0)) && (decide (v.vsk < 4611686018427387904)))) = false) : false = dec (VehOk d k v) := by
  refine (dec_f (fun q => ?_)).symm
  have h2 : (((((decide (v.st ≥ 0) && decide (v.st ≤ (k - 1))) && (decide (v.en ≥ 0) && decide (v.en ≤ (k - 1)))) && ((chkE v.vcap d) == 0)) && (decide (v.vsk < 4611686018427387904)))) = true := by
    have a := q.st; have b := q.en; have c := q.cap; have e := q.sk
    have hc : chkE v.vcap d = 0 := by unfold chkE; rw [if_neg (by omega), if_pos (dec_t c.2)]
    simp only [Bool.and_eq_true, decide_eq_true_eq, beq_iff_eq]
    exact ⟨⟨⟨⟨by omega, by omega⟩, ⟨by omega, by omega⟩⟩, hc⟩, e.2⟩
  rw [h2] at h; cases h
theorem vehB_4 {v : VH} {d k : Int} (hb : ¬ (v.brs.length : Int) > 2) (hs : 0 ≤ v.vsk) (hq : ∀ j : Int, 0 ≤ j → j < (v.brs.length : Int) → WinsOk (gt v.brs j).bws ∧ 0 ≤ (gt v.brs j).bsrv ∧ (gt v.brs j).bsrv ≤ 1000000)
    (h : (((((decide (v.st ≥ 0) && decide (v.st ≤ (k - 1))) && (decide (v.en ≥ 0) && decide (v.en ≤ (k - 1)))) && ((chkE v.vcap d) == 0)) && (decide (v.vsk < 4611686018427387904)))) = true) :
    (((((dec (WinsOk [⟨v.lo, v.hi⟩])) && (decide (v.fix ≥ 0) && decide (v.fix ≤ 1000000))) && (decide (v.pt ≥ 0) && decide (v.pt ≤ 1000000))) && (decide (v.pd ≥ 0) && decide (v.pd ≤ 1000000))) && (decide (v.mt ≥ 0) && decide (v.mt ≤ 12))) = dec (VehOk d k v) := by
  simp only [Bool.and_eq_true, decide_eq_true_eq, beq_iff_eq] at h
  obtain ⟨⟨⟨⟨a1, a2⟩, ⟨a3, a4⟩⟩, a5⟩, a6⟩ := h
  rw [Bool.eq_iff_iff]
  simp only [Bool.and_eq_true, decide_eq_true_eq]
  refine ⟨fun h => dec_t ?_, fun h => ?_⟩
  · obtain ⟨⟨⟨⟨b1, b2⟩, b3⟩, b4⟩, b5⟩ := h
    exact { st := ⟨a1, by omega⟩, en := ⟨a3, by omega⟩, cap := chk_0 a5, sk := ⟨hs, a6⟩, sh := shift_of (dec_p b1), fix := ⟨b2.1, b2.2⟩, pt := ⟨b3.1, b3.2⟩, pd := ⟨b4.1, b4.2⟩, mt := ⟨b5.1, b5.2⟩, brs := by omega, brk := hq }
  · have q := dec_p h
    exact ⟨⟨⟨⟨dec_t (shift_to q.sh), q.fix⟩, q.pt⟩, q.pd⟩, q.mt⟩
end Go.SX
namespace Go.SX
open Go Go.RowKit
theorem nnd {φ : Prop} (h : ¬ ¬ dec φ = true) : φ := dec_p (Classical.not_not.1 h)
theorem job_of {d n : Int} {j : JB} (h : ¬ ((((¬ dec (StopOk n j.so) = true ∨ chkE j.drop d ≠ 0) ∨ chkE j.pick d ≠ 0) ∨ j.jsk ≥ 4611686018427387904) ∨ ¬ (j.jpr ≥ 0 ∧ j.jpr ≤ 100))) (hs : 0 ≤ j.jsk) : JobOk d n j where
  so := nnd (fun k => h (.inl (.inl (.inl (.inl k)))))
  drop := chk_0 (Classical.not_not.1 (fun k => h (.inl (.inl (.inl (.inr k))))))
  pick := chk_0 (Classical.not_not.1 (fun k => h (.inl (.inl (.inr k)))))
  sk := ⟨hs, by have := fun k => h (.inl (.inr k)); omega⟩
  pr := Classical.not_not.1 (fun k => h (.inr k))
theorem ship_of {d n : Int} {j : SH} (h : ¬ ((((¬ dec (StopOk n j.sp) = true ∨ ¬ dec (StopOk n j.sd) = true) ∨ chkE j.am d ≠ 0) ∨ j.ssk ≥ 4611686018427387904) ∨ ¬ (j.spr ≥ 0 ∧ j.spr ≤ 100))) (hs : 0 ≤ j.ssk) : ShipOk d n j where
  sp := nnd (fun k => h (.inl (.inl (.inl (.inl k)))))
  sd := nnd (fun k => h (.inl (.inl (.inl (.inr k)))))
  am := chk_0 (Classical.not_not.1 (fun k => h (.inl (.inl (.inr k)))))
  sk := ⟨hs, by have := fun k => h (.inl (.inr k)); omega⟩
  pr := Classical.not_not.1 (fun k => h (.inr k))
theorem mat_of {p : PB} (h : ¬ ((((¬ (p.dims ≥ 0 ∧ p.dims ≤ 3) ∨ p.tn < 1) ∨ p.tn > 32) ∨ ¬ dec (MatOk p.tn p.time p.tn) = true) ∨ ¬ dec (MatOk p.dn p.dist p.tn) = true)) : (0 ≤ p.dims ∧ p.dims ≤ 3) ∧ (1 ≤ p.tn ∧ p.tn ≤ 32) ∧ MatOk p.tn p.time p.tn ∧ MatOk p.dn p.dist p.tn :=
  ⟨Classical.not_not.1 (fun k => h (.inl (.inl (.inl (.inl k))))), ⟨by have := fun k => h (.inl (.inl (.inl (.inr k)))); omega, by have := fun k => h (.inl (.inl (.inr k))); omega⟩, nnd (fun k => h (.inl (.inr k))), nnd (fun k => h (.inr k))⟩
theorem law_of {p : PB} (hM : (0 ≤ p.dims ∧ p.dims ≤ 3) ∧ (1 ≤ p.tn ∧ p.tn ≤ 32) ∧ MatOk p.tn p.time p.tn ∧ MatOk p.dn p.dist p.tn) (h1 : (p.vehs.length : Int) ≤ 4) (h2 : (p.jobs.length : Int) + p.ships.length ≤ 12)
    (hv : ∀ j : Int, 0 ≤ j → j < (p.vehs.length : Int) → VehOk p.dims p.tn (gt p.vehs j)) (hj : ∀ j : Int, 0 ≤ j → j < (p.jobs.length : Int) → JobOk p.dims p.tn (gt p.jobs j)) (hs : ∀ j : Int, 0 ≤ j → j < (p.ships.length : Int) → ShipOk p.dims p.tn (gt p.ships j)) : LawP p where
  dims := hM.1
  tn := hM.2.1
  dn := hM.2.2.2.1
  tlen := hM.2.2.1.2.1
  dlen := hM.2.2.2.2.1
  tc := mat_all hM.2.2.1 hM.2.1.1
  dc := mat_all hM.2.2.2 hM.2.1.1
  nv := by omega
  nj := by omega
  veh := hv
  job := hj
  ship := hs
end Go.SX
namespace Go.SX
open Go Go.RowKit
section
variable {V : Env} {P : Program} {Q : Exit → Act → World → Prop} {ops : Array Oper} {N fuel : Nat} {L : List (Nat × Value)} {H R C : List Res} {S S1 : Nat → Prop} {wf wf1 : World} {B : World → Prop} {cs : List (Nat × (World → Prop))} {listed : Array Bool}
theorem ttx {S2 : Nat → Prop} {wf2 : World} (hx : Ext S wf S2 wf2) {l : Array Bool} : ∀ w, WW V S2 wf2 H w → TT (Fz S wf) [] l w := fun w hw => ⟨(hw.thaw hx).fz, fun c hc => by cases hc⟩
theorem SR.thaw (hx : Ext S wf S1 wf1) (h : SR V P Q ops N B cs fuel listed ⟨L, H, S, wf⟩) : SR V P Q ops N B cs fuel listed ⟨L, H, S1, wf1⟩ := fun a w hs hw ht hc => h a w hs (hw.thaw hx) ht hc
theorem retz1 {fn : Func} {r : ResultVar} {v : Value} {post : Value → List Res → (Nat → Prop) → World → Prop} (hr : fn.results = #[r]) (h1 : RV P L (WW V S1 wf1 H) r v) (hx : Ext S wf S1 wf1) (h : post v [] S1 wf1) :
    SQ V (bodyPost P fn (TRp V S wf post) .ret) N ⟨L, H, S1, wf1⟩ := fun a w hs hw => by
  refine ⟨hs.2.1, v, ?_, v, [], S1, wf1, rfl, h, hx, hw.keep .n⟩
  have e1 := h1 a w N hs hw
  rw [results_resF, hr]
  simp [e1]
end
end Go.SX
namespace Go.SX
open Go Go.RowKit
def eraB (b : BK) : BK := { b with bwA := none, bwc := 0 }
def eraO (s : SO) : SO := { s with soA := none, soc := 0 }
def eraV (v : VH) : VH := { v with brs := v.brs.map eraB, vcA := none, vcc := 0, vbA := none, vbc := 0 }
def eraJ (j : JB) : JB := { j with so := eraO j.so, jdA := none, jdc := 0, jkA := none, jkc := 0 }
def eraS (s : SH) : SH := { s with sp := eraO s.sp, sd := eraO s.sd, saA := none, sac := 0 }
def era (p : PB) : PB := { p with vehs := p.vehs.map eraV, jobs := p.jobs.map eraJ, ships := p.ships.map eraS, ptA := none, ptc := 0, pdA := none, pdc := 0, pvA := none, pvc := 0, pjA := none, pjc := 0, psA := none, psc := 0 }
section
variable {p : PB}
theorem era_gv (i : Int) : gt (era p).vehs i = eraV (gt p.vehs i) := gt_mapd eraV rfl p.vehs i
theorem era_gj (i : Int) : gt (era p).jobs i = eraJ (gt p.jobs i) := gt_mapd eraJ rfl p.jobs i
theorem era_gs (i : Int) : gt (era p).ships i = eraS (gt p.ships i) := gt_mapd eraS rfl p.ships i
theorem era_gb {v : VH} (i : Int) : gt (eraV v).brs i = eraB (gt v.brs i) := gt_mapd eraB rfl v.brs i
theorem era_lv : (era p).vehs.length = p.vehs.length := List.length_map ..
theorem era_lj : (era p).jobs.length = p.jobs.length := List.length_map ..
theorem era_ls : (era p).ships.length = p.ships.length := List.length_map ..
theorem era_lb {v : VH} : (eraV v).brs.length = v.brs.length := List.length_map ..
theorem there_e {t : TK} : thereF (era p) t = thereF p t := by unfold thereF; rw [era_lj, era_ls]
theorem prio_e {t : TK} : prioF (era p) t = prioF p t := by unfold prioF; rw [there_e, era_gj, era_gs]; rfl
theorem skil_e {t : TK} : skilF (era p) t = skilF p t := by unfold skilF; rw [there_e, era_gj, era_gs]; rfl
theorem isStop_e {x : Vis} : isStop (era p) x = isStop p x := by unfold isStop; rw [there_e]
theorem stopO_e {x : Vis} : stopO (era p) x = eraO (stopO p x) := by
  unfold stopO; rw [era_gj, era_gs]; split
  · rfl
  · split <;> rfl
theorem stopD_e {x : Vis} : stopD (era p) x = eraO (stopD p x) := by
  unfold stopD; rw [isStop_e, stopO_e]; split <;> rfl
theorem pairs_e : ∀ {l : List Vis} {m : List (Vis × Bool)} {op : Int}, pairsR (era p) l m op = pairsR p l m op
  | [], _, _ => rfl
  | x :: r, m, op => by rw [pairsR_cons, pairsR_cons, isStop_e, pairs_e, pairs_e]
theorem skills_e {v : VH} : ∀ {l : List Vis}, skillsR (era p) (eraV v) l = skillsR p v l
  | [] => rfl
  | x :: r => by rw [skillsR_cons, skillsR_cons, skil_e, skills_e]; rfl
theorem load0R_e : ∀ {l : List Vis} {a : List Int}, load0R (era p) l a = load0R p l a
  | [], _ => rfl
  | x :: r, a => by
    rw [load0R_cons, load0R_cons, isStop_e, load0R_e, load0R_e, show dropV (era p) x = dropV p x from by show (gt (era p).jobs x.item).drop = _; rw [era_gj]; rfl]
theorem loadSt_e {x : Vis} {a : List Int} : loadSt (era p) x a = loadSt p x a := by
  unfold loadSt
  rw [isStop_e, show dropV (era p) x = dropV p x from by show (gt (era p).jobs x.item).drop = _; rw [era_gj]; rfl, show pickV (era p) x = pickV p x from by show (gt (era p).jobs x.item).pick = _; rw [era_gj]; rfl, show amV (era p) x = amV p x from by show (gt (era p).ships x.item).am = _; rw [era_gs]; rfl]
theorem loadsR_e : ∀ {l : List Vis} {a : List Int}, loadsR (era p) l a = loadsR p l a
  | [], _ => rfl
  | x :: r, a => by rw [loadsR_cons, loadsR_cons, loadSt_e, loadsR_e]
theorem loads_e {l : List Vis} : loadsF (era p) l = loadsF p l := by
  unfold loadsF load0; rw [load0R_e, loadsR_e]; rfl
theorem nextPl_e {a : Int} {x : Vis} : nextPl (era p) a x = nextPl p a x := by unfold nextPl; rw [isStop_e, stopD_e]; rfl
theorem placesR_e : ∀ {l : List Vis} {a : Int}, placesR (era p) l a = placesR p l a
  | [], _ => rfl
  | x :: r, a => by rw [placesR_cons, placesR_cons, nextPl_e, placesR_e]
theorem places_e {v : VH} {l : List Vis} : placesF (era p) (eraV v) l = placesF p v l := by unfold placesF; rw [placesR_e]; rfl
theorem travel_e : ∀ {l : List Int}, travelR (era p) l = travelR p l
  | [] => rfl
  | [a] => rfl
  | a :: b :: r => by rw [travelR_cons, travelR_cons, travel_e]; rfl
theorem stopB_e {v : VH} {x : Vis} : (stopB (era p) (eraV v) x).srv = (stopB p v x).srv ∧ (stopB (era p) (eraV v) x).sws = (stopB p v x).sws := by
  unfold stopB; rw [era_gb, stopD_e]; split <;> exact ⟨rfl, rfl⟩
theorem tmSt_e {v : VH} {s : TM} {x : Vis} {b : Int} : tmSt (era p) (eraV v) s x b = tmSt p v s x b := by
  unfold tmSt; rw [stopB_e.1, nextPl_e]; rfl
theorem times_e {v : VH} : ∀ {l : List Vis} {s : TM}, timesR (era p) (eraV v) l s = timesR p v l s
  | [], _ => rfl
  | x :: r, s => by rw [timesR_cons, timesR_cons, tmSt_e, stopB_e.2, nextPl_e, times_e]; rfl
theorem timesF_e {v : VH} {l : List Vis} : timesF (era p) (eraV v) l = timesF p v l := by
  unfold timesF; rw [times_e]; rfl
theorem checks_e {v : VH} {l : List Vis} : checksF (era p) (eraV v) l = checksF p v l := by
  unfold checksF; rw [pairs_e, skills_e, loads_e, places_e, travel_e, era_lb]; rfl
theorem planP_e {k : Int} {l : List Vis} : planP (era p) k l = planP p k l := by
  unfold planP; rw [era_lv, era_gv, checks_e, timesF_e]
theorem fit_e {k : Int} {l : List Vis} : fitV (era p) k l = fitV p k l := by
  have h1 : planS (era p) k l = planS p k l := funext fun a => planP_e
  unfold fitV zerosB; rw [era_lv, era_gv, era_lb, h1]
theorem cost_e {k : Int} {l : List Vis} : costP (era p) k l = costP p k l := by unfold costP; rw [fit_e]
theorem ltT_e : ltT (era p) = ltT p := funext fun x => funext fun y => by unfold ltT; rw [prio_e, prio_e]
theorem taskL_e : taskL (era p) = taskL p := by unfold taskL; rw [ltT_e, era_lj, era_ls]
theorem insW_e {s : List RC} {v old : Int} : ∀ {ls : List (List Vis)} {z : IS}, insW (era p) s v old ls z = insW p s v old ls z
  | [], _ => rfl
  | l :: r, z => by rw [insW_cons, insW_cons, cost_e, insW_e]
theorem insV_e {s : List RC} {t : TK} : ∀ {f : Nat} {v : Int} {z : IS}, insV (era p) s t f v z = insV p s t f v z
  | 0, _, _ => rfl
  | f + 1, v, z => by rw [insV, insV, cost_e, insW_e, insV_e]
theorem ins_e {s : List RC} {t : TK} : insF (era p) s t = insF p s t := by unfold insF; rw [era_lv, insV_e]
theorem greedyR_e : ∀ {ts : List TK} {s : List RC}, greedyR (era p) ts s = greedyR p ts s
  | [], _ => rfl
  | t :: r, s => by rw [greedyR_cons, greedyR_cons, ins_e, greedyR_e]
theorem greedy_e : greedyF (era p) = greedyF p := by unfold greedyF; rw [taskL_e, greedyR_e]
end
theorem greedy_era {p q : PB} (h : era q = era p) : greedyF q = greedyF p := by rw [← greedy_e (p := q), h, greedy_e]
theorem vehOk_e {d n : Int} {v : VH} : VehOk d n (eraV v) ↔ VehOk d n v := by
  constructor
  · rintro ⟨a, b, c, e, f, g, h, i, j, k, l⟩
    refine ⟨a, b, c, e, f, g, h, i, j, by rw [era_lb] at k; exact k, fun x h0 h1 => ?_⟩
    have := l x h0 (by rw [era_lb]; exact h1)
    rw [era_gb] at this; exact this
  · rintro ⟨a, b, c, e, f, g, h, i, j, k, l⟩
    refine ⟨a, b, c, e, f, g, h, i, j, by rw [era_lb]; exact k, fun x h0 h1 => ?_⟩
    have := l x h0 (by rw [era_lb] at h1; exact h1)
    rw [era_gb]; exact this
theorem stopOk_e {n : Int} {s : SO} : StopOk n (eraO s) ↔ StopOk n s := ⟨fun ⟨a, b, c⟩ => ⟨a, b, c⟩, fun ⟨a, b, c⟩ => ⟨a, b, c⟩⟩
theorem jobOk_e {d n : Int} {s : JB} : JobOk d n (eraJ s) ↔ JobOk d n s := ⟨fun ⟨a, b, c, e, f⟩ => ⟨stopOk_e.1 a, b, c, e, f⟩, fun ⟨a, b, c, e, f⟩ => ⟨stopOk_e.2 a, b, c, e, f⟩⟩
theorem shipOk_e {d n : Int} {s : SH} : ShipOk d n (eraS s) ↔ ShipOk d n s := ⟨fun ⟨a, b, c, e, f⟩ => ⟨stopOk_e.1 a, stopOk_e.1 b, c, e, f⟩, fun ⟨a, b, c, e, f⟩ => ⟨stopOk_e.2 a, stopOk_e.2 b, c, e, f⟩⟩
theorem law_e {p : PB} : LawP (era p) ↔ LawP p := by
  constructor
  · rintro ⟨a, b, c, d, e, f, g, h, i, j, k, l⟩
    refine ⟨a, b, c, d, e, f, g, by rw [era_lv] at h; exact h, by rw [era_lj, era_ls] at i; exact i, fun x h0 h1 => ?_, fun x h0 h1 => ?_, fun x h0 h1 => ?_⟩
    · have := j x h0 (by rw [era_lv]; exact h1); rw [era_gv] at this; exact vehOk_e.1 this
    · have := k x h0 (by rw [era_lj]; exact h1); rw [era_gj] at this; exact jobOk_e.1 this
    · have := l x h0 (by rw [era_ls]; exact h1); rw [era_gs] at this; exact shipOk_e.1 this
  · rintro ⟨a, b, c, d, e, f, g, h, i, j, k, l⟩
    refine ⟨a, b, c, d, e, f, g, by rw [era_lv]; exact h, by rw [era_lj, era_ls]; exact i, fun x h0 h1 => ?_, fun x h0 h1 => ?_, fun x h0 h1 => ?_⟩
    · rw [era_gv]; exact vehOk_e.2 (j x h0 (by rw [era_lv] at h1; exact h1))
    · rw [era_gj]; exact jobOk_e.2 (k x h0 (by rw [era_lj] at h1; exact h1))
    · rw [era_gs]; exact shipOk_e.2 (l x h0 (by rw [era_ls] at h1; exact h1))
theorem law_era {p q : PB} (h : era q = era p) (L : LawP p) : LawP q := law_e.1 (by rw [h]; exact law_e.2 L)
def lineP : PB := ⟨0, 2, [0, 10, 10, 0], 2, [0, 10, 10, 0], [⟨0, 0, [], 0, 0, 1000000, 0, 1, 0, 12, [], none, 0, none, 0⟩], [⟨⟨1, 5, [⟨0, 1000000⟩], none, 0⟩, [], [], 0, 1, none, 0, none, 0⟩, ⟨⟨1, 0, [⟨0, 1000000⟩], none, 0⟩, [], [], 0, 5, none, 0, none, 0⟩], [], none, 0, none, 0, none, 0, none, 0, none, 0⟩
theorem line_greedy : (greedyF lineP).map (fun r => r.2.length) = [2] := by rfl
theorem gt_all {α : Type} [Inhabited α] {l : List α} {Φ : α → Prop} (h : ∀ x ∈ l, Φ x) (hd : Φ default) (i : Int) : Φ (gt l i) := by
  rcases gt_mem_or l i with k | k
  · exact h _ k
  · rw [k]; exact hd
theorem gt_in {α : Type} [Inhabited α] {l : List α} {i : Int} (h0 : 0 ≤ i) (h1 : i < (l.length : Int)) : gt l i ∈ l := by
  unfold gt; rw [List.getD_eq_getElem?_getD, List.getElem?_eq_getElem (by omega)]; exact List.getElem_mem _
theorem rng_nil {m : Int} (h : 0 ≤ m) : rng [] m := fun i => by
  rcases gt_mem_or ([] : List Int) i with k | k
  · cases k
  · rw [k]; exact ⟨Int.le_refl _, h⟩
theorem line_law : LawP lineP where
  dims := ⟨by decide, by decide⟩
  tn := ⟨by decide, by decide⟩
  dn := rfl
  tlen := rfl
  dlen := rfl
  tc := gt_all (Φ := fun x : Int => -1 ≤ x ∧ x ≤ 32000000) (by decide) (by decide)
  dc := gt_all (Φ := fun x : Int => -1 ≤ x ∧ x ≤ 32000000) (by decide) (by decide)
  nv := by decide
  nj := by decide
  veh i h0 h1 := by
    have hm := gt_in h0 h1
    simp only [lineP, List.mem_singleton] at hm
    have e : gt lineP.vehs i = _ := hm
    rw [e]
    exact { st := by decide, en := by decide, cap := ⟨rfl, rng_nil (by decide)⟩, sk := by decide, sh := by decide, fix := by decide, pt := by decide, pd := by decide, mt := by decide, brs := by decide, brk := fun i h0 h1 => by simp at h1; omega }
  job i h0 h1 := by
    have hm := gt_in h0 h1
    simp only [lineP, List.mem_cons, List.mem_singleton, List.not_mem_nil, or_false] at hm
    rcases hm with hm | hm
    all_goals
      have e : gt lineP.jobs i = _ := hm
      rw [e]
      exact { so := ⟨by decide, by decide, shift_to (by decide)⟩, drop := ⟨rfl, rng_nil (by decide)⟩, pick := ⟨rfl, rng_nil (by decide)⟩, sk := by decide, pr := by decide }
  ship i h0 h1 := by simp [lineP] at h1; omega
theorem one_all {α : Type} [Inhabited α] {x : α} {Φ : α → Prop} (h : Φ x) (hd : Φ default) (i : Int) : Φ (gt [x] i) := gt_all (by simpa using h) hd i
theorem two_all {α : Type} [Inhabited α] {x y : α} {Φ : α → Prop} (h : Φ x) (h2 : Φ y) (hd : Φ default) (i : Int) : Φ (gt [x, y] i) := gt_all (by simp [h, h2]) hd i
theorem VHF.dflt {S : Nat → Prop} {wf : World} : VHF S wf default := ⟨Fr.nil _ _ _ _, Fr.nil _ _ _ _, fun i => by rw [show gt (default : VH).brs i = default from (gt_mem_or ([] : List BK) i).elim (fun h => by cases h) id]; exact Fr.nil _ _ _ _⟩
theorem JBF.dflt {S : Nat → Prop} {wf : World} : JBF S wf default := ⟨Fr.nil _ _ _ _, Fr.nil _ _ _ _, Fr.nil _ _ _ _⟩
theorem SHF.dflt {S : Nat → Prop} {wf : World} : SHF S wf default := ⟨Fr.nil _ _ _ _, Fr.nil _ _ _ _, Fr.nil _ _ _ _⟩
theorem gt_none {α : Type} [Inhabited α] (i : Int) : gt ([] : List α) i = default := (gt_mem_or ([] : List α) i).elim (fun h => by cases h) id
theorem awake_ {R : List RT} {q : PB} (h : R.map rc = greedyF q) (he : era q = lineP) : R.length = 1 ∧ (gt R 0).vis.length = 2 := by
  have h2 : (R.map rc).map (fun r => r.2.length) = [2] := by
    rw [h, greedy_era (p := lineP) (q := q) he]; exact line_greedy
  match R, h2 with
  | [], h2 => cases h2
  | [r], h2 => exact ⟨rfl, by injection h2⟩
  | _ :: _ :: _, h2 => injection h2 with _ h3; cases h3
end Go.SX
namespace Go.SX
open Go Go.RowKit
theorem gt_sets {α : Type} [Inhabited α] {l : List α} {i : Int} {x : α} (h0 : 0 ≤ i) (h1 : i < (l.length : Int)) : gt (l.set i.toNat x) i = x := by
  unfold gt; rw [List.getD_eq_getElem?_getD, List.getElem?_set_self (by omega)]; rfl
theorem gt_setn {α : Type} [Inhabited α] {l : List α} {i j : Int} {x : α} (h0 : 0 ≤ i) (h1 : 0 ≤ j) (h : i ≠ j) : gt (l.set i.toNat x) j = gt l j := by
  unfold gt; rw [List.getD_eq_getElem?_getD, List.getD_eq_getElem?_getD, List.getElem?_set_ne (by omega)]
theorem set_set_ {α : Type} (l : List α) (n : Nat) (x y : α) : (l.set n x).set n y = l.set n y := List.set_set ..
theorem AtE {C : World → Prop} {α : Type} {E : Enc α} {b o : Nat} {x y : α} (e : x = y) (h : ∀ w, C w → At w b o (E.enc x)) : ∀ w, C w → At w b o (E.enc y) := e ▸ h
section
variable {V : Env} {P : Program} {Q : Exit → Act → World → Prop} {ops : Array Oper} {N fuel : Nat} {o : Oper} {rest : List Oper} {L : List (Nat × Value)} {H R : List Res} {S : Nat → Prop} {wf : World} {K : St → Prop} {st : St} {B : World → Prop} {cs : List (Nat × (World → Prop))} {listed : Array Bool}
theorem SR.three {i j l : Nat} (hr : Region.ready .any ops listed = [i, j, l]) (h1 : SR1 V P Q ops N B cs fuel listed st i) (h2 : SR1 V P Q ops N B cs fuel listed st j) (h3 : SR1 V P Q ops N B cs fuel listed st l) : SR V P Q ops N B cs (fuel + 1) listed st :=
  .branch hr (by simp) fun k hk => by simp at hk; rcases hk with rfl | rfl | rfl <;> assumption
theorem SR.cutx {X : Type} (F : X → List (Nat × Value) × List Res) (S0 : Nat → Prop) (wf0 : World) (h1 : ∀ b, SQ V (Q .normal) N ⟨(F b).1, (F b).2, S0, wf0⟩) (h2 : (∀ b, SQ V (Q .normal) N ⟨(F b).1, (F b).2, S0, wf0⟩) → SR V P Q ops N B cs fuel listed st) : SR V P Q ops N B cs fuel listed st := h2 h1
theorem st_setel2 {α : Type} [Inhabited α] {E : Enc α} {t e n c p : Nat} {A : Option Addr} {l l2 : List α} {i : Int} {cs : List Value} {off : Nat} {ag : Bool} {x y : Operand} {u : Value} (z : α) (ho : o.op = .store t x y) (hg : o.guard = none) (hd : o.dst = none) (ht : ty P t = some (ag, cs.length))
    (hx : lk L x = some (.pointer (some ⟨ab A, p, none⟩))) (hpo : p = ao A + i.toNat * E.sz + off) (hy : lk L y = some u) (hcu : u.cells = cs.toArray) (hcs : cs.all (·.oneCell') = true) (hp : Pick H (rw_ E e (.slice A n c) l) R)
    (h0 : 0 ≤ i) (h1 : i < (l.length : Int)) (hle : off + cs.length ≤ E.sz) (hz : (E.enc (gt l i)).take off ++ cs ++ (E.enc (gt l i)).drop (off + cs.length) = E.enc z) (h2 : l.set i.toNat z = l2)
    (k : K ⟨L, rw_ E e (.slice A n c) l2 :: R, S, wf⟩) : OpStep V P Q ops N o ⟨L, H, S, wf⟩ K := by
  subst h2
  exact st_setel z ho hg hd ht hx hpo hy hcu hcs hp h0 h1 hle hz k
theorem SC.rerow {α : Type} {E : Enc α} {e : Nat} {v : Value} {l : List α} (l' : List α) {c : Code} (hp : PickL H [rw_ E e v l] R) (hf : flat E l = flat E l') (hl : l.length = l'.length) (h : SC V P Q N c ⟨L, rw_ E e v l' :: R, S, wf⟩) : SC V P Q N c ⟨L, H, S, wf⟩ := fun a w hs hw => by
  refine h a w hs ?_
  have e1 : rw_ E e v l' = rw_ E e v l := by unfold rw_; rw [hf, hl]
  rw [e1]; exact hw.perm hp.perm
end
def resB (e : Nat) (b : BK) : Res := rowB eWN e (.slice b.bwA b.bws.length b.bwc) b.bws
def nestB (e : Nat) (l : List BK) : Res := big (resB e) l
def resV (a b c : Nat) (v : VH) : Res := both (rowB eZ a (.slice v.vcA v.vcap.length v.vcc) v.vcap) (both (rowB eBK b (.slice v.vbA v.brs.length v.vbc) v.brs) (nestB c v.brs))
def nestV (a b c : Nat) (l : List VH) : Res := big (resV a b c) l
def resJ (a c : Nat) (j : JB) : Res := both (rowB eZ a (.slice j.jdA j.drop.length j.jdc) j.drop) (both (rowB eZ a (.slice j.jkA j.pick.length j.jkc) j.pick) (rowB eWN c (.slice j.so.soA j.so.sws.length j.so.soc) j.so.sws))
def nestJ (a c : Nat) (l : List JB) : Res := big (resJ a c) l
def resZ (a c : Nat) (s : SH) : Res := both (rowB eZ a (.slice s.saA s.am.length s.sac) s.am) (both (rowB eWN c (.slice s.sp.soA s.sp.sws.length s.sp.soc) s.sp.sws) (rowB eWN c (.slice s.sd.soA s.sd.sws.length s.sd.soc) s.sd.sws))
def nestZ (a c : Nat) (l : List SH) : Res := big (resZ a c) l
section
variable {S : Nat → Prop} {w : World}
theorem BKF.of {e : Nat} {l : List BK} (h : (nestB e l).holds w) (hS : ∀ b ∈ (nestB e l).foot, S b) : ∀ i : Int, BKF S w (gt l i) := gt_all (Φ := BKF S w) (fun x hx => Fr.of_row (h x hx).1 (fun b hb => hS b (big_foot (f := resB e) hx b hb)) (h x hx).2) (Fr.nil _ _ _ _)
theorem VHF.of {a b c : Nat} {l : List VH} (h : (nestV a b c l).holds w) (hS : ∀ x ∈ (nestV a b c l).foot, S x) : ∀ i : Int, VHF S w (gt l i) := gt_all (Φ := VHF S w) (fun x hx => by
  have hf : ∀ y ∈ (resV a b c x).foot, S y := fun y hy => hS y (big_foot (f := resV a b c) hx y hy)
  obtain ⟨h1, h2, h3⟩ := h x hx
  exact ⟨Fr.of_row h1.1 (fun y hy => hf y (List.mem_append_left _ hy)) h1.2, Fr.of_row h2.1 (fun y hy => hf y (List.mem_append_right _ (List.mem_append_left _ hy))) h2.2, BKF.of h3 (fun y hy => hf y (List.mem_append_right _ (List.mem_append_right _ hy)))⟩) VHF.dflt
theorem JBF.of {a c : Nat} {l : List JB} (h : (nestJ a c l).holds w) (hS : ∀ x ∈ (nestJ a c l).foot, S x) : ∀ i : Int, JBF S w (gt l i) := gt_all (Φ := JBF S w) (fun x hx => by
  have hf : ∀ y ∈ (resJ a c x).foot, S y := fun y hy => hS y (big_foot (f := resJ a c) hx y hy)
  obtain ⟨h1, h2, h3⟩ := h x hx
  exact ⟨Fr.of_row h1.1 (fun y hy => hf y (List.mem_append_left _ hy)) h1.2, Fr.of_row h2.1 (fun y hy => hf y (List.mem_append_right _ (List.mem_append_left _ hy))) h2.2, Fr.of_row h3.1 (fun y hy => hf y (List.mem_append_right _ (List.mem_append_right _ hy))) h3.2⟩) JBF.dflt
theorem SHF.of {a c : Nat} {l : List SH} (h : (nestZ a c l).holds w) (hS : ∀ x ∈ (nestZ a c l).foot, S x) : ∀ i : Int, SHF S w (gt l i) := gt_all (Φ := SHF S w) (fun x hx => by
  have hf : ∀ y ∈ (resZ a c x).foot, S y := fun y hy => hS y (big_foot (f := resZ a c) hx y hy)
  obtain ⟨h1, h2, h3⟩ := h x hx
  exact ⟨Fr.of_row h1.1 (fun y hy => hf y (List.mem_append_left _ hy)) h1.2, Fr.of_row h2.1 (fun y hy => hf y (List.mem_append_right _ (List.mem_append_left _ hy))) h2.2, Fr.of_row h3.1 (fun y hy => hf y (List.mem_append_right _ (List.mem_append_right _ hy))) h3.2⟩) SHF.dflt
end
section
variable {V : Env} {P : Program} {Q : Exit → Act → World → Prop} {ops : Array Oper} {N : Nat} {L : List (Nat × Value)} {H R : List Res} {S : Nat → Prop} {wf : World}
theorem SC.nestB0 (e : Nat) {c : Code} (h : SC V P Q N c ⟨L, nestB e [] :: H, S, wf⟩) : SC V P Q N c ⟨L, H, S, wf⟩ := fun a w hs hw => h a w hs (hw.big0 _)
theorem SC.nestV0 (a b e : Nat) {c : Code} (h : SC V P Q N c ⟨L, nestV a b e [] :: H, S, wf⟩) : SC V P Q N c ⟨L, H, S, wf⟩ := fun a w hs hw => h a w hs (hw.big0 _)
theorem SC.nestJ0 (a e : Nat) {c : Code} (h : SC V P Q N c ⟨L, nestJ a e [] :: H, S, wf⟩) : SC V P Q N c ⟨L, H, S, wf⟩ := fun a w hs hw => h a w hs (hw.big0 _)
theorem SC.nestZ0 (a e : Nat) {c : Code} (h : SC V P Q N c ⟨L, nestZ a e [] :: H, S, wf⟩) : SC V P Q N c ⟨L, H, S, wf⟩ := fun a w hs hw => h a w hs (hw.big0 _)
theorem SC.packB {e n : Nat} {l : List BK} (s : BK) {c : Code} (hp : PickL H [nestB e l, rw_ eWN e (.slice s.bwA n s.bwc) s.bws] R) (h1 : s.bws.length = n) (hb : n ≤ 140737488355328) (h : SC V P Q N c ⟨L, nestB e (l ++ [s]) :: R, S, wf⟩) : SC V P Q N c ⟨L, H, S, wf⟩ := fun a w hs hw => by
  subst h1; exact h a w hs (WW.bigapp (hw.perm hp.perm) rfl (fun h => ⟨h, hb⟩))
theorem SC.packV {a b e n m : Nat} {l : List VH} (s : VH) {c : Code} (hp : PickL H [nestV a b e l, rw_ eZ a (.slice s.vcA n s.vcc) s.vcap, rw_ eBK b (.slice s.vbA m s.vbc) s.brs, nestB e s.brs] R) (h1 : s.vcap.length = n) (h2 : s.brs.length = m) (hb : n ≤ 140737488355328) (hb2 : m ≤ 140737488355328) (h : SC V P Q N c ⟨L, nestV a b e (l ++ [s]) :: R, S, wf⟩) : SC V P Q N c ⟨L, H, S, wf⟩ := fun ac w hs hw => by
  subst h1; subst h2
  refine h ac w hs (WW.swap (A := [nestV a b e l, rw_ eZ a (.slice s.vcA s.vcap.length s.vcc) s.vcap, rw_ eBK b (.slice s.vbA s.brs.length s.vbc) s.brs, nestB e s.brs]) (hw.perm hp.perm) ?_ (fun hA y hy => ?_))
  · simp [nestV, big, feet, List.flatMap_append, resV, both, rowB]
  · rcases List.mem_append.1 hy with hy | hy
    · exact hA _ (List.mem_cons_self ..) y hy
    · simp only [List.mem_singleton] at hy; subst hy
      exact ⟨⟨hA _ (by simp), hb⟩, ⟨hA _ (by simp), hb2⟩, hA _ (by simp)⟩
theorem SC.packJ {a e n m k : Nat} {l : List JB} (s : JB) {c : Code} (hp : PickL H [nestJ a e l, rw_ eZ a (.slice s.jdA n s.jdc) s.drop, rw_ eZ a (.slice s.jkA m s.jkc) s.pick, rw_ eWN e (.slice s.so.soA k s.so.soc) s.so.sws] R) (h1 : s.drop.length = n) (h2 : s.pick.length = m) (h3 : s.so.sws.length = k) (hb : n ≤ 140737488355328) (hb2 : m ≤ 140737488355328) (hb3 : k ≤ 140737488355328) (h : SC V P Q N c ⟨L, nestJ a e (l ++ [s]) :: R, S, wf⟩) : SC V P Q N c ⟨L, H, S, wf⟩ := fun ac w hs hw => by
  subst h1; subst h2; subst h3
  refine h ac w hs (WW.swap (A := [nestJ a e l, rw_ eZ a (.slice s.jdA s.drop.length s.jdc) s.drop, rw_ eZ a (.slice s.jkA s.pick.length s.jkc) s.pick, rw_ eWN e (.slice s.so.soA s.so.sws.length s.so.soc) s.so.sws]) (hw.perm hp.perm) ?_ (fun hA y hy => ?_))
  · simp [nestJ, big, feet, List.flatMap_append, resJ, both, rowB]
  · rcases List.mem_append.1 hy with hy | hy
    · exact hA _ (List.mem_cons_self ..) y hy
    · simp only [List.mem_singleton] at hy; subst hy
      exact ⟨⟨hA _ (by simp), hb⟩, ⟨hA _ (by simp), hb2⟩, ⟨hA _ (by simp), hb3⟩⟩
theorem SC.packZ {a e n m k : Nat} {l : List SH} (s : SH) {c : Code} (hp : PickL H [nestZ a e l, rw_ eZ a (.slice s.saA n s.sac) s.am, rw_ eWN e (.slice s.sp.soA m s.sp.soc) s.sp.sws, rw_ eWN e (.slice s.sd.soA k s.sd.soc) s.sd.sws] R) (h1 : s.am.length = n) (h2 : s.sp.sws.length = m) (h3 : s.sd.sws.length = k) (hb : n ≤ 140737488355328) (hb2 : m ≤ 140737488355328) (hb3 : k ≤ 140737488355328) (h : SC V P Q N c ⟨L, nestZ a e (l ++ [s]) :: R, S, wf⟩) : SC V P Q N c ⟨L, H, S, wf⟩ := fun ac w hs hw => by
  subst h1; subst h2; subst h3
  refine h ac w hs (WW.swap (A := [nestZ a e l, rw_ eZ a (.slice s.saA s.am.length s.sac) s.am, rw_ eWN e (.slice s.sp.soA s.sp.sws.length s.sp.soc) s.sp.sws, rw_ eWN e (.slice s.sd.soA s.sd.sws.length s.sd.soc) s.sd.sws]) (hw.perm hp.perm) ?_ (fun hA y hy => ?_))
  · simp [nestZ, big, feet, List.flatMap_append, resZ, both, rowB]
  · rcases List.mem_append.1 hy with hy | hy
    · exact hA _ (List.mem_cons_self ..) y hy
    · simp only [List.mem_singleton] at hy; subst hy
      exact ⟨⟨hA _ (by simp), hb⟩, ⟨hA _ (by simp), hb2⟩, ⟨hA _ (by simp), hb3⟩⟩
end
structure CpI {α : Type} [Inhabited α] (er : α → α) (src X D : List α) (i : Int) : Prop where
  len : X.length = src.length
  rest : ∀ j : Int, i ≤ j → gt X j = gt src j
  done : D = X.take i.toNat
  same : ∀ j : Int, 0 ≤ j → j < i → er (gt X j) = er (gt src j)
section
variable {α : Type} [Inhabited α] {er : α → α} {src X D : List α} {i : Int}
theorem cp_init : CpI er src src [] 0 := ⟨rfl, fun _ _ => rfl, rfl, fun j h0 h1 => by omega⟩
theorem cp_next (h : CpI er src X D i) (h0 : 0 ≤ i) (h1 : i < (src.length : Int)) {z : α} (hz : er z = er (gt X i)) : CpI er src (X.set i.toNat z) (D ++ [z]) (i + 1) where
  len := by rw [List.length_set]; exact h.len
  rest j hj := by rw [gt_setn h0 (by omega) (by omega)]; exact h.rest j (by omega)
  done := by
    have hl := h.len
    rw [h.done, show (i + 1).toNat = i.toNat + 1 from by omega, List.take_add_one, List.take_set_of_le (Nat.le_refl _), List.getElem?_set_self (by omega)]; rfl
  same j hj0 hj1 := by
    have hl := h.len
    by_cases hj : j = i
    · subst hj; rw [gt_sets h0 (by omega), hz, h.rest j (Int.le_refl _)]
    · rw [gt_setn h0 hj0 (by omega)]; exact h.same j hj0 (by omega)
theorem cp_end (h : CpI er src X D i) (hi : ¬ i < (src.length : Int)) : D = X ∧ X.map er = src.map er := by
  have hl := h.len
  refine ⟨by rw [h.done, List.take_of_length_le (by omega)], List.ext_getElem (by simp [hl]) fun n h1 h2 => ?_⟩
  have h1' : n < X.length := by simpa using h1
  have h2' : n < src.length := by simpa using h2
  have := h.same n (by omega) (by omega)
  have e1 : gt X (n : Int) = X[n] := by simp [gt, List.getD_eq_getElem?_getD, h1']
  have e2 : gt src (n : Int) = src[n] := by simp [gt, List.getD_eq_getElem?_getD, h2']
  rw [e1, e2] at this
  simpa using this
end
end Go.SX
namespace Go.SX
open Go Go.RowKit
theorem flat_set {α : Type} {E : Enc α} : ∀ {l : List α} {n : Nat} {x y : α}, E.enc x = E.enc y → flat E (l.set n x) = flat E (l.set n y)
  | [], _, _, _, _ => rfl
  | a :: l, 0, x, y, h => by rw [List.set_cons_zero, List.set_cons_zero, flat_cons, flat_cons, h]
  | a :: l, n + 1, x, y, h => by rw [List.set_cons_succ, List.set_cons_succ, flat_cons, flat_cons, flat_set h]
theorem set_len2 {α : Type} {l : List α} {n : Nat} {x y : α} : (l.set n x).length = (l.set n y).length := by simp
end Go.SX
namespace Go.SX
open Go Go.RowKit
section
variable {V : Env} {P : Program} {Q : Exit → Act → World → Prop} {ops : Array Oper} {N fuel : Nat} {L L' : List (Nat × Value)} {H H' : List Res} {S : Nat → Prop} {wf : World} {B : World → Prop} {cs : List (Nat × (World → Prop))} {listed : Array Bool}
theorem SR.join {X : Type} (F : X → List (Nat × Value) × List Res) (fuel' : Nat) (listed' : Array Bool) (h1 : ∀ x, SR V P Q ops N B cs fuel' listed' ⟨(F x).1, (F x).2, S, wf⟩) (h2 : (∀ x, SR V P Q ops N B cs fuel' listed' ⟨(F x).1, (F x).2, S, wf⟩) → SR V P Q ops N B cs fuel listed ⟨L, H, S, wf⟩) : SR V P Q ops N B cs fuel listed ⟨L, H, S, wf⟩ := h2 h1
theorem SR.weakj {listed' : Array Bool} (h : SR V P Q ops N B cs fuel listed' ⟨L', H', S, wf⟩) (e : listed = listed') (hL : ∀ k v, lkp L' k = some v → lkp L k = some v) (hw : ∀ w, WW V S wf H w → WW V S wf H' w) : SR V P Q ops N B cs fuel listed ⟨L, H, S, wf⟩ := by
  subst e; exact fun a w hs hw' ht hc => h a w (hs.mono hL) (hw w hw') ht hc
end
end Go.SX
namespace Go.SX
open Go Go.RowKit
theorem ttr {V : Env} {H : List Res} {S : Nat → Prop} {wf : World} {α : Type} [Inhabited α] {E : Enc α} {e n c j : Nat} {A : Option Addr} {l : List α} {i : Int} {listed : Array Bool} (k : Nat) (hk : H[k]? = some (rw_ E e (.slice A n c) l)) (h0 : 0 ≤ i) (h1 : i < (l.length : Int)) : ∀ w, WW V S wf H w → TT (Fz S wf) [(j, fun w => At w (ab A) (ao A + i.toNat * E.sz) (E.enc (gt l i)))] listed w :=
  ttc (fun w hw => tc1 (row_el k hk h0 h1 w hw) tc0)
end Go.SX
namespace Go.SX
open Go Go.RowKit
def PutIn (p : PB) (s : List RC) (t : TK) (o : List RC) : Prop := ∃ v l, 0 ≤ v ∧ v < (p.vehs.length : Int) ∧ l ∈ waysF (visR v s) t ∧ (costP p v l).2 = 0 ∧ o = withF s v l
theorem insW_put {p : PB} {s : List RC} {t : TK} {v old : Int} (hv : 0 ≤ v ∧ v < (p.vehs.length : Int)) : ∀ {ls : List (List Vis)} {z : IS}, (∀ l ∈ ls, l ∈ waysF (visR v s) t) → (z.found = true → PutIn p s t z.out) → (insW p s v old ls z).found = true → PutIn p s t (insW p s v old ls z).out
  | [], z, _, hz, h => hz h
  | l :: r, z, hl, hz, h => by
    rw [insW_cons] at h ⊢
    refine insW_put hv (fun x hx => hl x (List.mem_cons_of_mem _ hx)) (fun h2 => ?_) h
    split at h2
    · rename_i hc
      rw [if_pos hc]
      exact ⟨v, l, hv.1, hv.2, hl l (List.mem_cons_self ..), hc.1, rfl⟩
    · rename_i hc
      rw [if_neg hc]; exact hz h2
theorem insV_put {p : PB} {s : List RC} {t : TK} : ∀ {f : Nat} {v : Int} {z : IS}, 0 ≤ v → v + f ≤ (p.vehs.length : Int) → (z.found = true → PutIn p s t z.out) → (insV p s t f v z).found = true → PutIn p s t (insV p s t f v z).out
  | 0, v, z, _, _, hz, h => hz h
  | f + 1, v, z, h0, h1, hz, h => by
    rw [insV] at h ⊢
    refine insV_put (by omega) (by omega) (fun h2 => ?_) h
    split at h2
    · rename_i hc; rw [if_pos hc]; exact hz h2
    · rename_i hc; rw [if_neg hc]; exact insW_put ⟨h0, by omega⟩ (fun l hl => hl) hz h2
theorem ins_put {p : PB} {s : List RC} {t : TK} (h : (insF p s t).found = true) : PutIn p s t (insF p s t).out :=
  insV_put (Int.le_refl _) (by omega) (fun h => by cases h) h
theorem ins1_perm {l : List Vis} {i : Int} {x : Vis} : (ins1 l i x).Perm (x :: l) := by
  have h : (l.take i.toNat ++ [x] ++ l.drop i.toNat).Perm ([x] ++ l.take i.toNat ++ l.drop i.toNat) := (List.perm_append_comm).append_right _
  have e : [x] ++ l.take i.toNat ++ l.drop i.toNat = x :: l := by simp
  rw [e] at h; exact h
theorem waysK_perm {one : List Vis} {y : Vis} : ∀ {f : Nat} {k : Int} {l : List Vis}, l ∈ waysK one y f k → l.Perm (y :: one)
  | 0, k, l, h => by cases h
  | f + 1, k, l, h => by
    rw [waysK] at h
    rcases List.mem_cons.1 h with rfl | h
    · exact ins1_perm
    · exact waysK_perm h
theorem ways_perm {l0 : List Vis} {t : TK} : ∀ {f : Nat} {i : Int} {l : List Vis}, l ∈ waysI l0 t f i → l.Perm (visT t ++ l0)
  | 0, i, l, h => by cases h
  | f + 1, i, l, h => by
    rw [waysI] at h
    rcases List.mem_append.1 h with h | h
    · unfold waysO at h
      split at h
      · rename_i hs
        have h1 := waysK_perm h
        refine h1.trans ?_
        have e : visT t = [gt (visT t) 0, gt (visT t) 1] := by unfold visT; rw [if_pos hs]; rfl
        rw [e]
        refine (List.Perm.cons _ ins1_perm).trans ?_
        exact List.Perm.swap _ _ _
      · rename_i hs
        simp only [List.mem_singleton] at h
        subst h
        have e : visT t = [gt (visT t) 0] := by unfold visT; rw [if_neg hs]; rfl
        rw [e]; exact ins1_perm
    · exact ways_perm h
def allV (s : List RC) : List Vis := s.flatMap (fun r => r.2)
structure SolI (p : PB) (s : List RC) : Prop where
  inc : s.Pairwise (fun x y => x.1 < y.1)
  rng : ∀ r ∈ s, 0 ≤ r.1 ∧ r.1 < (p.vehs.length : Int)
  non : ∀ r ∈ s, r.2 ≠ []
  fit : ∀ r ∈ s, (fitV p r.1 r.2).e = 0
theorem other_sub {v : Int} : ∀ {s : List RC}, (otherR v s).Sublist s
  | [] => .slnil
  | r :: s => by
    rw [otherR_cons]; split
    · exact other_sub.cons_cons _
    · exact other_sub.cons _
theorem vis_split {v : Int} : ∀ {s : List RC}, s.Pairwise (fun x y => x.1 < y.1) → (allV s).Perm (visR v s ++ allV (otherR v s))
  | [], _ => List.Perm.refl _
  | r :: s, h => by
    have h1 := List.pairwise_cons.1 h
    have ih := vis_split (v := v) h1.2
    rw [visR_cons, otherR_cons]
    by_cases hr : r.1 = v
    · rw [if_pos hr, if_neg (fun k => k hr)]
      have e : otherR v s = s := by
        have : ∀ {q : List RC}, (∀ y ∈ q, v < y.1) → otherR v q = q := fun {q} hq => by
          induction q with
          | nil => rfl
          | cons y q ih => rw [otherR_cons, if_pos (by have := hq y (List.mem_cons_self ..); omega), ih (fun z hz => hq z (List.mem_cons_of_mem _ hz))]
        exact this (fun y hy => by have := h1.1 y hy; omega)
      rw [e]; exact List.Perm.refl _
    · rw [if_neg hr, if_pos hr]
      show (r.2 ++ allV s).Perm (visR v s ++ (r.2 ++ allV (otherR v s)))
      refine (ih.append_left r.2).trans ?_
      rw [← List.append_assoc, ← List.append_assoc]
      exact (List.perm_append_comm).append_right _
theorem with_perm {s : List RC} {v : Int} {l : List Vis} (hl : 0 < l.length) : (withF s v l).Perm (otherR v s ++ [(v, l)]) := by
  unfold withF; rw [if_pos hl]; exact sort_perm
theorem with_vis {s : List RC} {v : Int} {l : List Vis} (hl : 0 < l.length) : (allV (withF s v l)).Perm (l ++ allV (otherR v s)) := by
  refine ((with_perm hl).flatMap_right _).trans ?_
  rw [List.flatMap_append]
  simp only [List.flatMap_cons, List.flatMap_nil, List.append_nil]
  exact List.perm_append_comm
theorem with_inc {s : List RC} {v : Int} {l : List Vis} (h : s.Pairwise (fun x y => x.1 < y.1)) (hl : 0 < l.length) : (withF s v l).Pairwise (fun x y => x.1 < y.1) := by
  have hs : SortedK (fun r : RC => r.1) (withF s v l) := (sort_stable ltV_key _).1
  have hd : (withF s v l).Pairwise (fun x y => x.1 ≠ y.1) := by
    have h1 : (otherR v s ++ [(v, l)]).Pairwise (fun x y : RC => x.1 ≠ y.1) := by
      refine List.pairwise_append.2 ⟨(h.sublist other_sub).imp (fun {a b} h => by omega), List.pairwise_singleton _ _, fun x hx y hy => ?_⟩
      simp only [List.mem_singleton] at hy; subst hy
      exact (otherR_mem hx).2
    exact (with_perm hl).symm.pairwise h1 (fun {a b} h => fun k => h k.symm)
  exact hs.imp₂ (fun a b h1 h2 => by have h1 : a.1 ≤ b.1 := h1; omega) hd
theorem sol_put {p : PB} {s o : List RC} {t : TK} (h : SolI p s) (hp : PutIn p s t o) : SolI p o ∧ (allV o).Perm (visT t ++ allV s) := by
  obtain ⟨v, l, h0, h1, h2, h3, rfl⟩ := hp
  have hpm : l.Perm (visT t ++ visR v s) := ways_perm h2
  have hl : 0 < l.length := by
    rw [hpm.length_eq, List.length_append]
    have := visT_len t
    omega
  refine ⟨⟨with_inc h.inc hl, fun r hr => ?_, fun r hr => ?_, fun r hr => ?_⟩, ?_⟩
  · rcases with_mem hr with ⟨h4, _⟩ | ⟨rfl, _⟩
    · exact h.rng r h4
    · exact ⟨h0, h1⟩
  · rcases with_mem hr with ⟨h4, _⟩ | ⟨rfl, h5⟩
    · exact h.non r h4
    · exact fun k => by have k : l = [] := k; subst k; exact Nat.lt_irrefl _ h5
  · rcases with_mem hr with ⟨h4, _⟩ | ⟨rfl, h5⟩
    · exact h.fit r h4
    · have : (costP p v l).2 = (fitV p v l).e := by unfold costP; rw [if_neg (by omega)]
      rw [← this]; exact h3
  · refine (with_vis hl).trans ?_
    refine ((hpm.append_right _).trans ?_)
    rw [List.append_assoc]
    exact (vis_split h.inc).symm.append_left _
theorem visT_nodup (t : TK) : (visT t).Nodup := by
  unfold visT; split <;> simp
theorem allT_nodup {a b : Nat} : (allT a b).Nodup ∧ ∀ t ∈ allT a b, 0 ≤ t.item := by
  constructor
  · unfold allT
    refine List.nodup_append.2 ⟨?_, ?_, fun x hx y hy e => ?_⟩
    · exact List.Pairwise.map _ (fun x y h k => h (by injection k with _ k; exact Int.ofNat.inj k)) List.nodup_range
    · exact List.Pairwise.map _ (fun x y h k => h (by injection k with _ k; exact Int.ofNat.inj k)) List.nodup_range
    · subst e
      obtain ⟨i, _, rfl⟩ := List.mem_map.1 hx
      obtain ⟨j, _, h⟩ := List.mem_map.1 hy
      injection h with h _; cases h
  · intro t ht
    unfold allT at ht
    rcases List.mem_append.1 ht with ht | ht <;> (obtain ⟨i, _, rfl⟩ := List.mem_map.1 ht; exact Int.natCast_nonneg _)
theorem taskL_nodup {p : PB} : (taskL p).Nodup ∧ ∀ t ∈ taskL p, 0 ≤ t.item := by
  unfold taskL
  exact ⟨sort_perm.nodup_iff.2 allT_nodup.1, fun t ht => allT_nodup.2 t (sort_perm.mem_iff.1 ht)⟩
end Go.SX
namespace Go.SX
open Go Go.RowKit
theorem RTF.sub {S : Nat → Prop} {wf : World} {l l' : List RT} (h : RTF S wf l) (hs : ∀ x ∈ l', x ∈ l) : RTF S wf l' := gt_all (Φ := fun r : RT => Fr eVis S wf r.rA r.vis) (fun x hx => by
  obtain ⟨n, hn, e⟩ := List.getElem_of_mem (hs x hx)
  have := h n
  rw [show gt l (n : Int) = x from by simp [gt, List.getD_eq_getElem?_getD, hn, e]] at this
  exact this) (Fr.nil _ _ _ _)
theorem allV_split {l : List RT} {i : Int} (h0 : 0 ≤ i) (h1 : i < (l.length : Int)) : allV (l.map rc) = allV ((l.take i.toNat).map rc) ++ ((gt l i).vis ++ allV ((l.drop (i + 1).toNat).map rc)) := by
  have e : l = l.take i.toNat ++ (gt l i :: l.drop (i + 1).toNat) := by rw [← drop_gt h0 h1]; exact (List.take_append_drop _ _).symm
  conv => lhs; rw [e]
  unfold allV; rw [List.map_append, List.flatMap_append]; rfl
theorem allV_take {l : List RT} {i : Int} (h0 : 0 ≤ i) (h1 : i < (l.length : Int)) : allV ((l.take (i + 1).toNat).map rc) = allV ((l.take i.toNat).map rc) ++ (gt l i).vis := by
  have hi : (i + 1).toNat = i.toNat + 1 := by omega
  have e : l.take (i + 1).toNat = l.take i.toNat ++ [gt l i] := by
    rw [hi, List.take_add_one, gt_at h0 h1]; rfl
  rw [e]; unfold allV; rw [List.map_append, List.flatMap_append]; simp [rc]
theorem nodup_no {l : List RT} (hN : (allV (l.map rc)).Nodup) {i j : Int} (h0 : 0 ≤ i) (h1 : i < (l.length : Int)) (h2 : 0 ≤ j) (h3 : j < ((gt l i).vis.length : Int)) : gt (gt l i).vis j ∉ allV ((l.take i.toNat).map rc) := fun h => by
  rw [allV_split h0 h1] at hN
  exact (List.nodup_append.1 hN).2.2 _ h _ (List.mem_append_left _ (gt_in h2 h3)) rfl
theorem sol_at {p : PB} {l : List RT} (h : SolI p (l.map rc)) {i : Int} (h0 : 0 ≤ i) (h1 : i < (l.length : Int)) : (0 ≤ (gt l i).veh ∧ (gt l i).veh < (p.vehs.length : Int)) ∧ 0 < (gt l i).vis.length ∧ (fitV p (gt l i).veh (gt l i).vis).e = 0 ∧ (0 < i → (gt l (i - 1)).veh < (gt l i).veh) := by
  have hm : rc (gt l i) ∈ l.map rc := List.mem_map_of_mem (gt_in h0 h1)
  refine ⟨h.rng _ hm, ?_, h.fit _ hm, fun hi => ?_⟩
  · have := h.non _ hm
    exact List.length_pos_iff.2 this
  · have hp := h.inc
    rw [List.pairwise_map] at hp
    have := List.pairwise_iff_getElem.1 hp (i - 1).toNat i.toNat (by omega) (by omega) (by omega)
    have e1 : gt l (i - 1) = l[(i - 1).toNat]'(by omega) := gt_some (List.getElem?_eq_getElem (by omega))
    have e2 : gt l i = l[i.toNat]'(by omega) := gt_some (List.getElem?_eq_getElem (by omega))
    rw [e1, e2]; exact this
theorem has_no {l : List RT} {x : Vis} {i : Int} (hq : ∀ j : Int, 0 ≤ j → j < i → x ∉ (gt l j).vis) (hi : i = (l.length : Int)) : x ∉ allV (l.map rc) := fun h => by
  obtain ⟨r, hr, hx⟩ := List.mem_flatMap.1 h
  obtain ⟨y, hy, rfl⟩ := List.mem_map.1 hr
  obtain ⟨n, hn, e⟩ := List.getElem_of_mem hy
  refine hq n (by omega) (by omega) ?_
  rw [show gt l (n : Int) = y from by simp [gt, List.getD_eq_getElem?_getD, hn, e]]; exact hx
theorem has_yes {l : List RT} {x : Vis} {i j : Int} (h0 : 0 ≤ i) (h1 : i < (l.length : Int)) (h2 : 0 ≤ j) (h3 : j < ((gt l i).vis.length : Int)) (h : gt (gt l i).vis j = x) : x ∈ allV (l.map rc) := by
  subst h
  exact List.mem_flatMap.2 ⟨rc (gt l i), List.mem_map_of_mem (gt_in h0 h1), gt_in h2 h3⟩
theorem not_in {l : List Vis} {x : Vis} {j : Int} (hq : ∀ k : Int, 0 ≤ k → k < j → ¬ gt l k = x) (hj : j = (l.length : Int)) : x ∉ l := fun h => by
  obtain ⟨n, hn, e⟩ := List.getElem_of_mem h
  refine hq n (by omega) (by omega) ?_
  rw [← e]; simp [gt, List.getD_eq_getElem?_getD, hn]
end Go.SX
namespace Go.SX
open Go Go.RowKit
theorem vis_of {x y : Vis} (h : x.kind = y.kind ∧ x.item = y.item) : x = y := vis_ext h.1 h.2
theorem vis_no {x y : Vis} (h : ¬ (x.kind = y.kind ∧ x.item = y.item)) : ¬ x = y := fun e => h (by rw [e]; exact ⟨rfl, rfl⟩)
end Go.SX
namespace Go.SX
open Go Go.RowKit
theorem vis_sub {l l' : List RT} {a b : Nat} (hs : ∀ x ∈ l', x ∈ l) (h : ∀ i : Int, (gt l i).vis.length ≤ a) (hab : a ≤ b) : ∀ i : Int, (gt l' i).vis.length ≤ b := gt_all (Φ := fun r : RT => r.vis.length ≤ b) (fun x hx => by
  obtain ⟨n, hn, e⟩ := List.getElem_of_mem (hs x hx)
  have := h n
  rw [show gt l (n : Int) = x from gt_some (by simp [hn, e])] at this
  omega) (Nat.zero_le _)
end Go.SX
namespace Go.SX
open Go Go.RowKit
theorem ins_e2 {p q : PB} (h : era q = era p) {s : List RC} {t : TK} : insF q s t = insF p s t := by rw [← ins_e (p := q), h, ins_e]
def PutC (p : PB) (s : List RC) (t : TK) (z : IS) : Prop := ∃ v l, 0 ≤ v ∧ v < (p.vehs.length : Int) ∧ l ∈ waysF (visR v s) t ∧ (costP p v l).2 = 0 ∧ z.out = withF s v l ∧ z.best = (costP p v l).1 - (costP p v (visR v s)).1
theorem insW_putc {p : PB} {s : List RC} {t : TK} {v : Int} (hv : 0 ≤ v ∧ v < (p.vehs.length : Int)) : ∀ {ls : List (List Vis)} {z : IS}, (∀ l ∈ ls, l ∈ waysF (visR v s) t) → (z.found = true → PutC p s t z) → (insW p s v (costP p v (visR v s)).1 ls z).found = true → PutC p s t (insW p s v (costP p v (visR v s)).1 ls z)
  | [], z, _, hz, h => hz h
  | l :: r, z, hl, hz, h => by
    rw [insW_cons] at h ⊢
    refine insW_putc hv (fun x hx => hl x (List.mem_cons_of_mem _ hx)) (fun h2 => ?_) h
    split at h2
    · rename_i hc
      rw [if_pos hc]
      exact ⟨v, l, hv.1, hv.2, hl l (List.mem_cons_self ..), hc.1, rfl, rfl⟩
    · rename_i hc
      rw [if_neg hc]; exact hz h2
theorem insV_putc {p : PB} {s : List RC} {t : TK} : ∀ {f : Nat} {v : Int} {z : IS}, 0 ≤ v → v + f ≤ (p.vehs.length : Int) → (z.found = true → PutC p s t z) → (insV p s t f v z).found = true → PutC p s t (insV p s t f v z)
  | 0, v, z, _, _, hz, h => hz h
  | f + 1, v, z, h0, h1, hz, h => by
    rw [insV] at h ⊢
    refine insV_putc (by omega) (by omega) (fun h2 => ?_) h
    split at h2
    · rename_i hc; rw [if_pos hc]; exact hz h2
    · rename_i hc; rw [if_neg hc]; exact insW_putc ⟨h0, by omega⟩ (fun l hl => hl) hz h2
theorem ins_putc {p : PB} {s : List RC} {t : TK} (h : (insF p s t).found = true) : PutC p s t (insF p s t) :=
  insV_putc (Int.le_refl _) (by omega) (fun h => by cases h) h
theorem insW_nf {p : PB} {s : List RC} {v old : Int} : ∀ {ls : List (List Vis)} {z : IS}, (z.found = true ∨ (z.best = 0 ∧ z.out = [])) → ((insW p s v old ls z).found = true ∨ ((insW p s v old ls z).best = 0 ∧ (insW p s v old ls z).out = []))
  | [], z, h => h
  | l :: r, z, h => by
    rw [insW_cons]
    refine insW_nf ?_
    split
    · exact .inl rfl
    · exact h
theorem insV_nf {p : PB} {s : List RC} {t : TK} : ∀ {f : Nat} {v : Int} {z : IS}, (z.found = true ∨ (z.best = 0 ∧ z.out = [])) → ((insV p s t f v z).found = true ∨ ((insV p s t f v z).best = 0 ∧ (insV p s t f v z).out = []))
  | 0, v, z, h => h
  | f + 1, v, z, h => by
    rw [insV]
    refine insV_nf ?_
    split
    · exact h
    · exact insW_nf h
theorem ins_nf {p : PB} {s : List RC} {t : TK} (h : ¬ (insF p s t).found = true) : (insF p s t).best = 0 ∧ (insF p s t).out = [] :=
  (insV_nf (.inr ⟨rfl, rfl⟩)).elim (fun k => absurd k h) id
def isum {α : Type} (f : α → Int) : List α → Int
  | [] => 0
  | x :: l => f x + isum f l
section
variable {α β : Type} {f : α → Int}
theorem isum_app {l m : List α} : isum f (l ++ m) = isum f l + isum f m := by
  induction l with
  | nil => simp [isum]
  | cons x l ih => simp only [List.cons_append, isum, ih]; omega
theorem isum_perm {l m : List α} (h : l.Perm m) : isum f l = isum f m := by
  induction h with
  | nil => rfl
  | cons x _ ih => simp only [isum, ih]
  | swap x y l => simp only [isum]; omega
  | trans _ _ a b => exact a.trans b
end
def cstR (p : PB) (s : List RC) : Int := isum (fun r : RC => (fitV p r.1 r.2).cost) s
def valV (p : PB) (x : Vis) : Int := if x.kind ≠ 3 then prioF p (taskV x) else 0
def valR (p : PB) (s : List RC) : Int := isum (valV p) (allV s)
theorem cst_split {p : PB} {v : Int} : ∀ {s : List RC}, s.Pairwise (fun x y => x.1 < y.1) → (∀ r ∈ s, r.2 ≠ []) → cstR p s = (costP p v (visR v s)).1 + cstR p (otherR v s)
  | [], _, _ => rfl
  | r :: s, h, hn => by
    have h1 := List.pairwise_cons.1 h
    have ih := cst_split (p := p) (v := v) h1.2 (fun x hx => hn x (List.mem_cons_of_mem _ hx))
    rw [visR_cons, otherR_cons]
    by_cases hr : r.1 = v
    · rw [if_pos hr, if_neg (fun k => k hr)]
      have e : ∀ {q : List RC}, (∀ y ∈ q, v < y.1) → otherR v q = q := fun {q} hq => by
        induction q with
        | nil => rfl
        | cons y q ih => rw [otherR_cons, if_pos (by have := hq y (List.mem_cons_self ..); omega), ih (fun z hz => hq z (List.mem_cons_of_mem _ hz))]
      rw [e (fun y hy => by have := h1.1 y hy; omega)]
      have hl : ¬ r.2.length = 0 := fun k => hn r (List.mem_cons_self ..) (List.eq_nil_of_length_eq_zero k)
      show (fitV p r.1 r.2).cost + cstR p s = _
      unfold costP; rw [if_neg hl, hr]
    · rw [if_neg hr, if_pos hr]
      show (fitV p r.1 r.2).cost + cstR p s = _ + ((fitV p r.1 r.2).cost + cstR p (otherR v s))
      rw [ih]; omega
theorem put_cost {p : PB} {s : List RC} {t : TK} {z : IS} (h : SolI p s) (hp : PutC p s t z) : cstR p z.out = cstR p s + z.best := by
  obtain ⟨v, l, h0, h1, h2, h3, h4, h5⟩ := hp
  have hpm : l.Perm (visT t ++ visR v s) := ways_perm h2
  have hl : 0 < l.length := by
    rw [hpm.length_eq, List.length_append]
    have := visT_len t
    omega
  rw [h4, h5, cst_split (p := p) (v := v) h.inc h.non]
  unfold cstR
  rw [isum_perm (with_perm hl), isum_app]
  have : (costP p v l).1 = (fitV p v l).cost := by unfold costP; rw [if_neg (by omega)]
  simp only [isum, this]; omega
theorem val_task (p : PB) (t : TK) : isum (valV p) (visT t) = prioF p t := by
  obtain ⟨sh, it⟩ := t
  cases sh with
  | true => simp [visT, isum, valV, taskV]
  | false => simp [visT, isum, valV, taskV]
theorem put_val {p : PB} {s o : List RC} {t : TK} (h : (allV o).Perm (visT t ++ allV s)) : valR p o = valR p s + prioF p t := by
  unfold valR; rw [isum_perm h, isum_app, val_task]; omega
theorem times_cost5 {p : PB} (L : LawP p) {v : VH} {l : List Vis} (hv : 0 ≤ v.fix ∧ v.fix ≤ 1000000 ∧ 0 ≤ v.pt ∧ v.pt ≤ 1000000 ∧ 0 ≤ v.pd ∧ v.pd ≤ 1000000) (hl : l.length ≤ 60) : -4100000000000000 ≤ (timesF p v l).cost ∧ (timesF p v l).cost ≤ 4100000000000000 := by
  unfold timesF
  split
  · rename_i s hs
    have b := timesR_bd L (m := 0) hs (by simp) (by simp)
    have c1 : -1 ≤ tcell p s.pl v.en ∧ tcell p s.pl v.en ≤ 32000000 := cellF_rng L.tc
    have c2 : -1 ≤ dcell p s.pl v.en ∧ dcell p s.pl v.en ≤ 32000000 := cellF_rng L.dc
    unfold tmEnd
    split
    · exact ⟨by decide, by decide⟩
    · have m1 : ∀ {a q : Int}, -2000000000 ≤ a → a ≤ 2000000000 → 0 ≤ q → q ≤ 1000000 → -2000000000000000 ≤ a * q ∧ a * q ≤ 2000000000000000 := fun {a q} h1 h2 h3 h4 => by
        have e : (a * q).natAbs ≤ 2000000000000000 := by
          rw [Int.natAbs_mul]
          exact Nat.mul_le_mul (show a.natAbs ≤ 2000000000 by omega) (show q.natAbs ≤ 1000000 by omega)
        omega
      have k1 := m1 (a := s.time + tcell p s.pl v.en) (q := v.pt) (by omega) (by omega) (by omega) (by omega)
      have k2 := m1 (a := s.dist + dcell p s.pl v.en) (q := v.pd) (by omega) (by omega) (by omega) (by omega)
      dsimp only
      omega
  · exact ⟨by decide, by decide⟩
theorem plan_cost5 {p : PB} (L : LawP p) {k : Int} {l : List Vis} (hl : l.length ≤ 60) : -4100000000000000 ≤ (planP p k l).cost ∧ (planP p k l).cost ≤ 4100000000000000 := by
  unfold planP
  split
  · exact ⟨by decide, by decide⟩
  · rename_i h
    split
    · exact ⟨Int.le_trans (by decide) (Int.le_refl 0), Int.le_trans (Int.le_refl 0) (by decide)⟩
    · have V := L.veh k (by omega) (by omega)
      exact times_cost5 L ⟨V.fix.1, V.fix.2, V.pt.1, V.pt.2, V.pd.1, V.pd.2⟩ hl
theorem fit_cost5 {p : PB} (L : LawP p) {k : Int} {l : List Vis} (hl : l.length ≤ 50) : -4100000000000000 ≤ (fitV p k l).cost ∧ (fitV p k l).cost ≤ 4100000000000000 := by
  unfold fitV
  split
  · exact ⟨by decide, by decide⟩
  · rename_i h
    split
    · exact ⟨by decide, by decide⟩
    · have V := L.veh k (by omega) (by omega)
      refine firstC_all (Q := fun r => -4100000000000000 ≤ r.cost ∧ r.cost ≤ 4100000000000000) ⟨by decide, by decide⟩ (fun c hc => plan_cost5 L ?_)
      have h1 := cands_len (m := (l.length : Int)) (a := zerosB p k) (by unfold zerosB; rw [List.length_replicate]; exact V.brs) c hc
      have h2 := setR_len (l := l) (i := 0) (k := 0) (r := c)
      omega
def GInv (p : PB) (t : TK) (ts : List TK) (s : List RC) : Prop := SolI p s ∧ ∃ D : List TK, (allV s).Perm (D.flatMap visT) ∧ D.Nodup ∧ ∀ x ∈ D, x ≠ t ∧ x ∈ ts
theorem g_init {p : PB} {t : TK} : GInv p t [] [] := ⟨⟨List.Pairwise.nil, fun r h => (by cases h), fun r h => (by cases h), fun r h => (by cases h)⟩, [], List.Perm.refl _, List.nodup_nil, fun x h => by cases h⟩
theorem g_skip {p : PB} {t x : TK} {ts : List TK} {s : List RC} (h : GInv p t ts s) : GInv p t (ts ++ [x]) s := by
  obtain ⟨a, D, b, c, d⟩ := h
  exact ⟨a, D, b, c, fun y hy => ⟨(d y hy).1, List.mem_append_left _ (d y hy).2⟩⟩
theorem g_put {p : PB} {t x : TK} {ts : List TK} {s : List RC} (h : GInv p t ts s) (hx : x ≠ t) (hn : x ∉ ts) (hf : (insF p s x).found = true) : GInv p t (ts ++ [x]) (insF p s x).out := by
  obtain ⟨a, D, b, c, d⟩ := h
  obtain ⟨h1, h2⟩ := sol_put a (ins_put hf)
  refine ⟨h1, x :: D, h2.trans (by rw [List.flatMap_cons]; exact b.append_left _), List.nodup_cons.2 ⟨fun k => hn (d x k).2, c⟩, fun y hy => ?_⟩
  rcases List.mem_cons.1 hy with rfl | hy
  · exact ⟨hx, by simp⟩
  · exact ⟨(d y hy).1, List.mem_append_left _ (d y hy).2⟩
theorem visT_task2 {t : TK} {x : Vis} (hx : x ∈ visT t) : taskV x = t := by
  obtain ⟨sh, it⟩ := t
  cases sh with
  | true =>
    simp [visT] at hx
    rcases hx with rfl | rfl <;> rfl
  | false => simp [visT] at hx; subst hx; rfl
theorem flat_nodup2 : ∀ {D : List TK}, D.Nodup → (D.flatMap visT).Nodup
  | [], _ => List.nodup_nil
  | t :: D, h => by
    have h1 := List.nodup_cons.1 h
    rw [List.flatMap_cons]
    refine List.nodup_append.2 ⟨visT_nodup t, flat_nodup2 h1.2, fun x hx y hy e => ?_⟩
    subst e
    obtain ⟨t2, h2, h3⟩ := List.mem_flatMap.1 hy
    have e1 := visT_task2 hx
    have e2 := visT_task2 h3
    rw [e1] at e2; subst e2; exact h1.1 h2
theorem g_end {p : PB} {t : TK} {ts : List TK} {s : List RC} (h : GInv p t ts s) (hf : (insF p s t).found = true) : SolI p s ∧ SolI p (insF p s t).out ∧ (allV (insF p s t).out).Nodup ∧ cstR p (insF p s t).out = cstR p s + (insF p s t).best ∧ valR p (insF p s t).out = valR p s + prioF p t := by
  obtain ⟨a, D, b, c, d⟩ := h
  obtain ⟨h1, h2⟩ := sol_put a (ins_put hf)
  refine ⟨a, h1, ?_, put_cost a (ins_putc hf), put_val h2⟩
  have h3 : (allV (insF p s t).out).Perm ((t :: D).flatMap visT) := h2.trans (by rw [List.flatMap_cons]; exact b.append_left _)
  exact h3.nodup_iff.2 (flat_nodup2 (List.nodup_cons.2 ⟨fun k => (d t k).1 rfl, c⟩))
end Go.SX
namespace Go.SX
open Go Go.RowKit
theorem cst_take {p : PB} {l : List RT} {i : Int} (h0 : 0 ≤ i) (h1 : i < (l.length : Int)) : cstR p ((l.take (i + 1).toNat).map rc) = cstR p ((l.take i.toNat).map rc) + (fitV p (gt l i).veh (gt l i).vis).cost := by
  have hi : (i + 1).toNat = i.toNat + 1 := by omega
  have e : l.take (i + 1).toNat = l.take i.toNat ++ [gt l i] := by rw [hi, List.take_add_one, gt_at h0 h1]; rfl
  rw [e, List.map_append]; unfold cstR; rw [isum_app]; simp [isum, rc]
theorem val_take {p : PB} {l : List RT} {i : Int} (h0 : 0 ≤ i) (h1 : i < (l.length : Int)) : valR p ((l.take (i + 1).toNat).map rc) = valR p ((l.take i.toNat).map rc) + isum (valV p) (gt l i).vis := by
  unfold valR; rw [allV_take h0 h1, isum_app]
theorem val_in {p : PB} {l : List Vis} {j : Int} (h0 : 0 ≤ j) (h1 : j < (l.length : Int)) : isum (valV p) (l.take (j + 1).toNat) = isum (valV p) (l.take j.toNat) + valV p (gt l j) := by
  rw [take_gt h0 h1, isum_app]; simp [isum]
theorem valV_no {p : PB} {x : Vis} (h : ¬ ¬ x.kind = 3) : valV p x = 0 := if_neg (fun k => h (fun e => k e))
theorem valV_ok {p : PB} {x : Vis} (h : ¬ x.kind = 3) : valV p x = prioF p (taskV x) := if_pos h
theorem taskL_no {p : PB} {i : Int} (h0 : 0 ≤ i) (h1 : i < ((taskL p).length : Int)) : gt (taskL p) i ∉ (taskL p).take i.toNat := fun h => by
  have hn := (taskL_nodup (p := p)).1
  have e : taskL p = (taskL p).take i.toNat ++ (gt (taskL p) i :: (taskL p).drop (i + 1).toNat) := by rw [← drop_gt h0 h1]; exact (List.take_append_drop _ _).symm
  rw [e] at hn
  exact (List.nodup_append.1 hn).2.2 _ h _ (List.mem_cons_self ..) rfl
theorem tk_ne {x y : TK} (h : ¬ ((x.ship == y.ship) = true ∧ x.item = y.item)) : x ≠ y := fun e => h (by rw [e]; exact ⟨beq_self_eq_true _, rfl⟩)
end Go.SX
namespace Go.SX
open Go Go.RowKit
theorem cb_tf {x y : Bool} : (x && !y) = ((x == true) && (y == false)) := by cases x <;> cases y <;> rfl
theorem cb_ft {x y : Bool} : (!x && y) = ((x == false) && (y == true)) := by cases x <;> cases y <;> rfl
theorem gvn {b b1 c w1 want : Bool} {v : Value} (hc : c = ((b1 == w1) && (b == want))) (hb : b1 = w1) : gv c true v = gv b want v := by
  subst hb hc
  cases b1 <;> cases b <;> cases want <;> rfl
theorem lkgn {L : List (Nat × Value)} {x : Operand} {b b1 c w1 want : Bool} {v : Value} (h : lk L x = some (gv c true v)) (hc : c = ((b1 == w1) && (b == want))) (hb : b1 = w1) : lk L x = some (gv b want v) := by
  rw [h, gvn hc hb]
section
variable {V : Env} {P : Program} {Q : Exit → Act → World → Prop} {ops : Array Oper} {N : Nat} {o : Oper} {rest : List Oper} {L : List (Nat × Value)} {H : List Res} {S : Nat → Prop} {wf : World} {K : St → Prop} {st : St}
  {B : World → Prop} {cs : List (Nat × (World → Prop))} {fuel : Nat} {listed : Array Bool}
theorem yielded_gv {a : Act} {g t : Nat} {b b1 w1 : Bool} (hs : SL N L a) (ht : (ops[g]?).bind (·.dst) = some t) (hL : lkp L t = some (gv b1 w1 (.bool b))) : yielded ops a.tmps g = if b1 = w1 then some b else none := by
  by_cases hb : b1 = w1
  · rw [if_pos hb]
    rw [gv, if_pos hb] at hL
    exact yielded_of hs ht hL
  · rw [if_neg hb]
    rw [gv, if_neg hb] at hL
    have h := hs.2.2 t _ hL
    simp only [yielded, ht]
    cases hq : a.tmps[t]? with
    | none => simp [hq]
    | some u =>
      rw [Array.getD_eq_getD_getElem?, hq] at h
      simp at h
      subst h
      simp [hq, undef]
theorem SR.ggtake {v : Value} {d g t : Nat} {want b b1 w1 c : Bool} (i : Nat) (hc : c = ((b1 == w1) && (b == want))) (hi : ops[i]? = some o) (hs : Region.noSelect ops = true) (hf : Region.free .any ops listed i = true) (hr : (Region.ready .any ops listed).contains i = true)
    (hni : (cs.map (·.1)).contains i = false) (hQ : ∀ c a w v, Q (.panic c) (a.put o.dst v) w → Q (.panic c) a w) (hg : o.guard = some (g, want)) (ht : (ops[g]?).bind (·.dst) = some t) (hL : lkp L t = some (gv b1 w1 (.bool b))) (hd : o.dst = some d) (hdN : Nat.blt d N = true)
    (h : b1 = w1 → c = true → Ev P (fun w => B w ∧ ∀ c ∈ cs, waitsFor ops c.1 i = true → c.2 w) L o v)
    (k : SR V P Q ops N B cs fuel (listed.setIfInBounds i true) ⟨(d, gv c true v) :: L, H, S, wf⟩) : SR V P Q ops N B cs (fuel + 1) listed ⟨L, H, S, wf⟩ := by
  intro a w hsl hw hT hcl
  have hr' : i ∈ Region.ready .any ops listed := by simpa using hr
  have hni' : ∀ c ∈ cs, c.1 ≠ i := fun c hc e => by
    have : (cs.map (·.1)).contains i = true := by simp; exact ⟨c.2, by rw [← e]; exact hc⟩
    rw [this] at hni
    cases hni
  have hy := yielded_gv hsl ht hL
  refine wpAnyJ_first (v := gv c true v) hi (Region.noSelect_spec hs) (fun c a w h => hQ c a w _ h) hni' fuel listed a w hcl (Region.free_spec hi hf) hr' ?_ hT ?_
  · by_cases hb1 : b1 = w1
    · rw [if_pos hb1] at hy
      by_cases hb : b = want
      · have hct : c = true := by rw [hc, hb1, hb]; simp
        have h' := h hb1 hct
        refine .inl ⟨by simp [Region.wanted, hg, hy, hb], fun w' hw' => ?_⟩
        rw [exec_ev hsl h'.1 h'.2.1, show gv c true v = v from if_pos hct]
        exact h'.2.2 w' hw'
      · have hcf : ¬ c = true := by rw [hc, hb1]; simp [hb]
        exact .inr ⟨by simp [Region.wanted, hg, hy, hb], if_neg hcf⟩
    · rw [if_neg hb1] at hy
      have hcf : ¬ c = true := by rw [hc]; simp [hb1]
      exact .inr ⟨by simp [Region.wanted, hg, hy], if_neg hcf⟩
  · rw [hd]
    exact k _ _ (hsl.put hdN _) hw ((TT.set hni').2 hT) (hcl.set hr')
theorem Ev.ggstep {d g t : Nat} {want b b1 w1 c : Bool} {v : Value} (hc : c = ((b1 == w1) && (b == want))) (h : b1 = w1 → c = true → Ev P (WW V S wf H) L o v)
    (hg : o.guard = some (g, want)) (ht : (ops[g]?).bind (·.dst) = some t) (hL : lkp L t = some (gv b1 w1 (.bool b))) (hd : o.dst = some d) (hdN : Nat.blt d N = true)
    (k : K ⟨(d, gv c true v) :: L, H, S, wf⟩) : OpStep V P Q ops N o ⟨L, H, S, wf⟩ K := by
  intro a w hs hw J hJ
  unfold Step1
  have hy := yielded_gv hs ht hL
  by_cases hct : c = true
  · have h12 : b1 = w1 ∧ b = want := by rw [hc] at hct; simpa using hct
    obtain ⟨hn, hk, h⟩ := h h12.1 hct
    rw [if_pos h12.1] at hy
    rw [if_pos (by simp [Region.wanted, hg, hy, h12.2])]
    rw [show gv c true v = v from if_pos hct] at k
    refine .inl ?_
    unfold Oper.wp
    rw [exec_ev hs hn hk, h w hw, Oper.upon_value, hd]
    exact hJ _ k _ _ (hs.put hdN v) hw
  · have hno : Region.wanted o (yielded ops a.tmps) = false := by
      by_cases hb1 : b1 = w1
      · rw [if_pos hb1] at hy
        have : ¬ b = want := fun e => hct (by rw [hc, hb1, e]; simp)
        simp [Region.wanted, hg, hy, this]
      · rw [if_neg hb1] at hy
        simp [Region.wanted, hg, hy]
    rw [if_neg (by simp [hno]), hd]
    rw [show gv c true v = undef from if_neg hct] at k
    exact hJ _ k _ _ (hs.put hdN undef) hw
end
end Go.SX
set_option maxRecDepth 20000
set_option maxHeartbeats 1000000
namespace Go.Proofs.Ytdpmnodiebpjeaa.Sx.FA
open Go Go.SX Go.Proofs
theorem hbd111 : hasBody Try.prog 111 = true := by kernel_rfl
theorem hbd109 : hasBody Try.prog 109 = true := by kernel_rfl
theorem ai3 : (Try.prog.info? 3).map (fun i => (i.zero, i.size, i.bytes)) = some (some (.int .i64 0), 1, 8) := by kernel_rfl
theorem ty3 : ty Try.prog 3 = some (false, 1) := by kernel_rfl
theorem mo : Try.prog.follows .mixedOrders = true := by kernel_rfl
theorem hbd108 : hasBody Try.prog 108 = true := by kernel_rfl
theorem hbd110 : hasBody Try.prog 110 = true := by kernel_rfl
theorem ty72 : ty Try.prog 72 = some (true, 2) := by kernel_rfl
theorem zf72 : (Try.prog.info? 72).bind (fun i => i.zero.map Value.cells) = some (List.toArray [.int .i64 0, .int .i64 0]) := by kernel_rfl
theorem fo72_1 : fo Try.prog 72 1 = some 1 := by kernel_rfl
theorem fo72_0 : fo Try.prog 72 0 = some 0 := by kernel_rfl
end Go.Proofs.Ytdpmnodiebpjeaa.Sx.FA
namespace Go.Proofs.Ytdpmnodiebpjeaa.Sx
open Go Go.SX Go.Proofs FA
theorem fits_ (a : Int) (S : Nat → Prop) (wf : World) :
  TR0 Try.prog 111 [.int .i64 a] [] S wf (fun v_ C_ => v_ = .bool (decide (a ≥ (-4611686018427387903)) && decide (a ≤ 4611686018427387903)) ∧ C_ = []) := by
 refine TR.mk Try.func111 rfl Try.ntmps111 rfl rfl (fun w_ => ?_)
 refine .seq (.region (.a rfl rfl rfl (.go idQ (.seq (.region ?_)))))
 refine .m rfl rfl rfl (.v (ev_cmp rfl rfl rfl rfl) rfl (.m rfl rfl rfl (.w (fun _ => ev_mv rfl rfl) rfl (.w (fun hb => ev_cmp rfl (lkg rfl hb) rfl rfl) rfl (.v (ev_and rfl rfl rfl rfl) rfl ?_)))))
 exact .a rfl rfl rfl (.go idQ (.ret idQ (ret1 Try.results111 rfl .n ⟨rfl, rfl⟩)))
theorem nadd_ (a : Int) (b : Int) (S : Nat → Prop) (wf : World) (h_a : -1000000000000 ≤ a ∧ a ≤ 1000000000000) (h_b : -1000000000000 ≤ b ∧ b ≤ 1000000000000) :
  TR0 Try.prog 109 [.int .i64 a, .int .i64 b] [] S wf (fun v_ C_ => v_ = .tuple #[.int .i64 (a + b), .int .i64 0] ∧ C_ = []) := by
 refine TR.mk Try.func109 rfl Try.ntmps109 rfl rfl (fun w_ => ?_)
 refine .seq (.region (.a rfl rfl rfl (.a rfl rfl rfl (.go idQ (.seq ?_)))))
 refine .seq (.region (.m rfl rfl rfl (.cons (st_callk rfl rfl rfl rfl hbd111 rfl .n (fits_ a _ _) (.v (ev_not rfl rfl) rfl (.m rfl rfl rfl ?_))))))
 refine .w (fun _ => ev_mv rfl rfl) rfl (.cons (st_gcallk rfl rfl rfl rfl rfl rfl hbd111 (fun hb => (lkA1 (lkg rfl hb) lkA0)) .n (fun hb => have hp := bF (bN (bA bD bD)) hb; fits_ b _ _) (.w (fun hb => ev_not rfl (lkg rfl hb)) rfl (.v (ev_or rfl rfl rfl rfl) rfl (.m rfl rfl rfl (.w (fun _ => ev_mv rfl rfl) rfl ?_))))))
 refine .w (fun _ => ev_mv rfl rfl) rfl (.w (fun hb => have hp := bF (bO (bN (bA bD bD)) (bN (bA bD bD))) hb; ev_add rfl (lkg rfl hb) (lkg rfl hb) (r := (a + b)) rfl (by have _h := hp; omega) (by have _h := hp; omega)) rfl (.cons (st_gcallk rfl rfl rfl rfl rfl rfl hbd111 (fun hb => (lkA1 (lkg rfl hb) lkA0)) .n (fun hb => have hp := bF (bO (bN (bA bD bD)) (bN (bA bD bD))) hb; fits_ (a + b) _ _) (.w (fun hb => ev_not rfl (lkg rfl hb)) rfl (.v (ev_or rfl rfl rfl rfl) rfl (.go idQ ?_))))))
 refine .condI rfl (bO (bO (bN (bA bD bD)) (bN (bA bD bD))) (bN (bA bD bD))) (fun h1 => ?_) (fun h1 => ?_)
 ·
  exfalso; omega
 refine .skipgo idQ (.seq (.region (.m rfl rfl rfl (.m rfl rfl rfl (.v (ev_add rfl rfl rfl (r := (a + b)) rfl (by omega) (by omega)) rfl ?_)))))
 exact .a rfl rfl rfl (.a rfl rfl rfl (.go idQ (.ret idQ (ret2 Try.results109 rfl rfl .n ⟨rfl, rfl⟩))))
theorem lsub1_ (a : Int) (b : Int) (S : Nat → Prop) (wf : World) (h_a : -1000000000000 ≤ a ∧ a ≤ 1000000000000) (h_b : -1000000000000 ≤ b ∧ b ≤ 1000000000000) :
  TR0 Try.prog 110 [.int .i64 a, .int .i64 b] [] S wf (fun v_ C_ => v_ = .tuple #[.int .i64 (a + (-b)), .int .i64 0] ∧ C_ = []) := by
 refine TR.mk Try.func110 rfl Try.ntmps110 rfl rfl (fun w_ => ?_)
 refine .seq (.region (.a rfl rfl rfl (.a rfl rfl rfl (.go idQ (.seq ?_)))))
 refine .seq (.region (.m rfl rfl rfl (.cons (st_callk rfl rfl rfl rfl hbd111 rfl .n (fits_ b _ _) (.v (ev_not rfl rfl) rfl (.go idQ ?_))))))
 refine .condI rfl (bN (bA bD bD)) (fun h1 => ?_) (fun h1 => ?_)
 ·
  exfalso; omega
 refine .skipgo idQ (.seq (.region (.m rfl rfl rfl (.m rfl rfl rfl (.v (ev_neg rfl rfl (by omega) (by omega)) rfl ?_)))))
 refine .cons (st_callk rfl rfl rfl rfl hbd109 rfl .n (nadd_ a (-b) _ _ (by omega) (by omega)) (.v (ev_ext rfl rfl rfl) rfl (.v (ev_ext rfl rfl rfl) rfl (.a rfl rfl rfl (.a rfl rfl rfl (.go idQ ?_))))))
 exact .ret idQ (ret2 Try.results110 rfl rfl .n ⟨rfl, rfl⟩)
theorem lzero_ (n : Int) (S : Nat → Prop) (wf : World) (hn : 0 ≤ n ∧ n ≤ 3) :
  TR0 Try.prog 105 [.int .i64 n] [] S wf (fun v_ C_ => ∃ (u : Value), v_ = u ∧ C_ = [rw_ eZ 3 (u) (List.replicate (n).toNat 0)]) := by
 refine TR.mk Try.func105 rfl Try.ntmps105 rfl rfl (fun w_ => ?_)
 refine .seq (.region (.a rfl rfl rfl (.go idQ (.seq (.seq ?_)))))
 refine .region (.m rfl rfl rfl (.v (ev_cmp rfl rfl rfl rfl) rfl (.m rfl rfl rfl (.w (fun _ => ev_mv rfl rfl) rfl (.w (fun hb => ev_cmp rfl (lkg rfl hb) rfl rfl) rfl ?_)))))
 refine .v (ev_or rfl rfl rfl rfl) rfl (.go idQ (.condI rfl (bO bD bD) (fun h1 => ?_) (fun h1 => ?_)))
 ·
  exfalso; omega
 refine .skipgo idQ (.seq (.region (.m rfl rfl rfl (.cons (st_mkints (q := .i64) (n := (n).toNat) rfl rfl rfl rfl Try.underlying22 ai3 rfl rfl (by omega) (by omega) rfl (fun b2 => .a rfl rfl rfl ?_))))))
 exact .go idQ (.ret idQ (ret1 Try.results105 rfl (.c .h .n) ⟨.slice (some ⟨b2, 0, none⟩) ((n).toNat) ((n).toNat), rfl, rfl⟩))
theorem each_addL (A : Option Addr) (c : Nat) (a : List Int) (B : Option Addr) (d : Nat) (b : List Int) (S : Nat → Prop) (wf : World) (hA : Fr eZ S wf A a) (hB : Fr eZ S wf B b) (hl : a.length = b.length) (hm : a.length ≤ 100) (kb1 : bdd 100000000000 a) (kb2 : bdd 100000000000 b) :
  TR0 Try.prog 108 [.slice A a.length c, .slice B b.length d, .func (.func 109) #[] #[]] [] S wf (fun v_ C_ => ∃ (u : Value), v_ = .tuple #[u, .int .i64 0] ∧ C_ = [rw_ eZ 3 (u) (addL a b)]) := by
 refine TR.mk Try.func108 rfl Try.ntmps108 rfl rfl (fun w_ => ?_)
 refine .seq (.region (.a rfl rfl rfl (.a rfl rfl rfl (.go idQ (.seq ?_)))))
 refine .seq (.region (.m rfl rfl rfl (.v (ev_len rfl Try.underlying22 rfl) rfl (.m rfl rfl rfl (.v (ev_len rfl Try.underlying22 rfl) rfl ?_)))))
 refine .v (ev_cmp rfl rfl rfl rfl) rfl (.go idQ (.condI rfl bNE (fun h1 => ?_) (fun h1 => ?_)))
 ·
  exfalso; omega
 refine .skipgo idQ (.seq (.region (.a rfl rfl rfl (.go idQ (.seq ?_)))))
 refine .seq (.region (.m rfl rfl rfl (.v (ev_len rfl Try.underlying22 rfl) rfl (.m rfl rfl rfl (.go idQ ?_)))))
 refine .block ?_
 refine SC.nilrow eZ 3 ?_
 refine .loop (X := Int × (List Int) × Value) (fun ⟨i, X, u_X⟩ => 0 ≤ i ∧ i ≤ (a.length : Int) ∧ X = addL (a.take i.toNat) (b.take i.toNat) ∧ (X.length : Int) ≤ i) (fun ⟨i, X, u_X⟩ => [(0, .slice A a.length c), (1, .slice B b.length d), (2, .func (.func 109) #[] #[]), (18, .int .i64 (a.length : Int)), (19, .int .i64 i), (8, u_X)]) (fun ⟨i, X, u_X⟩ => [rw_ eZ 3 (u_X) X]) (fun _ => S) (fun _ => wf) (fun ⟨i, X, u_X⟩ => ((a.length : Int) - i).toNat) (fun a_ w_ hs_ hw_ => ⟨⟨0, ([] : List Int), .slice none 0 0⟩, (by exact ⟨(by omega), (by omega), (by simp [addL]), (by simp)⟩), hs_.mono (Sub.get (.c4 rfl rfl rfl rfl (.c rfl (.c rfl .n)))), hw_.keep (.c .h .n)⟩) (fun ⟨i, X, u_X⟩ ⟨q_0, q_1, q_2, q_3⟩ => ?_)
 show SC _ _ _ _ _ ⟨[(0, .slice A a.length c), (1, .slice B b.length d), (2, .func (.func 109) #[] #[]), (18, .int .i64 (a.length : Int)), (19, .int .i64 i), (8, u_X)], [rw_ eZ 3 (u_X) X], S, wf⟩
 refine .seq (.region (.v (ev_cmp rfl rfl rfl rfl) rfl (.go idQ (.seq (.condI rfl bD (fun h2 => ?_) (fun h2 => ?_))))))
 ·
  refine .skipgo idQ (.seq (.block (.seq (.region (.m rfl rfl rfl ?_)))))
  refine .a rfl rfl rfl (.go idQ (.seq ?_))
  refine SC.draw mo [] [] .n (fun _ _ _ => sc0) (fun wf_3 hl_3 hx_3 hR_3 => ?_)
  refine SR.m 0 rfl rfl rfl rfl (SR.m 1 rfl rfl rfl rfl (SR.m 2 rfl rfl rfl rfl (SR.z 3 rfl rfl (ev_ix rfl Try.underlying22 ty3 rfl rfl (by omega) (by omega) (fun _ _ => Fr.adr (i := i) (Fr.ext hA hx_3) (by omega) (by omega))) (SR.z 4 rfl rfl (ev_ld1 rfl ty3 rfl (At.elem1 (At.d (Fr.el (i := i) (Fr.ext hA hx_3) (by omega) (by omega))) 0 rfl)) (SR.m 5 rfl rfl rfl rfl ?_)))))
  refine SR.m 6 rfl rfl rfl rfl (SR.z 7 rfl rfl (ev_ix rfl Try.underlying22 ty3 rfl rfl (by omega) (by omega) (fun _ _ => Fr.adr (i := i) (Fr.ext hB hx_3) (by omega) (by omega))) (SR.z 8 rfl rfl (ev_ld1 rfl ty3 rfl (At.elem1 (At.d (Fr.el (i := i) (Fr.ext hB hx_3) (by omega) (by omega))) 0 rfl)) (SR.o 9 rfl (.viafun rfl rfl (st_callk rfl rfl rfl rfl hbd109 rfl .n (nadd_ (gt a i) (gt b i) _ _ (by have := kb1 i; have := kb2 i; omega) (by have := kb1 i; have := kb2 i; omega)) ⟨tt0, (SR.m 10 rfl rfl rfl rfl (SR.z 11 rfl rfl (ev_ext rfl rfl rfl) ?_))⟩)))))
  refine SR.z 12 rfl rfl (ev_ext rfl rfl rfl) (SR.z 13 rfl rfl (ev_as rfl rfl) (SR.z 14 rfl rfl (ev_as rfl rfl) (SR.fin (by kernel_rfl) hl_3 hx_3 hR_3 .n (SQ.go idQ (.seq ?_)))))
  refine .seq (.region (.m rfl rfl rfl (.v (ev_cmp (r := false) rfl rfl rfl rfl) rfl (.go idQ (.cond_f rfl ?_)))))
  refine .skipgo idQ (.region (.m rfl rfl rfl (.m rfl rfl rfl (.cons (st_lit eZ (e := 3) (l := [((gt a i) + (gt b i))]) rfl rfl rfl rfl (by kernel_rfl) rfl rfl (fun w => by kernel_rfl) (fun b4 => .cons (st_app (E := eZ) (m := [((gt a i) + (gt b i))]) rfl rfl rfl rfl Try.underlying22 ai3 rfl rfl rfl (.t .h) (by first | rfl | omega | simp) (row_src 0 rfl) (by first | omega | simp only [LL] <;> omega | simp <;> omega) rfl (fun v5 => ?_))))))))
  exact .a rfl rfl rfl (.go idQ (.region (.v (ev_add rfl rfl rfl (r := (i + 1)) rfl (by omega) (by omega)) rfl (.m rfl rfl rfl (SP.nil (SQ.roundb (X := Int × (List Int) × Value) (x := (i, X, u_X)) ⟨(i + 1), (X ++ [((gt a i) + (gt b i))]), v5⟩ (by exact ⟨(by omega), (by omega), (addL_next q_2 (by omega) (by omega) (by omega)), (by simp only [List.length_append, List.length_singleton]; omega)⟩) (by dsimp only; omega) (Sub.get (.c4 rfl rfl rfl rfl (.c rfl (.c rfl .n)))) (fun w hw => hw.keep (.c .h .n))))))))
 refine .exit idQ (.seq (.region (.m rfl rfl rfl (.a rfl rfl rfl (.a rfl rfl rfl ?_)))))
 exact .go idQ (.ret idQ (ret2 Try.results108 rfl rfl (.c .h .n) ⟨u_X, rfl, (by rw [zip_all (f := addL) q_2 (by omega) hl])⟩))
theorem laddL (A : Option Addr) (c : Nat) (a : List Int) (B : Option Addr) (d : Nat) (b : List Int) (S : Nat → Prop) (wf : World) (hA : Fr eZ S wf A a) (hB : Fr eZ S wf B b) (hl : a.length = b.length) (hm : a.length ≤ 100) (kb1 : bdd 100000000000 a) (kb2 : bdd 100000000000 b) :
  TR0 Try.prog 106 [.slice A a.length c, .slice B b.length d] [] S wf (fun v_ C_ => ∃ (u : Value), v_ = .tuple #[u, .int .i64 0] ∧ C_ = [rw_ eZ 3 (u) (addL a b)]) := by
 refine TR.mk Try.func106 rfl Try.ntmps106 rfl rfl (fun w_ => ?_)
 refine .seq (.region (.a rfl rfl rfl (.a rfl rfl rfl (.go idQ (.seq ?_)))))
 refine .region (.m rfl rfl rfl (.m rfl rfl rfl (.cons (st_call0 rfl rfl rfl rfl hbd108 rfl .n (each_addL A c a B d b _ _ hA hB (by first | omega | simp only [LL] <;> omega | simp <;> omega) (by first | omega | simp only [LL] <;> omega | simp <;> omega) (by omega) (by omega)) (fun v_q2 C_q2 q2 => ?_)))))
 obtain ⟨u1, rfl, rfl⟩ := q2
 show SP _ _ _ _ _ _ ⟨_, _ :: _, _, _⟩
 exact .v (ev_ext rfl rfl rfl) rfl (.v (ev_ext rfl rfl rfl) rfl (.a rfl rfl rfl (.a rfl rfl rfl (.go idQ (.ret idQ (ret2 Try.results106 rfl rfl (.c .h .n) ⟨u1, rfl, rfl⟩))))))
theorem each_subL (A : Option Addr) (c : Nat) (a : List Int) (B : Option Addr) (d : Nat) (b : List Int) (S : Nat → Prop) (wf : World) (hA : Fr eZ S wf A a) (hB : Fr eZ S wf B b) (hl : a.length = b.length) (hm : a.length ≤ 100) (kb1 : bdd 100000000000 a) (kb2 : bdd 100000000000 b) :
  TR0 Try.prog 108 [.slice A a.length c, .slice B b.length d, .func (.func 110) #[] #[]] [] S wf (fun v_ C_ => ∃ (u : Value), v_ = .tuple #[u, .int .i64 0] ∧ C_ = [rw_ eZ 3 (u) (subL a b)]) := by
 refine TR.mk Try.func108 rfl Try.ntmps108 rfl rfl (fun w_ => ?_)
 refine .seq (.region (.a rfl rfl rfl (.a rfl rfl rfl (.go idQ (.seq ?_)))))
 refine .seq (.region (.m rfl rfl rfl (.v (ev_len rfl Try.underlying22 rfl) rfl (.m rfl rfl rfl (.v (ev_len rfl Try.underlying22 rfl) rfl ?_)))))
 refine .v (ev_cmp rfl rfl rfl rfl) rfl (.go idQ (.condI rfl bNE (fun h1 => ?_) (fun h1 => ?_)))
 ·
  exfalso; omega
 refine .skipgo idQ (.seq (.region (.a rfl rfl rfl (.go idQ (.seq ?_)))))
 refine .seq (.region (.m rfl rfl rfl (.v (ev_len rfl Try.underlying22 rfl) rfl (.m rfl rfl rfl (.go idQ ?_)))))
 refine .block ?_
 refine SC.nilrow eZ 3 ?_
 refine .loop (X := Int × (List Int) × Value) (fun ⟨i, X, u_X⟩ => 0 ≤ i ∧ i ≤ (a.length : Int) ∧ X = subL (a.take i.toNat) (b.take i.toNat) ∧ (X.length : Int) ≤ i) (fun ⟨i, X, u_X⟩ => [(0, .slice A a.length c), (1, .slice B b.length d), (2, .func (.func 110) #[] #[]), (18, .int .i64 (a.length : Int)), (19, .int .i64 i), (8, u_X)]) (fun ⟨i, X, u_X⟩ => [rw_ eZ 3 (u_X) X]) (fun _ => S) (fun _ => wf) (fun ⟨i, X, u_X⟩ => ((a.length : Int) - i).toNat) (fun a_ w_ hs_ hw_ => ⟨⟨0, ([] : List Int), .slice none 0 0⟩, (by exact ⟨(by omega), (by omega), (by simp [subL]), (by simp)⟩), hs_.mono (Sub.get (.c4 rfl rfl rfl rfl (.c rfl (.c rfl .n)))), hw_.keep (.c .h .n)⟩) (fun ⟨i, X, u_X⟩ ⟨q_0, q_1, q_2, q_3⟩ => ?_)
 show SC _ _ _ _ _ ⟨[(0, .slice A a.length c), (1, .slice B b.length d), (2, .func (.func 110) #[] #[]), (18, .int .i64 (a.length : Int)), (19, .int .i64 i), (8, u_X)], [rw_ eZ 3 (u_X) X], S, wf⟩
 refine .seq (.region (.v (ev_cmp rfl rfl rfl rfl) rfl (.go idQ (.seq (.condI rfl bD (fun h2 => ?_) (fun h2 => ?_))))))
 ·
  refine .skipgo idQ (.seq (.block (.seq (.region (.m rfl rfl rfl ?_)))))
  refine .a rfl rfl rfl (.go idQ (.seq ?_))
  refine SC.draw mo [] [] .n (fun _ _ _ => sc0) (fun wf_3 hl_3 hx_3 hR_3 => ?_)
  refine SR.m 0 rfl rfl rfl rfl (SR.m 1 rfl rfl rfl rfl (SR.m 2 rfl rfl rfl rfl (SR.z 3 rfl rfl (ev_ix rfl Try.underlying22 ty3 rfl rfl (by omega) (by omega) (fun _ _ => Fr.adr (i := i) (Fr.ext hA hx_3) (by omega) (by omega))) (SR.z 4 rfl rfl (ev_ld1 rfl ty3 rfl (At.elem1 (At.d (Fr.el (i := i) (Fr.ext hA hx_3) (by omega) (by omega))) 0 rfl)) (SR.m 5 rfl rfl rfl rfl ?_)))))
  refine SR.m 6 rfl rfl rfl rfl (SR.z 7 rfl rfl (ev_ix rfl Try.underlying22 ty3 rfl rfl (by omega) (by omega) (fun _ _ => Fr.adr (i := i) (Fr.ext hB hx_3) (by omega) (by omega))) (SR.z 8 rfl rfl (ev_ld1 rfl ty3 rfl (At.elem1 (At.d (Fr.el (i := i) (Fr.ext hB hx_3) (by omega) (by omega))) 0 rfl)) (SR.o 9 rfl (.viafun rfl rfl (st_callk rfl rfl rfl rfl hbd110 rfl .n (lsub1_ (gt a i) (gt b i) _ _ (by have := kb1 i; have := kb2 i; omega) (by have := kb1 i; have := kb2 i; omega)) ⟨tt0, (SR.m 10 rfl rfl rfl rfl (SR.z 11 rfl rfl (ev_ext rfl rfl rfl) ?_))⟩)))))
  refine SR.z 12 rfl rfl (ev_ext rfl rfl rfl) (SR.z 13 rfl rfl (ev_as rfl rfl) (SR.z 14 rfl rfl (ev_as rfl rfl) (SR.fin (by kernel_rfl) hl_3 hx_3 hR_3 .n (SQ.go idQ (.seq ?_)))))
  refine .seq (.region (.m rfl rfl rfl (.v (ev_cmp (r := false) rfl rfl rfl rfl) rfl (.go idQ (.cond_f rfl ?_)))))
  refine .skipgo idQ (.region (.m rfl rfl rfl (.m rfl rfl rfl (.cons (st_lit eZ (e := 3) (l := [((gt a i) + (-(gt b i)))]) rfl rfl rfl rfl (by kernel_rfl) rfl rfl (fun w => by kernel_rfl) (fun b4 => .cons (st_app (E := eZ) (m := [((gt a i) + (-(gt b i)))]) rfl rfl rfl rfl Try.underlying22 ai3 rfl rfl rfl (.t .h) (by first | rfl | omega | simp) (row_src 0 rfl) (by first | omega | simp only [LL] <;> omega | simp <;> omega) rfl (fun v5 => ?_))))))))
  exact .a rfl rfl rfl (.go idQ (.region (.v (ev_add rfl rfl rfl (r := (i + 1)) rfl (by omega) (by omega)) rfl (.m rfl rfl rfl (SP.nil (SQ.roundb (X := Int × (List Int) × Value) (x := (i, X, u_X)) ⟨(i + 1), (X ++ [((gt a i) + (-(gt b i)))]), v5⟩ (by exact ⟨(by omega), (by omega), (subL_next q_2 (by omega) (by omega) (by omega)), (by simp only [List.length_append, List.length_singleton]; omega)⟩) (by dsimp only; omega) (Sub.get (.c4 rfl rfl rfl rfl (.c rfl (.c rfl .n)))) (fun w hw => hw.keep (.c .h .n))))))))
 refine .exit idQ (.seq (.region (.m rfl rfl rfl (.a rfl rfl rfl (.a rfl rfl rfl ?_)))))
 exact .go idQ (.ret idQ (ret2 Try.results108 rfl rfl (.c .h .n) ⟨u_X, rfl, (by rw [zip_all (f := subL) q_2 (by omega) hl])⟩))
theorem lsubL (A : Option Addr) (c : Nat) (a : List Int) (B : Option Addr) (d : Nat) (b : List Int) (S : Nat → Prop) (wf : World) (hA : Fr eZ S wf A a) (hB : Fr eZ S wf B b) (hl : a.length = b.length) (hm : a.length ≤ 100) (kb1 : bdd 100000000000 a) (kb2 : bdd 100000000000 b) :
  TR0 Try.prog 107 [.slice A a.length c, .slice B b.length d] [] S wf (fun v_ C_ => ∃ (u : Value), v_ = .tuple #[u, .int .i64 0] ∧ C_ = [rw_ eZ 3 (u) (subL a b)]) := by
 refine TR.mk Try.func107 rfl Try.ntmps107 rfl rfl (fun w_ => ?_)
 refine .seq (.region (.a rfl rfl rfl (.a rfl rfl rfl (.go idQ (.seq ?_)))))
 refine .region (.m rfl rfl rfl (.m rfl rfl rfl (.cons (st_call0 rfl rfl rfl rfl hbd108 rfl .n (each_subL A c a B d b _ _ hA hB (by first | omega | simp only [LL] <;> omega | simp <;> omega) (by first | omega | simp only [LL] <;> omega | simp <;> omega) (by omega) (by omega)) (fun v_q2 C_q2 q2 => ?_)))))
 obtain ⟨u1, rfl, rfl⟩ := q2
 show SP _ _ _ _ _ _ ⟨_, _ :: _, _, _⟩
 exact .v (ev_ext rfl rfl rfl) rfl (.v (ev_ext rfl rfl rfl) rfl (.a rfl rfl rfl (.a rfl rfl rfl (.go idQ (.ret idQ (ret2 Try.results107 rfl rfl (.c .h .n) ⟨u1, rfl, rfl⟩))))))
theorem lunder (A : Option Addr) (c : Nat) (a : List Int) (B : Option Addr) (d : Nat) (b : List Int) (S : Nat → Prop) (wf : World) (hA : Fr eZ S wf A a) (hB : Fr eZ S wf B b) :
  TR0 Try.prog 97 [.slice A a.length c, .slice B b.length d] [] S wf (fun v_ C_ => v_ = .bool (underF a b) ∧ C_ = []) := by
 have hla := hA.len
 have hlb := hB.len
 refine TR.mk Try.func97 rfl Try.ntmps97 rfl rfl (fun w_ => ?_)
 refine .seq (.region (.a rfl rfl rfl (.go idQ (.seq (.seq ?_)))))
 refine .region (.m rfl rfl rfl (.v (ev_len rfl Try.underlying22 rfl) rfl (.m rfl rfl rfl (.v (ev_len rfl Try.underlying22 rfl) rfl (.v (ev_cmp rfl rfl rfl rfl) rfl ?_)))))
 refine .go idQ (.condI rfl bNE (fun h1 => ?_) (fun h1 => ?_))
 ·
  exact .seq (.region (.a rfl rfl rfl (.go idQ (.ret idQ (ret1 Try.results97 rfl .n ⟨(congrArg Value.bool (by unfold underF; rw [if_neg (by omega)])), rfl⟩)))))
 refine .skipgo idQ (.seq (.seq (.region (.m rfl rfl rfl (.v (ev_len rfl Try.underlying22 rfl) rfl ?_)))))
 refine .m rfl rfl rfl (.go idQ (.block ?_))
 refine .loop (X := Int) (fun i => 0 ≤ i ∧ i ≤ (a.length : Int) ∧ underL (a.drop i.toNat) (b.drop i.toNat) = underL a b ∧ a.length = b.length) (fun i => [(0, .slice A a.length c), (1, .slice B b.length d), (12, .int .i64 (a.length : Int)), (13, .int .i64 i)]) (fun i => []) (fun _ => S) (fun _ => wf) (fun i => ((a.length : Int) - i).toNat) (fun a_ w_ hs_ hw_ => ⟨0, (by exact ⟨(by omega), (by omega), rfl, (by omega)⟩), hs_.mono (Sub.get (.c4 rfl rfl rfl rfl .n)), hw_.keep .n⟩) (fun i ⟨q_0, q_1, q_2, q_3⟩ => ?_)
 try dsimp only
 refine .seq (.region (.v (ev_cmp rfl rfl rfl rfl) rfl (.go idQ (.seq (.condI rfl bD (fun h2 => ?_) (fun h2 => ?_))))))
 ·
  refine .skipgo idQ (.seq (.block (.seq (.region (.m rfl rfl rfl ?_)))))
  refine .a rfl rfl rfl (.go idQ (.seq ?_))
  refine SC.draw mo [] [] .n (fun _ _ _ => sc0) (fun wf_3 hl_3 hx_3 hR_3 => ?_)
  refine SR.m 0 rfl rfl rfl rfl (SR.m 1 rfl rfl rfl rfl (SR.z 2 rfl rfl (ev_ix rfl Try.underlying22 ty3 rfl rfl (by omega) (by omega) (fun _ _ => Fr.adr (i := i) (Fr.ext hA hx_3) (by omega) (by omega))) (SR.z 3 rfl rfl (ev_ld1 rfl ty3 rfl (At.elem1 (At.d (Fr.el (i := i) (Fr.ext hA hx_3) (by omega) (by omega))) 0 rfl)) (SR.m 4 rfl rfl rfl rfl (SR.m 5 rfl rfl rfl rfl ?_)))))
  refine SR.z 6 rfl rfl (ev_ix rfl Try.underlying22 ty3 rfl rfl (by omega) (by omega) (fun _ _ => Fr.adr (i := i) (Fr.ext hB hx_3) (by omega) (by omega))) (SR.z 7 rfl rfl (ev_ld1 rfl ty3 rfl (At.elem1 (At.d (Fr.el (i := i) (Fr.ext hB hx_3) (by omega) (by omega))) 0 rfl)) (SR.z 8 rfl rfl (ev_cmp rfl rfl rfl rfl) (SR.fin (by kernel_rfl) hl_3 hx_3 hR_3 .n (SQ.go idQ (.condI rfl bD (fun h4 => ?_) (fun h4 => ?_))))))
  ·
   exact .seq (.region (.a rfl rfl rfl (.go idQ (.ret idQ (ret1 Try.results97 rfl .n ⟨(congrArg Value.bool (by unfold underF; rw [if_pos q_3, ← q_2, drop_gt (x := i) (by omega) (by omega), drop_gt (x := i) (l := b) (by omega) (by omega), underL_cons, if_pos (by omega)])), rfl⟩)))))
  exact .skipgo idQ (.region (.v (ev_add rfl rfl rfl (r := (i + 1)) rfl (by omega) (by omega)) rfl (.m rfl rfl rfl (SP.nil (SQ.roundb (X := Int) (x := (i)) (i + 1) (by exact ⟨(by omega), (by omega), (by have hq := q_2; rw [drop_gt (x := i) (by omega) (by omega), drop_gt (x := i) (l := b) (by omega) (by omega), underL_cons, if_neg (by omega)] at hq; exact hq), (by omega)⟩) (by show (_ : Nat) < _; omega) (Sub.get (.c4 rfl rfl rfl rfl .n)) (fun w hw => hw.keep .n))))))
 exact .exit idQ (.seq (.region (.a rfl rfl rfl (.go idQ (.ret idQ (ret1 Try.results97 rfl .n ⟨(congrArg Value.bool (by unfold underF; rw [if_pos q_3]; exact underL_end q_2 (by omega))), rfl⟩))))))
theorem runder (A : Option Addr) (c : Nat) (a : List Int) (B : Option Addr) (d : Nat) (b : List Int) (S : Nat → Prop) (wf : World) (hA : Fr eZ S wf A a) (hB : Fr eZ S wf B b) :
  TR0 Try.prog 78 [.slice A a.length c, .slice B b.length d] [] S wf (fun v_ C_ => v_ = .bool (underF a b) ∧ C_ = []) := by
 have hla := hA.len
 have hlb := hB.len
 refine TR.mk Try.func78 rfl Try.ntmps78 rfl rfl (fun w_ => ?_)
 refine .seq (.region (.a rfl rfl rfl (.go idQ (.seq (.seq ?_)))))
 refine .region (.m rfl rfl rfl (.v (ev_len rfl Try.underlying22 rfl) rfl (.m rfl rfl rfl (.v (ev_len rfl Try.underlying22 rfl) rfl (.v (ev_cmp rfl rfl rfl rfl) rfl ?_)))))
 refine .go idQ (.condI rfl bNE (fun h1 => ?_) (fun h1 => ?_))
 ·
  exact .seq (.region (.a rfl rfl rfl (.go idQ (.ret idQ (ret1 Try.results78 rfl .n ⟨(congrArg Value.bool (by unfold underF; rw [if_neg (by omega)])), rfl⟩)))))
 refine .skipgo idQ (.seq (.seq (.region (.a rfl rfl rfl (.go idQ (.block ?_))))))
 refine .loop (X := Int) (fun i => 0 ≤ i ∧ i ≤ (a.length : Int) ∧ underL (a.drop i.toNat) (b.drop i.toNat) = underL a b ∧ a.length = b.length) (fun i => [(0, .slice A a.length c), (1, .slice B b.length d), (5, .int .i64 i)]) (fun i => []) (fun _ => S) (fun _ => wf) (fun i => ((a.length : Int) - i).toNat) (fun a_ w_ hs_ hw_ => ⟨0, (by exact ⟨(by omega), (by omega), rfl, (by omega)⟩), hs_.mono (Sub.get (.c rfl (.c rfl (.c rfl .n)))), hw_.keep .n⟩) (fun i ⟨q_0, q_1, q_2, q_3⟩ => ?_)
 try dsimp only
 refine .seq (.seq (.region (.m rfl rfl rfl (.m rfl rfl rfl (.v (ev_len rfl Try.underlying22 rfl) rfl ?_)))))
 refine .v (ev_cmp rfl rfl rfl rfl) rfl (.go idQ (.condI rfl bD (fun h2 => ?_) (fun h2 => ?_)))
 ·
  refine .skipgo idQ (.seq (.block (.seq ?_)))
  refine SC.draw mo [] [] .n (fun _ _ _ => sc0) (fun wf_3 hl_3 hx_3 hR_3 => ?_)
  refine SR.m 0 rfl rfl rfl rfl (SR.m 1 rfl rfl rfl rfl (SR.z 2 rfl rfl (ev_ix rfl Try.underlying22 ty3 rfl rfl (by omega) (by omega) (fun _ _ => Fr.adr (i := i) (Fr.ext hA hx_3) (by omega) (by omega))) (SR.z 3 rfl rfl (ev_ld1 rfl ty3 rfl (At.elem1 (At.d (Fr.el (i := i) (Fr.ext hA hx_3) (by omega) (by omega))) 0 rfl)) (SR.m 4 rfl rfl rfl rfl (SR.m 5 rfl rfl rfl rfl ?_)))))
  refine SR.z 6 rfl rfl (ev_ix rfl Try.underlying22 ty3 rfl rfl (by omega) (by omega) (fun _ _ => Fr.adr (i := i) (Fr.ext hB hx_3) (by omega) (by omega))) (SR.z 7 rfl rfl (ev_ld1 rfl ty3 rfl (At.elem1 (At.d (Fr.el (i := i) (Fr.ext hB hx_3) (by omega) (by omega))) 0 rfl)) (SR.z 8 rfl rfl (ev_cmp rfl rfl rfl rfl) (SR.fin (by kernel_rfl) hl_3 hx_3 hR_3 .n (SQ.go idQ (.condI rfl bD (fun h4 => ?_) (fun h4 => ?_))))))
  ·
   exact .seq (.region (.a rfl rfl rfl (.go idQ (.ret idQ (ret1 Try.results78 rfl .n ⟨(congrArg Value.bool (by unfold underF; rw [if_pos q_3, ← q_2, drop_gt (x := i) (by omega) (by omega), drop_gt (x := i) (l := b) (by omega) (by omega), underL_cons, if_pos (by omega)])), rfl⟩)))))
  exact .skipgo idQ (.region (.m rfl rfl rfl (.v (ev_add rfl rfl rfl (r := (i + 1)) rfl (by omega) (by omega)) rfl (.a rfl rfl rfl (SP.nil (SQ.roundb (X := Int) (x := (i)) (i + 1) (by exact ⟨(by omega), (by omega), (by have hq := q_2; rw [drop_gt (x := i) (by omega) (by omega), drop_gt (x := i) (l := b) (by omega) (by omega), underL_cons, if_neg (by omega)] at hq; exact hq), (by omega)⟩) (by show (_ : Nat) < _; omega) (Sub.get (.c rfl (.c rfl (.c rfl .n)))) (fun w hw => hw.keep .n)))))))
 exact .exit idQ (.seq (.region (.a rfl rfl rfl (.go idQ (.ret idQ (ret1 Try.results78 rfl .n ⟨(congrArg Value.bool (by unfold underF; rw [if_pos q_3]; exact underL_end q_2 (by omega))), rfl⟩))))))
theorem hstart (A : Option Addr) (c : Nat) (l : List WN) (t : Int) (S : Nat → Prop) (wf : World) (hA : Fr eWN S wf A l) :
  TR0 Try.prog 101 [.slice A l.length c, .int .i64 t] [] S wf (fun v_ C_ => v_ = .tuple #[.int .i64 ((startF l t).1), .bool ((startF l t).2)] ∧ C_ = []) := by
 have hla := hA.len
 refine TR.mk Try.func101 rfl Try.ntmps101 rfl rfl (fun w_ => ?_)
 refine .seq (.region (.a rfl rfl rfl (.a rfl rfl rfl (.go idQ (.seq ?_)))))
 refine .seq (.region (.m rfl rfl rfl (.v (ev_len rfl Try.underlying76 rfl) rfl (.m rfl rfl rfl (.go idQ ?_)))))
 refine .block ?_
 refine .loop (X := Int) (fun i => 0 ≤ i ∧ i ≤ (l.length : Int) ∧ startF (l.drop i.toNat) t = startF l t) (fun i => [(1, .int .i64 t), (8, .slice A l.length c), (9, .int .i64 (l.length : Int)), (10, .int .i64 i)]) (fun i => []) (fun _ => S) (fun _ => wf) (fun i => ((l.length : Int) - i).toNat) (fun a_ w_ hs_ hw_ => ⟨0, (by exact ⟨(by omega), (by omega), rfl⟩), hs_.mono (Sub.get (.c4 rfl rfl rfl rfl .n)), hw_.keep .n⟩) (fun i ⟨q_0, q_1, q_2⟩ => ?_)
 try dsimp only
 refine .seq (.region (.v (ev_cmp rfl rfl rfl rfl) rfl (.go idQ (.seq (.condI rfl bD (fun h1 => ?_) (fun h1 => ?_))))))
 ·
  refine .skipgo idQ (.seq (.block (.seq (.region (.v (ev_ix rfl Try.underlying76 ty72 rfl rfl (by omega) (by omega) (fun _ _ => Fr.adr (i := i) hA (by omega) (by omega))) rfl ?_)))))
  refine .v (ev_lda rfl rfl (At.w (Fr.el (i := i) hA (by omega) (by omega))) ty72) rfl (.cons (st_alloc rfl rfl rfl rfl zf72 (fun b2 => .cons (st_storea (l' := [.int .i64 ((gt l i).lo), .int .i64 ((gt l i).hi)]) rfl rfl rfl ty72 rfl rfl rfl .h rfl rfl (.go idQ (.seq (.region ?_)))))))
  refine .m rfl rfl rfl (.v (ev_fa rfl fo72_1 rfl (r := 1) rfl) rfl (.v (ev_ld1 rfl ty3 rfl (At.own1 0 rfl rfl)) rfl (.v (ev_cmp rfl rfl rfl rfl) rfl (.go idQ (.condI rfl bD (fun h3 => ?_) (fun h3 => ?_))))))
  ·
   refine .seq (.region (.m rfl rfl rfl (.v (ev_fa rfl fo72_0 rfl (r := 0) rfl) rfl (.v (ev_ld1 rfl ty3 rfl (At.own1 0 rfl rfl)) rfl (.v (ev_max rfl rfl rfl) rfl ?_)))))
   exact .a rfl rfl rfl (.a rfl rfl rfl (.go idQ (.ret idQ (ret2 Try.results101 rfl rfl .n ⟨(by rw [← q_2, drop_gt (x := i) (by omega) (by omega), startF_cons, if_pos (by omega)]), rfl⟩))))
  exact .skipgo idQ (.region (.v (ev_add rfl rfl rfl (r := (i + 1)) rfl (by omega) (by omega)) rfl (.m rfl rfl rfl (SP.nil (SQ.roundb (X := Int) (x := (i)) (i + 1) (by exact ⟨(by omega), (by omega), (by have hq := q_2; rw [drop_gt (x := i) (by omega) (by omega), startF_cons, if_neg (by omega)] at hq; exact hq)⟩) (by show (_ : Nat) < _; omega) (Sub.get (.c4 rfl rfl rfl rfl .n)) (fun w hw => hw.keep .n))))))
 refine .exit idQ (.seq (.region (.a rfl rfl rfl (.a rfl rfl rfl (.go idQ ?_)))))
 exact .ret idQ (ret2 Try.results101 rfl rfl .n ⟨(by rw [← q_2, drop_end (by omega)]; rfl), rfl⟩)
theorem covers_ (a : Int) (b : Int) (S : Nat → Prop) (wf : World) :
  TR0 Try.prog 94 [.int .u64 a, .int .u64 b] [] S wf (fun v_ C_ => v_ = .bool ((ban .u64 b a) == 0) ∧ C_ = []) := by
 refine TR.mk Try.func94 rfl Try.ntmps94 rfl rfl (fun w_ => ?_)
 refine .seq (.region (.a rfl rfl rfl (.go idQ (.seq (.region ?_)))))
 refine .m rfl rfl rfl (.m rfl rfl rfl (.v (ev_bandn rfl rfl rfl) rfl (.v (ev_cmp rfl rfl rfl rfl) rfl (.a rfl rfl rfl (.go idQ ?_)))))
 exact .ret idQ (ret1 Try.results94 rfl .n ⟨rfl, rfl⟩)
end Go.Proofs.Ytdpmnodiebpjeaa.Sx
