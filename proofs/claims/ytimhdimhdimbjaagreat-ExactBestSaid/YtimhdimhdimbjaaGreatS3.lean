import Derived.Test.YtimhdimhdimbjaaGreatProg
import Derived.Test.YtimhdimhdimbjaaGreatS2
set_option linter.unusedVariables false
set_option linter.unusedSimpArgs false
set_option linter.unusedSectionVars false
namespace Go.SX
open Go Go.RowKit
abbrev visL (ts : List TK) : List Vis := ts.flatMap visT
theorem visT_stop {p : PB} {t : TK} (h : thereF p t = true) {x : Vis} (hx : x ∈ visT t) : isStop p x = true := by
  unfold isStop
  rw [visT_task2 hx, h, Bool.and_true]
  unfold visT at hx
  split at hx
  · simp only [List.mem_cons, List.not_mem_nil, or_false] at hx
    rcases hx with rfl | rfl <;> rfl
  · simp only [List.mem_singleton] at hx; subst hx; rfl
theorem visL_kind : ∀ {ts : List TK}, cntK 2 (visL ts) = cntK 3 (visL ts) ∧ cntK 1 (visL ts) + cntK 2 (visL ts) = ts.length
  | [] => ⟨rfl, rfl⟩
  | t :: r => by
    have ih := visL_kind (ts := r)
    have e : visL (t :: r) = visT t ++ visL r := List.flatMap_cons
    rw [e, cntK_app, cntK_app, cntK_app, List.length_cons]
    have h : cntK 2 (visT t) = cntK 3 (visT t) ∧ cntK 1 (visT t) + cntK 2 (visT t) = 1 := by
      unfold visT; split <;> exact ⟨rfl, rfl⟩
    omega
theorem visL_del : ∀ {ts : List TK} {i : Int}, 0 ≤ i → i < ((visL ts).length : Int) → (gt (visL ts) i).kind = 3 → 1 ≤ i ∧ gt (visL ts) (i - 1) = ⟨2, (gt (visL ts) i).item⟩
  | [], i, h0, h1, _ => by simp at h1; omega
  | t :: r, i, h0, h1, h3 => by
    have e : visL (t :: r) = visT t ++ visL r := List.flatMap_cons
    rw [e] at h1 h3 ⊢
    by_cases hi : i < ((visT t).length : Int)
    · rw [gt_left h0 hi] at h3 ⊢
      by_cases hs : t.ship = true
      · have ev : visT t = [⟨2, t.item⟩, ⟨3, t.item⟩] := by unfold visT; rw [if_pos hs]
        rw [ev] at hi h3 ⊢
        simp at hi
        rcases (by omega : i = 0 ∨ i = 1) with rfl | rfl
        · have h3 : (2 : Int) = 3 := h3; cases h3
        · exact ⟨Int.le_refl _, rfl⟩
      · have ev : visT t = [⟨1, t.item⟩] := by unfold visT; rw [if_neg hs]
        rw [ev] at hi h3
        simp at hi
        obtain rfl : i = 0 := by omega
        have h3 : (1 : Int) = 3 := h3; cases h3
    · rw [List.length_append] at h1
      have ej : i = ((visT t).length : Int) + (i - (visT t).length) := by omega
      have hl := visT_len t
      rw [ej, gt_right (by omega)] at h3
      have ih := visL_del (ts := r) (i := i - (visT t).length) (by omega) (by omega) h3
      refine ⟨by omega, ?_⟩
      have e1 : gt (visT t ++ visL r) i = gt (visL r) (i - (visT t).length) := by rw [ej, gt_right (by omega)]; congr 1; omega
      have e2 : gt (visT t ++ visL r) (i - 1) = gt (visL r) (i - (visT t).length - 1) := by
        rw [show i - 1 = ((visT t).length : Int) + (i - (visT t).length - 1) from by omega, gt_right (by omega)]
      rw [e1, e2]; exact ih.2
theorem ent_vis {p : PB} {t : TK} (h : thereF p t = true) (d : Int) : isum (fun x => ent p x true d) (visT t) = if t.ship = true then 0 else gt (gt p.jobs t.item).drop d := by
  have hs : ∀ x ∈ visT t, isStop p x = true := fun x hx => visT_stop h hx
  by_cases hk : t.ship = true
  · have ev : visT t = [⟨2, t.item⟩, ⟨3, t.item⟩] := by unfold visT; rw [if_pos hk]
    rw [ev] at hs
    rw [if_pos hk, ev]
    have a := hs ⟨2, t.item⟩ (by simp)
    have b := hs ⟨3, t.item⟩ (by simp)
    simp only [isum]
    unfold ent; rw [if_pos a, if_pos b]; simp
  · have ev : visT t = [⟨1, t.item⟩] := by unfold visT; rw [if_neg hk]
    rw [ev] at hs
    rw [if_neg hk, ev]
    have a := hs ⟨1, t.item⟩ (by simp)
    simp only [isum]
    unfold ent; rw [if_pos a]; simp
theorem visL_take {ts : List TK} {i : Int} (h0 : 0 ≤ i) (h1 : i < (ts.length : Int)) : visL (ts.take (i + 1).toNat) = visL (ts.take i.toNat) ++ visT (gt ts i) := by
  rw [take_gt h0 h1]; unfold visL; rw [List.flatMap_append]; simp
theorem visL_len {ts : List TK} : ts.length ≤ (visL ts).length := by
  induction ts with
  | nil => exact Nat.le_refl _
  | cons t r ih => have e : visL (t :: r) = visT t ++ visL r := List.flatMap_cons; rw [e, List.length_append, List.length_cons]; have := visT_len t; omega
theorem visL_takele {ts : List TK} (n : Nat) : (visL (ts.take n)).length ≤ (visL ts).length := by
  have h : (visL (ts.take n)).Sublist (visL ts) := by
    have : visL ts = visL (ts.take n) ++ visL (ts.drop n) := by unfold visL; rw [← List.flatMap_append, List.take_append_drop]
    rw [this]; exact List.sublist_append_left _ _
  exact h.length_le
def CXR (p : PB) (ts : List TK) (fst : List Int) : CX := ⟨p, gt p.vehs 0, visL ts, fst⟩
structure RtIn (p : PB) (ts : List TK) : Prop where
  law : LawP p
  nv : 0 < p.vehs.length
  ne : ts ≠ []
  nd : ts.Nodup
  th : ∀ t ∈ ts, thereF p t = true
  len : (visL ts).length ≤ 8
theorem cx_ok {p : PB} {ts : List TK} {fst : List Int} (h : RtIn p ts) (hk : ∀ j : Int, 0 ≤ j → j < (ts.length : Int) → ban .u64 (skilF p (gt ts j)) (gt p.vehs 0).vsk = 0) (hm : (ts.length : Int) ≤ (gt p.vehs 0).mt)
    (hf : (fst.length : Int) = p.dims ∧ ∀ d : Int, gt fst d = isum (fun x => ent p x true d) (visL ts)) : (CXR p ts fst).Ok where
  law := h.law
  veh := h.law.veh 0 (by omega) (by have := h.nv; omega)
  mem x hx := by
    obtain ⟨t, ht, hx⟩ := List.mem_flatMap.1 hx
    exact visT_stop (h.th t ht) hx
  nd := flat_nodup2 h.nd
  del i h0 h1 h3 := visL_del h0 h1 h3
  eqk := visL_kind.1
  len := by have := h.len; show (visL ts).length ≤ 12; omega
  fl := hf.1
  fd := hf.2
  sk x hx _ := by
    obtain ⟨t, ht, hx⟩ := List.mem_flatMap.1 hx
    rw [visT_task2 hx]
    obtain ⟨n, hn, e⟩ := List.getElem_of_mem ht
    have := hk n (by omega) (by omega)
    rw [show gt ts (n : Int) = t from gt_some (by simp [hn, e])] at this
    exact this
  tk := by show cntK 1 (visL ts) + cntK 2 (visL ts) ≤ _; rw [visL_kind.2]; exact hm
def RouteR (p : PB) (ts : List TK) (l : List Vis) : Prop :=
  (l = [] ∨ ((fitV p 0 l).e = 0 ∧ l.Perm (visL ts))) ∧ ∀ l', l'.Perm (visL ts) → (fitV p 0 l').e = 0 → l ≠ [] ∧ (fitV p 0 l).cost ≤ (fitV p 0 l').cost
theorem checks_more {p : PB} {v : VH} {m : List Vis} (h : checksF p v m = 0) : skillsR p v m = true ∧ tasksR m 0 ≤ v.mt := by
  have h0 := checks_0 h
  have c3 : skillsR p v m = true := by
    cases hq : skillsR p v m with
    | true => rfl
    | false => rw [ck_163 h0.1 h0.2 (by rw [hq]; decide)] at h; cases h
  have c4 : ¬ tasksR m 0 > v.mt := fun hq => by rw [ck_164 h0.1 h0.2 c3 hq] at h; cases h
  exact ⟨c3, by omega⟩
theorem fit_parts {p : PB} (L : LawP p) {k : Int} {l : List Vis} (h : (fitV p k l).e = 0) : pairsR p l [] 0 = true ∧ skillsR p (gt p.vehs k) l = true ∧ tasksR l 0 ≤ (gt p.vehs k).mt ∧ ∃ m, nbF m = l ∧ (planP p k m).e = 0 := by
  obtain ⟨m, hm, h1, h2⟩ := plan_of_fit L h
  obtain ⟨hk, hc, hpt⟩ := plan_e0 h1
  obtain ⟨c1, c2, c3, c4⟩ := checks_parts hc
  obtain ⟨c5, c6⟩ := checks_more hc
  refine ⟨?_, ?_, ?_, m, hm, h1⟩
  · rw [← hm, pairs_nb]; exact c1
  · rw [← hm, skills_nb]; exact c5
  · rw [← hm, tasks_nb]; exact c6
theorem route_many {p : PB} {ts : List TK} (h : RtIn p ts) (hm : (ts.length : Int) > (gt p.vehs 0).mt) : RouteR p ts [] := ⟨.inl rfl, fun l' hp hf => by
  have h3 := (fit_parts h.law hf).2.2.1
  rw [tasksR_is, cntK_perm hp, cntK_perm hp] at h3
  have := visL_kind (ts := ts)
  omega⟩
theorem route_skill {p : PB} {ts : List TK} (h : RtIn p ts) {j : Int} (h0 : 0 ≤ j) (h1 : j < (ts.length : Int)) (hm : ¬ ban .u64 (skilF p (gt ts j)) (gt p.vehs 0).vsk = 0) : RouteR p ts [] := ⟨.inl rfl, fun l' hp hf => by
  have h3 := skills_iff.1 (fit_parts h.law hf).2.1
  have ht := gt_in h0 h1
  have hx : gt (visT (gt ts j)) 0 ∈ visT (gt ts j) := gt_in (Int.le_refl _) (by have := visT_len (gt ts j); omega)
  have hxs := visT_stop (h.th _ ht) hx
  have := h3 _ (hp.mem_iff.2 (List.mem_flatMap.2 ⟨_, ht, hx⟩)) (by unfold isStop at hxs; rw [Bool.and_eq_true] at hxs; exact hxs.1)
  rw [visT_task2 hx] at this
  exact absurd this hm⟩
theorem route_found {p : PB} {ts : List TK} {fst : List Int} {f : Int} {M : LM} {B : VL} {c : Int} {P : List VL} (h : RtIn p ts) (O : (CXR p ts fst).Ok) (hI : SrI (CXR p ts fst) f M B c P) (hF : ∀ k, CX.Fin (CXR p ts fst) (CXR p ts fst).s0 k → BLe B c k) : RouteR p ts B.vl := by
  have hv : (CXR p ts fst).v = gt (CXR p ts fst).p.vehs 0 := rfl
  have hB : B ≠ dVL → (fitV p 0 B.vl).e = 0 ∧ (fitV p 0 B.vl).cost = (gt p.vehs 0).fix + c ∧ B.vl.Perm (visL ts) := fun hb => by
    rcases hI.bok with k | ⟨_, m, s, h1, h2, h3, h4⟩
    · exact absurd k hb
    · have := fit_sound O hv h.nv h1 h2
      rw [← h4, ← h3] at this; exact this
  refine ⟨?_, fun l' hp hf => ?_⟩
  · by_cases hb : B = dVL
    · left; rw [hb]
    · right; have := hB hb; exact ⟨this.1, this.2.2⟩
  · have h1 := hF _ (fit_comp O hv hp hf)
    have hb : B ≠ dVL := fun e => by rw [e] at h1; have := h1.1; cases this
    have h2 := hB hb
    refine ⟨fun e => ?_, by have := h1.2; rw [h2.2.1]; have e : (CXR p ts fst).v.fix = (gt p.vehs 0).fix := rfl; rw [e] at this; have e2 : (fitV (CXR p ts fst).p 0 l').cost = (fitV p 0 l').cost := rfl; rw [e2] at this; omega⟩
    have h3 := h2.2.2.length_eq
    rw [e, List.length_nil] at h3
    have h4 := visL_len (ts := ts)
    have h5 : ts.length ≠ 0 := fun q => h.ne (List.length_eq_zero_iff.1 q)
    omega
theorem xi_start {p : PB} {ts : List TK} {fst : List Int} (h : RtIn p ts) : XI (CXR p ts fst) ((visL ts).length + ((gt p.vehs 0).brs.length : Int)) ⟨0, 0, (gt p.vehs 0).st, (gt p.vehs 0).lo, 0⟩ dVL where
  path := ⟨[], .nil, rfl⟩
  rem := by unfold remK; show nun 0 (visL ts).length + (((gt p.vehs 0).brs.length : Int) - 0) = _; rw [nun_0]; omega
  dn := ⟨Int.le_refl _, by have : 0 < 2 ^ (CXR p ts fst).all.length := Nat.pow_pos (by decide); show (0 : Int) < _; omega⟩
  bk := ⟨Int.le_refl _, by show (0 : Int) ≤ _; omega⟩
  pl := (h.law.veh 0 (by omega) (by have := h.nv; omega)).st
  nw := by have := (h.law.veh 0 (by omega) (by have := h.nv; omega)).sh; show 0 ≤ (gt p.vehs 0).lo ∧ (gt p.vehs 0).lo ≤ 2000000; omega
  cs := by
    have h1 := (h.law.veh 0 (by omega) (by have := h.nv; omega)).brs
    have h2 := h.len
    show (0 : Int) ≤ 0 ∧ (0 : Int) ≤ _; omega
  vl := by
    have h1 := (h.law.veh 0 (by omega) (by have := h.nv; omega)).brs
    have h2 := h.len
    show ((0 : Nat) : Int) + _ ≤ 10; omega
  wl h := absurd rfl h
theorem sri_start {X : CX} {f : Int} : SrI X f [] dVL 0 [dVL] := ⟨List.nodup_nil, (fun κ y hy => by cases hy), (fun κ y hy => by cases hy), .inl rfl⟩
def selT (set : Int) : List TK → Int → List TK
  | [], _ => []
  | t :: r, i => if bt set i = true then t :: selT set r (i + 1) else selT set r (i + 1)
theorem selT_sub {set : Int} : ∀ {l : List TK} {i : Int}, (selT set l i).Sublist l
  | [], i => .slnil
  | x :: r, i => by
    rw [selT]; split
    · exact selT_sub.cons_cons _
    · exact selT_sub.cons _
theorem selT_app {set : Int} : ∀ {a b : List TK} {i : Int}, selT set (a ++ b) i = selT set a i ++ selT set b (i + a.length)
  | [], b, i => by simp [selT]
  | x :: a, b, i => by
    rw [List.cons_append, selT, selT, selT_app, List.length_cons, show i + ((a.length + 1 : Nat) : Int) = i + 1 + a.length from by omega]
    split <;> simp
theorem selT_next {set i : Int} {l X : List TK} (h : X = selT set (l.take i.toNat) 0) (h0 : 0 ≤ i) (h1 : i < (l.length : Int)) : selT set (l.take (i + 1).toNat) 0 = if bt set i = true then X ++ [gt l i] else X := by
  rw [take_gt h0 h1, selT_app, h, List.length_take, show (0 : Int) + ((min i.toNat l.length : Nat) : Int) = i from by omega]
  simp only [selT]
  split <;> simp
theorem selT_ne {set : Int} : ∀ {l : List TK} {i : Int}, selT set l i = [] → ∀ j : Int, i ≤ j → j < i + l.length → bt set j = false
  | [], i, _, j, h0, h1 => by simp at h1; omega
  | x :: r, i, h, j, h0, h1 => by
    rw [selT] at h
    split at h
    · cases h
    · rename_i hb
      by_cases hj : j = i
      · subst hj; simpa using hb
      · rw [List.length_cons] at h1; exact selT_ne h j (by omega) (by omega)
theorem set_ne {set : Int} {l : List TK} (h0 : 0 < set) (h1 : set < ((2 ^ l.length : Nat) : Int)) : selT set l 0 ≠ [] := fun e => by
  have h := selT_ne e
  have : set = 0 := bt_ext (n := l.length) ⟨by omega, h1⟩ ⟨Int.le_refl _, by omega⟩ (fun i i0 i1 => by rw [h i i0 (by omega), bt_zero])
  omega
theorem selT_filter {set : Int} {P : TK → Bool} : ∀ {l : List TK} {i : Int}, 0 ≤ i → (∀ j : Int, 0 ≤ j → j < (l.length : Int) → bt set (i + j) = P (gt l j)) → selT set l i = l.filter P
  | [], i, _, _ => rfl
  | x :: r, i, hi, h => by
    have h1 := h 0 (Int.le_refl _) (by rw [List.length_cons]; omega)
    rw [Int.add_zero] at h1
    have e : gt (x :: r) 0 = x := rfl
    rw [e] at h1
    have ih := selT_filter (l := r) (i := i + 1) (by omega) (fun j h0 h2 => by
      have := h (j + 1) (by omega) (by rw [List.length_cons]; omega)
      rw [gt_cons1 h0] at this
      rw [show i + 1 + j = i + (j + 1) from by omega]; exact this)
    rw [selT, ih, h1, List.filter_cons]
theorem mask_ex (P : Nat → Bool) : ∀ n : Nat, ∃ set : Int, (0 ≤ set ∧ set < ((2 ^ n : Nat) : Int)) ∧ ∀ j : Nat, j < n → bt set j = P j
  | 0 => ⟨0, by decide, fun j h => by omega⟩
  | n + 1 => by
    obtain ⟨set, h1, h2⟩ := mask_ex P n
    have hw : 0 ≤ set ∧ set < ((2 ^ (n + 1) : Nat) : Int) := by rw [Nat.pow_succ]; omega
    cases hp : P n with
    | true =>
      refine ⟨setb set n, set_rng hw (by omega) (by omega), fun j hj => ?_⟩
      rw [bt_set (by omega) (by omega)]
      by_cases hjn : j = n
      · subst hjn; rw [hp, decide_eq_true rfl, Bool.or_true]
      · rw [h2 j (by omega), decide_eq_false (by omega), Bool.or_false]
    | false =>
      refine ⟨set, hw, fun j hj => ?_⟩
      by_cases hjn : j = n
      · subst hjn; rw [hp]; exact bt_high h1 (by omega)
      · exact h2 j (by omega)
theorem mem_taskL {p : PB} {t : TK} : t ∈ taskL p ↔ thereF p t = true := by
  unfold taskL
  rw [sort_perm.mem_iff]
  unfold allT thereF
  rw [List.mem_append, List.mem_map, List.mem_map]
  obtain ⟨sh, it⟩ := t
  cases sh with
  | true =>
    simp only [if_true, decide_eq_true_eq]
    constructor
    · rintro (⟨i, hi, h⟩ | ⟨i, hi, h⟩)
      · injection h with h _; cases h
      · injection h with _ h; subst h; have := List.mem_range.1 hi; omega
    · intro h; exact .inr ⟨it.toNat, List.mem_range.2 (by omega), by congr 1; omega⟩
  | false =>
    simp only [Bool.false_eq_true, if_false, decide_eq_true_eq]
    constructor
    · rintro (⟨i, hi, h⟩ | ⟨i, hi, h⟩)
      · injection h with _ h; subst h; have := List.mem_range.1 hi; omega
      · injection h with h _; cases h
    · intro h; exact .inl ⟨it.toNat, List.mem_range.2 (by omega), by congr 1; omega⟩
theorem fit_tasks {p : PB} (L : LawP p) {k : Int} {l : List Vis} (h : (fitV p k l).e = 0) : l.Perm (visL ((taskL p).filter (fun t => decide (gt (visT t) 0 ∈ l)))) := by
  obtain ⟨h1, _, _, m, hm, _⟩ := fit_parts L h
  have hq := pairs_iff.1 h1
  have hn4 : ∀ x ∈ l, x.kind ≠ 4 := fun x hx => by rw [← hm] at hx; exact (nbF_mem.1 hx).2
  have hat : ∀ x ∈ l, isStop p x = true ∧ (x.kind = 3 → (⟨2, x.item⟩ : Vis) ∈ l) ∧ (x.kind = 2 → (⟨3, x.item⟩ : Vis) ∈ l) := fun x hx => by
    obtain ⟨n, hn, e⟩ := List.getElem_of_mem hx
    have e2 : gt l (n : Int) = x := gt_some (by simp [hn, e])
    rcases hq n (by omega) (by omega) with ho | ⟨a, b, c, d⟩
    · rw [e2] at ho; exact absurd ho (hn4 x hx)
    · rw [e2] at a b c d
      refine ⟨a, fun hk => ?_, fun hk => ?_⟩
      · have := c hk
        exact List.mem_of_mem_take (List.count_pos_iff.1 (by omega : 0 < (l.take ((n : Int)).toNat).count ⟨2, x.item⟩))
      · have := d hk
        exact List.count_pos_iff.1 (by omega : 0 < l.count ⟨3, x.item⟩)
  have hnd : l.Nodup := by
    have := (seen_nodup (p := p) (m := l) (u := []) (fun a x b e => by have := (pairs_is.1 h1).1 a x b e; simpa using this)).1
    have e : nbF l = l := List.filter_eq_self.2 (fun x hx => decide_eq_true (hn4 x hx))
    rw [e] at this; exact this
  refine (List.perm_ext_iff_of_nodup hnd (flat_nodup2 ((taskL_nodup (p := p)).1.sublist List.filter_sublist))).2 (fun x => ?_)
  have hv0 : ∀ t : TK, gt (visT t) 0 = if t.ship = true then ⟨2, t.item⟩ else ⟨1, t.item⟩ := fun t => by unfold visT; split <;> rfl
  constructor
  · intro hx
    obtain ⟨a, b, c⟩ := hat x hx
    have hkd := is_kind a
    have hth : thereF p (taskV x) = true := by unfold isStop at a; rw [Bool.and_eq_true] at a; exact a.2
    refine List.mem_flatMap.2 ⟨taskV x, List.mem_filter.2 ⟨mem_taskL.2 hth, decide_eq_true ?_⟩, ?_⟩
    · rw [hv0]
      rcases hkd with hk | hk | hk
      · rw [(task1 hk).1, if_neg (fun q => by cases q)]; rw [show (⟨1, x.item⟩ : Vis) = x from vis_ext hk.symm rfl]; exact hx
      · rw [(task2 hk).1, if_pos rfl]; rw [show (⟨2, x.item⟩ : Vis) = x from vis_ext hk.symm rfl]; exact hx
      · rw [(task3 hk).1, if_pos rfl]; exact b hk
    · unfold visT
      rcases hkd with hk | hk | hk
      · rw [(task1 hk).1, if_neg (fun q => by cases q)]; simp only [List.mem_singleton]; exact vis_ext hk rfl
      · rw [(task2 hk).1, if_pos rfl]; simp only [List.mem_cons, List.not_mem_nil, or_false]; exact .inl (vis_ext hk rfl)
      · rw [(task3 hk).1, if_pos rfl]; simp only [List.mem_cons, List.not_mem_nil, or_false]; exact .inr (vis_ext hk rfl)
  · intro hx
    obtain ⟨t, ht, hx⟩ := List.mem_flatMap.1 hx
    have h0 := of_decide_eq_true (List.mem_filter.1 ht).2
    rw [hv0] at h0
    unfold visT at hx
    split at hx
    · rename_i hs
      rw [if_pos hs] at h0
      simp only [List.mem_cons, List.not_mem_nil, or_false] at hx
      rcases hx with rfl | rfl
      · exact h0
      · exact (hat _ h0).2.2 rfl
    · rename_i hs
      rw [if_neg hs] at h0
      simp only [List.mem_singleton] at hx; subst hx; exact h0
theorem fit_mask {p : PB} (L : LawP p) {k : Int} {l : List Vis} (h : (fitV p k l).e = 0) (hne : l ≠ []) : ∃ set : Int, (1 ≤ set ∧ set < ((2 ^ (taskL p).length : Nat) : Int)) ∧ l.Perm (visL (selT set (taskL p) 0)) := by
  obtain ⟨set, h1, h2⟩ := mask_ex (fun j => decide (gt (visT (gt (taskL p) j)) 0 ∈ l)) (taskL p).length
  have hp := fit_tasks L h
  have e : selT set (taskL p) 0 = (taskL p).filter (fun t => decide (gt (visT t) 0 ∈ l)) := selT_filter (Int.le_refl _) (fun j h0 hj => by
    have := h2 j.toNat (by omega)
    rw [Int.zero_add]
    rw [show ((j.toNat : Nat) : Int) = j from by omega] at this
    exact this)
  rw [← e] at hp
  refine ⟨set, ⟨?_, h1.2⟩, hp⟩
  have : set ≠ 0 := fun e0 => by
    subst e0
    have e1 : selT 0 (taskL p) 0 = (taskL p).filter (fun _ => false) := selT_filter (Int.le_refl _) (fun j _ _ => bt_zero _)
    rw [e1] at hp
    have e2 : (taskL p).filter (fun _ => false) = [] := List.filter_eq_nil_iff.2 (fun _ _ => by decide)
    rw [e2] at hp
    exact hne (hp.eq_nil)
  omega
def BetS (a b : Int × Int) : Prop := a.1 > b.1 ∨ (a.1 = b.1 ∧ a.2 < b.2)
theorem betS_chain {a b c : Int × Int} (h : ¬ BetS a b) (k : ¬ BetS b c) : ¬ BetS a c := fun q => by unfold BetS at *; omega
theorem betS_eq {a b : Int × Int} (h : ¬ BetS a b) (k : ¬ BetS b a) : a = b := by
  unfold BetS at *
  exact Prod.ext (by omega) (by omega)
def scR (p : PB) (s : List RC) : Int × Int := (valR p s, cstR p s)
def scL (p : PB) (l : List Vis) : Int × Int := (isum (valV p) l, (fitV p 0 l).cost)
theorem scR_one {p : PB} {l : List Vis} : scR p [(0, l)] = scL p l := by
  unfold scR scL valR cstR allV
  simp [isum]
theorem scR_nil {p : PB} : scR p [] = (0, 0) := rfl
structure BesI (p : PB) (i : Int) (s : List RC) : Prop where
  one : s = [] ∨ (∃ l, s = [(0, l)] ∧ l ≠ [] ∧ (fitV p 0 l).e = 0 ∧ BetS (scL p l) (0, 0))
  all : ∀ set : Int, 1 ≤ set → set < i → 0 < p.vehs.length → ∀ l, l.Perm (visL (selT set (taskL p) 0)) → (fitV p 0 l).e = 0 → ¬ BetS (scL p l) (scR p s)
theorem BesI.init {p : PB} : BesI p 0 [] := ⟨.inl rfl, fun set h1 h2 => by omega⟩
theorem BesI.skip {p : PB} {i : Int} {s : List RC} (h : BesI p i s) (hs : p.vehs.length = 0 ∨ i = 0) : BesI p (i + 1) s := ⟨h.one, fun set h1 h2 hv l hp hf => by
  rcases hs with hs | hs
  · omega
  · omega⟩
theorem scL_perm {p : PB} {l l' : List Vis} (h : l.Perm l') : (scL p l).1 = (scL p l').1 := isum_perm h
theorem BesI.none {p : PB} {i : Int} {s : List RC} {l : List Vis} (h : BesI p i s) (hr : RouteR p (selT i (taskL p) 0) l) (hl : l = []) : BesI p (i + 1) s := ⟨h.one, fun set h1 h2 hv l' hp hf => by
  by_cases hi : set = i
  · subst hi; exact absurd hl (hr.2 l' hp hf).1
  · exact h.all set h1 (by omega) hv l' hp hf⟩
theorem BesI.keep {p : PB} {i : Int} {s : List RC} {l : List Vis} (h : BesI p i s) (hr : RouteR p (selT i (taskL p) 0) l) (hl : l ≠ []) (hb : ¬ BetS (scL p l) (scR p s)) : BesI p (i + 1) s := ⟨h.one, fun set h1 h2 hv l' hp hf => by
  by_cases hi : set = i
  · subst hi
    have h3 := (hr.2 l' hp hf).2
    rcases hr.1 with k | ⟨_, k2⟩
    · exact absurd k hl
    · have h4 := scL_perm (p := p) (hp.trans k2.symm)
      refine betS_chain (b := scL p l) (fun q => ?_) hb
      have h5 : (scL p l').2 = (fitV p 0 l').cost := rfl
      have h6 : (scL p l).2 = (fitV p 0 l).cost := rfl
      unfold BetS at q; omega
  · exact h.all set h1 (by omega) hv l' hp hf⟩
theorem BesI.take {p : PB} {i : Int} {s : List RC} {l : List Vis} (h : BesI p i s) (hr : RouteR p (selT i (taskL p) 0) l) (hl : l ≠ []) (hb : BetS (scL p l) (scR p s)) : BesI p (i + 1) [(0, l)] := by
  have hf0 : (fitV p 0 l).e = 0 := by
    rcases hr.1 with k | k
    · exact absurd k hl
    · exact k.1
  refine ⟨.inr ⟨l, rfl, hl, hf0, ?_⟩, fun set h1 h2 hv l' hp hf => ?_⟩
  · rcases h.one with k | ⟨l0, k, _, _, k3⟩
    · rw [k, scR_nil] at hb; exact hb
    · rw [k, scR_one] at hb; unfold BetS at *; omega
  · rw [scR_one]
    by_cases hi : set = i
    · subst hi
      have h3 := (hr.2 l' hp hf).2
      rcases hr.1 with k | ⟨_, k2⟩
      · exact absurd k hl
      · have h4 := scL_perm (p := p) (hp.trans k2.symm)
        have h5 : (scL p l').2 = (fitV p 0 l').cost := rfl
        have h6 : (scL p l).2 = (fitV p 0 l).cost := rfl
        intro q; unfold BetS at q; omega
    · have := h.all set h1 (by omega) hv l' hp hf
      intro q; unfold BetS at *; omega
structure BestR (p : PB) (s : List RC) : Prop where
  one : s = [] ∨ (∃ l, s = [(0, l)] ∧ l ≠ [] ∧ (fitV p 0 l).e = 0 ∧ BetS (scL p l) (0, 0))
  all : ∀ l, l ≠ [] → (fitV p 0 l).e = 0 → ¬ BetS (scL p l) (scR p s)
theorem best_of {p : PB} (L : LawP p) {i : Int} {s : List RC} (h : BesI p i s) (hi : ((2 ^ (taskL p).length : Nat) : Int) ≤ i) : BestR p s := ⟨h.one, fun l hl hf => by
  obtain ⟨set, h1, h2⟩ := fit_mask L hf hl
  have hv : 0 < p.vehs.length := by
    obtain ⟨_, _, _, m, _, hm⟩ := fit_parts L hf
    have := (plan_e0 hm).1; omega
  exact h.all set h1.1 (by omega) hv l h2 hf⟩
theorem one_sol {p : PB} {l : List Vis} (L : LawP p) (hl : l ≠ []) (hf : (fitV p 0 l).e = 0) : SolI p [(0, l)] ∧ (allV [((0 : Int), l)]).Nodup := by
  obtain ⟨h1, _, _, m, hm, hp⟩ := fit_parts L hf
  have hv := (plan_e0 hp).1
  refine ⟨⟨List.pairwise_singleton _ _, fun r hr => ?_, fun r hr => ?_, fun r hr => ?_⟩, ?_⟩
  · simp only [List.mem_singleton] at hr; subst hr; exact ⟨Int.le_refl _, by show (0 : Int) < _; omega⟩
  · simp only [List.mem_singleton] at hr; subst hr; exact hl
  · simp only [List.mem_singleton] at hr; subst hr; exact hf
  · have e : allV [((0 : Int), l)] = l := by simp [allV]
    rw [e]
    have h := fit_tasks L hf
    exact h.nodup_iff.2 (flat_nodup2 ((taskL_nodup (p := p)).1.sublist List.filter_sublist))
theorem best_right {p : PB} {s : List RC} (L : LawP p) (h : BestR p s) : SolI p s ∧ (allV s).Nodup ∧ s.length ≤ 1 ∧ (∀ r ∈ s, r.2.length ≤ 24) := by
  rcases h.one with rfl | ⟨l, rfl, h1, h2, _⟩
  · exact ⟨⟨List.Pairwise.nil, fun r h => (by cases h), fun r h => (by cases h), fun r h => (by cases h)⟩, List.nodup_nil, Nat.zero_le _, fun r h => (by cases h)⟩
  · have := one_sol L h1 h2
    refine ⟨this.1, this.2, Nat.le_refl _, fun r hr => ?_⟩
    simp only [List.mem_singleton] at hr; subst hr
    have hp := fit_tasks L h2
    show l.length ≤ 24
    rw [hp.length_eq]
    have h3 : ((taskL p).filter (fun t => decide (gt (visT t) 0 ∈ l))).length ≤ (taskL p).length := List.length_filter_le _ _
    have h4 := taskL_len L
    have h5 := L.nj
    have h6 : ∀ ts : List TK, (visL ts).length ≤ 2 * ts.length := fun ts => by
      induction ts with
      | nil => exact Nat.le_refl _
      | cons t r ih => have e : visL (t :: r) = visT t ++ visL r := List.flatMap_cons; rw [e, List.length_append, List.length_cons]; have := visT_len t; omega
    have := h6 ((taskL p).filter (fun t => decide (gt (visT t) 0 ∈ l)))
    omega
theorem valid_62 {a : Int} (h : 0 ≤ a ∧ a < 4611686018427387904) : ((Int.fdiv a 4611686018427387904) == 0) = true := by
  rw [Int.fdiv_eq_ediv_of_nonneg _ (by decide), Int.ediv_eq_zero_of_lt h.1 h.2]; rfl
theorem diag_at {k i : Int} {l : List Int} (hk : 1 ≤ k) (hl : (l.length : Int) = k * k) (hg : ∀ a : Int, 0 ≤ a → a < k → gt l (a * k + a) = 0) (h0 : 0 ≤ i) (h1 : i < (l.length : Int)) (ht : Int.tmod i (k + 1) = 0) : gt l i = 0 := by
  rw [Int.tmod_eq_emod_of_nonneg h0] at ht
  have hd := Int.mul_ediv_add_emod i (k + 1)
  rw [ht, Int.add_zero] at hd
  have ha : 0 ≤ i / (k + 1) := Int.ediv_nonneg h0 (by omega)
  have hb : i / (k + 1) < k := by
    refine Int.ediv_lt_of_lt_mul (by omega) ?_
    rw [Int.mul_add]; omega
  have := hg _ ha hb
  rw [show i / (k + 1) * k + i / (k + 1) = i from by rw [Int.mul_comm, Int.mul_add, Int.mul_one] at hd; omega] at this
  exact this
theorem fit_kind {p : PB} (L : LawP p) {k : Int} {l : List Vis} (h : (fitV p k l).e = 0) : ∀ x ∈ l, x.kind = 1 ∨ x.kind = 2 ∨ x.kind = 3 := fun x hx => by
  have hp := fit_tasks L h
  obtain ⟨t, _, ht⟩ := List.mem_flatMap.1 (hp.mem_iff.1 hx)
  unfold visT at ht
  split at ht
  · simp only [List.mem_cons, List.not_mem_nil, or_false] at ht
    rcases ht with rfl | rfl
    · exact .inr (.inl rfl)
    · exact .inr (.inr rfl)
  · simp only [List.mem_singleton] at ht; subst ht; exact .inl rfl
theorem fs_zero {p : PB} {ts : List TK} {n : Nat} : ∀ d : Int, gt (List.replicate n (0 : Int)) d = isum (fun x => ent p x true d) (visL (ts.take ((0 : Int)).toNat)) := fun d => by
  have h0 : gt (List.replicate n (0 : Int)) d = 0 := by
    rcases gt_mem_or (List.replicate n (0 : Int)) d with h | h
    · exact (List.mem_replicate.1 h).2
    · exact h
  rw [h0]; rfl
theorem fs_ship {p : PB} {ts : List TK} {fs : List Int} {i : Int} (h : ∀ d : Int, gt fs d = isum (fun x => ent p x true d) (visL (ts.take i.toNat))) (hth : thereF p (gt ts i) = true) (hs : (gt ts i).ship = true) (h0 : 0 ≤ i) (h1 : i < (ts.length : Int)) : ∀ d : Int, gt fs d = isum (fun x => ent p x true d) (visL (ts.take (i + 1).toNat)) := fun d => by
  rw [visL_take h0 h1, isum_app, ent_vis hth, if_pos hs, ← h d]; omega
theorem fs_job {p : PB} {ts : List TK} {fs : List Int} {i : Int} (h : ∀ d : Int, gt fs d = isum (fun x => ent p x true d) (visL (ts.take i.toNat))) (hth : thereF p (gt ts i) = true) (hs : (gt ts i).ship = false) (hl : fs.length = (gt p.jobs (gt ts i).item).drop.length) (h0 : 0 ≤ i) (h1 : i < (ts.length : Int)) : ∀ d : Int, gt (addL fs (gt p.jobs (gt ts i).item).drop) d = isum (fun x => ent p x true d) (visL (ts.take (i + 1).toNat)) := fun d => by
  rw [visL_take h0 h1, isum_app, ent_vis hth, if_neg (by rw [hs]; decide), ← h d, gt_add hl]
theorem there_job {p : PB} {t : TK} (h : thereF p t = true) (hs : t.ship = false) : 0 ≤ t.item ∧ t.item < (p.jobs.length : Int) := by
  unfold thereF at h; rw [if_neg (by rw [hs]; decide)] at h; exact of_decide_eq_true h
theorem visL_pos {p : PB} {ts : List TK} (h : RtIn p ts) : 0 < (visL ts).length := by
  have := visL_len (ts := ts)
  have h5 : ts.length ≠ 0 := fun q => h.ne (List.length_eq_zero_iff.1 q)
  omega
theorem selT_len {i : Int} {l X : List TK} {n : Nat} (h : X = selT i (l.take n) 0) : X.length ≤ l.length := by
  rw [h]; exact Nat.le_trans selT_sub.length_le (List.length_take_le' ..)
theorem selT_all {p : PB} {set : Int} : (selT set (taskL p) 0).length ≤ (taskL p).length := selT_sub.length_le
theorem visL_perm {a b : List TK} (h : a.Perm b) : (visL a).Perm (visL b) := h.flatMap_right _
theorem visL_sub {a b : List TK} (h : a.Sublist b) : (visL a).length ≤ (visL b).length := by
  induction h with
  | slnil => exact Nat.le_refl _
  | @cons a b t _ ih => have e : visL (t :: b) = visT t ++ visL b := List.flatMap_cons; rw [e, List.length_append]; omega
  | @cons_cons a b t _ ih =>
    have e : visL (t :: b) = visT t ++ visL b := List.flatMap_cons
    have e2 : visL (t :: a) = visT t ++ visL a := List.flatMap_cons
    rw [e, e2, List.length_append, List.length_append]; omega
theorem visL_all {p : PB} : (visL (taskL p)).length = p.jobs.length + 2 * p.ships.length := by
  have h1 : (visL (taskL p)).length = (visL (allT p.jobs.length p.ships.length)).length := (visL_perm sort_perm).length_eq
  rw [h1]
  unfold allT visL
  rw [List.flatMap_append, List.length_append]
  have a : ∀ n : Nat, (((List.range n).map (fun i : Nat => (⟨false, (i : Int)⟩ : TK))).flatMap visT).length = n := fun n => by
    induction n with
    | zero => rfl
    | succ n ih => rw [List.range_succ, List.map_append, List.flatMap_append, List.length_append, ih]; rfl
  have b : ∀ n : Nat, (((List.range n).map (fun i : Nat => (⟨true, (i : Int)⟩ : TK))).flatMap visT).length = 2 * n := fun n => by
    induction n with
    | zero => rfl
    | succ n ih => rw [List.range_succ, List.map_append, List.flatMap_append, List.length_append, ih]; show 2 * n + 2 = _; omega
  rw [a, b]
theorem rt_in {p : PB} (L : LawP p) (hs : p.vehs.length ≤ 1 ∧ p.jobs.length + 2 * p.ships.length ≤ 8) {set : Int} (hv : 0 < p.vehs.length) (h0 : 0 < set) (h1 : set < ((2 ^ ((taskL p).length : Int).toNat : Nat) : Int)) : RtIn p (selT set (taskL p) 0) where
  law := L
  nv := hv
  ne := set_ne h0 (by simpa using h1)
  nd := (taskL_nodup (p := p)).1.sublist selT_sub
  th t ht := mem_taskL.1 (selT_sub.subset ht)
  len := by have := visL_sub (selT_sub (set := set) (l := taskL p) (i := 0)); rw [visL_all] at this; omega
theorem with_one {l : List Vis} (h : l ≠ []) : withF ([] : List RC) 0 l = [(0, l)] := by
  have hl : 0 < l.length := List.length_pos_iff.2 h
  have hp := with_perm (s := []) (v := 0) hl
  have e : otherR 0 ([] : List RC) ++ [((0 : Int), l)] = [(0, l)] := rfl
  rw [e] at hp
  exact List.perm_singleton.1 hp
end Go.SX
namespace Go.SX
open Go Go.RowKit
theorem scL_era {p q : PB} (h : era q = era p) {l : List Vis} : scL q l = scL p l ∧ fitV q 0 l = fitV p 0 l := by
  have h1 : fitV q 0 l = fitV p 0 l := by rw [← fit_e (p := q), h, fit_e]
  have h2 : ∀ t : TK, prioF q t = prioF p t := fun t => by rw [← prio_e (p := q), h, prio_e]
  have h3 : valV q = valV p := funext fun x => by unfold valV; rw [h2]
  exact ⟨by unfold scL; rw [h1, h3], h1⟩
theorem best_era {p q : PB} (h : era q = era p) {s : List RC} (hb : BestR q s) : BestR p s := by
  have hsc : scR q s = scR p s := by
    rcases hb.one with rfl | ⟨l, rfl, _⟩
    · rfl
    · rw [scR_one, scR_one, (scL_era h).1]
  refine ⟨?_, fun l h1 h2 => ?_⟩
  · rcases hb.one with rfl | ⟨l, rfl, h1, h2, h3⟩
    · exact .inl rfl
    · exact .inr ⟨l, rfl, h1, by rw [← (scL_era h).2]; exact h2, by rw [← (scL_era h).1]; exact h3⟩
  · rw [← (scL_era h).1, ← hsc]; exact hb.all l h1 (by rw [(scL_era h).2]; exact h2)
theorem fit_stops {p : PB} (L : LawP p) {k : Int} {l : List Vis} (h : (fitV p k l).e = 0) : ∀ x ∈ l, isStop p x = true := fun x hx => by
  have hp := (pairs_is.1 (fit_parts L h).1).1
  obtain ⟨a, b, e⟩ := List.append_of_mem hx
  have := fit_kind L h x hx
  rcases hp a x b e with k | k
  · omega
  · exact k.1
theorem nil_not {p : PB} {s : List RC} (h : BestR p s) : ¬ BetS (0, 0) (scR p s) := by
  rcases h.one with rfl | ⟨l, rfl, _, _, h3⟩
  · rw [scR_nil]; intro k; unfold BetS at k; omega
  · rw [scR_one]; intro k; unfold BetS at *; omega
theorem line_fit : (fitV lineP 0 [⟨1, 1⟩, ⟨1, 0⟩]).e = 0 := by rfl
theorem line_val : isum (valV lineP) [⟨1, 1⟩, ⟨1, 0⟩] = 6 := by rfl
theorem line_best {q : PB} {R : List RT} (he : era q = lineP) (h : BestR q (R.map rc)) : R.length = 1 ∧ (gt R 0).vis.length = 2 := by
  have hb : BestR lineP (R.map rc) := best_era (p := lineP) (q := q) he h
  have ha := hb.all [⟨1, 1⟩, ⟨1, 0⟩] (by simp) line_fit
  rcases hb.one with e | ⟨l, e, h1, h2, _⟩
  · rw [e, scR_nil] at ha
    have : (scL lineP [⟨1, 1⟩, ⟨1, 0⟩]).1 = 6 := line_val
    unfold BetS at ha; omega
  · rw [e, scR_one] at ha
    have h3 : (scL lineP [⟨1, 1⟩, ⟨1, 0⟩]).1 = 6 := line_val
    have hst := fit_stops line_law h2
    have hkd := fit_kind line_law h2
    have hval : ∀ x ∈ l, x = ⟨1, 0⟩ ∨ x = ⟨1, 1⟩ := fun x hx => by
      have hs := hst x hx
      rcases hkd x hx with hk | hk | hk
      · have hi := is_i1 hs hk
        have hi : 0 ≤ x.item ∧ x.item < 2 := hi
        rcases (by omega : x.item = 0 ∨ x.item = 1) with e | e
        · exact .inl (vis_ext hk e)
        · exact .inr (vis_ext hk e)
      · have hi := is_i2 hs (.inl hk)
        have hi : 0 ≤ x.item ∧ x.item < 0 := hi
        omega
      · have hi := is_i2 hs (.inr hk)
        have hi : 0 ≤ x.item ∧ x.item < 0 := hi
        omega
    have hnd : l.Nodup := (fit_tasks line_law h2).nodup_iff.2 (flat_nodup2 ((taskL_nodup (p := lineP)).1.sublist List.filter_sublist))
    have hlen : l.length = 2 := by
      match l, h1, hval, hnd, ha with
      | [x], _, hval, _, ha =>
        exfalso
        have h4 : (scL lineP [x]).1 ≤ 5 := by
          rcases hval x (by simp) with rfl | rfl <;> exact (by decide)
        unfold BetS at ha; omega
      | [x, y], _, _, _, _ => rfl
      | x :: y :: z :: r, _, hval, hnd, _ =>
        exfalso
        have a := hval x (by simp); have b := hval y (by simp); have c := hval z (by simp)
        simp only [List.nodup_cons, List.mem_cons, not_or] at hnd
        rcases a with rfl | rfl <;> rcases b with rfl | rfl <;> rcases c with rfl | rfl <;> simp_all
    clear ha hb h
    cases R with
    | nil => cases e
    | cons r R' =>
      injection e with e1 e2
      have e3 : R' = [] := List.map_eq_nil_iff.1 e2
      subst e3
      refine ⟨rfl, ?_⟩
      have : (rc r).2 = l := by rw [e1]
      show r.vis.length = 2
      rw [show r.vis = l from this]; exact hlen
def NPF (S : Nat → Prop) (wf : World) (p : PB) : Prop := Fr eZ S wf p.ptA p.time ∧ Fr eZ S wf p.pdA p.dist ∧ (∀ i : Int, VHF S wf (gt p.vehs i)) ∧ (∀ i : Int, JBF S wf (gt p.jobs i)) ∧ ∀ i : Int, SHF S wf (gt p.ships i)
theorem NPF.ext {S S' : Nat → Prop} {wf wf' : World} {p : PB} (h : NPF S wf p) (hx : Ext S wf S' wf') : NPF S' wf' p := ⟨h.1.ext hx, h.2.1.ext hx, fun i => (h.2.2.1 i).ext hx, fun i => (h.2.2.2.1 i).ext hx, fun i => (h.2.2.2.2 i).ext hx⟩
theorem NPF.pbf {S : Nat → Prop} {wf : World} {p : PB} (h : NPF S wf p) (h1 : Fr eVH S wf p.pvA p.vehs) (h2 : Fr eJB S wf p.pjA p.jobs) (h3 : Fr eSH S wf p.psA p.ships) : PBF S wf p := ⟨h.1, h.2.1, ⟨h1, h.2.2.1⟩, ⟨h2, h.2.2.2.1⟩, ⟨h3, h.2.2.2.2⟩⟩
section
variable {V : Env} {P : Program} {N : Nat} {L : List (Nat × Value)} {H C R : List Res} {S S1 : Nat → Prop} {wf wf1 : World}
theorem retzC {fn : Func} {r : ResultVar} {v : Value} {post : Value → List Res → (Nat → Prop) → World → Prop} (hr : fn.results = #[r]) (h1 : RV P L (WW V S1 wf1 H) r v) (hp : PickL H C R) (hx : Ext S wf S1 wf1) (h : post v C S1 wf1) :
    SQ V (bodyPost P fn (TRp V S wf post) .ret) N ⟨L, H, S1, wf1⟩ := fun a w hs hw => by
  refine ⟨hs.2.1, v, ?_, v, C, S1, wf1, rfl, h, hx, hw.keep hp⟩
  have e1 := h1 a w N hs hw
  rw [results_resF, hr]
  simp [e1]
end
theorem era_len {p q : PB} (h : era q = era p) : q.vehs.length = p.vehs.length ∧ q.jobs.length = p.jobs.length ∧ q.ships.length = p.ships.length := by
  rw [← era_lv (p := q), ← era_lj (p := q), ← era_ls (p := q), h, era_lv, era_lj, era_ls]; exact ⟨rfl, rfl, rfl⟩
theorem line_small {q : PB} (h : era q = lineP) : q.vehs.length ≤ 1 ∧ q.jobs.length + 2 * q.ships.length ≤ 8 := by
  rw [← era_lv (p := q), ← era_lj (p := q), ← era_ls (p := q), h]; decide
theorem not_bet {r : Bool} {φ : Prop} (h : r = true ↔ φ) (hn : ¬ φ) : r = false := by
  cases r with
  | false => rfl
  | true => exact absurd (h.1 rfl) hn
end Go.SX
namespace Go.SX
open Go Go.RowKit
section
variable {V : Env} {P : Program} {Q : Exit → Act → World → Prop} {N : Nat} {L L' : List (Nat × Value)} {H H' : List Res} {S : Nat → Prop} {wf : World} {st : St} {x y : Code}
theorem SC.seqx {X : Type} (Φ : X → Prop) (F : X → List (Nat × Value) × List Res) (S0 : Nat → Prop) (wf0 : World) (h1 : ∀ b, Φ b → SC V P Q N y ⟨(F b).1, (F b).2, S0, wf0⟩) (h2 : (∀ b, Φ b → SC V P Q N y ⟨(F b).1, (F b).2, S0, wf0⟩) → SC V P (Exit.then (y.wp P Q) Q) N x st) : SC V P Q N (.seq x y) st := fun a w hs hw => wp_seq (h2 h1 a w hs hw)
theorem SC.weak (h : SC V P Q N y ⟨L', H', S, wf⟩) (hL : ∀ k v, lkp L' k = some v → lkp L k = some v) (hw : ∀ w, WW V S wf H w → WW V S wf H' w) : SC V P Q N y ⟨L, H, S, wf⟩ := fun a w hs hw' => h a w (hs.mono hL) (hw w hw')
end
end Go.SX
namespace Go.SX
open Go Go.RowKit
theorem fit_seen {p : PB} (L : LawP p) {k : Int} {m : List Vis} (h : (fitV p k m).e = 0) {a b : List Vis} {x : Vis} (e : m = a ++ x :: b) : x ∉ a ∧ (x.kind = 3 → (⟨2, x.item⟩ : Vis) ∈ a) := by
  have h1 := ((pairs_walk (p := p) MK_nil).1 (fit_parts L h).1).1 a x b e
  rw [List.nil_append] at h1
  have hk := fit_kind L h x (by rw [e]; exact List.mem_append_right _ (List.mem_cons_self ..))
  rcases h1 with h1 | h1
  · omega
  · exact h1.2
theorem fit_mem9 {p : PB} (L : LawP p) {k : Int} {m : List Vis} (h : (fitV p k m).e = 0) : ∀ x ∈ m, x ∈ visL (taskL p) := fun x hx => by
  have h1 := (fit_tasks L h).mem_iff.1 hx
  obtain ⟨t, ht, hxt⟩ := List.mem_flatMap.1 h1
  exact List.mem_flatMap.2 ⟨t, (List.mem_filter.1 ht).1, hxt⟩
structure UOk (A : List Vis) (U : List Bool) (l : List Vis) : Prop where
  len : U.length = A.length
  nd : A.Nodup
  ld : l.Nodup
  sub : ∀ x ∈ l, x ∈ A
  iff : ∀ i : Int, 0 ≤ i → i < (A.length : Int) → (gt U i = true ↔ gt A i ∈ l)
theorem gt_rep {n : Nat} {i : Int} : gt (List.replicate n false) i = false := by
  unfold gt
  rw [List.getD_eq_getElem?_getD, List.getElem?_replicate]
  split <;> rfl
theorem UOk.start {p : PB} {n : Nat} (h : n = (visL (taskL p)).length) : UOk (visL (taskL p)) (List.replicate n false) [] where
  len := by rw [List.length_replicate, h]
  nd := flat_nodup2 taskL_nodup.1
  ld := List.nodup_nil
  sub := fun x h => (by cases h)
  iff := fun i h0 h1 => by rw [gt_rep]; exact ⟨fun e => (by cases e), fun e => (by cases e)⟩
theorem UOk.llen {A : List Vis} {U : List Bool} {l : List Vis} (h : UOk A U l) : l.length ≤ A.length := nodup_sub_len h.ld h.sub
theorem UOk.next {A : List Vis} {U : List Bool} {l : List Vis} {i : Int} (h : UOk A U l) (h0 : 0 ≤ i) (h1 : i < (A.length : Int)) (hu : ¬ gt U i = true) : UOk A (U.set i.toNat true) (l ++ [gt A i]) where
  len := by rw [List.length_set]; exact h.len
  nd := h.nd
  ld := List.nodup_append.2 ⟨h.ld, (by simp), fun a ha b hb e => by
    simp only [List.mem_singleton] at hb; subst hb; subst e; exact hu ((h.iff i h0 h1).2 ha)⟩
  sub := fun x hx => by
    rcases List.mem_append.1 hx with hx | hx
    · exact h.sub x hx
    · simp only [List.mem_singleton] at hx; subst hx; exact gt_in h0 h1
  iff := fun j j0 j1 => by
    have hl := h.len
    by_cases hij : i = j
    · subst hij; rw [gt_sets h0 (by omega)]; exact ⟨fun _ => by simp, fun _ => rfl⟩
    · rw [gt_setn h0 j0 hij, h.iff j j0 j1, List.mem_append, List.mem_singleton]
      exact ⟨.inl, fun e => e.resolve_right (fun e => hij (gt_inj h.nd h0 h1 j0 j1 e.symm))⟩
theorem set_back {U : List Bool} {i : Int} (h0 : 0 ≤ i) (h1 : i < (U.length : Int)) (hu : ¬ gt U i = true) : (U.set i.toNat true).set i.toNat false = U := by
  rw [List.set_set]
  have e : U[i.toNat]? = some false := by
    rw [List.getElem?_eq_getElem (by omega)]
    have e1 : gt U i = U[i.toNat]'(by omega) := by unfold gt; rw [List.getD_eq_getElem?_getD, List.getElem?_eq_getElem (by omega)]; rfl
    rw [← e1]; exact congrArg some (by cases hg : gt U i with | false => rfl | true => exact absurd hg hu)
  apply List.ext_getElem?
  intro j
  rw [List.getElem?_set]
  split
  · rename_i h; subst h; rw [e]; simp; omega
  · rfl
theorem uok_skip {p : PB} (L : LawP p) {U : List Bool} {l r : List Vis} {i : Int} (h : UOk (visL (taskL p)) U l) (h0 : 0 ≤ i) (h1 : i < ((visL (taskL p)).length : Int)) (hu : gt U i = true ∨ ((gt (visL (taskL p)) i).kind = 3 ∧ ¬ gt U (i - 1) = true)) : ¬ (fitV p 0 (l ++ gt (visL (taskL p)) i :: r)).e = 0 := fun hf => by
  obtain ⟨h2, h3⟩ := fit_seen L hf rfl
  rcases hu with hu | ⟨hk, hu⟩
  · exact h2 ((h.iff i h0 h1).1 hu)
  · obtain ⟨h4, h5⟩ := visL_del h0 h1 hk
    have := h3 hk; rw [← h5] at this
    exact hu ((h.iff (i - 1) (by omega) (by omega)).2 this)
def GoodS (p : PB) (b : Int × Int) : Prop := b = (0, 0) ∨ ∃ m, m ≠ [] ∧ (fitV p 0 m).e = 0 ∧ b = scL p m
def NoB (p : PB) (l : List Vis) (b : Int × Int) : Prop := ∀ r, l ++ r ≠ [] → (fitV p 0 (l ++ r)).e = 0 → ¬ BetS (scL p (l ++ r)) b
theorem NoB.mono {p : PB} {l : List Vis} {b c : Int × Int} (h : NoB p l b) (hb : ¬ BetS b c) : NoB p l c := fun r hr hf => betS_chain (h r hr hf) hb
theorem betS_irr {b : Int × Int} : ¬ BetS b b := fun q => by unfold BetS at q; omega
theorem nob_all {p : PB} (L : LawP p) {l : List Vis} {b : Int × Int} (hl : l ≠ [] → (fitV p 0 l).e = 0 → ¬ BetS (scL p l) b) (h : ∀ j : Int, 0 ≤ j → j < ((visL (taskL p)).length : Int) → NoB p (l ++ [gt (visL (taskL p)) j]) b) : NoB p l b := fun r hr hf => by
  cases r with
  | nil => rw [List.append_nil] at hr hf ⊢; exact hl hr hf
  | cons x r =>
    have hx := fit_mem9 L hf x (List.mem_append_right _ (List.mem_cons_self ..))
    obtain ⟨n, hn, e⟩ := List.getElem_of_mem hx
    have e2 : gt (visL (taskL p)) ((n : Nat) : Int) = x := by unfold gt; rw [List.getD_eq_getElem?_getD, Int.toNat_natCast, List.getElem?_eq_getElem hn, e]; rfl
    have := h (n : Int) (by omega) (by omega)
    rw [e2] at this
    have h2 := this r (by simp) (by rw [List.append_assoc]; exact hf)
    rw [List.append_assoc] at h2; exact h2
theorem nob_skip {p : PB} (L : LawP p) {U : List Bool} {l : List Vis} {i : Int} {b : Int × Int} (h : UOk (visL (taskL p)) U l) (h0 : 0 ≤ i) (h1 : i < ((visL (taskL p)).length : Int)) (hu : gt U i = true ∨ ((gt (visL (taskL p)) i).kind = 3 ∧ ¬ gt U (i - 1) = true)) : NoB p (l ++ [gt (visL (taskL p)) i]) b := fun r _ hf => by
  rw [List.append_assoc] at hf; exact absurd hf (uok_skip L h h0 h1 hu)
theorem good_not {p : PB} {b : Int × Int} {s : List RC} (h : GoodS p b) (hs : BestR p s) : ¬ BetS b (scR p s) := by
  rcases h with rfl | ⟨m, h1, h2, rfl⟩
  · exact nil_not hs
  · exact hs.all m h1 h2
theorem full_eq {p : PB} (L : LawP p) {b : Int × Int} {s : List RC} (h : GoodS p b) (h0 : ¬ BetS (0, 0) b) (hs : BestR p s) (hf : ∀ m, m ≠ [] → (fitV p 0 m).e = 0 → ¬ BetS (scL p m) b) : scR p s = b := by
  refine betS_eq ?_ (good_not h hs)
  rcases hs.one with rfl | ⟨l, rfl, h1, h2, _⟩
  · rw [scR_nil]; exact h0
  · rw [scR_one]; exact hf l h1 h2
theorem fit_veh {p : PB} (L : LawP p) {m : List Vis} (h : (fitV p 0 m).e = 0) : 0 < p.vehs.length := by
  obtain ⟨_, _, _, m, _, hm⟩ := fit_parts L h
  have := (plan_e0 hm).1; omega
theorem tmul_le {T i n : Int} (h : 0 ≤ T) (hi : i ≤ n) : i * T ≤ n * T := Int.mul_le_mul_of_nonneg_right hi h
theorem t_next2 {T i : Int} : (i + 1) * T = i * T + T := by rw [Int.add_mul]; omega
theorem tp_one {f : Int} (h : 0 ≤ f) : 1 ≤ tp f := by
  have h1 := tp_step (f := f) (n := 0) h (by decide) (by decide)
  have h2 : 0 ≤ tp (f - 1) := tp_0
  omega
end Go.SX
set_option maxRecDepth 20000
set_option maxHeartbeats 1000000
namespace Go.Proofs.YtimhdimhdimbjaaGreat.Sx.FA
open Go Go.SX Go.Proofs Go.Proofs.Tryz
theorem hbd120 : hasBody prog 120 = true := by kernel_rfl
theorem hbd81 : hasBody prog 81 = true := by kernel_rfl
theorem ai3 : (prog.info? 3).map (fun i => (i.zero, i.size, i.bytes)) = some (some (.int .i64 0), 1, 8) := by kernel_rfl
theorem ty3 : ty prog 3 = some (false, 1) := by kernel_rfl
theorem mo : prog.follows .mixedOrders = true := by kernel_rfl
theorem hbd80 : hasBody prog 80 = true := by kernel_rfl
theorem hbd153 : hasBody prog 153 = true := by kernel_rfl
theorem ty69 : ty prog 69 = some (true, 2) := by kernel_rfl
theorem zf69 : (prog.info? 69).bind (fun i => i.zero.map Value.cells) = some (List.toArray [.int .i64 0, .int .i64 0]) := by kernel_rfl
theorem fo69_1 : fo prog 69 1 = some 1 := by kernel_rfl
theorem fo69_0 : fo prog 69 0 = some 0 := by kernel_rfl
end Go.Proofs.YtimhdimhdimbjaaGreat.Sx.FA
namespace Go.Proofs.YtimhdimhdimbjaaGreat.Sx
open Go Go.SX Go.Proofs Go.Proofs.Tryz FA
theorem fits_ (a : Int) (S : Nat → Prop) (wf : World) :
  TR0 prog 120 [.int .i64 a] [] S wf (fun v_ C_ => v_ = .bool (decide (a ≥ (-4611686018427387903)) && decide (a ≤ 4611686018427387903)) ∧ C_ = []) := by
 refine TR.mk func120 G ntmps120 G G (fun w_ => ?_)
 refine .seq (.region (.a G G G (.go idQ (.seq (.region (.m G G G ?_))))))
 refine .e G G G G G (.m G G G (.w (fun _ => ev_mv G G) G (.w (fun hb => ev_cmp G (lkg G hb) G G) G ?_)))
 refine .v (ev_and G G G G) G (.a G G G (.go idQ (.ret idQ (ret1 results120 G .n ⟨G, G⟩))))
theorem nadd_ (a : Int) (b : Int) (S : Nat → Prop) (wf : World) (h_a : -1000000000000 ≤ a ∧ a ≤ 1000000000000) (h_b : -1000000000000 ≤ b ∧ b ≤ 1000000000000) :
  TR0 prog 81 [.int .i64 a, .int .i64 b] [] S wf (fun v_ C_ => v_ = .tuple #[.int .i64 (a + b), .int .i64 0] ∧ C_ = []) := by
 refine TR.mk func81 G ntmps81 G G (fun w_ => ?_)
 refine .seq (.region (.a G G G (.a G G G (.go idQ (.seq (.seq (.region ?_)))))))
 refine .m G G G (.cons (st_callk G G G G hbd120 G .n (fits_ a _ _) (.v (ev_not G G) G (.m G G G ?_))))
 refine .w (fun _ => ev_mv G G) G (.cons (st_gcallk G G G G G G hbd120 (fun hb => (lkA1 (lkg G hb) lkA0)) .n (fun hb => have hp := bF (bN (bA bD bD)) hb; fits_ b _ _) (.w (fun hb => ev_not G (lkg G hb)) G (.r G G G G G ?_))))
 refine .m G G G (.w (fun _ => ev_mv G G) G (.w (fun _ => ev_mv G G) G (.w (fun hb => have hp := bF (bO (bN (bA bD bD)) (bN (bA bD bD))) hb; ev_add G (lkg G hb) (lkg G hb) (r := (a + b)) G (by have _h := hp; omega) (by have _h := hp; omega)) G ?_)))
 refine .cons (st_gcallk G G G G G G hbd120 (fun hb => (lkA1 (lkg G hb) lkA0)) .n (fun hb => have hp := bF (bO (bN (bA bD bD)) (bN (bA bD bD))) hb; fits_ (a + b) _ _) ?_)
 refine .w (fun hb => ev_not G (lkg G hb)) G (.r G G G G G (.go idQ (.condI G (bO (bO (bN (bA bD bD)) (bN (bA bD bD))) (bN (bA bD bD))) (fun h1 => ?_) (fun h1 => ?_))))
 ·
  exfalso; omega
 refine .skipgo idQ (.seq (.region (.m G G G (.m G G G (.p ((a + b)) oO oO G G G G G ?_)))))
 refine .a G G G (.a G G G (.go idQ (.ret idQ (ret2 results81 G G .n ⟨G, G⟩))))
theorem lsub1_ (a : Int) (b : Int) (S : Nat → Prop) (wf : World) (h_a : -1000000000000 ≤ a ∧ a ≤ 1000000000000) (h_b : -1000000000000 ≤ b ∧ b ≤ 1000000000000) :
  TR0 prog 153 [.int .i64 a, .int .i64 b] [] S wf (fun v_ C_ => v_ = .tuple #[.int .i64 (a + (-b)), .int .i64 0] ∧ C_ = []) := by
 refine TR.mk func153 G ntmps153 G G (fun w_ => ?_)
 refine .seq (.region (.a G G G (.a G G G (.go idQ (.seq (.seq (.region ?_)))))))
 refine .m G G G (.cons (st_callk G G G G hbd120 G .n (fits_ b _ _) (.v (ev_not G G) G (.go idQ ?_))))
 refine .condI G (bN (bA bD bD)) (fun h1 => ?_) (fun h1 => ?_)
 ·
  exfalso; omega
 refine .skipgo idQ (.seq (.region (.m G G G (.m G G G (.v (ev_neg G G oO oO) G ?_)))))
 refine .cons (st_callk G G G G hbd81 G .n (nadd_ a (-b) _ _ oO oO) ?_)
 refine .x G G G G (.x G G G G (.a G G G (.a G G G ?_)))
 refine .go idQ (.ret idQ (ret2 results153 G G .n ⟨G, G⟩))
theorem lzero_ (n : Int) (S : Nat → Prop) (wf : World) (hn : 0 ≤ n ∧ n ≤ 3) :
  TR0 prog 49 [.int .i64 n] [] S wf (fun v_ C_ => ∃ (u : Value), v_ = u ∧ C_ = [rw_ eZ 3 (u) (List.replicate (n).toNat (0 : Int))]) := by
 refine TR.mk func49 G ntmps49 G G (fun w_ => ?_)
 refine .seq (.region (.a G G G (.go idQ (.seq (.seq (.region (.m G G G ?_)))))))
 refine .e G G G G G (.m G G G (.w (fun _ => ev_mv G G) G (.w (fun hb => ev_cmp G (lkg G hb) G G) G ?_)))
 refine .r G G G G G (.go idQ (.condI G (bO bD bD) (fun h1 => ?_) (fun h1 => ?_)))
 ·
  exfalso; omega
 refine .skipgo idQ (.seq (.region (.m G G G (.cons (st_mkints (q := .i64) (n := (n).toNat) G G G G underlying22 ai3 G G oO oO G (fun b2 => (.a G G G ?_)))))))
 refine .go idQ (.ret idQ (ret1 results49 G (.c .h .n) ⟨.slice (some ⟨b2, 0, none⟩) ((n).toNat) ((n).toNat), G, G⟩))
theorem each_addL (A : Option Addr) (c : Nat) (a : List Int) (B : Option Addr) (d : Nat) (b : List Int) (S : Nat → Prop) (wf : World) (hA : Fr eZ S wf A a) (hB : Fr eZ S wf B b) (hl : a.length = b.length) (hm : a.length ≤ 100) (kb1 : bdd 100000000000 a) (kb2 : bdd 100000000000 b) :
  TR0 prog 80 [.slice A a.length c, .slice B b.length d, .func (.func 81) #[] #[]] [] S wf (fun v_ C_ => ∃ (u : Value), v_ = .tuple #[u, .int .i64 0] ∧ C_ = [rw_ eZ 3 (u) (addL a b)]) := by
 refine TR.mk func80 G ntmps80 G G (fun w_ => ?_)
 refine .seq (.region (.a G G G (.a G G G (.go idQ (.seq (.seq (.region ?_)))))))
 refine .m G G G (.g underlying22 G G G (.m G G G (.g underlying22 G G G ?_)))
 refine .e G G G G G (.go idQ (.condI G bNE (fun h1 => ?_) (fun h1 => ?_)))
 ·
  exfalso; omega
 refine .skipgo idQ (.seq (.region (.a G G G (.go idQ (.seq (.seq (.region (.m G G G ?_))))))))
 refine .g underlying22 G G G (.m G G G (.go idQ (.block ?_)))
 refine SC.nilrow eZ 3 ?_
 refine .loop (X := Int × (List Int) × Value) (fun ⟨i, X, u_X⟩ => 0 ≤ i ∧ i ≤ (a.length : Int) ∧ X = addL (a.take i.toNat) (b.take i.toNat) ∧ (X.length : Int) ≤ i) (fun ⟨i, X, u_X⟩ => [(0, .slice A a.length c), (1, .slice B b.length d), (2, .func (.func 81) #[] #[]), (18, .int .i64 (a.length : Int)), (19, .int .i64 i), (8, u_X)]) (fun ⟨i, X, u_X⟩ => [rw_ eZ 3 (u_X) X]) (fun _ => S) (fun _ => wf) (fun ⟨i, X, u_X⟩ => ((a.length : Int) - i).toNat) (fun a_ w_ hs_ hw_ => ⟨⟨0, ([] : List Int), .slice none 0 0⟩, (by (try dsimp only); exact ⟨oO, oO, (by simp [addL]), (by simp)⟩), hs_.mono (Sub.get (.c4 G G G G (.c G (.c G .n)))), hw_.keep (.c .h .n)⟩) (fun ⟨i, X, u_X⟩ ⟨q_0, q_1, q_2, q_3⟩ => ?_)
 try dsimp only
 refine .seq (.region (.e G G G G G (.go idQ (.seq (.condI G bD (fun h2 => ?_) (fun h2 => ?_))))))
 ·
  refine .skipgo idQ (.seq (.block (.seq (.region (.m G G G (.a G G G (.go idQ (.seq ?_))))))))
  refine SC.draw mo [] [] .n (fun _ _ _ => sc0) (fun wf_3 hl_3 hx_3 hR_3 => ?_)
  refine SR.m 0 G G G G ?_
  refine SR.m 1 G G G G ?_
  refine SR.m 2 G G G G ?_
  refine SR.z 3 G G (ev_ix G underlying22 ty3 G G oO oO (fun _ _ => Fr.adr (i := i) (Fr.ext hA hx_3) oO oO)) ?_
  refine SR.z 4 G G (ev_ld1 G ty3 G (At.elem1 (At.d (Fr.el (i := i) (Fr.ext hA hx_3) oO oO)) 0 G)) ?_
  refine SR.m 5 G G G G ?_
  refine SR.m 6 G G G G ?_
  refine SR.z 7 G G (ev_ix G underlying22 ty3 G G oO oO (fun _ _ => Fr.adr (i := i) (Fr.ext hB hx_3) oO oO)) ?_
  refine SR.z 8 G G (ev_ld1 G ty3 G (At.elem1 (At.d (Fr.el (i := i) (Fr.ext hB hx_3) oO oO)) 0 G)) ?_
  refine SR.o 9 G (.viafun G G (st_callk G G G G hbd81 G .n (nadd_ (gt a i) (gt b i) _ _ (by have := kb1 i; have := kb2 i; omega) (by have := kb1 i; have := kb2 i; omega)) ⟨tt0, ?_⟩))
  refine SR.m 10 G G G G ?_
  refine SR.z 11 G G (ev_ext G G G) ?_
  refine SR.z 12 G G (ev_ext G G G) ?_
  refine SR.z 13 G G (ev_as G G) ?_
  refine SR.z 14 G G (ev_as G G) ?_
  refine SR.fin kR hl_3 hx_3 hR_3 .n ?_
  refine SQ.go idQ ?_
  refine .seq (.seq (.region (.m G G G (.v (ev_cmp (r := false) G G G G) G (.go idQ ?_)))))
  refine .cond_f G ?_
  refine .skipgo idQ (.region (.m G G G (.m G G G (.cons (st_lit eZ (e := 3) (l := [((gt a i) + (gt b i))]) G G G G kR G G kW (fun b4 => ?_))))))
  refine .cons (st_app (E := eZ) (m := [((gt a i) + (gt b i))]) G G G G underlying22 ai3 G G G (.t .h) rO (row_src 0 G) lO G (fun v5 => ?_))
  refine .a G G G (.go idQ (.region (.p ((i + 1)) oO oO G G G G G (.m G G G ?_))))
  exact SP.nil (SQ.roundb (X := Int × (List Int) × Value) (x := (i, X, u_X)) ⟨(i + 1), (X ++ [((gt a i) + (gt b i))]), v5⟩ (by (try dsimp only); exact ⟨oO, oO, (addL_next q_2 oO oO oO), (by simp only [List.length_append, List.length_singleton]; omega)⟩) dO (Sub.get (.c4 G G G G (.c G (.c G .n)))) (kp (.c .h .n)))
 refine .exit idQ ?_
 refine .seq (.region (.m G G G (.a G G G (.a G G G ?_))))
 refine .go idQ (.ret idQ (ret2 results80 G G (.c .h .n) ⟨u_X, G, (by rw [zip_all (f := addL) q_2 oO hl])⟩))
theorem laddL (A : Option Addr) (c : Nat) (a : List Int) (B : Option Addr) (d : Nat) (b : List Int) (S : Nat → Prop) (wf : World) (hA : Fr eZ S wf A a) (hB : Fr eZ S wf B b) (hl : a.length = b.length) (hm : a.length ≤ 100) (kb1 : bdd 100000000000 a) (kb2 : bdd 100000000000 b) :
  TR0 prog 53 [.slice A a.length c, .slice B b.length d] [] S wf (fun v_ C_ => ∃ (u : Value), v_ = .tuple #[u, .int .i64 0] ∧ C_ = [rw_ eZ 3 (u) (addL a b)]) := by
 refine TR.mk func53 G ntmps53 G G (fun w_ => ?_)
 refine .seq (.region (.a G G G (.a G G G (.go idQ (.seq (.region ?_))))))
 refine .m G G G (.m G G G (.cons (st_call0 G G G G hbd80 G .n (each_addL A c a B d b _ _ hA hB lO lO oO oO) (fun v_q2 C_q2 q2 => ?_))))
 obtain ⟨u1, rfl, rfl⟩ := q2
 show SP _ _ _ _ _ _ ⟨_, _ :: _, _, _⟩
 refine .x G G G G (.x G G G G (.a G G G (.a G G G ?_)))
 refine .go idQ (.ret idQ (ret2 results53 G G (.c .h .n) ⟨u1, G, G⟩))
theorem each_subL (A : Option Addr) (c : Nat) (a : List Int) (B : Option Addr) (d : Nat) (b : List Int) (S : Nat → Prop) (wf : World) (hA : Fr eZ S wf A a) (hB : Fr eZ S wf B b) (hl : a.length = b.length) (hm : a.length ≤ 100) (kb1 : bdd 100000000000 a) (kb2 : bdd 100000000000 b) :
  TR0 prog 80 [.slice A a.length c, .slice B b.length d, .func (.func 153) #[] #[]] [] S wf (fun v_ C_ => ∃ (u : Value), v_ = .tuple #[u, .int .i64 0] ∧ C_ = [rw_ eZ 3 (u) (subL a b)]) := by
 refine TR.mk func80 G ntmps80 G G (fun w_ => ?_)
 refine .seq (.region (.a G G G (.a G G G (.go idQ (.seq (.seq (.region ?_)))))))
 refine .m G G G (.g underlying22 G G G (.m G G G (.g underlying22 G G G ?_)))
 refine .e G G G G G (.go idQ (.condI G bNE (fun h1 => ?_) (fun h1 => ?_)))
 ·
  exfalso; omega
 refine .skipgo idQ (.seq (.region (.a G G G (.go idQ (.seq (.seq (.region (.m G G G ?_))))))))
 refine .g underlying22 G G G (.m G G G (.go idQ (.block ?_)))
 refine SC.nilrow eZ 3 ?_
 refine .loop (X := Int × (List Int) × Value) (fun ⟨i, X, u_X⟩ => 0 ≤ i ∧ i ≤ (a.length : Int) ∧ X = subL (a.take i.toNat) (b.take i.toNat) ∧ (X.length : Int) ≤ i) (fun ⟨i, X, u_X⟩ => [(0, .slice A a.length c), (1, .slice B b.length d), (2, .func (.func 153) #[] #[]), (18, .int .i64 (a.length : Int)), (19, .int .i64 i), (8, u_X)]) (fun ⟨i, X, u_X⟩ => [rw_ eZ 3 (u_X) X]) (fun _ => S) (fun _ => wf) (fun ⟨i, X, u_X⟩ => ((a.length : Int) - i).toNat) (fun a_ w_ hs_ hw_ => ⟨⟨0, ([] : List Int), .slice none 0 0⟩, (by (try dsimp only); exact ⟨oO, oO, (by simp [subL]), (by simp)⟩), hs_.mono (Sub.get (.c4 G G G G (.c G (.c G .n)))), hw_.keep (.c .h .n)⟩) (fun ⟨i, X, u_X⟩ ⟨q_0, q_1, q_2, q_3⟩ => ?_)
 try dsimp only
 refine .seq (.region (.e G G G G G (.go idQ (.seq (.condI G bD (fun h2 => ?_) (fun h2 => ?_))))))
 ·
  refine .skipgo idQ (.seq (.block (.seq (.region (.m G G G (.a G G G (.go idQ (.seq ?_))))))))
  refine SC.draw mo [] [] .n (fun _ _ _ => sc0) (fun wf_3 hl_3 hx_3 hR_3 => ?_)
  refine SR.m 0 G G G G ?_
  refine SR.m 1 G G G G ?_
  refine SR.m 2 G G G G ?_
  refine SR.z 3 G G (ev_ix G underlying22 ty3 G G oO oO (fun _ _ => Fr.adr (i := i) (Fr.ext hA hx_3) oO oO)) ?_
  refine SR.z 4 G G (ev_ld1 G ty3 G (At.elem1 (At.d (Fr.el (i := i) (Fr.ext hA hx_3) oO oO)) 0 G)) ?_
  refine SR.m 5 G G G G ?_
  refine SR.m 6 G G G G ?_
  refine SR.z 7 G G (ev_ix G underlying22 ty3 G G oO oO (fun _ _ => Fr.adr (i := i) (Fr.ext hB hx_3) oO oO)) ?_
  refine SR.z 8 G G (ev_ld1 G ty3 G (At.elem1 (At.d (Fr.el (i := i) (Fr.ext hB hx_3) oO oO)) 0 G)) ?_
  refine SR.o 9 G (.viafun G G (st_callk G G G G hbd153 G .n (lsub1_ (gt a i) (gt b i) _ _ (by have := kb1 i; have := kb2 i; omega) (by have := kb1 i; have := kb2 i; omega)) ⟨tt0, ?_⟩))
  refine SR.m 10 G G G G ?_
  refine SR.z 11 G G (ev_ext G G G) ?_
  refine SR.z 12 G G (ev_ext G G G) ?_
  refine SR.z 13 G G (ev_as G G) ?_
  refine SR.z 14 G G (ev_as G G) ?_
  refine SR.fin kR hl_3 hx_3 hR_3 .n ?_
  refine SQ.go idQ ?_
  refine .seq (.seq (.region (.m G G G (.v (ev_cmp (r := false) G G G G) G (.go idQ ?_)))))
  refine .cond_f G ?_
  refine .skipgo idQ (.region (.m G G G (.m G G G (.cons (st_lit eZ (e := 3) (l := [((gt a i) + (-(gt b i)))]) G G G G kR G G kW (fun b4 => ?_))))))
  refine .cons (st_app (E := eZ) (m := [((gt a i) + (-(gt b i)))]) G G G G underlying22 ai3 G G G (.t .h) rO (row_src 0 G) lO G (fun v5 => ?_))
  refine .a G G G (.go idQ (.region (.p ((i + 1)) oO oO G G G G G (.m G G G ?_))))
  exact SP.nil (SQ.roundb (X := Int × (List Int) × Value) (x := (i, X, u_X)) ⟨(i + 1), (X ++ [((gt a i) + (-(gt b i)))]), v5⟩ (by (try dsimp only); exact ⟨oO, oO, (subL_next q_2 oO oO oO), (by simp only [List.length_append, List.length_singleton]; omega)⟩) dO (Sub.get (.c4 G G G G (.c G (.c G .n)))) (kp (.c .h .n)))
 refine .exit idQ ?_
 refine .seq (.region (.m G G G (.a G G G (.a G G G ?_))))
 refine .go idQ (.ret idQ (ret2 results80 G G (.c .h .n) ⟨u_X, G, (by rw [zip_all (f := subL) q_2 oO hl])⟩))
theorem lsubL (A : Option Addr) (c : Nat) (a : List Int) (B : Option Addr) (d : Nat) (b : List Int) (S : Nat → Prop) (wf : World) (hA : Fr eZ S wf A a) (hB : Fr eZ S wf B b) (hl : a.length = b.length) (hm : a.length ≤ 100) (kb1 : bdd 100000000000 a) (kb2 : bdd 100000000000 b) :
  TR0 prog 121 [.slice A a.length c, .slice B b.length d] [] S wf (fun v_ C_ => ∃ (u : Value), v_ = .tuple #[u, .int .i64 0] ∧ C_ = [rw_ eZ 3 (u) (subL a b)]) := by
 refine TR.mk func121 G ntmps121 G G (fun w_ => ?_)
 refine .seq (.region (.a G G G (.a G G G (.go idQ (.seq (.region ?_))))))
 refine .m G G G (.m G G G (.cons (st_call0 G G G G hbd80 G .n (each_subL A c a B d b _ _ hA hB lO lO oO oO) (fun v_q2 C_q2 q2 => ?_))))
 obtain ⟨u1, rfl, rfl⟩ := q2
 show SP _ _ _ _ _ _ ⟨_, _ :: _, _, _⟩
 refine .x G G G G (.x G G G G (.a G G G (.a G G G ?_)))
 refine .go idQ (.ret idQ (ret2 results121 G G (.c .h .n) ⟨u1, G, G⟩))
theorem lunder (A : Option Addr) (c : Nat) (a : List Int) (B : Option Addr) (d : Nat) (b : List Int) (S : Nat → Prop) (wf : World) (hA : Fr eZ S wf A a) (hB : Fr eZ S wf B b) :
  TR0 prog 82 [.slice A a.length c, .slice B b.length d] [] S wf (fun v_ C_ => v_ = .bool (underF a b) ∧ C_ = []) := by
 have hla := hA.len
 have hlb := hB.len
 refine TR.mk func82 G ntmps82 G G (fun w_ => ?_)
 refine .seq (.region (.a G G G (.go idQ (.seq (.seq (.region (.m G G G ?_)))))))
 refine .g underlying22 G G G (.m G G G (.g underlying22 G G G (.e G G G G G ?_)))
 refine .go idQ (.condI G bNE (fun h1 => ?_) (fun h1 => ?_))
 ·
  refine .seq (.region (.a G G G (.go idQ (.ret idQ (ret1 results82 G .n ⟨(congrArg Value.bool (by unfold underF; rw [if_neg oO])), G⟩)))))
 refine .skipgo idQ (.seq (.seq (.region (.m G G G (.g underlying22 G G G (.m G G G ?_))))))
 refine .go idQ (.block (.loop (X := Int) (fun i => 0 ≤ i ∧ i ≤ (a.length : Int) ∧ underL (a.drop i.toNat) (b.drop i.toNat) = underL a b ∧ a.length = b.length) (fun i => [(0, .slice A a.length c), (1, .slice B b.length d), (12, .int .i64 (a.length : Int)), (13, .int .i64 i)]) (fun i => []) (fun _ => S) (fun _ => wf) (fun i => ((a.length : Int) - i).toNat) (fun a_ w_ hs_ hw_ => ⟨0, (by (try dsimp only); exact ⟨oO, oO, G, oO⟩), hs_.mono (Sub.get (.c4 G G G G .n)), hw_.keep .n⟩) (fun i ⟨q_0, q_1, q_2, q_3⟩ => ?_)))
 try dsimp only
 refine .seq (.region (.e G G G G G (.go idQ (.seq (.condI G bD (fun h2 => ?_) (fun h2 => ?_))))))
 ·
  refine .skipgo idQ (.seq (.block (.seq (.region (.m G G G (.a G G G (.go idQ (.seq ?_))))))))
  refine SC.draw mo [] [] .n (fun _ _ _ => sc0) (fun wf_3 hl_3 hx_3 hR_3 => ?_)
  refine SR.m 0 G G G G ?_
  refine SR.m 1 G G G G ?_
  refine SR.z 2 G G (ev_ix G underlying22 ty3 G G oO oO (fun _ _ => Fr.adr (i := i) (Fr.ext hA hx_3) oO oO)) ?_
  refine SR.z 3 G G (ev_ld1 G ty3 G (At.elem1 (At.d (Fr.el (i := i) (Fr.ext hA hx_3) oO oO)) 0 G)) ?_
  refine SR.m 4 G G G G ?_
  refine SR.m 5 G G G G ?_
  refine SR.z 6 G G (ev_ix G underlying22 ty3 G G oO oO (fun _ _ => Fr.adr (i := i) (Fr.ext hB hx_3) oO oO)) ?_
  refine SR.z 7 G G (ev_ld1 G ty3 G (At.elem1 (At.d (Fr.el (i := i) (Fr.ext hB hx_3) oO oO)) 0 G)) ?_
  refine SR.z 8 G G (ev_cmp G G G G) ?_
  refine SR.fin kR hl_3 hx_3 hR_3 .n ?_
  refine SQ.go idQ ?_
  refine .condI G bD (fun h4 => ?_) (fun h4 => ?_)
  ·
   refine .seq (.region (.a G G G (.go idQ (.ret idQ (ret1 results82 G .n ⟨(congrArg Value.bool (by unfold underF; rw [if_pos q_3, ← q_2, drop_gt (x := i) oO oO, drop_gt (x := i) (l := b) oO oO, underL_cons, if_pos oO])), G⟩)))))
  refine .skipgo idQ (.region (.p ((i + 1)) oO oO G G G G G (.m G G G ?_)))
  exact SP.nil (SQ.roundb (X := Int) (x := (i)) (i + 1) (by (try dsimp only); exact ⟨oO, oO, (by have hq := q_2; rw [drop_gt (x := i) oO oO, drop_gt (x := i) (l := b) oO oO, underL_cons, if_neg oO] at hq; exact hq), oO⟩) (by show (_ : Nat) < _; omega) (Sub.get (.c4 G G G G .n)) (kp .n))
 refine .exit idQ ?_
 refine .seq (.region (.a G G G (.go idQ (.ret idQ (ret1 results82 G .n ⟨(congrArg Value.bool (by unfold underF; rw [if_pos q_3]; exact underL_end q_2 oO)), G⟩)))))
theorem runder (A : Option Addr) (c : Nat) (a : List Int) (B : Option Addr) (d : Nat) (b : List Int) (S : Nat → Prop) (wf : World) (hA : Fr eZ S wf A a) (hB : Fr eZ S wf B b) :
  TR0 prog 134 [.slice A a.length c, .slice B b.length d] [] S wf (fun v_ C_ => v_ = .bool (underF a b) ∧ C_ = []) := by
 have hla := hA.len
 have hlb := hB.len
 refine TR.mk func134 G ntmps134 G G (fun w_ => ?_)
 refine .seq (.region (.a G G G (.go idQ (.seq (.seq (.region (.m G G G ?_)))))))
 refine .g underlying22 G G G (.m G G G (.g underlying22 G G G (.e G G G G G ?_)))
 refine .go idQ (.condI G bNE (fun h1 => ?_) (fun h1 => ?_))
 ·
  refine .seq (.region (.a G G G (.go idQ (.ret idQ (ret1 results134 G .n ⟨(congrArg Value.bool (by unfold underF; rw [if_neg oO])), G⟩)))))
 refine .skipgo idQ (.seq (.seq (.region (.a G G G (.go idQ (.block (.loop (X := Int) (fun i => 0 ≤ i ∧ i ≤ (a.length : Int) ∧ underL (a.drop i.toNat) (b.drop i.toNat) = underL a b ∧ a.length = b.length) (fun i => [(0, .slice A a.length c), (1, .slice B b.length d), (5, .int .i64 i)]) (fun i => []) (fun _ => S) (fun _ => wf) (fun i => ((a.length : Int) - i).toNat) (fun a_ w_ hs_ hw_ => ⟨0, (by (try dsimp only); exact ⟨oO, oO, G, oO⟩), hs_.mono (Sub.get (.c G (.c G (.c G .n)))), hw_.keep .n⟩) (fun i ⟨q_0, q_1, q_2, q_3⟩ => ?_))))))))
 try dsimp only
 refine .seq (.seq (.region (.m G G G (.m G G G (.g underlying22 G G G ?_)))))
 refine .e G G G G G (.go idQ (.condI G bD (fun h2 => ?_) (fun h2 => ?_)))
 ·
  refine .skipgo idQ (.seq (.block (.seq ?_)))
  refine SC.draw mo [] [] .n (fun _ _ _ => sc0) (fun wf_3 hl_3 hx_3 hR_3 => ?_)
  refine SR.m 0 G G G G ?_
  refine SR.m 1 G G G G ?_
  refine SR.z 2 G G (ev_ix G underlying22 ty3 G G oO oO (fun _ _ => Fr.adr (i := i) (Fr.ext hA hx_3) oO oO)) ?_
  refine SR.z 3 G G (ev_ld1 G ty3 G (At.elem1 (At.d (Fr.el (i := i) (Fr.ext hA hx_3) oO oO)) 0 G)) ?_
  refine SR.m 4 G G G G ?_
  refine SR.m 5 G G G G ?_
  refine SR.z 6 G G (ev_ix G underlying22 ty3 G G oO oO (fun _ _ => Fr.adr (i := i) (Fr.ext hB hx_3) oO oO)) ?_
  refine SR.z 7 G G (ev_ld1 G ty3 G (At.elem1 (At.d (Fr.el (i := i) (Fr.ext hB hx_3) oO oO)) 0 G)) ?_
  refine SR.z 8 G G (ev_cmp G G G G) ?_
  refine SR.fin kR hl_3 hx_3 hR_3 .n ?_
  refine SQ.go idQ ?_
  refine .condI G bD (fun h4 => ?_) (fun h4 => ?_)
  ·
   refine .seq (.region (.a G G G (.go idQ (.ret idQ (ret1 results134 G .n ⟨(congrArg Value.bool (by unfold underF; rw [if_pos q_3, ← q_2, drop_gt (x := i) oO oO, drop_gt (x := i) (l := b) oO oO, underL_cons, if_pos oO])), G⟩)))))
  refine .skipgo idQ (.region (.m G G G (.p ((i + 1)) oO oO G G G G G (.a G G G ?_))))
  exact SP.nil (SQ.roundb (X := Int) (x := (i)) (i + 1) (by (try dsimp only); exact ⟨oO, oO, (by have hq := q_2; rw [drop_gt (x := i) oO oO, drop_gt (x := i) (l := b) oO oO, underL_cons, if_neg oO] at hq; exact hq), oO⟩) (by show (_ : Nat) < _; omega) (Sub.get (.c G (.c G (.c G .n)))) (kp .n))
 refine .exit idQ ?_
 refine .seq (.region (.a G G G (.go idQ (.ret idQ (ret1 results134 G .n ⟨(congrArg Value.bool (by unfold underF; rw [if_pos q_3]; exact underL_end q_2 oO)), G⟩)))))
theorem hstart (A : Option Addr) (c : Nat) (l : List WN) (t : Int) (S : Nat → Prop) (wf : World) (hA : Fr eWN S wf A l) :
  TR0 prog 85 [.slice A l.length c, .int .i64 t] [] S wf (fun v_ C_ => v_ = .tuple #[.int .i64 ((startF l t).1), .bool ((startF l t).2)] ∧ C_ = []) := by
 have hla := hA.len
 refine TR.mk func85 G ntmps85 G G (fun w_ => ?_)
 refine .seq (.region (.a G G G (.a G G G (.go idQ (.seq (.seq (.region ?_)))))))
 refine .m G G G (.g underlying73 G G G (.m G G G (.go idQ (.block ?_))))
 refine .loop (X := Int) (fun i => 0 ≤ i ∧ i ≤ (l.length : Int) ∧ startF (l.drop i.toNat) t = startF l t) (fun i => [(1, .int .i64 t), (8, .slice A l.length c), (9, .int .i64 (l.length : Int)), (10, .int .i64 i)]) (fun i => []) (fun _ => S) (fun _ => wf) (fun i => ((l.length : Int) - i).toNat) (fun a_ w_ hs_ hw_ => ⟨0, (by (try dsimp only); exact ⟨oO, oO, G⟩), hs_.mono (Sub.get (.c4 G G G G .n)), hw_.keep .n⟩) (fun i ⟨q_0, q_1, q_2⟩ => ?_)
 try dsimp only
 refine .seq (.region (.e G G G G G (.go idQ (.seq (.condI G bD (fun h1 => ?_) (fun h1 => ?_))))))
 ·
  refine .skipgo idQ (.seq (.block (.seq (.region (.v (ev_ix G underlying73 ty69 G G oO oO (fun _ _ => Fr.adr (i := i) hA oO oO)) G (.v (ev_lda G G (At.w (Fr.el (i := i) hA oO oO)) ty69) G (.cons (st_alloc G G G G zf69 (fun b2 => ?_)))))))))
  refine .cons (st_storea (l' := [.int .i64 ((gt l i).lo), .int .i64 ((gt l i).hi)]) G G G ty69 G G G .h G G ?_)
  refine .go idQ (.seq (.region (.m G G G (.f fo69_1 1 G G G G (.l ty3 0 G G G G G ?_)))))
  refine .e G G G G G (.go idQ (.condI G bD (fun h3 => ?_) (fun h3 => ?_)))
  ·
   refine .seq (.region (.m G G G (.f fo69_0 0 G G G G (.l ty3 0 G G G G G ?_))))
   refine .v (ev_max G G G) G (.a G G G (.a G G G (.go idQ ?_)))
   exact .ret idQ (ret2 results85 G G .n ⟨(by rw [← q_2, drop_gt (x := i) oO oO, startF_cons, if_pos oO]), G⟩)
  refine .skipgo idQ (.region (.p ((i + 1)) oO oO G G G G G (.m G G G ?_)))
  exact SP.nil (SQ.roundb (X := Int) (x := (i)) (i + 1) (by (try dsimp only); exact ⟨oO, oO, (by have hq := q_2; rw [drop_gt (x := i) oO oO, startF_cons, if_neg oO] at hq; exact hq)⟩) (by show (_ : Nat) < _; omega) (Sub.get (.c4 G G G G .n)) (kp .n))
 refine .exit idQ ?_
 refine .seq (.region (.a G G G (.a G G G (.go idQ ?_))))
 exact .ret idQ (ret2 results85 G G .n ⟨(by rw [← q_2, drop_end oO]; rfl), G⟩)
theorem covers_ (a : Int) (b : Int) (S : Nat → Prop) (wf : World) :
  TR0 prog 50 [.int .u64 a, .int .u64 b] [] S wf (fun v_ C_ => v_ = .bool ((ban .u64 b a) == 0) ∧ C_ = []) := by
 refine TR.mk func50 G ntmps50 G G (fun w_ => ?_)
 refine .seq (.region (.a G G G (.go idQ (.seq (.region (.m G G G ?_))))))
 refine .m G G G (.v (ev_bandn G G G) G (.e G G G G G (.a G G G ?_)))
 refine .go idQ (.ret idQ (ret1 results50 G .n ⟨G, G⟩))
end Go.Proofs.YtimhdimhdimbjaaGreat.Sx
set_option maxRecDepth 20000
set_option maxHeartbeats 1000000
namespace Go.Proofs.YtimhdimhdimbjaaGreat.Sx.FB
open Go Go.SX Go.Proofs Go.Proofs.Tryz FA FB
theorem ai92 : (prog.info? 92).map (fun i => (i.zero, i.size, i.bytes)) = some (some (.agg #[.int .i64 0, .int .i64 0]), 2, 16) := by kernel_rfl
theorem ai69 : (prog.info? 69).map (fun i => (i.zero, i.size, i.bytes)) = some (some (.agg #[.int .i64 0, .int .i64 0]), 2, 16) := by kernel_rfl
theorem fo61_0 : fo prog 61 0 = some 0 := by kernel_rfl
theorem ty4 : ty prog 4 = some (false, 1) := by kernel_rfl
theorem fo61_1 : fo prog 61 1 = some 1 := by kernel_rfl
theorem fo29_5 : fo prog 29 5 = some 7 := by kernel_rfl
theorem ty27 : ty prog 27 = some (false, 1) := by kernel_rfl
theorem fo29_4 : fo prog 29 4 = some 6 := by kernel_rfl
theorem ty26 : ty prog 26 = some (false, 1) := by kernel_rfl
theorem hbd35 : hasBody prog 35 = true := by kernel_rfl
theorem ty29 : ty prog 29 = some (true, 8) := by kernel_rfl
theorem ty61 : ty prog 61 = some (true, 2) := by kernel_rfl
theorem hbd79 : hasBody prog 79 = true := by kernel_rfl
theorem ty83 : ty prog 83 = some (true, 9) := by kernel_rfl
theorem fo83_4 : fo prog 83 4 = some 8 := by kernel_rfl
theorem ty80 : ty prog 80 = some (true, 7) := by kernel_rfl
theorem fo80_4 : fo prog 80 4 = some 6 := by kernel_rfl
theorem fo83_3 : fo prog 83 3 = some 7 := by kernel_rfl
theorem ty67 : ty prog 67 = some (false, 1) := by kernel_rfl
theorem fo80_3 : fo prog 80 3 = some 5 := by kernel_rfl
theorem hbd63 : hasBody prog 63 = true := by kernel_rfl
theorem zf61 : (prog.info? 61).bind (fun i => i.zero.map Value.cells) = some (List.toArray [.bool false, .int .i64 0]) := by kernel_rfl
theorem fo92_0 : fo prog 92 0 = some 0 := by kernel_rfl
theorem ty90 : ty prog 90 = some (false, 1) := by kernel_rfl
theorem fo92_1 : fo prog 92 1 = some 1 := by kernel_rfl
theorem zf78 : (prog.info? 78).bind (fun i => i.zero.map Value.cells) = some (List.toArray [.int .i64 0, .int .i64 0, .slice none 0 0]) := by kernel_rfl
theorem ty92 : ty prog 92 = some (true, 2) := by kernel_rfl
theorem hbd60 : hasBody prog 60 = true := by kernel_rfl
theorem ty78 : ty prog 78 = some (true, 3) := by kernel_rfl
theorem fo80_0 : fo prog 80 0 = some 0 := by kernel_rfl
theorem fo78_2 : fo prog 78 2 = some 2 := by kernel_rfl
theorem ty73 : ty prog 73 = some (false, 1) := by kernel_rfl
theorem hbd154 : hasBody prog 154 = true := by kernel_rfl
theorem fo83_0 : fo prog 83 0 = some 0 := by kernel_rfl
theorem fo83_1 : fo prog 83 1 = some 3 := by kernel_rfl
theorem hbd27 : hasBody prog 27 = true := by kernel_rfl
theorem fo24_0 : fo prog 24 0 = some 0 := by kernel_rfl
theorem fo24_1 : fo prog 24 1 = some 1 := by kernel_rfl
theorem ty22 : ty prog 22 = some (false, 1) := by kernel_rfl
end Go.Proofs.YtimhdimhdimbjaaGreat.Sx.FB
namespace Go.Proofs.YtimhdimhdimbjaaGreat.Sx
open Go Go.SX Go.Proofs Go.Proofs.Tryz FA FB
theorem clone (A : Option Addr) (n : Nat) (c : Nat) (l : List Vis) (S : Nat → Prop) (wf : World) (hA : Fr eVis S wf A l) (hn : l.length = n) (hl : l.length ≤ 1000000) :
  TR0 prog 55 [.slice A n c] [] S wf (fun v_ C_ => ∃ (v : Value), v_ = v ∧ C_ = [rw_ eVis 92 (v) l]) := by
 refine TR.mk func55 G ntmps55 G G (fun w_ => ?_)
 refine .seq (.region (.a G G G (.go idQ (.seq (.seq (.region (.m G G G ?_)))))))
 refine .v (ev_nils G underlying52 G G (by rfl)) G (.go idQ (.condI G bV (fun h1 => ?_) (fun h1 => ?_)))
 ·
  refine .seq (.region (.a G G G (.go idQ ?_)))
  refine SC.nilrow eVis 92 ?_
  exact .ret idQ (ret1 results55 G (.c .h .n) ⟨.slice none 0 0, G, (by rw [clone_nil hA (by assumption)])⟩)
 refine .skipgo idQ (.seq (.region (.cons (st_lit eVis (e := 92) (l := []) G G G G kR G G kW (fun b2 => (.m G G G (.cons (st_app0 (E := eVis) (m := l) G G G G underlying52 ai92 G G G .h rO (Src.w (Fr.flat hA)) lO G (fun v3 => ?_)))))))))
 refine .a G G G (.go idQ (.ret idQ (ret1 results55 G (.c .h .n) ⟨v3, G, G⟩)))
theorem clonew (A : Option Addr) (n : Nat) (c : Nat) (l : List WN) (S : Nat → Prop) (wf : World) (hA : Fr eWN S wf A l) (hn : l.length = n) (hl : l.length ≤ 1000000) :
  TR0 prog 154 [.slice A n c] [] S wf (fun v_ C_ => ∃ (v : Value), v_ = v ∧ C_ = [rw_ eWN 69 (v) l]) := by
 refine TR.mk func154 G ntmps154 G G (fun w_ => ?_)
 refine .seq (.region (.a G G G (.go idQ (.seq (.seq (.region (.m G G G ?_)))))))
 refine .v (ev_nils G underlying73 G G (by rfl)) G (.go idQ (.condI G bV (fun h1 => ?_) (fun h1 => ?_)))
 ·
  refine .seq (.region (.a G G G (.go idQ ?_)))
  refine SC.nilrow eWN 69 ?_
  exact .ret idQ (ret1 results154 G (.c .h .n) ⟨.slice none 0 0, G, (by rw [clone_nil hA (by assumption)])⟩)
 refine .skipgo idQ (.seq (.region (.cons (st_lit eWN (e := 69) (l := []) G G G G kR G G kW (fun b2 => (.m G G G (.cons (st_app0 (E := eWN) (m := l) G G G G underlying73 ai69 G G G .h rO (Src.w (Fr.flat hA)) lO G (fun v3 => ?_)))))))))
 refine .a G G G (.go idQ (.ret idQ (ret1 results154 G (.c .h .n) ⟨v3, G, G⟩)))
theorem clonez (A : Option Addr) (n : Nat) (c : Nat) (l : List Int) (S : Nat → Prop) (wf : World) (hA : Fr eZ S wf A l) (hn : l.length = n) (hl : l.length ≤ 1000000) :
  TR0 prog 159 [.slice A n c] [] S wf (fun v_ C_ => ∃ (v : Value), v_ = v ∧ C_ = [rw_ eZ 3 (v) l]) := by
 refine TR.mk func159 G ntmps159 G G (fun w_ => ?_)
 refine .seq (.region (.a G G G (.go idQ (.seq (.seq (.region (.m G G G ?_)))))))
 refine .v (ev_nils G underlying22 G G (by rfl)) G (.go idQ (.condI G bV (fun h1 => ?_) (fun h1 => ?_)))
 ·
  refine .seq (.region (.a G G G (.go idQ ?_)))
  refine SC.nilrow eZ 3 ?_
  exact .ret idQ (ret1 results159 G (.c .h .n) ⟨.slice none 0 0, G, (by rw [clone_nil hA (by assumption)])⟩)
 refine .skipgo idQ (.seq (.region (.cons (st_lit eZ (e := 3) (l := []) G G G G kR G G kW (fun b2 => (.m G G G (.cons (st_app0 (E := eZ) (m := l) G G G G underlying22 ai3 G G G .h rO (Src.w (Fr.flat hA)) lO G (fun v3 => ?_)))))))))
 refine .a G G G (.go idQ (.ret idQ (ret1 results159 G (.c .h .n) ⟨v3, G, G⟩)))
theorem up_ (a : Int) (b : Int) (S : Nat → Prop) (wf : World) :
  TR0 prog 35 [.int .i64 a, .int .i64 b] [] S wf (fun v_ C_ => v_ = .bool (decide (a ≥ 0) && decide (a ≤ b)) ∧ C_ = []) := by
 refine TR.mk func35 G ntmps35 G G (fun w_ => ?_)
 refine .seq (.region (.a G G G (.go idQ (.seq (.region (.m G G G ?_))))))
 refine .e G G G G G (.m G G G (.w (fun _ => ev_mv G G) G (.w (fun _ => ev_mv G G) G ?_)))
 refine .w (fun hb => ev_cmp G (lkg G hb) (lkg G hb) G) G (.v (ev_and G G G G) G (.a G G G (.go idQ ?_)))
 exact .ret idQ (ret1 results35 G .n ⟨G, G⟩)
theorem there_ (p : PB) (t : TK) (S : Nat → Prop) (wf : World) (hPB : PBF S wf p) :
  TR0 prog 79 [.agg (cPB p).toArray, .agg #[.bool t.ship, .int .i64 t.item]] [] S wf (fun v_ C_ => v_ = .bool (thereF p t) ∧ C_ = []) := by
 have hlj := hPB.2.2.2.1.1.len
 have hls := hPB.2.2.2.2.1.len
 have hlv := hPB.2.2.1.1.len
 refine TR.mk func79 G ntmps79 G G (fun w_ => ?_)
 refine .seq (.region (.cons (st_boxa G G G G G (fun b1 => (.cons (st_boxa G G G G G (fun b2 => (.a G G G ?_))))))))
 refine .go idQ (.seq (.seq (.region (.f fo61_0 0 G G G G (.l ty4 0 G G G G G (.go idQ ?_))))))
 refine .condI G bV (fun h3 => ?_) (fun h3 => ?_)
 ·
  refine .seq (.region (.f fo61_1 1 G G G G (.l ty3 0 G G G G G (.e G G G G G ?_))))
  refine .m G G G (.w (fun _ => ev_fa G fo61_1 G (r := 1) G) G (.w (fun hb => ev_ld1 G ty3 (lkg G hb) (At.own1 0 G G)) G (.w (fun _ => ev_fa G fo29_5 G (r := 7) G) G ?_)))
  refine .w (fun hb => ev_ld1 G ty27 (lkg G hb) (At.own1 1 G G)) G (.w (fun hb => ev_len G underlying27 (lkg G hb)) G (.w (fun hb => ev_cmp G (lkg G hb) (lkg G hb) G) G (.v (ev_and G G G G) G ?_)))
  refine .a G G G (.go idQ (.ret idQ (ret1 results79 G .n ⟨(congrArg Value.bool (by unfold thereF; rw [if_pos (by assumption)]; rw [Bool.eq_iff_iff]; simp)), G⟩)))
 refine .skipgo idQ (.seq (.region (.f fo61_1 1 G G G G (.l ty3 0 G G G G G (.e G G G G G ?_)))))
 refine .m G G G (.w (fun _ => ev_fa G fo61_1 G (r := 1) G) G (.w (fun hb => ev_ld1 G ty3 (lkg G hb) (At.own1 0 G G)) G (.w (fun _ => ev_fa G fo29_4 G (r := 6) G) G ?_)))
 refine .w (fun hb => ev_ld1 G ty26 (lkg G hb) (At.own1 1 G G)) G (.w (fun hb => ev_len G underlying26 (lkg G hb)) G (.w (fun hb => ev_cmp G (lkg G hb) (lkg G hb) G) G (.v (ev_and G G G G) G ?_)))
 refine .a G G G (.go idQ (.ret idQ (ret1 results79 G .n ⟨(congrArg Value.bool (by unfold thereF; rw [if_neg (by assumption)]; rw [Bool.eq_iff_iff]; simp)), G⟩)))
theorem rthere_ (p : PB) (t : TK) (S : Nat → Prop) (wf : World) (hPB : PBF S wf p) :
  TR0 prog 63 [.agg (cPB p).toArray, .agg #[.bool t.ship, .int .i64 t.item]] [] S wf (fun v_ C_ => v_ = .bool (thereF p t) ∧ C_ = []) := by
 have hlj := hPB.2.2.2.1.1.len
 have hls := hPB.2.2.2.2.1.len
 have hlv := hPB.2.2.1.1.len
 refine TR.mk func63 G ntmps63 G G (fun w_ => ?_)
 refine .seq (.region (.cons (st_boxa G G G G G (fun b1 => (.cons (st_boxa G G G G G (fun b2 => (.a G G G ?_))))))))
 refine .go idQ (.seq (.seq (.region (.f fo61_0 0 G G G G (.l ty4 0 G G G G G (.go idQ ?_))))))
 refine .condI G bV (fun h3 => ?_) (fun h3 => ?_)
 ·
  refine .seq (.region (.f fo61_1 1 G G G G (.l ty3 0 G G G G G (.f fo29_5 7 G G G G ?_))))
  refine .l ty27 1 G G G G G (.g underlying27 G G G (.v (ev_sub G G G (r := ((p.ships.length : Int) - 1)) G oO oO) G (.cons (st_callk G G G G hbd35 G .n (up_ t.item ((p.ships.length : Int) - 1) _ _) ?_))))
  refine .a G G G (.go idQ (.ret idQ (ret1 results63 G .n ⟨(congrArg Value.bool (by unfold thereF; rw [if_pos (by assumption)]; rw [Bool.eq_iff_iff]; simp <;> omega)), G⟩)))
 refine .skipgo idQ (.seq (.region (.f fo61_1 1 G G G G (.l ty3 0 G G G G G (.f fo29_4 6 G G G G ?_)))))
 refine .l ty26 1 G G G G G (.g underlying26 G G G (.v (ev_sub G G G (r := ((p.jobs.length : Int) - 1)) G oO oO) G (.cons (st_callk G G G G hbd35 G .n (up_ t.item ((p.jobs.length : Int) - 1) _ _) ?_))))
 refine .a G G G (.go idQ (.ret idQ (ret1 results63 G .n ⟨(congrArg Value.bool (by unfold thereF; rw [if_neg (by assumption)]; rw [Bool.eq_iff_iff]; simp <;> omega)), G⟩)))
theorem prio_ (p : PB) (t : TK) (S : Nat → Prop) (wf : World) (hPB : PBF S wf p) :
  TR0 prog 48 [.agg (cPB p).toArray, .agg #[.bool t.ship, .int .i64 t.item]] [] S wf (fun v_ C_ => v_ = .int .i64 (prioF p t) ∧ C_ = []) := by
 have hlj := hPB.2.2.2.1.1.len
 have hls := hPB.2.2.2.2.1.len
 have hlv := hPB.2.2.1.1.len
 refine TR.mk func48 G ntmps48 G G (fun w_ => ?_)
 refine .seq (.region (.cons (st_boxa G G G G G (fun b1 => (.cons (st_boxa G G G G G (fun b2 => (.a G G G ?_))))))))
 refine .go idQ (.seq (.block (.seq (.region (.d 1 ty29 G G G G (.d 0 ty61 G G G G (.cons (st_callk G G G G hbd79 G .n (there_ p t _ _ hPB) ?_))))))))
 refine .v (ev_not G G) G (.a G G G (.go idQ (.condI G (bN bV) (fun h3 => ?_) (fun h3 => ?_))))
 ·
  refine .seq (.region (.a G G G (.go idQ (.ret idQ (ret1 results48 G .n ⟨(congrArg (Value.int .i64) (prio_no (by assumption)).1.symm), G⟩)))))
 refine .seq (.region (.f fo61_0 0 G G G G (.l ty4 0 G G G G G (.a G G G ?_))))
 refine .go idQ (.condI G bV (fun h4 => ?_) (fun h4 => ?_))
 ·
  refine .seq ?_
  have hin := thr_t (by assumption) (by assumption)
  refine .region (.f fo29_5 7 G G G G (.l ty27 1 G G G G G (.f fo61_1 1 G G G G ?_)))
  refine .l ty3 0 G G G G G (.v (ev_ix G underlying27 ty83 G G oO oO (fun _ _ => Fr.adr (i := t.item) hPB.2.2.2.2.1 oO oO)) G (.f fo83_4 (ao p.psA + (t.item).toNat * 9 + 8) G G G G (.v (ev_ld1 G ty3 G (At.elem1 (At.w (Fr.el (i := t.item) hPB.2.2.2.2.1 oO oO)) 8 G)) G ?_)))
  refine .a G G G (.go idQ (.ret idQ (ret1 results48 G .n ⟨(congrArg (Value.int .i64) (prio_t (by assumption) (by assumption)).1.symm), G⟩)))
 refine .skipgo idQ (.seq ?_)
 have hin := thr_f (by assumption) (by assumption)
 refine .region (.f fo29_4 6 G G G G (.l ty26 1 G G G G G (.f fo61_1 1 G G G G ?_)))
 refine .l ty3 0 G G G G G (.v (ev_ix G underlying26 ty80 G G oO oO (fun _ _ => Fr.adr (i := t.item) hPB.2.2.2.1.1 oO oO)) G (.f fo80_4 (ao p.pjA + (t.item).toNat * 7 + 6) G G G G (.v (ev_ld1 G ty3 G (At.elem1 (At.w (Fr.el (i := t.item) hPB.2.2.2.1.1 oO oO)) 6 G)) G ?_)))
 refine .a G G G (.go idQ (.ret idQ (ret1 results48 G .n ⟨(congrArg (Value.int .i64) (prio_f (by assumption) (by assumption)).1.symm), G⟩)))
theorem skil_ (p : PB) (t : TK) (S : Nat → Prop) (wf : World) (hPB : PBF S wf p) :
  TR0 prog 51 [.agg (cPB p).toArray, .agg #[.bool t.ship, .int .i64 t.item]] [] S wf (fun v_ C_ => v_ = .int .u64 (skilF p t) ∧ C_ = []) := by
 have hlj := hPB.2.2.2.1.1.len
 have hls := hPB.2.2.2.2.1.len
 have hlv := hPB.2.2.1.1.len
 refine TR.mk func51 G ntmps51 G G (fun w_ => ?_)
 refine .seq (.region (.cons (st_boxa G G G G G (fun b1 => (.cons (st_boxa G G G G G (fun b2 => (.a G G G ?_))))))))
 refine .go idQ (.seq (.block (.seq (.region (.d 1 ty29 G G G G (.d 0 ty61 G G G G (.cons (st_callk G G G G hbd79 G .n (there_ p t _ _ hPB) ?_))))))))
 refine .v (ev_not G G) G (.a G G G (.go idQ (.condI G (bN bV) (fun h3 => ?_) (fun h3 => ?_))))
 ·
  refine .seq (.region (.a G G G (.go idQ (.ret idQ (ret1 results51 G .n ⟨(congrArg (Value.int .u64) (prio_no (by assumption)).2.symm), G⟩)))))
 refine .seq (.region (.f fo61_0 0 G G G G (.l ty4 0 G G G G G (.a G G G ?_))))
 refine .go idQ (.condI G bV (fun h4 => ?_) (fun h4 => ?_))
 ·
  refine .seq ?_
  have hin := thr_t (by assumption) (by assumption)
  refine .region (.f fo29_5 7 G G G G (.l ty27 1 G G G G G (.f fo61_1 1 G G G G ?_)))
  refine .l ty3 0 G G G G G (.v (ev_ix G underlying27 ty83 G G oO oO (fun _ _ => Fr.adr (i := t.item) hPB.2.2.2.2.1 oO oO)) G (.f fo83_3 (ao p.psA + (t.item).toNat * 9 + 7) G G G G (.v (ev_ld1 G ty67 G (At.elem1 (At.w (Fr.el (i := t.item) hPB.2.2.2.2.1 oO oO)) 7 G)) G ?_)))
  refine .a G G G (.go idQ (.ret idQ (ret1 results51 G .n ⟨(congrArg (Value.int .u64) (prio_t (by assumption) (by assumption)).2.symm), G⟩)))
 refine .skipgo idQ (.seq ?_)
 have hin := thr_f (by assumption) (by assumption)
 refine .region (.f fo29_4 6 G G G G (.l ty26 1 G G G G G (.f fo61_1 1 G G G G ?_)))
 refine .l ty3 0 G G G G G (.v (ev_ix G underlying26 ty80 G G oO oO (fun _ _ => Fr.adr (i := t.item) hPB.2.2.2.1.1 oO oO)) G (.f fo80_3 (ao p.pjA + (t.item).toNat * 7 + 5) G G G G (.v (ev_ld1 G ty67 G (At.elem1 (At.w (Fr.el (i := t.item) hPB.2.2.2.1.1 oO oO)) 5 G)) G ?_)))
 refine .a G G G (.go idQ (.ret idQ (ret1 results51 G .n ⟨(congrArg (Value.int .u64) (prio_f (by assumption) (by assumption)).2.symm), G⟩)))
theorem facts_ (p : PB) (t : TK) (S : Nat → Prop) (wf : World) (hPB : PBF S wf p) :
  TR0 prog 28 [.agg (cPB p).toArray, .agg #[.bool t.ship, .int .i64 t.item]] [] S wf (fun v_ C_ => v_ = .tuple #[.int .i64 (prioF p t), .int .u64 (skilF p t)] ∧ C_ = []) := by
 have hlj := hPB.2.2.2.1.1.len
 have hls := hPB.2.2.2.2.1.len
 have hlv := hPB.2.2.1.1.len
 refine TR.mk func28 G ntmps28 G G (fun w_ => ?_)
 refine .seq (.region (.cons (st_boxa G G G G G (fun b1 => (.cons (st_boxa G G G G G (fun b2 => (.a G G G ?_))))))))
 refine .a G G G (.go idQ (.seq (.seq (.region (.d 1 ty29 G G G G (.d 0 ty61 G G G G ?_))))))
 refine .cons (st_callk G G G G hbd63 G .n (rthere_ p t _ _ hPB) ?_)
 refine .v (ev_not G G) G (.go idQ (.condI G (bN bV) (fun h3 => ?_) (fun h3 => ?_)))
 ·
  refine .seq (.region (.a G G G (.a G G G (.go idQ ?_))))
  exact .ret idQ (ret2 results28 G G .n ⟨(by rw [(prio_no (by assumption)).1, (prio_no (by assumption)).2]), G⟩)
 refine .skipgo idQ (.seq (.seq (.region (.f fo61_0 0 G G G G (.l ty4 0 G G G G G (.go idQ ?_))))))
 refine .condI G bV (fun h4 => ?_) (fun h4 => ?_)
 ·
  refine .seq ?_
  have hin := thr_t (by assumption) (by assumption)
  refine SC.draw mo [] [] .n (fun _ _ _ => sc0) (fun wf_5 hl_5 hx_5 hR_5 => ?_)
  refine SR.z 0 G G (ev_fa G fo29_5 G (r := 7) G) ?_
  refine SR.z 1 G G (ev_ld1 G ty27 G (At.d (At.lent hR_5 1 G G))) ?_
  refine SR.z 2 G G (ev_fa G fo61_1 G (r := 1) G) ?_
  refine SR.z 3 G G (ev_ld1 G ty3 G (At.d (At.lent hR_5 0 G G))) ?_
  refine SR.z 4 G G (ev_ix G underlying27 ty83 G G oO oO (fun _ _ => Fr.adr (i := t.item) ((hPB).ext hx_5).2.2.2.2.1 oO oO)) ?_
  refine SR.z 5 G G (ev_fa G fo83_4 G (r := ao p.psA + (t.item).toNat * 9 + 8) G) ?_
  refine SR.z 6 G G (ev_ld1 G ty3 G (At.elem1 (At.d (Fr.el (i := t.item) ((hPB).ext hx_5).2.2.2.2.1 oO oO)) 8 G)) ?_
  refine SR.z 7 G G (ev_fa G fo29_5 G (r := 7) G) ?_
  refine SR.z 8 G G (ev_ld1 G ty27 G (At.d (At.lent hR_5 1 G G))) ?_
  refine SR.z 9 G G (ev_fa G fo61_1 G (r := 1) G) ?_
  refine SR.z 10 G G (ev_ld1 G ty3 G (At.d (At.lent hR_5 0 G G))) ?_
  refine SR.z 11 G G (ev_ix G underlying27 ty83 G G oO oO (fun _ _ => Fr.adr (i := t.item) ((hPB).ext hx_5).2.2.2.2.1 oO oO)) ?_
  refine SR.z 12 G G (ev_fa G fo83_3 G (r := ao p.psA + (t.item).toNat * 9 + 7) G) ?_
  refine SR.z 13 G G (ev_ld1 G ty67 G (At.elem1 (At.d (Fr.el (i := t.item) ((hPB).ext hx_5).2.2.2.2.1 oO oO)) 7 G)) ?_
  refine SR.z 14 G G (ev_as G G) ?_
  refine SR.z 15 G G (ev_as G G) ?_
  refine SR.fin kR hl_5 hx_5 hR_5 .n ?_
  refine SQ.go idQ ?_
  exact .ret idQ (ret2 results28 G G .n ⟨(by rw [(prio_t (by assumption) (by assumption)).1, (prio_t (by assumption) (by assumption)).2]), G⟩)
 refine .skipgo idQ (.seq ?_)
 have hin := thr_f (by assumption) (by assumption)
 refine SC.draw mo [] [] .n (fun _ _ _ => sc0) (fun wf_6 hl_6 hx_6 hR_6 => ?_)
 refine SR.z 0 G G (ev_fa G fo29_4 G (r := 6) G) ?_
 refine SR.z 1 G G (ev_ld1 G ty26 G (At.d (At.lent hR_6 1 G G))) ?_
 refine SR.z 2 G G (ev_fa G fo61_1 G (r := 1) G) ?_
 refine SR.z 3 G G (ev_ld1 G ty3 G (At.d (At.lent hR_6 0 G G))) ?_
 refine SR.z 4 G G (ev_ix G underlying26 ty80 G G oO oO (fun _ _ => Fr.adr (i := t.item) ((hPB).ext hx_6).2.2.2.1.1 oO oO)) ?_
 refine SR.z 5 G G (ev_fa G fo80_4 G (r := ao p.pjA + (t.item).toNat * 7 + 6) G) ?_
 refine SR.z 6 G G (ev_ld1 G ty3 G (At.elem1 (At.d (Fr.el (i := t.item) ((hPB).ext hx_6).2.2.2.1.1 oO oO)) 6 G)) ?_
 refine SR.z 7 G G (ev_fa G fo29_4 G (r := 6) G) ?_
 refine SR.z 8 G G (ev_ld1 G ty26 G (At.d (At.lent hR_6 1 G G))) ?_
 refine SR.z 9 G G (ev_fa G fo61_1 G (r := 1) G) ?_
 refine SR.z 10 G G (ev_ld1 G ty3 G (At.d (At.lent hR_6 0 G G))) ?_
 refine SR.z 11 G G (ev_ix G underlying26 ty80 G G oO oO (fun _ _ => Fr.adr (i := t.item) ((hPB).ext hx_6).2.2.2.1.1 oO oO)) ?_
 refine SR.z 12 G G (ev_fa G fo80_3 G (r := ao p.pjA + (t.item).toNat * 7 + 5) G) ?_
 refine SR.z 13 G G (ev_ld1 G ty67 G (At.elem1 (At.d (Fr.el (i := t.item) ((hPB).ext hx_6).2.2.2.1.1 oO oO)) 5 G)) ?_
 refine SR.z 14 G G (ev_as G G) ?_
 refine SR.z 15 G G (ev_as G G) ?_
 refine SR.fin kR hl_6 hx_6 hR_6 .n ?_
 refine SQ.go idQ ?_
 exact .ret idQ (ret2 results28 G G .n ⟨(by rw [(prio_f (by assumption) (by assumption)).1, (prio_f (by assumption) (by assumption)).2]), G⟩)
theorem of_ (x : Vis) (S : Nat → Prop) (wf : World) :
  TR0 prog 60 [.agg #[.int .i64 x.kind, .int .i64 x.item]] [] S wf (fun v_ C_ => v_ = .tuple #[.agg #[.bool ((taskV x).ship), .int .i64 ((taskV x).item)], .bool (isTask x)] ∧ C_ = []) := by
 refine TR.mk func60 G ntmps60 G G (fun w_ => ?_)
 refine .seq (.region (.cons (st_boxa G G G G G (fun b1 => (.cons (st_alloc G G G G zf61 (fun b2 => (.a G G G ?_))))))))
 refine .go idQ (.seq (.seq (.region (.f fo92_0 0 G G G G (.l ty90 1 G G G G G (.go idQ (.block (.seq (.region ?_)))))))))
 refine .e G G G G G (.a G G G (.go idQ (.condI G bE (fun h3 => ?_) (fun h3 => ?_))))
 ·
  refine .seq (.region (.f fo92_1 1 G G G G (.l ty3 1 G G G G G (.v (ev_any (v := .agg #[.bool false, .int .i64 x.item]) G kR (fun _ => by kernel_rfl)) G ?_))))
  refine .cons (st_storea (l' := [.bool false, .int .i64 x.item]) G G G ty61 G G G .h G G ?_)
  refine .a rfl rfl rfl (.go idQ (.ret idQ (retv2 results60 (.c 0 rfl rfl ty61) (.t rfl) .n ⟨(by obtain ⟨e1, e2⟩ := task1 (x := x) oO; rw [e1, e2]), rfl⟩)))
 refine .seq (.seq (.region (.e G G G G G (.a G G G (.go idQ ?_)))))
 refine .condI G bE (fun h4 => ?_) (fun h4 => ?_)
 ·
  refine .skipgo idQ (.condI G bE (fun h5 => ?_) (fun h5 => ?_))
  ·
   refine .seq (.region (.f fo92_1 1 G G G G (.l ty3 1 G G G G G (.v (ev_any (v := .agg #[.bool true, .int .i64 x.item]) G kR (fun _ => by kernel_rfl)) G ?_))))
   refine .cons (st_storea (l' := [.bool true, .int .i64 x.item]) G G G ty61 G G G .h G G ?_)
   refine .a rfl rfl rfl (.go idQ (.ret idQ (retv2 results60 (.c 0 rfl rfl ty61) (.t rfl) .n ⟨(by have hk_ : x.kind = 2 ∨ x.kind = 3 := oO; obtain ⟨e1, e2⟩ := task23 hk_; rw [e1, e2]), rfl⟩)))
  exact absurd h4 h5
 refine .region (.e G G G G G (.a G G G (.go idQ ?_)))
 refine .condI G bE (fun h6 => ?_) (fun h6 => ?_)
 ·
  refine .seq (.region (.f fo92_1 1 G G G G (.l ty3 1 G G G G G (.v (ev_any (v := .agg #[.bool true, .int .i64 x.item]) G kR (fun _ => by kernel_rfl)) G ?_))))
  refine .cons (st_storea (l' := [.bool true, .int .i64 x.item]) G G G ty61 G G G .h G G ?_)
  refine .a rfl rfl rfl (.go idQ (.ret idQ (retv2 results60 (.c 0 rfl rfl ty61) (.t rfl) .n ⟨(by have hk_ : x.kind = 2 ∨ x.kind = 3 := oO; obtain ⟨e1, e2⟩ := task23 hk_; rw [e1, e2]), rfl⟩)))
 refine .skipgo idQ (.seq (.region (.v (ev_any (v := .agg #[.bool false, .int .i64 0]) G kR (fun _ => by kernel_rfl)) G (.cons (st_storea (l' := [.bool false, .int .i64 0]) G G G ty61 G G G .h G G (.a G G G ?_))))))
 refine .go idQ (.ret idQ (retv2 results60 (.c 0 rfl rfl ty61) (.t rfl) .n ⟨(by obtain ⟨e1, e2⟩ := task_no (x := x) oO oO oO; rw [e1, e2]), rfl⟩))
theorem rof_ (x : Vis) (S : Nat → Prop) (wf : World) :
  TR0 prog 27 [.agg #[.int .i64 x.kind, .int .i64 x.item]] [] S wf (fun v_ C_ => v_ = .tuple #[.agg #[.bool ((taskV x).ship), .int .i64 ((taskV x).item)], .bool (isTask x)] ∧ C_ = []) := by
 refine TR.mk func27 G ntmps27 G G (fun w_ => ?_)
 refine .seq (.region (.cons (st_boxa G G G G G (fun b1 => (.cons (st_alloc G G G G zf61 (fun b2 => (.a G G G ?_))))))))
 refine .go idQ (.seq (.seq (.region (.f fo92_0 0 G G G G (.l ty90 1 G G G G G (.e G G G G G ?_))))))
 refine .go idQ (.condI G bE (fun h3 => ?_) (fun h3 => ?_))
 ·
  refine .seq (.region (.f fo92_1 1 G G G G (.l ty3 1 G G G G G (.v (ev_any (v := .agg #[.bool false, .int .i64 x.item]) G kR (fun _ => by kernel_rfl)) G ?_))))
  refine .cons (st_storea (l' := [.bool false, .int .i64 x.item]) G G G ty61 G G G .h G G ?_)
  refine .a rfl rfl rfl (.go idQ (.ret idQ (retv2 results27 (.c 0 rfl rfl ty61) (.t rfl) .n ⟨(by obtain ⟨e1, e2⟩ := task1 (x := x) oO; rw [e1, e2]), rfl⟩)))
 refine .skipgo idQ (.seq (.seq (.region (.f fo92_0 0 G G G G (.l ty90 1 G G G G G (.e G G G G G ?_))))))
 refine .m G G G (.w (fun _ => ev_fa G fo92_0 G (r := 0) G) G (.w (fun hb => ev_ld1 G ty90 (lkg G hb) (At.own1 1 G G)) G (.w (fun hb => ev_cmp G (lkg G hb) G G) G ?_)))
 refine .r G G G G G (.go idQ (.condI G (bO bE bE) (fun h4 => ?_) (fun h4 => ?_)))
 ·
  refine .seq (.region (.f fo92_1 1 G G G G (.l ty3 1 G G G G G (.v (ev_any (v := .agg #[.bool true, .int .i64 x.item]) G kR (fun _ => by kernel_rfl)) G ?_))))
  refine .cons (st_storea (l' := [.bool true, .int .i64 x.item]) G G G ty61 G G G .h G G ?_)
  refine .a rfl rfl rfl (.go idQ (.ret idQ (retv2 results27 (.c 0 rfl rfl ty61) (.t rfl) .n ⟨(by have hk_ : x.kind = 2 ∨ x.kind = 3 := oO; obtain ⟨e1, e2⟩ := task23 hk_; rw [e1, e2]), rfl⟩)))
 refine .skipgo idQ (.seq (.region (.v (ev_any (v := .agg #[.bool false, .int .i64 0]) G kR (fun _ => by kernel_rfl)) G (.cons (st_storea (l' := [.bool false, .int .i64 0]) G G G ty61 G G G .h G G (.a G G G ?_))))))
 refine .go idQ (.ret idQ (retv2 results27 (.c 0 rfl rfl ty61) (.t rfl) .n ⟨(by obtain ⟨e1, e2⟩ := task_no (x := x) oO oO oO; rw [e1, e2]), rfl⟩))
theorem mvis_ (t : TK) (S : Nat → Prop) (wf : World) :
  TR0 prog 52 [.agg #[.bool t.ship, .int .i64 t.item]] [] S wf (fun v_ C_ => ∃ (u : Value), v_ = u ∧ C_ = [rw_ eVis 92 (u) (visT t)]) := by
 refine TR.mk func52 G ntmps52 G G (fun w_ => ?_)
 refine .seq (.region (.cons (st_boxa G G G G G (fun b1 => (.a G G G (.go idQ (.seq (.seq (.region ?_)))))))))
 refine .f fo61_0 0 G G G G (.l ty4 0 G G G G G (.go idQ (.condI G bV (fun h2 => ?_) (fun h2 => ?_))))
 ·
  refine .seq (.region (.f fo61_1 1 G G G G (.l ty3 0 G G G G G (.v (ev_any (v := .agg #[.int .i64 2, .int .i64 t.item]) G kR (fun _ => by kernel_rfl)) G ?_))))
  refine .f fo61_1 1 G G G G (.l ty3 0 G G G G G (.v (ev_any (v := .agg #[.int .i64 3, .int .i64 t.item]) G kR (fun _ => by kernel_rfl)) G (.cons (st_lit eVis (e := 92) (l := [(Vis.mk 2 t.item), (Vis.mk 3 t.item)]) G G G G kR G G kW (fun b3 => ?_)))))
  refine .a G G G (.go idQ (.ret idQ (ret1 results52 G (.c .h .n) ⟨.slice (some ⟨b3, 0, none⟩) 2 2, G, (by unfold visT; rw [if_pos (by assumption)])⟩)))
 refine .skipgo idQ (.seq (.region (.f fo61_1 1 G G G G (.l ty3 0 G G G G G (.v (ev_any (v := .agg #[.int .i64 1, .int .i64 t.item]) G kR (fun _ => by kernel_rfl)) G ?_)))))
 refine .cons (st_lit eVis (e := 92) (l := [(Vis.mk 1 t.item)]) G G G G kR G G kW (fun b4 => ?_))
 refine .a G G G (.go idQ (.ret idQ (ret1 results52 G (.c .h .n) ⟨.slice (some ⟨b4, 0, none⟩) 1 1, G, (by unfold visT; rw [if_neg (by assumption)])⟩)))
theorem rvis_ (t : TK) (S : Nat → Prop) (wf : World) :
  TR0 prog 30 [.agg #[.bool t.ship, .int .i64 t.item]] [] S wf (fun v_ C_ => ∃ (u : Value), v_ = u ∧ C_ = [rw_ eVis 92 (u) (visT t)]) := by
 refine TR.mk func30 G ntmps30 G G (fun w_ => ?_)
 refine .seq (.region (.cons (st_boxa G G G G G (fun b1 => (.a G G G (.go idQ (.seq (.seq (.region ?_)))))))))
 refine .f fo61_0 0 G G G G (.l ty4 0 G G G G G (.go idQ (.condI G bV (fun h2 => ?_) (fun h2 => ?_))))
 ·
  refine .seq (.region (.f fo61_1 1 G G G G (.l ty3 0 G G G G G (.v (ev_any (v := .agg #[.int .i64 2, .int .i64 t.item]) G kR (fun _ => by kernel_rfl)) G ?_))))
  refine .f fo61_1 1 G G G G (.l ty3 0 G G G G G (.v (ev_any (v := .agg #[.int .i64 3, .int .i64 t.item]) G kR (fun _ => by kernel_rfl)) G (.cons (st_lit eVis (e := 92) (l := [(Vis.mk 2 t.item), (Vis.mk 3 t.item)]) G G G G kR G G kW (fun b3 => ?_)))))
  refine .a G G G (.go idQ (.ret idQ (ret1 results30 G (.c .h .n) ⟨.slice (some ⟨b3, 0, none⟩) 2 2, G, (by unfold visT; rw [if_pos (by assumption)])⟩)))
 refine .skipgo idQ (.seq (.region (.f fo61_1 1 G G G G (.l ty3 0 G G G G G (.v (ev_any (v := .agg #[.int .i64 1, .int .i64 t.item]) G kR (fun _ => by kernel_rfl)) G ?_)))))
 refine .cons (st_lit eVis (e := 92) (l := [(Vis.mk 1 t.item)]) G G G G kR G G kW (fun b4 => ?_))
 refine .a G G G (.go idQ (.ret idQ (ret1 results30 G (.c .h .n) ⟨.slice (some ⟨b4, 0, none⟩) 1 1, G, (by unfold visT; rw [if_neg (by assumption)])⟩)))
theorem stop_ (p : PB) (x : Vis) (S : Nat → Prop) (wf : World) (hPB : PBF S wf p) (hw : ∀ y, (stopD p y).sws.length ≤ 1000) :
  TR0 prog 123 [.agg (cPB p).toArray, .agg #[.int .i64 x.kind, .int .i64 x.item]] [] S wf (fun v_ C_ => ∃ (u : Value), v_ = .tuple #[.agg #[.int .i64 ((stopD p x).pl), .int .i64 ((stopD p x).srv), u], .bool (isStop p x)] ∧ C_ = [rw_ eWN 69 (u) ((stopD p x).sws)]) := by
 have hlj := hPB.2.2.2.1.1.len
 have hls := hPB.2.2.2.2.1.len
 have hlv := hPB.2.2.1.1.len
 refine TR.mk func123 G ntmps123 G G (fun w_ => ?_)
 refine .seq (.region (.cons (st_boxa G G G G G (fun b1 => (.cons (st_boxa G G G G G (fun b2 => (.cons (st_alloc G G G G zf78 (fun b3 => ?_))))))))))
 refine .a G G G (.go idQ (.seq (.region (.d 1 ty92 G G G G (.cons (st_callk G G G G hbd60 G .n (of_ x _ _) ?_))))))
 refine .m G G G (.x G G G G (.x G G G G (.cons (st_alloc G G G G zf61 (fun b4 => ?_)))))
 refine .cons (st_storea (l' := [.bool ((taskV x).ship), .int .i64 ((taskV x).item)]) G G G ty61 G G G .h G G ?_)
 refine .a G G G (.go idQ (.seq (.seq (.region (.m G G G (.v (ev_not G G) G ?_))))))
 refine .m G G G (.w (fun _ => ev_lda G G (At.whole 3 G) ty29) G (.w (fun _ => ev_lda G G (At.whole 0 G) ty61) G (.cons (st_gcallk G G G G G G hbd79 (fun hb => (lkA1 (lkg G hb) (lkA1 (lkg G hb) lkA0))) .n (fun hb => have hp := bF (bN bV) hb; there_ p (taskV x) _ _ hPB) ?_))))
 refine .w (fun hb => ev_not G (lkg G hb)) G (.r G G G G G (.go idQ (.condI G (bO (bN bV) (bN bV)) (fun h5 => ?_) (fun h5 => ?_))))
 ·
  refine .seq ?_
  refine SC.nilrow eWN 69 ?_
  refine .region (.v (ev_any (v := .agg #[.int .i64 0, .int .i64 0, .slice none 0 0]) G kR (fun _ => by kernel_rfl)) G (.cons (st_storea (l' := [.int .i64 0, .int .i64 0, .slice none 0 0]) G G G ty78 G G G (.t2 .h) G G (.a G G G ?_))))
  refine .go idQ (.ret idQ (retv2 results123 (.c 0 rfl rfl ty78) (.t rfl) (.c (.t .h) .n) ⟨.slice none 0 0, (by obtain ⟨e1, e2⟩ := stop_no (p := p) (x := x) (by assumption); rw [e1, e2]; rfl), (by obtain ⟨e1, e2⟩ := stop_no (p := p) (x := x) (by assumption); rw [e2]; rfl)⟩))
 refine .skipgo idQ (.seq (.region (.v (ev_any (v := .agg #[.int .i64 0, .int .i64 0, .slice none 0 0]) G kR (fun _ => by kernel_rfl)) G (.cons (st_alloc G G G G zf78 (fun b6 => (.cons (st_storea (l' := [.int .i64 0, .int .i64 0, .slice none 0 0]) G G G ty78 G G G .h G G ?_))))))))
 refine .go idQ (.seq (.seq (.region (.f fo92_0 0 G G G G (.l ty90 3 G G G G G (.go idQ (.block (.seq (.region ?_)))))))))
 refine .e G G G G G (.a G G G (.go idQ (.condI G bE (fun h7 => ?_) (fun h7 => ?_))))
 ·
  have hin := stop_i1 (p := p) (x := x) (by assumption) (by assumption)
  refine .region (.f fo29_4 6 G G G G (.l ty26 4 G G G G G (.f fo92_1 1 G G G G ?_)))
  refine .l ty3 3 G G G G G (.v (ev_ix G underlying26 ty80 G G oO oO (fun _ _ => Fr.adr (i := x.item) hPB.2.2.2.1.1 oO oO)) G (.f fo80_0 (ao p.pjA + (x.item).toNat * 7) G G G G (.v (ev_lda (cs := [.int .i64 (((gt p.jobs x.item).so).pl), .int .i64 (((gt p.jobs x.item).so).srv), .slice (((gt p.jobs x.item).so).soA) (((gt p.jobs x.item).so).sws.length) (((gt p.jobs x.item).so).soc)]) G G (At.elemn (At.w (Fr.el (i := x.item) hPB.2.2.2.1.1 oO oO)) 0 G) ty78) G ?_)))
  refine .cons (st_storea (l' := [.int .i64 (((gt p.jobs x.item).so).pl), .int .i64 (((gt p.jobs x.item).so).srv), .slice (((gt p.jobs x.item).so).soA) (((gt p.jobs x.item).so).sws.length) (((gt p.jobs x.item).so).soc)]) G G G ty78 G G G .h G G ?_)
  refine .go idQ (.seq (.region (.v (ev_fa rfl fo78_2 rfl (r := 2) rfl) rfl (.v (ev_ld1 rfl ty73 rfl (At.own1 0 rfl rfl)) rfl (.cons (st_call0 rfl rfl rfl rfl hbd154 rfl .n (clonew (((gt p.jobs x.item).so).soA) (((gt p.jobs x.item).so).sws.length) (((gt p.jobs x.item).so).soc) (((gt p.jobs x.item).so).sws) _ _ ((hPB.2.2.2.1.2 x.item).2.2) lO (by obtain ⟨e1, e2⟩ := stop_yes (p := p) (x := x) (by assumption); have hw1 := hw x; rw [e2, stopO1 (by assumption)] at hw1; omega)) (fun v_q9 C_q9 q9 => ?_)))))))
  obtain ⟨v8, rfl, rfl⟩ := q9
  show SP _ _ _ _ _ _ ⟨_, _ :: _, _, _⟩
  refine .f fo78_2 2 G G G G (.know (row_len 0 G) (fun hv12 => ?_))
  obtain ⟨A10, c11, rfl, hv12_1, hv12_2⟩ := hv12
  unfold maxLen at hv12_2
  refine .cons (st_store1 G G G ty73 G G G (.t .h) (.t2 .h) ?_)
  refine .go idQ (.seq (.region (.d 0 ty78 G G G G (.cons (st_storea (l' := [.int .i64 (((gt p.jobs x.item).so).pl), .int .i64 (((gt p.jobs x.item).so).srv), .slice A10 ((((gt p.jobs x.item).so).sws).length) c11]) G G G ty78 G G G (.t2 (.t .h)) G G (.a G G G ?_))))))
  refine .go idQ (.ret idQ (retv2 results123 (.c 0 rfl rfl ty78) (.t rfl) (.c (.t2 .h) .n) ⟨.slice A10 ((((gt p.jobs x.item).so).sws).length) c11, (by obtain ⟨e1, e2⟩ := stop_yes (p := p) (x := x) (by assumption); rw [e1, e2, stopO1 (by assumption)]), (by obtain ⟨e1, e2⟩ := stop_yes (p := p) (x := x) (by assumption); rw [e2, stopO1 (by assumption)])⟩))
 refine .seq (.region (.e G G G G G (.a G G G (.go idQ ?_))))
 refine .condI G bE (fun h13 => ?_) (fun h13 => ?_)
 ·
  have hin := stop_i2 (p := p) (x := x) (by assumption) (by assumption)
  refine .region (.f fo29_5 7 G G G G (.l ty27 4 G G G G G (.f fo92_1 1 G G G G ?_)))
  refine .l ty3 3 G G G G G (.v (ev_ix G underlying27 ty83 G G oO oO (fun _ _ => Fr.adr (i := x.item) hPB.2.2.2.2.1 oO oO)) G (.f fo83_0 (ao p.psA + (x.item).toNat * 9) G G G G (.v (ev_lda (cs := [.int .i64 (((gt p.ships x.item).sp).pl), .int .i64 (((gt p.ships x.item).sp).srv), .slice (((gt p.ships x.item).sp).soA) (((gt p.ships x.item).sp).sws.length) (((gt p.ships x.item).sp).soc)]) G G (At.elemn (At.w (Fr.el (i := x.item) hPB.2.2.2.2.1 oO oO)) 0 G) ty78) G ?_)))
  refine .cons (st_storea (l' := [.int .i64 (((gt p.ships x.item).sp).pl), .int .i64 (((gt p.ships x.item).sp).srv), .slice (((gt p.ships x.item).sp).soA) (((gt p.ships x.item).sp).sws.length) (((gt p.ships x.item).sp).soc)]) G G G ty78 G G G .h G G ?_)
  refine .go idQ (.seq (.region (.v (ev_fa rfl fo78_2 rfl (r := 2) rfl) rfl (.v (ev_ld1 rfl ty73 rfl (At.own1 0 rfl rfl)) rfl (.cons (st_call0 rfl rfl rfl rfl hbd154 rfl .n (clonew (((gt p.ships x.item).sp).soA) (((gt p.ships x.item).sp).sws.length) (((gt p.ships x.item).sp).soc) (((gt p.ships x.item).sp).sws) _ _ ((hPB.2.2.2.2.2 x.item).2.1) lO (by obtain ⟨e1, e2⟩ := stop_yes (p := p) (x := x) (by assumption); have hw1 := hw x; rw [e2, stopO2 (by assumption)] at hw1; omega)) (fun v_q15 C_q15 q15 => ?_)))))))
  obtain ⟨v14, rfl, rfl⟩ := q15
  show SP _ _ _ _ _ _ ⟨_, _ :: _, _, _⟩
  refine .f fo78_2 2 G G G G (.know (row_len 0 G) (fun hv18 => ?_))
  obtain ⟨A16, c17, rfl, hv18_1, hv18_2⟩ := hv18
  unfold maxLen at hv18_2
  refine .cons (st_store1 G G G ty73 G G G (.t .h) (.t2 .h) ?_)
  refine .go idQ (.seq (.region (.d 0 ty78 G G G G (.cons (st_storea (l' := [.int .i64 (((gt p.ships x.item).sp).pl), .int .i64 (((gt p.ships x.item).sp).srv), .slice A16 ((((gt p.ships x.item).sp).sws).length) c17]) G G G ty78 G G G (.t2 (.t .h)) G G (.a G G G ?_))))))
  refine .go idQ (.ret idQ (retv2 results123 (.c 0 rfl rfl ty78) (.t rfl) (.c (.t2 .h) .n) ⟨.slice A16 ((((gt p.ships x.item).sp).sws).length) c17, (by obtain ⟨e1, e2⟩ := stop_yes (p := p) (x := x) (by assumption); rw [e1, e2, stopO2 (by assumption)]), (by obtain ⟨e1, e2⟩ := stop_yes (p := p) (x := x) (by assumption); rw [e2, stopO2 (by assumption)])⟩))
 have hin := stop_i2 (p := p) (x := x) (by assumption) (by assumption)
 refine .region (.f fo29_5 7 G G G G (.l ty27 4 G G G G G (.f fo92_1 1 G G G G ?_)))
 refine .l ty3 3 G G G G G (.v (ev_ix G underlying27 ty83 G G oO oO (fun _ _ => Fr.adr (i := x.item) hPB.2.2.2.2.1 oO oO)) G (.f fo83_1 (ao p.psA + (x.item).toNat * 9 + 3) G G G G (.v (ev_lda (cs := [.int .i64 (((gt p.ships x.item).sd).pl), .int .i64 (((gt p.ships x.item).sd).srv), .slice (((gt p.ships x.item).sd).soA) (((gt p.ships x.item).sd).sws.length) (((gt p.ships x.item).sd).soc)]) G G (At.elemn (At.w (Fr.el (i := x.item) hPB.2.2.2.2.1 oO oO)) 3 G) ty78) G ?_)))
 refine .cons (st_storea (l' := [.int .i64 (((gt p.ships x.item).sd).pl), .int .i64 (((gt p.ships x.item).sd).srv), .slice (((gt p.ships x.item).sd).soA) (((gt p.ships x.item).sd).sws.length) (((gt p.ships x.item).sd).soc)]) G G G ty78 G G G .h G G ?_)
 refine .go idQ (.seq (.region (.v (ev_fa rfl fo78_2 rfl (r := 2) rfl) rfl (.v (ev_ld1 rfl ty73 rfl (At.own1 0 rfl rfl)) rfl (.cons (st_call0 rfl rfl rfl rfl hbd154 rfl .n (clonew (((gt p.ships x.item).sd).soA) (((gt p.ships x.item).sd).sws.length) (((gt p.ships x.item).sd).soc) (((gt p.ships x.item).sd).sws) _ _ ((hPB.2.2.2.2.2 x.item).2.2) lO (by obtain ⟨e1, e2⟩ := stop_yes (p := p) (x := x) (by assumption); have hw1 := hw x; rw [e2, stopO3 (by assumption) (by assumption)] at hw1; omega)) (fun v_q20 C_q20 q20 => ?_)))))))
 obtain ⟨v19, rfl, rfl⟩ := q20
 show SP _ _ _ _ _ _ ⟨_, _ :: _, _, _⟩
 refine .f fo78_2 2 G G G G (.know (row_len 0 G) (fun hv23 => ?_))
 obtain ⟨A21, c22, rfl, hv23_1, hv23_2⟩ := hv23
 unfold maxLen at hv23_2
 refine .cons (st_store1 G G G ty73 G G G (.t .h) (.t2 .h) ?_)
 refine .go idQ (.seq (.region (.d 0 ty78 G G G G (.cons (st_storea (l' := [.int .i64 (((gt p.ships x.item).sd).pl), .int .i64 (((gt p.ships x.item).sd).srv), .slice A21 ((((gt p.ships x.item).sd).sws).length) c22]) G G G ty78 G G G (.t2 (.t .h)) G G (.a G G G ?_))))))
 refine .go idQ (.ret idQ (retv2 results123 (.c 0 rfl rfl ty78) (.t rfl) (.c (.t2 .h) .n) ⟨.slice A21 ((((gt p.ships x.item).sd).sws).length) c22, (by obtain ⟨e1, e2⟩ := stop_yes (p := p) (x := x) (by assumption); rw [e1, e2, stopO3 (by assumption) (by assumption)]), (by obtain ⟨e1, e2⟩ := stop_yes (p := p) (x := x) (by assumption); rw [e2, stopO3 (by assumption) (by assumption)])⟩))
theorem rstop_ (p : PB) (x : Vis) (S : Nat → Prop) (wf : World) (hPB : PBF S wf p) :
  TR0 prog 94 [.agg (cPB p).toArray, .agg #[.int .i64 x.kind, .int .i64 x.item]] [] S wf (fun v_ C_ => v_ = .tuple #[.agg #[.int .i64 ((stopD p x).pl), .int .i64 ((stopD p x).srv), .slice ((stopD p x).soA) ((stopD p x).sws.length) ((stopD p x).soc)], .bool (isStop p x)] ∧ C_ = []) := by
 have hlj := hPB.2.2.2.1.1.len
 have hls := hPB.2.2.2.2.1.len
 have hlv := hPB.2.2.1.1.len
 refine TR.mk func94 G ntmps94 G G (fun w_ => ?_)
 refine .seq (.region (.cons (st_boxa G G G G G (fun b1 => (.cons (st_boxa G G G G G (fun b2 => (.cons (st_alloc G G G G zf78 (fun b3 => ?_))))))))))
 refine .a G G G (.go idQ (.seq (.region (.d 1 ty92 G G G G (.cons (st_callk G G G G hbd27 G .n (rof_ x _ _) ?_))))))
 refine .m G G G (.x G G G G (.x G G G G (.cons (st_alloc G G G G zf61 (fun b4 => ?_)))))
 refine .cons (st_storea (l' := [.bool ((taskV x).ship), .int .i64 ((taskV x).item)]) G G G ty61 G G G .h G G ?_)
 refine .a G G G (.go idQ (.seq (.seq (.region (.m G G G (.v (ev_not G G) G ?_))))))
 refine .m G G G (.w (fun _ => ev_lda G G (At.whole 3 G) ty29) G (.w (fun _ => ev_lda G G (At.whole 0 G) ty61) G (.cons (st_gcallk G G G G G G hbd63 (fun hb => (lkA1 (lkg G hb) (lkA1 (lkg G hb) lkA0))) .n (fun hb => have hp := bF (bN bV) hb; rthere_ p (taskV x) _ _ hPB) ?_))))
 refine .w (fun hb => ev_not G (lkg G hb)) G (.r G G G G G (.go idQ (.condI G (bO (bN bV) (bN bV)) (fun h5 => ?_) (fun h5 => ?_))))
 ·
  refine .seq (.region (.v (ev_any (v := .agg #[.int .i64 0, .int .i64 0, .slice none 0 0]) G kR (fun _ => by kernel_rfl)) G (.cons (st_storea (l' := [.int .i64 0, .int .i64 0, .slice none 0 0]) G G G ty78 G G G (.t .h) G G (.a G G G ?_)))))
  refine .go idQ (.ret idQ (retv2 results94 (.c 0 rfl rfl ty78) (.t rfl) .n ⟨(by obtain ⟨e1, e2⟩ := stop_no (p := p) (x := x) (by assumption); rw [e1, e2]; rfl), rfl⟩))
 refine .skipgo idQ (.seq (.seq (.region (.f fo92_0 0 G G G G (.l ty90 2 G G G G G (.e G G G G G ?_))))))
 refine .go idQ (.condI G bE (fun h6 => ?_) (fun h6 => ?_))
 ·
  refine .seq ?_
  have hin := stop_i1 (p := p) (x := x) (by assumption) (by assumption)
  refine .region (.f fo29_4 6 G G G G (.l ty26 3 G G G G G (.f fo92_1 1 G G G G ?_)))
  refine .l ty3 2 G G G G G (.v (ev_ix G underlying26 ty80 G G oO oO (fun _ _ => Fr.adr (i := x.item) hPB.2.2.2.1.1 oO oO)) G (.f fo80_0 (ao p.pjA + (x.item).toNat * 7) G G G G (.v (ev_lda (cs := [.int .i64 (((gt p.jobs x.item).so).pl), .int .i64 (((gt p.jobs x.item).so).srv), .slice (((gt p.jobs x.item).so).soA) (((gt p.jobs x.item).so).sws.length) (((gt p.jobs x.item).so).soc)]) G G (At.elemn (At.w (Fr.el (i := x.item) hPB.2.2.2.1.1 oO oO)) 0 G) ty78) G ?_)))
  refine .cons (st_storea (l' := [.int .i64 (((gt p.jobs x.item).so).pl), .int .i64 (((gt p.jobs x.item).so).srv), .slice (((gt p.jobs x.item).so).soA) (((gt p.jobs x.item).so).sws.length) (((gt p.jobs x.item).so).soc)]) G G G ty78 G G G (.t .h) G G ?_)
  refine .a rfl rfl rfl (.go idQ (.ret idQ (retv2 results94 (.c 0 rfl rfl ty78) (.t rfl) .n ⟨(by obtain ⟨e1, e2⟩ := stop_yes (p := p) (x := x) (by assumption); rw [e1, e2, stopO1 (by assumption)]), rfl⟩)))
 refine .skipgo idQ (.seq (.seq (.region (.f fo92_0 0 G G G G (.l ty90 2 G G G G G (.e G G G G G ?_))))))
 refine .go idQ (.condI G bE (fun h7 => ?_) (fun h7 => ?_))
 ·
  refine .seq ?_
  have hin := stop_i2 (p := p) (x := x) (by assumption) (by assumption)
  refine .region (.f fo29_5 7 G G G G (.l ty27 3 G G G G G (.f fo92_1 1 G G G G ?_)))
  refine .l ty3 2 G G G G G (.v (ev_ix G underlying27 ty83 G G oO oO (fun _ _ => Fr.adr (i := x.item) hPB.2.2.2.2.1 oO oO)) G (.f fo83_0 (ao p.psA + (x.item).toNat * 9) G G G G (.v (ev_lda (cs := [.int .i64 (((gt p.ships x.item).sp).pl), .int .i64 (((gt p.ships x.item).sp).srv), .slice (((gt p.ships x.item).sp).soA) (((gt p.ships x.item).sp).sws.length) (((gt p.ships x.item).sp).soc)]) G G (At.elemn (At.w (Fr.el (i := x.item) hPB.2.2.2.2.1 oO oO)) 0 G) ty78) G ?_)))
  refine .cons (st_storea (l' := [.int .i64 (((gt p.ships x.item).sp).pl), .int .i64 (((gt p.ships x.item).sp).srv), .slice (((gt p.ships x.item).sp).soA) (((gt p.ships x.item).sp).sws.length) (((gt p.ships x.item).sp).soc)]) G G G ty78 G G G (.t .h) G G ?_)
  refine .a rfl rfl rfl (.go idQ (.ret idQ (retv2 results94 (.c 0 rfl rfl ty78) (.t rfl) .n ⟨(by obtain ⟨e1, e2⟩ := stop_yes (p := p) (x := x) (by assumption); rw [e1, e2, stopO2 (by assumption)]), rfl⟩)))
 refine .skipgo idQ (.seq ?_)
 have hin := stop_i2 (p := p) (x := x) (by assumption) (by assumption)
 refine .region (.f fo29_5 7 G G G G (.l ty27 3 G G G G G (.f fo92_1 1 G G G G ?_)))
 refine .l ty3 2 G G G G G (.v (ev_ix G underlying27 ty83 G G oO oO (fun _ _ => Fr.adr (i := x.item) hPB.2.2.2.2.1 oO oO)) G (.f fo83_1 (ao p.psA + (x.item).toNat * 9 + 3) G G G G (.v (ev_lda (cs := [.int .i64 (((gt p.ships x.item).sd).pl), .int .i64 (((gt p.ships x.item).sd).srv), .slice (((gt p.ships x.item).sd).soA) (((gt p.ships x.item).sd).sws.length) (((gt p.ships x.item).sd).soc)]) G G (At.elemn (At.w (Fr.el (i := x.item) hPB.2.2.2.2.1 oO oO)) 3 G) ty78) G ?_)))
 refine .cons (st_storea (l' := [.int .i64 (((gt p.ships x.item).sd).pl), .int .i64 (((gt p.ships x.item).sd).srv), .slice (((gt p.ships x.item).sd).soA) (((gt p.ships x.item).sd).sws.length) (((gt p.ships x.item).sd).soc)]) G G G ty78 G G G (.t .h) G G ?_)
 refine .a rfl rfl rfl (.go idQ (.ret idQ (retv2 results94 (.c 0 rfl rfl ty78) (.t rfl) .n ⟨(by obtain ⟨e1, e2⟩ := stop_yes (p := p) (x := x) (by assumption); rw [e1, e2, stopO3 (by assumption) (by assumption)]), rfl⟩)))
theorem cell_ (n : Int) (A : Option Addr) (c : Nat) (l : List Int) (f : Int) (t : Int) (S : Nat → Prop) (wf : World) (hA : Fr eZ S wf A l) (hn : 1 ≤ n ∧ n ≤ 32) (hl : (l.length : Int) = n * n) :
  TR0 prog 122 [.agg #[.int .i64 n, .slice A l.length c], .int .i64 f, .int .i64 t] [] S wf (fun v_ C_ => v_ = .int .i64 (cellF n l f t) ∧ C_ = []) := by
 have hmr := mul_rng (f := f) (n := n) hn.2
 have hci := cell_in (f := f) (t := t) (n := n)
 refine TR.mk func122 G ntmps122 G G (fun w_ => ?_)
 refine .seq (.region (.cons (st_boxa G G G G G (fun b1 => (.a G G G (.go idQ (.seq (.seq (.region ?_)))))))))
 refine .m G G G (.e G G G G G (.m G G G (.w (fun _ => ev_mv G G) G ?_)))
 refine .w (fun hb => ev_cmp G (lkg G hb) G G) G (.r G G G G G (.m G G G (.w (fun _ => ev_mv G G) G ?_)))
 refine .w (fun _ => ev_fa G fo24_0 G (r := 0) G) G (.w (fun hb => ev_ld1 G ty3 (lkg G hb) (At.own1 0 G G)) G (.w (fun hb => ev_cmp G (lkg G hb) (lkg G hb) G) G (.r G G G G G ?_)))
 refine .m G G G (.w (fun _ => ev_mv G G) G (.w (fun _ => ev_fa G fo24_0 G (r := 0) G) G (.w (fun hb => ev_ld1 G ty3 (lkg G hb) (At.own1 0 G G)) G ?_)))
 refine .w (fun hb => ev_cmp G (lkg G hb) (lkg G hb) G) G (.r G G G G G (.m G G G (.w (fun _ => ev_mv G G) G ?_)))
 refine .w (fun _ => ev_fa G fo24_0 G (r := 0) G) G (.w (fun hb => ev_ld1 G ty3 (lkg G hb) (At.own1 0 G G)) G (.w (fun hb => have hp := bF (bO (bO (bO bD bD) bD) bD) hb; ev_mul G (lkg G hb) (lkg G hb) (r := (f * n)) G (by have _h := hp; omega) (by have _h := hp; omega)) G (.w (fun _ => ev_mv G G) G ?_)))
 refine .w (fun hb => have hp := bF (bO (bO (bO bD bD) bD) bD) hb; ev_add G (lkg G hb) (lkg G hb) (r := ((f * n) + t)) G (by have _h := hp; omega) (by have _h := hp; omega)) G (.w (fun _ => ev_fa G fo24_1 G (r := 1) G) G (.w (fun hb => ev_ld1 G ty22 (lkg G hb) (At.own1 0 G G)) G (.w (fun hb => ev_len G underlying22 (lkg G hb)) G ?_)))
 refine .w (fun hb => ev_cmp G (lkg G hb) (lkg G hb) G) G (.r G G G G G (.go idQ (.condI G (bO (bO (bO (bO bD bD) bD) bD) bD) (fun h2 => ?_) (fun h2 => ?_))))
 ·
  refine .seq (.region (.a G G G (.go idQ (.ret idQ (ret1 results122 G .n ⟨(congrArg (Value.int .i64) (by unfold cellF; rw [if_pos oO])), G⟩)))))
 refine .skipgo idQ (.seq (.region (.f fo24_1 1 G G G G (.l ty22 0 G G G G G (.m G G G ?_)))))
 refine .f fo24_0 0 G G G G (.l ty3 0 G G G G G (.v (ev_mul G G G (r := (f * n)) G oO oO) G (.m G G G ?_)))
 refine .p (((f * n) + t)) oO oO G G G G G (.v (ev_ix G underlying22 ty3 G G oO oO (fun _ _ => Fr.adr (i := ((f * n) + t)) hA oO oO)) G (.v (ev_ld1 G ty3 G (At.elem1 (At.w (Fr.el (i := ((f * n) + t)) hA oO oO)) 0 G)) G (.a G G G ?_)))
 refine .go idQ (.ret idQ (ret1 results122 G .n ⟨(congrArg (Value.int .i64) (by unfold cellF; rw [if_neg oO])), G⟩))
theorem rcell_ (n : Int) (A : Option Addr) (c : Nat) (l : List Int) (f : Int) (t : Int) (S : Nat → Prop) (wf : World) (hA : Fr eZ S wf A l) (hn : 1 ≤ n ∧ n ≤ 32) (hl : (l.length : Int) = n * n) :
  TR0 prog 95 [.agg #[.int .i64 n, .slice A l.length c], .int .i64 f, .int .i64 t] [] S wf (fun v_ C_ => v_ = .int .i64 (cellF n l f t) ∧ C_ = []) := by
 have hmr := mul_rng (f := f) (n := n) hn.2
 have hci := cell_in (f := f) (t := t) (n := n)
 refine TR.mk func95 G ntmps95 G G (fun w_ => ?_)
 refine .seq (.region (.cons (st_boxa G G G G G (fun b1 => (.a G G G (.go idQ (.seq (.seq (.region ?_)))))))))
 refine .m G G G (.f fo24_0 0 G G G G (.l ty3 0 G G G G G (.v (ev_sub G G G (r := (n - 1)) G oO oO) G ?_)))
 refine .cons (st_callk G G G G hbd35 G .n (up_ f (n - 1) _ _) ?_)
 refine .v (ev_not G G) G (.m G G G (.w (fun _ => ev_mv G G) G (.w (fun _ => ev_fa G fo24_0 G (r := 0) G) G ?_)))
 refine .w (fun hb => ev_ld1 G ty3 (lkg G hb) (At.own1 0 G G)) G (.w (fun hb => have hp := bF (bN (bA bD bD)) hb; ev_sub G (lkg G hb) G (r := (n - 1)) G (by have _h := hp; omega) (by have _h := hp; omega)) G (.cons (st_gcallk G G G G G G hbd35 (fun hb => (lkA1 (lkg G hb) (lkA1 (lkg G hb) lkA0))) .n (fun hb => have hp := bF (bN (bA bD bD)) hb; up_ t (n - 1) _ _) (.w (fun hb => ev_not G (lkg G hb)) G ?_))))
 refine .r G G G G G (.go idQ (.condI G (bO (bN (bA bD bD)) (bN (bA bD bD))) (fun h2 => ?_) (fun h2 => ?_)))
 ·
  refine .seq (.region (.a G G G (.go idQ (.ret idQ (ret1 results95 G .n ⟨(congrArg (Value.int .i64) (by unfold cellF; rw [if_pos oO])), G⟩)))))
 refine .skipgo idQ (.seq (.region (.f fo24_1 1 G G G G (.l ty22 0 G G G G G (.m G G G ?_)))))
 refine .f fo24_0 0 G G G G (.l ty3 0 G G G G G (.v (ev_mul G G G (r := (f * n)) G oO oO) G (.m G G G ?_)))
 refine .p (((f * n) + t)) oO oO G G G G G (.v (ev_ix G underlying22 ty3 G G oO oO (fun _ _ => Fr.adr (i := ((f * n) + t)) hA oO oO)) G (.v (ev_ld1 G ty3 G (At.elem1 (At.w (Fr.el (i := ((f * n) + t)) hA oO oO)) 0 G)) G (.a G G G ?_)))
 refine .go idQ (.ret idQ (ret1 results95 G .n ⟨(congrArg (Value.int .i64) (by unfold cellF; rw [if_neg oO])), G⟩))
end Go.Proofs.YtimhdimhdimbjaaGreat.Sx
set_option maxRecDepth 20000
set_option maxHeartbeats 1000000
namespace Go.Proofs.YtimhdimhdimbjaaGreat.Sx.FC
open Go Go.SX Go.Proofs Go.Proofs.Tryz FA FB
theorem zf92 : (prog.info? 92).bind (fun i => i.zero.map Value.cells) = some (List.toArray [.int .i64 0, .int .i64 0]) := by kernel_rfl
theorem hbd123 : hasBody prog 123 = true := by kernel_rfl
theorem zv4 : (prog.info? 4).bind (fun i => i.zero) = some (.bool false) := by kernel_rfl
theorem fo72_9 : fo prog 72 9 = some 10 := by kernel_rfl
theorem ty70 : ty prog 70 = some (false, 1) := by kernel_rfl
theorem fo72_3 : fo prog 72 3 = some 3 := by kernel_rfl
theorem hbd51 : hasBody prog 51 = true := by kernel_rfl
theorem hbd50 : hasBody prog 50 = true := by kernel_rfl
theorem fo72_8 : fo prog 72 8 = some 9 := by kernel_rfl
theorem fo29_0 : fo prog 29 0 = some 0 := by kernel_rfl
theorem hbd49 : hasBody prog 49 = true := by kernel_rfl
theorem fo80_1 : fo prog 80 1 = some 3 := by kernel_rfl
theorem hbd53 : hasBody prog 53 = true := by kernel_rfl
theorem hbd121 : hasBody prog 121 = true := by kernel_rfl
theorem fo80_2 : fo prog 80 2 = some 4 := by kernel_rfl
theorem hbd159 : hasBody prog 159 = true := by kernel_rfl
theorem ai22 : (prog.info? 22).map (fun i => (i.zero, i.size, i.bytes)) = some (some (.slice none 0 0), 1, 24) := by kernel_rfl
theorem fo83_2 : fo prog 83 2 = some 6 := by kernel_rfl
theorem eqIn92 (d : Nat) (x0 y0 : Int) (x1 y1 : Int) (w : World) : (Op.equalIn (d + 3) 92 (.agg #[(.int .i64 x0), (.int .i64 x1)]) (.agg #[(.int .i64 y0), (.int .i64 y1)])).run prog w = .ok ((x0 == y0) && (x1 == y1)) w := by
 rw [run_equalIn_struct w (d + 2) 92 _ _ kR kR]
 have hf : (prog.fieldsOf 92).toList = [{ name := "Kind", type := 90, offset := 0, embedded := false, tag := "", pkgPath := "", byteOffset := 0 }, { name := "Item", type := 3, offset := 1, embedded := false, tag := "", pkgPath := "", byteOffset := 8 }] := by kernel_rfl
 rw [hf]
 have h90 : ∀ (x y : Int) (w : World), (Op.equalIn (d + 2) 90 (.int .i64 x) (.int .i64 y)).run prog w = .ok (x == y) w := fun x y w => by
  simp [Op.equalIn, run_underlying underlying90]
 have h3 : ∀ (x y : Int) (w : World), (Op.equalIn (d + 2) 3 (.int .i64 x) (.int .i64 y)).run prog w = .ok (x == y) w := fun x y w => by
  simp [Op.equalIn, run_underlying underlying3]
 have p0 : ∀ (x0 : Int) (x1 : Int) (w : World), (part 90 #[(.int .i64 x0), (.int .i64 x1)] 0).run prog w = .ok (.int .i64 x0) w := fun _ _ _ => by kernel_rfl
 have p1 : ∀ (x0 : Int) (x1 : Int) (w : World), (part 3 #[(.int .i64 x0), (.int .i64 x1)] 1).run prog w = .ok (.int .i64 x1) w := fun _ _ _ => by kernel_rfl
 simp only [Op.eqFields, Sem.run_bind, h90, h3, p0, p1, Result.andThen_ok, Sem.run_ite, ne_eq]
 cases g0 : (x0 == y0) <;> cases g1 : (x1 == y1) <;> simp [g0, g1]
end Go.Proofs.YtimhdimhdimbjaaGreat.Sx.FC
namespace Go.Proofs.YtimhdimhdimbjaaGreat.Sx
open Go Go.SX Go.Proofs Go.Proofs.Tryz FA FB FC
def keVis : KE prog 92 Vis := KE.ofStruct visV visV_inj underlying92 (fun x y w => by
  have h : (Op.equal 92 (visV x) (visV y)).run prog w = .ok ((x.kind == y.kind) && (x.item == y.item)) w := eqIn92 9997 _ _ _ _ w
  rw [h]; congr 1; rw [Bool.eq_iff_iff]; simp only [Bool.and_eq_true, beq_iff_eq, decide_eq_true_eq]; exact ⟨fun e => vis_ext e.1 e.2, fun e => by rw [e]; exact ⟨rfl, rfl⟩⟩)
 (fun w b x => by kernel_rfl) visV_bits
theorem pairs_ (p : PB) (v : VH) (A : Option Addr) (c : Nat) (l : List Vis) (S : Nat → Prop) (wf : World) (hA : Fr eVis S wf A l) (hPB : PBF S wf p) (hVH : VHF S wf v) (hL : LawP p) (hll : l.length ≤ 60) :
  TR0 prog 126 [.agg (cPB p).toArray, .agg #[.int .i64 v.st, .int .i64 v.en, .slice v.vcA v.vcap.length v.vcc, .int .u64 v.vsk, .int .i64 v.lo, .int .i64 v.hi, .int .i64 v.fix, .int .i64 v.pt, .int .i64 v.pd, .int .i64 v.mt, .slice v.vbA v.brs.length v.vbc], .slice A l.length c] [] S wf (fun v_ C_ => v_ = .int .i64 (errI (pairsR p l [] 0) 161) ∧ C_ = []) := by
 have hla := hA.len
 refine TR.mk func126 G ntmps126 G G (fun w_ => ?_)
 refine .seq (.region (.cons (st_boxa G G G G G (fun b1 => (.cons (st_boxa G G G G G (fun b2 => (.a G G G ?_))))))))
 refine .go idQ (.seq (.region (.cons (st_mkmap (α := Vis) (β := Bool) keVis.f (.bool) G G G G (fun b3 => (.a G G G (.go idQ (.seq (.region ?_)))))))))
 refine .a G G G (.go idQ (.seq (.seq (.region (.m G G G (.g underlying52 G G G ?_))))))
 refine .m G G G (.go idQ (.block (.loop (X := Int × (List (Vis × Bool)) × Int) (fun ⟨i, m, op⟩ => 0 ≤ i ∧ i ≤ (l.length : Int) ∧ pairsR p (l.drop i.toNat) m op = pairsR p l [] 0 ∧ (-i ≤ op ∧ op ≤ i)) (fun ⟨i, m, op⟩ => [(3, .pointer (some ⟨b1, 0, none⟩)), (7, .map (some b3)), (14, .slice A l.length c), (15, .int .i64 (l.length : Int)), (16, .int .i64 i), (8, .int .i64 op)]) (fun ⟨i, m, op⟩ => [mp keVis.f (.bool) b3 m, cel b2 [.int .i64 v.st, .int .i64 v.en, .slice v.vcA v.vcap.length v.vcc, .int .u64 v.vsk, .int .i64 v.lo, .int .i64 v.hi, .int .i64 v.fix, .int .i64 v.pt, .int .i64 v.pd, .int .i64 v.mt, .slice v.vbA v.brs.length v.vbc] 72, cel b1 (cPB p) 29]) (fun _ => S) (fun _ => wf) (fun ⟨i, m, op⟩ => ((l.length : Int) - i).toNat) (fun a_ w_ hs_ hw_ => ⟨⟨0, ([] : List (Vis × Bool)), 0⟩, (by (try dsimp only); exact ⟨oO, oO, G, oO⟩), hs_.mono (Sub.get (.c4 G G G G (.c G (.c G .n)))), hw_.keep (.d (.c .h .n))⟩) (fun ⟨i, m, op⟩ ⟨q_0, q_1, q_2, q_3⟩ => ?_))))
 try dsimp only
 refine .seq (.region (.e G G G G G (.go idQ (.seq (.condI G bD (fun h4 => ?_) (fun h4 => ?_))))))
 ·
  refine .skipgo idQ (.seq (.block (.seq (.region (.v (ev_ix G underlying52 ty92 G G oO oO (fun _ _ => Fr.adr (i := i) hA oO oO)) G (.v (ev_lda G G (At.w (Fr.el (i := i) hA oO oO)) ty92) G (.cons (st_alloc G G G G zf92 (fun b5 => ?_)))))))))
  refine .cons (st_storea (l' := [.int .i64 ((gt l i).kind), .int .i64 ((gt l i).item)]) G G G ty92 G G G .h G G ?_)
  refine .go idQ (.seq (.seq (.region (.f fo92_0 0 G G G G (.l ty90 0 G G G G G (.e G G G G G ?_))))))
  refine .go idQ (.condI G bE (fun h6 => ?_) (fun h6 => ?_))
  ·
   refine .exit idQ ?_
   refine .region (.p ((i + 1)) oO oO G G G G G (.m G G G ?_))
   exact SP.nil (SQ.roundb (X := Int × (List (Vis × Bool)) × Int) (x := (i, m, op)) ⟨(i + 1), m, op⟩ (by (try dsimp only); exact ⟨oO, oO, (by have hq := q_2; rw [drop_gt (x := i) oO oO, pairsR_cons] at hq; (repeat' split at hq) <;> first | exact hq | contradiction | (exfalso; omega)), oO⟩) dO (Sub.get (.c4 G G G G (.c G (.c G .n)))) (kp (.c (.t .h) (.c (.t .h) (.c (.t .h) .n)))))
  refine .skipgo idQ (.seq (.seq (.region (.d 3 ty29 G G G G (.d 0 ty92 G G G G (.cons (st_call0 G G G G hbd123 G .n (stop_ p (gt l i) _ _ hPB (stop_ws hL)) (fun v_q8 C_q8 q8 => ?_))))))))
  obtain ⟨u7, rfl, rfl⟩ := q8
  show SP _ _ _ _ _ _ ⟨_, _ :: _, _, _⟩
  refine .know (row_len 0 G) (fun hv11 => ?_)
  obtain ⟨A9, c10, rfl, hv11_1, hv11_2⟩ := hv11
  unfold maxLen at hv11_2
  refine .m G G G (.x G G G G (.x G G G G (.cons (st_alloc G G G G zf78 (fun b12 => ?_)))))
  refine .cons (st_storea (l' := [.int .i64 ((stopD p (gt l i)).pl), .int .i64 ((stopD p (gt l i)).srv), .slice A9 (((stopD p (gt l i)).sws).length) c10]) G G G ty78 G G G .h G G ?_)
  refine .a G G G (.go idQ (.seq (.region (.m G G G (.v (ev_not G G) G ?_)))))
  refine .m G G G (.w (fun _ => ev_mv G G) G (.w (fun _ => ev_lda G G (At.whole 2 G) ty92) G (.w (fun hb => ev_lkp keVis (m := m) (x := (gt l i)) (z := false) G underlying216 zv4 (lkg G hb) (lkg G hb) 3 G) G ?_)))
  refine .r G G G G G (.m G G G (.w (fun _ => ev_fa G fo92_0 G (r := 0) G) G (.w (fun hb => ev_ld1 G ty90 (lkg G hb) (At.own1 2 G G)) G ?_)))
  refine .w (fun hb => ev_cmp G (lkg G hb) G G) G (.w (fun hb => ev_mv G (lkg G hb)) G (.cons (Ev.ggstep (b1 := ((!(isStop p (gt l i))) || (mget m (gt l i) false))) (b := (((gt l i).kind) == 3)) cb_ft (fun hb1 _ => ev_mv G G) G G G G G (.cons (Ev.ggstep (b1 := ((!(isStop p (gt l i))) || (mget m (gt l i) false))) (b := (((gt l i).kind) == 3)) cb_ft (fun hb1 _ => ev_fa G fo92_1 G (r := 1) G) G G G G G ?_)))))
  refine .cons (Ev.ggstep (b1 := ((!(isStop p (gt l i))) || (mget m (gt l i) false))) (b := (((gt l i).kind) == 3)) cb_ft (fun hb1 hb => ev_ld1 G ty3 (lkg G hb) (At.own1 2 G G)) G G G G G ?_)
  refine .cons (Ev.ggstep (b1 := ((!(isStop p (gt l i))) || (mget m (gt l i) false))) (b := (((gt l i).kind) == 3)) cb_ft (fun hb1 hb => Ev.reslot (t := 43) (v := .int .i64 ((gt l i).item)) (lkg G hb) (ev_any (v := .agg #[.int .i64 2, .int .i64 ((gt l i).item)]) G kR (fun _ => by kernel_rfl))) G G G G G ?_)
  refine .cons (Ev.ggstep (b1 := ((!(isStop p (gt l i))) || (mget m (gt l i) false))) (b := (((gt l i).kind) == 3)) cb_ft (fun hb1 hb => ev_lkp keVis (m := m) (x := (Vis.mk 2 ((gt l i).item))) (z := false) G underlying216 zv4 (lkg G hb) (lkg G hb) 3 G) G G G G G ?_)
  refine .cons (Ev.ggstep (b1 := ((!(isStop p (gt l i))) || (mget m (gt l i) false))) (b := (((gt l i).kind) == 3)) cb_ft (fun hb1 hb => ev_not G (lkg G hb)) G G G G G ?_)
  refine .w (fun hb => ev_and G (lkg G hb) (lkgn G cb_ft hb) G) G (.r G G G G G (.go idQ (.condI G (bO (bO (bN bV) bV) (bA bE (bN bV))) (fun h13 => ?_) (fun h13 => ?_))))
  ·
   refine .seq (.region (.a G G G (.go idQ (.ret idQ (ret1 results126 G .n ⟨(congrArg (Value.int .i64) (errI_f (by have hq := q_2; rw [drop_gt (x := i) oO oO, pairsR_cons] at hq; (repeat' split at hq) <;> first | exact hq.symm | contradiction | (exfalso; omega))).symm), G⟩)))))
  refine .skipgo idQ (.seq (.region (.m G G G (.d 2 ty92 G G G G (.cons (st_mapSet keVis (u := undef) (x := (gt l i)) (v := true) G G G underlying216 G G G (.t2 (.t .h)) ?_))))))
  refine .go idQ (.seq (.region (.f fo92_0 0 G G G G (.l ty90 3 G G G G G (.go idQ (.block (.seq (.region ?_))))))))
  refine .e G G G G G (.a G G G (.go idQ (.condI G bE (fun h14 => ?_) (fun h14 => ?_))))
  ·
   refine .region (.m G G G (.p ((op + 1)) oO oO G G G G G (.a G G G ?_)))
   refine .go idQ (.region (.p ((i + 1)) oO oO G G G G G (.m G G G ?_)))
   exact SP.nil (SQ.roundb (X := Int × (List (Vis × Bool)) × Int) (x := (i, m, op)) ⟨(i + 1), (mset m (gt l i) true), (op + 1)⟩ (by (try dsimp only); exact ⟨oO, oO, (by have hq := q_2; rw [drop_gt (x := i) oO oO, pairsR_cons] at hq; (repeat' split at hq) <;> first | exact hq | contradiction | (exfalso; omega)), oO⟩) dO (Sub.get (.c4 G G G G (.c G (.c G .n)))) (kp (.c .h (.c (.t2 (.t .h)) (.c (.t2 (.t .h)) .n)))))
  refine .seq (.region (.e G G G G G (.a G G G (.go idQ ?_))))
  refine .condI G bE (fun h15 => ?_) (fun h15 => ?_)
  ·
   refine .region (.m G G G (.v (ev_sub G G G (r := (op - 1)) G oO oO) G (.a G G G ?_)))
   refine .go idQ (.region (.p ((i + 1)) oO oO G G G G G (.m G G G ?_)))
   exact SP.nil (SQ.roundb (X := Int × (List (Vis × Bool)) × Int) (x := (i, m, op)) ⟨(i + 1), (mset m (gt l i) true), (op - 1)⟩ (by (try dsimp only); exact ⟨oO, oO, (by have hq := q_2; rw [drop_gt (x := i) oO oO, pairsR_cons] at hq; (repeat' split at hq) <;> first | exact hq | contradiction | (exfalso; omega)), oO⟩) dO (Sub.get (.c4 G G G G (.c G (.c G .n)))) (kp (.c .h (.c (.t2 (.t .h)) (.c (.t2 (.t .h)) .n)))))
  refine .skipgo idQ (.region (.p ((i + 1)) oO oO G G G G G (.m G G G ?_)))
  exact SP.nil (SQ.roundb (X := Int × (List (Vis × Bool)) × Int) (x := (i, m, op)) ⟨(i + 1), (mset m (gt l i) true), op⟩ (by (try dsimp only); exact ⟨oO, oO, (by have hq := q_2; rw [drop_gt (x := i) oO oO, pairsR_cons] at hq; (repeat' split at hq) <;> first | exact hq | contradiction | (exfalso; omega)), oO⟩) dO (Sub.get (.c4 G G G G (.c G (.c G .n)))) (kp (.c .h (.c (.t2 (.t .h)) (.c (.t2 (.t .h)) .n)))))
 refine .exit idQ ?_
 refine .seq (.seq (.region (.m G G G (.e G G G G G (.go idQ ?_)))))
 refine .condI G bNE (fun h16 => ?_) (fun h16 => ?_)
 ·
  refine .seq (.region (.a G G G (.go idQ (.ret idQ (ret1 results126 G .n ⟨(congrArg (Value.int .i64) (errI_f (by have hq := q_2; rw [drop_end oO] at hq; rw [← hq]; exact decide_eq_false oO)).symm), G⟩)))))
 refine .skipgo idQ (.seq (.region (.a G G G (.go idQ (.ret idQ (ret1 results126 G .n ⟨(congrArg (Value.int .i64) (errI_t (by have hq := q_2; rw [drop_end oO] at hq; rw [← hq]; exact decide_eq_true oO)).symm), G⟩))))))
theorem breaks_ (p : PB) (v : VH) (A : Option Addr) (c : Nat) (l : List Vis) (S : Nat → Prop) (wf : World) (hA : Fr eVis S wf A l) (hPB : PBF S wf p) (hVH : VHF S wf v) (hll : l.length ≤ 60) :
  TR0 prog 127 [.agg (cPB p).toArray, .agg #[.int .i64 v.st, .int .i64 v.en, .slice v.vcA v.vcap.length v.vcc, .int .u64 v.vsk, .int .i64 v.lo, .int .i64 v.hi, .int .i64 v.fix, .int .i64 v.pt, .int .i64 v.pd, .int .i64 v.mt, .slice v.vbA v.brs.length v.vbc], .slice A l.length c] [] S wf (fun v_ C_ => v_ = .int .i64 (errI (breaksR v.brs.length l 0) 162) ∧ C_ = []) := by
 have hla := hA.len
 refine TR.mk func127 G ntmps127 G G (fun w_ => ?_)
 refine .seq (.region (.cons (st_boxa G G G G G (fun b1 => (.cons (st_boxa G G G G G (fun b2 => (.a G G G ?_))))))))
 refine .go idQ (.seq (.region (.a G G G (.go idQ (.seq (.seq (.region (.m G G G ?_))))))))
 refine .g underlying52 G G G (.m G G G (.go idQ (.block (.loop (X := Int × Int) (fun ⟨i, n⟩ => 0 ≤ i ∧ i ≤ (l.length : Int) ∧ breaksR v.brs.length (l.drop i.toNat) n = breaksR v.brs.length l 0 ∧ (0 ≤ n ∧ n ≤ i)) (fun ⟨i, n⟩ => [(4, .pointer (some ⟨b2, 0, none⟩)), (10, .slice A l.length c), (11, .int .i64 (l.length : Int)), (12, .int .i64 i), (7, .int .i64 n)]) (fun ⟨i, n⟩ => [cel b2 [.int .i64 v.st, .int .i64 v.en, .slice v.vcA v.vcap.length v.vcc, .int .u64 v.vsk, .int .i64 v.lo, .int .i64 v.hi, .int .i64 v.fix, .int .i64 v.pt, .int .i64 v.pd, .int .i64 v.mt, .slice v.vbA v.brs.length v.vbc] 72, cel b1 (cPB p) 29]) (fun _ => S) (fun _ => wf) (fun ⟨i, n⟩ => ((l.length : Int) - i).toNat) (fun a_ w_ hs_ hw_ => ⟨⟨0, 0⟩, (by (try dsimp only); exact ⟨oO, oO, G, oO⟩), hs_.mono (Sub.get (.c4 G G G G (.c G .n))), hw_.keep (.d .n)⟩) (fun ⟨i, n⟩ ⟨q_0, q_1, q_2, q_3⟩ => ?_)))))
 try dsimp only
 refine .seq (.region (.e G G G G G (.go idQ (.seq (.condI G bD (fun h3 => ?_) (fun h3 => ?_))))))
 ·
  refine .skipgo idQ (.seq (.block (.seq (.region (.v (ev_ix G underlying52 ty92 G G oO oO (fun _ _ => Fr.adr (i := i) hA oO oO)) G (.v (ev_lda G G (At.w (Fr.el (i := i) hA oO oO)) ty92) G (.cons (st_alloc G G G G zf92 (fun b4 => ?_)))))))))
  refine .cons (st_storea (l' := [.int .i64 ((gt l i).kind), .int .i64 ((gt l i).item)]) G G G ty92 G G G .h G G ?_)
  refine .go idQ (.seq (.region (.f fo92_0 0 G G G G (.l ty90 0 G G G G G (.e G G G G G ?_)))))
  refine .go idQ (.condI G bE (fun h5 => ?_) (fun h5 => ?_))
  ·
   refine .seq (.seq (.region (.f fo92_1 1 G G G G (.l ty3 0 G G G G G (.m G G G ?_)))))
   refine .e G G G G G (.go idQ (.condI G bNE (fun h6 => ?_) (fun h6 => ?_)))
   ·
    refine .seq (.region (.a G G G (.go idQ (.ret idQ (ret1 results127 G .n ⟨(congrArg (Value.int .i64) (errI_f (by have hq := q_2; rw [drop_gt (x := i) oO oO, breaksR_cons] at hq; (repeat' split at hq) <;> first | exact hq.symm | contradiction | (exfalso; omega))).symm), G⟩)))))
   refine .skipgo idQ (.region (.m G G G (.p ((n + 1)) oO oO G G G G G (.a G G G ?_))))
   refine .go idQ (.region (.p ((i + 1)) oO oO G G G G G (.m G G G ?_)))
   exact SP.nil (SQ.roundb (X := Int × Int) (x := (i, n)) ⟨(i + 1), (n + 1)⟩ (by (try dsimp only); exact ⟨oO, oO, (by have hq := q_2; rw [drop_gt (x := i) oO oO, breaksR_cons] at hq; (repeat' split at hq) <;> first | exact hq | contradiction | (exfalso; omega)), oO⟩) dO (Sub.get (.c4 G G G G (.c G .n))) (kp (.c (.t .h) (.c (.t .h) .n))))
  refine .skipgo idQ (.region (.p ((i + 1)) oO oO G G G G G (.m G G G ?_)))
  exact SP.nil (SQ.roundb (X := Int × Int) (x := (i, n)) ⟨(i + 1), n⟩ (by (try dsimp only); exact ⟨oO, oO, (by have hq := q_2; rw [drop_gt (x := i) oO oO, breaksR_cons] at hq; (repeat' split at hq) <;> first | exact hq | contradiction | (exfalso; omega)), oO⟩) dO (Sub.get (.c4 G G G G (.c G .n))) (kp (.c (.t .h) (.c (.t .h) .n))))
 refine .exit idQ ?_
 refine .seq (.seq (.region (.m G G G (.f fo72_9 10 G G G G (.l ty70 0 G G G G G ?_)))))
 refine .g underlying70 G G G (.e G G G G G (.go idQ (.condI G bNE (fun h7 => ?_) (fun h7 => ?_))))
 ·
  refine .seq (.region (.a G G G (.go idQ (.ret idQ (ret1 results127 G .n ⟨(congrArg (Value.int .i64) (errI_f (by have hq := q_2; rw [drop_end oO] at hq; rw [← hq]; exact decide_eq_false oO)).symm), G⟩)))))
 refine .skipgo idQ (.seq (.region (.a G G G (.go idQ (.ret idQ (ret1 results127 G .n ⟨(congrArg (Value.int .i64) (errI_t (by have hq := q_2; rw [drop_end oO] at hq; rw [← hq]; exact decide_eq_true oO)).symm), G⟩))))))
theorem skills_ (p : PB) (v : VH) (A : Option Addr) (c : Nat) (l : List Vis) (S : Nat → Prop) (wf : World) (hA : Fr eVis S wf A l) (hPB : PBF S wf p) (hVH : VHF S wf v) (hll : l.length ≤ 60) :
  TR0 prog 128 [.agg (cPB p).toArray, .agg #[.int .i64 v.st, .int .i64 v.en, .slice v.vcA v.vcap.length v.vcc, .int .u64 v.vsk, .int .i64 v.lo, .int .i64 v.hi, .int .i64 v.fix, .int .i64 v.pt, .int .i64 v.pd, .int .i64 v.mt, .slice v.vbA v.brs.length v.vbc], .slice A l.length c] [] S wf (fun v_ C_ => v_ = .int .i64 (errI (skillsR p v l) 163) ∧ C_ = []) := by
 have hla := hA.len
 refine TR.mk func128 G ntmps128 G G (fun w_ => ?_)
 refine .seq (.region (.cons (st_boxa G G G G G (fun b1 => (.cons (st_boxa G G G G G (fun b2 => (.a G G G ?_))))))))
 refine .go idQ (.seq (.seq (.region (.m G G G (.g underlying52 G G G (.m G G G ?_))))))
 refine .go idQ (.block (.loop (X := Int) (fun i => 0 ≤ i ∧ i ≤ (l.length : Int) ∧ skillsR p v (l.drop i.toNat) = skillsR p v l) (fun i => [(3, .pointer (some ⟨b1, 0, none⟩)), (4, .pointer (some ⟨b2, 0, none⟩)), (11, .slice A l.length c), (12, .int .i64 (l.length : Int)), (13, .int .i64 i)]) (fun i => [cel b2 [.int .i64 v.st, .int .i64 v.en, .slice v.vcA v.vcap.length v.vcc, .int .u64 v.vsk, .int .i64 v.lo, .int .i64 v.hi, .int .i64 v.fix, .int .i64 v.pt, .int .i64 v.pd, .int .i64 v.mt, .slice v.vbA v.brs.length v.vbc] 72, cel b1 (cPB p) 29]) (fun _ => S) (fun _ => wf) (fun i => ((l.length : Int) - i).toNat) (fun a_ w_ hs_ hw_ => ⟨0, (by (try dsimp only); exact ⟨oO, oO, G⟩), hs_.mono (Sub.get (.c4 G G G G (.c G .n))), hw_.keep (.d .n)⟩) (fun i ⟨q_0, q_1, q_2⟩ => ?_)))
 try dsimp only
 refine .seq (.region (.e G G G G G (.go idQ (.seq (.condI G bD (fun h3 => ?_) (fun h3 => ?_))))))
 ·
  refine .skipgo idQ (.seq (.block (.seq (.region (.v (ev_ix G underlying52 ty92 G G oO oO (fun _ _ => Fr.adr (i := i) hA oO oO)) G (.v (ev_lda G G (At.w (Fr.el (i := i) hA oO oO)) ty92) G (.cons (st_alloc G G G G zf92 (fun b4 => ?_)))))))))
  refine .cons (st_storea (l' := [.int .i64 ((gt l i).kind), .int .i64 ((gt l i).item)]) G G G ty92 G G G .h G G ?_)
  refine .go idQ (.seq (.region (.d 0 ty92 G G G G (.cons (st_callk G G G G hbd60 G .n (of_ (gt l i) _ _) (.m G G G ?_))))))
  refine .x G G G G (.x G G G G (.cons (st_alloc G G G G zf61 (fun b5 => (.cons (st_storea (l' := [.bool ((taskV (gt l i)).ship), .int .i64 ((taskV (gt l i)).item)]) G G G ty61 G G G .h G G ?_))))))
  refine .a G G G (.go idQ (.seq ?_))
  refine SC.draw mo [] [] .n (fun _ _ _ => sc0) (fun wf_6 hl_6 hx_6 hR_6 => ?_)
  refine SR.m 0 G G G G ?_
  refine SR.m 1 G G G G ?_
  refine SR.y 2 G G (fun _ => ev_fa G fo72_3 G (r := 3) G) ?_
  refine SR.y 3 G G (fun hb => ev_ld1 G ty67 (lkg G hb) (At.d (At.lent hR_6 2 G G))) ?_
  refine SR.y 4 G G (fun _ => ev_lda (cs := (cPB p)) G G (At.d (At.lent hR_6 3 G G)) ty29) ?_
  refine SR.y 5 G G (fun _ => ev_lda (cs := [.bool ((taskV (gt l i)).ship), .int .i64 ((taskV (gt l i)).item)]) G G (At.d (At.lent hR_6 0 G G)) ty61) ?_
  refine SR.o 6 G (st_gcallk G G G G G G hbd51 (fun hb => (lkA1 (lkg G hb) (lkA1 (lkg G hb) lkA0))) .n (fun hb => have hp := bT bV hb; skil_ p (taskV (gt l i)) _ _ ((hPB).ext hx_6)) ⟨tt0, ?_⟩)
  refine SR.o 7 G (st_gcallk G G G G G G hbd50 (fun hb => (lkA1 (lkg G hb) (lkA1 (lkg G hb) lkA0))) .n (fun hb => have hp := bT bV hb; covers_ v.vsk (skilF p (taskV (gt l i))) _ _) ⟨tt0, ?_⟩)
  refine SR.y 8 G G (fun hb => ev_not G (lkg G hb)) ?_
  refine SR.z 9 G G (ev_and G G G G) ?_
  refine SR.fin kR hl_6 hx_6 hR_6 .n ?_
  refine SQ.go idQ ?_
  refine .condI G (bA bV (bN bE)) (fun h7 => ?_) (fun h7 => ?_)
  ·
   refine .seq (.region (.a G G G (.go idQ (.ret idQ (ret1 results128 G .n ⟨(congrArg (Value.int .i64) (errI_f (by have hq := q_2; rw [drop_gt (x := i) oO oO, skillsR_cons] at hq; (repeat' split at hq) <;> first | exact hq.symm | contradiction | (exfalso; omega))).symm), G⟩)))))
  refine .skipgo idQ (.region (.p ((i + 1)) oO oO G G G G G (.m G G G ?_)))
  exact SP.nil (SQ.roundb (X := Int) (x := (i)) (i + 1) (by (try dsimp only); exact ⟨oO, oO, (by have hq := q_2; rw [drop_gt (x := i) oO oO, skillsR_cons] at hq; (repeat' split at hq) <;> first | exact hq | contradiction | (exfalso; omega))⟩) (by show (_ : Nat) < _; omega) (Sub.get (.c4 G G G G (.c G .n))) (kp (.c (.t2 .h) (.c (.t2 .h) .n))))
 refine .exit idQ ?_
 refine .seq (.region (.a G G G (.go idQ (.ret idQ (ret1 results128 G .n ⟨(congrArg (Value.int .i64) (errI_t (by have hq := q_2; rw [drop_end oO] at hq; rw [← hq]; rfl)).symm), G⟩)))))
theorem tasks_ (p : PB) (v : VH) (A : Option Addr) (c : Nat) (l : List Vis) (S : Nat → Prop) (wf : World) (hA : Fr eVis S wf A l) (hPB : PBF S wf p) (hVH : VHF S wf v) (hll : l.length ≤ 60) :
  TR0 prog 129 [.agg (cPB p).toArray, .agg #[.int .i64 v.st, .int .i64 v.en, .slice v.vcA v.vcap.length v.vcc, .int .u64 v.vsk, .int .i64 v.lo, .int .i64 v.hi, .int .i64 v.fix, .int .i64 v.pt, .int .i64 v.pd, .int .i64 v.mt, .slice v.vbA v.brs.length v.vbc], .slice A l.length c] [] S wf (fun v_ C_ => v_ = .int .i64 (if tasksR l 0 > v.mt then 164 else 0) ∧ C_ = []) := by
 have hla := hA.len
 refine TR.mk func129 G ntmps129 G G (fun w_ => ?_)
 refine .seq (.region (.cons (st_boxa G G G G G (fun b1 => (.cons (st_boxa G G G G G (fun b2 => (.a G G G ?_))))))))
 refine .go idQ (.seq (.region (.a G G G (.go idQ (.seq (.seq (.region (.m G G G ?_))))))))
 refine .g underlying52 G G G (.m G G G (.go idQ (.block (.loop (X := Int × Int) (fun ⟨i, n⟩ => 0 ≤ i ∧ i ≤ (l.length : Int) ∧ tasksR (l.drop i.toNat) n = tasksR l 0 ∧ (0 ≤ n ∧ n ≤ i)) (fun ⟨i, n⟩ => [(4, .pointer (some ⟨b2, 0, none⟩)), (6, .int .i64 0), (10, .slice A l.length c), (11, .int .i64 (l.length : Int)), (12, .int .i64 i), (7, .int .i64 n)]) (fun ⟨i, n⟩ => [cel b2 [.int .i64 v.st, .int .i64 v.en, .slice v.vcA v.vcap.length v.vcc, .int .u64 v.vsk, .int .i64 v.lo, .int .i64 v.hi, .int .i64 v.fix, .int .i64 v.pt, .int .i64 v.pd, .int .i64 v.mt, .slice v.vbA v.brs.length v.vbc] 72, cel b1 (cPB p) 29]) (fun _ => S) (fun _ => wf) (fun ⟨i, n⟩ => ((l.length : Int) - i).toNat) (fun a_ w_ hs_ hw_ => ⟨⟨0, 0⟩, (by (try dsimp only); exact ⟨oO, oO, G, oO⟩), hs_.mono (Sub.get (.c4 G G G G (.c G (.c G .n)))), hw_.keep (.d .n)⟩) (fun ⟨i, n⟩ ⟨q_0, q_1, q_2, q_3⟩ => ?_)))))
 try dsimp only
 refine .seq (.region (.e G G G G G (.go idQ (.seq (.condI G bD (fun h3 => ?_) (fun h3 => ?_))))))
 ·
  refine .skipgo idQ (.seq (.block (.seq (.region (.v (ev_ix G underlying52 ty92 G G oO oO (fun _ _ => Fr.adr (i := i) hA oO oO)) G (.v (ev_lda G G (At.w (Fr.el (i := i) hA oO oO)) ty92) G (.cons (st_alloc G G G G zf92 (fun b4 => ?_)))))))))
  refine .cons (st_storea (l' := [.int .i64 ((gt l i).kind), .int .i64 ((gt l i).item)]) G G G ty92 G G G .h G G ?_)
  refine .go idQ (.seq (.region (.f fo92_0 0 G G G G (.l ty90 0 G G G G G (.e G G G G G ?_)))))
  refine .m G G G (.w (fun _ => ev_fa G fo92_0 G (r := 0) G) G (.w (fun hb => ev_ld1 G ty90 (lkg G hb) (At.own1 0 G G)) G (.w (fun hb => ev_cmp G (lkg G hb) G G) G ?_)))
  refine .r G G G G G (.go idQ (.condI G (bO bE bE) (fun h5 => ?_) (fun h5 => ?_)))
  ·
   refine .region (.m G G G (.p ((n + 1)) oO oO G G G G G (.a G G G ?_)))
   refine .go idQ (.region (.p ((i + 1)) oO oO G G G G G (.m G G G ?_)))
   exact SP.nil (SQ.roundb (X := Int × Int) (x := (i, n)) ⟨(i + 1), (n + 1)⟩ (by (try dsimp only); exact ⟨oO, oO, (by have hq := q_2; rw [drop_gt (x := i) oO oO, tasksR_cons] at hq; (repeat' split at hq) <;> first | exact hq | contradiction | (exfalso; omega)), oO⟩) dO (Sub.get (.c4 G G G G (.c G (.c G .n)))) (kp (.c (.t .h) (.c (.t .h) .n))))
  refine .skipgo idQ (.region (.p ((i + 1)) oO oO G G G G G (.m G G G ?_)))
  exact SP.nil (SQ.roundb (X := Int × Int) (x := (i, n)) ⟨(i + 1), n⟩ (by (try dsimp only); exact ⟨oO, oO, (by have hq := q_2; rw [drop_gt (x := i) oO oO, tasksR_cons] at hq; (repeat' split at hq) <;> first | exact hq | contradiction | (exfalso; omega)), oO⟩) dO (Sub.get (.c4 G G G G (.c G (.c G .n)))) (kp (.c (.t .h) (.c (.t .h) .n))))
 refine .exit idQ ?_
 refine .seq (.seq (.region (.m G G G (.f fo72_8 9 G G G G (.l ty3 0 G G G G G ?_)))))
 refine .e G G G G G (.go idQ (.condI G bD (fun h6 => ?_) (fun h6 => ?_)))
 ·
  refine .seq (.region (.a G G G (.go idQ (.ret idQ (ret1 results129 G .n ⟨(congrArg (Value.int .i64) (by have hq := q_2; rw [drop_end oO] at hq; rw [← hq]; exact (if_pos (show _ from by assumption)).symm)), G⟩)))))
 refine .skipgo idQ (.seq (.region (.a G G G (.go idQ (.ret idQ (ret1 results129 G .n ⟨(congrArg (Value.int .i64) (by have hq := q_2; rw [drop_end oO] at hq; rw [← hq]; exact (if_neg (show _ from by assumption)).symm)), G⟩))))))
theorem loads_ (p : PB) (A : Option Addr) (c : Nat) (l : List Vis) (S : Nat → Prop) (wf : World) (hA : Fr eVis S wf A l) (hPB : PBF S wf p) (hL : LawP p) (hll : l.length ≤ 60) :
  TR0 prog 156 [.agg (cPB p).toArray, .slice A l.length c] [] S wf (fun v_ C_ => ∃ (u : Value) (Y : List IL), (Y.map IL.il = loadsF p l) ∧ v_ = u ∧ C_ = [rw_ eIL 22 (u) Y, nestIL 3 Y]) := by
 have hla := hA.len
 refine TR.mk func156 G ntmps156 G G (fun w_ => ?_)
 refine .seq (.region (.cons (st_boxa G G G G G (fun b1 => (.a G G G (.go idQ (.seq (.region ?_))))))))
 refine .f fo29_0 0 G G G G (.l ty3 0 G G G G G (.cons (st_call0 G G G G hbd49 G .n (lzero_ p.dims _ _ hL.dims) (fun v_q3 C_q3 q3 => ?_))))
 obtain ⟨u2, rfl, rfl⟩ := q3
 show SP _ _ _ _ _ _ ⟨_, _ :: _, _, _⟩
 refine .a G G G (.go idQ (.seq (.seq (.region (.m G G G (.g underlying52 G G G ?_))))))
 refine .m G G G (.go idQ (.block (.loop (X := Int × (List Int) × Value) (fun ⟨i, X, u_X⟩ => 0 ≤ i ∧ i ≤ (l.length : Int) ∧ load0R p (l.drop i.toNat) X = load0 p l ∧ lOk p (1000000 * i) X) (fun ⟨i, X, u_X⟩ => [(1, .slice A l.length c), (2, .pointer (some ⟨b1, 0, none⟩)), (4, .slice none 0 0), (18, .slice A l.length c), (19, .int .i64 (l.length : Int)), (20, .int .i64 i), (5, u_X)]) (fun ⟨i, X, u_X⟩ => [rw_ eZ 3 (u_X) X, cel b1 (cPB p) 29]) (fun _ => S) (fun _ => wf) (fun ⟨i, X, u_X⟩ => ((l.length : Int) - i).toNat) (fun a_ w_ hs_ hw_ => ⟨⟨0, (List.replicate (p.dims).toNat (0 : Int)), v_q3⟩, (by (try dsimp only); exact ⟨oO, oO, G, (by refine ⟨by have := hL.dims; rw [List.length_replicate]; omega, bdd_mono (bdd_zero _) oO⟩)⟩), hs_.mono (Sub.get (.c4 G G G G (.c G (.c G (.c G .n))))), hw_.keep (.d .n)⟩) (fun ⟨i, X, u_X⟩ ⟨q_0, q_1, q_2, q_3⟩ => ?_))))
 try dsimp only
 have hXl := q_3.1
 have hdm := hL.dims
 refine .seq (.region (.e G G G G G (.go idQ (.seq (.condI G bD (fun h4 => ?_) (fun h4 => ?_))))))
 ·
  refine .skipgo idQ (.seq (.block (.seq (.region (.v (ev_ix G underlying52 ty92 G G oO oO (fun _ _ => Fr.adr (i := i) hA oO oO)) G (.v (ev_lda G G (At.w (Fr.el (i := i) hA oO oO)) ty92) G (.cons (st_alloc G G G G zf92 (fun b5 => ?_)))))))))
  refine .cons (st_storea (l' := [.int .i64 ((gt l i).kind), .int .i64 ((gt l i).item)]) G G G ty92 G G G .h G G ?_)
  refine .go idQ (.seq (.region (.d 2 ty29 G G G G (.d 0 ty92 G G G G (.cons (st_call0 G G G G hbd123 G .n (stop_ p (gt l i) _ _ hPB (stop_ws hL)) (fun v_q7 C_q7 q7 => ?_)))))))
  obtain ⟨u6, rfl, rfl⟩ := q7
  show SP _ _ _ _ _ _ ⟨_, _ :: _, _, _⟩
  refine .know (row_len 0 G) (fun hv10 => ?_)
  obtain ⟨A8, c9, rfl, hv10_1, hv10_2⟩ := hv10
  unfold maxLen at hv10_2
  refine .m G G G (.x G G G G (.x G G G G (.cons (st_alloc G G G G zf78 (fun b11 => ?_)))))
  refine .cons (st_storea (l' := [.int .i64 ((stopD p (gt l i)).pl), .int .i64 ((stopD p (gt l i)).srv), .slice A8 (((stopD p (gt l i)).sws).length) c9]) G G G ty78 G G G .h G G ?_)
  refine .a G G G (.go idQ (.seq (.region (.m G G G (.m G G G ?_)))))
  refine .w (fun _ => ev_fa G fo92_0 G (r := 0) G) G (.w (fun hb => ev_ld1 G ty90 (lkg G hb) (At.own1 2 G G)) G (.w (fun hb => ev_cmp G (lkg G hb) G G) G (.v (ev_and G G G G) G ?_)))
  refine .go idQ (.condI G (bA bV bE) (fun h12 => ?_) (fun h12 => ?_))
  ·
   have hin := is_i1 (by exact (by assumption : _ ∧ _).1) (by exact (by assumption : _ ∧ _).2)
   have hjb := hL.job _ hin.1 hin.2
   refine .region (.m G G G (.f fo29_4 6 G G G G (.l ty26 4 G G G G G ?_)))
   refine .f fo92_1 1 G G G G (.l ty3 2 G G G G G (.v (ev_ix G underlying26 ty80 G G oO oO (fun _ _ => Fr.adr (i := (gt l i).item) hPB.2.2.2.1.1 oO oO)) G (.f fo80_1 (ao p.pjA + ((gt l i).item).toNat * 7 + 3) G G G G ?_)))
   refine .v (ev_ld1 G ty22 G (At.elem1 (At.w (Fr.el (i := (gt l i).item) hPB.2.2.2.1.1 oO oO)) 3 G)) G (.know (row_len 3 G) (fun hv15 => ?_))
   obtain ⟨A13, c14, rfl, hv15_1, hv15_2⟩ := hv15
   unfold maxLen at hv15_2
   refine .cons (st_lend0 G G G G hbd53 G .n (.c (.t2 (.t .h)) .n) (fun w_ hw => laddL A13 c14 X ((gt p.jobs ((gt l i).item)).jdA) ((gt p.jobs ((gt l i).item)).jdc) ((gt p.jobs ((gt l i).item)).drop) _ _ (Fr.lend hw 0 G (by first | ((try simp only [List.length_nil, List.length_cons, List.length_append, List.length_set, List.length_singleton, List.length_take, List.length_drop, List.length_reverse, addL_len, subL_len]) <;> omega) | omega)) (Fr.ext (hPB.2.2.2.1.2 ((gt l i).item)).1 hw.lendx) (by have h_ := q_3.1; have := hjb.drop.1; first | omega | (have := hjb.pick.1; rw [subL_len]; omega)) (by have h_ := q_3.1; have hd_ := hL.dims; first | omega | (rw [subL_len]; omega)) (by first | exact bdd_mono q_3.2 oO | exact bdd_mono (lOk_sub q_3 hjb.drop (Int.le_refl _)).2 oO) (by first | exact rng_bdd hjb.drop.2 oO oO | exact rng_bdd hjb.pick.2 oO oO | exact rng_bdd hjb.am.2 oO oO)) (fun v_q17 C_q17 q17 => ?_))
   obtain ⟨u16, rfl, rfl⟩ := q17
   show SP _ _ _ _ _ _ ⟨_, _ :: _ :: _, _, _⟩
   refine .m G G G (.x G G G G (.x G G G G (.a G G G ?_)))
   refine .go idQ (.region (.p ((i + 1)) oO oO G G G G G (.m G G G ?_)))
   exact SP.nil (SQ.roundb (X := Int × (List Int) × Value) (x := (i, X, (.slice A13 X.length c14))) ⟨(i + 1), (addL X ((gt p.jobs ((gt l i).item)).drop)), u16⟩ (by (try dsimp only); exact ⟨oO, oO, (by have hq := q_2; rw [drop_gt (x := i) oO oO, load0R_cons] at hq; (repeat' split at hq) <;> first | exact hq | contradiction | (exfalso; omega)), (by first | exact lOk_mono q_3 oO | exact lOk_add q_3 hjb.drop oO)⟩) dO (Sub.get (.c4 G G G G (.c G (.c G (.c G .n))))) (kp (.c .h (.c (.t4 .h) .n))))
  refine .skipgo idQ (.region (.p ((i + 1)) oO oO G G G G G (.m G G G ?_)))
  exact SP.nil (SQ.roundb (X := Int × (List Int) × Value) (x := (i, X, u_X)) ⟨(i + 1), X, u_X⟩ (by (try dsimp only); exact ⟨oO, oO, (by have hq := q_2; rw [drop_gt (x := i) oO oO, load0R_cons] at hq; (repeat' split at hq) <;> first | exact hq | contradiction | (exfalso; omega)), (by first | exact lOk_mono q_3 oO | exact lOk_add q_3 hjb.drop oO)⟩) dO (Sub.get (.c4 G G G G (.c G (.c G (.c G .n))))) (kp (.c (.t2 (.t .h)) (.c (.t2 (.t .h)) .n))))
 refine .exit idQ ?_
 refine .seq (.region (.m G G G (.know (row_len 0 G) (fun hv20 => ?_))))
 obtain ⟨A18, c19, rfl, hv20_1, hv20_2⟩ := hv20
 unfold maxLen at hv20_2
 refine .cons (st_lit eIL (e := 22) (l := [(IL.mk X A18 c19)]) G G G G kR G G kW (fun b21 => ?_))
 refine .a G G G (.go idQ (.seq (.seq ?_)))
 refine SC.inow0 (IL.mk X A18 c19) (.c (.t .h) .n) (by first | ((try simp only [List.length_nil, List.length_cons, List.length_append, List.length_set, List.length_singleton, List.length_take, List.length_drop, List.length_reverse, addL_len, subL_len]) <;> omega) | omega) ?_
 refine .region (.m G G G (.g underlying52 G G G (.m G G G ?_)))
 refine .go idQ (.block (.loop (X := Int × Bool × IL × (List IL) × Value) (fun ⟨j, own, x, Y, u_Y⟩ => 0 ≤ j ∧ j ≤ (l.length : Int) ∧ Y.map IL.il ++ loadsR p (l.drop j.toNat) x.il = loadsF p l ∧ lOk p (100000000 + 2000000 * j) x.il ∧ (Y.length : Int) ≤ j + 1) (fun ⟨j, own, x, Y, u_Y⟩ => [(1, .slice A l.length c), (2, .pointer (some ⟨b1, 0, none⟩)), (4, .slice none 0 0), (18, .slice A l.length c), (19, .int .i64 (l.length : Int)), (20, .int .i64 i), (51, .slice A l.length c), (52, .int .i64 (l.length : Int)), (53, .int .i64 j), (5, .slice x.ilA x.il.length x.ilc), (10, u_Y)]) (fun ⟨j, own, x, Y, u_Y⟩ => [inow 3 own x Y, rw_ eIL 22 (u_Y) Y, cel b1 (cPB p) 29]) (fun _ => S) (fun _ => wf) (fun ⟨j, own, x, Y, u_Y⟩ => ((l.length : Int) - j).toNat) (fun a_ w_ hs_ hw_ => ⟨⟨0, false, (IL.mk X A18 c19), [(IL.mk X A18 c19)], .slice (some ⟨b21, 0, none⟩) 1 1⟩, (by (try dsimp only); exact ⟨oO, oO, (by rw [show (0 : Int).toNat = 0 from G, List.drop_zero]; have hz := q_2; rw [drop_end oO] at hz; have hz : X = load0 p l := hz; rw [hz]; rfl), (by refine lOk_mono q_3 oO), (by simp only [List.length_singleton]; omega)⟩), hs_.mono (Sub.get (.c4 G G G G (.c4 G G G G (.c G (.c G (.c G .n)))))), hw_.keep (.d (.c .h .n))⟩) (fun ⟨j, own, x, Y, u_Y⟩ ⟨r_0, r_1, r_2, r_3, r_4⟩ => ?_)))
 try dsimp only
 have hXl := r_3.1
 have hdm := hL.dims
 refine .seq (.region (.e G G G G G (.go idQ (.seq (.condI G bD (fun h22 => ?_) (fun h22 => ?_))))))
 ·
  refine .skipgo idQ (.seq (.block (.seq (.region (.v (ev_ix G underlying52 ty92 G G oO oO (fun _ _ => Fr.adr (i := j) hA oO oO)) G (.v (ev_lda G G (At.w (Fr.el (i := j) hA oO oO)) ty92) G (.cons (st_alloc G G G G zf92 (fun b23 => ?_)))))))))
  refine .cons (st_storea (l' := [.int .i64 ((gt l j).kind), .int .i64 ((gt l j).item)]) G G G ty92 G G G .h G G ?_)
  refine .go idQ (.seq (.seq (.region (.d 3 ty29 G G G G (.d 0 ty92 G G G G (.cons (st_call0 G G G G hbd123 G .n (stop_ p (gt l j) _ _ hPB (stop_ws hL)) (fun v_q25 C_q25 q25 => ?_))))))))
  obtain ⟨u24, rfl, rfl⟩ := q25
  show SP _ _ _ _ _ _ ⟨_, _ :: _, _, _⟩
  refine .know (row_len 0 G) (fun hv28 => ?_)
  obtain ⟨A26, c27, rfl, hv28_1, hv28_2⟩ := hv28
  unfold maxLen at hv28_2
  refine .m G G G (.x G G G G (.x G G G G (.cons (st_alloc G G G G zf78 (fun b29 => ?_)))))
  refine .cons (st_storea (l' := [.int .i64 ((stopD p (gt l j)).pl), .int .i64 ((stopD p (gt l j)).srv), .slice A26 (((stopD p (gt l j)).sws).length) c27]) G G G ty78 G G G .h G G ?_)
  refine .a G G G (.go idQ (.seq (.region (.m G G G (.go idQ ?_)))))
  refine .condI G bV (fun h30 => ?_) (fun h30 => ?_)
  ·
   refine .seq (.region (.f fo92_0 0 G G G G (.l ty90 2 G G G G G (.go idQ (.block (.seq (.region ?_)))))))
   refine .e G G G G G (.a G G G (.go idQ (.condI G bE (fun h31 => ?_) (fun h31 => ?_))))
   ·
    refine .seq ?_
    have hin := is_i1 (by assumption) (by assumption)
    have hjb := hL.job _ hin.1 hin.2
    refine .region (.m G G G (.f fo29_4 6 G G G G (.l ty26 5 G G G G G ?_)))
    refine .f fo92_1 1 G G G G (.l ty3 2 G G G G G (.v (ev_ix G underlying26 ty80 G G oO oO (fun _ _ => Fr.adr (i := (gt l j).item) hPB.2.2.2.1.1 oO oO)) G (.f fo80_1 (ao p.pjA + ((gt l j).item).toNat * 7 + 3) G G G G ?_)))
    refine .v (ev_ld1 G ty22 G (At.elem1 (At.w (Fr.el (i := (gt l j).item) hPB.2.2.2.1.1 oO oO)) 3 G)) G (.cons (st_lend0 G G G G hbd121 G .n (.c (.t2 (.t .h)) .n) (fun w_ hw => lsubL x.ilA x.ilc x.il ((gt p.jobs ((gt l j).item)).jdA) ((gt p.jobs ((gt l j).item)).jdc) ((gt p.jobs ((gt l j).item)).drop) _ _ ((INF.lend hw 0 G).1) (Fr.ext (hPB.2.2.2.1.2 ((gt l j).item)).1 hw.lendx) (by have h_ := r_3.1; have := hjb.drop.1; first | omega | (have := hjb.pick.1; rw [subL_len]; omega)) (by have h_ := r_3.1; have hd_ := hL.dims; first | omega | (rw [subL_len]; omega)) (by first | exact bdd_mono r_3.2 oO | exact bdd_mono (lOk_sub r_3 hjb.drop (Int.le_refl _)).2 oO) (by first | exact rng_bdd hjb.drop.2 oO oO | exact rng_bdd hjb.pick.2 oO oO | exact rng_bdd hjb.am.2 oO oO)) (fun v_q33 C_q33 q33 => ?_)))
    obtain ⟨u32, rfl, rfl⟩ := q33
    show SP _ _ _ _ _ _ ⟨_, _ :: _ :: _, _, _⟩
    refine .m G G G (.x G G G G (.x G G G G (.a G G G ?_)))
    refine .go idQ (.region (.m G G G (.f fo29_4 6 G G G G (.l ty26 6 G G G G G ?_))))
    refine .f fo92_1 1 G G G G (.l ty3 4 G G G G G (.v (ev_ix G underlying26 ty80 G G oO oO (fun _ _ => Fr.adr (i := (gt l j).item) hPB.2.2.2.1.1 oO oO)) G (.f fo80_2 (ao p.pjA + ((gt l j).item).toNat * 7 + 4) G G G G ?_)))
    refine .v (ev_ld1 G ty22 G (At.elem1 (At.w (Fr.el (i := (gt l j).item) hPB.2.2.2.1.1 oO oO)) 4 G)) G (.know (row_len 0 G) (fun hv36 => ?_))
    obtain ⟨A34, c35, rfl, hv36_1, hv36_2⟩ := hv36
    unfold maxLen at hv36_2
    refine .cons (st_lend0 G G G G hbd53 G .n (.c .h .n) (fun w_ hw => laddL A34 c35 (subL x.il ((gt p.jobs ((gt l j).item)).drop)) ((gt p.jobs ((gt l j).item)).jkA) ((gt p.jobs ((gt l j).item)).jkc) ((gt p.jobs ((gt l j).item)).pick) _ _ (Fr.lend hw 0 G (by first | ((try simp only [List.length_nil, List.length_cons, List.length_append, List.length_set, List.length_singleton, List.length_take, List.length_drop, List.length_reverse, addL_len, subL_len]) <;> omega) | omega)) (Fr.ext (hPB.2.2.2.1.2 ((gt l j).item)).2.1 hw.lendx) (by have h_ := r_3.1; have := hjb.drop.1; first | omega | (have := hjb.pick.1; rw [subL_len]; omega)) (by have h_ := r_3.1; have hd_ := hL.dims; first | omega | (rw [subL_len]; omega)) (by first | exact bdd_mono r_3.2 oO | exact bdd_mono (lOk_sub r_3 hjb.drop (Int.le_refl _)).2 oO) (by first | exact rng_bdd hjb.drop.2 oO oO | exact rng_bdd hjb.pick.2 oO oO | exact rng_bdd hjb.am.2 oO oO)) (fun v_q38 C_q38 q38 => ?_))
    obtain ⟨u37, rfl, rfl⟩ := q38
    show SP _ _ _ _ _ _ ⟨_, _ :: _ :: _, _, _⟩
    refine .m G G G (.x G G G G (.x G G G G (.a G G G ?_)))
    refine .go idQ (.know (row_len 0 G) (fun hv41 => ?_))
    obtain ⟨A39, c40, rfl, hv41_1, hv41_2⟩ := hv41
    unfold maxLen at hv41_2
    have hSt := lOk_St (x := gt l j) hL r_3 (k := 100000000 + 2000000 * (j + 1)) oO
    rw [loadSt_1 (by assumption) (by assumption)] at hSt
    simp only [dropV, pickV, amV] at hSt
    refine .region (.m G G G (.m G G G (.cons (st_lend0 G G G G hbd159 G .n (.c .h .n) (fun w_ hw => clonez A39 ((addL (subL x.il ((gt p.jobs ((gt l j).item)).drop)) ((gt p.jobs ((gt l j).item)).pick)).length) c40 (addL (subL x.il ((gt p.jobs ((gt l j).item)).drop)) ((gt p.jobs ((gt l j).item)).pick)) _ _ (Fr.lend hw 0 G (by first | ((try simp only [List.length_nil, List.length_cons, List.length_append, List.length_set, List.length_singleton, List.length_take, List.length_drop, List.length_reverse, addL_len, subL_len]) <;> omega) | omega)) G (by have h_ := hSt.1; have hd_ := hL.dims; omega)) (fun v_q43 C_q43 q43 => ?_)))))
    obtain ⟨v42, rfl, rfl⟩ := q43
    show SP _ _ _ _ _ _ ⟨_, _ :: _ :: _, _, _⟩
    refine .know (row_len 0 G) (fun hv46 => ?_)
    obtain ⟨A44, c45, rfl, hv46_1, hv46_2⟩ := hv46
    unfold maxLen at hv46_2
    refine .cons (st_lit eIL (e := 22) (l := [(IL.mk (addL (subL x.il ((gt p.jobs ((gt l j).item)).drop)) ((gt p.jobs ((gt l j).item)).pick)) A44 c45)]) G G G G kR G G kW (fun b47 => ?_))
    refine .cons (st_app (E := eIL) (m := [(IL.mk (addL (subL x.il ((gt p.jobs ((gt l j).item)).drop)) ((gt p.jobs ((gt l j).item)).pick)) A44 c45)]) G G G G underlying173 ai22 G G G (.t4 (.t4 .h)) rO (row_src 0 G) (by first | ((try simp only [List.length_nil, List.length_cons, List.length_append, List.length_set, List.length_singleton, List.length_take, List.length_drop, List.length_reverse, addL_len, subL_len]) <;> omega) | omega) G (fun v48 => ?_))
    refine .a G G G (.go idQ ?_)
    refine SC.inown (IL.mk (addL (subL x.il ((gt p.jobs ((gt l j).item)).drop)) ((gt p.jobs ((gt l j).item)).pick)) A39 c40) (IL.mk (addL (subL x.il ((gt p.jobs ((gt l j).item)).drop)) ((gt p.jobs ((gt l j).item)).pick)) A44 c45) (.c (.t4 (.t .h)) (.c (.t2 (.t .h)) (.c (.t2 .h) .n))) (by have h_ := hSt.1; have hd_ := hL.dims; dsimp only; omega) (by have h_ := hSt.1; have hd_ := hL.dims; dsimp only; omega) ?_
    refine .region (.p ((j + 1)) oO oO G G G G G (.m G G G ?_))
    exact SP.nil (SQ.roundb (X := Int × Bool × IL × (List IL) × Value) (x := (j, own, x, Y, u_Y)) ⟨(j + 1), true, (IL.mk (addL (subL x.il ((gt p.jobs ((gt l j).item)).drop)) ((gt p.jobs ((gt l j).item)).pick)) A39 c40), (Y ++ [(IL.mk (addL (subL x.il ((gt p.jobs ((gt l j).item)).drop)) ((gt p.jobs ((gt l j).item)).pick)) A44 c45)]), v48⟩ (by (try dsimp only); exact ⟨oO, oO, (by have hq := r_2; rw [drop_gt (x := j) oO oO, loadsR_cons, loadSt_1 (by assumption) (by assumption)] at hq; rw [List.map_append, List.append_assoc]; exact hq), hSt, (by simp only [List.length_append, List.length_singleton]; omega)⟩) dO (Sub.get (.c4 G G G G (.c4 G G G G (.c G (.c G (.c G .n)))))) (kp (.d (.c (.t4 (.t .h)) .n))))
   refine .seq (.region (.e G G G G G (.a G G G (.go idQ ?_))))
   refine .condI G bE (fun h49 => ?_) (fun h49 => ?_)
   ·
    have hin := is_i2 (by assumption) oO
    have hjb := hL.ship _ hin.1 hin.2
    refine .region (.m G G G (.f fo29_5 7 G G G G (.l ty27 5 G G G G G ?_)))
    refine .f fo92_1 1 G G G G (.l ty3 2 G G G G G (.v (ev_ix G underlying27 ty83 G G oO oO (fun _ _ => Fr.adr (i := (gt l j).item) hPB.2.2.2.2.1 oO oO)) G (.f fo83_2 (ao p.psA + ((gt l j).item).toNat * 9 + 6) G G G G ?_)))
    refine .v (ev_ld1 G ty22 G (At.elem1 (At.w (Fr.el (i := (gt l j).item) hPB.2.2.2.2.1 oO oO)) 6 G)) G (.cons (st_lend0 G G G G hbd53 G .n (.c (.t2 (.t .h)) .n) (fun w_ hw => laddL x.ilA x.ilc x.il ((gt p.ships ((gt l j).item)).saA) ((gt p.ships ((gt l j).item)).sac) ((gt p.ships ((gt l j).item)).am) _ _ ((INF.lend hw 0 G).1) (Fr.ext (hPB.2.2.2.2.2 ((gt l j).item)).1 hw.lendx) (by have h_ := r_3.1; have := hjb.am.1; omega) (by have h_ := r_3.1; have hd_ := hL.dims; first | omega | (rw [subL_len]; omega)) (by first | exact bdd_mono r_3.2 oO | exact bdd_mono (lOk_sub r_3 hjb.drop (Int.le_refl _)).2 oO) (by first | exact rng_bdd hjb.drop.2 oO oO | exact rng_bdd hjb.pick.2 oO oO | exact rng_bdd hjb.am.2 oO oO)) (fun v_q51 C_q51 q51 => ?_)))
    obtain ⟨u50, rfl, rfl⟩ := q51
    show SP _ _ _ _ _ _ ⟨_, _ :: _ :: _, _, _⟩
    refine .m G G G (.x G G G G (.x G G G G (.a G G G ?_)))
    refine .go idQ (.know (row_len 0 G) (fun hv54 => ?_))
    obtain ⟨A52, c53, rfl, hv54_1, hv54_2⟩ := hv54
    unfold maxLen at hv54_2
    have hSt := lOk_St (x := gt l j) hL r_3 (k := 100000000 + 2000000 * (j + 1)) oO
    rw [loadSt_2 (by assumption) (by assumption)] at hSt
    simp only [dropV, pickV, amV] at hSt
    refine .region (.m G G G (.m G G G (.cons (st_lend0 G G G G hbd159 G .n (.c .h .n) (fun w_ hw => clonez A52 ((addL x.il ((gt p.ships ((gt l j).item)).am)).length) c53 (addL x.il ((gt p.ships ((gt l j).item)).am)) _ _ (Fr.lend hw 0 G (by first | ((try simp only [List.length_nil, List.length_cons, List.length_append, List.length_set, List.length_singleton, List.length_take, List.length_drop, List.length_reverse, addL_len, subL_len]) <;> omega) | omega)) G (by have h_ := hSt.1; have hd_ := hL.dims; omega)) (fun v_q56 C_q56 q56 => ?_)))))
    obtain ⟨v55, rfl, rfl⟩ := q56
    show SP _ _ _ _ _ _ ⟨_, _ :: _ :: _, _, _⟩
    refine .know (row_len 0 G) (fun hv59 => ?_)
    obtain ⟨A57, c58, rfl, hv59_1, hv59_2⟩ := hv59
    unfold maxLen at hv59_2
    refine .cons (st_lit eIL (e := 22) (l := [(IL.mk (addL x.il ((gt p.ships ((gt l j).item)).am)) A57 c58)]) G G G G kR G G kW (fun b60 => ?_))
    refine .cons (st_app (E := eIL) (m := [(IL.mk (addL x.il ((gt p.ships ((gt l j).item)).am)) A57 c58)]) G G G G underlying173 ai22 G G G (.t4 (.t2 (.t .h))) rO (row_src 0 G) (by first | ((try simp only [List.length_nil, List.length_cons, List.length_append, List.length_set, List.length_singleton, List.length_take, List.length_drop, List.length_reverse, addL_len, subL_len]) <;> omega) | omega) G (fun v61 => ?_))
    refine .a G G G (.go idQ ?_)
    refine SC.inown (IL.mk (addL x.il ((gt p.ships ((gt l j).item)).am)) A52 c53) (IL.mk (addL x.il ((gt p.ships ((gt l j).item)).am)) A57 c58) (.c (.t4 .h) (.c (.t2 (.t .h)) (.c (.t2 .h) .n))) (by have h_ := hSt.1; have hd_ := hL.dims; dsimp only; omega) (by have h_ := hSt.1; have hd_ := hL.dims; dsimp only; omega) ?_
    refine .region (.p ((j + 1)) oO oO G G G G G (.m G G G ?_))
    exact SP.nil (SQ.roundb (X := Int × Bool × IL × (List IL) × Value) (x := (j, own, x, Y, u_Y)) ⟨(j + 1), true, (IL.mk (addL x.il ((gt p.ships ((gt l j).item)).am)) A52 c53), (Y ++ [(IL.mk (addL x.il ((gt p.ships ((gt l j).item)).am)) A57 c58)]), v61⟩ (by (try dsimp only); exact ⟨oO, oO, (by have hq := r_2; rw [drop_gt (x := j) oO oO, loadsR_cons, loadSt_2 (by assumption) (by assumption)] at hq; rw [List.map_append, List.append_assoc]; exact hq), hSt, (by simp only [List.length_append, List.length_singleton]; omega)⟩) dO (Sub.get (.c4 G G G G (.c4 G G G G (.c G (.c G (.c G .n)))))) (kp (.d (.c (.t4 .h) .n))))
   refine .seq (.region (.e G G G G G (.a G G G (.go idQ ?_))))
   refine .condI G bE (fun h62 => ?_) (fun h62 => ?_)
   ·
    have hin := is_i2 (by assumption) oO
    have hjb := hL.ship _ hin.1 hin.2
    refine .region (.m G G G (.f fo29_5 7 G G G G (.l ty27 5 G G G G G ?_)))
    refine .f fo92_1 1 G G G G (.l ty3 2 G G G G G (.v (ev_ix G underlying27 ty83 G G oO oO (fun _ _ => Fr.adr (i := (gt l j).item) hPB.2.2.2.2.1 oO oO)) G (.f fo83_2 (ao p.psA + ((gt l j).item).toNat * 9 + 6) G G G G ?_)))
    refine .v (ev_ld1 G ty22 G (At.elem1 (At.w (Fr.el (i := (gt l j).item) hPB.2.2.2.2.1 oO oO)) 6 G)) G (.cons (st_lend0 G G G G hbd121 G .n (.c (.t2 (.t .h)) .n) (fun w_ hw => lsubL x.ilA x.ilc x.il ((gt p.ships ((gt l j).item)).saA) ((gt p.ships ((gt l j).item)).sac) ((gt p.ships ((gt l j).item)).am) _ _ ((INF.lend hw 0 G).1) (Fr.ext (hPB.2.2.2.2.2 ((gt l j).item)).1 hw.lendx) (by have h_ := r_3.1; have := hjb.am.1; omega) (by have h_ := r_3.1; have hd_ := hL.dims; first | omega | (rw [subL_len]; omega)) (by first | exact bdd_mono r_3.2 oO | exact bdd_mono (lOk_sub r_3 hjb.drop (Int.le_refl _)).2 oO) (by first | exact rng_bdd hjb.drop.2 oO oO | exact rng_bdd hjb.pick.2 oO oO | exact rng_bdd hjb.am.2 oO oO)) (fun v_q64 C_q64 q64 => ?_)))
    obtain ⟨u63, rfl, rfl⟩ := q64
    show SP _ _ _ _ _ _ ⟨_, _ :: _ :: _, _, _⟩
    refine .m G G G (.x G G G G (.x G G G G (.a G G G ?_)))
    refine .go idQ (.know (row_len 0 G) (fun hv67 => ?_))
    obtain ⟨A65, c66, rfl, hv67_1, hv67_2⟩ := hv67
    unfold maxLen at hv67_2
    have hSt := lOk_St (x := gt l j) hL r_3 (k := 100000000 + 2000000 * (j + 1)) oO
    rw [loadSt_3 (by assumption) (by assumption)] at hSt
    simp only [dropV, pickV, amV] at hSt
    refine .region (.m G G G (.m G G G (.cons (st_lend0 G G G G hbd159 G .n (.c .h .n) (fun w_ hw => clonez A65 ((subL x.il ((gt p.ships ((gt l j).item)).am)).length) c66 (subL x.il ((gt p.ships ((gt l j).item)).am)) _ _ (Fr.lend hw 0 G (by first | ((try simp only [List.length_nil, List.length_cons, List.length_append, List.length_set, List.length_singleton, List.length_take, List.length_drop, List.length_reverse, addL_len, subL_len]) <;> omega) | omega)) G (by have h_ := hSt.1; have hd_ := hL.dims; omega)) (fun v_q69 C_q69 q69 => ?_)))))
    obtain ⟨v68, rfl, rfl⟩ := q69
    show SP _ _ _ _ _ _ ⟨_, _ :: _ :: _, _, _⟩
    refine .know (row_len 0 G) (fun hv72 => ?_)
    obtain ⟨A70, c71, rfl, hv72_1, hv72_2⟩ := hv72
    unfold maxLen at hv72_2
    refine .cons (st_lit eIL (e := 22) (l := [(IL.mk (subL x.il ((gt p.ships ((gt l j).item)).am)) A70 c71)]) G G G G kR G G kW (fun b73 => ?_))
    refine .cons (st_app (E := eIL) (m := [(IL.mk (subL x.il ((gt p.ships ((gt l j).item)).am)) A70 c71)]) G G G G underlying173 ai22 G G G (.t4 (.t2 (.t .h))) rO (row_src 0 G) (by first | ((try simp only [List.length_nil, List.length_cons, List.length_append, List.length_set, List.length_singleton, List.length_take, List.length_drop, List.length_reverse, addL_len, subL_len]) <;> omega) | omega) G (fun v74 => ?_))
    refine .a G G G (.go idQ ?_)
    refine SC.inown (IL.mk (subL x.il ((gt p.ships ((gt l j).item)).am)) A65 c66) (IL.mk (subL x.il ((gt p.ships ((gt l j).item)).am)) A70 c71) (.c (.t4 .h) (.c (.t2 (.t .h)) (.c (.t2 .h) .n))) (by have h_ := hSt.1; have hd_ := hL.dims; dsimp only; omega) (by have h_ := hSt.1; have hd_ := hL.dims; dsimp only; omega) ?_
    refine .region (.p ((j + 1)) oO oO G G G G G (.m G G G ?_))
    exact SP.nil (SQ.roundb (X := Int × Bool × IL × (List IL) × Value) (x := (j, own, x, Y, u_Y)) ⟨(j + 1), true, (IL.mk (subL x.il ((gt p.ships ((gt l j).item)).am)) A65 c66), (Y ++ [(IL.mk (subL x.il ((gt p.ships ((gt l j).item)).am)) A70 c71)]), v74⟩ (by (try dsimp only); exact ⟨oO, oO, (by have hq := r_2; rw [drop_gt (x := j) oO oO, loadsR_cons, loadSt_3 (by assumption) (by assumption)] at hq; rw [List.map_append, List.append_assoc]; exact hq), hSt, (by simp only [List.length_append, List.length_singleton]; omega)⟩) dO (Sub.get (.c4 G G G G (.c4 G G G G (.c G (.c G (.c G .n)))))) (kp (.d (.c (.t4 .h) .n))))
   refine .skipgo idQ ?_
   have hSt := lOk_St (x := gt l j) hL r_3 (k := 100000000 + 2000000 * (j + 1)) oO
   exact absurd (is_kind (by assumption)) oO
  refine .skipgo idQ ?_
  have hSt := lOk_St (x := gt l j) hL r_3 (k := 100000000 + 2000000 * (j + 1)) oO
  rw [loadSt_no (by assumption)] at hSt
  refine .region (.m G G G (.m G G G (.cons (st_lend0 G G G G hbd159 G .n (.c (.t2 (.t .h)) .n) (fun w_ hw => clonez x.ilA x.il.length x.ilc x.il _ _ ((INF.lend hw 0 G).1) G (by have h_ := hSt.1; have hd_ := hL.dims; omega)) (fun v_q76 C_q76 q76 => ?_)))))
  obtain ⟨v75, rfl, rfl⟩ := q76
  show SP _ _ _ _ _ _ ⟨_, _ :: _ :: _, _, _⟩
  refine .know (row_len 0 G) (fun hv79 => ?_)
  obtain ⟨A77, c78, rfl, hv79_1, hv79_2⟩ := hv79
  unfold maxLen at hv79_2
  refine .cons (st_lit eIL (e := 22) (l := [(IL.mk x.il A77 c78)]) G G G G kR G G kW (fun b80 => ?_))
  refine .cons (st_app (E := eIL) (m := [(IL.mk x.il A77 c78)]) G G G G underlying173 ai22 G G G (.t4 (.t2 .h)) rO (row_src 0 G) (by first | ((try simp only [List.length_nil, List.length_cons, List.length_append, List.length_set, List.length_singleton, List.length_take, List.length_drop, List.length_reverse, addL_len, subL_len]) <;> omega) | omega) G (fun v81 => ?_))
  refine .a G G G (.go idQ ?_)
  refine SC.inowk (IL.mk x.il A77 c78) (.c (.t2 (.t .h)) (.c (.t2 .h) .n)) (by have h_ := hSt.1; have hd_ := hL.dims; dsimp only; omega) ?_
  refine .region (.p ((j + 1)) oO oO G G G G G (.m G G G ?_))
  exact SP.nil (SQ.roundb (X := Int × Bool × IL × (List IL) × Value) (x := (j, own, x, Y, u_Y)) ⟨(j + 1), own, x, (Y ++ [(IL.mk x.il A77 c78)]), v81⟩ (by (try dsimp only); exact ⟨oO, oO, (by have hq := r_2; rw [drop_gt (x := j) oO oO, loadsR_cons, loadSt_no (by assumption)] at hq; rw [List.map_append, List.append_assoc]; exact hq), hSt, (by simp only [List.length_append, List.length_singleton]; omega)⟩) dO (Sub.get (.c4 G G G G (.c4 G G G G (.c G (.c G (.c G .n)))))) (kp (.d (.c (.t4 .h) .n))))
 refine .exit idQ ?_
 refine .seq ?_
 refine SC.inowend (.c .h .n) ?_
 refine .region (.m G G G (.a G G G (.go idQ ?_)))
 exact .ret idQ (ret1 results156 G (.c (.t .h) (.c .h .n)) ⟨u_Y, Y, (by have hq := r_2; rw [drop_end oO] at hq; rw [← hq]; exact (List.append_nil _).symm), G, G⟩)
end Go.Proofs.YtimhdimhdimbjaaGreat.Sx
