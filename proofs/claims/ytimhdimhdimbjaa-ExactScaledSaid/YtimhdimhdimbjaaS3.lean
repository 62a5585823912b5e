import Derived.Test.YtimhdimhdimbjaaProg
import Derived.Test.YtimhdimhdimbjaaS2
set_option linter.unusedVariables false
set_option linter.unusedSimpArgs false
set_option linter.unusedSectionVars false
namespace Go.SX
open Go Go.RowKit
theorem scL_era {p q : PB} (h : era q = era p) {l : List Vis} : scL q l = scL p l ∧ fitV q 0 l = fitV p 0 l := by
  have h1 : fitV q 0 l = fitV p 0 l := by rw [← fit_e (p := q), h, fit_e]
  have h2 : ∀ t : TK, prioF q t = prioF p t := fun t => by rw [← prio_e (p := q), h, prio_e]
  have h3 : valV q = valV p := funext fun x => by unfold valV; rw [h2]
  exact ⟨by unfold scL; rw [h1, h3], h1⟩
theorem best_era {p q : PB} (h : era q = era p) {s : List RC} (hb : BestR q s) : BestR p s := by
  have hsc : scR q s = scR p s := by
    rcases hb.one with rfl | ⟨l, rfl, _⟩
    · rfl
    · rw [scR_one, scR_one, (scL_era h).1]
  refine ⟨?_, fun l h1 h2 => ?_⟩
  · rcases hb.one with rfl | ⟨l, rfl, h1, h2, h3⟩
    · exact .inl rfl
    · exact .inr ⟨l, rfl, h1, by rw [← (scL_era h).2]; exact h2, by rw [← (scL_era h).1]; exact h3⟩
  · rw [← (scL_era h).1, ← hsc]; exact hb.all l h1 (by rw [(scL_era h).2]; exact h2)
structure Agr (p q : PB) (m : List Vis) : Prop where
  dims : p.dims = q.dims
  tn : p.tn = q.tn
  time : p.time = q.time
  dn : p.dn = q.dn
  dist : p.dist = q.dist
  st : ∀ x ∈ m, isStop p x = isStop q x ∧ stopD p x = stopD q x ∧ (isStop p x = true → (x.kind = 1 → dropV p x = dropV q x ∧ pickV p x = pickV q x) ∧ amV p x = amV q x ∧ skilF p (taskV x) = skilF q (taskV x) ∧ prioF p (taskV x) = prioF q (taskV x))
structure VSm (v w : VH) : Prop where
  cap : v.vcap = w.vcap
  sk : v.vsk = w.vsk
  mt : v.mt = w.mt
  brs : v.brs = w.brs
  st : v.st = w.st
  en : v.en = w.en
  lo : v.lo = w.lo
  hi : v.hi = w.hi
section
variable {p q : PB} {v w : VH}
theorem Agr.tl {x : Vis} {m : List Vis} (h : Agr p q (x :: m)) : Agr p q m := ⟨h.dims, h.tn, h.time, h.dn, h.dist, fun y hy => h.st y (List.mem_cons_of_mem _ hy)⟩
theorem agr_pairs : ∀ {m : List Vis} {s : List (Vis × Bool)} {op : Int}, Agr p q m → pairsR p m s op = pairsR q m s op
  | [], _, _, _ => rfl
  | x :: m, s, op, h => by
    rw [pairsR_cons, pairsR_cons, (h.st x (List.mem_cons_self ..)).1, agr_pairs h.tl, agr_pairs h.tl]
theorem agr_load0 : ∀ {m : List Vis} {a : List Int}, Agr p q m → load0R p m a = load0R q m a
  | [], _, _ => rfl
  | x :: m, a, h => by
    have hx := h.st x (List.mem_cons_self ..)
    rw [load0R_cons, load0R_cons, hx.1]
    split
    · rename_i hc
      rw [((hx.2.2 (by rw [hx.1]; exact hc.1)).1 hc.2).1, agr_load0 h.tl]
    · exact agr_load0 h.tl
theorem agr_loadSt {x : Vis} {m : List Vis} {a : List Int} (h : Agr p q (x :: m)) : loadSt p x a = loadSt q x a := by
  have hx := h.st x (List.mem_cons_self ..)
  unfold loadSt
  rw [hx.1]
  split
  · rename_i hc
    have h2 := hx.2.2 (by rw [hx.1]; exact hc)
    split
    · rename_i h1; rw [(h2.1 h1).1, (h2.1 h1).2]
    · rw [h2.2.1]
  · rfl
theorem agr_loads : ∀ {m : List Vis} {a : List Int}, Agr p q m → loadsR p m a = loadsR q m a
  | [], _, _ => rfl
  | x :: m, a, h => by rw [loadsR_cons, loadsR_cons, agr_loadSt h, agr_loads h.tl]
theorem agr_loadsF {m : List Vis} (h : Agr p q m) : loadsF p m = loadsF q m := by
  unfold loadsF load0; rw [h.dims, agr_load0 h, agr_loads h]
theorem agr_next {x : Vis} {m : List Vis} {a : Int} (h : Agr p q (x :: m)) : nextPl p a x = nextPl q a x := by
  have hx := h.st x (List.mem_cons_self ..)
  unfold nextPl; rw [hx.1, hx.2.1]
theorem agr_travel (hv : v.en = w.en) : ∀ {m : List Vis} {a : Int}, Agr p q m → travelQ p v m a = travelQ q w m a
  | [], a, h => by rw [travelQ_nil, travelQ_nil, h.tn, h.time, h.dn, h.dist, hv]
  | x :: m, a, h => by rw [travelQ_cons, travelQ_cons, agr_next h, h.tn, h.time, h.dn, h.dist, agr_travel hv h.tl]
theorem agr_stopB {x : Vis} {m : List Vis} (h : Agr p q (x :: m)) (hv : v.brs = w.brs) : stopB p v x = stopB q w x := by
  unfold stopB; rw [hv, (h.st x (List.mem_cons_self ..)).2.1]
theorem agr_times (hv : v.brs = w.brs) : ∀ {m : List Vis} {T : TM}, Agr p q m → timesR p v m T = timesR q w m T
  | [], _, _ => rfl
  | x :: m, T, h => by
    have e1 : ∀ a b, tcell p a b = tcell q a b := fun a b => by show cellF _ _ _ _ = cellF _ _ _ _; rw [h.tn, h.time]
    have e2 : ∀ a b, dcell p a b = dcell q a b := fun a b => by show cellF _ _ _ _ = cellF _ _ _ _; rw [h.dn, h.dist]
    have e3 : ∀ b, tmSt p v T x b = tmSt q w T x b := fun b => by unfold tmSt; rw [agr_stopB h hv, agr_next h, e1, e2]
    rw [timesR_cons, timesR_cons, agr_stopB h hv, agr_next h, e1, e3, agr_times hv h.tl]
theorem agr_skills (hv : v.vsk = w.vsk) {m : List Vis} (h : Agr p q m) (hs : ∀ x ∈ m, x.kind = 4 ∨ isStop p x = true) : skillsR p v m = skillsR q w m := by
  rw [Bool.eq_iff_iff, skills_iff, skills_iff]
  constructor
  · intro k x hx ht
    rcases hs x hx with h4 | h4
    · rw [(task_no (x := x) (by omega) (by omega) (by omega)).2] at ht; cases ht
    · rw [← hv, ← ((h.st x hx).2.2 h4).2.2.1]; exact k x hx ht
  · intro k x hx ht
    rcases hs x hx with h4 | h4
    · rw [(task_no (x := x) (by omega) (by omega) (by omega)).2] at ht; cases ht
    · rw [hv, ((h.st x hx).2.2 h4).2.2.1]; exact k x hx ht
theorem agr_checks {m : List Vis} (hv : VSm v w) (h : Agr p q m) (hs : ∀ x ∈ m, x.kind = 4 ∨ isStop p x = true) : checksF p v m = checksF q w m := by
  unfold checksF
  have e : travelR p (placesF p v m) = travelR q (placesF q w m) := by
    unfold placesF; rw [← travelQ_eq, ← travelQ_eq, agr_travel hv.en h, hv.st]
  rw [agr_pairs h, hv.brs, agr_skills hv.sk h hs, hv.mt, hv.cap, agr_loadsF h, e]
theorem agr_sum {m : List Vis} : ∀ {a : Int}, Agr p q m → tsum p m a = tsum q m a ∧ dsum p m a = dsum q m a ∧ plR p m a = plR q m a := by
  induction m with
  | nil => intro a h; exact ⟨rfl, rfl, rfl⟩
  | cons x m ih =>
    intro a h
    have e1 : ∀ a b, tcell p a b = tcell q a b := fun a b => by show cellF _ _ _ _ = cellF _ _ _ _; rw [h.tn, h.time]
    have e2 : ∀ a b, dcell p a b = dcell q a b := fun a b => by show cellF _ _ _ _ = cellF _ _ _ _; rw [h.dn, h.dist]
    simp only [tsum, dsum, plR]
    rw [agr_next h, e1, e2]
    have := ih (a := nextPl q a x) h.tl
    exact ⟨by rw [this.1], by rw [this.2.1], this.2.2⟩
end
theorem agr_fit {p q : PB} (L : LawP p) (L' : LawP q) (hq : 0 < q.vehs.length) (hv : VSm (gt p.vehs 0) (gt q.vehs 0)) {l : List Vis} (h : Agr p q l) (hf : (fitV p 0 l).e = 0) :
    (fitV q 0 l).e = 0 ∧ ∃ T D, (fitV p 0 l).cost = (gt p.vehs 0).fix + T * (gt p.vehs 0).pt + D * (gt p.vehs 0).pd ∧ (fitV q 0 l).cost = (gt q.vehs 0).fix + T * (gt q.vehs 0).pt + D * (gt q.vehs 0).pd := by
  obtain ⟨m, hm, h1, h2⟩ := plan_of_fit L hf
  obtain ⟨hk, hc, hpt⟩ := plan_e0 h1
  have hst : ∀ x ∈ m, x.kind = 4 ∨ isStop p x = true := fun x hx => by
    have hp := (pairs_is.1 (checks_parts hc).1).1
    obtain ⟨a, b, e⟩ := List.append_of_mem hx
    rcases hp a x b e with k | k
    · exact .inl k
    · exact .inr k.1
  have hA : Agr p q m := ⟨h.dims, h.tn, h.time, h.dn, h.dist, fun x hx => by
    by_cases h4 : x.kind = 4
    · have e1 := stop4 (p := p) h4; have e2 := stop4 (p := q) h4
      refine ⟨by rw [e1, e2], ?_, fun k => by rw [e1] at k; cases k⟩
      unfold stopD; rw [e1, e2]; rfl
    · exact h.st x (by rw [← hm]; exact nbF_mem.2 ⟨hx, h4⟩)⟩
  have hq0 : ¬ ((0 : Int) < 0 ∨ (0 : Int) ≥ q.vehs.length) := by omega
  have hcq : checksF q (gt q.vehs 0) m = 0 := by rw [← agr_checks hv hA hst]; exact hc
  have ht : (timesF p (gt p.vehs 0) m).e = 0 := by rw [← hpt]; exact h1
  obtain ⟨Z, hz, hn, he⟩ := planS_some ht
  have hzq : timesR q (gt q.vehs 0) m ⟨(gt q.vehs 0).lo, 0, 0, 0, 0, (gt q.vehs 0).st⟩ = some Z := by
    rw [← hv.lo, ← hv.st, ← agr_times hv.brs hA]; exact hz
  have hnq : ¬ Z.now + tcell q Z.pl (gt q.vehs 0).en > (gt q.vehs 0).hi := by
    rw [← hv.en, ← hv.hi]
    have : tcell q Z.pl (gt p.vehs 0).en = tcell p Z.pl (gt p.vehs 0).en := by show cellF _ _ _ _ = cellF _ _ _ _; rw [h.tn, h.time]
    rw [this]; exact hn
  have hpq : planP q 0 m = tmEnd q (gt q.vehs 0) Z := by rw [plan_ok hq0 hcq, timesF_some hzq]
  have hq1 : (planP q 0 m).e = 0 := by rw [hpq]; unfold tmEnd; rw [if_neg hnq]
  have hr := fit_of_plan L' hq1
  rw [hm] at hr
  have c1 := plan_costNB L (L.veh 0 (by omega) (by omega)).st h1
  have c2 := plan_costNB L' (L'.veh 0 (by omega) (by omega)).st hq1
  rw [hm] at c1 c2
  have hs := agr_sum (a := (gt p.vehs 0).st) h
  refine ⟨hr.1, tsum p l (gt p.vehs 0).st + tcell p (plR p l (gt p.vehs 0).st) (gt p.vehs 0).en, dsum p l (gt p.vehs 0).st + dcell p (plR p l (gt p.vehs 0).st) (gt p.vehs 0).en, ?_, ?_⟩
  · rw [← h2, c1]; rfl
  · rw [hr.2, c2]
    unfold costNB
    rw [← hv.st, ← hv.en, ← hs.1, ← hs.2.1, ← hs.2.2]
    have e1 : tcell q (plR p l (gt p.vehs 0).st) (gt p.vehs 0).en = tcell p (plR p l (gt p.vehs 0).st) (gt p.vehs 0).en := by show cellF _ _ _ _ = cellF _ _ _ _; rw [h.tn, h.time]
    have e2 : dcell q (plR p l (gt p.vehs 0).st) (gt p.vehs 0).en = dcell p (plR p l (gt p.vehs 0).st) (gt p.vehs 0).en := by show cellF _ _ _ _ = cellF _ _ _ _; rw [h.dn, h.dist]
    rw [e1, e2]
theorem fit_stops {p : PB} (L : LawP p) {k : Int} {l : List Vis} (h : (fitV p k l).e = 0) : ∀ x ∈ l, isStop p x = true := fun x hx => by
  have hp := (pairs_is.1 (fit_parts L h).1).1
  obtain ⟨a, b, e⟩ := List.append_of_mem hx
  have := fit_kind L h x hx
  rcases hp a x b e with k | k
  · omega
  · exact k.1
theorem agr_val {p q : PB} {l : List Vis} (h : Agr p q l) (hs : ∀ x ∈ l, isStop p x = true) : isum (valV p) l = isum (valV q) l := by
  induction l with
  | nil => rfl
  | cons x l ih =>
    simp only [isum]
    rw [ih h.tl (fun y hy => hs y (List.mem_cons_of_mem _ hy))]
    have h2 := ((h.st x (List.mem_cons_self ..)).2.2 (hs x (List.mem_cons_self ..))).2.2.2
    have : valV p x = valV q x := by unfold valV; rw [h2]
    rw [this]
theorem agr_veh {p : PB} {V : List VH} (m : List Vis) : Agr p { p with vehs := V } m := ⟨rfl, rfl, rfl, rfl, rfl, fun x _ => ⟨rfl, rfl, fun _ => ⟨fun _ => ⟨rfl, rfl⟩, rfl, rfl, rfl⟩⟩⟩
theorem Agr.symm {p q : PB} {m : List Vis} (h : Agr p q m) : Agr q p m := ⟨h.dims.symm, h.tn.symm, h.time.symm, h.dn.symm, h.dist.symm, fun x hx => by
  have k := h.st x hx
  exact ⟨k.1.symm, k.2.1.symm, fun e => by have k2 := k.2.2 (by rw [k.1]; exact e); exact ⟨fun h1 => ⟨(k2.1 h1).1.symm, (k2.1 h1).2.symm⟩, k2.2.1.symm, k2.2.2.1.symm, k2.2.2.2.symm⟩⟩⟩
theorem VSm.symm {v w : VH} (h : VSm v w) : VSm w v := ⟨h.cap.symm, h.sk.symm, h.mt.symm, h.brs.symm, h.st.symm, h.en.symm, h.lo.symm, h.hi.symm⟩
theorem scaled_one {p : PB} (L : LawP p) {V : List VH} (L' : LawP { p with vehs := V }) (hl2 : p.vehs.length = 1) (hl : V.length = 1) (hv : VSm (gt p.vehs 0) (gt V 0)) (hx : (gt V 0).fix = 3 * (gt p.vehs 0).fix) (ht : (gt V 0).pt = 3 * (gt p.vehs 0).pt) (hd : (gt V 0).pd = 3 * (gt p.vehs 0).pd) {l : List Vis} :
    ((fitV p 0 l).e = 0 ↔ (fitV { p with vehs := V } 0 l).e = 0) ∧ ((fitV p 0 l).e = 0 → (scL { p with vehs := V } l).1 = (scL p l).1 ∧ (scL { p with vehs := V } l).2 = 3 * (scL p l).2) := by
  refine ⟨⟨fun h => (agr_fit L L' (by show 0 < V.length; omega) hv (agr_veh l) h).1, fun h => (agr_fit L' L (by omega) hv.symm (agr_veh (p := p) (V := V) l).symm h).1⟩, fun h => ?_⟩
  obtain ⟨f1, T, D, f2, f3⟩ := agr_fit L L' (by show 0 < V.length; omega) hv (agr_veh l) h
  refine ⟨(agr_val (agr_veh l) (fit_stops L h)).symm, ?_⟩
  show (fitV _ 0 l).cost = 3 * (fitV p 0 l).cost
  rw [f2, f3]
  show (gt V 0).fix + T * (gt V 0).pt + D * (gt V 0).pd = _
  have e1 : T * (3 * (gt p.vehs 0).pt) = 3 * (T * (gt p.vehs 0).pt) := by rw [← Int.mul_assoc, Int.mul_comm T 3, Int.mul_assoc]
  have e2 : D * (3 * (gt p.vehs 0).pd) = 3 * (D * (gt p.vehs 0).pd) := by rw [← Int.mul_assoc, Int.mul_comm D 3, Int.mul_assoc]
  rw [hx, ht, hd, e1, e2]; omega
theorem scaled_eq {p : PB} (L : LawP p) {V : List VH} (L' : LawP { p with vehs := V }) (hl2 : p.vehs.length = 1) (hl : V.length = 1) (hv : VSm (gt p.vehs 0) (gt V 0)) (hx : (gt V 0).fix = 3 * (gt p.vehs 0).fix) (ht : (gt V 0).pt = 3 * (gt p.vehs 0).pt) (hd : (gt V 0).pd = 3 * (gt p.vehs 0).pd) {s t : List RC} (h : BestR p s) (h2 : BestR { p with vehs := V } t) :
    (scR p s).1 = (scR { p with vehs := V } t).1 ∧ 3 * (scR p s).2 = (scR { p with vehs := V } t).2 := by
  have one := fun l => scaled_one L L' hl2 hl hv hx ht hd (l := l)
  rcases h.one with rfl | ⟨l, rfl, a1, a2, a3⟩
  · rcases h2.one with rfl | ⟨m, rfl, b1, b2, b3⟩
    · exact ⟨rfl, rfl⟩
    · have h3 := h.all m b1 ((one m).1.2 b2)
      have h4 := (one m).2 ((one m).1.2 b2)
      rw [scR_nil] at h3
      unfold BetS at *; omega
  · have ha := (one l).2 a2
    rcases h2.one with rfl | ⟨m, rfl, b1, b2, b3⟩
    · have h3 := h2.all l a1 ((one l).1.1 a2)
      rw [scR_nil] at h3
      unfold BetS at *; omega
    · have hb := (one m).2 ((one m).1.2 b2)
      have h3 := h.all m b1 ((one m).1.2 b2)
      have h4 := h2.all l a1 ((one l).1.1 a2)
      rw [scR_one] at h3 h4 ⊢
      rw [scR_one]
      unfold BetS at *; omega
theorem line_fit : (fitV lineP 0 [⟨1, 1⟩, ⟨1, 0⟩]).e = 0 := by rfl
theorem line_val : isum (valV lineP) [⟨1, 1⟩, ⟨1, 0⟩] = 6 := by rfl
theorem line_best {q : PB} {R : List RT} (he : era q = lineP) (h : BestR q (R.map rc)) : R.length = 1 ∧ (gt R 0).vis.length = 2 := by
  have hb : BestR lineP (R.map rc) := best_era (p := lineP) (q := q) he h
  have ha := hb.all [⟨1, 1⟩, ⟨1, 0⟩] (by simp) line_fit
  rcases hb.one with e | ⟨l, e, h1, h2, _⟩
  · rw [e, scR_nil] at ha
    have : (scL lineP [⟨1, 1⟩, ⟨1, 0⟩]).1 = 6 := line_val
    unfold BetS at ha; omega
  · rw [e, scR_one] at ha
    have h3 : (scL lineP [⟨1, 1⟩, ⟨1, 0⟩]).1 = 6 := line_val
    have hst := fit_stops line_law h2
    have hkd := fit_kind line_law h2
    have hval : ∀ x ∈ l, x = ⟨1, 0⟩ ∨ x = ⟨1, 1⟩ := fun x hx => by
      have hs := hst x hx
      rcases hkd x hx with hk | hk | hk
      · have hi := is_i1 hs hk
        have hi : 0 ≤ x.item ∧ x.item < 2 := hi
        rcases (by omega : x.item = 0 ∨ x.item = 1) with e | e
        · exact .inl (vis_ext hk e)
        · exact .inr (vis_ext hk e)
      · have hi := is_i2 hs (.inl hk)
        have hi : 0 ≤ x.item ∧ x.item < 0 := hi
        omega
      · have hi := is_i2 hs (.inr hk)
        have hi : 0 ≤ x.item ∧ x.item < 0 := hi
        omega
    have hnd : l.Nodup := (fit_tasks line_law h2).nodup_iff.2 (flat_nodup2 ((taskL_nodup (p := lineP)).1.sublist List.filter_sublist))
    have hlen : l.length = 2 := by
      match l, h1, hval, hnd, ha with
      | [x], _, hval, _, ha =>
        exfalso
        have h4 : (scL lineP [x]).1 ≤ 5 := by
          rcases hval x (by simp) with rfl | rfl <;> exact (by decide)
        unfold BetS at ha; omega
      | [x, y], _, _, _, _ => rfl
      | x :: y :: z :: r, _, hval, hnd, _ =>
        exfalso
        have a := hval x (by simp); have b := hval y (by simp); have c := hval z (by simp)
        simp only [List.nodup_cons, List.mem_cons, not_or] at hnd
        rcases a with rfl | rfl <;> rcases b with rfl | rfl <;> rcases c with rfl | rfl <;> simp_all
    clear ha hb h
    cases R with
    | nil => cases e
    | cons r R' =>
      injection e with e1 e2
      have e3 : R' = [] := List.map_eq_nil_iff.1 e2
      subst e3
      refine ⟨rfl, ?_⟩
      have : (rc r).2 = l := by rw [e1]
      show r.vis.length = 2
      rw [show r.vis = l from this]; exact hlen
def NPF (S : Nat → Prop) (wf : World) (p : PB) : Prop := Fr eZ S wf p.ptA p.time ∧ Fr eZ S wf p.pdA p.dist ∧ (∀ i : Int, VHF S wf (gt p.vehs i)) ∧ (∀ i : Int, JBF S wf (gt p.jobs i)) ∧ ∀ i : Int, SHF S wf (gt p.ships i)
theorem NPF.ext {S S' : Nat → Prop} {wf wf' : World} {p : PB} (h : NPF S wf p) (hx : Ext S wf S' wf') : NPF S' wf' p := ⟨h.1.ext hx, h.2.1.ext hx, fun i => (h.2.2.1 i).ext hx, fun i => (h.2.2.2.1 i).ext hx, fun i => (h.2.2.2.2 i).ext hx⟩
theorem NPF.pbf {S : Nat → Prop} {wf : World} {p : PB} (h : NPF S wf p) (h1 : Fr eVH S wf p.pvA p.vehs) (h2 : Fr eJB S wf p.pjA p.jobs) (h3 : Fr eSH S wf p.psA p.ships) : PBF S wf p := ⟨h.1, h.2.1, ⟨h1, h.2.2.1⟩, ⟨h2, h.2.2.2.1⟩, ⟨h3, h.2.2.2.2⟩⟩
theorem NPF.veh {S : Nat → Prop} {wf : World} {p : PB} (h : NPF S wf p) {V : List VH} (hv : ∀ i : Int, VHF S wf (gt V i)) : NPF S wf { p with vehs := V } := ⟨h.1, h.2.1, hv, h.2.2.2.1, h.2.2.2.2⟩
section
variable {V : Env} {P : Program} {N : Nat} {L : List (Nat × Value)} {H C R : List Res} {S S1 : Nat → Prop} {wf wf1 : World}
theorem retzC {fn : Func} {r : ResultVar} {v : Value} {post : Value → List Res → (Nat → Prop) → World → Prop} (hr : fn.results = #[r]) (h1 : RV P L (WW V S1 wf1 H) r v) (hp : PickL H C R) (hx : Ext S wf S1 wf1) (h : post v C S1 wf1) :
    SQ V (bodyPost P fn (TRp V S wf post) .ret) N ⟨L, H, S1, wf1⟩ := fun a w hs hw => by
  refine ⟨hs.2.1, v, ?_, v, C, S1, wf1, rfl, h, hx, hw.keep hp⟩
  have e1 := h1 a w N hs hw
  rw [results_resF, hr]
  simp [e1]
end
theorem era_len {p q : PB} (h : era q = era p) : q.vehs.length = p.vehs.length ∧ q.jobs.length = p.jobs.length ∧ q.ships.length = p.ships.length := by
  rw [← era_lv (p := q), ← era_lj (p := q), ← era_ls (p := q), h, era_lv, era_lj, era_ls]; exact ⟨rfl, rfl, rfl⟩
theorem line_small {q : PB} (h : era q = lineP) : q.vehs.length ≤ 1 ∧ q.jobs.length + 2 * q.ships.length ≤ 8 := by
  rw [← era_lv (p := q), ← era_lj (p := q), ← era_ls (p := q), h]; decide
theorem scR_era {p q : PB} (h : era q = era p) (s : List RC) : scR q s = scR p s := by
  have h1 : ∀ k l, fitV q k l = fitV p k l := fun k l => by rw [← fit_e (p := q), h, fit_e]
  have h2 : ∀ t : TK, prioF q t = prioF p t := fun t => by rw [← prio_e (p := q), h, prio_e]
  have h3 : valV q = valV p := funext fun x => by unfold valV; rw [h2]
  unfold scR valR cstR
  rw [h3]
  congr 2
  exact funext fun r => by rw [h1]
theorem era_veh {p q : PB} (h : era q = era p) (i : Int) : eraV (gt q.vehs i) = eraV (gt p.vehs i) := by rw [← era_gv (p := q), h, era_gv]
theorem era_sku {p q : PB} (h : era q = era p) (hu : SkU p) : SkU q where
  v i := by
    have e : (eraV (gt q.vehs i)).vsk = (eraV (gt p.vehs i)).vsk := by rw [era_veh h]
    have e : (gt q.vehs i).vsk = (gt p.vehs i).vsk := e
    rw [e]; exact hu.v i
  j i := by
    have e : (eraJ (gt q.jobs i)).jsk = (eraJ (gt p.jobs i)).jsk := by rw [← era_gj (p := q), h, era_gj]
    have e : (gt q.jobs i).jsk = (gt p.jobs i).jsk := e
    rw [e]; exact hu.j i
  s i := by
    have e : (eraS (gt q.ships i)).ssk = (eraS (gt p.ships i)).ssk := by rw [← era_gs (p := q), h, era_gs]
    have e : (gt q.ships i).ssk = (gt p.ships i).ssk := e
    rw [e]; exact hu.s i
theorem one_at {α : Type} [Inhabited α] {V l : List α} {x : α} (h : V = l.set ((0 : Int)).toNat x) (hl : l.length = 1) : V = [x] := by
  match l, hl with
  | [y], _ => exact h
theorem veh_all {S : Nat → Prop} {wf : World} {x : VH} {V : List VH} (h : V = [x]) (hx : VHF S wf x) : ∀ i : Int, VHF S wf (gt V i) := by
  subst h; exact gt_all (by simpa using hx) VHF.dflt
theorem sku_veh {q : PB} {x : VH} {V : List VH} (hu : SkU q) (h : V = [x]) (hx : 0 ≤ x.vsk) : SkU { q with vehs := V } := ⟨by subst h; exact gt_all (Φ := fun v : VH => 0 ≤ v.vsk) (by simpa using hx) (by decide), hu.j, hu.s⟩
end Go.SX
set_option maxRecDepth 20000
set_option maxHeartbeats 1000000
namespace Go.Proofs.Ytimhdimhdimbjaa.Sx.FA
open Go Go.SX Go.Proofs
theorem hbd78 : hasBody Try.prog 78 = true := by kernel_rfl
theorem hbd59 : hasBody Try.prog 59 = true := by kernel_rfl
theorem ai3 : (Try.prog.info? 3).map (fun i => (i.zero, i.size, i.bytes)) = some (some (.int .i64 0), 1, 8) := by kernel_rfl
theorem ty3 : ty Try.prog 3 = some (false, 1) := by kernel_rfl
theorem mo : Try.prog.follows .mixedOrders = true := by kernel_rfl
theorem hbd58 : hasBody Try.prog 58 = true := by kernel_rfl
theorem hbd94 : hasBody Try.prog 94 = true := by kernel_rfl
theorem ty34 : ty Try.prog 34 = some (true, 2) := by kernel_rfl
theorem zf34 : (Try.prog.info? 34).bind (fun i => i.zero.map Value.cells) = some (List.toArray [.int .i64 0, .int .i64 0]) := by kernel_rfl
theorem fo34_1 : fo Try.prog 34 1 = some 1 := by kernel_rfl
theorem fo34_0 : fo Try.prog 34 0 = some 0 := by kernel_rfl
end Go.Proofs.Ytimhdimhdimbjaa.Sx.FA
namespace Go.Proofs.Ytimhdimhdimbjaa.Sx
open Go Go.SX Go.Proofs FA
theorem fits_ (a : Int) (S : Nat → Prop) (wf : World) :
  TR0 Try.prog 78 [.int .i64 a] [] S wf (fun v_ C_ => v_ = .bool (decide (a ≥ (-4611686018427387903)) && decide (a ≤ 4611686018427387903)) ∧ C_ = []) := by
 refine TR.mk Try.func78 U Try.ntmps78 U U (fun w_ => ?_)
 refine .seq (.region (.a U U U (.go idQ (.seq (.region (.m U U U ?_))))))
 refine .v (ev_cmp U U U U) U (.m U U U (.w (fun _ => ev_mv U U) U (.w (fun hb => ev_cmp U (lkg U hb) U U) U ?_)))
 refine .v (ev_and U U U U) U (.a U U U (.go idQ (.ret idQ (ret1 Try.results78 U .n ⟨U, U⟩))))
theorem nadd_ (a : Int) (b : Int) (S : Nat → Prop) (wf : World) (h_a : -1000000000000 ≤ a ∧ a ≤ 1000000000000) (h_b : -1000000000000 ≤ b ∧ b ≤ 1000000000000) :
  TR0 Try.prog 59 [.int .i64 a, .int .i64 b] [] S wf (fun v_ C_ => v_ = .tuple #[.int .i64 (a + b), .int .i64 0] ∧ C_ = []) := by
 refine TR.mk Try.func59 U Try.ntmps59 U U (fun w_ => ?_)
 refine .seq (.region (.a U U U (.a U U U (.go idQ (.seq (.seq (.region ?_)))))))
 refine .m U U U (.cons (st_callk U U U U hbd78 U .n (fits_ a _ _) (.v (ev_not U U) U (.m U U U ?_))))
 refine .w (fun _ => ev_mv U U) U (.cons (st_gcallk U U U U U U hbd78 (fun hb => (lkA1 (lkg U hb) lkA0)) .n (fun hb => have hp := bF (bN (bA bD bD)) hb; fits_ b _ _) (.w (fun hb => ev_not U (lkg U hb)) U (.v (ev_or U U U U) U ?_))))
 refine .m U U U (.w (fun _ => ev_mv U U) U (.w (fun _ => ev_mv U U) U (.w (fun hb => have hp := bF (bO (bN (bA bD bD)) (bN (bA bD bD))) hb; ev_add U (lkg U hb) (lkg U hb) (r := (a + b)) U (by have _h := hp; omega) (by have _h := hp; omega)) U ?_)))
 refine .cons (st_gcallk U U U U U U hbd78 (fun hb => (lkA1 (lkg U hb) lkA0)) .n (fun hb => have hp := bF (bO (bN (bA bD bD)) (bN (bA bD bD))) hb; fits_ (a + b) _ _) ?_)
 refine .w (fun hb => ev_not U (lkg U hb)) U (.v (ev_or U U U U) U (.go idQ (.condI U (bO (bO (bN (bA bD bD)) (bN (bA bD bD))) (bN (bA bD bD))) (fun h1 => ?_) (fun h1 => ?_))))
 ·
  exfalso; omega
 refine .skipgo idQ (.seq (.region (.m U U U (.m U U U (.v (ev_add U U U (r := (a + b)) U oO oO) U ?_)))))
 refine .a U U U (.a U U U (.go idQ (.ret idQ (ret2 Try.results59 U U .n ⟨U, U⟩))))
theorem lsub1_ (a : Int) (b : Int) (S : Nat → Prop) (wf : World) (h_a : -1000000000000 ≤ a ∧ a ≤ 1000000000000) (h_b : -1000000000000 ≤ b ∧ b ≤ 1000000000000) :
  TR0 Try.prog 94 [.int .i64 a, .int .i64 b] [] S wf (fun v_ C_ => v_ = .tuple #[.int .i64 (a + (-b)), .int .i64 0] ∧ C_ = []) := by
 refine TR.mk Try.func94 U Try.ntmps94 U U (fun w_ => ?_)
 refine .seq (.region (.a U U U (.a U U U (.go idQ (.seq (.seq (.region ?_)))))))
 refine .m U U U (.cons (st_callk U U U U hbd78 U .n (fits_ b _ _) (.v (ev_not U U) U (.go idQ ?_))))
 refine .condI U (bN (bA bD bD)) (fun h1 => ?_) (fun h1 => ?_)
 ·
  exfalso; omega
 refine .skipgo idQ (.seq (.region (.m U U U (.m U U U (.v (ev_neg U U oO oO) U ?_)))))
 refine .cons (st_callk U U U U hbd59 U .n (nadd_ a (-b) _ _ oO oO) ?_)
 refine .v (ev_ext U U U) U (.v (ev_ext U U U) U (.a U U U (.a U U U ?_)))
 refine .go idQ (.ret idQ (ret2 Try.results94 U U .n ⟨U, U⟩))
theorem lzero_ (n : Int) (S : Nat → Prop) (wf : World) (hn : 0 ≤ n ∧ n ≤ 3) :
  TR0 Try.prog 39 [.int .i64 n] [] S wf (fun v_ C_ => ∃ (u : Value), v_ = u ∧ C_ = [rw_ eZ 3 (u) (List.replicate (n).toNat (0 : Int))]) := by
 refine TR.mk Try.func39 U Try.ntmps39 U U (fun w_ => ?_)
 refine .seq (.region (.a U U U (.go idQ (.seq (.seq (.region (.m U U U ?_)))))))
 refine .v (ev_cmp U U U U) U (.m U U U (.w (fun _ => ev_mv U U) U (.w (fun hb => ev_cmp U (lkg U hb) U U) U ?_)))
 refine .v (ev_or U U U U) U (.go idQ (.condI U (bO bD bD) (fun h1 => ?_) (fun h1 => ?_)))
 ·
  exfalso; omega
 refine .skipgo idQ (.seq (.region (.m U U U (.cons (st_mkints (q := .i64) (n := (n).toNat) U U U U Try.underlying22 ai3 U U oO oO U (fun b2 => (.a U U U ?_)))))))
 refine .go idQ (.ret idQ (ret1 Try.results39 U (.c .h .n) ⟨.slice (some ⟨b2, 0, none⟩) ((n).toNat) ((n).toNat), U, U⟩))
theorem each_addL (A : Option Addr) (c : Nat) (a : List Int) (B : Option Addr) (d : Nat) (b : List Int) (S : Nat → Prop) (wf : World) (hA : Fr eZ S wf A a) (hB : Fr eZ S wf B b) (hl : a.length = b.length) (hm : a.length ≤ 100) (kb1 : bdd 100000000000 a) (kb2 : bdd 100000000000 b) :
  TR0 Try.prog 58 [.slice A a.length c, .slice B b.length d, .func (.func 59) #[] #[]] [] S wf (fun v_ C_ => ∃ (u : Value), v_ = .tuple #[u, .int .i64 0] ∧ C_ = [rw_ eZ 3 (u) (addL a b)]) := by
 refine TR.mk Try.func58 U Try.ntmps58 U U (fun w_ => ?_)
 refine .seq (.region (.a U U U (.a U U U (.go idQ (.seq (.seq (.region ?_)))))))
 refine .m U U U (.v (ev_len U Try.underlying22 U) U (.m U U U (.v (ev_len U Try.underlying22 U) U ?_)))
 refine .v (ev_cmp U U U U) U (.go idQ (.condI U bNE (fun h1 => ?_) (fun h1 => ?_)))
 ·
  exfalso; omega
 refine .skipgo idQ (.seq (.region (.a U U U (.go idQ (.seq (.seq (.region (.m U U U ?_))))))))
 refine .v (ev_len U Try.underlying22 U) U (.m U U U (.go idQ (.block ?_)))
 refine SC.nilrow eZ 3 ?_
 refine .loop (X := Int × (List Int) × Value) (fun ⟨i, X, u_X⟩ => 0 ≤ i ∧ i ≤ (a.length : Int) ∧ X = addL (a.take i.toNat) (b.take i.toNat) ∧ (X.length : Int) ≤ i) (fun ⟨i, X, u_X⟩ => [(0, .slice A a.length c), (1, .slice B b.length d), (2, .func (.func 59) #[] #[]), (18, .int .i64 (a.length : Int)), (19, .int .i64 i), (8, u_X)]) (fun ⟨i, X, u_X⟩ => [rw_ eZ 3 (u_X) X]) (fun _ => S) (fun _ => wf) (fun ⟨i, X, u_X⟩ => ((a.length : Int) - i).toNat) (fun a_ w_ hs_ hw_ => ⟨⟨0, ([] : List Int), .slice none 0 0⟩, (by exact ⟨oO, oO, (by simp [addL]), (by simp)⟩), hs_.mono (Sub.get (.c4 U U U U (.c U (.c U .n)))), hw_.keep (.c .h .n)⟩) (fun ⟨i, X, u_X⟩ ⟨q_0, q_1, q_2, q_3⟩ => ?_)
 show SC _ _ _ _ _ ⟨[(0, .slice A a.length c), (1, .slice B b.length d), (2, .func (.func 59) #[] #[]), (18, .int .i64 (a.length : Int)), (19, .int .i64 i), (8, u_X)], [rw_ eZ 3 (u_X) X], S, wf⟩
 refine .seq (.region (.v (ev_cmp U U U U) U (.go idQ (.seq (.condI U bD (fun h2 => ?_) (fun h2 => ?_))))))
 ·
  refine .skipgo idQ (.seq (.block (.seq (.region (.m U U U (.a U U U (.go idQ (.seq ?_))))))))
  refine SC.draw mo [] [] .n (fun _ _ _ => sc0) (fun wf_3 hl_3 hx_3 hR_3 => ?_)
  refine SR.m 0 U U U U ?_
  refine SR.m 1 U U U U ?_
  refine SR.m 2 U U U U ?_
  refine SR.z 3 U U (ev_ix U Try.underlying22 ty3 U U oO oO (fun _ _ => Fr.adr (i := i) (Fr.ext hA hx_3) oO oO)) ?_
  refine SR.z 4 U U (ev_ld1 U ty3 U (At.elem1 (At.d (Fr.el (i := i) (Fr.ext hA hx_3) oO oO)) 0 U)) ?_
  refine SR.m 5 U U U U ?_
  refine SR.m 6 U U U U ?_
  refine SR.z 7 U U (ev_ix U Try.underlying22 ty3 U U oO oO (fun _ _ => Fr.adr (i := i) (Fr.ext hB hx_3) oO oO)) ?_
  refine SR.z 8 U U (ev_ld1 U ty3 U (At.elem1 (At.d (Fr.el (i := i) (Fr.ext hB hx_3) oO oO)) 0 U)) ?_
  refine SR.o 9 U (.viafun U U (st_callk U U U U hbd59 U .n (nadd_ (gt a i) (gt b i) _ _ (by have := kb1 i; have := kb2 i; omega) (by have := kb1 i; have := kb2 i; omega)) ⟨tt0, ?_⟩))
  refine SR.m 10 U U U U ?_
  refine SR.z 11 U U (ev_ext U U U) ?_
  refine SR.z 12 U U (ev_ext U U U) ?_
  refine SR.z 13 U U (ev_as U U) ?_
  refine SR.z 14 U U (ev_as U U) ?_
  refine SR.fin kR hl_3 hx_3 hR_3 .n ?_
  refine SQ.go idQ ?_
  refine .seq (.seq (.region (.m U U U (.v (ev_cmp (r := false) U U U U) U (.go idQ ?_)))))
  refine .cond_f U ?_
  refine .skipgo idQ (.region (.m U U U (.m U U U (.cons (st_lit eZ (e := 3) (l := [((gt a i) + (gt b i))]) U U U U kR U U kW (fun b4 => ?_))))))
  refine .cons (st_app (E := eZ) (m := [((gt a i) + (gt b i))]) U U U U Try.underlying22 ai3 U U U (.t .h) rO (row_src 0 U) lO U (fun v5 => ?_))
  refine .a U U U (.go idQ (.region (.v (ev_add U U U (r := (i + 1)) U oO oO) U (.m U U U ?_))))
  exact SP.nil (SQ.roundb (X := Int × (List Int) × Value) (x := (i, X, u_X)) ⟨(i + 1), (X ++ [((gt a i) + (gt b i))]), v5⟩ (by exact ⟨oO, oO, (addL_next q_2 oO oO oO), (by simp only [List.length_append, List.length_singleton]; omega)⟩) dO (Sub.get (.c4 U U U U (.c U (.c U .n)))) (fun w hw => hw.keep (.c .h .n)))
 refine .exit idQ ?_
 refine .seq (.region (.m U U U (.a U U U (.a U U U ?_))))
 refine .go idQ (.ret idQ (ret2 Try.results58 U U (.c .h .n) ⟨u_X, U, (by rw [zip_all (f := addL) q_2 oO hl])⟩))
theorem laddL (A : Option Addr) (c : Nat) (a : List Int) (B : Option Addr) (d : Nat) (b : List Int) (S : Nat → Prop) (wf : World) (hA : Fr eZ S wf A a) (hB : Fr eZ S wf B b) (hl : a.length = b.length) (hm : a.length ≤ 100) (kb1 : bdd 100000000000 a) (kb2 : bdd 100000000000 b) :
  TR0 Try.prog 43 [.slice A a.length c, .slice B b.length d] [] S wf (fun v_ C_ => ∃ (u : Value), v_ = .tuple #[u, .int .i64 0] ∧ C_ = [rw_ eZ 3 (u) (addL a b)]) := by
 refine TR.mk Try.func43 U Try.ntmps43 U U (fun w_ => ?_)
 refine .seq (.region (.a U U U (.a U U U (.go idQ (.seq (.region ?_))))))
 refine .m U U U (.m U U U (.cons (st_call0 U U U U hbd58 U .n (each_addL A c a B d b _ _ hA hB lO lO oO oO) (fun v_q2 C_q2 q2 => ?_))))
 obtain ⟨u1, rfl, rfl⟩ := q2
 show SP _ _ _ _ _ _ ⟨_, _ :: _, _, _⟩
 refine .v (ev_ext U U U) U (.v (ev_ext U U U) U (.a U U U (.a U U U ?_)))
 refine .go idQ (.ret idQ (ret2 Try.results43 U U (.c .h .n) ⟨u1, U, U⟩))
theorem each_subL (A : Option Addr) (c : Nat) (a : List Int) (B : Option Addr) (d : Nat) (b : List Int) (S : Nat → Prop) (wf : World) (hA : Fr eZ S wf A a) (hB : Fr eZ S wf B b) (hl : a.length = b.length) (hm : a.length ≤ 100) (kb1 : bdd 100000000000 a) (kb2 : bdd 100000000000 b) :
  TR0 Try.prog 58 [.slice A a.length c, .slice B b.length d, .func (.func 94) #[] #[]] [] S wf (fun v_ C_ => ∃ (u : Value), v_ = .tuple #[u, .int .i64 0] ∧ C_ = [rw_ eZ 3 (u) (subL a b)]) := by
 refine TR.mk Try.func58 U Try.ntmps58 U U (fun w_ => ?_)
 refine .seq (.region (.a U U U (.a U U U (.go idQ (.seq (.seq (.region ?_)))))))
 refine .m U U U (.v (ev_len U Try.underlying22 U) U (.m U U U (.v (ev_len U Try.underlying22 U) U ?_)))
 refine .v (ev_cmp U U U U) U (.go idQ (.condI U bNE (fun h1 => ?_) (fun h1 => ?_)))
 ·
  exfalso; omega
 refine .skipgo idQ (.seq (.region (.a U U U (.go idQ (.seq (.seq (.region (.m U U U ?_))))))))
 refine .v (ev_len U Try.underlying22 U) U (.m U U U (.go idQ (.block ?_)))
 refine SC.nilrow eZ 3 ?_
 refine .loop (X := Int × (List Int) × Value) (fun ⟨i, X, u_X⟩ => 0 ≤ i ∧ i ≤ (a.length : Int) ∧ X = subL (a.take i.toNat) (b.take i.toNat) ∧ (X.length : Int) ≤ i) (fun ⟨i, X, u_X⟩ => [(0, .slice A a.length c), (1, .slice B b.length d), (2, .func (.func 94) #[] #[]), (18, .int .i64 (a.length : Int)), (19, .int .i64 i), (8, u_X)]) (fun ⟨i, X, u_X⟩ => [rw_ eZ 3 (u_X) X]) (fun _ => S) (fun _ => wf) (fun ⟨i, X, u_X⟩ => ((a.length : Int) - i).toNat) (fun a_ w_ hs_ hw_ => ⟨⟨0, ([] : List Int), .slice none 0 0⟩, (by exact ⟨oO, oO, (by simp [subL]), (by simp)⟩), hs_.mono (Sub.get (.c4 U U U U (.c U (.c U .n)))), hw_.keep (.c .h .n)⟩) (fun ⟨i, X, u_X⟩ ⟨q_0, q_1, q_2, q_3⟩ => ?_)
 show SC _ _ _ _ _ ⟨[(0, .slice A a.length c), (1, .slice B b.length d), (2, .func (.func 94) #[] #[]), (18, .int .i64 (a.length : Int)), (19, .int .i64 i), (8, u_X)], [rw_ eZ 3 (u_X) X], S, wf⟩
 refine .seq (.region (.v (ev_cmp U U U U) U (.go idQ (.seq (.condI U bD (fun h2 => ?_) (fun h2 => ?_))))))
 ·
  refine .skipgo idQ (.seq (.block (.seq (.region (.m U U U (.a U U U (.go idQ (.seq ?_))))))))
  refine SC.draw mo [] [] .n (fun _ _ _ => sc0) (fun wf_3 hl_3 hx_3 hR_3 => ?_)
  refine SR.m 0 U U U U ?_
  refine SR.m 1 U U U U ?_
  refine SR.m 2 U U U U ?_
  refine SR.z 3 U U (ev_ix U Try.underlying22 ty3 U U oO oO (fun _ _ => Fr.adr (i := i) (Fr.ext hA hx_3) oO oO)) ?_
  refine SR.z 4 U U (ev_ld1 U ty3 U (At.elem1 (At.d (Fr.el (i := i) (Fr.ext hA hx_3) oO oO)) 0 U)) ?_
  refine SR.m 5 U U U U ?_
  refine SR.m 6 U U U U ?_
  refine SR.z 7 U U (ev_ix U Try.underlying22 ty3 U U oO oO (fun _ _ => Fr.adr (i := i) (Fr.ext hB hx_3) oO oO)) ?_
  refine SR.z 8 U U (ev_ld1 U ty3 U (At.elem1 (At.d (Fr.el (i := i) (Fr.ext hB hx_3) oO oO)) 0 U)) ?_
  refine SR.o 9 U (.viafun U U (st_callk U U U U hbd94 U .n (lsub1_ (gt a i) (gt b i) _ _ (by have := kb1 i; have := kb2 i; omega) (by have := kb1 i; have := kb2 i; omega)) ⟨tt0, ?_⟩))
  refine SR.m 10 U U U U ?_
  refine SR.z 11 U U (ev_ext U U U) ?_
  refine SR.z 12 U U (ev_ext U U U) ?_
  refine SR.z 13 U U (ev_as U U) ?_
  refine SR.z 14 U U (ev_as U U) ?_
  refine SR.fin kR hl_3 hx_3 hR_3 .n ?_
  refine SQ.go idQ ?_
  refine .seq (.seq (.region (.m U U U (.v (ev_cmp (r := false) U U U U) U (.go idQ ?_)))))
  refine .cond_f U ?_
  refine .skipgo idQ (.region (.m U U U (.m U U U (.cons (st_lit eZ (e := 3) (l := [((gt a i) + (-(gt b i)))]) U U U U kR U U kW (fun b4 => ?_))))))
  refine .cons (st_app (E := eZ) (m := [((gt a i) + (-(gt b i)))]) U U U U Try.underlying22 ai3 U U U (.t .h) rO (row_src 0 U) lO U (fun v5 => ?_))
  refine .a U U U (.go idQ (.region (.v (ev_add U U U (r := (i + 1)) U oO oO) U (.m U U U ?_))))
  exact SP.nil (SQ.roundb (X := Int × (List Int) × Value) (x := (i, X, u_X)) ⟨(i + 1), (X ++ [((gt a i) + (-(gt b i)))]), v5⟩ (by exact ⟨oO, oO, (subL_next q_2 oO oO oO), (by simp only [List.length_append, List.length_singleton]; omega)⟩) dO (Sub.get (.c4 U U U U (.c U (.c U .n)))) (fun w hw => hw.keep (.c .h .n)))
 refine .exit idQ ?_
 refine .seq (.region (.m U U U (.a U U U (.a U U U ?_))))
 refine .go idQ (.ret idQ (ret2 Try.results58 U U (.c .h .n) ⟨u_X, U, (by rw [zip_all (f := subL) q_2 oO hl])⟩))
theorem lsubL (A : Option Addr) (c : Nat) (a : List Int) (B : Option Addr) (d : Nat) (b : List Int) (S : Nat → Prop) (wf : World) (hA : Fr eZ S wf A a) (hB : Fr eZ S wf B b) (hl : a.length = b.length) (hm : a.length ≤ 100) (kb1 : bdd 100000000000 a) (kb2 : bdd 100000000000 b) :
  TR0 Try.prog 79 [.slice A a.length c, .slice B b.length d] [] S wf (fun v_ C_ => ∃ (u : Value), v_ = .tuple #[u, .int .i64 0] ∧ C_ = [rw_ eZ 3 (u) (subL a b)]) := by
 refine TR.mk Try.func79 U Try.ntmps79 U U (fun w_ => ?_)
 refine .seq (.region (.a U U U (.a U U U (.go idQ (.seq (.region ?_))))))
 refine .m U U U (.m U U U (.cons (st_call0 U U U U hbd58 U .n (each_subL A c a B d b _ _ hA hB lO lO oO oO) (fun v_q2 C_q2 q2 => ?_))))
 obtain ⟨u1, rfl, rfl⟩ := q2
 show SP _ _ _ _ _ _ ⟨_, _ :: _, _, _⟩
 refine .v (ev_ext U U U) U (.v (ev_ext U U U) U (.a U U U (.a U U U ?_)))
 refine .go idQ (.ret idQ (ret2 Try.results79 U U (.c .h .n) ⟨u1, U, U⟩))
theorem lunder (A : Option Addr) (c : Nat) (a : List Int) (B : Option Addr) (d : Nat) (b : List Int) (S : Nat → Prop) (wf : World) (hA : Fr eZ S wf A a) (hB : Fr eZ S wf B b) :
  TR0 Try.prog 60 [.slice A a.length c, .slice B b.length d] [] S wf (fun v_ C_ => v_ = .bool (underF a b) ∧ C_ = []) := by
 have hla := hA.len
 have hlb := hB.len
 refine TR.mk Try.func60 U Try.ntmps60 U U (fun w_ => ?_)
 refine .seq (.region (.a U U U (.go idQ (.seq (.seq (.region (.m U U U ?_)))))))
 refine .v (ev_len U Try.underlying22 U) U (.m U U U (.v (ev_len U Try.underlying22 U) U (.v (ev_cmp U U U U) U ?_)))
 refine .go idQ (.condI U bNE (fun h1 => ?_) (fun h1 => ?_))
 ·
  refine .seq (.region (.a U U U (.go idQ (.ret idQ (ret1 Try.results60 U .n ⟨(congrArg Value.bool (by unfold underF; rw [if_neg oO])), U⟩)))))
 refine .skipgo idQ (.seq (.seq (.region (.m U U U (.v (ev_len U Try.underlying22 U) U (.m U U U ?_))))))
 refine .go idQ (.block (.loop (X := Int) (fun i => 0 ≤ i ∧ i ≤ (a.length : Int) ∧ underL (a.drop i.toNat) (b.drop i.toNat) = underL a b ∧ a.length = b.length) (fun i => [(0, .slice A a.length c), (1, .slice B b.length d), (12, .int .i64 (a.length : Int)), (13, .int .i64 i)]) (fun i => []) (fun _ => S) (fun _ => wf) (fun i => ((a.length : Int) - i).toNat) (fun a_ w_ hs_ hw_ => ⟨0, (by exact ⟨oO, oO, U, oO⟩), hs_.mono (Sub.get (.c4 U U U U .n)), hw_.keep .n⟩) (fun i ⟨q_0, q_1, q_2, q_3⟩ => ?_)))
 try dsimp only
 refine .seq (.region (.v (ev_cmp U U U U) U (.go idQ (.seq (.condI U bD (fun h2 => ?_) (fun h2 => ?_))))))
 ·
  refine .skipgo idQ (.seq (.block (.seq (.region (.m U U U (.a U U U (.go idQ (.seq ?_))))))))
  refine SC.draw mo [] [] .n (fun _ _ _ => sc0) (fun wf_3 hl_3 hx_3 hR_3 => ?_)
  refine SR.m 0 U U U U ?_
  refine SR.m 1 U U U U ?_
  refine SR.z 2 U U (ev_ix U Try.underlying22 ty3 U U oO oO (fun _ _ => Fr.adr (i := i) (Fr.ext hA hx_3) oO oO)) ?_
  refine SR.z 3 U U (ev_ld1 U ty3 U (At.elem1 (At.d (Fr.el (i := i) (Fr.ext hA hx_3) oO oO)) 0 U)) ?_
  refine SR.m 4 U U U U ?_
  refine SR.m 5 U U U U ?_
  refine SR.z 6 U U (ev_ix U Try.underlying22 ty3 U U oO oO (fun _ _ => Fr.adr (i := i) (Fr.ext hB hx_3) oO oO)) ?_
  refine SR.z 7 U U (ev_ld1 U ty3 U (At.elem1 (At.d (Fr.el (i := i) (Fr.ext hB hx_3) oO oO)) 0 U)) ?_
  refine SR.z 8 U U (ev_cmp U U U U) ?_
  refine SR.fin kR hl_3 hx_3 hR_3 .n ?_
  refine SQ.go idQ ?_
  refine .condI U bD (fun h4 => ?_) (fun h4 => ?_)
  ·
   refine .seq (.region (.a U U U (.go idQ (.ret idQ (ret1 Try.results60 U .n ⟨(congrArg Value.bool (by unfold underF; rw [if_pos q_3, ← q_2, drop_gt (x := i) oO oO, drop_gt (x := i) (l := b) oO oO, underL_cons, if_pos oO])), U⟩)))))
  refine .skipgo idQ (.region (.v (ev_add U U U (r := (i + 1)) U oO oO) U (.m U U U ?_)))
  exact SP.nil (SQ.roundb (X := Int) (x := (i)) (i + 1) (by exact ⟨oO, oO, (by have hq := q_2; rw [drop_gt (x := i) oO oO, drop_gt (x := i) (l := b) oO oO, underL_cons, if_neg oO] at hq; exact hq), oO⟩) (by show (_ : Nat) < _; omega) (Sub.get (.c4 U U U U .n)) (fun w hw => hw.keep .n))
 refine .exit idQ ?_
 refine .seq (.region (.a U U U (.go idQ (.ret idQ (ret1 Try.results60 U .n ⟨(congrArg Value.bool (by unfold underF; rw [if_pos q_3]; exact underL_end q_2 oO)), U⟩)))))
theorem runder (A : Option Addr) (c : Nat) (a : List Int) (B : Option Addr) (d : Nat) (b : List Int) (S : Nat → Prop) (wf : World) (hA : Fr eZ S wf A a) (hB : Fr eZ S wf B b) :
  TR0 Try.prog 92 [.slice A a.length c, .slice B b.length d] [] S wf (fun v_ C_ => v_ = .bool (underF a b) ∧ C_ = []) := by
 have hla := hA.len
 have hlb := hB.len
 refine TR.mk Try.func92 U Try.ntmps92 U U (fun w_ => ?_)
 refine .seq (.region (.a U U U (.go idQ (.seq (.seq (.region (.m U U U ?_)))))))
 refine .v (ev_len U Try.underlying22 U) U (.m U U U (.v (ev_len U Try.underlying22 U) U (.v (ev_cmp U U U U) U ?_)))
 refine .go idQ (.condI U bNE (fun h1 => ?_) (fun h1 => ?_))
 ·
  refine .seq (.region (.a U U U (.go idQ (.ret idQ (ret1 Try.results92 U .n ⟨(congrArg Value.bool (by unfold underF; rw [if_neg oO])), U⟩)))))
 refine .skipgo idQ (.seq (.seq (.region (.a U U U (.go idQ (.block (.loop (X := Int) (fun i => 0 ≤ i ∧ i ≤ (a.length : Int) ∧ underL (a.drop i.toNat) (b.drop i.toNat) = underL a b ∧ a.length = b.length) (fun i => [(0, .slice A a.length c), (1, .slice B b.length d), (5, .int .i64 i)]) (fun i => []) (fun _ => S) (fun _ => wf) (fun i => ((a.length : Int) - i).toNat) (fun a_ w_ hs_ hw_ => ⟨0, (by exact ⟨oO, oO, U, oO⟩), hs_.mono (Sub.get (.c U (.c U (.c U .n)))), hw_.keep .n⟩) (fun i ⟨q_0, q_1, q_2, q_3⟩ => ?_))))))))
 try dsimp only
 refine .seq (.seq (.region (.m U U U (.m U U U (.v (ev_len U Try.underlying22 U) U ?_)))))
 refine .v (ev_cmp U U U U) U (.go idQ (.condI U bD (fun h2 => ?_) (fun h2 => ?_)))
 ·
  refine .skipgo idQ (.seq (.block (.seq ?_)))
  refine SC.draw mo [] [] .n (fun _ _ _ => sc0) (fun wf_3 hl_3 hx_3 hR_3 => ?_)
  refine SR.m 0 U U U U ?_
  refine SR.m 1 U U U U ?_
  refine SR.z 2 U U (ev_ix U Try.underlying22 ty3 U U oO oO (fun _ _ => Fr.adr (i := i) (Fr.ext hA hx_3) oO oO)) ?_
  refine SR.z 3 U U (ev_ld1 U ty3 U (At.elem1 (At.d (Fr.el (i := i) (Fr.ext hA hx_3) oO oO)) 0 U)) ?_
  refine SR.m 4 U U U U ?_
  refine SR.m 5 U U U U ?_
  refine SR.z 6 U U (ev_ix U Try.underlying22 ty3 U U oO oO (fun _ _ => Fr.adr (i := i) (Fr.ext hB hx_3) oO oO)) ?_
  refine SR.z 7 U U (ev_ld1 U ty3 U (At.elem1 (At.d (Fr.el (i := i) (Fr.ext hB hx_3) oO oO)) 0 U)) ?_
  refine SR.z 8 U U (ev_cmp U U U U) ?_
  refine SR.fin kR hl_3 hx_3 hR_3 .n ?_
  refine SQ.go idQ ?_
  refine .condI U bD (fun h4 => ?_) (fun h4 => ?_)
  ·
   refine .seq (.region (.a U U U (.go idQ (.ret idQ (ret1 Try.results92 U .n ⟨(congrArg Value.bool (by unfold underF; rw [if_pos q_3, ← q_2, drop_gt (x := i) oO oO, drop_gt (x := i) (l := b) oO oO, underL_cons, if_pos oO])), U⟩)))))
  refine .skipgo idQ (.region (.m U U U (.v (ev_add U U U (r := (i + 1)) U oO oO) U (.a U U U ?_))))
  exact SP.nil (SQ.roundb (X := Int) (x := (i)) (i + 1) (by exact ⟨oO, oO, (by have hq := q_2; rw [drop_gt (x := i) oO oO, drop_gt (x := i) (l := b) oO oO, underL_cons, if_neg oO] at hq; exact hq), oO⟩) (by show (_ : Nat) < _; omega) (Sub.get (.c U (.c U (.c U .n)))) (fun w hw => hw.keep .n))
 refine .exit idQ ?_
 refine .seq (.region (.a U U U (.go idQ (.ret idQ (ret1 Try.results92 U .n ⟨(congrArg Value.bool (by unfold underF; rw [if_pos q_3]; exact underL_end q_2 oO)), U⟩)))))
theorem hstart (A : Option Addr) (c : Nat) (l : List WN) (t : Int) (S : Nat → Prop) (wf : World) (hA : Fr eWN S wf A l) :
  TR0 Try.prog 63 [.slice A l.length c, .int .i64 t] [] S wf (fun v_ C_ => v_ = .tuple #[.int .i64 ((startF l t).1), .bool ((startF l t).2)] ∧ C_ = []) := by
 have hla := hA.len
 refine TR.mk Try.func63 U Try.ntmps63 U U (fun w_ => ?_)
 refine .seq (.region (.a U U U (.a U U U (.go idQ (.seq (.seq (.region ?_)))))))
 refine .m U U U (.v (ev_len U Try.underlying49 U) U (.m U U U (.go idQ (.block ?_))))
 refine .loop (X := Int) (fun i => 0 ≤ i ∧ i ≤ (l.length : Int) ∧ startF (l.drop i.toNat) t = startF l t) (fun i => [(1, .int .i64 t), (8, .slice A l.length c), (9, .int .i64 (l.length : Int)), (10, .int .i64 i)]) (fun i => []) (fun _ => S) (fun _ => wf) (fun i => ((l.length : Int) - i).toNat) (fun a_ w_ hs_ hw_ => ⟨0, (by exact ⟨oO, oO, U⟩), hs_.mono (Sub.get (.c4 U U U U .n)), hw_.keep .n⟩) (fun i ⟨q_0, q_1, q_2⟩ => ?_)
 try dsimp only
 refine .seq (.region (.v (ev_cmp U U U U) U (.go idQ (.seq (.condI U bD (fun h1 => ?_) (fun h1 => ?_))))))
 ·
  refine .skipgo idQ (.seq (.block (.seq (.region (.v (ev_ix U Try.underlying49 ty34 U U oO oO (fun _ _ => Fr.adr (i := i) hA oO oO)) U (.v (ev_lda U U (At.w (Fr.el (i := i) hA oO oO)) ty34) U (.cons (st_alloc U U U U zf34 (fun b2 => ?_)))))))))
  refine .cons (st_storea (l' := [.int .i64 ((gt l i).lo), .int .i64 ((gt l i).hi)]) U U U ty34 U U U .h U U ?_)
  refine .go idQ (.seq (.region (.m U U U (.v (ev_fa U fo34_1 U (r := 1) U) U (.v (ev_ld1 U ty3 U (At.own1 0 U U)) U ?_)))))
  refine .v (ev_cmp U U U U) U (.go idQ (.condI U bD (fun h3 => ?_) (fun h3 => ?_)))
  ·
   refine .seq (.region (.m U U U (.v (ev_fa U fo34_0 U (r := 0) U) U (.v (ev_ld1 U ty3 U (At.own1 0 U U)) U ?_))))
   refine .v (ev_max U U U) U (.a U U U (.a U U U (.go idQ ?_)))
   exact .ret idQ (ret2 Try.results63 U U .n ⟨(by rw [← q_2, drop_gt (x := i) oO oO, startF_cons, if_pos oO]), U⟩)
  refine .skipgo idQ (.region (.v (ev_add U U U (r := (i + 1)) U oO oO) U (.m U U U ?_)))
  exact SP.nil (SQ.roundb (X := Int) (x := (i)) (i + 1) (by exact ⟨oO, oO, (by have hq := q_2; rw [drop_gt (x := i) oO oO, startF_cons, if_neg oO] at hq; exact hq)⟩) (by show (_ : Nat) < _; omega) (Sub.get (.c4 U U U U .n)) (fun w hw => hw.keep .n))
 refine .exit idQ ?_
 refine .seq (.region (.a U U U (.a U U U (.go idQ ?_))))
 exact .ret idQ (ret2 Try.results63 U U .n ⟨(by rw [← q_2, drop_end oO]; rfl), U⟩)
theorem covers_ (a : Int) (b : Int) (S : Nat → Prop) (wf : World) :
  TR0 Try.prog 40 [.int .u64 a, .int .u64 b] [] S wf (fun v_ C_ => v_ = .bool ((ban .u64 b a) == 0) ∧ C_ = []) := by
 refine TR.mk Try.func40 U Try.ntmps40 U U (fun w_ => ?_)
 refine .seq (.region (.a U U U (.go idQ (.seq (.region (.m U U U ?_))))))
 refine .m U U U (.v (ev_bandn U U U) U (.v (ev_cmp U U U U) U (.a U U U ?_)))
 refine .go idQ (.ret idQ (ret1 Try.results40 U .n ⟨U, U⟩))
end Go.Proofs.Ytimhdimhdimbjaa.Sx
set_option maxRecDepth 20000
set_option maxHeartbeats 1000000
namespace Go.Proofs.Ytimhdimhdimbjaa.Sx.FB
open Go Go.SX Go.Proofs FA FB
theorem ai83 : (Try.prog.info? 83).map (fun i => (i.zero, i.size, i.bytes)) = some (some (.agg #[.int .i64 0, .int .i64 0]), 2, 16) := by kernel_rfl
theorem ai34 : (Try.prog.info? 34).map (fun i => (i.zero, i.size, i.bytes)) = some (some (.agg #[.int .i64 0, .int .i64 0]), 2, 16) := by kernel_rfl
theorem fo67_0 : fo Try.prog 67 0 = some 0 := by kernel_rfl
theorem ty4 : ty Try.prog 4 = some (false, 1) := by kernel_rfl
theorem fo67_1 : fo Try.prog 67 1 = some 1 := by kernel_rfl
theorem fo29_5 : fo Try.prog 29 5 = some 7 := by kernel_rfl
theorem ty27 : ty Try.prog 27 = some (false, 1) := by kernel_rfl
theorem fo29_4 : fo Try.prog 29 4 = some 6 := by kernel_rfl
theorem ty26 : ty Try.prog 26 = some (false, 1) := by kernel_rfl
theorem hbd25 : hasBody Try.prog 25 = true := by kernel_rfl
theorem ty29 : ty Try.prog 29 = some (true, 8) := by kernel_rfl
theorem ty67 : ty Try.prog 67 = some (true, 2) := by kernel_rfl
theorem hbd57 : hasBody Try.prog 57 = true := by kernel_rfl
theorem ty55 : ty Try.prog 55 = some (true, 9) := by kernel_rfl
theorem fo55_4 : fo Try.prog 55 4 = some 8 := by kernel_rfl
theorem ty53 : ty Try.prog 53 = some (true, 7) := by kernel_rfl
theorem fo53_4 : fo Try.prog 53 4 = some 6 := by kernel_rfl
theorem fo55_3 : fo Try.prog 55 3 = some 7 := by kernel_rfl
theorem ty32 : ty Try.prog 32 = some (false, 1) := by kernel_rfl
theorem fo53_3 : fo Try.prog 53 3 = some 5 := by kernel_rfl
theorem hbd53 : hasBody Try.prog 53 = true := by kernel_rfl
theorem zf67 : (Try.prog.info? 67).bind (fun i => i.zero.map Value.cells) = some (List.toArray [.bool false, .int .i64 0]) := by kernel_rfl
theorem fo83_0 : fo Try.prog 83 0 = some 0 := by kernel_rfl
theorem ty81 : ty Try.prog 81 = some (false, 1) := by kernel_rfl
theorem fo83_1 : fo Try.prog 83 1 = some 1 := by kernel_rfl
theorem zf51 : (Try.prog.info? 51).bind (fun i => i.zero.map Value.cells) = some (List.toArray [.int .i64 0, .int .i64 0, .slice none 0 0]) := by kernel_rfl
theorem ty83 : ty Try.prog 83 = some (true, 2) := by kernel_rfl
theorem hbd50 : hasBody Try.prog 50 = true := by kernel_rfl
theorem ty51 : ty Try.prog 51 = some (true, 3) := by kernel_rfl
theorem fo53_0 : fo Try.prog 53 0 = some 0 := by kernel_rfl
theorem fo51_2 : fo Try.prog 51 2 = some 2 := by kernel_rfl
theorem ty49 : ty Try.prog 49 = some (false, 1) := by kernel_rfl
theorem hbd95 : hasBody Try.prog 95 = true := by kernel_rfl
theorem fo55_0 : fo Try.prog 55 0 = some 0 := by kernel_rfl
theorem fo55_1 : fo Try.prog 55 1 = some 3 := by kernel_rfl
theorem hbd23 : hasBody Try.prog 23 = true := by kernel_rfl
theorem fo24_0 : fo Try.prog 24 0 = some 0 := by kernel_rfl
theorem fo24_1 : fo Try.prog 24 1 = some 1 := by kernel_rfl
theorem ty22 : ty Try.prog 22 = some (false, 1) := by kernel_rfl
end Go.Proofs.Ytimhdimhdimbjaa.Sx.FB
namespace Go.Proofs.Ytimhdimhdimbjaa.Sx
open Go Go.SX Go.Proofs FA FB
theorem clone (A : Option Addr) (n : Nat) (c : Nat) (l : List Vis) (S : Nat → Prop) (wf : World) (hA : Fr eVis S wf A l) (hn : l.length = n) (hl : l.length ≤ 1000000) :
  TR0 Try.prog 45 [.slice A n c] [] S wf (fun v_ C_ => ∃ (v : Value), v_ = v ∧ C_ = [rw_ eVis 83 (v) l]) := by
 refine TR.mk Try.func45 U Try.ntmps45 U U (fun w_ => ?_)
 refine .seq (.region (.a U U U (.go idQ (.seq (.seq (.region (.m U U U ?_)))))))
 refine .v (ev_nils U Try.underlying58 U U (by rfl)) U (.go idQ (.condI U bV (fun h1 => ?_) (fun h1 => ?_)))
 ·
  refine .seq (.region (.a U U U (.go idQ ?_)))
  refine SC.nilrow eVis 83 ?_
  exact .ret idQ (ret1 Try.results45 U (.c .h .n) ⟨.slice none 0 0, U, (by rw [clone_nil hA (by assumption)])⟩)
 refine .skipgo idQ (.seq (.region (.cons (st_lit eVis (e := 83) (l := []) U U U U kR U U kW (fun b2 => (.m U U U (.cons (st_app0 (E := eVis) (m := l) U U U U Try.underlying58 ai83 U U U .h rO (Src.w (Fr.flat hA)) lO U (fun v3 => ?_)))))))))
 refine .a U U U (.go idQ (.ret idQ (ret1 Try.results45 U (.c .h .n) ⟨v3, U, U⟩)))
theorem clonew (A : Option Addr) (n : Nat) (c : Nat) (l : List WN) (S : Nat → Prop) (wf : World) (hA : Fr eWN S wf A l) (hn : l.length = n) (hl : l.length ≤ 1000000) :
  TR0 Try.prog 95 [.slice A n c] [] S wf (fun v_ C_ => ∃ (v : Value), v_ = v ∧ C_ = [rw_ eWN 34 (v) l]) := by
 refine TR.mk Try.func95 U Try.ntmps95 U U (fun w_ => ?_)
 refine .seq (.region (.a U U U (.go idQ (.seq (.seq (.region (.m U U U ?_)))))))
 refine .v (ev_nils U Try.underlying49 U U (by rfl)) U (.go idQ (.condI U bV (fun h1 => ?_) (fun h1 => ?_)))
 ·
  refine .seq (.region (.a U U U (.go idQ ?_)))
  refine SC.nilrow eWN 34 ?_
  exact .ret idQ (ret1 Try.results95 U (.c .h .n) ⟨.slice none 0 0, U, (by rw [clone_nil hA (by assumption)])⟩)
 refine .skipgo idQ (.seq (.region (.cons (st_lit eWN (e := 34) (l := []) U U U U kR U U kW (fun b2 => (.m U U U (.cons (st_app0 (E := eWN) (m := l) U U U U Try.underlying49 ai34 U U U .h rO (Src.w (Fr.flat hA)) lO U (fun v3 => ?_)))))))))
 refine .a U U U (.go idQ (.ret idQ (ret1 Try.results95 U (.c .h .n) ⟨v3, U, U⟩)))
theorem clonez (A : Option Addr) (n : Nat) (c : Nat) (l : List Int) (S : Nat → Prop) (wf : World) (hA : Fr eZ S wf A l) (hn : l.length = n) (hl : l.length ≤ 1000000) :
  TR0 Try.prog 100 [.slice A n c] [] S wf (fun v_ C_ => ∃ (v : Value), v_ = v ∧ C_ = [rw_ eZ 3 (v) l]) := by
 refine TR.mk Try.func100 U Try.ntmps100 U U (fun w_ => ?_)
 refine .seq (.region (.a U U U (.go idQ (.seq (.seq (.region (.m U U U ?_)))))))
 refine .v (ev_nils U Try.underlying22 U U (by rfl)) U (.go idQ (.condI U bV (fun h1 => ?_) (fun h1 => ?_)))
 ·
  refine .seq (.region (.a U U U (.go idQ ?_)))
  refine SC.nilrow eZ 3 ?_
  exact .ret idQ (ret1 Try.results100 U (.c .h .n) ⟨.slice none 0 0, U, (by rw [clone_nil hA (by assumption)])⟩)
 refine .skipgo idQ (.seq (.region (.cons (st_lit eZ (e := 3) (l := []) U U U U kR U U kW (fun b2 => (.m U U U (.cons (st_app0 (E := eZ) (m := l) U U U U Try.underlying22 ai3 U U U .h rO (Src.w (Fr.flat hA)) lO U (fun v3 => ?_)))))))))
 refine .a U U U (.go idQ (.ret idQ (ret1 Try.results100 U (.c .h .n) ⟨v3, U, U⟩)))
theorem up_ (a : Int) (b : Int) (S : Nat → Prop) (wf : World) :
  TR0 Try.prog 25 [.int .i64 a, .int .i64 b] [] S wf (fun v_ C_ => v_ = .bool (decide (a ≥ 0) && decide (a ≤ b)) ∧ C_ = []) := by
 refine TR.mk Try.func25 U Try.ntmps25 U U (fun w_ => ?_)
 refine .seq (.region (.a U U U (.go idQ (.seq (.region (.m U U U ?_))))))
 refine .v (ev_cmp U U U U) U (.m U U U (.w (fun _ => ev_mv U U) U (.w (fun _ => ev_mv U U) U ?_)))
 refine .w (fun hb => ev_cmp U (lkg U hb) (lkg U hb) U) U (.v (ev_and U U U U) U (.a U U U (.go idQ ?_)))
 exact .ret idQ (ret1 Try.results25 U .n ⟨U, U⟩)
theorem there_ (p : PB) (t : TK) (S : Nat → Prop) (wf : World) (hPB : PBF S wf p) :
  TR0 Try.prog 57 [.agg (cPB p).toArray, .agg #[.bool t.ship, .int .i64 t.item]] [] S wf (fun v_ C_ => v_ = .bool (thereF p t) ∧ C_ = []) := by
 have hlj := hPB.2.2.2.1.1.len
 have hls := hPB.2.2.2.2.1.len
 have hlv := hPB.2.2.1.1.len
 refine TR.mk Try.func57 U Try.ntmps57 U U (fun w_ => ?_)
 refine .seq (.region (.cons (st_boxa U U U U U (fun b1 => (.cons (st_boxa U U U U U (fun b2 => (.a U U U ?_))))))))
 refine .go idQ (.seq (.seq (.region (.v (ev_fa U fo67_0 U (r := 0) U) U (.v (ev_ld1 U ty4 U (At.own1 0 U U)) U (.go idQ ?_))))))
 refine .condI U bV (fun h3 => ?_) (fun h3 => ?_)
 ·
  refine .seq (.region (.v (ev_fa U fo67_1 U (r := 1) U) U (.v (ev_ld1 U ty3 U (At.own1 0 U U)) U (.v (ev_cmp U U U U) U ?_))))
  refine .m U U U (.w (fun _ => ev_fa U fo67_1 U (r := 1) U) U (.w (fun hb => ev_ld1 U ty3 (lkg U hb) (At.own1 0 U U)) U (.w (fun _ => ev_fa U fo29_5 U (r := 7) U) U ?_)))
  refine .w (fun hb => ev_ld1 U ty27 (lkg U hb) (At.own1 1 U U)) U (.w (fun hb => ev_len U Try.underlying27 (lkg U hb)) U (.w (fun hb => ev_cmp U (lkg U hb) (lkg U hb) U) U (.v (ev_and U U U U) U ?_)))
  refine .a U U U (.go idQ (.ret idQ (ret1 Try.results57 U .n ⟨(congrArg Value.bool (by unfold thereF; rw [if_pos (by assumption)]; rw [Bool.eq_iff_iff]; simp)), U⟩)))
 refine .skipgo idQ (.seq (.region (.v (ev_fa U fo67_1 U (r := 1) U) U (.v (ev_ld1 U ty3 U (At.own1 0 U U)) U (.v (ev_cmp U U U U) U ?_)))))
 refine .m U U U (.w (fun _ => ev_fa U fo67_1 U (r := 1) U) U (.w (fun hb => ev_ld1 U ty3 (lkg U hb) (At.own1 0 U U)) U (.w (fun _ => ev_fa U fo29_4 U (r := 6) U) U ?_)))
 refine .w (fun hb => ev_ld1 U ty26 (lkg U hb) (At.own1 1 U U)) U (.w (fun hb => ev_len U Try.underlying26 (lkg U hb)) U (.w (fun hb => ev_cmp U (lkg U hb) (lkg U hb) U) U (.v (ev_and U U U U) U ?_)))
 refine .a U U U (.go idQ (.ret idQ (ret1 Try.results57 U .n ⟨(congrArg Value.bool (by unfold thereF; rw [if_neg (by assumption)]; rw [Bool.eq_iff_iff]; simp)), U⟩)))
theorem rthere_ (p : PB) (t : TK) (S : Nat → Prop) (wf : World) (hPB : PBF S wf p) :
  TR0 Try.prog 53 [.agg (cPB p).toArray, .agg #[.bool t.ship, .int .i64 t.item]] [] S wf (fun v_ C_ => v_ = .bool (thereF p t) ∧ C_ = []) := by
 have hlj := hPB.2.2.2.1.1.len
 have hls := hPB.2.2.2.2.1.len
 have hlv := hPB.2.2.1.1.len
 refine TR.mk Try.func53 U Try.ntmps53 U U (fun w_ => ?_)
 refine .seq (.region (.cons (st_boxa U U U U U (fun b1 => (.cons (st_boxa U U U U U (fun b2 => (.a U U U ?_))))))))
 refine .go idQ (.seq (.seq (.region (.v (ev_fa U fo67_0 U (r := 0) U) U (.v (ev_ld1 U ty4 U (At.own1 0 U U)) U (.go idQ ?_))))))
 refine .condI U bV (fun h3 => ?_) (fun h3 => ?_)
 ·
  refine .seq (.region (.v (ev_fa U fo67_1 U (r := 1) U) U (.v (ev_ld1 U ty3 U (At.own1 0 U U)) U (.v (ev_fa U fo29_5 U (r := 7) U) U ?_))))
  refine .v (ev_ld1 U ty27 U (At.own1 1 U U)) U (.v (ev_len U Try.underlying27 U) U (.v (ev_sub U U U (r := ((p.ships.length : Int) - 1)) U oO oO) U (.cons (st_callk U U U U hbd25 U .n (up_ t.item ((p.ships.length : Int) - 1) _ _) ?_))))
  refine .a U U U (.go idQ (.ret idQ (ret1 Try.results53 U .n ⟨(congrArg Value.bool (by unfold thereF; rw [if_pos (by assumption)]; rw [Bool.eq_iff_iff]; simp <;> omega)), U⟩)))
 refine .skipgo idQ (.seq (.region (.v (ev_fa U fo67_1 U (r := 1) U) U (.v (ev_ld1 U ty3 U (At.own1 0 U U)) U (.v (ev_fa U fo29_4 U (r := 6) U) U ?_)))))
 refine .v (ev_ld1 U ty26 U (At.own1 1 U U)) U (.v (ev_len U Try.underlying26 U) U (.v (ev_sub U U U (r := ((p.jobs.length : Int) - 1)) U oO oO) U (.cons (st_callk U U U U hbd25 U .n (up_ t.item ((p.jobs.length : Int) - 1) _ _) ?_))))
 refine .a U U U (.go idQ (.ret idQ (ret1 Try.results53 U .n ⟨(congrArg Value.bool (by unfold thereF; rw [if_neg (by assumption)]; rw [Bool.eq_iff_iff]; simp <;> omega)), U⟩)))
theorem prio_ (p : PB) (t : TK) (S : Nat → Prop) (wf : World) (hPB : PBF S wf p) :
  TR0 Try.prog 38 [.agg (cPB p).toArray, .agg #[.bool t.ship, .int .i64 t.item]] [] S wf (fun v_ C_ => v_ = .int .i64 (prioF p t) ∧ C_ = []) := by
 have hlj := hPB.2.2.2.1.1.len
 have hls := hPB.2.2.2.2.1.len
 have hlv := hPB.2.2.1.1.len
 refine TR.mk Try.func38 U Try.ntmps38 U U (fun w_ => ?_)
 refine .seq (.region (.cons (st_boxa U U U U U (fun b1 => (.cons (st_boxa U U U U U (fun b2 => (.a U U U ?_))))))))
 refine .go idQ (.seq (.block (.seq (.region (.v (ev_lda U U (At.whole 1 U) ty29) U (.v (ev_lda U U (At.whole 0 U) ty67) U (.cons (st_callk U U U U hbd57 U .n (there_ p t _ _ hPB) ?_))))))))
 refine .v (ev_not U U) U (.a U U U (.go idQ (.condI U (bN bV) (fun h3 => ?_) (fun h3 => ?_))))
 ·
  refine .seq (.region (.a U U U (.go idQ (.ret idQ (ret1 Try.results38 U .n ⟨(congrArg (Value.int .i64) (prio_no (by assumption)).1.symm), U⟩)))))
 refine .seq (.region (.v (ev_fa U fo67_0 U (r := 0) U) U (.v (ev_ld1 U ty4 U (At.own1 0 U U)) U (.a U U U ?_))))
 refine .go idQ (.condI U bV (fun h4 => ?_) (fun h4 => ?_))
 ·
  refine .seq ?_
  have hin := thr_t (by assumption) (by assumption)
  refine .region (.v (ev_fa U fo29_5 U (r := 7) U) U (.v (ev_ld1 U ty27 U (At.own1 1 U U)) U (.v (ev_fa U fo67_1 U (r := 1) U) U ?_)))
  refine .v (ev_ld1 U ty3 U (At.own1 0 U U)) U (.v (ev_ix U Try.underlying27 ty55 U U oO oO (fun _ _ => Fr.adr (i := t.item) hPB.2.2.2.2.1 oO oO)) U (.v (ev_fa U fo55_4 U (r := ao p.psA + (t.item).toNat * 9 + 8) U) U (.v (ev_ld1 U ty3 U (At.elem1 (At.w (Fr.el (i := t.item) hPB.2.2.2.2.1 oO oO)) 8 U)) U ?_)))
  refine .a U U U (.go idQ (.ret idQ (ret1 Try.results38 U .n ⟨(congrArg (Value.int .i64) (prio_t (by assumption) (by assumption)).1.symm), U⟩)))
 refine .skipgo idQ (.seq ?_)
 have hin := thr_f (by assumption) (by assumption)
 refine .region (.v (ev_fa U fo29_4 U (r := 6) U) U (.v (ev_ld1 U ty26 U (At.own1 1 U U)) U (.v (ev_fa U fo67_1 U (r := 1) U) U ?_)))
 refine .v (ev_ld1 U ty3 U (At.own1 0 U U)) U (.v (ev_ix U Try.underlying26 ty53 U U oO oO (fun _ _ => Fr.adr (i := t.item) hPB.2.2.2.1.1 oO oO)) U (.v (ev_fa U fo53_4 U (r := ao p.pjA + (t.item).toNat * 7 + 6) U) U (.v (ev_ld1 U ty3 U (At.elem1 (At.w (Fr.el (i := t.item) hPB.2.2.2.1.1 oO oO)) 6 U)) U ?_)))
 refine .a U U U (.go idQ (.ret idQ (ret1 Try.results38 U .n ⟨(congrArg (Value.int .i64) (prio_f (by assumption) (by assumption)).1.symm), U⟩)))
theorem skil_ (p : PB) (t : TK) (S : Nat → Prop) (wf : World) (hPB : PBF S wf p) :
  TR0 Try.prog 41 [.agg (cPB p).toArray, .agg #[.bool t.ship, .int .i64 t.item]] [] S wf (fun v_ C_ => v_ = .int .u64 (skilF p t) ∧ C_ = []) := by
 have hlj := hPB.2.2.2.1.1.len
 have hls := hPB.2.2.2.2.1.len
 have hlv := hPB.2.2.1.1.len
 refine TR.mk Try.func41 U Try.ntmps41 U U (fun w_ => ?_)
 refine .seq (.region (.cons (st_boxa U U U U U (fun b1 => (.cons (st_boxa U U U U U (fun b2 => (.a U U U ?_))))))))
 refine .go idQ (.seq (.block (.seq (.region (.v (ev_lda U U (At.whole 1 U) ty29) U (.v (ev_lda U U (At.whole 0 U) ty67) U (.cons (st_callk U U U U hbd57 U .n (there_ p t _ _ hPB) ?_))))))))
 refine .v (ev_not U U) U (.a U U U (.go idQ (.condI U (bN bV) (fun h3 => ?_) (fun h3 => ?_))))
 ·
  refine .seq (.region (.a U U U (.go idQ (.ret idQ (ret1 Try.results41 U .n ⟨(congrArg (Value.int .u64) (prio_no (by assumption)).2.symm), U⟩)))))
 refine .seq (.region (.v (ev_fa U fo67_0 U (r := 0) U) U (.v (ev_ld1 U ty4 U (At.own1 0 U U)) U (.a U U U ?_))))
 refine .go idQ (.condI U bV (fun h4 => ?_) (fun h4 => ?_))
 ·
  refine .seq ?_
  have hin := thr_t (by assumption) (by assumption)
  refine .region (.v (ev_fa U fo29_5 U (r := 7) U) U (.v (ev_ld1 U ty27 U (At.own1 1 U U)) U (.v (ev_fa U fo67_1 U (r := 1) U) U ?_)))
  refine .v (ev_ld1 U ty3 U (At.own1 0 U U)) U (.v (ev_ix U Try.underlying27 ty55 U U oO oO (fun _ _ => Fr.adr (i := t.item) hPB.2.2.2.2.1 oO oO)) U (.v (ev_fa U fo55_3 U (r := ao p.psA + (t.item).toNat * 9 + 7) U) U (.v (ev_ld1 U ty32 U (At.elem1 (At.w (Fr.el (i := t.item) hPB.2.2.2.2.1 oO oO)) 7 U)) U ?_)))
  refine .a U U U (.go idQ (.ret idQ (ret1 Try.results41 U .n ⟨(congrArg (Value.int .u64) (prio_t (by assumption) (by assumption)).2.symm), U⟩)))
 refine .skipgo idQ (.seq ?_)
 have hin := thr_f (by assumption) (by assumption)
 refine .region (.v (ev_fa U fo29_4 U (r := 6) U) U (.v (ev_ld1 U ty26 U (At.own1 1 U U)) U (.v (ev_fa U fo67_1 U (r := 1) U) U ?_)))
 refine .v (ev_ld1 U ty3 U (At.own1 0 U U)) U (.v (ev_ix U Try.underlying26 ty53 U U oO oO (fun _ _ => Fr.adr (i := t.item) hPB.2.2.2.1.1 oO oO)) U (.v (ev_fa U fo53_3 U (r := ao p.pjA + (t.item).toNat * 7 + 5) U) U (.v (ev_ld1 U ty32 U (At.elem1 (At.w (Fr.el (i := t.item) hPB.2.2.2.1.1 oO oO)) 5 U)) U ?_)))
 refine .a U U U (.go idQ (.ret idQ (ret1 Try.results41 U .n ⟨(congrArg (Value.int .u64) (prio_f (by assumption) (by assumption)).2.symm), U⟩)))
theorem facts_ (p : PB) (t : TK) (S : Nat → Prop) (wf : World) (hPB : PBF S wf p) :
  TR0 Try.prog 24 [.agg (cPB p).toArray, .agg #[.bool t.ship, .int .i64 t.item]] [] S wf (fun v_ C_ => v_ = .tuple #[.int .i64 (prioF p t), .int .u64 (skilF p t)] ∧ C_ = []) := by
 have hlj := hPB.2.2.2.1.1.len
 have hls := hPB.2.2.2.2.1.len
 have hlv := hPB.2.2.1.1.len
 refine TR.mk Try.func24 U Try.ntmps24 U U (fun w_ => ?_)
 refine .seq (.region (.cons (st_boxa U U U U U (fun b1 => (.cons (st_boxa U U U U U (fun b2 => (.a U U U ?_))))))))
 refine .a U U U (.go idQ (.seq (.seq (.region (.v (ev_lda U U (At.whole 1 U) ty29) U (.v (ev_lda U U (At.whole 0 U) ty67) U ?_))))))
 refine .cons (st_callk U U U U hbd53 U .n (rthere_ p t _ _ hPB) ?_)
 refine .v (ev_not U U) U (.go idQ (.condI U (bN bV) (fun h3 => ?_) (fun h3 => ?_)))
 ·
  refine .seq (.region (.a U U U (.a U U U (.go idQ ?_))))
  exact .ret idQ (ret2 Try.results24 U U .n ⟨(by rw [(prio_no (by assumption)).1, (prio_no (by assumption)).2]), U⟩)
 refine .skipgo idQ (.seq (.seq (.region (.v (ev_fa U fo67_0 U (r := 0) U) U (.v (ev_ld1 U ty4 U (At.own1 0 U U)) U (.go idQ ?_))))))
 refine .condI U bV (fun h4 => ?_) (fun h4 => ?_)
 ·
  refine .seq ?_
  have hin := thr_t (by assumption) (by assumption)
  refine SC.draw mo [] [] .n (fun _ _ _ => sc0) (fun wf_5 hl_5 hx_5 hR_5 => ?_)
  refine SR.z 0 U U (ev_fa U fo29_5 U (r := 7) U) ?_
  refine SR.z 1 U U (ev_ld1 U ty27 U (At.d (At.lent hR_5 1 U U))) ?_
  refine SR.z 2 U U (ev_fa U fo67_1 U (r := 1) U) ?_
  refine SR.z 3 U U (ev_ld1 U ty3 U (At.d (At.lent hR_5 0 U U))) ?_
  refine SR.z 4 U U (ev_ix U Try.underlying27 ty55 U U oO oO (fun _ _ => Fr.adr (i := t.item) ((hPB).ext hx_5).2.2.2.2.1 oO oO)) ?_
  refine SR.z 5 U U (ev_fa U fo55_4 U (r := ao p.psA + (t.item).toNat * 9 + 8) U) ?_
  refine SR.z 6 U U (ev_ld1 U ty3 U (At.elem1 (At.d (Fr.el (i := t.item) ((hPB).ext hx_5).2.2.2.2.1 oO oO)) 8 U)) ?_
  refine SR.z 7 U U (ev_fa U fo29_5 U (r := 7) U) ?_
  refine SR.z 8 U U (ev_ld1 U ty27 U (At.d (At.lent hR_5 1 U U))) ?_
  refine SR.z 9 U U (ev_fa U fo67_1 U (r := 1) U) ?_
  refine SR.z 10 U U (ev_ld1 U ty3 U (At.d (At.lent hR_5 0 U U))) ?_
  refine SR.z 11 U U (ev_ix U Try.underlying27 ty55 U U oO oO (fun _ _ => Fr.adr (i := t.item) ((hPB).ext hx_5).2.2.2.2.1 oO oO)) ?_
  refine SR.z 12 U U (ev_fa U fo55_3 U (r := ao p.psA + (t.item).toNat * 9 + 7) U) ?_
  refine SR.z 13 U U (ev_ld1 U ty32 U (At.elem1 (At.d (Fr.el (i := t.item) ((hPB).ext hx_5).2.2.2.2.1 oO oO)) 7 U)) ?_
  refine SR.z 14 U U (ev_as U U) ?_
  refine SR.z 15 U U (ev_as U U) ?_
  refine SR.fin kR hl_5 hx_5 hR_5 .n ?_
  refine SQ.go idQ ?_
  exact .ret idQ (ret2 Try.results24 U U .n ⟨(by rw [(prio_t (by assumption) (by assumption)).1, (prio_t (by assumption) (by assumption)).2]), U⟩)
 refine .skipgo idQ (.seq ?_)
 have hin := thr_f (by assumption) (by assumption)
 refine SC.draw mo [] [] .n (fun _ _ _ => sc0) (fun wf_6 hl_6 hx_6 hR_6 => ?_)
 refine SR.z 0 U U (ev_fa U fo29_4 U (r := 6) U) ?_
 refine SR.z 1 U U (ev_ld1 U ty26 U (At.d (At.lent hR_6 1 U U))) ?_
 refine SR.z 2 U U (ev_fa U fo67_1 U (r := 1) U) ?_
 refine SR.z 3 U U (ev_ld1 U ty3 U (At.d (At.lent hR_6 0 U U))) ?_
 refine SR.z 4 U U (ev_ix U Try.underlying26 ty53 U U oO oO (fun _ _ => Fr.adr (i := t.item) ((hPB).ext hx_6).2.2.2.1.1 oO oO)) ?_
 refine SR.z 5 U U (ev_fa U fo53_4 U (r := ao p.pjA + (t.item).toNat * 7 + 6) U) ?_
 refine SR.z 6 U U (ev_ld1 U ty3 U (At.elem1 (At.d (Fr.el (i := t.item) ((hPB).ext hx_6).2.2.2.1.1 oO oO)) 6 U)) ?_
 refine SR.z 7 U U (ev_fa U fo29_4 U (r := 6) U) ?_
 refine SR.z 8 U U (ev_ld1 U ty26 U (At.d (At.lent hR_6 1 U U))) ?_
 refine SR.z 9 U U (ev_fa U fo67_1 U (r := 1) U) ?_
 refine SR.z 10 U U (ev_ld1 U ty3 U (At.d (At.lent hR_6 0 U U))) ?_
 refine SR.z 11 U U (ev_ix U Try.underlying26 ty53 U U oO oO (fun _ _ => Fr.adr (i := t.item) ((hPB).ext hx_6).2.2.2.1.1 oO oO)) ?_
 refine SR.z 12 U U (ev_fa U fo53_3 U (r := ao p.pjA + (t.item).toNat * 7 + 5) U) ?_
 refine SR.z 13 U U (ev_ld1 U ty32 U (At.elem1 (At.d (Fr.el (i := t.item) ((hPB).ext hx_6).2.2.2.1.1 oO oO)) 5 U)) ?_
 refine SR.z 14 U U (ev_as U U) ?_
 refine SR.z 15 U U (ev_as U U) ?_
 refine SR.fin kR hl_6 hx_6 hR_6 .n ?_
 refine SQ.go idQ ?_
 exact .ret idQ (ret2 Try.results24 U U .n ⟨(by rw [(prio_f (by assumption) (by assumption)).1, (prio_f (by assumption) (by assumption)).2]), U⟩)
theorem of_ (x : Vis) (S : Nat → Prop) (wf : World) :
  TR0 Try.prog 50 [.agg #[.int .i64 x.kind, .int .i64 x.item]] [] S wf (fun v_ C_ => v_ = .tuple #[.agg #[.bool ((taskV x).ship), .int .i64 ((taskV x).item)], .bool (isTask x)] ∧ C_ = []) := by
 refine TR.mk Try.func50 U Try.ntmps50 U U (fun w_ => ?_)
 refine .seq (.region (.cons (st_boxa U U U U U (fun b1 => (.cons (st_alloc U U U U zf67 (fun b2 => (.a U U U ?_))))))))
 refine .go idQ (.seq (.seq (.region (.v (ev_fa U fo83_0 U (r := 0) U) U (.v (ev_ld1 U ty81 U (At.own1 1 U U)) U (.go idQ (.block (.seq (.region ?_)))))))))
 refine .v (ev_cmp U U U U) U (.a U U U (.go idQ (.condI U bE (fun h3 => ?_) (fun h3 => ?_))))
 ·
  refine .seq (.region (.v (ev_fa U fo83_1 U (r := 1) U) U (.v (ev_ld1 U ty3 U (At.own1 1 U U)) U (.v (ev_any (v := .agg #[.bool false, .int .i64 x.item]) U kR (fun _ => by kernel_rfl)) U ?_))))
  refine .cons (st_storea (l' := [.bool false, .int .i64 x.item]) U U U ty67 U U U .h U U ?_)
  refine .a rfl rfl rfl (.go idQ (.ret idQ (retv2 Try.results50 (.c 0 rfl rfl ty67) (.t rfl) .n ⟨(by obtain ⟨e1, e2⟩ := task1 (x := x) oO; rw [e1, e2]), rfl⟩)))
 refine .seq (.seq (.region (.v (ev_cmp U U U U) U (.a U U U (.go idQ ?_)))))
 refine .condI U bE (fun h4 => ?_) (fun h4 => ?_)
 ·
  refine .skipgo idQ (.condI U bE (fun h5 => ?_) (fun h5 => ?_))
  ·
   refine .seq (.region (.v (ev_fa U fo83_1 U (r := 1) U) U (.v (ev_ld1 U ty3 U (At.own1 1 U U)) U (.v (ev_any (v := .agg #[.bool true, .int .i64 x.item]) U kR (fun _ => by kernel_rfl)) U ?_))))
   refine .cons (st_storea (l' := [.bool true, .int .i64 x.item]) U U U ty67 U U U .h U U ?_)
   refine .a rfl rfl rfl (.go idQ (.ret idQ (retv2 Try.results50 (.c 0 rfl rfl ty67) (.t rfl) .n ⟨(by have hk_ : x.kind = 2 ∨ x.kind = 3 := oO; obtain ⟨e1, e2⟩ := task23 hk_; rw [e1, e2]), rfl⟩)))
  exact absurd h4 h5
 refine .region (.v (ev_cmp U U U U) U (.a U U U (.go idQ ?_)))
 refine .condI U bE (fun h6 => ?_) (fun h6 => ?_)
 ·
  refine .seq (.region (.v (ev_fa U fo83_1 U (r := 1) U) U (.v (ev_ld1 U ty3 U (At.own1 1 U U)) U (.v (ev_any (v := .agg #[.bool true, .int .i64 x.item]) U kR (fun _ => by kernel_rfl)) U ?_))))
  refine .cons (st_storea (l' := [.bool true, .int .i64 x.item]) U U U ty67 U U U .h U U ?_)
  refine .a rfl rfl rfl (.go idQ (.ret idQ (retv2 Try.results50 (.c 0 rfl rfl ty67) (.t rfl) .n ⟨(by have hk_ : x.kind = 2 ∨ x.kind = 3 := oO; obtain ⟨e1, e2⟩ := task23 hk_; rw [e1, e2]), rfl⟩)))
 refine .skipgo idQ (.seq (.region (.v (ev_any (v := .agg #[.bool false, .int .i64 0]) U kR (fun _ => by kernel_rfl)) U (.cons (st_storea (l' := [.bool false, .int .i64 0]) U U U ty67 U U U .h U U (.a U U U ?_))))))
 refine .go idQ (.ret idQ (retv2 Try.results50 (.c 0 rfl rfl ty67) (.t rfl) .n ⟨(by obtain ⟨e1, e2⟩ := task_no (x := x) oO oO oO; rw [e1, e2]), rfl⟩))
theorem rof_ (x : Vis) (S : Nat → Prop) (wf : World) :
  TR0 Try.prog 23 [.agg #[.int .i64 x.kind, .int .i64 x.item]] [] S wf (fun v_ C_ => v_ = .tuple #[.agg #[.bool ((taskV x).ship), .int .i64 ((taskV x).item)], .bool (isTask x)] ∧ C_ = []) := by
 refine TR.mk Try.func23 U Try.ntmps23 U U (fun w_ => ?_)
 refine .seq (.region (.cons (st_boxa U U U U U (fun b1 => (.cons (st_alloc U U U U zf67 (fun b2 => (.a U U U ?_))))))))
 refine .go idQ (.seq (.seq (.region (.v (ev_fa U fo83_0 U (r := 0) U) U (.v (ev_ld1 U ty81 U (At.own1 1 U U)) U (.v (ev_cmp U U U U) U ?_))))))
 refine .go idQ (.condI U bE (fun h3 => ?_) (fun h3 => ?_))
 ·
  refine .seq (.region (.v (ev_fa U fo83_1 U (r := 1) U) U (.v (ev_ld1 U ty3 U (At.own1 1 U U)) U (.v (ev_any (v := .agg #[.bool false, .int .i64 x.item]) U kR (fun _ => by kernel_rfl)) U ?_))))
  refine .cons (st_storea (l' := [.bool false, .int .i64 x.item]) U U U ty67 U U U .h U U ?_)
  refine .a rfl rfl rfl (.go idQ (.ret idQ (retv2 Try.results23 (.c 0 rfl rfl ty67) (.t rfl) .n ⟨(by obtain ⟨e1, e2⟩ := task1 (x := x) oO; rw [e1, e2]), rfl⟩)))
 refine .skipgo idQ (.seq (.seq (.region (.v (ev_fa U fo83_0 U (r := 0) U) U (.v (ev_ld1 U ty81 U (At.own1 1 U U)) U (.v (ev_cmp U U U U) U ?_))))))
 refine .m U U U (.w (fun _ => ev_fa U fo83_0 U (r := 0) U) U (.w (fun hb => ev_ld1 U ty81 (lkg U hb) (At.own1 1 U U)) U (.w (fun hb => ev_cmp U (lkg U hb) U U) U ?_)))
 refine .v (ev_or U U U U) U (.go idQ (.condI U (bO bE bE) (fun h4 => ?_) (fun h4 => ?_)))
 ·
  refine .seq (.region (.v (ev_fa U fo83_1 U (r := 1) U) U (.v (ev_ld1 U ty3 U (At.own1 1 U U)) U (.v (ev_any (v := .agg #[.bool true, .int .i64 x.item]) U kR (fun _ => by kernel_rfl)) U ?_))))
  refine .cons (st_storea (l' := [.bool true, .int .i64 x.item]) U U U ty67 U U U .h U U ?_)
  refine .a rfl rfl rfl (.go idQ (.ret idQ (retv2 Try.results23 (.c 0 rfl rfl ty67) (.t rfl) .n ⟨(by have hk_ : x.kind = 2 ∨ x.kind = 3 := oO; obtain ⟨e1, e2⟩ := task23 hk_; rw [e1, e2]), rfl⟩)))
 refine .skipgo idQ (.seq (.region (.v (ev_any (v := .agg #[.bool false, .int .i64 0]) U kR (fun _ => by kernel_rfl)) U (.cons (st_storea (l' := [.bool false, .int .i64 0]) U U U ty67 U U U .h U U (.a U U U ?_))))))
 refine .go idQ (.ret idQ (retv2 Try.results23 (.c 0 rfl rfl ty67) (.t rfl) .n ⟨(by obtain ⟨e1, e2⟩ := task_no (x := x) oO oO oO; rw [e1, e2]), rfl⟩))
theorem mvis_ (t : TK) (S : Nat → Prop) (wf : World) :
  TR0 Try.prog 42 [.agg #[.bool t.ship, .int .i64 t.item]] [] S wf (fun v_ C_ => ∃ (u : Value), v_ = u ∧ C_ = [rw_ eVis 83 (u) (visT t)]) := by
 refine TR.mk Try.func42 U Try.ntmps42 U U (fun w_ => ?_)
 refine .seq (.region (.cons (st_boxa U U U U U (fun b1 => (.a U U U (.go idQ (.seq (.seq (.region ?_)))))))))
 refine .v (ev_fa U fo67_0 U (r := 0) U) U (.v (ev_ld1 U ty4 U (At.own1 0 U U)) U (.go idQ (.condI U bV (fun h2 => ?_) (fun h2 => ?_))))
 ·
  refine .seq (.region (.v (ev_fa U fo67_1 U (r := 1) U) U (.v (ev_ld1 U ty3 U (At.own1 0 U U)) U (.v (ev_any (v := .agg #[.int .i64 2, .int .i64 t.item]) U kR (fun _ => by kernel_rfl)) U ?_))))
  refine .v (ev_fa U fo67_1 U (r := 1) U) U (.v (ev_ld1 U ty3 U (At.own1 0 U U)) U (.v (ev_any (v := .agg #[.int .i64 3, .int .i64 t.item]) U kR (fun _ => by kernel_rfl)) U (.cons (st_lit eVis (e := 83) (l := [(Vis.mk 2 t.item), (Vis.mk 3 t.item)]) U U U U kR U U kW (fun b3 => ?_)))))
  refine .a U U U (.go idQ (.ret idQ (ret1 Try.results42 U (.c .h .n) ⟨.slice (some ⟨b3, 0, none⟩) 2 2, U, (by unfold visT; rw [if_pos (by assumption)])⟩)))
 refine .skipgo idQ (.seq (.region (.v (ev_fa U fo67_1 U (r := 1) U) U (.v (ev_ld1 U ty3 U (At.own1 0 U U)) U (.v (ev_any (v := .agg #[.int .i64 1, .int .i64 t.item]) U kR (fun _ => by kernel_rfl)) U ?_)))))
 refine .cons (st_lit eVis (e := 83) (l := [(Vis.mk 1 t.item)]) U U U U kR U U kW (fun b4 => ?_))
 refine .a U U U (.go idQ (.ret idQ (ret1 Try.results42 U (.c .h .n) ⟨.slice (some ⟨b4, 0, none⟩) 1 1, U, (by unfold visT; rw [if_neg (by assumption)])⟩)))
theorem stop_ (p : PB) (x : Vis) (S : Nat → Prop) (wf : World) (hPB : PBF S wf p) (hw : ∀ y, (stopD p y).sws.length ≤ 1000) :
  TR0 Try.prog 81 [.agg (cPB p).toArray, .agg #[.int .i64 x.kind, .int .i64 x.item]] [] S wf (fun v_ C_ => ∃ (u : Value), v_ = .tuple #[.agg #[.int .i64 ((stopD p x).pl), .int .i64 ((stopD p x).srv), u], .bool (isStop p x)] ∧ C_ = [rw_ eWN 34 (u) ((stopD p x).sws)]) := by
 have hlj := hPB.2.2.2.1.1.len
 have hls := hPB.2.2.2.2.1.len
 have hlv := hPB.2.2.1.1.len
 refine TR.mk Try.func81 U Try.ntmps81 U U (fun w_ => ?_)
 refine .seq (.region (.cons (st_boxa U U U U U (fun b1 => (.cons (st_boxa U U U U U (fun b2 => (.cons (st_alloc U U U U zf51 (fun b3 => ?_))))))))))
 refine .a U U U (.go idQ (.seq (.region (.v (ev_lda U U (At.whole 1 U) ty83) U (.cons (st_callk U U U U hbd50 U .n (of_ x _ _) ?_))))))
 refine .m U U U (.v (ev_ext U U U) U (.v (ev_ext U U U) U (.cons (st_alloc U U U U zf67 (fun b4 => ?_)))))
 refine .cons (st_storea (l' := [.bool ((taskV x).ship), .int .i64 ((taskV x).item)]) U U U ty67 U U U .h U U ?_)
 refine .a U U U (.go idQ (.seq (.seq (.region (.m U U U (.v (ev_not U U) U ?_))))))
 refine .m U U U (.w (fun _ => ev_lda U U (At.whole 3 U) ty29) U (.w (fun _ => ev_lda U U (At.whole 0 U) ty67) U (.cons (st_gcallk U U U U U U hbd57 (fun hb => (lkA1 (lkg U hb) (lkA1 (lkg U hb) lkA0))) .n (fun hb => have hp := bF (bN bV) hb; there_ p (taskV x) _ _ hPB) ?_))))
 refine .w (fun hb => ev_not U (lkg U hb)) U (.v (ev_or U U U U) U (.go idQ (.condI U (bO (bN bV) (bN bV)) (fun h5 => ?_) (fun h5 => ?_))))
 ·
  refine .seq ?_
  refine SC.nilrow eWN 34 ?_
  refine .region (.v (ev_any (v := .agg #[.int .i64 0, .int .i64 0, .slice none 0 0]) U kR (fun _ => by kernel_rfl)) U (.cons (st_storea (l' := [.int .i64 0, .int .i64 0, .slice none 0 0]) U U U ty51 U U U (.t (.t .h)) U U (.a U U U ?_))))
  refine .go idQ (.ret idQ (retv2 Try.results81 (.c 0 rfl rfl ty51) (.t rfl) (.c (.t .h) .n) ⟨.slice none 0 0, (by obtain ⟨e1, e2⟩ := stop_no (p := p) (x := x) (by assumption); rw [e1, e2]; rfl), (by obtain ⟨e1, e2⟩ := stop_no (p := p) (x := x) (by assumption); rw [e2]; rfl)⟩))
 refine .skipgo idQ (.seq (.region (.v (ev_any (v := .agg #[.int .i64 0, .int .i64 0, .slice none 0 0]) U kR (fun _ => by kernel_rfl)) U (.cons (st_alloc U U U U zf51 (fun b6 => (.cons (st_storea (l' := [.int .i64 0, .int .i64 0, .slice none 0 0]) U U U ty51 U U U .h U U ?_))))))))
 refine .go idQ (.seq (.seq (.region (.v (ev_fa U fo83_0 U (r := 0) U) U (.v (ev_ld1 U ty81 U (At.own1 3 U U)) U (.go idQ (.block (.seq (.region ?_)))))))))
 refine .v (ev_cmp U U U U) U (.a U U U (.go idQ (.condI U bE (fun h7 => ?_) (fun h7 => ?_))))
 ·
  have hin := stop_i1 (p := p) (x := x) (by assumption) (by assumption)
  refine .region (.v (ev_fa U fo29_4 U (r := 6) U) U (.v (ev_ld1 U ty26 U (At.own1 4 U U)) U (.v (ev_fa U fo83_1 U (r := 1) U) U ?_)))
  refine .v (ev_ld1 U ty3 U (At.own1 3 U U)) U (.v (ev_ix U Try.underlying26 ty53 U U oO oO (fun _ _ => Fr.adr (i := x.item) hPB.2.2.2.1.1 oO oO)) U (.v (ev_fa U fo53_0 U (r := ao p.pjA + (x.item).toNat * 7) U) U (.v (ev_lda (cs := [.int .i64 (((gt p.jobs x.item).so).pl), .int .i64 (((gt p.jobs x.item).so).srv), .slice (((gt p.jobs x.item).so).soA) (((gt p.jobs x.item).so).sws.length) (((gt p.jobs x.item).so).soc)]) U U (At.elemn (At.w (Fr.el (i := x.item) hPB.2.2.2.1.1 oO oO)) 0 U) ty51) U ?_)))
  refine .cons (st_storea (l' := [.int .i64 (((gt p.jobs x.item).so).pl), .int .i64 (((gt p.jobs x.item).so).srv), .slice (((gt p.jobs x.item).so).soA) (((gt p.jobs x.item).so).sws.length) (((gt p.jobs x.item).so).soc)]) U U U ty51 U U U .h U U ?_)
  refine .go idQ (.seq (.region (.v (ev_fa rfl fo51_2 rfl (r := 2) rfl) rfl (.v (ev_ld1 rfl ty49 rfl (At.own1 0 rfl rfl)) rfl (.cons (st_call0 rfl rfl rfl rfl hbd95 rfl .n (clonew (((gt p.jobs x.item).so).soA) (((gt p.jobs x.item).so).sws.length) (((gt p.jobs x.item).so).soc) (((gt p.jobs x.item).so).sws) _ _ ((hPB.2.2.2.1.2 x.item).2.2) lO (by obtain ⟨e1, e2⟩ := stop_yes (p := p) (x := x) (by assumption); have hw1 := hw x; rw [e2, stopO1 (by assumption)] at hw1; omega)) (fun v_q9 C_q9 q9 => ?_)))))))
  obtain ⟨v8, rfl, rfl⟩ := q9
  show SP _ _ _ _ _ _ ⟨_, _ :: _, _, _⟩
  refine .v (ev_fa U fo51_2 U (r := 2) U) U (.know (row_len 0 U) (fun hv12 => ?_))
  obtain ⟨A10, c11, rfl, hv12_1, hv12_2⟩ := hv12
  unfold maxLen at hv12_2
  refine .cons (st_store1 U U U ty49 U U U (.t .h) (.t (.t .h)) ?_)
  refine .go idQ (.seq (.region (.v (ev_lda U U (At.whole 0 U) ty51) U (.cons (st_storea (l' := [.int .i64 (((gt p.jobs x.item).so).pl), .int .i64 (((gt p.jobs x.item).so).srv), .slice A10 ((((gt p.jobs x.item).so).sws).length) c11]) U U U ty51 U U U (.t (.t (.t .h))) U U (.a U U U ?_))))))
  refine .go idQ (.ret idQ (retv2 Try.results81 (.c 0 rfl rfl ty51) (.t rfl) (.c (.t (.t .h)) .n) ⟨.slice A10 ((((gt p.jobs x.item).so).sws).length) c11, (by obtain ⟨e1, e2⟩ := stop_yes (p := p) (x := x) (by assumption); rw [e1, e2, stopO1 (by assumption)]), (by obtain ⟨e1, e2⟩ := stop_yes (p := p) (x := x) (by assumption); rw [e2, stopO1 (by assumption)])⟩))
 refine .seq (.region (.v (ev_cmp U U U U) U (.a U U U (.go idQ ?_))))
 refine .condI U bE (fun h13 => ?_) (fun h13 => ?_)
 ·
  have hin := stop_i2 (p := p) (x := x) (by assumption) (by assumption)
  refine .region (.v (ev_fa U fo29_5 U (r := 7) U) U (.v (ev_ld1 U ty27 U (At.own1 4 U U)) U (.v (ev_fa U fo83_1 U (r := 1) U) U ?_)))
  refine .v (ev_ld1 U ty3 U (At.own1 3 U U)) U (.v (ev_ix U Try.underlying27 ty55 U U oO oO (fun _ _ => Fr.adr (i := x.item) hPB.2.2.2.2.1 oO oO)) U (.v (ev_fa U fo55_0 U (r := ao p.psA + (x.item).toNat * 9) U) U (.v (ev_lda (cs := [.int .i64 (((gt p.ships x.item).sp).pl), .int .i64 (((gt p.ships x.item).sp).srv), .slice (((gt p.ships x.item).sp).soA) (((gt p.ships x.item).sp).sws.length) (((gt p.ships x.item).sp).soc)]) U U (At.elemn (At.w (Fr.el (i := x.item) hPB.2.2.2.2.1 oO oO)) 0 U) ty51) U ?_)))
  refine .cons (st_storea (l' := [.int .i64 (((gt p.ships x.item).sp).pl), .int .i64 (((gt p.ships x.item).sp).srv), .slice (((gt p.ships x.item).sp).soA) (((gt p.ships x.item).sp).sws.length) (((gt p.ships x.item).sp).soc)]) U U U ty51 U U U .h U U ?_)
  refine .go idQ (.seq (.region (.v (ev_fa rfl fo51_2 rfl (r := 2) rfl) rfl (.v (ev_ld1 rfl ty49 rfl (At.own1 0 rfl rfl)) rfl (.cons (st_call0 rfl rfl rfl rfl hbd95 rfl .n (clonew (((gt p.ships x.item).sp).soA) (((gt p.ships x.item).sp).sws.length) (((gt p.ships x.item).sp).soc) (((gt p.ships x.item).sp).sws) _ _ ((hPB.2.2.2.2.2 x.item).2.1) lO (by obtain ⟨e1, e2⟩ := stop_yes (p := p) (x := x) (by assumption); have hw1 := hw x; rw [e2, stopO2 (by assumption)] at hw1; omega)) (fun v_q15 C_q15 q15 => ?_)))))))
  obtain ⟨v14, rfl, rfl⟩ := q15
  show SP _ _ _ _ _ _ ⟨_, _ :: _, _, _⟩
  refine .v (ev_fa U fo51_2 U (r := 2) U) U (.know (row_len 0 U) (fun hv18 => ?_))
  obtain ⟨A16, c17, rfl, hv18_1, hv18_2⟩ := hv18
  unfold maxLen at hv18_2
  refine .cons (st_store1 U U U ty49 U U U (.t .h) (.t (.t .h)) ?_)
  refine .go idQ (.seq (.region (.v (ev_lda U U (At.whole 0 U) ty51) U (.cons (st_storea (l' := [.int .i64 (((gt p.ships x.item).sp).pl), .int .i64 (((gt p.ships x.item).sp).srv), .slice A16 ((((gt p.ships x.item).sp).sws).length) c17]) U U U ty51 U U U (.t (.t (.t .h))) U U (.a U U U ?_))))))
  refine .go idQ (.ret idQ (retv2 Try.results81 (.c 0 rfl rfl ty51) (.t rfl) (.c (.t (.t .h)) .n) ⟨.slice A16 ((((gt p.ships x.item).sp).sws).length) c17, (by obtain ⟨e1, e2⟩ := stop_yes (p := p) (x := x) (by assumption); rw [e1, e2, stopO2 (by assumption)]), (by obtain ⟨e1, e2⟩ := stop_yes (p := p) (x := x) (by assumption); rw [e2, stopO2 (by assumption)])⟩))
 have hin := stop_i2 (p := p) (x := x) (by assumption) (by assumption)
 refine .region (.v (ev_fa U fo29_5 U (r := 7) U) U (.v (ev_ld1 U ty27 U (At.own1 4 U U)) U (.v (ev_fa U fo83_1 U (r := 1) U) U ?_)))
 refine .v (ev_ld1 U ty3 U (At.own1 3 U U)) U (.v (ev_ix U Try.underlying27 ty55 U U oO oO (fun _ _ => Fr.adr (i := x.item) hPB.2.2.2.2.1 oO oO)) U (.v (ev_fa U fo55_1 U (r := ao p.psA + (x.item).toNat * 9 + 3) U) U (.v (ev_lda (cs := [.int .i64 (((gt p.ships x.item).sd).pl), .int .i64 (((gt p.ships x.item).sd).srv), .slice (((gt p.ships x.item).sd).soA) (((gt p.ships x.item).sd).sws.length) (((gt p.ships x.item).sd).soc)]) U U (At.elemn (At.w (Fr.el (i := x.item) hPB.2.2.2.2.1 oO oO)) 3 U) ty51) U ?_)))
 refine .cons (st_storea (l' := [.int .i64 (((gt p.ships x.item).sd).pl), .int .i64 (((gt p.ships x.item).sd).srv), .slice (((gt p.ships x.item).sd).soA) (((gt p.ships x.item).sd).sws.length) (((gt p.ships x.item).sd).soc)]) U U U ty51 U U U .h U U ?_)
 refine .go idQ (.seq (.region (.v (ev_fa rfl fo51_2 rfl (r := 2) rfl) rfl (.v (ev_ld1 rfl ty49 rfl (At.own1 0 rfl rfl)) rfl (.cons (st_call0 rfl rfl rfl rfl hbd95 rfl .n (clonew (((gt p.ships x.item).sd).soA) (((gt p.ships x.item).sd).sws.length) (((gt p.ships x.item).sd).soc) (((gt p.ships x.item).sd).sws) _ _ ((hPB.2.2.2.2.2 x.item).2.2) lO (by obtain ⟨e1, e2⟩ := stop_yes (p := p) (x := x) (by assumption); have hw1 := hw x; rw [e2, stopO3 (by assumption) (by assumption)] at hw1; omega)) (fun v_q20 C_q20 q20 => ?_)))))))
 obtain ⟨v19, rfl, rfl⟩ := q20
 show SP _ _ _ _ _ _ ⟨_, _ :: _, _, _⟩
 refine .v (ev_fa U fo51_2 U (r := 2) U) U (.know (row_len 0 U) (fun hv23 => ?_))
 obtain ⟨A21, c22, rfl, hv23_1, hv23_2⟩ := hv23
 unfold maxLen at hv23_2
 refine .cons (st_store1 U U U ty49 U U U (.t .h) (.t (.t .h)) ?_)
 refine .go idQ (.seq (.region (.v (ev_lda U U (At.whole 0 U) ty51) U (.cons (st_storea (l' := [.int .i64 (((gt p.ships x.item).sd).pl), .int .i64 (((gt p.ships x.item).sd).srv), .slice A21 ((((gt p.ships x.item).sd).sws).length) c22]) U U U ty51 U U U (.t (.t (.t .h))) U U (.a U U U ?_))))))
 refine .go idQ (.ret idQ (retv2 Try.results81 (.c 0 rfl rfl ty51) (.t rfl) (.c (.t (.t .h)) .n) ⟨.slice A21 ((((gt p.ships x.item).sd).sws).length) c22, (by obtain ⟨e1, e2⟩ := stop_yes (p := p) (x := x) (by assumption); rw [e1, e2, stopO3 (by assumption) (by assumption)]), (by obtain ⟨e1, e2⟩ := stop_yes (p := p) (x := x) (by assumption); rw [e2, stopO3 (by assumption) (by assumption)])⟩))
theorem rstop_ (p : PB) (x : Vis) (S : Nat → Prop) (wf : World) (hPB : PBF S wf p) :
  TR0 Try.prog 72 [.agg (cPB p).toArray, .agg #[.int .i64 x.kind, .int .i64 x.item]] [] S wf (fun v_ C_ => v_ = .tuple #[.agg #[.int .i64 ((stopD p x).pl), .int .i64 ((stopD p x).srv), .slice ((stopD p x).soA) ((stopD p x).sws.length) ((stopD p x).soc)], .bool (isStop p x)] ∧ C_ = []) := by
 have hlj := hPB.2.2.2.1.1.len
 have hls := hPB.2.2.2.2.1.len
 have hlv := hPB.2.2.1.1.len
 refine TR.mk Try.func72 U Try.ntmps72 U U (fun w_ => ?_)
 refine .seq (.region (.cons (st_boxa U U U U U (fun b1 => (.cons (st_boxa U U U U U (fun b2 => (.cons (st_alloc U U U U zf51 (fun b3 => ?_))))))))))
 refine .a U U U (.go idQ (.seq (.region (.v (ev_lda U U (At.whole 1 U) ty83) U (.cons (st_callk U U U U hbd23 U .n (rof_ x _ _) ?_))))))
 refine .m U U U (.v (ev_ext U U U) U (.v (ev_ext U U U) U (.cons (st_alloc U U U U zf67 (fun b4 => ?_)))))
 refine .cons (st_storea (l' := [.bool ((taskV x).ship), .int .i64 ((taskV x).item)]) U U U ty67 U U U .h U U ?_)
 refine .a U U U (.go idQ (.seq (.seq (.region (.m U U U (.v (ev_not U U) U ?_))))))
 refine .m U U U (.w (fun _ => ev_lda U U (At.whole 3 U) ty29) U (.w (fun _ => ev_lda U U (At.whole 0 U) ty67) U (.cons (st_gcallk U U U U U U hbd53 (fun hb => (lkA1 (lkg U hb) (lkA1 (lkg U hb) lkA0))) .n (fun hb => have hp := bF (bN bV) hb; rthere_ p (taskV x) _ _ hPB) ?_))))
 refine .w (fun hb => ev_not U (lkg U hb)) U (.v (ev_or U U U U) U (.go idQ (.condI U (bO (bN bV) (bN bV)) (fun h5 => ?_) (fun h5 => ?_))))
 ·
  refine .seq (.region (.v (ev_any (v := .agg #[.int .i64 0, .int .i64 0, .slice none 0 0]) U kR (fun _ => by kernel_rfl)) U (.cons (st_storea (l' := [.int .i64 0, .int .i64 0, .slice none 0 0]) U U U ty51 U U U (.t .h) U U (.a U U U ?_)))))
  refine .go idQ (.ret idQ (retv2 Try.results72 (.c 0 rfl rfl ty51) (.t rfl) .n ⟨(by obtain ⟨e1, e2⟩ := stop_no (p := p) (x := x) (by assumption); rw [e1, e2]; rfl), rfl⟩))
 refine .skipgo idQ (.seq (.seq (.region (.v (ev_fa U fo83_0 U (r := 0) U) U (.v (ev_ld1 U ty81 U (At.own1 2 U U)) U (.v (ev_cmp U U U U) U ?_))))))
 refine .go idQ (.condI U bE (fun h6 => ?_) (fun h6 => ?_))
 ·
  refine .seq ?_
  have hin := stop_i1 (p := p) (x := x) (by assumption) (by assumption)
  refine .region (.v (ev_fa U fo29_4 U (r := 6) U) U (.v (ev_ld1 U ty26 U (At.own1 3 U U)) U (.v (ev_fa U fo83_1 U (r := 1) U) U ?_)))
  refine .v (ev_ld1 U ty3 U (At.own1 2 U U)) U (.v (ev_ix U Try.underlying26 ty53 U U oO oO (fun _ _ => Fr.adr (i := x.item) hPB.2.2.2.1.1 oO oO)) U (.v (ev_fa U fo53_0 U (r := ao p.pjA + (x.item).toNat * 7) U) U (.v (ev_lda (cs := [.int .i64 (((gt p.jobs x.item).so).pl), .int .i64 (((gt p.jobs x.item).so).srv), .slice (((gt p.jobs x.item).so).soA) (((gt p.jobs x.item).so).sws.length) (((gt p.jobs x.item).so).soc)]) U U (At.elemn (At.w (Fr.el (i := x.item) hPB.2.2.2.1.1 oO oO)) 0 U) ty51) U ?_)))
  refine .cons (st_storea (l' := [.int .i64 (((gt p.jobs x.item).so).pl), .int .i64 (((gt p.jobs x.item).so).srv), .slice (((gt p.jobs x.item).so).soA) (((gt p.jobs x.item).so).sws.length) (((gt p.jobs x.item).so).soc)]) U U U ty51 U U U (.t .h) U U ?_)
  refine .a rfl rfl rfl (.go idQ (.ret idQ (retv2 Try.results72 (.c 0 rfl rfl ty51) (.t rfl) .n ⟨(by obtain ⟨e1, e2⟩ := stop_yes (p := p) (x := x) (by assumption); rw [e1, e2, stopO1 (by assumption)]), rfl⟩)))
 refine .skipgo idQ (.seq (.seq (.region (.v (ev_fa U fo83_0 U (r := 0) U) U (.v (ev_ld1 U ty81 U (At.own1 2 U U)) U (.v (ev_cmp U U U U) U ?_))))))
 refine .go idQ (.condI U bE (fun h7 => ?_) (fun h7 => ?_))
 ·
  refine .seq ?_
  have hin := stop_i2 (p := p) (x := x) (by assumption) (by assumption)
  refine .region (.v (ev_fa U fo29_5 U (r := 7) U) U (.v (ev_ld1 U ty27 U (At.own1 3 U U)) U (.v (ev_fa U fo83_1 U (r := 1) U) U ?_)))
  refine .v (ev_ld1 U ty3 U (At.own1 2 U U)) U (.v (ev_ix U Try.underlying27 ty55 U U oO oO (fun _ _ => Fr.adr (i := x.item) hPB.2.2.2.2.1 oO oO)) U (.v (ev_fa U fo55_0 U (r := ao p.psA + (x.item).toNat * 9) U) U (.v (ev_lda (cs := [.int .i64 (((gt p.ships x.item).sp).pl), .int .i64 (((gt p.ships x.item).sp).srv), .slice (((gt p.ships x.item).sp).soA) (((gt p.ships x.item).sp).sws.length) (((gt p.ships x.item).sp).soc)]) U U (At.elemn (At.w (Fr.el (i := x.item) hPB.2.2.2.2.1 oO oO)) 0 U) ty51) U ?_)))
  refine .cons (st_storea (l' := [.int .i64 (((gt p.ships x.item).sp).pl), .int .i64 (((gt p.ships x.item).sp).srv), .slice (((gt p.ships x.item).sp).soA) (((gt p.ships x.item).sp).sws.length) (((gt p.ships x.item).sp).soc)]) U U U ty51 U U U (.t .h) U U ?_)
  refine .a rfl rfl rfl (.go idQ (.ret idQ (retv2 Try.results72 (.c 0 rfl rfl ty51) (.t rfl) .n ⟨(by obtain ⟨e1, e2⟩ := stop_yes (p := p) (x := x) (by assumption); rw [e1, e2, stopO2 (by assumption)]), rfl⟩)))
 refine .skipgo idQ (.seq ?_)
 have hin := stop_i2 (p := p) (x := x) (by assumption) (by assumption)
 refine .region (.v (ev_fa U fo29_5 U (r := 7) U) U (.v (ev_ld1 U ty27 U (At.own1 3 U U)) U (.v (ev_fa U fo83_1 U (r := 1) U) U ?_)))
 refine .v (ev_ld1 U ty3 U (At.own1 2 U U)) U (.v (ev_ix U Try.underlying27 ty55 U U oO oO (fun _ _ => Fr.adr (i := x.item) hPB.2.2.2.2.1 oO oO)) U (.v (ev_fa U fo55_1 U (r := ao p.psA + (x.item).toNat * 9 + 3) U) U (.v (ev_lda (cs := [.int .i64 (((gt p.ships x.item).sd).pl), .int .i64 (((gt p.ships x.item).sd).srv), .slice (((gt p.ships x.item).sd).soA) (((gt p.ships x.item).sd).sws.length) (((gt p.ships x.item).sd).soc)]) U U (At.elemn (At.w (Fr.el (i := x.item) hPB.2.2.2.2.1 oO oO)) 3 U) ty51) U ?_)))
 refine .cons (st_storea (l' := [.int .i64 (((gt p.ships x.item).sd).pl), .int .i64 (((gt p.ships x.item).sd).srv), .slice (((gt p.ships x.item).sd).soA) (((gt p.ships x.item).sd).sws.length) (((gt p.ships x.item).sd).soc)]) U U U ty51 U U U (.t .h) U U ?_)
 refine .a rfl rfl rfl (.go idQ (.ret idQ (retv2 Try.results72 (.c 0 rfl rfl ty51) (.t rfl) .n ⟨(by obtain ⟨e1, e2⟩ := stop_yes (p := p) (x := x) (by assumption); rw [e1, e2, stopO3 (by assumption) (by assumption)]), rfl⟩)))
theorem cell_ (n : Int) (A : Option Addr) (c : Nat) (l : List Int) (f : Int) (t : Int) (S : Nat → Prop) (wf : World) (hA : Fr eZ S wf A l) (hn : 1 ≤ n ∧ n ≤ 32) (hl : (l.length : Int) = n * n) :
  TR0 Try.prog 80 [.agg #[.int .i64 n, .slice A l.length c], .int .i64 f, .int .i64 t] [] S wf (fun v_ C_ => v_ = .int .i64 (cellF n l f t) ∧ C_ = []) := by
 have hmr := mul_rng (f := f) (n := n) hn.2
 have hci := cell_in (f := f) (t := t) (n := n)
 refine TR.mk Try.func80 U Try.ntmps80 U U (fun w_ => ?_)
 refine .seq (.region (.cons (st_boxa U U U U U (fun b1 => (.a U U U (.go idQ (.seq (.seq (.region ?_)))))))))
 refine .m U U U (.v (ev_cmp U U U U) U (.m U U U (.w (fun _ => ev_mv U U) U ?_)))
 refine .w (fun hb => ev_cmp U (lkg U hb) U U) U (.v (ev_or U U U U) U (.m U U U (.w (fun _ => ev_mv U U) U ?_)))
 refine .w (fun _ => ev_fa U fo24_0 U (r := 0) U) U (.w (fun hb => ev_ld1 U ty3 (lkg U hb) (At.own1 0 U U)) U (.w (fun hb => ev_cmp U (lkg U hb) (lkg U hb) U) U (.v (ev_or U U U U) U ?_)))
 refine .m U U U (.w (fun _ => ev_mv U U) U (.w (fun _ => ev_fa U fo24_0 U (r := 0) U) U (.w (fun hb => ev_ld1 U ty3 (lkg U hb) (At.own1 0 U U)) U ?_)))
 refine .w (fun hb => ev_cmp U (lkg U hb) (lkg U hb) U) U (.v (ev_or U U U U) U (.m U U U (.w (fun _ => ev_mv U U) U ?_)))
 refine .w (fun _ => ev_fa U fo24_0 U (r := 0) U) U (.w (fun hb => ev_ld1 U ty3 (lkg U hb) (At.own1 0 U U)) U (.w (fun hb => have hp := bF (bO (bO (bO bD bD) bD) bD) hb; ev_mul U (lkg U hb) (lkg U hb) (r := (f * n)) U (by have _h := hp; omega) (by have _h := hp; omega)) U (.w (fun _ => ev_mv U U) U ?_)))
 refine .w (fun hb => have hp := bF (bO (bO (bO bD bD) bD) bD) hb; ev_add U (lkg U hb) (lkg U hb) (r := ((f * n) + t)) U (by have _h := hp; omega) (by have _h := hp; omega)) U (.w (fun _ => ev_fa U fo24_1 U (r := 1) U) U (.w (fun hb => ev_ld1 U ty22 (lkg U hb) (At.own1 0 U U)) U (.w (fun hb => ev_len U Try.underlying22 (lkg U hb)) U ?_)))
 refine .w (fun hb => ev_cmp U (lkg U hb) (lkg U hb) U) U (.v (ev_or U U U U) U (.go idQ (.condI U (bO (bO (bO (bO bD bD) bD) bD) bD) (fun h2 => ?_) (fun h2 => ?_))))
 ·
  refine .seq (.region (.a U U U (.go idQ (.ret idQ (ret1 Try.results80 U .n ⟨(congrArg (Value.int .i64) (by unfold cellF; rw [if_pos oO])), U⟩)))))
 refine .skipgo idQ (.seq (.region (.v (ev_fa U fo24_1 U (r := 1) U) U (.v (ev_ld1 U ty22 U (At.own1 0 U U)) U (.m U U U ?_)))))
 refine .v (ev_fa U fo24_0 U (r := 0) U) U (.v (ev_ld1 U ty3 U (At.own1 0 U U)) U (.v (ev_mul U U U (r := (f * n)) U oO oO) U (.m U U U ?_)))
 refine .v (ev_add U U U (r := ((f * n) + t)) U oO oO) U (.v (ev_ix U Try.underlying22 ty3 U U oO oO (fun _ _ => Fr.adr (i := ((f * n) + t)) hA oO oO)) U (.v (ev_ld1 U ty3 U (At.elem1 (At.w (Fr.el (i := ((f * n) + t)) hA oO oO)) 0 U)) U (.a U U U ?_)))
 refine .go idQ (.ret idQ (ret1 Try.results80 U .n ⟨(congrArg (Value.int .i64) (by unfold cellF; rw [if_neg oO])), U⟩))
theorem rcell_ (n : Int) (A : Option Addr) (c : Nat) (l : List Int) (f : Int) (t : Int) (S : Nat → Prop) (wf : World) (hA : Fr eZ S wf A l) (hn : 1 ≤ n ∧ n ≤ 32) (hl : (l.length : Int) = n * n) :
  TR0 Try.prog 73 [.agg #[.int .i64 n, .slice A l.length c], .int .i64 f, .int .i64 t] [] S wf (fun v_ C_ => v_ = .int .i64 (cellF n l f t) ∧ C_ = []) := by
 have hmr := mul_rng (f := f) (n := n) hn.2
 have hci := cell_in (f := f) (t := t) (n := n)
 refine TR.mk Try.func73 U Try.ntmps73 U U (fun w_ => ?_)
 refine .seq (.region (.cons (st_boxa U U U U U (fun b1 => (.a U U U (.go idQ (.seq (.seq (.region ?_)))))))))
 refine .m U U U (.v (ev_fa U fo24_0 U (r := 0) U) U (.v (ev_ld1 U ty3 U (At.own1 0 U U)) U (.v (ev_sub U U U (r := (n - 1)) U oO oO) U ?_)))
 refine .cons (st_callk U U U U hbd25 U .n (up_ f (n - 1) _ _) ?_)
 refine .v (ev_not U U) U (.m U U U (.w (fun _ => ev_mv U U) U (.w (fun _ => ev_fa U fo24_0 U (r := 0) U) U ?_)))
 refine .w (fun hb => ev_ld1 U ty3 (lkg U hb) (At.own1 0 U U)) U (.w (fun hb => have hp := bF (bN (bA bD bD)) hb; ev_sub U (lkg U hb) U (r := (n - 1)) U (by have _h := hp; omega) (by have _h := hp; omega)) U (.cons (st_gcallk U U U U U U hbd25 (fun hb => (lkA1 (lkg U hb) (lkA1 (lkg U hb) lkA0))) .n (fun hb => have hp := bF (bN (bA bD bD)) hb; up_ t (n - 1) _ _) (.w (fun hb => ev_not U (lkg U hb)) U ?_))))
 refine .v (ev_or U U U U) U (.go idQ (.condI U (bO (bN (bA bD bD)) (bN (bA bD bD))) (fun h2 => ?_) (fun h2 => ?_)))
 ·
  refine .seq (.region (.a U U U (.go idQ (.ret idQ (ret1 Try.results73 U .n ⟨(congrArg (Value.int .i64) (by unfold cellF; rw [if_pos oO])), U⟩)))))
 refine .skipgo idQ (.seq (.region (.v (ev_fa U fo24_1 U (r := 1) U) U (.v (ev_ld1 U ty22 U (At.own1 0 U U)) U (.m U U U ?_)))))
 refine .v (ev_fa U fo24_0 U (r := 0) U) U (.v (ev_ld1 U ty3 U (At.own1 0 U U)) U (.v (ev_mul U U U (r := (f * n)) U oO oO) U (.m U U U ?_)))
 refine .v (ev_add U U U (r := ((f * n) + t)) U oO oO) U (.v (ev_ix U Try.underlying22 ty3 U U oO oO (fun _ _ => Fr.adr (i := ((f * n) + t)) hA oO oO)) U (.v (ev_ld1 U ty3 U (At.elem1 (At.w (Fr.el (i := ((f * n) + t)) hA oO oO)) 0 U)) U (.a U U U ?_)))
 refine .go idQ (.ret idQ (ret1 Try.results73 U .n ⟨(congrArg (Value.int .i64) (by unfold cellF; rw [if_neg oO])), U⟩))
end Go.Proofs.Ytimhdimhdimbjaa.Sx
set_option maxRecDepth 20000
set_option maxHeartbeats 1000000
namespace Go.Proofs.Ytimhdimhdimbjaa.Sx.FC
open Go Go.SX Go.Proofs FA FB
theorem zf83 : (Try.prog.info? 83).bind (fun i => i.zero.map Value.cells) = some (List.toArray [.int .i64 0, .int .i64 0]) := by kernel_rfl
theorem hbd81 : hasBody Try.prog 81 = true := by kernel_rfl
theorem zv4 : (Try.prog.info? 4).bind (fun i => i.zero) = some (.bool false) := by kernel_rfl
theorem fo37_9 : fo Try.prog 37 9 = some 10 := by kernel_rfl
theorem ty35 : ty Try.prog 35 = some (false, 1) := by kernel_rfl
theorem fo37_3 : fo Try.prog 37 3 = some 3 := by kernel_rfl
theorem hbd41 : hasBody Try.prog 41 = true := by kernel_rfl
theorem hbd40 : hasBody Try.prog 40 = true := by kernel_rfl
theorem fo37_8 : fo Try.prog 37 8 = some 9 := by kernel_rfl
theorem fo29_0 : fo Try.prog 29 0 = some 0 := by kernel_rfl
theorem hbd39 : hasBody Try.prog 39 = true := by kernel_rfl
theorem fo53_1 : fo Try.prog 53 1 = some 3 := by kernel_rfl
theorem hbd43 : hasBody Try.prog 43 = true := by kernel_rfl
theorem hbd79 : hasBody Try.prog 79 = true := by kernel_rfl
theorem fo53_2 : fo Try.prog 53 2 = some 4 := by kernel_rfl
theorem hbd100 : hasBody Try.prog 100 = true := by kernel_rfl
theorem ai22 : (Try.prog.info? 22).map (fun i => (i.zero, i.size, i.bytes)) = some (some (.slice none 0 0), 1, 24) := by kernel_rfl
theorem fo55_2 : fo Try.prog 55 2 = some 6 := by kernel_rfl
theorem eqIn83 (d : Nat) (x0 y0 : Int) (x1 y1 : Int) (w : World) : (Op.equalIn (d + 3) 83 (.agg #[(.int .i64 x0), (.int .i64 x1)]) (.agg #[(.int .i64 y0), (.int .i64 y1)])).run Try.prog w = .ok ((x0 == y0) && (x1 == y1)) w := by
 rw [run_equalIn_struct w (d + 2) 83 _ _ kR kR]
 have hf : (Try.prog.fieldsOf 83).toList = [{ name := "Kind", type := 81, offset := 0, embedded := false, tag := "", pkgPath := "", byteOffset := 0 }, { name := "Item", type := 3, offset := 1, embedded := false, tag := "", pkgPath := "", byteOffset := 8 }] := by kernel_rfl
 rw [hf]
 have h81 : ∀ (x y : Int) (w : World), (Op.equalIn (d + 2) 81 (.int .i64 x) (.int .i64 y)).run Try.prog w = .ok (x == y) w := fun x y w => by
  simp [Op.equalIn, run_underlying Try.underlying81]
 have h3 : ∀ (x y : Int) (w : World), (Op.equalIn (d + 2) 3 (.int .i64 x) (.int .i64 y)).run Try.prog w = .ok (x == y) w := fun x y w => by
  simp [Op.equalIn, run_underlying Try.underlying3]
 have p0 : ∀ (x0 : Int) (x1 : Int) (w : World), (part 81 #[(.int .i64 x0), (.int .i64 x1)] 0).run Try.prog w = .ok (.int .i64 x0) w := fun _ _ _ => by kernel_rfl
 have p1 : ∀ (x0 : Int) (x1 : Int) (w : World), (part 3 #[(.int .i64 x0), (.int .i64 x1)] 1).run Try.prog w = .ok (.int .i64 x1) w := fun _ _ _ => by kernel_rfl
 simp only [Op.eqFields, Sem.run_bind, h81, h3, p0, p1, Result.andThen_ok, Sem.run_ite, ne_eq]
 cases g0 : (x0 == y0) <;> cases g1 : (x1 == y1) <;> simp [g0, g1]
end Go.Proofs.Ytimhdimhdimbjaa.Sx.FC
namespace Go.Proofs.Ytimhdimhdimbjaa.Sx
open Go Go.SX Go.Proofs FA FB FC
def keVis : KE Try.prog 83 Vis := KE.ofStruct visV visV_inj Try.underlying83 (fun x y w => by
  have h : (Op.equal 83 (visV x) (visV y)).run Try.prog w = .ok ((x.kind == y.kind) && (x.item == y.item)) w := eqIn83 9997 _ _ _ _ w
  rw [h]; congr 1; rw [Bool.eq_iff_iff]; simp only [Bool.and_eq_true, beq_iff_eq, decide_eq_true_eq]; exact ⟨fun e => vis_ext e.1 e.2, fun e => by rw [e]; exact ⟨rfl, rfl⟩⟩)
 (fun w b x => by kernel_rfl) visV_bits
theorem pairs_ (p : PB) (v : VH) (A : Option Addr) (c : Nat) (l : List Vis) (S : Nat → Prop) (wf : World) (hA : Fr eVis S wf A l) (hPB : PBF S wf p) (hVH : VHF S wf v) (hL : LawP p) (hll : l.length ≤ 60) :
  TR0 Try.prog 84 [.agg (cPB p).toArray, .agg #[.int .i64 v.st, .int .i64 v.en, .slice v.vcA v.vcap.length v.vcc, .int .u64 v.vsk, .int .i64 v.lo, .int .i64 v.hi, .int .i64 v.fix, .int .i64 v.pt, .int .i64 v.pd, .int .i64 v.mt, .slice v.vbA v.brs.length v.vbc], .slice A l.length c] [] S wf (fun v_ C_ => v_ = .int .i64 (errI (pairsR p l [] 0) 161) ∧ C_ = []) := by
 have hla := hA.len
 refine TR.mk Try.func84 U Try.ntmps84 U U (fun w_ => ?_)
 refine .seq (.region (.cons (st_boxa U U U U U (fun b1 => (.cons (st_boxa U U U U U (fun b2 => (.a U U U ?_))))))))
 refine .go idQ (.seq (.region (.cons (st_mkmap (α := Vis) (β := Bool) keVis.f (.bool) U U U U (fun b3 => (.a U U U (.go idQ (.seq (.region ?_)))))))))
 refine .a U U U (.go idQ (.seq (.seq (.region (.m U U U (.v (ev_len U Try.underlying58 U) U ?_))))))
 refine .m U U U (.go idQ (.block (.loop (X := Int × (List (Vis × Bool)) × Int) (fun ⟨i, m, op⟩ => 0 ≤ i ∧ i ≤ (l.length : Int) ∧ pairsR p (l.drop i.toNat) m op = pairsR p l [] 0 ∧ (-i ≤ op ∧ op ≤ i)) (fun ⟨i, m, op⟩ => [(3, .pointer (some ⟨b1, 0, none⟩)), (7, .map (some b3)), (14, .slice A l.length c), (15, .int .i64 (l.length : Int)), (16, .int .i64 i), (8, .int .i64 op)]) (fun ⟨i, m, op⟩ => [mp keVis.f (.bool) b3 m, cel b2 [.int .i64 v.st, .int .i64 v.en, .slice v.vcA v.vcap.length v.vcc, .int .u64 v.vsk, .int .i64 v.lo, .int .i64 v.hi, .int .i64 v.fix, .int .i64 v.pt, .int .i64 v.pd, .int .i64 v.mt, .slice v.vbA v.brs.length v.vbc] 37, cel b1 (cPB p) 29]) (fun _ => S) (fun _ => wf) (fun ⟨i, m, op⟩ => ((l.length : Int) - i).toNat) (fun a_ w_ hs_ hw_ => ⟨⟨0, ([] : List (Vis × Bool)), 0⟩, (by exact ⟨oO, oO, U, oO⟩), hs_.mono (Sub.get (.c4 U U U U (.c U (.c U .n)))), hw_.keep (.c .h (.c .h (.c .h .n)))⟩) (fun ⟨i, m, op⟩ ⟨q_0, q_1, q_2, q_3⟩ => ?_))))
 show SC _ _ _ _ _ ⟨[(3, .pointer (some ⟨b1, 0, none⟩)), (7, .map (some b3)), (14, .slice A l.length c), (15, .int .i64 (l.length : Int)), (16, .int .i64 i), (8, .int .i64 op)], [mp keVis.f (.bool) b3 m, cel b2 [.int .i64 v.st, .int .i64 v.en, .slice v.vcA v.vcap.length v.vcc, .int .u64 v.vsk, .int .i64 v.lo, .int .i64 v.hi, .int .i64 v.fix, .int .i64 v.pt, .int .i64 v.pd, .int .i64 v.mt, .slice v.vbA v.brs.length v.vbc] 37, cel b1 (cPB p) 29], S, wf⟩
 refine .seq (.region (.v (ev_cmp U U U U) U (.go idQ (.seq (.condI U bD (fun h4 => ?_) (fun h4 => ?_))))))
 ·
  refine .skipgo idQ (.seq (.block (.seq (.region (.v (ev_ix U Try.underlying58 ty83 U U oO oO (fun _ _ => Fr.adr (i := i) hA oO oO)) U (.v (ev_lda U U (At.w (Fr.el (i := i) hA oO oO)) ty83) U (.cons (st_alloc U U U U zf83 (fun b5 => ?_)))))))))
  refine .cons (st_storea (l' := [.int .i64 ((gt l i).kind), .int .i64 ((gt l i).item)]) U U U ty83 U U U .h U U ?_)
  refine .go idQ (.seq (.seq (.region (.v (ev_fa U fo83_0 U (r := 0) U) U (.v (ev_ld1 U ty81 U (At.own1 0 U U)) U (.v (ev_cmp U U U U) U ?_))))))
  refine .go idQ (.condI U bE (fun h6 => ?_) (fun h6 => ?_))
  ·
   refine .exit idQ ?_
   refine .region (.v (ev_add U U U (r := (i + 1)) U oO oO) U (.m U U U ?_))
   exact SP.nil (SQ.roundb (X := Int × (List (Vis × Bool)) × Int) (x := (i, m, op)) ⟨(i + 1), m, op⟩ (by exact ⟨oO, oO, (by have hq := q_2; rw [drop_gt (x := i) oO oO, pairsR_cons] at hq; (repeat' split at hq) <;> first | exact hq | contradiction | (exfalso; omega)), oO⟩) dO (Sub.get (.c4 U U U U (.c U (.c U .n)))) (fun w hw => hw.keep (.c (.t .h) (.c (.t .h) (.c (.t .h) .n)))))
  refine .skipgo idQ (.seq (.seq (.region (.v (ev_lda U U (At.whole 3 U) ty29) U (.v (ev_lda U U (At.whole 0 U) ty83) U (.cons (st_call0 U U U U hbd81 U .n (stop_ p (gt l i) _ _ hPB (stop_ws hL)) (fun v_q8 C_q8 q8 => ?_))))))))
  obtain ⟨u7, rfl, rfl⟩ := q8
  show SP _ _ _ _ _ _ ⟨_, _ :: _, _, _⟩
  refine .know (row_len 0 U) (fun hv11 => ?_)
  obtain ⟨A9, c10, rfl, hv11_1, hv11_2⟩ := hv11
  unfold maxLen at hv11_2
  refine .m U U U (.v (ev_ext U U U) U (.v (ev_ext U U U) U (.cons (st_alloc U U U U zf51 (fun b12 => ?_)))))
  refine .cons (st_storea (l' := [.int .i64 ((stopD p (gt l i)).pl), .int .i64 ((stopD p (gt l i)).srv), .slice A9 (((stopD p (gt l i)).sws).length) c10]) U U U ty51 U U U .h U U ?_)
  refine .a U U U (.go idQ (.seq (.region (.m U U U (.v (ev_not U U) U ?_)))))
  refine .m U U U (.w (fun _ => ev_mv U U) U (.w (fun _ => ev_lda U U (At.whole 2 U) ty83) U (.w (fun hb => ev_lkp keVis (m := m) (x := (gt l i)) (z := false) U Try.underlying154 zv4 (lkg U hb) (lkg U hb) 3 U) U ?_)))
  refine .v (ev_or U U U U) U (.m U U U (.w (fun _ => ev_fa U fo83_0 U (r := 0) U) U (.w (fun hb => ev_ld1 U ty81 (lkg U hb) (At.own1 2 U U)) U ?_)))
  refine .w (fun hb => ev_cmp U (lkg U hb) U U) U (.w (fun hb => ev_mv U (lkg U hb)) U (.cons (Ev.ggstep (b1 := ((!(isStop p (gt l i))) || (mget m (gt l i) false))) (b := (((gt l i).kind) == 3)) cb_ft (fun hb1 _ => ev_mv U U) U U U U U (.cons (Ev.ggstep (b1 := ((!(isStop p (gt l i))) || (mget m (gt l i) false))) (b := (((gt l i).kind) == 3)) cb_ft (fun hb1 _ => ev_fa U fo83_1 U (r := 1) U) U U U U U ?_)))))
  refine .cons (Ev.ggstep (b1 := ((!(isStop p (gt l i))) || (mget m (gt l i) false))) (b := (((gt l i).kind) == 3)) cb_ft (fun hb1 hb => ev_ld1 U ty3 (lkg U hb) (At.own1 2 U U)) U U U U U ?_)
  refine .cons (Ev.ggstep (b1 := ((!(isStop p (gt l i))) || (mget m (gt l i) false))) (b := (((gt l i).kind) == 3)) cb_ft (fun hb1 hb => Ev.reslot (t := 43) (v := .int .i64 ((gt l i).item)) (lkg U hb) (ev_any (v := .agg #[.int .i64 2, .int .i64 ((gt l i).item)]) U kR (fun _ => by kernel_rfl))) U U U U U ?_)
  refine .cons (Ev.ggstep (b1 := ((!(isStop p (gt l i))) || (mget m (gt l i) false))) (b := (((gt l i).kind) == 3)) cb_ft (fun hb1 hb => ev_lkp keVis (m := m) (x := (Vis.mk 2 ((gt l i).item))) (z := false) U Try.underlying154 zv4 (lkg U hb) (lkg U hb) 3 U) U U U U U ?_)
  refine .cons (Ev.ggstep (b1 := ((!(isStop p (gt l i))) || (mget m (gt l i) false))) (b := (((gt l i).kind) == 3)) cb_ft (fun hb1 hb => ev_not U (lkg U hb)) U U U U U ?_)
  refine .w (fun hb => ev_and U (lkg U hb) (lkgn U cb_ft hb) U) U (.v (ev_or U U U U) U (.go idQ (.condI U (bO (bO (bN bV) bV) (bA bE (bN bV))) (fun h13 => ?_) (fun h13 => ?_))))
  ·
   refine .seq (.region (.a U U U (.go idQ (.ret idQ (ret1 Try.results84 U .n ⟨(congrArg (Value.int .i64) (errI_f (by have hq := q_2; rw [drop_gt (x := i) oO oO, pairsR_cons] at hq; (repeat' split at hq) <;> first | exact hq.symm | contradiction | (exfalso; omega))).symm), U⟩)))))
  refine .skipgo idQ (.seq (.region (.m U U U (.v (ev_lda U U (At.whole 2 U) ty83) U (.cons (st_mapSet keVis (u := undef) (x := (gt l i)) (v := true) U U U Try.underlying154 U U U (.t (.t (.t .h))) ?_))))))
  refine .go idQ (.seq (.region (.v (ev_fa U fo83_0 U (r := 0) U) U (.v (ev_ld1 U ty81 U (At.own1 3 U U)) U (.go idQ (.block (.seq (.region ?_))))))))
  refine .v (ev_cmp U U U U) U (.a U U U (.go idQ (.condI U bE (fun h14 => ?_) (fun h14 => ?_))))
  ·
   refine .region (.m U U U (.v (ev_add U U U (r := (op + 1)) U oO oO) U (.a U U U ?_)))
   refine .go idQ (.region (.v (ev_add U U U (r := (i + 1)) U oO oO) U (.m U U U ?_)))
   exact SP.nil (SQ.roundb (X := Int × (List (Vis × Bool)) × Int) (x := (i, m, op)) ⟨(i + 1), (mset m (gt l i) true), (op + 1)⟩ (by exact ⟨oO, oO, (by have hq := q_2; rw [drop_gt (x := i) oO oO, pairsR_cons] at hq; (repeat' split at hq) <;> first | exact hq | contradiction | (exfalso; omega)), oO⟩) dO (Sub.get (.c4 U U U U (.c U (.c U .n)))) (fun w hw => hw.keep (.c .h (.c (.t (.t (.t .h))) (.c (.t (.t (.t .h))) .n)))))
  refine .seq (.region (.v (ev_cmp U U U U) U (.a U U U (.go idQ ?_))))
  refine .condI U bE (fun h15 => ?_) (fun h15 => ?_)
  ·
   refine .region (.m U U U (.v (ev_sub U U U (r := (op - 1)) U oO oO) U (.a U U U ?_)))
   refine .go idQ (.region (.v (ev_add U U U (r := (i + 1)) U oO oO) U (.m U U U ?_)))
   exact SP.nil (SQ.roundb (X := Int × (List (Vis × Bool)) × Int) (x := (i, m, op)) ⟨(i + 1), (mset m (gt l i) true), (op - 1)⟩ (by exact ⟨oO, oO, (by have hq := q_2; rw [drop_gt (x := i) oO oO, pairsR_cons] at hq; (repeat' split at hq) <;> first | exact hq | contradiction | (exfalso; omega)), oO⟩) dO (Sub.get (.c4 U U U U (.c U (.c U .n)))) (fun w hw => hw.keep (.c .h (.c (.t (.t (.t .h))) (.c (.t (.t (.t .h))) .n)))))
  refine .skipgo idQ (.region (.v (ev_add U U U (r := (i + 1)) U oO oO) U (.m U U U ?_)))
  exact SP.nil (SQ.roundb (X := Int × (List (Vis × Bool)) × Int) (x := (i, m, op)) ⟨(i + 1), (mset m (gt l i) true), op⟩ (by exact ⟨oO, oO, (by have hq := q_2; rw [drop_gt (x := i) oO oO, pairsR_cons] at hq; (repeat' split at hq) <;> first | exact hq | contradiction | (exfalso; omega)), oO⟩) dO (Sub.get (.c4 U U U U (.c U (.c U .n)))) (fun w hw => hw.keep (.c .h (.c (.t (.t (.t .h))) (.c (.t (.t (.t .h))) .n)))))
 refine .exit idQ ?_
 refine .seq (.seq (.region (.m U U U (.v (ev_cmp U U U U) U (.go idQ ?_)))))
 refine .condI U bNE (fun h16 => ?_) (fun h16 => ?_)
 ·
  refine .seq (.region (.a U U U (.go idQ (.ret idQ (ret1 Try.results84 U .n ⟨(congrArg (Value.int .i64) (errI_f (by have hq := q_2; rw [drop_end oO] at hq; rw [← hq]; exact decide_eq_false oO)).symm), U⟩)))))
 refine .skipgo idQ (.seq (.region (.a U U U (.go idQ (.ret idQ (ret1 Try.results84 U .n ⟨(congrArg (Value.int .i64) (errI_t (by have hq := q_2; rw [drop_end oO] at hq; rw [← hq]; exact decide_eq_true oO)).symm), U⟩))))))
theorem breaks_ (p : PB) (v : VH) (A : Option Addr) (c : Nat) (l : List Vis) (S : Nat → Prop) (wf : World) (hA : Fr eVis S wf A l) (hPB : PBF S wf p) (hVH : VHF S wf v) (hll : l.length ≤ 60) :
  TR0 Try.prog 85 [.agg (cPB p).toArray, .agg #[.int .i64 v.st, .int .i64 v.en, .slice v.vcA v.vcap.length v.vcc, .int .u64 v.vsk, .int .i64 v.lo, .int .i64 v.hi, .int .i64 v.fix, .int .i64 v.pt, .int .i64 v.pd, .int .i64 v.mt, .slice v.vbA v.brs.length v.vbc], .slice A l.length c] [] S wf (fun v_ C_ => v_ = .int .i64 (errI (breaksR v.brs.length l 0) 162) ∧ C_ = []) := by
 have hla := hA.len
 refine TR.mk Try.func85 U Try.ntmps85 U U (fun w_ => ?_)
 refine .seq (.region (.cons (st_boxa U U U U U (fun b1 => (.cons (st_boxa U U U U U (fun b2 => (.a U U U ?_))))))))
 refine .go idQ (.seq (.region (.a U U U (.go idQ (.seq (.seq (.region (.m U U U ?_))))))))
 refine .v (ev_len U Try.underlying58 U) U (.m U U U (.go idQ (.block (.loop (X := Int × Int) (fun ⟨i, n⟩ => 0 ≤ i ∧ i ≤ (l.length : Int) ∧ breaksR v.brs.length (l.drop i.toNat) n = breaksR v.brs.length l 0 ∧ (0 ≤ n ∧ n ≤ i)) (fun ⟨i, n⟩ => [(4, .pointer (some ⟨b2, 0, none⟩)), (10, .slice A l.length c), (11, .int .i64 (l.length : Int)), (12, .int .i64 i), (7, .int .i64 n)]) (fun ⟨i, n⟩ => [cel b2 [.int .i64 v.st, .int .i64 v.en, .slice v.vcA v.vcap.length v.vcc, .int .u64 v.vsk, .int .i64 v.lo, .int .i64 v.hi, .int .i64 v.fix, .int .i64 v.pt, .int .i64 v.pd, .int .i64 v.mt, .slice v.vbA v.brs.length v.vbc] 37, cel b1 (cPB p) 29]) (fun _ => S) (fun _ => wf) (fun ⟨i, n⟩ => ((l.length : Int) - i).toNat) (fun a_ w_ hs_ hw_ => ⟨⟨0, 0⟩, (by exact ⟨oO, oO, U, oO⟩), hs_.mono (Sub.get (.c4 U U U U (.c U .n))), hw_.keep (.c .h (.c .h .n))⟩) (fun ⟨i, n⟩ ⟨q_0, q_1, q_2, q_3⟩ => ?_)))))
 show SC _ _ _ _ _ ⟨[(4, .pointer (some ⟨b2, 0, none⟩)), (10, .slice A l.length c), (11, .int .i64 (l.length : Int)), (12, .int .i64 i), (7, .int .i64 n)], [cel b2 [.int .i64 v.st, .int .i64 v.en, .slice v.vcA v.vcap.length v.vcc, .int .u64 v.vsk, .int .i64 v.lo, .int .i64 v.hi, .int .i64 v.fix, .int .i64 v.pt, .int .i64 v.pd, .int .i64 v.mt, .slice v.vbA v.brs.length v.vbc] 37, cel b1 (cPB p) 29], S, wf⟩
 refine .seq (.region (.v (ev_cmp U U U U) U (.go idQ (.seq (.condI U bD (fun h3 => ?_) (fun h3 => ?_))))))
 ·
  refine .skipgo idQ (.seq (.block (.seq (.region (.v (ev_ix U Try.underlying58 ty83 U U oO oO (fun _ _ => Fr.adr (i := i) hA oO oO)) U (.v (ev_lda U U (At.w (Fr.el (i := i) hA oO oO)) ty83) U (.cons (st_alloc U U U U zf83 (fun b4 => ?_)))))))))
  refine .cons (st_storea (l' := [.int .i64 ((gt l i).kind), .int .i64 ((gt l i).item)]) U U U ty83 U U U .h U U ?_)
  refine .go idQ (.seq (.region (.v (ev_fa U fo83_0 U (r := 0) U) U (.v (ev_ld1 U ty81 U (At.own1 0 U U)) U (.v (ev_cmp U U U U) U ?_)))))
  refine .go idQ (.condI U bE (fun h5 => ?_) (fun h5 => ?_))
  ·
   refine .seq (.seq (.region (.v (ev_fa U fo83_1 U (r := 1) U) U (.v (ev_ld1 U ty3 U (At.own1 0 U U)) U (.m U U U ?_)))))
   refine .v (ev_cmp U U U U) U (.go idQ (.condI U bNE (fun h6 => ?_) (fun h6 => ?_)))
   ·
    refine .seq (.region (.a U U U (.go idQ (.ret idQ (ret1 Try.results85 U .n ⟨(congrArg (Value.int .i64) (errI_f (by have hq := q_2; rw [drop_gt (x := i) oO oO, breaksR_cons] at hq; (repeat' split at hq) <;> first | exact hq.symm | contradiction | (exfalso; omega))).symm), U⟩)))))
   refine .skipgo idQ (.region (.m U U U (.v (ev_add U U U (r := (n + 1)) U oO oO) U (.a U U U ?_))))
   refine .go idQ (.region (.v (ev_add U U U (r := (i + 1)) U oO oO) U (.m U U U ?_)))
   exact SP.nil (SQ.roundb (X := Int × Int) (x := (i, n)) ⟨(i + 1), (n + 1)⟩ (by exact ⟨oO, oO, (by have hq := q_2; rw [drop_gt (x := i) oO oO, breaksR_cons] at hq; (repeat' split at hq) <;> first | exact hq | contradiction | (exfalso; omega)), oO⟩) dO (Sub.get (.c4 U U U U (.c U .n))) (fun w hw => hw.keep (.c (.t .h) (.c (.t .h) .n))))
  refine .skipgo idQ (.region (.v (ev_add U U U (r := (i + 1)) U oO oO) U (.m U U U ?_)))
  exact SP.nil (SQ.roundb (X := Int × Int) (x := (i, n)) ⟨(i + 1), n⟩ (by exact ⟨oO, oO, (by have hq := q_2; rw [drop_gt (x := i) oO oO, breaksR_cons] at hq; (repeat' split at hq) <;> first | exact hq | contradiction | (exfalso; omega)), oO⟩) dO (Sub.get (.c4 U U U U (.c U .n))) (fun w hw => hw.keep (.c (.t .h) (.c (.t .h) .n))))
 refine .exit idQ ?_
 refine .seq (.seq (.region (.m U U U (.v (ev_fa U fo37_9 U (r := 10) U) U (.v (ev_ld1 U ty35 U (At.own1 0 U U)) U ?_)))))
 refine .v (ev_len U Try.underlying35 U) U (.v (ev_cmp U U U U) U (.go idQ (.condI U bNE (fun h7 => ?_) (fun h7 => ?_))))
 ·
  refine .seq (.region (.a U U U (.go idQ (.ret idQ (ret1 Try.results85 U .n ⟨(congrArg (Value.int .i64) (errI_f (by have hq := q_2; rw [drop_end oO] at hq; rw [← hq]; exact decide_eq_false oO)).symm), U⟩)))))
 refine .skipgo idQ (.seq (.region (.a U U U (.go idQ (.ret idQ (ret1 Try.results85 U .n ⟨(congrArg (Value.int .i64) (errI_t (by have hq := q_2; rw [drop_end oO] at hq; rw [← hq]; exact decide_eq_true oO)).symm), U⟩))))))
theorem skills_ (p : PB) (v : VH) (A : Option Addr) (c : Nat) (l : List Vis) (S : Nat → Prop) (wf : World) (hA : Fr eVis S wf A l) (hPB : PBF S wf p) (hVH : VHF S wf v) (hll : l.length ≤ 60) :
  TR0 Try.prog 86 [.agg (cPB p).toArray, .agg #[.int .i64 v.st, .int .i64 v.en, .slice v.vcA v.vcap.length v.vcc, .int .u64 v.vsk, .int .i64 v.lo, .int .i64 v.hi, .int .i64 v.fix, .int .i64 v.pt, .int .i64 v.pd, .int .i64 v.mt, .slice v.vbA v.brs.length v.vbc], .slice A l.length c] [] S wf (fun v_ C_ => v_ = .int .i64 (errI (skillsR p v l) 163) ∧ C_ = []) := by
 have hla := hA.len
 refine TR.mk Try.func86 U Try.ntmps86 U U (fun w_ => ?_)
 refine .seq (.region (.cons (st_boxa U U U U U (fun b1 => (.cons (st_boxa U U U U U (fun b2 => (.a U U U ?_))))))))
 refine .go idQ (.seq (.seq (.region (.m U U U (.v (ev_len U Try.underlying58 U) U (.m U U U ?_))))))
 refine .go idQ (.block (.loop (X := Int) (fun i => 0 ≤ i ∧ i ≤ (l.length : Int) ∧ skillsR p v (l.drop i.toNat) = skillsR p v l) (fun i => [(3, .pointer (some ⟨b1, 0, none⟩)), (4, .pointer (some ⟨b2, 0, none⟩)), (11, .slice A l.length c), (12, .int .i64 (l.length : Int)), (13, .int .i64 i)]) (fun i => [cel b2 [.int .i64 v.st, .int .i64 v.en, .slice v.vcA v.vcap.length v.vcc, .int .u64 v.vsk, .int .i64 v.lo, .int .i64 v.hi, .int .i64 v.fix, .int .i64 v.pt, .int .i64 v.pd, .int .i64 v.mt, .slice v.vbA v.brs.length v.vbc] 37, cel b1 (cPB p) 29]) (fun _ => S) (fun _ => wf) (fun i => ((l.length : Int) - i).toNat) (fun a_ w_ hs_ hw_ => ⟨0, (by exact ⟨oO, oO, U⟩), hs_.mono (Sub.get (.c4 U U U U (.c U .n))), hw_.keep (.c .h (.c .h .n))⟩) (fun i ⟨q_0, q_1, q_2⟩ => ?_)))
 try dsimp only
 refine .seq (.region (.v (ev_cmp U U U U) U (.go idQ (.seq (.condI U bD (fun h3 => ?_) (fun h3 => ?_))))))
 ·
  refine .skipgo idQ (.seq (.block (.seq (.region (.v (ev_ix U Try.underlying58 ty83 U U oO oO (fun _ _ => Fr.adr (i := i) hA oO oO)) U (.v (ev_lda U U (At.w (Fr.el (i := i) hA oO oO)) ty83) U (.cons (st_alloc U U U U zf83 (fun b4 => ?_)))))))))
  refine .cons (st_storea (l' := [.int .i64 ((gt l i).kind), .int .i64 ((gt l i).item)]) U U U ty83 U U U .h U U ?_)
  refine .go idQ (.seq (.region (.v (ev_lda U U (At.whole 0 U) ty83) U (.cons (st_callk U U U U hbd50 U .n (of_ (gt l i) _ _) (.m U U U ?_))))))
  refine .v (ev_ext U U U) U (.v (ev_ext U U U) U (.cons (st_alloc U U U U zf67 (fun b5 => (.cons (st_storea (l' := [.bool ((taskV (gt l i)).ship), .int .i64 ((taskV (gt l i)).item)]) U U U ty67 U U U .h U U ?_))))))
  refine .a U U U (.go idQ (.seq ?_))
  refine SC.draw mo [] [] .n (fun _ _ _ => sc0) (fun wf_6 hl_6 hx_6 hR_6 => ?_)
  refine SR.m 0 U U U U ?_
  refine SR.m 1 U U U U ?_
  refine SR.y 2 U U (fun _ => ev_fa U fo37_3 U (r := 3) U) ?_
  refine SR.y 3 U U (fun hb => ev_ld1 U ty32 (lkg U hb) (At.d (At.lent hR_6 2 U U))) ?_
  refine SR.y 4 U U (fun _ => ev_lda (cs := (cPB p)) U U (At.d (At.lent hR_6 3 U U)) ty29) ?_
  refine SR.y 5 U U (fun _ => ev_lda (cs := [.bool ((taskV (gt l i)).ship), .int .i64 ((taskV (gt l i)).item)]) U U (At.d (At.lent hR_6 0 U U)) ty67) ?_
  refine SR.o 6 U (st_gcallk U U U U U U hbd41 (fun hb => (lkA1 (lkg U hb) (lkA1 (lkg U hb) lkA0))) .n (fun hb => have hp := bT bV hb; skil_ p (taskV (gt l i)) _ _ ((hPB).ext hx_6)) ⟨tt0, ?_⟩)
  refine SR.o 7 U (st_gcallk U U U U U U hbd40 (fun hb => (lkA1 (lkg U hb) (lkA1 (lkg U hb) lkA0))) .n (fun hb => have hp := bT bV hb; covers_ v.vsk (skilF p (taskV (gt l i))) _ _) ⟨tt0, ?_⟩)
  refine SR.y 8 U U (fun hb => ev_not U (lkg U hb)) ?_
  refine SR.z 9 U U (ev_and U U U U) ?_
  refine SR.fin kR hl_6 hx_6 hR_6 .n ?_
  refine SQ.go idQ ?_
  refine .condI U (bA bV (bN bE)) (fun h7 => ?_) (fun h7 => ?_)
  ·
   refine .seq (.region (.a U U U (.go idQ (.ret idQ (ret1 Try.results86 U .n ⟨(congrArg (Value.int .i64) (errI_f (by have hq := q_2; rw [drop_gt (x := i) oO oO, skillsR_cons] at hq; (repeat' split at hq) <;> first | exact hq.symm | contradiction | (exfalso; omega))).symm), U⟩)))))
  refine .skipgo idQ (.region (.v (ev_add U U U (r := (i + 1)) U oO oO) U (.m U U U ?_)))
  exact SP.nil (SQ.roundb (X := Int) (x := (i)) (i + 1) (by exact ⟨oO, oO, (by have hq := q_2; rw [drop_gt (x := i) oO oO, skillsR_cons] at hq; (repeat' split at hq) <;> first | exact hq | contradiction | (exfalso; omega))⟩) (by show (_ : Nat) < _; omega) (Sub.get (.c4 U U U U (.c U .n))) (fun w hw => hw.keep (.c (.t (.t .h)) (.c (.t (.t .h)) .n))))
 refine .exit idQ ?_
 refine .seq (.region (.a U U U (.go idQ (.ret idQ (ret1 Try.results86 U .n ⟨(congrArg (Value.int .i64) (errI_t (by have hq := q_2; rw [drop_end oO] at hq; rw [← hq]; rfl)).symm), U⟩)))))
theorem tasks_ (p : PB) (v : VH) (A : Option Addr) (c : Nat) (l : List Vis) (S : Nat → Prop) (wf : World) (hA : Fr eVis S wf A l) (hPB : PBF S wf p) (hVH : VHF S wf v) (hll : l.length ≤ 60) :
  TR0 Try.prog 87 [.agg (cPB p).toArray, .agg #[.int .i64 v.st, .int .i64 v.en, .slice v.vcA v.vcap.length v.vcc, .int .u64 v.vsk, .int .i64 v.lo, .int .i64 v.hi, .int .i64 v.fix, .int .i64 v.pt, .int .i64 v.pd, .int .i64 v.mt, .slice v.vbA v.brs.length v.vbc], .slice A l.length c] [] S wf (fun v_ C_ => v_ = .int .i64 (if tasksR l 0 > v.mt then 164 else 0) ∧ C_ = []) := by
 have hla := hA.len
 refine TR.mk Try.func87 U Try.ntmps87 U U (fun w_ => ?_)
 refine .seq (.region (.cons (st_boxa U U U U U (fun b1 => (.cons (st_boxa U U U U U (fun b2 => (.a U U U ?_))))))))
 refine .go idQ (.seq (.region (.a U U U (.go idQ (.seq (.seq (.region (.m U U U ?_))))))))
 refine .v (ev_len U Try.underlying58 U) U (.m U U U (.go idQ (.block (.loop (X := Int × Int) (fun ⟨i, n⟩ => 0 ≤ i ∧ i ≤ (l.length : Int) ∧ tasksR (l.drop i.toNat) n = tasksR l 0 ∧ (0 ≤ n ∧ n ≤ i)) (fun ⟨i, n⟩ => [(4, .pointer (some ⟨b2, 0, none⟩)), (6, .int .i64 0), (10, .slice A l.length c), (11, .int .i64 (l.length : Int)), (12, .int .i64 i), (7, .int .i64 n)]) (fun ⟨i, n⟩ => [cel b2 [.int .i64 v.st, .int .i64 v.en, .slice v.vcA v.vcap.length v.vcc, .int .u64 v.vsk, .int .i64 v.lo, .int .i64 v.hi, .int .i64 v.fix, .int .i64 v.pt, .int .i64 v.pd, .int .i64 v.mt, .slice v.vbA v.brs.length v.vbc] 37, cel b1 (cPB p) 29]) (fun _ => S) (fun _ => wf) (fun ⟨i, n⟩ => ((l.length : Int) - i).toNat) (fun a_ w_ hs_ hw_ => ⟨⟨0, 0⟩, (by exact ⟨oO, oO, U, oO⟩), hs_.mono (Sub.get (.c4 U U U U (.c U (.c U .n)))), hw_.keep (.c .h (.c .h .n))⟩) (fun ⟨i, n⟩ ⟨q_0, q_1, q_2, q_3⟩ => ?_)))))
 show SC _ _ _ _ _ ⟨[(4, .pointer (some ⟨b2, 0, none⟩)), (6, .int .i64 0), (10, .slice A l.length c), (11, .int .i64 (l.length : Int)), (12, .int .i64 i), (7, .int .i64 n)], [cel b2 [.int .i64 v.st, .int .i64 v.en, .slice v.vcA v.vcap.length v.vcc, .int .u64 v.vsk, .int .i64 v.lo, .int .i64 v.hi, .int .i64 v.fix, .int .i64 v.pt, .int .i64 v.pd, .int .i64 v.mt, .slice v.vbA v.brs.length v.vbc] 37, cel b1 (cPB p) 29], S, wf⟩
 refine .seq (.region (.v (ev_cmp U U U U) U (.go idQ (.seq (.condI U bD (fun h3 => ?_) (fun h3 => ?_))))))
 ·
  refine .skipgo idQ (.seq (.block (.seq (.region (.v (ev_ix U Try.underlying58 ty83 U U oO oO (fun _ _ => Fr.adr (i := i) hA oO oO)) U (.v (ev_lda U U (At.w (Fr.el (i := i) hA oO oO)) ty83) U (.cons (st_alloc U U U U zf83 (fun b4 => ?_)))))))))
  refine .cons (st_storea (l' := [.int .i64 ((gt l i).kind), .int .i64 ((gt l i).item)]) U U U ty83 U U U .h U U ?_)
  refine .go idQ (.seq (.region (.v (ev_fa U fo83_0 U (r := 0) U) U (.v (ev_ld1 U ty81 U (At.own1 0 U U)) U (.v (ev_cmp U U U U) U ?_)))))
  refine .m U U U (.w (fun _ => ev_fa U fo83_0 U (r := 0) U) U (.w (fun hb => ev_ld1 U ty81 (lkg U hb) (At.own1 0 U U)) U (.w (fun hb => ev_cmp U (lkg U hb) U U) U ?_)))
  refine .v (ev_or U U U U) U (.go idQ (.condI U (bO bE bE) (fun h5 => ?_) (fun h5 => ?_)))
  ·
   refine .region (.m U U U (.v (ev_add U U U (r := (n + 1)) U oO oO) U (.a U U U ?_)))
   refine .go idQ (.region (.v (ev_add U U U (r := (i + 1)) U oO oO) U (.m U U U ?_)))
   exact SP.nil (SQ.roundb (X := Int × Int) (x := (i, n)) ⟨(i + 1), (n + 1)⟩ (by exact ⟨oO, oO, (by have hq := q_2; rw [drop_gt (x := i) oO oO, tasksR_cons] at hq; (repeat' split at hq) <;> first | exact hq | contradiction | (exfalso; omega)), oO⟩) dO (Sub.get (.c4 U U U U (.c U (.c U .n)))) (fun w hw => hw.keep (.c (.t .h) (.c (.t .h) .n))))
  refine .skipgo idQ (.region (.v (ev_add U U U (r := (i + 1)) U oO oO) U (.m U U U ?_)))
  exact SP.nil (SQ.roundb (X := Int × Int) (x := (i, n)) ⟨(i + 1), n⟩ (by exact ⟨oO, oO, (by have hq := q_2; rw [drop_gt (x := i) oO oO, tasksR_cons] at hq; (repeat' split at hq) <;> first | exact hq | contradiction | (exfalso; omega)), oO⟩) dO (Sub.get (.c4 U U U U (.c U (.c U .n)))) (fun w hw => hw.keep (.c (.t .h) (.c (.t .h) .n))))
 refine .exit idQ ?_
 refine .seq (.seq (.region (.m U U U (.v (ev_fa U fo37_8 U (r := 9) U) U (.v (ev_ld1 U ty3 U (At.own1 0 U U)) U ?_)))))
 refine .v (ev_cmp U U U U) U (.go idQ (.condI U bD (fun h6 => ?_) (fun h6 => ?_)))
 ·
  refine .seq (.region (.a U U U (.go idQ (.ret idQ (ret1 Try.results87 U .n ⟨(congrArg (Value.int .i64) (by have hq := q_2; rw [drop_end oO] at hq; rw [← hq]; exact (if_pos (show _ from by assumption)).symm)), U⟩)))))
 refine .skipgo idQ (.seq (.region (.a U U U (.go idQ (.ret idQ (ret1 Try.results87 U .n ⟨(congrArg (Value.int .i64) (by have hq := q_2; rw [drop_end oO] at hq; rw [← hq]; exact (if_neg (show _ from by assumption)).symm)), U⟩))))))
theorem loads_ (p : PB) (A : Option Addr) (c : Nat) (l : List Vis) (S : Nat → Prop) (wf : World) (hA : Fr eVis S wf A l) (hPB : PBF S wf p) (hL : LawP p) (hll : l.length ≤ 60) :
  TR0 Try.prog 97 [.agg (cPB p).toArray, .slice A l.length c] [] S wf (fun v_ C_ => ∃ (u : Value) (Y : List IL), (Y.map IL.il = loadsF p l) ∧ v_ = u ∧ C_ = [rw_ eIL 22 (u) Y, nestIL 3 Y]) := by
 have hla := hA.len
 refine TR.mk Try.func97 U Try.ntmps97 U U (fun w_ => ?_)
 refine .seq (.region (.cons (st_boxa U U U U U (fun b1 => (.a U U U (.go idQ (.seq (.region ?_))))))))
 refine .v (ev_fa U fo29_0 U (r := 0) U) U (.v (ev_ld1 U ty3 U (At.own1 0 U U)) U (.cons (st_call0 U U U U hbd39 U .n (lzero_ p.dims _ _ hL.dims) (fun v_q3 C_q3 q3 => ?_))))
 obtain ⟨u2, rfl, rfl⟩ := q3
 show SP _ _ _ _ _ _ ⟨_, _ :: _, _, _⟩
 refine .a U U U (.go idQ (.seq (.seq (.region (.m U U U (.v (ev_len U Try.underlying58 U) U ?_))))))
 refine .m U U U (.go idQ (.block (.loop (X := Int × (List Int) × Value) (fun ⟨i, X, u_X⟩ => 0 ≤ i ∧ i ≤ (l.length : Int) ∧ load0R p (l.drop i.toNat) X = load0 p l ∧ lOk p (1000000 * i) X) (fun ⟨i, X, u_X⟩ => [(1, .slice A l.length c), (2, .pointer (some ⟨b1, 0, none⟩)), (4, .slice none 0 0), (18, .slice A l.length c), (19, .int .i64 (l.length : Int)), (20, .int .i64 i), (5, u_X)]) (fun ⟨i, X, u_X⟩ => [rw_ eZ 3 (u_X) X, cel b1 (cPB p) 29]) (fun _ => S) (fun _ => wf) (fun ⟨i, X, u_X⟩ => ((l.length : Int) - i).toNat) (fun a_ w_ hs_ hw_ => ⟨⟨0, (List.replicate (p.dims).toNat (0 : Int)), v_q3⟩, (by exact ⟨oO, oO, U, (by refine ⟨by have := hL.dims; rw [List.length_replicate]; omega, bdd_mono (bdd_zero _) oO⟩)⟩), hs_.mono (Sub.get (.c4 U U U U (.c U (.c U (.c U .n))))), hw_.keep (.c .h (.c .h .n))⟩) (fun ⟨i, X, u_X⟩ ⟨q_0, q_1, q_2, q_3⟩ => ?_))))
 show SC _ _ _ _ _ ⟨[(1, .slice A l.length c), (2, .pointer (some ⟨b1, 0, none⟩)), (4, .slice none 0 0), (18, .slice A l.length c), (19, .int .i64 (l.length : Int)), (20, .int .i64 i), (5, u_X)], [rw_ eZ 3 (u_X) X, cel b1 (cPB p) 29], S, wf⟩
 have hXl := q_3.1
 have hdm := hL.dims
 refine .seq (.region (.v (ev_cmp U U U U) U (.go idQ (.seq (.condI U bD (fun h4 => ?_) (fun h4 => ?_))))))
 ·
  refine .skipgo idQ (.seq (.block (.seq (.region (.v (ev_ix U Try.underlying58 ty83 U U oO oO (fun _ _ => Fr.adr (i := i) hA oO oO)) U (.v (ev_lda U U (At.w (Fr.el (i := i) hA oO oO)) ty83) U (.cons (st_alloc U U U U zf83 (fun b5 => ?_)))))))))
  refine .cons (st_storea (l' := [.int .i64 ((gt l i).kind), .int .i64 ((gt l i).item)]) U U U ty83 U U U .h U U ?_)
  refine .go idQ (.seq (.region (.v (ev_lda U U (At.whole 2 U) ty29) U (.v (ev_lda U U (At.whole 0 U) ty83) U (.cons (st_call0 U U U U hbd81 U .n (stop_ p (gt l i) _ _ hPB (stop_ws hL)) (fun v_q7 C_q7 q7 => ?_)))))))
  obtain ⟨u6, rfl, rfl⟩ := q7
  show SP _ _ _ _ _ _ ⟨_, _ :: _, _, _⟩
  refine .know (row_len 0 U) (fun hv10 => ?_)
  obtain ⟨A8, c9, rfl, hv10_1, hv10_2⟩ := hv10
  unfold maxLen at hv10_2
  refine .m U U U (.v (ev_ext U U U) U (.v (ev_ext U U U) U (.cons (st_alloc U U U U zf51 (fun b11 => ?_)))))
  refine .cons (st_storea (l' := [.int .i64 ((stopD p (gt l i)).pl), .int .i64 ((stopD p (gt l i)).srv), .slice A8 (((stopD p (gt l i)).sws).length) c9]) U U U ty51 U U U .h U U ?_)
  refine .a U U U (.go idQ (.seq (.region (.m U U U (.m U U U ?_)))))
  refine .w (fun _ => ev_fa U fo83_0 U (r := 0) U) U (.w (fun hb => ev_ld1 U ty81 (lkg U hb) (At.own1 2 U U)) U (.w (fun hb => ev_cmp U (lkg U hb) U U) U (.v (ev_and U U U U) U ?_)))
  refine .go idQ (.condI U (bA bV bE) (fun h12 => ?_) (fun h12 => ?_))
  ·
   have hin := is_i1 (by exact (by assumption : _ ∧ _).1) (by exact (by assumption : _ ∧ _).2)
   have hjb := hL.job _ hin.1 hin.2
   refine .region (.m U U U (.v (ev_fa U fo29_4 U (r := 6) U) U (.v (ev_ld1 U ty26 U (At.own1 4 U U)) U ?_)))
   refine .v (ev_fa U fo83_1 U (r := 1) U) U (.v (ev_ld1 U ty3 U (At.own1 2 U U)) U (.v (ev_ix U Try.underlying26 ty53 U U oO oO (fun _ _ => Fr.adr (i := (gt l i).item) hPB.2.2.2.1.1 oO oO)) U (.v (ev_fa U fo53_1 U (r := ao p.pjA + ((gt l i).item).toNat * 7 + 3) U) U ?_)))
   refine .v (ev_ld1 U ty22 U (At.elem1 (At.w (Fr.el (i := (gt l i).item) hPB.2.2.2.1.1 oO oO)) 3 U)) U (.know (row_len 3 U) (fun hv15 => ?_))
   obtain ⟨A13, c14, rfl, hv15_1, hv15_2⟩ := hv15
   unfold maxLen at hv15_2
   refine .cons (st_lend0 U U U U hbd43 U .n (.c (.t (.t (.t .h))) .n) (fun w_ hw => laddL A13 c14 X ((gt p.jobs ((gt l i).item)).jdA) ((gt p.jobs ((gt l i).item)).jdc) ((gt p.jobs ((gt l i).item)).drop) _ _ (Fr.lend hw 0 U (by first | ((try simp only [List.length_nil, List.length_cons, List.length_append, List.length_set, List.length_singleton, List.length_take, List.length_drop, List.length_reverse, addL_len, subL_len]) <;> omega) | omega)) (Fr.ext (hPB.2.2.2.1.2 ((gt l i).item)).1 hw.lendx) (by have h_ := q_3.1; have := hjb.drop.1; first | omega | (have := hjb.pick.1; rw [subL_len]; omega)) (by have h_ := q_3.1; have hd_ := hL.dims; first | omega | (rw [subL_len]; omega)) (by first | exact bdd_mono q_3.2 oO | exact bdd_mono (lOk_sub q_3 hjb.drop (Int.le_refl _)).2 oO) (by first | exact rng_bdd hjb.drop.2 oO oO | exact rng_bdd hjb.pick.2 oO oO | exact rng_bdd hjb.am.2 oO oO)) (fun v_q17 C_q17 q17 => ?_))
   obtain ⟨u16, rfl, rfl⟩ := q17
   show SP _ _ _ _ _ _ ⟨_, _ :: _ :: _, _, _⟩
   refine .m U U U (.v (ev_ext U U U) U (.v (ev_ext U U U) U (.a U U U ?_)))
   refine .go idQ (.region (.v (ev_add U U U (r := (i + 1)) U oO oO) U (.m U U U ?_)))
   exact SP.nil (SQ.roundb (X := Int × (List Int) × Value) (x := (i, X, (.slice A13 X.length c14))) ⟨(i + 1), (addL X ((gt p.jobs ((gt l i).item)).drop)), u16⟩ (by exact ⟨oO, oO, (by have hq := q_2; rw [drop_gt (x := i) oO oO, load0R_cons] at hq; (repeat' split at hq) <;> first | exact hq | contradiction | (exfalso; omega)), (by first | exact lOk_mono q_3 oO | exact lOk_add q_3 hjb.drop oO)⟩) dO (Sub.get (.c4 U U U U (.c U (.c U (.c U .n))))) (fun w hw => hw.keep (.c .h (.c (.t (.t (.t (.t .h)))) .n))))
  refine .skipgo idQ (.region (.v (ev_add U U U (r := (i + 1)) U oO oO) U (.m U U U ?_)))
  exact SP.nil (SQ.roundb (X := Int × (List Int) × Value) (x := (i, X, u_X)) ⟨(i + 1), X, u_X⟩ (by exact ⟨oO, oO, (by have hq := q_2; rw [drop_gt (x := i) oO oO, load0R_cons] at hq; (repeat' split at hq) <;> first | exact hq | contradiction | (exfalso; omega)), (by first | exact lOk_mono q_3 oO | exact lOk_add q_3 hjb.drop oO)⟩) dO (Sub.get (.c4 U U U U (.c U (.c U (.c U .n))))) (fun w hw => hw.keep (.c (.t (.t (.t .h))) (.c (.t (.t (.t .h))) .n))))
 refine .exit idQ ?_
 refine .seq (.region (.m U U U (.know (row_len 0 U) (fun hv20 => ?_))))
 obtain ⟨A18, c19, rfl, hv20_1, hv20_2⟩ := hv20
 unfold maxLen at hv20_2
 refine .cons (st_lit eIL (e := 22) (l := [(IL.mk X A18 c19)]) U U U U kR U U kW (fun b21 => ?_))
 refine .a U U U (.go idQ (.seq (.seq ?_)))
 refine SC.inow0 (IL.mk X A18 c19) (.c (.t .h) .n) (by first | ((try simp only [List.length_nil, List.length_cons, List.length_append, List.length_set, List.length_singleton, List.length_take, List.length_drop, List.length_reverse, addL_len, subL_len]) <;> omega) | omega) ?_
 refine .region (.m U U U (.v (ev_len U Try.underlying58 U) U (.m U U U ?_)))
 refine .go idQ (.block (.loop (X := Int × Bool × IL × (List IL) × Value) (fun ⟨j, own, x, Y, u_Y⟩ => 0 ≤ j ∧ j ≤ (l.length : Int) ∧ Y.map IL.il ++ loadsR p (l.drop j.toNat) x.il = loadsF p l ∧ lOk p (100000000 + 2000000 * j) x.il ∧ (Y.length : Int) ≤ j + 1) (fun ⟨j, own, x, Y, u_Y⟩ => [(1, .slice A l.length c), (2, .pointer (some ⟨b1, 0, none⟩)), (4, .slice none 0 0), (18, .slice A l.length c), (19, .int .i64 (l.length : Int)), (20, .int .i64 i), (51, .slice A l.length c), (52, .int .i64 (l.length : Int)), (53, .int .i64 j), (5, .slice x.ilA x.il.length x.ilc), (10, u_Y)]) (fun ⟨j, own, x, Y, u_Y⟩ => [inow 3 own x Y, rw_ eIL 22 (u_Y) Y, cel b1 (cPB p) 29]) (fun _ => S) (fun _ => wf) (fun ⟨j, own, x, Y, u_Y⟩ => ((l.length : Int) - j).toNat) (fun a_ w_ hs_ hw_ => ⟨⟨0, false, (IL.mk X A18 c19), [(IL.mk X A18 c19)], .slice (some ⟨b21, 0, none⟩) 1 1⟩, (by exact ⟨oO, oO, (by rw [show (0 : Int).toNat = 0 from U, List.drop_zero]; have hz := q_2; rw [drop_end oO] at hz; have hz : X = load0 p l := hz; rw [hz]; rfl), (by refine lOk_mono q_3 oO), (by simp only [List.length_singleton]; omega)⟩), hs_.mono (Sub.get (.c4 U U U U (.c4 U U U U (.c U (.c U (.c U .n)))))), hw_.keep (.c .h (.c .h (.c .h .n)))⟩) (fun ⟨j, own, x, Y, u_Y⟩ ⟨r_0, r_1, r_2, r_3, r_4⟩ => ?_)))
 show SC _ _ _ _ _ ⟨[(1, .slice A l.length c), (2, .pointer (some ⟨b1, 0, none⟩)), (4, .slice none 0 0), (18, .slice A l.length c), (19, .int .i64 (l.length : Int)), (20, .int .i64 i), (51, .slice A l.length c), (52, .int .i64 (l.length : Int)), (53, .int .i64 j), (5, .slice x.ilA x.il.length x.ilc), (10, u_Y)], [inow 3 own x Y, rw_ eIL 22 (u_Y) Y, cel b1 (cPB p) 29], S, wf⟩
 have hXl := r_3.1
 have hdm := hL.dims
 refine .seq (.region (.v (ev_cmp U U U U) U (.go idQ (.seq (.condI U bD (fun h22 => ?_) (fun h22 => ?_))))))
 ·
  refine .skipgo idQ (.seq (.block (.seq (.region (.v (ev_ix U Try.underlying58 ty83 U U oO oO (fun _ _ => Fr.adr (i := j) hA oO oO)) U (.v (ev_lda U U (At.w (Fr.el (i := j) hA oO oO)) ty83) U (.cons (st_alloc U U U U zf83 (fun b23 => ?_)))))))))
  refine .cons (st_storea (l' := [.int .i64 ((gt l j).kind), .int .i64 ((gt l j).item)]) U U U ty83 U U U .h U U ?_)
  refine .go idQ (.seq (.seq (.region (.v (ev_lda U U (At.whole 3 U) ty29) U (.v (ev_lda U U (At.whole 0 U) ty83) U (.cons (st_call0 U U U U hbd81 U .n (stop_ p (gt l j) _ _ hPB (stop_ws hL)) (fun v_q25 C_q25 q25 => ?_))))))))
  obtain ⟨u24, rfl, rfl⟩ := q25
  show SP _ _ _ _ _ _ ⟨_, _ :: _, _, _⟩
  refine .know (row_len 0 U) (fun hv28 => ?_)
  obtain ⟨A26, c27, rfl, hv28_1, hv28_2⟩ := hv28
  unfold maxLen at hv28_2
  refine .m U U U (.v (ev_ext U U U) U (.v (ev_ext U U U) U (.cons (st_alloc U U U U zf51 (fun b29 => ?_)))))
  refine .cons (st_storea (l' := [.int .i64 ((stopD p (gt l j)).pl), .int .i64 ((stopD p (gt l j)).srv), .slice A26 (((stopD p (gt l j)).sws).length) c27]) U U U ty51 U U U .h U U ?_)
  refine .a U U U (.go idQ (.seq (.region (.m U U U (.go idQ ?_)))))
  refine .condI U bV (fun h30 => ?_) (fun h30 => ?_)
  ·
   refine .seq (.region (.v (ev_fa U fo83_0 U (r := 0) U) U (.v (ev_ld1 U ty81 U (At.own1 2 U U)) U (.go idQ (.block (.seq (.region ?_)))))))
   refine .v (ev_cmp U U U U) U (.a U U U (.go idQ (.condI U bE (fun h31 => ?_) (fun h31 => ?_))))
   ·
    refine .seq ?_
    have hin := is_i1 (by assumption) (by assumption)
    have hjb := hL.job _ hin.1 hin.2
    refine .region (.m U U U (.v (ev_fa U fo29_4 U (r := 6) U) U (.v (ev_ld1 U ty26 U (At.own1 5 U U)) U ?_)))
    refine .v (ev_fa U fo83_1 U (r := 1) U) U (.v (ev_ld1 U ty3 U (At.own1 2 U U)) U (.v (ev_ix U Try.underlying26 ty53 U U oO oO (fun _ _ => Fr.adr (i := (gt l j).item) hPB.2.2.2.1.1 oO oO)) U (.v (ev_fa U fo53_1 U (r := ao p.pjA + ((gt l j).item).toNat * 7 + 3) U) U ?_)))
    refine .v (ev_ld1 U ty22 U (At.elem1 (At.w (Fr.el (i := (gt l j).item) hPB.2.2.2.1.1 oO oO)) 3 U)) U (.cons (st_lend0 U U U U hbd79 U .n (.c (.t (.t (.t .h))) .n) (fun w_ hw => lsubL x.ilA x.ilc x.il ((gt p.jobs ((gt l j).item)).jdA) ((gt p.jobs ((gt l j).item)).jdc) ((gt p.jobs ((gt l j).item)).drop) _ _ ((INF.lend hw 0 U).1) (Fr.ext (hPB.2.2.2.1.2 ((gt l j).item)).1 hw.lendx) (by have h_ := r_3.1; have := hjb.drop.1; first | omega | (have := hjb.pick.1; rw [subL_len]; omega)) (by have h_ := r_3.1; have hd_ := hL.dims; first | omega | (rw [subL_len]; omega)) (by first | exact bdd_mono r_3.2 oO | exact bdd_mono (lOk_sub r_3 hjb.drop (Int.le_refl _)).2 oO) (by first | exact rng_bdd hjb.drop.2 oO oO | exact rng_bdd hjb.pick.2 oO oO | exact rng_bdd hjb.am.2 oO oO)) (fun v_q33 C_q33 q33 => ?_)))
    obtain ⟨u32, rfl, rfl⟩ := q33
    show SP _ _ _ _ _ _ ⟨_, _ :: _ :: _, _, _⟩
    refine .m U U U (.v (ev_ext U U U) U (.v (ev_ext U U U) U (.a U U U ?_)))
    refine .go idQ (.region (.m U U U (.v (ev_fa U fo29_4 U (r := 6) U) U (.v (ev_ld1 U ty26 U (At.own1 6 U U)) U ?_))))
    refine .v (ev_fa U fo83_1 U (r := 1) U) U (.v (ev_ld1 U ty3 U (At.own1 4 U U)) U (.v (ev_ix U Try.underlying26 ty53 U U oO oO (fun _ _ => Fr.adr (i := (gt l j).item) hPB.2.2.2.1.1 oO oO)) U (.v (ev_fa U fo53_2 U (r := ao p.pjA + ((gt l j).item).toNat * 7 + 4) U) U ?_)))
    refine .v (ev_ld1 U ty22 U (At.elem1 (At.w (Fr.el (i := (gt l j).item) hPB.2.2.2.1.1 oO oO)) 4 U)) U (.know (row_len 0 U) (fun hv36 => ?_))
    obtain ⟨A34, c35, rfl, hv36_1, hv36_2⟩ := hv36
    unfold maxLen at hv36_2
    refine .cons (st_lend0 U U U U hbd43 U .n (.c .h .n) (fun w_ hw => laddL A34 c35 (subL x.il ((gt p.jobs ((gt l j).item)).drop)) ((gt p.jobs ((gt l j).item)).jkA) ((gt p.jobs ((gt l j).item)).jkc) ((gt p.jobs ((gt l j).item)).pick) _ _ (Fr.lend hw 0 U (by first | ((try simp only [List.length_nil, List.length_cons, List.length_append, List.length_set, List.length_singleton, List.length_take, List.length_drop, List.length_reverse, addL_len, subL_len]) <;> omega) | omega)) (Fr.ext (hPB.2.2.2.1.2 ((gt l j).item)).2.1 hw.lendx) (by have h_ := r_3.1; have := hjb.drop.1; first | omega | (have := hjb.pick.1; rw [subL_len]; omega)) (by have h_ := r_3.1; have hd_ := hL.dims; first | omega | (rw [subL_len]; omega)) (by first | exact bdd_mono r_3.2 oO | exact bdd_mono (lOk_sub r_3 hjb.drop (Int.le_refl _)).2 oO) (by first | exact rng_bdd hjb.drop.2 oO oO | exact rng_bdd hjb.pick.2 oO oO | exact rng_bdd hjb.am.2 oO oO)) (fun v_q38 C_q38 q38 => ?_))
    obtain ⟨u37, rfl, rfl⟩ := q38
    show SP _ _ _ _ _ _ ⟨_, _ :: _ :: _, _, _⟩
    refine .m U U U (.v (ev_ext U U U) U (.v (ev_ext U U U) U (.a U U U ?_)))
    refine .go idQ (.know (row_len 0 U) (fun hv41 => ?_))
    obtain ⟨A39, c40, rfl, hv41_1, hv41_2⟩ := hv41
    unfold maxLen at hv41_2
    have hSt := lOk_St (x := gt l j) hL r_3 (k := 100000000 + 2000000 * (j + 1)) oO
    rw [loadSt_1 (by assumption) (by assumption)] at hSt
    simp only [dropV, pickV, amV] at hSt
    refine .region (.m U U U (.m U U U (.cons (st_lend0 U U U U hbd100 U .n (.c .h .n) (fun w_ hw => clonez A39 ((addL (subL x.il ((gt p.jobs ((gt l j).item)).drop)) ((gt p.jobs ((gt l j).item)).pick)).length) c40 (addL (subL x.il ((gt p.jobs ((gt l j).item)).drop)) ((gt p.jobs ((gt l j).item)).pick)) _ _ (Fr.lend hw 0 U (by first | ((try simp only [List.length_nil, List.length_cons, List.length_append, List.length_set, List.length_singleton, List.length_take, List.length_drop, List.length_reverse, addL_len, subL_len]) <;> omega) | omega)) U (by have h_ := hSt.1; have hd_ := hL.dims; omega)) (fun v_q43 C_q43 q43 => ?_)))))
    obtain ⟨v42, rfl, rfl⟩ := q43
    show SP _ _ _ _ _ _ ⟨_, _ :: _ :: _, _, _⟩
    refine .know (row_len 0 U) (fun hv46 => ?_)
    obtain ⟨A44, c45, rfl, hv46_1, hv46_2⟩ := hv46
    unfold maxLen at hv46_2
    refine .cons (st_lit eIL (e := 22) (l := [(IL.mk (addL (subL x.il ((gt p.jobs ((gt l j).item)).drop)) ((gt p.jobs ((gt l j).item)).pick)) A44 c45)]) U U U U kR U U kW (fun b47 => ?_))
    refine .cons (st_app (E := eIL) (m := [(IL.mk (addL (subL x.il ((gt p.jobs ((gt l j).item)).drop)) ((gt p.jobs ((gt l j).item)).pick)) A44 c45)]) U U U U Try.underlying137 ai22 U U U (.t (.t (.t (.t (.t (.t (.t (.t .h)))))))) rO (row_src 0 U) (by first | ((try simp only [List.length_nil, List.length_cons, List.length_append, List.length_set, List.length_singleton, List.length_take, List.length_drop, List.length_reverse, addL_len, subL_len]) <;> omega) | omega) U (fun v48 => ?_))
    refine .a U U U (.go idQ ?_)
    refine SC.inown (IL.mk (addL (subL x.il ((gt p.jobs ((gt l j).item)).drop)) ((gt p.jobs ((gt l j).item)).pick)) A39 c40) (IL.mk (addL (subL x.il ((gt p.jobs ((gt l j).item)).drop)) ((gt p.jobs ((gt l j).item)).pick)) A44 c45) (.c (.t (.t (.t (.t (.t .h))))) (.c (.t (.t (.t .h))) (.c (.t (.t .h)) .n))) (by have h_ := hSt.1; have hd_ := hL.dims; dsimp only; omega) (by have h_ := hSt.1; have hd_ := hL.dims; dsimp only; omega) ?_
    refine .region (.v (ev_add U U U (r := (j + 1)) U oO oO) U (.m U U U ?_))
    exact SP.nil (SQ.roundb (X := Int × Bool × IL × (List IL) × Value) (x := (j, own, x, Y, u_Y)) ⟨(j + 1), true, (IL.mk (addL (subL x.il ((gt p.jobs ((gt l j).item)).drop)) ((gt p.jobs ((gt l j).item)).pick)) A39 c40), (Y ++ [(IL.mk (addL (subL x.il ((gt p.jobs ((gt l j).item)).drop)) ((gt p.jobs ((gt l j).item)).pick)) A44 c45)]), v48⟩ (by exact ⟨oO, oO, (by have hq := r_2; rw [drop_gt (x := j) oO oO, loadsR_cons, loadSt_1 (by assumption) (by assumption)] at hq; rw [List.map_append, List.append_assoc]; exact hq), hSt, (by simp only [List.length_append, List.length_singleton]; omega)⟩) dO (Sub.get (.c4 U U U U (.c4 U U U U (.c U (.c U (.c U .n)))))) (fun w hw => hw.keep (.c .h (.c .h (.c (.t (.t (.t (.t (.t .h))))) .n)))))
   refine .seq (.region (.v (ev_cmp U U U U) U (.a U U U (.go idQ ?_))))
   refine .condI U bE (fun h49 => ?_) (fun h49 => ?_)
   ·
    have hin := is_i2 (by assumption) oO
    have hjb := hL.ship _ hin.1 hin.2
    refine .region (.m U U U (.v (ev_fa U fo29_5 U (r := 7) U) U (.v (ev_ld1 U ty27 U (At.own1 5 U U)) U ?_)))
    refine .v (ev_fa U fo83_1 U (r := 1) U) U (.v (ev_ld1 U ty3 U (At.own1 2 U U)) U (.v (ev_ix U Try.underlying27 ty55 U U oO oO (fun _ _ => Fr.adr (i := (gt l j).item) hPB.2.2.2.2.1 oO oO)) U (.v (ev_fa U fo55_2 U (r := ao p.psA + ((gt l j).item).toNat * 9 + 6) U) U ?_)))
    refine .v (ev_ld1 U ty22 U (At.elem1 (At.w (Fr.el (i := (gt l j).item) hPB.2.2.2.2.1 oO oO)) 6 U)) U (.cons (st_lend0 U U U U hbd43 U .n (.c (.t (.t (.t .h))) .n) (fun w_ hw => laddL x.ilA x.ilc x.il ((gt p.ships ((gt l j).item)).saA) ((gt p.ships ((gt l j).item)).sac) ((gt p.ships ((gt l j).item)).am) _ _ ((INF.lend hw 0 U).1) (Fr.ext (hPB.2.2.2.2.2 ((gt l j).item)).1 hw.lendx) (by have h_ := r_3.1; have := hjb.am.1; omega) (by have h_ := r_3.1; have hd_ := hL.dims; first | omega | (rw [subL_len]; omega)) (by first | exact bdd_mono r_3.2 oO | exact bdd_mono (lOk_sub r_3 hjb.drop (Int.le_refl _)).2 oO) (by first | exact rng_bdd hjb.drop.2 oO oO | exact rng_bdd hjb.pick.2 oO oO | exact rng_bdd hjb.am.2 oO oO)) (fun v_q51 C_q51 q51 => ?_)))
    obtain ⟨u50, rfl, rfl⟩ := q51
    show SP _ _ _ _ _ _ ⟨_, _ :: _ :: _, _, _⟩
    refine .m U U U (.v (ev_ext U U U) U (.v (ev_ext U U U) U (.a U U U ?_)))
    refine .go idQ (.know (row_len 0 U) (fun hv54 => ?_))
    obtain ⟨A52, c53, rfl, hv54_1, hv54_2⟩ := hv54
    unfold maxLen at hv54_2
    have hSt := lOk_St (x := gt l j) hL r_3 (k := 100000000 + 2000000 * (j + 1)) oO
    rw [loadSt_2 (by assumption) (by assumption)] at hSt
    simp only [dropV, pickV, amV] at hSt
    refine .region (.m U U U (.m U U U (.cons (st_lend0 U U U U hbd100 U .n (.c .h .n) (fun w_ hw => clonez A52 ((addL x.il ((gt p.ships ((gt l j).item)).am)).length) c53 (addL x.il ((gt p.ships ((gt l j).item)).am)) _ _ (Fr.lend hw 0 U (by first | ((try simp only [List.length_nil, List.length_cons, List.length_append, List.length_set, List.length_singleton, List.length_take, List.length_drop, List.length_reverse, addL_len, subL_len]) <;> omega) | omega)) U (by have h_ := hSt.1; have hd_ := hL.dims; omega)) (fun v_q56 C_q56 q56 => ?_)))))
    obtain ⟨v55, rfl, rfl⟩ := q56
    show SP _ _ _ _ _ _ ⟨_, _ :: _ :: _, _, _⟩
    refine .know (row_len 0 U) (fun hv59 => ?_)
    obtain ⟨A57, c58, rfl, hv59_1, hv59_2⟩ := hv59
    unfold maxLen at hv59_2
    refine .cons (st_lit eIL (e := 22) (l := [(IL.mk (addL x.il ((gt p.ships ((gt l j).item)).am)) A57 c58)]) U U U U kR U U kW (fun b60 => ?_))
    refine .cons (st_app (E := eIL) (m := [(IL.mk (addL x.il ((gt p.ships ((gt l j).item)).am)) A57 c58)]) U U U U Try.underlying137 ai22 U U U (.t (.t (.t (.t (.t (.t (.t .h))))))) rO (row_src 0 U) (by first | ((try simp only [List.length_nil, List.length_cons, List.length_append, List.length_set, List.length_singleton, List.length_take, List.length_drop, List.length_reverse, addL_len, subL_len]) <;> omega) | omega) U (fun v61 => ?_))
    refine .a U U U (.go idQ ?_)
    refine SC.inown (IL.mk (addL x.il ((gt p.ships ((gt l j).item)).am)) A52 c53) (IL.mk (addL x.il ((gt p.ships ((gt l j).item)).am)) A57 c58) (.c (.t (.t (.t (.t .h)))) (.c (.t (.t (.t .h))) (.c (.t (.t .h)) .n))) (by have h_ := hSt.1; have hd_ := hL.dims; dsimp only; omega) (by have h_ := hSt.1; have hd_ := hL.dims; dsimp only; omega) ?_
    refine .region (.v (ev_add U U U (r := (j + 1)) U oO oO) U (.m U U U ?_))
    exact SP.nil (SQ.roundb (X := Int × Bool × IL × (List IL) × Value) (x := (j, own, x, Y, u_Y)) ⟨(j + 1), true, (IL.mk (addL x.il ((gt p.ships ((gt l j).item)).am)) A52 c53), (Y ++ [(IL.mk (addL x.il ((gt p.ships ((gt l j).item)).am)) A57 c58)]), v61⟩ (by exact ⟨oO, oO, (by have hq := r_2; rw [drop_gt (x := j) oO oO, loadsR_cons, loadSt_2 (by assumption) (by assumption)] at hq; rw [List.map_append, List.append_assoc]; exact hq), hSt, (by simp only [List.length_append, List.length_singleton]; omega)⟩) dO (Sub.get (.c4 U U U U (.c4 U U U U (.c U (.c U (.c U .n)))))) (fun w hw => hw.keep (.c .h (.c .h (.c (.t (.t (.t (.t .h)))) .n)))))
   refine .seq (.region (.v (ev_cmp U U U U) U (.a U U U (.go idQ ?_))))
   refine .condI U bE (fun h62 => ?_) (fun h62 => ?_)
   ·
    have hin := is_i2 (by assumption) oO
    have hjb := hL.ship _ hin.1 hin.2
    refine .region (.m U U U (.v (ev_fa U fo29_5 U (r := 7) U) U (.v (ev_ld1 U ty27 U (At.own1 5 U U)) U ?_)))
    refine .v (ev_fa U fo83_1 U (r := 1) U) U (.v (ev_ld1 U ty3 U (At.own1 2 U U)) U (.v (ev_ix U Try.underlying27 ty55 U U oO oO (fun _ _ => Fr.adr (i := (gt l j).item) hPB.2.2.2.2.1 oO oO)) U (.v (ev_fa U fo55_2 U (r := ao p.psA + ((gt l j).item).toNat * 9 + 6) U) U ?_)))
    refine .v (ev_ld1 U ty22 U (At.elem1 (At.w (Fr.el (i := (gt l j).item) hPB.2.2.2.2.1 oO oO)) 6 U)) U (.cons (st_lend0 U U U U hbd79 U .n (.c (.t (.t (.t .h))) .n) (fun w_ hw => lsubL x.ilA x.ilc x.il ((gt p.ships ((gt l j).item)).saA) ((gt p.ships ((gt l j).item)).sac) ((gt p.ships ((gt l j).item)).am) _ _ ((INF.lend hw 0 U).1) (Fr.ext (hPB.2.2.2.2.2 ((gt l j).item)).1 hw.lendx) (by have h_ := r_3.1; have := hjb.am.1; omega) (by have h_ := r_3.1; have hd_ := hL.dims; first | omega | (rw [subL_len]; omega)) (by first | exact bdd_mono r_3.2 oO | exact bdd_mono (lOk_sub r_3 hjb.drop (Int.le_refl _)).2 oO) (by first | exact rng_bdd hjb.drop.2 oO oO | exact rng_bdd hjb.pick.2 oO oO | exact rng_bdd hjb.am.2 oO oO)) (fun v_q64 C_q64 q64 => ?_)))
    obtain ⟨u63, rfl, rfl⟩ := q64
    show SP _ _ _ _ _ _ ⟨_, _ :: _ :: _, _, _⟩
    refine .m U U U (.v (ev_ext U U U) U (.v (ev_ext U U U) U (.a U U U ?_)))
    refine .go idQ (.know (row_len 0 U) (fun hv67 => ?_))
    obtain ⟨A65, c66, rfl, hv67_1, hv67_2⟩ := hv67
    unfold maxLen at hv67_2
    have hSt := lOk_St (x := gt l j) hL r_3 (k := 100000000 + 2000000 * (j + 1)) oO
    rw [loadSt_3 (by assumption) (by assumption)] at hSt
    simp only [dropV, pickV, amV] at hSt
    refine .region (.m U U U (.m U U U (.cons (st_lend0 U U U U hbd100 U .n (.c .h .n) (fun w_ hw => clonez A65 ((subL x.il ((gt p.ships ((gt l j).item)).am)).length) c66 (subL x.il ((gt p.ships ((gt l j).item)).am)) _ _ (Fr.lend hw 0 U (by first | ((try simp only [List.length_nil, List.length_cons, List.length_append, List.length_set, List.length_singleton, List.length_take, List.length_drop, List.length_reverse, addL_len, subL_len]) <;> omega) | omega)) U (by have h_ := hSt.1; have hd_ := hL.dims; omega)) (fun v_q69 C_q69 q69 => ?_)))))
    obtain ⟨v68, rfl, rfl⟩ := q69
    show SP _ _ _ _ _ _ ⟨_, _ :: _ :: _, _, _⟩
    refine .know (row_len 0 U) (fun hv72 => ?_)
    obtain ⟨A70, c71, rfl, hv72_1, hv72_2⟩ := hv72
    unfold maxLen at hv72_2
    refine .cons (st_lit eIL (e := 22) (l := [(IL.mk (subL x.il ((gt p.ships ((gt l j).item)).am)) A70 c71)]) U U U U kR U U kW (fun b73 => ?_))
    refine .cons (st_app (E := eIL) (m := [(IL.mk (subL x.il ((gt p.ships ((gt l j).item)).am)) A70 c71)]) U U U U Try.underlying137 ai22 U U U (.t (.t (.t (.t (.t (.t (.t .h))))))) rO (row_src 0 U) (by first | ((try simp only [List.length_nil, List.length_cons, List.length_append, List.length_set, List.length_singleton, List.length_take, List.length_drop, List.length_reverse, addL_len, subL_len]) <;> omega) | omega) U (fun v74 => ?_))
    refine .a U U U (.go idQ ?_)
    refine SC.inown (IL.mk (subL x.il ((gt p.ships ((gt l j).item)).am)) A65 c66) (IL.mk (subL x.il ((gt p.ships ((gt l j).item)).am)) A70 c71) (.c (.t (.t (.t (.t .h)))) (.c (.t (.t (.t .h))) (.c (.t (.t .h)) .n))) (by have h_ := hSt.1; have hd_ := hL.dims; dsimp only; omega) (by have h_ := hSt.1; have hd_ := hL.dims; dsimp only; omega) ?_
    refine .region (.v (ev_add U U U (r := (j + 1)) U oO oO) U (.m U U U ?_))
    exact SP.nil (SQ.roundb (X := Int × Bool × IL × (List IL) × Value) (x := (j, own, x, Y, u_Y)) ⟨(j + 1), true, (IL.mk (subL x.il ((gt p.ships ((gt l j).item)).am)) A65 c66), (Y ++ [(IL.mk (subL x.il ((gt p.ships ((gt l j).item)).am)) A70 c71)]), v74⟩ (by exact ⟨oO, oO, (by have hq := r_2; rw [drop_gt (x := j) oO oO, loadsR_cons, loadSt_3 (by assumption) (by assumption)] at hq; rw [List.map_append, List.append_assoc]; exact hq), hSt, (by simp only [List.length_append, List.length_singleton]; omega)⟩) dO (Sub.get (.c4 U U U U (.c4 U U U U (.c U (.c U (.c U .n)))))) (fun w hw => hw.keep (.c .h (.c .h (.c (.t (.t (.t (.t .h)))) .n)))))
   refine .skipgo idQ ?_
   have hSt := lOk_St (x := gt l j) hL r_3 (k := 100000000 + 2000000 * (j + 1)) oO
   exact absurd (is_kind (by assumption)) oO
  refine .skipgo idQ ?_
  have hSt := lOk_St (x := gt l j) hL r_3 (k := 100000000 + 2000000 * (j + 1)) oO
  rw [loadSt_no (by assumption)] at hSt
  refine .region (.m U U U (.m U U U (.cons (st_lend0 U U U U hbd100 U .n (.c (.t (.t (.t .h))) .n) (fun w_ hw => clonez x.ilA x.il.length x.ilc x.il _ _ ((INF.lend hw 0 U).1) U (by have h_ := hSt.1; have hd_ := hL.dims; omega)) (fun v_q76 C_q76 q76 => ?_)))))
  obtain ⟨v75, rfl, rfl⟩ := q76
  show SP _ _ _ _ _ _ ⟨_, _ :: _ :: _, _, _⟩
  refine .know (row_len 0 U) (fun hv79 => ?_)
  obtain ⟨A77, c78, rfl, hv79_1, hv79_2⟩ := hv79
  unfold maxLen at hv79_2
  refine .cons (st_lit eIL (e := 22) (l := [(IL.mk x.il A77 c78)]) U U U U kR U U kW (fun b80 => ?_))
  refine .cons (st_app (E := eIL) (m := [(IL.mk x.il A77 c78)]) U U U U Try.underlying137 ai22 U U U (.t (.t (.t (.t (.t (.t .h)))))) rO (row_src 0 U) (by first | ((try simp only [List.length_nil, List.length_cons, List.length_append, List.length_set, List.length_singleton, List.length_take, List.length_drop, List.length_reverse, addL_len, subL_len]) <;> omega) | omega) U (fun v81 => ?_))
  refine .a U U U (.go idQ ?_)
  refine SC.inowk (IL.mk x.il A77 c78) (.c (.t (.t (.t .h))) (.c (.t (.t .h)) .n)) (by have h_ := hSt.1; have hd_ := hL.dims; dsimp only; omega) ?_
  refine .region (.v (ev_add U U U (r := (j + 1)) U oO oO) U (.m U U U ?_))
  exact SP.nil (SQ.roundb (X := Int × Bool × IL × (List IL) × Value) (x := (j, own, x, Y, u_Y)) ⟨(j + 1), own, x, (Y ++ [(IL.mk x.il A77 c78)]), v81⟩ (by exact ⟨oO, oO, (by have hq := r_2; rw [drop_gt (x := j) oO oO, loadsR_cons, loadSt_no (by assumption)] at hq; rw [List.map_append, List.append_assoc]; exact hq), hSt, (by simp only [List.length_append, List.length_singleton]; omega)⟩) dO (Sub.get (.c4 U U U U (.c4 U U U U (.c U (.c U (.c U .n)))))) (fun w hw => hw.keep (.c .h (.c .h (.c (.t (.t (.t (.t .h)))) .n)))))
 refine .exit idQ ?_
 refine .seq ?_
 refine SC.inowend (.c .h .n) ?_
 refine .region (.m U U U (.a U U U (.go idQ ?_)))
 exact .ret idQ (ret1 Try.results97 U (.c (.t .h) (.c .h .n)) ⟨u_Y, Y, (by have hq := r_2; rw [drop_end oO] at hq; rw [← hq]; exact (List.append_nil _).symm), U, U⟩)
end Go.Proofs.Ytimhdimhdimbjaa.Sx
