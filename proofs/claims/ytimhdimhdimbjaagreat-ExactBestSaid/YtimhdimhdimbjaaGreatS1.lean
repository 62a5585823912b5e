import Derived.Maps.RangeRun
import Derived.MapKept
import Derived.Test.YtimhdimhdimbjaaGreatS0
set_option linter.unusedVariables false
set_option linter.unusedSimpArgs false
set_option linter.unusedSectionVars false
namespace Go.SX
open Go Go.RowKit
def ban (k : IntKind) (x y : Int) : Int := k.wrap (BitVec.ofInt k.bits x &&& ~~~ BitVec.ofInt k.bits y).toNat
section
variable {P : Program} {L : List (Nat × Value)} {o : Oper} {C : World → Prop}
theorem ev_bandn {t t' : TypeId} {x y : Operand} {k : IntKind} {a b : Int} (ho : o.op = .binOp .andNot t x y t') (hx : lk L x = some (.int k a)) (hy : lk L y = some (.int k b)) : Ev P C L o (.int k (ban k a b)) :=
  ev_bin ho hx hy (fun w => by simp [eqGuard, binOp, Op.intBits, ban, pure])
theorem Ev.reslot {t : Nat} {v u : Value} (h : lk L (.tmp t) = some v) (k : Ev P C ((t, v) :: L) o u) : Ev P C L o u := by
  have h : lkp L t = some v := h
  have hl : ∀ x, lk ((t, v) :: L) x = lk L x := fun x => by
    cases x with
    | tmp s =>
      show lkp ((t, v) :: L) s = lkp L s
      rw [lkp]
      cases hq : Nat.beq s t with
      | true => rw [cond_true, Nat.eq_of_beq_eq_true hq, h]
      | false => rw [cond_false]
    | _ => rfl
  have he : ev ((t, v) :: L) = ev L := funext fun x => by unfold ev; rw [hl]
  have hk : known ((t, v) :: L) = known L := funext fun x => by unfold known; rw [hl]
  obtain ⟨h1, h2, h3⟩ := k
  rw [he] at h3; rw [hk] at h2
  exact ⟨h1, h2, h3⟩
theorem ev_max {x y : Operand} {a b : Int} {t : Array TypeId} (ho : o.op = .call { callee := .builtin .max, args := #[x, y], argTypes := t }) (hx : lk L x = some (.int .i64 a)) (hy : lk L y = some (.int .i64 b)) : Ev P C L o (.int .i64 (max a b)) :=
  ⟨by simp [ho, noSel], by simp [ho, Op.operands, Call.operands, known_of hx, known_of hy], fun w _ => by
    simp [execOp, ho, ev_of hx, ev_of hy, resolve, invoke, builtin, Builtin.max_, Builtin.max2]
    rw [Int.max_def]
    split <;> split <;> omega⟩
end
theorem mulb {a b : Int} (h1 : -2000000000 ≤ a) (h2 : a ≤ 2000000000) (h3 : -2000000000 ≤ b) (h4 : b ≤ 2000000000) : -4000000000000000000 ≤ a * b ∧ a * b ≤ 4000000000000000000 := by
  have e : (a * b).natAbs ≤ 4000000000000000000 := by
    rw [Int.natAbs_mul]
    exact Nat.mul_le_mul (show a.natAbs ≤ 2000000000 by omega) (show b.natAbs ≤ 2000000000 by omega)
  omega
theorem mul_rng {f n : Int} (hn : n ≤ 32) : 0 ≤ f → f < n → 0 ≤ f * n ∧ f * n ≤ 992 := fun h0 h1 => by
  have h2 : 0 ≤ f * n := Int.mul_nonneg h0 (by omega)
  have h3 : f * n ≤ 31 * 32 := Int.mul_le_mul (by omega) hn (by omega) (by omega)
  omega
def addL (a b : List Int) : List Int := List.zipWith (fun x y => x + y) a b
def subL (a b : List Int) : List Int := List.zipWith (fun x y => x - y) a b
theorem zip_next {f : Int → Int → Int} {a b : List Int} {i : Int} (h0 : 0 ≤ i) (h1 : i < (a.length : Int)) (h2 : i < (b.length : Int)) : List.zipWith f (a.take (i + 1).toNat) (b.take (i + 1).toNat) = List.zipWith f (a.take i.toNat) (b.take i.toNat) ++ [f (gt a i) (gt b i)] := by
  rw [take_gt h0 h1, take_gt h0 h2, List.zipWith_append (by simp; omega)]
  rfl
theorem addL_next {a b X : List Int} {i : Int} (h : X = addL (a.take i.toNat) (b.take i.toNat)) (h0 : 0 ≤ i) (h1 : i < (a.length : Int)) (h2 : i < (b.length : Int)) : X ++ [gt a i + gt b i] = addL (a.take (i + 1).toNat) (b.take (i + 1).toNat) := by
  unfold addL at *; rw [zip_next h0 h1 h2, h]
theorem subL_next {a b X : List Int} {i : Int} (h : X = subL (a.take i.toNat) (b.take i.toNat)) (h0 : 0 ≤ i) (h1 : i < (a.length : Int)) (h2 : i < (b.length : Int)) : X ++ [gt a i - gt b i] = subL (a.take (i + 1).toNat) (b.take (i + 1).toNat) := by
  unfold subL at *; rw [zip_next h0 h1 h2, h]
theorem zip_all {f : List Int → List Int → List Int} {a b X : List Int} {i : Int} (h : X = f (a.take i.toNat) (b.take i.toNat)) (h1 : ¬ i < (a.length : Int)) (h2 : a.length = b.length) : X = f a b := by
  rw [h, List.take_of_length_le (by omega), List.take_of_length_le (by omega)]
theorem addL_len {a b : List Int} : (addL a b).length = min a.length b.length := by simp [addL]
theorem subL_len {a b : List Int} : (subL a b).length = min a.length b.length := by simp [subL]
theorem gt_zip {f : Int → Int → Int} {a b : List Int} (hl : a.length = b.length) (hf : f 0 0 = 0) (i : Int) : gt (List.zipWith f a b) i = f (gt a i) (gt b i) := by
  unfold gt
  simp only [List.getD_eq_getElem?_getD, List.getElem?_zipWith]
  by_cases h : i.toNat < a.length
  · rw [List.getElem?_eq_getElem h, List.getElem?_eq_getElem (by omega)]; rfl
  · rw [List.getElem?_eq_none (by omega), List.getElem?_eq_none (by omega)]; exact hf.symm
theorem gt_add {a b : List Int} (hl : a.length = b.length) (i : Int) : gt (addL a b) i = gt a i + gt b i := gt_zip hl rfl i
theorem gt_sub {a b : List Int} (hl : a.length = b.length) (i : Int) : gt (subL a b) i = gt a i - gt b i := gt_zip hl rfl i
def bdd (m : Int) (l : List Int) : Prop := ∀ i : Int, -m ≤ gt l i ∧ gt l i ≤ m
def underL : List Int → List Int → Bool
  | x :: r, y :: s => if x > y then false else underL r s
  | _, _ => true
def underF (a b : List Int) : Bool := if a.length = b.length then underL a b else false
theorem underL_cons {x y : Int} {r s : List Int} : underL (x :: r) (y :: s) = if x > y then false else underL r s := rfl
theorem underL_end {a b : List Int} {i : Int} {r : Bool} (h : underL (a.drop i.toNat) (b.drop i.toNat) = r) (h1 : ¬ i < (a.length : Int)) : true = r := by
  rw [drop_end h1] at h; rw [← h]; rfl
def startF : List WN → Int → Int × Bool
  | [], _ => (0, false)
  | w :: r, t => if t ≤ w.hi then (max t w.lo, true) else startF r t
theorem startF_cons {w : WN} {r : List WN} {t : Int} : startF (w :: r) t = if t ≤ w.hi then (max t w.lo, true) else startF r t := rfl
def thereF (p : PB) (t : TK) : Bool := if t.ship then decide (0 ≤ t.item ∧ t.item < p.ships.length) else decide (0 ≤ t.item ∧ t.item < p.jobs.length)
def prioF (p : PB) (t : TK) : Int := if thereF p t = true then (if t.ship then (gt p.ships t.item).spr else (gt p.jobs t.item).jpr) else 0
def skilF (p : PB) (t : TK) : Int := if thereF p t = true then (if t.ship then (gt p.ships t.item).ssk else (gt p.jobs t.item).jsk) else 0
def taskV (x : Vis) : TK := if x.kind = 1 then ⟨false, x.item⟩ else if x.kind = 2 ∨ x.kind = 3 then ⟨true, x.item⟩ else ⟨false, 0⟩
def isTask (x : Vis) : Bool := decide (x.kind = 1 ∨ x.kind = 2 ∨ x.kind = 3)
def visT (t : TK) : List Vis := if t.ship then [⟨2, t.item⟩, ⟨3, t.item⟩] else [⟨1, t.item⟩]
def isStop (p : PB) (x : Vis) : Bool := isTask x && thereF p (taskV x)
def stopO (p : PB) (x : Vis) : SO := if x.kind = 1 then (gt p.jobs x.item).so else if x.kind = 2 then (gt p.ships x.item).sp else (gt p.ships x.item).sd
def stopD (p : PB) (x : Vis) : SO := if isStop p x = true then stopO p x else default
theorem task1 {x : Vis} (h : x.kind = 1) : taskV x = ⟨false, x.item⟩ ∧ isTask x = true := by unfold taskV isTask; simp [h]
theorem task2 {x : Vis} (h : x.kind = 2) : taskV x = ⟨true, x.item⟩ ∧ isTask x = true := by unfold taskV isTask; simp [h]
theorem task3 {x : Vis} (h : x.kind = 3) : taskV x = ⟨true, x.item⟩ ∧ isTask x = true := by unfold taskV isTask; simp [h]
theorem task23 {x : Vis} (h : x.kind = 2 ∨ x.kind = 3) : taskV x = ⟨true, x.item⟩ ∧ isTask x = true := h.elim task2 task3
theorem task_no {x : Vis} (h : x.kind ≠ 1) (h2 : x.kind ≠ 2) (h3 : x.kind ≠ 3) : taskV x = ⟨false, 0⟩ ∧ isTask x = false := by unfold taskV isTask; simp [h, h2, h3]
theorem there_f {p : PB} {y : Int} : thereF p ⟨false, y⟩ = decide (0 ≤ y ∧ y < p.jobs.length) := rfl
theorem there_t {p : PB} {y : Int} : thereF p ⟨true, y⟩ = decide (0 ≤ y ∧ y < p.ships.length) := rfl
theorem thr_t {p : PB} {t : TK} (h : ¬ ¬ thereF p t = true) (hs : t.ship = true) : 0 ≤ t.item ∧ t.item < (p.ships.length : Int) := by
  have h := Classical.not_not.1 h; unfold thereF at h; rw [if_pos hs] at h; exact of_decide_eq_true h
theorem thr_f {p : PB} {t : TK} (h : ¬ ¬ thereF p t = true) (hs : ¬ t.ship = true) : 0 ≤ t.item ∧ t.item < (p.jobs.length : Int) := by
  have h := Classical.not_not.1 h; unfold thereF at h; rw [if_neg hs] at h; exact of_decide_eq_true h
theorem stop_no {p : PB} {x : Vis} (h : ¬ isTask x = true ∨ ¬ thereF p (taskV x) = true) : isStop p x = false ∧ stopD p x = default := by
  have e : isStop p x = false := by unfold isStop; rcases h with h | h <;> simp [h]
  exact ⟨e, by unfold stopD; rw [e]; rfl⟩
theorem stop_yes {p : PB} {x : Vis} (h : ¬ (¬ isTask x = true ∨ ¬ thereF p (taskV x) = true)) : isStop p x = true ∧ stopD p x = stopO p x := by
  have e : isStop p x = true := by
    unfold isStop
    have h1 := Classical.not_not.1 (fun e => h (.inl e)); have h2 := Classical.not_not.1 (fun e => h (.inr e))
    rw [h1, h2]; rfl
  exact ⟨e, by unfold stopD; rw [e]; rfl⟩
theorem stop_i1 {p : PB} {x : Vis} (h : ¬ (¬ isTask x = true ∨ ¬ thereF p (taskV x) = true)) (hk : x.kind = 1) : 0 ≤ x.item ∧ x.item < (p.jobs.length : Int) := by
  have h2 := Classical.not_not.1 (fun e => h (.inr e)); rw [(task1 hk).1, there_f] at h2; exact of_decide_eq_true h2
theorem stop_i2 {p : PB} {x : Vis} (h : ¬ (¬ isTask x = true ∨ ¬ thereF p (taskV x) = true)) (hk : x.kind ≠ 1) : 0 ≤ x.item ∧ x.item < (p.ships.length : Int) := by
  have h1 := Classical.not_not.1 (fun e => h (.inl e)); have h2 := Classical.not_not.1 (fun e => h (.inr e))
  unfold isTask at h1; have h1 := of_decide_eq_true h1
  have h3 : x.kind = 2 ∨ x.kind = 3 := by rcases h1 with h | h | h <;> simp_all
  have h4 : taskV x = ⟨true, x.item⟩ := by rcases h3 with h3 | h3 <;> simp [taskV, h3]
  rw [h4, there_t] at h2; exact of_decide_eq_true h2
theorem stopO1 {p : PB} {x : Vis} (h : x.kind = 1) : stopO p x = (gt p.jobs x.item).so := by unfold stopO; rw [if_pos h]
theorem stopO2 {p : PB} {x : Vis} (h : x.kind = 2) : stopO p x = (gt p.ships x.item).sp := by unfold stopO; rw [if_neg (by omega), if_pos h]
theorem stopO3 {p : PB} {x : Vis} (h : ¬ x.kind = 1) (h2 : ¬ x.kind = 2) : stopO p x = (gt p.ships x.item).sd := by unfold stopO; rw [if_neg h, if_neg h2]
theorem SOF.dflt {S : Nat → Prop} {wf : World} : SOF S wf default := Fr.nil _ _ _ _
theorem stopD_F {S : Nat → Prop} {wf : World} {p : PB} (hp : PBF S wf p) (x : Vis) : SOF S wf (stopD p x) := by
  unfold stopD
  split
  · unfold stopO
    split
    · exact (hp.2.2.2.1.2 _).2.2
    · split
      · exact (hp.2.2.2.2.2 _).2.1
      · exact (hp.2.2.2.2.2 _).2.2
  · exact SOF.dflt
def cellF (n : Int) (l : List Int) (f t : Int) : Int := if f < 0 ∨ t < 0 ∨ f ≥ n ∨ t ≥ n then -1 else gt l (f * n + t)
theorem cell_in {f t n : Int} : 0 ≤ f → f < n → 0 ≤ t → t < n → 0 ≤ f * n ∧ 0 ≤ f * n + t ∧ f * n + t < n * n := fun h0 h1 h2 h3 => by
  have h4 : 0 ≤ f * n := Int.mul_nonneg h0 (by omega)
  have h5 : (f + 1) * n ≤ n * n := Int.mul_le_mul_of_nonneg_right (by omega) (by omega)
  rw [Int.add_mul] at h5
  omega
theorem prio_no {p : PB} {t : TK} (h : ¬ thereF p t = true) : prioF p t = 0 ∧ skilF p t = 0 := by unfold prioF skilF; rw [if_neg h, if_neg h]; exact ⟨rfl, rfl⟩
theorem prio_t {p : PB} {t : TK} (h : ¬ ¬ thereF p t = true) (hs : t.ship = true) : prioF p t = (gt p.ships t.item).spr ∧ skilF p t = (gt p.ships t.item).ssk := by
  have h := Classical.not_not.1 h; unfold prioF skilF; rw [if_pos h, if_pos h, if_pos hs, if_pos hs]; exact ⟨rfl, rfl⟩
theorem prio_f {p : PB} {t : TK} (h : ¬ ¬ thereF p t = true) (hs : ¬ t.ship = true) : prioF p t = (gt p.jobs t.item).jpr ∧ skilF p t = (gt p.jobs t.item).jsk := by
  have h := Classical.not_not.1 h; unfold prioF skilF; rw [if_pos h, if_pos h, if_neg hs, if_neg hs]; exact ⟨rfl, rfl⟩
end Go.SX
namespace Go.SX
open Go Go.RowKit
def rIL (e : Nat) (s : IL) : Res := rw_ eZ e (.slice s.ilA s.il.length s.ilc) s.il
def inow (e : Nat) (own : Bool) (x : IL) (l : List IL) : Res where
  foot := (if own then (rIL e x).foot else []) ++ (nestIL e l).foot
  holds w := (own = true → (resIL e x).holds w) ∧ (nestIL e l).holds w ∧ (own = false → x ∈ l)
  stable w w' h hw := ⟨fun ho => (resIL e x).stable w w' (fun b hb => h b (List.mem_append_left _ (by rw [if_pos ho]; exact hb))) (hw.1 ho), (nestIL e l).stable w w' (fun b hb => h b (List.mem_append_right _ hb)) hw.2.1, hw.2.2⟩
  lt w hw b hb := by
    rcases List.mem_append.1 hb with hb | hb
    · cases own with
      | true => exact (resIL e x).lt w (hw.1 rfl) b hb
      | false => cases hb
    · exact (nestIL e l).lt w hw.2.1 b hb
def INF (S : Nat → Prop) (wf : World) (x : IL) (l : List IL) : Prop := Fr eZ S wf x.ilA x.il ∧ ILF S wf l
theorem INF.of {e : Nat} {own : Bool} {x : IL} {l : List IL} {S : Nat → Prop} {w : World} (h : (inow e own x l).holds w) (hS : ∀ b ∈ (inow e own x l).foot, S b) : INF S w x l := by
  have h2 : ILF S w l := ILF.of h.2.1 (fun b hb => hS b (List.mem_append_right _ hb))
  refine ⟨?_, h2⟩
  cases own with
  | true => exact Fr.of_row (h.1 rfl).1 (fun b hb => hS b (List.mem_append_left _ hb)) (h.1 rfl).2
  | false =>
    obtain ⟨n, hn, e⟩ := List.getElem_of_mem (h.2.2 rfl)
    have h3 := h2 n
    have e2 : gt l (n : Int) = x := by simp [gt, List.getD_eq_getElem?_getD, hn, e]
    rw [e2] at h3; exact h3
section
variable {V : Env} {P : Program} {Q : Exit → Act → World → Prop} {ops : Array Oper} {N : Nat} {L : List (Nat × Value)} {H R : List Res} {S : Nat → Prop} {wf : World} {rest : List Oper}
theorem INF.lend {e : Nat} {own : Bool} {x : IL} {l : List IL} {C0 R1 : List Res} {w : World} (hw : WW V S wf (C0 ++ (R1 ++ R)) w) (i : Nat) (hi : R1[i]? = some (inow e own x l)) : INF (fun b => S b ∨ b ∈ feet R1) w x l :=
  INF.of (hw.has _ (List.mem_append_right _ (List.mem_append_left _ (List.mem_of_getElem? hi)))) (fun b hb => .inr (feet_of i hi hb))
theorem SC.inow0 {e : Nat} (x : IL) {c : Code} (hp : PickL H [rw_ eZ e (.slice x.ilA x.il.length x.ilc) x.il] R) (hb : x.il.length ≤ 140737488355328) (h : SC V P Q N c ⟨L, inow e false x [x] :: R, S, wf⟩) : SC V P Q N c ⟨L, H, S, wf⟩ := fun a w hs hw =>
  h a w hs (WW.swap (hw.perm hp.perm) (by simp [inow, nestIL, big, resIL, rowB, feet]) (fun hA => ⟨fun h => (by cases h), fun y hy => by simp only [List.mem_singleton] at hy; subst hy; exact ⟨hA _ (by simp), hb⟩, fun _ => by simp⟩))
theorem SC.inowk {e : Nat} {own : Bool} {x : IL} {l : List IL} (s : IL) {c : Code} (hp : PickL H [inow e own x l, rw_ eZ e (.slice s.ilA s.il.length s.ilc) s.il] R) (hb : s.il.length ≤ 140737488355328) (h : SC V P Q N c ⟨L, inow e own x (l ++ [s]) :: R, S, wf⟩) : SC V P Q N c ⟨L, H, S, wf⟩ := fun a w hs hw =>
  h a w hs (WW.swap (hw.perm hp.perm) (by simp [inow, nestIL, big, resIL, rowB, feet, List.flatMap_append]) (fun hA => by
    obtain ⟨h1, h2, h3⟩ := hA _ (List.mem_cons_self ..)
    refine ⟨h1, fun y hy => ?_, fun ho => List.mem_append_left _ (h3 ho)⟩
    rcases List.mem_append.1 hy with hy | hy
    · exact h2 y hy
    · simp only [List.mem_singleton] at hy; subst hy; exact ⟨hA _ (by simp), hb⟩))
theorem WW.relist {A B : List Res} {w : World} (h : WW V S wf (A ++ R) w) (hf : (feet B).Perm (feet A)) (hh : (∀ x ∈ A, x.holds w) → ∀ x ∈ B, x.holds w) : WW V S wf (B ++ R) w := by
  have e : (feet (B ++ R)).Perm (feet (A ++ R)) := by rw [feet_append, feet_append]; exact hf.append_right _
  exact {
    has := fun r hr => by
      rcases List.mem_append.1 hr with hr | hr
      · exact hh (fun y hy => h.has y (List.mem_append_left _ hy)) r hr
      · exact h.has r (List.mem_append_right _ hr)
    nd := e.nodup_iff.2 h.nd
    sep := fun b hb => h.sep b (e.mem_iff.1 hb)
    fz := h.fz, new := h.new, fr := h.fr, sz := h.sz, os := h.os, tape := h.tape, output := h.output }
theorem SC.inown {e : Nat} {own : Bool} {x : IL} {l : List IL} (y s : IL) {c : Code} (hp : PickL H [inow e own x l, rw_ eZ e (.slice y.ilA y.il.length y.ilc) y.il, rw_ eZ e (.slice s.ilA s.il.length s.ilc) s.il] R) (hy : y.il.length ≤ 140737488355328) (hb : s.il.length ≤ 140737488355328)
    (h : SC V P Q N c ⟨L, inow e true y (l ++ [s]) :: R, S, wf⟩) : SC V P Q N c ⟨L, H, S, wf⟩ := fun a w hs hw => by
  have hw1 := hw.perm hp.perm
  have key : ∀ z ∈ l ++ [s], (nestIL e l).holds w → (rw_ eZ e (.slice s.ilA s.il.length s.ilc) s.il).holds w → (resIL e z).holds w := fun z hz h1 h2 => by
    rcases List.mem_append.1 hz with hz | hz
    · exact h1 z hz
    · simp only [List.mem_singleton] at hz; subst hz; exact ⟨h2, hb⟩
  cases own with
  | false =>
    refine h a w hs (WW.relist (B := [inow e true y (l ++ [s])]) hw1 ?_ (fun hA r hr => ?_))
    · simp only [inow, rIL, rw_, nestIL, big, resIL, rowB, feet, List.flatMap_append, List.flatMap_cons, List.flatMap_nil, List.append_nil, if_pos, Bool.false_eq_true, if_false, List.nil_append]
      simp only [← List.append_assoc]
      exact (List.perm_append_comm).append_right _
    · simp only [List.mem_singleton] at hr; subst hr
      exact ⟨fun _ => ⟨hA _ (by simp), hy⟩, fun z hz => key z hz (hA (inow e false x l) (by simp)).2.1 (hA _ (by simp)), fun h => by cases h⟩
  | true =>
    have h3 : WW V S wf ([rIL e x, inow e true y (l ++ [s])] ++ R) w := by
      refine WW.relist hw1 ?_ (fun hA r hr => ?_)
      · simp only [inow, rIL, rw_, nestIL, big, resIL, rowB, feet, List.flatMap_append, List.flatMap_cons, List.flatMap_nil, List.append_nil, if_pos]
        rw [List.append_assoc]
        refine List.Perm.append_left _ ?_
        simp only [← List.append_assoc]
        exact (List.perm_append_comm).append_right _
      · rcases List.mem_cons.1 hr with rfl | hr
        · exact ((hA (inow e true x l) (by simp)).1 rfl).1
        · simp only [List.mem_singleton] at hr; subst hr
          exact ⟨fun _ => ⟨hA _ (by simp), hy⟩, fun z hz => key z hz (hA (inow e true x l) (by simp)).2.1 (hA _ (by simp)), fun h => by cases h⟩
    exact h a w hs (WW.drop (C := [rIL e x]) h3)
theorem SC.inowend {e : Nat} {own : Bool} {x : IL} {l : List IL} {c : Code} (hp : PickL H [inow e own x l] R) (h : SC V P Q N c ⟨L, nestIL e l :: R, S, wf⟩) : SC V P Q N c ⟨L, H, S, wf⟩ := fun a w hs hw => by
  have hw1 := hw.perm hp.perm
  cases own with
  | false => exact h a w hs (WW.relist (B := [nestIL e l]) hw1 (by simp [inow, feet]) (fun hA r hr => by simp only [List.mem_singleton] at hr; subst hr; exact (hA (inow e false x l) (by simp)).2.1))
  | true =>
    have h3 : WW V S wf ([rIL e x, nestIL e l] ++ R) w := WW.relist hw1 (by simp [inow, feet]) (fun hA r hr => by
      rcases List.mem_cons.1 hr with rfl | hr
      · exact ((hA (inow e true x l) (by simp)).1 rfl).1
      · simp only [List.mem_singleton] at hr; subst hr; exact (hA (inow e true x l) (by simp)).2.1)
    exact h a w hs (WW.drop (C := [rIL e x]) h3)
end
end Go.SX
namespace Go.SX
open Go Go.RowKit Go.Lib
instance : Inhabited Sl := ⟨⟨.bool false, rfl⟩⟩
end Go.SX
namespace Go.SX
open Go Go.RowKit
open Go.ChangeMaps (setBlock)
structure KE (P : Program) (k : TypeId) (α : Type) where
  f : α → Value
  inj : ∀ x y, f x = f y → x = y
  check : ∀ w b x, (Instr.checkKey b 10000 k (f x)).run P w = .ok () w
  find : ∀ w x (es : List MapEntry), (∀ e ∈ es, ∃ y, e.key = f y) → ((Instr.findKey k (f x) es).run P w = .ok none w ∧ ∀ e ∈ es, e.key ≠ f x) ∨ ∃ j e0, (Instr.findKey k (f x) es).run P w = .ok (some (j, e0.val)) w ∧ es[j]? = some e0 ∧ e0.key = f x
  bits : ∀ x, Instr.sameBits 10000 (f x) (f x) = true
theorem find_asking {P : Program} {k : TypeId} {α : Type} [DecidableEq α] (f : α → Value) (inj : ∀ x y, f x = f y → x = y) (heq : ∀ x y w, (Op.equal k (f x) (f y)).run P w = .ok (decide (x = y)) w) (w : World) (x : α) :
    ∀ (es : List MapEntry) (i : Nat), (∀ e ∈ es, ∃ y, e.key = f y) → ((Instr.findAsking k (f x) es i).run P w = .ok none w ∧ ∀ e ∈ es, e.key ≠ f x) ∨ ∃ j e0, (Instr.findAsking k (f x) es i).run P w = .ok (some (i + j, e0.val)) w ∧ es[j]? = some e0 ∧ e0.key = f x
  | [], i, _ => .inl ⟨by simp [Instr.findAsking], by simp⟩
  | e :: es, i, h => by
    obtain ⟨y, hy⟩ := h e (by simp)
    by_cases hxy : x = y
    · refine .inr ⟨0, e, ?_, by simp, by rw [hy, hxy]⟩
      simp only [Instr.findAsking, Sem.run_bind, hy, heq, hxy, decide_true, Result.andThen_ok, if_true]
      rfl
    · rcases find_asking f inj heq w x es (i + 1) (fun e he => h e (by simp [he])) with ⟨h1, h2⟩ | ⟨j, e0, h1, h2, h3⟩
      · refine .inl ⟨?_, ?_⟩
        · simp only [Instr.findAsking, Sem.run_bind, hy, heq, hxy, decide_false, Result.andThen_ok]
          exact h1
        · intro e' he'
          rcases List.mem_cons.1 he' with rfl | he'
          · rw [hy]; exact fun h => hxy (inj _ _ h).symm
          · exact h2 e' he'
      · refine .inr ⟨j + 1, e0, ?_, by simpa using h2, h3⟩
        simp only [Instr.findAsking, Sem.run_bind, hy, heq, hxy, decide_false, Result.andThen_ok]
        rw [show i + (j + 1) = i + 1 + j from by omega]
        exact h1
def KE.ofStruct {P : Program} {k : TypeId} {α : Type} [DecidableEq α] {fs : Array Field} (f : α → Value) (inj : ∀ x y, f x = f y → x = y) (hu : P.underlying k = some (.struct fs)) (heq : ∀ x y w, (Op.equal k (f x) (f y)).run P w = .ok (decide (x = y)) w)
    (hc : ∀ w b x, (Instr.checkKey b 10000 k (f x)).run P w = .ok () w) (hb : ∀ x, Instr.sameBits 10000 (f x) (f x) = true) : KE P k α where
  f := f
  inj := inj
  check := hc
  bits := hb
  find w x es h := by
    have hn : ∀ (es : List MapEntry), es ≠ [] → ∀ i, Instr.findNow (.struct fs) (f x) es i = none := by
      intro es he i
      cases es with
      | nil => exact absurd rfl he
      | cons e r => simp [Instr.findNow, Instr.sameNow]
    by_cases h0 : es = []
    · subst h0
      refine .inl ⟨?_, by simp⟩
      simp [Instr.findKey, run_underlying hu, Instr.findNow]
    · have hr : (Instr.findKey k (f x) es).run P w = (Instr.findAsking k (f x) es 0).run P w := by
        simp only [Instr.findKey, Sem.run_bind, run_underlying hu, Result.andThen_ok, hn es h0 0]
      rw [hr]
      have := find_asking f inj heq w x es 0 h
      simpa using this
structure MC {α β : Type} (kf : α → Value) (vf : β → Value) (es : Array MapEntry) (clock : Nat) (m : List (α × β)) : Prop where
  kv : es.toList.map (fun e => (e.key, e.val)) = m.map (fun p => (kf p.1, vf p.2))
  nd : (m.map Prod.fst).Nodup
  bn : (es.toList.map MapEntry.born).Nodup
  old : ∀ e ∈ es.toList, e.born < clock
def mget {α β : Type} [DecidableEq α] (m : List (α × β)) (x : α) (z : β) : β := ((m.find? (fun p => decide (p.1 = x))).map Prod.snd).getD z
def mhas {α β : Type} [DecidableEq α] (m : List (α × β)) (x : α) : Bool := m.any (fun p => decide (p.1 = x))
def mins {α β : Type} [DecidableEq α] (m : List (α × β)) (x : α) (z : β) : List (α × β) := if mhas m x then m else m ++ [(x, z)]
def mset {α β : Type} [DecidableEq α] (m : List (α × β)) (x : α) (v : β) : List (α × β) := if mhas m x then m.map (fun p => if p.1 = x then (x, v) else p) else m ++ [(x, v)]
section
variable {α β : Type} [DecidableEq α] {m : List (α × β)} {x y : α} {v z : β}
theorem mhas_iff : mhas m x = true ↔ ∃ v, (x, v) ∈ m := by
  unfold mhas
  rw [List.any_eq_true]
  constructor
  · rintro ⟨p, hp, h⟩
    rw [decide_eq_true_iff] at h
    exact ⟨p.2, by rw [← h]; exact hp⟩
  · rintro ⟨v, hv⟩
    exact ⟨(x, v), hv, by simp⟩
theorem mget_cons {p : α × β} : mget (p :: m) x z = if p.1 = x then p.2 else mget m x z := by
  unfold mget
  rw [List.find?_cons]
  by_cases h : p.1 = x <;> simp [h]
theorem mget_none (h : mhas m x = false) : mget m x z = z := by
  induction m with
  | nil => rfl
  | cons p m ih =>
    unfold mhas at h ih
    rw [List.any_cons, Bool.or_eq_false_iff] at h
    rw [mget_cons, if_neg (by simpa using h.1), ih h.2]
theorem mget_app {n : List (α × β)} : mget (m ++ n) x z = if mhas m x then mget m x z else mget n x z := by
  induction m with
  | nil => simp [mhas]
  | cons p m ih =>
    rw [List.cons_append, mget_cons, mget_cons, ih]
    unfold mhas
    rw [List.any_cons]
    by_cases h : p.1 = x
    · simp [h]
    · rw [if_neg h]; simp only [h, decide_false, Bool.false_or]; rfl
theorem mget_set : mget (mset m x v) y z = if x = y then v else mget m y z := by
  unfold mset
  split
  · rename_i h
    induction m with
    | nil => simp [mhas] at h
    | cons p m ih =>
      rw [List.map_cons, mget_cons, mget_cons]
      by_cases hp : p.1 = x
      · rw [if_pos hp]
        by_cases e : x = y
        · simp [e]
        · simp only [e, if_false, hp]
          by_cases h2 : mhas m x = true
          · rw [ih h2, if_neg e]
          · have : m.map (fun p => if p.1 = x then (x, v) else p) = m := by
              conv => rhs; rw [← List.map_id m]
              refine List.map_congr_left fun q hq => ?_
              rw [if_neg]
              · rfl
              · intro e2
                exact h2 (mhas_iff.2 ⟨q.2, by rw [← e2]; exact hq⟩)
            rw [this]
      · rw [if_neg hp]
        have h2 : mhas m x = true := by
          unfold mhas at h ⊢
          rw [List.any_cons] at h
          simpa [hp] using h
        by_cases e : p.1 = y
        · rw [if_pos e, if_pos e, if_neg (fun e2 => hp (e.trans e2.symm))]
        · rw [if_neg e, if_neg e, ih h2]
  · rename_i h
    rw [mget_app]
    by_cases e : x = y
    · subst e
      rw [if_neg h, mget_cons, if_pos rfl, if_pos rfl]
    · rw [if_neg e, mget_cons, if_neg e]
      split
      · rfl
      · rename_i h2
        rw [mget_none (m := m) (by simpa using h2)]; rfl
theorem keys_ins : (mins m x z).map Prod.fst = if mhas m x then m.map Prod.fst else m.map Prod.fst ++ [x] := by
  unfold mins; split <;> simp
theorem nd_ins (h : (m.map Prod.fst).Nodup) : ((mins m x z).map Prod.fst).Nodup := by
  rw [keys_ins]
  split
  · exact h
  · rename_i hh
    rw [List.nodup_append]
    refine ⟨h, by simp, ?_⟩
    intro a ha b hb e
    simp only [List.mem_singleton] at hb
    subst hb e
    obtain ⟨p, hp, e⟩ := List.mem_map.1 ha
    exact hh (mhas_iff.2 ⟨p.2, by rw [← e]; exact hp⟩)
theorem keys_set : (mset m x v).map Prod.fst = if mhas m x then m.map Prod.fst else m.map Prod.fst ++ [x] := by
  unfold mset; split
  · rw [List.map_map]
    refine List.map_congr_left fun p hp => ?_
    simp only [Function.comp]
    by_cases h : p.1 = x
    · rw [if_pos h, h]
    · rw [if_neg h]
  · simp
theorem nd_set (h : (m.map Prod.fst).Nodup) : ((mset m x v).map Prod.fst).Nodup := by
  have := nd_ins (m := m) (x := x) (z := v) h
  rw [keys_ins] at this
  rw [keys_set]
  exact this
theorem mget_mem (h : (m.map Prod.fst).Nodup) (hm : (x, v) ∈ m) : mget m x z = v := by
  induction m with
  | nil => cases hm
  | cons p m ih =>
    rw [List.map_cons, List.nodup_cons] at h
    rw [mget_cons]
    rcases List.mem_cons.1 hm with rfl | hm
    · simp
    · rw [if_neg, ih h.2 hm]
      intro e
      exact h.1 (by rw [e]; exact List.mem_map.2 ⟨_, hm, rfl⟩)
end
end Go.SX
namespace Go.SX
open Go Go.RowKit
open Go.ChangeMaps (setBlock)
section
variable {α β : Type}
def mp (kf : α → Value) (vf : β → Value) (b : Nat) (m : List (α × β)) : Res where
  foot := [b]
  holds w := ∃ es clock, w.heap[b]? = some (.map es clock) ∧ MC kf vf es clock m
  stable w w' h hw := by rw [h b (by simp)]; exact hw
  lt w h b' hb := by
    simp at hb; subst hb
    obtain ⟨es, clock, h1, _⟩ := h
    exact lt_of_some h1
def mpk (kf : α → Value) (vf : β → Value) (b : Nat) (m : List (α × β)) (x : α) (n : Nat) : Res where
  foot := [b]
  holds w := ∃ es clock, w.heap[b]? = some (.map es clock) ∧ MC kf vf es clock m ∧ ∃ e ∈ es.toList, e.key = kf x ∧ e.born = n
  stable w w' h hw := by rw [h b (by simp)]; exact hw
  lt w h b' hb := by
    simp at hb; subst hb
    obtain ⟨es, clock, h1, _⟩ := h
    exact lt_of_some h1
end
section
variable {V : Env} {P : Program} {Q : Exit → Act → World → Prop} {ops : Array Oper} {N : Nat} {o : Oper} {rest : List Oper} {L : List (Nat × Value)} {H R : List Res} {S : Nat → Prop} {wf : World} {K : St → Prop} {st : St} {C : World → Prop}
variable {α β : Type} [DecidableEq α] {vf : β → Value} {m : List (α × β)} {x : α} {v z : β} {b : Nat}
theorem MC.at {kf : α → Value} {es : Array MapEntry} {clock j : Nat} {e : MapEntry} (h : MC kf vf es clock m) (hj : es.toList[j]? = some e) : ∃ p, m[j]? = some p ∧ e.key = kf p.1 ∧ e.val = vf p.2 := by
  have := congrArg (fun l => l[j]?) h.kv
  simp only [List.getElem?_map, hj, Option.map_some] at this
  cases hm : m[j]? with
  | none => rw [hm] at this; cases this
  | some p =>
    rw [hm] at this
    simp only [Option.map_some, Option.some.injEq, Prod.mk.injEq] at this
    exact ⟨p, rfl, this.1, this.2⟩
theorem MC.keys {kf : α → Value} {es : Array MapEntry} {clock : Nat} (h : MC kf vf es clock m) : ∀ e ∈ es.toList, ∃ y, e.key = kf y := fun e he => by
  obtain ⟨j, hj⟩ := List.getElem?_of_mem he
  obtain ⟨p, _, h2, _⟩ := h.at hj
  exact ⟨p.1, h2⟩
theorem MC.len {kf : α → Value} {es : Array MapEntry} {clock : Nat} (h : MC kf vf es clock m) : es.toList.length = m.length := by
  have := congrArg List.length h.kv
  simpa using this
theorem MC.find {k : TypeId} {E : KE P k α} {es : Array MapEntry} {clock : Nat} (h : MC E.f vf es clock m) (w : World) (x : α) :
    ((Instr.findKey k (E.f x) es.toList).run P w = .ok none w ∧ mhas m x = false) ∨
    ∃ j e0 v, (Instr.findKey k (E.f x) es.toList).run P w = .ok (some (j, e0.val)) w ∧ es.toList[j]? = some e0 ∧ e0.key = E.f x ∧ m[j]? = some (x, v) ∧ e0.val = vf v ∧ mhas m x = true ∧ ∀ z, mget m x z = v := by
  rcases E.find w x es.toList h.keys with ⟨h1, h2⟩ | ⟨j, e0, h1, h2, h3⟩
  · refine .inl ⟨h1, ?_⟩
    rw [Bool.eq_false_iff]
    intro hm
    obtain ⟨v, hv⟩ := mhas_iff.1 hm
    obtain ⟨j, hj⟩ := List.getElem?_of_mem hv
    have hlt : j < es.toList.length := by rw [h.len]; exact (List.getElem?_eq_some_iff.1 hj).1
    obtain ⟨p, hp, h4, _⟩ := h.at (List.getElem?_eq_getElem hlt)
    rw [hj] at hp
    cases hp
    exact h2 _ (List.getElem_mem hlt) h4
  · obtain ⟨p, hp, h4, h5⟩ := h.at h2
    have hx : p.1 = x := E.inj _ _ (h4.symm.trans h3)
    have hp' : m[j]? = some (x, p.2) := by rw [hp, ← hx]
    exact .inr ⟨j, e0, p.2, h1, h2, h3, hp', h5, mhas_iff.2 ⟨p.2, List.mem_of_getElem? hp'⟩, fun z => mget_mem h.nd (List.mem_of_getElem? hp')⟩
theorem ev_lkp {t k e : TypeId} (E : KE P k α) {a y : Operand} (ho : o.op = .lookup t a y false) (hu : P.underlying t = some (.map k e)) (hz : (P.info? e).bind (fun i => i.zero) = some (vf z))
    (ha : lk L a = some (.map (some b))) (hy : lk L y = some (E.f x)) (i : Nat) (hi : H[i]? = some (mp E.f vf b m)) : Ev P (WW V S wf H) L o (vf (mget m x z)) :=
  ⟨by simp [ho, noSel], by simp [ho, Op.operands, known_of ha, known_of hy], fun w hw => by
    obtain ⟨es, clock, hb, hM⟩ := hw.has _ (List.mem_of_getElem? hi)
    obtain ⟨inf, hi1, hi2⟩ := Option.bind_eq_some_iff.1 hz
    have hzr : (zeroValue e).run P w = .ok (vf z) w := by simp [zeroValue, typeInfo, hi1, hi2]
    rcases hM.find w x with ⟨h1, h2⟩ | ⟨j, e0, u, h1, h2, h3, h4, h5, h6, h7⟩
    · simp [execOp, ho, ev_of ha, ev_of hy, Instr.lookup, run_underlying hu, MapKept.run_getObj_map hb, E.check, h1, hzr, Result.andThen, mget_none h2]
    · simp [execOp, ho, ev_of ha, ev_of hy, Instr.lookup, run_underlying hu, MapKept.run_getObj_map hb, E.check, h1, hzr, Result.andThen, h7, h5]⟩
theorem st_mkmap {t : TypeId} (kf : α → Value) (vf : β → Value) {d : Nat} (ho : o.op = .makeMap t none) (hg : o.guard = none) (hd : o.dst = some d) (hdN : Nat.blt d N = true)
    (k : ∀ b, K ⟨(d, .map (some b)) :: L, mp kf vf b [] :: H, S, wf⟩) : OpStep V P Q ops N o ⟨L, H, S, wf⟩ K :=
  .act hg hd hdN (by simp [ho, noSel]) (by rw [ho]; simp [Op.operands]) fun w hw => by
    refine ⟨_, _, _, by simp [execOp, ho, Instr.makeMap, newObj, Sem.run]; rfl, ?_, k w.heap.size⟩
    refine WW.change (C := []) (R := H) (C' := [mp kf vf w.heap.size []]) hw (fun b hb _ => Below.heap_alloc w _ b hb) (by simp) ?_ (by simp [mp]) (fun b hb => .inr ?_) rfl rfl rfl
    · intro r hr
      simp only [List.mem_singleton] at hr
      subst hr
      exact ⟨#[], 0, heap_alloc_new w _, ⟨by simp, by simp, by simp, by simp⟩⟩
    · simp [mp] at hb
      omega
theorem heap_setBlock_ne (w : World) (b : Nat) (o : Obj) (b' : Nat) (h : b' ≠ b) : (setBlock w b o).heap[b']? = w.heap[b']? := by
  simp [setBlock, Array.getElem?_setIfInBounds, Ne.symm h]
theorem heap_setBlock_at {w : World} {b : Nat} {o o' : Obj} (h : w.heap[b]? = some o) : (setBlock w b o').heap[b]? = some o' := by
  simp [setBlock, Array.getElem?_setIfInBounds, lt_of_some h]
theorem WW.setBlock {w : World} {r r' : Res} {o' : Obj} {o1 : Obj} (hw : WW V S wf (r :: R) w) (hf : r.foot = [b]) (hf' : r'.foot = [b]) (hb : w.heap[b]? = some o1) (h : r'.holds (setBlock w b o')) : WW V S wf (r' :: R) (setBlock w b o') := by
  refine WW.change (C := [r]) (R := R) (C' := [r']) hw (fun b' _ hn => heap_setBlock_ne _ _ _ _ (by simpa [hf] using hn)) (by simp [ChangeMaps.setBlock]) ?_ (by simp [hf']) (fun b' hb' => .inl (by simpa [hf, hf'] using hb')) rfl rfl rfl
  intro q hq
  simp only [List.mem_singleton] at hq
  subst hq
  exact h
theorem MC.push {kf : α → Value} {es : Array MapEntry} {clock : Nat} (h : MC kf vf es clock m) (hx : mhas m x = false) : MC kf vf (es.push ⟨kf x, vf v, clock⟩) (clock + 1) (m ++ [(x, v)]) where
  kv := by simp [h.kv]
  nd := by
    have := nd_ins (z := v) (x := x) h.nd
    unfold mins at this
    rwa [if_neg (by simp [hx])] at this
  bn := by
    rw [Array.toList_push, List.map_append, List.nodup_append]
    refine ⟨h.bn, by simp, ?_⟩
    intro a ha c hc e
    obtain ⟨e0, he0, rfl⟩ := List.mem_map.1 ha
    simp at hc
    have := h.old e0 he0
    omega
  old e he := by
    rw [Array.toList_push, List.mem_append] at he
    rcases he with he | he
    · have := h.old e he; omega
    · simp at he; subst he; simp
theorem set_map {kf : α → Value} {j : Nat} {u : β} (hn : (m.map Prod.fst).Nodup) (h : m[j]? = some (x, u)) : m.set j (x, v) = mset m x v := by
  have hm : mhas m x = true := mhas_iff.2 ⟨u, List.mem_of_getElem? h⟩
  unfold mset
  rw [if_pos hm]
  refine List.ext_getElem? fun i => ?_
  rw [List.getElem?_map]
  by_cases hij : j = i
  · subst hij
    rw [List.getElem?_set_self (List.getElem?_eq_some_iff.1 h).1, h]
    simp
  · rw [List.getElem?_set_ne hij]
    cases hi : m[i]? with
    | none => rfl
    | some p =>
      simp only [Option.map_some, Option.some.injEq]
      rw [if_neg]
      intro e
      have h1 : (m.map Prod.fst)[i]? = some x := by simp [hi, e]
      have h2 : (m.map Prod.fst)[j]? = some x := by simp [h]
      have hlt : i < (m.map Prod.fst).length := (List.getElem?_eq_some_iff.1 h1).1
      exact hij ((List.getElem?_inj hlt hn).1 (h1.trans h2.symm)).symm
theorem MC.set {kf : α → Value} {es : Array MapEntry} {clock j : Nat} {e0 : MapEntry} {u : β} (h : MC kf vf es clock m) (hj : es.toList[j]? = some e0) (hk : e0.key = kf x) (hm : m[j]? = some (x, u)) :
    MC kf vf (es.modify j (fun e => { e with val := vf v })) clock (mset m x v) := by
  have hl : (es.modify j (fun e => { e with val := vf v })).toList = es.toList.set j { e0 with val := vf v } := by rw [Array.toList_modify, ChangeMaps.modify_eq_set _ _ _ _ hj]
  have hlt := (List.getElem?_eq_some_iff.1 hj).1
  have hg := (List.getElem?_eq_some_iff.1 hj).2
  refine ⟨?_, nd_set h.nd, ?_, ?_⟩
  · rw [hl, List.map_set, h.kv, ← set_map (kf := kf) h.nd hm, List.map_set, hk]
  · rw [hl, List.map_set]
    have : (es.toList.map MapEntry.born).set j e0.born = es.toList.map MapEntry.born := by
      have e1 : e0.born = (es.toList.map MapEntry.born)[j]'(by simpa using hlt) := by simp [hg]
      rw [e1, List.set_getElem_self]
    show ((es.toList.map MapEntry.born).set j e0.born).Nodup
    rw [this]; exact h.bn
  · intro e he
    rw [hl] at he
    rcases List.mem_or_eq_of_mem_set he with he | rfl
    · exact h.old e he
    · exact h.old e0 (List.mem_of_getElem? hj)
end
end Go.SX
namespace Go.SX
open Go Go.RowKit
open Go.ChangeMaps (setBlock)
section
variable {V : Env} {P : Program} {Q : Exit → Act → World → Prop} {ops : Array Oper} {N : Nat} {o : Oper} {rest : List Oper} {L : List (Nat × Value)} {H R : List Res} {S : Nat → Prop} {wf : World} {K : St → Prop} {st : St} {C : World → Prop}
variable {α β : Type} [DecidableEq α] {vf : β → Value} {m : List (α × β)} {x : α} {v z : β} {b : Nat}
theorem MC.same {kf : α → Value} {es : Array MapEntry} {clock j : Nat} {e0 : MapEntry} (h : MC kf vf es clock m) (hj : es.toList[j]? = some e0) : es.modify j (fun e => { e with key := e0.key }) = es := by
  apply Array.toList_inj.1
  rw [Array.toList_modify, ChangeMaps.modify_eq_set _ _ _ _ hj]
  have hlt := (List.getElem?_eq_some_iff.1 hj).1
  have hg := (List.getElem?_eq_some_iff.1 hj).2
  show es.toList.set j e0 = es.toList
  rw [← hg, List.set_getElem_self]
theorem run_stays {k : TypeId} (E : KE P k α) (w : World) (x : α) : (Instr.keyThatStays (E.f x) (E.f x)).run P w = .ok (E.f x) w := by
  simp [Instr.keyThatStays, E.bits x]
theorem find_of_born {es : Array MapEntry} {j : Nat} {e0 : MapEntry} (hn : (es.toList.map MapEntry.born).Nodup) (hj : es.toList[j]? = some e0) : es.findIdx? (fun e => ((e.born : Nat) : Int) == ((e0.born : Nat) : Int)) = some j := by
  have hlt := (List.getElem?_eq_some_iff.1 hj).1
  have hg := (List.getElem?_eq_some_iff.1 hj).2
  rw [Array.findIdx?_eq_some_iff_getElem]
  have hlt' : j < es.size := by simpa using hlt
  have hg' : es[j] = e0 := hg
  refine ⟨hlt', by simp [hg'], fun i hi => ?_⟩
  have hne : es[i].born ≠ e0.born := by
    intro e
    have h1 : (es.toList.map MapEntry.born)[i]? = some e0.born := by
      have hi' : i < es.toList.length := by omega
      have e' : es.toList[i].born = e0.born := e
      simp only [List.getElem?_map, List.getElem?_eq_getElem hi', Option.map_some, e']
    have h2 : (es.toList.map MapEntry.born)[j]? = some e0.born := by simp only [List.getElem?_map, hj, Option.map_some]
    have := (List.getElem?_inj (List.getElem?_eq_some_iff.1 h1).1 hn).1 (h1.trans h2.symm)
    omega
  simp only [beq_iff_eq, Int.natCast_inj]
  exact hne
theorem st_entryStore {t k : TypeId} (E : KE P k α) {a s y : Operand} {n : Nat} {u : Value} (ho : o.op = .entryStore t a s y) (hg : o.guard = none) (hd : o.dst = none)
    (ha : lk L a = some (.map (some b))) (hs : lk L s = some (.int .i64 ((n : Nat) : Int))) (hy : lk L y = some (vf v)) (hp : Pick H (mpk E.f vf b m x n) R)
    (kx : K ⟨L, mp E.f vf b (mset m x v) :: R, S, wf⟩) : OpStep V P Q ops N o ⟨L, H, S, wf⟩ K :=
  .eff hg hd (by simp [ho, noSel]) (by simp [ho, Op.operands, known_of ha, known_of hs, known_of hy]) fun w hw => by
    have hw' := hw.perm hp.perm
    obtain ⟨es, clock, hb, hM, e0, he0, hk0, hb0⟩ := hw'.has _ (List.mem_cons_self ..)
    obtain ⟨j, hj⟩ := List.getElem?_of_mem he0
    obtain ⟨p, hpm, h4, h5⟩ := hM.at hj
    have hx : p.1 = x := E.inj _ _ (h4.symm.trans hk0)
    have hfi := find_of_born hM.bn hj
    subst hb0
    refine ⟨setBlock w b (.map (es.modify j fun e => { e with val := vf v }) clock), mp E.f vf b (mset m x v) :: R, ?_, hw'.setBlock rfl rfl hb ?_, kx⟩
    · simp [execOp, ho, ev_of ha, ev_of hs, ev_of hy, Instr.entryStore, MapKept.run_getObj_map hb, asInt, asIntOf, hfi, MapKept.run_setObj_map _ hb, Result.andThen, setBlock]
    · exact ⟨_, _, heap_setBlock_at hb, hM.set hj hk0 (u := p.2) (by rw [hpm, ← hx])⟩
theorem st_mapSet {t k e : TypeId} (E : KE P k α) {a s y : Operand} {u : Value} (ho : o.op = .mapUpdate t a s y) (hg : o.guard = none) (hd : o.dst = none) (hu : P.underlying t = some (.map k e))
    (ha : lk L a = some (.map (some b))) (hs : lk L s = some (E.f x)) (hy : lk L y = some (vf v)) (hp : Pick H (mp E.f vf b m) R)
    (kx : K ⟨L, mp E.f vf b (mset m x v) :: R, S, wf⟩) : OpStep V P Q ops N o ⟨L, H, S, wf⟩ K :=
  .eff hg hd (by simp [ho, noSel]) (by simp [ho, Op.operands, known_of ha, known_of hs, known_of hy]) fun w hw => by
    have hw' := hw.perm hp.perm
    obtain ⟨es, clock, hb, hM⟩ := hw'.has _ (List.mem_cons_self ..)
    rcases hM.find w x with ⟨h1, h2⟩ | ⟨j, e0, u, h1, h2, h3, h4, h5, h6, h7⟩
    · refine ⟨setBlock w b (.map (es.push ⟨E.f x, vf v, clock⟩) (clock + 1)), mp E.f vf b (mset m x v) :: R, ?_, hw'.setBlock rfl rfl hb ?_, kx⟩
      · simp [execOp, ho, ev_of ha, ev_of hs, ev_of hy, Instr.mapUpdate, run_underlying hu, MapKept.run_getObj_map hb, E.check, h1, MapKept.run_setObj_map _ hb, Result.andThen, setBlock]
      · have hm : mset m x v = m ++ [(x, v)] := by unfold mset; rw [if_neg (by simp [h2])]
        exact ⟨_, _, heap_setBlock_at hb, by rw [hm]; exact hM.push h2⟩
    · have hj : es[j]? = some e0 := by simpa using h2
      have hmod : es.modify j (fun e => { e with key := E.f x, val := vf v }) = es.modify j (fun e => { e with val := vf v }) := by
        apply Array.toList_inj.1
        rw [Array.toList_modify, Array.toList_modify, ChangeMaps.modify_eq_set _ _ _ _ h2, ChangeMaps.modify_eq_set _ _ _ _ h2, ← h3]
      refine ⟨setBlock w b (.map (es.modify j fun e => { e with key := E.f x, val := vf v }) clock), mp E.f vf b (mset m x v) :: R, ?_, hw'.setBlock rfl rfl hb ?_, kx⟩
      · simp [execOp, ho, ev_of ha, ev_of hs, ev_of hy, Instr.mapUpdate, run_underlying hu, MapKept.run_getObj_map hb, E.check, h1, hj, h3, run_stays E, MapKept.run_setObj_map _ hb, Result.andThen, setBlock]
      · rw [hmod]
        exact ⟨_, _, heap_setBlock_at hb, hM.set h2 h3 h4⟩
end
end Go.SX
namespace Go.SX
def visV (x : Vis) : Value := .agg #[.int .i64 x.kind, .int .i64 x.item]
theorem visV_inj : ∀ x y : Vis, visV x = visV y → x = y := by
  intro x y h
  unfold visV at h
  injection h with h
  simp at h
  exact vis_ext h.1 h.2
theorem visV_bits (x : Vis) : Instr.sameBits 10000 (visV x) (visV x) = true := by
  have : ∀ n, Instr.sameBits (n + 1) (visV x) (visV x) = true := by intro n; simp [visV, Instr.sameBits]
  exact this 9999
end Go.SX
namespace Go.SX
open Go Go.RowKit
def rng (l : List Int) (m : Int) : Prop := ∀ i : Int, 0 ≤ gt l i ∧ gt l i ≤ m
structure WinsOk (l : List WN) : Prop where
  len : 1 ≤ l.length ∧ l.length ≤ 4
  each : ∀ i : Int, 0 ≤ i → i < l.length → 0 ≤ (gt l i).lo ∧ (gt l i).hi ≤ 1000000 ∧ (gt l i).lo ≤ (gt l i).hi
  next : ∀ i : Int, 0 < i → i < l.length → (gt l (i - 1)).hi < (gt l i).lo
structure StopOk (n : Int) (s : SO) : Prop where
  pl : 0 ≤ s.pl ∧ s.pl < n
  srv : 0 ≤ s.srv ∧ s.srv ≤ 1000000
  win : WinsOk s.sws
structure VehOk (dims n : Int) (v : VH) : Prop where
  st : 0 ≤ v.st ∧ v.st < n
  en : 0 ≤ v.en ∧ v.en < n
  cap : (v.vcap.length : Int) = dims ∧ rng v.vcap 1000000
  sk : 0 ≤ v.vsk ∧ v.vsk < 4611686018427387904
  sh : 0 ≤ v.lo ∧ v.hi ≤ 1000000 ∧ v.lo ≤ v.hi
  fix : 0 ≤ v.fix ∧ v.fix ≤ 1000000
  pt : 0 ≤ v.pt ∧ v.pt ≤ 1000000
  pd : 0 ≤ v.pd ∧ v.pd ≤ 1000000
  mt : 0 ≤ v.mt ∧ v.mt ≤ 12
  brs : v.brs.length ≤ 2
  brk : ∀ i : Int, 0 ≤ i → i < v.brs.length → WinsOk (gt v.brs i).bws ∧ 0 ≤ (gt v.brs i).bsrv ∧ (gt v.brs i).bsrv ≤ 1000000
structure JobOk (dims n : Int) (j : JB) : Prop where
  so : StopOk n j.so
  drop : (j.drop.length : Int) = dims ∧ rng j.drop 1000000
  pick : (j.pick.length : Int) = dims ∧ rng j.pick 1000000
  sk : 0 ≤ j.jsk ∧ j.jsk < 4611686018427387904
  pr : 0 ≤ j.jpr ∧ j.jpr ≤ 100
structure ShipOk (dims n : Int) (s : SH) : Prop where
  sp : StopOk n s.sp
  sd : StopOk n s.sd
  am : (s.am.length : Int) = dims ∧ rng s.am 1000000
  sk : 0 ≤ s.ssk ∧ s.ssk < 4611686018427387904
  pr : 0 ≤ s.spr ∧ s.spr ≤ 100
structure LawP (p : PB) : Prop where
  dims : 0 ≤ p.dims ∧ p.dims ≤ 3
  tn : 1 ≤ p.tn ∧ p.tn ≤ 32
  dn : p.dn = p.tn
  tlen : (p.time.length : Int) = p.tn * p.tn
  dlen : (p.dist.length : Int) = p.tn * p.tn
  tc : ∀ i : Int, -1 ≤ gt p.time i ∧ gt p.time i ≤ 32000000
  dc : ∀ i : Int, -1 ≤ gt p.dist i ∧ gt p.dist i ≤ 32000000
  tg : ∀ a : Int, 0 ≤ a → a < p.tn → gt p.time (a * p.tn + a) = 0
  dg : ∀ a : Int, 0 ≤ a → a < p.tn → gt p.dist (a * p.tn + a) = 0
  nv : p.vehs.length ≤ 4
  nj : p.jobs.length + p.ships.length ≤ 12
  veh : ∀ i : Int, 0 ≤ i → i < p.vehs.length → VehOk p.dims p.tn (gt p.vehs i)
  job : ∀ i : Int, 0 ≤ i → i < p.jobs.length → JobOk p.dims p.tn (gt p.jobs i)
  ship : ∀ i : Int, 0 ≤ i → i < p.ships.length → ShipOk p.dims p.tn (gt p.ships i)
theorem is_i1 {p : PB} {x : Vis} (h : isStop p x = true) (hk : x.kind = 1) : 0 ≤ x.item ∧ x.item < (p.jobs.length : Int) := by
  unfold isStop at h; rw [(task1 hk).1, (task1 hk).2, Bool.true_and, there_f] at h; exact of_decide_eq_true h
theorem is_i2 {p : PB} {x : Vis} (h : isStop p x = true) (hk : x.kind = 2 ∨ x.kind = 3) : 0 ≤ x.item ∧ x.item < (p.ships.length : Int) := by
  unfold isStop at h; rw [(task23 hk).1, (task23 hk).2, Bool.true_and, there_t] at h; exact of_decide_eq_true h
theorem is_kind {p : PB} {x : Vis} (h : isStop p x = true) : x.kind = 1 ∨ x.kind = 2 ∨ x.kind = 3 := by
  unfold isStop isTask at h; rw [Bool.and_eq_true] at h; exact of_decide_eq_true h.1
theorem stop_ok {p : PB} {x : Vis} (L : LawP p) (h : isStop p x = true) : StopOk p.tn (stopD p x) := by
  have e : stopD p x = stopO p x := by unfold stopD; rw [if_pos h]
  rw [e]
  rcases is_kind h with k | k | k
  · rw [stopO1 k]; have i := is_i1 h k; exact (L.job _ i.1 i.2).so
  · rw [stopO2 k]; have i := is_i2 h (.inl k); exact (L.ship _ i.1 i.2).sp
  · rw [stopO3 (by omega) (by omega)]; have i := is_i2 h (.inr k); exact (L.ship _ i.1 i.2).sd
theorem stop_ws {p : PB} (L : LawP p) : ∀ y, (stopD p y).sws.length ≤ 1000 := fun y => by
  by_cases h : isStop p y = true
  · have := (stop_ok L h).win.len; omega
  · unfold stopD; rw [if_neg h]; exact Nat.zero_le _
theorem stopD_rng {p : PB} (L : LawP p) (x : Vis) : 0 ≤ (stopD p x).pl ∧ (stopD p x).pl < p.tn ∧ 0 ≤ (stopD p x).srv ∧ (stopD p x).srv ≤ 1000000 := by
  by_cases h : isStop p x = true
  · have k := stop_ok L h; exact ⟨k.pl.1, k.pl.2, k.srv⟩
  · unfold stopD; rw [if_neg h]; exact ⟨Int.le_refl _, by have := L.tn.1; exact Int.lt_of_lt_of_le (by decide) this, Int.le_refl _, by decide⟩
theorem rng_bdd {l : List Int} {m k : Int} (h : rng l m) (hk : m ≤ k) (h0 : 0 ≤ m) : bdd k l := fun i => by have := h i; omega
theorem bdd_mono {l : List Int} {m k : Int} (h : bdd m l) (hk : m ≤ k) : bdd k l := fun i => by have := h i; omega
theorem bdd_add {a b : List Int} {m k : Int} (h1 : bdd m a) (h2 : bdd k b) (hl : a.length = b.length) : bdd (m + k) (addL a b) := fun i => by rw [gt_add hl]; have := h1 i; have := h2 i; omega
theorem bdd_sub {a b : List Int} {m k : Int} (h1 : bdd m a) (h2 : bdd k b) (hl : a.length = b.length) : bdd (m + k) (subL a b) := fun i => by rw [gt_sub hl]; have := h1 i; have := h2 i; omega
theorem bdd_zero (n : Nat) : bdd 0 (List.replicate n 0) := fun i => by
  rcases gt_mem_or (List.replicate n (0 : Int)) i with h | h
  · rw [(List.mem_replicate.1 h).2]; omega
  · rw [h]; exact ⟨by decide, by decide⟩
def pairsR (p : PB) : List Vis → List (Vis × Bool) → Int → Bool
  | [], m, op => decide (op = 0)
  | x :: r, m, op => if x.kind = 4 then pairsR p r m op
    else if (¬ isStop p x = true ∨ mget m x false = true) ∨ (x.kind = 3 ∧ ¬ mget m ⟨2, x.item⟩ false = true) then false
    else pairsR p r (mset m x true) (if x.kind = 2 then op + 1 else if x.kind = 3 then op - 1 else op)
theorem pairsR_nil {p : PB} {m : List (Vis × Bool)} {op : Int} : pairsR p [] m op = decide (op = 0) := rfl
theorem pairsR_cons {p : PB} {x : Vis} {r : List Vis} {m : List (Vis × Bool)} {op : Int} : pairsR p (x :: r) m op = if x.kind = 4 then pairsR p r m op
    else if (¬ isStop p x = true ∨ mget m x false = true) ∨ (x.kind = 3 ∧ ¬ mget m ⟨2, x.item⟩ false = true) then false
    else pairsR p r (mset m x true) (if x.kind = 2 then op + 1 else if x.kind = 3 then op - 1 else op) := rfl
def breaksR (nb : Int) : List Vis → Int → Bool
  | [], n => decide (n = nb)
  | x :: r, n => if x.kind = 4 then (if x.item ≠ n then false else breaksR nb r (n + 1)) else breaksR nb r n
theorem breaksR_cons {nb : Int} {x : Vis} {r : List Vis} {n : Int} : breaksR nb (x :: r) n = if x.kind = 4 then (if x.item ≠ n then false else breaksR nb r (n + 1)) else breaksR nb r n := rfl
def skillsR (p : PB) (v : VH) : List Vis → Bool
  | [] => true
  | x :: r => if isTask x = true ∧ ¬ ban .u64 (skilF p (taskV x)) v.vsk = 0 then false else skillsR p v r
theorem skillsR_cons {p : PB} {v : VH} {x : Vis} {r : List Vis} : skillsR p v (x :: r) = if isTask x = true ∧ ¬ ban .u64 (skilF p (taskV x)) v.vsk = 0 then false else skillsR p v r := rfl
def tasksR : List Vis → Int → Int
  | [], n => n
  | x :: r, n => if x.kind = 1 ∨ x.kind = 2 then tasksR r (n + 1) else tasksR r n
theorem tasksR_cons {x : Vis} {r : List Vis} {n : Int} : tasksR (x :: r) n = if x.kind = 1 ∨ x.kind = 2 then tasksR r (n + 1) else tasksR r n := rfl
def errI (b : Bool) (e : Int) : Int := if b = true then 0 else e
theorem errI_t {b : Bool} {e : Int} (h : b = true) : errI b e = 0 := if_pos h
theorem errI_f {b : Bool} {e : Int} (h : b = false) : errI b e = e := by unfold errI; rw [h]; rfl
abbrev dropV (p : PB) (x : Vis) : List Int := (gt p.jobs x.item).drop
abbrev pickV (p : PB) (x : Vis) : List Int := (gt p.jobs x.item).pick
abbrev amV (p : PB) (x : Vis) : List Int := (gt p.ships x.item).am
def load0R (p : PB) : List Vis → List Int → List Int
  | [], a => a
  | x :: r, a => if isStop p x = true ∧ x.kind = 1 then load0R p r (addL a (dropV p x)) else load0R p r a
theorem load0R_cons {p : PB} {x : Vis} {r : List Vis} {a : List Int} : load0R p (x :: r) a = if isStop p x = true ∧ x.kind = 1 then load0R p r (addL a (dropV p x)) else load0R p r a := rfl
def loadSt (p : PB) (x : Vis) (a : List Int) : List Int :=
  if isStop p x = true then (if x.kind = 1 then addL (subL a (dropV p x)) (pickV p x) else if x.kind = 2 then addL a (amV p x) else if x.kind = 3 then subL a (amV p x) else a) else a
def loadsR (p : PB) : List Vis → List Int → List (List Int)
  | [], a => []
  | x :: r, a => loadSt p x a :: loadsR p r (loadSt p x a)
theorem loadsR_cons {p : PB} {x : Vis} {r : List Vis} {a : List Int} : loadsR p (x :: r) a = loadSt p x a :: loadsR p r (loadSt p x a) := rfl
def load0 (p : PB) (l : List Vis) : List Int := load0R p l (List.replicate p.dims.toNat 0)
def loadsF (p : PB) (l : List Vis) : List (List Int) := load0 p l :: loadsR p l (load0 p l)
def lOk (p : PB) (m : Int) (a : List Int) : Prop := (a.length : Int) = p.dims ∧ bdd m a
theorem lOk_add {p : PB} {m k : Int} {a b : List Int} (h : lOk p m a) (h2 : (b.length : Int) = p.dims ∧ rng b 1000000) (hk : m + 1000000 ≤ k) : lOk p k (addL a b) :=
  ⟨by rw [addL_len]; have := h.1; have := h2.1; omega, bdd_mono (bdd_add h.2 (rng_bdd h2.2 (Int.le_refl _) (by decide)) (by have := h.1; have := h2.1; omega)) hk⟩
theorem lOk_sub {p : PB} {m k : Int} {a b : List Int} (h : lOk p m a) (h2 : (b.length : Int) = p.dims ∧ rng b 1000000) (hk : m + 1000000 ≤ k) : lOk p k (subL a b) :=
  ⟨by rw [subL_len]; have := h.1; have := h2.1; omega, bdd_mono (bdd_sub h.2 (rng_bdd h2.2 (Int.le_refl _) (by decide)) (by have := h.1; have := h2.1; omega)) hk⟩
theorem lOk_mono {p : PB} {m k : Int} {a : List Int} (h : lOk p m a) (hk : m ≤ k) : lOk p k a := ⟨h.1, bdd_mono h.2 hk⟩
theorem lOk_St {p : PB} {m k : Int} {a : List Int} {x : Vis} (L : LawP p) (h : lOk p m a) (hk : m + 2000000 ≤ k) : lOk p k (loadSt p x a) := by
  unfold loadSt
  split
  · rename_i h1
    split
    · rename_i h2; have i := is_i1 h1 h2; exact lOk_add (lOk_sub h (L.job _ i.1 i.2).drop (Int.le_refl _)) (L.job _ i.1 i.2).pick (by omega)
    · split
      · rename_i h2; have i := is_i2 h1 (.inl h2); exact lOk_add h (L.ship _ i.1 i.2).am (by omega)
      · split
        · rename_i h2; have i := is_i2 h1 (.inr h2); exact lOk_sub h (L.ship _ i.1 i.2).am (by omega)
        · exact lOk_mono h (by omega)
  · exact lOk_mono h (by omega)
theorem loadSt_1 {p : PB} {x : Vis} {a : List Int} (h : isStop p x = true) (k : x.kind = 1) : loadSt p x a = addL (subL a (dropV p x)) (pickV p x) := by unfold loadSt; rw [if_pos h, if_pos k]
theorem loadSt_2 {p : PB} {x : Vis} {a : List Int} (h : isStop p x = true) (k : x.kind = 2) : loadSt p x a = addL a (amV p x) := by unfold loadSt; rw [if_pos h, if_neg (by omega), if_pos k]
theorem loadSt_3 {p : PB} {x : Vis} {a : List Int} (h : isStop p x = true) (k : x.kind = 3) : loadSt p x a = subL a (amV p x) := by unfold loadSt; rw [if_pos h, if_neg (by omega), if_neg (by omega), if_pos k]
theorem loadSt_no {p : PB} {x : Vis} {a : List Int} (h : ¬ isStop p x = true) : loadSt p x a = a := by unfold loadSt; rw [if_neg h]
def allUnder (cap : List Int) : List (List Int) → Bool
  | [] => true
  | a :: r => if ¬ underF a cap = true then false else allUnder cap r
theorem allUnder_cons {cap a : List Int} {r : List (List Int)} : allUnder cap (a :: r) = if ¬ underF a cap = true then false else allUnder cap r := rfl
theorem loadsR_len {p : PB} : ∀ {l : List Vis} {a : List Int}, (loadsR p l a).length = l.length
  | [], _ => rfl
  | x :: r, a => by rw [loadsR_cons, List.length_cons, loadsR_len, List.length_cons]
theorem loadsF_len {p : PB} {l : List Vis} : (loadsF p l).length = l.length + 1 := by unfold loadsF; rw [List.length_cons, loadsR_len]
def nextPl (p : PB) (a : Int) (x : Vis) : Int := if isStop p x = true then (stopD p x).pl else a
def placesR (p : PB) : List Vis → Int → List Int
  | [], a => []
  | x :: r, a => nextPl p a x :: placesR p r (nextPl p a x)
theorem placesR_cons {p : PB} {x : Vis} {r : List Vis} {a : Int} : placesR p (x :: r) a = nextPl p a x :: placesR p r (nextPl p a x) := rfl
def placesF (p : PB) (v : VH) (l : List Vis) : List Int := v.st :: placesR p l v.st ++ [v.en]
def travelR (p : PB) : List Int → Bool
  | a :: b :: r => if cellF p.tn p.time a b < 0 ∨ cellF p.dn p.dist a b < 0 then false else travelR p (b :: r)
  | _ => true
theorem travelR_cons {p : PB} {a b : Int} {r : List Int} : travelR p (a :: b :: r) = if cellF p.tn p.time a b < 0 ∨ cellF p.dn p.dist a b < 0 then false else travelR p (b :: r) := rfl
theorem nextPl_rng {p : PB} (L : LawP p) {a : Int} {x : Vis} (h : 0 ≤ a ∧ a < p.tn) : 0 ≤ nextPl p a x ∧ nextPl p a x < p.tn := by
  unfold nextPl; split
  · have := stopD_rng L x; exact ⟨this.1, this.2.1⟩
  · exact h
theorem placesR_len {p : PB} : ∀ {l : List Vis} {a : Int}, (placesR p l a).length = l.length
  | [], _ => rfl
  | x :: r, a => by rw [placesR_cons, List.length_cons, placesR_len, List.length_cons]
theorem placesF_len {p : PB} {v : VH} {l : List Vis} : (placesF p v l).length = l.length + 2 := by simp [placesF, placesR_len]
theorem cellF_rng {n : Int} {l : List Int} {f t : Int} (h : ∀ i : Int, -1 ≤ gt l i ∧ gt l i ≤ 32000000) : -1 ≤ cellF n l f t ∧ cellF n l f t ≤ 32000000 := by
  unfold cellF; split
  · omega
  · exact h _
theorem gt_last {α : Type} [Inhabited α] {X : List α} {y : α} {i : Int} (h : (X.length : Int) = i) : gt (X ++ [y]) i = y := by
  have e : i.toNat = X.length := by omega
  simp [gt, e, List.getD_eq_getElem?_getD]
theorem travel_step {p : PB} {L : List Int} {i : Int} (h0 : 1 ≤ i) (h1 : i < (L.length : Int)) : travelR p (L.drop (i - 1).toNat) = if cellF p.tn p.time (gt L (i - 1)) (gt L i) < 0 ∨ cellF p.dn p.dist (gt L (i - 1)) (gt L i) < 0 then false else travelR p (L.drop i.toNat) := by
  rw [drop_gt (x := i - 1) (by omega) (by omega), show i - 1 + 1 = i from by omega, drop_gt (x := i) (by omega) h1, travelR_cons]
theorem travel_end {p : PB} {L : List Int} {i : Int} (h0 : 1 ≤ i) (h1 : ¬ i < (L.length : Int)) : travelR p (L.drop (i - 1).toNat) = true := by
  have h : (L.drop (i - 1).toNat).length ≤ 1 := by rw [List.length_drop]; omega
  match hd : L.drop (i - 1).toNat with
  | [] => rfl
  | [a] => rfl
  | a :: b :: r => rw [hd] at h; simp at h
structure TM where
  now : Int
  time : Int
  dist : Int
  wait : Int
  serv : Int
  pl : Int
  deriving Inhabited
def stopB (p : PB) (v : VH) (x : Vis) : SO := if x.kind = 4 then ⟨0, (gt v.brs x.item).bsrv, (gt v.brs x.item).bws, (gt v.brs x.item).bwA, (gt v.brs x.item).bwc⟩ else stopD p x
abbrev tcell (p : PB) (a b : Int) : Int := cellF p.tn p.time a b
abbrev dcell (p : PB) (a b : Int) : Int := cellF p.dn p.dist a b
def tmSt (p : PB) (v : VH) (s : TM) (x : Vis) (b : Int) : TM :=
  ⟨b + (stopB p v x).srv, s.time + tcell p s.pl (nextPl p s.pl x), s.dist + dcell p s.pl (nextPl p s.pl x), s.wait + b - (s.now + tcell p s.pl (nextPl p s.pl x)), s.serv + (stopB p v x).srv, nextPl p s.pl x⟩
def timesR (p : PB) (v : VH) : List Vis → TM → Option TM
  | [], s => some s
  | x :: r, s => if (startF (stopB p v x).sws (s.now + tcell p s.pl (nextPl p s.pl x))).2 = true then timesR p v r (tmSt p v s x (startF (stopB p v x).sws (s.now + tcell p s.pl (nextPl p s.pl x))).1) else none
theorem timesR_cons {p : PB} {v : VH} {x : Vis} {r : List Vis} {s : TM} : timesR p v (x :: r) s = if (startF (stopB p v x).sws (s.now + tcell p s.pl (nextPl p s.pl x))).2 = true then timesR p v r (tmSt p v s x (startF (stopB p v x).sws (s.now + tcell p s.pl (nextPl p s.pl x))).1) else none := rfl
structure PR where
  e : Int
  time : Int
  dist : Int
  wait : Int
  serv : Int
  cost : Int
  deriving Inhabited, DecidableEq
def noPR (e : Int) : PR := ⟨e, 0, 0, 0, 0, 0⟩
def tmEnd (p : PB) (v : VH) (s : TM) : PR :=
  if s.now + tcell p s.pl v.en > v.hi then noPR 167 else ⟨0, s.time + tcell p s.pl v.en, s.dist + dcell p s.pl v.en, s.wait, s.serv, v.fix + (s.time + tcell p s.pl v.en) * v.pt + (s.dist + dcell p s.pl v.en) * v.pd⟩
def timesF (p : PB) (v : VH) (l : List Vis) : PR := match timesR p v l ⟨v.lo, 0, 0, 0, 0, v.st⟩ with
  | some s => tmEnd p v s
  | none => noPR 167
theorem timesF_some {p : PB} {v : VH} {l : List Vis} {s : TM} (h : timesR p v l ⟨v.lo, 0, 0, 0, 0, v.st⟩ = some s) : timesF p v l = tmEnd p v s := by unfold timesF; rw [h]
theorem timesF_none {p : PB} {v : VH} {l : List Vis} (h : timesR p v l ⟨v.lo, 0, 0, 0, 0, v.st⟩ = none) : timesF p v l = noPR 167 := by unfold timesF; rw [h]
def checksF (p : PB) (v : VH) (l : List Vis) : Int :=
  if ¬ pairsR p l [] 0 = true then 161 else if ¬ breaksR v.brs.length l 0 = true then 162 else if ¬ skillsR p v l = true then 163 else if tasksR l 0 > v.mt then 164
  else if ¬ allUnder v.vcap (loadsF p l) = true then 165 else if ¬ travelR p (placesF p v l) = true then 166 else 0
def planP (p : PB) (k : Int) (l : List Vis) : PR := if k < 0 ∨ k ≥ p.vehs.length then noPR 160 else if checksF p (gt p.vehs k) l ≠ 0 then noPR (checksF p (gt p.vehs k) l) else timesF p (gt p.vehs k) l
theorem startF_rng : ∀ {l : List WN} {t : Int}, (∀ i : Int, 0 ≤ i → i < l.length → 0 ≤ (gt l i).lo ∧ (gt l i).hi ≤ 1000000 ∧ (gt l i).lo ≤ (gt l i).hi) → (startF l t).2 = true → 0 ≤ (startF l t).1 ∧ (startF l t).1 ≤ 1000000 ∧ t ≤ (startF l t).1
  | [], t, _, h => by cases h
  | w :: r, t, hw, h => by
    have h0 := hw 0 (by decide) (by simp)
    have e0 : gt (w :: r) 0 = w := rfl
    rw [e0] at h0
    rw [startF_cons] at h ⊢
    split
    · rename_i hle; exact ⟨by omega, by omega, by omega⟩
    · rename_i hle
      rw [if_neg hle] at h
      exact startF_rng (fun i h1 h2 => by
        have := hw (i + 1) (by omega) (by simp; omega)
        have e : gt (w :: r) (i + 1) = gt r i := by
          unfold gt; rw [show (i + 1).toNat = i.toNat + 1 from by omega]; rfl
        rw [e] at this; exact this) h
theorem breaks_item {nb : Int} : ∀ {l : List Vis} {n : Int}, breaksR nb l n = true → 0 ≤ n → n ≤ nb ∧ ∀ x ∈ l, x.kind = 4 → 0 ≤ x.item ∧ x.item < nb
  | [], n, h, h0 => ⟨by have := of_decide_eq_true h; omega, fun x hx => by cases hx⟩
  | y :: r, n, h, h0 => by
    rw [breaksR_cons] at h
    split at h
    · rename_i hk
      split at h
      · cases h
      · rename_i hi
        have ih := breaks_item h (by omega)
        refine ⟨by omega, fun x hx hx4 => ?_⟩
        rcases List.mem_cons.1 hx with rfl | hx
        · omega
        · exact ih.2 x hx hx4
    · rename_i hk
      have ih := breaks_item h h0
      refine ⟨ih.1, fun x hx hx4 => ?_⟩
      rcases List.mem_cons.1 hx with rfl | hx
      · exact absurd hx4 hk
      · exact ih.2 x hx hx4
theorem drop_gtm {Y : List IL} {i : Int} (h0 : 0 ≤ i) (h1 : i < (Y.length : Int)) : (Y.map IL.il).drop i.toNat = (gt Y i).il :: (Y.map IL.il).drop (i + 1).toNat := by
  rw [drop_gt h0 (by simpa using h1), gt_map IL.il h0 h1]
theorem nextPl_y {p : PB} {a : Int} {x : Vis} (h : isStop p x = true) : nextPl p a x = (stopD p x).pl := if_pos h
theorem nextPl_n {p : PB} {a : Int} {x : Vis} (h : ¬ isStop p x = true) : nextPl p a x = a := if_neg h
theorem gt_cons1 {α : Type} [Inhabited α] {x : α} {X : List α} {i : Int} (h : 0 ≤ i) : gt (x :: X) (i + 1) = gt X i := by
  unfold gt; rw [show (i + 1).toNat = i.toNat + 1 from by omega]; rfl
theorem placesR_gt {p : PB} : ∀ {l : List Vis} {a : Int} {i : Int} {z : Int}, 0 ≤ i → i < (l.length : Int) → gt (a :: placesR p l a ++ [z]) (i + 1) = nextPl p (gt (a :: placesR p l a ++ [z]) i) (gt l i)
  | [], _, i, _, h0, h1 => by simp at h1; omega
  | x :: r, a, i, z, h0, h1 => by
    by_cases hi : i = 0
    · subst hi; rfl
    · have h2 : gt (x :: r) i = gt r (i - 1) := by
        have := gt_cons1 (x := x) (X := r) (i := i - 1) (by omega); rwa [show i - 1 + 1 = i from by omega] at this
      have ih := placesR_gt (p := p) (l := r) (a := nextPl p a x) (i := i - 1) (z := z) (by omega) (by simp at h1; omega)
      rw [show i - 1 + 1 = i from by omega] at ih
      rw [placesR_cons, h2, List.cons_append, gt_cons1 h0, ih]
      have h3 := gt_cons1 (x := a) (X := nextPl p a x :: placesR p r (nextPl p a x) ++ [z]) (i := i - 1) (by omega)
      rw [show i - 1 + 1 = i from by omega] at h3
      rw [h3]
theorem places_gt {p : PB} {v : VH} {l : List Vis} {i : Int} (h0 : 0 ≤ i) (h1 : i < (l.length : Int)) : gt (placesF p v l) (i + 1) = nextPl p (gt (placesF p v l) i) (gt l i) := placesR_gt h0 h1
theorem places_end {p : PB} {v : VH} {l : List Vis} : gt (placesF p v l) ((l.length : Int) + 1) = v.en := by
  unfold placesF; exact gt_last (by simp [placesR_len])
theorem places_last {p : PB} : ∀ {l : List Vis} {v : VH} {R : Option TM} {now tm ds wt sr : Int} {i : Int}, ¬ i < (l.length : Int) → timesR p v (l.drop i.toNat) ⟨now, tm, ds, wt, sr, gt (placesF p v l) i⟩ = R → R = some ⟨now, tm, ds, wt, sr, gt (placesF p v l) i⟩ := fun h hq => by
  rw [drop_end h] at hq; exact hq.symm
theorem times_next {p : PB} {V : VH} {l : List Vis} {i now tm ds wt sr : Int} {R : Option TM} {W : List WN} {srv : Int} (hq : timesR p V (l.drop i.toNat) ⟨now, tm, ds, wt, sr, gt (placesF p V l) i⟩ = R) (h0 : 0 ≤ i) (h1 : i < (l.length : Int))
    (hW : (stopB p V (gt l i)).sws = W) (hs : (stopB p V (gt l i)).srv = srv) (h2 : (startF W (now + tcell p (gt (placesF p V l) i) (gt (placesF p V l) (i + 1)))).2 = true) :
    timesR p V (l.drop (i + 1).toNat) ⟨(startF W (now + tcell p (gt (placesF p V l) i) (gt (placesF p V l) (i + 1)))).1 + srv, tm + tcell p (gt (placesF p V l) i) (gt (placesF p V l) (i + 1)), ds + dcell p (gt (placesF p V l) i) (gt (placesF p V l) (i + 1)),
      wt + (startF W (now + tcell p (gt (placesF p V l) i) (gt (placesF p V l) (i + 1)))).1 - (now + tcell p (gt (placesF p V l) i) (gt (placesF p V l) (i + 1))), sr + srv, gt (placesF p V l) (i + 1)⟩ = R := by
  subst hW hs
  rw [drop_gt h0 h1, timesR_cons] at hq
  simp only [places_gt h0 h1] at h2 ⊢
  rw [if_pos h2] at hq
  exact hq
theorem times_stop {p : PB} {V : VH} {l : List Vis} {i now tm ds wt sr : Int} {R : Option TM} {W : List WN} (hq : timesR p V (l.drop i.toNat) ⟨now, tm, ds, wt, sr, gt (placesF p V l) i⟩ = R) (h0 : 0 ≤ i) (h1 : i < (l.length : Int))
    (hW : (stopB p V (gt l i)).sws = W) (h2 : ¬ (startF W (now + tcell p (gt (placesF p V l) i) (gt (placesF p V l) (i + 1)))).2 = true) : R = none := by
  subst hW
  rw [drop_gt h0 h1, timesR_cons] at hq
  simp only [places_gt h0 h1] at h2
  rw [if_neg h2] at hq
  exact hq.symm
theorem stopB_b {p : PB} {V : VH} {x : Vis} (h : x.kind = 4) : (stopB p V x).sws = (gt V.brs x.item).bws ∧ (stopB p V x).srv = (gt V.brs x.item).bsrv := by unfold stopB; rw [if_pos h]; exact ⟨rfl, rfl⟩
theorem stopB_n {p : PB} {V : VH} {x : Vis} (h : ¬ x.kind = 4) : (stopB p V x).sws = (stopD p x).sws ∧ (stopB p V x).srv = (stopD p x).srv := by unfold stopB; rw [if_neg h]; exact ⟨rfl, rfl⟩
theorem stopB_bd {p : PB} {V : VH} {x : Vis} {t : Int} (L : LawP p) (hV : VehOk p.dims p.tn V) (hb : x.kind = 4 → 0 ≤ x.item ∧ x.item < (V.brs.length : Int)) :
    0 ≤ (stopB p V x).srv ∧ (stopB p V x).srv ≤ 1000000 ∧ ((startF (stopB p V x).sws t).2 = true → 0 ≤ (startF (stopB p V x).sws t).1 ∧ (startF (stopB p V x).sws t).1 ≤ 1000000 ∧ t ≤ (startF (stopB p V x).sws t).1) := by
  by_cases h : x.kind = 4
  · have hi := hb h
    have k := hV.brk _ hi.1 hi.2
    rw [(stopB_b h).1, (stopB_b h).2]
    exact ⟨k.2.1, k.2.2, fun h2 => startF_rng k.1.each h2⟩
  · rw [(stopB_n h).1, (stopB_n h).2]
    by_cases hs : isStop p x = true
    · have k := stop_ok L hs
      exact ⟨k.srv.1, k.srv.2, fun h2 => startF_rng k.win.each h2⟩
    · have e : stopD p x = default := by unfold stopD; rw [if_neg hs]
      rw [e]; exact ⟨by decide, by decide, fun h2 => by cases h2⟩
theorem times_end {p : PB} {V : VH} {l : List Vis} {now tm ds wt sr : Int} (hq : timesR p V (l.drop ((l.length : Int)).toNat) ⟨now, tm, ds, wt, sr, gt (placesF p V l) (l.length : Int)⟩ = timesR p V l ⟨V.lo, 0, 0, 0, 0, V.st⟩) :
    timesF p V l = if now + tcell p (gt (placesF p V l) (l.length : Int)) (gt (placesF p V l) ((l.length : Int) + 1)) > V.hi then noPR 167 else
      ⟨0, tm + tcell p (gt (placesF p V l) (l.length : Int)) (gt (placesF p V l) ((l.length : Int) + 1)), ds + dcell p (gt (placesF p V l) (l.length : Int)) (gt (placesF p V l) ((l.length : Int) + 1)), wt, sr,
        V.fix + (tm + tcell p (gt (placesF p V l) (l.length : Int)) (gt (placesF p V l) ((l.length : Int) + 1))) * V.pt + (ds + dcell p (gt (placesF p V l) (l.length : Int)) (gt (placesF p V l) ((l.length : Int) + 1))) * V.pd⟩ := by
  rw [timesF_some (places_last (by omega) hq), tmEnd, places_end]
theorem loads_len {p : PB} {l : List Vis} {Y : List IL} (h : Y.map IL.il = loadsF p l) : Y.length = l.length + 1 := by
  have := congrArg List.length h; rwa [List.length_map, loadsF_len] at this
def checkI (p : PB) (v : VH) (l : List Vis) (i : Int) : Int :=
  if i = 0 then errI (pairsR p l [] 0) 161 else if i = 1 then errI (breaksR v.brs.length l 0) 162 else if i = 2 then errI (skillsR p v l) 163 else if i = 3 then (if tasksR l 0 > v.mt then 164 else 0)
  else if i = 4 then errI (allUnder v.vcap (loadsF p l)) 165 else errI (travelR p (placesF p v l)) 166
theorem checks_all {p : PB} {v : VH} {l : List Vis} (h : ∀ i : Int, 0 ≤ i → i < 6 → checkI p v l i = 0) : checksF p v l = 0 ∧ breaksR v.brs.length l 0 = true := by
  have e : ∀ {b : Bool} {n : Int}, n ≠ 0 → errI b n = 0 → b = true := fun {b n} hn h => by
    cases b with
    | true => rfl
    | false => exact absurd h hn
  have h0 := e (by decide) (h 0 (by decide) (by decide))
  have h1 := e (by decide) (h 1 (by decide) (by decide))
  have h2 := e (by decide) (h 2 (by decide) (by decide))
  have h3 : ¬ tasksR l 0 > v.mt := fun hc => by have := h 3 (by decide) (by decide); rw [checkI, if_neg (by decide), if_neg (by decide), if_neg (by decide), if_pos rfl, if_pos hc] at this; exact absurd this (by decide)
  have h4 := e (by decide) (h 4 (by decide) (by decide))
  have h5 := e (by decide) (h 5 (by decide) (by decide))
  refine ⟨?_, h1⟩
  unfold checksF
  simp only [h0, h1, h2, h4, h5, not_true_eq_false, if_false, if_neg h3]
theorem checks_at {p : PB} {v : VH} {l : List Vis} {i : Int} (h0 : 0 ≤ i) (h1 : i < 6) (h : ∀ j : Int, 0 ≤ j → j < i → checkI p v l j = 0) (hn : checkI p v l i ≠ 0) : checksF p v l = checkI p v l i := by
  have e : ∀ {b : Bool} {n : Int}, n ≠ 0 → errI b n = 0 → b = true := fun {b n} hn h => by
    cases b with
    | true => rfl
    | false => exact absurd h hn
  have f : ∀ {b : Bool} {n : Int}, errI b n ≠ 0 → b = false ∧ errI b n = n := fun {b n} h => by
    cases b with
    | true => exact absurd rfl h
    | false => exact ⟨rfl, rfl⟩
  unfold checksF
  rcases (by omega : i = 0 ∨ i = 1 ∨ i = 2 ∨ i = 3 ∨ i = 4 ∨ i = 5) with rfl | rfl | rfl | rfl | rfl | rfl
  · have k : errI (pairsR p l [] 0) 161 ≠ 0 := hn
    show _ = errI (pairsR p l [] 0) 161
    rw [(f k).2, (f k).1]; rfl
  · have h0 := e (by decide) (h 0 (by decide) (by decide))
    have k : errI (breaksR v.brs.length l 0) 162 ≠ 0 := hn
    show _ = errI (breaksR v.brs.length l 0) 162
    rw [(f k).2, (f k).1, h0]; rfl
  · have h0 := e (by decide) (h 0 (by decide) (by decide))
    have h1 := e (by decide) (h 1 (by decide) (by decide))
    have k : errI (skillsR p v l) 163 ≠ 0 := hn
    show _ = errI (skillsR p v l) 163
    rw [(f k).2, (f k).1, h0, h1]; rfl
  · have h0 := e (by decide) (h 0 (by decide) (by decide))
    have h1 := e (by decide) (h 1 (by decide) (by decide))
    have h2 := e (by decide) (h 2 (by decide) (by decide))
    have k : (if tasksR l 0 > v.mt then 164 else 0 : Int) ≠ 0 := hn
    show _ = (if tasksR l 0 > v.mt then 164 else 0 : Int)
    have hc : tasksR l 0 > v.mt := Classical.byContradiction fun hc => by rw [if_neg hc] at k; exact k rfl
    rw [if_pos hc, h0, h1, h2]; simp only [not_true_eq_false, if_false, if_pos hc]
  · have h0 := e (by decide) (h 0 (by decide) (by decide))
    have h1 := e (by decide) (h 1 (by decide) (by decide))
    have h2 := e (by decide) (h 2 (by decide) (by decide))
    have h3 : ¬ tasksR l 0 > v.mt := fun hc => by have := h 3 (by decide) (by decide); rw [checkI, if_neg (by decide), if_neg (by decide), if_neg (by decide), if_pos rfl, if_pos hc] at this; exact absurd this (by decide)
    have k : errI (allUnder v.vcap (loadsF p l)) 165 ≠ 0 := hn
    show _ = errI (allUnder v.vcap (loadsF p l)) 165
    rw [(f k).2, (f k).1, h0, h1, h2]; simp only [not_true_eq_false, if_false, if_neg h3]; rfl
  · have h0 := e (by decide) (h 0 (by decide) (by decide))
    have h1 := e (by decide) (h 1 (by decide) (by decide))
    have h2 := e (by decide) (h 2 (by decide) (by decide))
    have h3 : ¬ tasksR l 0 > v.mt := fun hc => by have := h 3 (by decide) (by decide); rw [checkI, if_neg (by decide), if_neg (by decide), if_neg (by decide), if_pos rfl, if_pos hc] at this; exact absurd this (by decide)
    have h4 := e (by decide) (h 4 (by decide) (by decide))
    have k : errI (travelR p (placesF p v l)) 166 ≠ 0 := hn
    show _ = errI (travelR p (placesF p v l)) 166
    rw [(f k).2, (f k).1, h0, h1, h2, h4]; simp only [not_true_eq_false, if_false, if_neg h3]; rfl
theorem chk_next {p : PB} {v : VH} {l : List Vis} {i : Int} (h : ∀ j : Int, 0 ≤ j → j < i → checkI p v l j = 0) (hi : checkI p v l i = 0) : ∀ j : Int, 0 ≤ j → j < i + 1 → checkI p v l j = 0 := fun j h0 h1 => by
  by_cases hj : j = i
  · subst hj; exact hi
  · exact h j h0 (by omega)
theorem plan_out {p : PB} {k : Int} {l : List Vis} (h : k < 0 ∨ k ≥ p.vehs.length) : planP p k l = noPR 160 := by unfold planP; rw [if_pos h]
theorem plan_err {p : PB} {k e : Int} {l : List Vis} (h : ¬ (k < 0 ∨ k ≥ p.vehs.length)) (he : checksF p (gt p.vehs k) l = e) (hn : e ≠ 0) : planP p k l = noPR e := by unfold planP; rw [if_neg h, he, if_pos hn]
theorem plan_ok {p : PB} {k : Int} {l : List Vis} (h : ¬ (k < 0 ∨ k ≥ p.vehs.length)) (he : checksF p (gt p.vehs k) l = 0) : planP p k l = timesF p (gt p.vehs k) l := by unfold planP; rw [if_neg h, he, if_neg (by decide)]
theorem load0R_ok {p : PB} (L : LawP p) : ∀ {l : List Vis} {a : List Int} {m : Int}, lOk p m a → lOk p (m + 1000000 * l.length) (load0R p l a)
  | [], a, m, h => lOk_mono h (by simp)
  | x :: r, a, m, h => by
    rw [load0R_cons]
    split
    · rename_i hc; have i := is_i1 hc.1 hc.2
      exact lOk_mono (load0R_ok L (lOk_add h (L.job _ i.1 i.2).drop (Int.le_refl _))) (by rw [List.length_cons]; omega)
    · exact lOk_mono (load0R_ok L h) (by rw [List.length_cons]; omega)
theorem load0_ok {p : PB} (L : LawP p) {l : List Vis} : lOk p (1000000 * l.length) (load0 p l) := by
  have h : lOk p 0 (List.replicate p.dims.toNat 0) := ⟨by have := L.dims; rw [List.length_replicate]; omega, bdd_zero _⟩
  exact lOk_mono (load0R_ok L h) (by omega)
theorem loadsR_ok {p : PB} (L : LawP p) : ∀ {l : List Vis} {a : List Int} {m : Int}, lOk p m a → ∀ b ∈ loadsR p l a, (b.length : Int) = p.dims
  | [], a, m, h, b, hb => by cases hb
  | x :: r, a, m, h, b, hb => by
    rw [loadsR_cons] at hb
    have h1 := lOk_St (x := x) L h (Int.le_refl _)
    rcases List.mem_cons.1 hb with rfl | hb
    · exact h1.1
    · exact loadsR_ok L h1 b hb
theorem loadsF_ok {p : PB} (L : LawP p) {l : List Vis} : ∀ b ∈ loadsF p l, (b.length : Int) = p.dims := fun b hb => by
  unfold loadsF at hb
  rcases List.mem_cons.1 hb with rfl | hb
  · exact (load0_ok L).1
  · exact loadsR_ok L (load0_ok L) b hb
theorem loads_il {p : PB} (L : LawP p) {l : List Vis} {Y : List IL} (hY : Y.map IL.il = loadsF p l) {i : Int} (h0 : 0 ≤ i) (h1 : i < (Y.length : Int)) : ((gt Y i).il.length : Int) = p.dims ∧ p.dims ≤ 3 :=
  ⟨loadsF_ok L _ (by rw [← hY]; exact List.mem_map_of_mem (gt_mem h0 h1)), L.dims.2⟩
end Go.SX
namespace Go.SX
open Go Go.RowKit
def laterI (m : Int) (a : List Int) : Nat → Bool × List Int
  | 0 => (false, a)
  | i + 1 => if gt a (i : Int) < m then (true, a.take i ++ List.replicate (a.length - i) (gt a (i : Int) + 1)) else laterI m a i
def laterF (m : Int) (a : List Int) : Bool × List Int := laterI m a a.length
theorem laterI_step {m : Int} {a : List Int} {i : Int} (h : 0 ≤ i) : laterI m a (i + 1).toNat = if gt a i < m then (true, a.take i.toNat ++ List.replicate (a.length - i.toNat) (gt a i + 1)) else laterI m a i.toNat := by
  rw [show (i + 1).toNat = i.toNat + 1 from by omega, laterI, show ((i.toNat : Nat) : Int) = i from by omega]
theorem lt_set0 {a : List Int} {i y : Int} (h0 : 0 ≤ i) (h1 : i < (a.length : Int)) : a.set i.toNat y = a.take i.toNat ++ List.replicate (i + 1 - i).toNat y ++ a.drop (i + 1).toNat := by
  rw [show (i + 1 - i).toNat = 1 from by omega, show (i + 1).toNat = i.toNat + 1 from by omega, List.set_eq_take_append_cons_drop, if_pos (by omega)]
  simp
theorem lt_set {a : List Int} {i k y : Int} (h0 : 0 ≤ i) (hk : i < k) (h1 : k < (a.length : Int)) :
    (a.take i.toNat ++ List.replicate (k - i).toNat y ++ a.drop k.toNat).set k.toNat y = a.take i.toNat ++ List.replicate (k + 1 - i).toNat y ++ a.drop (k + 1).toNat := by
  have e1 : (a.take i.toNat ++ List.replicate (k - i).toNat y).length = k.toNat := by simp; omega
  rw [List.set_append, if_neg (by rw [e1]; omega), e1, Nat.sub_self, List.drop_eq_getElem_cons (i := k.toNat) (by omega), List.set_cons_zero, show (k + 1).toNat = k.toNat + 1 from by omega,
    show (k + 1 - i).toNat = (k - i).toNat + 1 from by omega, List.replicate_succ']
  simp
theorem gt_mid {a : List Int} {i k y : Int} (h0 : 0 ≤ i) (hk : i < k) (h1 : i < (a.length : Int)) : gt (a.take i.toNat ++ List.replicate (k - i).toNat y ++ a.drop k.toNat) i = y := by
  have hl : (a.take i.toNat).length = i.toNat := by simp; omega
  unfold gt
  rw [List.getD_eq_getElem?_getD, List.append_assoc, List.getElem?_append_right (by rw [hl]; exact Nat.le_refl _), hl, Nat.sub_self, List.getElem?_append_left (by simp; omega), List.getElem?_replicate, if_pos (by omega)]
  rfl
theorem lt_end {a : List Int} {i k y : Int} (h0 : 0 ≤ i) (h1 : ¬ k < (a.length : Int)) (hk : k ≤ (a.length : Int)) : a.take i.toNat ++ List.replicate (k - i).toNat y ++ a.drop k.toNat = a.take i.toNat ++ List.replicate (a.length - i.toNat) y := by
  rw [List.drop_of_length_le (by omega), List.append_nil, show (k - i).toNat = a.length - i.toNat from by omega]
def takeB (i : Int) : Int → List Int → List Vis
  | k, [] => []
  | k, y :: r => if y ≤ i then ⟨4, k⟩ :: takeB i (k + 1) r else []
def leftB (i : Int) : List Int → List Int
  | [] => []
  | y :: r => if y ≤ i then leftB i r else y :: r
def cntB (i : Int) : List Int → Int
  | [] => 0
  | y :: r => if y ≤ i then 1 + cntB i r else 0
def setR : List Vis → Int → Int → List Int → List Vis
  | [], i, k, r => takeB i k r
  | x :: l, i, k, r => takeB i k r ++ x :: setR l (i + 1) (k + cntB i r) (leftB i r)
theorem setR_pop {l : List Vis} {i k y : Int} {r : List Int} (h : y ≤ i) : setR l i k (y :: r) = ⟨4, k⟩ :: setR l i (k + 1) r := by
  cases l with
  | nil => simp only [setR, takeB, if_pos h]
  | cons x l => simp only [setR, takeB, cntB, leftB, if_pos h, List.cons_append]; rw [show k + (1 + cntB i r) = k + 1 + cntB i r from by omega]
theorem setR_go {x : Vis} {l : List Vis} {i k : Int} {r : List Int} (h : ∀ y, r.head? = some y → ¬ y ≤ i) : setR (x :: l) i k r = x :: setR l (i + 1) k r := by
  cases r with
  | nil => simp [setR, takeB, cntB, leftB]
  | cons y r => have := h y rfl; simp only [setR, takeB, cntB, leftB, if_neg this, List.nil_append, Int.add_zero]
theorem head_drop {a : List Int} {k y : Int} (hk : 0 ≤ k) (h : (a.drop k.toNat).head? = some y) : k < (a.length : Int) ∧ gt a k = y := by
  rw [List.head?_drop] at h
  have h1 := (List.getElem?_eq_some_iff.1 h).1
  exact ⟨by omega, by unfold gt; rw [List.getD_eq_getElem?_getD, h]; rfl⟩
def AtOk (m : Int) (a : List Int) : Prop := a.length ≤ 2 ∧ (∀ i : Int, 0 ≤ i → i < (a.length : Int) → 0 ≤ gt a i ∧ gt a i ≤ m) ∧ (a.length = 2 → gt a 0 ≤ gt a 1)
def up (a m : Int) : List Int := (List.range (m + 1 - a).toNat).map (fun i : Nat => a + (i : Int))
theorem up_cons {a m : Int} (h : a ≤ m) : up a m = a :: up (a + 1) m := by
  unfold up
  rw [show (m + 1 - a).toNat = (m + 1 - (a + 1)).toNat + 1 from by omega, List.range_succ_eq_map]
  simp only [List.map_cons, List.map_map]
  have e1 : a + ((0 : Nat) : Int) = a := by simp
  rw [e1]
  congr 1
  exact List.map_congr_left (fun x _ => by show a + ((x + 1 : Nat) : Int) = a + 1 + (x : Int); omega)
theorem up_nil {a m : Int} (h : m < a) : up a m = [] := by unfold up; rw [show (m + 1 - a).toNat = 0 from by omega]; rfl
def candsA (m : Int) : List Int → List (List Int)
  | [] => [[]]
  | [a] => (up a m).map (fun x => [x])
  | [a, b] => (up b m).map (fun y => [a, y]) ++ (up (a + 1) m).flatMap (fun x => (up x m).map (fun y => [x, y]))
  | l => [l]
theorem later0 {m : Int} : laterF m [] = (false, []) := rfl
theorem later1 {m a : Int} : laterF m [a] = if a < m then (true, [a + 1]) else (false, [a]) := rfl
theorem later2 {m a b : Int} : laterF m [a, b] = if b < m then (true, [a, b + 1]) else if a < m then (true, [a + 1, a + 1]) else (false, [a, b]) := rfl
theorem cands_next {m : Int} {a : List Int} (h : AtOk m a) : candsA m a = a :: (if (laterF m a).1 = true then candsA m (laterF m a).2 else []) := by
  obtain ⟨h1, h2, h3⟩ := h
  match a, h1, h2, h3 with
  | [], _, _, _ => rfl
  | [a], _, h2, _ =>
    have ha : a ≤ m := (h2 0 (by decide) (by simp)).2
    rw [later1]
    simp only [candsA]
    rw [up_cons ha, List.map_cons]
    by_cases hm : a < m
    · rw [if_pos hm, if_pos rfl]
    · rw [if_neg hm, if_neg (by simp), up_nil (by omega)]; rfl
  | [a, b], _, h2, h3 =>
    have ha : a ≤ m := (h2 0 (by decide) (by simp)).2
    have hb : b ≤ m := (h2 1 (by decide) (by simp)).2
    have hab : a ≤ b := h3 rfl
    rw [later2]
    simp only [candsA]
    rw [up_cons hb, List.map_cons, List.cons_append]
    by_cases hm : b < m
    · rw [if_pos hm, if_pos rfl]
    · rw [if_neg hm, up_nil (a := b + 1) (by omega), List.map_nil, List.nil_append]
      by_cases hm2 : a < m
      · rw [if_pos hm2, if_pos rfl, up_cons (a := a + 1) (by omega), List.flatMap_cons]
      · rw [if_neg hm2, if_neg (by simp), up_nil (by omega)]; rfl
  | _ :: _ :: _ :: _, h1, _, _ => simp at h1
theorem later_ok {m : Int} {a : List Int} (h : AtOk m a) : AtOk m (laterF m a).2 ∧ (laterF m a).2.length = a.length := by
  obtain ⟨h1, h2, h3⟩ := h
  match a, h1, h2, h3 with
  | [], _, _, _ => exact ⟨⟨by simp [later0], fun i h0 h1 => by simp [later0] at h1; omega, fun h => by simp [later0] at h⟩, rfl⟩
  | [a], _, h2, _ =>
    have ha := h2 0 (by decide) (by simp)
    have ha : 0 ≤ a ∧ a ≤ m := ha
    rw [later1]
    split
    · refine ⟨⟨by simp, fun i h0 h1 => ?_, fun h => by simp at h⟩, rfl⟩
      obtain rfl : i = 0 := by simp at h1; omega
      show 0 ≤ a + 1 ∧ a + 1 ≤ m; omega
    · refine ⟨⟨by simp, fun i h0 h1 => ?_, fun h => by simp at h⟩, rfl⟩
      obtain rfl : i = 0 := by simp at h1; omega
      exact ha
  | [a, b], _, h2, h3 =>
    have ha : 0 ≤ a ∧ a ≤ m := h2 0 (by decide) (by simp)
    have hb : 0 ≤ b ∧ b ≤ m := h2 1 (by decide) (by simp)
    have hab : a ≤ b := h3 rfl
    have mk : ∀ x y : Int, 0 ≤ x → x ≤ m → 0 ≤ y → y ≤ m → x ≤ y → AtOk m [x, y] := fun x y q1 q2 q3 q4 q5 => ⟨by simp, fun i h0 h1 => by
      rcases (by simp at h1; omega : i = 0 ∨ i = 1) with rfl | rfl
      · exact ⟨q1, q2⟩
      · exact ⟨q3, q4⟩, fun _ => q5⟩
    rw [later2]
    split
    · exact ⟨mk _ _ (by omega) (by omega) (by omega) (by omega) (by omega), rfl⟩
    · split
      · exact ⟨mk _ _ (by omega) (by omega) (by omega) (by omega) (by omega), rfl⟩
      · exact ⟨mk _ _ (by omega) (by omega) (by omega) (by omega) (by omega), rfl⟩
  | _ :: _ :: _ :: _, h1, _, _ => simp at h1
def firstC (F : List Int → PR) : List (List Int) → PR
  | [] => noPR 167
  | c :: r => if (F c).e ≠ 167 then F c else firstC F r
theorem firstC_cons {F : List Int → PR} {c : List Int} {r : List (List Int)} : firstC F (c :: r) = if (F c).e ≠ 167 then F c else firstC F r := rfl
theorem checks_codes {p : PB} {v : VH} {l : List Vis} : checksF p v l ≠ 167 := by
  unfold checksF
  repeat' split
  all_goals decide
theorem times_167 {p : PB} {v : VH} {l : List Vis} (h : (timesF p v l).e = 167) : timesF p v l = noPR 167 := by
  unfold timesF at *
  split
  · rename_i s hs
    rw [hs] at h
    simp only [tmEnd] at *
    split
    · rfl
    · rename_i hc; rw [if_neg hc] at h; have h : (0 : Int) = 167 := h; exact absurd h (by decide)
  · rfl
theorem plan_167 {p : PB} {k : Int} {l : List Vis} (h : (planP p k l).e = 167) : planP p k l = noPR 167 := by
  unfold planP at *
  split
  · rename_i hc; rw [if_pos hc] at h; exact absurd h (by decide)
  · rename_i hc
    rw [if_neg hc] at h
    split
    · rename_i h2; rw [if_pos h2] at h; exact absurd h checks_codes
    · rename_i h2; rw [if_neg h2] at h; exact times_167 h
def noBr : List Vis → Bool
  | [] => true
  | x :: r => if x.kind = 4 then false else noBr r
theorem noBr_cons {x : Vis} {r : List Vis} : noBr (x :: r) = if x.kind = 4 then false else noBr r := rfl
def zerosB (p : PB) (k : Int) : List Int := List.replicate (gt p.vehs k).brs.length 0
def planS (p : PB) (k : Int) (l : List Vis) (a : List Int) : PR := planP p k (setR l 0 0 a)
def fitV (p : PB) (k : Int) (l : List Vis) : PR := if k < 0 ∨ k ≥ p.vehs.length then noPR 160 else if ¬ noBr l = true then noPR 162 else firstC (planS p k l) (candsA l.length (zerosB p k))
theorem zeros_ok {n : Nat} {m : Int} (hn : n ≤ 2) (hm : 0 ≤ m) : AtOk m (List.replicate n 0) := by
  refine ⟨by simp; exact hn, fun i h0 h1 => ?_, fun h => ?_⟩
  · have : gt (List.replicate n (0 : Int)) i = 0 := by
      rcases gt_mem_or (List.replicate n (0 : Int)) i with h | h
      · exact (List.mem_replicate.1 h).2
      · exact h
    omega
  · simp at h; subst h; exact Int.le_refl _
theorem fit_step {p : PB} {k m : Int} {l : List Vis} {a : List Int} {R : PR} (ha : AtOk m a) (h : firstC (planS p k l) (candsA m a) = R) (he : (planS p k l a).e = 167) (hl : (laterF m a).1 = true) : firstC (planS p k l) (candsA m (laterF m a).2) = R := by
  rw [cands_next ha, firstC_cons, if_neg (by rw [he]; decide), if_pos hl] at h; exact h
theorem fit_stop {p : PB} {k m : Int} {l : List Vis} {a : List Int} {R : PR} (ha : AtOk m a) (h : firstC (planS p k l) (candsA m a) = R) (he : (planS p k l a).e ≠ 167 ∨ ¬ (laterF m a).1 = true) : planS p k l a = R := by
  rw [cands_next ha, firstC_cons] at h
  by_cases hc : (planS p k l a).e = 167
  · rw [if_neg (by rw [hc]; decide), if_neg (he.resolve_left (fun h => h hc))] at h
    rw [← h]; exact plan_167 hc
  · rw [if_pos hc] at h; exact h
theorem cands_mu {m : Int} {a : List Int} (ha : AtOk m a) (hl : (laterF m a).1 = true) : (candsA m (laterF m a).2).length < (candsA m a).length := by
  rw [cands_next ha, if_pos hl, List.length_cons]; omega
theorem setR_len : ∀ {l : List Vis} {i k : Int} {r : List Int}, (setR l i k r).length ≤ l.length + r.length
  | [], i, k, r => by
    rw [setR, List.length_nil, Nat.zero_add]
    induction r generalizing k with
    | nil => simp [takeB]
    | cons y r ih => rw [takeB]; split <;> simp; exact ih _
  | x :: l, i, k, r => by
    have h : ∀ (r : List Int) (k : Int), (takeB i k r).length + (leftB i r).length ≤ r.length := fun r => by
      induction r with
      | nil => intro k; simp [takeB, leftB]
      | cons y r ih => intro k; rw [takeB, leftB]; split <;> simp <;> have := ih (k + 1) <;> omega
    have h1 := h r k
    have h2 := setR_len (l := l) (i := i + 1) (k := k + cntB i r) (r := leftB i r)
    rw [setR, List.length_append, List.length_cons, List.length_cons]; omega
theorem fit_out {p : PB} {k : Int} {l : List Vis} (h : k < 0 ∨ k ≥ p.vehs.length) : fitV p k l = noPR 160 := by unfold fitV; rw [if_pos h]
theorem fit_brk {p : PB} {k : Int} {l : List Vis} (h : ¬ (k < 0 ∨ k ≥ p.vehs.length)) (hb : noBr l = false) : fitV p k l = noPR 162 := by unfold fitV; rw [if_neg h, hb, if_pos (by decide)]
theorem fit_in {p : PB} {k : Int} {l : List Vis} (h : ¬ (k < 0 ∨ k ≥ p.vehs.length)) (hb : noBr l = true) : fitV p k l = firstC (planS p k l) (candsA l.length (zerosB p k)) := by unfold fitV; rw [if_neg h, hb, if_neg (by decide)]
end Go.SX
namespace Go.SX
open Go Go.RowKit
def cmpI (a b : Int) : Int := if a < b then -1 else if a > b then 1 else 0
section
variable {α : Type} [Inhabited α]
def swp (X : List α) (j : Int) : List α := (X.set j.toNat (gt X (j - 1))).set (j - 1).toNat (gt X j)
def bub (lt : α → α → Bool) (X : List α) : Nat → List α
  | 0 => X
  | j + 1 => if lt (gt X ((j : Int) + 1)) (gt X (j : Int)) = true then bub lt (swp X ((j : Int) + 1)) j else X
def srt (lt : α → α → Bool) : Nat → Nat → List α → List α
  | 0, i, X => X
  | f + 1, i, X => srt lt f (i + 1) (bub lt X i)
def sortF (lt : α → α → Bool) (X : List α) : List α := srt lt (X.length - 1) 1 X
theorem bub_step {lt : α → α → Bool} {X : List α} {j : Int} (h : 0 < j) : bub lt X j.toNat = if lt (gt X j) (gt X (j - 1)) = true then bub lt (swp X j) (j - 1).toNat else X := by
  obtain ⟨n, rfl⟩ : ∃ n : Nat, j = (n : Int) + 1 := ⟨(j - 1).toNat, by omega⟩
  rw [show ((n : Int) + 1).toNat = n + 1 from by omega, bub, show ((n : Int) + 1 - 1) = (n : Int) from by omega, show ((n : Int)).toNat = n from by omega]
theorem srt_step {lt : α → α → Bool} {X : List α} {n i : Int} (h0 : 0 ≤ i) (h : i < n) : srt lt (n - i).toNat i.toNat X = srt lt (n - (i + 1)).toNat (i + 1).toNat (bub lt X i.toNat) := by
  rw [show (n - i).toNat = (n - (i + 1)).toNat + 1 from by omega, srt, show i.toNat + 1 = (i + 1).toNat from by omega]
theorem srt_end {lt : α → α → Bool} {X : List α} {n i : Int} (h : ¬ i < n) : srt lt (n - i).toNat i.toNat X = X := by
  rw [show (n - i).toNat = 0 from by omega]; rfl
theorem swp_len {X : List α} {j : Int} : (swp X j).length = X.length := by simp [swp]
theorem bub_len {lt : α → α → Bool} : ∀ {j : Nat} {X : List α}, (bub lt X j).length = X.length
  | 0, X => rfl
  | j + 1, X => by rw [bub]; split; · rw [bub_len, swp_len]
                   · rfl
theorem swp_perm {X : List α} {j : Int} (h0 : 0 < j) (h1 : j < (X.length : Int)) : (swp X j).Perm X := by
  have hj : j.toNat < X.length := by omega
  have hk : (j - 1).toNat < X.length := by omega
  have e1 : gt X j = X[j.toNat] := by simp [gt, List.getD_eq_getElem?_getD, hj]
  have e2 : gt X (j - 1) = X[(j - 1).toNat] := by unfold gt; rw [List.getD_eq_getElem?_getD, List.getElem?_eq_getElem hk]; rfl
  unfold swp
  rw [e1, e2]
  have hsw : (X.set j.toNat X[(j - 1).toNat]).set (j - 1).toNat X[j.toNat] = X.take (j - 1).toNat ++ [X[j.toNat], X[(j - 1).toNat]] ++ X.drop (j.toNat + 1) := by
    obtain ⟨n, hn⟩ : ∃ n, j.toNat = n + 1 := ⟨j.toNat - 1, by omega⟩
    have hn2 : (j - 1).toNat = n := by omega
    simp only [hn, hn2] at *
    refine List.ext_getElem? fun i => ?_
    rw [List.getElem?_set, List.getElem?_set, List.append_assoc]
    by_cases hi : i < n
    · rw [if_neg (by omega), if_neg (by omega), List.getElem?_append_left (by simp; omega), List.getElem?_take, if_pos hi]
    · rw [List.getElem?_append_right (by simp; omega)]
      have hl : (X.take n).length = n := by simp; omega
      rw [hl]
      by_cases h2 : i = n
      · subst h2; rw [if_pos rfl, if_pos (by simp; omega), Nat.sub_self]; rfl
      · rw [if_neg (by omega)]
        by_cases h3 : i = n + 1
        · subst h3; rw [if_pos rfl, if_pos (by omega), show n + 1 - n = 1 from by omega]; rfl
        · rw [if_neg (by omega), List.getElem?_append_right (by simp; omega), List.getElem?_drop]
          congr 1; simp; omega
  rw [hsw]
  have hX : X = X.take (j - 1).toNat ++ [X[(j - 1).toNat], X[j.toNat]] ++ X.drop (j.toNat + 1) := by
    have h1 : X = X.take (j - 1).toNat ++ X.drop (j - 1).toNat := (List.take_append_drop _ _).symm
    have h2 : X.drop (j - 1).toNat = X[(j - 1).toNat] :: X.drop ((j - 1).toNat + 1) := List.drop_eq_getElem_cons hk
    have h3 : X.drop ((j - 1).toNat + 1) = X[j.toNat] :: X.drop (j.toNat + 1) := by
      rw [show (j - 1).toNat + 1 = j.toNat from by omega]; exact List.drop_eq_getElem_cons hj
    rw [h2, h3] at h1
    rw [List.append_assoc]; exact h1
  conv => rhs; rw [hX]
  exact ((List.Perm.swap _ _ _).append_left _).append_right _
theorem bub_perm {lt : α → α → Bool} : ∀ {j : Nat} {X : List α}, j < X.length → (bub lt X j).Perm X
  | 0, X, _ => List.Perm.refl _
  | j + 1, X, h => by
    rw [bub]
    split
    · exact (bub_perm (by rw [swp_len]; omega)).trans (swp_perm (by omega) (by omega))
    · exact List.Perm.refl _
theorem srt_perm {lt : α → α → Bool} : ∀ {f i : Nat} {X : List α}, i + f ≤ X.length → (srt lt f i X).Perm X
  | 0, i, X, _ => List.Perm.refl _
  | f + 1, i, X, h => by rw [srt]; exact (srt_perm (by rw [bub_len]; omega)).trans (bub_perm (by omega))
theorem sort_perm {lt : α → α → Bool} {X : List α} : (sortF lt X).Perm X := by
  unfold sortF
  cases X with
  | nil => exact List.Perm.refl _
  | cons x X => exact srt_perm (by simp; omega)
theorem sort_len {lt : α → α → Bool} {X : List α} : (sortF lt X).length = X.length := sort_perm.length_eq
end
section
variable {α β : Type} [Inhabited α] [Inhabited β] {f : α → β} {lt : α → α → Bool} {lt' : β → β → Bool}
theorem swp_map (hf : f default = default) {X : List α} {j : Int} : (swp X j).map f = swp (X.map f) j := by
  unfold swp; rw [List.map_set, List.map_set, gt_mapd f hf, gt_mapd f hf]
theorem bub_map (hf : f default = default) (hlt : ∀ x y, lt' (f x) (f y) = lt x y) : ∀ {j : Nat} {X : List α}, (bub lt X j).map f = bub lt' (X.map f) j
  | 0, X => rfl
  | j + 1, X => by
    rw [bub, bub, gt_mapd f hf, gt_mapd f hf, hlt]
    split
    · rw [bub_map hf hlt, swp_map hf]
    · rfl
theorem srt_map (hf : f default = default) (hlt : ∀ x y, lt' (f x) (f y) = lt x y) : ∀ {n i : Nat} {X : List α}, (srt lt n i X).map f = srt lt' n i (X.map f)
  | 0, i, X => rfl
  | n + 1, i, X => by rw [srt, srt, srt_map hf hlt, bub_map hf hlt]
theorem sort_map (hf : f default = default) (hlt : ∀ x y, lt' (f x) (f y) = lt x y) {X : List α} : (sortF lt X).map f = sortF lt' (X.map f) := by
  unfold sortF; rw [srt_map hf hlt, List.length_map]
end
abbrev RC := Int × List Vis
def rc (r : RT) : RC := (r.veh, r.vis)
def ltV (x y : RC) : Bool := decide (cmpI x.1 y.1 < 0)
def ltR (x y : RT) : Bool := decide (cmpI x.veh y.veh < 0)
theorem rc_d : rc default = default := rfl
theorem sort_rc {X : List RT} : (sortF ltR X).map rc = sortF ltV (X.map rc) := sort_map (lt := ltR) (lt' := ltV) rc_d (fun x y => rfl)
section
variable {V : Env} {P : Program} {Q : Exit → Act → World → Prop} {ops : Array Oper} {N : Nat} {L : List (Nat × Value)} {H R : List Res} {S : Nat → Prop} {wf : World} {rest : List Oper}
theorem nestR_perm {e : Nat} {l l' : List RT} (h : l'.Perm l) {w : World} (hw : WW V S wf ([nestR e l] ++ R) w) : WW V S wf ([nestR e l'] ++ R) w :=
  WW.relist hw (by simp only [feet_cons, feet_nil, List.append_nil]; exact List.Perm.flatMap_right _ h) (fun hA r hr => by
    simp only [List.mem_singleton] at hr; subst hr
    intro x hx; exact hA (nestR e l) (by simp) x (h.mem_iff.1 hx))
theorem SC.permR {e : Nat} {l l' : List RT} {c : Code} (hp : PickL H [nestR e l] R) (hl : l'.Perm l) (h : SC V P Q N c ⟨L, nestR e l' :: R, S, wf⟩) : SC V P Q N c ⟨L, H, S, wf⟩ := fun a w hs hw => h a w hs (nestR_perm hl (hw.perm hp.perm))
end
def otherR (v : Int) : List RC → List RC
  | [] => []
  | r :: s => if r.1 ≠ v then r :: otherR v s else otherR v s
theorem otherR_cons {v : Int} {r : RC} {s : List RC} : otherR v (r :: s) = if r.1 ≠ v then r :: otherR v s else otherR v s := rfl
def withF (s : List RC) (v : Int) (l : List Vis) : List RC := sortF ltV (otherR v s ++ if l.length > 0 then [(v, l)] else [])
theorem drop_rc {Y : List RT} {i : Int} (h0 : 0 ≤ i) (h1 : i < (Y.length : Int)) : (Y.map rc).drop i.toNat = ((gt Y i).veh, (gt Y i).vis) :: (Y.map rc).drop (i + 1).toNat := by
  rw [drop_gt h0 (by simpa using h1), gt_map rc h0 h1]; rfl
end Go.SX
namespace Go.SX
theorem kbDT {φ : Prop} [Decidable φ] (h : φ) : some (decide φ) = some true := congrArg some (decide_eq_true h)
theorem kbDF {φ : Prop} [Decidable φ] (h : ¬ φ) : some (decide φ) = some false := congrArg some (decide_eq_false h)
theorem kbET {a b : Int} (h : a = b) : some (a == b) = some true := congrArg some (beq_iff_eq.2 h)
theorem kbEF {a b : Int} (h : ¬ a = b) : some (a == b) = some false := congrArg some (by simpa using h)
end Go.SX
namespace Go.SX
open Go Go.RowKit
theorem bub_stop {α : Type} [Inhabited α] {lt : α → α → Bool} {X : List α} {j : Int} (h0 : 0 ≤ j) (h : ¬ (j > 0 ∧ lt (gt X j) (gt X (j - 1)) = true)) : bub lt X j.toNat = X := by
  by_cases hj : j > 0
  · rw [bub_step hj, if_neg (fun hc => h ⟨hj, hc⟩)]
  · rw [show j.toNat = 0 from by omega]; rfl
def ltT (p : PB) (x y : TK) : Bool := decide (prioF p y - prioF p x < 0)
def allT (nj ns : Nat) : List TK := (List.range nj).map (fun i : Nat => ⟨false, (i : Int)⟩) ++ (List.range ns).map (fun i : Nat => ⟨true, (i : Int)⟩)
def taskL (p : PB) : List TK := sortF (ltT p) (allT p.jobs.length p.ships.length)
theorem range_next {α : Type} {f : Nat → α} {X : List α} {i : Int} (h0 : 0 ≤ i) (h : X = (List.range i.toNat).map f) : X ++ [f i.toNat] = (List.range (i + 1).toNat).map f := by
  rw [show (i + 1).toNat = i.toNat + 1 from by omega, List.range_succ, List.map_append, h]; rfl
theorem visT_len (t : TK) : (t.ship = true ∧ (visT t).length = 2) ∨ (¬ t.ship = true ∧ (visT t).length = 1) := by
  unfold visT; cases t.ship <;> simp
theorem timesR_bd {p : PB} (L : LawP p) {v : VH} : ∀ {l : List Vis} {s z : TM} {m : Int}, timesR p v l s = some z → (-m ≤ s.time ∧ s.time ≤ m) → (-m ≤ s.dist ∧ s.dist ≤ m) →
    (-(m + 32000000 * l.length) ≤ z.time ∧ z.time ≤ m + 32000000 * l.length) ∧ (-(m + 32000000 * l.length) ≤ z.dist ∧ z.dist ≤ m + 32000000 * l.length)
  | [], s, z, m, h, h1, h2 => by
    have h : some s = some z := h
    cases h; simp; omega
  | x :: r, s, z, m, h, h1, h2 => by
    rw [timesR_cons] at h
    split at h
    · have c1 : -1 ≤ tcell p s.pl (nextPl p s.pl x) ∧ tcell p s.pl (nextPl p s.pl x) ≤ 32000000 := cellF_rng L.tc
      have c2 : -1 ≤ dcell p s.pl (nextPl p s.pl x) ∧ dcell p s.pl (nextPl p s.pl x) ≤ 32000000 := cellF_rng L.dc
      have ih := timesR_bd L (m := m + 32000000) h (by simp only [tmSt]; omega) (by simp only [tmSt]; omega)
      rw [List.length_cons]; omega
    · cases h
theorem firstC_all {F : List Int → PR} {Q : PR → Prop} (h0 : Q (noPR 167)) : ∀ {cs : List (List Int)}, (∀ c ∈ cs, Q (F c)) → Q (firstC F cs)
  | [], _ => h0
  | c :: r, h => by
    rw [firstC_cons]; split
    · exact h c (List.mem_cons_self ..)
    · exact firstC_all h0 (fun x hx => h x (List.mem_cons_of_mem _ hx))
theorem cands_len {m : Int} {a : List Int} (ha : a.length ≤ 2) : ∀ c ∈ candsA m a, c.length ≤ 2 := by
  intro c hc
  match a, ha with
  | [], _ => simp [candsA] at hc; subst hc; simp
  | [x], _ => simp only [candsA, List.mem_map] at hc; obtain ⟨y, _, rfl⟩ := hc; simp
  | [x, y], _ =>
    simp only [candsA, List.mem_append, List.mem_map, List.mem_flatMap] at hc
    rcases hc with ⟨z, _, rfl⟩ | ⟨w, _, z, _, rfl⟩ <;> simp
  | _ :: _ :: _ :: _, h => simp at h
def RBd (b : Int) (s : List RC) : Prop := ∀ r ∈ s, (r.2.length : Int) ≤ b
theorem RBd_gt {b : Int} {l : List RT} (h : RBd b (l.map rc)) (hb : 0 ≤ b) (i : Int) : ((gt l i).vis.length : Int) ≤ b := by
  rcases gt_mem_or l i with hm | hm
  · exact h (rc (gt l i)) (List.mem_map_of_mem hm)
  · rw [hm]; exact hb
theorem prio_rng {p : PB} (L : LawP p) (t : TK) : 0 ≤ prioF p t ∧ prioF p t ≤ 100 := by
  unfold prioF
  split
  · rename_i h
    split
    · rename_i hs; have i := thr_t (p := p) (t := t) (fun k => k h) hs; exact (L.ship _ i.1 i.2).pr
    · rename_i hs; have i := thr_f (p := p) (t := t) (fun k => k h) hs; exact (L.job _ i.1 i.2).pr
  · exact ⟨Int.le_refl _, by decide⟩
end Go.SX
namespace Go.SX
theorem taskL_len {p : PB} (L : LawP p) : (taskL p).length = p.jobs.length + p.ships.length := by unfold taskL; rw [sort_len]; simp [allT]
end Go.SX
namespace Go.SX
open Go Go.RowKit
section
variable {α : Type} [Inhabited α] (key : α → Int)
def SortedK (l : List α) : Prop := l.Pairwise (fun x y => key x ≤ key y)
def SameK (l m : List α) : Prop := ∀ k : Int, l.filter (fun x => decide (key x = k)) = m.filter (fun x => decide (key x = k))
variable {key}
theorem SameK.refl (l : List α) : SameK key l l := fun _ => rfl
theorem SameK.trans {l m n : List α} (h : SameK key l m) (k : SameK key m n) : SameK key l n := fun x => (h x).trans (k x)
theorem SameK.symm {l m : List α} (h : SameK key l m) : SameK key m l := fun x => (h x).symm
theorem SameK.mem {l m : List α} (h : SameK key l m) {x : α} (hx : x ∈ l) : x ∈ m := by
  have h1 : x ∈ l.filter (fun y => decide (key y = key x)) := List.mem_filter.2 ⟨hx, by simp⟩
  rw [h] at h1
  exact (List.mem_filter.1 h1).1
theorem stable_uniq : ∀ {l m : List α}, SortedK key l → SortedK key m → SameK key l m → l = m
  | [], [], _, _, _ => rfl
  | [], b :: m, _, _, h => by have := h.symm.mem (List.mem_cons_self ..); cases this
  | a :: l, [], _, _, h => by have := h.mem (List.mem_cons_self ..); cases this
  | a :: l, b :: m, h1, h2, h => by
    have ka : key a ≤ key b := by
      have hb := h.symm.mem (List.mem_cons_self (a := b) (l := m))
      rcases List.mem_cons.1 hb with rfl | hb
      · exact Int.le_refl _
      · exact (List.pairwise_cons.1 h1).1 b hb
    have kb : key b ≤ key a := by
      have ha := h.mem (List.mem_cons_self (a := a) (l := l))
      rcases List.mem_cons.1 ha with rfl | ha
      · exact Int.le_refl _
      · exact (List.pairwise_cons.1 h2).1 a ha
    have hk : key a = key b := by omega
    have h3 := h (key a)
    rw [List.filter_cons_of_pos (by simp), List.filter_cons_of_pos (by simp [hk])] at h3
    injection h3 with h4 h5
    subst h4
    have h6 : SameK key l m := fun k => by
      have h7 := h k
      by_cases hc : key a = k
      · rw [List.filter_cons_of_pos (by simp [hc]), List.filter_cons_of_pos (by simp [hc])] at h7
        injection h7
      · rw [List.filter_cons_of_neg (by simp [hc]), List.filter_cons_of_neg (by simp [hc])] at h7
        exact h7
    rw [stable_uniq (List.pairwise_cons.1 h1).2 (List.pairwise_cons.1 h2).2 h6]
variable {lt : α → α → Bool}
theorem swp_at {A B : List α} {y x : α} : swp (A ++ y :: x :: B) ((A.length : Int) + 1) = A ++ x :: y :: B := by
  unfold swp
  have e1 : gt (A ++ y :: x :: B) ((A.length : Int) + 1) = x := by
    unfold gt; rw [List.getD_eq_getElem?_getD, show ((A.length : Int) + 1).toNat = A.length + 1 from by omega, List.getElem?_append_right (by omega)]; simp
  have e2 : gt (A ++ y :: x :: B) ((A.length : Int) + 1 - 1) = y := by
    unfold gt; rw [List.getD_eq_getElem?_getD, show ((A.length : Int) + 1 - 1).toNat = A.length from by omega, List.getElem?_append_right (by omega)]; simp
  rw [e1, e2, show ((A.length : Int) + 1).toNat = A.length + 1 from by omega, show ((A.length : Int) + 1 - 1).toNat = A.length from by omega]
  rw [List.set_append_right _ _ (by omega), show A.length + 1 - A.length = 1 from by omega]
  rw [List.set_append_right _ _ (by omega), Nat.sub_self]
  rfl
theorem bub_at (hlt : ∀ x y, lt x y = decide (key x < key y)) : ∀ (n : Nat) {A B : List α} {x : α}, A.length = n → ∃ A1 A2, A = A1 ++ A2 ∧ (∀ y ∈ A2, key x < key y) ∧ (∀ y, A1.getLast? = some y → key y ≤ key x) ∧ bub lt (A ++ x :: B) n = A1 ++ x :: A2 ++ B
  | 0, A, B, x, h => by
    have : A = [] := List.eq_nil_of_length_eq_zero h
    subst this
    exact ⟨[], [], rfl, fun y hy => (by cases hy), fun y hy => (by cases hy), rfl⟩
  | n + 1, A, B, x, h => by
    obtain ⟨A', y, rfl⟩ : ∃ A' y, A = A' ++ [y] := by
      rcases List.eq_nil_or_concat A with rfl | ⟨A', y, h2⟩
      · simp at h
      · exact ⟨A', y, by rw [h2]; simp⟩
    have hn : A'.length = n := by simp at h; exact h
    have e0 : A' ++ [y] ++ x :: B = A' ++ y :: x :: B := by simp
    have e1 : gt (A' ++ y :: x :: B) ((n : Int) + 1) = x := by
      unfold gt; rw [List.getD_eq_getElem?_getD, show ((n : Int) + 1).toNat = n + 1 from by omega, List.getElem?_append_right (by omega), hn, show n + 1 - n = 1 from by omega]; rfl
    have e2 : gt (A' ++ y :: x :: B) (n : Int) = y := by
      unfold gt; rw [List.getD_eq_getElem?_getD, show ((n : Int)).toNat = n from by omega, List.getElem?_append_right (by omega), hn, Nat.sub_self]; rfl
    rw [e0, bub, e1, e2, hlt]
    by_cases hc : key x < key y
    · rw [if_pos (decide_eq_true hc)]
      have e3 : swp (A' ++ y :: x :: B) ((n : Int) + 1) = A' ++ x :: (y :: B) := by rw [← hn]; exact swp_at
      rw [e3]
      obtain ⟨A1, A2, h1, h2, h3, h4⟩ := bub_at hlt n (A := A') (B := y :: B) (x := x) hn
      refine ⟨A1, A2 ++ [y], by rw [h1]; simp, fun z hz => ?_, h3, by rw [h4]; simp⟩
      rcases List.mem_append.1 hz with hz | hz
      · exact h2 z hz
      · simp only [List.mem_singleton] at hz; subst hz; exact hc
    · rw [if_neg (by simpa using hc)]
      refine ⟨A' ++ [y], [], by simp, fun z hz => (by cases hz), fun z hz => ?_, by simp⟩
      simp at hz; subst hz; omega
theorem ins_sorted {A1 A2 : List α} {x : α} (h : SortedK key (A1 ++ A2)) (h1 : ∀ y ∈ A2, key x < key y) (h2 : ∀ y, A1.getLast? = some y → key y ≤ key x) : SortedK key (A1 ++ x :: A2) := by
  obtain ⟨p1, p2, p3⟩ := List.pairwise_append.1 h
  have hA : ∀ y ∈ A1, key y ≤ key x := by
    intro y hy
    rcases List.eq_nil_or_concat A1 with rfl | ⟨A', z, rfl⟩
    · cases hy
    · have hz : key z ≤ key x := h2 z (by simp)
      rw [List.concat_eq_append] at hy p1
      rcases List.mem_append.1 hy with hy | hy
      · have := (List.pairwise_append.1 p1).2.2 y hy z (by simp); omega
      · simp only [List.mem_singleton] at hy; subst hy; exact hz
  refine List.pairwise_append.2 ⟨p1, List.pairwise_cons.2 ⟨fun y hy => by have := h1 y hy; omega, p2⟩, fun a ha b hb => ?_⟩
  rcases List.mem_cons.1 hb with rfl | hb
  · exact hA a ha
  · exact p3 a ha b hb
theorem srt_stable (hlt : ∀ x y, lt x y = decide (key x < key y)) : ∀ {f i : Nat} {X : List α}, i + f = X.length → SortedK key (X.take i) → SortedK key (srt lt f i X) ∧ SameK key (srt lt f i X) X
  | 0, i, X, h, hs => ⟨by rw [List.take_of_length_le (by omega)] at hs; exact hs, .refl _⟩
  | f + 1, i, X, h, hs => by
    have hi : i < X.length := by omega
    have eX : X = X.take i ++ X[i] :: X.drop (i + 1) := by
      rw [← List.drop_eq_getElem_cons hi, List.take_append_drop]
    have hl : (X.take i).length = i := by simp; omega
    obtain ⟨A1, A2, h1, h2, h3, h4⟩ := bub_at hlt i (A := X.take i) (B := X.drop (i + 1)) (x := X[i]) hl
    rw [← eX] at h4
    rw [srt, h4]
    have hA : A1.length + A2.length = i := by rw [← List.length_append, ← h1, hl]
    have ht : (A1 ++ X[i] :: A2 ++ X.drop (i + 1)).take (i + 1) = A1 ++ X[i] :: A2 := by
      rw [List.take_append_of_le_length (by simp; omega), List.take_of_length_le (by simp; omega)]
    have ih := srt_stable hlt (f := f) (i := i + 1) (X := A1 ++ X[i] :: A2 ++ X.drop (i + 1)) (by simp; omega) (by rw [ht]; exact ins_sorted (h1 ▸ hs) h2 h3)
    refine ⟨ih.1, ih.2.trans (fun k => ?_)⟩
    have e2 : X = A1 ++ A2 ++ X[i] :: X.drop (i + 1) := by rw [← h1]; exact eX
    conv => rhs; rw [e2]
    simp only [List.filter_append, List.filter_cons, List.append_assoc]
    by_cases hk : key X[i] = k
    · have hn : A2.filter (fun x => decide (key x = k)) = [] := List.filter_eq_nil_iff.2 (fun y hy => by have := h2 y hy; simp; omega)
      simp [hk, hn]
    · simp [hk]
theorem sort_stable (hlt : ∀ x y, lt x y = decide (key x < key y)) (X : List α) : SortedK key (sortF lt X) ∧ SameK key (sortF lt X) X := by
  unfold sortF
  cases X with
  | nil => exact ⟨List.Pairwise.nil, .refl _⟩
  | cons x X => exact srt_stable hlt (by simp; omega) (by simp [SortedK])
def rem : List α → List Bool → List α
  | a :: l, u :: us => if u = true then rem l us else a :: rem l us
  | _, _ => []
theorem rem_false : ∀ (l : List α), rem l (List.replicate l.length false) = l
  | [] => rfl
  | a :: l => by rw [List.length_cons, List.replicate_succ, rem, if_neg (by decide), rem_false l]
theorem rem_split : ∀ {l : List α} {U : List Bool} {b : Nat} {x : α}, l[b]? = some x → U[b]? = some false → ∃ pre post, rem l U = pre ++ x :: post ∧ rem l (U.set b true) = pre ++ post ∧
    (∀ y ∈ pre, ∃ j : Nat, j < b ∧ l[j]? = some y ∧ U[j]? = some false) ∧ (∀ y ∈ post, ∃ j : Nat, l[j]? = some y ∧ U[j]? = some false)
  | [], U, b, x, h, _ => by simp at h
  | a :: l, [], b, x, _, h => by simp at h
  | a :: l, u :: us, 0, x, h, h2 => by
    simp at h h2; subst h h2
    refine ⟨[], rem l us, by rw [rem, if_neg (by decide)]; rfl, by rw [List.set_cons_zero, rem, if_pos rfl]; rfl, fun y hy => (by cases hy), fun y hy => ?_⟩
    suffices hs : ∀ {l : List α} {us : List Bool}, y ∈ rem l us → ∃ j : Nat, l[j]? = some y ∧ us[j]? = some false by
      obtain ⟨j, h1, h2⟩ := hs hy; exact ⟨j + 1, by simpa using h1, by simpa using h2⟩
    intro l us
    induction l generalizing us with
    | nil => intro h; simp [rem] at h
    | cons z l ih =>
      intro h
      cases us with
      | nil => simp [rem] at h
      | cons v us =>
        rw [rem] at h
        split at h
        · obtain ⟨j, h1, h2⟩ := ih h; exact ⟨j + 1, by simpa using h1, by simpa using h2⟩
        · rename_i hv
          rcases List.mem_cons.1 h with rfl | h
          · exact ⟨0, rfl, by simpa using hv⟩
          · obtain ⟨j, h1, h2⟩ := ih h; exact ⟨j + 1, by simpa using h1, by simpa using h2⟩
  | a :: l, u :: us, b + 1, x, h, h2 => by
    obtain ⟨pre, post, h3, h4, h5, h6⟩ := rem_split (l := l) (U := us) (b := b) (x := x) (by simpa using h) (by simpa using h2)
    rw [List.set_cons_succ, rem, rem, h3, h4]
    cases u with
    | true =>
      refine ⟨pre, post, by rw [if_pos rfl], by rw [if_pos rfl], fun y hy => ?_, fun y hy => ?_⟩
      · obtain ⟨j, q1, q2, q3⟩ := h5 y hy; exact ⟨j + 1, by omega, by simpa using q2, by simpa using q3⟩
      · obtain ⟨j, q2, q3⟩ := h6 y hy; exact ⟨j + 1, by simpa using q2, by simpa using q3⟩
    | false =>
      refine ⟨a :: pre, post, by rw [if_neg (by decide)]; rfl, by rw [if_neg (by decide)]; rfl, fun y hy => ?_, fun y hy => ?_⟩
      · rcases List.mem_cons.1 hy with rfl | hy
        · exact ⟨0, by omega, rfl, rfl⟩
        · obtain ⟨j, q1, q2, q3⟩ := h5 y hy; exact ⟨j + 1, by omega, by simpa using q2, by simpa using q3⟩
      · obtain ⟨j, q2, q3⟩ := h6 y hy; exact ⟨j + 1, by simpa using q2, by simpa using q3⟩
theorem rem_all : ∀ {l : List α} {U : List Bool}, U.length = l.length → (∀ j : Nat, j < l.length → U[j]? = some true) → rem l U = []
  | [], _, _, _ => by rw [rem]; exact fun _ _ _ _ h => by cases h
  | a :: l, [], h, _ => by simp at h
  | a :: l, u :: us, h, h2 => by
    have := h2 0 (by simp); simp at this; subst this
    rw [rem, if_pos rfl]
    exact rem_all (by simpa using h) (fun j hj => by have := h2 (j + 1) (by simp; omega); simpa using this)
variable (key)
structure SelI (all X : List α) (U : List Bool) : Prop where
  ulen : U.length = all.length
  cnt : X.length + (rem all U).length = all.length
  srt : SortedK key X
  le : ∀ x ∈ X, ∀ y ∈ rem all U, key x ≤ key y
  same : SameK key (X ++ rem all U) all
def BestI (all : List α) (U : List Bool) (i b : Int) : Prop :=
  (b = -1 ∧ ∀ j : Int, 0 ≤ j → j < i → gt U j = true) ∨
  (0 ≤ b ∧ b < i ∧ gt U b = false ∧ ∀ j : Int, 0 ≤ j → j < i → gt U j = false → key (gt all b) ≤ key (gt all j) ∧ (j < b → key (gt all b) < key (gt all j)))
variable {key}
theorem sel_init (all : List α) : SelI key all [] (List.replicate all.length false) where
  ulen := by simp
  cnt := by rw [rem_false]; simp
  srt := List.Pairwise.nil
  le x hx := by cases hx
  same := by rw [rem_false]; exact .refl _
theorem best_init {all : List α} {U : List Bool} : BestI key all U 0 (-1) := .inl ⟨rfl, fun j h0 h1 => by omega⟩
theorem best_used {all : List α} {U : List Bool} {i b : Int} (h : BestI key all U i b) (hu : gt U i = true) : BestI key all U (i + 1) b := by
  rcases h with ⟨h1, h2⟩ | ⟨h1, h2, h3, h4⟩
  · refine .inl ⟨h1, fun j q0 q1 => ?_⟩
    by_cases hj : j = i
    · subst hj; exact hu
    · exact h2 j q0 (by omega)
  · refine .inr ⟨h1, by omega, h3, fun j q0 q1 q2 => ?_⟩
    by_cases hj : j = i
    · subst hj; rw [hu] at q2; cases q2
    · exact h4 j q0 (by omega) q2
theorem best_new {all : List α} {U : List Bool} {i b : Int} (h : BestI key all U i b) (h0 : 0 ≤ i) (hu : gt U i = false) (hb : b < 0 ∨ key (gt all i) < key (gt all b)) : BestI key all U (i + 1) i := by
  refine .inr ⟨h0, by omega, hu, fun j q0 q1 q2 => ?_⟩
  by_cases hj : j = i
  · subst hj; exact ⟨Int.le_refl _, fun h => by omega⟩
  rcases h with ⟨h1, h2⟩ | ⟨h1, h2, h3, h4⟩
  · have := h2 j q0 (by omega); rw [this] at q2; cases q2
  · have h5 := h4 j q0 (by omega) q2
    rcases hb with hb | hb
    · omega
    · exact ⟨by omega, fun _ => by omega⟩
theorem best_keep {all : List α} {U : List Bool} {i b : Int} (h : BestI key all U i b) (h0 : 0 ≤ i) (hb : ¬ b < 0) (hk : ¬ key (gt all i) < key (gt all b)) : BestI key all U (i + 1) b := by
  rcases h with ⟨h1, h2⟩ | ⟨h1, h2, h3, h4⟩
  · omega
  · refine .inr ⟨h1, by omega, h3, fun j q0 q1 q2 => ?_⟩
    by_cases hj : j = i
    · subst hj; exact ⟨by omega, fun h => by omega⟩
    · exact h4 j q0 (by omega) q2
theorem gt_some {β : Type} [Inhabited β] {l : List β} {b : Int} {x : β} (h : l[b.toNat]? = some x) : gt l b = x := by unfold gt; rw [List.getD_eq_getElem?_getD, h]; rfl
theorem best_some {all X : List α} {U : List Bool} {i b : Int} (h : SelI key all X U) (hb : BestI key all U i b) (hi : ¬ i < (all.length : Int)) (hx : (X.length : Int) < all.length) : 0 ≤ b ∧ b < (all.length : Int) ∨ 0 ≤ b ∧ b < i := by
  rcases hb with ⟨h1, h2⟩ | ⟨h1, h2, h3, h4⟩
  · exfalso
    have : rem all U = [] := rem_all h.ulen (fun j hj => by
      have := h2 (j : Int) (by omega) (by omega)
      have hju : j < U.length := by have := h.ulen; omega
      rw [List.getElem?_eq_getElem hju]
      have e : gt U (j : Int) = U[j] := gt_some (by simp [hju])
      rw [← e, this])
    have := h.cnt
    rw [‹rem all U = []›] at this; simp at this; omega
  · exact .inr ⟨h1, h2⟩
theorem sel_step {all X : List α} {U : List Bool} {i b : Int} (h : SelI key all X U) (hb : BestI key all U i b) (hi : i = (all.length : Int)) (h0 : 0 ≤ b) : SelI key all (X ++ [gt all b]) (U.set b.toNat true) := by
  rcases hb with ⟨h1, h2⟩ | ⟨h1, h2, h3, h4⟩
  · omega
  have hbl : b.toNat < all.length := by omega
  have hbu : b.toNat < U.length := by have := h.ulen; omega
  have ha : all[b.toNat]? = some (gt all b) := gt_at h0 (by omega)
  have hu : U[b.toNat]? = some false := by
    have := gt_at (l := U) (i := b) h0 (by have := h.ulen; omega)
    rw [this, h3]
  obtain ⟨pre, post, e1, e2, e3, e4⟩ := rem_split ha hu
  have kpre : ∀ y ∈ pre, key (gt all b) < key y := fun y hy => by
    obtain ⟨j, q1, q2, q3⟩ := e3 y hy
    have g1 : gt all (j : Int) = y := gt_some (by simpa using q2)
    have g2 : gt U (j : Int) = false := gt_some (by simpa using q3)
    have hjl : j < all.length := (List.getElem?_eq_some_iff.1 q2).1
    have := h4 (j : Int) (by omega) (by omega) g2
    rw [g1] at this; exact this.2 (by omega)
  have kpost : ∀ y ∈ post, key (gt all b) ≤ key y := fun y hy => by
    obtain ⟨j, q2, q3⟩ := e4 y hy
    have g1 : gt all (j : Int) = y := gt_some (by simpa using q2)
    have g2 : gt U (j : Int) = false := gt_some (by simpa using q3)
    have hjl : j < all.length := (List.getElem?_eq_some_iff.1 q2).1
    have := h4 (j : Int) (by omega) (by omega) g2
    rw [g1] at this; exact this.1
  refine ⟨by rw [List.length_set]; exact h.ulen, ?_, ?_, ?_, ?_⟩
  · have := h.cnt; rw [e1] at this; rw [e2]; simp at this ⊢; omega
  · refine List.pairwise_append.2 ⟨h.srt, List.pairwise_singleton _ _, fun x hx y hy => ?_⟩
    simp only [List.mem_singleton] at hy; subst hy
    exact h.le x hx _ (by rw [e1]; simp)
  · intro x hx y hy
    rw [e2] at hy
    rcases List.mem_append.1 hx with hx | hx
    · refine h.le x hx y (by rw [e1]; rcases List.mem_append.1 hy with hy | hy <;> simp [hy])
    · simp only [List.mem_singleton] at hx; subst hx
      rcases List.mem_append.1 hy with hy | hy
      · have := kpre y hy; omega
      · exact kpost y hy
  · refine SameK.trans (fun k => ?_) h.same
    rw [e1, e2]
    simp only [List.filter_append, List.filter_cons, List.append_assoc, List.filter_nil]
    by_cases hk : key (gt all b) = k
    · have hn : pre.filter (fun x => decide (key x = k)) = [] := List.filter_eq_nil_iff.2 (fun y hy => by have := kpre y hy; simp; omega)
      simp [hk, hn]
    · simp [hk]
theorem sel_end {lt : α → α → Bool} (hlt : ∀ x y, lt x y = decide (key x < key y)) {all X : List α} {U : List Bool} (h : SelI key all X U) (hx : ¬ (X.length : Int) < all.length) : X = sortF lt all := by
  have h1 := h.cnt
  have h2 : rem all U = [] := List.eq_nil_of_length_eq_zero (by omega)
  have h3 := h.same
  rw [h2, List.append_nil] at h3
  obtain ⟨h4, h5⟩ := sort_stable (key := key) hlt all
  exact stable_uniq h.srt h4 (h3.trans h5.symm)
end
theorem ltT_key (p : PB) (x y : TK) : ltT p x y = decide (-(prioF p x) < -(prioF p y)) := by unfold ltT; rw [Bool.eq_iff_iff]; simp only [decide_eq_true_eq]; omega
end Go.SX
namespace Go.SX
open Go Go.RowKit
def okAt (p : PB) (l : List Vis) (i : Int) : Prop :=
  (gt l i).kind = 4 ∨ (isStop p (gt l i) = true ∧ ((l.count (gt l i) : Nat) : Int) = 1 ∧ ((gt l i).kind = 3 → (((l.take i.toNat).count ⟨2, (gt l i).item⟩ : Nat) : Int) = 1) ∧ ((gt l i).kind = 2 → ((l.count ⟨3, (gt l i).item⟩ : Nat) : Int) = 1))
def PQ (p : PB) (l : List Vis) : Prop := ∀ i : Int, 0 ≤ i → i < (l.length : Int) → okAt p l i
def seenOk (p : PB) (pre : List Vis) (x : Vis) : Prop := x.kind = 4 ∨ (isStop p x = true ∧ x ∉ pre ∧ (x.kind = 3 → (⟨2, x.item⟩ : Vis) ∈ pre))
def MK (m : List (Vis × Bool)) (pre : List Vis) : Prop := ∀ y : Vis, mget m y false = true ↔ (y ∈ pre ∧ y.kind ≠ 4)
theorem MK_nil : MK [] [] := fun y => ⟨fun h => (by cases h), fun h => (by cases h.1)⟩
theorem MK_skip {m : List (Vis × Bool)} {pre : List Vis} {x : Vis} (h : MK m pre) (hx : x.kind = 4) : MK m (pre ++ [x]) := fun y => by
  rw [h y]; constructor
  · exact fun ⟨a, b⟩ => ⟨List.mem_append_left _ a, b⟩
  · rintro ⟨a, b⟩
    rcases List.mem_append.1 a with a | a
    · exact ⟨a, b⟩
    · simp only [List.mem_singleton] at a; subst a; exact absurd hx b
theorem MK_set {m : List (Vis × Bool)} {pre : List Vis} {x : Vis} (h : MK m pre) (hx : x.kind ≠ 4) : MK (mset m x true) (pre ++ [x]) := fun y => by
  rw [mget_set]
  by_cases hy : x = y
  · subst hy; rw [if_pos rfl]; exact ⟨fun _ => ⟨by simp, hx⟩, fun _ => rfl⟩
  · rw [if_neg hy, h y]; constructor
    · exact fun ⟨a, b⟩ => ⟨List.mem_append_left _ a, b⟩
    · rintro ⟨a, b⟩
      rcases List.mem_append.1 a with a | a
      · exact ⟨a, b⟩
      · simp only [List.mem_singleton] at a; exact absurd a.symm hy
def cntK (k : Int) (l : List Vis) : Int := ((l.filter (fun x => decide (x.kind = k))).length : Nat)
theorem cntK_cons {k : Int} {x : Vis} {l : List Vis} : cntK k (x :: l) = (if x.kind = k then 1 else 0) + cntK k l := by
  unfold cntK
  by_cases h : x.kind = k
  · rw [List.filter_cons_of_pos (by simp [h]), if_pos h]; simp; omega
  · rw [List.filter_cons_of_neg (by simp [h]), if_neg h]; simp
theorem pairs_walk {p : PB} : ∀ {rest pre : List Vis} {m : List (Vis × Bool)} {op : Int}, MK m pre →
    (pairsR p rest m op = true ↔ ((∀ a x b, rest = a ++ x :: b → seenOk p (pre ++ a) x) ∧ op + cntK 2 rest - cntK 3 rest = 0))
  | [], pre, m, op, h => by
    rw [pairsR_nil, decide_eq_true_eq]
    constructor
    · intro h1; exact ⟨fun a x b e => (by cases a <;> cases e), by simp [cntK]; omega⟩
    · rintro ⟨_, h2⟩; simp [cntK] at h2; omega
  | x :: r, pre, m, op, h => by
    rw [pairsR_cons, cntK_cons, cntK_cons]
    have split : ∀ {Q : List Vis → Vis → Prop}, (∀ a y b, x :: r = a ++ y :: b → Q a y) ↔ (Q [] x ∧ ∀ a y b, r = a ++ y :: b → Q (x :: a) y) := fun {Q} =>
      ⟨fun hh => ⟨hh [] x r rfl, fun a y b e => hh (x :: a) y b (by rw [e]; rfl)⟩, fun ⟨h1, h2⟩ a y b e => by
        cases a with
        | nil => injection e with e1 e2; subst e1; exact h1
        | cons z a => injection e with e1 e2; subst e1; exact h2 a y b e2⟩
    rw [split]
    simp only [List.append_nil]
    by_cases hk : x.kind = 4
    · rw [if_pos hk, pairs_walk (MK_skip h hk), if_neg (by omega), if_neg (by omega)]
      simp only [List.append_assoc, List.singleton_append]
      exact ⟨fun ⟨h1, h2⟩ => ⟨⟨.inl hk, h1⟩, by omega⟩, fun ⟨⟨_, h1⟩, h2⟩ => ⟨h1, by omega⟩⟩
    · rw [if_neg hk]
      by_cases hc : (¬ isStop p x = true ∨ mget m x false = true) ∨ (x.kind = 3 ∧ ¬ mget m ⟨2, x.item⟩ false = true)
      · rw [if_pos hc]
        refine ⟨fun h1 => (by cases h1), fun ⟨⟨h1, _⟩, _⟩ => ?_⟩
        exfalso
        rcases h1 with h1 | ⟨h1, h2, h3⟩
        · exact hk h1
        · rcases hc with (hc | hc) | ⟨hc, hd⟩
          · exact hc h1
          · exact h2 ((h x).1 hc).1
          · exact hd ((h ⟨2, x.item⟩).2 ⟨h3 hc, by show (2 : Int) ≠ 4; decide⟩)
      · rw [if_neg hc, pairs_walk (MK_set h hk)]
        simp only [List.append_assoc, List.singleton_append]
        have hs : seenOk p pre x := .inr ⟨Classical.byContradiction (fun e => hc (.inl (.inl e))), fun e => hc (.inl (.inr ((h x).2 ⟨e, hk⟩))), fun h3 => by
          have := Classical.byContradiction (fun e => hc (.inr ⟨h3, e⟩)); exact ((h _).1 this).1⟩
        have e : (if x.kind = 2 then op + 1 else if x.kind = 3 then op - 1 else op) = op + (if x.kind = 2 then 1 else 0) - (if x.kind = 3 then 1 else 0) := by
          by_cases h2 : x.kind = 2
          · rw [if_pos h2, if_pos h2, if_neg (by omega)]; omega
          · rw [if_neg h2, if_neg h2]; split <;> omega
        rw [e]
        exact ⟨fun ⟨h1, h2⟩ => ⟨⟨hs, h1⟩, by omega⟩, fun ⟨⟨_, h1⟩, h2⟩ => ⟨h1, by omega⟩⟩
theorem nodup_sub_len {α : Type} [BEq α] [LawfulBEq α] : ∀ {A B : List α}, A.Nodup → (∀ x ∈ A, x ∈ B) → A.length ≤ B.length
  | [], B, _, _ => Nat.zero_le _
  | a :: A, B, h, hs => by
    have ha : a ∈ B := hs a (List.mem_cons_self ..)
    have ih := nodup_sub_len (A := A) (B := B.erase a) (List.nodup_cons.1 h).2 (fun x hx => by
      have hxa : x ≠ a := fun e => (List.nodup_cons.1 h).1 (e ▸ hx)
      exact (List.mem_erase_of_ne hxa).2 (hs x (List.mem_cons_of_mem _ hx)))
    rw [List.length_erase_of_mem ha] at ih
    have := List.length_pos_of_mem ha
    rw [List.length_cons]; omega
theorem nodup_count {α : Type} [BEq α] [LawfulBEq α] : ∀ {l : List α}, (∀ x, l.count x ≤ 1) → l.Nodup
  | [], _ => List.nodup_nil
  | a :: l, h => List.nodup_cons.2 ⟨fun hm => by have := h a; rw [List.count_cons_self] at this; have := List.count_pos_iff.2 hm; omega, nodup_count (fun x => by have := h x; have := List.count_le_count_cons (a := x) (b := a) (l := l); omega)⟩
theorem nodup_map_on {α β : Type} {f : α → β} {l : List α} (h : ∀ x ∈ l, ∀ y ∈ l, f x = f y → x = y) (hn : l.Nodup) : (l.map f).Nodup :=
  List.pairwise_map.2 (List.Pairwise.imp_of_mem (fun ha hb hne e => hne (h _ ha _ hb e)) hn)
theorem count_split {l : List Vis} {i : Int} (h0 : 0 ≤ i) (h1 : i < (l.length : Int)) : ∃ b, l = l.take i.toNat ++ gt l i :: b := ⟨_, by rw [← drop_gt h0 h1, List.take_append_drop]⟩
theorem pairs_iff {p : PB} {l : List Vis} : pairsR p l [] 0 = true ↔ PQ p l := by
  rw [pairs_walk MK_nil]
  simp only [List.nil_append]
  have at_ : ∀ {a x b}, l = a ++ x :: b → (a.length : Int) < l.length ∧ gt l (a.length : Int) = x ∧ l.take a.length = a := fun {a x b} e => by
    subst e
    refine ⟨by simp; omega, ?_, by simp⟩
    unfold gt; rw [List.getD_eq_getElem?_getD, show ((a.length : Int)).toNat = a.length from by omega, List.getElem?_append_right (Nat.le_refl _), Nat.sub_self]; rfl
  constructor
  · rintro ⟨h1, h2⟩
    have uniq : ∀ x ∈ l, x.kind ≠ 4 → l.count x = 1 := by
      intro x hx hk
      have hpos := List.count_pos_iff.2 hx
      rcases Nat.lt_or_ge 1 (l.count x) with hlt | hge
      · exfalso
        obtain ⟨a, b, e⟩ := List.append_of_mem hx
        rcases Nat.lt_or_ge 0 (a.count x) with ha | ha
        · rcases h1 a x b e with h3 | ⟨_, h3, _⟩
          · exact hk h3
          · exact h3 (List.count_pos_iff.1 ha)
        · have hb : 0 < b.count x := by rw [e, List.count_append, List.count_cons_self] at hlt; omega
          obtain ⟨b1, b2, e2⟩ := List.append_of_mem (List.count_pos_iff.1 hb)
          rcases h1 (a ++ x :: b1) x b2 (by rw [e, e2]; simp) with h3 | ⟨_, h3, _⟩
          · exact hk h3
          · exact h3 (by simp)
      · omega
    intro i h0 hi
    obtain ⟨b, e⟩ := count_split h0 hi
    rcases h1 _ _ _ e with h3 | ⟨h3, h4, h5⟩
    · exact .inl h3
    · have hm : gt l i ∈ l := gt_mem h0 hi
      have hk4 : (gt l i).kind ≠ 4 := fun hk => by have := is_kind h3; omega
      refine .inr ⟨h3, by rw [uniq _ hm hk4]; rfl, fun hk => ?_, fun hk => ?_⟩
      · have hin := h5 hk
        have c1 := List.count_pos_iff.2 hin
        have c2 := uniq ⟨2, (gt l i).item⟩ (List.mem_of_mem_take hin) (by show (2 : Int) ≠ 4; decide)
        have c3 : (l.take i.toNat).count ⟨2, (gt l i).item⟩ ≤ l.count ⟨2, (gt l i).item⟩ := (List.take_sublist _ _).count_le _
        omega
      · -- as many deliveries as pickups
        have hd : (⟨3, (gt l i).item⟩ : Vis) ∈ l := by
          refine Classical.byContradiction fun hno => ?_
          have hP : ((l.filter (fun x => decide (x.kind = 2))).map Vis.item).Nodup := by
            refine nodup_map_on ?_ ?_
            · intro x hx y hy e3
              have hx2 := (List.mem_filter.1 hx).2; have hy2 := (List.mem_filter.1 hy).2
              simp at hx2 hy2
              exact vis_ext (by omega) e3
            · refine nodup_count fun x => ?_
              by_cases hx : x ∈ l.filter (fun x => decide (x.kind = 2))
              · have hx2 := (List.mem_filter.1 hx).2; simp at hx2
                have := uniq x (List.mem_filter.1 hx).1 (by omega)
                have := (List.filter_sublist (p := fun x => decide (x.kind = 2)) (l := l)).count_le x
                omega
              · rw [List.count_eq_zero.2 hx]; omega
          have hD : ((gt l i).item :: (l.filter (fun x => decide (x.kind = 3))).map Vis.item).Nodup := by
            refine List.nodup_cons.2 ⟨fun hm3 => ?_, ?_⟩
            · obtain ⟨y, hy, hye⟩ := List.mem_map.1 hm3
              have hy2 := (List.mem_filter.1 hy).2; simp at hy2
              have : y = ⟨3, (gt l i).item⟩ := vis_ext hy2 hye
              exact hno (this ▸ (List.mem_filter.1 hy).1)
            · refine nodup_map_on ?_ ?_
              · intro x hx y hy e3
                have hx2 := (List.mem_filter.1 hx).2; have hy2 := (List.mem_filter.1 hy).2
                simp at hx2 hy2
                exact vis_ext (by omega) e3
              · refine nodup_count fun x => ?_
                by_cases hx : x ∈ l.filter (fun x => decide (x.kind = 3))
                · have hx2 := (List.mem_filter.1 hx).2; simp at hx2
                  have := uniq x (List.mem_filter.1 hx).1 (by omega)
                  have := (List.filter_sublist (p := fun x => decide (x.kind = 3)) (l := l)).count_le x
                  omega
                · rw [List.count_eq_zero.2 hx]; omega
          have hsub : ∀ x ∈ ((gt l i).item :: (l.filter (fun x => decide (x.kind = 3))).map Vis.item), x ∈ (l.filter (fun x => decide (x.kind = 2))).map Vis.item := by
            intro x hx
            rcases List.mem_cons.1 hx with rfl | hx
            · exact List.mem_map.2 ⟨gt l i, List.mem_filter.2 ⟨hm, by simp [hk]⟩, rfl⟩
            · obtain ⟨y, hy, rfl⟩ := List.mem_map.1 hx
              have hy2 := (List.mem_filter.1 hy).2; simp at hy2
              obtain ⟨a, b2, e2⟩ := List.append_of_mem (List.mem_filter.1 hy).1
              rcases h1 a y b2 e2 with h7 | ⟨_, _, h7⟩
              · omega
              · exact List.mem_map.2 ⟨⟨2, y.item⟩, List.mem_filter.2 ⟨by rw [e2]; exact List.mem_append_left _ (h7 hy2), by simp⟩, rfl⟩
          have := nodup_sub_len hD hsub
          simp only [List.length_cons, List.length_map] at this
          unfold cntK at h2
          omega
        have := uniq _ hd (by show (3 : Int) ≠ 4; decide)
        rw [this]; rfl
  · intro h
    have okx : ∀ a x b, l = a ++ x :: b → okAt p l (a.length : Int) ∧ gt l (a.length : Int) = x ∧ l.take a.length = a := fun a x b e => by
      obtain ⟨h1, h2, h3⟩ := at_ e
      exact ⟨h _ (by omega) h1, h2, h3⟩
    have mem_split : ∀ x ∈ l, ∃ a b, l = a ++ x :: b := fun x hx => List.append_of_mem hx
    refine ⟨fun a x b e => ?_, ?_⟩
    · obtain ⟨h1, h2, h3⟩ := okx a x b e
      unfold okAt at h1
      rw [h2, show ((a.length : Int)).toNat = a.length from by omega, h3] at h1
      rcases h1 with h1 | ⟨h1, h4, h5, _⟩
      · exact .inl h1
      · refine .inr ⟨h1, fun hx => ?_, fun hk => ?_⟩
        · have := List.count_pos_iff.2 hx
          rw [e, List.count_append, List.count_cons_self] at h4; omega
        · exact List.count_pos_iff.1 (by have := h5 hk; omega)
    · have one : ∀ k : Int, k ≠ 4 → ((l.filter (fun x => decide (x.kind = k))).map Vis.item).Nodup := fun k hk => by
        refine nodup_map_on ?_ ?_
        · intro x hx y hy e3
          have hx2 := (List.mem_filter.1 hx).2; have hy2 := (List.mem_filter.1 hy).2
          simp at hx2 hy2
          exact vis_ext (by omega) e3
        · refine nodup_count fun x => ?_
          by_cases hx : x ∈ l.filter (fun x => decide (x.kind = k))
          · have hx2 := (List.mem_filter.1 hx).2; simp at hx2
            obtain ⟨a, b, e⟩ := mem_split x (List.mem_filter.1 hx).1
            obtain ⟨h1, h2, _⟩ := okx a x b e
            unfold okAt at h1; rw [h2] at h1
            have h4 : ((l.count x : Nat) : Int) = 1 := h1.elim (fun h => by omega) (fun h => h.2.1)
            have := (List.filter_sublist (p := fun x => decide (x.kind = k)) (l := l)).count_le x
            omega
          · rw [List.count_eq_zero.2 hx]; omega
      have s1 : ∀ x ∈ (l.filter (fun x => decide (x.kind = 3))).map Vis.item, x ∈ (l.filter (fun x => decide (x.kind = 2))).map Vis.item := by
        intro x hx
        obtain ⟨y, hy, rfl⟩ := List.mem_map.1 hx
        have hy2 := (List.mem_filter.1 hy).2; simp at hy2
        obtain ⟨a, b, e⟩ := mem_split y (List.mem_filter.1 hy).1
        obtain ⟨h1, h2, h3⟩ := okx a y b e
        unfold okAt at h1; rw [h2, show ((a.length : Int)).toNat = a.length from by omega, h3] at h1
        rcases h1 with h1 | ⟨_, _, h5, _⟩
        · omega
        · have : (⟨2, y.item⟩ : Vis) ∈ a := List.count_pos_iff.1 (by have := h5 hy2; omega)
          exact List.mem_map.2 ⟨⟨2, y.item⟩, List.mem_filter.2 ⟨by rw [e]; exact List.mem_append_left _ this, by simp⟩, rfl⟩
      have s2 : ∀ x ∈ (l.filter (fun x => decide (x.kind = 2))).map Vis.item, x ∈ (l.filter (fun x => decide (x.kind = 3))).map Vis.item := by
        intro x hx
        obtain ⟨y, hy, rfl⟩ := List.mem_map.1 hx
        have hy2 := (List.mem_filter.1 hy).2; simp at hy2
        obtain ⟨a, b, e⟩ := mem_split y (List.mem_filter.1 hy).1
        obtain ⟨h1, h2, h3⟩ := okx a y b e
        unfold okAt at h1; rw [h2] at h1
        rcases h1 with h1 | ⟨_, _, _, h5⟩
        · omega
        · have : (⟨3, y.item⟩ : Vis) ∈ l := List.count_pos_iff.1 (by have := h5 hy2; omega)
          exact List.mem_map.2 ⟨⟨3, y.item⟩, List.mem_filter.2 ⟨this, by simp⟩, rfl⟩
      have l1 := nodup_sub_len (one 3 (by decide)) s1
      have l2 := nodup_sub_len (one 2 (by decide)) s2
      simp only [List.length_map] at l1 l2
      unfold cntK; omega
end Go.SX
namespace Go.SX
open Go Go.RowKit
theorem u64_wrap (x : BitVec 64) : IntKind.u64.wrap (x.toNat : Int) = x.toNat := by
  have := x.isLt
  simp only [IntKind.wrap, IntKind.bits, IntKind.signed, Bool.false_and]
  simp; omega
theorem ban_zero {a c : Int} : ban .u64 a c = 0 ↔ (BitVec.ofInt 64 a &&& ~~~ BitVec.ofInt 64 c) = 0#64 := by
  show IntKind.u64.wrap ((BitVec.ofInt 64 a &&& ~~~ BitVec.ofInt 64 c).toNat : Int) = 0 ↔ _
  rw [u64_wrap]
  constructor
  · intro h; apply BitVec.eq_of_toNat_eq; simpa using h
  · intro h; rw [h]; rfl
theorem bor_of {a b : Int} : BitVec.ofInt 64 (bor .u64 a b) = BitVec.ofInt 64 a ||| BitVec.ofInt 64 b := by
  show BitVec.ofInt 64 (IntKind.u64.wrap ((BitVec.ofInt 64 a ||| BitVec.ofInt 64 b).toNat : Int)) = _
  rw [u64_wrap]
  apply BitVec.eq_of_toNat_eq
  rw [BitVec.ofInt_natCast, BitVec.toNat_ofNat]
  exact Nat.mod_eq_of_lt (BitVec.isLt _)
theorem ban_bor {a b c : Int} : ban .u64 (bor .u64 a b) c = 0 ↔ ban .u64 a c = 0 ∧ ban .u64 b c = 0 := by
  rw [ban_zero, ban_zero, ban_zero, bor_of]
  generalize BitVec.ofInt 64 a = x
  generalize BitVec.ofInt 64 b = y
  generalize BitVec.ofInt 64 c = z
  have key : ∀ {u : BitVec 64}, u = 0#64 ↔ ∀ i, u.getLsbD i = false := fun {u} => ⟨fun h i => by rw [h]; simp, fun h => BitVec.eq_of_getLsbD_eq (fun i hi => by rw [h]; simp)⟩
  rw [key, key, key]
  constructor
  · intro h
    refine ⟨fun i => ?_, fun i => ?_⟩ <;> have := h i <;> rw [BitVec.getLsbD_and, BitVec.getLsbD_or] at this <;> rw [BitVec.getLsbD_and] <;> revert this <;> cases x.getLsbD i <;> cases y.getLsbD i <;> cases (~~~z).getLsbD i <;> simp
  · rintro ⟨h1, h2⟩ i
    have a1 := h1 i; have a2 := h2 i
    rw [BitVec.getLsbD_and] at a1 a2
    rw [BitVec.getLsbD_and, BitVec.getLsbD_or]
    revert a1 a2
    cases x.getLsbD i <;> cases y.getLsbD i <;> cases (~~~z).getLsbD i <;> simp
theorem ban_0 {c : Int} : ban .u64 0 c = 0 := by rw [ban_zero]; simp
def scanR (p : PB) : List Vis → Int → Int → Int → Option (Int × Int × Int)
  | [], n, t, s => some (n, t, s)
  | x :: r, n, t, s => if x.kind = 4 then (if x.item ≠ n then none else scanR p r (n + 1) t s) else if x.kind = 1 ∨ x.kind = 2 then scanR p r n (t + 1) (bor .u64 s (skilF p (taskV x))) else scanR p r n t s
theorem scanR_cons {p : PB} {x : Vis} {r : List Vis} {n t s : Int} : scanR p (x :: r) n t s = if x.kind = 4 then (if x.item ≠ n then none else scanR p r (n + 1) t s) else if x.kind = 1 ∨ x.kind = 2 then scanR p r n (t + 1) (bor .u64 s (skilF p (taskV x))) else scanR p r n t s := rfl
theorem scan_none {p : PB} {nb : Int} : ∀ {l : List Vis} {n t s : Int}, scanR p l n t s = none → breaksR nb l n = false
  | [], n, t, s, h => by cases h
  | x :: r, n, t, s, h => by
    rw [scanR_cons] at h; rw [breaksR_cons]
    split at h
    · rename_i hk; rw [if_pos hk]
      split at h
      · rename_i hi; rw [if_pos hi]
      · rename_i hi; rw [if_neg hi]; exact scan_none h
    · rename_i hk; rw [if_neg hk]
      split at h <;> exact scan_none h
theorem scan_some {p : PB} {nb c : Int} : ∀ {l : List Vis} {n t s n' t' s' : Int}, scanR p l n t s = some (n', t', s') → breaksR nb l n = decide (n' = nb) ∧ tasksR l t = t' ∧ (ban .u64 s' c = 0 ↔ (ban .u64 s c = 0 ∧ ∀ x ∈ l, (x.kind = 1 ∨ x.kind = 2) → ban .u64 (skilF p (taskV x)) c = 0))
  | [], n, t, s, n', t', s', h => by
    have h : some (n, t, s) = some (n', t', s') := h
    cases h
    exact ⟨rfl, rfl, ⟨fun h => ⟨h, fun x hx => (by cases hx)⟩, fun h => h.1⟩⟩
  | x :: r, n, t, s, n', t', s', h => by
    rw [scanR_cons] at h; rw [breaksR_cons, tasksR_cons]
    by_cases hk : x.kind = 4
    · rw [if_pos hk] at h ⊢
      rw [if_neg (show ¬ (x.kind = 1 ∨ x.kind = 2) by omega)]
      by_cases hi : x.item ≠ n
      · rw [if_pos hi] at h; cases h
      · rw [if_neg hi] at h ⊢
        obtain ⟨h1, h2, h3⟩ := scan_some h
        refine ⟨h1, h2, h3.trans ⟨fun ⟨q1, q2⟩ => ⟨q1, fun y hy hk2 => ?_⟩, fun ⟨q1, q2⟩ => ⟨q1, fun y hy => q2 y (List.mem_cons_of_mem _ hy)⟩⟩⟩
        rcases List.mem_cons.1 hy with rfl | hy
        · omega
        · exact q2 y hy hk2
    · rw [if_neg hk] at h ⊢
      by_cases hk2 : x.kind = 1 ∨ x.kind = 2
      · rw [if_pos hk2] at h ⊢
        obtain ⟨h1, h2, h3⟩ := scan_some h
        refine ⟨h1, h2, h3.trans ?_⟩
        rw [ban_bor]
        refine ⟨fun ⟨⟨q1, q3⟩, q2⟩ => ⟨q1, fun y hy hk3 => ?_⟩, fun ⟨q1, q2⟩ => ⟨⟨q1, q2 x (List.mem_cons_self ..) hk2⟩, fun y hy => q2 y (List.mem_cons_of_mem _ hy)⟩⟩
        rcases List.mem_cons.1 hy with rfl | hy
        · exact q3
        · exact q2 y hy hk3
      · rw [if_neg hk2] at h ⊢
        obtain ⟨h1, h2, h3⟩ := scan_some h
        refine ⟨h1, h2, h3.trans ⟨fun ⟨q1, q2⟩ => ⟨q1, fun y hy hk3 => ?_⟩, fun ⟨q1, q2⟩ => ⟨q1, fun y hy => q2 y (List.mem_cons_of_mem _ hy)⟩⟩⟩
        rcases List.mem_cons.1 hy with rfl | hy
        · exact absurd hk3 hk2
        · exact q2 y hy hk3
theorem skills_iff {p : PB} {v : VH} : ∀ {l : List Vis}, skillsR p v l = true ↔ ∀ x ∈ l, isTask x = true → ban .u64 (skilF p (taskV x)) v.vsk = 0
  | [] => ⟨fun _ x hx => (by cases hx), fun _ => rfl⟩
  | x :: r => by
    rw [skillsR_cons]
    split
    · rename_i h; exact ⟨fun h1 => (by cases h1), fun h1 => absurd (h1 x (List.mem_cons_self ..) h.1) h.2⟩
    · rename_i h
      rw [skills_iff]
      refine ⟨fun h1 y hy ht => ?_, fun h1 y hy => h1 y (List.mem_cons_of_mem _ hy)⟩
      rcases List.mem_cons.1 hy with rfl | hy
      · exact Classical.byContradiction fun hc => h ⟨ht, hc⟩
      · exact h1 y hy ht
theorem skills_ref {p : PB} {v : VH} {l : List Vis} (hp : pairsR p l [] 0 = true) : (skillsR p v l = true ↔ ∀ x ∈ l, (x.kind = 1 ∨ x.kind = 2) → ban .u64 (skilF p (taskV x)) v.vsk = 0) := by
  rw [skills_iff]
  refine ⟨fun h x hx hk => h x hx (by unfold isTask; simp; omega), fun h x hx ht => ?_⟩
  have hk : x.kind = 1 ∨ x.kind = 2 ∨ x.kind = 3 := by unfold isTask at ht; exact of_decide_eq_true ht
  by_cases h3 : x.kind = 3
  · obtain ⟨n, hn, e⟩ := List.getElem_of_mem hx
    have e2 : gt l (n : Int) = x := by simp [gt, List.getD_eq_getElem?_getD, hn, e]
    have hq := pairs_iff.1 hp (n : Int) (by omega) (by omega)
    unfold okAt at hq; rw [e2] at hq
    rcases hq with hq | ⟨_, _, hq, _⟩
    · omega
    · have hc : 0 < (l.take ((n : Int)).toNat).count ⟨2, x.item⟩ := by have := hq h3; omega
      have hm : (⟨2, x.item⟩ : Vis) ∈ l := List.mem_of_mem_take (List.count_pos_iff.1 hc)
      have := h _ hm (.inr rfl)
      rw [(task3 h3).1]
      rw [(task2 (x := ⟨2, x.item⟩) rfl).1] at this; exact this
  · exact h x hx (by omega)
section
variable {p : PB} {v : VH} {l : List Vis}
theorem ck_161 (h : ¬ pairsR p l [] 0 = true) : checksF p v l = 161 := by unfold checksF; rw [if_pos h]
theorem ck_162 (h : pairsR p l [] 0 = true) (h1 : breaksR v.brs.length l 0 = false) : checksF p v l = 162 := by unfold checksF; simp [h, h1]
theorem ck_163 (h : pairsR p l [] 0 = true) (h1 : breaksR v.brs.length l 0 = true) (h2 : ¬ skillsR p v l = true) : checksF p v l = 163 := by unfold checksF; simp [h, h1, h2]
theorem ck_164 (h : pairsR p l [] 0 = true) (h1 : breaksR v.brs.length l 0 = true) (h2 : skillsR p v l = true) (h3 : tasksR l 0 > v.mt) : checksF p v l = 164 := by unfold checksF; simp only [h, h1, h2, not_true_eq_false, if_false, if_pos h3]
theorem ck_165 (h : pairsR p l [] 0 = true) (h1 : breaksR v.brs.length l 0 = true) (h2 : skillsR p v l = true) (h3 : ¬ tasksR l 0 > v.mt) (h4 : allUnder v.vcap (loadsF p l) = false) : checksF p v l = 165 := by
  unfold checksF; simp only [h, h1, h2, h4, not_true_eq_false, if_false, if_neg h3]; rfl
theorem ck_166 (h : pairsR p l [] 0 = true) (h1 : breaksR v.brs.length l 0 = true) (h2 : skillsR p v l = true) (h3 : ¬ tasksR l 0 > v.mt) (h4 : allUnder v.vcap (loadsF p l) = true) (h5 : travelR p (placesF p v l) = false) : checksF p v l = 166 := by
  unfold checksF; simp only [h, h1, h2, h4, h5, not_true_eq_false, if_false, if_neg h3]; rfl
theorem ck_ok (h : pairsR p l [] 0 = true) (h1 : breaksR v.brs.length l 0 = true) (h2 : skillsR p v l = true) (h3 : ¬ tasksR l 0 > v.mt) (h4 : allUnder v.vcap (loadsF p l) = true) (h5 : travelR p (placesF p v l) = true) : checksF p v l = 0 := by
  unfold checksF; simp only [h, h1, h2, h4, h5, not_true_eq_false, if_false, if_neg h3]
end
theorem job_drop {p : PB} {x : Vis} {d n : Int} (j : JobOk d n (gt p.jobs x.item)) : ((dropV p x).length : Int) = d := j.drop.1
theorem job_pick {p : PB} {x : Vis} {d n : Int} (j : JobOk d n (gt p.jobs x.item)) : ((pickV p x).length : Int) = d := j.pick.1
theorem ship_am {p : PB} {x : Vis} {d n : Int} (j : ShipOk d n (gt p.ships x.item)) : ((amV p x).length : Int) = d := j.am.1
def stQ (p : PB) (x : Vis) (late : Bool) (a : List Int) : List Int :=
  if isStop p x = true then (if x.kind = 1 then (if late = true then addL a (dropV p x) else addL a (pickV p x)) else if x.kind = 2 ∧ ¬ late = true then addL a (amV p x) else if x.kind = 3 ∧ ¬ late = true then subL a (amV p x) else a) else a
def rlR (p : PB) (k : Int) : List Vis → Int → List Int → List Int
  | [], i, a => a
  | x :: r, i, a => rlR p k r (i + 1) (stQ p x (decide (i ≥ k)) a)
theorem rlR_cons {p : PB} {k i : Int} {x : Vis} {r : List Vis} {a : List Int} : rlR p k (x :: r) i a = rlR p k r (i + 1) (stQ p x (decide (i ≥ k)) a) := rfl
def ent (p : PB) (x : Vis) (late : Bool) (d : Int) : Int :=
  if isStop p x = true then (if x.kind = 1 then (if late = true then gt (dropV p x) d else gt (pickV p x) d) else if x.kind = 2 then (if late = true then 0 else gt (amV p x) d) else if x.kind = 3 then (if late = true then 0 else - gt (amV p x) d) else 0) else 0
theorem stQ_len {p : PB} (L : LawP p) {x : Vis} {late : Bool} {a : List Int} (h : (a.length : Int) = p.dims) : ((stQ p x late a).length : Int) = p.dims := by
  unfold stQ
  split
  · rename_i h1
    split
    · rename_i h2; have i := is_i1 h1 h2; have j := L.job _ i.1 i.2
      split
      · rw [addL_len]; have := job_drop j; omega
      · rw [addL_len]; have := job_pick j; omega
    · split
      · rename_i h2; have i := is_i2 h1 (.inl h2.1); have j := L.ship _ i.1 i.2; rw [addL_len]; have := ship_am j; omega
      · split
        · rename_i h2; have i := is_i2 h1 (.inr h2.1); have j := L.ship _ i.1 i.2; rw [subL_len]; have := ship_am j; omega
        · exact h
  · exact h
theorem stQ_gt {p : PB} (L : LawP p) {x : Vis} {late : Bool} {a : List Int} (h : (a.length : Int) = p.dims) (d : Int) : gt (stQ p x late a) d = gt a d + ent p x late d := by
  unfold stQ ent
  by_cases h1 : isStop p x = true
  · rw [if_pos h1, if_pos h1]
    by_cases k1 : x.kind = 1
    · have i := is_i1 h1 k1; have j := L.job _ i.1 i.2
      rw [if_pos k1, if_pos k1]
      cases late with
      | true => rw [if_pos rfl, if_pos rfl, gt_add (by have := job_drop j; omega)]
      | false => rw [if_neg (by decide), if_neg (by decide), gt_add (by have := job_pick j; omega)]
    · rw [if_neg k1, if_neg k1]
      by_cases k2 : x.kind = 2
      · have i := is_i2 h1 (.inl k2); have j := L.ship _ i.1 i.2
        rw [if_pos k2]
        cases late with
        | true => rw [if_neg (by simp), if_neg (by simp), if_pos rfl]; omega
        | false => rw [if_pos ⟨k2, by decide⟩, if_neg (by decide), gt_add (by have := ship_am j; omega)]
      · rw [if_neg (by simp [k2]), if_neg k2]
        by_cases k3 : x.kind = 3
        · have i := is_i2 h1 (.inr k3); have j := L.ship _ i.1 i.2
          rw [if_pos k3]
          cases late with
          | true => rw [if_neg (by simp), if_pos rfl]; omega
          | false => rw [if_pos ⟨k3, by decide⟩, if_neg (by decide), gt_sub (by have := ship_am j; omega)]; omega
        · rw [if_neg (by simp [k3]), if_neg k3]; omega
  · rw [if_neg h1, if_neg h1]; omega
def sumQ (p : PB) (k d : Int) : List Vis → Int → Int
  | [], i => 0
  | x :: r, i => ent p x (decide (i ≥ k)) d + sumQ p k d r (i + 1)
theorem rlR_gt {p : PB} (L : LawP p) {k d : Int} : ∀ {l : List Vis} {i : Int} {a : List Int}, (a.length : Int) = p.dims → gt (rlR p k l i a) d = gt a d + sumQ p k d l i ∧ ((rlR p k l i a).length : Int) = p.dims
  | [], i, a, h => ⟨by simp [rlR, sumQ], h⟩
  | x :: r, i, a, h => by
    rw [rlR_cons, sumQ]
    have ih := rlR_gt L (k := k) (d := d) (l := r) (i := i + 1) (stQ_len L (x := x) (late := decide (i ≥ k)) h)
    rw [stQ_gt L h] at ih
    exact ⟨by rw [ih.1]; omega, ih.2⟩
theorem load0R_gt {p : PB} (L : LawP p) {k d : Int} : ∀ {l : List Vis} {i : Int} {a : List Int}, (a.length : Int) = p.dims → k ≤ i → gt (load0R p l a) d = gt a d + sumQ p k d l i
  | [], i, a, h, hk => by simp [load0R, sumQ]
  | x :: r, i, a, h, hk => by
    rw [load0R_cons, sumQ, decide_eq_true (show i ≥ k by omega)]
    unfold ent
    by_cases h1 : isStop p x = true
    · rw [if_pos h1]
      by_cases k1 : x.kind = 1
      · have ij := is_i1 h1 k1; have j := L.job _ ij.1 ij.2
        rw [if_pos ⟨h1, k1⟩, if_pos k1, if_pos rfl, load0R_gt L (k := k) (i := i + 1) (by rw [addL_len]; have := job_drop j; omega) (by omega), gt_add (by have := job_drop j; omega)]; omega
      · rw [if_neg (fun h => k1 h.2), if_neg k1, load0R_gt L (k := k) (i := i + 1) h (by omega)]
        split
        · rw [if_pos rfl]; omega
        · split
          · rw [if_pos rfl]; omega
          · omega
    · rw [if_neg (fun h => h1 h.1), if_neg h1, load0R_gt L (k := k) (i := i + 1) h (by omega)]; omega
theorem loadSt_gt {p : PB} (L : LawP p) {x : Vis} {a : List Int} (h : (a.length : Int) = p.dims) (d : Int) : gt (loadSt p x a) d = gt a d + ent p x false d - ent p x true d := by
  unfold loadSt ent
  by_cases h1 : isStop p x = true
  · rw [if_pos h1, if_pos h1, if_pos h1]
    by_cases k1 : x.kind = 1
    · have i := is_i1 h1 k1; have j := L.job _ i.1 i.2
      rw [if_pos k1, if_pos k1, if_pos k1, if_neg (by decide), if_pos rfl, gt_add (by rw [subL_len]; have := job_drop j; have := job_pick j; omega), gt_sub (by have := job_drop j; omega)]; omega
    · rw [if_neg k1, if_neg k1, if_neg k1]
      by_cases k2 : x.kind = 2
      · have i := is_i2 h1 (.inl k2); have j := L.ship _ i.1 i.2
        rw [if_pos k2, if_pos k2, if_pos k2, if_neg (by decide), if_pos rfl, gt_add (by have := ship_am j; omega)]; omega
      · rw [if_neg k2, if_neg k2, if_neg k2]
        by_cases k3 : x.kind = 3
        · have i := is_i2 h1 (.inr k3); have j := L.ship _ i.1 i.2
          rw [if_pos k3, if_pos k3, if_pos k3, if_neg (by decide), if_pos rfl, gt_sub (by have := ship_am j; omega)]; omega
        · rw [if_neg k3, if_neg k3, if_neg k3]; omega
  · rw [if_neg h1, if_neg h1, if_neg h1]; omega
theorem sumQ_next {p : PB} {k d : Int} : ∀ {l : List Vis} {i : Int}, i ≤ k → k < i + l.length → sumQ p (k + 1) d l i = sumQ p k d l i + ent p (gt l (k - i)) false d - ent p (gt l (k - i)) true d
  | [], i, h0, h1 => by simp at h1; omega
  | x :: r, i, h0, h1 => by
    have far : ∀ {r : List Vis} {i : Int}, k < i → sumQ p (k + 1) d r i = sumQ p k d r i := fun {r} => by
      induction r with
      | nil => intro i h; rfl
      | cons y r ih => intro i h; rw [sumQ, sumQ, ih (by omega), decide_eq_true (show i ≥ k + 1 by omega), decide_eq_true (show i ≥ k by omega)]
    rw [sumQ, sumQ]
    by_cases hi : i = k
    · subst hi
      rw [far (by omega), decide_eq_false (show ¬ i ≥ i + 1 by omega), decide_eq_true (show i ≥ i by omega), show i - i = 0 from by omega]
      show ent p x false d + _ = _ + ent p x false d - ent p x true d
      omega
    · rw [sumQ_next (by omega) (by rw [List.length_cons] at h1; omega), decide_eq_false (show ¬ i ≥ k + 1 by omega), decide_eq_false (show ¬ i ≥ k by omega)]
      have e : gt (x :: r) (k - i) = gt r (k - (i + 1)) := by
        have := gt_cons1 (x := x) (X := r) (i := k - (i + 1)) (by omega); rwa [show k - (i + 1) + 1 = k - i from by omega] at this
      rw [e]; omega
theorem loadsR_at {p : PB} : ∀ {l : List Vis} {a : List Int} {k : Int}, 0 ≤ k → k < (l.length : Int) → gt (a :: loadsR p l a) (k + 1) = loadSt p (gt l k) (gt (a :: loadsR p l a) k)
  | [], a, k, h0, h1 => by simp at h1; omega
  | x :: r, a, k, h0, h1 => by
    rw [gt_cons1 h0, loadsR_cons]
    by_cases hk : k = 0
    · subst hk; rfl
    · have ih := loadsR_at (p := p) (l := r) (a := loadSt p x a) (k := k - 1) (by omega) (by rw [List.length_cons] at h1; omega)
      rw [show k - 1 + 1 = k from by omega] at ih
      rw [ih]
      have e1 : gt (x :: r) k = gt r (k - 1) := by
        have := gt_cons1 (x := x) (X := r) (i := k - 1) (by omega); rwa [show k - 1 + 1 = k from by omega] at this
      have e2 : gt (a :: (loadSt p x a :: loadsR p r (loadSt p x a))) k = gt (loadSt p x a :: loadsR p r (loadSt p x a)) (k - 1) := by
        have := gt_cons1 (x := a) (X := loadSt p x a :: loadsR p r (loadSt p x a)) (i := k - 1) (by omega); rwa [show k - 1 + 1 = k from by omega] at this
      rw [e1, e2]
theorem ext_gt {a b : List Int} (hl : a.length = b.length) (h : ∀ d : Int, gt a d = gt b d) : a = b := by
  refine List.ext_getElem hl fun i h1 h2 => ?_
  have := h (i : Int)
  simp [gt, List.getD_eq_getElem?_getD, h1, h2] at this
  exact this
def loadQ (p : PB) (l : List Vis) (k : Int) : List Int := rlR p k l 0 (List.replicate p.dims.toNat 0)
theorem zeros_len {p : PB} (L : LawP p) : ((List.replicate p.dims.toNat (0 : Int)).length : Int) = p.dims := by have := L.dims; rw [List.length_replicate]; omega
theorem loadQ_eq {p : PB} (L : LawP p) {l : List Vis} : ∀ (n : Nat), n ≤ l.length → gt (loadsF p l) (n : Int) = loadQ p l n
  | 0, _ => by
    have h1 := (rlR_gt L (k := ((0 : Nat) : Int)) (d := 0) (l := l) (i := 0) (zeros_len L)).2
    have h2 := (load0_ok L (l := l)).1
    refine ext_gt (show (load0 p l).length = (rlR p ((0 : Nat) : Int) l 0 _).length by omega) fun d => ?_
    have e : gt (loadsF p l) ((0 : Nat) : Int) = load0 p l := rfl
    rw [e]
    have h3 := (rlR_gt L (k := 0) (d := d) (l := l) (i := 0) (zeros_len L)).1
    have h4 := load0R_gt L (k := 0) (d := d) (l := l) (i := 0) (zeros_len L) (Int.le_refl _)
    unfold loadQ load0
    rw [h4]; exact h3.symm
  | n + 1, hn => by
    have ih := loadQ_eq L (l := l) n (by omega)
    have e : gt (loadsF p l) ((n + 1 : Nat) : Int) = loadSt p (gt l (n : Int)) (gt (loadsF p l) (n : Int)) := by
      have := loadsR_at (p := p) (l := l) (a := load0 p l) (k := (n : Int)) (by omega) (by omega)
      rw [show ((n + 1 : Nat) : Int) = (n : Int) + 1 from by omega]; exact this
    have hl : ((loadQ p l (n : Int)).length : Int) = p.dims := (rlR_gt L (k := (n : Int)) (d := 0) (l := l) (i := 0) (zeros_len L)).2
    have hl2 : ((loadQ p l ((n + 1 : Nat) : Int)).length : Int) = p.dims := (rlR_gt L (k := ((n + 1 : Nat) : Int)) (d := 0) (l := l) (i := 0) (zeros_len L)).2
    rw [e, ih]
    refine ext_gt ?_ fun d => ?_
    · have h5 : lOk p 0 (List.replicate p.dims.toNat 0) := ⟨zeros_len L, bdd_zero _⟩
      have h6 : ((loadSt p (gt l (n : Int)) (loadQ p l (n : Int))).length : Int) = p.dims := by
        have hb : ∃ m, bdd m (loadQ p l (n : Int)) := by
          have hex : ∀ a : List Int, ∃ m, bdd m a := fun a => by
            induction a with
            | nil => exact ⟨0, fun i => by unfold gt; simp⟩
            | cons x a ih =>
              obtain ⟨m, hm⟩ := ih
              refine ⟨(m.natAbs : Int) + x.natAbs, fun i => ?_⟩
              by_cases hi : i ≤ 0
              · have : gt (x :: a) i = x := by unfold gt; rw [show i.toNat = 0 from by omega]; rfl
                rw [this]; omega
              · have e3 := gt_cons1 (x := x) (X := a) (i := i - 1) (by omega)
                rw [show i - 1 + 1 = i from by omega] at e3
                rw [e3]; have := hm (i - 1); omega
          exact hex _
        obtain ⟨m, hm⟩ := hb
        exact (lOk_St (x := gt l (n : Int)) L (m := m) (k := m + 2000000) ⟨hl, hm⟩ (Int.le_refl _)).1
      omega
    · rw [loadSt_gt L hl]
      have h7 := (rlR_gt L (k := (n : Int)) (d := d) (l := l) (i := 0) (zeros_len L)).1
      have h8 := (rlR_gt L (k := (n : Int) + 1) (d := d) (l := l) (i := 0) (zeros_len L)).1
      have h9 := sumQ_next (p := p) (k := (n : Int)) (d := d) (l := l) (i := 0) (by omega) (by omega)
      rw [show (n : Int) - 0 = n from by omega] at h9
      unfold loadQ
      rw [show ((n + 1 : Nat) : Int) = (n : Int) + 1 from by omega, h7, h8, h9]; omega
theorem loadQ_at {p : PB} (L : LawP p) {l : List Vis} {k : Int} (h0 : 0 ≤ k) (h1 : k ≤ (l.length : Int)) : loadQ p l k = gt (loadsF p l) k := by
  have := loadQ_eq L (l := l) k.toNat (by omega)
  rw [show ((k.toNat : Nat) : Int) = k from by omega] at this; exact this.symm
theorem mix_gt {a s X : List Int} {d : Int} (hq : X = s.take d.toNat ++ a.drop d.toNat) (hl : s.length = a.length) (h0 : 0 ≤ d) (h1 : d < (a.length : Int)) : gt X d = gt a d := by
  have hs : (s.take d.toNat).length = d.toNat := by simp; omega
  rw [hq]; unfold gt
  rw [List.getD_eq_getElem?_getD, List.getD_eq_getElem?_getD, List.getElem?_append_right (by omega), hs, Nat.sub_self, List.getElem?_drop, Nat.add_zero]
theorem mix_step {a s X : List Int} {d z : Int} (hq : X = s.take d.toNat ++ a.drop d.toNat) (hl : s.length = a.length) (h0 : 0 ≤ d) (h1 : d < (a.length : Int)) (hz : gt s d = z) : X.set d.toNat z = s.take (d + 1).toNat ++ a.drop (d + 1).toNat := by
  have hs : (s.take d.toNat).length = d.toNat := by simp; omega
  rw [hq, List.set_append_right _ _ (by omega), hs, Nat.sub_self, List.drop_eq_getElem_cons (i := d.toNat) (by omega), List.set_cons_zero, take_gt h0 (by omega), hz, show (d + 1).toNat = d.toNat + 1 from by omega, List.append_assoc]; rfl
theorem mix_same {a s X : List Int} {d : Int} (hq : X = s.take d.toNat ++ a.drop d.toNat) (hl : s.length = a.length) (h0 : 0 ≤ d) (h1 : d < (a.length : Int)) (hz : gt s d = gt a d) : X = s.take (d + 1).toNat ++ a.drop (d + 1).toNat := by
  rw [hq, drop_gt h0 h1, take_gt h0 (by omega), hz, List.append_assoc]; rfl
theorem mix_end {a s X : List Int} {d : Int} (hq : X = s.take d.toNat ++ a.drop d.toNat) (hl : s.length = a.length) (h1 : ¬ d < (a.length : Int)) : X = s := by
  rw [hq, List.take_of_length_le (by omega), List.drop_of_length_le (by omega), List.append_nil]
def travelQ (p : PB) (v : VH) : List Vis → Int → Bool
  | [], a => if cellF p.tn p.time a v.en < 0 ∨ cellF p.dn p.dist a v.en < 0 then false else true
  | x :: r, a => if cellF p.tn p.time a (nextPl p a x) < 0 ∨ cellF p.dn p.dist a (nextPl p a x) < 0 then false else travelQ p v r (nextPl p a x)
theorem travelQ_nil {p : PB} {v : VH} {a : Int} : travelQ p v [] a = if cellF p.tn p.time a v.en < 0 ∨ cellF p.dn p.dist a v.en < 0 then false else true := rfl
theorem travelQ_cons {p : PB} {v : VH} {x : Vis} {r : List Vis} {a : Int} : travelQ p v (x :: r) a = if cellF p.tn p.time a (nextPl p a x) < 0 ∨ cellF p.dn p.dist a (nextPl p a x) < 0 then false else travelQ p v r (nextPl p a x) := rfl
theorem travelQ_eq {p : PB} {v : VH} : ∀ {l : List Vis} {a : Int}, travelQ p v l a = travelR p (a :: placesR p l a ++ [v.en])
  | [], a => by
    rw [travelQ_nil]
    show _ = travelR p [a, v.en]
    rw [travelR_cons]; rfl
  | x :: r, a => by
    rw [travelQ_cons, placesR_cons]
    show _ = travelR p (a :: nextPl p a x :: (placesR p r (nextPl p a x) ++ [v.en]))
    rw [travelR_cons, travelQ_eq]; rfl
def blkR (i : Int) : Int → List Int → List Vis
  | k, [] => []
  | k, y :: r => if y = i then ⟨4, k⟩ :: blkR i (k + 1) r else blkR i (k + 1) r
theorem blkR_cons {i k y : Int} {r : List Int} : blkR i k (y :: r) = if y = i then ⟨4, k⟩ :: blkR i (k + 1) r else blkR i (k + 1) r := rfl
def setQ (a : List Int) : List Vis → Int → List Vis
  | [], i => blkR i 0 a
  | x :: l, i => blkR i 0 a ++ x :: setQ a l (i + 1)
theorem setQ_eq {m : Int} {a : List Int} (ha : AtOk m a) {l : List Vis} : setQ a l 0 = setR l 0 0 a := by
  have none_ : ∀ {i : Int} {l : List Vis} {k : Int}, setQ [] l i = setR l i k [] := fun {i l} => by
    induction l generalizing i with
    | nil => intro k; rfl
    | cons x l ih => intro k; simp only [setQ, setR, blkR, takeB, List.nil_append, cntB, leftB, Int.add_zero]; rw [← ih]
  obtain ⟨h1, h2, h3⟩ := ha
  match a, h1, h2, h3 with
  | [], _, _, _ => exact none_
  | [y], _, h2, _ =>
    have hy : 0 ≤ y := (h2 0 (by decide) (by simp)).1
    have late : ∀ {l : List Vis} {i k : Int}, y < i → setQ [y] l i = setR l i k [] := fun {l} => by
      induction l with
      | nil => intro i k h; simp only [setQ, setR, blkR, takeB]; rw [if_neg (by omega)]
      | cons x l ih => intro i k h; simp only [setQ, setR, blkR, takeB, List.nil_append, cntB, leftB, Int.add_zero]; rw [if_neg (by omega), ← ih (by omega)]; rfl
    have early : ∀ {l : List Vis} {i : Int}, i ≤ y → setQ [y] l i = setR l i 0 [y] := fun {l} => by
      induction l with
      | nil =>
        intro i h
        simp only [setQ, setR, blkR, takeB]
        by_cases hi : y = i
        · rw [if_pos hi, if_pos (by omega)]
        · rw [if_neg hi, if_neg (by omega)]
      | cons x l ih =>
        intro i h
        simp only [setQ, setR, blkR, takeB, cntB, leftB]
        by_cases hi : y = i
        · rw [if_pos hi, if_pos (by omega), if_pos (by omega), if_pos (by omega), late (by omega)]
        · rw [if_neg hi, if_neg (by omega), if_neg (by omega), if_neg (by omega), ih (by omega)]; rfl
    exact early hy
  | [y, z], _, h2, h3 =>
    have hy : 0 ≤ y := (h2 0 (by decide) (by simp)).1
    have hyz : y ≤ z := h3 rfl
    have late : ∀ {l : List Vis} {i k : Int}, z < i → setQ [y, z] l i = setR l i k [] := fun {l} => by
      induction l with
      | nil => intro i k h; simp only [setQ, setR, blkR, takeB]; rw [if_neg (by omega), if_neg (by omega)]
      | cons x l ih => intro i k h; simp only [setQ, setR, blkR, takeB, List.nil_append, cntB, leftB, Int.add_zero]; rw [if_neg (by omega), if_neg (by omega), ← ih (by omega)]; rfl
    have mid : ∀ {l : List Vis} {i : Int}, y < i → i ≤ z → setQ [y, z] l i = setR l i 1 [z] := fun {l} => by
      induction l with
      | nil =>
        intro i h h'
        simp only [setQ, setR, blkR, takeB]
        rw [if_neg (show ¬ y = i by omega)]
        by_cases hi : z = i
        · rw [if_pos hi, if_pos (by omega)]; rfl
        · rw [if_neg hi, if_neg (by omega)]
      | cons x l ih =>
        intro i h h'
        simp only [setQ, setR, blkR, takeB, cntB, leftB]
        rw [if_neg (show ¬ y = i by omega)]
        by_cases hi : z = i
        · rw [if_pos hi, if_pos (by omega), if_pos (by omega), if_pos (by omega), late (by omega)]; rfl
        · rw [if_neg hi, if_neg (by omega), if_neg (by omega), if_neg (by omega), ih (by omega) (by omega)]; rfl
    have early : ∀ {l : List Vis} {i : Int}, i ≤ y → setQ [y, z] l i = setR l i 0 [y, z] := fun {l} => by
      induction l with
      | nil =>
        intro i h
        simp only [setQ, setR, blkR, takeB]
        by_cases hi : y = i
        · rw [if_pos hi, if_pos (show y ≤ i by omega)]
          by_cases hz : z = i
          · rw [if_pos hz, if_pos (by omega)]
          · rw [if_neg hz, if_neg (by omega)]
        · rw [if_neg hi, if_neg (show ¬ z = i by omega), if_neg (show ¬ y ≤ i by omega)]
      | cons x l ih =>
        intro i h
        simp only [setQ, setR, blkR, takeB, cntB, leftB]
        by_cases hi : y = i
        · rw [if_pos hi]
          by_cases hz : z = i
          · simp only [if_pos hz, if_pos (show y ≤ i by omega), if_pos (show z ≤ i by omega)]; rw [late (by omega)]
          · simp only [if_neg hz, if_pos (show y ≤ i by omega), if_neg (show ¬ z ≤ i by omega)]; rw [mid (by omega) (by omega)]; rfl
        · rw [if_neg hi, if_neg (show ¬ z = i by omega)]
          simp only [if_neg (show ¬ y ≤ i by omega)]
          rw [ih (by omega)]; rfl
    exact early hy
  | _ :: _ :: _ :: _, h1, _, _ => simp at h1
def restC (n m i : Int) : List (List Int) := if n = 1 then (up i m).map (fun x => [x]) else (up i m).flatMap (fun x => (up x m).map (fun y => [x, y]))
theorem restC_all {n : Nat} {m : Int} (h : n = 1 ∨ n = 2) (hm : 0 ≤ m) : candsA m (List.replicate n 0) = restC n m 0 := by
  rcases h with rfl | rfl
  · show candsA m [0] = _
    simp [candsA, restC]
  · show candsA m [0, 0] = _
    unfold restC
    rw [if_neg (by decide)]
    conv => rhs; rw [up_cons hm, List.flatMap_cons]
    rfl
theorem restC_1 {m i : Int} (h : i ≤ m) : restC 1 m i = [i] :: restC 1 m (i + 1) := by unfold restC; rw [if_pos rfl, if_pos rfl, up_cons h]; rfl
theorem restC_2 {m i : Int} (h : i ≤ m) : restC 2 m i = (up i m).map (fun y => [i, y]) ++ restC 2 m (i + 1) := by
  unfold restC; rw [if_neg (by decide), if_neg (by decide)]
  conv => lhs; rw [up_cons h, List.flatMap_cons]
theorem restC_end {n m i : Int} (h : m < i) : restC n m i = [] := by unfold restC; rw [up_nil h]; split <;> rfl
def StartI (l : List WN) (t : Int) (i best : Int) (found : Bool) : Prop :=
  (found = false ∧ best = 0 ∧ startF (l.drop i.toNat) t = startF l t) ∨ (found = true ∧ startF l t = (best, true) ∧ ∀ j : Int, i ≤ j → j < (l.length : Int) → best < (gt l j).lo)
theorem start_late {l : List WN} {t i best : Int} {f : Bool} (h : StartI l t i best f) (h0 : 0 ≤ i) (h1 : i < (l.length : Int)) (ht : t > (gt l i).hi) : StartI l t (i + 1) best f := by
  rcases h with ⟨a, b, c⟩ | ⟨a, b, c⟩
  · refine .inl ⟨a, b, ?_⟩
    rw [drop_gt h0 h1, startF_cons, if_neg (by omega)] at c; exact c
  · exact .inr ⟨a, b, fun j q0 q1 => c j (by omega) q1⟩
theorem wins_lt {l : List WN} (W : WinsOk l) {i : Int} (h0 : 0 ≤ i) : ∀ (n : Nat) {j : Int}, j = i + 1 + n → j < (l.length : Int) → (gt l i).hi < (gt l j).lo
  | 0, j, hj, h => by have := W.next j (by omega) h; rw [show j - 1 = i from by omega] at this; exact this
  | n + 1, j, hj, h => by
    have ih := wins_lt W h0 n (j := j - 1) (by omega) (by omega)
    have h1 := W.next j (by omega) h
    have h2 := W.each (j - 1) (by omega) (by omega)
    omega
theorem start_first {l : List WN} (W : WinsOk l) {t i best : Int} {x : Int} (h : StartI l t i best false) (h0 : 0 ≤ i) (h1 : i < (l.length : Int)) (ht : ¬ t > (gt l i).hi) (hx : x = max t (gt l i).lo) : StartI l t (i + 1) x true := by
  rcases h with ⟨a, b, c⟩ | ⟨a, _⟩
  · refine .inr ⟨rfl, ?_, fun j q0 q1 => ?_⟩
    · rw [drop_gt h0 h1, startF_cons, if_pos (by omega)] at c; rw [← c, hx]
    · have := wins_lt W h0 (j - (i + 1)).toNat (j := j) (by omega) q1
      have h2 := W.each i h0 h1
      omega
  · cases a
theorem start_more {l : List WN} {t i best x : Int} (h : StartI l t i best true) (h1 : i < (l.length : Int)) (hx : x ≥ (gt l i).lo) : ¬ x < best ∧ StartI l t (i + 1) best true := by
  rcases h with ⟨a, _⟩ | ⟨a, b, c⟩
  · cases a
  · have := c i (Int.le_refl _) h1
    exact ⟨by omega, .inr ⟨a, b, fun j q0 q1 => c j (by omega) q1⟩⟩
theorem start_fin {l : List WN} {t i best : Int} {f : Bool} (h : StartI l t i best f) (h1 : ¬ i < (l.length : Int)) : (best, f) = startF l t := by
  rcases h with ⟨a, b, c⟩ | ⟨a, b, c⟩
  · rw [drop_end h1] at c; rw [a, b, ← c]; rfl
  · rw [a, b]
end Go.SX
