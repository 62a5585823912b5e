/- Plans that are made: rows of rows of rows, owned. -/
import Derived.Test.YthmkelkefmfmgaaSxRead
set_option linter.unusedVariables false
set_option linter.unusedSimpArgs false
set_option linter.unusedSectionVars false
namespace Go.SX
open Go Go.RowKit
/-- A resource for each of a list. -/
def big {α : Type} (f : α → Res) (l : List α) : Res where
  foot := l.flatMap (fun x => (f x).foot)
  holds w := ∀ x ∈ l, (f x).holds w
  stable w w' h hw x hx := (f x).stable w w' (fun b hb => h b (List.mem_flatMap.2 ⟨x, hx, hb⟩)) (hw x hx)
  lt w hw b hb := by
    obtain ⟨x, hx, hb⟩ := List.mem_flatMap.1 hb
    exact (f x).lt w (hw x hx) b hb
def both (a b : Res) : Res where
  foot := a.foot ++ b.foot
  holds w := a.holds w ∧ b.holds w
  stable w w' h hw := ⟨a.stable w w' (fun c hc => h c (List.mem_append_left _ hc)) hw.1, b.stable w w' (fun c hc => h c (List.mem_append_right _ hc)) hw.2⟩
  lt w hw b hb := by
    rcases List.mem_append.1 hb with hb | hb
    · exact a.lt w hw.1 _ hb
    · exact (Res.lt _ w hw.2 _ hb)
def rowB {α : Type} (E : Enc α) (e : Nat) (v : Value) (l : List α) : Res where
  foot := (rw_ E e v l).foot
  holds w := (rw_ E e v l).holds w ∧ l.length ≤ 140737488355328
  stable w w' h hw := ⟨(rw_ E e v l).stable w w' h hw.1, hw.2⟩
  lt w hw b hb := (rw_ E e v l).lt w hw.1 b hb
def resS (e : Nat) (s : ST) : Res := rowB eZ e (.slice s.lA s.load.length s.lc) s.load
def nestS (e : Nat) (l : List ST) : Res := big (resS e) l
def resP (e1 e2 : Nat) (p : PV) : Res := both (rowB eST e1 (.slice p.sA p.steps.length p.sc) p.steps) (nestS e2 p.steps)
def nestP (e1 e2 : Nat) (l : List PV) : Res := big (resP e1 e2) l
theorem big_foot {α : Type} {f : α → Res} {l : List α} {x : α} (h : x ∈ l) : ∀ b ∈ (f x).foot, b ∈ (big f l).foot := fun b hb => List.mem_flatMap.2 ⟨x, h, hb⟩
theorem NS.of {e : Nat} {l : List ST} {S : Nat → Prop} {w : World} (h : (nestS e l).holds w) (hS : ∀ b ∈ (nestS e l).foot, S b) : NS S w l := fun s hs =>
  Fr.of_row (h s hs).1 (fun b hb => hS b (big_foot (f := resS e) hs b hb)) (h s hs).2
theorem NP.of {e1 e2 : Nat} {l : List PV} {S : Nat → Prop} {w : World} (h : (nestP e1 e2 l).holds w) (hS : ∀ b ∈ (nestP e1 e2 l).foot, S b) : NP S w l := fun p hp =>
  ⟨Fr.of_row (h p hp).1.1 (fun b hb => hS b (big_foot (f := resP e1 e2) hp b (List.mem_append_left _ hb))) (h p hp).1.2,
   NS.of (h p hp).2 (fun b hb => hS b (big_foot (f := resP e1 e2) hp b (List.mem_append_right _ hb)))⟩
section
variable {V : Env} {P : Program} {Q : Exit → Act → World → Prop} {ops : Array Oper} {N : Nat} {L : List (Nat × Value)} {H R : List Res} {S : Nat → Prop} {wf : World}
theorem NS.lent {e : Nat} {l : List ST} {wf1 : World} (hR : ∀ r ∈ R, r.holds wf1) (i : Nat) (hi : R[i]? = some (nestS e l)) : NS (fun b => S b ∨ b ∈ feet R) wf1 l :=
  NS.of (hR _ (List.mem_of_getElem? hi)) (fun b hb => .inr (feet_of i hi hb))
theorem NP.lent {e1 e2 : Nat} {l : List PV} {wf1 : World} (hR : ∀ r ∈ R, r.holds wf1) (i : Nat) (hi : R[i]? = some (nestP e1 e2 l)) : NP (fun b => S b ∨ b ∈ feet R) wf1 l :=
  NP.of (hR _ (List.mem_of_getElem? hi)) (fun b hb => .inr (feet_of i hi hb))
theorem NS.lend {e : Nat} {l : List ST} {C0 R1 : List Res} {w : World} (hw : WW V S wf (C0 ++ (R1 ++ R)) w) (i : Nat) (hi : R1[i]? = some (nestS e l)) : NS (fun b => S b ∨ b ∈ feet R1) w l :=
  NS.of (hw.has _ (List.mem_append_right _ (List.mem_append_left _ (List.mem_of_getElem? hi)))) (fun b hb => .inr (feet_of i hi hb))
theorem NP.lend {e1 e2 : Nat} {l : List PV} {C0 R1 : List Res} {w : World} (hw : WW V S wf (C0 ++ (R1 ++ R)) w) (i : Nat) (hi : R1[i]? = some (nestP e1 e2 l)) : NP (fun b => S b ∨ b ∈ feet R1) w l :=
  NP.of (hw.has _ (List.mem_append_right _ (List.mem_append_left _ (List.mem_of_getElem? hi)))) (fun b hb => .inr (feet_of i hi hb))
/-- One resource for others that hold just where it does. -/
theorem WW.swap {A : List Res} {r : Res} {w : World} (h : WW V S wf (A ++ R) w) (hf : r.foot = feet A) (hh : (∀ x ∈ A, x.holds w) → r.holds w) : WW V S wf (r :: R) w := by
  have e : feet (r :: R) = feet (A ++ R) := by rw [feet_cons, hf, feet_append]
  exact {
    has := fun x hx => by
      rcases List.mem_cons.1 hx with rfl | hx
      · exact hh (fun y hy => h.has y (List.mem_append_left _ hy))
      · exact h.has x (List.mem_append_right _ hx)
    nd := e ▸ h.nd
    sep := fun b hb => h.sep b (e ▸ hb)
    fz := h.fz, new := h.new, fr := h.fr, sz := h.sz, os := h.os, tape := h.tape, output := h.output }
theorem SC.nestS0 (e : Nat) {c : Code} (h : SC V P Q N c ⟨L, nestS e [] :: H, S, wf⟩) : SC V P Q N c ⟨L, H, S, wf⟩ := fun a w hs hw => h a w hs (WW.swap (A := []) hw rfl (fun _ x hx => by cases hx))
theorem SC.nestP0 (e1 e2 : Nat) {c : Code} (h : SC V P Q N c ⟨L, nestP e1 e2 [] :: H, S, wf⟩) : SC V P Q N c ⟨L, H, S, wf⟩ := fun a w hs hw => h a w hs (WW.swap (A := []) hw rfl (fun _ x hx => by cases hx))
theorem SC.packS {e : Nat} {l : List ST} (s : ST) {c : Code} (hp : PickL H [nestS e l, rw_ eZ e (.slice s.lA s.load.length s.lc) s.load] R) (hb : s.load.length ≤ 140737488355328) (h : SC V P Q N c ⟨L, nestS e (l ++ [s]) :: R, S, wf⟩) : SC V P Q N c ⟨L, H, S, wf⟩ := fun a w hs hw =>
  h a w hs (WW.swap (A := [nestS e l, rw_ eZ e (.slice s.lA s.load.length s.lc) s.load]) (hw.perm hp.perm) (by simp [nestS, big, resS, rowB, feet, List.flatMap_append]) (fun hh x hx => by
    rcases List.mem_append.1 hx with hx | hx
    · exact hh _ (List.mem_cons_self ..) x hx
    · simp only [List.mem_singleton] at hx; subst hx; exact ⟨hh _ (by simp), hb⟩))
theorem SC.packP {e1 e2 : Nat} {l : List PV} (p : PV) {c : Code} (hp : PickL H [nestP e1 e2 l, rw_ eST e1 (.slice p.sA p.steps.length p.sc) p.steps, nestS e2 p.steps] R) (hb : p.steps.length ≤ 140737488355328) (h : SC V P Q N c ⟨L, nestP e1 e2 (l ++ [p]) :: R, S, wf⟩) : SC V P Q N c ⟨L, H, S, wf⟩ := fun a w hs hw =>
  h a w hs (WW.swap (A := [nestP e1 e2 l, rw_ eST e1 (.slice p.sA p.steps.length p.sc) p.steps, nestS e2 p.steps]) (hw.perm hp.perm) (by simp [nestP, big, resP, both, rowB, feet, List.flatMap_append]) (fun hh x hx => by
    rcases List.mem_append.1 hx with hx | hx
    · exact hh _ (List.mem_cons_self ..) x hx
    · simp only [List.mem_singleton] at hx; subst hx; exact ⟨⟨hh _ (by simp), hb⟩, hh (nestS e2 x.steps) (by simp)⟩))
end
/-! ### What is read -/
def wordI : List ByteArray → ByteArray → Int
  | [], _ => -1
  | x :: r, s => if x = s then 0 else if wordI r s = -1 then -1 else wordI r s + 1
theorem wordI_none : ∀ {l : List ByteArray} {s : ByteArray}, (∀ x ∈ l, x ≠ s) → wordI l s = -1
  | [], _, _ => rfl
  | x :: r, s, h => by
    have h1 := h x (List.mem_cons_self ..)
    have h2 := wordI_none (l := r) (s := s) (fun y hy => h y (List.mem_cons_of_mem _ hy))
    unfold wordI; rw [if_neg h1, if_pos h2]
theorem wordI_at : ∀ {l : List ByteArray} {s : ByteArray} (n : Nat), n < l.length → gt l n = s → (∀ x ∈ l.take n, x ≠ s) → wordI l s = n
  | [], _, _, h, _, _ => by simp at h
  | x :: r, s, 0, _, h, _ => by
    have h1 : x = s := h
    unfold wordI; rw [if_pos h1]; rfl
  | x :: r, s, n + 1, h0, h, h2 => by
    have h1 : x ≠ s := h2 x (by simp)
    have h3 := wordI_at (l := r) (s := s) n (by simpa using h0) (by simpa [gt] using h) (fun y hy => h2 y (by simp [hy]))
    unfold wordI; rw [if_neg h1, if_neg (by rw [h3]; omega), h3]; rfl
theorem word_of {a : List ByteArray} {s : ByteArray} {r : Int} (h : (r = -1 ∧ ∀ x ∈ a, x ≠ s) ∨ (0 ≤ r ∧ r < a.length ∧ gt a r = s ∧ ∀ x ∈ a.take r.toNat, x ≠ s)) : r = wordI a s := by
  rcases h with ⟨rfl, h⟩ | ⟨h0, h1, h2, h3⟩
  · exact (wordI_none h).symm
  · obtain ⟨n, rfl⟩ : ∃ n : Nat, r = n := ⟨r.toNat, by omega⟩
    exact (wordI_at n (by omega) h2 h3).symm
abbrev numT (l : List TV) (i k : Int) : Int := (gt l (kidT l i k)).v.num
abbrev ksT (l : List TV) (i : Int) : List Int := (gt l i).v.ks
def rdLoad (l : List TV) (i : Int) : List Int := (ksT l i).map (fun q => (gt l q).v.num)
def rdStep (l : List TV) (q : Int) : ST := ⟨wordI kindsL (gt l (kidT l q 0)).v.text + 1, numT l q 1, numT l q 2, numT l q 3, numT l q 4, numT l q 5, rdLoad l (kidT l q 6), numT l q 7, numT l q 8, none, 0⟩
def rdPlan (l : List TV) (q : Int) : PV := ⟨numT l q 0, (ksT l (kidT l q 6)).map (rdStep l), numT l q 2, numT l q 3, numT l q 4, numT l q 5, numT l q 1, none, 0⟩
def kidsOk (l : List TV) (i : Int) : Prop := (∀ k : Int, 0 ≤ k → k < (gt l i).v.ks.length → kidOk l i k) ∧ (gt l i).v.ks.length ≤ 100000
def firstOk (l : List TV) (i n : Int) : Prop := ∀ k : Int, 0 ≤ k → k < n → kidOk l i k
def stepOk (l : List TV) (q : Int) : Prop := firstOk l q 9 ∧ kidsOk l (kidT l q 6)
def planOk (l : List TV) (q : Int) : Prop := firstOk l q 7 ∧ kidsOk l (kidT l q 6) ∧ ∀ j : Int, 0 ≤ j → j < (gt l (kidT l q 6)).v.ks.length → stepOk l (kidT l (kidT l q 6) j)
theorem kidOk.rng {l : List TV} {i k : Int} {n : Nat} (h : kidOk l i k) (hi : 0 ≤ i ∧ i < (n : Int)) : 0 ≤ kidT l i k ∧ kidT l i k < (n : Int) := ⟨h.2.2.1, by have := h.2.2.2; omega⟩
theorem steps_read {l : List TV} {K : List Int} {j : Int} {Ls : List ST} {s : ST} (h : Ls.map sv = (K.take j.toNat).map (rdStep l)) (h0 : 0 ≤ j) (h1 : j < (K.length : Int)) (hs : sv s = rdStep l (gt K j)) : (Ls ++ [s]).map sv = (K.take (j + 1).toNat).map (rdStep l) := by
  rw [take_gt h0 h1, List.map_append, List.map_append, h]; simp [hs]
theorem load_next {l : List TV} {K Z : List Int} {j : Int} (h : Z = (K.take j.toNat).map (fun q => (gt l q).v.num)) (h0 : 0 ≤ j) (h1 : j < (K.length : Int)) : Z ++ [(gt l (gt K j)).v.num] = (K.take (j + 1).toNat).map (fun q => (gt l q).v.num) := by
  rw [take_gt h0 h1, List.map_append, h]; rfl
def rdTask (l : List TV) (q : Int) : TK := ⟨decide ((gt l (kidT l q 0)).v.text = ⟨#[115, 104, 105, 112, 109, 101, 110, 116]⟩), numT l q 1⟩
def wholeOk (l : List TV) (i : Int) : Prop := firstOk l i 5 ∧ (gt l (kidT l i 0)).v.text = ⟨#[111, 107]⟩ ∧ firstOk l (kidT l i 2) 8 ∧ (kidsOk l (kidT l i 3) ∧ ∀ j : Int, 0 ≤ j → j < (gt l (kidT l i 3)).v.ks.length → planOk l (kidT l (kidT l i 3) j)) ∧
  kidsOk l (kidT l i 4) ∧ ∀ j : Int, 0 ≤ j → j < (gt l (kidT l i 4)).v.ks.length → firstOk l (kidT l (kidT l i 4) j) 2
theorem ok_error : (⟨#[111, 107]⟩ : ByteArray).toList ≠ (⟨#[101, 114, 114, 111, 114]⟩ : ByteArray).toList := by decide +kernel
theorem bl_dec {s t : ByteArray} : (s.toList == t.toList) = decide (s = t) := by
  rw [Bool.eq_iff_iff]; simp only [beq_iff_eq, decide_eq_true_eq]
  exact ⟨bl_inj, fun h => by rw [h]⟩
theorem plans_read {l : List TV} {K : List Int} {j : Int} {Ls : List PV} {s : PV} (h : Ls.map pv = (K.take j.toNat).map (rdPlan l)) (h0 : 0 ≤ j) (h1 : j < (K.length : Int)) (hs : pv s = rdPlan l (gt K j)) : (Ls ++ [s]).map pv = (K.take (j + 1).toNat).map (rdPlan l) := by
  rw [take_gt h0 h1, List.map_append, List.map_append, h]; simp [hs]
theorem tasks_read {l : List TV} {K : List Int} {j : Int} {Ls : List TK} {s : TK} (h : Ls = (K.take j.toNat).map (rdTask l)) (h0 : 0 ≤ j) (h1 : j < (K.length : Int)) (hs : s = rdTask l (gt K j)) : Ls ++ [s] = (K.take (j + 1).toNat).map (rdTask l) := by
  rw [take_gt h0 h1, List.map_append, h, hs]; rfl
section
variable {V : Env} {P : Program} {Q : Exit → Act → World → Prop} {ops : Array Oper} {N fuel : Nat} {L L' : List (Nat × Value)} {H H' : List Res} {S : Nat → Prop} {wf : World} {st : St} {B : World → Prop} {cs : List (Nat × (World → Prop))} {listed : Array Bool}
theorem SQ.weak {Q : Act → World → Prop} (h : SQ V Q N ⟨L', H', S, wf⟩) (hL : ∀ k v, lkp L' k = some v → lkp L k = some v) (hw : ∀ w, WW V S wf H w → WW V S wf H' w) : SQ V Q N ⟨L, H, S, wf⟩ := fun a w hs hw' => h a w (hs.mono hL) (hw w hw')
/-- Whatever the order of a region: it goes on from one state, but for the number of a new block. -/
theorem SR.cut (F : Nat → List (Nat × Value) × List Res) (S0 : Nat → Prop) (wf0 : World) (h1 : ∀ b, SQ V (Q .normal) N ⟨(F b).1, (F b).2, S0, wf0⟩) (h2 : (∀ b, SQ V (Q .normal) N ⟨(F b).1, (F b).2, S0, wf0⟩) → SR V P Q ops N B cs fuel listed st) : SR V P Q ops N B cs fuel listed st := h2 h1
end
end Go.SX
