/- Trees of values: rows whose elements hold rows. -/
import Derived.Test.YthmkelkefmfmgaaSxByte
set_option linter.unusedVariables false
set_option linter.unusedSimpArgs false
set_option linter.unusedSectionVars false
namespace Go.SX
open Go Go.RowKit
def eZ : Enc Int := eI .i64
/-- A value of a tree. -/
structure TN where
  kind : Int
  truth : Bool
  num : Int
  text : ByteArray
  ns : List ByteArray
  ks : List Int
  deriving Inhabited, DecidableEq
/-- The same, with the places of its lists. -/
structure TV where
  v : TN
  nA : Option Addr
  nc : Nat
  kA : Option Addr
  kc : Nat
  deriving Inhabited
def eTV : Enc TV where
  sz := 6
  enc t := [.int .i64 t.v.kind, .bool t.v.truth, .int .i64 t.v.num, .string t.v.text, .slice t.nA t.v.ns.length t.nc, .slice t.kA t.v.ks.length t.kc]
  len _ := rfl
  one x u hu := by simp at hu; rcases hu with rfl | rfl | rfl | rfl | rfl | rfl <;> rfl
  pos := by decide
def vs (l : List TV) : List TN := l.map TV.v
theorem vs_len (l : List TV) : (vs l).length = l.length := by simp [vs]
theorem vs_app (l m : List TV) : vs (l ++ m) = vs l ++ vs m := by simp [vs]
theorem vs_gt {l : List TV} {i : Int} (h0 : 0 ≤ i) (h1 : i < (l.length : Int)) : gt (vs l) i = (gt l i).v := by
  have hi : i.toNat < l.length := by omega
  simp [gt, vs, List.getD_eq_getElem?_getD, hi]
theorem vs_take (l : List TV) (n : Nat) : vs (l.take n) = (vs l).take n := by simp [vs, List.map_take]
abbrev nV (t : TV) : Value := .slice t.nA t.v.ns.length t.nc
abbrev kV (t : TV) : Value := .slice t.kA t.v.ks.length t.kc
/-- The lists of a tree's values. -/
def nest (e1 e2 : Nat) (l : List TV) : Res where
  foot := l.flatMap (fun t => (nV t).ownBlock.toList ++ (kV t).ownBlock.toList)
  holds w := ∀ t ∈ l, ((rw_ eS e1 (nV t) t.v.ns).holds w ∧ t.v.ns.length ≤ 140737488355328) ∧ ((rw_ eZ e2 (kV t) t.v.ks).holds w ∧ t.v.ks.length ≤ 140737488355328)
  stable w w' h hw t ht := by
    obtain ⟨⟨h1, h2⟩, h3, h4⟩ := hw t ht
    refine ⟨⟨(rw_ eS e1 (nV t) t.v.ns).stable w w' (fun b hb => h b ?_) h1, h2⟩, (rw_ eZ e2 (kV t) t.v.ks).stable w w' (fun b hb => h b ?_) h3, h4⟩
    · exact List.mem_flatMap.2 ⟨t, ht, List.mem_append_left _ hb⟩
    · exact List.mem_flatMap.2 ⟨t, ht, List.mem_append_right _ hb⟩
  lt w hw b hb := by
    obtain ⟨t, ht, hb⟩ := List.mem_flatMap.1 hb
    obtain ⟨⟨h1, h2⟩, h3, h4⟩ := hw t ht
    rcases List.mem_append.1 hb with hb | hb
    · exact (rw_ eS e1 (nV t) t.v.ns).lt w h1 b hb
    · exact (rw_ eZ e2 (kV t) t.v.ks).lt w h3 b hb
/-- Those lists are frozen. -/
def NT (S : Nat → Prop) (wf : World) (l : List TV) : Prop := ∀ t ∈ l, Fr eS S wf t.nA t.v.ns ∧ Fr eZ S wf t.kA t.v.ks
section
variable {V : Env} {P : Program} {Q : Exit → Act → World → Prop} {ops : Array Oper} {N : Nat} {o : Oper} {rest : List Oper} {L : List (Nat × Value)} {H R : List Res} {S : Nat → Prop} {wf : World} {K : St → Prop} {st : St} {C : World → Prop}
theorem NT.ext {S S' : Nat → Prop} {wf wf' : World} {l : List TV} (h : NT S wf l) (hx : Ext S wf S' wf') : NT S' wf' l := fun t ht => ⟨(h t ht).1.ext hx, (h t ht).2.ext hx⟩
theorem NT.nil : NT S wf [] := fun t ht => by cases ht
theorem nest_foot {e1 e2 : Nat} {l : List TV} {t : TV} (ht : t ∈ l) : (∀ b ∈ (rw_ eS e1 (nV t) t.v.ns).foot, b ∈ (nest e1 e2 l).foot) ∧ (∀ b ∈ (rw_ eZ e2 (kV t) t.v.ks).foot, b ∈ (nest e1 e2 l).foot) :=
  ⟨fun b hb => List.mem_flatMap.2 ⟨t, ht, List.mem_append_left _ hb⟩, fun b hb => List.mem_flatMap.2 ⟨t, ht, List.mem_append_right _ hb⟩⟩
theorem NT.of {e1 e2 : Nat} {l : List TV} {w : World} (h : (nest e1 e2 l).holds w) (hS : ∀ b ∈ (nest e1 e2 l).foot, S b) : NT S w l := fun t ht => by
  obtain ⟨⟨h1, h2⟩, h3, h4⟩ := h t ht
  obtain ⟨f1, f2⟩ := nest_foot (e1 := e1) (e2 := e2) ht
  exact ⟨Fr.of_row h1 (fun b hb => hS b (f1 b hb)) h2, Fr.of_row h3 (fun b hb => hS b (f2 b hb)) h4⟩
theorem NT.lent {e1 e2 : Nat} {l : List TV} {wf1 : World} (hR : ∀ r ∈ R, r.holds wf1) (i : Nat) (hi : R[i]? = some (nest e1 e2 l)) : NT (fun b => S b ∨ b ∈ feet R) wf1 l :=
  NT.of (hR _ (List.mem_of_getElem? hi)) (fun b hb => .inr (feet_of i hi hb))
theorem NT.lend {e1 e2 : Nat} {l : List TV} {C0 R1 : List Res} {w : World} (hw : WW V S wf (C0 ++ (R1 ++ R)) w) (i : Nat) (hi : R1[i]? = some (nest e1 e2 l)) : NT (fun b => S b ∨ b ∈ feet R1) w l :=
  NT.of (hw.has _ (List.mem_append_right _ (List.mem_append_left _ (List.mem_of_getElem? hi)))) (fun b hb => .inr (feet_of i hi hb))
/-- No lists yet. -/
theorem WW.nest0 (e1 e2 : Nat) {w : World} (h : WW V S wf H w) : WW V S wf (nest e1 e2 [] :: H) w where
  has r hr := by
    rcases List.mem_cons.1 hr with rfl | hr
    · intro t ht; cases ht
    · exact h.has r hr
  nd := by rw [feet_cons]; exact h.nd
  sep b hb := by rw [feet_cons] at hb; exact h.sep b hb
  fz := h.fz
  new := h.new
  fr := h.fr
  sz := h.sz
  os := h.os
  tape := h.tape
  output := h.output
theorem SC.nest0 (e1 e2 : Nat) {c : Code} (h : SC V P Q N c ⟨L, nest e1 e2 [] :: H, S, wf⟩) : SC V P Q N c ⟨L, H, S, wf⟩ := fun a w hs hw => h a w hs (hw.nest0 e1 e2)
/-- A value's lists are laid to the others. -/
theorem WW.pack {e1 e2 : Nat} {l : List TV} {t : TV} {w : World} (h : WW V S wf (nest e1 e2 l :: rw_ eS e1 (nV t) t.v.ns :: rw_ eZ e2 (kV t) t.v.ks :: R) w) (h1 : t.v.ns.length ≤ 140737488355328) (h2 : t.v.ks.length ≤ 140737488355328) : WW V S wf (nest e1 e2 (l ++ [t]) :: R) w := by
  have hf : feet (nest e1 e2 (l ++ [t]) :: R) = feet (nest e1 e2 l :: rw_ eS e1 (nV t) t.v.ns :: rw_ eZ e2 (kV t) t.v.ks :: R) := by
    simp [nest, rw_, row, List.flatMap_append]
  exact {
    has := fun r hr => by
      rcases List.mem_cons.1 hr with rfl | hr
      · intro u hu
        rcases List.mem_append.1 hu with hu | hu
        · exact h.has _ (List.mem_cons_self ..) u hu
        · simp only [List.mem_singleton] at hu
          subst hu
          exact ⟨⟨h.has _ (by simp), h1⟩, h.has _ (by simp), h2⟩
      · exact h.has r (by simp [hr])
    nd := hf ▸ h.nd
    sep := fun b hb => h.sep b (hf ▸ hb)
    fz := h.fz, new := h.new, fr := h.fr, sz := h.sz, os := h.os, tape := h.tape, output := h.output }
theorem SP.pack {e1 e2 : Nat} {l : List TV} (t : TV) {R1 : List Res} (hp : PickL H [nest e1 e2 l, rw_ eS e1 (nV t) t.v.ns, rw_ eZ e2 (kV t) t.v.ks] R) (h1 : t.v.ns.length ≤ 140737488355328) (h2 : t.v.ks.length ≤ 140737488355328)
    (h : SP V P Q ops N rest ⟨L, nest e1 e2 (l ++ [t]) :: R, S, wf⟩) : SP V P Q ops N rest ⟨L, H, S, wf⟩ := fun a w hs hw => h a w hs ((hw.perm hp.perm).pack h1 h2)
theorem SC.pack {e1 e2 : Nat} {l : List TV} (t : TV) {c : Code} (hp : PickL H [nest e1 e2 l, rw_ eS e1 (nV t) t.v.ns, rw_ eZ e2 (kV t) t.v.ks] R) (h1 : t.v.ns.length ≤ 140737488355328) (h2 : t.v.ks.length ≤ 140737488355328)
    (h : SC V P Q N c ⟨L, nest e1 e2 (l ++ [t]) :: R, S, wf⟩) : SC V P Q N c ⟨L, H, S, wf⟩ := fun a w hs hw => h a w hs ((hw.perm hp.perm).pack h1 h2)
theorem SR.pack {e1 e2 : Nat} {l : List TV} (t : TV) {B : World → Prop} {cs : List (Nat × (World → Prop))} {fuel : Nat} {listed : Array Bool} (hp : PickL H [nest e1 e2 l, rw_ eS e1 (nV t) t.v.ns, rw_ eZ e2 (kV t) t.v.ks] R) (h1 : t.v.ns.length ≤ 140737488355328) (h2 : t.v.ks.length ≤ 140737488355328)
    (h : SR V P Q ops N B cs fuel listed ⟨L, nest e1 e2 (l ++ [t]) :: R, S, wf⟩) : SR V P Q ops N B cs fuel listed ⟨L, H, S, wf⟩ := fun a w hs hw => h a w hs ((hw.perm hp.perm).pack h1 h2)
end
end Go.SX
namespace Go.SX
open Go Go.RowKit
section
variable {V : Env} {P : Program} {Q : Exit → Act → World → Prop} {ops : Array Oper} {N : Nat} {o : Oper} {rest : List Oper} {L : List (Nat × Value)} {H R : List Res} {S : Nat → Prop} {wf : World} {K : St → Prop} {st : St} {C : World → Prop} {cs : List (Nat × (World → Prop))}
/-- What stands until number k comes up. -/
theorem At.ofcs {B : World → Prop} {i k : Nat} {F : World → Prop} (j : Nat) (h : cs[j]? = some (k, F)) (hw : waitsFor ops k i = true) : ∀ w, (B w ∧ ∀ c ∈ cs, waitsFor ops c.1 i = true → c.2 w) → F w :=
  fun w ⟨_, hc⟩ => hc (k, F) (List.mem_of_getElem? h) hw
theorem ttc {listed : Array Bool} (h : ∀ w, WW V S wf H w → ∀ c ∈ cs, listed.getD c.1 true = false → c.2 w) : ∀ w, WW V S wf H w → TT (Fz S wf) cs listed w := fun w hw => ⟨hw.fz, h w hw⟩
theorem tc0 {listed : Array Bool} {w : World} : ∀ c ∈ ([] : List (Nat × (World → Prop))), listed.getD c.1 true = false → c.2 w := fun c hc => by cases hc
theorem tc1 {listed : Array Bool} {w : World} {k : Nat} {F : World → Prop} (h : F w) (r : ∀ c ∈ cs, listed.getD c.1 true = false → c.2 w) : ∀ c ∈ (k, F) :: cs, listed.getD c.1 true = false → c.2 w := fun c hc => by
  rcases List.mem_cons.1 hc with rfl | hc
  · exact fun _ => h
  · exact r c hc
theorem tc2 {listed : Array Bool} {w : World} {k : Nat} {F : World → Prop} (h : listed.getD k true = true) (r : ∀ c ∈ cs, listed.getD c.1 true = false → c.2 w) : ∀ c ∈ (k, F) :: cs, listed.getD c.1 true = false → c.2 w := fun c hc => by
  rcases List.mem_cons.1 hc with rfl | hc
  · intro e; simp only [h] at e; cases e
  · exact r c hc
end
end Go.SX
namespace Go.SX
theorem sc0 {w : World} : ∀ c ∈ ([] : List (Nat × (World → Prop))), c.2 w := fun c hc => by cases hc
theorem sc1 {w : World} {k : Nat} {F : World → Prop} {cs : List (Nat × (World → Prop))} (h : F w) (r : ∀ c ∈ cs, c.2 w) : ∀ c ∈ (k, F) :: cs, c.2 w := fun c hc => by
  rcases List.mem_cons.1 hc with rfl | hc
  · exact h
  · exact r c hc
end Go.SX
