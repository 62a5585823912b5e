import Derived.Test.YtlefdinbbjiabaaProg
import Derived.Test.YtlefdinbbjiabaaS6
set_option linter.unusedVariables false
set_option linter.unusedSimpArgs false
set_option linter.unusedSectionVars false
namespace Go.SX
open Go Go.RowKit
def TellsW (P : Program) (w : World) (e : TypeId) {α : Type} (E : Enc α) (good : α → Prop) : Prop :=
  ∀ {H : Type} (enc : TypeId × Value → H) (base : Nat) (spare : Nat → Bool) (held : Bool) (n : Nat) (cs : List Value) (y : DataW H × List MemPlace), DataW.trod enc P w base spare held n e cs = some y → (∀ b ∈ y.1.weights P e, b ≤ reachBytes) → ∃ a, cs = E.enc a ∧ good a
section
variable {H : Type} {enc : TypeId × Value → H} {P : Program} {w : World} {base : Nat} {spare : Nat → Bool} {held : Bool}
theorem weightsAll_mem {e : TypeId} {d : DataW H} {b : Nat} : ∀ {l : List (DataW H)}, d ∈ l → b ∈ d.weights P e → b ∈ DataW.weightsAll P e l
  | [], h, _ => by cases h
  | x :: r, h, hb => by
    unfold DataW.weightsAll
    rcases List.mem_cons.1 h with rfl | h
    · exact List.mem_append_left _ hb
    · exact List.mem_append_right _ (weightsAll_mem h hb)
theorem rows_w {α : Type} [Inhabited α] {E : Enc α} {good : α → Prop} {t e : TypeId} {fuel : Nat} {cs : List Value} {x : DataW H × List MemPlace} (ht : P.underlying t = some (.slice e)) (he : P.cellsOf e = E.sz) (hT : TellsW P w e E good) (hbo : 1 ≤ P.bytesOf e)
    (h : DataW.trod enc P w base spare held fuel t cs = some x) (hw : ∀ b ∈ x.1.weights P t, b ≤ reachBytes) :
    ∃ A l cap, cs = [.slice A l.length cap] ∧ Fr E (fun b => b < w.heap.size) w A l ∧ ∀ y ∈ l, good y := by
  rcases DataW.trod_slice ht h with h0 | ⟨a, len, cap, elems, rest, n, hx1, rfl, rfl, hb, hl, hm, hlen, hel, hsp, hns⟩
  · exact ⟨none, [], 0, h0.1, Fr.nil _ _ _ _, by simp⟩
  have hw2 : ∀ b ∈ DataW.weights P t (.slice (elems.map (·.1)) (rest.map (·.1))), b ≤ reachBytes := hw
  have each : ∀ i, i < len → ∃ x : α, good x ∧ w.cells? base (a.add (i * E.sz)) E.sz = some (E.enc x) := by
    intro i hi
    have h1 := hel i hi
    have h2 : elems[i]? = some (elems[i]'(by omega)) := List.getElem?_eq_getElem (by omega)
    rw [h2, he, Option.bind_eq_some_iff] at h1
    obtain ⟨cs', h3, h4⟩ := h1
    obtain ⟨x, rfl, hg⟩ := hT enc base spare held n cs' _ h4 (fun b hb => hw2 b (by
      unfold DataW.weights
      rw [ht]
      exact List.mem_cons_of_mem _ (List.mem_append_left _ (weightsAll_mem (List.mem_map_of_mem (List.getElem_mem (by omega))) hb))))
    exact ⟨x, hg, h3⟩
  let f : Nat → α := fun i => if hi : i < len then (each i hi).choose else default
  have hf : ∀ i (hi : i < len), f i = (each i hi).choose := fun i hi => dif_pos hi
  have hbig : len ≤ 140737488355328 := by
    have h1 := hw2 ((elems.map (·.1)).length + (rest.map (·.1)).length |>.mul (P.bytesOf e)) (by unfold DataW.weights; rw [ht]; exact List.mem_cons_self ..)
    have h11 : elems.length * 1 ≤ ((elems.map (·.1)).length + (rest.map (·.1)).length) * P.bytesOf e := Nat.mul_le_mul (by simp) hbo
    have h12 : reachBytes < 2 ^ 47 := reachBytes_lt
    have h13 : ((elems.map (·.1)).length + (rest.map (·.1)).length) * P.bytesOf e ≤ reachBytes := h1
    omega
  have hgood : ∀ x ∈ (List.range len).map f, good x := by
    intro x hx
    obtain ⟨i, hi, rfl⟩ := List.mem_map.1 hx
    have hlt : i < len := by simpa using hi
    rw [hf i hlt]
    exact (each i hlt).choose_spec.1
  refine ⟨some a, (List.range len).map f, cap, by simp, ⟨by simpa using hbig, ?_⟩, hgood⟩
  rcases Nat.eq_zero_or_pos len with h0 | h0
  · subst h0; exact .inl (by simp)
  have hat : ∀ i, i < len → ∀ j u, (E.enc (f i))[j]? = some u → w.cell? (a.add (i * E.sz + j)) = some u := by
    intro i hi j u hj
    obtain ⟨_, h1, h2⟩ := World.cells?_some (each i hi).choose_spec.2
    rw [← hf i hi] at h1 h2
    have hjs : j < E.sz := by have := (List.getElem?_eq_some_iff.1 hj).1; omega
    rw [← add_zero_add, h2 j hjs, hj]
  have hpos := E.pos
  have hspot : a.spot = none := by
    have h1 : (E.enc (f 0)).length = E.sz := E.len _
    have h2 := hat 0 h0 0 ((E.enc (f 0))[0]'(by omega)) (List.getElem?_eq_getElem (by omega))
    have h3 := World.cell?_spot h2
    simpa [Addr.add] using h3
  obtain ⟨b, off, spot⟩ := a
  simp only at hspot
  subst hspot
  have hall : ∀ i x, ((List.range len).map f)[i]? = some x → At w b (off + i * E.sz) (E.enc x) := fun i x hx j u hu => by
    simp only [List.getElem?_map, Option.map_eq_some_iff] at hx
    obtain ⟨i', hi', rfl⟩ := hx
    have hi2 := List.getElem?_eq_some_iff.1 hi'
    obtain ⟨hlt, heq⟩ := hi2
    simp at heq hlt
    subst heq
    have := hat i hlt j u hu
    rw [show off + i * E.sz + j = off + (i * E.sz + j) from by omega]
    have e1 : (⟨b, off, none⟩ : Addr).add (i * E.sz + j) = ⟨b, off + (i * E.sz + j), none⟩ := by
      unfold Addr.add
      split
      · rename_i h0; rw [h0]; rfl
      · rfl
    rwa [e1] at this
  refine .inr ⟨b, off, rfl, ?_, hall⟩
  have hx := hall 0 (f 0) (by simp [h0])
  have hl1 := E.len (f 0)
  have := hx 0 ((E.enc (f 0))[0]'(by omega)) (List.getElem?_eq_getElem (by omega))
  unfold World.cell? at this
  cases hb1 : w.heap[b]? with
  | none => simp only [hb1] at this; cases this
  | some o => exact lt_of_some hb1
theorem struct_w {t : TypeId} {fuel : Nat} {cs : List Value} {x : DataW H × List MemPlace} {fs : Array Field} (ht : P.underlying t = some (.struct fs)) (h : DataW.trod enc P w base spare held fuel t cs = some x) (hw : ∀ b ∈ x.1.weights P t, b ≤ reachBytes) :
    ∃ n, cs.length = P.cellsOf t ∧ ∀ (i : Nat) (f : Field), fs[i]? = some f → ∃ y : DataW H × List MemPlace, DataW.trod enc P w base spare held n f.type ((cs.drop f.offset).take (P.cellsOf f.type)) = some y ∧ ∀ b ∈ y.1.weights P f.type, b ≤ reachBytes := by
  obtain ⟨xs, n, _, rfl, hl, hx, hf⟩ := DataW.trod_struct ht h
  refine ⟨n, hl, fun i f hi => ?_⟩
  have h1 := hf i f hi
  have hlt : i < fs.size := (Array.getElem?_eq_some_iff.1 hi).1
  rw [List.getElem?_eq_getElem (by omega)] at h1
  refine ⟨xs[i]'(by omega), h1, fun b hb => hw b ?_⟩
  show b ∈ DataW.weights P t (.agg (xs.map (·.1)))
  unfold DataW.weights
  rw [ht]
  exact DataW.weights_mem_each (j := i) (d := (xs[i]'(by omega)).1) (by simp [hi]) (by simp [List.getElem?_eq_getElem (show i < xs.length by omega)]) b hb
end
end Go.SX
set_option maxRecDepth 20000
namespace Go.Proofs.Ytlefdinbbjiabaa.Sx
open Go Go.SX Go.Proofs Go.Proofs.Try
theorem cO24 : prog.cellsOf 24 = 2 := by kernel_rfl
theorem cO47 : prog.cellsOf 47 = 4 := by kernel_rfl
theorem cO22 : prog.cellsOf 22 = 1 := by kernel_rfl
theorem cO3 : prog.cellsOf 3 = 1 := by kernel_rfl
structure RDA where
 n : Int
 A : Option Addr
 c : Nat
 l : List AR
def eRDA : Enc RDA where
 sz := 2
 enc x := [.int .i64 x.n, .slice x.A x.l.length x.c]
 len _ := rfl
 one x u hu := by simp at hu; rcases hu with rfl | rfl <;> rfl
 pos := by decide
section
variable {w : World}
theorem tw47 : TellsW prog w 47 eAR (fun _ => True) := by
 intro H enc base spare held n cs y h hw
 obtain ⟨k, hl, hf⟩ := struct_w underlying47 h hw
 rw [cO47] at hl
 match cs, hl with
 | [v0, v1, v2, v3], _ =>
  obtain ⟨y0, h0, w0⟩ := hf 0 _ rfl
  replace h0 : DataW.trod enc prog w base spare held k 3 (([v0, v1, v2, v3].drop 0).take (prog.cellsOf 3)) = some y0 := h0
  rw [cO3] at h0
  replace h0 : DataW.trod enc prog w base spare held k 3 [v0] = some y0 := h0
  obtain ⟨y1, h1, w1⟩ := hf 1 _ rfl
  replace h1 : DataW.trod enc prog w base spare held k 3 (([v0, v1, v2, v3].drop 1).take (prog.cellsOf 3)) = some y1 := h1
  rw [cO3] at h1
  replace h1 : DataW.trod enc prog w base spare held k 3 [v1] = some y1 := h1
  obtain ⟨y2, h2, w2⟩ := hf 2 _ rfl
  replace h2 : DataW.trod enc prog w base spare held k 3 (([v0, v1, v2, v3].drop 2).take (prog.cellsOf 3)) = some y2 := h2
  rw [cO3] at h2
  replace h2 : DataW.trod enc prog w base spare held k 3 [v2] = some y2 := h2
  obtain ⟨y3, h3, w3⟩ := hf 3 _ rfl
  replace h3 : DataW.trod enc prog w base spare held k 3 (([v0, v1, v2, v3].drop 3).take (prog.cellsOf 3)) = some y3 := h3
  rw [cO3] at h3
  replace h3 : DataW.trod enc prog w base spare held k 3 [v3] = some y3 := h3
  obtain ⟨m0, e0, _, _⟩ := DataW.trod_int underlying3 h0
  simp only [List.cons.injEq, and_true] at e0
  subst e0
  obtain ⟨m1, e1, _, _⟩ := DataW.trod_int underlying3 h1
  simp only [List.cons.injEq, and_true] at e1
  subst e1
  obtain ⟨m2, e2, _, _⟩ := DataW.trod_int underlying3 h2
  simp only [List.cons.injEq, and_true] at e2
  subst e2
  obtain ⟨m3, e3, _, _⟩ := DataW.trod_int underlying3 h3
  simp only [List.cons.injEq, and_true] at e3
  subst e3
  exact ⟨⟨m0, m1, m2, m3⟩, G, trivial⟩
theorem tw24 : TellsW prog w 24 eRDA (fun x => Fr eAR (fun b => b < w.heap.size) w x.A x.l) := by
 intro H enc base spare held n cs y h hw
 obtain ⟨k, hl, hf⟩ := struct_w underlying24 h hw
 rw [cO24] at hl
 match cs, hl with
 | [v0, v1], _ =>
  obtain ⟨y0, h0, w0⟩ := hf 0 _ rfl
  replace h0 : DataW.trod enc prog w base spare held k 3 (([v0, v1].drop 0).take (prog.cellsOf 3)) = some y0 := h0
  rw [cO3] at h0
  replace h0 : DataW.trod enc prog w base spare held k 3 [v0] = some y0 := h0
  obtain ⟨y1, h1, w1⟩ := hf 1 _ rfl
  replace h1 : DataW.trod enc prog w base spare held k 22 (([v0, v1].drop 1).take (prog.cellsOf 22)) = some y1 := h1
  rw [cO22] at h1
  replace h1 : DataW.trod enc prog w base spare held k 22 [v1] = some y1 := h1
  obtain ⟨m0, e0, _, _⟩ := DataW.trod_int underlying3 h0
  simp only [List.cons.injEq, and_true] at e0
  subst e0
  obtain ⟨LA, ll, lc, el, fr, _⟩ := rows_w (E := eAR) underlying22 cO47 tw47 (by decide +kernel) h1 w1
  simp only [List.cons.injEq, and_true] at el
  subst el
  exact ⟨⟨m0, LA, lc, ll⟩, G, fr⟩
end
end Go.Proofs.Ytlefdinbbjiabaa.Sx
