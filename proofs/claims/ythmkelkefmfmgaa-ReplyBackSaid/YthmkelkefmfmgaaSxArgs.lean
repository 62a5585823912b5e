/- A law's arguments, opened; how a law's row follows from its contract. -/
import Derived.Test.YthmkelkefmfmgaaSxVis
import Derived.ChangeArms
import Derived.DataReads
import Derived.SizedLaws
import Derived.Below
import Derived.Carry
set_option linter.unusedVariables false
namespace Go.SX
open Go Go.RowKit

/-- What cells that read as a datum of this type are. -/
def Tells (P : Program) (e : TypeId) {α : Type} (E : Enc α) (good : α → Prop) : Prop :=
  ∀ {H : Type} (enc : TypeId × Value → H) (w : World) (base : Nat) (spare : Nat → Bool) (held : Bool) (n : Nat) (cs : List Value) (y : DataW H × List MemPlace), DataW.trod enc P w base spare held n e cs = some y → ∃ a, cs = E.enc a ∧ good a

section
variable {H : Type} {enc : TypeId × Value → H} {P : Program} {w : World} {base : Nat} {spare : Nat → Bool} {held : Bool}

theorem add_zero_add (a : Addr) (i j : Nat) : (a.add i).add j = a.add (i + j) := by
  unfold Addr.add
  split <;> split <;> simp_all <;> omega

theorem open_rows {α : Type} [Inhabited α] {E : Enc α} {good : α → Prop} {t e : TypeId} {fuel : Nat} {cs : List Value} {x : DataW H × List MemPlace} (ht : P.underlying t = some (.slice e)) (he : P.cellsOf e = E.sz) (hT : Tells P e E good)
    (h : DataW.trod enc P w base spare held fuel t cs = some x) :
    cs = [.slice none 0 0] ∨ ∃ A len cap l elems rest, cs = [.slice A len cap] ∧ len ≤ cap ∧ cap ≤ maxLen ∧ l.length = len ∧ (l = [] ∨ ∃ b off, A = some ⟨b, off, none⟩ ∧ ∀ i x, l[i]? = some x → At w b (off + i * E.sz) (E.enc x)) ∧ (∀ x ∈ l, good x) ∧ x.1 = .slice elems rest ∧ elems.length = len := by
  rcases DataW.trod_slice ht h with h0 | ⟨a, len, cap, elems, rest, n, _, rfl, rfl, hb, hl, hm, hlen, hel, hsp, hns⟩
  · exact .inl h0.1
  right
  have each : ∀ i, i < len → ∃ x : α, good x ∧ w.cells? base (a.add (i * E.sz)) E.sz = some (E.enc x) := by
    intro i hi
    have h1 := hel i hi
    have h2 : elems[i]? = some (elems[i]'(by omega)) := List.getElem?_eq_getElem (by omega)
    rw [h2, he, Option.bind_eq_some_iff] at h1
    obtain ⟨cs', h3, h4⟩ := h1
    obtain ⟨x, rfl, hg⟩ := hT enc w base spare held n cs' _ h4
    exact ⟨x, hg, h3⟩
  let f : Nat → α := fun i => if hi : i < len then (each i hi).choose else default
  have hf : ∀ i (hi : i < len), f i = (each i hi).choose := fun i hi => dif_pos hi
  refine ⟨some a, len, cap, (List.range len).map f, elems.map (·.1), rest.map (·.1), rfl, hl, hm, by simp, ?_, ?_, rfl, by simp [hlen]⟩
  · rcases Nat.eq_zero_or_pos len with h0 | h0
    · subst h0; exact .inl (by simp)
    right
    have hat : ∀ i, i < len → ∀ j u, (E.enc (f i))[j]? = some u → w.cell? (a.add (i * E.sz + j)) = some u := by
      intro i hi j u hj
      obtain ⟨_, h1, h2⟩ := World.cells?_some (each i hi).choose_spec.2
      rw [← hf i hi] at h1 h2
      have hjs : j < E.sz := by have := (List.getElem?_eq_some_iff.1 hj).1; omega
      rw [← add_zero_add, h2 j hjs, hj]
    have hpos := E.pos
    have hspot : a.spot = none := by
      have h1 : (E.enc (f 0)).length = E.sz := E.len _
      have h2 := hat 0 h0 0 ((E.enc (f 0))[0]'(by omega)) (List.getElem?_eq_getElem (by omega))
      have h3 := World.cell?_spot h2
      simpa [Addr.add] using h3
    obtain ⟨b, off, spot⟩ := a
    simp only at hspot
    subst hspot
    refine ⟨b, off, rfl, fun i x hx j u hu => ?_⟩
    simp only [List.getElem?_map, Option.map_eq_some_iff] at hx
    obtain ⟨i', hi', rfl⟩ := hx
    have hi2 := List.getElem?_eq_some_iff.1 hi'
    obtain ⟨hlt, heq⟩ := hi2
    simp at heq hlt
    subst heq
    have := hat i hlt j u hu
    rw [show off + i * E.sz + j = off + (i * E.sz + j) from by omega]
    have e1 : (⟨b, off, none⟩ : Addr).add (i * E.sz + j) = ⟨b, off + (i * E.sz + j), none⟩ := by
      unfold Addr.add
      split
      · rename_i h0; rw [h0]; rfl
      · rfl
    rwa [e1] at this
  · intro x hx
    obtain ⟨i, hi, rfl⟩ := List.mem_map.1 hx
    have hlt : i < len := by simpa using hi
    rw [hf i hlt]
    exact (each i hlt).choose_spec.1

/-- An argument that is a slice of plain elements: frozen. -/
theorem arg_rows {α : Type} [Inhabited α] {E : Enc α} {good : α → Prop} {ts : List TypeId} {ds : List (DataW H)} {t e : TypeId} {d : DataW H} {ps : List MemPlace} {A : Option Addr} {n c : Nat} {W : World} (j : Nat) (ht : P.underlying t = some (.slice e)) (he : P.cellsOf e = E.sz) (hT : Tells P e E good) (hbo : 1 ≤ P.bytesOf e)
    (h : DataW.Trod enc P W 0 (fun _ => true) true t (.slice A n c) d ps) (hlt : ∀ x ∈ ps, x.block < W.heap.size)
    (hsz : (DataW.weightsEach P ts ds).all (· ≤ reachBytes) = true) (h1 : ts[j]? = some t) (h2 : ds[j]? = some d) : ∃ l : List α, l.length = n ∧ Fr E (fun b => b < W.heap.size) W A l ∧ (∀ x ∈ l, good x) ∧ n ≤ c ∧ c ≤ maxLen := by
  obtain ⟨fuel, hf⟩ := h
  rcases open_rows ht he hT hf with h0 | ⟨A', len, cap, l, elems, rest, h3, h4, h5, h6, h7, h8, h9, h10⟩
  · simp [Value.cells] at h0
    obtain ⟨rfl, rfl, rfl⟩ := h0
    exact ⟨[], rfl, Fr.nil _ _ _ _, by simp, Nat.le_refl _, by simp [maxLen]⟩
  · simp [Value.cells] at h3
    obtain ⟨rfl, rfl, rfl⟩ := h3
    refine ⟨l, h6, ⟨?_, ?_⟩, h8, h4, h5⟩
    · have hs := sized_slice hsz (j := j) h1 (elems := elems) (spare := rest) (by rw [h2, ← h9]) ht
      have h11 : elems.length * 1 ≤ (elems.length + rest.length) * P.bytesOf e := Nat.mul_le_mul (by omega) hbo
      have h12 : reachBytes < 2 ^ 47 := reachBytes_lt
      omega
    · rcases h7 with h7 | ⟨b, off, rfl, hat⟩
      · exact .inl h7
      · cases l with
        | nil => exact .inl rfl
        | cons x r =>
          refine .inr ⟨b, off, rfl, ?_, hat⟩
          have hx := hat 0 x rfl
          have hl := E.len x
          have hp := E.pos
          have := hx 0 ((E.enc x)[0]'(by omega)) (List.getElem?_eq_getElem (by omega))
          unfold World.cell? at this
          cases hb : W.heap[b]? with
          | none => simp only [hb] at this; cases this
          | some o => exact lt_of_some hb
end

/-- A law's call, out of its contract. -/
theorem law_calls {P : Program} {f : FuncId} {args : List Value} {W : World} (h : TR0 P f args [] (fun b => b < W.heap.size) W (fun v C => v = .bool true ∧ C = [])) :
    Calls P f args.toArray W fun e W' => e = .returned (.bool true) ∧ Below W.heap.size W W' := by
  have hw : WW (env W [] (fun b => b < W.heap.size)) (fun b => b < W.heap.size) W [] W := by
    refine ⟨by simp, by simp, by simp, fun b hb => ⟨hb, rfl⟩, fun b hb => .inl hb, fun b _ _ => rfl, Nat.le_refl _, rfl, rfl, rfl⟩
  refine (h W hw).mono ?_
  rintro e W' ⟨v, C', S', wf', rfl, ⟨⟨rfl, rfl⟩, rfl, rfl⟩, _, hw'⟩
  exact ⟨rfl, hw'.os, hw'.tape, hw'.output, hw'.sz, fun k hk => hw'.fr k hk (by simp)⟩
end Go.SX
namespace Go.SX
open Go
def i64 (n : Int) : Prop := -9223372036854775808 ≤ n ∧ n ≤ 9223372036854775807
theorem wf_i64 {n : Int} (h : (Lit.int .i64 n).wf = true) : i64 n := by
  simp [Lit.wf, IntKind.min, IntKind.max] at h
  simpa [IntKind.signed, IntKind.bits, i64] using h
/-- A move: a change and its places. -/
structure Mov where
  c : Int
  i : Int
  j : Int
  k : Int
  deriving DecidableEq, Inhabited
def eMov : Enc Mov where
  sz := 4
  enc x := [.int .i64 x.c, .int .i64 x.i, .int .i64 x.j, .int .i64 x.k]
  len _ := rfl
  one x u hu := by simp at hu; rcases hu with rfl | rfl | rfl | rfl <;> rfl
  pos := by decide
end Go.SX
