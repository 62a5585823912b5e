import Derived.Shelf.SortM.Plain
import Derived.Shelf.SortM.SortNone
import Derived.Test.YtpjblnmophcdmaaS2
set_option linter.unusedVariables false
set_option linter.unusedSimpArgs false
set_option linter.unusedSectionVars false
namespace Go.SX
open Go Go.RowKit Go.Proofs Go.Shelf Go.Sort
theorem flat_eZ (l : List Int) : flat eZ l = l.map (Value.int .i64) := by
  induction l with
  | nil => rfl
  | cons a l ih => rw [flat_cons, ih]; rfl
theorem take_putZ (cur : Array Value) (ts : List Int) (h : ts.length ≤ cur.size) : (putCells (Value.int .i64) 0 ts.toArray cur).toList.take ts.length = ts.map (Value.int .i64) := by
  apply List.ext_getElem?
  intro j
  by_cases hj : j < ts.length
  · rw [List.getElem?_take_of_lt hj, Array.getElem?_toList]
    simp [putCells, hj, show j < cur.size by omega]
  · rw [List.getElem?_take_eq_none (by omega), List.getElem?_eq_none (by simp; omega)]
theorem sort_tr {P : Program} {ρ : Ren} (Ly : SlLaysM.n5 P ρ) (A : Option Addr) (n c : Nat) (e : Nat) (l : List Int) (S : Nat → Prop) (wf : World) (hn : l.length = n) (hb : n ≤ 140737488355328) :
    TR0 P (ρ.f 5) [.slice A n c] [rw_ eZ e (.slice A n c) l] S wf (fun v C => v = .tuple #[] ∧ C = [rw_ eZ e (.slice A n c) (srtL l)]) := by
  intro w hw
  subst hn
  have hsl : (srtL l).length = l.length := (srtL_perm l).length_eq
  rcases rw_holds.1 (hw.has _ (List.mem_singleton.2 rfl)) with ⟨h1, rfl⟩ | ⟨g, cap, cur, h1, h2, h3, h4, h5, h6⟩
  · injection h1 with a1 a2 a3
    subst a1 a3
    refine (AnyM.slices_Sort_int_none Ly none 0 w).mono ?_
    rintro e1 w' ⟨rfl, rfl⟩
    have e0 : srtL [] = [] := List.mergeSort_nil
    exact ⟨_, _, S, wf, rfl, ⟨⟨rfl, rfl⟩, rfl, rfl⟩, .refl _ _ (fun b hb => (hw.fz b hb).1), by rw [e0]; exact hw⟩
  · injection h1 with a1 a2 a3
    subst a1 a3
    have hgl := lt_of_some h2
    have hcur : cur.toList.take l.length = l.map (Value.int .i64) := by
      have := h6; rw [flat_eZ] at this
      rw [← this]; show _ = cur.toList.take (l.length * 1); rw [Nat.mul_one]
    have hcs : cur.size = c := by rw [h5]; show c * 1 = c; rw [Nat.mul_one]
    have hH : Holds (Value.int .i64) w g 0 l.toArray := by
      intro j hj
      have hj' : j < l.length := by simpa using hj
      refine ⟨?_, by simp [World.frozen?, h2]⟩
      have h1 : (cur.toList.take l.length)[j]? = (l.map (Value.int .i64))[j]? := by rw [hcur]
      rw [List.getElem?_take_of_lt hj'] at h1
      simp only [World.cell?, h2, Nat.zero_add]
      simp only [Option.isSome_none, Bool.false_eq_true, if_false]
      rw [← Array.getElem?_toList, h1]
      simp [hj']
    refine (AnyM.slices_Sort_int Ly g 0 c l w hH hgl (by omega)).mono ?_
    rintro e1 w' ⟨rfl, k, os, rfl⟩
    have hold : ∀ b, b < w.heap.size → (grow (putRow (Value.int .i64) (Sort.ahead w k) g 0 (srtL l).toArray) os).heap[b]? = (putRow (Value.int .i64) (Sort.ahead w k) g 0 (srtL l).toArray).heap[b]? := fun b hb => heap_grow_old _ _ (by simpa using hb)
    have hne : ∀ b, b < w.heap.size → b ≠ g → (grow (putRow (Value.int .i64) (Sort.ahead w k) g 0 (srtL l).toArray) os).heap[b]? = w.heap[b]? := fun b hb hbg => by
      rw [hold b hb]
      have : g ≠ b := fun e => hbg e.symm
      simp [putRow, mapBlock, Sort.ahead, Array.getElem?_modify, this]
    have hg : (grow (putRow (Value.int .i64) (Sort.ahead w k) g 0 (srtL l).toArray) os).heap[g]? = some (.cells (putCells (Value.int .i64) 0 (srtL l).toArray cur) e (0, 0)) := by
      rw [hold g hgl]
      simp [putRow, mapBlock, Sort.ahead, Array.getElem?_modify, h2, onCells]
    refine ⟨_, _, S, wf, rfl, ⟨⟨rfl, rfl⟩, rfl, rfl⟩, .refl _ _ (fun b hb => (hw.fz b hb).1), ?_⟩
    have key := WW.change (V := env w [rw_ eZ e (.slice (some ⟨g, 0, none⟩) l.length c) l] S) (S := S) (wf := wf) (C := [rw_ eZ e (.slice (some ⟨g, 0, none⟩) l.length c) l]) (R := []) (C' := [rw_ eZ e (.slice (some ⟨g, 0, none⟩) l.length c) (srtL l)]) (w := w) (w' := grow (putRow (Value.int .i64) (Sort.ahead w k) g 0 (srtL l).toArray) os) hw
      (fun b hb hn => hne b hb (fun e1 => hn (by simp [rw_, row, Value.ownBlock, e1]))) (by simp) ?_ (by simp [rw_, row, Value.ownBlock]) (fun b hb => .inl (by simpa [rw_, row, Value.ownBlock] using hb)) rfl rfl rfl
    · exact key
    · intro r hr
      simp only [List.mem_singleton] at hr
      subst hr
      refine rw_holds.2 (.inr ⟨g, c, _, by rw [hsl], hg, by omega, h4, ?_, ?_⟩)
      · show (putCells _ _ _ cur).size = c * 1
        simp [putCells]; omega
      · show List.take ((srtL l).length * 1) _ = _
        rw [Nat.mul_one, flat_eZ]; exact take_putZ cur (srtL l) (by omega)
end Go.SX
