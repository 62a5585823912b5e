import Derived.Laws.Strings
import Derived.Lib.EndianBits
import Derived.Test.YthmkelkefmfmgaaS0
set_option linter.unusedVariables false
set_option linter.unusedSimpArgs false
set_option linter.unusedSectionVars false
namespace Go.SX
open Go
theorem gt_cons0 {x : Int} {l : List Int} : gt (x :: l) 0 = x := rfl
theorem drop_gt {α : Type} [Inhabited α] {l : List α} {x : Int} (h0 : 0 ≤ x) (h1 : x < (l.length : Int)) : l.drop x.toNat = gt l x :: l.drop (x + 1).toNat := by
  have hx : x.toNat < l.length := by omega
  have hg : gt l x = l[x.toNat] := by simp [gt, List.getD_eq_getElem?_getD, hx]
  rw [hg, show (x + 1).toNat = x.toNat + 1 from by omega, ← List.drop_eq_getElem_cons hx]
theorem gt_take {α : Type} [Inhabited α] {l : List α} {n : Nat} {i : Int} (h0 : 0 ≤ i) (h1 : i < (n : Int)) : gt (l.take n) i = gt l i := by
  unfold gt
  rw [List.getD_eq_getElem?_getD, List.getD_eq_getElem?_getD, List.getElem?_take_of_lt (by omega)]
theorem gt_drop {α : Type} [Inhabited α] {l : List α} {n : Nat} {i : Int} (h0 : 0 ≤ i) : gt (l.drop n) i = gt l (n + i) := by
  unfold gt
  rw [List.getD_eq_getElem?_getD, List.getD_eq_getElem?_getD, List.getElem?_drop, show n + i.toNat = ((n : Int) + i).toNat from by omega]
def runeStep (x b : Int) : Int := bor .i64 (IntKind.i64.wrap (x * 64)) (IntKind.i64.wrap (bnd .u8 b 63))
def runeGo : List Int → Int → Option Int
  | [], x => some x
  | b :: r, x => if b.fdiv 64 ≠ 2 then none else runeGo r (runeStep x b)
def runeBad (x least : Int) : Prop := x < least ∨ x > 1114111 ∨ (x ≥ 55296 ∧ x < 57344)
instance (x least : Int) : Decidable (runeBad x least) := by unfold runeBad; infer_instance
def runeN (l : List Int) (n least x0 : Int) : Int :=
  if (l.length : Int) < n then 0 else match runeGo ((l.take n.toNat).drop 1) x0 with
    | none => 0
    | some x => if runeBad x least then 0 else n
def runeF (l : List Int) : Int :=
  if gt l 0 < 128 then 1
  else if gt l 0 ≥ 194 ∧ gt l 0 < 224 then runeN l 2 128 (bnd .i64 (gt l 0) 31)
  else if gt l 0 ≥ 224 ∧ gt l 0 < 240 then runeN l 3 2048 (bnd .i64 (gt l 0) 15)
  else if gt l 0 ≥ 240 ∧ gt l 0 < 245 then runeN l 4 65536 (bnd .i64 (gt l 0) 7)
  else 0
def RSel (l : List Int) (n least x0 : Int) : Prop := runeF l = runeN l n least x0
theorem rsel2 {l : List Int} (h : ¬ gt l 0 < 128) (h2 : gt l 0 ≥ 194 ∧ gt l 0 < 224) : RSel l 2 128 (bnd .i64 (gt l 0) 31) := by unfold RSel runeF; rw [if_neg h, if_pos h2]
theorem rsel3 {l : List Int} (h : ¬ gt l 0 < 128) (h2 : gt l 0 ≥ 224 ∧ gt l 0 < 240) : RSel l 3 2048 (bnd .i64 (gt l 0) 15) := by unfold RSel runeF; rw [if_neg h, if_neg (by omega), if_pos h2]
theorem rsel4 {l : List Int} (h : ¬ gt l 0 < 128) (h2 : gt l 0 ≥ 240 ∧ gt l 0 < 245) : RSel l 4 65536 (bnd .i64 (gt l 0) 7) := by unfold RSel runeF; rw [if_neg h, if_neg (by omega), if_neg (by omega), if_pos h2]
theorem rsel0 {l : List Int} (h : ¬ gt l 0 < 128) (h2 : ¬ (gt l 0 ≥ 194 ∧ gt l 0 < 224)) (h3 : ¬ (gt l 0 ≥ 224 ∧ gt l 0 < 240)) (h4 : ¬ (gt l 0 ≥ 240 ∧ gt l 0 < 245)) : 0 = runeF l := by unfold runeF; rw [if_neg h, if_neg h2, if_neg h3, if_neg h4]
theorem rsel1 {l : List Int} (h : gt l 0 < 128) : 1 = runeF l := by unfold runeF; rw [if_pos h]
theorem rn_short {l : List Int} {n least x0 : Int} (s : RSel l n least x0) (h : (l.length : Int) < n) : 0 = runeF l := by rw [s]; unfold runeN; rw [if_pos h]
theorem rn_step {l : List Int} {n i x : Int} (h0 : 1 ≤ i) (h1 : i < n) (h2 : n ≤ (l.length : Int)) (hb : (gt l i).fdiv 64 = 2) : runeGo ((l.take n.toNat).drop i.toNat) x = runeGo ((l.take n.toNat).drop (i + 1).toNat) (runeStep x (gt l i)) := by
  rw [drop_gt (by omega) (by rw [List.length_take]; omega), gt_take (by omega) (by omega)]
  rw [runeGo, if_neg (by simpa using hb)]
theorem rn_bad {l : List Int} {n least x0 i x : Int} (s : RSel l n least x0) (h0 : 1 ≤ i) (h1 : i < n) (h2 : n ≤ (l.length : Int)) (q : runeGo ((l.take n.toNat).drop i.toNat) x = runeGo ((l.take n.toNat).drop 1) x0) (hb : (gt l i).fdiv 64 ≠ 2) : 0 = runeF l := by
  rw [s]; unfold runeN
  rw [if_neg (by omega), ← q, drop_gt (by omega) (by rw [List.length_take]; omega), gt_take (by omega) (by omega), runeGo, if_pos hb]
theorem rn_end {l : List Int} {n least x0 i x : Int} (s : RSel l n least x0) (h0 : 1 ≤ i) (h1 : ¬ i < n) (h2 : n ≤ (l.length : Int)) (q : runeGo ((l.take n.toNat).drop i.toNat) x = runeGo ((l.take n.toNat).drop 1) x0) : runeF l = if runeBad x least then 0 else n := by
  rw [s]; unfold runeN
  rw [if_neg (by omega), ← q, List.drop_of_length_le (by rw [List.length_take]; omega), runeGo]
theorem rn_no {l : List Int} {n least x0 i x : Int} (s : RSel l n least x0) (h0 : 1 ≤ i) (h1 : ¬ i < n) (h2 : n ≤ (l.length : Int)) (q : runeGo ((l.take n.toNat).drop i.toNat) x = runeGo ((l.take n.toNat).drop 1) x0) (hb : runeBad x least) : 0 = runeF l := by rw [rn_end s h0 h1 h2 q, if_pos hb]
theorem rn_yes {l : List Int} {n least x0 i x : Int} (s : RSel l n least x0) (h0 : 1 ≤ i) (h1 : ¬ i < n) (h2 : n ≤ (l.length : Int)) (q : runeGo ((l.take n.toNat).drop i.toNat) x = runeGo ((l.take n.toNat).drop 1) x0) (hb : ¬ runeBad x least) : n = runeF l := by rw [rn_end s h0 h1 h2 q, if_neg hb]
theorem runeGo_high {r : List Int} {x y : Int} (h : runeGo r x = some y) : ∀ b ∈ r, 128 ≤ b := by
  induction r generalizing x with
  | nil => intro b hb; cases hb
  | cons c r ih =>
    rw [runeGo] at h
    split at h
    · cases h
    · rename_i hc
      intro b hb
      rcases List.mem_cons.1 hb with rfl | hb
      · have hc : b.fdiv 64 = 2 := Classical.not_not.1 hc
        rw [Int.fdiv_eq_ediv_of_nonneg _ (by decide)] at hc
        omega
      · exact ih h b hb
theorem runeN_spec {l : List Int} {n least x0 : Int} (hn : 2 ≤ n) : (runeN l n least x0 = 0) ∨ (runeN l n least x0 = n ∧ n ≤ (l.length : Int) ∧ ∀ b ∈ (l.take n.toNat).drop 1, 128 ≤ b) := by
  unfold runeN
  split
  · exact .inl rfl
  · cases hg : runeGo ((l.take n.toNat).drop 1) x0 with
    | none => exact .inl rfl
    | some x =>
      dsimp only
      split
      · exact .inl rfl
      · exact .inr ⟨rfl, by omega, runeGo_high hg⟩
theorem rune_spec (l : List Int) (hl : 0 < l.length) : 0 ≤ runeF l ∧ runeF l ≤ 4 ∧ runeF l ≤ (l.length : Int) ∧ (gt l 0 < 128 → runeF l = 1) ∧ (¬ gt l 0 < 128 → runeF l ≠ 1) ∧ ∀ b ∈ (l.take (runeF l).toNat).drop 1, 128 ≤ b := by
  unfold runeF
  by_cases h : gt l 0 < 128
  · rw [if_pos h]
    refine ⟨by omega, by omega, by omega, fun _ => rfl, fun h2 => absurd h h2, fun b hb => ?_⟩
    rw [List.drop_of_length_le (by rw [List.length_take]; simp; omega)] at hb
    cases hb
  · rw [if_neg h]
    have key : ∀ (n least x0 : Int), 2 ≤ n → n ≤ 4 → 0 ≤ runeN l n least x0 ∧ runeN l n least x0 ≤ 4 ∧ runeN l n least x0 ≤ (l.length : Int) ∧ (gt l 0 < 128 → runeN l n least x0 = 1) ∧ (¬ gt l 0 < 128 → runeN l n least x0 ≠ 1) ∧ ∀ b ∈ (l.take (runeN l n least x0).toNat).drop 1, 128 ≤ b := by
      intro n least x0 h2 h4
      rcases runeN_spec (l := l) (least := least) (x0 := x0) h2 with e | ⟨e, h5, h6⟩
      · rw [e]; exact ⟨by omega, by omega, by omega, fun h' => absurd h' h, fun _ => by omega, fun b hb => by simp at hb⟩
      · rw [e]; exact ⟨by omega, h4, h5, fun h' => absurd h' h, fun _ => by omega, h6⟩
    have zero : (0 : Int) ≤ 0 ∧ (0 : Int) ≤ 4 ∧ (0 : Int) ≤ (l.length : Int) ∧ (gt l 0 < 128 → (0 : Int) = 1) ∧ (¬ gt l 0 < 128 → (0 : Int) ≠ 1) ∧ ∀ b ∈ (l.take (0 : Int).toNat).drop 1, 128 ≤ b := ⟨by omega, by omega, by omega, fun h' => absurd h' h, fun _ => by omega, fun b hb => by simp at hb⟩
    split
    · exact key 2 _ _ (by decide) (by decide)
    split
    · exact key 3 _ _ (by decide) (by decide)
    split
    · exact key 4 _ _ (by decide) (by decide)
    · exact zero
def utfF (l : List Int) : Bool := if h : l = [] then true else if runeF l ≤ 0 then false else utfF (l.drop (max 1 (runeF l).toNat))
termination_by l.length
decreasing_by
  have : 0 < l.length := List.length_pos_iff.2 h
  rw [List.length_drop]; omega
theorem utf_nil : utfF [] = true := by rw [utfF]; rfl
theorem utf_no {l : List Int} (h : 0 < l.length) (hr : runeF l = 0) : utfF l = false := by
  rw [utfF, dif_neg (List.length_pos_iff.1 h), if_pos (by omega)]
theorem utf_step {l : List Int} (h : 0 < l.length) (hr : runeF l ≠ 0) : utfF l = utfF (l.drop (runeF l).toNat) := by
  have := (rune_spec l h).1
  conv => lhs; rw [utfF]
  rw [dif_neg (List.length_pos_iff.1 h), if_neg (by omega), show max 1 (runeF l).toNat = (runeF l).toNat from by omega]
theorem utf_next {l : List Int} {i : Int} (q : utfF (l.drop i.toNat) = utfF l) (h0 : 0 ≤ i) (h1 : i < (l.length : Int)) (hr : ¬ runeF (l.drop i.toNat) = 0) : utfF (l.drop (i + runeF (l.drop i.toNat)).toNat) = utfF l := by
  have hl : 0 < (l.drop i.toNat).length := by rw [List.length_drop]; omega
  have h2 := (rune_spec _ hl).1
  rw [← q, utf_step hl hr, List.drop_drop]
  congr 2
  omega
theorem utf_bad {l : List Int} {i : Int} (q : utfF (l.drop i.toNat) = utfF l) (h0 : 0 ≤ i) (h1 : i < (l.length : Int)) (hr : runeF (l.drop i.toNat) = 0) : false = utfF l := by
  rw [← q, utf_no (by rw [List.length_drop]; omega) hr]
theorem utf_end {l : List Int} {i : Int} (q : utfF (l.drop i.toNat) = utfF l) (h1 : ¬ i < (l.length : Int)) : true = utfF l := by
  rw [← q, List.drop_of_length_le (by omega), utf_nil]
def hexD : List Int := [48, 49, 50, 51, 52, 53, 54, 55, 56, 57, 97, 98, 99, 100, 101, 102]
def quoC (l : List Int) (n : Int) : List Int :=
  if n = 0 then [239, 191, 189]
  else if gt l 0 = 34 ∨ gt l 0 = 92 then [92, gt l 0]
  else if gt l 0 < 32 then [92, 117, 48, 48, gt hexD (gt l 0 / 16), gt hexD (gt l 0 % 16)]
  else l.take n.toNat
def quoF (l : List Int) : List Int := if h : l = [] then [] else quoC l (runeF l) ++ quoF (l.drop (max 1 (runeF l).toNat))
termination_by l.length
decreasing_by
  have : 0 < l.length := List.length_pos_iff.2 h
  rw [List.length_drop]; omega
theorem quo_nil : quoF [] = [] := by rw [quoF]; rfl
theorem quo_step {l : List Int} (h : 0 < l.length) : quoF l = quoC l (runeF l) ++ quoF (l.drop (max 1 (runeF l).toNat)) := by
  conv => lhs; rw [quoF]
  rw [dif_neg (List.length_pos_iff.1 h)]
def quoteF (s : ByteArray) : List Int := [34] ++ quoF (bs s) ++ [34]
theorem quo_next {l O X : List Int} {i n : Int} (q : O ++ quoF (l.drop i.toNat) = X) (h0 : 0 ≤ i) (h1 : i < (l.length : Int)) (hn : n = max 1 (runeF (l.drop i.toNat))) : O ++ quoC (l.drop i.toNat) (runeF (l.drop i.toNat)) ++ quoF (l.drop (i + n).toNat) = X := by
  have hl : 0 < (l.drop i.toNat).length := by rw [List.length_drop]; omega
  rw [← q, quo_step hl, List.drop_drop, List.append_assoc]
  congr 3
  rw [hn]
  congr 1
  omega
theorem quo_end {l O X : List Int} {i : Int} (q : O ++ quoF (l.drop i.toNat) = X) (h1 : ¬ i < (l.length : Int)) : O = X := by
  rw [← q, List.drop_of_length_le (by omega), quo_nil, List.append_nil]
theorem qc_bad {l : List Int} {n : Int} (h : n = 0) : quoC l n = [239, 191, 189] := by unfold quoC; rw [if_pos h]
theorem qc_mark {l : List Int} {n : Int} (h : ¬ n = 0) (h2 : gt l 0 = 34 ∨ gt l 0 = 92) : quoC l n = [92, gt l 0] := by unfold quoC; rw [if_neg h, if_pos h2]
theorem qc_low {l : List Int} {n : Int} (h : ¬ n = 0) (h2 : ¬ (gt l 0 = 34 ∨ gt l 0 = 92)) (h3 : gt l 0 < 32) : quoC l n = [92, 117, 48, 48, gt hexD (gt l 0 / 16), gt hexD (gt l 0 % 16)] := by unfold quoC; rw [if_neg h, if_neg h2, if_pos h3]
theorem qc_raw {l : List Int} {n : Int} (h : ¬ n = 0) (h2 : ¬ (gt l 0 = 34 ∨ gt l 0 = 92)) (h3 : ¬ gt l 0 < 32) : quoC l n = l.take n.toNat := by unfold quoC; rw [if_neg h, if_neg h2, if_neg h3]
theorem quoC_len {l : List Int} {n : Int} (h : 0 ≤ n) (h4 : n ≤ 4) : (quoC l n).length ≤ 6 := by
  unfold quoC
  split
  · simp
  split
  · simp
  split
  · simp
  · rw [List.length_take]; omega
def decL (a : Nat) : List Int := if a < 10 then [48 + (a : Int)] else decL (a / 10) ++ [48 + ((a % 10 : Nat) : Int)]
termination_by a
def numL (a : Int) : List Int := if a < 0 then 45 :: decL (-a).toNat else decL a.toNat
def numS (a : Int) : ByteArray := mkS (numL a)
theorem decL_range (a : Nat) : ∀ x ∈ decL a, 48 ≤ x ∧ x < 58 := by
  induction a using Nat.strongRecOn with
  | ind a ih =>
    rw [decL]
    split
    · intro x hx; simp at hx; omega
    · rename_i h
      intro x hx
      rcases List.mem_append.1 hx with hx | hx
      · exact ih (a / 10) (by omega) x hx
      · simp at hx; omega
theorem numL_range (a : Int) : ∀ x ∈ numL a, isB x := by
  unfold numL
  intro x hx
  split at hx
  · rcases List.mem_cons.1 hx with rfl | hx
    · exact ⟨by decide, by decide⟩
    · have := decL_range _ x hx; exact ⟨by omega, by omega⟩
  · have := decL_range _ x hx; exact ⟨by omega, by omega⟩
theorem bs_numS (a : Int) : bs (numS a) = numL a := bs_mkS (numL_range a)
end Go.SX
namespace Go.SX
theorem bsv {s : ByteArray} {i : Nat} : ((bs s).take s.size).drop i = (bs s).drop i := by rw [List.take_of_length_le (by rw [bs_len]; exact Nat.le_refl _)]
theorem utf_go {s : ByteArray} {i : Int} (h0 : 0 ≤ i) (h1 : i < (s.size : Int)) (q : utfF ((bs s).drop i.toNat) = utfF (bs s)) (hr : ¬ runeF (((bs s).take s.size).drop i.toNat) = 0) : 0 ≤ i + runeF (((bs s).take s.size).drop i.toNat) ∧ i + runeF (((bs s).take s.size).drop i.toNat) ≤ (s.size : Int) ∧ utfF ((bs s).drop (i + runeF (((bs s).take s.size).drop i.toNat)).toNat) = utfF (bs s) := by
  rw [bsv] at hr ⊢
  have hl : 0 < ((bs s).drop i.toNat).length := by rw [List.length_drop, bs_len]; omega
  have h2 := rune_spec _ hl
  have h3 := h2.2.2.1
  rw [List.length_drop, bs_len] at h3
  exact ⟨by omega, by omega, utf_next q h0 (by rw [bs_len]; exact h1) hr⟩
theorem utf_bad0 {s : ByteArray} {i : Int} (h0 : 0 ≤ i) (h1 : i < (s.size : Int)) (q : utfF ((bs s).drop i.toNat) = utfF (bs s)) (hr : runeF (((bs s).take s.size).drop i.toNat) = 0) : false = utfF (bs s) := by
  rw [bsv] at hr
  exact utf_bad q h0 (by rw [bs_len]; exact h1) hr
end Go.SX
namespace Go.SX
theorem rune_bd {s : ByteArray} {i : Int} (h0 : 0 ≤ i) (h1 : i < (s.size : Int)) : 0 ≤ runeF (((bs s).take s.size).drop i.toNat) ∧ runeF (((bs s).take s.size).drop i.toNat) ≤ 4 ∧ i + runeF (((bs s).take s.size).drop i.toNat) ≤ (s.size : Int) := by
  rw [bsv]
  have hl : 0 < ((bs s).drop i.toNat).length := by rw [List.length_drop, bs_len]; omega
  have h2 := rune_spec _ hl
  have h3 := h2.2.2.1
  rw [List.length_drop, bs_len] at h3
  exact ⟨h2.1, h2.2.1, by omega⟩
theorem gt_bsv {s : ByteArray} {i : Int} (h0 : 0 ≤ i) : gt ((bs s).drop i.toNat) 0 = gt (bs s) i := by rw [gt_drop (by decide)]; congr 1; omega
theorem quo_go {s : ByteArray} {O X C : List Int} {i n : Int} (q : O ++ quoF ((bs s).drop i.toNat) = X) (h0 : 0 ≤ i) (h1 : i < (s.size : Int)) (hn : n = max 1 (runeF (((bs s).take s.size).drop i.toNat))) (hC : C = quoC ((bs s).drop i.toNat) (runeF (((bs s).take s.size).drop i.toNat))) : (O ++ C) ++ quoF ((bs s).drop (i + n).toNat) = X := by
  rw [bsv] at hn hC
  rw [hC]
  exact quo_next q h0 (by rw [bs_len]; exact h1) hn
theorem qg_bad {s : ByteArray} {i : Int} (h : runeF (((bs s).take s.size).drop i.toNat) = 0) : [239, 191, 189] = quoC ((bs s).drop i.toNat) (runeF (((bs s).take s.size).drop i.toNat)) := (qc_bad h).symm
theorem qg_mark {s : ByteArray} {i : Int} (h0 : 0 ≤ i) (h : ¬ runeF (((bs s).take s.size).drop i.toNat) = 0) (h2 : gt (bs s) i = 34 ∨ gt (bs s) i = 92) : [92, gt (bs s) i] = quoC ((bs s).drop i.toNat) (runeF (((bs s).take s.size).drop i.toNat)) := by
  rw [qc_mark h (by rw [gt_bsv h0]; exact h2), gt_bsv h0]
theorem qg_low {s : ByteArray} {i : Int} (h0 : 0 ≤ i) (h : ¬ runeF (((bs s).take s.size).drop i.toNat) = 0) (h2 : ¬ (gt (bs s) i = 34 ∨ gt (bs s) i = 92)) (h3 : gt (bs s) i < 32) : [92, 117, 48, 48, gt hexD (gt (bs s) i / 16), gt hexD (gt (bs s) i % 16)] = quoC ((bs s).drop i.toNat) (runeF (((bs s).take s.size).drop i.toNat)) := by
  rw [qc_low h (by rw [gt_bsv h0]; exact h2) (by rw [gt_bsv h0]; exact h3), gt_bsv h0]
theorem qg_raw {s : ByteArray} {i n : Int} (h0 : 0 ≤ i) (h : ¬ runeF (((bs s).take s.size).drop i.toNat) = 0) (h2 : ¬ (gt (bs s) i = 34 ∨ gt (bs s) i = 92)) (h3 : ¬ gt (bs s) i < 32) (hn : 0 ≤ n) (e : n = runeF (((bs s).take s.size).drop i.toNat)) : ((bs s).take (i + n).toNat).drop i.toNat = quoC ((bs s).drop i.toNat) (runeF (((bs s).take s.size).drop i.toNat)) := by
  rw [qc_raw h (by rw [gt_bsv h0]; exact h2) (by rw [gt_bsv h0]; exact h3), ← e, show (i + n).toNat = i.toNat + n.toNat from by omega, List.drop_take]
  congr 1
  omega
end Go.SX
namespace Go.SX
theorem isB_dig {x : Int} (h : 0 ≤ x) : isB (48 + x % 10) := ⟨by omega, by omega⟩
theorem bs_dig {x : Int} {s : ByteArray} (h : 0 ≤ x) : bs (mkS [48 + x % 10] ++ s) = [48 + x % 10] ++ bs s := by
  rw [bs_append, bs_mkS]
  intro y hy
  simp at hy
  subst hy
  exact isB_dig h
theorem bs_inj {s t : ByteArray} (h : bs s = bs t) : s = t := by rw [← mkS_bs s, ← mkS_bs t, h]
theorem dec_next {x : Int} (h : 0 ≤ x) (h1 : ¬ x / 10 = 0) : decL x.toNat = decL (x / 10).toNat ++ [48 + x % 10] := by
  rw [decL, if_neg (by omega), show x.toNat / 10 = (x / 10).toNat from by omega, show ((x.toNat % 10 : Nat) : Int) = x % 10 from by omega]
theorem num_next {x a : Int} {s : ByteArray} (q : decL x.toNat ++ bs s = decL a.toNat) (h : 0 ≤ x) (h1 : ¬ x / 10 = 0) : decL (x / 10).toNat ++ bs (mkS [48 + x % 10] ++ s) = decL a.toNat := by
  rw [bs_dig h, ← q, dec_next h h1, List.append_assoc]
theorem num_done {x a : Int} {s : ByteArray} (q : decL x.toNat ++ bs s = decL a.toNat) (h : 0 ≤ x) (h1 : x / 10 = 0) (ha : 0 ≤ a) : mkS [48 + x % 10] ++ s = numS a := by
  apply bs_inj
  rw [bs_dig h, bs_numS, numL, if_neg (by omega), ← q, decL, if_pos (by omega)]
  congr 2
  omega
theorem num_neg {a : Int} (h : a < 0) : (⟨#[45]⟩ : ByteArray) ++ numS (-a) = numS a := by
  apply bs_inj
  rw [bs_append, bs_numS, bs_numS, numL, numL, if_neg (by omega), if_pos h]
  rfl
theorem num_min : (⟨#[45, 57, 50, 50, 51, 51, 55, 50, 48, 51, 54, 56, 53, 52, 55, 55, 53, 56, 48, 56]⟩ : ByteArray) = numS (-9223372036854775808) := by
  apply bs_inj
  rw [bs_numS, numL, if_pos (by decide)]
  rw [show (-(-9223372036854775808 : Int)).toNat = 9223372036854775808 from rfl]
  simp [decL]
  rfl
theorem dig_size {x : Int} {s : ByteArray} : (mkS [x] ++ s).size = s.size + 1 := by
  rw [← bs_len, bs_append, List.length_append, bs_len, bs_len, mkS_size]; simp; omega
theorem decL_len20 (a : Nat) (h : a < 10 ^ 20) : (decL a).length ≤ 20 := by
  have key : ∀ k a, a < 10 ^ (k + 1) → (decL a).length ≤ k + 1 := by
    intro k
    induction k with
    | zero => intro a h; rw [decL, if_pos (by omega)]; simp
    | succ k ih =>
      intro a h
      rw [decL]
      split
      · simp
      · rw [List.length_append]
        have := ih (a / 10) (by rw [Nat.pow_succ] at h; omega)
        simp; omega
  exact key 19 a h
theorem numL_len {a : Int} (h1 : -9223372036854775808 ≤ a) (h2 : a ≤ 9223372036854775807) : (numL a).length ≤ 21 := by
  unfold numL
  split
  · rw [List.length_cons]
    have := decL_len20 (-a).toNat (by omega)
    omega
  · have := decL_len20 a.toNat (by omega)
    omega
theorem numS_size {a : Int} (h1 : -9223372036854775808 ≤ a) (h2 : a ≤ 9223372036854775807) : (numS a).size ≤ 21 := by
  rw [← bs_len, bs_numS]; exact numL_len h1 h2
end Go.SX
namespace Go.SX
open Go
theorem toList_eq {a b : ByteArray} : (a.toList == b.toList) = true ↔ a.toList = b.toList := by simp
def pc1 (v : TN) : Prop := (((v.truth = true ∧ v.kind ≠ 2) ∨ (v.num ≠ 0 ∧ v.kind ≠ 3)) ∨ ((!(v.text.toList == (⟨#[]⟩ : ByteArray).toList)) = true ∧ v.kind ≠ 4)) ∨ (((v.ks.length : Int) > 0 ∧ v.kind ≠ 5) ∧ v.kind ≠ 6)
def pc2 (v : TN) : Prop := ((v.kind < 1 ∨ v.kind > 6) ∨ ¬ (v.num ≥ (-4611686018427387903) ∧ v.num ≤ 4611686018427387903)) ∨ ¬ (utfF (bs v.text) = true)
def apart : List ByteArray → Prop
  | [] => True
  | s :: r => (∀ t ∈ r, ¬ (s.toList == t.toList) = true) ∧ apart r
def plainP (v : TN) : Prop := ¬ pc1 v ∧ ¬ pc2 v ∧ (v.kind ≠ 6 → v.ns.length = 0) ∧ (v.kind = 6 → (∀ i : Int, 0 ≤ i → i < (v.ns.length : Int) → utfF (bs (gt v.ns i)) = true ∧ ∀ j : Int, 0 ≤ j → j < i → ¬ ((gt v.ns j).toList == (gt v.ns i).toList) = true) ∧ v.ns.length = v.ks.length)
theorem pl_1 {v : TN} (h : pc1 v) : (false = true ↔ plainP v) := ⟨(fun e => by cases e), fun e => absurd h e.1⟩
theorem pl_2 {v : TN} (h : pc2 v) : (false = true ↔ plainP v) := ⟨(fun e => by cases e), fun e => absurd h e.2.1⟩
theorem pl_3 {v : TN} {r : Bool} (h1 : ¬ pc1 v) (h2 : ¬ pc2 v) (h : v.kind ≠ 6) (hr : r = true ↔ (v.ns.length : Int) = 0) : (r = true ↔ plainP v) := by
  rw [hr]
  exact ⟨fun e => ⟨h1, h2, fun _ => by omega, fun e2 => absurd e2 h⟩, fun e => by have := e.2.2.1 h; omega⟩
theorem pl_utf {v : TN} {i : Int} (hk : ¬ v.kind ≠ 6) (h0 : 0 ≤ i) (h1 : i < (v.ns.length : Int)) (h : ¬ utfF (bs (gt v.ns i)) = true) : (false = true ↔ plainP v) := ⟨(fun e => by cases e), fun e => absurd ((e.2.2.2 (by omega)).1 i h0 h1).1 h⟩
theorem pl_twice {v : TN} {i j : Int} (hk : ¬ v.kind ≠ 6) (h0 : 0 ≤ i) (h1 : i < (v.ns.length : Int)) (h2 : 0 ≤ j) (h3 : j < i) (h : ((gt v.ns j).toList == (gt v.ns i).toList) = true) : (false = true ↔ plainP v) := ⟨(fun e => by cases e), fun e => absurd h (((e.2.2.2 (by omega)).1 i h0 h1).2 j h2 h3)⟩
theorem pl_end {v : TN} {i : Int} {r : Bool} (h1 : ¬ pc1 v) (h2 : ¬ pc2 v) (hk : ¬ v.kind ≠ 6) (q : ∀ i' : Int, 0 ≤ i' → i' < i → utfF (bs (gt v.ns i')) = true ∧ ∀ j : Int, 0 ≤ j → j < i' → ¬ ((gt v.ns j).toList == (gt v.ns i').toList) = true) (hi : ¬ i < (v.ns.length : Int)) (hr : r = true ↔ (v.ns.length : Int) = (v.ks.length : Int)) : (r = true ↔ plainP v) := by
  rw [hr]
  exact ⟨fun e => ⟨h1, h2, fun e2 => absurd e2 hk, fun _ => ⟨fun i' a b => q i' a (by omega), by omega⟩⟩, fun e => by have := (e.2.2.2 (by omega)).2; omega⟩
theorem pl_next {ns : List ByteArray} {i k : Int} (q : ∀ i' : Int, 0 ≤ i' → i' < i → utfF (bs (gt ns i')) = true ∧ ∀ j : Int, 0 ≤ j → j < i' → ¬ ((gt ns j).toList == (gt ns i').toList) = true) (hu : utfF (bs (gt ns i)) = true) (p : ∀ j : Int, 0 ≤ j → j < k → ¬ ((gt ns j).toList == (gt ns i).toList) = true) (hk : ¬ k < i) : ∀ i' : Int, 0 ≤ i' → i' < i + 1 → utfF (bs (gt ns i')) = true ∧ ∀ j : Int, 0 ≤ j → j < i' → ¬ ((gt ns j).toList == (gt ns i').toList) = true := by
  intro i' a b
  by_cases e : i' = i
  · subst e; exact ⟨hu, fun j c d => p j c (by omega)⟩
  · exact q i' a (by omega)
theorem pl_step {ns : List ByteArray} {i k : Int} (p : ∀ j : Int, 0 ≤ j → j < k → ¬ ((gt ns j).toList == (gt ns i).toList) = true) (h : ¬ ((gt ns k).toList == (gt ns i).toList) = true) : ∀ j : Int, 0 ≤ j → j < k + 1 → ¬ ((gt ns j).toList == (gt ns i).toList) = true := by
  intro j a b
  by_cases e : j = k
  · subst e; exact h
  · exact p j a (by omega)
def TB (v : TN) : Prop := v.text.size ≤ 1000000 ∧ (∀ s ∈ v.ns, s.size ≤ 1000000) ∧ v.ns.length ≤ 1000000 ∧ v.ks.length ≤ 1000000 ∧ -9223372036854775808 ≤ v.num ∧ v.num ≤ 9223372036854775807
end Go.SX
namespace Go.SX
def ckKids (i : Int) (deep : List Int) : List Int → List Int → Int → Option (List Int × Int)
  | [], used, most => some (used, most)
  | k :: ks, used, most => if k < 0 ∨ k ≥ i then none else ckKids i deep ks (used.set k.toNat (gt used k + 1)) (if gt deep k > most then gt deep k else most)
open Classical in
noncomputable def ckAll : List TN → Int → List Int → List Int → Option (List Int × List Int)
  | [], _, used, deep => some (used, deep)
  | t :: ts, i, used, deep => if plainP t then (match ckKids i deep t.ks used 0 with
      | none => none
      | some (u, m) => ckAll ts (i + 1) u (deep.set i.toNat (if t.kind ≥ 5 then m + 1 else m))) else none
def zs (n : Nat) : List Int := List.replicate n 0
open Classical in
noncomputable def checkF (l : List TN) : Int :=
  if (l.length : Int) = 0 then 29 else if (l.length : Int) > 8192 then 27 else match ckAll l 0 (zs l.length) (zs l.length) with
    | none => 29
    | some (used, deep) => if ∃ j : Int, 0 ≤ j ∧ j < (l.length : Int) - 1 ∧ gt used j ≠ 1 then 29 else if gt deep ((l.length : Int) - 1) > 16 then 26 else 0
theorem ck_0 {l : List TV} (h : (l.length : Int) = 0) : 29 = checkF (vs l) := by unfold checkF; rw [vs_len, if_pos h]
theorem ck_27 {l : List TV} (h : ¬ (l.length : Int) = 0) (h2 : (l.length : Int) > 8192) : 27 = checkF (vs l) := by unfold checkF; rw [vs_len, if_neg h, if_pos h2]
theorem ck_none {l : List TV} (h : ¬ (l.length : Int) = 0) (h2 : ¬ (l.length : Int) > 8192) (q : ckAll (vs l) 0 (zs l.length) (zs l.length) = none) : 29 = checkF (vs l) := by unfold checkF; rw [vs_len, if_neg h, if_neg h2, q]
theorem ck_drop {l : List TV} {i : Int} (h0 : 0 ≤ i) (h1 : i < (l.length : Int)) : (vs l).drop i.toNat = (gt l i).v :: (vs l).drop (i + 1).toNat := by
  rw [drop_gt h0 (by rw [vs_len]; exact h1), vs_gt h0 h1]
section
variable {l : List TV} {U D U2 : List Int} {i k m : Int} {X : Option (List Int × List Int)}
theorem ck_plain (q : ckAll ((vs l).drop i.toNat) i U D = X) (h0 : 0 ≤ i) (h1 : i < (l.length : Int)) (hp : ¬ plainP (gt l i).v) : X = none := by
  rw [← q, ck_drop h0 h1, ckAll, if_neg hp]
theorem ck_kid (q : ckAll ((vs l).drop i.toNat) i U D = X) (h0 : 0 ≤ i) (h1 : i < (l.length : Int)) (hp : plainP (gt l i).v) (p : ckKids i D ((gt l i).v.ks.drop k.toNat) U2 m = ckKids i D (gt l i).v.ks U 0) (k0 : 0 ≤ k) (k1 : k < ((gt l i).v.ks.length : Int)) (hb : gt (gt l i).v.ks k < 0 ∨ gt (gt l i).v.ks k ≥ i) : X = none := by
  rw [← q, ck_drop h0 h1, ckAll, if_pos hp, ← p, drop_gt k0 k1, ckKids, if_pos hb]
theorem ck_next (q : ckAll ((vs l).drop i.toNat) i U D = X) (h0 : 0 ≤ i) (h1 : i < (l.length : Int)) (hp : plainP (gt l i).v) (p : ckKids i D ((gt l i).v.ks.drop k.toNat) U2 m = ckKids i D (gt l i).v.ks U 0) (k1 : ¬ k < ((gt l i).v.ks.length : Int)) {m' : Int} (hm : m' = if (gt l i).v.kind ≥ 5 then m + 1 else m) : ckAll ((vs l).drop (i + 1).toNat) (i + 1) U2 (D.set i.toNat m') = X := by
  rw [← q, ck_drop h0 h1]
  conv => rhs; rw [ckAll]
  rw [if_pos hp, ← p, List.drop_of_length_le (l := (gt l i).v.ks) (by omega), ckKids, hm]
theorem kid_next {ks : List Int} {Y : Option (List Int × Int)} (p : ckKids i D (ks.drop k.toNat) U2 m = Y) (k0 : 0 ≤ k) (k1 : k < (ks.length : Int)) (hb : ¬ (gt ks k < 0 ∨ gt ks k ≥ i)) {m' : Int} (hm : m' = if gt D (gt ks k) > m then gt D (gt ks k) else m) : ckKids i D (ks.drop (k + 1).toNat) (U2.set (gt ks k).toNat (gt U2 (gt ks k) + 1)) m' = Y := by
  rw [← p, drop_gt k0 k1]
  conv => rhs; rw [ckKids]
  rw [if_neg hb, hm]
def Btw (U : List Int) (a b : Int) : Prop := ∀ x ∈ U, a ≤ x ∧ x ≤ b
theorem Btw.gt {a b : Int} (h : Btw U a b) (ha : a ≤ 0) (hb : 0 ≤ b) (i : Int) : a ≤ gt U i ∧ gt U i ≤ b := by
  unfold SX.gt
  rw [List.getD_eq_getElem?_getD]
  cases hq : U[i.toNat]? with
  | none => exact ⟨ha, hb⟩
  | some x => exact h x (List.mem_of_getElem? hq)
theorem Btw.set {a b c x : Int} {n : Nat} (h : Btw U a b) (hb : b ≤ c) (h1 : a ≤ x) (h2 : x ≤ c) : Btw (U.set n x) a c := fun y hy => by
  rcases List.mem_or_eq_of_mem_set hy with hy | rfl
  · have := h y hy; omega
  · exact ⟨h1, h2⟩
theorem Btw.mono {a b c : Int} (h : Btw U a b) (hb : b ≤ c) : Btw U a c := fun y hy => by have := h y hy; omega
theorem btw_zs {n : Nat} : Btw (zs n) 0 0 := fun y hy => by have := List.eq_of_mem_replicate hy; omega
theorem ck_twice (h : ¬ (l.length : Int) = 0) (h2 : ¬ (l.length : Int) > 8192) (q : ckAll ((vs l).drop i.toNat) i U D = ckAll (vs l) 0 (zs l.length) (zs l.length)) (hi : ¬ i < (l.length : Int)) {j : Int} (j0 : 0 ≤ j) (j1 : j < (l.length : Int) - 1) (hj : gt U j ≠ 1) : 29 = checkF (vs l) := by
  unfold checkF
  rw [vs_len, if_neg h, if_neg h2, ← q, List.drop_of_length_le (by rw [vs_len]; omega), ckAll]
  dsimp only
  rw [if_pos ⟨j, j0, j1, hj⟩]
theorem ck_deep (h : ¬ (l.length : Int) = 0) (h2 : ¬ (l.length : Int) > 8192) (q : ckAll ((vs l).drop i.toNat) i U D = ckAll (vs l) 0 (zs l.length) (zs l.length)) (hi : ¬ i < (l.length : Int)) {j : Int} (hu : ∀ j' : Int, 0 ≤ j' → j' < j → gt U j' = 1) (j1 : ¬ j < (l.length : Int) - 1) : checkF (vs l) = if gt D ((l.length : Int) - 1) > 16 then 26 else 0 := by
  unfold checkF
  rw [vs_len, if_neg h, if_neg h2, ← q, List.drop_of_length_le (by rw [vs_len]; omega), ckAll]
  dsimp only
  rw [if_neg]
  rintro ⟨j', a, b, c⟩
  exact c (hu j' a (by omega))
end
end Go.SX
namespace Go.SX
theorem nat_ind {P : Nat → Prop} (h0 : P 0) (hs : ∀ f, P f → P (f + 1)) : ∀ f, P f := fun f => by
  induction f with
  | zero => exact h0
  | succ f ih => exact hs f ih
def upTo (f : Int → List Int) : Nat → List Int
  | 0 => []
  | n + 1 => upTo f n ++ f n
def itemF (v : TN) (w : Int → List Int) (i : Int) : List Int := (if i > 0 then [44] else []) ++ (if v.kind = 6 then quoteF (gt v.ns i) ++ [58] else []) ++ w (gt v.ks i)
def markO (v : TN) : Int := if v.kind = 6 then 123 else 91
def markC (v : TN) : Int := if v.kind = 6 then 125 else 93
def wF : Nat → List TN → Int → List Int
  | 0, _, _ => []
  | n + 1, l, i =>
    if (gt l i).kind = 1 then [110, 117, 108, 108]
    else if (gt l i).kind = 2 then (if (gt l i).truth = true then [116, 114, 117, 101] else [102, 97, 108, 115, 101])
    else if (gt l i).kind = 3 then numL (gt l i).num
    else if (gt l i).kind = 4 then quoteF (gt l i).text
    else [markO (gt l i)] ++ upTo (itemF (gt l i) (wF n l)) (gt l i).ks.length ++ [markC (gt l i)]
def Valid (l : List TV) : Prop := ∀ i : Int, 0 ≤ i → i < (l.length : Int) → ((∀ k ∈ (gt l i).v.ks, 0 ≤ k ∧ k < i) ∧ ((gt l i).v.kind = 6 → (gt l i).v.ns.length = (gt l i).v.ks.length))
theorem up_next {f : Int → List Int} {i : Int} (h : 0 ≤ i) : upTo f (i + 1).toNat = upTo f i.toNat ++ f i := by
  rw [show (i + 1).toNat = i.toNat + 1 from by omega, upTo, show ((i.toNat : Nat) : Int) = i from by omega]
theorem up_mono {f : Int → List Int} {a b : Nat} (h : a ≤ b) : (upTo f a).length ≤ (upTo f b).length := by
  induction h with
  | refl => exact Nat.le_refl _
  | step _ ih => rw [upTo, List.length_append]; omega
theorem up_le {f : Int → List Int} {i : Int} {n : Nat} (h : 0 ≤ i) (h1 : i < (n : Int)) : (upTo f i.toNat).length + (f i).length ≤ (upTo f n).length := by
  have := up_mono (f := f) (show (i + 1).toNat ≤ n by omega)
  rw [up_next h, List.length_append] at this
  exact this
section
variable {f : Nat} {l : List TV} {i : Int}
theorem w_1 (h0 : 0 ≤ i) (h1 : i < (l.length : Int)) (k1 : (gt l i).v.kind = 1) : wF (f + 1) (vs l) i = [110, 117, 108, 108] := by rw [wF, vs_gt h0 h1, if_pos k1]
theorem w_2t (h0 : 0 ≤ i) (h1 : i < (l.length : Int)) (k1 : (gt l i).v.kind = 2) (t : (gt l i).v.truth = true) : wF (f + 1) (vs l) i = [116, 114, 117, 101] := by rw [wF, vs_gt h0 h1, if_neg (by omega), if_pos k1, if_pos t]
theorem w_2f (h0 : 0 ≤ i) (h1 : i < (l.length : Int)) (k1 : (gt l i).v.kind = 2) (t : ¬ (gt l i).v.truth = true) : wF (f + 1) (vs l) i = [102, 97, 108, 115, 101] := by rw [wF, vs_gt h0 h1, if_neg (by omega), if_pos k1, if_neg t]
theorem w_3 (h0 : 0 ≤ i) (h1 : i < (l.length : Int)) (k1 : (gt l i).v.kind = 3) : wF (f + 1) (vs l) i = numL (gt l i).v.num := by rw [wF, vs_gt h0 h1, if_neg (by omega), if_neg (by omega), if_pos k1]
theorem w_4 (h0 : 0 ≤ i) (h1 : i < (l.length : Int)) (k1 : (gt l i).v.kind = 4) : wF (f + 1) (vs l) i = quoteF (gt l i).v.text := by rw [wF, vs_gt h0 h1, if_neg (by omega), if_neg (by omega), if_neg (by omega), if_pos k1]
theorem w_5 (h0 : 0 ≤ i) (h1 : i < (l.length : Int)) (k1 : ¬ (gt l i).v.kind = 1) (k2 : ¬ (gt l i).v.kind = 2) (k3 : ¬ (gt l i).v.kind = 3) (k4 : ¬ (gt l i).v.kind = 4) : wF (f + 1) (vs l) i = [markO (gt l i).v] ++ upTo (itemF (gt l i).v (wF f (vs l))) (gt l i).v.ks.length ++ [markC (gt l i).v] := by
  rw [wF, vs_gt h0 h1, if_neg k1, if_neg k2, if_neg k3, if_neg k4]
theorem w_5len (h0 : 0 ≤ i) (h1 : i < (l.length : Int)) (k1 : ¬ (gt l i).v.kind = 1) (k2 : ¬ (gt l i).v.kind = 2) (k3 : ¬ (gt l i).v.kind = 3) (k4 : ¬ (gt l i).v.kind = 4) : (wF (f + 1) (vs l) i).length = (upTo (itemF (gt l i).v (wF f (vs l))) (gt l i).v.ks.length).length + 2 := by
  rw [w_5 h0 h1 k1 k2 k3 k4]; simp
end
theorem item_len (v : TN) (w : Int → List Int) (i : Int) : (itemF v w i).length = (if i > 0 then 1 else 0) + (if v.kind = 6 then (quoteF (gt v.ns i)).length + 1 else 0) + (w (gt v.ks i)).length := by
  unfold itemF
  rw [List.length_append, List.length_append]
  congr 2
  · split <;> rfl
  · split
    · rw [List.length_append]; rfl
    · rfl
theorem w_next {v : TN} {w : Int → List Int} {X O Y : List Int} {i : Int} (q : X = O ++ upTo (itemF v w) i.toNat) (h : 0 ≤ i) (hY : Y = X ++ itemF v w i) : Y = O ++ upTo (itemF v w) (i + 1).toNat := by
  rw [hY, q, up_next h, List.append_assoc]
end Go.SX
namespace Go.SX
theorem ckKids_ok {i : Int} {D : List Int} : ∀ {ks U : List Int} {m : Int} {r : List Int × Int}, ckKids i D ks U m = some r → ∀ k ∈ ks, 0 ≤ k ∧ k < i
  | [], _, _, _, _ => fun k hk => by cases hk
  | k :: ks, U, m, r, h => by
    rw [ckKids] at h
    split at h
    · cases h
    · rename_i hb
      intro k' hk'
      rcases List.mem_cons.1 hk' with rfl | hk'
      · omega
      · exact ckKids_ok h k' hk'
theorem ckAll_ok : ∀ {ts : List TN} {i : Int} {U D : List Int} {r : List Int × List Int}, ckAll ts i U D = some r → ∀ (j : Nat) t, ts[j]? = some t → plainP t ∧ ∀ k ∈ t.ks, 0 ≤ k ∧ k < i + j
  | [], _, _, _, _, _ => fun j t ht => by simp at ht
  | t :: ts, i, U, D, r, h => by
    rw [ckAll] at h
    split at h
    · rename_i hp
      split at h
      · cases h
      · rename_i u m hk
        intro j t' ht'
        cases j with
        | zero =>
          simp at ht'
          subst ht'
          exact ⟨hp, fun k hk' => by have := ckKids_ok hk k hk'; omega⟩
        | succ j =>
          have := ckAll_ok h j t' (by simpa using ht')
          exact ⟨this.1, fun k hk' => by have := this.2 k hk'; omega⟩
    · cases h
theorem check_valid {l : List TV} (h : checkF (vs l) = 0) : 0 < l.length ∧ Valid l := by
  unfold checkF at h
  rw [vs_len] at h
  split at h
  · omega
  · rename_i h0
    split at h
    · omega
    · split at h
      · omega
      · rename_i used deep hk
        refine ⟨by omega, fun i a b => ?_⟩
        have hlt : i.toNat < l.length := by omega
        have hg := ckAll_ok hk i.toNat (gt l i).v (by rw [← vs_gt a b]; exact gt_at a (by rw [vs_len]; exact b))
        refine ⟨fun k hk' => by have := hg.2 k hk'; omega, fun e => (hg.1.2.2.2 e).2⟩
def showF (l : List TN) : List Int := wF l.length l ((l.length : Int) - 1)
end Go.SX
namespace Go.SX
open Go
structure Pr where
  name : ByteArray
  pos : Int
  deriving Inhabited
def ePr : Enc Pr where
  sz := 2
  enc x := [.string x.name, .int .i64 x.pos]
  len _ := rfl
  one x u hu := by simp at hu; rcases hu with rfl | rfl <;> rfl
  pos := by decide
theorem map_next {α β : Type} [Inhabited α] {f : α → β} {l : List α} {X : List β} {i : Int} (h : X = (l.take i.toNat).map f) (h0 : 0 ≤ i) (h1 : i < (l.length : Int)) : X ++ [f (gt l i)] = (l.take (i + 1).toNat).map f := by
  rw [take_gt h0 h1, List.map_append, h]; rfl
theorem map_end {α β : Type} {f : α → β} {l : List α} {X : List β} {i : Int} (h : X = (l.take i.toNat).map f) (h1 : ¬ i < (l.length : Int)) : X = l.map f := by
  rw [h, List.take_of_length_le (by omega)]
end Go.SX
namespace Go.SX
open Go Go.RowKit
section
variable {V : Env} {P : Program} {Q : Exit → Act → World → Prop} {ops : Array Oper} {N : Nat} {o : Oper} {rest : List Oper} {L : List (Nat × Value)} {H R : List Res} {S : Nat → Prop} {wf : World} {K : St → Prop} {st : St}
theorem SC.packl {e1 e2 : Nat} {l : List TV} (v : TN) {c : Code} (hp : Pick H (nest e1 e2 l) R) (h1 : v.ns = []) (h2 : v.ks = [])
    (h : SC V P Q N c ⟨L, nest e1 e2 (l ++ [TV.mk v none 0 none 0]) :: R, S, wf⟩) : SC V P Q N c ⟨L, H, S, wf⟩ := fun a w hs hw => by
  have h3 := ((hw.perm hp.perm).nilrow eZ e2).nilrow eS e1
  refine h a w hs (WW.pack (t := TV.mk v none 0 none 0) ?_ (by rw [h1]; simp) (by rw [h2]; simp))
  have e3 : (rw_ eS e1 (nV (TV.mk v none 0 none 0)) v.ns) = rw_ eS e1 (.slice none 0 0) [] := by show rw_ eS e1 (.slice none v.ns.length 0) v.ns = _; rw [h1]; rfl
  have e4 : (rw_ eZ e2 (kV (TV.mk v none 0 none 0)) v.ks) = rw_ eZ e2 (.slice none 0 0) [] := by show rw_ eZ e2 (.slice none v.ks.length 0) v.ks = _; rw [h2]; rfl
  show WW V S wf (nest e1 e2 l :: rw_ eS e1 (nV (TV.mk v none 0 none 0)) v.ns :: rw_ eZ e2 (kV (TV.mk v none 0 none 0)) v.ks :: R) w
  rw [e3, e4]
  exact h3.perm (List.perm_middle (l₁ := [rw_ eS e1 (.slice none 0 0) [], rw_ eZ e2 (.slice none 0 0) []]) (a := nest e1 e2 l) (l₂ := R))
end
def sStatus : ByteArray := ⟨#[115, 116, 97, 116, 117, 115]⟩
def sError : ByteArray := ⟨#[101, 114, 114, 111, 114]⟩
def sCode : ByteArray := ⟨#[99, 111, 100, 101]⟩
def sAt : ByteArray := ⟨#[97, 116]⟩
def sPath : ByteArray := ⟨#[112, 97, 116, 104]⟩
def faultT (cd at_ : Int) (path : ByteArray) : List TN :=
  [⟨4, false, 0, sError, [], []⟩, ⟨3, false, cd, ⟨#[]⟩, [], []⟩, ⟨3, false, at_, ⟨#[]⟩, [], []⟩, ⟨4, false, 0, path, [], []⟩, ⟨6, false, 0, ⟨#[]⟩, [sStatus, sCode, sAt, sPath], [0, 1, 2, 3]⟩]
def fitP (n : Int) : Prop := n ≥ (-4611686018427387903) ∧ n ≤ 4611686018427387903
theorem all_step {l : List Int} {i : Int} (h : ∀ x ∈ l.take i.toNat, fitP x) (h0 : 0 ≤ i) (h1 : i < (l.length : Int)) (hf : fitP (gt l i)) : ∀ x ∈ l.take (i + 1).toNat, fitP x := by
  rw [take_gt h0 h1]
  intro x hx
  rcases List.mem_append.1 hx with hx | hx
  · exact h x hx
  · simp at hx; subst hx; exact hf
end Go.SX
namespace Go.SX
open Go
def escB (c : Int) : List Int := if c = 34 ∨ c = 92 then [92, c] else if c < 32 then [92, 117, 48, 48, gt hexD (c / 16), gt hexD (c % 16)] else [c]
theorem esc_high {l : List Int} (h : ∀ b ∈ l, 128 ≤ b) : l.flatMap escB = l := by
  induction l with
  | nil => rfl
  | cons a l ih =>
    have ha := h a (by simp)
    rw [List.flatMap_cons, ih (fun b hb => h b (by simp [hb]))]
    have : escB a = [a] := by unfold escB; rw [if_neg (by omega), if_neg (by omega)]
    rw [this]; rfl
theorem head_gt {l : List Int} (h : 0 < l.length) : l = gt l 0 :: l.drop 1 := by
  cases l with
  | nil => simp at h
  | cons a l => rfl
theorem quo_esc : ∀ (n : Nat) (l : List Int), l.length ≤ n → utfF l = true → quoF l = l.flatMap escB := by
  intro n
  induction n with
  | zero =>
    intro l hl _
    have : l = [] := List.eq_nil_of_length_eq_zero (by omega)
    subst this
    rw [quo_nil]; rfl
  | succ n ih =>
    intro l hl hu
    by_cases h0 : l.length = 0
    · have : l = [] := List.eq_nil_of_length_eq_zero h0
      subst this
      rw [quo_nil]; rfl
    · have hp : 0 < l.length := by omega
      obtain ⟨r0, r1, r2, r3, r4, r5⟩ := rune_spec l hp
      have hr : runeF l ≠ 0 := by
        intro e
        rw [utf_no hp e] at hu
        cases hu
      have hu2 : utfF (l.drop (runeF l).toNat) = true := by rw [← utf_step hp hr]; exact hu
      rw [quo_step hp, show max 1 (runeF l).toNat = (runeF l).toNat from by omega]
      rw [ih _ (by rw [List.length_drop]; omega) hu2]
      conv => rhs; rw [← List.take_append_drop (runeF l).toNat l, List.flatMap_append]
      congr 1
      by_cases hc : gt l 0 < 128
      · have e1 := r3 hc
        have ht : l.take (runeF l).toNat = [gt l 0] := by
          rw [e1]
          conv => lhs; rw [head_gt hp]
          rfl
        rw [ht]
        show _ = escB (gt l 0) ++ []
        rw [List.append_nil]
        unfold quoC escB
        rw [if_neg hr, ht]
      · have ht : ∀ b ∈ l.take (runeF l).toNat, 128 ≤ b := by
          intro b hb
          have e2 : 0 < (runeF l).toNat := by omega
          rw [head_gt (l := l.take (runeF l).toNat) (by rw [List.length_take]; omega)] at hb
          rcases List.mem_cons.1 hb with rfl | hb
          · rw [gt_take (by decide) (by omega)]; omega
          · exact r5 b hb
        rw [esc_high ht]
        unfold quoC
        rw [if_neg hr, if_neg (by omega), if_neg (by omega)]
theorem decL_head (n : Nat) : ∃ x t, decL n = x :: t ∧ 48 ≤ x := by
  cases hd : decL n with
  | nil =>
    rw [decL] at hd
    split at hd <;> simp at hd
  | cons x t => exact ⟨x, t, rfl, (decL_range n x (by rw [hd]; simp)).1⟩
theorem numL_no (a : Int) (x : Int) (hx : x ∈ numL a) : x = 45 ∨ (48 ≤ x ∧ x < 58) := by
  unfold numL at hx
  split at hx
  · rcases List.mem_cons.1 hx with rfl | hx
    · exact .inl rfl
    · exact .inr (decL_range _ x hx)
  · exact .inr (decL_range _ x hx)
def faultL (cd at_ : Int) (path : ByteArray) : List Int :=
  [123] ++ (quoteF sStatus ++ [58] ++ quoteF sError ++ [44]) ++ (quoteF sCode ++ [58]) ++ numL cd ++ 44 :: ((quoteF sAt ++ [58]) ++ numL at_ ++ 44 :: ((quoteF sPath ++ [58]) ++ (quoteF path ++ [125])))
theorem fault_show (cd at_ : Int) (path : ByteArray) : showF (faultT cd at_ path) = faultL cd at_ path := by
  have e0 : ∀ n, wF (n + 1) (faultT cd at_ path) 0 = quoteF sError := fun n => by
    rw [wF]; rfl
  have e1 : ∀ n, wF (n + 1) (faultT cd at_ path) 1 = numL cd := fun n => by
    rw [wF]; rfl
  have e2 : ∀ n, wF (n + 1) (faultT cd at_ path) 2 = numL at_ := fun n => by
    rw [wF]; rfl
  have e3 : ∀ n, wF (n + 1) (faultT cd at_ path) 3 = quoteF path := fun n => by
    rw [wF]; rfl
  show wF 5 (faultT cd at_ path) 4 = _
  rw [wF]
  have hg : gt (faultT cd at_ path) 4 = ⟨6, false, 0, ⟨#[]⟩, [sStatus, sCode, sAt, sPath], [0, 1, 2, 3]⟩ := rfl
  rw [hg]
  simp only [markO, markC]
  rw [if_neg (by decide), if_neg (by decide), if_neg (by decide), if_neg (by decide), if_pos trivial, if_pos trivial]
  show [123] ++ upTo (itemF _ _) 4 ++ [125] = _
  simp only [upTo, itemF]
  simp only [show ((0 : Nat) : Int) = 0 from rfl, show ((1 : Nat) : Int) = 1 from rfl, show ((2 : Nat) : Int) = 2 from rfl, show ((3 : Nat) : Int) = 3 from rfl]
  simp only [show gt ([0, 1, 2, 3] : List Int) 0 = 0 from rfl, show gt ([0, 1, 2, 3] : List Int) 1 = 1 from rfl, show gt ([0, 1, 2, 3] : List Int) 2 = 2 from rfl, show gt ([0, 1, 2, 3] : List Int) 3 = 3 from rfl, show gt [sStatus, sCode, sAt, sPath] 0 = sStatus from rfl, show gt [sStatus, sCode, sAt, sPath] 1 = sCode from rfl, show gt [sStatus, sCode, sAt, sPath] 2 = sAt from rfl, show gt [sStatus, sCode, sAt, sPath] 3 = sPath from rfl]
  rw [e0, e1, e2, e3]
  simp [faultL]
theorem ascii_utf : ∀ (n : Nat) (l : List Int), l.length ≤ n → (∀ x ∈ l, x < 128) → utfF l = true := by
  intro n
  induction n with
  | zero =>
    intro l hl _
    have : l = [] := List.eq_nil_of_length_eq_zero (by omega)
    subst this; exact utf_nil
  | succ n ih =>
    intro l hl h
    by_cases h0 : l.length = 0
    · have : l = [] := List.eq_nil_of_length_eq_zero h0
      subst this; exact utf_nil
    · have hp : 0 < l.length := by omega
      obtain ⟨r0, r1, r2, r3, r4, r5⟩ := rune_spec l hp
      have e1 := r3 (h _ (gt_mem (by decide) (by omega)))
      rw [utf_step hp (by omega), e1]
      exact ih _ (by rw [List.length_drop]; simp; omega) (fun x hx => h x (List.mem_of_mem_drop hx))
theorem plain_leaf {k n : Int} {s : ByteArray} (hk : k = 3 ∧ s = ⟨#[]⟩ ∨ k = 4 ∧ n = 0) (hn : fitP n) (hu : utfF (bs s) = true) : plainP ⟨k, false, n, s, [], []⟩ := by
  refine ⟨?_, ?_, fun _ => rfl, fun e => ?_⟩
  · unfold pc1
    rcases hk with ⟨rfl, rfl⟩ | ⟨rfl, rfl⟩
    · rintro (((e | e) | e) | e)
      · exact absurd e.1 (by simp)
      · exact e.2 rfl
      · exact absurd e.1 (by simp)
      · exact absurd e.1.1 (by simp)
    · rintro (((e | e) | e) | e)
      · exact absurd e.1 (by simp)
      · exact e.1 rfl
      · exact e.2 rfl
      · exact absurd e.1.1 (by simp)
  · unfold pc2
    unfold fitP at hn
    rintro ((e | e) | e)
    · dsimp only at e; rcases hk with ⟨rfl, _⟩ | ⟨rfl, _⟩ <;> omega
    · exact e hn
    · exact e hu
  · dsimp only at e; rcases hk with ⟨rfl, _⟩ | ⟨rfl, _⟩ <;> omega
theorem utf_lit {s : ByteArray} (h : (bs s).all (fun x => decide (x < 128)) = true) : utfF (bs s) = true := ascii_utf _ _ (Nat.le_refl _) (fun x hx => by have := List.all_eq_true.1 h x hx; simpa using this)
theorem plain_top : plainP ⟨6, false, 0, ⟨#[]⟩, [sStatus, sCode, sAt, sPath], [0, 1, 2, 3]⟩ := by
  refine ⟨?_, ?_, fun e => absurd rfl e, fun _ => ⟨?_, rfl⟩⟩
  · unfold pc1
    rintro (((e | e) | e) | e)
    · exact absurd e.1 (by decide)
    · exact e.1 rfl
    · exact absurd e.1 (by simp)
    · exact e.2 rfl
  · unfold pc2
    rintro ((e | e) | e)
    · dsimp only at e; omega
    · exact e (by dsimp only; omega)
    · exact e (utf_lit (by decide))
  · intro i h0 h1
    have h1 : i < 4 := h1
    rcases (show i = 0 ∨ i = 1 ∨ i = 2 ∨ i = 3 by omega) with rfl | rfl | rfl | rfl
    · exact ⟨utf_lit (by decide), fun j a b => by omega⟩
    · refine ⟨utf_lit (by decide), fun j a b => ?_⟩
      rcases (show j = 0 by omega) with rfl
      decide +kernel
    · refine ⟨utf_lit (by decide), fun j a b => ?_⟩
      rcases (show j = 0 ∨ j = 1 by omega) with rfl | rfl <;> decide +kernel
    · refine ⟨utf_lit (by decide), fun j a b => ?_⟩
      rcases (show j = 0 ∨ j = 1 ∨ j = 2 by omega) with rfl | rfl | rfl <;> decide +kernel
theorem fit0 : fitP 0 := by unfold fitP; omega
theorem fault_check {cd at_ : Int} {path : ByteArray} (h1 : fitP cd) (h2 : fitP at_) (h3 : utfF (bs path) = true) : checkF (faultT cd at_ path) = 0 := by
  have p0 : plainP ⟨4, false, 0, sError, [], []⟩ := plain_leaf (.inr ⟨rfl, rfl⟩) fit0 (utf_lit (by decide))
  have p1 : plainP ⟨3, false, cd, ⟨#[]⟩, [], []⟩ := plain_leaf (.inl ⟨rfl, rfl⟩) h1 (utf_lit (by decide))
  have p2 : plainP ⟨3, false, at_, ⟨#[]⟩, [], []⟩ := plain_leaf (.inl ⟨rfl, rfl⟩) h2 (utf_lit (by decide))
  have p3 : plainP ⟨4, false, 0, path, [], []⟩ := plain_leaf (.inr ⟨rfl, rfl⟩) fit0 h3
  have hk : ckKids 4 [0, 0, 0, 0, 0] [0, 1, 2, 3] [0, 0, 0, 0, 0] 0 = some ([1, 1, 1, 1, 0], 0) := by decide
  have e : ckAll (faultT cd at_ path) 0 (zs 5) (zs 5) = some ([1, 1, 1, 1, 0], [0, 0, 0, 0, 1]) := by
    unfold faultT
    rw [ckAll, if_pos p0]; dsimp only [ckKids]
    rw [ckAll, if_pos p1]; dsimp only [ckKids]
    rw [ckAll, if_pos p2]; dsimp only [ckKids]
    rw [ckAll, if_pos p3]; dsimp only [ckKids]
    rw [ckAll, if_pos plain_top]
    show (match ckKids 4 [0, 0, 0, 0, 0] [0, 1, 2, 3] [0, 0, 0, 0, 0] 0 with
      | none => none
      | some (u, m) => ckAll [] 5 u (([0, 0, 0, 0, 0] : List Int).set 4 (if (6 : Int) ≥ 5 then m + 1 else m))) = _
    rw [hk]
    rfl
  unfold checkF
  rw [if_neg (by show ¬ ((5 : Nat) : Int) = 0; decide), if_neg (by show ¬ ((5 : Nat) : Int) > 8192; decide)]
  rw [show (faultT cd at_ path).length = 5 from rfl, e]
  dsimp only
  rw [if_neg]
  · rw [if_neg]
    show ¬ gt ([0, 0, 0, 0, 1] : List Int) 4 > 16
    decide
  · rintro ⟨j, a, b, c⟩
    have b : j < 4 := b
    rcases (show j = 0 ∨ j = 1 ∨ j = 2 ∨ j = 3 by omega) with rfl | rfl | rfl | rfl <;> exact absurd c (by decide)
theorem quoF_len : ∀ (n : Nat) (l : List Int), l.length ≤ n → (quoF l).length ≤ 6 * l.length := by
  intro n
  induction n with
  | zero =>
    intro l hl
    have : l = [] := List.eq_nil_of_length_eq_zero (by omega)
    subst this; rw [quo_nil]; simp
  | succ n ih =>
    intro l hl
    by_cases h0 : l.length = 0
    · have : l = [] := List.eq_nil_of_length_eq_zero h0
      subst this; rw [quo_nil]; simp
    · have hp : 0 < l.length := by omega
      obtain ⟨r0, r1, r2, _⟩ := rune_spec l hp
      rw [quo_step hp, List.length_append]
      have h1 := quoC_len (l := l) r0 r1
      have h2 := ih (l.drop (max 1 (runeF l).toNat)) (by rw [List.length_drop]; omega)
      rw [List.length_drop] at h2
      omega
theorem quoteF_len (s : ByteArray) : (quoteF s).length ≤ 6 * s.size + 2 := by
  unfold quoteF
  have := quoF_len _ (bs s) (Nat.le_refl _)
  rw [bs_len] at this
  simp only [List.length_append, List.length_cons, List.length_nil]
  omega
theorem fault_len {cd at_ : Int} {path : ByteArray} (h1 : -9223372036854775808 ≤ cd ∧ cd ≤ 9223372036854775807) (h2 : -9223372036854775808 ≤ at_ ∧ at_ ≤ 9223372036854775807) : (faultL cd at_ path).length ≤ 6 * path.size + 1000 := by
  have a := numL_len h1.1 h1.2
  have b := numL_len h2.1 h2.2
  have c := quoteF_len path
  have d := quoteF_len sStatus
  have e := quoteF_len sError
  have f := quoteF_len sCode
  have g := quoteF_len sAt
  have h := quoteF_len sPath
  have d' : sStatus.size = 6 := rfl
  have e' : sError.size = 5 := rfl
  have f' : sCode.size = 4 := rfl
  have g' : sAt.size = 2 := rfl
  have h' : sPath.size = 4 := rfl
  unfold faultL
  simp only [List.length_append, List.length_cons, List.length_nil]
  omega
theorem fault_TB {L : List TV} {cd at_ : Int} {path : ByteArray} (h : vs L = faultT cd at_ path) (hp : path.size ≤ 1000000) (h1 : -9223372036854775808 ≤ cd ∧ cd ≤ 9223372036854775807) (h2 : -9223372036854775808 ≤ at_ ∧ at_ ≤ 9223372036854775807) : ∀ t ∈ L, TB t.v := by
  intro t ht
  have hm : t.v ∈ faultT cd at_ path := by rw [← h]; exact List.mem_map.2 ⟨t, ht, rfl⟩
  generalize t.v = v at hm
  simp only [faultT, List.mem_cons, List.not_mem_nil, or_false] at hm
  have z0 : (⟨#[]⟩ : ByteArray).size = 0 := rfl
  rcases hm with rfl | rfl | rfl | rfl | rfl
  · exact ⟨by show (5 : Nat) ≤ _; decide, by simp, by simp, by simp, by decide, by decide⟩
  · exact ⟨by show (0 : Nat) ≤ _; decide, by simp, by simp, by simp, h1.1, h1.2⟩
  · exact ⟨by show (0 : Nat) ≤ _; decide, by simp, by simp, by simp, h2.1, h2.2⟩
  · exact ⟨hp, by simp, by simp, by simp, by show (-9223372036854775808 : Int) ≤ 0; decide, by show (0 : Int) ≤ 9223372036854775807; decide⟩
  · refine ⟨by show (0 : Nat) ≤ _; decide, ?_, by simp, by simp, by decide, by decide⟩
    intro s hs
    simp only [List.mem_cons, List.not_mem_nil, or_false] at hs
    rcases hs with rfl | rfl | rfl | rfl
    · show (6 : Nat) ≤ _; decide
    · show (4 : Nat) ≤ _; decide
    · show (2 : Nat) ≤ _; decide
    · show (4 : Nat) ≤ _; decide
end Go.SX
namespace Go.SX
theorem quote_ascii {s : ByteArray} (h : (bs s).all (fun x => decide (x < 128) && decide (32 ≤ x) && decide (x ≠ 34) && decide (x ≠ 92)) = true) : quoteF s = [34] ++ bs s ++ [34] := by
  have hh : ∀ x ∈ bs s, x < 128 ∧ 32 ≤ x ∧ x ≠ 34 ∧ x ≠ 92 := fun x hx => by
    have := List.all_eq_true.1 h x hx
    simp only [Bool.and_eq_true, decide_eq_true_eq] at this
    exact ⟨this.1.1.1, this.1.1.2, this.1.2, this.2⟩
  unfold quoteF
  rw [quo_esc _ _ (Nat.le_refl _) (ascii_utf _ _ (Nat.le_refl _) (fun x hx => (hh x hx).1))]
  congr 2
  generalize bs s = l at hh
  induction l with
  | nil => rfl
  | cons a l ih =>
    have ha := hh a (by simp)
    rw [List.flatMap_cons, ih (fun x hx => hh x (by simp [hx]))]
    have : escB a = [a] := by unfold escB; rw [if_neg (by omega), if_neg (by omega)]
    rw [this]; rfl
theorem awake_text : ((mkS (faultL 21 3 ⟨#[]⟩)).toList == (⟨#[123, 34, 115, 116, 97, 116, 117, 115, 34, 58, 34, 101, 114, 114, 111, 114, 34, 44, 34, 99, 111, 100, 101, 34, 58, 50, 49, 44, 34, 97, 116, 34, 58, 51, 44, 34, 112, 97, 116, 104, 34, 58, 34, 34, 125]⟩ : ByteArray).toList) = true := by
  have h1 : faultL 21 3 ⟨#[]⟩ = bs ⟨#[123, 34, 115, 116, 97, 116, 117, 115, 34, 58, 34, 101, 114, 114, 111, 114, 34, 44, 34, 99, 111, 100, 101, 34, 58, 50, 49, 44, 34, 97, 116, 34, 58, 51, 44, 34, 112, 97, 116, 104, 34, 58, 34, 34, 125]⟩ := by
    have n1 : numL 21 = [50, 49] := by simp [numL, decL]
    have n2 : numL 3 = [51] := by simp [numL, decL]
    unfold faultL
    rw [quote_ascii (s := sStatus) (by decide), quote_ascii (s := sError) (by decide), quote_ascii (s := sCode) (by decide), quote_ascii (s := sAt) (by decide), quote_ascii (s := sPath) (by decide), quote_ascii (s := ⟨#[]⟩) (by decide), n1, n2]
    rfl
  rw [h1, mkS_bs]
  simp
theorem quoC_range {l : List Int} {n : Int} (h : ∀ x ∈ l, isB x) (hl : 0 < l.length) : ∀ x ∈ quoC l n, isB x := by
  have h0 := h _ (gt_mem (i := 0) (by decide) (by omega))
  have hx : ∀ i, isB (gt hexD i) := fun i => gt_range (by unfold isB; decide) i
  unfold quoC
  split
  · intro x hx; simp at hx; rcases hx with rfl | rfl | rfl <;> exact ⟨by decide, by decide⟩
  split
  · intro x hx; simp at hx; rcases hx with rfl | rfl
    · exact ⟨by decide, by decide⟩
    · exact h0
  split
  · intro x hx'; simp at hx'; rcases hx' with rfl | rfl | rfl | rfl | rfl
    · exact ⟨by decide, by decide⟩
    · exact ⟨by decide, by decide⟩
    · exact ⟨by decide, by decide⟩
    · exact hx _
    · exact hx _
  · intro x hx; exact h x (List.mem_of_mem_take hx)
theorem quoF_range : ∀ (n : Nat) (l : List Int), l.length ≤ n → (∀ x ∈ l, isB x) → ∀ x ∈ quoF l, isB x := by
  intro n
  induction n with
  | zero =>
    intro l hl _
    have : l = [] := List.eq_nil_of_length_eq_zero (by omega)
    subst this; rw [quo_nil]; simp
  | succ n ih =>
    intro l hl h
    by_cases h0 : l.length = 0
    · have : l = [] := List.eq_nil_of_length_eq_zero h0
      subst this; rw [quo_nil]; simp
    · have hp : 0 < l.length := by omega
      rw [quo_step hp]
      intro x hx
      rcases List.mem_append.1 hx with hx | hx
      · exact quoC_range h hp x hx
      · exact ih _ (by rw [List.length_drop]; omega) (fun y hy => h y (List.mem_of_mem_drop hy)) x hx
theorem quoteF_range (s : ByteArray) : ∀ x ∈ quoteF s, isB x := by
  unfold quoteF
  intro x hx
  simp only [List.mem_append, List.mem_singleton] at hx
  rcases hx with (rfl | hx) | rfl
  · exact ⟨by decide, by decide⟩
  · exact quoF_range _ _ (Nat.le_refl _) (bs_range s) x hx
  · exact ⟨by decide, by decide⟩
end Go.SX
namespace Go.SX
open Go Go.RowKit
structure ST where
  kind : Int
  item : Int
  place : Int
  arr : Int
  wait : Int
  serv : Int
  load : List Int
  time : Int
  dist : Int
  lA : Option Addr
  lc : Nat
  deriving Inhabited
def eST : Enc ST where
  sz := 9
  enc s := [.int .i64 s.kind, .int .i64 s.item, .int .i64 s.place, .int .i64 s.arr, .int .i64 s.wait, .int .i64 s.serv, .slice s.lA s.load.length s.lc, .int .i64 s.time, .int .i64 s.dist]
  len _ := rfl
  one x u hu := by simp at hu; rcases hu with rfl | rfl | rfl | rfl | rfl | rfl | rfl | rfl | rfl <;> rfl
  pos := by decide
structure PV where
  veh : Int
  steps : List ST
  time : Int
  dist : Int
  wait : Int
  serv : Int
  cost : Int
  sA : Option Addr
  sc : Nat
  deriving Inhabited
def ePL : Enc PV where
  sz := 7
  enc p := [.int .i64 p.veh, .slice p.sA p.steps.length p.sc, .int .i64 p.time, .int .i64 p.dist, .int .i64 p.wait, .int .i64 p.serv, .int .i64 p.cost]
  len _ := rfl
  one x u hu := by simp at hu; rcases hu with rfl | rfl | rfl | rfl | rfl | rfl | rfl <;> rfl
  pos := by decide
structure TK where
  ship : Bool
  item : Int
  deriving Inhabited, DecidableEq
def eTK : Enc TK where
  sz := 2
  enc t := [.bool t.ship, .int .i64 t.item]
  len _ := rfl
  one x u hu := by simp at hu; rcases hu with rfl | rfl <;> rfl
  pos := by decide
def NS (S : Nat → Prop) (wf : World) (l : List ST) : Prop := ∀ s ∈ l, Fr eZ S wf s.lA s.load
def NP (S : Nat → Prop) (wf : World) (l : List PV) : Prop := ∀ p ∈ l, Fr eST S wf p.sA p.steps ∧ NS S wf p.steps
theorem NS.ext {S S' : Nat → Prop} {wf wf' : World} {l : List ST} (h : NS S wf l) (hx : Ext S wf S' wf') : NS S' wf' l := fun t ht => (h t ht).ext hx
theorem NP.ext {S S' : Nat → Prop} {wf wf' : World} {l : List PV} (h : NP S wf l) (hx : Ext S wf S' wf') : NP S' wf' l := fun t ht => ⟨(h t ht).1.ext hx, (h t ht).2.ext hx⟩
theorem NS.nil {S : Nat → Prop} {wf : World} : NS S wf [] := fun t ht => by cases ht
theorem NP.nil {S : Nat → Prop} {wf : World} : NP S wf [] := fun t ht => by cases ht
section
variable {V : Env} {P : Program} {Q : Exit → Act → World → Prop} {ops : Array Oper} {N : Nat} {o : Oper} {rest : List Oper} {L : List (Nat × Value)} {H R : List Res} {S : Nat → Prop} {wf : World} {K : St → Prop} {st : St}
theorem WW.nestapp {e1 e2 : Nat} {l m : List TV} {w : World} (h : WW V S wf (nest e1 e2 l :: nest e1 e2 m :: R) w) : WW V S wf (nest e1 e2 (l ++ m) :: R) w := by
  have hf : feet (nest e1 e2 (l ++ m) :: R) = feet (nest e1 e2 l :: nest e1 e2 m :: R) := by
    simp [nest, List.flatMap_append]
  exact {
    has := fun r hr => by
      rcases List.mem_cons.1 hr with rfl | hr
      · intro u hu
        rcases List.mem_append.1 hu with hu | hu
        · exact h.has _ (List.mem_cons_self ..) u hu
        · exact h.has (nest e1 e2 m) (by simp) u hu
      · exact h.has r (by simp [hr])
    nd := hf ▸ h.nd
    sep := fun b hb => h.sep b (hf ▸ hb)
    fz := h.fz, new := h.new, fr := h.fr, sz := h.sz, os := h.os, tape := h.tape, output := h.output }
theorem SC.nestapp {e1 e2 : Nat} {l m : List TV} {c : Code} (hp : PickL H [nest e1 e2 l, nest e1 e2 m] R) (h : SC V P Q N c ⟨L, nest e1 e2 (l ++ m) :: R, S, wf⟩) : SC V P Q N c ⟨L, H, S, wf⟩ := fun a w hs hw => h a w hs ((hw.perm hp.perm).nestapp)
end
def numN (n : Int) : TN := ⟨3, false, n, ⟨#[]⟩, [], []⟩
def txtN (s : ByteArray) : TN := ⟨4, false, 0, s, [], []⟩
def truN (b : Bool) : TN := ⟨2, b, 0, ⟨#[]⟩, [], []⟩
def lisN (ks : List Int) : TN := ⟨5, false, 0, ⟨#[]⟩, [], ks⟩
def objN (ns : List ByteArray) (ks : List Int) : TN := ⟨6, false, 0, ⟨#[]⟩, ns, ks⟩
def seqI (k : Int) : Nat → List Int
  | 0 => []
  | n + 1 => seqI k n ++ [k + n]
theorem seqI_next {k i : Int} (h : 0 ≤ i) : seqI k (i + 1).toNat = seqI k i.toNat ++ [k + i] := by
  have e : (i + 1).toNat = i.toNat + 1 := by omega
  have e2 : ((i.toNat : Nat) : Int) = i := by omega
  rw [e, seqI, e2]
def numsF (k : Int) (m : List Int) : List TN := m.map numN ++ [lisN (seqI k m.length)]
theorem nums_next {m : List Int} {i : Int} {M : List TV} (h : vs M = (m.take i.toNat).map numN) (h0 : 0 ≤ i) (h1 : i < (m.length : Int)) :
    vs (M ++ [TV.mk (TN.mk 3 false (gt m i) ⟨#[]⟩ [] []) none 0 none 0]) = (m.take (i + 1).toNat).map numN := by rw [vs_app, h, take_gt h0 h1, List.map_append]; rfl
theorem nums_end {m : List Int} {i k : Int} {M : List TV} {X : List Int} {kA : Option Addr} {kc : Nat} (h : vs M = (m.take i.toNat).map numN) (hX : X = seqI k i.toNat) (h0 : i ≤ (m.length : Int)) (h1 : ¬ i < (m.length : Int)) :
    vs (M ++ [TV.mk (TN.mk 5 false 0 ⟨#[]⟩ [] X) none 0 kA kc]) = numsF k m := by
  have e : i.toNat = m.length := by omega
  rw [vs_app, h, hX, e, List.take_length]; rfl
theorem numsF_len (k : Int) (m : List Int) : (numsF k m).length = m.length + 1 := by simp [numsF]
def kindsL : List ByteArray := [⟨#[106, 111, 98]⟩, ⟨#[112, 105, 99, 107, 117, 112]⟩, ⟨#[100, 101, 108, 105, 118, 101, 114, 121]⟩, ⟨#[98, 114, 101, 97, 107]⟩, ⟨#[115, 116, 97, 114, 116]⟩, ⟨#[101, 110, 100]⟩]
def wordK (k : Int) : ByteArray := if 1 ≤ k ∧ k ≤ 6 then gt kindsL (k - 1) else ⟨#[63]⟩
def kz (k : Int) : Int := IntKind.i64.wrap (k - 1)
theorem kz_or {k : Int} (h : -9223372036854775808 ≤ k ∧ k ≤ 9223372036854775807) : (kz k = k - 1 ∧ -9223372036854775808 < k) ∨ (k = -9223372036854775808 ∧ kz k = 9223372036854775807) := by
  by_cases e : k = -9223372036854775808
  · subst e; exact .inr ⟨rfl, by decide⟩
  · exact .inl ⟨wrap_in (by omega) (by omega), by omega⟩
def stepNs : List ByteArray := [⟨#[116, 121, 112, 101]⟩, ⟨#[105, 116, 101, 109]⟩, ⟨#[112, 108, 97, 99, 101]⟩, ⟨#[97, 114, 114, 105, 118, 97, 108]⟩, ⟨#[119, 97, 105, 116]⟩, ⟨#[115, 101, 114, 118, 105, 99, 101]⟩, ⟨#[108, 111, 97, 100]⟩, ⟨#[116, 105, 109, 101]⟩, ⟨#[100, 105, 115, 116]⟩]
def stepF (k : Int) (s : ST) : List TN :=
  [txtN (wordK s.kind), numN s.item, numN s.place, numN s.arr, numN s.wait, numN s.serv] ++ numsF (k + 6) s.load ++ [numN s.time, numN s.dist, objN stepNs [k, k + 1, k + 2, k + 3, k + 4, k + 5, k + 6 + s.load.length, k + 7 + s.load.length, k + 8 + s.load.length]]
theorem stepF_len (k : Int) (s : ST) : (stepF k s).length = s.load.length + 10 := by simp [stepF, numsF]
def stepsF (k : Int) : List ST → List TN × List Int → List TN × List Int
  | [], x => x
  | s :: r, x => stepsF k r (x.1 ++ stepF (k + x.1.length) s, x.2 ++ [k + x.1.length + s.load.length + 9])
theorem stepsF_app (k : Int) (a b : List ST) : ∀ x, stepsF k (a ++ b) x = stepsF k b (stepsF k a x) := by
  induction a with
  | nil => intro x; rfl
  | cons s r ih => intro x; exact ih _
theorem stepsF_next {k i : Int} {l : List ST} (h0 : 0 ≤ i) (h1 : i < (l.length : Int)) {T : List TN} {K : List Int} (h : stepsF k (l.take i.toNat) ([], []) = (T, K)) :
    stepsF k (l.take (i + 1).toNat) ([], []) = (T ++ stepF (k + T.length) (gt l i), K ++ [k + T.length + (gt l i).load.length + 9]) := by
  rw [take_gt h0 h1, stepsF_app, h]; rfl
def planNs : List ByteArray := [⟨#[118, 101, 104, 105, 99, 108, 101]⟩, ⟨#[99, 111, 115, 116]⟩, ⟨#[116, 105, 109, 101]⟩, ⟨#[100, 105, 115, 116]⟩, ⟨#[119, 97, 105, 116]⟩, ⟨#[115, 101, 114, 118, 105, 99, 101]⟩, ⟨#[115, 116, 101, 112, 115]⟩]
def planF (k : Int) (p : PV) : List TN :=
  [numN p.veh, numN p.cost, numN p.time, numN p.dist, numN p.wait, numN p.serv] ++ (stepsF (k + 6) p.steps ([], [])).1 ++ [lisN (stepsF (k + 6) p.steps ([], [])).2, objN planNs [k, k + 1, k + 2, k + 3, k + 4, k + 5, k + 6 + (stepsF (k + 6) p.steps ([], [])).1.length]]
def plansF (k : Int) : List PV → List TN × List Int → List TN × List Int
  | [], x => x
  | p :: r, x => plansF k r (x.1 ++ planF (k + x.1.length) p, x.2 ++ [k + x.1.length + (planF (k + x.1.length) p).length - 1])
theorem plansF_app (k : Int) (a b : List PV) : ∀ x, plansF k (a ++ b) x = plansF k b (plansF k a x) := by
  induction a with
  | nil => intro x; rfl
  | cons s r ih => intro x; exact ih _
theorem plansF_next {k i : Int} {l : List PV} (h0 : 0 ≤ i) (h1 : i < (l.length : Int)) {T : List TN} {K : List Int} (h : plansF k (l.take i.toNat) ([], []) = (T, K)) :
    plansF k (l.take (i + 1).toNat) ([], []) = (T ++ planF (k + T.length) (gt l i), K ++ [k + T.length + (planF (k + T.length) (gt l i)).length - 1]) := by
  rw [take_gt h0 h1, plansF_app, h]; rfl
def sumNs : List ByteArray := [⟨#[114, 111, 117, 116, 101, 115]⟩, ⟨#[118, 97, 108, 117, 101]⟩, ⟨#[99, 111, 115, 116]⟩, ⟨#[116, 105, 109, 101]⟩, ⟨#[100, 105, 115, 116]⟩, ⟨#[119, 97, 105, 116]⟩, ⟨#[115, 101, 114, 118, 105, 99, 101]⟩, ⟨#[108, 101, 102, 116]⟩]
structure SU where
  routes : Int
  value : Int
  cost : Int
  time : Int
  dist : Int
  wait : Int
  serv : Int
  left : Int
def sumsF (k : Int) (s : SU) : List TN :=
  [numN s.routes, numN s.value, numN s.cost, numN s.time, numN s.dist, numN s.wait, numN s.serv, numN s.left, objN sumNs [k, k + 1, k + 2, k + 3, k + 4, k + 5, k + 6, k + 7]]
def wordT (b : Bool) : ByteArray := if b then ⟨#[115, 104, 105, 112, 109, 101, 110, 116]⟩ else ⟨#[106, 111, 98]⟩
def taskNs : List ByteArray := [⟨#[116, 121, 112, 101]⟩, ⟨#[105, 116, 101, 109]⟩]
def taskF (k : Int) (t : TK) : List TN := [txtN (wordT t.ship), numN t.item, objN taskNs [k, k + 1]]
def tasksF (k : Int) : List TK → List TN × List Int → List TN × List Int
  | [], x => x
  | p :: r, x => tasksF k r (x.1 ++ taskF (k + x.1.length) p, x.2 ++ [k + x.1.length + 2])
theorem tasksF_app (k : Int) (a b : List TK) : ∀ x, tasksF k (a ++ b) x = tasksF k b (tasksF k a x) := by
  induction a with
  | nil => intro x; rfl
  | cons s r ih => intro x; exact ih _
theorem tasksF_next {k i : Int} {l : List TK} (h0 : 0 ≤ i) (h1 : i < (l.length : Int)) {T : List TN} {K : List Int} (h : tasksF k (l.take i.toNat) ([], []) = (T, K)) :
    tasksF k (l.take (i + 1).toNat) ([], []) = (T ++ taskF (k + T.length) (gt l i), K ++ [k + T.length + 2]) := by
  rw [take_gt h0 h1, tasksF_app, h]; rfl
def wholeNs : List ByteArray := [⟨#[115, 116, 97, 116, 117, 115]⟩, ⟨#[111, 112, 116, 105, 109, 97, 108]⟩, ⟨#[115, 117, 109, 109, 97, 114, 121]⟩, ⟨#[114, 111, 117, 116, 101, 115]⟩, ⟨#[117, 110, 97, 115, 115, 105, 103, 110, 101, 100]⟩]
def okP (ps : List PV) : List TN × List Int := plansF 11 ps ([], [])
def okK (ps : List PV) (lf : List TK) : List TN × List Int := tasksF (12 + (okP ps).1.length) lf ([], [])
def okT (op : Bool) (su : SU) (ps : List PV) (lf : List TK) : List TN :=
  [txtN ⟨#[111, 107]⟩, truN op] ++ sumsF 2 su ++ (okP ps).1 ++ [lisN (okP ps).2] ++ (okK ps lf).1 ++ [lisN (okK ps lf).2] ++ [objN wholeNs [0, 1, 10, 11 + (okP ps).1.length, 12 + (okP ps).1.length + (okK ps lf).1.length]]
theorem steps_next {a i b r : Int} {l : List ST} {M M2 : List TV} {X : List Int} (h : stepsF a (l.take i.toNat) ([], []) = (vs M, X)) (h2 : vs M2 = stepF b (gt l i)) (hb : b = a + M.length) (hr : r = b + (gt l i).load.length + 9) (h0 : 0 ≤ i) (h1 : i < (l.length : Int)) :
    stepsF a (l.take (i + 1).toNat) ([], []) = (vs (M ++ M2), X ++ [r]) := by
  rw [stepsF_next h0 h1 h, vs_app, h2, hr, hb, vs_len]
theorem plans_next {a i b r : Int} {l : List PV} {M M2 : List TV} {X : List Int} (h : plansF a (l.take i.toNat) ([], []) = (vs M, X)) (h2 : vs M2 = planF b (gt l i)) (hb : b = a + M.length) (hr : r = b + M2.length - 1) (h0 : 0 ≤ i) (h1 : i < (l.length : Int)) :
    plansF a (l.take (i + 1).toNat) ([], []) = (vs (M ++ M2), X ++ [r]) := by
  rw [plansF_next h0 h1 h, vs_app, hr, ← vs_len M2, h2, hb, vs_len]
theorem tasks_next {a i b r : Int} {l : List TK} {M : List TV} {X : List Int} {ns : List ByteArray} {ks : List Int} {nA kA : Option Addr} {nc kc : Nat} (h : tasksF a (l.take i.toNat) ([], []) = (vs M, X)) (hb : b = a + M.length) (hns : ns = taskNs) (hks : ks = [b, b + 1]) (hr : r = b + 2) (h0 : 0 ≤ i) (h1 : i < (l.length : Int)) :
    tasksF a (l.take (i + 1).toNat) ([], []) = (vs (((M ++ [TV.mk (TN.mk 4 false 0 (wordT (gt l i).ship) [] []) none 0 none 0]) ++ [TV.mk (TN.mk 3 false (gt l i).item ⟨#[]⟩ [] []) none 0 none 0]) ++ [TV.mk (TN.mk 6 false 0 ⟨#[]⟩ ns ks) nA nc kA kc]), X ++ [r]) := by
  rw [tasksF_next h0 h1 h, hr, hb]
  subst hns hks hb
  simp only [vs_app, vs_len, taskF]
  simp [vs, txtN, numN, objN]
theorem tree_lay {op : Bool} {su : SU} {ps : List PV} {lf : List TK} {a0 a1 a2 : Int} {S1 M M2 : List TV} {X X2 : List Int} {ns : List ByteArray} {ks : List Int} {nA kA lA lB : Option Addr} {nc kc lc ld : Nat} (hS : vs S1 = sumsF a0 su) (ha0 : a0 = 2) (hP : plansF a1 ps ([], []) = (vs M, X)) (ha1 : a1 = 11)
    (hT : tasksF a2 lf ([], []) = (vs M2, X2)) (ha2 : a2 = 12 + M.length) (hns : ns = wholeNs) (hks : ks = [0, 1, 10, 11 + (M.length : Int), 12 + (M.length : Int) + M2.length]) :
    vs (((((((([] ++ [TV.mk (TN.mk 4 false 0 ⟨#[111, 107]⟩ [] []) none 0 none 0]) ++ [TV.mk (TN.mk 2 op 0 ⟨#[]⟩ [] []) none 0 none 0]) ++ S1) ++ M) ++ [TV.mk (TN.mk 5 false 0 ⟨#[]⟩ [] X) none 0 lA lc]) ++ M2) ++ [TV.mk (TN.mk 5 false 0 ⟨#[]⟩ [] X2) none 0 lB ld]) ++ [TV.mk (TN.mk 6 false 0 ⟨#[]⟩ ns ks) nA nc kA kc]) = okT op su ps lf := by
  subst ha0 ha1 ha2 hns hks
  have e1 : okP ps = (vs M, X) := hP
  have e2 : okK ps lf = (vs M2, X2) := by unfold okK; rw [e1]; simp only [vs_len]; exact hT
  unfold okT
  rw [e1, e2]
  simp only [vs_app, hS, vs_len]
  simp [vs, txtN, truN, lisN, objN]
theorem step_lay {k0 a : Int} {w : ByteArray} {Mx : List TV} {ns : List ByteArray} {ks : List Int} {nA kA : Option Addr} {nc kc : Nat} (s : ST) (h : vs Mx = numsF a s.load) (ha : a = k0 + 6) (hw : w = wordK s.kind) (hns : ns = stepNs)
    (hks : ks = [k0, k0 + 1, k0 + 2, k0 + 3, k0 + 4, k0 + 5, k0 + 6 + s.load.length, k0 + 7 + s.load.length, k0 + 8 + s.load.length]) :
    vs (((((((((([] ++ [TV.mk (TN.mk 4 false 0 w [] []) none 0 none 0]) ++ [TV.mk (TN.mk 3 false s.item ⟨#[]⟩ [] []) none 0 none 0]) ++ [TV.mk (TN.mk 3 false s.place ⟨#[]⟩ [] []) none 0 none 0]) ++ [TV.mk (TN.mk 3 false s.arr ⟨#[]⟩ [] []) none 0 none 0]) ++ [TV.mk (TN.mk 3 false s.wait ⟨#[]⟩ [] []) none 0 none 0]) ++ [TV.mk (TN.mk 3 false s.serv ⟨#[]⟩ [] []) none 0 none 0]) ++ Mx) ++ [TV.mk (TN.mk 3 false s.time ⟨#[]⟩ [] []) none 0 none 0]) ++ [TV.mk (TN.mk 3 false s.dist ⟨#[]⟩ [] []) none 0 none 0]) ++ [TV.mk (TN.mk 6 false 0 ⟨#[]⟩ ns ks) nA nc kA kc]) = stepF k0 s := by
  subst ha hw hns hks
  simp only [vs_app, h, stepF]
  simp [vs, txtN, numN, objN]
theorem plan_lay {k0 a : Int} {Mx : List TV} {X : List Int} {ns : List ByteArray} {ks : List Int} {nA kA lA : Option Addr} {nc kc lc : Nat} (p : PV) (h : stepsF a p.steps ([], []) = (vs Mx, X)) (ha : a = k0 + 6) (hns : ns = planNs)
    (hks : ks = [k0, k0 + 1, k0 + 2, k0 + 3, k0 + 4, k0 + 5, k0 + 6 + Mx.length]) :
    vs ((((((((([] ++ [TV.mk (TN.mk 3 false p.veh ⟨#[]⟩ [] []) none 0 none 0]) ++ [TV.mk (TN.mk 3 false p.cost ⟨#[]⟩ [] []) none 0 none 0]) ++ [TV.mk (TN.mk 3 false p.time ⟨#[]⟩ [] []) none 0 none 0]) ++ [TV.mk (TN.mk 3 false p.dist ⟨#[]⟩ [] []) none 0 none 0]) ++ [TV.mk (TN.mk 3 false p.wait ⟨#[]⟩ [] []) none 0 none 0]) ++ [TV.mk (TN.mk 3 false p.serv ⟨#[]⟩ [] []) none 0 none 0]) ++ Mx) ++ [TV.mk (TN.mk 5 false 0 ⟨#[]⟩ [] X) none 0 lA lc]) ++ [TV.mk (TN.mk 6 false 0 ⟨#[]⟩ ns ks) nA nc kA kc]) = planF k0 p := by
  subst ha hns hks
  simp only [planF, h, vs_app, vs_len]
  simp [vs, lisN, numN, objN]
end Go.SX
namespace Go.SX
open Go Go.RowKit
def kidT (l : List TV) (i k : Int) : Int := gt (gt l i).v.ks k
def kidOk (l : List TV) (i k : Int) : Prop := 0 ≤ k ∧ k < (gt l i).v.ks.length ∧ 0 ≤ kidT l i k ∧ kidT l i k < i
theorem bl_inj {s t : ByteArray} (h : s.toList = t.toList) : s = t := by
  rw [ByteArray.toList_eq, ByteArray.toList_eq] at h
  exact bs_inj (by unfold bs; rw [h])
theorem all_next {α : Type} [Inhabited α] {p : α → Prop} {l : List α} {i : Int} (h : ∀ x ∈ l.take i.toNat, p x) (h0 : 0 ≤ i) (h1 : i < (l.length : Int)) (hf : p (gt l i)) : ∀ x ∈ l.take (i + 1).toNat, p x := by
  rw [take_gt h0 h1]
  intro x hx
  rcases List.mem_append.1 hx with hx | hx
  · exact h x hx
  · simp at hx; subst hx; exact hf
theorem all_end {α : Type} {p : α → Prop} {l : List α} {i : Int} (h : ∀ x ∈ l.take i.toNat, p x) (h1 : ¬ i < (l.length : Int)) : ∀ x ∈ l, p x := by
  rw [List.take_of_length_le (by omega)] at h; exact h
def sv (s : ST) : ST := { s with lA := none, lc := 0 }
end Go.SX
namespace Go.SX
open Go Go.RowKit
def big {α : Type} (f : α → Res) (l : List α) : Res where
  foot := l.flatMap (fun x => (f x).foot)
  holds w := ∀ x ∈ l, (f x).holds w
  stable w w' h hw x hx := (f x).stable w w' (fun b hb => h b (List.mem_flatMap.2 ⟨x, hx, hb⟩)) (hw x hx)
  lt w hw b hb := by
    obtain ⟨x, hx, hb⟩ := List.mem_flatMap.1 hb
    exact (f x).lt w (hw x hx) b hb
def both (a b : Res) : Res where
  foot := a.foot ++ b.foot
  holds w := a.holds w ∧ b.holds w
  stable w w' h hw := ⟨a.stable w w' (fun c hc => h c (List.mem_append_left _ hc)) hw.1, b.stable w w' (fun c hc => h c (List.mem_append_right _ hc)) hw.2⟩
  lt w hw b hb := by
    rcases List.mem_append.1 hb with hb | hb
    · exact a.lt w hw.1 _ hb
    · exact (Res.lt _ w hw.2 _ hb)
def rowB {α : Type} (E : Enc α) (e : Nat) (v : Value) (l : List α) : Res where
  foot := (rw_ E e v l).foot
  holds w := (rw_ E e v l).holds w ∧ l.length ≤ 140737488355328
  stable w w' h hw := ⟨(rw_ E e v l).stable w w' h hw.1, hw.2⟩
  lt w hw b hb := (rw_ E e v l).lt w hw.1 b hb
def resS (e : Nat) (s : ST) : Res := rowB eZ e (.slice s.lA s.load.length s.lc) s.load
def nestS (e : Nat) (l : List ST) : Res := big (resS e) l
def resP (e1 e2 : Nat) (p : PV) : Res := both (rowB eST e1 (.slice p.sA p.steps.length p.sc) p.steps) (nestS e2 p.steps)
def nestP (e1 e2 : Nat) (l : List PV) : Res := big (resP e1 e2) l
theorem big_foot {α : Type} {f : α → Res} {l : List α} {x : α} (h : x ∈ l) : ∀ b ∈ (f x).foot, b ∈ (big f l).foot := fun b hb => List.mem_flatMap.2 ⟨x, h, hb⟩
theorem NS.of {e : Nat} {l : List ST} {S : Nat → Prop} {w : World} (h : (nestS e l).holds w) (hS : ∀ b ∈ (nestS e l).foot, S b) : NS S w l := fun s hs =>
  Fr.of_row (h s hs).1 (fun b hb => hS b (big_foot (f := resS e) hs b hb)) (h s hs).2
theorem NP.of {e1 e2 : Nat} {l : List PV} {S : Nat → Prop} {w : World} (h : (nestP e1 e2 l).holds w) (hS : ∀ b ∈ (nestP e1 e2 l).foot, S b) : NP S w l := fun p hp =>
  ⟨Fr.of_row (h p hp).1.1 (fun b hb => hS b (big_foot (f := resP e1 e2) hp b (List.mem_append_left _ hb))) (h p hp).1.2,
   NS.of (h p hp).2 (fun b hb => hS b (big_foot (f := resP e1 e2) hp b (List.mem_append_right _ hb)))⟩
section
variable {V : Env} {P : Program} {Q : Exit → Act → World → Prop} {ops : Array Oper} {N : Nat} {L : List (Nat × Value)} {H R : List Res} {S : Nat → Prop} {wf : World}
theorem NS.lent {e : Nat} {l : List ST} {wf1 : World} (hR : ∀ r ∈ R, r.holds wf1) (i : Nat) (hi : R[i]? = some (nestS e l)) : NS (fun b => S b ∨ b ∈ feet R) wf1 l :=
  NS.of (hR _ (List.mem_of_getElem? hi)) (fun b hb => .inr (feet_of i hi hb))
theorem NP.lent {e1 e2 : Nat} {l : List PV} {wf1 : World} (hR : ∀ r ∈ R, r.holds wf1) (i : Nat) (hi : R[i]? = some (nestP e1 e2 l)) : NP (fun b => S b ∨ b ∈ feet R) wf1 l :=
  NP.of (hR _ (List.mem_of_getElem? hi)) (fun b hb => .inr (feet_of i hi hb))
theorem NS.lend {e : Nat} {l : List ST} {C0 R1 : List Res} {w : World} (hw : WW V S wf (C0 ++ (R1 ++ R)) w) (i : Nat) (hi : R1[i]? = some (nestS e l)) : NS (fun b => S b ∨ b ∈ feet R1) w l :=
  NS.of (hw.has _ (List.mem_append_right _ (List.mem_append_left _ (List.mem_of_getElem? hi)))) (fun b hb => .inr (feet_of i hi hb))
theorem NP.lend {e1 e2 : Nat} {l : List PV} {C0 R1 : List Res} {w : World} (hw : WW V S wf (C0 ++ (R1 ++ R)) w) (i : Nat) (hi : R1[i]? = some (nestP e1 e2 l)) : NP (fun b => S b ∨ b ∈ feet R1) w l :=
  NP.of (hw.has _ (List.mem_append_right _ (List.mem_append_left _ (List.mem_of_getElem? hi)))) (fun b hb => .inr (feet_of i hi hb))
theorem WW.swap {A : List Res} {r : Res} {w : World} (h : WW V S wf (A ++ R) w) (hf : r.foot = feet A) (hh : (∀ x ∈ A, x.holds w) → r.holds w) : WW V S wf (r :: R) w := by
  have e : feet (r :: R) = feet (A ++ R) := by rw [feet_cons, hf, feet_append]
  exact {
    has := fun x hx => by
      rcases List.mem_cons.1 hx with rfl | hx
      · exact hh (fun y hy => h.has y (List.mem_append_left _ hy))
      · exact h.has x (List.mem_append_right _ hx)
    nd := e ▸ h.nd
    sep := fun b hb => h.sep b (e ▸ hb)
    fz := h.fz, new := h.new, fr := h.fr, sz := h.sz, os := h.os, tape := h.tape, output := h.output }
end
theorem bl_dec {s t : ByteArray} : (s.toList == t.toList) = decide (s = t) := by
  rw [Bool.eq_iff_iff]; simp only [beq_iff_eq, decide_eq_true_eq]
  exact ⟨bl_inj, fun h => by rw [h]⟩
end Go.SX
namespace Go.SX
open Go Go.RowKit
def bP (p : PV) : Prop := p.steps.length ≤ 8192 ∧ ∀ s ∈ p.steps, (-9223372036854775808 ≤ s.kind ∧ s.kind ≤ 9223372036854775807) ∧ s.load.length ≤ 8192
end Go.SX
namespace Go.SX
open Go Go.RowKit
def Loc (T : List TN) (k : Int) (B : List TN) : Prop := ∃ A C, T = A ++ (B ++ C) ∧ (A.length : Int) = k
theorem Loc.gt {T B : List TN} {k j : Int} (h : Loc T k B) (h0 : 0 ≤ j) (h1 : j < (B.length : Int)) : gt T (k + j) = gt B j := by
  obtain ⟨A, C, rfl, rfl⟩ := h
  unfold SX.gt
  have e : ((A.length : Int) + j).toNat = A.length + j.toNat := by omega
  rw [e, List.getD_eq_getElem?_getD, List.getD_eq_getElem?_getD, List.getElem?_append_right (by omega), show A.length + j.toNat - A.length = j.toNat from by omega, List.getElem?_append_left (by omega)]
theorem Loc.l {T B C : List TN} {k : Int} (h : Loc T k (B ++ C)) : Loc T k B := by
  obtain ⟨A, D, rfl, e⟩ := h
  exact ⟨A, C ++ D, by simp, e⟩
theorem Loc.r {T B C : List TN} {k m : Int} (h : Loc T k (B ++ C)) (hm : m = k + B.length) : Loc T m C := by
  obtain ⟨A, D, rfl, e⟩ := h
  exact ⟨A ++ B, D, by simp, by simp; omega⟩
theorem Loc.whole (T : List TN) : Loc T 0 T := ⟨[], [], by simp, rfl⟩
theorem Loc.trans {T B C : List TN} {k m n : Int} (h : Loc T k B) (h2 : Loc B m C) (hn : n = k + m) : Loc T n C := by
  obtain ⟨A, D, rfl, e⟩ := h
  obtain ⟨A2, D2, rfl, e2⟩ := h2
  exact ⟨A ++ A2, D2 ++ D, by simp, by simp; omega⟩
end Go.SX
namespace Go.SX
open Go Go.RowKit
theorem cb_tf {x y : Bool} : (x && !y) = ((x == true) && (y == false)) := by cases x <;> cases y <;> rfl
theorem gvn {b b1 c w1 want : Bool} {v : Value} (hc : c = ((b1 == w1) && (b == want))) (hb : b1 = w1) : gv c true v = gv b want v := by
  subst hb hc
  cases b1 <;> cases b <;> cases want <;> rfl
theorem lkgn {L : List (Nat × Value)} {x : Operand} {b b1 c w1 want : Bool} {v : Value} (h : lk L x = some (gv c true v)) (hc : c = ((b1 == w1) && (b == want))) (hb : b1 = w1) : lk L x = some (gv b want v) := by
  rw [h, gvn hc hb]
section
variable {V : Env} {P : Program} {Q : Exit → Act → World → Prop} {ops : Array Oper} {N : Nat} {o : Oper} {rest : List Oper} {L : List (Nat × Value)} {H : List Res} {S : Nat → Prop} {wf : World} {K : St → Prop} {st : St}
  {B : World → Prop} {cs : List (Nat × (World → Prop))} {fuel : Nat} {listed : Array Bool}
theorem yielded_gv {a : Act} {g t : Nat} {b b1 w1 : Bool} (hs : SL N L a) (ht : (ops[g]?).bind (·.dst) = some t) (hL : lkp L t = some (gv b1 w1 (.bool b))) : yielded ops a.tmps g = if b1 = w1 then some b else none := by
  by_cases hb : b1 = w1
  · rw [if_pos hb]
    rw [gv, if_pos hb] at hL
    exact yielded_of hs ht hL
  · rw [if_neg hb]
    rw [gv, if_neg hb] at hL
    have h := hs.2.2 t _ hL
    simp only [yielded, ht]
    cases hq : a.tmps[t]? with
    | none => simp [hq]
    | some u =>
      rw [Array.getD_eq_getD_getElem?, hq] at h
      simp at h
      subst h
      simp [hq, undef]
theorem SR.ggtake {v : Value} {d g t : Nat} {want b b1 w1 c : Bool} (i : Nat) (hc : c = ((b1 == w1) && (b == want))) (hi : ops[i]? = some o) (hs : Region.noSelect ops = true) (hf : Region.free .any ops listed i = true) (hr : (Region.ready .any ops listed).contains i = true)
    (hni : (cs.map (·.1)).contains i = false) (hQ : ∀ c a w v, Q (.panic c) (a.put o.dst v) w → Q (.panic c) a w) (hg : o.guard = some (g, want)) (ht : (ops[g]?).bind (·.dst) = some t) (hL : lkp L t = some (gv b1 w1 (.bool b))) (hd : o.dst = some d) (hdN : Nat.blt d N = true)
    (h : b1 = w1 → c = true → Ev P (fun w => B w ∧ ∀ c ∈ cs, waitsFor ops c.1 i = true → c.2 w) L o v)
    (k : SR V P Q ops N B cs fuel (listed.setIfInBounds i true) ⟨(d, gv c true v) :: L, H, S, wf⟩) : SR V P Q ops N B cs (fuel + 1) listed ⟨L, H, S, wf⟩ := by
  intro a w hsl hw hT hcl
  have hr' : i ∈ Region.ready .any ops listed := by simpa using hr
  have hni' : ∀ c ∈ cs, c.1 ≠ i := fun c hc e => by
    have : (cs.map (·.1)).contains i = true := by simp; exact ⟨c.2, by rw [← e]; exact hc⟩
    rw [this] at hni
    cases hni
  have hy := yielded_gv hsl ht hL
  refine wpAnyJ_first (v := gv c true v) hi (Region.noSelect_spec hs) (fun c a w h => hQ c a w _ h) hni' fuel listed a w hcl (Region.free_spec hi hf) hr' ?_ hT ?_
  · by_cases hb1 : b1 = w1
    · rw [if_pos hb1] at hy
      by_cases hb : b = want
      · have hct : c = true := by rw [hc, hb1, hb]; simp
        have h' := h hb1 hct
        refine .inl ⟨by simp [Region.wanted, hg, hy, hb], fun w' hw' => ?_⟩
        rw [exec_ev hsl h'.1 h'.2.1, show gv c true v = v from if_pos hct]
        exact h'.2.2 w' hw'
      · have hcf : ¬ c = true := by rw [hc, hb1]; simp [hb]
        exact .inr ⟨by simp [Region.wanted, hg, hy, hb], if_neg hcf⟩
    · rw [if_neg hb1] at hy
      have hcf : ¬ c = true := by rw [hc]; simp [hb1]
      exact .inr ⟨by simp [Region.wanted, hg, hy], if_neg hcf⟩
  · rw [hd]
    exact k _ _ (hsl.put hdN _) hw ((TT.set hni').2 hT) (hcl.set hr')
theorem Ev.ggstep {d g t : Nat} {want b b1 w1 c : Bool} {v : Value} (hc : c = ((b1 == w1) && (b == want))) (h : b1 = w1 → c = true → Ev P (WW V S wf H) L o v)
    (hg : o.guard = some (g, want)) (ht : (ops[g]?).bind (·.dst) = some t) (hL : lkp L t = some (gv b1 w1 (.bool b))) (hd : o.dst = some d) (hdN : Nat.blt d N = true)
    (k : K ⟨(d, gv c true v) :: L, H, S, wf⟩) : OpStep V P Q ops N o ⟨L, H, S, wf⟩ K := by
  intro a w hs hw J hJ
  unfold Step1
  have hy := yielded_gv hs ht hL
  by_cases hct : c = true
  · have h12 : b1 = w1 ∧ b = want := by rw [hc] at hct; simpa using hct
    obtain ⟨hn, hk, h⟩ := h h12.1 hct
    rw [if_pos h12.1] at hy
    rw [if_pos (by simp [Region.wanted, hg, hy, h12.2])]
    rw [show gv c true v = v from if_pos hct] at k
    refine .inl ?_
    unfold Oper.wp
    rw [exec_ev hs hn hk, h w hw, Oper.upon_value, hd]
    exact hJ _ k _ _ (hs.put hdN v) hw
  · have hno : Region.wanted o (yielded ops a.tmps) = false := by
      by_cases hb1 : b1 = w1
      · rw [if_pos hb1] at hy
        have : ¬ b = want := fun e => hct (by rw [hc, hb1, e]; simp)
        simp [Region.wanted, hg, hy, this]
      · rw [if_neg hb1] at hy
        simp [Region.wanted, hg, hy]
    rw [if_neg (by simp [hno]), hd]
    rw [show gv c true v = undef from if_neg hct] at k
    exact hJ _ k _ _ (hs.put hdN undef) hw
end
end Go.SX
namespace Go.SX
open Go
structure LS where
  i : Int
  bad : Int
  pos : Int
def noF (p : LS) (a e : Int) : LS := if p.bad = 0 then ⟨p.i, e, a⟩ else p
def LS.go (p : LS) (k : Int) : LS := ⟨p.i + k, p.bad, p.pos⟩
def blank (c : Int) : Prop := c = 32 ∨ c = 9 ∨ c = 10 ∨ c = 13
instance (c : Int) : Decidable (blank c) := by unfold blank; infer_instance
def gapN : List Int → Nat
  | [] => 0
  | c :: r => if blank c then gapN r + 1 else 0
def gapF (b : List Int) (p : LS) : LS := p.go (gapN (b.drop p.i.toNat))
def hereF (b : List Int) (p : LS) : Int := if p.bad ≠ 0 ∨ p.i ≥ (b.length : Int) then -1 else gt b p.i
def hereS (b : List Int) (p : LS) : LS := if p.i ≥ (b.length : Int) then noF p b.length 21 else p
def nextF (b : List Int) (p : LS) : Int := hereF b (gapF b p)
def nextS (b : List Int) (p : LS) : LS := hereS b (gapF b p)
def wordF (b : List Int) : List Int → LS → LS
  | [], p => p
  | c :: r, p => if hereF b p < 0 then hereS b p else if hereF b p ≠ c then noF p p.i 22 else wordF b r (p.go 1)
def numB (c : Int) : Prop := ¬ ((((((c < 48 ∨ c > 57) ∧ c ≠ 45) ∧ c ≠ 43) ∧ c ≠ 46) ∧ c ≠ 101) ∧ c ≠ 69)
instance (c : Int) : Decidable (numB c) := by unfold numB; infer_instance
def numC : List Int → Nat
  | [] => 0
  | c :: r => if numB c then numC r + 1 else 0
def decV : List Int → Int → Int
  | [], x => x
  | c :: r, x => decV r (10 * x + (c - 48))
def sgn (l : List Int) : Int := if (l.length : Int) > 0 ∧ gt l 0 = 45 then 1 else 0
def parse1 (l : List Int) : Int × Int :=
  if sgn l = (l.length : Int) then (0, 11)
  else if ∃ c ∈ l.drop (sgn l).toNat, c < 48 ∨ c > 57 then (0, 11)
  else if gt l (sgn l) = 48 ∧ l ≠ [48] then (0, 11)
  else if (l.length : Int) - sgn l > 19 then (0, 10)
  else if decV (l.drop (sgn l).toNat) 0 > 4611686018427387903 then (0, 10)
  else if sgn l = 1 then (-decV (l.drop (sgn l).toNat) 0, 0) else (decV (l.drop (sgn l).toNat) 0, 0)
def numEnd (b : List Int) (p : LS) : LS := p.go (numC (b.drop p.i.toNat))
def numSeg (b : List Int) (p : LS) : List Int := (b.take (numEnd b p).i.toNat).drop p.i.toNat
def numberF (b : List Int) (p : LS) : Int := (parse1 (numSeg b p)).1
def numberS (b : List Int) (p : LS) : LS := if (parse1 (numSeg b p)).2 ≠ 0 then noF (numEnd b p) p.i 25 else numEnd b p
def w8 (x : Int) : Int := IntKind.u8.wrap x
def putF (x : Int) : List Int :=
  if x < 128 then [w8 x]
  else if x < 2048 then [w8 (bor .i64 192 (Int.fdiv x 64)), w8 (bor .i64 128 (bnd .i64 x 63))]
  else if x < 65536 then [w8 (bor .i64 224 (Int.fdiv x 4096)), w8 (bor .i64 128 (bnd .i64 (Int.fdiv x 64) 63)), w8 (bor .i64 128 (bnd .i64 x 63))]
  else [w8 (bor .i64 240 (Int.fdiv x 262144)), w8 (bor .i64 128 (bnd .i64 (Int.fdiv x 4096) 63)), w8 (bor .i64 128 (bnd .i64 (Int.fdiv x 64) 63)), w8 (bor .i64 128 (bnd .i64 x 63))]
def hexL (b : List Int) (from_ : Int) : Nat → LS → Int → Int × LS
  | 0, p, x => (x, p)
  | n + 1, p, x =>
    if hereF b p < 0 then (0, hereS b p)
    else if hereF b p ≥ 48 ∧ hereF b p ≤ 57 then hexL b from_ n (p.go 1) (16 * x + hereF b p - 48)
    else if hereF b p ≥ 97 ∧ hereF b p ≤ 102 then hexL b from_ n (p.go 1) (16 * x + hereF b p - 97 + 10)
    else if hereF b p ≥ 65 ∧ hereF b p ≤ 70 then hexL b from_ n (p.go 1) (16 * x + hereF b p - 65 + 10)
    else (0, noF p from_ 24)
def marksL : List Int := [34, 92, 47, 98, 102, 110, 114, 116]
def runesL : List Int := [34, 92, 47, 8, 12, 10, 13, 9]
def markF : List Int → List Int → Int → Option Int
  | m :: ms, r :: rs, c => if c = m then some r else markF ms rs c
  | _, _, _ => none
def halfF (b : List Int) (from_ : Int) (p : LS) : Int × LS :=
  let c := hereF b (p.go 1)
  let q := (hereS b (p.go 1)).go 1
  match markF marksL runesL c with
  | some r => (r, q)
  | none => if c ≠ 117 then (0, noF q from_ 24) else hexL b from_ 4 q 0
def escF (b : List Int) (p : LS) : Int × LS :=
  let x := (halfF b p.i p).1
  let q := (halfF b p.i p).2
  if x < 55296 ∨ x > 57343 ∨ q.bad ≠ 0 then (x, q)
  else if x > 56319 ∨ q.i + 1 ≥ (b.length : Int) ∨ gt b q.i ≠ 92 ∨ gt b (q.i + 1) ≠ 117 then (0, noF q p.i 24)
  else
    let y := (halfF b p.i q).1
    let s := (halfF b p.i q).2
    (65536 + (x - 55296) * 1024 + y - 56320, if s.bad = 0 ∧ (y < 56320 ∨ y > 57343) then noF s p.i 24 else s)
def textL (b : List Int) : Nat → LS → List Int → List Int × LS
  | 0, p, _ => ([], p)
  | n + 1, p, o =>
    if hereF b p < 0 then ([], hereS b p)
    else if hereF b p = 34 then (o, p.go 1)
    else if hereF b p = 92 then textL b n (escF b p).2 (o ++ putF (escF b p).1)
    else
      let k := runeF (b.drop p.i.toNat)
      let q := if hereF b p < 32 then noF p p.i 22 else if k = 0 then noF p p.i 23 else p
      if q.bad ≠ 0 then ([], q) else textL b n (q.go k) (o ++ (b.take (q.i + k).toNat).drop q.i.toNat)
def textF (b : List Int) (p : LS) : List Int := (textL b (b.length + 4) (p.go 1) []).1
def textS (b : List Int) (p : LS) : LS := (textL b (b.length + 4) (p.go 1) []).2
def hasN (ns : List ByteArray) (s : ByteArray) : Bool := ns.any (fun x => x.toList == s.toList)
def nameS1 (b : List Int) (p : LS) : LS := if nextF b p ≥ 0 ∧ nextF b p ≠ 34 then noF (nextS b p) (nextS b p).i 22 else nextS b p
def nameS (b : List Int) (ns : List ByteArray) (p : LS) : LS × List ByteArray :=
  let at_ := (nextS b p).i
  let q := nameS1 b p
  if q.bad ≠ 0 then (q, ns)
  else
    let s := mkS (textF b q)
    let r := textS b q
    let r2 := if r.bad = 0 ∧ hasN ns s = true then noF r at_ 28 else r
    let r3 := if nextF b r2 ≥ 0 ∧ nextF b r2 ≠ 58 then noF (nextS b r2) (nextS b r2).i 22 else nextS b r2
    (r3.go 1, ns ++ [s])
structure VR where
  r : Int
  p : LS
  t : List TN
def putP (p : LS) (t : List TN) (from_ : Int) : LS := if p.bad = 0 ∧ (t.length : Int) ≥ 8192 then noF p from_ 27 else p
def putV (p : LS) (t : List TN) (v : TN) (from_ : Int) : VR := if (putP p t from_).bad ≠ 0 then ⟨0, putP p t from_, t⟩ else ⟨t.length, putP p t from_, t ++ [v]⟩
def endB (object : Bool) : Int := if object = true then 125 else 93
def kindB (object : Bool) : Int := if object = true then 6 else 5
def manyL (b : List Int) (val : LS → List TN → VR) (object : Bool) (from_ : Int) : Nat → LS → List TN → List ByteArray → List Int → VR
  | 0, p, t, _, _ => ⟨0, p, t⟩
  | n + 1, p, t, ns, ks =>
    if p.bad ≠ 0 then ⟨0, p, t⟩
    else
      let q := if object = true then (nameS b ns p).1 else p
      let ns2 := if object = true then (nameS b ns p).2 else ns
      let v := val q t
      let c := nextF b v.p
      let s := nextS b v.p
      let s2 := if c ≥ 0 ∧ c ≠ 44 ∧ c ≠ endB object then noF s s.i 22 else s
      if c = endB object then putV (s2.go 1) v.t ⟨kindB object, false, 0, ⟨#[]⟩, ns2, ks ++ [v.r]⟩ from_
      else manyL b val object from_ n (s2.go 1) v.t ns2 (ks ++ [v.r])
def manyF (b : List Int) (val : LS → List TN → VR) (object : Bool) (from_ : Int) (p : LS) (t : List TN) : VR :=
  if nextF b p = endB object then putV ((nextS b p).go 1) t ⟨kindB object, false, 0, ⟨#[]⟩, [], []⟩ from_
  else manyL b val object from_ (b.length + 2) (nextS b p) t [] []
def valueF (b : List Int) : Nat → LS → List TN → VR
  | 0, p, t => ⟨0, p, t⟩
  | d + 1, p, t =>
    let c := nextF b p
    let q := nextS b p
    if c < 0 then ⟨0, q, t⟩
    else if c = 110 then putV (wordF b [110, 117, 108, 108] q) t ⟨1, false, 0, ⟨#[]⟩, [], []⟩ q.i
    else if c = 116 then putV (wordF b [116, 114, 117, 101] q) t ⟨2, true, 0, ⟨#[]⟩, [], []⟩ q.i
    else if c = 102 then putV (wordF b [102, 97, 108, 115, 101] q) t ⟨2, false, 0, ⟨#[]⟩, [], []⟩ q.i
    else if c = 34 then putV (textS b q) t ⟨4, false, 0, mkS (textF b q), [], []⟩ q.i
    else if c = 45 ∨ (c ≥ 48 ∧ c ≤ 57) then putV (numberS b q) t ⟨3, false, numberF b q, ⟨#[]⟩, [], []⟩ q.i
    else if c = 91 ∨ c = 123 then (if d = 0 then ⟨0, noF q q.i 26, t⟩ else manyF b (valueF b d) (decide (c = 123)) q.i (q.go 1) t)
    else ⟨0, noF q q.i 22, t⟩
def parseP (b : List Int) : LS := 
  let q := gapF b (valueF b 17 ⟨0, 0, 0⟩ []).p
  if q.bad = 0 ∧ q.i < (b.length : Int) then noF q q.i 22 else q
def parseE (b : List Int) : Int := if (b.length : Int) > 65536 then 20 else (parseP b).bad
def parseT (b : List Int) : List TN := if (b.length : Int) > 65536 ∨ (parseP b).bad ≠ 0 then [] else (valueF b 17 ⟨0, 0, 0⟩ []).t
end Go.SX
namespace Go.SX
open Go
section
variable {b : List Int} {n : Nat} {i bad pos x i2 bad2 pos2 r : Int}
theorem gap_next {X : Int} (h0 : 0 ≤ x) (h1 : x < (b.length : Int)) (hb : blank (gt b x)) (q : x + gapN (b.drop x.toNat) = X) : x + 1 + gapN (b.drop (x + 1).toNat) = X := by
  rw [drop_gt h0 h1, gapN, if_pos hb] at q
  omega
theorem gap_stop (h0 : 0 ≤ x) (h : ¬ (x < (b.length : Int) ∧ blank (gt b x))) : gapN (b.drop x.toNat) = 0 := by
  by_cases h1 : x < (b.length : Int)
  · rw [drop_gt h0 h1, gapN, if_neg (fun e => h ⟨h1, e⟩)]
  · rw [List.drop_of_length_le (by omega)]; rfl
theorem gap_end (h0 : 0 ≤ x) (q : x + gapN (b.drop x.toNat) = i + gapN (b.drop i.toNat)) (h : ¬ (x < (b.length : Int) ∧ blank (gt b x))) : x = (gapF b ⟨i, bad, pos⟩).i := by
  rw [gap_stop h0 h] at q
  show x = i + (gapN (b.drop i.toNat) : Int)
  omega
theorem gap_eq (h : i2 = (gapF b ⟨i, bad, pos⟩).i) : (⟨i2, bad, pos⟩ : LS) = gapF b ⟨i, bad, pos⟩ := by subst h; rfl
theorem noF_eq {a e : Int} (p : (bad = 0 → bad2 = e ∧ pos2 = a) ∧ (bad ≠ 0 → bad2 = bad ∧ pos2 = pos)) : (⟨i, bad2, pos2⟩ : LS) = noF ⟨i, bad, pos⟩ a e := by
  unfold noF
  by_cases h : bad = 0
  · obtain ⟨rfl, rfl⟩ := p.1 h; rw [if_pos h]
  · obtain ⟨rfl, rfl⟩ := p.2 h; rw [if_neg h]
theorem noF_bad {p : LS} {a e : Int} (h : p.bad ≠ 0) : noF p a e = p := by unfold noF; rw [if_neg h]
theorem here_bad (h : bad ≠ 0) : -1 = hereF b ⟨i, bad, pos⟩ ∧ (⟨i, bad, pos⟩ : LS) = hereS b ⟨i, bad, pos⟩ := by
  unfold hereF hereS
  rw [if_pos (.inl h), noF_bad h]
  exact ⟨rfl, by split <;> rfl⟩
theorem here_end (hn : b.length = n) (h : i ≥ (n : Int)) (p : (bad = 0 → bad2 = 21 ∧ pos2 = (n : Int)) ∧ (bad ≠ 0 → bad2 = bad ∧ pos2 = pos)) : -1 = hereF b ⟨i, bad, pos⟩ ∧ (⟨i, bad2, pos2⟩ : LS) = hereS b ⟨i, bad, pos⟩ := by
  subst hn
  unfold hereF hereS
  rw [if_pos (.inr h), if_pos h]
  exact ⟨rfl, noF_eq p⟩
theorem here_ok (hn : b.length = n) (h : ¬ bad ≠ 0) (hi : ¬ i ≥ (n : Int)) : gt b i = hereF b ⟨i, bad, pos⟩ ∧ (⟨i, bad, pos⟩ : LS) = hereS b ⟨i, bad, pos⟩ := by
  subst hn
  unfold hereF hereS
  rw [if_neg (by simp only [not_or]; exact ⟨h, hi⟩), if_neg hi]
  exact ⟨rfl, rfl⟩
theorem here_fact (hr : ∀ x ∈ b, isB x) (hn : b.length = n) (p : r = hereF b ⟨i, bad, pos⟩) (q : (⟨i, bad2, pos2⟩ : LS) = hereS b ⟨i, bad, pos⟩) :
    (r = -1 ∧ bad2 ≠ 0) ∨ (((0 ≤ r ∧ r < 256) ∧ r = gt b i) ∧ bad = 0 ∧ bad2 = 0 ∧ pos2 = pos ∧ i < (n : Int)) := by
  subst hn
  unfold hereF at p
  unfold hereS noF at q
  dsimp only at p q
  by_cases h : bad ≠ 0 ∨ i ≥ (b.length : Int)
  · rw [if_pos h] at p
    refine .inl ⟨p, ?_⟩
    by_cases hi : i ≥ (b.length : Int)
    · rw [if_pos hi] at q
      by_cases hb : bad = 0
      · rw [if_pos hb] at q; injection q with _ q2 _; omega
      · rw [if_neg hb] at q; injection q with _ q2 _; omega
    · rw [if_neg hi] at q; injection q with _ q2 _; omega
  · rw [if_neg h] at p
    have hg := gt_range hr i
    unfold isB at hg
    rw [if_neg (by omega)] at q
    injection q with _ q2 q3
    exact .inr ⟨⟨by omega, p⟩, by omega, by omega, q3, by omega⟩
theorem next_of {i1 : Int} (g : i1 = (gapF b ⟨i, bad, pos⟩).i) (p : r = hereF b ⟨i1, bad, pos⟩) (q : (⟨i1, bad2, pos2⟩ : LS) = hereS b ⟨i1, bad, pos⟩) : r = nextF b ⟨i, bad, pos⟩ ∧ (⟨i1, bad2, pos2⟩ : LS) = nextS b ⟨i, bad, pos⟩ := by
  unfold nextF nextS
  rw [← gap_eq g]
  exact ⟨p, q⟩
theorem word_go {w : List Int} {X : LS} (h0 : 0 ≤ x) (h1 : x < (w.length : Int)) (q : wordF b (w.drop x.toNat) ⟨i, bad, pos⟩ = X) (hr : ¬ hereF b ⟨i, bad, pos⟩ < 0) (he : hereF b ⟨i, bad, pos⟩ = gt w x) : wordF b (w.drop (x + 1).toNat) ⟨i + 1, bad, pos⟩ = X := by
  rw [drop_gt h0 h1, wordF, if_neg hr, if_neg (by rw [he]; exact fun h => h rfl)] at q
  exact q
theorem word_end {w : List Int} {X : LS} (h1 : ¬ x < (w.length : Int)) (q : wordF b (w.drop x.toNat) ⟨i, bad, pos⟩ = X) : (⟨i, bad, pos⟩ : LS) = X := by
  rw [List.drop_of_length_le (by omega)] at q; exact q
theorem word_low {w : List Int} {X : LS} (h0 : 0 ≤ x) (h1 : x < (w.length : Int)) (q : wordF b (w.drop x.toNat) ⟨i, bad, pos⟩ = X) (hr : hereF b ⟨i, bad, pos⟩ < 0) : hereS b ⟨i, bad, pos⟩ = X := by
  rw [drop_gt h0 h1, wordF, if_pos hr] at q; exact q
theorem word_no {w : List Int} {X : LS} (h0 : 0 ≤ x) (h1 : x < (w.length : Int)) (q : wordF b (w.drop x.toNat) ⟨i, bad, pos⟩ = X) (hr : ¬ hereF b ⟨i, bad, pos⟩ < 0) (he : hereF b ⟨i, bad, pos⟩ ≠ gt w x) : noF ⟨i, bad, pos⟩ i 22 = X := by
  rw [drop_gt h0 h1, wordF, if_neg hr, if_pos he] at q; exact q
end
end Go.SX
namespace Go.SX
open Go
section
variable {b : List Int} {n k : Nat} {i bad pos x i1 bad1 pos1 i2 bad2 pos2 r c fr : Int} {O : List Int}
theorem bv (hn : b.length = n) (m : Nat) : (b.take n).drop m = b.drop m := by rw [List.take_of_length_le (by omega)]
theorem mark_go {ms rs : List Int} {X : Option Int} (h0 : 0 ≤ x) (h1 : x < (ms.length : Int)) (h2 : ms.length = rs.length) (q : markF (ms.drop x.toNat) (rs.drop x.toNat) c = X) (hc : ¬ c = gt ms x) : markF (ms.drop (x + 1).toNat) (rs.drop (x + 1).toNat) c = X := by
  rw [drop_gt h0 h1, drop_gt h0 (by omega), markF, if_neg hc] at q; exact q
theorem mark_hit {ms rs : List Int} {X : Option Int} (h0 : 0 ≤ x) (h1 : x < (ms.length : Int)) (h2 : ms.length = rs.length) (q : markF (ms.drop x.toNat) (rs.drop x.toNat) c = X) (hc : c = gt ms x) : X = some (gt rs x) := by
  rw [drop_gt h0 h1, drop_gt h0 (by omega), markF, if_pos hc] at q; exact q.symm
theorem mark_end {ms rs : List Int} {X : Option Int} (h1 : ¬ x < (ms.length : Int)) (q : markF (ms.drop x.toNat) (rs.drop x.toNat) c = X) : X = none := by
  rw [List.drop_of_length_le (by omega), markF] at q
  · exact q.symm
  · intro _ _ _ _ h; cases h
theorem half_0 (p : c = hereF b ⟨i + 1, bad, pos⟩) (q : (⟨i + 1, bad2, pos2⟩ : LS) = hereS b ⟨i + 1, bad, pos⟩) :
    halfF b fr ⟨i, bad, pos⟩ = match markF marksL runesL c with
      | some r => (r, ⟨i + 1 + 1, bad2, pos2⟩)
      | none => if c ≠ 117 then (0, noF ⟨i + 1 + 1, bad2, pos2⟩ fr 24) else hexL b fr 4 ⟨i + 1 + 1, bad2, pos2⟩ 0 := by
  subst p
  show (match markF marksL runesL (hereF b ⟨i + 1, bad, pos⟩) with
      | some r => (r, (hereS b ⟨i + 1, bad, pos⟩).go 1)
      | none => if hereF b ⟨i + 1, bad, pos⟩ ≠ 117 then (0, noF ((hereS b ⟨i + 1, bad, pos⟩).go 1) fr 24) else hexL b fr 4 ((hereS b ⟨i + 1, bad, pos⟩).go 1) 0) = _
  rw [← q]; rfl
theorem half_hit (p : c = hereF b ⟨i + 1, bad, pos⟩) (q : (⟨i + 1, bad2, pos2⟩ : LS) = hereS b ⟨i + 1, bad, pos⟩) (h0 : 0 ≤ x) (h1 : x < 8) (m : markF (marksL.drop x.toNat) (runesL.drop x.toNat) c = markF marksL runesL c) (hc : c = gt marksL x) : (gt runesL x, (⟨i + 1 + 1, bad2, pos2⟩ : LS)) = halfF b fr ⟨i, bad, pos⟩ := by
  rw [half_0 p q, mark_hit (X := markF marksL runesL c) (ms := marksL) (rs := runesL) h0 (by show x < 8; omega) rfl m hc]
theorem half_no (p : c = hereF b ⟨i + 1, bad, pos⟩) (q : (⟨i + 1, bad2, pos2⟩ : LS) = hereS b ⟨i + 1, bad, pos⟩) (h1 : ¬ x < 8) (m : markF (marksL.drop x.toNat) (runesL.drop x.toNat) c = markF marksL runesL c) (hc : c ≠ 117) : (0, noF ⟨i + 1 + 1, bad2, pos2⟩ fr 24) = halfF b fr ⟨i, bad, pos⟩ := by
  rw [half_0 p q, mark_end (X := markF marksL runesL c) (ms := marksL) (rs := runesL) (by show ¬ x < 8; omega) m]; dsimp only; rw [if_pos hc]
theorem half_hex (p : c = hereF b ⟨i + 1, bad, pos⟩) (q : (⟨i + 1, bad2, pos2⟩ : LS) = hereS b ⟨i + 1, bad, pos⟩) (h1 : ¬ x < 8) (m : markF (marksL.drop x.toNat) (runesL.drop x.toNat) c = markF marksL runesL c) (hc : ¬ c ≠ 117) : hexL b fr 4 ⟨i + 1 + 1, bad2, pos2⟩ 0 = halfF b fr ⟨i, bad, pos⟩ := by
  rw [half_0 p q, mark_end (X := markF marksL runesL c) (ms := marksL) (rs := runesL) (by show ¬ x < 8; omega) m]; dsimp only; rw [if_neg hc]
theorem runes_rng (h0 : 0 ≤ x) (h1 : x < 8) : 0 ≤ gt runesL x ∧ gt runesL x ≤ 92 := by
  have h : x = 0 ∨ x = 1 ∨ x = 2 ∨ x = 3 ∨ x = 4 ∨ x = 5 ∨ x = 6 ∨ x = 7 := by omega
  rcases h with rfl | rfl | rfl | rfl | rfl | rfl | rfl | rfl <;> decide
theorem marks_bs : bs ⟨#[34, 92, 47, 98, 102, 110, 114, 116]⟩ = marksL := rfl
section
variable {X : Int × LS} {q : Int}
theorem hexL_at {j : Int} (h0 : 0 ≤ j) (h1 : j < 4) : (4 - j).toNat = (4 - (j + 1)).toNat + 1 := by omega
theorem hex_dig {j : Int} (h0 : 0 ≤ j) (h1 : j < 4) (q : hexL b fr (4 - j).toNat ⟨i1, bad1, pos1⟩ x = X) (p : c = hereF b ⟨i1, bad1, pos1⟩) (hc : ¬ c < 0) (hd : c ≥ 48 ∧ c ≤ 57) : hexL b fr (4 - (j + 1)).toNat ⟨i1 + 1, bad1, pos1⟩ (16 * x + c - 48) = X := by
  rw [hexL_at h0 h1, hexL, ← p, if_neg hc, if_pos hd] at q; exact q
theorem hex_low {j : Int} (h0 : 0 ≤ j) (h1 : j < 4) (q : hexL b fr (4 - j).toNat ⟨i1, bad1, pos1⟩ x = X) (p : c = hereF b ⟨i1, bad1, pos1⟩) (hc : ¬ c < 0) (hd : ¬ (c ≥ 48 ∧ c ≤ 57)) (he : c ≥ 97 ∧ c ≤ 102) : hexL b fr (4 - (j + 1)).toNat ⟨i1 + 1, bad1, pos1⟩ (16 * x + c - 97 + 10) = X := by
  rw [hexL_at h0 h1, hexL, ← p, if_neg hc, if_neg hd, if_pos he] at q; exact q
theorem hex_up {j : Int} (h0 : 0 ≤ j) (h1 : j < 4) (q : hexL b fr (4 - j).toNat ⟨i1, bad1, pos1⟩ x = X) (p : c = hereF b ⟨i1, bad1, pos1⟩) (hc : ¬ c < 0) (hd : ¬ (c ≥ 48 ∧ c ≤ 57)) (he : ¬ (c ≥ 97 ∧ c ≤ 102)) (hf : c ≥ 65 ∧ c ≤ 70) : hexL b fr (4 - (j + 1)).toNat ⟨i1 + 1, bad1, pos1⟩ (16 * x + c - 65 + 10) = X := by
  rw [hexL_at h0 h1, hexL, ← p, if_neg hc, if_neg hd, if_neg he, if_pos hf] at q; exact q
theorem hex_no {j : Int} (h0 : 0 ≤ j) (h1 : j < 4) (q : hexL b fr (4 - j).toNat ⟨i1, bad1, pos1⟩ x = X) (p : c = hereF b ⟨i1, bad1, pos1⟩) (hc : ¬ c < 0) (hd : ¬ (c ≥ 48 ∧ c ≤ 57)) (he : ¬ (c ≥ 97 ∧ c ≤ 102)) (hf : ¬ (c ≥ 65 ∧ c ≤ 70)) : (0, noF ⟨i1, bad1, pos1⟩ fr 24) = X := by
  rw [hexL_at h0 h1, hexL, ← p, if_neg hc, if_neg hd, if_neg he, if_neg hf] at q; exact q
theorem hex_neg {j : Int} (h0 : 0 ≤ j) (h1 : j < 4) (q : hexL b fr (4 - j).toNat ⟨i1, bad1, pos1⟩ x = X) (p : c = hereF b ⟨i1, bad1, pos1⟩) (hc : c < 0) : (0, hereS b ⟨i1, bad1, pos1⟩) = X := by
  rw [hexL_at h0 h1, hexL, ← p, if_pos hc] at q; exact q
theorem hex_end {j : Int} (h1 : ¬ j < 4) (q : hexL b fr (4 - j).toNat ⟨i1, bad1, pos1⟩ x = X) : (x, (⟨i1, bad1, pos1⟩ : LS)) = X := by
  rw [show (4 - j).toNat = 0 by omega, hexL] at q; exact q
end
theorem esc_1 {p : LS} (h : (r, (⟨i1, bad1, pos1⟩ : LS)) = halfF b p.i p) (hx : (r < 55296 ∨ r > 57343) ∨ bad1 ≠ 0) : (r, (⟨i1, bad1, pos1⟩ : LS)) = escF b p := by
  unfold escF; rw [← h]; dsimp only; rw [if_pos (by omega)]
theorem esc_2 {p : LS} (h : (r, (⟨i1, bad1, pos1⟩ : LS)) = halfF b p.i p) (hx : ¬ ((r < 55296 ∨ r > 57343) ∨ bad1 ≠ 0)) (hy : ((r > 56319 ∨ i1 + 1 ≥ (b.length : Int)) ∨ gt b i1 ≠ 92) ∨ gt b (i1 + 1) ≠ 117) : (0, noF ⟨i1, bad1, pos1⟩ p.i 24) = escF b p := by
  unfold escF; rw [← h]; dsimp only; rw [if_neg (by omega), if_pos (by omega)]
theorem esc_3 {p : LS} {y : Int} (h : (r, (⟨i1, bad1, pos1⟩ : LS)) = halfF b p.i p) (hx : ¬ ((r < 55296 ∨ r > 57343) ∨ bad1 ≠ 0)) (hy : ¬ (((r > 56319 ∨ i1 + 1 ≥ (b.length : Int)) ∨ gt b i1 ≠ 92) ∨ gt b (i1 + 1) ≠ 117)) (h2 : (y, (⟨i2, bad2, pos2⟩ : LS)) = halfF b p.i ⟨i1, bad1, pos1⟩) :
    escF b p = (65536 + (r - 55296) * 1024 + y - 56320, if bad2 = 0 ∧ (y < 56320 ∨ y > 57343) then noF ⟨i2, bad2, pos2⟩ p.i 24 else ⟨i2, bad2, pos2⟩) := by
  unfold escF; rw [← h]; dsimp only; rw [if_neg (by omega), if_neg (by omega), ← h2]
section
variable {X : List Int × LS}
theorem textL_at (hk : 1 ≤ k) : k = (k - 1) + 1 := by omega
theorem text_low (hk : 1 ≤ k) (q : textL b k ⟨i1, bad1, pos1⟩ O = X) (p : c = hereF b ⟨i1, bad1, pos1⟩) (hc : c < 0) : ([], hereS b ⟨i1, bad1, pos1⟩) = X := by
  rw [textL_at hk, textL, ← p, if_pos hc] at q; exact q
theorem text_quo (hk : 1 ≤ k) (q : textL b k ⟨i1, bad1, pos1⟩ O = X) (p : c = hereF b ⟨i1, bad1, pos1⟩) (hc : ¬ c < 0) (h34 : c = 34) : (O, (⟨i1 + 1, bad1, pos1⟩ : LS)) = X := by
  rw [textL_at hk, textL, ← p, if_neg hc, if_pos h34] at q; exact q
theorem text_esc (hk : 1 ≤ k) (q : textL b k ⟨i1, bad1, pos1⟩ O = X) (p : c = hereF b ⟨i1, bad1, pos1⟩) (hc : ¬ c < 0) (h34 : ¬ c = 34) (h92 : c = 92) (e : (r, (⟨i2, bad2, pos2⟩ : LS)) = escF b ⟨i1, bad1, pos1⟩) : textL b (k - 1) ⟨i2, bad2, pos2⟩ (O ++ putF r) = X := by
  rw [textL_at hk, textL, ← p, if_neg hc, if_neg h34, if_pos h92, ← e] at q; exact q
theorem text_bad (hk : 1 ≤ k) (q : textL b k ⟨i1, bad1, pos1⟩ O = X) (p : c = hereF b ⟨i1, bad1, pos1⟩) (hc : ¬ c < 0) (h34 : ¬ c = 34) (h92 : ¬ c = 92) {R e : Int} (hR : R = runeF (b.drop i1.toNat)) (he : (c < 32 ∧ e = 22) ∨ (¬ c < 32 ∧ R = 0 ∧ e = 23)) (hb : bad1 = 0) (z : (bad1 = 0 → bad2 = e ∧ pos2 = i1) ∧ (bad1 ≠ 0 → bad2 = bad1 ∧ pos2 = pos1)) : ([], (⟨i1, bad2, pos2⟩ : LS)) = X := by
  subst hR
  rw [textL_at hk, textL, ← p, if_neg hc, if_neg h34, if_neg h92] at q
  have hz := noF_eq (i := i1) z
  have hb2 := (z.1 hb).1
  rcases he with ⟨h1, rfl⟩ | ⟨h1, h2, rfl⟩
  · dsimp only at q
    rw [if_pos h1, ← hz, if_pos (show bad2 ≠ 0 by omega)] at q; exact q
  · dsimp only at q
    rw [if_neg h1, if_pos h2, ← hz, if_pos (show bad2 ≠ 0 by omega)] at q; exact q
theorem text_raw (hk : 1 ≤ k) (q : textL b k ⟨i1, bad1, pos1⟩ O = X) (p : c = hereF b ⟨i1, bad1, pos1⟩) (hc : ¬ c < 0) (h34 : ¬ c = 34) (h92 : ¬ c = 92) {R : Int} (hR : R = runeF (b.drop i1.toNat)) (h1 : ¬ c < 32) (h2 : ¬ R = 0) (hb : bad1 = 0) : textL b (k - 1) ⟨i1 + R, bad1, pos1⟩ (O ++ (b.take (i1 + R).toNat).drop i1.toNat) = X := by
  subst hR
  rw [textL_at hk, textL, ← p, if_neg hc, if_neg h34, if_neg h92] at q
  dsimp only at q
  rw [if_neg h1, if_neg h2, if_neg (show ¬ bad1 ≠ 0 by omega)] at q; exact q
theorem text_of {s : List Int} {p : LS} (q : (s, (⟨i2, bad2, pos2⟩ : LS)) = textL b (b.length + 4) (p.go 1) []) : s = textF b p ∧ (⟨i2, bad2, pos2⟩ : LS) = textS b p := by
  unfold textF textS; rw [← q]; exact ⟨rfl, rfl⟩
end
theorem rune_bd2 (hn : b.length = n) (h0 : 0 ≤ i) (h1 : i < (n : Int)) : 0 ≤ runeF ((b.take n).drop i.toNat) ∧ runeF ((b.take n).drop i.toNat) ≤ 4 ∧ i + runeF ((b.take n).drop i.toNat) ≤ (n : Int) := by
  rw [bv hn]
  have hl : 0 < (b.drop i.toNat).length := by rw [List.length_drop]; omega
  have h2 := rune_spec _ hl
  have h3 := h2.2.2.1
  rw [List.length_drop] at h3
  exact ⟨h2.1, h2.2.1, by omega⟩
theorem putF_len (x : Int) : (putF x).length ≤ 4 := by
  unfold putF
  split
  · simp
  split
  · simp
  split <;> simp
end
end Go.SX
namespace Go.SX
open Go Go.RowKit
section
variable {V : Env} {P : Program} {Q : Exit → Act → World → Prop} {ops : Array Oper} {N : Nat} {o : Oper} {L : List (Nat × Value)} {C : World → Prop}
theorem wrap_u8_in {r : Int} (h0 : 0 ≤ r) (h1 : r < 256) : IntKind.u8.wrap r = r := by
  simp only [IntKind.wrap, IntKind.bits, IntKind.signed, Bool.false_and]
  simp
  omega
theorem wrap_u64_in {r : Int} (h0 : 0 ≤ r) (h1 : r < 18446744073709551616) : IntKind.u64.wrap r = r := by
  simp only [IntKind.wrap, IntKind.bits, IntKind.signed, Bool.false_and]
  simp
  omega
theorem ev_aru8 {op : BinOp} {t t' : TypeId} {x y : Operand} {a b r : Int} (ho : o.op = .binOp op t x y t') (hx : lk L x = some (.int .u8 a)) (hy : lk L y = some (.int .u8 b)) (hr : arB op .u8 a b = some (IntKind.u8.wrap r)) (h0 : 0 ≤ r) (h1 : r < 256) : Ev P C L o (.int .u8 r) :=
  ev_ar ho hx hy (by rw [hr, wrap_u8_in h0 h1])
theorem ev_aru64 {op : BinOp} {t t' : TypeId} {x y : Operand} {a b r : Int} (ho : o.op = .binOp op t x y t') (hx : lk L x = some (.int .u64 a)) (hy : lk L y = some (.int .u64 b)) (hr : arB op .u64 a b = some (IntKind.u64.wrap r)) (h0 : 0 ≤ r) (h1 : r < 18446744073709551616) : Ev P C L o (.int .u64 r) :=
  ev_ar ho hx hy (by rw [hr, wrap_u64_in h0 h1])
end
section
variable {b : List Int} {n k : Nat} {i bad pos x i1 bad1 pos1 i2 bad2 pos2 r c fr f : Int} {O l : List Int}
def Dg (l : List Int) (f x : Int) : Prop := ∀ j : Int, f ≤ j → j < x → 48 ≤ gt l j ∧ gt l j ≤ 57
theorem Dg.none : Dg l f f := fun j a b => by omega
theorem Dg.next (h : Dg l f x) (hc : ¬ (gt l x < 48 ∨ gt l x > 57)) : Dg l f (x + 1) := fun j a b => by
  by_cases e : j = x
  · subst e; omega
  · exact h j a (by omega)
theorem sgn_1 (h : (l.length : Int) > 0 ∧ gt l 0 = 45) : sgn l = 1 := by unfold sgn; rw [if_pos h]
theorem sgn_0 (h : ¬ ((l.length : Int) > 0 ∧ gt l 0 = 45)) : sgn l = 0 := by unfold sgn; rw [if_neg h]
theorem p1_1 (hf : sgn l = f) (h : f = (l.length : Int)) : (0, 11) = parse1 l := by unfold parse1; rw [hf, if_pos h]
theorem dg_bad (h0 : 0 ≤ f) (h1 : f ≤ x) (h2 : x < (l.length : Int)) (hc : gt l x < 48 ∨ gt l x > 57) : ∃ c ∈ l.drop f.toNat, c < 48 ∨ c > 57 := by
  refine ⟨gt l x, ?_, hc⟩
  have e : gt (l.drop f.toNat) (x - f) = gt l x := by rw [gt_drop (by omega)]; congr 1; omega
  rw [← e]
  exact gt_mem (by omega) (by rw [List.length_drop]; omega)
theorem dg_all (h0 : 0 ≤ f) (h : Dg l f (l.length : Int)) : ¬ ∃ c ∈ l.drop f.toNat, c < 48 ∨ c > 57 := by
  rintro ⟨c, hc, h2⟩
  obtain ⟨j, hj⟩ := List.getElem?_of_mem hc
  rw [List.getElem?_drop] at hj
  have hlt := (List.getElem?_eq_some_iff.1 hj).1
  have e : gt l ((f.toNat + j : Nat) : Int) = c := by unfold gt; rw [List.getD_eq_getElem?_getD, Int.toNat_natCast, hj]; rfl
  have := h ((f.toNat + j : Nat) : Int) (by omega) (by omega)
  rw [e] at this; omega
theorem p1_2 (hf : sgn l = f) (h : ¬ f = (l.length : Int)) (h0 : 0 ≤ f) (h1 : f ≤ x) (h2 : x < (l.length : Int)) (hc : gt l x < 48 ∨ gt l x > 57) : (0, 11) = parse1 l := by
  unfold parse1; rw [hf, if_neg h, if_pos (dg_bad h0 h1 h2 hc)]
theorem p1_3 (hf : sgn l = f) (h : ¬ f = (l.length : Int)) (h0 : 0 ≤ f) (hd : Dg l f (l.length : Int)) (hz : gt l f = 48 ∧ l ≠ [48]) : (0, 11) = parse1 l := by
  unfold parse1; rw [hf, if_neg h, if_neg (dg_all h0 hd), if_pos hz]
theorem p1_4 (hf : sgn l = f) (h : ¬ f = (l.length : Int)) (h0 : 0 ≤ f) (hd : Dg l f (l.length : Int)) (hz : ¬ (gt l f = 48 ∧ l ≠ [48])) (hl : (l.length : Int) - f > 19) : (0, 10) = parse1 l := by
  unfold parse1; rw [hf, if_neg h, if_neg (dg_all h0 hd), if_neg hz, if_pos hl]
theorem p1_5 (hf : sgn l = f) (h : ¬ f = (l.length : Int)) (h0 : 0 ≤ f) (hd : Dg l f (l.length : Int)) (hz : ¬ (gt l f = 48 ∧ l ≠ [48])) (hl : ¬ (l.length : Int) - f > 19) (q : decV (l.drop i.toNat) x = decV (l.drop f.toNat) 0) (hi : ¬ i < (l.length : Int)) (hx : x > 4611686018427387903) : (0, 10) = parse1 l := by
  rw [List.drop_of_length_le (by omega), decV] at q
  unfold parse1; rw [hf, if_neg h, if_neg (dg_all h0 hd), if_neg hz, if_neg hl, ← q, if_pos hx]
theorem p1_6 (hf : sgn l = f) (h : ¬ f = (l.length : Int)) (h0 : 0 ≤ f) (hd : Dg l f (l.length : Int)) (hz : ¬ (gt l f = 48 ∧ l ≠ [48])) (hl : ¬ (l.length : Int) - f > 19) (q : decV (l.drop i.toNat) x = decV (l.drop f.toNat) 0) (hi : ¬ i < (l.length : Int)) (hx : ¬ x > 4611686018427387903) : parse1 l = if f = 1 then (-x, 0) else (x, 0) := by
  rw [List.drop_of_length_le (by omega), decV] at q
  unfold parse1; rw [hf, if_neg h, if_neg (dg_all h0 hd), if_neg hz, if_neg hl, ← q, if_neg hx]
theorem dec_go {X : Int} (h0 : 0 ≤ i) (h1 : i < (l.length : Int)) (q : decV (l.drop i.toNat) x = X) : decV (l.drop (i + 1).toNat) (10 * x + (gt l i - 48)) = X := by
  rw [drop_gt h0 h1, decV] at q; exact q
theorem str_ne {s : ByteArray} : (!(s.toList == (⟨#[48]⟩ : ByteArray).toList)) = true ↔ bs s ≠ [48] := by
  rw [bl_dec]
  simp only [Bool.not_eq_true', decide_eq_false_iff_not, ne_eq]
  exact not_congr ⟨fun h => by rw [h]; rfl, fun h => bs_inj (h.trans rfl)⟩
theorem pow_next {j f x d : Int} (h0 : f ≤ j) (hx : x < 10 ^ (j - f).toNat) (h1 : d ≤ 9) : 10 * x + d < 10 ^ (j + 1 - f).toNat := by
  rw [show (j + 1 - f).toNat = (j - f).toNat + 1 by omega, Int.pow_succ]
  have : (10 : Int) ^ (j - f).toNat = 10 ^ (j - f).toNat := rfl
  generalize (10 : Int) ^ (j - f).toNat = P at *
  omega
theorem pow_bd {j f x : Int} (hx : x < 10 ^ (j - f).toNat) (h1 : j - f ≤ 18) : x < 1000000000000000000 := by
  have h2 : (10 : Int) ^ (j - f).toNat ≤ 10 ^ 18 := by
    have : (10 : Nat) ^ (j - f).toNat ≤ 10 ^ 18 := Nat.pow_le_pow_right (by decide) (by omega)
    exact_mod_cast this
  have h3 : (10 : Int) ^ 18 = 1000000000000000000 := by decide
  omega
theorem num_go {X : Int} (h0 : 0 ≤ x) (h1 : x < (b.length : Int)) (hb : numB (gt b x)) (q : x + numC (b.drop x.toNat) = X) : x + 1 + numC (b.drop (x + 1).toNat) = X := by
  rw [drop_gt h0 h1, numC, if_pos hb] at q; omega
theorem num_stop (h0 : 0 ≤ x) (h : x < (b.length : Int) → ¬ numB (gt b x)) : numC (b.drop x.toNat) = 0 := by
  by_cases h1 : x < (b.length : Int)
  · rw [drop_gt h0 h1, numC, if_neg (h h1)]
  · rw [List.drop_of_length_le (by omega)]; rfl
theorem num_end (h0 : 0 ≤ x) (q : x + numC (b.drop x.toNat) = i + numC (b.drop i.toNat)) (h : x < (b.length : Int) → ¬ numB (gt b x)) : (⟨x, bad, pos⟩ : LS) = numEnd b ⟨i, bad, pos⟩ := by
  rw [num_stop h0 h] at q
  have : x = i + (numC (b.drop i.toNat) : Int) := by omega
  subst this; rfl
theorem number_of {s : ByteArray} {v e : Int} (hE : (⟨x, bad, pos⟩ : LS) = numEnd b ⟨i, bad, pos⟩) (hs : bs s = (b.take x.toNat).drop i.toNat) (h : (v, e) = parse1 (bs s)) : v = numberF b ⟨i, bad, pos⟩ ∧ numberS b ⟨i, bad, pos⟩ = if e ≠ 0 then noF ⟨x, bad, pos⟩ i 25 else ⟨x, bad, pos⟩ := by
  have e1 : numSeg b ⟨i, bad, pos⟩ = bs s := by rw [hs]; unfold numSeg; rw [← hE]
  unfold numberF numberS
  rw [e1, ← h, ← hE]
  exact ⟨rfl, rfl⟩
end
end Go.SX
namespace Go.SX
open Go
section
variable {b : List Int} {n k d : Nat} {i bad pos x i1 bad1 pos1 i2 bad2 pos2 i3 bad3 pos3 i4 bad4 pos4 bad5 pos5 r r2 c c2 fr : Int} {ns X : List ByteArray} {s : ByteArray} {t T : List TN} {ks : List Int}
theorem hasN_nil : hasN [] s = false := rfl
theorem hasN_go (h0 : 0 ≤ x) (h1 : x < (ns.length : Int)) : hasN (ns.take (x + 1).toNat) s = (hasN (ns.take x.toNat) s || ((gt ns x).toList == s.toList)) := by
  unfold hasN; rw [take_gt h0 h1, List.any_append]; simp
theorem nm_go {a : Int} (h0 : 0 ≤ x) (h1 : x < (ns.length : Int)) (hb : bad1 = 0) (q : (⟨i, bad1, pos1⟩ : LS) = if bad = 0 ∧ hasN (ns.take x.toNat) s = true then noF ⟨i, bad, pos⟩ a 28 else ⟨i, bad, pos⟩)
    (z : (((gt ns x).toList == s.toList) = true ∧ ((bad1 = 0 → bad2 = 28 ∧ pos2 = a) ∧ (bad1 ≠ 0 → bad2 = bad1 ∧ pos2 = pos1))) ∨ (¬ ((gt ns x).toList == s.toList) = true ∧ bad2 = bad1 ∧ pos2 = pos1)) :
    (⟨i, bad2, pos2⟩ : LS) = if bad = 0 ∧ hasN (ns.take (x + 1).toNat) s = true then noF ⟨i, bad, pos⟩ a 28 else ⟨i, bad, pos⟩ := by
  rw [hasN_go h0 h1]
  by_cases h : bad = 0 ∧ hasN (ns.take x.toNat) s = true
  · exfalso
    rw [if_pos h] at q
    unfold noF at q
    rw [if_pos h.1] at q
    injection q with _ q2 _
    omega
  · rw [if_neg h] at q
    injection q with _ q2 q3
    subst q2 q3
    have hh : hasN (ns.take x.toNat) s = false := by
      cases hq : hasN (ns.take x.toNat) s with
      | false => rfl
      | true => exact absurd ⟨hb, hq⟩ h
    rcases z with ⟨z1, z2⟩ | ⟨z1, rfl, rfl⟩
    · rw [if_pos ⟨hb, by rw [hh, z1]; rfl⟩]
      exact noF_eq z2
    · rw [if_neg]
      rintro ⟨_, h2⟩
      rw [hh, Bool.false_or] at h2
      exact z1 h2
theorem nm_end {a : Int} (h0 : 0 ≤ x) (hx : x ≤ (ns.length : Int)) (q : (⟨i, bad1, pos1⟩ : LS) = if bad = 0 ∧ hasN (ns.take x.toNat) s = true then noF ⟨i, bad, pos⟩ a 28 else ⟨i, bad, pos⟩) (h : ¬ (x < (ns.length : Int) ∧ bad1 = 0)) :
    (⟨i, bad1, pos1⟩ : LS) = if bad = 0 ∧ hasN ns s = true then noF ⟨i, bad, pos⟩ a 28 else ⟨i, bad, pos⟩ := by
  by_cases hx2 : x < (ns.length : Int)
  · have hb : bad1 ≠ 0 := fun e => h ⟨hx2, e⟩
    by_cases h1 : bad = 0 ∧ hasN (ns.take x.toNat) s = true
    · rw [if_pos h1] at q
      have hh : hasN ns s = true := by
        obtain ⟨y, hy, hz⟩ := List.any_eq_true.1 (show (ns.take x.toNat).any (fun z => z.toList == s.toList) = true from h1.2)
        exact List.any_eq_true.2 ⟨y, List.mem_of_mem_take hy, hz⟩
      rw [if_pos ⟨h1.1, hh⟩]
      exact q
    · rw [if_neg h1] at q
      injection q with _ q2 q3
      rw [if_neg (by omega), q2, q3]
  · rw [List.take_of_length_le (by omega)] at q
    exact q
theorem name_1 (p1 : c = nextF b ⟨i, bad, pos⟩) (p2 : (⟨i1, bad1, pos1⟩ : LS) = nextS b ⟨i, bad, pos⟩) (hc : c ≥ 0 ∧ c ≠ 34) (hb : bad1 = 0) (z : (bad1 = 0 → bad2 = 22 ∧ pos2 = i1) ∧ (bad1 ≠ 0 → bad2 = bad1 ∧ pos2 = pos1)) : ((⟨i1, bad2, pos2⟩ : LS), ns) = nameS b ns ⟨i, bad, pos⟩ := by
  have e : nameS1 b ⟨i, bad, pos⟩ = ⟨i1, bad2, pos2⟩ := by
    unfold nameS1; rw [← p1, ← p2, if_pos hc]; exact (noF_eq z).symm
  unfold nameS
  dsimp only
  rw [e, if_pos (show bad2 ≠ 0 by have := (z.1 hb).1; omega)]
theorem name_2 (p1 : c = nextF b ⟨i, bad, pos⟩) (p2 : (⟨i1, bad1, pos1⟩ : LS) = nextS b ⟨i, bad, pos⟩) (hc : ¬ (c ≥ 0 ∧ c ≠ 34)) (hb : bad1 ≠ 0) : ((⟨i1, bad1, pos1⟩ : LS), ns) = nameS b ns ⟨i, bad, pos⟩ := by
  have e : nameS1 b ⟨i, bad, pos⟩ = ⟨i1, bad1, pos1⟩ := by
    unfold nameS1; rw [← p1, ← p2, if_neg hc]
  unfold nameS
  dsimp only
  rw [e, if_pos hb]
theorem name_3 (p1 : c = nextF b ⟨i, bad, pos⟩) (p2 : (⟨i1, bad1, pos1⟩ : LS) = nextS b ⟨i, bad, pos⟩) (hc : ¬ (c ≥ 0 ∧ c ≠ 34)) (hb : ¬ bad1 ≠ 0) (p3 : s = mkS (textF b ⟨i1, bad1, pos1⟩)) (p4 : (⟨i2, bad2, pos2⟩ : LS) = textS b ⟨i1, bad1, pos1⟩)
    (p5 : (⟨i2, bad3, pos3⟩ : LS) = if bad2 = 0 ∧ hasN ns s = true then noF ⟨i2, bad2, pos2⟩ i1 28 else ⟨i2, bad2, pos2⟩) (p6 : c2 = nextF b ⟨i2, bad3, pos3⟩) (p7 : (⟨i4, bad4, pos4⟩ : LS) = nextS b ⟨i2, bad3, pos3⟩)
    (p8 : (⟨i4, bad5, pos5⟩ : LS) = if c2 ≥ 0 ∧ c2 ≠ 58 then noF ⟨i4, bad4, pos4⟩ i4 22 else ⟨i4, bad4, pos4⟩) : ((⟨i4 + 1, bad5, pos5⟩ : LS), ns ++ [s]) = nameS b ns ⟨i, bad, pos⟩ := by
  have e : nameS1 b ⟨i, bad, pos⟩ = ⟨i1, bad1, pos1⟩ := by
    unfold nameS1; rw [← p1, ← p2, if_neg hc]
  unfold nameS
  dsimp only
  rw [e, if_neg hb, ← p3, ← p4, ← p2]
  dsimp only
  rw [← p5, ← p6, ← p7]
  dsimp only
  rw [← p8]
  rfl
theorem put_ok {l : List TV} {v : TV} (hb : bad = 0) (hl : ¬ (l.length : Int) ≥ 8192) : (⟨l.length, ⟨i, bad, pos⟩, vs (l ++ [v])⟩ : VR) = putV ⟨i, bad, pos⟩ (vs l) v.v fr := by
  have e : putP ⟨i, bad, pos⟩ (vs l) fr = ⟨i, bad, pos⟩ := by unfold putP; rw [vs_len, if_neg (fun h => hl h.2)]
  unfold putV
  rw [e, if_neg (show ¬ bad ≠ 0 by omega), vs_app, vs_len]; rfl
theorem put_full {l : List TV} {v : TN} (hb : bad = 0) (hl : (l.length : Int) ≥ 8192) (z : (bad = 0 → bad2 = 27 ∧ pos2 = fr) ∧ (bad ≠ 0 → bad2 = bad ∧ pos2 = pos)) : (⟨0, ⟨i, bad2, pos2⟩, vs l⟩ : VR) = putV ⟨i, bad, pos⟩ (vs l) v fr := by
  have e : putP ⟨i, bad, pos⟩ (vs l) fr = ⟨i, bad2, pos2⟩ := by unfold putP; rw [vs_len, if_pos ⟨hb, hl⟩, ← noF_eq z]
  unfold putV
  rw [e, if_pos (show bad2 ≠ 0 by have := (z.1 hb).1; omega)]
theorem put_bad {l : List TV} {v : TN} (hb : bad ≠ 0) : (⟨0, ⟨i, bad, pos⟩, vs l⟩ : VR) = putV ⟨i, bad, pos⟩ (vs l) v fr := by
  have e : putP ⟨i, bad, pos⟩ (vs l) fr = ⟨i, bad, pos⟩ := by unfold putP; rw [if_neg (fun h => hb h.1)]
  unfold putV
  rw [e, if_pos hb]
section
variable {val : LS → List TN → VR} {ob : Bool} {Y : VR}
theorem manyL_at (hk : 1 ≤ k) : k = (k - 1) + 1 := by omega
theorem many_stop (hb : bad ≠ 0) (q : manyL b val ob fr k ⟨i, bad, pos⟩ t ns ks = Y) : (⟨0, ⟨i, bad, pos⟩, t⟩ : VR) = Y := by
  rw [← q]
  cases k with
  | zero => rfl
  | succ k => rw [manyL, if_pos hb]
theorem many_step (hk : 1 ≤ k) (hb : bad = 0) (q : manyL b val ob fr k ⟨i, bad, pos⟩ t ns ks = Y) (p1 : (ob = true ∧ ((⟨i1, bad1, pos1⟩ : LS), X) = nameS b ns ⟨i, bad, pos⟩) ∨ (ob = false ∧ i1 = i ∧ bad1 = bad ∧ pos1 = pos ∧ X = ns))
    (p2 : (⟨r, ⟨i2, bad2, pos2⟩, T⟩ : VR) = val ⟨i1, bad1, pos1⟩ t) (p3 : c = nextF b ⟨i2, bad2, pos2⟩) (p4 : (⟨i3, bad3, pos3⟩ : LS) = nextS b ⟨i2, bad2, pos2⟩) (p5 : (⟨i3, bad4, pos4⟩ : LS) = if c ≥ 0 ∧ c ≠ 44 ∧ c ≠ endB ob then noF ⟨i3, bad3, pos3⟩ i3 22 else ⟨i3, bad3, pos3⟩) :
    (if c = endB ob then putV ⟨i3 + 1, bad4, pos4⟩ T ⟨kindB ob, false, 0, ⟨#[]⟩, X, ks ++ [r]⟩ fr else manyL b val ob fr (k - 1) ⟨i3 + 1, bad4, pos4⟩ T X (ks ++ [r])) = Y := by
  rw [manyL_at hk, manyL, if_neg (show ¬ bad ≠ 0 by omega)] at q
  rw [← q]
  have hq : (if ob = true then (nameS b ns ⟨i, bad, pos⟩).1 else (⟨i, bad, pos⟩ : LS)) = ⟨i1, bad1, pos1⟩ ∧ (if ob = true then (nameS b ns ⟨i, bad, pos⟩).2 else ns) = X := by
    rcases p1 with ⟨rfl, h⟩ | ⟨rfl, rfl, rfl, rfl, rfl⟩
    · rw [← h]; exact ⟨rfl, rfl⟩
    · exact ⟨rfl, rfl⟩
  dsimp only
  rw [hq.1, hq.2, ← p2]
  dsimp only
  rw [← p3, ← p4]
  dsimp only
  rw [← p5]
  rfl
theorem many_0 (p1 : c = nextF b ⟨i, bad, pos⟩) (p2 : (⟨i1, bad1, pos1⟩ : LS) = nextS b ⟨i, bad, pos⟩) (hc : c = endB ob) (h : Y = putV ⟨i1 + 1, bad1, pos1⟩ t ⟨kindB ob, false, 0, ⟨#[]⟩, [], []⟩ fr) : Y = manyF b val ob fr ⟨i, bad, pos⟩ t := by
  unfold manyF; rw [← p1, if_pos hc, ← p2, h]; rfl
theorem many_1 (p1 : c = nextF b ⟨i, bad, pos⟩) (p2 : (⟨i1, bad1, pos1⟩ : LS) = nextS b ⟨i, bad, pos⟩) (hc : ¬ c = endB ob) (h : Y = manyL b val ob fr (b.length + 2) ⟨i1, bad1, pos1⟩ t [] []) : Y = manyF b val ob fr ⟨i, bad, pos⟩ t := by
  unfold manyF; rw [← p1, if_neg hc, ← p2, h]
end
section
variable {Y : VR}
theorem val_1 (p1 : c = nextF b ⟨i, bad, pos⟩) (p2 : (⟨i1, bad1, pos1⟩ : LS) = nextS b ⟨i, bad, pos⟩) (hc : c < 0) : (⟨0, ⟨i1, bad1, pos1⟩, t⟩ : VR) = valueF b (d + 1) ⟨i, bad, pos⟩ t := by
  rw [valueF]; rw [← p1, ← p2, if_pos hc]
theorem val_2 (p1 : c = nextF b ⟨i, bad, pos⟩) (p2 : (⟨i1, bad1, pos1⟩ : LS) = nextS b ⟨i, bad, pos⟩) (hc : c = 110) (h : Y = putV (wordF b [110, 117, 108, 108] ⟨i1, bad1, pos1⟩) t ⟨1, false, 0, ⟨#[]⟩, [], []⟩ i1) : Y = valueF b (d + 1) ⟨i, bad, pos⟩ t := by
  rw [valueF]; rw [← p1, ← p2, if_neg (by omega), if_pos hc, h]
theorem val_3 (p1 : c = nextF b ⟨i, bad, pos⟩) (p2 : (⟨i1, bad1, pos1⟩ : LS) = nextS b ⟨i, bad, pos⟩) (hc : c = 116) (h : Y = putV (wordF b [116, 114, 117, 101] ⟨i1, bad1, pos1⟩) t ⟨2, true, 0, ⟨#[]⟩, [], []⟩ i1) : Y = valueF b (d + 1) ⟨i, bad, pos⟩ t := by
  rw [valueF]; rw [← p1, ← p2, if_neg (by omega), if_neg (by omega), if_pos hc, h]
theorem val_4 (p1 : c = nextF b ⟨i, bad, pos⟩) (p2 : (⟨i1, bad1, pos1⟩ : LS) = nextS b ⟨i, bad, pos⟩) (hc : c = 102) (h : Y = putV (wordF b [102, 97, 108, 115, 101] ⟨i1, bad1, pos1⟩) t ⟨2, false, 0, ⟨#[]⟩, [], []⟩ i1) : Y = valueF b (d + 1) ⟨i, bad, pos⟩ t := by
  rw [valueF]; rw [← p1, ← p2, if_neg (by omega), if_neg (by omega), if_neg (by omega), if_pos hc, h]
theorem val_5 (p1 : c = nextF b ⟨i, bad, pos⟩) (p2 : (⟨i1, bad1, pos1⟩ : LS) = nextS b ⟨i, bad, pos⟩) (hc : c = 34) (h : Y = putV (textS b ⟨i1, bad1, pos1⟩) t ⟨4, false, 0, mkS (textF b ⟨i1, bad1, pos1⟩), [], []⟩ i1) : Y = valueF b (d + 1) ⟨i, bad, pos⟩ t := by
  rw [valueF]; rw [← p1, ← p2, if_neg (by omega), if_neg (by omega), if_neg (by omega), if_neg (by omega), if_pos hc, h]
theorem val_6 (p1 : c = nextF b ⟨i, bad, pos⟩) (p2 : (⟨i1, bad1, pos1⟩ : LS) = nextS b ⟨i, bad, pos⟩) (hc : c = 45 ∨ (c ≥ 48 ∧ c ≤ 57)) (h : Y = putV (numberS b ⟨i1, bad1, pos1⟩) t ⟨3, false, numberF b ⟨i1, bad1, pos1⟩, ⟨#[]⟩, [], []⟩ i1) : Y = valueF b (d + 1) ⟨i, bad, pos⟩ t := by
  rw [valueF]; rw [← p1, ← p2, if_neg (by omega), if_neg (by omega), if_neg (by omega), if_neg (by omega), if_neg (by omega), if_pos hc, h]
theorem val_7 (p1 : c = nextF b ⟨i, bad, pos⟩) (p2 : (⟨i1, bad1, pos1⟩ : LS) = nextS b ⟨i, bad, pos⟩) (hc : c = 91 ∨ c = 123) (hd : d = 0) (h : (⟨i1, bad2, pos2⟩ : LS) = noF ⟨i1, bad1, pos1⟩ i1 26) : (⟨0, ⟨i1, bad2, pos2⟩, t⟩ : VR) = valueF b (d + 1) ⟨i, bad, pos⟩ t := by
  rw [valueF]; rw [← p1, ← p2, if_neg (by omega), if_neg (by omega), if_neg (by omega), if_neg (by omega), if_neg (by omega), if_neg (by omega), if_pos hc, if_pos hd, h]
theorem val_8 {ob : Bool} (p1 : c = nextF b ⟨i, bad, pos⟩) (p2 : (⟨i1, bad1, pos1⟩ : LS) = nextS b ⟨i, bad, pos⟩) (hc : c = 91 ∨ c = 123) (hd : ¬ d = 0) (ho : ob = (c == 123)) (h : Y = manyF b (valueF b d) ob i1 ⟨i1 + 1, bad1, pos1⟩ t) : Y = valueF b (d + 1) ⟨i, bad, pos⟩ t := by
  have e : ob = decide (c = 123) := by rw [ho]; rfl
  rw [valueF]; rw [← p1, ← p2, if_neg (by omega), if_neg (by omega), if_neg (by omega), if_neg (by omega), if_neg (by omega), if_neg (by omega), if_pos hc, if_neg hd, h, e]; rfl
theorem val_9 (p1 : c = nextF b ⟨i, bad, pos⟩) (p2 : (⟨i1, bad1, pos1⟩ : LS) = nextS b ⟨i, bad, pos⟩) (h0 : ¬ c < 0) (h1 : ¬ c = 110) (h2 : ¬ c = 116) (h3 : ¬ c = 102) (h4 : ¬ c = 34) (h5 : ¬ (c = 45 ∨ (c ≥ 48 ∧ c ≤ 57))) (h6 : ¬ (c = 91 ∨ c = 123)) (h : (⟨i1, bad2, pos2⟩ : LS) = noF ⟨i1, bad1, pos1⟩ i1 22) : (⟨0, ⟨i1, bad2, pos2⟩, t⟩ : VR) = valueF b (d + 1) ⟨i, bad, pos⟩ t := by
  rw [valueF]; rw [← p1, ← p2, if_neg h0, if_neg h1, if_neg h2, if_neg h3, if_neg h4, if_neg h5, if_neg h6, h]
end
theorem parse_0 (h : (b.length : Int) > 65536) : (20 : Int) = parseE b ∧ [] = parseT b := by unfold parseE parseT; rw [if_pos h, if_pos (.inl h)]; exact ⟨rfl, rfl⟩
theorem parse_p {l : List TV} (hv : (⟨r, ⟨i1, bad1, pos1⟩, vs l⟩ : VR) = valueF b 17 ⟨0, 0, 0⟩ []) (hg : i2 = (gapF b ⟨i1, bad1, pos1⟩).i) (hz : (⟨i2, bad2, pos2⟩ : LS) = if bad1 = 0 ∧ i2 < (b.length : Int) then noF ⟨i2, bad1, pos1⟩ i2 22 else ⟨i2, bad1, pos1⟩) : parseP b = ⟨i2, bad2, pos2⟩ := by
  have e : gapF b ⟨i1, bad1, pos1⟩ = ⟨i2, bad1, pos1⟩ := (gap_eq hg).symm
  unfold parseP
  rw [← hv]
  dsimp only
  rw [e, hz]
theorem parse_1 {l : List TV} (h0 : ¬ (b.length : Int) > 65536) (hv : (⟨r, ⟨i1, bad1, pos1⟩, vs l⟩ : VR) = valueF b 17 ⟨0, 0, 0⟩ []) (hp : parseP b = ⟨i2, bad2, pos2⟩) (hb : bad2 ≠ 0) : bad2 = parseE b ∧ [] = parseT b := by
  unfold parseE parseT
  rw [if_neg h0, hp, if_pos (.inr hb)]
  exact ⟨rfl, rfl⟩
theorem parse_2 {l : List TV} (h0 : ¬ (b.length : Int) > 65536) (hv : (⟨r, ⟨i1, bad1, pos1⟩, vs l⟩ : VR) = valueF b 17 ⟨0, 0, 0⟩ []) (hp : parseP b = ⟨i2, bad2, pos2⟩) (hb : ¬ bad2 ≠ 0) : 0 = parseE b ∧ vs l = parseT b := by
  unfold parseE parseT
  rw [if_neg h0, hp, if_neg (by simp only [not_or]; exact ⟨h0, hb⟩), ← hv]
  exact ⟨by dsimp only; omega, rfl⟩
end
end Go.SX
namespace Go.SX
open Go
section
variable {b : List Int} {n k d : Nat} {i bad pos i1 bad1 pos1 i2 bad2 pos2 i3 bad3 pos3 bad4 pos4 r c fr : Int} {ns X : List ByteArray} {t T : List TN} {ks : List Int} {val : LS → List TN → VR} {ob : Bool} {Y Z : VR}
theorem tb_leaf {kd nn : Int} {tr : Bool} {s : ByteArray} (hs : s.size ≤ 1000000) (h1 : -9223372036854775808 ≤ nn) (h2 : nn ≤ 9223372036854775807) : TB ⟨kd, tr, nn, s, [], []⟩ := ⟨hs, fun s hs => (by cases hs), by simp, by simp, h1, h2⟩
theorem tb_obj {kd : Int} (hX : ∀ y ∈ X, y.size ≤ 200000) (h1 : X.length ≤ 1000000) (h2 : ks.length ≤ 1000000) : TB ⟨kd, false, 0, ⟨#[]⟩, X, ks⟩ := ⟨show (⟨#[]⟩ : ByteArray).size ≤ 1000000 by decide, fun s hs => Nat.le_trans (hX s hs) (by decide), h1, h2, show (-9223372036854775808 : Int) ≤ 0 by decide, show (0 : Int) ≤ 9223372036854775807 by decide⟩
theorem many_put (hk : 1 ≤ k) (hb : bad = 0) (q : manyL b val ob fr k ⟨i, bad, pos⟩ t ns ks = Y) (p1 : (ob = true ∧ ((⟨i1, bad1, pos1⟩ : LS), X) = nameS b ns ⟨i, bad, pos⟩) ∨ (ob = false ∧ i1 = i ∧ bad1 = bad ∧ pos1 = pos ∧ X = ns))
    (p2 : (⟨r, ⟨i2, bad2, pos2⟩, T⟩ : VR) = val ⟨i1, bad1, pos1⟩ t) (p3 : c = nextF b ⟨i2, bad2, pos2⟩) (p4 : (⟨i3, bad3, pos3⟩ : LS) = nextS b ⟨i2, bad2, pos2⟩) (p5 : (⟨i3, bad4, pos4⟩ : LS) = if c ≥ 0 ∧ c ≠ 44 ∧ c ≠ endB ob then noF ⟨i3, bad3, pos3⟩ i3 22 else ⟨i3, bad3, pos3⟩)
    (hc : c = endB ob) (h : Z = putV ⟨i3 + 1, bad4, pos4⟩ T ⟨kindB ob, false, 0, ⟨#[]⟩, X, ks ++ [r]⟩ fr) : Z = Y := by
  have := many_step hk hb q p1 p2 p3 p4 p5
  rw [if_pos hc] at this
  exact h.trans this
theorem many_go (hk : 1 ≤ k) (hb : bad = 0) (q : manyL b val ob fr k ⟨i, bad, pos⟩ t ns ks = Y) (p1 : (ob = true ∧ ((⟨i1, bad1, pos1⟩ : LS), X) = nameS b ns ⟨i, bad, pos⟩) ∨ (ob = false ∧ i1 = i ∧ bad1 = bad ∧ pos1 = pos ∧ X = ns))
    (p2 : (⟨r, ⟨i2, bad2, pos2⟩, T⟩ : VR) = val ⟨i1, bad1, pos1⟩ t) (p3 : c = nextF b ⟨i2, bad2, pos2⟩) (p4 : (⟨i3, bad3, pos3⟩ : LS) = nextS b ⟨i2, bad2, pos2⟩) (p5 : (⟨i3, bad4, pos4⟩ : LS) = if c ≥ 0 ∧ c ≠ 44 ∧ c ≠ endB ob then noF ⟨i3, bad3, pos3⟩ i3 22 else ⟨i3, bad3, pos3⟩)
    (hc : ¬ c = endB ob) : manyL b val ob fr (k - 1) ⟨i3 + 1, bad4, pos4⟩ T X (ks ++ [r]) = Y := by
  have := many_step hk hb q p1 p2 p3 p4 p5
  rw [if_neg hc] at this
  exact this
theorem bs_null : bs ⟨#[110, 117, 108, 108]⟩ = [110, 117, 108, 108] := rfl
theorem bs_true : bs ⟨#[116, 114, 117, 101]⟩ = [116, 114, 117, 101] := rfl
theorem bs_false : bs ⟨#[102, 97, 108, 115, 101]⟩ = [102, 97, 108, 115, 101] := rfl
end
end Go.SX
namespace Go.SX
open Go
theorem num_pos {b : List Int} {i x bad pos : Int} (hE : (⟨x, bad, pos⟩ : LS) = numEnd b ⟨i, bad, pos⟩) (h0 : 0 ≤ i) (h1 : i < (b.length : Int)) (h : numB (gt b i)) : i + 1 ≤ x := by
  injection hE with e _ _
  have : (numEnd b ⟨i, bad, pos⟩).i = i + (numC (b.drop i.toNat) : Int) := rfl
  rw [drop_gt h0 h1, numC, if_pos h] at this
  have e2 : x = (numEnd b ⟨i, bad, pos⟩).i := e
  omega
end Go.SX
namespace Go.SX
open Go Go.RowKit
instance (l : List TV) (i k : Int) : Decidable (kidOk l i k) := by unfold kidOk; infer_instance
def KW (l : List TV) : Prop := ∀ i : Int, 0 ≤ i → i < (l.length : Int) → (gt l i).v.ks.length ≤ 8192 ∧ ∀ k : Int, 0 ≤ k → k < (gt l i).v.ks.length → kidOk l i k
section
variable {l : List TV} {i k : Int} {n : Nat} {S : Nat → Prop} {wf : World} {A A2 : Option Addr} {c c2 : Nat}
theorem KW.ks (h : KW l) (hi : 0 ≤ i ∧ i < (l.length : Int)) : ∀ k : Int, 0 ≤ k → k < (gt l i).v.ks.length → kidOk l i k := (h i hi.1 hi.2).2
theorem KW.len (h : KW l) (hi : 0 ≤ i ∧ i < (l.length : Int)) : (gt l i).v.ks.length ≤ 8192 := (h i hi.1 hi.2).1
end
end Go.SX
namespace Go.SX
open Go
def treeF (cd at_ : Int) (path : ByteArray) (op : Bool) (su : SU) (ps : List PV) (lf : List TK) : List TN := if cd ≠ 0 then faultT cd at_ path else okT op su ps lf
theorem treeF_f {cd at_ : Int} {path : ByteArray} {op : Bool} {su : SU} {ps : List PV} {lf : List TK} (h : cd ≠ 0) : faultT cd at_ path = treeF cd at_ path op su ps lf := by unfold treeF; rw [if_pos h]
theorem treeF_o {cd at_ : Int} {path : ByteArray} {op : Bool} {su : SU} {ps : List PV} {lf : List TK} (h : cd = 0) : okT op su ps lf = treeF cd at_ path op su ps lf := by unfold treeF; rw [if_neg (by omega)]
end Go.SX
namespace Go.SX
open Go
mutual
inductive J where
  | nul : J
  | boo : Bool → J
  | num : Int → J
  | str : ByteArray → J
  | box : Bool → List ByteArray → JL → J
inductive JL where
  | nil : JL
  | cons : J → JL → JL
end
mutual
def lay (k : Int) : J → List TN
  | .nul => [⟨1, false, 0, ⟨#[]⟩, [], []⟩]
  | .boo b => [⟨2, b, 0, ⟨#[]⟩, [], []⟩]
  | .num n => [⟨3, false, n, ⟨#[]⟩, [], []⟩]
  | .str s => [⟨4, false, 0, s, [], []⟩]
  | .box ob ns l => (layL k l).1 ++ [⟨kindB ob, false, 0, ⟨#[]⟩, ns, (layL k l).2⟩]
def layL (k : Int) : JL → List TN × List Int
  | .nil => ([], [])
  | .cons j l => (lay k j ++ (layL (k + (lay k j).length) l).1, (k + (lay k j).length - 1) :: (layL (k + (lay k j).length) l).2)
end
def LayOk (k : Int) (t : List TN) : Prop := ∀ (a : Nat) v, t[a]? = some v → v.ks.length ≤ a ∧ ∀ x ∈ v.ks, k ≤ x ∧ x < k + a
theorem LayOk.nil (k : Int) : LayOk k [] := fun a v h => by simp at h
theorem LayOk.app {k : Int} {t u : List TN} (h : LayOk k t) (h2 : LayOk (k + t.length) u) : LayOk k (t ++ u) := fun a v hv => by
  rw [List.getElem?_append] at hv
  split at hv
  · exact h a v hv
  · obtain ⟨h3, h4⟩ := h2 _ v hv
    exact ⟨by omega, fun x hx => by have := h4 x hx; omega⟩
theorem LayOk.one {k : Int} {t : List TN} {v : TN} (h : LayOk k t) (h1 : v.ks.length ≤ t.length) (h2 : ∀ x ∈ v.ks, k ≤ x ∧ x < k + t.length) : LayOk k (t ++ [v]) := fun a u hu => by
  rw [List.getElem?_append] at hu
  split at hu
  · exact h a u hu
  · rename_i hl
    have ha : a - t.length = 0 := by
      have := (List.getElem?_eq_some_iff.1 hu).1
      simp at this; omega
    rw [ha] at hu
    simp at hu
    subst hu
    exact ⟨by omega, fun x hx => by have := h2 x hx; omega⟩
mutual
theorem lay_pos (k : Int) : (j : J) → 1 ≤ (lay k j).length
  | .nul => by simp [lay]
  | .boo b => by simp [lay]
  | .num n => by simp [lay]
  | .str s => by simp [lay]
  | .box ob ns l => by simp [lay]
end
mutual
theorem lay_ok (k : Int) : (j : J) → LayOk k (lay k j)
  | .nul => (LayOk.nil k).one (t := []) (by simp) (fun x hx => by cases hx)
  | .boo b => (LayOk.nil k).one (t := []) (by simp) (fun x hx => by cases hx)
  | .num n => (LayOk.nil k).one (t := []) (by simp) (fun x hx => by cases hx)
  | .str s => (LayOk.nil k).one (t := []) (by simp) (fun x hx => by cases hx)
  | .box ob ns l => by
    have h := layL_ok k l
    rw [lay]
    exact h.1.one h.2.1 h.2.2
theorem layL_ok (k : Int) : (l : JL) → LayOk k (layL k l).1 ∧ (layL k l).2.length ≤ (layL k l).1.length ∧ ∀ x ∈ (layL k l).2, k ≤ x ∧ x < k + (layL k l).1.length
  | .nil => ⟨LayOk.nil k, by simp [layL], fun x hx => by simp [layL] at hx⟩
  | .cons j l => by
    have h := lay_ok k j
    have h2 := layL_ok (k + (lay k j).length) l
    have hp := lay_pos k j
    rw [layL]
    refine ⟨h.app h2.1, ?_, fun x hx => ?_⟩
    · simp only [List.length_cons, List.length_append]; omega
    · simp only [List.length_append] at *
      rcases List.mem_cons.1 hx with rfl | hx
      · omega
      · have := h2.2.2 x hx; omega
end
def seg (b : List Int) (i j : Int) : List Int := (b.take j.toNat).drop i.toNat
def Fit (s x : List Int) : Prop := x.length ≤ s.length ∧ (x.length = s.length → s = x)
theorem Fit.refl (s : List Int) : Fit s s := ⟨Nat.le_refl _, fun _ => rfl⟩
theorem Fit.app {s x t y : List Int} (h : Fit s x) (k : Fit t y) : Fit (s ++ t) (x ++ y) := by
  refine ⟨by simp only [List.length_append]; have := h.1; have := k.1; omega, fun e => ?_⟩
  simp only [List.length_append] at e
  have h1 := h.1; have k1 := k.1
  rw [h.2 (by omega), k.2 (by omega)]
theorem Fit.lt {s x : List Int} (h : x.length < s.length) : Fit s x := ⟨by omega, fun e => by omega⟩
end Go.SX
namespace Go.SX
open Go
def nmT (ob : Bool) (ns : List ByteArray) : List Int := if ob = true then quoteF (ns.headD ⟨#[]⟩) ++ [58] else []
def sepT (l : JL) (x : List Int) : List Int := match l with
  | .nil => []
  | .cons _ _ => 44 :: x
def opnB (ob : Bool) : Int := if ob = true then 123 else 91
mutual
def txt : J → List Int
  | .nul => [110, 117, 108, 108]
  | .boo b => if b = true then [116, 114, 117, 101] else [102, 97, 108, 115, 101]
  | .num n => numL n
  | .str s => quoteF s
  | .box ob ns l => [opnB ob] ++ txtL ob ns l ++ [endB ob]
def txtL (ob : Bool) (ns : List ByteArray) : JL → List Int
  | .nil => []
  | .cons j l => nmT ob ns ++ txt j ++ sepT l (txtL ob ns.tail l)
end
def ClnS (s : ByteArray) : Prop := ∀ x ∈ bs s, ¬ x < 32
mutual
def Cln : J → Prop
  | .nul => True
  | .boo _ => True
  | .num _ => True
  | .str s => ClnS s
  | .box _ ns l => (∀ s ∈ ns, ClnS s) ∧ ClnL l
def ClnL : JL → Prop
  | .nil => True
  | .cons j l => Cln j ∧ ClnL l
end
theorem putF_1 {x : Int} (h0 : 0 ≤ x) (h : x < 128) : putF x = [x] := by unfold putF; rw [if_pos h]; unfold w8; rw [wrap_u8_in h0 (by omega)]
theorem rune_1 {x : Int} {r : List Int} (h : x < 128) : runeF (x :: r) = 1 := by unfold runeF; rw [gt_cons0, if_pos h]
theorem rune_head {l : List Int} (hl : 0 < l.length) (h : runeF l ≠ 0) (r : List Int) : runeF (l.take (runeF l).toNat ++ r) = runeF l := by
  have sp := rune_spec l hl
  have h1 : 1 ≤ runeF l := by omega
  have hg : gt (l.take (runeF l).toNat ++ r) 0 = gt l 0 := by
    unfold gt
    rw [List.getD_eq_getElem?_getD, List.getD_eq_getElem?_getD, List.getElem?_append_left (by rw [List.length_take]; show (0 : Nat) < _; omega), List.getElem?_take_of_lt (by show (0 : Nat) < _; omega)]
  have key : ∀ m least x0 : Int, 2 ≤ m → runeF l = runeN l m least x0 → runeN (l.take (runeF l).toNat ++ r) m least x0 = runeF l := by
    intro m least x0 hm e
    have hn : runeF l = m ∧ m ≤ (l.length : Int) := by
      rcases runeN_spec (l := l) (least := least) (x0 := x0) hm with e2 | ⟨e2, h6, _⟩
      · exact absurd (e.trans e2) h
      · exact ⟨e.trans e2, h6⟩
    conv => rhs; rw [e]
    rw [hn.1]
    unfold runeN
    rw [if_neg (by rw [List.length_append, List.length_take]; omega), if_neg (by omega)]
    have e3 : (l.take m.toNat ++ r).take m.toNat = l.take m.toNat := by
      rw [List.take_append_of_le_length (by rw [List.length_take]; omega), List.take_take, Nat.min_self]
    rw [e3]
  generalize l.take (runeF l).toNat ++ r = l' at hg key ⊢
  have e : runeF l' = if gt l' 0 < 128 then 1 else if gt l' 0 ≥ 194 ∧ gt l' 0 < 224 then runeN l' 2 128 (bnd .i64 (gt l' 0) 31) else if gt l' 0 ≥ 224 ∧ gt l' 0 < 240 then runeN l' 3 2048 (bnd .i64 (gt l' 0) 15) else if gt l' 0 ≥ 240 ∧ gt l' 0 < 245 then runeN l' 4 65536 (bnd .i64 (gt l' 0) 7) else 0 := rfl
  rw [e, hg]
  by_cases a : gt l 0 < 128
  · rw [if_pos a, ← rsel1 a]
  · rw [if_neg a]
    by_cases c2 : gt l 0 ≥ 194 ∧ gt l 0 < 224
    · rw [if_pos c2]; exact key 2 _ _ (by decide) (rsel2 a c2)
    · rw [if_neg c2]
      by_cases c3 : gt l 0 ≥ 224 ∧ gt l 0 < 240
      · rw [if_pos c3]; exact key 3 _ _ (by decide) (rsel3 a c3)
      · rw [if_neg c3]
        by_cases c4 : gt l 0 ≥ 240 ∧ gt l 0 < 245
        · rw [if_pos c4]; exact key 4 _ _ (by decide) (rsel4 a c4)
        · exact absurd (rsel0 a c2 c3 c4).symm h
end Go.SX
namespace Go.SX
open Go
structure Took (b : List Int) (p : LS) (t : List TN) (R : VR) (j : J) : Prop where
  t_eq : R.t = t ++ lay t.length j
  r_eq : R.r = (R.t.length : Int) - 1
  le : p.i ≤ R.p.i
  ge : R.p.i ≤ (b.length : Int)
  fit : Cln j → Fit (seg b p.i R.p.i) (txt j)
end Go.SX
namespace Go.SX
open Go
def JL.of : List J → JL
  | [] => .nil
  | j :: r => .cons j (JL.of r)
def joinL : List (List Int) → List Int
  | [] => []
  | [x] => x
  | x :: y :: r => x ++ 44 :: joinL (y :: r)
theorem joinL_snoc (l : List (List Int)) (x : List Int) : joinL (l ++ [x]) = if l = [] then x else joinL l ++ 44 :: x := by
  induction l with
  | nil => rfl
  | cons y r ih =>
    rw [if_neg (by simp)]
    cases r with
    | nil => rfl
    | cons z r =>
      rw [if_neg (by simp)] at ih
      show y ++ 44 :: joinL (z :: r ++ [x]) = _
      rw [ih]
      simp [joinL]
theorem joinL_len {B : Nat} : ∀ l : List (List Int), (∀ x ∈ l, x.length ≤ B) → (joinL l).length ≤ l.length * (B + 1)
  | [], _ => by simp [joinL]
  | [x], h => by have := h x (by simp); simp [joinL]; omega
  | x :: y :: r, h => by
    have h1 := h x (by simp)
    have h2 := joinL_len (y :: r) (fun z hz => h z (List.mem_cons_of_mem _ hz))
    have e : (x :: y :: r).length * (B + 1) = (y :: r).length * (B + 1) + (B + 1) := by rw [List.length_cons, Nat.succ_mul]
    rw [e]
    simp only [joinL, List.length_append, List.length_cons] at h2 ⊢
    omega
theorem joinL_take {l : List (List Int)} (n : Nat) : (joinL (l.take n)).length ≤ (joinL l).length := by
  induction l generalizing n with
  | nil => simp
  | cons x r ih =>
    cases n with
    | zero => simp [joinL]
    | succ n =>
      cases r with
      | nil => simp
      | cons y r =>
        cases n with
        | zero => simp [joinL]
        | succ n =>
          have := ih (n + 1)
          simp only [List.take_succ_cons, joinL, List.length_append, List.length_cons] at this ⊢
          omega
theorem txtL_0 : ∀ (js : List J) (ns : List ByteArray), txtL false ns (JL.of js) = joinL (js.map txt)
  | [], ns => by simp [JL.of, txtL, joinL]
  | [j], ns => by simp [JL.of, txtL, joinL, nmT, sepT]
  | j :: k :: r, ns => by
    have := txtL_0 (k :: r) ns.tail
    rw [JL.of, txtL, this]
    simp [nmT, sepT, JL.of, joinL]
theorem txtL_1 : ∀ (js : List J) (ns : List ByteArray), js.length = ns.length → txtL true ns (JL.of js) = joinL ((ns.zip js).map (fun p => quoteF p.1 ++ [58] ++ txt p.2))
  | [], [], _ => by simp [JL.of, txtL, joinL]
  | [j], [n], _ => by simp [JL.of, txtL, joinL, nmT, sepT]
  | j :: k :: r, n :: m :: ns, h => by
    have := txtL_1 (k :: r) (m :: ns) (by simpa using h)
    rw [JL.of, txtL]
    show _ ++ _ ++ sepT _ (txtL true (m :: ns) _) = _
    rw [this]
    simp [nmT, sepT, JL.of, joinL]
def loadJ (l : List Int) : J := .box false [] (JL.of (l.map J.num))
def stepJ (s : ST) : J := .box true stepNs (JL.of [.str (wordK s.kind), .num s.item, .num s.place, .num s.arr, .num s.wait, .num s.serv, loadJ s.load, .num s.time, .num s.dist])
def planJ (p : PV) : J := .box true planNs (JL.of [.num p.veh, .num p.cost, .num p.time, .num p.dist, .num p.wait, .num p.serv, .box false [] (JL.of (p.steps.map stepJ))])
def taskJ (t : TK) : J := .box true taskNs (JL.of [.str (wordT t.ship), .num t.item])
def sumsJ (s : SU) : J := .box true sumNs (JL.of [.num s.routes, .num s.value, .num s.cost, .num s.time, .num s.dist, .num s.wait, .num s.serv, .num s.left])
def okJ (op : Bool) (su : SU) (ps : List PV) (lf : List TK) : J := .box true wholeNs (JL.of [.str ⟨#[111, 107]⟩, .boo op, sumsJ su, .box false [] (JL.of (ps.map planJ)), .box false [] (JL.of (lf.map taskJ))])
def faultJ (cd at_ : Int) (path : ByteArray) : J := .box true [sStatus, sCode, sAt, sPath] (JL.of [.str sError, .num cd, .num at_, .str path])
def replyJ (cd at_ : Int) (path : ByteArray) (op : Bool) (su : SU) (ps : List PV) (lf : List TK) : J := if cd ≠ 0 then faultJ cd at_ path else okJ op su ps lf
theorem lay_nums (m : List Int) : ∀ k : Int, layL k (JL.of (m.map J.num)) = (m.map numN, seqI k m.length) := by
  have key : ∀ (m : List Int) (k : Int), layL k (JL.of (m.map J.num)) = (m.map numN, (List.range m.length).map (fun i => k + (i : Nat))) := by
    intro m
    induction m with
    | nil => intro k; rfl
    | cons x m ih =>
      intro k
      rw [List.map_cons, JL.of, layL, lay, ih]
      simp only [List.length_cons, List.length_nil, List.map_cons, List.range_succ_eq_map, List.map_map]
      refine Prod.ext (by simp [numN]) ?_
      simp only [List.cons.injEq]
      refine ⟨by simp, List.map_congr_left fun i hi => ?_⟩
      simp only [Function.comp]
      omega
  have hs : ∀ (n : Nat) (k : Int), seqI k n = (List.range n).map (fun i => k + (i : Nat)) := by
    intro n
    induction n with
    | zero => intro k; rfl
    | succ n ih => intro k; rw [seqI, ih, List.range_succ, List.map_append]; rfl
  intro k
  rw [key, hs]
theorem lay_load (k : Int) (m : List Int) : lay k (loadJ m) = numsF k m := by
  unfold loadJ; rw [lay, lay_nums]; rfl
theorem lay_step (k : Int) (s : ST) : lay k (stepJ s) = stepF k s := by
  unfold stepJ stepF
  rw [lay]
  simp only [JL.of, layL, lay, lay_load, List.length_append, List.length_cons, List.length_nil]
  simp [txtN, numN, objN, kindB, numsF]
  and_intros <;> first | omega | (congr 2; omega)
theorem lay_steps (k : Int) : ∀ (l : List ST) (x : List TN × List Int), stepsF k l x = (x.1 ++ (layL (k + x.1.length) (JL.of (l.map stepJ))).1, x.2 ++ (layL (k + x.1.length) (JL.of (l.map stepJ))).2)
  | [], x => by simp [stepsF, JL.of, layL]
  | s :: r, x => by
    rw [stepsF, lay_steps k r, List.map_cons, JL.of, layL, lay_step]
    have e : k + ((x.1 ++ stepF (k + x.1.length) s).length : Int) = k + x.1.length + ((stepF (k + x.1.length) s).length : Int) := by rw [List.length_append]; omega
    dsimp only
    rw [e]
    refine Prod.ext (by simp) ?_
    simp only [List.append_assoc, List.cons_append, List.nil_append]
    congr 2
    rw [stepF_len]; omega
theorem lay_plan (k : Int) (p : PV) : lay k (planJ p) = planF k p := by
  unfold planJ planF
  rw [lay]
  have e := lay_steps (k + 6) p.steps ([], [])
  simp only [List.length_nil, List.nil_append] at e
  rw [e]
  have e6 : k + 6 + ((0 : Nat) : Int) = k + 6 := by omega
  rw [e6]
  simp only [JL.of, layL, lay, List.length_append, List.length_cons, List.length_nil]
  have e7 : k + ((0 + 1 : Nat) : Int) + ((0 + 1 : Nat) : Int) + ((0 + 1 : Nat) : Int) + ((0 + 1 : Nat) : Int) + ((0 + 1 : Nat) : Int) + ((0 + 1 : Nat) : Int) = k + 6 := by omega
  rw [e7]
  simp [numN, objN, lisN, kindB]
  and_intros <;> omega
theorem lay_plans (k : Int) : ∀ (l : List PV) (x : List TN × List Int), plansF k l x = (x.1 ++ (layL (k + x.1.length) (JL.of (l.map planJ))).1, x.2 ++ (layL (k + x.1.length) (JL.of (l.map planJ))).2)
  | [], x => by simp [plansF, JL.of, layL]
  | s :: r, x => by
    rw [plansF, lay_plans k r, List.map_cons, JL.of, layL, lay_plan]
    have e : k + ((x.1 ++ planF (k + x.1.length) s).length : Int) = k + x.1.length + ((planF (k + x.1.length) s).length : Int) := by rw [List.length_append]; omega
    dsimp only
    rw [e]
    refine Prod.ext (by simp) ?_
    simp only [List.append_assoc, List.cons_append, List.nil_append]
theorem lay_task (k : Int) (t : TK) : lay k (taskJ t) = taskF k t := by
  unfold taskJ taskF
  rw [lay]
  simp [JL.of, layL, lay, txtN, numN, objN, kindB]
theorem lay_tasks (k : Int) : ∀ (l : List TK) (x : List TN × List Int), tasksF k l x = (x.1 ++ (layL (k + x.1.length) (JL.of (l.map taskJ))).1, x.2 ++ (layL (k + x.1.length) (JL.of (l.map taskJ))).2)
  | [], x => by simp [tasksF, JL.of, layL]
  | s :: r, x => by
    rw [tasksF, lay_tasks k r, List.map_cons, JL.of, layL, lay_task]
    have e : k + ((x.1 ++ taskF (k + x.1.length) s).length : Int) = k + x.1.length + ((taskF (k + x.1.length) s).length : Int) := by rw [List.length_append]; omega
    dsimp only
    rw [e]
    refine Prod.ext (by simp) ?_
    simp only [List.append_assoc, List.cons_append, List.nil_append]
    congr 2
    simp [taskF]; omega
theorem lay_sums (k : Int) (s : SU) : lay k (sumsJ s) = sumsF k s := by
  unfold sumsJ sumsF
  rw [lay]
  simp [JL.of, layL, lay, numN, objN, kindB]
  and_intros <;> omega
theorem lay_ok_ (op : Bool) (su : SU) (ps : List PV) (lf : List TK) : lay 0 (okJ op su ps lf) = okT op su ps lf := by
  have e1 : okP ps = layL 11 (JL.of (ps.map planJ)) := by
    unfold okP
    rw [lay_plans]
    simp only [List.length_nil, List.nil_append]
    rw [show (11 : Int) + ((0 : Nat) : Int) = 11 by decide]
  have e2 : okK ps lf = layL (12 + (okP ps).1.length) (JL.of (lf.map taskJ)) := by
    unfold okK
    rw [lay_tasks]
    simp only [List.length_nil, List.nil_append]
    rw [show (12 : Int) + (okP ps).1.length + ((0 : Nat) : Int) = 12 + (okP ps).1.length by omega]
  unfold okJ okT
  rw [lay]
  simp only [JL.of, layL, lay_sums]
  have s1 : ∀ k : Int, lay k (.str ⟨#[111, 107]⟩) = [txtN ⟨#[111, 107]⟩] := fun k => by rw [lay]; rfl
  have s2 : ∀ k : Int, lay k (.boo op) = [truN op] := fun k => by rw [lay]; rfl
  simp only [s1, s2, List.length_cons, List.length_nil]
  have s3 : ∀ k : Int, (sumsF k su).length = 9 := fun k => rfl
  simp only [s3]
  rw [show (0 : Int) + ((0 + 1 : Nat) : Int) + ((0 + 1 : Nat) : Int) = 2 by decide, show (2 : Int) + ((9 : Nat) : Int) = 11 by decide]
  have s4 : lay 11 (.box false [] (JL.of (ps.map planJ))) = (okP ps).1 ++ [lisN (okP ps).2] := by rw [lay, ← e1]; rfl
  rw [s4]
  simp only [List.length_append, List.length_cons, List.length_nil]
  have s5 : lay (11 + (((okP ps).1.length + (0 + 1) : Nat) : Int)) (.box false [] (JL.of (lf.map taskJ))) = (okK ps lf).1 ++ [lisN (okK ps lf).2] := by
    rw [show (11 : Int) + (((okP ps).1.length + (0 + 1) : Nat) : Int) = 12 + (okP ps).1.length by omega, lay, ← e2]; rfl
  rw [s5]
  simp [objN, kindB]
  and_intros <;> omega
theorem lay_fault (cd at_ : Int) (path : ByteArray) : lay 0 (faultJ cd at_ path) = faultT cd at_ path := by
  unfold faultJ faultT
  rw [lay]
  simp [JL.of, layL, lay, numN, txtN, objN, kindB]
theorem lay_reply (cd at_ : Int) (path : ByteArray) (op : Bool) (su : SU) (ps : List PV) (lf : List TK) : lay 0 (replyJ cd at_ path op su ps lf) = treeF cd at_ path op su ps lf := by
  unfold replyJ treeF
  split
  · exact lay_fault _ _ _
  · exact lay_ok_ _ _ _ _
end Go.SX
namespace Go.SX
open Go Go.RowKit
theorem txt_num (n : Int) : txt (.num n) = numL n := by rw [txt]
theorem txt_str (s : ByteArray) : txt (.str s) = quoteF s := by rw [txt]
theorem txt_boo (b : Bool) : txt (.boo b) = if b = true then [116, 114, 117, 101] else [102, 97, 108, 115, 101] := by rw [txt]
theorem obj_txt {ns : List ByteArray} {js : List J} (h : js.length = ns.length) : txt (.box true ns (JL.of js)) = [123] ++ joinL ((ns.zip js).map fun p => quoteF p.1 ++ [58] ++ txt p.2) ++ [125] := by rw [txt, txtL_1 js ns h]; rfl
theorem lst_txt (ns : List ByteArray) (js : List J) : txt (.box false ns (JL.of js)) = [91] ++ joinL (js.map txt) ++ [93] := by rw [txt, txtL_0]; rfl
theorem obj_text {ns : List ByteArray} {js : List J} {l : List ByteArray} {o : ByteArray} (ho : bs o = joinL (l.map bs)) (hl : l.map bs = (ns.zip js).map fun p => quoteF p.1 ++ [58] ++ txt p.2) (hn : js.length = ns.length) : bs (((⟨#[123]⟩ : ByteArray) ++ o) ++ ⟨#[125]⟩) = txt (.box true ns (JL.of js)) := by
  rw [obj_txt hn, bs_append, bs_append, ho, hl]; rfl
theorem lst_text {ns : List ByteArray} {js : List J} {l : List ByteArray} {o : ByteArray} (ho : bs o = joinL (l.map bs)) (hl : l.map bs = js.map txt) : bs (((⟨#[91]⟩ : ByteArray) ++ o) ++ ⟨#[93]⟩) = txt (.box false ns (JL.of js)) := by
  rw [lst_txt, bs_append, bs_append, ho, hl]; rfl
theorem quote_word (k : Int) : bs (((⟨#[34]⟩ : ByteArray) ++ wordK k) ++ ⟨#[34]⟩) = quoteF (wordK k) := by
  have key : ∀ w ∈ (⟨#[63]⟩ : ByteArray) :: kindsL, bs (((⟨#[34]⟩ : ByteArray) ++ w) ++ ⟨#[34]⟩) = quoteF w := by decide +kernel
  unfold wordK
  split
  · exact key _ (List.mem_cons_of_mem _ (gt_mem (by omega) (by show _ < (6 : Int); omega)))
  · exact key _ (List.mem_cons_self ..)
theorem word_size (k : Int) : (wordK k).size ≤ 8 := by
  have key : ∀ w ∈ (⟨#[63]⟩ : ByteArray) :: kindsL, w.size ≤ 8 := by decide
  unfold wordK
  split
  · exact key _ (List.mem_cons_of_mem _ (gt_mem (by omega) (by show _ < (6 : Int); omega)))
  · exact key _ (List.mem_cons_self ..)
theorem quote_ship : bs ⟨#[34, 115, 104, 105, 112, 109, 101, 110, 116, 34]⟩ = quoteF (wordT true) := by decide +kernel
theorem quote_job : bs ⟨#[34, 106, 111, 98, 34]⟩ = quoteF (wordT false) := by decide +kernel
theorem quote_error : bs ⟨#[34, 101, 114, 114, 111, 114, 34]⟩ = quoteF sError := by decide +kernel
theorem quote_ok : bs ⟨#[34, 111, 107, 34]⟩ = quoteF ⟨#[111, 107]⟩ := by decide +kernel
theorem task_text {t : TK} {a b w : ByteArray} (ha : bs a = quoteF ⟨#[116, 121, 112, 101]⟩ ++ [58] ++ bs w) (hw : bs w = quoteF (wordT t.ship)) (hb : bs b = quoteF ⟨#[105, 116, 101, 109]⟩ ++ [58] ++ numL t.item) :
    bs (((((⟨#[123]⟩ : ByteArray) ++ a) ++ (⟨#[44]⟩ : ByteArray)) ++ b) ++ (⟨#[125]⟩ : ByteArray)) = txt (taskJ t) := by
  unfold taskJ
  rw [obj_txt rfl]
  simp only [bs_append, ha, hw, hb, taskNs, List.map_cons, List.map_nil, List.zip_cons_cons, List.zip_nil_right, txt_num, txt_str, joinL]
  simp [bs]
theorem joinL_mem : ∀ {l : List (List Int)} {x : List Int}, x ∈ l → x.length ≤ (joinL l).length
  | [a], x, h => by simp at h; subst h; exact Nat.le_refl _
  | a :: b :: r, x, h => by
    simp only [joinL, List.length_append, List.length_cons]
    rcases List.mem_cons.1 h with rfl | h
    · omega
    · have := joinL_mem (l := b :: r) h; omega
theorem joinL_le {B : Nat} {l : List ByteArray} (h : ∀ x ∈ l, x.size ≤ B) : (joinL (l.map bs)).length ≤ l.length * (B + 1) := by
  have := joinL_len (B := B) (l.map bs) (fun x hx => by obtain ⟨s, hs, rfl⟩ := List.mem_map.1 hx; rw [bs_len]; exact h s hs)
  rwa [List.length_map] at this
theorem joinL_tk (l : List ByteArray) (n : Nat) : (joinL ((l.take n).map bs)).length ≤ (joinL (l.map bs)).length := by
  rw [List.map_take]; exact joinL_take n
theorem join_el {l : List ByteArray} {i : Int} (h0 : 0 ≤ i) (h1 : i < (l.length : Int)) : (gt l i).size ≤ (joinL (l.map bs)).length := by
  have := joinL_mem (List.mem_map_of_mem (f := bs) (gt_mem (l := l) h0 h1))
  rwa [bs_len] at this
theorem join_0 {l : List ByteArray} {i : Int} {s : ByteArray} (h : bs s = joinL ((l.take i.toNat).map bs)) (h0 : 0 ≤ i) (h1 : i < (l.length : Int)) (hi : ¬ i > 0) : bs (s ++ gt l i) = joinL ((l.take (i + 1).toNat).map bs) := by
  have e : i = 0 := by omega
  subst e
  rw [bs_append, h, take_gt h0 h1]
  simp [joinL]
theorem join_1 {l : List ByteArray} {i : Int} {s : ByteArray} (h : bs s = joinL ((l.take i.toNat).map bs)) (h0 : 0 ≤ i) (h1 : i < (l.length : Int)) (hi : i > 0) : bs ((s ++ (⟨#[44]⟩ : ByteArray)) ++ gt l i) = joinL ((l.take (i + 1).toNat).map bs) := by
  rw [bs_append, bs_append, h, take_gt h0 h1, List.map_append, List.map_cons, List.map_nil, joinL_snoc, if_neg, List.append_assoc]
  · rfl
  · intro e
    have := congrArg List.length e
    simp only [List.length_map, List.length_take, List.length_nil] at this; omega
theorem join_end {l : List ByteArray} {i : Int} {s : ByteArray} (h : bs s = joinL ((l.take i.toNat).map bs)) (hi : ¬ i < (l.length : Int)) : bs s = joinL (l.map bs) := by
  rw [List.take_of_length_le (by omega)] at h; exact h
theorem tx_next {α : Type} [Inhabited α] {f : α → List Int} {X : List ByteArray} {l : List α} {i : Int} {o : ByteArray} (h : X.map bs = (l.take i.toNat).map f) (h0 : 0 ≤ i) (h1 : i < (l.length : Int)) (ho : bs o = f (gt l i)) : (X ++ [o]).map bs = (l.take (i + 1).toNat).map f := by
  rw [take_gt h0 h1, List.map_append, List.map_append, h, List.map_cons, List.map_nil, List.map_cons, List.map_nil, ho]
theorem tx_end {α : Type} {f : α → List Int} {X : List ByteArray} {l : List α} {i : Int} (h : X.map bs = (l.take i.toNat).map f) (h1 : ¬ i < (l.length : Int)) : X.map bs = l.map f := by
  rw [List.take_of_length_le (by omega)] at h; exact h
theorem nums_join {X : List ByteArray} {m : List Int} (h : X.map bs = m.map numL) (hm : m.length ≤ 10) (hf : ∀ x ∈ m, fitP x) : (joinL (X.map bs)).length ≤ 220 := by
  rw [h]
  have := joinL_len (B := 21) (m.map numL) (fun x hx => by
    obtain ⟨n, hn, rfl⟩ := List.mem_map.1 hx
    exact numL_len (by have := (hf n hn).1; omega) (by have := (hf n hn).2; omega))
  rw [List.length_map] at this
  omega
theorem join_b {B n : Nat} {X : List ByteArray} (h : ∀ x ∈ X, x.size ≤ B) (hl : X.length ≤ n) : (joinL (X.map bs)).length ≤ n * (B + 1) :=
  Nat.le_trans (joinL_le h) (Nat.mul_le_mul_right _ hl)
theorem join_m {B n m : Nat} {X : List ByteArray} (h : ∀ x ∈ X, x.size ≤ B) (hl : X.length ≤ n) (hm : n * (B + 1) ≤ m) : (joinL (X.map bs)).length ≤ m := Nat.le_trans (join_b h hl) hm
theorem all_snoc {X : List ByteArray} {B : Nat} {o : ByteArray} (h : ∀ x ∈ X, x.size ≤ B) (ho : o.size ≤ B) : ∀ x ∈ X ++ [o], x.size ≤ B := fun x hx => by
  rcases List.mem_append.1 hx with hx | hx
  · exact h x hx
  · simp at hx; subst hx; exact ho
def stepZ (s : ST) : List Int := [s.item, s.place, s.arr, s.wait, s.serv, s.time, s.dist] ++ s.load
def headZ (p : PV) : List Int := [p.veh, p.cost, p.time, p.dist, p.wait, p.serv]
def planZ (p : PV) : List Int := headZ p ++ p.steps.flatMap stepZ
def sumsZ (s : SU) : List Int := [s.routes, s.value, s.cost, s.time, s.dist, s.wait, s.serv, s.left]
def replyZ (su : SU) (ps : List PV) (lf : List TK) : List Int := sumsZ su ++ ps.flatMap planZ ++ lf.flatMap (fun t => [t.item])
theorem fm_next {α : Type} [Inhabited α] {f : α → List Int} {l : List α} {i : Int} (h0 : 0 ≤ i) (h1 : i < (l.length : Int)) : (l.take (i + 1).toNat).flatMap f = (l.take i.toNat).flatMap f ++ f (gt l i) := by
  rw [take_gt h0 h1, List.flatMap_append]; simp
theorem fm_end {α : Type} {f : α → List Int} {l : List α} {i : Int} (h : ¬ i < (l.length : Int)) : (l.take i.toNat).flatMap f = l.flatMap f := by rw [List.take_of_length_le (by omega)]
theorem fit_sums {su : SU} {ps : List PV} {lf : List TK} (h : ∀ x ∈ replyZ su ps lf, fitP x) : ∀ x ∈ sumsZ su, fitP x := fun x hx => h x (List.mem_append_left _ (List.mem_append_left _ hx))
theorem fit_plan {su : SU} {ps : List PV} {lf : List TK} (h : ∀ x ∈ replyZ su ps lf, fitP x) : ∀ p ∈ ps, ∀ x ∈ planZ p, fitP x := fun p hp x hx => h x (List.mem_append_left _ (List.mem_append_right _ (List.mem_flatMap.2 ⟨p, hp, hx⟩)))
theorem fit_task {su : SU} {ps : List PV} {lf : List TK} (h : ∀ x ∈ replyZ su ps lf, fitP x) : ∀ t ∈ lf, fitP t.item := fun t ht => h _ (List.mem_append_right _ (List.mem_flatMap.2 ⟨t, ht, by simp⟩))
theorem fit_step {p : PV} (h : ∀ x ∈ planZ p, fitP x) : ∀ s ∈ p.steps, ∀ x ∈ stepZ s, fitP x := fun s hs x hx => h x (List.mem_append_right _ (List.mem_flatMap.2 ⟨s, hs, hx⟩))
theorem fit_i64 {x : Int} (h : fitP x) : -9223372036854775808 ≤ x ∧ x ≤ 9223372036854775807 := ⟨by have := h.1; omega, by have := h.2; omega⟩
def fitR (cd at_ : Int) (path : ByteArray) (su : SU) (ps : List PV) (lf : List TK) : Prop := (cd ≠ 0 → utfF (bs path) = true ∧ fitP cd ∧ fitP at_) ∧ (cd = 0 → ∀ x ∈ replyZ su ps lf, fitP x)
theorem fit_end {su : SU} {ps : List PV} {lf : List TK} {X : List Int} {j : Int} (h : X = sumsZ su ++ ps.flatMap planZ ++ (lf.take j.toNat).flatMap (fun t => [t.item])) (h1 : ¬ j < (lf.length : Int)) (hf : ∀ x ∈ X, fitP x) : ∀ x ∈ replyZ su ps lf, fitP x := by
  rw [fm_end h1] at h; subst h; exact hf
end Go.SX
