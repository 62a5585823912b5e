/- Runes, quotes and numbers as bytes. -/
import Derived.Test.YthmkelkefmfmgaaSxTree
set_option linter.unusedVariables false
set_option linter.unusedSimpArgs false
namespace Go.SX
open Go
theorem gt_cons0 {x : Int} {l : List Int} : gt (x :: l) 0 = x := rfl
theorem drop_gt {α : Type} [Inhabited α] {l : List α} {x : Int} (h0 : 0 ≤ x) (h1 : x < (l.length : Int)) : l.drop x.toNat = gt l x :: l.drop (x + 1).toNat := by
  have hx : x.toNat < l.length := by omega
  have hg : gt l x = l[x.toNat] := by simp [gt, List.getD_eq_getElem?_getD, hx]
  rw [hg, show (x + 1).toNat = x.toNat + 1 from by omega, ← List.drop_eq_getElem_cons hx]
theorem gt_take {α : Type} [Inhabited α] {l : List α} {n : Nat} {i : Int} (h0 : 0 ≤ i) (h1 : i < (n : Int)) : gt (l.take n) i = gt l i := by
  unfold gt
  rw [List.getD_eq_getElem?_getD, List.getD_eq_getElem?_getD, List.getElem?_take_of_lt (by omega)]
theorem gt_drop {α : Type} [Inhabited α] {l : List α} {n : Nat} {i : Int} (h0 : 0 ≤ i) : gt (l.drop n) i = gt l (n + i) := by
  unfold gt
  rw [List.getD_eq_getElem?_getD, List.getD_eq_getElem?_getD, List.getElem?_drop, show n + i.toNat = ((n : Int) + i).toNat from by omega]
/-! ### Runes -/
def runeStep (x b : Int) : Int := bor .i64 (IntKind.i64.wrap (x * 64)) (IntKind.i64.wrap (bnd .u8 b 63))
def runeGo : List Int → Int → Option Int
  | [], x => some x
  | b :: r, x => if b.fdiv 64 ≠ 2 then none else runeGo r (runeStep x b)
def runeBad (x least : Int) : Prop := x < least ∨ x > 1114111 ∨ (x ≥ 55296 ∧ x < 57344)
instance (x least : Int) : Decidable (runeBad x least) := by unfold runeBad; infer_instance
def runeN (l : List Int) (n least x0 : Int) : Int :=
  if (l.length : Int) < n then 0 else match runeGo ((l.take n.toNat).drop 1) x0 with
    | none => 0
    | some x => if runeBad x least then 0 else n
def runeF (l : List Int) : Int :=
  if gt l 0 < 128 then 1
  else if gt l 0 ≥ 194 ∧ gt l 0 < 224 then runeN l 2 128 (bnd .i64 (gt l 0) 31)
  else if gt l 0 ≥ 224 ∧ gt l 0 < 240 then runeN l 3 2048 (bnd .i64 (gt l 0) 15)
  else if gt l 0 ≥ 240 ∧ gt l 0 < 245 then runeN l 4 65536 (bnd .i64 (gt l 0) 7)
  else 0
/-- Which arm. -/
def RSel (l : List Int) (n least x0 : Int) : Prop := runeF l = runeN l n least x0
theorem rsel2 {l : List Int} (h : ¬ gt l 0 < 128) (h2 : gt l 0 ≥ 194 ∧ gt l 0 < 224) : RSel l 2 128 (bnd .i64 (gt l 0) 31) := by unfold RSel runeF; rw [if_neg h, if_pos h2]
theorem rsel3 {l : List Int} (h : ¬ gt l 0 < 128) (h2 : gt l 0 ≥ 224 ∧ gt l 0 < 240) : RSel l 3 2048 (bnd .i64 (gt l 0) 15) := by unfold RSel runeF; rw [if_neg h, if_neg (by omega), if_pos h2]
theorem rsel4 {l : List Int} (h : ¬ gt l 0 < 128) (h2 : gt l 0 ≥ 240 ∧ gt l 0 < 245) : RSel l 4 65536 (bnd .i64 (gt l 0) 7) := by unfold RSel runeF; rw [if_neg h, if_neg (by omega), if_neg (by omega), if_pos h2]
theorem rsel0 {l : List Int} (h : ¬ gt l 0 < 128) (h2 : ¬ (gt l 0 ≥ 194 ∧ gt l 0 < 224)) (h3 : ¬ (gt l 0 ≥ 224 ∧ gt l 0 < 240)) (h4 : ¬ (gt l 0 ≥ 240 ∧ gt l 0 < 245)) : 0 = runeF l := by unfold runeF; rw [if_neg h, if_neg h2, if_neg h3, if_neg h4]
theorem rsel1 {l : List Int} (h : gt l 0 < 128) : 1 = runeF l := by unfold runeF; rw [if_pos h]
theorem rn_short {l : List Int} {n least x0 : Int} (s : RSel l n least x0) (h : (l.length : Int) < n) : 0 = runeF l := by rw [s]; unfold runeN; rw [if_pos h]
theorem rn_step {l : List Int} {n i x : Int} (h0 : 1 ≤ i) (h1 : i < n) (h2 : n ≤ (l.length : Int)) (hb : (gt l i).fdiv 64 = 2) : runeGo ((l.take n.toNat).drop i.toNat) x = runeGo ((l.take n.toNat).drop (i + 1).toNat) (runeStep x (gt l i)) := by
  rw [drop_gt (by omega) (by rw [List.length_take]; omega), gt_take (by omega) (by omega)]
  rw [runeGo, if_neg (by simpa using hb)]
theorem rn_bad {l : List Int} {n least x0 i x : Int} (s : RSel l n least x0) (h0 : 1 ≤ i) (h1 : i < n) (h2 : n ≤ (l.length : Int)) (q : runeGo ((l.take n.toNat).drop i.toNat) x = runeGo ((l.take n.toNat).drop 1) x0) (hb : (gt l i).fdiv 64 ≠ 2) : 0 = runeF l := by
  rw [s]; unfold runeN
  rw [if_neg (by omega), ← q, drop_gt (by omega) (by rw [List.length_take]; omega), gt_take (by omega) (by omega), runeGo, if_pos hb]
theorem rn_end {l : List Int} {n least x0 i x : Int} (s : RSel l n least x0) (h0 : 1 ≤ i) (h1 : ¬ i < n) (h2 : n ≤ (l.length : Int)) (q : runeGo ((l.take n.toNat).drop i.toNat) x = runeGo ((l.take n.toNat).drop 1) x0) : runeF l = if runeBad x least then 0 else n := by
  rw [s]; unfold runeN
  rw [if_neg (by omega), ← q, List.drop_of_length_le (by rw [List.length_take]; omega), runeGo]
theorem rn_no {l : List Int} {n least x0 i x : Int} (s : RSel l n least x0) (h0 : 1 ≤ i) (h1 : ¬ i < n) (h2 : n ≤ (l.length : Int)) (q : runeGo ((l.take n.toNat).drop i.toNat) x = runeGo ((l.take n.toNat).drop 1) x0) (hb : runeBad x least) : 0 = runeF l := by rw [rn_end s h0 h1 h2 q, if_pos hb]
theorem rn_yes {l : List Int} {n least x0 i x : Int} (s : RSel l n least x0) (h0 : 1 ≤ i) (h1 : ¬ i < n) (h2 : n ≤ (l.length : Int)) (q : runeGo ((l.take n.toNat).drop i.toNat) x = runeGo ((l.take n.toNat).drop 1) x0) (hb : ¬ runeBad x least) : n = runeF l := by rw [rn_end s h0 h1 h2 q, if_neg hb]
/-- The bytes behind a rune's first one. -/
theorem runeGo_high {r : List Int} {x y : Int} (h : runeGo r x = some y) : ∀ b ∈ r, 128 ≤ b := by
  induction r generalizing x with
  | nil => intro b hb; cases hb
  | cons c r ih =>
    rw [runeGo] at h
    split at h
    · cases h
    · rename_i hc
      intro b hb
      rcases List.mem_cons.1 hb with rfl | hb
      · have hc : b.fdiv 64 = 2 := Classical.not_not.1 hc
        rw [Int.fdiv_eq_ediv_of_nonneg _ (by decide)] at hc
        omega
      · exact ih h b hb
theorem runeN_spec {l : List Int} {n least x0 : Int} (hn : 2 ≤ n) : (runeN l n least x0 = 0) ∨ (runeN l n least x0 = n ∧ n ≤ (l.length : Int) ∧ ∀ b ∈ (l.take n.toNat).drop 1, 128 ≤ b) := by
  unfold runeN
  split
  · exact .inl rfl
  · cases hg : runeGo ((l.take n.toNat).drop 1) x0 with
    | none => exact .inl rfl
    | some x =>
      dsimp only
      split
      · exact .inl rfl
      · exact .inr ⟨rfl, by omega, runeGo_high hg⟩
theorem rune_spec (l : List Int) (hl : 0 < l.length) : 0 ≤ runeF l ∧ runeF l ≤ 4 ∧ runeF l ≤ (l.length : Int) ∧ (gt l 0 < 128 → runeF l = 1) ∧ (¬ gt l 0 < 128 → runeF l ≠ 1) ∧ ∀ b ∈ (l.take (runeF l).toNat).drop 1, 128 ≤ b := by
  unfold runeF
  by_cases h : gt l 0 < 128
  · rw [if_pos h]
    refine ⟨by omega, by omega, by omega, fun _ => rfl, fun h2 => absurd h h2, fun b hb => ?_⟩
    rw [List.drop_of_length_le (by rw [List.length_take]; simp; omega)] at hb
    cases hb
  · rw [if_neg h]
    have key : ∀ (n least x0 : Int), 2 ≤ n → n ≤ 4 → 0 ≤ runeN l n least x0 ∧ runeN l n least x0 ≤ 4 ∧ runeN l n least x0 ≤ (l.length : Int) ∧ (gt l 0 < 128 → runeN l n least x0 = 1) ∧ (¬ gt l 0 < 128 → runeN l n least x0 ≠ 1) ∧ ∀ b ∈ (l.take (runeN l n least x0).toNat).drop 1, 128 ≤ b := by
      intro n least x0 h2 h4
      rcases runeN_spec (l := l) (least := least) (x0 := x0) h2 with e | ⟨e, h5, h6⟩
      · rw [e]; exact ⟨by omega, by omega, by omega, fun h' => absurd h' h, fun _ => by omega, fun b hb => by simp at hb⟩
      · rw [e]; exact ⟨by omega, h4, h5, fun h' => absurd h' h, fun _ => by omega, h6⟩
    have zero : (0 : Int) ≤ 0 ∧ (0 : Int) ≤ 4 ∧ (0 : Int) ≤ (l.length : Int) ∧ (gt l 0 < 128 → (0 : Int) = 1) ∧ (¬ gt l 0 < 128 → (0 : Int) ≠ 1) ∧ ∀ b ∈ (l.take (0 : Int).toNat).drop 1, 128 ≤ b := ⟨by omega, by omega, by omega, fun h' => absurd h' h, fun _ => by omega, fun b hb => by simp at hb⟩
    split
    · exact key 2 _ _ (by decide) (by decide)
    split
    · exact key 3 _ _ (by decide) (by decide)
    split
    · exact key 4 _ _ (by decide) (by decide)
    · exact zero
/-! ### Is it UTF-8? -/
def utfF (l : List Int) : Bool := if h : l = [] then true else if runeF l ≤ 0 then false else utfF (l.drop (max 1 (runeF l).toNat))
termination_by l.length
decreasing_by
  have : 0 < l.length := List.length_pos_iff.2 h
  rw [List.length_drop]; omega
theorem utf_nil : utfF [] = true := by rw [utfF]; rfl
theorem utf_no {l : List Int} (h : 0 < l.length) (hr : runeF l = 0) : utfF l = false := by
  rw [utfF, dif_neg (List.length_pos_iff.1 h), if_pos (by omega)]
theorem utf_step {l : List Int} (h : 0 < l.length) (hr : runeF l ≠ 0) : utfF l = utfF (l.drop (runeF l).toNat) := by
  have := (rune_spec l h).1
  conv => lhs; rw [utfF]
  rw [dif_neg (List.length_pos_iff.1 h), if_neg (by omega), show max 1 (runeF l).toNat = (runeF l).toNat from by omega]
theorem utf_next {l : List Int} {i : Int} (q : utfF (l.drop i.toNat) = utfF l) (h0 : 0 ≤ i) (h1 : i < (l.length : Int)) (hr : ¬ runeF (l.drop i.toNat) = 0) : utfF (l.drop (i + runeF (l.drop i.toNat)).toNat) = utfF l := by
  have hl : 0 < (l.drop i.toNat).length := by rw [List.length_drop]; omega
  have h2 := (rune_spec _ hl).1
  rw [← q, utf_step hl hr, List.drop_drop]
  congr 2
  omega
theorem utf_bad {l : List Int} {i : Int} (q : utfF (l.drop i.toNat) = utfF l) (h0 : 0 ≤ i) (h1 : i < (l.length : Int)) (hr : runeF (l.drop i.toNat) = 0) : false = utfF l := by
  rw [← q, utf_no (by rw [List.length_drop]; omega) hr]
theorem utf_end {l : List Int} {i : Int} (q : utfF (l.drop i.toNat) = utfF l) (h1 : ¬ i < (l.length : Int)) : true = utfF l := by
  rw [← q, List.drop_of_length_le (by omega), utf_nil]
/-! ### Quotes -/
def hexD : List Int := [48, 49, 50, 51, 52, 53, 54, 55, 56, 57, 97, 98, 99, 100, 101, 102]
def quoC (l : List Int) (n : Int) : List Int :=
  if n = 0 then [239, 191, 189]
  else if gt l 0 = 34 ∨ gt l 0 = 92 then [92, gt l 0]
  else if gt l 0 < 32 then [92, 117, 48, 48, gt hexD (gt l 0 / 16), gt hexD (gt l 0 % 16)]
  else l.take n.toNat
def quoF (l : List Int) : List Int := if h : l = [] then [] else quoC l (runeF l) ++ quoF (l.drop (max 1 (runeF l).toNat))
termination_by l.length
decreasing_by
  have : 0 < l.length := List.length_pos_iff.2 h
  rw [List.length_drop]; omega
theorem quo_nil : quoF [] = [] := by rw [quoF]; rfl
theorem quo_step {l : List Int} (h : 0 < l.length) : quoF l = quoC l (runeF l) ++ quoF (l.drop (max 1 (runeF l).toNat)) := by
  conv => lhs; rw [quoF]
  rw [dif_neg (List.length_pos_iff.1 h)]
/-- A text between quotes. -/
def quoteF (s : ByteArray) : List Int := [34] ++ quoF (bs s) ++ [34]
theorem quo_next {l O X : List Int} {i n : Int} (q : O ++ quoF (l.drop i.toNat) = X) (h0 : 0 ≤ i) (h1 : i < (l.length : Int)) (hn : n = max 1 (runeF (l.drop i.toNat))) : O ++ quoC (l.drop i.toNat) (runeF (l.drop i.toNat)) ++ quoF (l.drop (i + n).toNat) = X := by
  have hl : 0 < (l.drop i.toNat).length := by rw [List.length_drop]; omega
  rw [← q, quo_step hl, List.drop_drop, List.append_assoc]
  congr 3
  rw [hn]
  congr 1
  omega
theorem quo_end {l O X : List Int} {i : Int} (q : O ++ quoF (l.drop i.toNat) = X) (h1 : ¬ i < (l.length : Int)) : O = X := by
  rw [← q, List.drop_of_length_le (by omega), quo_nil, List.append_nil]
theorem qc_bad {l : List Int} {n : Int} (h : n = 0) : quoC l n = [239, 191, 189] := by unfold quoC; rw [if_pos h]
theorem qc_mark {l : List Int} {n : Int} (h : ¬ n = 0) (h2 : gt l 0 = 34 ∨ gt l 0 = 92) : quoC l n = [92, gt l 0] := by unfold quoC; rw [if_neg h, if_pos h2]
theorem qc_low {l : List Int} {n : Int} (h : ¬ n = 0) (h2 : ¬ (gt l 0 = 34 ∨ gt l 0 = 92)) (h3 : gt l 0 < 32) : quoC l n = [92, 117, 48, 48, gt hexD (gt l 0 / 16), gt hexD (gt l 0 % 16)] := by unfold quoC; rw [if_neg h, if_neg h2, if_pos h3]
theorem qc_raw {l : List Int} {n : Int} (h : ¬ n = 0) (h2 : ¬ (gt l 0 = 34 ∨ gt l 0 = 92)) (h3 : ¬ gt l 0 < 32) : quoC l n = l.take n.toNat := by unfold quoC; rw [if_neg h, if_neg h2, if_neg h3]
theorem quoC_len {l : List Int} {n : Int} (h : 0 ≤ n) (h4 : n ≤ 4) : (quoC l n).length ≤ 6 := by
  unfold quoC
  split
  · simp
  split
  · simp
  split
  · simp
  · rw [List.length_take]; omega
/-! ### Numbers -/
def decL (a : Nat) : List Int := if a < 10 then [48 + (a : Int)] else decL (a / 10) ++ [48 + ((a % 10 : Nat) : Int)]
termination_by a
def numL (a : Int) : List Int := if a < 0 then 45 :: decL (-a).toNat else decL a.toNat
def numS (a : Int) : ByteArray := mkS (numL a)
theorem decL_range (a : Nat) : ∀ x ∈ decL a, 48 ≤ x ∧ x < 58 := by
  induction a using Nat.strongRecOn with
  | ind a ih =>
    rw [decL]
    split
    · intro x hx; simp at hx; omega
    · rename_i h
      intro x hx
      rcases List.mem_append.1 hx with hx | hx
      · exact ih (a / 10) (by omega) x hx
      · simp at hx; omega
theorem numL_range (a : Int) : ∀ x ∈ numL a, isB x := by
  unfold numL
  intro x hx
  split at hx
  · rcases List.mem_cons.1 hx with rfl | hx
    · exact ⟨by decide, by decide⟩
    · have := decL_range _ x hx; exact ⟨by omega, by omega⟩
  · have := decL_range _ x hx; exact ⟨by omega, by omega⟩
theorem bs_numS (a : Int) : bs (numS a) = numL a := bs_mkS (numL_range a)
end Go.SX
namespace Go.SX
theorem bsv {s : ByteArray} {i : Nat} : ((bs s).take s.size).drop i = (bs s).drop i := by rw [List.take_of_length_le (by rw [bs_len]; exact Nat.le_refl _)]
theorem utf_go {s : ByteArray} {i : Int} (h0 : 0 ≤ i) (h1 : i < (s.size : Int)) (q : utfF ((bs s).drop i.toNat) = utfF (bs s)) (hr : ¬ runeF (((bs s).take s.size).drop i.toNat) = 0) : 0 ≤ i + runeF (((bs s).take s.size).drop i.toNat) ∧ i + runeF (((bs s).take s.size).drop i.toNat) ≤ (s.size : Int) ∧ utfF ((bs s).drop (i + runeF (((bs s).take s.size).drop i.toNat)).toNat) = utfF (bs s) := by
  rw [bsv] at hr ⊢
  have hl : 0 < ((bs s).drop i.toNat).length := by rw [List.length_drop, bs_len]; omega
  have h2 := rune_spec _ hl
  have h3 := h2.2.2.1
  rw [List.length_drop, bs_len] at h3
  exact ⟨by omega, by omega, utf_next q h0 (by rw [bs_len]; exact h1) hr⟩
theorem utf_mu {s : ByteArray} {i : Int} (h0 : 0 ≤ i) (h1 : i < (s.size : Int)) (hr : ¬ runeF (((bs s).take s.size).drop i.toNat) = 0) : s.size - (i + runeF (((bs s).take s.size).drop i.toNat)).toNat < s.size - i.toNat := by
  rw [bsv] at hr ⊢
  have hl : 0 < ((bs s).drop i.toNat).length := by rw [List.length_drop, bs_len]; omega
  have h2 := (rune_spec _ hl).1
  omega
theorem utf_bad0 {s : ByteArray} {i : Int} (h0 : 0 ≤ i) (h1 : i < (s.size : Int)) (q : utfF ((bs s).drop i.toNat) = utfF (bs s)) (hr : runeF (((bs s).take s.size).drop i.toNat) = 0) : false = utfF (bs s) := by
  rw [bsv] at hr
  exact utf_bad q h0 (by rw [bs_len]; exact h1) hr
end Go.SX
namespace Go.SX
theorem rune_bd {s : ByteArray} {i : Int} (h0 : 0 ≤ i) (h1 : i < (s.size : Int)) : 0 ≤ runeF (((bs s).take s.size).drop i.toNat) ∧ runeF (((bs s).take s.size).drop i.toNat) ≤ 4 ∧ i + runeF (((bs s).take s.size).drop i.toNat) ≤ (s.size : Int) := by
  rw [bsv]
  have hl : 0 < ((bs s).drop i.toNat).length := by rw [List.length_drop, bs_len]; omega
  have h2 := rune_spec _ hl
  have h3 := h2.2.2.1
  rw [List.length_drop, bs_len] at h3
  exact ⟨h2.1, h2.2.1, by omega⟩
theorem gt_bsv {s : ByteArray} {i : Int} (h0 : 0 ≤ i) : gt ((bs s).drop i.toNat) 0 = gt (bs s) i := by rw [gt_drop (by decide)]; congr 1; omega
/-- quote's round. -/
theorem quo_go {s : ByteArray} {O X C : List Int} {i n : Int} (q : O ++ quoF ((bs s).drop i.toNat) = X) (h0 : 0 ≤ i) (h1 : i < (s.size : Int)) (hn : n = max 1 (runeF (((bs s).take s.size).drop i.toNat))) (hC : C = quoC ((bs s).drop i.toNat) (runeF (((bs s).take s.size).drop i.toNat))) : (O ++ C) ++ quoF ((bs s).drop (i + n).toNat) = X := by
  rw [bsv] at hn hC
  rw [hC]
  exact quo_next q h0 (by rw [bs_len]; exact h1) hn
theorem qg_bad {s : ByteArray} {i : Int} (h : runeF (((bs s).take s.size).drop i.toNat) = 0) : [239, 191, 189] = quoC ((bs s).drop i.toNat) (runeF (((bs s).take s.size).drop i.toNat)) := (qc_bad h).symm
theorem qg_mark {s : ByteArray} {i : Int} (h0 : 0 ≤ i) (h : ¬ runeF (((bs s).take s.size).drop i.toNat) = 0) (h2 : gt (bs s) i = 34 ∨ gt (bs s) i = 92) : [92, gt (bs s) i] = quoC ((bs s).drop i.toNat) (runeF (((bs s).take s.size).drop i.toNat)) := by
  rw [qc_mark h (by rw [gt_bsv h0]; exact h2), gt_bsv h0]
theorem qg_low {s : ByteArray} {i : Int} (h0 : 0 ≤ i) (h : ¬ runeF (((bs s).take s.size).drop i.toNat) = 0) (h2 : ¬ (gt (bs s) i = 34 ∨ gt (bs s) i = 92)) (h3 : gt (bs s) i < 32) : [92, 117, 48, 48, gt hexD (gt (bs s) i / 16), gt hexD (gt (bs s) i % 16)] = quoC ((bs s).drop i.toNat) (runeF (((bs s).take s.size).drop i.toNat)) := by
  rw [qc_low h (by rw [gt_bsv h0]; exact h2) (by rw [gt_bsv h0]; exact h3), gt_bsv h0]
theorem qg_raw {s : ByteArray} {i n : Int} (h0 : 0 ≤ i) (h : ¬ runeF (((bs s).take s.size).drop i.toNat) = 0) (h2 : ¬ (gt (bs s) i = 34 ∨ gt (bs s) i = 92)) (h3 : ¬ gt (bs s) i < 32) (hn : 0 ≤ n) (e : n = runeF (((bs s).take s.size).drop i.toNat)) : ((bs s).take (i + n).toNat).drop i.toNat = quoC ((bs s).drop i.toNat) (runeF (((bs s).take s.size).drop i.toNat)) := by
  rw [qc_raw h (by rw [gt_bsv h0]; exact h2) (by rw [gt_bsv h0]; exact h3), ← e, show (i + n).toNat = i.toNat + n.toNat from by omega, List.drop_take]
  congr 1
  omega
theorem hex_bs : bs ⟨#[48, 49, 50, 51, 52, 53, 54, 55, 56, 57, 97, 98, 99, 100, 101, 102]⟩ = hexD := by rfl
end Go.SX
namespace Go.SX
theorem isB_dig {x : Int} (h : 0 ≤ x) : isB (48 + x % 10) := ⟨by omega, by omega⟩
theorem bs_dig {x : Int} {s : ByteArray} (h : 0 ≤ x) : bs (mkS [48 + x % 10] ++ s) = [48 + x % 10] ++ bs s := by
  rw [bs_append, bs_mkS]
  intro y hy
  simp at hy
  subst hy
  exact isB_dig h
theorem bs_inj {s t : ByteArray} (h : bs s = bs t) : s = t := by rw [← mkS_bs s, ← mkS_bs t, h]
theorem dec_next {x : Int} (h : 0 ≤ x) (h1 : ¬ x / 10 = 0) : decL x.toNat = decL (x / 10).toNat ++ [48 + x % 10] := by
  rw [decL, if_neg (by omega), show x.toNat / 10 = (x / 10).toNat from by omega, show ((x.toNat % 10 : Nat) : Int) = x % 10 from by omega]
theorem num_next {x a : Int} {s : ByteArray} (q : decL x.toNat ++ bs s = decL a.toNat) (h : 0 ≤ x) (h1 : ¬ x / 10 = 0) : decL (x / 10).toNat ++ bs (mkS [48 + x % 10] ++ s) = decL a.toNat := by
  rw [bs_dig h, ← q, dec_next h h1, List.append_assoc]
theorem num_done {x a : Int} {s : ByteArray} (q : decL x.toNat ++ bs s = decL a.toNat) (h : 0 ≤ x) (h1 : x / 10 = 0) (ha : 0 ≤ a) : mkS [48 + x % 10] ++ s = numS a := by
  apply bs_inj
  rw [bs_dig h, bs_numS, numL, if_neg (by omega), ← q, decL, if_pos (by omega)]
  congr 2
  omega
theorem num_neg {a : Int} (h : a < 0) : (⟨#[45]⟩ : ByteArray) ++ numS (-a) = numS a := by
  apply bs_inj
  rw [bs_append, bs_numS, bs_numS, numL, numL, if_neg (by omega), if_pos h]
  rfl
theorem num_min : (⟨#[45, 57, 50, 50, 51, 51, 55, 50, 48, 51, 54, 56, 53, 52, 55, 55, 53, 56, 48, 56]⟩ : ByteArray) = numS (-9223372036854775808) := by
  apply bs_inj
  rw [bs_numS, numL, if_pos (by decide)]
  rw [show (-(-9223372036854775808 : Int)).toNat = 9223372036854775808 from rfl]
  simp [decL]
  rfl
theorem dig_size {x : Int} {s : ByteArray} : (mkS [x] ++ s).size = s.size + 1 := by
  rw [← bs_len, bs_append, List.length_append, bs_len, bs_len, mkS_size]; simp; omega
theorem decL_len (a : Nat) : (decL a).length ≤ a + 1 := by
  induction a using Nat.strongRecOn with
  | ind a ih =>
    rw [decL]
    split
    · simp
    · rw [List.length_append]
      have := ih (a / 10) (by omega)
      simp; omega
theorem decL_len20 (a : Nat) (h : a < 10 ^ 20) : (decL a).length ≤ 20 := by
  have key : ∀ k a, a < 10 ^ (k + 1) → (decL a).length ≤ k + 1 := by
    intro k
    induction k with
    | zero => intro a h; rw [decL, if_pos (by omega)]; simp
    | succ k ih =>
      intro a h
      rw [decL]
      split
      · simp
      · rw [List.length_append]
        have := ih (a / 10) (by rw [Nat.pow_succ] at h; omega)
        simp; omega
  exact key 19 a h
theorem numL_len {a : Int} (h1 : -9223372036854775808 ≤ a) (h2 : a ≤ 9223372036854775807) : (numL a).length ≤ 21 := by
  unfold numL
  split
  · rw [List.length_cons]
    have := decL_len20 (-a).toNat (by omega)
    omega
  · have := decL_len20 a.toNat (by omega)
    omega
theorem numS_size {a : Int} (h1 : -9223372036854775808 ≤ a) (h2 : a ≤ 9223372036854775807) : (numS a).size ≤ 21 := by
  rw [← bs_len, bs_numS]; exact numL_len h1 h2
end Go.SX
