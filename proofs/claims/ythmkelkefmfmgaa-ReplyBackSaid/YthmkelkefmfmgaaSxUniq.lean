/- A fault's text tells the fault. -/
import Derived.Test.YthmkelkefmfmgaaSxFault
import Derived.Laws.Strings
set_option linter.unusedVariables false
set_option linter.unusedSimpArgs false
namespace Go.SX
open Go
/-! ### Quotes, byte by byte -/
def escB (c : Int) : List Int := if c = 34 ∨ c = 92 then [92, c] else if c < 32 then [92, 117, 48, 48, gt hexD (c / 16), gt hexD (c % 16)] else [c]
theorem esc_high {l : List Int} (h : ∀ b ∈ l, 128 ≤ b) : l.flatMap escB = l := by
  induction l with
  | nil => rfl
  | cons a l ih =>
    have ha := h a (by simp)
    rw [List.flatMap_cons, ih (fun b hb => h b (by simp [hb]))]
    have : escB a = [a] := by unfold escB; rw [if_neg (by omega), if_neg (by omega)]
    rw [this]; rfl
theorem head_gt {l : List Int} (h : 0 < l.length) : l = gt l 0 :: l.drop 1 := by
  cases l with
  | nil => simp at h
  | cons a l => rfl
theorem quo_esc : ∀ (n : Nat) (l : List Int), l.length ≤ n → utfF l = true → quoF l = l.flatMap escB := by
  intro n
  induction n with
  | zero =>
    intro l hl _
    have : l = [] := List.eq_nil_of_length_eq_zero (by omega)
    subst this
    rw [quo_nil]; rfl
  | succ n ih =>
    intro l hl hu
    by_cases h0 : l.length = 0
    · have : l = [] := List.eq_nil_of_length_eq_zero h0
      subst this
      rw [quo_nil]; rfl
    · have hp : 0 < l.length := by omega
      obtain ⟨r0, r1, r2, r3, r4, r5⟩ := rune_spec l hp
      have hr : runeF l ≠ 0 := by
        intro e
        rw [utf_no hp e] at hu
        cases hu
      have hu2 : utfF (l.drop (runeF l).toNat) = true := by rw [← utf_step hp hr]; exact hu
      rw [quo_step hp, show max 1 (runeF l).toNat = (runeF l).toNat from by omega]
      rw [ih _ (by rw [List.length_drop]; omega) hu2]
      conv => rhs; rw [← List.take_append_drop (runeF l).toNat l, List.flatMap_append]
      congr 1
      by_cases hc : gt l 0 < 128
      · have e1 := r3 hc
        have ht : l.take (runeF l).toNat = [gt l 0] := by
          rw [e1]
          conv => lhs; rw [head_gt hp]
          rfl
        rw [ht]
        show _ = escB (gt l 0) ++ []
        rw [List.append_nil]
        unfold quoC escB
        rw [if_neg hr, ht]
      · have ht : ∀ b ∈ l.take (runeF l).toNat, 128 ≤ b := by
          intro b hb
          have e2 : 0 < (runeF l).toNat := by omega
          rw [head_gt (l := l.take (runeF l).toNat) (by rw [List.length_take]; omega)] at hb
          rcases List.mem_cons.1 hb with rfl | hb
          · rw [gt_take (by decide) (by omega)]; omega
          · exact r5 b hb
        rw [esc_high ht]
        unfold quoC
        rw [if_neg hr, if_neg (by omega), if_neg (by omega)]
theorem hex_inj {a b : Int} (h0 : 0 ≤ a) (h1 : a < 16) (h2 : 0 ≤ b) (h3 : b < 16) (h : gt hexD a = gt hexD b) : a = b := by
  have key : ∀ i j : Fin 16, hexD.getD i.val default = hexD.getD j.val default → i = j := by decide
  have := key ⟨a.toNat, by omega⟩ ⟨b.toNat, by omega⟩ h
  have e := congrArg Fin.val this
  simp at e
  omega
theorem esc_inj {l m r s : List Int} (hl : ∀ x ∈ l, isB x) (hm : ∀ x ∈ m, isB x) (h : l.flatMap escB ++ 34 :: r = m.flatMap escB ++ 34 :: s) : l = m ∧ r = s := by
  have first : ∀ (c : Int), isB c → ∃ x t, escB c = x :: t ∧ (x = 34 → False) := by
    intro c hc
    unfold escB
    split
    · exact ⟨92, [c], rfl, by decide⟩
    · rename_i h1
      split
      · exact ⟨92, _, rfl, by decide⟩
      · exact ⟨c, [], rfl, fun e => h1 (.inl e)⟩
  induction l generalizing m with
  | nil =>
    cases m with
    | nil => injection h with _ h; exact ⟨rfl, h⟩
    | cons b m =>
      obtain ⟨x, t, hx, hn⟩ := first b (hm b (by simp))
      rw [List.flatMap_cons, hx] at h
      injection h with h _
      exact absurd h.symm hn
  | cons a l ih =>
    cases m with
    | nil =>
      obtain ⟨x, t, hx, hn⟩ := first a (hl a (by simp))
      rw [List.flatMap_cons, hx] at h
      injection h with h _
      exact absurd h hn
    | cons b m =>
      rw [List.flatMap_cons, List.flatMap_cons, List.append_assoc, List.append_assoc] at h
      have ha := hl a (by simp)
      have hb := hm b (by simp)
      have step : a = b → a :: l = b :: m ∧ r = s := by
        rintro rfl
        have := ih (fun x hx => hl x (by simp [hx])) (fun x hx => hm x (by simp [hx])) (List.append_cancel_left h)
        exact ⟨by rw [this.1], this.2⟩
      apply step
      unfold escB at h
      obtain ⟨a0, a1⟩ := ha
      obtain ⟨b0, b1⟩ := hb
      split at h
      · rename_i ha2
        split at h
        · injection h with _ h; injection h with h _
        · rename_i hb2
          split at h
          · injection h with _ h; injection h with h _; omega
          · injection h with h _; omega
      · rename_i ha2
        split at h
        · rename_i ha3
          split at h
          · rename_i hb2
            injection h with _ h; injection h with h _; omega
          · rename_i hb2
            split at h
            · rename_i hb3
              injection h with _ h; injection h with _ h; injection h with _ h; injection h with _ h; injection h with h5 h; injection h with h6 _
              have e1 := hex_inj (by omega) (by omega) (by omega) (by omega) h5
              have e2 := hex_inj (by omega) (by omega) (by omega) (by omega) h6
              omega
            · injection h with h _; omega
        · rename_i ha3
          split at h
          · injection h with h _; omega
          · rename_i hb2
            split at h
            · injection h with h _; omega
            · injection h with h _
theorem quote_inj {s t : ByteArray} {r q : List Int} (hs : utfF (bs s) = true) (ht : utfF (bs t) = true) (h : quoteF s ++ r = quoteF t ++ q) : s = t ∧ r = q := by
  unfold quoteF at h
  rw [quo_esc _ _ (Nat.le_refl _) hs, quo_esc _ _ (Nat.le_refl _) ht] at h
  simp only [List.append_assoc, List.cons_append, List.nil_append] at h
  injection h with _ h
  obtain ⟨h1, h2⟩ := esc_inj (bs_range s) (bs_range t) h
  exact ⟨bs_inj h1, h2⟩
/-! ### Numbers -/
def valD (l : List Int) : Int := l.foldl (fun a d => 10 * a + (d - 48)) 0
theorem valD_dec (n : Nat) : valD (decL n) = n := by
  induction n using Nat.strongRecOn with
  | ind n ih =>
    rw [decL]
    split
    · simp [valD]; omega
    · have := ih (n / 10) (by omega)
      unfold valD at this ⊢
      rw [List.foldl_append, this]
      simp
      omega
theorem decL_inj {a b : Nat} (h : decL a = decL b) : a = b := by
  have h1 := valD_dec a
  have h2 := valD_dec b
  rw [h] at h1
  omega
theorem decL_head (n : Nat) : ∃ x t, decL n = x :: t ∧ 48 ≤ x := by
  cases hd : decL n with
  | nil =>
    rw [decL] at hd
    split at hd <;> simp at hd
  | cons x t => exact ⟨x, t, rfl, (decL_range n x (by rw [hd]; simp)).1⟩
theorem numL_inj {a b : Int} (h : numL a = numL b) : a = b := by
  unfold numL at h
  split at h
  · split at h
    · injection h with _ h
      have := decL_inj h
      omega
    · obtain ⟨x, t, hx, h48⟩ := decL_head b.toNat
      rw [hx] at h
      injection h with h _
      omega
  · split at h
    · obtain ⟨x, t, hx, h48⟩ := decL_head a.toNat
      rw [hx] at h
      injection h with h _
      omega
    · have := decL_inj h
      omega
theorem numL_no (a : Int) (x : Int) (hx : x ∈ numL a) : x = 45 ∨ (48 ≤ x ∧ x < 58) := by
  unfold numL at hx
  split at hx
  · rcases List.mem_cons.1 hx with rfl | hx
    · exact .inl rfl
    · exact .inr (decL_range _ x hx)
  · exact .inr (decL_range _ x hx)
theorem until_eq {c : Int} : ∀ {x y r s : List Int}, c ∉ x → c ∉ y → x ++ c :: r = y ++ c :: s → x = y ∧ r = s
  | [], [], _, _, _, _, h => by injection h with _ h; exact ⟨rfl, h⟩
  | [], b :: y, _, _, _, hy, h => by injection h with h _; subst h; simp at hy
  | a :: x, [], _, _, hx, _, h => by injection h with h _; subst h; simp at hx
  | a :: x, b :: y, r, s, hx, hy, h => by
    injection h with h1 h
    subst h1
    have := until_eq (fun e => hx (by simp [e])) (fun e => hy (by simp [e])) h
    exact ⟨by rw [this.1], this.2⟩
theorem num_sep {a b : Int} {r s : List Int} (h : numL a ++ 44 :: r = numL b ++ 44 :: s) : a = b ∧ r = s := by
  have no : ∀ a, (44 : Int) ∉ numL a := fun a hx => by have := numL_no a 44 hx; omega
  obtain ⟨h1, h2⟩ := until_eq (no a) (no b) h
  exact ⟨numL_inj h1, h2⟩
/-! ### The fault's text -/
def faultL (cd at_ : Int) (path : ByteArray) : List Int :=
  [123] ++ (quoteF sStatus ++ [58] ++ quoteF sError ++ [44]) ++ (quoteF sCode ++ [58]) ++ numL cd ++ 44 :: ((quoteF sAt ++ [58]) ++ numL at_ ++ 44 :: ((quoteF sPath ++ [58]) ++ (quoteF path ++ [125])))
theorem fault_show (cd at_ : Int) (path : ByteArray) : showF (faultT cd at_ path) = faultL cd at_ path := by
  have e0 : ∀ n, wF (n + 1) (faultT cd at_ path) 0 = quoteF sError := fun n => by
    rw [wF]; rfl
  have e1 : ∀ n, wF (n + 1) (faultT cd at_ path) 1 = numL cd := fun n => by
    rw [wF]; rfl
  have e2 : ∀ n, wF (n + 1) (faultT cd at_ path) 2 = numL at_ := fun n => by
    rw [wF]; rfl
  have e3 : ∀ n, wF (n + 1) (faultT cd at_ path) 3 = quoteF path := fun n => by
    rw [wF]; rfl
  show wF 5 (faultT cd at_ path) 4 = _
  rw [wF]
  have hg : gt (faultT cd at_ path) 4 = ⟨6, false, 0, ⟨#[]⟩, [sStatus, sCode, sAt, sPath], [0, 1, 2, 3]⟩ := rfl
  rw [hg]
  simp only [markO, markC]
  rw [if_neg (by decide), if_neg (by decide), if_neg (by decide), if_neg (by decide), if_pos trivial, if_pos trivial]
  show [123] ++ upTo (itemF _ _) 4 ++ [125] = _
  simp only [upTo, itemF]
  simp only [show ((0 : Nat) : Int) = 0 from rfl, show ((1 : Nat) : Int) = 1 from rfl, show ((2 : Nat) : Int) = 2 from rfl, show ((3 : Nat) : Int) = 3 from rfl]
  simp only [show gt ([0, 1, 2, 3] : List Int) 0 = 0 from rfl, show gt ([0, 1, 2, 3] : List Int) 1 = 1 from rfl, show gt ([0, 1, 2, 3] : List Int) 2 = 2 from rfl, show gt ([0, 1, 2, 3] : List Int) 3 = 3 from rfl, show gt [sStatus, sCode, sAt, sPath] 0 = sStatus from rfl, show gt [sStatus, sCode, sAt, sPath] 1 = sCode from rfl, show gt [sStatus, sCode, sAt, sPath] 2 = sAt from rfl, show gt [sStatus, sCode, sAt, sPath] 3 = sPath from rfl]
  rw [e0, e1, e2, e3]
  simp [faultL]
theorem fault_inj {c1 a1 c2 a2 : Int} {p1 p2 : ByteArray} (h1 : utfF (bs p1) = true) (h2 : utfF (bs p2) = true) (h : faultL c1 a1 p1 = faultL c2 a2 p2) : c1 = c2 ∧ a1 = a2 ∧ p1 = p2 := by
  unfold faultL at h
  rw [List.append_assoc, List.append_assoc] at h
  conv at h => rhs; rw [List.append_assoc, List.append_assoc]
  have h := List.append_cancel_left h
  have h := List.append_cancel_left h
  obtain ⟨e1, h⟩ := num_sep h
  rw [List.append_assoc] at h
  conv at h => rhs; rw [List.append_assoc]
  have h := List.append_cancel_left h
  obtain ⟨e2, h⟩ := num_sep h
  have h := List.append_cancel_left h
  obtain ⟨e3, _⟩ := quote_inj h1 h2 h
  exact ⟨e1, e2, e3⟩

/-! ### The fault's tree is lawful -/
theorem ascii_utf : ∀ (n : Nat) (l : List Int), l.length ≤ n → (∀ x ∈ l, x < 128) → utfF l = true := by
  intro n
  induction n with
  | zero =>
    intro l hl _
    have : l = [] := List.eq_nil_of_length_eq_zero (by omega)
    subst this; exact utf_nil
  | succ n ih =>
    intro l hl h
    by_cases h0 : l.length = 0
    · have : l = [] := List.eq_nil_of_length_eq_zero h0
      subst this; exact utf_nil
    · have hp : 0 < l.length := by omega
      obtain ⟨r0, r1, r2, r3, r4, r5⟩ := rune_spec l hp
      have e1 := r3 (h _ (gt_mem (by decide) (by omega)))
      rw [utf_step hp (by omega), e1]
      exact ih _ (by rw [List.length_drop]; simp; omega) (fun x hx => h x (List.mem_of_mem_drop hx))
theorem plain_leaf {k n : Int} {s : ByteArray} (hk : k = 3 ∧ s = ⟨#[]⟩ ∨ k = 4 ∧ n = 0) (hn : fitP n) (hu : utfF (bs s) = true) : plainP ⟨k, false, n, s, [], []⟩ := by
  refine ⟨?_, ?_, fun _ => rfl, fun e => ?_⟩
  · unfold pc1
    rcases hk with ⟨rfl, rfl⟩ | ⟨rfl, rfl⟩
    · rintro (((e | e) | e) | e)
      · exact absurd e.1 (by simp)
      · exact e.2 rfl
      · exact absurd e.1 (by simp)
      · exact absurd e.1.1 (by simp)
    · rintro (((e | e) | e) | e)
      · exact absurd e.1 (by simp)
      · exact e.1 rfl
      · exact e.2 rfl
      · exact absurd e.1.1 (by simp)
  · unfold pc2
    unfold fitP at hn
    rintro ((e | e) | e)
    · dsimp only at e; rcases hk with ⟨rfl, _⟩ | ⟨rfl, _⟩ <;> omega
    · exact e hn
    · exact e hu
  · dsimp only at e; rcases hk with ⟨rfl, _⟩ | ⟨rfl, _⟩ <;> omega
theorem utf_lit {s : ByteArray} (h : (bs s).all (fun x => decide (x < 128)) = true) : utfF (bs s) = true := ascii_utf _ _ (Nat.le_refl _) (fun x hx => by have := List.all_eq_true.1 h x hx; simpa using this)
theorem plain_top : plainP ⟨6, false, 0, ⟨#[]⟩, [sStatus, sCode, sAt, sPath], [0, 1, 2, 3]⟩ := by
  refine ⟨?_, ?_, fun e => absurd rfl e, fun _ => ⟨?_, rfl⟩⟩
  · unfold pc1
    rintro (((e | e) | e) | e)
    · exact absurd e.1 (by decide)
    · exact e.1 rfl
    · exact absurd e.1 (by simp)
    · exact e.2 rfl
  · unfold pc2
    rintro ((e | e) | e)
    · dsimp only at e; omega
    · exact e (by dsimp only; omega)
    · exact e (utf_lit (by decide))
  · intro i h0 h1
    have h1 : i < 4 := h1
    rcases (show i = 0 ∨ i = 1 ∨ i = 2 ∨ i = 3 by omega) with rfl | rfl | rfl | rfl
    · exact ⟨utf_lit (by decide), fun j a b => by omega⟩
    · refine ⟨utf_lit (by decide), fun j a b => ?_⟩
      rcases (show j = 0 by omega) with rfl
      decide +kernel
    · refine ⟨utf_lit (by decide), fun j a b => ?_⟩
      rcases (show j = 0 ∨ j = 1 by omega) with rfl | rfl <;> decide +kernel
    · refine ⟨utf_lit (by decide), fun j a b => ?_⟩
      rcases (show j = 0 ∨ j = 1 ∨ j = 2 by omega) with rfl | rfl | rfl <;> decide +kernel
theorem fit0 : fitP 0 := by unfold fitP; omega
theorem fault_check {cd at_ : Int} {path : ByteArray} (h1 : fitP cd) (h2 : fitP at_) (h3 : utfF (bs path) = true) : checkF (faultT cd at_ path) = 0 := by
  have p0 : plainP ⟨4, false, 0, sError, [], []⟩ := plain_leaf (.inr ⟨rfl, rfl⟩) fit0 (utf_lit (by decide))
  have p1 : plainP ⟨3, false, cd, ⟨#[]⟩, [], []⟩ := plain_leaf (.inl ⟨rfl, rfl⟩) h1 (utf_lit (by decide))
  have p2 : plainP ⟨3, false, at_, ⟨#[]⟩, [], []⟩ := plain_leaf (.inl ⟨rfl, rfl⟩) h2 (utf_lit (by decide))
  have p3 : plainP ⟨4, false, 0, path, [], []⟩ := plain_leaf (.inr ⟨rfl, rfl⟩) fit0 h3
  have hk : ckKids 4 [0, 0, 0, 0, 0] [0, 1, 2, 3] [0, 0, 0, 0, 0] 0 = some ([1, 1, 1, 1, 0], 0) := by decide
  have e : ckAll (faultT cd at_ path) 0 (zs 5) (zs 5) = some ([1, 1, 1, 1, 0], [0, 0, 0, 0, 1]) := by
    unfold faultT
    rw [ckAll, if_pos p0]; dsimp only [ckKids]
    rw [ckAll, if_pos p1]; dsimp only [ckKids]
    rw [ckAll, if_pos p2]; dsimp only [ckKids]
    rw [ckAll, if_pos p3]; dsimp only [ckKids]
    rw [ckAll, if_pos plain_top]
    show (match ckKids 4 [0, 0, 0, 0, 0] [0, 1, 2, 3] [0, 0, 0, 0, 0] 0 with
      | none => none
      | some (u, m) => ckAll [] 5 u (([0, 0, 0, 0, 0] : List Int).set 4 (if (6 : Int) ≥ 5 then m + 1 else m))) = _
    rw [hk]
    rfl
  unfold checkF
  rw [if_neg (by show ¬ ((5 : Nat) : Int) = 0; decide), if_neg (by show ¬ ((5 : Nat) : Int) > 8192; decide)]
  rw [show (faultT cd at_ path).length = 5 from rfl, e]
  dsimp only
  rw [if_neg]
  · rw [if_neg]
    show ¬ gt ([0, 0, 0, 0, 1] : List Int) 4 > 16
    decide
  · rintro ⟨j, a, b, c⟩
    have b : j < 4 := b
    rcases (show j = 0 ∨ j = 1 ∨ j = 2 ∨ j = 3 by omega) with rfl | rfl | rfl | rfl <;> exact absurd c (by decide)
theorem quoF_len : ∀ (n : Nat) (l : List Int), l.length ≤ n → (quoF l).length ≤ 6 * l.length := by
  intro n
  induction n with
  | zero =>
    intro l hl
    have : l = [] := List.eq_nil_of_length_eq_zero (by omega)
    subst this; rw [quo_nil]; simp
  | succ n ih =>
    intro l hl
    by_cases h0 : l.length = 0
    · have : l = [] := List.eq_nil_of_length_eq_zero h0
      subst this; rw [quo_nil]; simp
    · have hp : 0 < l.length := by omega
      obtain ⟨r0, r1, r2, _⟩ := rune_spec l hp
      rw [quo_step hp, List.length_append]
      have h1 := quoC_len (l := l) r0 r1
      have h2 := ih (l.drop (max 1 (runeF l).toNat)) (by rw [List.length_drop]; omega)
      rw [List.length_drop] at h2
      omega
theorem quoteF_len (s : ByteArray) : (quoteF s).length ≤ 6 * s.size + 2 := by
  unfold quoteF
  have := quoF_len _ (bs s) (Nat.le_refl _)
  rw [bs_len] at this
  simp only [List.length_append, List.length_cons, List.length_nil]
  omega
theorem fault_len {cd at_ : Int} {path : ByteArray} (h1 : -9223372036854775808 ≤ cd ∧ cd ≤ 9223372036854775807) (h2 : -9223372036854775808 ≤ at_ ∧ at_ ≤ 9223372036854775807) : (faultL cd at_ path).length ≤ 6 * path.size + 1000 := by
  have a := numL_len h1.1 h1.2
  have b := numL_len h2.1 h2.2
  have c := quoteF_len path
  have d := quoteF_len sStatus
  have e := quoteF_len sError
  have f := quoteF_len sCode
  have g := quoteF_len sAt
  have h := quoteF_len sPath
  have d' : sStatus.size = 6 := rfl
  have e' : sError.size = 5 := rfl
  have f' : sCode.size = 4 := rfl
  have g' : sAt.size = 2 := rfl
  have h' : sPath.size = 4 := rfl
  unfold faultL
  simp only [List.length_append, List.length_cons, List.length_nil]
  omega
/-- What Print asks of a fault's tree. -/
theorem fault_TB {L : List TV} {cd at_ : Int} {path : ByteArray} (h : vs L = faultT cd at_ path) (hp : path.size ≤ 1000000) (h1 : -9223372036854775808 ≤ cd ∧ cd ≤ 9223372036854775807) (h2 : -9223372036854775808 ≤ at_ ∧ at_ ≤ 9223372036854775807) : ∀ t ∈ L, TB t.v := by
  intro t ht
  have hm : t.v ∈ faultT cd at_ path := by rw [← h]; exact List.mem_map.2 ⟨t, ht, rfl⟩
  generalize t.v = v at hm
  simp only [faultT, List.mem_cons, List.not_mem_nil, or_false] at hm
  have z0 : (⟨#[]⟩ : ByteArray).size = 0 := rfl
  rcases hm with rfl | rfl | rfl | rfl | rfl
  · exact ⟨by show (5 : Nat) ≤ _; decide, by simp, by simp, by simp, by decide, by decide⟩
  · exact ⟨by show (0 : Nat) ≤ _; decide, by simp, by simp, by simp, h1.1, h1.2⟩
  · exact ⟨by show (0 : Nat) ≤ _; decide, by simp, by simp, by simp, h2.1, h2.2⟩
  · exact ⟨hp, by simp, by simp, by simp, by show (-9223372036854775808 : Int) ≤ 0; decide, by show (0 : Int) ≤ 9223372036854775807; decide⟩
  · refine ⟨by show (0 : Nat) ≤ _; decide, ?_, by simp, by simp, by decide, by decide⟩
    intro s hs
    simp only [List.mem_cons, List.not_mem_nil, or_false] at hs
    rcases hs with rfl | rfl | rfl | rfl
    · show (6 : Nat) ≤ _; decide
    · show (4 : Nat) ≤ _; decide
    · show (2 : Nat) ≤ _; decide
    · show (4 : Nat) ≤ _; decide
end Go.SX
namespace Go.SX
theorem quote_ascii {s : ByteArray} (h : (bs s).all (fun x => decide (x < 128) && decide (32 ≤ x) && decide (x ≠ 34) && decide (x ≠ 92)) = true) : quoteF s = [34] ++ bs s ++ [34] := by
  have hh : ∀ x ∈ bs s, x < 128 ∧ 32 ≤ x ∧ x ≠ 34 ∧ x ≠ 92 := fun x hx => by
    have := List.all_eq_true.1 h x hx
    simp only [Bool.and_eq_true, decide_eq_true_eq] at this
    exact ⟨this.1.1.1, this.1.1.2, this.1.2, this.2⟩
  unfold quoteF
  rw [quo_esc _ _ (Nat.le_refl _) (ascii_utf _ _ (Nat.le_refl _) (fun x hx => (hh x hx).1))]
  congr 2
  generalize bs s = l at hh
  induction l with
  | nil => rfl
  | cons a l ih =>
    have ha := hh a (by simp)
    rw [List.flatMap_cons, ih (fun x hx => hh x (by simp [hx]))]
    have : escB a = [a] := by unfold escB; rw [if_neg (by omega), if_neg (by omega)]
    rw [this]; rfl
theorem awake_text : ((mkS (faultL 21 3 ⟨#[]⟩)).toList == (⟨#[123, 34, 115, 116, 97, 116, 117, 115, 34, 58, 34, 101, 114, 114, 111, 114, 34, 44, 34, 99, 111, 100, 101, 34, 58, 50, 49, 44, 34, 97, 116, 34, 58, 51, 44, 34, 112, 97, 116, 104, 34, 58, 34, 34, 125]⟩ : ByteArray).toList) = true := by
  have h1 : faultL 21 3 ⟨#[]⟩ = bs ⟨#[123, 34, 115, 116, 97, 116, 117, 115, 34, 58, 34, 101, 114, 114, 111, 114, 34, 44, 34, 99, 111, 100, 101, 34, 58, 50, 49, 44, 34, 97, 116, 34, 58, 51, 44, 34, 112, 97, 116, 104, 34, 58, 34, 34, 125]⟩ := by
    have n1 : numL 21 = [50, 49] := by simp [numL, decL]
    have n2 : numL 3 = [51] := by simp [numL, decL]
    unfold faultL
    rw [quote_ascii (s := sStatus) (by decide), quote_ascii (s := sError) (by decide), quote_ascii (s := sCode) (by decide), quote_ascii (s := sAt) (by decide), quote_ascii (s := sPath) (by decide), quote_ascii (s := ⟨#[]⟩) (by decide), n1, n2]
    rfl
  rw [h1, mkS_bs]
  simp
theorem mkS_inj {l m : List Int} (hl : ∀ x ∈ l, isB x) (hm : ∀ x ∈ m, isB x) (h : mkS l = mkS m) : l = m := by rw [← bs_mkS hl, ← bs_mkS hm, h]
theorem quoC_range {l : List Int} {n : Int} (h : ∀ x ∈ l, isB x) (hl : 0 < l.length) : ∀ x ∈ quoC l n, isB x := by
  have h0 := h _ (gt_mem (i := 0) (by decide) (by omega))
  have hx : ∀ i, isB (gt hexD i) := fun i => gt_range (by unfold isB; decide) i
  unfold quoC
  split
  · intro x hx; simp at hx; rcases hx with rfl | rfl | rfl <;> exact ⟨by decide, by decide⟩
  split
  · intro x hx; simp at hx; rcases hx with rfl | rfl
    · exact ⟨by decide, by decide⟩
    · exact h0
  split
  · intro x hx'; simp at hx'; rcases hx' with rfl | rfl | rfl | rfl | rfl
    · exact ⟨by decide, by decide⟩
    · exact ⟨by decide, by decide⟩
    · exact ⟨by decide, by decide⟩
    · exact hx _
    · exact hx _
  · intro x hx; exact h x (List.mem_of_mem_take hx)
theorem quoF_range : ∀ (n : Nat) (l : List Int), l.length ≤ n → (∀ x ∈ l, isB x) → ∀ x ∈ quoF l, isB x := by
  intro n
  induction n with
  | zero =>
    intro l hl _
    have : l = [] := List.eq_nil_of_length_eq_zero (by omega)
    subst this; rw [quo_nil]; simp
  | succ n ih =>
    intro l hl h
    by_cases h0 : l.length = 0
    · have : l = [] := List.eq_nil_of_length_eq_zero h0
      subst this; rw [quo_nil]; simp
    · have hp : 0 < l.length := by omega
      rw [quo_step hp]
      intro x hx
      rcases List.mem_append.1 hx with hx | hx
      · exact quoC_range h hp x hx
      · exact ih _ (by rw [List.length_drop]; omega) (fun y hy => h y (List.mem_of_mem_drop hy)) x hx
theorem quoteF_range (s : ByteArray) : ∀ x ∈ quoteF s, isB x := by
  unfold quoteF
  intro x hx
  simp only [List.mem_append, List.mem_singleton] at hx
  rcases hx with (rfl | hx) | rfl
  · exact ⟨by decide, by decide⟩
  · exact quoF_range _ _ (Nat.le_refl _) (bs_range s) x hx
  · exact ⟨by decide, by decide⟩
theorem fault_range (cd at_ : Int) (path : ByteArray) : ∀ x ∈ faultL cd at_ path, isB x := by
  unfold faultL
  intro x hx
  simp only [List.mem_append, List.mem_cons, List.not_mem_nil, or_false] at hx
  have q := fun (s : ByteArray) (h : x ∈ quoteF s) => quoteF_range s x h
  have n := fun (a : Int) (h : x ∈ numL a) => numL_range a x h
  have c : ∀ k : Int, (0 ≤ k ∧ k < 256) → x = k → isB x := fun k hk e => by rw [e]; exact hk
  rcases hx with (((hx | ((hx | hx) | hx) | hx) | hx | hx) | hx) | hx | ((hx | hx) | hx) | hx | (hx | hx) | hx | hx
  all_goals first | exact q _ hx | exact n _ hx | exact c _ ⟨by decide, by decide⟩ hx
/-- Two faults' texts are one just if the faults are. -/
theorem faults_eq {c1 a1 c2 a2 : Int} {p1 p2 : ByteArray} (h1 : utfF (bs p1) = true) (h2 : utfF (bs p2) = true) : (((mkS (faultL c1 a1 p1)).toList == (mkS (faultL c2 a2 p2)).toList) == ((c1 == c2) && ((a1 == a2) && (p1 == p2)))) = true := by
  rw [beq_toListBytes p1 p2, beq_iff_eq, Bool.eq_iff_iff]
  simp only [beq_iff_eq, Bool.and_eq_true]
  have tl : ∀ s t : ByteArray, s.toList = t.toList ↔ s = t := fun s t => by
    refine ⟨fun h => ?_, fun h => by rw [h]⟩
    rw [ByteArray.toList_eq, ByteArray.toList_eq] at h
    exact bs_inj (by unfold bs; rw [h])
  rw [tl, tl]
  constructor
  · intro h
    have h3 := mkS_inj (fault_range _ _ _) (fault_range _ _ _) h
    exact fault_inj h1 h2 h3
  · rintro ⟨rfl, rfl, rfl⟩; rfl
end Go.SX
