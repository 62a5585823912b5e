import Derived.Test.YthmkelkefmfmgaaProg
import Derived.Test.YthmkelkefmfmgaaS1
set_option linter.unusedVariables false
set_option linter.unusedSimpArgs false
set_option linter.unusedSectionVars false
namespace Go.SX
open Go
def On (b : List Int) (i : Int) (l : List Int) : Prop := 0 ≤ i ∧ i ≤ (b.length : Int) ∧ b.drop i.toNat = l
section
variable {b x y l : List Int} {i c pos : Int}
theorem On.len (h : On b i l) : (l.length : Int) = b.length - i := by
  obtain ⟨h0, h1, h2⟩ := h
  rw [← h2, List.length_drop]; omega
theorem On.app (h : On b i (x ++ y)) : On b (i + x.length) y := by
  have hl := h.len
  obtain ⟨h0, h1, h2⟩ := h
  rw [List.length_append] at hl
  refine ⟨by omega, by omega, ?_⟩
  rw [show (i + x.length).toNat = i.toNat + x.length by omega, ← List.drop_drop, h2, List.drop_left]
theorem On.tl (h : On b i (c :: y)) : On b (i + 1) y := h.app (x := [c])
theorem On.lt (h : On b i (c :: y)) : i < (b.length : Int) := by have := h.len; simp at this; omega
theorem On.elt (h : On b i (c :: y)) : gt b i = c := by
  have h3 := h.lt
  have h2 := h.2.2
  rw [drop_gt h.1 h3] at h2
  injection h2
theorem On.seg (h : On b i (x ++ y)) : (b.take (i + x.length).toNat).drop i.toNat = x := by
  have h0 := h.1
  rw [show (i + x.length).toNat = i.toNat + x.length by omega, List.drop_take, h.2.2, Nat.add_sub_cancel_left, List.take_left]
theorem On.here (h : On b i (c :: y)) : hereF b ⟨i, 0, pos⟩ = c ∧ hereS b ⟨i, 0, pos⟩ = ⟨i, 0, pos⟩ := by
  have h3 := h.lt
  unfold hereF hereS
  dsimp only
  rw [if_neg (by omega), if_neg (by omega)]
  exact ⟨h.elt, rfl⟩
theorem On.next (h : On b i (c :: y)) (hc : ¬ blank c) : nextF b ⟨i, 0, pos⟩ = c ∧ nextS b ⟨i, 0, pos⟩ = ⟨i, 0, pos⟩ := by
  have e : gapF b ⟨i, 0, pos⟩ = ⟨i, 0, pos⟩ := by
    unfold gapF LS.go
    dsimp only
    rw [h.2.2, gapN, if_neg hc]
    simp
  unfold nextF nextS
  rw [e]
  exact h.here
theorem On.word : ∀ (w : List Int) {i : Int}, On b i (w ++ y) → (∀ x ∈ w, 0 ≤ x) → wordF b w ⟨i, 0, pos⟩ = ⟨i + w.length, 0, pos⟩
  | [], i, h, _ => by rw [wordF]; simp
  | c :: r, i, h, hw => by
    have h1 := h.here (pos := pos)
    have hc := hw c (by simp)
    rw [wordF, if_neg (by rw [h1.1]; omega), if_neg (by rw [h1.1]; exact fun e => e rfl)]
    have := On.word r h.tl (fun x hx => hw x (List.mem_cons_of_mem _ hx))
    show wordF b r ⟨i + 1, 0, pos⟩ = _
    rw [this]
    simp only [List.length_cons, LS.mk.injEq, and_true]
    omega
end
theorem numC_app : ∀ {l y : List Int}, (∀ c ∈ l, numB c) → numC y = 0 → numC (l ++ y) = l.length
  | [], y, _, hy => hy
  | c :: r, y, h, hy => by
    rw [List.cons_append, numC, if_pos (h c (by simp)), numC_app (fun x hx => h x (List.mem_cons_of_mem _ hx)) hy]; rfl
theorem numL_B (n : Int) : ∀ c ∈ numL n, numB c := fun c hc => by
  have := numL_no n c hc
  unfold numB; omega
theorem decV_app : ∀ (l : List Int) (c x : Int), decV (l ++ [c]) x = 10 * decV l x + (c - 48)
  | [], c, x => rfl
  | a :: r, c, x => by rw [List.cons_append, decV, decV, decV_app r c]
theorem decV_dec (m : Nat) : decV (decL m) 0 = (m : Int) := by
  induction m using Nat.strongRecOn with
  | ind m ih =>
    rw [decL]
    split
    · simp [decV]; omega
    · rw [decV_app, ih (m / 10) (by omega)]; omega
theorem decL_lenk (k : Nat) : ∀ m : Nat, m < 10 ^ (k + 1) → (decL m).length ≤ k + 1 := by
  induction k with
  | zero => intro m h; rw [decL, if_pos (by simpa using h)]; simp
  | succ k ih =>
    intro m h
    rw [decL]
    split
    · simp
    · have := ih (m / 10) (by rw [Nat.pow_succ] at h; omega)
      rw [List.length_append]; simp; omega
theorem decL_pos (m : Nat) : 1 ≤ (decL m).length := by
  obtain ⟨x, t, e, _⟩ := decL_head m
  rw [e]; simp
theorem decL_zero (m : Nat) (h : gt (decL m) 0 = 48) : m = 0 := by
  induction m using Nat.strongRecOn with
  | ind m ih =>
    rw [decL] at h
    split at h
    · simp [gt] at h; omega
    · exfalso
      obtain ⟨x, t, e, _⟩ := decL_head (m / 10)
      have h2 : gt (decL (m / 10)) 0 = 48 := by rw [e] at h ⊢; simpa [gt] using h
      have := ih (m / 10) (by omega) h2
      omega
theorem parse1_pos (m : Nat) (h : m ≤ 4611686018427387903) : parse1 (decL m) = ((m : Int), 0) := by
  obtain ⟨x, t, e, hx⟩ := decL_head m
  have hr := decL_range m
  have hs : sgn (decL m) = 0 := by
    unfold sgn
    rw [if_neg]
    intro h2
    have : gt (decL m) 0 = x := by rw [e]; simp [gt]
    omega
  have hl := decL_pos m
  have hl2 := decL_lenk 18 m (by omega)
  unfold parse1
  rw [hs]
  rw [if_neg (by omega), if_neg (by
    rintro ⟨c, hc, h3⟩
    have := hr c (by simpa using hc)
    omega), if_neg (by
    rintro ⟨h3, h4⟩
    have := decL_zero m h3
    subst this
    exact h4 (by rw [decL]; rfl)), if_neg (by omega)]
  have e2 : (decL m).drop (0 : Int).toNat = decL m := rfl
  rw [e2, decV_dec, if_neg (by omega), if_neg (by decide)]
theorem parse1_neg (m : Nat) (h0 : 0 < m) (h : m ≤ 4611686018427387903) : parse1 (45 :: decL m) = (-(m : Int), 0) := by
  have hr := decL_range m
  have hs : sgn (45 :: decL m) = 1 := by
    unfold sgn
    rw [if_pos]
    simp [gt]
  have hl := decL_pos m
  have hl2 := decL_lenk 18 m (by omega)
  have e2 : (45 :: decL m).drop (1 : Int).toNat = decL m := rfl
  have e3 : gt (45 :: decL m) 1 = gt (decL m) 0 := by simp [gt]
  unfold parse1
  rw [hs, e2, e3]
  rw [if_neg (by rw [List.length_cons]; omega), if_neg (by
    rintro ⟨c, hc, h3⟩
    have := hr c hc
    omega), if_neg (by
    rintro ⟨h3, h4⟩
    have := decL_zero m h3
    omega), if_neg (by rw [List.length_cons]; omega)]
  rw [decV_dec, if_neg (by omega), if_pos rfl]
theorem parse1_full {n : Int} (h : fitP n) : parse1 (numL n) = (n, 0) := by
  unfold fitP at h
  unfold numL
  split
  · rw [parse1_neg _ (by omega) (by omega)]
    congr 1; omega
  · rw [parse1_pos _ (by omega)]
    congr 1; omega
section
variable {b x y l o : List Int} {i c pos : Int}
theorem On.number {n : Int} (h : On b i (numL n ++ y)) (hf : fitP n) (hy : numC y = 0) : numberF b ⟨i, 0, pos⟩ = n ∧ numberS b ⟨i, 0, pos⟩ = ⟨i + (numL n).length, 0, pos⟩ := by
  have e : numEnd b ⟨i, 0, pos⟩ = ⟨i + (numL n).length, 0, pos⟩ := by
    unfold numEnd LS.go
    dsimp only
    rw [h.2.2, numC_app (numL_B n) hy]
  have e2 : numSeg b ⟨i, 0, pos⟩ = numL n := by
    unfold numSeg
    rw [e]
    exact h.seg
  unfold numberF numberS
  rw [e2, parse1_full hf, e]
  exact ⟨rfl, rfl⟩
theorem On.mark {g : Int} (h : On b i (92 :: g :: y)) (hg : g = 34 ∨ g = 92) : escF b ⟨i, 0, pos⟩ = (g, ⟨i + 2, 0, pos⟩) := by
  have h1 := h.tl.here (pos := pos)
  have hm : markF marksL runesL g = some g := by rcases hg with rfl | rfl <;> rfl
  have e : halfF b i ⟨i, 0, pos⟩ = (g, ⟨i + 2, 0, pos⟩) := by
    unfold halfF
    show (match markF marksL runesL (hereF b ⟨i + 1, 0, pos⟩) with
      | some r => (r, (hereS b ⟨i + 1, 0, pos⟩).go 1)
      | none => if hereF b ⟨i + 1, 0, pos⟩ ≠ 117 then (0, noF ((hereS b ⟨i + 1, 0, pos⟩).go 1) i 24) else hexL b i 4 ((hereS b ⟨i + 1, 0, pos⟩).go 1) 0) = _
    rw [h1.1, h1.2, hm]
    show (g, (⟨i + 1 + 1, 0, pos⟩ : LS)) = _
    rw [show i + 1 + 1 = i + 2 by omega]
  unfold escF
  dsimp only
  rw [e]
  dsimp only
  rw [if_pos (.inl (by omega))]
theorem hexD_of {v : Int} (h0 : 0 ≤ v) (h1 : v < 16) : (gt hexD v ≥ 48 ∧ gt hexD v ≤ 57 ∧ gt hexD v - 48 = v) ∨ (¬ (gt hexD v ≥ 48 ∧ gt hexD v ≤ 57) ∧ (gt hexD v ≥ 97 ∧ gt hexD v ≤ 102) ∧ gt hexD v - 97 + 10 = v) := by
  have h : v = 0 ∨ v = 1 ∨ v = 2 ∨ v = 3 ∨ v = 4 ∨ v = 5 ∨ v = 6 ∨ v = 7 ∨ v = 8 ∨ v = 9 ∨ v = 10 ∨ v = 11 ∨ v = 12 ∨ v = 13 ∨ v = 14 ∨ v = 15 := by omega
  rcases h with rfl | rfl | rfl | rfl | rfl | rfl | rfl | rfl | rfl | rfl | rfl | rfl | rfl | rfl | rfl | rfl <;> decide
theorem On.hex {v z fr : Int} {n : Nat} (h : On b i (gt hexD v :: y)) (h0 : 0 ≤ v) (h1 : v < 16) : hexL b fr (n + 1) ⟨i, 0, pos⟩ z = hexL b fr n ⟨i + 1, 0, pos⟩ (16 * z + v) := by
  have h2 := h.here (pos := pos)
  rw [hexL, h2.1]
  rcases hexD_of h0 h1 with ⟨a, b', e⟩ | ⟨a, b', e⟩
  · rw [if_neg (by omega), if_pos ⟨a, b'⟩, show 16 * z + gt hexD v - 48 = 16 * z + v by omega]; rfl
  · rw [if_neg (by omega), if_neg a, if_pos b', show 16 * z + gt hexD v - 97 + 10 = 16 * z + v by omega]; rfl
theorem On.low {g : Int} (h : On b i (92 :: 117 :: 48 :: 48 :: gt hexD (g / 16) :: gt hexD (g % 16) :: y)) (h0 : 0 ≤ g) (h1 : g < 32) : escF b ⟨i, 0, pos⟩ = (g, ⟨i + 6, 0, pos⟩) := by
  have h2 := h.tl.here (pos := pos)
  have h3 : On b (i + 1 + 1) (gt hexD 0 :: gt hexD 0 :: gt hexD (g / 16) :: gt hexD (g % 16) :: y) := h.tl.tl
  have e : halfF b i ⟨i, 0, pos⟩ = (g, ⟨i + 6, 0, pos⟩) := by
    unfold halfF
    show (match markF marksL runesL (hereF b ⟨i + 1, 0, pos⟩) with
      | some r => (r, (hereS b ⟨i + 1, 0, pos⟩).go 1)
      | none => if hereF b ⟨i + 1, 0, pos⟩ ≠ 117 then (0, noF ((hereS b ⟨i + 1, 0, pos⟩).go 1) i 24) else hexL b i 4 ((hereS b ⟨i + 1, 0, pos⟩).go 1) 0) = _
    rw [h2.1, h2.2, show markF marksL runesL 117 = none from rfl]
    show hexL b i 4 ⟨i + 1 + 1, 0, pos⟩ 0 = _
    rw [h3.hex (by omega) (by omega), h3.tl.hex (by omega) (by omega), h3.tl.tl.hex (by omega) (by omega), h3.tl.tl.tl.hex (by omega) (by omega), hexL]
    simp only [Prod.mk.injEq, LS.mk.injEq, and_true]
    omega
  unfold escF
  dsimp only
  rw [e]
  dsimp only
  rw [if_pos (.inl (by omega))]
theorem On.text (n : Nat) : ∀ (l : List Int) (i : Int) (o : List Int) (k : Nat), l.length ≤ n → On b i (quoF l ++ 34 :: y) → utfF l = true → (∀ x ∈ l, isB x) → (quoF l).length + 1 ≤ k → textL b k ⟨i, 0, pos⟩ o = (o ++ l, ⟨i + (quoF l).length + 1, 0, pos⟩) := by
  induction n with
  | zero =>
    intro l i o k hl h hu hr hk
    have : l = [] := List.length_eq_zero_iff.1 (by omega)
    subst this
    rw [quo_nil] at h hk ⊢
    obtain ⟨k, rfl⟩ : ∃ k', k = k' + 1 := ⟨k - 1, by simp at hk; omega⟩
    have h1 := h.here (pos := pos)
    rw [textL, h1.1, if_neg (by decide), if_pos rfl]
    simp [LS.go]
  | succ n ih =>
    intro l i o k hl h hu hr hk
    by_cases hnil : l = []
    · subst hnil
      exact ih [] i o k (by simp) h hu hr hk
    have hpos : 0 < l.length := List.length_pos_iff.2 hnil
    have hsp := rune_spec l hpos
    have hne : runeF l ≠ 0 := fun e => by rw [utf_no hpos e] at hu; cases hu
    have hmax : max 1 (runeF l).toNat = (runeF l).toNat := by omega
    have hq := quo_step hpos
    rw [hmax] at hq
    have hg := gt_range hr 0
    unfold isB at hg
    have hu2 : utfF (l.drop (runeF l).toNat) = true := by rw [← utf_step hpos hne]; exact hu
    have hr2 : ∀ x ∈ l.drop (runeF l).toNat, isB x := rng_drop hr _
    have hl2 : (l.drop (runeF l).toNat).length ≤ n := by rw [List.length_drop]; omega
    obtain ⟨k, rfl⟩ : ∃ k', k = k' + 1 := ⟨k - 1, by omega⟩
    rw [hq] at h hk ⊢
    rw [List.append_assoc] at h
    rw [List.length_append] at hk ⊢
    have h1r : gt l 0 < 128 → (runeF l).toNat = 1 ∧ l = gt l 0 :: l.drop (runeF l).toNat := fun hlt => by
      have e := head_gt hpos
      have e2 : runeF l = 1 := by rw [e]; exact rune_1 hlt
      rw [e2]; exact ⟨rfl, e⟩
    by_cases hm : gt l 0 = 34 ∨ gt l 0 = 92
    · rw [qc_mark hne hm] at h hk ⊢
      obtain ⟨e1, e2⟩ := h1r (by omega)
      have hh := h.here (pos := pos)
      rw [textL, hh.1, if_neg (by decide), if_neg (by decide), if_pos rfl, h.mark hm]
      dsimp only
      rw [putF_1 hg.1 (by omega)]
      have h2 : On b (i + 2) (quoF (l.drop (runeF l).toNat) ++ 34 :: y) := h.app
      rw [ih _ _ (o ++ [gt l 0]) k hl2 h2 hu2 hr2 (by simp at hk; omega)]
      refine Prod.ext ?_ ?_
      · show o ++ [gt l 0] ++ _ = o ++ l
        conv => rhs; rw [e2]
        simp
      · simp only [LS.mk.injEq, and_true, List.length_cons, List.length_nil]; omega
    by_cases hlo : gt l 0 < 32
    · rw [qc_low hne hm hlo] at h hk ⊢
      obtain ⟨e1, e2⟩ := h1r (by omega)
      have hh := h.here (pos := pos)
      rw [textL, hh.1, if_neg (by decide), if_neg (by decide), if_pos rfl, h.low hg.1 hlo]
      dsimp only
      rw [putF_1 hg.1 (by omega)]
      have h2 : On b (i + 6) (quoF (l.drop (runeF l).toNat) ++ 34 :: y) := h.app
      rw [ih _ _ (o ++ [gt l 0]) k hl2 h2 hu2 hr2 (by simp at hk; omega)]
      refine Prod.ext ?_ ?_
      · show o ++ [gt l 0] ++ _ = o ++ l
        conv => rhs; rw [e2]
        simp
      · simp only [LS.mk.injEq, and_true, List.length_cons, List.length_nil]; omega
    · rw [qc_raw hne hm hlo] at h hk ⊢
      have hlt : (l.take (runeF l).toNat).length = (runeF l).toNat := by rw [List.length_take]; omega
      have hhd : ∃ z, l.take (runeF l).toNat = gt l 0 :: z := by
        rw [head_gt hpos, show (runeF (gt l 0 :: l.drop 1)).toNat = ((runeF l).toNat - 1) + 1 by rw [← head_gt hpos]; omega, List.take_succ_cons]
        exact ⟨_, by rw [← head_gt hpos]⟩
      obtain ⟨z, hz⟩ := hhd
      have h' := h
      rw [hz, List.cons_append] at h'
      have hh := h'.here (pos := pos)
      have hrn : runeF (b.drop i.toNat) = runeF l := by rw [h.2.2]; exact rune_head hpos hne _
      rw [textL, hh.1, if_neg (by omega), if_neg (by omega), if_neg (by omega)]
      dsimp only
      rw [hrn, if_neg hlo, if_neg hne]
      dsimp only
      rw [if_neg (by decide)]
      have hsg := h.seg
      rw [hlt, show ((runeF l).toNat : Int) = runeF l by omega] at hsg
      rw [hsg]
      have h2 := h.app
      rw [hlt, show ((runeF l).toNat : Int) = runeF l by omega] at h2
      show textL b k ⟨i + runeF l, 0, pos⟩ _ = _
      rw [ih _ _ (o ++ l.take (runeF l).toNat) k hl2 h2 hu2 hr2 (by rw [hlt] at hk; omega)]
      refine Prod.ext ?_ ?_
      · show o ++ l.take (runeF l).toNat ++ l.drop (runeF l).toNat = o ++ l
        rw [List.append_assoc, List.take_append_drop]
      · simp only [LS.mk.injEq, and_true, hlt]; omega
theorem On.quote {s : ByteArray} (h : On b i (quoteF s ++ y)) (hu : utfF (bs s) = true) : textF b ⟨i, 0, pos⟩ = bs s ∧ textS b ⟨i, 0, pos⟩ = ⟨i + (quoteF s).length, 0, pos⟩ := by
  have hl := h.len
  unfold quoteF at h hl ⊢
  rw [List.append_assoc, List.append_assoc] at h
  have h2 : On b (i + 1) (quoF (bs s) ++ 34 :: y) := h.tl
  simp only [List.length_append, List.length_cons, List.length_nil] at hl
  have h0 := h.1
  have e := On.text (pos := pos) _ (bs s) (i + 1) [] (b.length + 4) (Nat.le_refl _) h2 hu (bs_range s) (by omega)
  unfold textF textS
  show (textL b (b.length + 4) ⟨i + 1, 0, pos⟩ []).1 = _ ∧ (textL b (b.length + 4) ⟨i + 1, 0, pos⟩ []).2 = _
  rw [e]
  refine ⟨rfl, ?_⟩
  simp only [List.length_append, List.length_cons, List.length_nil, LS.mk.injEq, and_true]
  omega
theorem On.name {s : ByteArray} {ns : List ByteArray} (h : On b i (quoteF s ++ 58 :: y)) (hu : utfF (bs s) = true) (hn : hasN ns s = false) : nameS b ns ⟨i, 0, pos⟩ = (⟨i + (quoteF s).length + 1, 0, pos⟩, ns ++ [s]) := by
  have hq := h.quote (pos := pos) hu
  have h1 : On b i (34 :: (quoF (bs s) ++ [34] ++ 58 :: y)) := by
    have : quoteF s ++ 58 :: y = 34 :: (quoF (bs s) ++ [34] ++ 58 :: y) := by unfold quoteF; simp
    rwa [this] at h
  have hx := h1.next (pos := pos) (by unfold blank; omega)
  have hy := h.app.next (pos := pos) (by unfold blank; omega)
  unfold nameS
  have e1 : nameS1 b ⟨i, 0, pos⟩ = ⟨i, 0, pos⟩ := by
    unfold nameS1
    rw [hx.1, hx.2, if_neg (by omega)]
  dsimp only
  rw [e1, hq.1, hq.2, mkS_bs]
  dsimp only
  rw [if_neg (by decide)]
  simp only [hn, Bool.false_eq_true, and_false, if_false]
  rw [hy.1, hy.2, if_neg (by omega)]
  rfl
end
def NsOk (ns : List ByteArray) : Prop := (∀ s ∈ ns, utfF (bs s) = true) ∧ apart ns
def JL.len : JL → Nat
  | .nil => 0
  | .cons _ l => l.len + 1
mutual
def WJ : J → Nat → Prop
  | .nul, _ => True
  | .boo _, _ => True
  | .num n, _ => fitP n
  | .str s, _ => utfF (bs s) = true
  | .box ob ns l, d => 1 ≤ d ∧ (if ob = true then NsOk ns ∧ ns.length = l.len else ns = []) ∧ WJL l (d - 1)
def WJL : JL → Nat → Prop
  | .nil, _ => True
  | .cons j l, d => WJ j d ∧ WJL l d
end
theorem put_on {i pos fr : Int} {t : List TN} {v : TN} (h : (t.length : Int) < 8192) : putV ⟨i, 0, pos⟩ t v fr = ⟨t.length, ⟨i, 0, pos⟩, t ++ [v]⟩ := by
  have e : putP ⟨i, 0, pos⟩ t fr = ⟨i, 0, pos⟩ := by
    unfold putP
    rw [if_neg (by omega)]
  unfold putV
  rw [e, if_neg (by simp)]
theorem numL_head (n : Int) : ∃ c r, numL n = c :: r ∧ (c = 45 ∨ (c ≥ 48 ∧ c ≤ 57)) := by
  have hne : 0 < (numL n).length := by
    unfold numL
    split
    · simp
    · have := decL_pos n.toNat; omega
  refine ⟨_, _, head_gt hne, ?_⟩
  have := numL_no n (gt (numL n) 0) (gt_mem (by omega) (by omega))
  omega
theorem txt_head (j : J) : ∃ c r, txt j = c :: r ∧ (c = 110 ∨ c = 116 ∨ c = 102 ∨ c = 34 ∨ c = 45 ∨ (c ≥ 48 ∧ c ≤ 57) ∨ c = 91 ∨ c = 123) := by
  cases j with
  | nul => exact ⟨_, _, by rw [txt], by omega⟩
  | boo b => cases b <;> exact ⟨_, _, by rw [txt]; rfl, by omega⟩
  | num n =>
    obtain ⟨c, r, e, h⟩ := numL_head n
    exact ⟨c, r, by rw [txt]; exact e, by omega⟩
  | str s => exact ⟨34, _, by rw [txt]; rfl, by omega⟩
  | box ob ns l => exact ⟨opnB ob, _, by rw [txt]; rfl, by cases ob <;> simp [opnB]⟩
theorem apart_has {a : List ByteArray} {s : ByteArray} {r : List ByteArray} : apart (a ++ s :: r) → hasN a s = false := by
  induction a with
  | nil => intro _; rfl
  | cons x a ih =>
    intro h
    rw [List.cons_append, apart] at h
    unfold hasN
    rw [List.any_cons]
    have h1 := h.1 s (by simp)
    have h2 := ih h.2
    unfold hasN at h2
    rw [h2]
    simpa using h1
theorem JL_len_txt (ob : Bool) : ∀ (l : JL) (ns : List ByteArray), l.len ≤ (txtL ob ns l).length
  | .nil, ns => by simp [JL.len]
  | .cons j l, ns => by
    have h := JL_len_txt ob l ns.tail
    obtain ⟨c, r, e, _⟩ := txt_head j
    rw [txtL, JL.len, e]
    cases l with
    | nil => simp [JL.len, List.length_append]; omega
    | cons k l => simp only [List.length_append, List.length_cons, sepT] at h ⊢; omega
theorem JL_nil : ∀ {l : JL}, l.len = 0 → l = .nil
  | .nil, _ => rfl
  | .cons j l, h => by simp [JL.len] at h
theorem sepT_pos : ∀ {l : JL} (x : List Int), l.len ≠ 0 → sepT l x = 44 :: x
  | .nil, x, h => absurd rfl h
  | .cons j l, x, _ => rfl
theorem txtL_head (ob : Bool) (ns : List ByteArray) : ∀ {l : JL}, l.len ≠ 0 → ∃ c r, txtL ob ns l = c :: r ∧ ¬ blank c ∧ c ≠ endB ob
  | .nil, h => absurd rfl h
  | .cons j l, _ => by
    cases ob with
    | false =>
      obtain ⟨c, r, e1, hc⟩ := txt_head j
      exact ⟨c, _, by rw [txtL, e1]; rfl, by unfold blank; omega, by unfold endB; simp; omega⟩
    | true => exact ⟨34, _, by rw [txtL]; rfl, by unfold blank; omega, by unfold endB; simp⟩
def VOn (b : List Int) (pos : Int) (j : J) : Prop := ∀ (d : Nat) (i : Int) (t : List TN) (y : List Int), On b i (txt j ++ y) → numC y = 0 → WJ j d → (t.length : Int) + (lay t.length j).length ≤ 8192 → valueF b (d + 1) ⟨i, 0, pos⟩ t = ⟨(t.length : Int) + (lay t.length j).length - 1, ⟨i + (txt j).length, 0, pos⟩, t ++ lay t.length j⟩
def MOn (b : List Int) (pos : Int) (l : JL) : Prop := ∀ (d n : Nat) (i : Int) (t : List TN) (ns0 : List ByteArray) (ks : List Int) (ns : List ByteArray) (ob : Bool) (fr : Int) (y : List Int), 1 ≤ l.len → l.len ≤ n → On b i (txtL ob ns l ++ (endB ob :: y)) → (if ob = true then NsOk (ns0 ++ ns) ∧ ns.length = l.len else ns0 ++ ns = []) → WJL l d → (t.length : Int) + (layL t.length l).1.length ≤ 8191 →
    manyL b (valueF b (d + 1)) ob fr n ⟨i, 0, pos⟩ t ns0 ks = putV ⟨i + (txtL ob ns l).length + 1, 0, pos⟩ (t ++ (layL t.length l).1) ⟨kindB ob, false, 0, ⟨#[]⟩, ns0 ++ ns, ks ++ (layL t.length l).2⟩ fr
section
variable {b : List Int} {pos : Int}
mutual
theorem value_on : (j : J) → VOn b pos j
  | .nul => by
    intro d i t y h hy hw hl
    rw [txt] at h ⊢
    rw [lay] at hl ⊢
    have hn := h.next (pos := pos) (by unfold blank; omega)
    have hwd := On.word (pos := pos) _ h (by decide)
    rw [valueF, hn.1, hn.2]
    dsimp only
    rw [if_neg (by decide), if_pos rfl, hwd, put_on (by simp at hl; omega)]
    simp
  | .boo true => by
    intro d i t y h hy hw hl
    rw [txt, if_pos rfl] at h ⊢
    rw [lay] at hl ⊢
    have hn := h.next (pos := pos) (by unfold blank; omega)
    have hwd := On.word (pos := pos) _ h (by decide)
    rw [valueF, hn.1, hn.2]
    dsimp only
    rw [if_neg (by decide), if_neg (by decide), if_pos rfl, hwd, put_on (by simp at hl; omega)]
    simp
  | .boo false => by
    intro d i t y h hy hw hl
    rw [txt, if_neg (by decide)] at h ⊢
    rw [lay] at hl ⊢
    have hn := h.next (pos := pos) (by unfold blank; omega)
    have hwd := On.word (pos := pos) _ h (by decide)
    rw [valueF, hn.1, hn.2]
    dsimp only
    rw [if_neg (by decide), if_neg (by decide), if_neg (by decide), if_pos rfl, hwd, put_on (by simp at hl; omega)]
    simp
  | .num n => by
    intro d i t y h hy hw hl
    rw [txt] at h ⊢
    rw [lay] at hl ⊢
    rw [WJ] at hw
    have hnum := h.number (pos := pos) hw hy
    obtain ⟨c, r, e, hc⟩ := numL_head n
    have h' := h
    rw [e] at h'
    have hn := h'.next (pos := pos) (by unfold blank; omega)
    rw [valueF, hn.1, hn.2]
    dsimp only
    rw [if_neg (by omega), if_neg (by omega), if_neg (by omega), if_neg (by omega), if_neg (by omega), if_pos hc, hnum.1, hnum.2, put_on (by simp at hl; omega)]
    simp
  | .str s => by
    intro d i t y h hy hw hl
    rw [txt] at h ⊢
    rw [lay] at hl ⊢
    rw [WJ] at hw
    have hq := h.quote (pos := pos) hw
    have hn := (show On b i (34 :: (quoF (bs s) ++ [34] ++ y)) by
      have : quoteF s ++ y = 34 :: (quoF (bs s) ++ [34] ++ y) := by unfold quoteF; simp
      rwa [this] at h).next (pos := pos) (by unfold blank; omega)
    rw [valueF, hn.1, hn.2]
    dsimp only
    rw [if_neg (by omega), if_neg (by omega), if_neg (by omega), if_neg (by omega), if_pos rfl, hq.1, hq.2, mkS_bs, put_on (by simp at hl; omega)]
    simp
  | .box ob ns l => by
    intro d i t y h hy hw hl
    rw [txt] at h ⊢
    rw [lay] at hl ⊢
    rw [WJ] at hw
    obtain ⟨hd, hns, hwl⟩ := hw
    have h1 : On b i (opnB ob :: (txtL ob ns l ++ (endB ob :: y))) := by simpa [List.append_assoc] using h
    have hn := h1.next (pos := pos) (by cases ob <;> unfold blank opnB <;> simp)
    have h2 := h1.tl
    have hlen := h2.len
    obtain ⟨e, rfl⟩ : ∃ e, d = e + 1 := ⟨d - 1, by omega⟩
    rw [valueF, hn.1, hn.2]
    dsimp only
    have ho : (opnB ob = 91 ∨ opnB ob = 123) ∧ decide (opnB ob = 123) = ob := by cases ob <;> simp [opnB]
    rw [if_neg (by omega), if_neg (by omega), if_neg (by omega), if_neg (by omega), if_neg (by omega), if_neg (by omega), if_pos ho.1, if_neg (by omega), ho.2]
    show manyF b (valueF b (e + 1)) ob i ⟨i + 1, 0, pos⟩ t = _
    by_cases hz : l.len = 0
    · have hl0 := JL_nil hz
      subst hl0
      rw [txtL] at h2
      have hn2 := (show On b (i + 1) (endB ob :: y) from h2).next (pos := pos) (by cases ob <;> unfold blank endB <;> simp)
      have hns' : ns = [] := by
        cases ob
        · simpa using hns
        · have := (show NsOk ns ∧ ns.length = JL.nil.len by simpa using hns).2
          exact List.length_eq_zero_iff.1 this
      subst hns'
      unfold manyF
      rw [hn2.1, hn2.2, if_pos rfl]
      show putV ⟨i + 1 + 1, 0, pos⟩ t _ _ = _
      rw [layL] at hl ⊢
      rw [put_on (by simp at hl; omega), txtL]
      simp
      omega
    · have hnn : nextF b ⟨i + 1, 0, pos⟩ ≠ endB ob ∧ nextS b ⟨i + 1, 0, pos⟩ = ⟨i + 1, 0, pos⟩ := by
        obtain ⟨c, r, e1, hc1, hc2⟩ := txtL_head ob ns hz
        rw [e1] at h2
        have hx := (show On b (i + 1) (c :: (r ++ endB ob :: y)) from h2).next (pos := pos) hc1
        exact ⟨by rw [hx.1]; exact hc2, hx.2⟩
      unfold manyF
      rw [if_neg hnn.1, hnn.2]
      have hjl := JL_len_txt ob l ns
      rw [List.length_append] at hlen
      have := h2.1
      rw [many_on l e (b.length + 2) (i + 1) t [] [] ns ob i y (by omega) (by omega) h2 (by rw [List.nil_append]; exact hns) hwl (by simp only [List.length_append, List.length_cons, List.length_nil] at hl; omega)]
      rw [put_on (by simp only [List.length_append, List.length_cons, List.length_nil] at hl ⊢; omega)]
      simp only [List.nil_append, List.length_append, List.length_cons, List.length_nil, List.append_assoc, VR.mk.injEq, LS.mk.injEq, and_true, true_and]
      omega
theorem many_on : (l : JL) → MOn b pos l
  | .nil => by
    intro d n i t ns0 ks ns ob fr y h1 hn h hns hw hl
    simp [JL.len] at h1
  | .cons j l => by
    intro d n i t ns0 ks ns ob fr y h1 hn h hns hw hl
    obtain ⟨m, rfl⟩ : ∃ m, n = m + 1 := ⟨n - 1, by simp [JL.len] at hn; omega⟩
    rw [WJL] at hw
    rw [layL] at hl ⊢
    simp only [List.length_append] at hl
    rw [txtL] at h
    -- the name
    have hname : ∃ i2 ns2, (if ob = true then (nameS b ns0 ⟨i, 0, pos⟩).1 else ⟨i, 0, pos⟩) = (⟨i2, 0, pos⟩ : LS) ∧ (if ob = true then (nameS b ns0 ⟨i, 0, pos⟩).2 else ns0) = ns2 ∧ i2 = i + (nmT ob ns).length ∧ On b i2 (txt j ++ (sepT l (txtL ob ns.tail l) ++ (endB ob :: y))) ∧ ns2 ++ ns.tail = ns0 ++ ns := by
      cases ob with
      | false =>
        have hz : ns0 ++ ns = [] := by simpa using hns
        have hz2 := List.append_eq_nil_iff.1 hz
        refine ⟨i, ns0, rfl, rfl, by simp [nmT], ?_, by rw [hz2.1, hz2.2]; rfl⟩
        simpa [nmT, List.append_assoc] using h
      | true =>
        obtain ⟨⟨hu, hap⟩, hlen⟩ : NsOk (ns0 ++ ns) ∧ ns.length = (JL.cons j l).len := by simpa using hns
        cases ns with
        | nil => simp [JL.len] at hlen
        | cons s ns' =>
          have h3 : On b i (quoteF s ++ 58 :: (txt j ++ (sepT l (txtL true ns' l) ++ (endB true :: y)))) := by
            simpa [nmT, List.append_assoc] using h
          have hnm := h3.name (pos := pos) (hu s (by simp)) (apart_has hap)
          have h4 := h3.app.tl
          rw [hnm]
          refine ⟨_, _, rfl, rfl, ?_, h4, by simp⟩
          simp only [nmT, if_true, List.headD_cons, List.length_append, List.length_cons, List.length_nil]
          omega
    obtain ⟨i2, ns2, e1, e2, e3, h5, e4⟩ := hname
    have hnum : numC (sepT l (txtL ob ns.tail l) ++ (endB ob :: y)) = 0 := by
      by_cases hz : l.len = 0
      · have hl0 := JL_nil hz
        subst hl0
        cases ob <;> rfl
      · rw [sepT_pos _ hz]; rfl
    have hv := value_on j d i2 t _ h5 hnum hw.1 (by omega)
    have h6 := h5.app
    rw [manyL, if_neg (fun e => e rfl)]
    dsimp only
    rw [e1, e2, hv]
    dsimp only
    by_cases hz : l.len = 0
    · have hl0 := JL_nil hz
      subst hl0
      have hx := (show On b (i2 + (txt j).length) (endB ob :: y) from h6).next (pos := pos) (by cases ob <;> unfold blank endB <;> simp)
      rw [hx.1, hx.2, if_neg (show ¬ (endB ob ≥ 0 ∧ endB ob ≠ 44 ∧ endB ob ≠ endB ob) from fun e => e.2.2 rfl), if_pos rfl]
      have hns2 : ns2 = ns0 ++ ns := by
        rw [← e4]
        cases ob with
        | false =>
          have hz2 := List.append_eq_nil_iff.1 (show ns0 ++ ns = [] by simpa using hns)
          rw [hz2.2]; simp
        | true =>
          obtain ⟨_, hlen⟩ : NsOk (ns0 ++ ns) ∧ ns.length = (JL.cons j JL.nil).len := by simpa using hns
          cases ns with
          | nil => simp [JL.len] at hlen
          | cons s ns' =>
            have : ns' = [] := List.length_eq_zero_iff.1 (by simpa [JL.len] using hlen)
            rw [this]; simp
      rw [hns2]
      simp only [layL, txtL, sepT, List.append_nil, List.length_append, LS.go]
      congr 2
      omega
    · rw [sepT_pos _ hz] at h6
      have hx := (show On b (i2 + (txt j).length) (44 :: (txtL ob ns.tail l ++ (endB ob :: y))) from h6).next (pos := pos) (by unfold blank; omega)
      have h44 : (44 : Int) ≠ endB ob := by cases ob <;> simp [endB]
      rw [hx.1, hx.2, if_neg (show ¬ ((44 : Int) ≥ 0 ∧ (44 : Int) ≠ 44 ∧ (44 : Int) ≠ endB ob) from fun e => e.2.1 rfl), if_neg h44]
      have h7 : On b (i2 + (txt j).length + 1) (txtL ob ns.tail l ++ (endB ob :: y)) := (show On b (i2 + (txt j).length) (44 :: (txtL ob ns.tail l ++ (endB ob :: y))) from h6).tl
      have hns3 : if ob = true then NsOk (ns2 ++ ns.tail) ∧ ns.tail.length = l.len else ns2 ++ ns.tail = [] := by
        rw [e4]
        cases ob with
        | false => simpa using hns
        | true =>
          obtain ⟨hok, hlen⟩ : NsOk (ns0 ++ ns) ∧ ns.length = (JL.cons j l).len := by simpa using hns
          rw [if_pos rfl]
          refine ⟨hok, ?_⟩
          rw [List.length_tail, hlen]
          simp [JL.len]
      have hlt : (((t ++ lay t.length j).length : Nat) : Int) = (t.length : Int) + (lay t.length j).length := by rw [List.length_append]; omega
      have ih := many_on l d m (i2 + (txt j).length + 1) (t ++ lay t.length j) ns2 (ks ++ [(t.length : Int) + (lay t.length j).length - 1]) ns.tail ob fr y (by omega) (by simp [JL.len] at hn ⊢; omega) h7 hns3 hw.2 (by rw [hlt]; omega)
      rw [hlt] at ih
      show manyL b (valueF b (d + 1)) ob fr m ⟨i2 + (txt j).length + 1, 0, pos⟩ _ _ _ = _
      rw [ih, e4]
      simp only [List.append_assoc, List.cons_append, List.nil_append]
      congr 2
      rw [txtL, sepT_pos _ hz]
      simp only [List.length_append, List.length_cons]
      omega
end
end
theorem parse_full {j : J} (hl : ((txt j).length : Int) ≤ 65536) (hw : WJ j 16) (hs : ((lay 0 j).length : Int) ≤ 8192) : parseE (txt j) = 0 ∧ parseT (txt j) = lay 0 j := by
  have h : On (txt j) 0 (txt j ++ []) := ⟨by omega, by omega, by simp⟩
  have hv := value_on (pos := 0) j 16 0 [] [] h rfl hw (by simpa using hs)
  have hp : (parseP (txt j)).bad = 0 := by
    unfold parseP
    rw [hv]
    dsimp only
    have : gapF (txt j) ⟨0 + (txt j).length, 0, 0⟩ = ⟨(txt j).length, 0, 0⟩ := by
      unfold gapF LS.go
      dsimp only
      rw [List.drop_of_length_le (by omega)]
      simp [gapN]
    rw [this, if_neg (show ¬ ((0 : Int) = 0 ∧ ((txt j).length : Int) < (txt j).length) by omega)]
  unfold parseE parseT
  rw [if_neg (by omega), if_neg (by omega), hv]
  exact ⟨hp, by simp⟩
end Go.SX
namespace Go.SX
open Go
theorem gt_mid (X B : List TN) (v : TN) : gt (X ++ [v] ++ B) (X.length : Int) = v := by
  simp [gt]
theorem layL_len2 : ∀ (l : JL) (k : Int), (layL k l).2.length = l.len
  | .nil, k => by rw [layL]; rfl
  | .cons j l, k => by rw [layL, JL.len, List.length_cons, layL_len2 l]
mutual
def NJ : J → Prop
  | .nul => True
  | .boo _ => True
  | .num _ => True
  | .str _ => True
  | .box ob ns l => ((ob = true → ns.length = l.len) ∧ (ob = false → ns = [])) ∧ NJL l
def NJL : JL → Prop
  | .nil => True
  | .cons j l => NJ j ∧ NJL l
end
mutual
theorem NJ_of : (j : J) → ∀ d, WJ j d → NJ j
  | .nul => fun d h => trivial
  | .boo _ => fun d h => trivial
  | .num _ => fun d h => trivial
  | .str _ => fun d h => trivial
  | .box ob ns l => fun d h => by
    rw [WJ] at h
    rw [NJ]
    have := h.2.1
    refine ⟨⟨fun e => ?_, fun e => ?_⟩, NJL_of l _ h.2.2⟩
    · rw [if_pos e] at this
      exact this.2
    · rw [if_neg (by simp [e])] at this
      exact this
theorem NJL_of : (l : JL) → ∀ d, WJL l d → NJL l
  | .nil => fun d h => trivial
  | .cons j l => fun d h => by
    rw [WJL] at h
    rw [NJL]
    exact ⟨NJ_of j d h.1, NJL_of l d h.2⟩
end
def SOn (j : J) : Prop := ∀ (f : Nat) (A B : List TN), NJ j → (lay A.length j).length ≤ f → wF f (A ++ lay A.length j ++ B) ((A.length : Int) + (lay A.length j).length - 1) = txt j
def SMn (l : JL) : Prop := ∀ (f : Nat) (A B : List TN) (root : TN) (ob : Bool) (ns0 ns : List ByteArray) (ks0 : List Int), NJL l → (layL A.length l).1.length ≤ f → root.kind = kindB ob → (ob = true → ns.length = l.len ∧ ns0.length = ks0.length) → root.ns = ns0 ++ ns → root.ks = ks0 ++ (layL A.length l).2 →
  upTo (itemF root (wF f (A ++ (layL A.length l).1 ++ B))) (ks0.length + l.len) = upTo (itemF root (wF f (A ++ (layL A.length l).1 ++ B))) ks0.length ++ (if l.len = 0 then [] else (if ks0.length = 0 then [] else [44]) ++ txtL ob ns l)
theorem wF_leaf {f : Nat} {L : List TN} {i : Int} {v : TN} (hf : 1 ≤ f) (h : gt L i = v) : wF f L i = if v.kind = 1 then [110, 117, 108, 108] else if v.kind = 2 then (if v.truth = true then [116, 114, 117, 101] else [102, 97, 108, 115, 101]) else if v.kind = 3 then numL v.num else if v.kind = 4 then quoteF v.text else [markO v] ++ upTo (itemF v (wF (f - 1) L)) v.ks.length ++ [markC v] := by
  obtain ⟨n, rfl⟩ : ∃ n, f = n + 1 := ⟨f - 1, by omega⟩
  rw [wF, h]; rfl
theorem leaf_at (A B : List TN) (v : TN) : gt (A ++ [v] ++ B) ((A.length : Int) + (([v] : List TN).length : Nat) - 1) = v := by
  rw [show (A.length : Int) + (([v] : List TN).length : Nat) - 1 = A.length by simp]
  exact gt_mid A B v
mutual
theorem show_on : (j : J) → SOn j
  | .nul => by
    intro f A B hn hf
    rw [lay] at hf ⊢
    rw [wF_leaf (by simpa using hf) (leaf_at A B _), if_pos rfl, txt]
  | .boo c => by
    intro f A B hn hf
    rw [lay] at hf ⊢
    rw [wF_leaf (by simpa using hf) (leaf_at A B _), if_neg (show ¬ (2 : Int) = 1 by omega), if_pos rfl, txt]
  | .num n => by
    intro f A B hn hf
    rw [lay] at hf ⊢
    rw [wF_leaf (by simpa using hf) (leaf_at A B _), if_neg (show ¬ (3 : Int) = 1 by omega), if_neg (show ¬ (3 : Int) = 2 by omega), if_pos rfl, txt]
  | .str s => by
    intro f A B hn hf
    rw [lay] at hf ⊢
    rw [wF_leaf (by simpa using hf) (leaf_at A B _), if_neg (show ¬ (4 : Int) = 1 by omega), if_neg (show ¬ (4 : Int) = 2 by omega), if_neg (show ¬ (4 : Int) = 3 by omega), if_pos rfl, txt]
  | .box ob ns l => by
    intro f A B hn hf
    rw [lay] at hf ⊢
    rw [NJ] at hn
    simp only [List.length_append, List.length_cons, List.length_nil] at hf
    have e1 : A ++ ((layL A.length l).1 ++ [⟨kindB ob, false, 0, ⟨#[]⟩, ns, (layL A.length l).2⟩]) ++ B = (A ++ (layL A.length l).1) ++ [⟨kindB ob, false, 0, ⟨#[]⟩, ns, (layL A.length l).2⟩] ++ B := by simp only [List.append_assoc]
    have e2 : (A.length : Int) + (((layL A.length l).1 ++ [(⟨kindB ob, false, 0, ⟨#[]⟩, ns, (layL A.length l).2⟩ : TN)]).length : Nat) - 1 = ((A ++ (layL A.length l).1).length : Nat) := by simp only [List.length_append, List.length_cons, List.length_nil]; omega
    rw [e1, e2]
    have hk : kindB ob = 5 ∨ kindB ob = 6 := by cases ob <;> simp [kindB]
    have hm := show_many l (f - 1) A ([⟨kindB ob, false, 0, ⟨#[]⟩, ns, (layL A.length l).2⟩] ++ B) ⟨kindB ob, false, 0, ⟨#[]⟩, ns, (layL A.length l).2⟩ ob [] ns [] hn.2 (by omega) rfl (fun e => ⟨hn.1.1 e, rfl⟩) rfl rfl
    rw [wF_leaf (by omega) (gt_mid _ B _)]
    dsimp only
    rw [if_neg (by omega), if_neg (by omega), if_neg (by omega), if_neg (by omega), layL_len2]
    simp only [List.length_nil, Nat.zero_add, if_true, List.nil_append] at hm
    rw [← List.append_assoc (A ++ (layL A.length l).1)] at hm
    rw [hm]
    have hm1 : markO ⟨kindB ob, false, 0, ⟨#[]⟩, ns, (layL A.length l).2⟩ = opnB ob := by cases ob <;> rfl
    have hm2 : markC ⟨kindB ob, false, 0, ⟨#[]⟩, ns, (layL A.length l).2⟩ = endB ob := by cases ob <;> rfl
    rw [hm1, hm2, txt]
    by_cases hz : l.len = 0
    · rw [if_pos hz, JL_nil hz, txtL]; rfl
    · rw [if_neg hz]; rfl
theorem show_many : (l : JL) → SMn l
  | .nil => by
    intro f A B root ob ns0 ns ks0 hn hf hk hns hrn hrk
    simp [JL.len]
  | .cons j l => by
    intro f A B root ob ns0 ns ks0 hn hf hk hns hrn hrk
    rw [NJL] at hn
    rw [layL] at hf hrk ⊢
    simp only [List.length_append] at hf
    have hA : ((A ++ lay A.length j).length : Int) = (A.length : Int) + (lay A.length j).length := by rw [List.length_append]; omega
    have hL : A ++ (lay A.length j ++ (layL ((A.length : Int) + (lay A.length j).length) l).1) ++ B = A ++ lay A.length j ++ ((layL ((A.length : Int) + (lay A.length j).length) l).1 ++ B) := by simp only [List.append_assoc]
    have hL2 : A ++ (lay A.length j ++ (layL ((A.length : Int) + (lay A.length j).length) l).1) ++ B = (A ++ lay A.length j) ++ (layL ((A ++ lay A.length j).length : Nat) l).1 ++ B := by rw [hA]; simp only [List.append_assoc]
    have hj := show_on j f A ((layL ((A.length : Int) + (lay A.length j).length) l).1 ++ B) hn.1 (by omega)
    rw [← hL] at hj
    have ih := show_many l f (A ++ lay A.length j) B root ob (ns0 ++ ns.take 1) ns.tail (ks0 ++ [(A.length : Int) + (lay A.length j).length - 1]) hn.2 (by rw [hA]; omega) hk (fun e => by
      obtain ⟨h1, h2⟩ := hns e
      rw [JL.len] at h1
      rw [List.length_tail, List.length_append, List.length_append, List.length_take]
      simp only [List.length_cons, List.length_nil]
      omega) (by rw [hrn, List.append_assoc]; congr 1; cases ns <;> rfl) (by rw [hrk, hA]; simp)
    rw [← hL2] at ih
    simp only [List.length_append, List.length_cons, List.length_nil] at ih
    have hit : itemF root (wF f (A ++ (lay A.length j ++ (layL ((A.length : Int) + (lay A.length j).length) l).1) ++ B)) (ks0.length : Int) = (if ks0.length = 0 then [] else [44]) ++ (nmT ob ns ++ txt j) := by
      unfold itemF
      have hg : gt root.ks (ks0.length : Int) = (A.length : Int) + (lay A.length j).length - 1 := by rw [hrk]; simp [gt]
      rw [hg, hj, List.append_assoc]
      congr 1
      · by_cases h0 : ks0.length = 0
        · rw [if_pos h0, if_neg (by omega)]
        · rw [if_neg h0, if_pos (by omega)]
      · congr 1
        rw [hk]
        cases ob with
        | false => rfl
        | true =>
          obtain ⟨h1, h2⟩ := hns rfl
          cases ns with
          | nil => simp [JL.len] at h1
          | cons s ns' =>
            have : gt root.ns (ks0.length : Int) = s := by rw [hrn, ← h2]; simp [gt]
            rw [this]
            rfl
    rw [show ks0.length + (JL.cons j l).len = ks0.length + 1 + l.len by rw [JL.len]; omega]
    rw [show ks0.length + (0 + 1) = ks0.length + 1 from rfl] at ih
    rw [ih, upTo, hit, if_neg (show ¬ (JL.cons j l).len = 0 by simp [JL.len]), txtL]
    by_cases hz : l.len = 0
    · rw [if_pos hz, JL_nil hz]
      simp [sepT]
    · rw [if_neg hz, sepT_pos _ hz, if_neg (show ¬ ks0.length + 1 = 0 by omega)]
      simp [List.append_assoc]
end
theorem show_full {j : J} (h : NJ j) : showF (lay 0 j) = txt j := by
  have := show_on j (lay 0 j).length [] [] h (Nat.le_refl _)
  unfold showF
  simpa using this
theorem utf_empty : utfF (bs ⟨#[]⟩) = true := by rw [show bs ⟨#[]⟩ = [] from rfl]; exact utf_nil
theorem plain_1 : plainP ⟨1, false, 0, ⟨#[]⟩, [], []⟩ := by
  refine ⟨?_, ?_, fun _ => rfl, fun e => by cases e⟩
  · unfold pc1; simp
  · unfold pc2; simp [utf_empty]
theorem plain_2 (b : Bool) : plainP ⟨2, b, 0, ⟨#[]⟩, [], []⟩ := by
  refine ⟨?_, ?_, fun _ => rfl, fun e => by cases e⟩
  · unfold pc1; simp
  · unfold pc2; simp [utf_empty]
theorem apart_gt : ∀ {ns : List ByteArray}, apart ns → ∀ i j : Int, 0 ≤ j → j < i → i < (ns.length : Int) → ¬ ((gt ns j).toList == (gt ns i).toList) = true
  | [], _, i, j, h0, h1, h2 => by simp at h2; omega
  | s :: r, h, i, j, h0, h1, h2 => by
    rw [apart] at h
    simp only [List.length_cons] at h2
    have e1 : gt (s :: r) i = gt r (i - 1) := by
      unfold gt
      rw [show i.toNat = (i - 1).toNat + 1 by omega]; simp
    by_cases hj : j = 0
    · subst hj
      rw [e1, show gt (s :: r) 0 = s from rfl]
      exact h.1 _ (gt_mem (by omega) (by omega))
    · have e2 : gt (s :: r) j = gt r (j - 1) := by
        unfold gt
        rw [show j.toNat = (j - 1).toNat + 1 by omega]; simp
      rw [e1, e2]
      exact apart_gt h.2 (i - 1) (j - 1) (by omega) (by omega) (by omega)
theorem plain_box {ob : Bool} {ns : List ByteArray} {ks : List Int} (h : if ob = true then NsOk ns ∧ ns.length = ks.length else ns = []) : plainP ⟨kindB ob, false, 0, ⟨#[]⟩, ns, ks⟩ := by
  have hk : kindB ob = 5 ∨ kindB ob = 6 := by cases ob <;> simp [kindB]
  refine ⟨?_, ?_, fun e => ?_, fun e => ?_⟩
  · unfold pc1; simp; omega
  · unfold pc2
    dsimp only
    rw [utf_empty]
    simp
    omega
  · cases ob with
    | false =>
      have : ns = [] := by simpa using h
      subst this; rfl
    | true => exact absurd rfl e
  · cases ob with
    | false => cases e
    | true =>
      obtain ⟨⟨h1, h2⟩, h3⟩ : NsOk ns ∧ ns.length = ks.length := by simpa using h
      exact ⟨fun i h0 hl => ⟨h1 _ (gt_mem h0 hl), fun j j0 j1 => apart_gt h2 i j j0 j1 hl⟩, h3⟩
theorem gt_setI {U : List Int} {n x v : Int} (h0 : 0 ≤ n) (h1 : n < (U.length : Int)) (hx : 0 ≤ x) : gt (U.set n.toNat v) x = if x = n then v else gt U x := by
  unfold gt
  rw [List.getD_eq_getElem?_getD, List.getD_eq_getElem?_getD, List.getElem?_set]
  by_cases e : x = n
  · subst e
    rw [if_pos rfl, if_pos rfl, if_pos (by omega)]; rfl
  · rw [if_neg (by omega), if_neg e]
theorem kids_nd {i d : Int} {D : List Int} : ∀ {ks U : List Int} {m : Int}, ks.Nodup → (∀ k ∈ ks, 0 ≤ k ∧ k < i) → i ≤ (U.length : Int) → 0 ≤ m ∧ m ≤ d → (∀ k ∈ ks, gt D k ≤ d) →
    ∃ U' m', ckKids i D ks U m = some (U', m') ∧ U'.length = U.length ∧ (0 ≤ m' ∧ m' ≤ d) ∧ (∀ x ∈ ks, gt U' x = gt U x + 1) ∧ (∀ x, 0 ≤ x → x ∉ ks → gt U' x = gt U x)
  | [], U, m, _, _, _, hm, _ => ⟨U, m, by rw [ckKids], rfl, hm, fun x hx => (by cases hx), fun x _ _ => rfl⟩
  | k :: ks, U, m, hn, hk, hi, hm, hd => by
    have hk0 := hk k (by simp)
    have hd0 := hd k (by simp)
    rw [List.nodup_cons] at hn
    obtain ⟨U', m', h1, h2, h3, h4, h5⟩ := kids_nd (ks := ks) (U := U.set k.toNat (gt U k + 1)) (m := if gt D k > m then gt D k else m) (i := i) (d := d) (D := D) hn.2 (fun x hx => hk x (List.mem_cons_of_mem _ hx)) (by rw [List.length_set]; exact hi) (by split <;> omega) (fun x hx => hd x (List.mem_cons_of_mem _ hx))
    refine ⟨U', m', by rw [ckKids, if_neg (by omega)]; exact h1, by rw [h2, List.length_set], h3, fun x hx => ?_, fun x hx0 hx => ?_⟩
    · rcases List.mem_cons.1 hx with rfl | hx'
      · rw [h5 x hk0.1 hn.1, gt_setI hk0.1 (by omega) hk0.1, if_pos rfl]
      · have hx0 := hk x hx
        rw [h4 x hx', gt_setI hk0.1 (by omega) hx0.1, if_neg (fun e => hn.1 (by rw [← e]; exact hx'))]
    · simp only [List.mem_cons, not_or] at hx
      rw [h5 x hx0 hx.2, gt_setI hk0.1 (by omega) hx0, if_neg hx.1]
theorem layL_nd : ∀ (l : JL) (k : Int), (layL k l).2.Nodup
  | .nil, k => by rw [layL]; exact List.nodup_nil
  | .cons j l, k => by
    rw [layL, List.nodup_cons]
    refine ⟨fun h => ?_, layL_nd l _⟩
    have := (layL_ok (k + (lay k j).length) l).2.2 _ h
    omega
def COn (j : J) : Prop := ∀ (rest : List TN) (k : Int) (U D : List Int) (d : Nat), WJ j d → 0 ≤ k → k + (lay k j).length ≤ (U.length : Int) → U.length = D.length → (∀ x, k ≤ x → gt U x = 0) →
  ∃ U' D', ckAll (lay k j ++ rest) k U D = ckAll rest (k + (lay k j).length) U' D' ∧ U'.length = U.length ∧ D'.length = D.length ∧ (∀ x, 0 ≤ x → x < k → gt U' x = gt U x ∧ gt D' x = gt D x) ∧ (∀ x, k ≤ x → x < k + (lay k j).length - 1 → gt U' x = 1) ∧ (∀ x, k + (lay k j).length - 1 ≤ x → gt U' x = 0) ∧ gt D' (k + (lay k j).length - 1) ≤ d
def CMn (l : JL) : Prop := ∀ (rest : List TN) (k : Int) (U D : List Int) (d : Nat), WJL l d → 0 ≤ k → k + (layL k l).1.length ≤ (U.length : Int) → U.length = D.length → (∀ x, k ≤ x → gt U x = 0) →
  ∃ U' D', ckAll ((layL k l).1 ++ rest) k U D = ckAll rest (k + (layL k l).1.length) U' D' ∧ U'.length = U.length ∧ D'.length = D.length ∧ (∀ x, 0 ≤ x → x < k → gt U' x = gt U x ∧ gt D' x = gt D x) ∧ (∀ x, k ≤ x → x < k + (layL k l).1.length → gt U' x = if x ∈ (layL k l).2 then 0 else 1) ∧ (∀ x, k + (layL k l).1.length ≤ x → gt U' x = 0) ∧ (∀ x ∈ (layL k l).2, gt D' x ≤ d)
theorem check_leaf {v : TN} {rest : List TN} {k : Int} {U D : List Int} {d : Nat} (hp : plainP v) (hk : v.ks = []) (h5 : v.kind < 5) (h0 : 0 ≤ k) (h1 : k + (([v] : List TN).length : Nat) ≤ (U.length : Int)) (hl : U.length = D.length) (hf : ∀ x, k ≤ x → gt U x = 0) :
    ∃ U' D', ckAll ([v] ++ rest) k U D = ckAll rest (k + (([v] : List TN).length : Nat)) U' D' ∧ U'.length = U.length ∧ D'.length = D.length ∧ (∀ x, 0 ≤ x → x < k → gt U' x = gt U x ∧ gt D' x = gt D x) ∧ (∀ x, k ≤ x → x < k + (([v] : List TN).length : Nat) - 1 → gt U' x = 1) ∧ (∀ x, k + (([v] : List TN).length : Nat) - 1 ≤ x → gt U' x = 0) ∧ gt D' (k + (([v] : List TN).length : Nat) - 1) ≤ d := by
  simp only [List.length_cons, List.length_nil] at h1 ⊢
  refine ⟨U, D.set k.toNat 0, ?_, rfl, by rw [List.length_set], fun x hx0 hx1 => ⟨rfl, by rw [gt_setI h0 (by omega) hx0, if_neg (by omega)]⟩, fun x hx0 hx1 => by omega, fun x hx => hf x (by omega), ?_⟩
  · rw [List.cons_append, ckAll, if_pos hp, hk, ckKids]
    dsimp only
    rw [if_neg (by omega)]; rfl
  · rw [gt_setI h0 (by omega) (by omega), if_pos (by omega)]; omega
mutual
theorem check_on : (j : J) → COn j
  | .nul => by
    intro rest k U D d hw h0 h1 hl hf
    rw [lay] at h1 ⊢
    exact check_leaf plain_1 rfl (show (1 : Int) < 5 by omega) h0 h1 hl hf
  | .boo b => by
    intro rest k U D d hw h0 h1 hl hf
    rw [lay] at h1 ⊢
    exact check_leaf (plain_2 b) rfl (show (2 : Int) < 5 by omega) h0 h1 hl hf
  | .num n => by
    intro rest k U D d hw h0 h1 hl hf
    rw [lay] at h1 ⊢
    rw [WJ] at hw
    exact check_leaf (plain_leaf (.inl ⟨rfl, rfl⟩) hw utf_empty) rfl (show (3 : Int) < 5 by omega) h0 h1 hl hf
  | .str s => by
    intro rest k U D d hw h0 h1 hl hf
    rw [lay] at h1 ⊢
    rw [WJ] at hw
    exact check_leaf (plain_leaf (.inr ⟨rfl, rfl⟩) fit0 hw) rfl (show (4 : Int) < 5 by omega) h0 h1 hl hf
  | .box ob ns l => by
    intro rest k U D d hw h0 h1 hl hf
    rw [lay] at h1 ⊢
    rw [WJ] at hw
    obtain ⟨hd, hns, hwl⟩ := hw
    simp only [List.length_append, List.length_cons, List.length_nil] at h1 ⊢
    obtain ⟨U1, D1, g1, g2, g3, g4, g5, g6, g7⟩ := check_many l ([⟨kindB ob, false, 0, ⟨#[]⟩, ns, (layL k l).2⟩] ++ rest) k U D (d - 1) hwl h0 (by omega) hl hf
    have hko := (layL_ok k l).2.2
    obtain ⟨U2, m2, q1, q2, q3, q4, q5⟩ := kids_nd (i := k + (layL k l).1.length) (d := ((d - 1 : Nat) : Int)) (D := D1) (U := U1) (m := 0) (layL_nd l k) (fun x hx => ⟨by have := hko x hx; omega, (hko x hx).2⟩) (by rw [g2]; omega) ⟨by omega, by omega⟩ g7
    have hpl : plainP ⟨kindB ob, false, 0, ⟨#[]⟩, ns, (layL k l).2⟩ := plain_box (by rw [layL_len2]; exact hns)
    have hk5 : kindB ob ≥ 5 := by cases ob <;> simp [kindB]
    refine ⟨U2, D1.set (k + (layL k l).1.length).toNat (m2 + 1), ?_, by rw [q2, g2], by rw [List.length_set, g3], fun x hx0 hx1 => ⟨?_, ?_⟩, fun x hx0 hx1 => ?_, fun x hx => ?_, ?_⟩
    · rw [List.append_assoc, g1, List.cons_append, ckAll, if_pos hpl]
      dsimp only
      rw [q1]
      dsimp only
      rw [if_pos hk5]
      show ckAll rest (k + (layL k l).1.length + 1) _ _ = _
      rw [show k + ((layL k l).1.length : Int) + 1 = k + (((layL k l).1.length + (0 + 1) : Nat) : Int) by omega]
    · rw [q5 x hx0 (fun hm => by have := hko x hm; omega), (g4 x hx0 hx1).1]
    · rw [gt_setI (by omega) (by rw [g3]; omega) hx0, if_neg (by omega), (g4 x hx0 hx1).2]
    · have e := g5 x hx0 (by omega)
      by_cases hm : x ∈ (layL k l).2
      · rw [q4 x hm, e, if_pos hm]; rfl
      · rw [q5 x (by omega) hm, e, if_neg hm]
    · rw [q5 x (by omega) (fun hm => by have := hko x hm; omega)]
      exact g6 x (by omega)
    · rw [gt_setI (by omega) (by rw [g3]; omega) (by omega), if_pos (by omega)]
      omega
theorem check_many : (l : JL) → CMn l
  | .nil => by
    intro rest k U D d hw h0 h1 hl hf
    rw [layL] at h1 ⊢
    exact ⟨U, D, by simp, rfl, rfl, fun x _ _ => ⟨rfl, rfl⟩, fun x hx0 hx1 => by simp at hx1; omega, fun x hx => hf x (by simpa using hx), fun x hx => by cases hx⟩
  | .cons j l => by
    intro rest k U D d hw h0 h1 hl hf
    rw [layL] at h1 ⊢
    rw [WJL] at hw
    simp only [List.length_append] at h1 ⊢
    have hjp := lay_pos k j
    obtain ⟨U1, D1, g1, g2, g3, g4, g5, g6, g7⟩ := check_on j ((layL (k + (lay k j).length) l).1 ++ rest) k U D d hw.1 h0 (by omega) hl hf
    obtain ⟨U2, D2, q1, q2, q3, q4, q5, q6, q7⟩ := check_many l rest (k + (lay k j).length) U1 D1 d hw.2 (by omega) (by rw [g2]; omega) (by omega) (fun x hx => g6 x (by omega))
    have hko := (layL_ok (k + (lay k j).length) l).2.2
    refine ⟨U2, D2, ?_, by omega, by omega, fun x hx0 hx1 => ?_, fun x hx0 hx1 => ?_, fun x hx => q6 x (by omega), fun x hx => ?_⟩
    · rw [List.append_assoc, g1, q1]
      congr 1; omega
    · have a := q4 x hx0 (by omega)
      have b := g4 x hx0 hx1
      exact ⟨a.1.trans b.1, a.2.trans b.2⟩
    · by_cases hx : x < k + (lay k j).length
      · rw [(q4 x (by omega) hx).1]
        by_cases hr : x = k + (lay k j).length - 1
        · rw [if_pos (by rw [hr]; simp)]
          exact g6 x (by omega)
        · rw [g5 x hx0 (by omega), if_neg]
          intro hm
          rcases List.mem_cons.1 hm with e | hm
          · exact hr e
          · have := hko x hm; omega
      · rw [q5 x (by omega) (by omega)]
        by_cases hm : x ∈ (layL (k + (lay k j).length) l).2
        · rw [if_pos hm, if_pos (List.mem_cons_of_mem _ hm)]
        · rw [if_neg hm, if_neg]
          intro h
          rcases List.mem_cons.1 h with e | h
          · omega
          · exact hm h
    · rcases List.mem_cons.1 hx with e | hm
      · rw [e, (q4 _ (by omega) (by omega)).2]; exact g7
      · exact q7 x hm
end
theorem gt_zs (n : Nat) (x : Int) : gt (zs n) x = 0 := by
  have := (btw_zs (n := n)).gt (Int.le_refl 0) (Int.le_refl 0) x
  omega
theorem check_full {j : J} (h : WJ j 16) (hs : ((lay 0 j).length : Int) ≤ 8192) : checkF (lay 0 j) = 0 := by
  have hp := lay_pos 0 j
  obtain ⟨U, D, g1, g2, g3, g4, g5, g6, g7⟩ := check_on j [] 0 (zs (lay 0 j).length) (zs (lay 0 j).length) 16 h (by omega) (by simp [zs]) rfl (fun x _ => gt_zs _ x)
  rw [List.append_nil] at g1
  unfold checkF
  rw [if_neg (by omega), if_neg (by omega), g1, ckAll]
  dsimp only
  rw [if_neg, if_neg]
  · intro e
    rw [show (0 : Int) + ((lay 0 j).length : Int) - 1 = ((lay 0 j).length : Int) - 1 by omega] at g7
    omega
  · rintro ⟨x, a, b, c⟩
    exact c (g5 x a (by omega))
end Go.SX
namespace Go.SX
open Go
instance apartDec : (l : List ByteArray) → Decidable (apart l)
  | [] => isTrue trivial
  | s :: r => by
    have := apartDec r
    exact inferInstanceAs (Decidable ((∀ t ∈ r, ¬ (s.toList == t.toList) = true) ∧ apart r))
theorem ns_ok {l : List ByteArray} (h : l.all (fun s => (bs s).all (fun x => decide (x < 128))) = true) (h2 : apart l) : NsOk l :=
  ⟨fun s hs => utf_lit (List.all_eq_true.1 h s hs), h2⟩
theorem WJL_of : ∀ {l : List J} {d : Nat}, (∀ j ∈ l, WJ j d) → WJL (JL.of l) d
  | [], d, _ => by rw [JL.of, WJL]; trivial
  | j :: r, d, h => by rw [JL.of, WJL]; exact ⟨h j (by simp), WJL_of (fun k hk => h k (List.mem_cons_of_mem _ hk))⟩
theorem JL_len_of : ∀ l : List J, (JL.of l).len = l.length
  | [] => rfl
  | j :: r => by rw [JL.of, JL.len, JL_len_of r]; rfl
theorem WJ_obj {ns : List ByteArray} {js : List J} {d : Nat} (hd : 1 ≤ d) (hn : NsOk ns) (hl : ns.length = js.length) (h : ∀ j ∈ js, WJ j (d - 1)) : WJ (.box true ns (JL.of js)) d := by
  rw [WJ]
  exact ⟨hd, by rw [if_pos rfl]; exact ⟨hn, by rw [JL_len_of]; exact hl⟩, WJL_of h⟩
theorem WJ_lst {js : List J} {d : Nat} (hd : 1 ≤ d) (h : ∀ j ∈ js, WJ j (d - 1)) : WJ (.box false [] (JL.of js)) d := by
  rw [WJ]
  exact ⟨hd, by simp, WJL_of h⟩
theorem WJ_num {n : Int} {d : Nat} (h : fitP n) : WJ (.num n) d := by rw [WJ]; exact h
theorem WJ_str {s : ByteArray} {d : Nat} (h : utfF (bs s) = true) : WJ (.str s) d := by rw [WJ]; exact h
theorem utf_word (k : Int) : utfF (bs (wordK k)) = true := by
  have key : ∀ w ∈ (⟨#[63]⟩ : ByteArray) :: kindsL, (bs w).all (fun x => decide (x < 128)) = true := by decide +kernel
  unfold wordK
  split
  · exact utf_lit (key _ (List.mem_cons_of_mem _ (gt_mem (by omega) (by show _ < (6 : Int); omega))))
  · exact utf_lit (key _ (List.mem_cons_self ..))
theorem utf_ship (b : Bool) : utfF (bs (wordT b)) = true := by cases b <;> exact utf_lit (by decide +kernel)
theorem WJ_load {m : List Int} {d : Nat} (hd : 1 ≤ d) (h : ∀ x ∈ m, fitP x) : WJ (loadJ m) d := WJ_lst hd (fun j hj => by
  obtain ⟨n, hn, rfl⟩ := List.mem_map.1 hj
  exact WJ_num (h n hn))
theorem WJ_step {s : ST} {d : Nat} (hd : 2 ≤ d) (h : ∀ x ∈ stepZ s, fitP x) : WJ (stepJ s) d := WJ_obj (by omega) (ns_ok (by decide +kernel) (by decide +kernel)) rfl (fun j hj => by
  simp only [List.mem_cons, List.not_mem_nil, or_false] at hj
  rcases hj with rfl | rfl | rfl | rfl | rfl | rfl | rfl | rfl | rfl
  · exact WJ_str (utf_word _)
  · exact WJ_num (h _ (by simp [stepZ]))
  · exact WJ_num (h _ (by simp [stepZ]))
  · exact WJ_num (h _ (by simp [stepZ]))
  · exact WJ_num (h _ (by simp [stepZ]))
  · exact WJ_num (h _ (by simp [stepZ]))
  · exact WJ_load (by omega) (fun x hx => h x (List.mem_append_right _ hx))
  · exact WJ_num (h _ (by simp [stepZ]))
  · exact WJ_num (h _ (by simp [stepZ])))
theorem WJ_plan {p : PV} {d : Nat} (hd : 4 ≤ d) (h : ∀ x ∈ planZ p, fitP x) : WJ (planJ p) d := WJ_obj (by omega) (ns_ok (by decide +kernel) (by decide +kernel)) rfl (fun j hj => by
  simp only [List.mem_cons, List.not_mem_nil, or_false] at hj
  rcases hj with rfl | rfl | rfl | rfl | rfl | rfl | rfl
  · exact WJ_num (h _ (by simp [planZ, headZ]))
  · exact WJ_num (h _ (by simp [planZ, headZ]))
  · exact WJ_num (h _ (by simp [planZ, headZ]))
  · exact WJ_num (h _ (by simp [planZ, headZ]))
  · exact WJ_num (h _ (by simp [planZ, headZ]))
  · exact WJ_num (h _ (by simp [planZ, headZ]))
  · exact WJ_lst (by omega) (fun j hj => by
      obtain ⟨s, hs, rfl⟩ := List.mem_map.1 hj
      exact WJ_step (by omega) (fit_step h s hs)))
theorem WJ_task {t : TK} {d : Nat} (hd : 1 ≤ d) (h : fitP t.item) : WJ (taskJ t) d := WJ_obj hd (ns_ok (by decide +kernel) (by decide +kernel)) rfl (fun j hj => by
  simp only [List.mem_cons, List.not_mem_nil, or_false] at hj
  rcases hj with rfl | rfl
  · exact WJ_str (utf_ship _)
  · exact WJ_num h)
theorem WJ_sums {s : SU} {d : Nat} (hd : 1 ≤ d) (h : ∀ x ∈ sumsZ s, fitP x) : WJ (sumsJ s) d := WJ_obj hd (ns_ok (by decide +kernel) (by decide +kernel)) rfl (fun j hj => by
  simp only [List.mem_cons, List.not_mem_nil, or_false] at hj
  rcases hj with rfl | rfl | rfl | rfl | rfl | rfl | rfl | rfl <;> exact WJ_num (h _ (by simp [sumsZ])))
theorem WJ_reply {cd at_ : Int} {path : ByteArray} {op : Bool} {su : SU} {ps : List PV} {lf : List TK} (h : fitR cd at_ path su ps lf) : WJ (replyJ cd at_ path op su ps lf) 16 := by
  unfold replyJ
  split
  · rename_i hc
    obtain ⟨h1, h2, h3⟩ := h.1 hc
    refine WJ_obj (by omega) (ns_ok (by decide +kernel) (by decide +kernel)) rfl (fun j hj => ?_)
    simp only [List.mem_cons, List.not_mem_nil, or_false] at hj
    rcases hj with rfl | rfl | rfl | rfl
    · exact WJ_str (utf_lit (by decide +kernel))
    · exact WJ_num h2
    · exact WJ_num h3
    · exact WJ_str h1
  · rename_i hc
    have hz := h.2 (by omega)
    refine WJ_obj (by omega) (ns_ok (by decide +kernel) (by decide +kernel)) rfl (fun j hj => ?_)
    simp only [List.mem_cons, List.not_mem_nil, or_false] at hj
    rcases hj with rfl | rfl | rfl | rfl | rfl
    · exact WJ_str (utf_lit (by decide +kernel))
    · trivial
    · exact WJ_sums (by omega) (fit_sums hz)
    · exact WJ_lst (by omega) (fun j hj => by
        obtain ⟨p, hp, rfl⟩ := List.mem_map.1 hj
        exact WJ_plan (by omega) (fit_plan hz p hp))
    · exact WJ_lst (by omega) (fun j hj => by
        obtain ⟨t, ht, rfl⟩ := List.mem_map.1 hj
        exact WJ_task (by omega) (fit_task hz t ht))
mutual
def SJ : J → Prop
  | .nul => True
  | .boo _ => True
  | .num n => fitP n
  | .str s => s.size ≤ 2000
  | .box _ ns l => (∀ s ∈ ns, s.size ≤ 10) ∧ SJL l
def SJL : JL → Prop
  | .nil => True
  | .cons j l => SJ j ∧ SJL l
end
theorem nmT_len {ob : Bool} {ns : List ByteArray} (h : ∀ s ∈ ns, s.size ≤ 10) : (nmT ob ns).length ≤ 63 := by
  unfold nmT
  split
  · cases ns with
    | nil =>
      have := quoteF_len (⟨#[]⟩ : ByteArray)
      have e : (⟨#[]⟩ : ByteArray).size = 0 := rfl
      simp only [List.headD_nil, List.length_append, List.length_cons, List.length_nil]; omega
    | cons s r =>
      have := quoteF_len s
      have h2 := h s (by simp)
      simp only [List.headD_cons, List.length_append, List.length_cons, List.length_nil]; omega
  · simp
mutual
theorem txt_len (k : Int) : (j : J) → SJ j → (txt j).length + 100 ≤ (lay k j).length * 20000
  | .nul, h => by rw [txt, lay]; simp
  | .boo b, h => by cases b <;> rw [txt, lay] <;> simp
  | .num n, h => by
    rw [SJ] at h
    have := numL_len (fit_i64 h).1 (fit_i64 h).2
    rw [txt, lay]; simp; omega
  | .str s, h => by
    rw [SJ] at h
    have := quoteF_len s
    rw [txt, lay]; simp; omega
  | .box ob ns l, h => by
    rw [SJ] at h
    have := txtL_len k ob l ns h.1 h.2
    rw [txt, lay]
    simp only [List.length_append, List.length_cons, List.length_nil]
    omega
theorem txtL_len (k : Int) (ob : Bool) : (l : JL) → (ns : List ByteArray) → (∀ s ∈ ns, s.size ≤ 10) → SJL l → (txtL ob ns l).length ≤ (layL k l).1.length * 20000
  | .nil, ns, hn, h => by rw [txtL, layL]; simp
  | .cons j l, ns, hn, h => by
    rw [SJL] at h
    have h1 := txt_len k j h.1
    have h2 := txtL_len (k + (lay k j).length) ob l ns.tail (fun s hs => hn s (List.mem_of_mem_tail hs)) h.2
    have h3 := nmT_len (ob := ob) hn
    have h4 : (sepT l (txtL ob ns.tail l)).length ≤ (txtL ob ns.tail l).length + 1 := by cases l <;> simp [sepT]
    rw [txtL, layL]
    simp only [List.length_append]
    omega
end
mutual
theorem lay_tb (k : Int) : (j : J) → SJ j → NJ j → ((lay k j).length : Int) ≤ 8192 → ∀ v ∈ lay k j, TB v
  | .nul, h, _, _ => by rw [lay]; intro v hv; simp at hv; subst hv; unfold TB; simp; decide
  | .boo b, h, _, _ => by rw [lay]; intro v hv; simp at hv; subst hv; unfold TB; simp; decide
  | .num n, h, _, _ => by
    rw [SJ] at h
    have := fit_i64 h
    rw [lay]; intro v hv; simp at hv; subst hv; unfold TB; simp
    exact ⟨by decide, this.1, this.2⟩
  | .str s, h, _, _ => by
    rw [SJ] at h
    rw [lay]; intro v hv; simp at hv; subst hv; unfold TB; simp; omega
  | .box ob ns l, h, hn, hl => by
    rw [SJ] at h
    rw [NJ] at hn
    rw [lay] at hl ⊢
    simp only [List.length_append, List.length_cons, List.length_nil] at hl
    intro v hv
    rcases List.mem_append.1 hv with hv | hv
    · exact layL_tb k l h.2 hn.2 (by omega) v hv
    · simp only [List.mem_singleton] at hv
      subst hv
      have h2 := (layL_ok k l).2.1
      refine ⟨show (⟨#[]⟩ : ByteArray).size ≤ 1000000 by decide, fun s hs => by have := h.1 s hs; omega, ?_, by show (layL k l).2.length ≤ 1000000; omega, by show (-9223372036854775808 : Int) ≤ 0; omega, by show (0 : Int) ≤ 9223372036854775807; omega⟩
      show ns.length ≤ 1000000
      cases ob with
      | true => have := hn.1.1 rfl; rw [this, ← layL_len2 l k]; omega
      | false => rw [hn.1.2 rfl]; simp
theorem layL_tb (k : Int) : (l : JL) → SJL l → NJL l → ((layL k l).1.length : Int) ≤ 8192 → ∀ v ∈ (layL k l).1, TB v
  | .nil, _, _, _ => by rw [layL]; intro v hv; cases hv
  | .cons j l, h, hn, hl => by
    rw [SJL] at h
    rw [NJL] at hn
    rw [layL] at hl ⊢
    simp only [List.length_append] at hl
    intro v hv
    rcases List.mem_append.1 hv with hv | hv
    · exact lay_tb k j h.1 hn.1 (by omega) v hv
    · exact layL_tb _ l h.2 hn.2 (by omega) v hv
end
theorem SJL_of : ∀ {l : List J}, (∀ j ∈ l, SJ j) → SJL (JL.of l)
  | [], _ => by rw [JL.of, SJL]; trivial
  | j :: r, h => by rw [JL.of, SJL]; exact ⟨h j (by simp), SJL_of (fun k hk => h k (List.mem_cons_of_mem _ hk))⟩
theorem SJ_box {ob : Bool} {ns : List ByteArray} {js : List J} (hn : ns.all (fun s => decide (s.size ≤ 10)) = true) (h : ∀ j ∈ js, SJ j) : SJ (.box ob ns (JL.of js)) := by
  rw [SJ]
  exact ⟨fun s hs => by simpa using List.all_eq_true.1 hn s hs, SJL_of h⟩
theorem SJ_num {n : Int} (h : fitP n) : SJ (.num n) := by rw [SJ]; exact h
theorem SJ_str {s : ByteArray} (h : s.size ≤ 2000) : SJ (.str s) := by rw [SJ]; exact h
theorem SJ_step {s : ST} (h : ∀ x ∈ stepZ s, fitP x) : SJ (stepJ s) := SJ_box (by decide +kernel) (fun j hj => by
  simp only [List.mem_cons, List.not_mem_nil, or_false] at hj
  rcases hj with rfl | rfl | rfl | rfl | rfl | rfl | rfl | rfl | rfl
  · exact SJ_str (Nat.le_trans (word_size _) (by decide))
  · exact SJ_num (h _ (by simp [stepZ]))
  · exact SJ_num (h _ (by simp [stepZ]))
  · exact SJ_num (h _ (by simp [stepZ]))
  · exact SJ_num (h _ (by simp [stepZ]))
  · exact SJ_num (h _ (by simp [stepZ]))
  · exact SJ_box rfl (fun j hj => by
      obtain ⟨n, hn, rfl⟩ := List.mem_map.1 hj
      exact SJ_num (h _ (List.mem_append_right _ hn)))
  · exact SJ_num (h _ (by simp [stepZ]))
  · exact SJ_num (h _ (by simp [stepZ])))
theorem SJ_plan {p : PV} (h : ∀ x ∈ planZ p, fitP x) : SJ (planJ p) := SJ_box (by decide +kernel) (fun j hj => by
  simp only [List.mem_cons, List.not_mem_nil, or_false] at hj
  rcases hj with rfl | rfl | rfl | rfl | rfl | rfl | rfl
  · exact SJ_num (h _ (by simp [planZ, headZ]))
  · exact SJ_num (h _ (by simp [planZ, headZ]))
  · exact SJ_num (h _ (by simp [planZ, headZ]))
  · exact SJ_num (h _ (by simp [planZ, headZ]))
  · exact SJ_num (h _ (by simp [planZ, headZ]))
  · exact SJ_num (h _ (by simp [planZ, headZ]))
  · exact SJ_box rfl (fun j hj => by
      obtain ⟨s, hs, rfl⟩ := List.mem_map.1 hj
      exact SJ_step (fit_step h s hs)))
theorem SJ_task {t : TK} (h : fitP t.item) : SJ (taskJ t) := SJ_box (by decide +kernel) (fun j hj => by
  simp only [List.mem_cons, List.not_mem_nil, or_false] at hj
  rcases hj with rfl | rfl
  · exact SJ_str (by cases t.ship <;> decide)
  · exact SJ_num h)
theorem SJ_sums {s : SU} (h : ∀ x ∈ sumsZ s, fitP x) : SJ (sumsJ s) := SJ_box (by decide +kernel) (fun j hj => by
  simp only [List.mem_cons, List.not_mem_nil, or_false] at hj
  rcases hj with rfl | rfl | rfl | rfl | rfl | rfl | rfl | rfl <;> exact SJ_num (h _ (by simp [sumsZ])))
theorem SJ_reply {cd at_ : Int} {path : ByteArray} {op : Bool} {su : SU} {ps : List PV} {lf : List TK} (hp : path.size ≤ 2000) (h : fitR cd at_ path su ps lf) : SJ (replyJ cd at_ path op su ps lf) := by
  unfold replyJ
  split
  · rename_i hc
    obtain ⟨h1, h2, h3⟩ := h.1 hc
    refine SJ_box (by decide +kernel) (fun j hj => ?_)
    simp only [List.mem_cons, List.not_mem_nil, or_false] at hj
    rcases hj with rfl | rfl | rfl | rfl
    · exact SJ_str (by decide)
    · exact SJ_num h2
    · exact SJ_num h3
    · exact SJ_str hp
  · rename_i hc
    have hz := h.2 (by omega)
    refine SJ_box (by decide +kernel) (fun j hj => ?_)
    simp only [List.mem_cons, List.not_mem_nil, or_false] at hj
    rcases hj with rfl | rfl | rfl | rfl | rfl
    · exact SJ_str (by decide)
    · trivial
    · exact SJ_sums (fit_sums hz)
    · exact SJ_box rfl (fun j hj => by
        obtain ⟨p, hp, rfl⟩ := List.mem_map.1 hj
        exact SJ_plan (fit_plan hz p hp))
    · exact SJ_box rfl (fun j hj => by
        obtain ⟨t, ht, rfl⟩ := List.mem_map.1 hj
        exact SJ_task (fit_task hz t ht))
section
variable {cd at_ : Int} {path : ByteArray} {op : Bool} {su : SU} {ps : List PV} {lf : List TK} {L : List TV}
theorem rp_lay (h : vs L = treeF cd at_ path op su ps lf) : vs L = lay 0 (replyJ cd at_ path op su ps lf) := h.trans (lay_reply ..).symm
theorem rp_len (h : vs L = treeF cd at_ path op su ps lf) (hl : (L.length : Int) ≤ 8192) : ((lay 0 (replyJ cd at_ path op su ps lf)).length : Int) ≤ 8192 := by rw [← rp_lay h, vs_len]; exact hl
theorem rp_check (h : vs L = treeF cd at_ path op su ps lf) (hl : (L.length : Int) ≤ 8192) (hf : fitR cd at_ path su ps lf) : checkF (vs L) = 0 := by
  rw [rp_lay h]; exact check_full (WJ_reply hf) (rp_len h hl)
theorem rp_show (h : vs L = treeF cd at_ path op su ps lf) (hf : fitR cd at_ path su ps lf) : showF (vs L) = txt (replyJ cd at_ path op su ps lf) := by
  rw [rp_lay h]; exact show_full (NJ_of _ _ (WJ_reply hf))
theorem rp_TB (h : vs L = treeF cd at_ path op su ps lf) (hl : (L.length : Int) ≤ 8192) (hf : fitR cd at_ path su ps lf) (hp : path.size ≤ 2000) : ∀ t ∈ L, TB t.v := fun t ht => by
  have hm : t.v ∈ vs L := List.mem_map_of_mem ht
  rw [rp_lay h] at hm
  exact lay_tb 0 _ (SJ_reply hp hf) (NJ_of _ _ (WJ_reply hf)) (rp_len h hl) _ hm
theorem rp_size (h : vs L = treeF cd at_ path op su ps lf) (hl : (L.length : Int) ≤ 8192) (hf : fitR cd at_ path su ps lf) (hp : path.size ≤ 2000) : (showF (vs L)).length ≤ 1000000000 := by
  have := txt_len 0 (replyJ cd at_ path op su ps lf) (SJ_reply hp hf)
  have := rp_len h hl
  rw [rp_show h hf]; omega
theorem rp_parse (h : vs L = treeF cd at_ path op su ps lf) (hl : (L.length : Int) ≤ 8192) (hf : fitR cd at_ path su ps lf) (hs : ((showF (vs L)).length : Int) ≤ 65536) : parseE (showF (vs L)) = 0 ∧ parseT (showF (vs L)) = vs L := by
  rw [rp_show h hf] at hs ⊢
  have := parse_full hs (WJ_reply hf) (rp_len h hl)
  exact ⟨this.1, this.2.trans (rp_lay h).symm⟩
theorem rp_text {o : ByteArray} (h : vs L = treeF cd at_ path op su ps lf) (hf : fitR cd at_ path su ps lf) (ho : bs o = txt (replyJ cd at_ path op su ps lf)) : mkS (showF (vs L)) = o := by
  rw [rp_show h hf, ← ho, mkS_bs]
end
end Go.SX
namespace Go.SX
open Go Go.RowKit
def TellsW (P : Program) (w : World) (e : TypeId) {α : Type} (E : Enc α) (good : α → Prop) : Prop :=
  ∀ {H : Type} (enc : TypeId × Value → H) (base : Nat) (spare : Nat → Bool) (held : Bool) (n : Nat) (cs : List Value) (y : DataW H × List MemPlace), DataW.trod enc P w base spare held n e cs = some y → (∀ b ∈ y.1.weights P e, b ≤ reachBytes) → ∃ a, cs = E.enc a ∧ good a
section
variable {H : Type} {enc : TypeId × Value → H} {P : Program} {w : World} {base : Nat} {spare : Nat → Bool} {held : Bool}
theorem weightsAll_mem {e : TypeId} {d : DataW H} {b : Nat} : ∀ {l : List (DataW H)}, d ∈ l → b ∈ d.weights P e → b ∈ DataW.weightsAll P e l
  | [], h, _ => by cases h
  | x :: r, h, hb => by
    unfold DataW.weightsAll
    rcases List.mem_cons.1 h with rfl | h
    · exact List.mem_append_left _ hb
    · exact List.mem_append_right _ (weightsAll_mem h hb)
theorem rows_w {α : Type} [Inhabited α] {E : Enc α} {good : α → Prop} {t e : TypeId} {fuel : Nat} {cs : List Value} {x : DataW H × List MemPlace} (ht : P.underlying t = some (.slice e)) (he : P.cellsOf e = E.sz) (hT : TellsW P w e E good) (hbo : 1 ≤ P.bytesOf e)
    (h : DataW.trod enc P w base spare held fuel t cs = some x) (hw : ∀ b ∈ x.1.weights P t, b ≤ reachBytes) :
    ∃ A l cap, cs = [.slice A l.length cap] ∧ Fr E (fun b => b < w.heap.size) w A l ∧ ∀ y ∈ l, good y := by
  rcases DataW.trod_slice ht h with h0 | ⟨a, len, cap, elems, rest, n, hx1, rfl, rfl, hb, hl, hm, hlen, hel, hsp, hns⟩
  · exact ⟨none, [], 0, h0.1, Fr.nil _ _ _ _, by simp⟩
  have hw2 : ∀ b ∈ DataW.weights P t (.slice (elems.map (·.1)) (rest.map (·.1))), b ≤ reachBytes := hw
  have each : ∀ i, i < len → ∃ x : α, good x ∧ w.cells? base (a.add (i * E.sz)) E.sz = some (E.enc x) := by
    intro i hi
    have h1 := hel i hi
    have h2 : elems[i]? = some (elems[i]'(by omega)) := List.getElem?_eq_getElem (by omega)
    rw [h2, he, Option.bind_eq_some_iff] at h1
    obtain ⟨cs', h3, h4⟩ := h1
    obtain ⟨x, rfl, hg⟩ := hT enc base spare held n cs' _ h4 (fun b hb => hw2 b (by
      unfold DataW.weights
      rw [ht]
      exact List.mem_cons_of_mem _ (List.mem_append_left _ (weightsAll_mem (List.mem_map_of_mem (List.getElem_mem (by omega))) hb))))
    exact ⟨x, hg, h3⟩
  let f : Nat → α := fun i => if hi : i < len then (each i hi).choose else default
  have hf : ∀ i (hi : i < len), f i = (each i hi).choose := fun i hi => dif_pos hi
  have hbig : len ≤ 140737488355328 := by
    have h1 := hw2 ((elems.map (·.1)).length + (rest.map (·.1)).length |>.mul (P.bytesOf e)) (by unfold DataW.weights; rw [ht]; exact List.mem_cons_self ..)
    have h11 : elems.length * 1 ≤ ((elems.map (·.1)).length + (rest.map (·.1)).length) * P.bytesOf e := Nat.mul_le_mul (by simp) hbo
    have h12 : reachBytes < 2 ^ 47 := reachBytes_lt
    have h13 : ((elems.map (·.1)).length + (rest.map (·.1)).length) * P.bytesOf e ≤ reachBytes := h1
    omega
  have hgood : ∀ x ∈ (List.range len).map f, good x := by
    intro x hx
    obtain ⟨i, hi, rfl⟩ := List.mem_map.1 hx
    have hlt : i < len := by simpa using hi
    rw [hf i hlt]
    exact (each i hlt).choose_spec.1
  refine ⟨some a, (List.range len).map f, cap, by simp, ⟨by simpa using hbig, ?_⟩, hgood⟩
  rcases Nat.eq_zero_or_pos len with h0 | h0
  · subst h0; exact .inl (by simp)
  have hat : ∀ i, i < len → ∀ j u, (E.enc (f i))[j]? = some u → w.cell? (a.add (i * E.sz + j)) = some u := by
    intro i hi j u hj
    obtain ⟨_, h1, h2⟩ := World.cells?_some (each i hi).choose_spec.2
    rw [← hf i hi] at h1 h2
    have hjs : j < E.sz := by have := (List.getElem?_eq_some_iff.1 hj).1; omega
    rw [← add_zero_add, h2 j hjs, hj]
  have hpos := E.pos
  have hspot : a.spot = none := by
    have h1 : (E.enc (f 0)).length = E.sz := E.len _
    have h2 := hat 0 h0 0 ((E.enc (f 0))[0]'(by omega)) (List.getElem?_eq_getElem (by omega))
    have h3 := World.cell?_spot h2
    simpa [Addr.add] using h3
  obtain ⟨b, off, spot⟩ := a
  simp only at hspot
  subst hspot
  have hall : ∀ i x, ((List.range len).map f)[i]? = some x → At w b (off + i * E.sz) (E.enc x) := fun i x hx j u hu => by
    simp only [List.getElem?_map, Option.map_eq_some_iff] at hx
    obtain ⟨i', hi', rfl⟩ := hx
    have hi2 := List.getElem?_eq_some_iff.1 hi'
    obtain ⟨hlt, heq⟩ := hi2
    simp at heq hlt
    subst heq
    have := hat i hlt j u hu
    rw [show off + i * E.sz + j = off + (i * E.sz + j) from by omega]
    have e1 : (⟨b, off, none⟩ : Addr).add (i * E.sz + j) = ⟨b, off + (i * E.sz + j), none⟩ := by
      unfold Addr.add
      split
      · rename_i h0; rw [h0]; rfl
      · rfl
    rwa [e1] at this
  refine .inr ⟨b, off, rfl, ?_, hall⟩
  have hx := hall 0 (f 0) (by simp [h0])
  have hl1 := E.len (f 0)
  have := hx 0 ((E.enc (f 0))[0]'(by omega)) (List.getElem?_eq_getElem (by omega))
  unfold World.cell? at this
  cases hb1 : w.heap[b]? with
  | none => simp only [hb1] at this; cases this
  | some o => exact lt_of_some hb1
theorem struct_w {t : TypeId} {fuel : Nat} {cs : List Value} {x : DataW H × List MemPlace} {fs : Array Field} (ht : P.underlying t = some (.struct fs)) (h : DataW.trod enc P w base spare held fuel t cs = some x) (hw : ∀ b ∈ x.1.weights P t, b ≤ reachBytes) :
    ∃ n, cs.length = P.cellsOf t ∧ ∀ (i : Nat) (f : Field), fs[i]? = some f → ∃ y : DataW H × List MemPlace, DataW.trod enc P w base spare held n f.type ((cs.drop f.offset).take (P.cellsOf f.type)) = some y ∧ ∀ b ∈ y.1.weights P f.type, b ≤ reachBytes := by
  obtain ⟨xs, n, _, rfl, hl, hx, hf⟩ := DataW.trod_struct ht h
  refine ⟨n, hl, fun i f hi => ?_⟩
  have h1 := hf i f hi
  have hlt : i < fs.size := (Array.getElem?_eq_some_iff.1 hi).1
  rw [List.getElem?_eq_getElem (by omega)] at h1
  refine ⟨xs[i]'(by omega), h1, fun b hb => hw b ?_⟩
  show b ∈ DataW.weights P t (.agg (xs.map (·.1)))
  unfold DataW.weights
  rw [ht]
  exact DataW.weights_mem_each (j := i) (d := (xs[i]'(by omega)).1) (by simp [hi]) (by simp [List.getElem?_eq_getElem (show i < xs.length by omega)]) b hb
theorem int_w {e : TypeId} (he : P.underlying e = some (.int .i64)) : TellsW P w e eZ (fun _ => True) := fun enc base spare held n cs y hy _ => by
  obtain ⟨m, rfl, _, _⟩ := DataW.trod_int he hy
  exact ⟨m, rfl, trivial⟩
end
end Go.SX
set_option maxRecDepth 20000
set_option maxHeartbeats 4000000
namespace Go.Proofs.Ythmkelkefmfmgaa.Sx.FA
open Go Go.SX Go.Proofs
theorem ty5 : ty Try.prog 5 = some (false, 1) := by kernel_rfl
theorem hbd46 : hasBody Try.prog 46 = true := by kernel_rfl
theorem ai5 : (Try.prog.info? 5).map (fun i => (i.zero, i.size, i.bytes)) = some (some (.int .u8 0), 1, 1) := by kernel_rfl
theorem mo : Try.prog.follows .mixedOrders = true := by kernel_rfl
theorem hbd51 : hasBody Try.prog 51 = true := by kernel_rfl
end Go.Proofs.Ythmkelkefmfmgaa.Sx.FA
namespace Go.Proofs.Ythmkelkefmfmgaa.Sx
open Go Go.SX Go.Proofs FA
theorem fits1 (a : Int) (S : Nat → Prop) (wf : World) :
  TR0 Try.prog 47 [.int .i64 a] [] S wf (fun v_ C_ => v_ = .bool (decide (a ≥ (-4611686018427387903)) && decide (a ≤ 4611686018427387903)) ∧ C_ = []) := by
 refine TR.mk Try.func47 rfl Try.ntmps47 rfl rfl (fun w_ => ?_)
 refine .seq (.region ?_)
 refine .v (ev_as rfl rfl) rfl ?_
 refine .go idQ (.seq (.region ?_))
 refine .v (ev_mv rfl rfl) rfl ?_
 refine .v (ev_cmp rfl rfl rfl rfl) rfl ?_
 refine .v (ev_mv rfl rfl) rfl ?_
 refine .w (fun _ => ev_mv rfl rfl) rfl ?_
 refine .w (fun hb => ev_cmp rfl (lkg rfl hb) rfl rfl) rfl ?_
 refine .v (ev_and rfl rfl rfl rfl) rfl ?_
 refine .v (ev_as rfl rfl) rfl ?_
 refine .go idQ ?_
 exact .ret idQ (ret1 Try.results47 rfl .n ⟨rfl, rfl⟩)
theorem rune (A : Option Addr) (n : Nat) (c : Nat) (l : List Int) (S : Nat → Prop) (wf : World) (hA : Fr eY S wf A l) (hn : l.length = n) (hr : ∀ x ∈ l, isB x) (h0 : 0 < n) :
  TR0 Try.prog 46 [.slice A n c] [] S wf (fun v_ C_ => v_ = .int .i64 (runeF l) ∧ C_ = []) := by
 have hla := hA.len
 have hg0 := gt_range hr 0
 unfold isB at hg0
 refine TR.mk Try.func46 rfl Try.ntmps46 rfl rfl (fun w_ => ?_)
 refine .seq (.region ?_)
 refine .v (ev_as rfl rfl) rfl ?_
 refine .go idQ (.seq (.region ?_))
 refine .v (ev_as rfl rfl) rfl ?_
 refine .v (ev_as rfl rfl) rfl ?_
 refine .go idQ (.seq (.region ?_))
 refine .v (ev_mv rfl rfl) rfl ?_
 refine .v (ev_ix rfl Try.underlying36 ty5 rfl rfl (by omega) (by omega) (fun _ _ => Fr.adr (i := 0) hA (by omega) (by omega))) rfl ?_
 refine .v (ev_ld1 rfl ty5 rfl (At.elem1 (At.w (Fr.el (i := 0) hA (by omega) (by omega))) 0 rfl)) rfl ?_
 refine .v (ev_cv rfl Try.underlying5 Try.underlying3 rfl (wrap_b_i64 (gt_range hr _))) rfl ?_
 refine .v (ev_as rfl rfl) rfl ?_
 refine .go idQ (.seq (.region ?_))
 refine .v (ev_as rfl rfl) rfl ?_
 refine .go idQ (.seq (.block (.seq (.region ?_))))
 refine .v (ev_mv rfl rfl) rfl ?_
 refine .v (ev_cmp rfl rfl rfl rfl) rfl ?_
 refine .v (ev_as rfl rfl) rfl ?_
 refine .go idQ ?_
 refine .condI rfl bD (fun h1 => ?_) (fun h1 => ?_)
 ·
  refine .seq (.region ?_)
  refine .v (ev_as rfl rfl) rfl ?_
  refine .go idQ ?_
  exact .ret idQ (ret1 Try.results46 rfl .n ⟨(congrArg (Value.int .i64) (rsel1 (by assumption))), rfl⟩)
 refine .seq (.region ?_)
 refine .v (ev_mv rfl rfl) rfl ?_
 refine .v (ev_cmp rfl rfl rfl rfl) rfl ?_
 refine .v (ev_mv rfl rfl) rfl ?_
 refine .w (fun _ => ev_mv rfl rfl) rfl ?_
 refine .w (fun hb => ev_cmp rfl (lkg rfl hb) rfl rfl) rfl ?_
 refine .v (ev_and rfl rfl rfl rfl) rfl ?_
 refine .v (ev_as rfl rfl) rfl ?_
 refine .go idQ ?_
 refine .condI rfl (bA bD bD) (fun h2 => ?_) (fun h2 => ?_)
 ·
  refine .region ?_
  refine .v (ev_mv rfl rfl) rfl ?_
  refine .v (ev_band rfl rfl rfl) rfl ?_
  refine .v (ev_as rfl rfl) rfl ?_
  refine .v (ev_as rfl rfl) rfl ?_
  refine .v (ev_as rfl rfl) rfl ?_
  refine .go idQ (.seq (.seq (.region ?_)))
  refine .v (ev_mv rfl rfl) rfl ?_
  refine .v (ev_cmp (r := false) rfl rfl rfl rfl) rfl ?_
  refine .v (ev_mv rfl rfl) rfl ?_
  refine .cons (.on rfl rfl rfl (Ev.step (ev_mv rfl rfl) rfl rfl rfl ?_))
  refine .cons (.on rfl rfl rfl (Ev.step (ev_len rfl Try.underlying36 rfl) rfl rfl rfl ?_))
  refine .cons (.on rfl rfl rfl (Ev.step (ev_mv rfl rfl) rfl rfl rfl ?_))
  refine .cons (.on rfl rfl rfl (Ev.step (ev_cmp rfl rfl rfl rfl) rfl rfl rfl ?_))
  refine .v (ev_pickf rfl rfl rfl rfl) rfl ?_
  refine .go idQ ?_
  refine .condI rfl bD (fun h3 => ?_) (fun h3 => ?_)
  ·
   refine .seq (.region ?_)
   refine .v (ev_as rfl rfl) rfl ?_
   refine .go idQ ?_
   exact .ret idQ (ret1 Try.results46 rfl .n ⟨(congrArg (Value.int .i64) (rn_short (rsel2 (l := l) (by assumption) (by assumption)) (by omega))), rfl⟩)
  refine .skipgo idQ (.seq (.seq (.region ?_)))
  refine .v (ev_as rfl rfl) rfl ?_
  refine .go idQ (.block ?_)
  refine .loop (X := Int × Int) (fun ⟨i, x⟩ => 1 ≤ i ∧ i ≤ 2 ∧ runeGo ((l.take (2 : Int).toNat).drop i.toNat) x = runeGo ((l.take (2 : Int).toNat).drop 1) (bnd .i64 (gt l 0) 31)) (fun ⟨i, x⟩ => [(0, .slice A n c), (3, .int .i64 2), (4, .int .i64 128), (6, .int .i64 x), (7, .int .i64 i)]) (fun ⟨i, x⟩ => []) (fun _ => S) (fun _ => wf) (fun ⟨i, x⟩ => (2 - i).toNat) (fun a_ w_ hs_ hw_ => ⟨⟨1, (bnd .i64 (gt l 0) 31)⟩, (by exact ⟨by omega, by omega, rfl⟩), hs_.mono (Sub.get (.c rfl (.c rfl (.c rfl (.c rfl (.c rfl .n)))))), hw_.keep .n⟩) (fun ⟨i, x⟩ ⟨q_0, q_1, q_2⟩ => ?_)
  show SC _ _ _ _ _ ⟨[(0, .slice A n c), (3, .int .i64 2), (4, .int .i64 128), (6, .int .i64 x), (7, .int .i64 i)], [], S, wf⟩
  refine .seq (.seq (.region ?_))
  refine .v (ev_mv rfl rfl) rfl ?_
  refine .v (ev_mv rfl rfl) rfl ?_
  refine .v (ev_cmp rfl rfl rfl rfl) rfl ?_
  refine .go idQ ?_
  refine .condI rfl bD (fun h4 => ?_) (fun h4 => ?_)
  ·
   refine .skipgo idQ (.seq (.block (.seq (.seq (.region ?_)))))
   refine .v (ev_mv rfl rfl) rfl ?_
   refine .v (ev_mv rfl rfl) rfl ?_
   refine .v (ev_ix rfl Try.underlying36 ty5 rfl rfl (by omega) (by omega) (fun _ _ => Fr.adr (i := i) hA (by omega) (by omega))) rfl ?_
   refine .v (ev_ld1 rfl ty5 rfl (At.elem1 (At.w (Fr.el (i := i) hA (by omega) (by omega))) 0 rfl)) rfl ?_
   refine .v (ev_shr (r := (Int.fdiv (gt l i) 64)) rfl rfl rfl (by decide) rfl) rfl ?_
   refine .v (ev_cmp rfl rfl rfl rfl) rfl ?_
   refine .go idQ ?_
   refine .condI rfl bNE (fun h5 => ?_) (fun h5 => ?_)
   ·
    refine .seq (.region ?_)
    refine .v (ev_as rfl rfl) rfl ?_
    refine .go idQ ?_
    exact .ret idQ (ret1 Try.results46 rfl .n ⟨(congrArg (Value.int .i64) (rn_bad (rsel2 (l := l) (by assumption) (by assumption)) q_0 (by omega) (by omega) q_2 (by omega))), rfl⟩)
   refine .skipgo idQ (.region ?_)
   refine .v (ev_mv rfl rfl) rfl ?_
   refine .v (ev_shl (r := (IntKind.i64.wrap (x * 64))) rfl rfl rfl (by decide) rfl) rfl ?_
   refine .v (ev_mv rfl rfl) rfl ?_
   refine .v (ev_mv rfl rfl) rfl ?_
   refine .v (ev_ix rfl Try.underlying36 ty5 rfl rfl (by omega) (by omega) (fun _ _ => Fr.adr (i := i) hA (by omega) (by omega))) rfl ?_
   refine .v (ev_ld1 rfl ty5 rfl (At.elem1 (At.w (Fr.el (i := i) hA (by omega) (by omega))) 0 rfl)) rfl ?_
   refine .v (ev_band rfl rfl rfl) rfl ?_
   refine .v (ev_cv rfl Try.underlying5 Try.underlying3 rfl rfl) rfl ?_
   refine .v (ev_bor rfl rfl rfl) rfl ?_
   refine .v (ev_as rfl rfl) rfl ?_
   refine .go idQ (.region ?_)
   refine .v (ev_mv rfl rfl) rfl ?_
   refine .v (ev_add rfl rfl rfl (r := (i + 1)) rfl (by omega) (by omega)) rfl ?_
   refine .v (ev_as rfl rfl) rfl ?_
   exact SP.nil (SQ.roundb (X := Int × Int) (x := (i, x)) ⟨(i + 1), (bor .i64 (IntKind.i64.wrap (x * 64)) (IntKind.i64.wrap (bnd .u8 (gt l i) 63)))⟩ (by exact ⟨by omega, by omega, (rn_step q_0 (by omega) (by omega) (by omega)).symm.trans q_2⟩) (by dsimp only; omega) (Sub.get (.c rfl (.c rfl (.c rfl (.c rfl (.c rfl .n)))))) (fun w hw => hw.keep .n))
  refine .exit idQ ?_
  refine .seq (.seq (.region ?_))
  refine .v (ev_mv rfl rfl) rfl ?_
  refine .v (ev_mv rfl rfl) rfl ?_
  refine .v (ev_cmp rfl rfl rfl rfl) rfl ?_
  refine .v (ev_mv rfl rfl) rfl ?_
  refine .w (fun _ => ev_mv rfl rfl) rfl ?_
  refine .w (fun hb => ev_cmp rfl (lkg rfl hb) rfl rfl) rfl ?_
  refine .v (ev_or rfl rfl rfl rfl) rfl ?_
  refine .v (ev_mv rfl rfl) rfl ?_
  refine .w (fun _ => ev_mv rfl rfl) rfl ?_
  refine .w (fun hb => ev_cmp rfl (lkg rfl hb) rfl rfl) rfl ?_
  refine .w (fun hb => ev_mv rfl (lkg rfl hb)) rfl ?_
  rcases Bool.eq_false_or_eq_true ((decide (x < 128)) || (decide (x > 1114111))) with hb6 | hb6
  ·
   have hb6_ := bT (bO bD bD) hb6
   refine SP.reslotv (t := 80) rfl (gv_off hb6) ?_
   refine .cons (.offu rfl rfl rfl rfl rfl ?_)
   refine .cons (.offu rfl rfl rfl rfl rfl ?_)
   refine SP.reslot (t := 77) rfl hb6 ?_
   refine .cons (.off rfl rfl rfl rfl rfl rfl ?_)
   refine .v (ev_pickt rfl rfl rfl rfl) rfl ?_
   refine .go idQ ?_
   refine .cond_t rfl ?_
   refine .seq (.region ?_)
   refine .v (ev_as rfl rfl) rfl ?_
   refine .go idQ ?_
   exact .ret idQ (ret1 Try.results46 rfl .n ⟨(congrArg (Value.int .i64) (rn_no (rsel2 (l := l) (by assumption) (by assumption)) q_0 (by omega) (by omega) q_2 (by unfold runeBad; omega))), rfl⟩)
  have hb6_ := bF (bO bD bD) hb6
  refine SP.reslotv (t := 80) rfl (gv_on hb6) ?_
  refine .w (fun _ => ev_mv rfl rfl) rfl ?_
  refine .w (fun hb => ev_cmp rfl (lkg rfl hb) rfl rfl) rfl ?_
  refine SP.reslot (t := 77) rfl hb6 ?_
  refine .cons (.on rfl rfl rfl (Ev.step (ev_and rfl rfl rfl rfl) rfl rfl rfl ?_))
  refine .v (ev_pickf rfl rfl rfl rfl) rfl ?_
  refine .go idQ ?_
  refine .condI rfl (bA bD bD) (fun h7 => ?_) (fun h7 => ?_)
  ·
   refine .seq (.region ?_)
   refine .v (ev_as rfl rfl) rfl ?_
   refine .go idQ ?_
   exact .ret idQ (ret1 Try.results46 rfl .n ⟨(congrArg (Value.int .i64) (rn_no (rsel2 (l := l) (by assumption) (by assumption)) q_0 (by omega) (by omega) q_2 (by unfold runeBad; omega))), rfl⟩)
  refine .skipgo idQ (.seq (.region ?_))
  refine .v (ev_mv rfl rfl) rfl ?_
  refine .v (ev_as rfl rfl) rfl ?_
  refine .go idQ ?_
  exact .ret idQ (ret1 Try.results46 rfl .n ⟨(congrArg (Value.int .i64) (rn_yes (rsel2 (l := l) (by assumption) (by assumption)) q_0 (by omega) (by omega) q_2 (by unfold runeBad; omega))), rfl⟩)
 refine .seq (.region ?_)
 refine .v (ev_mv rfl rfl) rfl ?_
 refine .v (ev_cmp rfl rfl rfl rfl) rfl ?_
 refine .v (ev_mv rfl rfl) rfl ?_
 refine .w (fun _ => ev_mv rfl rfl) rfl ?_
 refine .w (fun hb => ev_cmp rfl (lkg rfl hb) rfl rfl) rfl ?_
 refine .v (ev_and rfl rfl rfl rfl) rfl ?_
 refine .v (ev_as rfl rfl) rfl ?_
 refine .go idQ ?_
 refine .condI rfl (bA bD bD) (fun h8 => ?_) (fun h8 => ?_)
 ·
  refine .region ?_
  refine .v (ev_mv rfl rfl) rfl ?_
  refine .v (ev_band rfl rfl rfl) rfl ?_
  refine .v (ev_as rfl rfl) rfl ?_
  refine .v (ev_as rfl rfl) rfl ?_
  refine .v (ev_as rfl rfl) rfl ?_
  refine .go idQ (.seq (.seq (.region ?_)))
  refine .v (ev_mv rfl rfl) rfl ?_
  refine .v (ev_cmp (r := false) rfl rfl rfl rfl) rfl ?_
  refine .v (ev_mv rfl rfl) rfl ?_
  refine .cons (.on rfl rfl rfl (Ev.step (ev_mv rfl rfl) rfl rfl rfl ?_))
  refine .cons (.on rfl rfl rfl (Ev.step (ev_len rfl Try.underlying36 rfl) rfl rfl rfl ?_))
  refine .cons (.on rfl rfl rfl (Ev.step (ev_mv rfl rfl) rfl rfl rfl ?_))
  refine .cons (.on rfl rfl rfl (Ev.step (ev_cmp rfl rfl rfl rfl) rfl rfl rfl ?_))
  refine .v (ev_pickf rfl rfl rfl rfl) rfl ?_
  refine .go idQ ?_
  refine .condI rfl bD (fun h9 => ?_) (fun h9 => ?_)
  ·
   refine .seq (.region ?_)
   refine .v (ev_as rfl rfl) rfl ?_
   refine .go idQ ?_
   exact .ret idQ (ret1 Try.results46 rfl .n ⟨(congrArg (Value.int .i64) (rn_short (rsel3 (l := l) (by assumption) (by assumption)) (by omega))), rfl⟩)
  refine .skipgo idQ (.seq (.seq (.region ?_)))
  refine .v (ev_as rfl rfl) rfl ?_
  refine .go idQ (.block ?_)
  refine .loop (X := Int × Int) (fun ⟨i, x⟩ => 1 ≤ i ∧ i ≤ 3 ∧ runeGo ((l.take (3 : Int).toNat).drop i.toNat) x = runeGo ((l.take (3 : Int).toNat).drop 1) (bnd .i64 (gt l 0) 15)) (fun ⟨i, x⟩ => [(0, .slice A n c), (3, .int .i64 3), (4, .int .i64 2048), (6, .int .i64 x), (7, .int .i64 i)]) (fun ⟨i, x⟩ => []) (fun _ => S) (fun _ => wf) (fun ⟨i, x⟩ => (3 - i).toNat) (fun a_ w_ hs_ hw_ => ⟨⟨1, (bnd .i64 (gt l 0) 15)⟩, (by exact ⟨by omega, by omega, rfl⟩), hs_.mono (Sub.get (.c rfl (.c rfl (.c rfl (.c rfl (.c rfl .n)))))), hw_.keep .n⟩) (fun ⟨i, x⟩ ⟨q_0, q_1, q_2⟩ => ?_)
  show SC _ _ _ _ _ ⟨[(0, .slice A n c), (3, .int .i64 3), (4, .int .i64 2048), (6, .int .i64 x), (7, .int .i64 i)], [], S, wf⟩
  refine .seq (.seq (.region ?_))
  refine .v (ev_mv rfl rfl) rfl ?_
  refine .v (ev_mv rfl rfl) rfl ?_
  refine .v (ev_cmp rfl rfl rfl rfl) rfl ?_
  refine .go idQ ?_
  refine .condI rfl bD (fun h10 => ?_) (fun h10 => ?_)
  ·
   refine .skipgo idQ (.seq (.block (.seq (.seq (.region ?_)))))
   refine .v (ev_mv rfl rfl) rfl ?_
   refine .v (ev_mv rfl rfl) rfl ?_
   refine .v (ev_ix rfl Try.underlying36 ty5 rfl rfl (by omega) (by omega) (fun _ _ => Fr.adr (i := i) hA (by omega) (by omega))) rfl ?_
   refine .v (ev_ld1 rfl ty5 rfl (At.elem1 (At.w (Fr.el (i := i) hA (by omega) (by omega))) 0 rfl)) rfl ?_
   refine .v (ev_shr (r := (Int.fdiv (gt l i) 64)) rfl rfl rfl (by decide) rfl) rfl ?_
   refine .v (ev_cmp rfl rfl rfl rfl) rfl ?_
   refine .go idQ ?_
   refine .condI rfl bNE (fun h11 => ?_) (fun h11 => ?_)
   ·
    refine .seq (.region ?_)
    refine .v (ev_as rfl rfl) rfl ?_
    refine .go idQ ?_
    exact .ret idQ (ret1 Try.results46 rfl .n ⟨(congrArg (Value.int .i64) (rn_bad (rsel3 (l := l) (by assumption) (by assumption)) q_0 (by omega) (by omega) q_2 (by omega))), rfl⟩)
   refine .skipgo idQ (.region ?_)
   refine .v (ev_mv rfl rfl) rfl ?_
   refine .v (ev_shl (r := (IntKind.i64.wrap (x * 64))) rfl rfl rfl (by decide) rfl) rfl ?_
   refine .v (ev_mv rfl rfl) rfl ?_
   refine .v (ev_mv rfl rfl) rfl ?_
   refine .v (ev_ix rfl Try.underlying36 ty5 rfl rfl (by omega) (by omega) (fun _ _ => Fr.adr (i := i) hA (by omega) (by omega))) rfl ?_
   refine .v (ev_ld1 rfl ty5 rfl (At.elem1 (At.w (Fr.el (i := i) hA (by omega) (by omega))) 0 rfl)) rfl ?_
   refine .v (ev_band rfl rfl rfl) rfl ?_
   refine .v (ev_cv rfl Try.underlying5 Try.underlying3 rfl rfl) rfl ?_
   refine .v (ev_bor rfl rfl rfl) rfl ?_
   refine .v (ev_as rfl rfl) rfl ?_
   refine .go idQ (.region ?_)
   refine .v (ev_mv rfl rfl) rfl ?_
   refine .v (ev_add rfl rfl rfl (r := (i + 1)) rfl (by omega) (by omega)) rfl ?_
   refine .v (ev_as rfl rfl) rfl ?_
   exact SP.nil (SQ.roundb (X := Int × Int) (x := (i, x)) ⟨(i + 1), (bor .i64 (IntKind.i64.wrap (x * 64)) (IntKind.i64.wrap (bnd .u8 (gt l i) 63)))⟩ (by exact ⟨by omega, by omega, (rn_step q_0 (by omega) (by omega) (by omega)).symm.trans q_2⟩) (by dsimp only; omega) (Sub.get (.c rfl (.c rfl (.c rfl (.c rfl (.c rfl .n)))))) (fun w hw => hw.keep .n))
  refine .exit idQ ?_
  refine .seq (.seq (.region ?_))
  refine .v (ev_mv rfl rfl) rfl ?_
  refine .v (ev_mv rfl rfl) rfl ?_
  refine .v (ev_cmp rfl rfl rfl rfl) rfl ?_
  refine .v (ev_mv rfl rfl) rfl ?_
  refine .w (fun _ => ev_mv rfl rfl) rfl ?_
  refine .w (fun hb => ev_cmp rfl (lkg rfl hb) rfl rfl) rfl ?_
  refine .v (ev_or rfl rfl rfl rfl) rfl ?_
  refine .v (ev_mv rfl rfl) rfl ?_
  refine .w (fun _ => ev_mv rfl rfl) rfl ?_
  refine .w (fun hb => ev_cmp rfl (lkg rfl hb) rfl rfl) rfl ?_
  refine .w (fun hb => ev_mv rfl (lkg rfl hb)) rfl ?_
  rcases Bool.eq_false_or_eq_true ((decide (x < 2048)) || (decide (x > 1114111))) with hb12 | hb12
  ·
   have hb12_ := bT (bO bD bD) hb12
   refine SP.reslotv (t := 80) rfl (gv_off hb12) ?_
   refine .cons (.offu rfl rfl rfl rfl rfl ?_)
   refine .cons (.offu rfl rfl rfl rfl rfl ?_)
   refine SP.reslot (t := 77) rfl hb12 ?_
   refine .cons (.off rfl rfl rfl rfl rfl rfl ?_)
   refine .v (ev_pickt rfl rfl rfl rfl) rfl ?_
   refine .go idQ ?_
   refine .cond_t rfl ?_
   refine .seq (.region ?_)
   refine .v (ev_as rfl rfl) rfl ?_
   refine .go idQ ?_
   exact .ret idQ (ret1 Try.results46 rfl .n ⟨(congrArg (Value.int .i64) (rn_no (rsel3 (l := l) (by assumption) (by assumption)) q_0 (by omega) (by omega) q_2 (by unfold runeBad; omega))), rfl⟩)
  have hb12_ := bF (bO bD bD) hb12
  refine SP.reslotv (t := 80) rfl (gv_on hb12) ?_
  refine .w (fun _ => ev_mv rfl rfl) rfl ?_
  refine .w (fun hb => ev_cmp rfl (lkg rfl hb) rfl rfl) rfl ?_
  refine SP.reslot (t := 77) rfl hb12 ?_
  refine .cons (.on rfl rfl rfl (Ev.step (ev_and rfl rfl rfl rfl) rfl rfl rfl ?_))
  refine .v (ev_pickf rfl rfl rfl rfl) rfl ?_
  refine .go idQ ?_
  refine .condI rfl (bA bD bD) (fun h13 => ?_) (fun h13 => ?_)
  ·
   refine .seq (.region ?_)
   refine .v (ev_as rfl rfl) rfl ?_
   refine .go idQ ?_
   exact .ret idQ (ret1 Try.results46 rfl .n ⟨(congrArg (Value.int .i64) (rn_no (rsel3 (l := l) (by assumption) (by assumption)) q_0 (by omega) (by omega) q_2 (by unfold runeBad; omega))), rfl⟩)
  refine .skipgo idQ (.seq (.region ?_))
  refine .v (ev_mv rfl rfl) rfl ?_
  refine .v (ev_as rfl rfl) rfl ?_
  refine .go idQ ?_
  exact .ret idQ (ret1 Try.results46 rfl .n ⟨(congrArg (Value.int .i64) (rn_yes (rsel3 (l := l) (by assumption) (by assumption)) q_0 (by omega) (by omega) q_2 (by unfold runeBad; omega))), rfl⟩)
 refine .seq (.region ?_)
 refine .v (ev_mv rfl rfl) rfl ?_
 refine .v (ev_cmp rfl rfl rfl rfl) rfl ?_
 refine .v (ev_mv rfl rfl) rfl ?_
 refine .w (fun _ => ev_mv rfl rfl) rfl ?_
 refine .w (fun hb => ev_cmp rfl (lkg rfl hb) rfl rfl) rfl ?_
 refine .v (ev_and rfl rfl rfl rfl) rfl ?_
 refine .v (ev_as rfl rfl) rfl ?_
 refine .go idQ ?_
 refine .condI rfl (bA bD bD) (fun h14 => ?_) (fun h14 => ?_)
 ·
  refine .region ?_
  refine .v (ev_mv rfl rfl) rfl ?_
  refine .v (ev_band rfl rfl rfl) rfl ?_
  refine .v (ev_as rfl rfl) rfl ?_
  refine .v (ev_as rfl rfl) rfl ?_
  refine .v (ev_as rfl rfl) rfl ?_
  refine .go idQ (.seq (.seq (.region ?_)))
  refine .v (ev_mv rfl rfl) rfl ?_
  refine .v (ev_cmp (r := false) rfl rfl rfl rfl) rfl ?_
  refine .v (ev_mv rfl rfl) rfl ?_
  refine .cons (.on rfl rfl rfl (Ev.step (ev_mv rfl rfl) rfl rfl rfl ?_))
  refine .cons (.on rfl rfl rfl (Ev.step (ev_len rfl Try.underlying36 rfl) rfl rfl rfl ?_))
  refine .cons (.on rfl rfl rfl (Ev.step (ev_mv rfl rfl) rfl rfl rfl ?_))
  refine .cons (.on rfl rfl rfl (Ev.step (ev_cmp rfl rfl rfl rfl) rfl rfl rfl ?_))
  refine .v (ev_pickf rfl rfl rfl rfl) rfl ?_
  refine .go idQ ?_
  refine .condI rfl bD (fun h15 => ?_) (fun h15 => ?_)
  ·
   refine .seq (.region ?_)
   refine .v (ev_as rfl rfl) rfl ?_
   refine .go idQ ?_
   exact .ret idQ (ret1 Try.results46 rfl .n ⟨(congrArg (Value.int .i64) (rn_short (rsel4 (l := l) (by assumption) (by assumption)) (by omega))), rfl⟩)
  refine .skipgo idQ (.seq (.seq (.region ?_)))
  refine .v (ev_as rfl rfl) rfl ?_
  refine .go idQ (.block ?_)
  refine .loop (X := Int × Int) (fun ⟨i, x⟩ => 1 ≤ i ∧ i ≤ 4 ∧ runeGo ((l.take (4 : Int).toNat).drop i.toNat) x = runeGo ((l.take (4 : Int).toNat).drop 1) (bnd .i64 (gt l 0) 7)) (fun ⟨i, x⟩ => [(0, .slice A n c), (3, .int .i64 4), (4, .int .i64 65536), (6, .int .i64 x), (7, .int .i64 i)]) (fun ⟨i, x⟩ => []) (fun _ => S) (fun _ => wf) (fun ⟨i, x⟩ => (4 - i).toNat) (fun a_ w_ hs_ hw_ => ⟨⟨1, (bnd .i64 (gt l 0) 7)⟩, (by exact ⟨by omega, by omega, rfl⟩), hs_.mono (Sub.get (.c rfl (.c rfl (.c rfl (.c rfl (.c rfl .n)))))), hw_.keep .n⟩) (fun ⟨i, x⟩ ⟨q_0, q_1, q_2⟩ => ?_)
  show SC _ _ _ _ _ ⟨[(0, .slice A n c), (3, .int .i64 4), (4, .int .i64 65536), (6, .int .i64 x), (7, .int .i64 i)], [], S, wf⟩
  refine .seq (.seq (.region ?_))
  refine .v (ev_mv rfl rfl) rfl ?_
  refine .v (ev_mv rfl rfl) rfl ?_
  refine .v (ev_cmp rfl rfl rfl rfl) rfl ?_
  refine .go idQ ?_
  refine .condI rfl bD (fun h16 => ?_) (fun h16 => ?_)
  ·
   refine .skipgo idQ (.seq (.block (.seq (.seq (.region ?_)))))
   refine .v (ev_mv rfl rfl) rfl ?_
   refine .v (ev_mv rfl rfl) rfl ?_
   refine .v (ev_ix rfl Try.underlying36 ty5 rfl rfl (by omega) (by omega) (fun _ _ => Fr.adr (i := i) hA (by omega) (by omega))) rfl ?_
   refine .v (ev_ld1 rfl ty5 rfl (At.elem1 (At.w (Fr.el (i := i) hA (by omega) (by omega))) 0 rfl)) rfl ?_
   refine .v (ev_shr (r := (Int.fdiv (gt l i) 64)) rfl rfl rfl (by decide) rfl) rfl ?_
   refine .v (ev_cmp rfl rfl rfl rfl) rfl ?_
   refine .go idQ ?_
   refine .condI rfl bNE (fun h17 => ?_) (fun h17 => ?_)
   ·
    refine .seq (.region ?_)
    refine .v (ev_as rfl rfl) rfl ?_
    refine .go idQ ?_
    exact .ret idQ (ret1 Try.results46 rfl .n ⟨(congrArg (Value.int .i64) (rn_bad (rsel4 (l := l) (by assumption) (by assumption)) q_0 (by omega) (by omega) q_2 (by omega))), rfl⟩)
   refine .skipgo idQ (.region ?_)
   refine .v (ev_mv rfl rfl) rfl ?_
   refine .v (ev_shl (r := (IntKind.i64.wrap (x * 64))) rfl rfl rfl (by decide) rfl) rfl ?_
   refine .v (ev_mv rfl rfl) rfl ?_
   refine .v (ev_mv rfl rfl) rfl ?_
   refine .v (ev_ix rfl Try.underlying36 ty5 rfl rfl (by omega) (by omega) (fun _ _ => Fr.adr (i := i) hA (by omega) (by omega))) rfl ?_
   refine .v (ev_ld1 rfl ty5 rfl (At.elem1 (At.w (Fr.el (i := i) hA (by omega) (by omega))) 0 rfl)) rfl ?_
   refine .v (ev_band rfl rfl rfl) rfl ?_
   refine .v (ev_cv rfl Try.underlying5 Try.underlying3 rfl rfl) rfl ?_
   refine .v (ev_bor rfl rfl rfl) rfl ?_
   refine .v (ev_as rfl rfl) rfl ?_
   refine .go idQ (.region ?_)
   refine .v (ev_mv rfl rfl) rfl ?_
   refine .v (ev_add rfl rfl rfl (r := (i + 1)) rfl (by omega) (by omega)) rfl ?_
   refine .v (ev_as rfl rfl) rfl ?_
   exact SP.nil (SQ.roundb (X := Int × Int) (x := (i, x)) ⟨(i + 1), (bor .i64 (IntKind.i64.wrap (x * 64)) (IntKind.i64.wrap (bnd .u8 (gt l i) 63)))⟩ (by exact ⟨by omega, by omega, (rn_step q_0 (by omega) (by omega) (by omega)).symm.trans q_2⟩) (by dsimp only; omega) (Sub.get (.c rfl (.c rfl (.c rfl (.c rfl (.c rfl .n)))))) (fun w hw => hw.keep .n))
  refine .exit idQ ?_
  refine .seq (.seq (.region ?_))
  refine .v (ev_mv rfl rfl) rfl ?_
  refine .v (ev_mv rfl rfl) rfl ?_
  refine .v (ev_cmp rfl rfl rfl rfl) rfl ?_
  refine .v (ev_mv rfl rfl) rfl ?_
  refine .w (fun _ => ev_mv rfl rfl) rfl ?_
  refine .w (fun hb => ev_cmp rfl (lkg rfl hb) rfl rfl) rfl ?_
  refine .v (ev_or rfl rfl rfl rfl) rfl ?_
  refine .v (ev_mv rfl rfl) rfl ?_
  refine .w (fun _ => ev_mv rfl rfl) rfl ?_
  refine .w (fun hb => ev_cmp rfl (lkg rfl hb) rfl rfl) rfl ?_
  refine .w (fun hb => ev_mv rfl (lkg rfl hb)) rfl ?_
  rcases Bool.eq_false_or_eq_true ((decide (x < 65536)) || (decide (x > 1114111))) with hb18 | hb18
  ·
   have hb18_ := bT (bO bD bD) hb18
   refine SP.reslotv (t := 80) rfl (gv_off hb18) ?_
   refine .cons (.offu rfl rfl rfl rfl rfl ?_)
   refine .cons (.offu rfl rfl rfl rfl rfl ?_)
   refine SP.reslot (t := 77) rfl hb18 ?_
   refine .cons (.off rfl rfl rfl rfl rfl rfl ?_)
   refine .v (ev_pickt rfl rfl rfl rfl) rfl ?_
   refine .go idQ ?_
   refine .cond_t rfl ?_
   refine .seq (.region ?_)
   refine .v (ev_as rfl rfl) rfl ?_
   refine .go idQ ?_
   exact .ret idQ (ret1 Try.results46 rfl .n ⟨(congrArg (Value.int .i64) (rn_no (rsel4 (l := l) (by assumption) (by assumption)) q_0 (by omega) (by omega) q_2 (by unfold runeBad; omega))), rfl⟩)
  have hb18_ := bF (bO bD bD) hb18
  refine SP.reslotv (t := 80) rfl (gv_on hb18) ?_
  refine .w (fun _ => ev_mv rfl rfl) rfl ?_
  refine .w (fun hb => ev_cmp rfl (lkg rfl hb) rfl rfl) rfl ?_
  refine SP.reslot (t := 77) rfl hb18 ?_
  refine .cons (.on rfl rfl rfl (Ev.step (ev_and rfl rfl rfl rfl) rfl rfl rfl ?_))
  refine .v (ev_pickf rfl rfl rfl rfl) rfl ?_
  refine .go idQ ?_
  refine .condI rfl (bA bD bD) (fun h19 => ?_) (fun h19 => ?_)
  ·
   refine .seq (.region ?_)
   refine .v (ev_as rfl rfl) rfl ?_
   refine .go idQ ?_
   exact .ret idQ (ret1 Try.results46 rfl .n ⟨(congrArg (Value.int .i64) (rn_no (rsel4 (l := l) (by assumption) (by assumption)) q_0 (by omega) (by omega) q_2 (by unfold runeBad; omega))), rfl⟩)
  refine .skipgo idQ (.seq (.region ?_))
  refine .v (ev_mv rfl rfl) rfl ?_
  refine .v (ev_as rfl rfl) rfl ?_
  refine .go idQ ?_
  exact .ret idQ (ret1 Try.results46 rfl .n ⟨(congrArg (Value.int .i64) (rn_yes (rsel4 (l := l) (by assumption) (by assumption)) q_0 (by omega) (by omega) q_2 (by unfold runeBad; omega))), rfl⟩)
 refine .skipgo idQ (.seq (.seq (.region ?_)))
 refine .v (ev_mv rfl rfl) rfl ?_
 refine .v (ev_cmp (r := true) rfl rfl rfl rfl) rfl ?_
 refine .v (ev_mv rfl rfl) rfl ?_
 refine .cons (.off rfl rfl rfl rfl rfl rfl ?_)
 refine .cons (.off rfl rfl rfl rfl rfl rfl ?_)
 refine .cons (.off rfl rfl rfl rfl rfl rfl ?_)
 refine .cons (.off rfl rfl rfl rfl rfl rfl ?_)
 refine .v (ev_pickt rfl rfl rfl rfl) rfl ?_
 refine .go idQ ?_
 refine .cond_t rfl ?_
 refine .seq (.region ?_)
 refine .v (ev_as rfl rfl) rfl ?_
 refine .go idQ ?_
 exact .ret idQ (ret1 Try.results46 rfl .n ⟨(congrArg (Value.int .i64) (rsel0 (by assumption) (by assumption) (by assumption) (by assumption))), rfl⟩)
theorem utf (s : ByteArray) (S : Nat → Prop) (wf : World) (hs : s.size ≤ 1000000000) :
  TR0 Try.prog 19 [.string s] [] S wf (fun v_ C_ => v_ = .bool (utfF (bs s)) ∧ C_ = []) := by
 have hbs := bs_len s
 refine TR.mk Try.func19 rfl Try.ntmps19 rfl rfl (fun w_ => ?_)
 refine .seq (.region ?_)
 refine .v (ev_as rfl rfl) rfl ?_
 refine .go idQ (.seq (.region ?_))
 refine .v (ev_mv rfl rfl) rfl ?_
 refine .cons (st_s2b rfl rfl rfl rfl Try.underlying9 Try.underlying36 Try.underlying5 rfl (by omega) (fun b1 c2 hc3 hc4 => ?_))
 unfold maxLen at hc4
 have hbl5 := bs_len s
 refine .v (ev_as rfl rfl) rfl ?_
 refine .go idQ (.seq (.seq (.region ?_)))
 refine .v (ev_as rfl rfl) rfl ?_
 refine .go idQ (.block ?_)
 refine .loop (X := Int) (fun i => 0 ≤ i ∧ i ≤ s.size ∧ utfF ((bs s).drop i.toNat) = utfF (bs s)) (fun i => [(3, .slice (some ⟨b1, 0, none⟩) s.size c2), (4, .int .i64 i)]) (fun i => [ro_ eY 5 (.slice (some ⟨b1, 0, none⟩) s.size c2) (bs s)]) (fun _ => S) (fun _ => wf) (fun i => (s.size - i.toNat)) (fun a_ w_ hs_ hw_ => ⟨0, (by exact ⟨by omega, by omega, rfl⟩), hs_.mono (Sub.get (.c rfl (.c rfl .n))), hw_.keep (.c .h .n)⟩) (fun i ⟨q_0, q_1, q_2⟩ => ?_)
 show SC _ _ _ _ _ ⟨[(3, .slice (some ⟨b1, 0, none⟩) s.size c2), (4, .int .i64 i)], [ro_ eY 5 (.slice (some ⟨b1, 0, none⟩) s.size c2) (bs s)], S, wf⟩
 refine .seq (.seq (.region ?_))
 refine .v (ev_mv rfl rfl) rfl ?_
 refine .v (ev_mv rfl rfl) rfl ?_
 refine .v (ev_len rfl Try.underlying36 rfl) rfl ?_
 refine .v (ev_cmp rfl rfl rfl rfl) rfl ?_
 refine .go idQ ?_
 refine .condI rfl bD (fun h6 => ?_) (fun h6 => ?_)
 ·
  refine .skipgo idQ (.block (.seq (.region ?_)))
  refine .v (ev_mv rfl rfl) rfl ?_
  refine .v (ev_mv rfl rfl) rfl ?_
  refine .v (ev_slc rfl Try.underlying36 ty5 rfl (.s rfl (by omega)) .n (by omega) (by omega)) rfl ?_
  refine .cons (st_lendk rfl rfl rfl rfl hbd46 rfl .n (.c .h .n) (fun w_ hw => rune (cutA (some ⟨b1, 0, none⟩) c2 (i).toNat 1) (s.size - (i).toNat) (c2 - (i).toNat) (((bs s).take s.size).drop (i).toNat) _ _ (Fr.view (Fr.lendo hw 0 rfl (by first | omega | simp only [LL] <;> omega | simp <;> omega)) (i).toNat s.size 1 rfl (by omega)) (by first | omega | simp only [LL] <;> omega | simp <;> omega) (rng_drop (rng_take (bs_range _) _) _) (by omega)) ?_)
  refine .v (ev_as rfl rfl) rfl ?_
  refine .go idQ (.seq (.seq ?_))
  have hrb := rune_bd (s := s) (i := i) q_0 (by omega)
  refine .region ?_
  refine .v (ev_mv rfl rfl) rfl ?_
  refine .v (ev_cmp rfl rfl rfl rfl) rfl ?_
  refine .go idQ ?_
  refine .condI rfl bE (fun h7 => ?_) (fun h7 => ?_)
  ·
   refine .seq (.region ?_)
   refine .v (ev_as rfl rfl) rfl ?_
   refine .go idQ ?_
   exact .ret idQ (ret1 Try.results19 rfl .n ⟨(congrArg Value.bool (utf_bad0 q_0 (by omega) q_2 (by assumption))), rfl⟩)
  refine .skipgo idQ (.region ?_)
  refine .v (ev_mv rfl rfl) rfl ?_
  refine .v (ev_mv rfl rfl) rfl ?_
  refine .v (ev_add rfl rfl rfl (r := (i + (runeF (((bs s).take s.size).drop (i).toNat)))) rfl (by omega) (by omega)) rfl ?_
  refine .v (ev_as rfl rfl) rfl ?_
  exact SP.nil (SQ.roundb (X := Int) (x := (i)) (i + (runeF (((bs s).take s.size).drop (i).toNat))) (by exact utf_go q_0 (by omega) q_2 (by assumption)) (by show (_ : Nat) < _; omega) (Sub.get (.c rfl (.c rfl .n))) (fun w hw => hw.keep (.c .h .n)))
 refine .exit idQ ?_
 refine .seq (.region ?_)
 refine .v (ev_as rfl rfl) rfl ?_
 refine .go idQ ?_
 exact .ret idQ (ret1 Try.results19 rfl .n ⟨(congrArg Value.bool (utf_end q_2 (by omega))), rfl⟩)
theorem quote_ (v : Value) (o : List Int) (s : ByteArray) (S : Nat → Prop) (wf : World) (hs : s.size ≤ 1000000000) (ho : o.length ≤ 1000000000000) :
  TR0 Try.prog 52 [v, .string s] [rw_ eY 5 (v) o] S wf (fun v_ C_ => ∃ (u : Value), v_ = u ∧ C_ = [rw_ eY 5 (u) (o ++ quoteF s)]) := by
 have hbs := bs_len s
 refine TR.mk Try.func52 rfl Try.ntmps52 rfl rfl (fun w_ => ?_)
 refine .seq (.region ?_)
 refine .v (ev_as rfl rfl) rfl ?_
 refine .go idQ (.seq (.region ?_))
 refine .v (ev_as rfl rfl) rfl ?_
 refine .go idQ (.seq (.region ?_))
 refine .v (ev_mv rfl rfl) rfl ?_
 refine .cons (st_s2b rfl rfl rfl rfl Try.underlying9 Try.underlying36 Try.underlying5 rfl (by omega) (fun b1 c2 hc3 hc4 => ?_))
 unfold maxLen at hc4
 have hbl5 := bs_len s
 refine .v (ev_as rfl rfl) rfl ?_
 refine .go idQ (.seq (.region ?_))
 refine .v (ev_mv rfl rfl) rfl ?_
 refine .cons (st_lit eY (e := 5) (l := [34]) rfl rfl rfl rfl (by kernel_rfl) rfl rfl (fun w => by kernel_rfl) (fun b6 => ?_))
 refine .cons (st_app (E := eY) (m := [34]) rfl rfl rfl rfl Try.underlying36 ai5 rfl rfl rfl (.t (.t .h)) (by first | rfl | omega | simp) (row_src 0 rfl) (by first | omega | simp only [LL] <;> omega | simp <;> omega) rfl (fun v7 => ?_))
 refine .v (ev_as rfl rfl) rfl ?_
 refine .go idQ (.seq (.seq (.region ?_)))
 refine .v (ev_as rfl rfl) rfl ?_
 refine .go idQ (.block ?_)
 refine .loop (X := Int × (List Int) × Value) (fun ⟨i, O, U⟩ => 0 ≤ i ∧ i ≤ s.size ∧ O ++ quoF ((bs s).drop i.toNat) = (o ++ [34] ++ quoF (bs s)) ∧ (O.length : Int) ≤ o.length + 1 + 6 * i) (fun ⟨i, O, U⟩ => [(0, U), (5, .string ⟨#[48, 49, 50, 51, 52, 53, 54, 55, 56, 57, 97, 98, 99, 100, 101, 102]⟩), (6, .slice (some ⟨b1, 0, none⟩) s.size c2), (7, .int .i64 i)]) (fun ⟨i, O, U⟩ => [rw_ eY 5 (U) O, ro_ eY 5 (.slice (some ⟨b1, 0, none⟩) s.size c2) (bs s)]) (fun _ => S) (fun _ => wf) (fun ⟨i, O, U⟩ => (s.size - i.toNat)) (fun a_ w_ hs_ hw_ => ⟨⟨0, (o ++ [34]), v7⟩, (by exact ⟨by omega, by omega, rfl, by simp only [List.length_append, List.length_cons, List.length_nil]; omega⟩), hs_.mono (Sub.get (.c rfl (.c rfl (.c rfl (.c rfl .n))))), hw_.keep (.c .h (.c (.t .h) .n))⟩) (fun ⟨i, O, U⟩ ⟨q_0, q_1, q_2, q_3⟩ => ?_)
 show SC _ _ _ _ _ ⟨[(0, U), (5, .string ⟨#[48, 49, 50, 51, 52, 53, 54, 55, 56, 57, 97, 98, 99, 100, 101, 102]⟩), (6, .slice (some ⟨b1, 0, none⟩) s.size c2), (7, .int .i64 i)], [rw_ eY 5 (U) O, ro_ eY 5 (.slice (some ⟨b1, 0, none⟩) s.size c2) (bs s)], S, wf⟩
 refine .seq (.seq (.region ?_))
 refine .v (ev_mv rfl rfl) rfl ?_
 refine .v (ev_mv rfl rfl) rfl ?_
 refine .v (ev_len rfl Try.underlying36 rfl) rfl ?_
 refine .v (ev_cmp rfl rfl rfl rfl) rfl ?_
 refine .go idQ ?_
 refine .condI rfl bD (fun h8 => ?_) (fun h8 => ?_)
 ·
  refine .skipgo idQ (.block (.seq (.region ?_)))
  refine .v (ev_mv rfl rfl) rfl ?_
  refine .v (ev_mv rfl rfl) rfl ?_
  refine .v (ev_slc rfl Try.underlying36 ty5 rfl (.s rfl (by omega)) .n (by omega) (by omega)) rfl ?_
  refine .cons (st_lendk rfl rfl rfl rfl hbd46 rfl .n (.c (.t .h) .n) (fun w_ hw => rune (cutA (some ⟨b1, 0, none⟩) c2 (i).toNat 1) (s.size - (i).toNat) (c2 - (i).toNat) (((bs s).take s.size).drop (i).toNat) _ _ (Fr.view (Fr.lendo hw 0 rfl (by first | omega | simp only [LL] <;> omega | simp <;> omega)) (i).toNat s.size 1 rfl (by omega)) (by first | omega | simp only [LL] <;> omega | simp <;> omega) (rng_drop (rng_take (bs_range _) _) _) (by omega)) ?_)
  refine .v (ev_as rfl rfl) rfl ?_
  refine .go idQ (.seq ?_)
  have hrb := rune_bd (s := s) (i := i) q_0 (by omega)
  refine .region ?_
  refine .v (ev_mv rfl rfl) rfl ?_
  refine .v (ev_mv rfl rfl) rfl ?_
  refine .v (ev_ix rfl Try.underlying36 ty5 rfl rfl (by omega) (by omega) (ro_adr (i := i) 1 rfl (by omega) (by first | omega | simp only [LL] <;> omega | simp <;> omega))) rfl ?_
  refine .v (ev_ld1 rfl ty5 rfl (At.elem1 (ro_el (E := eY) (l := (bs s)) (i := i) 1 rfl (by omega) (by first | omega | simp only [LL] <;> omega | simp <;> omega)) 0 rfl)) rfl ?_
  refine .v (ev_as rfl rfl) rfl ?_
  refine .go idQ (.seq (.block (.seq (.region ?_))))
  refine .v (ev_mv rfl rfl) rfl ?_
  refine .v (ev_cmp rfl rfl rfl rfl) rfl ?_
  refine .v (ev_as rfl rfl) rfl ?_
  refine .go idQ ?_
  refine .condI rfl bE (fun h9 => ?_) (fun h9 => ?_)
  ·
   refine .seq (.region ?_)
   refine .v (ev_mv rfl rfl) rfl ?_
   refine .cons (st_lit eY (e := 5) (l := [239, 191, 189]) rfl rfl rfl rfl (by kernel_rfl) rfl rfl (fun w => by kernel_rfl) (fun b10 => ?_))
   refine .cons (st_app (E := eY) (m := [239, 191, 189]) rfl rfl rfl rfl Try.underlying36 ai5 rfl rfl rfl (.t .h) (by first | rfl | omega | simp) (row_src 0 rfl) (by first | omega | simp only [LL] <;> omega | simp <;> omega) rfl (fun v11 => ?_))
   refine .v (ev_as rfl rfl) rfl ?_
   refine .go idQ (.region ?_)
   refine .v (ev_as rfl rfl) rfl ?_
   refine .go idQ (.region ?_)
   refine .v (ev_mv rfl rfl) rfl ?_
   refine .v (ev_mv rfl rfl) rfl ?_
   refine .v (ev_add rfl rfl rfl (r := (i + 1)) rfl (by omega) (by omega)) rfl ?_
   refine .v (ev_as rfl rfl) rfl ?_
   exact SP.nil (SQ.roundb (X := Int × (List Int) × Value) (x := (i, O, U)) ⟨(i + 1), (O ++ [239, 191, 189]), v11⟩ (by exact ⟨by omega, by omega, quo_go q_2 q_0 (by omega) (by omega) (qg_bad (by assumption)), by simp only [List.length_append, List.length_cons, List.length_nil, List.length_take, List.length_drop]; omega⟩) (by dsimp only; omega) (Sub.get (.c rfl (.c rfl (.c rfl (.c rfl .n))))) (fun w hw => hw.keep (.c .h (.c (.t .h) .n))))
  refine .seq (.region ?_)
  refine .v (ev_mv rfl rfl) rfl ?_
  refine .v (ev_cmp rfl rfl rfl rfl) rfl ?_
  refine .v (ev_mv rfl rfl) rfl ?_
  refine .w (fun _ => ev_mv rfl rfl) rfl ?_
  refine .w (fun hb => ev_cmp rfl (lkg rfl hb) rfl rfl) rfl ?_
  refine .v (ev_or rfl rfl rfl rfl) rfl ?_
  refine .v (ev_as rfl rfl) rfl ?_
  refine .go idQ ?_
  refine .condI rfl (bO bE bE) (fun h12 => ?_) (fun h12 => ?_)
  ·
   refine .region ?_
   refine .v (ev_mv rfl rfl) rfl ?_
   refine .v (ev_mv rfl rfl) rfl ?_
   refine .cons (st_lit eY (e := 5) (l := [92, (gt (bs s) i)]) rfl rfl rfl rfl (by kernel_rfl) rfl rfl (fun w => by kernel_rfl) (fun b13 => ?_))
   refine .cons (st_app (E := eY) (m := [92, (gt (bs s) i)]) rfl rfl rfl rfl Try.underlying36 ai5 rfl rfl rfl (.t .h) (by first | rfl | omega | simp) (row_src 0 rfl) (by first | omega | simp only [LL] <;> omega | simp <;> omega) rfl (fun v14 => ?_))
   refine .v (ev_as rfl rfl) rfl ?_
   refine .go idQ (.region ?_)
   refine .v (ev_mv rfl rfl) rfl ?_
   refine .v (ev_mv rfl rfl) rfl ?_
   refine .v (ev_add rfl rfl rfl (r := (i + (runeF (((bs s).take s.size).drop (i).toNat)))) rfl (by omega) (by omega)) rfl ?_
   refine .v (ev_as rfl rfl) rfl ?_
   exact SP.nil (SQ.roundb (X := Int × (List Int) × Value) (x := (i, O, U)) ⟨(i + (runeF (((bs s).take s.size).drop (i).toNat))), (O ++ [92, (gt (bs s) i)]), v14⟩ (by exact ⟨by omega, by omega, quo_go q_2 q_0 (by omega) (by omega) (qg_mark q_0 (by assumption) (by assumption)), by simp only [List.length_append, List.length_cons, List.length_nil, List.length_take, List.length_drop]; omega⟩) (by dsimp only; omega) (Sub.get (.c rfl (.c rfl (.c rfl (.c rfl .n))))) (fun w hw => hw.keep (.c .h (.c (.t .h) .n))))
  refine .seq (.region ?_)
  refine .v (ev_mv rfl rfl) rfl ?_
  refine .v (ev_cmp rfl rfl rfl rfl) rfl ?_
  refine .v (ev_as rfl rfl) rfl ?_
  refine .go idQ ?_
  refine .condI rfl bD (fun h15 => ?_) (fun h15 => ?_)
  ·
   have hrg := gt_range (bs_range s) i
   unfold isB at hrg
   refine SC.draw mo [rw_ eY 5 (U) O] [] (.c .h .n) (fun _ _ _ c hc => by cases hc) (fun wf_16 hl_16 hx_16 hR_16 => ?_)
   refine SR.k 0 rfl (by kernel_rfl) rfl (ev_mv rfl rfl) ?_
   refine SR.k 1 rfl (by kernel_rfl) rfl (ev_mv rfl rfl) ?_
   refine SR.k 2 rfl (by kernel_rfl) rfl (ev_mv rfl rfl) ?_
   refine SR.k 3 rfl (by kernel_rfl) rfl (ev_quon rfl rfl rfl (by omega) (by decide) (by first | exact wrap_small (by omega) (by omega) | exact wrap_in (by omega) (by omega))) ?_
   refine SR.k 4 rfl (by kernel_rfl) rfl (ev_ixs rfl Try.underlying9 rfl rfl (by omega) (by show _ < ((16 : Nat) : Int); omega)) ?_
   refine SR.k 5 rfl (by kernel_rfl) rfl (ev_mv rfl rfl) ?_
   refine SR.k 6 rfl (by kernel_rfl) rfl (ev_mv rfl rfl) ?_
   refine SR.k 7 rfl (by kernel_rfl) rfl (ev_remn rfl rfl rfl (by omega) (by decide) ) ?_
   refine SR.k 8 rfl (by kernel_rfl) rfl (ev_ixs rfl Try.underlying9 rfl rfl (by omega) (by show _ < ((16 : Nat) : Int); omega)) ?_
   refine SR.one (j := 9) (by kernel_rfl) rfl (st_lit eY (e := 5) (l := [92, 117, 48, 48, (gt (bs ⟨#[48, 49, 50, 51, 52, 53, 54, 55, 56, 57, 97, 98, 99, 100, 101, 102]⟩) ((gt (bs s) i) / 16)), (gt (bs ⟨#[48, 49, 50, 51, 52, 53, 54, 55, 56, 57, 97, 98, 99, 100, 101, 102]⟩) ((gt (bs s) i) % 16))]) rfl rfl rfl rfl (by kernel_rfl) rfl rfl (fun w => by kernel_rfl) (fun b17 => ⟨tt0, ?_⟩))
   refine SR.one (j := 10) (by kernel_rfl) rfl (st_app (E := eY) (m := [92, 117, 48, 48, (gt (bs ⟨#[48, 49, 50, 51, 52, 53, 54, 55, 56, 57, 97, 98, 99, 100, 101, 102]⟩) ((gt (bs s) i) / 16)), (gt (bs ⟨#[48, 49, 50, 51, 52, 53, 54, 55, 56, 57, 97, 98, 99, 100, 101, 102]⟩) ((gt (bs s) i) % 16))]) rfl rfl rfl rfl Try.underlying36 ai5 rfl rfl rfl (.t .h) (by first | rfl | omega | simp) (row_src 0 rfl) (by first | omega | simp only [LL] <;> omega | simp <;> omega) rfl (fun v18 => ⟨tt0, ?_⟩))
   refine SR.k 11 rfl (by kernel_rfl) rfl (ev_as rfl rfl) ?_
   refine SR.fin (by kernel_rfl) hl_16 hx_16 hR_16 (.c (.c .n)) ?_
   refine SQ.go idQ ?_
   refine .region ?_
   refine .v (ev_mv rfl rfl) rfl ?_
   refine .v (ev_mv rfl rfl) rfl ?_
   refine .v (ev_add rfl rfl rfl (r := (i + (runeF (((bs s).take s.size).drop (i).toNat)))) rfl (by omega) (by omega)) rfl ?_
   refine .v (ev_as rfl rfl) rfl ?_
   exact SP.nil (SQ.roundb (X := Int × (List Int) × Value) (x := (i, O, U)) ⟨(i + (runeF (((bs s).take s.size).drop (i).toNat))), (O ++ [92, 117, 48, 48, (gt (bs ⟨#[48, 49, 50, 51, 52, 53, 54, 55, 56, 57, 97, 98, 99, 100, 101, 102]⟩) ((gt (bs s) i) / 16)), (gt (bs ⟨#[48, 49, 50, 51, 52, 53, 54, 55, 56, 57, 97, 98, 99, 100, 101, 102]⟩) ((gt (bs s) i) % 16))]), v18⟩ (by exact ⟨by omega, by omega, quo_go q_2 q_0 (by omega) (by omega) (qg_low q_0 (by assumption) (by assumption) (by assumption)), by simp only [List.length_append, List.length_cons, List.length_nil, List.length_take, List.length_drop]; omega⟩) (by dsimp only; omega) (Sub.get (.c rfl (.c rfl (.c rfl (.c rfl .n))))) (fun w hw => hw.keep (.c .h (.c (.t .h) .n))))
  refine .region ?_
  refine .v (ev_mv rfl rfl) rfl ?_
  refine .v (ev_mv rfl rfl) rfl ?_
  refine .v (ev_mv rfl rfl) rfl ?_
  refine .v (ev_mv rfl rfl) rfl ?_
  refine .v (ev_mv rfl rfl) rfl ?_
  refine .v (ev_add rfl rfl rfl (r := (i + (runeF (((bs s).take s.size).drop (i).toNat)))) rfl (by omega) (by omega)) rfl ?_
  refine .v (ev_slc rfl Try.underlying36 ty5 rfl (.s rfl (by omega)) (.s rfl (by omega)) (by omega) (by omega)) rfl ?_
  refine .cons (st_app (E := eY) (m := (((bs s).take ((i + (runeF (((bs s).take s.size).drop (i).toNat)))).toNat).drop (i).toNat)) rfl rfl rfl rfl Try.underlying36 ai5 rfl rfl rfl .h (by (try simp only [List.length_take, List.length_drop]) <;> omega) (srcv 1 rfl (fun _ h_ => Fr.view (Fr.of_ro h_ (fun _ h => h) (by first | omega | simp only [LL] <;> omega | simp <;> omega)) (i).toNat ((i + (runeF (((bs s).take s.size).drop (i).toNat)))).toNat 1 rfl (by omega))) (by first | omega | simp only [LL] <;> omega | simp <;> omega) rfl (fun v19 => ?_))
  refine .v (ev_as rfl rfl) rfl ?_
  refine .go idQ (.region ?_)
  refine .v (ev_mv rfl rfl) rfl ?_
  refine .v (ev_mv rfl rfl) rfl ?_
  refine .v (ev_add rfl rfl rfl (r := (i + (runeF (((bs s).take s.size).drop (i).toNat)))) rfl (by omega) (by omega)) rfl ?_
  refine .v (ev_as rfl rfl) rfl ?_
  exact SP.nil (SQ.roundb (X := Int × (List Int) × Value) (x := (i, O, U)) ⟨(i + (runeF (((bs s).take s.size).drop (i).toNat))), (O ++ (((bs s).take ((i + (runeF (((bs s).take s.size).drop (i).toNat)))).toNat).drop (i).toNat)), v19⟩ (by exact ⟨by omega, by omega, quo_go q_2 q_0 (by omega) (by omega) (qg_raw q_0 (by assumption) (by assumption) (by assumption) (by omega) rfl), by simp only [List.length_append, List.length_cons, List.length_nil, List.length_take, List.length_drop]; omega⟩) (by dsimp only; omega) (Sub.get (.c rfl (.c rfl (.c rfl (.c rfl .n))))) (fun w hw => hw.keep (.c .h (.c .h .n))))
 refine .exit idQ ?_
 refine .seq (.region ?_)
 refine .v (ev_mv rfl rfl) rfl ?_
 refine .cons (st_lit eY (e := 5) (l := [34]) rfl rfl rfl rfl (by kernel_rfl) rfl rfl (fun w => by kernel_rfl) (fun b20 => ?_))
 refine .cons (st_app (E := eY) (m := [34]) rfl rfl rfl rfl Try.underlying36 ai5 rfl rfl rfl (.t .h) (by first | rfl | omega | simp) (row_src 0 rfl) (by first | omega | simp only [LL] <;> omega | simp <;> omega) rfl (fun v21 => ?_))
 refine .v (ev_as rfl rfl) rfl ?_
 refine .go idQ ?_
 exact .ret idQ (ret1 Try.results52 rfl (.c .h .n) ⟨v21, rfl, (by rw [quo_end q_2 (by omega), quoteF]; simp)⟩)
theorem numtxt0 (a : Int) (S : Nat → Prop) (wf : World) (h0 : 0 ≤ a) (h1 : a ≤ 9223372036854775807) :
  TR0 Try.prog 51 [.int .i64 a] [] S wf (fun v_ C_ => v_ = .string (numS a) ∧ C_ = []) := by
 refine TR.mk Try.func51 rfl Try.ntmps51 rfl rfl (fun w_ => ?_)
 refine .seq (.region ?_)
 refine .v (ev_as rfl rfl) rfl ?_
 refine .go idQ (.seq (.seq (.region ?_)))
 refine .v (ev_mv rfl rfl) rfl ?_
 refine .v (ev_cmp rfl rfl rfl rfl) rfl ?_
 refine .go idQ ?_
 refine .condI rfl bE (fun h1 => ?_) (fun h1 => ?_)
 ·
  exfalso; omega
 refine .skipgo idQ (.seq (.seq (.region ?_)))
 refine .v (ev_mv rfl rfl) rfl ?_
 refine .v (ev_cmp rfl rfl rfl rfl) rfl ?_
 refine .go idQ ?_
 refine .condI rfl bD (fun h2 => ?_) (fun h2 => ?_)
 ·
  exfalso; omega
 refine .skipgo idQ (.seq (.region ?_))
 refine .v (ev_as rfl rfl) rfl ?_
 refine .go idQ (.block ?_)
 refine .loop (X := Int × ByteArray) (fun ⟨x, s⟩ => 0 ≤ x ∧ x ≤ a ∧ decL x.toNat ++ bs s = decL a.toNat ∧ (s.size : Int) + x ≤ a ∧ (s.size = 0 ∨ 1 ≤ x)) (fun ⟨x, s⟩ => [(0, .int .i64 x), (3, .string s)]) (fun ⟨x, s⟩ => []) (fun _ => S) (fun _ => wf) (fun ⟨x, s⟩ => x.toNat) (fun a_ w_ hs_ hw_ => ⟨⟨a, ⟨#[]⟩⟩, (by exact ⟨by omega, by omega, by rw [show bs ⟨#[]⟩ = [] from rfl, List.append_nil], by show ((0 : Nat) : Int) + a ≤ a; omega, .inl rfl⟩), hs_.mono (Sub.get (.c rfl (.c rfl .n))), hw_.keep .n⟩) (fun ⟨x, s⟩ ⟨q_0, q_1, q_2, q_3, q_4⟩ => ?_)
 show SC _ _ _ _ _ ⟨[(0, .int .i64 x), (3, .string s)], [], S, wf⟩
 refine .block (.seq (.region ?_))
 refine .v (ev_mv rfl rfl) rfl ?_
 refine .v (ev_remn rfl rfl rfl (by omega) (by decide) ) rfl ?_
 refine .v (ev_add rfl rfl rfl (r := (48 + (x % 10))) rfl (by omega) (by omega)) rfl ?_
 refine .v (ev_cv rfl Try.underlying3 Try.underlying5 rfl (wrap_small (by omega) (by omega))) rfl ?_
 refine .cons (st_lit eY (e := 5) (l := [(48 + (x % 10))]) rfl rfl rfl rfl (by kernel_rfl) rfl rfl (fun w => by kernel_rfl) (fun b3 => ?_))
 refine .v (ev_b2s (l := [(48 + (x % 10))]) rfl Try.underlying36 Try.underlying5 Try.underlying9 rfl (by first | rfl | assumption | omega | ((try simp only [List.length_take, List.length_drop, List.length_append, List.length_cons, List.length_nil]) <;> omega)) (row_src 0 rfl)) rfl ?_
 refine .v (ev_mv rfl rfl) rfl ?_
 refine .v (ev_sadd rfl rfl rfl (by first | omega | (simp only [mkS_size, List.length_cons, List.length_nil]; omega))) rfl ?_
 refine .v (ev_as rfl rfl) rfl ?_
 refine .go idQ (.seq (.region ?_))
 refine .v (ev_mv rfl rfl) rfl ?_
 refine .v (ev_quon rfl rfl rfl (by omega) (by decide) (by first | exact wrap_small (by omega) (by omega) | exact wrap_in (by omega) (by omega))) rfl ?_
 refine .v (ev_as rfl rfl) rfl ?_
 refine .go idQ (.seq (.region ?_))
 refine .v (ev_mv rfl rfl) rfl ?_
 refine .v (ev_cmp rfl rfl rfl rfl) rfl ?_
 refine .go idQ ?_
 refine .condI rfl bE (fun h4 => ?_) (fun h4 => ?_)
 ·
  refine .seq (.region ?_)
  refine .v (ev_mv rfl rfl) rfl ?_
  refine .v (ev_as rfl rfl) rfl ?_
  refine .go idQ ?_
  exact .ret idQ (ret1 Try.results51 rfl .n ⟨(congrArg Value.string (num_done q_2 (by omega) (by omega) (by omega))), rfl⟩)
 exact .skip (SQ.roundb (X := Int × ByteArray) (x := (x, s)) ⟨(x / 10), ((mkS [(48 + (x % 10))]) ++ s)⟩ (by exact ⟨by omega, by omega, num_next q_2 (by omega) (by assumption), by rw [dig_size]; omega, .inr (by omega)⟩) (by dsimp only; omega) (Sub.get (.c rfl (.c rfl .n))) (fun w hw => hw.keep .n))
theorem numtxt (a : Int) (S : Nat → Prop) (wf : World) (h_a : -9223372036854775808 ≤ a ∧ a ≤ 9223372036854775807) :
  TR0 Try.prog 51 [.int .i64 a] [] S wf (fun v_ C_ => v_ = .string (numS a) ∧ C_ = []) := by
 refine TR.mk Try.func51 rfl Try.ntmps51 rfl rfl (fun w_ => ?_)
 refine .seq (.region ?_)
 refine .v (ev_as rfl rfl) rfl ?_
 refine .go idQ (.seq (.seq (.region ?_)))
 refine .v (ev_mv rfl rfl) rfl ?_
 refine .v (ev_cmp rfl rfl rfl rfl) rfl ?_
 refine .go idQ ?_
 refine .condI rfl bE (fun h1 => ?_) (fun h1 => ?_)
 ·
  refine .seq (.region ?_)
  refine .v (ev_as rfl rfl) rfl ?_
  refine .go idQ ?_
  exact .ret idQ (ret1 Try.results51 rfl .n ⟨(congrArg Value.string (by rw [show a = -9223372036854775808 by omega]; exact num_min)), rfl⟩)
 refine .skipgo idQ (.seq (.seq (.region ?_)))
 refine .v (ev_mv rfl rfl) rfl ?_
 refine .v (ev_cmp rfl rfl rfl rfl) rfl ?_
 refine .go idQ ?_
 refine .condI rfl bD (fun h2 => ?_) (fun h2 => ?_)
 ·
  refine .seq ?_
  have hns := numS_size (a := -a) (by omega) (by omega)
  refine .region ?_
  refine .v (ev_mv rfl rfl) rfl ?_
  refine .v (ev_neg rfl rfl (by omega) (by omega)) rfl ?_
  refine .cons (st_callk rfl rfl rfl rfl hbd51 rfl .n (numtxt0 (-a) _ _ (by omega) (by omega)) ?_)
  refine .v (ev_sadd rfl rfl rfl (by show (((1 : Nat) + (_ : Nat) : Nat) : Int) ≤ 9223372036854775807; first | omega | (simp only [mkS_size, List.length_cons, List.length_nil]; omega))) rfl ?_
  refine .v (ev_as rfl rfl) rfl ?_
  refine .go idQ ?_
  exact .ret idQ (ret1 Try.results51 rfl .n ⟨(congrArg Value.string (num_neg (by omega))), rfl⟩)
 refine .skipgo idQ (.seq (.region ?_))
 refine .v (ev_as rfl rfl) rfl ?_
 refine .go idQ (.block ?_)
 refine .loop (X := Int × ByteArray) (fun ⟨x, s⟩ => 0 ≤ x ∧ x ≤ a ∧ decL x.toNat ++ bs s = decL a.toNat ∧ (s.size : Int) + x ≤ a ∧ (s.size = 0 ∨ 1 ≤ x)) (fun ⟨x, s⟩ => [(0, .int .i64 x), (3, .string s)]) (fun ⟨x, s⟩ => []) (fun _ => S) (fun _ => wf) (fun ⟨x, s⟩ => x.toNat) (fun a_ w_ hs_ hw_ => ⟨⟨a, ⟨#[]⟩⟩, (by exact ⟨by omega, by omega, by rw [show bs ⟨#[]⟩ = [] from rfl, List.append_nil], by show ((0 : Nat) : Int) + a ≤ a; omega, .inl rfl⟩), hs_.mono (Sub.get (.c rfl (.c rfl .n))), hw_.keep .n⟩) (fun ⟨x, s⟩ ⟨q_0, q_1, q_2, q_3, q_4⟩ => ?_)
 show SC _ _ _ _ _ ⟨[(0, .int .i64 x), (3, .string s)], [], S, wf⟩
 refine .block (.seq (.region ?_))
 refine .v (ev_mv rfl rfl) rfl ?_
 refine .v (ev_remn rfl rfl rfl (by omega) (by decide) ) rfl ?_
 refine .v (ev_add rfl rfl rfl (r := (48 + (x % 10))) rfl (by omega) (by omega)) rfl ?_
 refine .v (ev_cv rfl Try.underlying3 Try.underlying5 rfl (wrap_small (by omega) (by omega))) rfl ?_
 refine .cons (st_lit eY (e := 5) (l := [(48 + (x % 10))]) rfl rfl rfl rfl (by kernel_rfl) rfl rfl (fun w => by kernel_rfl) (fun b3 => ?_))
 refine .v (ev_b2s (l := [(48 + (x % 10))]) rfl Try.underlying36 Try.underlying5 Try.underlying9 rfl (by first | rfl | assumption | omega | ((try simp only [List.length_take, List.length_drop, List.length_append, List.length_cons, List.length_nil]) <;> omega)) (row_src 0 rfl)) rfl ?_
 refine .v (ev_mv rfl rfl) rfl ?_
 refine .v (ev_sadd rfl rfl rfl (by first | omega | (simp only [mkS_size, List.length_cons, List.length_nil]; omega))) rfl ?_
 refine .v (ev_as rfl rfl) rfl ?_
 refine .go idQ (.seq (.region ?_))
 refine .v (ev_mv rfl rfl) rfl ?_
 refine .v (ev_quon rfl rfl rfl (by omega) (by decide) (by first | exact wrap_small (by omega) (by omega) | exact wrap_in (by omega) (by omega))) rfl ?_
 refine .v (ev_as rfl rfl) rfl ?_
 refine .go idQ (.seq (.region ?_))
 refine .v (ev_mv rfl rfl) rfl ?_
 refine .v (ev_cmp rfl rfl rfl rfl) rfl ?_
 refine .go idQ ?_
 refine .condI rfl bE (fun h4 => ?_) (fun h4 => ?_)
 ·
  refine .seq (.region ?_)
  refine .v (ev_mv rfl rfl) rfl ?_
  refine .v (ev_as rfl rfl) rfl ?_
  refine .go idQ ?_
  exact .ret idQ (ret1 Try.results51 rfl .n ⟨(congrArg Value.string (num_done q_2 (by omega) (by omega) (by omega))), rfl⟩)
 exact .skip (SQ.roundb (X := Int × ByteArray) (x := (x, s)) ⟨(x / 10), ((mkS [(48 + (x % 10))]) ++ s)⟩ (by exact ⟨by omega, by omega, num_next q_2 (by omega) (by assumption), by rw [dig_size]; omega, .inr (by omega)⟩) (by dsimp only; omega) (Sub.get (.c rfl (.c rfl .n))) (fun w hw => hw.keep .n))
end Go.Proofs.Ythmkelkefmfmgaa.Sx
set_option maxRecDepth 20000
set_option maxHeartbeats 4000000
namespace Go.Proofs.Ythmkelkefmfmgaa.Sx.FB
open Go Go.SX Go.Proofs
theorem fo90_1 : fo Try.prog 90 1 = some 1 := by kernel_rfl
theorem ty4 : ty Try.prog 4 = some (false, 1) := by kernel_rfl
theorem fo90_0 : fo Try.prog 90 0 = some 0 := by kernel_rfl
theorem ty88 : ty Try.prog 88 = some (false, 1) := by kernel_rfl
theorem fo90_2 : fo Try.prog 90 2 = some 2 := by kernel_rfl
theorem ty3 : ty Try.prog 3 = some (false, 1) := by kernel_rfl
theorem fo90_3 : fo Try.prog 90 3 = some 3 := by kernel_rfl
theorem ty9 : ty Try.prog 9 = some (false, 1) := by kernel_rfl
theorem fo90_5 : fo Try.prog 90 5 = some 5 := by kernel_rfl
theorem ty56 : ty Try.prog 56 = some (false, 1) := by kernel_rfl
theorem hbd47 : hasBody Try.prog 47 = true := by kernel_rfl
theorem hbd19 : hasBody Try.prog 19 = true := by kernel_rfl
theorem fo90_4 : fo Try.prog 90 4 = some 4 := by kernel_rfl
theorem ty82 : ty Try.prog 82 = some (false, 1) := by kernel_rfl
theorem mo : Try.prog.follows .mixedOrders = true := by kernel_rfl
theorem ai3 : (Try.prog.info? 3).map (fun i => (i.zero, i.size, i.bytes)) = some (some (.int .i64 0), 1, 8) := by kernel_rfl
theorem ty90 : ty Try.prog 90 = some (true, 6) := by kernel_rfl
theorem hbd50 : hasBody Try.prog 50 = true := by kernel_rfl
end Go.Proofs.Ythmkelkefmfmgaa.Sx.FB
namespace Go.Proofs.Ythmkelkefmfmgaa.Sx
open Go Go.SX Go.Proofs FB
theorem plain_ (k : Int) (b : Bool) (n : Int) (s : ByteArray) (nA : Option Addr) (nc : Nat) (ns : List ByteArray) (kA : Option Addr) (kc : Nat) (ks : List Int) (S : Nat → Prop) (wf : World) (hN : Fr eS S wf nA ns) (hK : Fr eZ S wf kA ks) (hs : s.size ≤ 1000000) (hns : ∀ x ∈ ns, x.size ≤ 1000000) :
  TR0 Try.prog 50 [.agg #[.int .i64 k, .bool b, .int .i64 n, .string s, .slice nA ns.length nc, .slice kA ks.length kc]] [] S wf (fun v_ C_ => ∃ (r : Bool), (r = true ↔ plainP (TN.mk k b n s ns ks)) ∧ v_ = .bool r ∧ C_ = []) := by
 have hla := hN.len
 have hlb := hK.len
 refine TR.mk Try.func50 rfl Try.ntmps50 rfl rfl (fun w_ => ?_)
 refine .seq (.region ?_)
 refine .cons (st_boxa rfl rfl rfl rfl rfl (fun b1 => ?_))
 refine .v (ev_as rfl rfl) rfl ?_
 refine .go idQ (.seq (.seq (.region ?_)))
 refine .v (ev_fa rfl fo90_1 rfl (r := 1) rfl) rfl ?_
 refine .v (ev_ld1 rfl ty4 rfl (At.own1 0 rfl rfl)) rfl ?_
 refine .v (ev_mv rfl rfl) rfl ?_
 refine .w (fun _ => ev_fa rfl fo90_0 rfl (r := 0) rfl) rfl ?_
 refine .w (fun hb => ev_ld1 rfl ty88 (lkg rfl hb) (At.own1 0 rfl rfl)) rfl ?_
 refine .w (fun hb => ev_cmp rfl (lkg rfl hb) rfl rfl) rfl ?_
 refine .v (ev_and rfl rfl rfl rfl) rfl ?_
 refine .v (ev_mv rfl rfl) rfl ?_
 refine .w (fun _ => ev_fa rfl fo90_2 rfl (r := 2) rfl) rfl ?_
 refine .w (fun hb => ev_ld1 rfl ty3 (lkg rfl hb) (At.own1 0 rfl rfl)) rfl ?_
 refine .w (fun hb => ev_cmp rfl (lkg rfl hb) rfl rfl) rfl ?_
 refine .w (fun hb => ev_mv rfl (lkg rfl hb)) rfl ?_
 rcases Bool.eq_false_or_eq_true (b && (k != 2)) with hb2 | hb2
 ·
  have hb2_ := bT (bA bV bNE) hb2
  refine SP.reslotv (t := 16) rfl (gv_off hb2) ?_
  refine .cons (.offu rfl rfl rfl rfl rfl ?_)
  refine .cons (.offu rfl rfl rfl rfl rfl ?_)
  refine .cons (.offu rfl rfl rfl rfl rfl ?_)
  refine SP.reslot (t := 12) rfl hb2 ?_
  refine .cons (.off rfl rfl rfl rfl rfl rfl ?_)
  refine .v (ev_pickt rfl rfl rfl rfl) rfl ?_
  refine .v (ev_mv rfl rfl) rfl ?_
  refine .cons (.off rfl rfl rfl rfl rfl rfl ?_)
  refine .cons (.off rfl rfl rfl rfl rfl rfl ?_)
  refine .cons (.off rfl rfl rfl rfl rfl rfl ?_)
  refine .cons (.off rfl rfl rfl rfl rfl rfl ?_)
  refine .cons (.offu rfl rfl rfl rfl rfl ?_)
  refine .cons (.offu rfl rfl rfl rfl rfl ?_)
  refine .cons (.offu rfl rfl rfl rfl rfl ?_)
  refine .cons (.off rfl rfl rfl rfl rfl rfl ?_)
  refine .v (ev_pickt rfl rfl rfl rfl) rfl ?_
  refine .v (ev_mv rfl rfl) rfl ?_
  refine .cons (.off rfl rfl rfl rfl rfl rfl ?_)
  refine .cons (.off rfl rfl rfl rfl rfl rfl ?_)
  refine .cons (.off rfl rfl rfl rfl rfl rfl ?_)
  refine .cons (.off rfl rfl rfl rfl rfl rfl ?_)
  refine .cons (.off rfl rfl rfl rfl rfl rfl ?_)
  refine .cons (.offu rfl rfl rfl rfl rfl ?_)
  refine .cons (.offu rfl rfl rfl rfl rfl ?_)
  refine .cons (.offu rfl rfl rfl rfl rfl ?_)
  refine .cons (.off rfl rfl rfl rfl rfl rfl ?_)
  refine .cons (.off rfl rfl rfl rfl rfl rfl ?_)
  refine .cons (.offu rfl rfl rfl rfl rfl ?_)
  refine .cons (.offu rfl rfl rfl rfl rfl ?_)
  refine .cons (.offu rfl rfl rfl rfl rfl ?_)
  refine .cons (.off rfl rfl rfl rfl rfl rfl ?_)
  refine .v (ev_pickt rfl rfl rfl rfl) rfl ?_
  refine .go idQ ?_
  refine .cond_t rfl ?_
  refine .seq (.region ?_)
  refine .v (ev_as rfl rfl) rfl ?_
  refine .go idQ ?_
  exact .ret idQ (ret1 Try.results50 rfl .n ⟨false, (pl_1 (v := (TN.mk k b n s ns ks)) (by first | exact .inl (.inl (.inl ‹_›)) | exact .inl (.inl (.inr ‹_›)) | exact .inl (.inr ‹_›) | exact .inr ‹_› | assumption)), rfl, rfl⟩)
 have hb2_ := bF (bA bV bNE) hb2
 refine SP.reslotv (t := 16) rfl (gv_on hb2) ?_
 refine .w (fun _ => ev_fa rfl fo90_0 rfl (r := 0) rfl) rfl ?_
 refine .w (fun hb => ev_ld1 rfl ty88 (lkg rfl hb) (At.own1 0 rfl rfl)) rfl ?_
 refine .w (fun hb => ev_cmp rfl (lkg rfl hb) rfl rfl) rfl ?_
 refine SP.reslot (t := 12) rfl hb2 ?_
 refine .cons (.on rfl rfl rfl (Ev.step (ev_and rfl rfl rfl rfl) rfl rfl rfl ?_))
 refine .v (ev_pickf rfl rfl rfl rfl) rfl ?_
 refine .v (ev_mv rfl rfl) rfl ?_
 refine .w (fun _ => ev_fa rfl fo90_3 rfl (r := 3) rfl) rfl ?_
 refine .w (fun hb => ev_ld1 rfl ty9 (lkg rfl hb) (At.own1 0 rfl rfl)) rfl ?_
 refine .w (fun hb => ev_scmp rfl (lkg rfl hb) rfl rfl) rfl ?_
 refine .w (fun hb => ev_mv rfl (lkg rfl hb)) rfl ?_
 rcases Bool.eq_false_or_eq_true ((n != 0) && (k != 3)) with hb3 | hb3
 ·
  have hb3_ := bT (bA bNE bNE) hb3
  refine SP.reslotv (t := 26) rfl (gv_off hb3) ?_
  refine .cons (.offu rfl rfl rfl rfl rfl ?_)
  refine .cons (.offu rfl rfl rfl rfl rfl ?_)
  refine .cons (.offu rfl rfl rfl rfl rfl ?_)
  refine SP.reslot (t := 22) rfl hb3 ?_
  refine .cons (.off rfl rfl rfl rfl rfl rfl ?_)
  refine .v (ev_pickt rfl rfl rfl rfl) rfl ?_
  refine .v (ev_mv rfl rfl) rfl ?_
  refine .cons (.off rfl rfl rfl rfl rfl rfl ?_)
  refine .cons (.off rfl rfl rfl rfl rfl rfl ?_)
  refine .cons (.off rfl rfl rfl rfl rfl rfl ?_)
  refine .cons (.off rfl rfl rfl rfl rfl rfl ?_)
  refine .cons (.off rfl rfl rfl rfl rfl rfl ?_)
  refine .cons (.offu rfl rfl rfl rfl rfl ?_)
  refine .cons (.offu rfl rfl rfl rfl rfl ?_)
  refine .cons (.offu rfl rfl rfl rfl rfl ?_)
  refine .cons (.off rfl rfl rfl rfl rfl rfl ?_)
  refine .cons (.off rfl rfl rfl rfl rfl rfl ?_)
  refine .cons (.offu rfl rfl rfl rfl rfl ?_)
  refine .cons (.offu rfl rfl rfl rfl rfl ?_)
  refine .cons (.offu rfl rfl rfl rfl rfl ?_)
  refine .cons (.off rfl rfl rfl rfl rfl rfl ?_)
  refine .v (ev_pickt rfl rfl rfl rfl) rfl ?_
  refine .go idQ ?_
  refine .cond_t rfl ?_
  refine .seq (.region ?_)
  refine .v (ev_as rfl rfl) rfl ?_
  refine .go idQ ?_
  exact .ret idQ (ret1 Try.results50 rfl .n ⟨false, (pl_1 (v := (TN.mk k b n s ns ks)) (by first | exact .inl (.inl (.inl ‹_›)) | exact .inl (.inl (.inr ‹_›)) | exact .inl (.inr ‹_›) | exact .inr ‹_› | assumption)), rfl, rfl⟩)
 have hb3_ := bF (bA bNE bNE) hb3
 refine SP.reslotv (t := 26) rfl (gv_on hb3) ?_
 refine .w (fun _ => ev_fa rfl fo90_0 rfl (r := 0) rfl) rfl ?_
 refine .w (fun hb => ev_ld1 rfl ty88 (lkg rfl hb) (At.own1 0 rfl rfl)) rfl ?_
 refine .w (fun hb => ev_cmp rfl (lkg rfl hb) rfl rfl) rfl ?_
 refine SP.reslot (t := 22) rfl hb3 ?_
 refine .cons (.on rfl rfl rfl (Ev.step (ev_and rfl rfl rfl rfl) rfl rfl rfl ?_))
 refine .v (ev_pickf rfl rfl rfl rfl) rfl ?_
 refine .v (ev_mv rfl rfl) rfl ?_
 refine .w (fun _ => ev_fa rfl fo90_5 rfl (r := 5) rfl) rfl ?_
 refine .w (fun hb => ev_ld1 rfl ty56 (lkg rfl hb) (At.own1 0 rfl rfl)) rfl ?_
 refine .w (fun hb => ev_len rfl Try.underlying56 (lkg rfl hb)) rfl ?_
 refine .w (fun hb => ev_cmp rfl (lkg rfl hb) rfl rfl) rfl ?_
 refine .w (fun hb => ev_mv rfl (lkg rfl hb)) rfl ?_
 rcases Bool.eq_false_or_eq_true ((!(s.toList == (⟨#[]⟩ : ByteArray).toList)) && (k != 4)) with hb4 | hb4
 ·
  have hb4_ := bT (bA bV bNE) hb4
  refine SP.reslotv (t := 37) rfl (gv_off hb4) ?_
  refine .cons (.offu rfl rfl rfl rfl rfl ?_)
  refine .cons (.offu rfl rfl rfl rfl rfl ?_)
  refine .cons (.offu rfl rfl rfl rfl rfl ?_)
  refine SP.reslot (t := 32) rfl hb4 ?_
  refine .cons (.off rfl rfl rfl rfl rfl rfl ?_)
  refine .cons (.off rfl rfl rfl rfl rfl rfl ?_)
  refine .cons (.offu rfl rfl rfl rfl rfl ?_)
  refine .cons (.offu rfl rfl rfl rfl rfl ?_)
  refine .cons (.offu rfl rfl rfl rfl rfl ?_)
  refine .cons (.off rfl rfl rfl rfl rfl rfl ?_)
  refine .v (ev_pickt rfl rfl rfl rfl) rfl ?_
  refine .go idQ ?_
  refine .cond_t rfl ?_
  refine .seq (.region ?_)
  refine .v (ev_as rfl rfl) rfl ?_
  refine .go idQ ?_
  exact .ret idQ (ret1 Try.results50 rfl .n ⟨false, (pl_1 (v := (TN.mk k b n s ns ks)) (by first | exact .inl (.inl (.inl ‹_›)) | exact .inl (.inl (.inr ‹_›)) | exact .inl (.inr ‹_›) | exact .inr ‹_› | assumption)), rfl, rfl⟩)
 have hb4_ := bF (bA bV bNE) hb4
 refine SP.reslotv (t := 37) rfl (gv_on hb4) ?_
 refine .w (fun _ => ev_fa rfl fo90_0 rfl (r := 0) rfl) rfl ?_
 refine .w (fun hb => ev_ld1 rfl ty88 (lkg rfl hb) (At.own1 0 rfl rfl)) rfl ?_
 refine .w (fun hb => ev_cmp rfl (lkg rfl hb) rfl rfl) rfl ?_
 refine SP.reslot (t := 32) rfl hb4 ?_
 refine .cons (.on rfl rfl rfl (Ev.step (ev_and rfl rfl rfl rfl) rfl rfl rfl ?_))
 refine .cons (.on rfl rfl rfl (Ev.step (ev_mv rfl rfl) rfl rfl rfl ?_))
 refine .w (fun _ => ev_fa rfl fo90_0 rfl (r := 0) rfl) rfl ?_
 refine .w (fun hb => ev_ld1 rfl ty88 (lkg rfl hb) (At.own1 0 rfl rfl)) rfl ?_
 refine .w (fun hb => ev_cmp rfl (lkg rfl hb) rfl rfl) rfl ?_
 refine .cons (.on rfl rfl rfl (Ev.step (ev_and rfl rfl rfl rfl) rfl rfl rfl ?_))
 refine .v (ev_pickf rfl rfl rfl rfl) rfl ?_
 refine .go idQ ?_
 refine .condI rfl (bA (bA bD bNE) bNE) (fun h5 => ?_) (fun h5 => ?_)
 ·
  refine .seq (.region ?_)
  refine .v (ev_as rfl rfl) rfl ?_
  refine .go idQ ?_
  exact .ret idQ (ret1 Try.results50 rfl .n ⟨false, (pl_1 (v := (TN.mk k b n s ns ks)) (by first | exact .inl (.inl (.inl ‹_›)) | exact .inl (.inl (.inr ‹_›)) | exact .inl (.inr ‹_›) | exact .inr ‹_› | assumption)), rfl, rfl⟩)
 refine .skipgo idQ (.seq (.seq ?_))
 have hp1 : ¬ pc1 (TN.mk k b n s ns ks) := by
  unfold pc1
  first | assumption | (rintro (((e | e) | e) | e) <;> exact absurd e (by assumption))
 refine .region ?_
 refine .v (ev_fa rfl fo90_0 rfl (r := 0) rfl) rfl ?_
 refine .v (ev_ld1 rfl ty88 rfl (At.own1 0 rfl rfl)) rfl ?_
 refine .v (ev_cmp rfl rfl rfl rfl) rfl ?_
 refine .v (ev_mv rfl rfl) rfl ?_
 refine .w (fun _ => ev_fa rfl fo90_0 rfl (r := 0) rfl) rfl ?_
 refine .w (fun hb => ev_ld1 rfl ty88 (lkg rfl hb) (At.own1 0 rfl rfl)) rfl ?_
 refine .w (fun hb => ev_cmp rfl (lkg rfl hb) rfl rfl) rfl ?_
 refine .v (ev_or rfl rfl rfl rfl) rfl ?_
 refine .v (ev_mv rfl rfl) rfl ?_
 refine .w (fun _ => ev_fa rfl fo90_2 rfl (r := 2) rfl) rfl ?_
 refine .w (fun hb => ev_ld1 rfl ty3 (lkg rfl hb) (At.own1 0 rfl rfl)) rfl ?_
 refine .cons (st_gcallk rfl rfl rfl rfl rfl rfl hbd47 (fun hb => (lkA1 (lkg rfl hb) lkA0)) .n (fun hb => have hp := bF (bO bD bD) hb; fits1 n _ _) ?_)
 refine .w (fun hb => ev_not rfl (lkg rfl hb)) rfl ?_
 refine .v (ev_or rfl rfl rfl rfl) rfl ?_
 refine .v (ev_mv rfl rfl) rfl ?_
 refine .w (fun _ => ev_fa rfl fo90_3 rfl (r := 3) rfl) rfl ?_
 refine .w (fun hb => ev_ld1 rfl ty9 (lkg rfl hb) (At.own1 0 rfl rfl)) rfl ?_
 refine .cons (st_gcallk rfl rfl rfl rfl rfl rfl hbd19 (fun hb => (lkA1 (lkg rfl hb) lkA0)) .n (fun hb => have hp := bF (bO (bO bD bD) (bN (bA bD bD))) hb; utf s _ _ (by first | omega | exact Nat.le_trans (hns _ (gt_mem (by omega) (by omega))) (by decide))) ?_)
 refine .w (fun hb => ev_not rfl (lkg rfl hb)) rfl ?_
 refine .v (ev_or rfl rfl rfl rfl) rfl ?_
 refine .go idQ ?_
 refine .condI rfl (bO (bO (bO bD bD) (bN (bA bD bD))) (bN bV)) (fun h6 => ?_) (fun h6 => ?_)
 ·
  refine .seq (.region ?_)
  refine .v (ev_as rfl rfl) rfl ?_
  refine .go idQ ?_
  exact .ret idQ (ret1 Try.results50 rfl .n ⟨false, (pl_2 (v := (TN.mk k b n s ns ks)) (by first | exact .inl (.inl (.inl ‹_›)) | exact .inl (.inl (.inr ‹_›)) | exact .inl (.inr ‹_›) | exact .inr ‹_› | assumption)), rfl, rfl⟩)
 refine .skipgo idQ (.seq (.seq ?_))
 have hp2 : ¬ pc2 (TN.mk k b n s ns ks) := by
  unfold pc2
  first | assumption | (rintro (((e | e) | e) | e) <;> exact absurd e (by assumption))
 refine .region ?_
 refine .v (ev_fa rfl fo90_0 rfl (r := 0) rfl) rfl ?_
 refine .v (ev_ld1 rfl ty88 rfl (At.own1 0 rfl rfl)) rfl ?_
 refine .v (ev_cmp rfl rfl rfl rfl) rfl ?_
 refine .go idQ ?_
 refine .condI rfl bNE (fun h7 => ?_) (fun h7 => ?_)
 ·
  refine .seq (.region ?_)
  refine .v (ev_fa rfl fo90_4 rfl (r := 4) rfl) rfl ?_
  refine .v (ev_ld1 rfl ty82 rfl (At.own1 0 rfl rfl)) rfl ?_
  refine .v (ev_len rfl Try.underlying82 rfl) rfl ?_
  refine .v (ev_cmp rfl rfl rfl rfl) rfl ?_
  refine .v (ev_as rfl rfl) rfl ?_
  refine .go idQ ?_
  exact .ret idQ (ret1 Try.results50 rfl .n ⟨((ns.length : Int) == 0), (pl_3 (v := (TN.mk k b n s ns ks)) hp1 hp2 (by assumption) (by simp)), rfl, rfl⟩)
 refine .skipgo idQ (.seq (.seq ?_))
 have hk6 := h7
 refine .region ?_
 refine .v (ev_as rfl rfl) rfl ?_
 refine .go idQ (.block ?_)
 refine .loop (X := Int) (fun i => 0 ≤ i ∧ i ≤ ns.length ∧ (∀ i' : Int, 0 ≤ i' → i' < i → utfF (bs (gt ns i')) = true ∧ ∀ j : Int, 0 ≤ j → j < i' → ¬ ((gt ns j).toList == (gt ns i').toList) = true)) (fun i => [(1, .pointer (some ⟨b1, 0, none⟩)), (3, .int .i64 i)]) (fun i => [cel b1 [.int .i64 k, .bool b, .int .i64 n, .string s, .slice nA ns.length nc, .slice kA ks.length kc] 90]) (fun _ => S) (fun _ => wf) (fun i => (ns.length - i.toNat)) (fun a_ w_ hs_ hw_ => ⟨0, (by exact ⟨by omega, by omega, fun i' a b => by omega⟩), hs_.mono (Sub.get (.c rfl (.c rfl .n))), hw_.keep (.c .h .n)⟩) (fun i ⟨q_0, q_1, q_2⟩ => ?_)
 show SC _ _ _ _ _ ⟨[(1, .pointer (some ⟨b1, 0, none⟩)), (3, .int .i64 i)], [cel b1 [.int .i64 k, .bool b, .int .i64 n, .string s, .slice nA ns.length nc, .slice kA ks.length kc] 90], S, wf⟩
 refine .seq (.seq (.region ?_))
 refine .v (ev_mv rfl rfl) rfl ?_
 refine .v (ev_fa rfl fo90_4 rfl (r := 4) rfl) rfl ?_
 refine .v (ev_ld1 rfl ty82 rfl (At.own1 0 rfl rfl)) rfl ?_
 refine .v (ev_len rfl Try.underlying82 rfl) rfl ?_
 refine .v (ev_cmp rfl rfl rfl rfl) rfl ?_
 refine .go idQ ?_
 refine .condI rfl bD (fun h8 => ?_) (fun h8 => ?_)
 ·
  refine .skipgo idQ (.seq (.block (.seq (.seq (.region ?_)))))
  refine .v (ev_fa rfl fo90_4 rfl (r := 4) rfl) rfl ?_
  refine .v (ev_ld1 rfl ty82 rfl (At.own1 0 rfl rfl)) rfl ?_
  refine .v (ev_mv rfl rfl) rfl ?_
  refine .v (ev_ix rfl Try.underlying82 ty9 rfl rfl (by omega) (by omega) (fun _ _ => Fr.adr (i := i) hN (by omega) (by omega))) rfl ?_
  refine .v (ev_ld1 rfl ty9 rfl (At.elem1 (At.w (Fr.el (i := i) hN (by omega) (by omega))) 0 rfl)) rfl ?_
  refine .cons (st_callk rfl rfl rfl rfl hbd19 rfl .n (utf (gt ns i) _ _ (by first | omega | exact Nat.le_trans (hns _ (gt_mem (by omega) (by omega))) (by decide))) ?_)
  refine .v (ev_not rfl rfl) rfl ?_
  refine .go idQ ?_
  refine .condI rfl (bN bV) (fun h9 => ?_) (fun h9 => ?_)
  ·
   refine .seq (.region ?_)
   refine .v (ev_as rfl rfl) rfl ?_
   refine .go idQ ?_
   exact .ret idQ (ret1 Try.results50 rfl .n ⟨false, (pl_utf (v := (TN.mk k b n s ns ks)) hk6 q_0 (by show _ < (ns.length : Int); omega) (by simp_all)), rfl, rfl⟩)
  refine .skipgo idQ (.seq (.region ?_))
  refine .v (ev_as rfl rfl) rfl ?_
  refine .go idQ (.block ?_)
  refine .loop (X := Int) (fun z => 0 ≤ z ∧ z ≤ i ∧ (∀ j : Int, 0 ≤ j → j < z → ¬ ((gt ns j).toList == (gt ns i).toList) = true)) (fun z => [(1, .pointer (some ⟨b1, 0, none⟩)), (3, .int .i64 i), (4, .int .i64 z)]) (fun z => [cel b1 [.int .i64 k, .bool b, .int .i64 n, .string s, .slice nA ns.length nc, .slice kA ks.length kc] 90]) (fun _ => S) (fun _ => wf) (fun z => (i - z).toNat) (fun a_ w_ hs_ hw_ => ⟨0, (by exact ⟨by omega, by omega, fun j a b => by omega⟩), hs_.mono (Sub.get (.c rfl (.c rfl (.c rfl .n)))), hw_.keep (.c .h .n)⟩) (fun z ⟨p_0, p_1, p_2⟩ => ?_)
  show SC _ _ _ _ _ ⟨[(1, .pointer (some ⟨b1, 0, none⟩)), (3, .int .i64 i), (4, .int .i64 z)], [cel b1 [.int .i64 k, .bool b, .int .i64 n, .string s, .slice nA ns.length nc, .slice kA ks.length kc] 90], S, wf⟩
  refine .seq (.seq (.region ?_))
  refine .v (ev_mv rfl rfl) rfl ?_
  refine .v (ev_mv rfl rfl) rfl ?_
  refine .v (ev_cmp rfl rfl rfl rfl) rfl ?_
  refine .go idQ ?_
  refine .condI rfl bD (fun h10 => ?_) (fun h10 => ?_)
  ·
   refine .skipgo idQ (.seq (.block (.seq ?_)))
   refine SC.draw mo [] [] .n (fun _ _ _ c hc => by cases hc) (fun wf_11 hl_11 hx_11 hR_11 => ?_)
   refine SR.k 0 rfl (by kernel_rfl) rfl (ev_fa rfl fo90_4 rfl (r := 4) rfl) ?_
   refine SR.k 1 rfl (by kernel_rfl) rfl (ev_ld1 rfl ty82 rfl (At.d (At.lent hR_11 0 rfl rfl))) ?_
   refine SR.k 2 rfl (by kernel_rfl) rfl (ev_mv rfl rfl) ?_
   refine SR.k 3 rfl (by kernel_rfl) rfl (ev_ix rfl Try.underlying82 ty9 rfl rfl (by omega) (by omega) (fun _ _ => Fr.adr (i := z) (Fr.ext hN hx_11) (by omega) (by omega))) ?_
   refine SR.k 4 rfl (by kernel_rfl) rfl (ev_ld1 rfl ty9 rfl (At.elem1 (At.d (Fr.el (i := z) (Fr.ext hN hx_11) (by omega) (by omega))) 0 rfl)) ?_
   refine SR.k 5 rfl (by kernel_rfl) rfl (ev_fa rfl fo90_4 rfl (r := 4) rfl) ?_
   refine SR.k 6 rfl (by kernel_rfl) rfl (ev_ld1 rfl ty82 rfl (At.d (At.lent hR_11 0 rfl rfl))) ?_
   refine SR.k 7 rfl (by kernel_rfl) rfl (ev_mv rfl rfl) ?_
   refine SR.k 8 rfl (by kernel_rfl) rfl (ev_ix rfl Try.underlying82 ty9 rfl rfl (by omega) (by omega) (fun _ _ => Fr.adr (i := i) (Fr.ext hN hx_11) (by omega) (by omega))) ?_
   refine SR.k 9 rfl (by kernel_rfl) rfl (ev_ld1 rfl ty9 rfl (At.elem1 (At.d (Fr.el (i := i) (Fr.ext hN hx_11) (by omega) (by omega))) 0 rfl)) ?_
   refine SR.k 10 rfl (by kernel_rfl) rfl (ev_scmp rfl rfl rfl rfl) ?_
   refine SR.fin (by kernel_rfl) hl_11 hx_11 hR_11 .n ?_
   refine SQ.go idQ ?_
   refine .condI rfl bV (fun h12 => ?_) (fun h12 => ?_)
   ·
    refine .seq (.region ?_)
    refine .v (ev_as rfl rfl) rfl ?_
    refine .go idQ ?_
    exact .ret idQ (ret1 Try.results50 rfl .n ⟨false, (pl_twice (v := (TN.mk k b n s ns ks)) hk6 q_0 (by show _ < (ns.length : Int); omega) p_0 (by omega) (by assumption)), rfl, rfl⟩)
   refine .skipgo idQ (.region ?_)
   refine .v (ev_mv rfl rfl) rfl ?_
   refine .v (ev_add rfl rfl rfl (r := (z + 1)) rfl (by omega) (by omega)) rfl ?_
   refine .v (ev_as rfl rfl) rfl ?_
   exact SP.nil (SQ.roundb (X := Int) (x := (z)) (z + 1) (by exact ⟨by omega, by omega, pl_step p_2 (by assumption)⟩) (by show (_ : Nat) < _; omega) (Sub.get (.c rfl (.c rfl (.c rfl .n)))) (fun w hw => hw.keep (.c .h .n)))
  refine .exit idQ ?_
  refine .region ?_
  refine .v (ev_mv rfl rfl) rfl ?_
  refine .v (ev_add rfl rfl rfl (r := (i + 1)) rfl (by omega) (by omega)) rfl ?_
  refine .v (ev_as rfl rfl) rfl ?_
  exact SP.nil (SQ.roundb (X := Int) (x := (i)) (i + 1) (by exact ⟨by omega, by omega, pl_next q_2 (by simp_all) p_2 (by omega)⟩) (by show (_ : Nat) < _; omega) (Sub.get (.c rfl (.c rfl .n))) (fun w hw => hw.keep (.c .h .n)))
 refine .exit idQ ?_
 refine .seq (.region ?_)
 refine .v (ev_fa rfl fo90_4 rfl (r := 4) rfl) rfl ?_
 refine .v (ev_ld1 rfl ty82 rfl (At.own1 0 rfl rfl)) rfl ?_
 refine .v (ev_len rfl Try.underlying82 rfl) rfl ?_
 refine .v (ev_fa rfl fo90_5 rfl (r := 5) rfl) rfl ?_
 refine .v (ev_ld1 rfl ty56 rfl (At.own1 0 rfl rfl)) rfl ?_
 refine .v (ev_len rfl Try.underlying56 rfl) rfl ?_
 refine .v (ev_cmp rfl rfl rfl rfl) rfl ?_
 refine .v (ev_as rfl rfl) rfl ?_
 refine .go idQ ?_
 exact .ret idQ (ret1 Try.results50 rfl .n ⟨((ns.length : Int) == (ks.length : Int)), (pl_end (v := (TN.mk k b n s ns ks)) hp1 hp2 hk6 q_2 (by show ¬ _ < (ns.length : Int); omega) (by simp)), rfl, rfl⟩)
theorem check_ (A : Option Addr) (c : Nat) (l : List TV) (S : Nat → Prop) (wf : World) (hA : Fr eTV S wf A l) (hN : NT S wf l) (hB : ∀ t ∈ l, TB t.v) :
  TR0 Try.prog 29 [.slice A l.length c] [] S wf (fun v_ C_ => v_ = .int .i64 (checkF (vs l)) ∧ C_ = []) := by
 have hla := hA.len
 refine TR.mk Try.func29 rfl Try.ntmps29 rfl rfl (fun w_ => ?_)
 refine .seq (.region ?_)
 refine .v (ev_as rfl rfl) rfl ?_
 refine .go idQ (.seq (.seq (.region ?_)))
 refine .v (ev_mv rfl rfl) rfl ?_
 refine .v (ev_len rfl Try.underlying34 rfl) rfl ?_
 refine .v (ev_cmp rfl rfl rfl rfl) rfl ?_
 refine .go idQ ?_
 refine .condI rfl bE (fun h1 => ?_) (fun h1 => ?_)
 ·
  refine .seq (.region ?_)
  refine .v (ev_as rfl rfl) rfl ?_
  refine .go idQ ?_
  exact .ret idQ (ret1 Try.results29 rfl .n ⟨(congrArg (Value.int .i64) (ck_0 (by omega))), rfl⟩)
 refine .skipgo idQ (.seq (.seq (.region ?_)))
 refine .v (ev_mv rfl rfl) rfl ?_
 refine .v (ev_len rfl Try.underlying34 rfl) rfl ?_
 refine .v (ev_cmp rfl rfl rfl rfl) rfl ?_
 refine .go idQ ?_
 refine .condI rfl bD (fun h2 => ?_) (fun h2 => ?_)
 ·
  refine .seq (.region ?_)
  refine .v (ev_as rfl rfl) rfl ?_
  refine .go idQ ?_
  exact .ret idQ (ret1 Try.results29 rfl .n ⟨(congrArg (Value.int .i64) (ck_27 (by omega) (by omega))), rfl⟩)
 refine .skipgo idQ (.seq (.region ?_))
 refine .v (ev_mv rfl rfl) rfl ?_
 refine .v (ev_len rfl Try.underlying34 rfl) rfl ?_
 refine .cons (st_mkints (q := .i64) (n := l.length) rfl rfl rfl rfl Try.underlying56 ai3 rfl rfl rfl (by omega) rfl (fun b3 => ?_))
 refine .v (ev_as rfl rfl) rfl ?_
 refine .go idQ (.seq (.region ?_))
 refine .v (ev_mv rfl rfl) rfl ?_
 refine .v (ev_len rfl Try.underlying34 rfl) rfl ?_
 refine .cons (st_mkints (q := .i64) (n := l.length) rfl rfl rfl rfl Try.underlying56 ai3 rfl rfl rfl (by omega) rfl (fun b4 => ?_))
 refine .v (ev_as rfl rfl) rfl ?_
 refine .go idQ (.seq (.seq (.region ?_)))
 refine .v (ev_as rfl rfl) rfl ?_
 refine .go idQ (.block ?_)
 refine .loop (X := Int × (List Int) × (List Int)) (fun ⟨i, U, D⟩ => 0 ≤ i ∧ i ≤ l.length ∧ U.length = l.length ∧ D.length = l.length ∧ ckAll ((vs l).drop i.toNat) i U D = (ckAll (vs l) 0 (zs l.length) (zs l.length)) ∧ Btw U 0 (i * 1000000) ∧ Btw D 0 i) (fun ⟨i, U, D⟩ => [(0, .slice A l.length c), (3, .slice (some ⟨b3, 0, none⟩) l.length l.length), (4, .slice (some ⟨b4, 0, none⟩) l.length l.length), (5, .int .i64 i)]) (fun ⟨i, U, D⟩ => [rw_ eZ 3 (.slice (some ⟨b3, 0, none⟩) l.length l.length) U, rw_ eZ 3 (.slice (some ⟨b4, 0, none⟩) l.length l.length) D]) (fun _ => S) (fun _ => wf) (fun ⟨i, U, D⟩ => (l.length - i.toNat)) (fun a_ w_ hs_ hw_ => ⟨⟨0, (List.replicate l.length 0), (List.replicate l.length 0)⟩, (by exact ⟨by omega, by omega, List.length_replicate, List.length_replicate, rfl, btw_zs, btw_zs⟩), hs_.mono (Sub.get (.c rfl (.c rfl (.c rfl (.c rfl .n))))), hw_.keep (.c (.t .h) (.c .h .n))⟩) (fun ⟨i, U, D⟩ ⟨q_0, q_1, q_2, q_3, q_4, q_5, q_6⟩ => ?_)
 show SC _ _ _ _ _ ⟨[(0, .slice A l.length c), (3, .slice (some ⟨b3, 0, none⟩) l.length l.length), (4, .slice (some ⟨b4, 0, none⟩) l.length l.length), (5, .int .i64 i)], [rw_ eZ 3 (.slice (some ⟨b3, 0, none⟩) l.length l.length) U, rw_ eZ 3 (.slice (some ⟨b4, 0, none⟩) l.length l.length) D], S, wf⟩
 refine .seq (.seq (.region ?_))
 refine .v (ev_mv rfl rfl) rfl ?_
 refine .v (ev_mv rfl rfl) rfl ?_
 refine .v (ev_len rfl Try.underlying34 rfl) rfl ?_
 refine .v (ev_cmp rfl rfl rfl rfl) rfl ?_
 refine .go idQ ?_
 refine .condI rfl bD (fun h5 => ?_) (fun h5 => ?_)
 ·
  refine .skipgo idQ (.seq (.block (.seq (.seq ?_))))
  have hBi := hB _ (gt_mem (i := i) q_0 (by omega))
  unfold TB at hBi
  refine .region ?_
  refine .v (ev_mv rfl rfl) rfl ?_
  refine .v (ev_mv rfl rfl) rfl ?_
  refine .v (ev_ix rfl Try.underlying34 ty90 rfl rfl (by omega) (by omega) (fun _ _ => Fr.adr (i := i) hA (by omega) (by omega))) rfl ?_
  refine .v (ev_lda rfl rfl (At.w (Fr.el (i := i) hA (by omega) (by omega))) ty90) rfl ?_
  refine .cons (st_call00 rfl rfl rfl rfl hbd50 rfl .n (plain_ ((gt l i).v.kind) ((gt l i).v.truth) ((gt l i).v.num) ((gt l i).v.text) ((gt l i).nA) ((gt l i).nc) ((gt l i).v.ns) ((gt l i).kA) ((gt l i).kc) ((gt l i).v.ks) _ _ ((hN _ (gt_mem (i := i) (by omega) (by omega))).1) ((hN _ (gt_mem (i := i) (by omega) (by omega))).2) hBi.1 hBi.2.1) (by intro v C h; obtain ⟨_, _, rfl, rfl⟩ := h; rfl) (fun v_q7 q7 => ?_))
  obtain ⟨r6, p8, rfl, -⟩ := q7
  refine .v (ev_not rfl rfl) rfl ?_
  refine .go idQ ?_
  refine .condI rfl (bN bV) (fun h9 => ?_) (fun h9 => ?_)
  ·
   refine .seq (.region ?_)
   refine .v (ev_as rfl rfl) rfl ?_
   refine .go idQ ?_
   exact .ret idQ (ret1 Try.results29 rfl .n ⟨(congrArg (Value.int .i64) (ck_none (by omega) (by omega) (ck_plain q_4 q_0 (by omega) (fun e => by simp_all)))), rfl⟩)
  refine .skipgo idQ (.seq ?_)
  have hpl : plainP (gt l i).v := p8.1 (by simp_all)
  refine .region ?_
  refine .v (ev_as rfl rfl) rfl ?_
  refine .go idQ (.seq (.seq (.region ?_)))
  refine .v (ev_as rfl rfl) rfl ?_
  refine .go idQ (.block ?_)
  refine .loop (X := Int × (List Int) × Int) (fun ⟨k, U2, m⟩ => 0 ≤ k ∧ k ≤ (gt l i).v.ks.length ∧ U2.length = l.length ∧ (0 ≤ m ∧ m ≤ i) ∧ ckKids i D ((gt l i).v.ks.drop k.toNat) U2 m = ckKids i D (gt l i).v.ks U 0 ∧ Btw U2 0 (i * 1000000 + k)) (fun ⟨k, U2, m⟩ => [(0, .slice A l.length c), (3, .slice (some ⟨b3, 0, none⟩) l.length l.length), (4, .slice (some ⟨b4, 0, none⟩) l.length l.length), (5, .int .i64 i), (6, .int .i64 m), (7, .int .i64 k)]) (fun ⟨k, U2, m⟩ => [rw_ eZ 3 (.slice (some ⟨b3, 0, none⟩) l.length l.length) U2, rw_ eZ 3 (.slice (some ⟨b4, 0, none⟩) l.length l.length) D]) (fun _ => S) (fun _ => wf) (fun ⟨k, U2, m⟩ => ((gt l i).v.ks.length - k.toNat)) (fun a_ w_ hs_ hw_ => ⟨⟨0, U, 0⟩, (by exact ⟨by omega, by omega, by omega, by omega, rfl, q_5.mono (by omega)⟩), hs_.mono (Sub.get (.c rfl (.c rfl (.c rfl (.c rfl (.c rfl (.c rfl .n))))))), hw_.keep (.c .h (.c .h .n))⟩) (fun ⟨k, U2, m⟩ ⟨p_0, p_1, p_2, p_3, p_4, p_5⟩ => ?_)
  show SC _ _ _ _ _ ⟨[(0, .slice A l.length c), (3, .slice (some ⟨b3, 0, none⟩) l.length l.length), (4, .slice (some ⟨b4, 0, none⟩) l.length l.length), (5, .int .i64 i), (6, .int .i64 m), (7, .int .i64 k)], [rw_ eZ 3 (.slice (some ⟨b3, 0, none⟩) l.length l.length) U2, rw_ eZ 3 (.slice (some ⟨b4, 0, none⟩) l.length l.length) D], S, wf⟩
  refine .seq (.seq (.region ?_))
  refine .v (ev_mv rfl rfl) rfl ?_
  refine .v (ev_mv rfl rfl) rfl ?_
  refine .v (ev_mv rfl rfl) rfl ?_
  refine .v (ev_ix rfl Try.underlying34 ty90 rfl rfl (by omega) (by omega) (fun _ _ => Fr.adr (i := i) hA (by omega) (by omega))) rfl ?_
  refine .v (ev_fa rfl fo90_5 rfl (r := ao A + (i).toNat * 6 + 5) rfl) rfl ?_
  refine .v (ev_ld1 rfl ty56 rfl (At.elem1 (At.w (Fr.el (i := i) hA (by omega) (by omega))) 5 rfl)) rfl ?_
  refine .v (ev_len rfl Try.underlying56 rfl) rfl ?_
  refine .v (ev_cmp rfl rfl rfl rfl) rfl ?_
  refine .go idQ ?_
  refine .condI rfl bD (fun h10 => ?_) (fun h10 => ?_)
  ·
   refine .skipgo idQ (.seq (.block (.seq (.region ?_))))
   refine .v (ev_mv rfl rfl) rfl ?_
   refine .v (ev_mv rfl rfl) rfl ?_
   refine .v (ev_ix rfl Try.underlying34 ty90 rfl rfl (by omega) (by omega) (fun _ _ => Fr.adr (i := i) hA (by omega) (by omega))) rfl ?_
   refine .v (ev_fa rfl fo90_5 rfl (r := ao A + (i).toNat * 6 + 5) rfl) rfl ?_
   refine .v (ev_ld1 rfl ty56 rfl (At.elem1 (At.w (Fr.el (i := i) hA (by omega) (by omega))) 5 rfl)) rfl ?_
   refine .v (ev_mv rfl rfl) rfl ?_
   refine .v (ev_ix rfl Try.underlying56 ty3 rfl rfl (by omega) (by omega) (fun _ _ => Fr.adr (i := k) (hN _ (gt_mem (i := i) (by omega) (by omega))).2 (by omega) (by omega))) rfl ?_
   refine .v (ev_ld1 rfl ty3 rfl (At.elem1 (At.w (Fr.el (i := k) (hN _ (gt_mem (i := i) (by omega) (by omega))).2 (by omega) (by omega))) 0 rfl)) rfl ?_
   refine .v (ev_as rfl rfl) rfl ?_
   refine .go idQ (.seq (.seq ?_))
   have hD1 := q_6.gt (by omega) (by omega) (gt (gt l i).v.ks k)
   have hU1 := p_5.gt (by omega) (by omega) (gt (gt l i).v.ks k)
   refine .region ?_
   refine .v (ev_mv rfl rfl) rfl ?_
   refine .v (ev_cmp rfl rfl rfl rfl) rfl ?_
   refine .v (ev_mv rfl rfl) rfl ?_
   refine .w (fun _ => ev_mv rfl rfl) rfl ?_
   refine .w (fun _ => ev_mv rfl rfl) rfl ?_
   refine .w (fun hb => ev_cmp rfl (lkg rfl hb) (lkg rfl hb) rfl) rfl ?_
   refine .v (ev_or rfl rfl rfl rfl) rfl ?_
   refine .go idQ ?_
   refine .condI rfl (bO bD bD) (fun h11 => ?_) (fun h11 => ?_)
   ·
    refine .seq (.region ?_)
    refine .v (ev_as rfl rfl) rfl ?_
    refine .go idQ ?_
    exact .ret idQ (ret1 Try.results29 rfl .n ⟨(congrArg (Value.int .i64) (ck_none (by omega) (by omega) (ck_kid q_4 q_0 (by omega) hpl p_4 p_0 (by omega) (by omega)))), rfl⟩)
   refine .skipgo idQ (.seq (.region ?_))
   refine .v (ev_mv rfl rfl) rfl ?_
   refine .v (ev_mv rfl rfl) rfl ?_
   refine .v (ev_mv rfl rfl) rfl ?_
   refine .v (ev_mv rfl rfl) rfl ?_
   refine .v (ev_ix rfl Try.underlying56 ty3 rfl rfl (by omega) (by omega) (row_adr (i := (gt ((gt l i).v.ks) k)) 0 rfl (by omega) (by omega))) rfl ?_
   refine .v (ev_ld1 rfl ty3 rfl (At.elem1 (row_el (E := eZ) (l := U2) (i := (gt ((gt l i).v.ks) k)) 0 rfl (by omega) (by omega)) 0 rfl)) rfl ?_
   refine .v (ev_add rfl rfl rfl (r := ((gt U2 (gt ((gt l i).v.ks) k)) + 1)) rfl (by omega) (by omega)) rfl ?_
   refine .v (ev_ix rfl Try.underlying56 ty3 rfl rfl (by omega) (by omega) (row_adr (i := (gt ((gt l i).v.ks) k)) 0 rfl (by omega) (by omega))) rfl ?_
   refine .cons (st_setel (E := eZ) (i := (gt ((gt l i).v.ks) k)) (cs := [.int .i64 ((gt U2 (gt ((gt l i).v.ks) k)) + 1)]) (off := 0) ((gt U2 (gt ((gt l i).v.ks) k)) + 1) rfl rfl rfl ty3 rfl rfl rfl rfl rfl .h (by first | omega | simp only [LL] <;> omega | simp <;> omega) (by first | omega | simp only [LL] <;> omega | simp <;> omega) (Nat.le_of_ble_eq_true rfl) rfl ?_)
   refine .go idQ (.seq (.region ?_))
   refine .v (ev_mv rfl rfl) rfl ?_
   refine .v (ev_mv rfl rfl) rfl ?_
   refine .v (ev_ix rfl Try.underlying56 ty3 rfl rfl (by omega) (by omega) (row_adr (i := (gt ((gt l i).v.ks) k)) 1 rfl (by omega) (by omega))) rfl ?_
   refine .v (ev_ld1 rfl ty3 rfl (At.elem1 (row_el (E := eZ) (l := D) (i := (gt ((gt l i).v.ks) k)) 1 rfl (by omega) (by omega)) 0 rfl)) rfl ?_
   refine .v (ev_mv rfl rfl) rfl ?_
   refine .v (ev_cmp rfl rfl rfl rfl) rfl ?_
   refine .go idQ ?_
   refine .condI rfl bD (fun h12 => ?_) (fun h12 => ?_)
   ·
    refine .region ?_
    refine .v (ev_mv rfl rfl) rfl ?_
    refine .v (ev_mv rfl rfl) rfl ?_
    refine .v (ev_ix rfl Try.underlying56 ty3 rfl rfl (by omega) (by omega) (row_adr (i := (gt ((gt l i).v.ks) k)) 1 rfl (by omega) (by omega))) rfl ?_
    refine .v (ev_ld1 rfl ty3 rfl (At.elem1 (row_el (E := eZ) (l := D) (i := (gt ((gt l i).v.ks) k)) 1 rfl (by omega) (by omega)) 0 rfl)) rfl ?_
    refine .v (ev_as rfl rfl) rfl ?_
    refine .go idQ (.region ?_)
    refine .v (ev_mv rfl rfl) rfl ?_
    refine .v (ev_add rfl rfl rfl (r := (k + 1)) rfl (by omega) (by omega)) rfl ?_
    refine .v (ev_as rfl rfl) rfl ?_
    exact SP.nil (SQ.roundb (X := Int × (List Int) × Int) (x := (k, U2, m)) ⟨(k + 1), (U2.set ((gt ((gt l i).v.ks) k)).toNat ((gt U2 (gt ((gt l i).v.ks) k)) + 1)), (gt D (gt ((gt l i).v.ks) k))⟩ (by exact ⟨by omega, by omega, by rw [List.length_set]; omega, by omega, kid_next p_4 p_0 (by omega) (by omega) (by rw [if_pos (by assumption)]), p_5.set (by omega) (by omega) (by omega)⟩) (by dsimp only; omega) (Sub.get (.c rfl (.c rfl (.c rfl (.c rfl (.c rfl (.c rfl .n))))))) (fun w hw => hw.keep (.c .h (.c .h .n))))
   refine .skipgo idQ (.region ?_)
   refine .v (ev_mv rfl rfl) rfl ?_
   refine .v (ev_add rfl rfl rfl (r := (k + 1)) rfl (by omega) (by omega)) rfl ?_
   refine .v (ev_as rfl rfl) rfl ?_
   exact SP.nil (SQ.roundb (X := Int × (List Int) × Int) (x := (k, U2, m)) ⟨(k + 1), (U2.set ((gt ((gt l i).v.ks) k)).toNat ((gt U2 (gt ((gt l i).v.ks) k)) + 1)), m⟩ (by exact ⟨by omega, by omega, by rw [List.length_set]; omega, by omega, kid_next p_4 p_0 (by omega) (by omega) (by rw [if_neg (by assumption)]), p_5.set (by omega) (by omega) (by omega)⟩) (by dsimp only; omega) (Sub.get (.c rfl (.c rfl (.c rfl (.c rfl (.c rfl (.c rfl .n))))))) (fun w hw => hw.keep (.c .h (.c .h .n))))
  refine .exit idQ ?_
  refine .seq (.seq (.region ?_))
  refine .v (ev_mv rfl rfl) rfl ?_
  refine .v (ev_mv rfl rfl) rfl ?_
  refine .v (ev_ix rfl Try.underlying34 ty90 rfl rfl (by omega) (by omega) (fun _ _ => Fr.adr (i := i) hA (by omega) (by omega))) rfl ?_
  refine .v (ev_fa rfl fo90_0 rfl (r := ao A + (i).toNat * 6) rfl) rfl ?_
  refine .v (ev_ld1 rfl ty88 rfl (At.elem1 (At.w (Fr.el (i := i) hA (by omega) (by omega))) 0 rfl)) rfl ?_
  refine .v (ev_cmp rfl rfl rfl rfl) rfl ?_
  refine .go idQ ?_
  refine .condI rfl bD (fun h13 => ?_) (fun h13 => ?_)
  ·
   refine .region ?_
   refine .v (ev_mv rfl rfl) rfl ?_
   refine .v (ev_add rfl rfl rfl (r := (m + 1)) rfl (by omega) (by omega)) rfl ?_
   refine .v (ev_as rfl rfl) rfl ?_
   refine .go idQ (.region ?_)
   refine .v (ev_mv rfl rfl) rfl ?_
   refine .v (ev_mv rfl rfl) rfl ?_
   refine .v (ev_mv rfl rfl) rfl ?_
   refine .v (ev_ix rfl Try.underlying56 ty3 rfl rfl (by omega) (by omega) (row_adr (i := i) 1 rfl (by omega) (by omega))) rfl ?_
   refine .cons (st_setel (E := eZ) (i := i) (cs := [.int .i64 (m + 1)]) (off := 0) (m + 1) rfl rfl rfl ty3 rfl rfl rfl rfl rfl (.t .h) (by first | omega | simp only [LL] <;> omega | simp <;> omega) (by first | omega | simp only [LL] <;> omega | simp <;> omega) (Nat.le_of_ble_eq_true rfl) rfl ?_)
   refine .go idQ (.region ?_)
   refine .v (ev_mv rfl rfl) rfl ?_
   refine .v (ev_add rfl rfl rfl (r := (i + 1)) rfl (by omega) (by omega)) rfl ?_
   refine .v (ev_as rfl rfl) rfl ?_
   exact SP.nil (SQ.roundb (X := Int × (List Int) × (List Int)) (x := (i, U, D)) ⟨(i + 1), U2, (D.set (i).toNat (m + 1))⟩ (by exact ⟨by omega, by omega, by omega, by rw [List.length_set]; omega, ck_next q_4 q_0 (by omega) hpl p_4 (by omega) (by rw [if_pos (by assumption)]), p_5.mono (by omega), q_6.set (by omega) (by omega) (by omega)⟩) (by dsimp only; omega) (Sub.get (.c rfl (.c rfl (.c rfl (.c rfl .n))))) (fun w hw => hw.keep (.c (.t .h) (.c .h .n))))
  refine .skipgo idQ (.region ?_)
  refine .v (ev_mv rfl rfl) rfl ?_
  refine .v (ev_mv rfl rfl) rfl ?_
  refine .v (ev_mv rfl rfl) rfl ?_
  refine .v (ev_ix rfl Try.underlying56 ty3 rfl rfl (by omega) (by omega) (row_adr (i := i) 1 rfl (by omega) (by omega))) rfl ?_
  refine .cons (st_setel (E := eZ) (i := i) (cs := [.int .i64 m]) (off := 0) m rfl rfl rfl ty3 rfl rfl rfl rfl rfl (.t .h) (by first | omega | simp only [LL] <;> omega | simp <;> omega) (by first | omega | simp only [LL] <;> omega | simp <;> omega) (Nat.le_of_ble_eq_true rfl) rfl ?_)
  refine .go idQ (.region ?_)
  refine .v (ev_mv rfl rfl) rfl ?_
  refine .v (ev_add rfl rfl rfl (r := (i + 1)) rfl (by omega) (by omega)) rfl ?_
  refine .v (ev_as rfl rfl) rfl ?_
  exact SP.nil (SQ.roundb (X := Int × (List Int) × (List Int)) (x := (i, U, D)) ⟨(i + 1), U2, (D.set (i).toNat m)⟩ (by exact ⟨by omega, by omega, by omega, by rw [List.length_set]; omega, ck_next q_4 q_0 (by omega) hpl p_4 (by omega) (by rw [if_neg (by assumption)]), p_5.mono (by omega), q_6.set (by omega) (by omega) (by omega)⟩) (by dsimp only; omega) (Sub.get (.c rfl (.c rfl (.c rfl (.c rfl .n))))) (fun w hw => hw.keep (.c (.t .h) (.c .h .n))))
 refine .exit idQ ?_
 refine .seq (.seq (.region ?_))
 refine .v (ev_as rfl rfl) rfl ?_
 refine .go idQ (.block ?_)
 refine .loop (X := Int) (fun j => 0 ≤ j ∧ (∀ j' : Int, 0 ≤ j' → j' < j → gt U j' = 1)) (fun j => [(0, .slice A l.length c), (3, .slice (some ⟨b3, 0, none⟩) l.length l.length), (4, .slice (some ⟨b4, 0, none⟩) l.length l.length), (9, .int .i64 j)]) (fun j => [rw_ eZ 3 (.slice (some ⟨b3, 0, none⟩) l.length l.length) U, rw_ eZ 3 (.slice (some ⟨b4, 0, none⟩) l.length l.length) D]) (fun _ => S) (fun _ => wf) (fun j => (l.length - j.toNat)) (fun a_ w_ hs_ hw_ => ⟨0, (by exact ⟨by omega, fun j' a b => by omega⟩), hs_.mono (Sub.get (.c rfl (.c rfl (.c rfl (.c rfl .n))))), hw_.keep (.c .h (.c .h .n))⟩) (fun j ⟨s_0, s_1⟩ => ?_)
 show SC _ _ _ _ _ ⟨[(0, .slice A l.length c), (3, .slice (some ⟨b3, 0, none⟩) l.length l.length), (4, .slice (some ⟨b4, 0, none⟩) l.length l.length), (9, .int .i64 j)], [rw_ eZ 3 (.slice (some ⟨b3, 0, none⟩) l.length l.length) U, rw_ eZ 3 (.slice (some ⟨b4, 0, none⟩) l.length l.length) D], S, wf⟩
 refine .seq (.seq (.region ?_))
 refine .v (ev_mv rfl rfl) rfl ?_
 refine .v (ev_mv rfl rfl) rfl ?_
 refine .v (ev_len rfl Try.underlying34 rfl) rfl ?_
 refine .v (ev_sub rfl rfl rfl (r := ((l.length : Int) - 1)) rfl (by omega) (by omega)) rfl ?_
 refine .v (ev_cmp rfl rfl rfl rfl) rfl ?_
 refine .go idQ ?_
 refine .condI rfl bD (fun h14 => ?_) (fun h14 => ?_)
 ·
  refine .skipgo idQ (.seq (.block (.seq (.region ?_))))
  refine .v (ev_mv rfl rfl) rfl ?_
  refine .v (ev_mv rfl rfl) rfl ?_
  refine .v (ev_ix rfl Try.underlying56 ty3 rfl rfl (by omega) (by omega) (row_adr (i := j) 0 rfl (by omega) (by omega))) rfl ?_
  refine .v (ev_ld1 rfl ty3 rfl (At.elem1 (row_el (E := eZ) (l := U) (i := j) 0 rfl (by omega) (by omega)) 0 rfl)) rfl ?_
  refine .v (ev_cmp rfl rfl rfl rfl) rfl ?_
  refine .go idQ ?_
  refine .condI rfl bNE (fun h15 => ?_) (fun h15 => ?_)
  ·
   refine .seq (.region ?_)
   refine .v (ev_as rfl rfl) rfl ?_
   refine .go idQ ?_
   exact .ret idQ (ret1 Try.results29 rfl .n ⟨(congrArg (Value.int .i64) (ck_twice (by omega) (by omega) q_4 (by omega) s_0 (by omega) (by assumption))), rfl⟩)
  refine .skipgo idQ (.region ?_)
  refine .v (ev_mv rfl rfl) rfl ?_
  refine .v (ev_add rfl rfl rfl (r := (j + 1)) rfl (by omega) (by omega)) rfl ?_
  refine .v (ev_as rfl rfl) rfl ?_
  exact SP.nil (SQ.roundb (X := Int) (x := (j)) (j + 1) (by exact ⟨by omega, fun j' a b => (by by_cases e : j' = j <;> first | (subst e; omega) | exact s_1 j' a (by omega))⟩) (by show (_ : Nat) < _; omega) (Sub.get (.c rfl (.c rfl (.c rfl (.c rfl .n))))) (fun w hw => hw.keep (.c .h (.c .h .n))))
 refine .exit idQ ?_
 refine .seq (.seq (.region ?_))
 refine .v (ev_mv rfl rfl) rfl ?_
 refine .v (ev_mv rfl rfl) rfl ?_
 refine .v (ev_len rfl Try.underlying34 rfl) rfl ?_
 refine .v (ev_sub rfl rfl rfl (r := ((l.length : Int) - 1)) rfl (by omega) (by omega)) rfl ?_
 refine .v (ev_ix rfl Try.underlying56 ty3 rfl rfl (by omega) (by omega) (row_adr (i := ((l.length : Int) - 1)) 1 rfl (by omega) (by omega))) rfl ?_
 refine .v (ev_ld1 rfl ty3 rfl (At.elem1 (row_el (E := eZ) (l := D) (i := ((l.length : Int) - 1)) 1 rfl (by omega) (by omega)) 0 rfl)) rfl ?_
 refine .v (ev_cmp rfl rfl rfl rfl) rfl ?_
 refine .go idQ ?_
 refine .condI rfl bD (fun h16 => ?_) (fun h16 => ?_)
 ·
  refine .seq (.region ?_)
  refine .v (ev_as rfl rfl) rfl ?_
  refine .go idQ ?_
  exact .ret idQ (ret1 Try.results29 rfl .n ⟨(congrArg (Value.int .i64) (by rw [ck_deep (by omega) (by omega) q_4 (by omega) s_1 (by omega), if_pos (by assumption)])), rfl⟩)
 refine .skipgo idQ (.seq (.region ?_))
 refine .v (ev_as rfl rfl) rfl ?_
 refine .go idQ ?_
 exact .ret idQ (ret1 Try.results29 rfl .n ⟨(congrArg (Value.int .i64) (by rw [ck_deep (by omega) (by omega) q_4 (by omega) s_1 (by omega), if_neg (by assumption)])), rfl⟩)
end Go.Proofs.Ythmkelkefmfmgaa.Sx
