import Derived.Lib.EndianBits
import Derived.Test.YthmkelkefmfmgaaProg
import Derived.Test.YthmkelkefmfmgaaS1
set_option linter.unusedVariables false
set_option linter.unusedSimpArgs false
set_option linter.unusedSectionVars false
namespace Go.SX
open Go
section
variable {b : List Int} (hr : ∀ x ∈ b, isB x)
include hr
theorem hereS_i (p : LS) : (hereS b p).i = p.i := by
  unfold hereS noF; split
  · split <;> rfl
  · rfl
theorem here_ok2 (p : LS) : (hereF b p = -1 ∧ (hereS b p).bad ≠ 0) ∨ (((0 ≤ hereF b p ∧ hereF b p < 256) ∧ hereF b p = gt b p.i) ∧ p.bad = 0 ∧ hereS b p = p ∧ p.i < (b.length : Int)) := by
  obtain ⟨i, bad, pos⟩ := p
  have hi : (hereS b ⟨i, bad, pos⟩).i = i := hereS_i hr ⟨i, bad, pos⟩
  have q : (⟨i, (hereS b ⟨i, bad, pos⟩).bad, (hereS b ⟨i, bad, pos⟩).pos⟩ : LS) = hereS b ⟨i, bad, pos⟩ := by
    generalize hereS b ⟨i, bad, pos⟩ = s at hi ⊢
    obtain ⟨a, c, d⟩ := s
    have hi : a = i := hi
    rw [hi]
  have h := here_fact (r := hereF b ⟨i, bad, pos⟩) (bad2 := (hereS b ⟨i, bad, pos⟩).bad) (pos2 := (hereS b ⟨i, bad, pos⟩).pos) hr rfl rfl q
  rcases h with h | ⟨h1, h2, h3, h4, h5⟩
  · exact .inl h
  · refine .inr ⟨h1, h2, ?_, h5⟩
    rw [← q, h3, h4, h2]
theorem next_ok2 (p : LS) : (nextF b p = -1 ∧ (nextS b p).bad ≠ 0) ∨ (((0 ≤ nextF b p ∧ nextF b p < 256) ∧ nextF b p = gt b (nextS b p).i) ∧ p.bad = 0 ∧ (nextS b p).bad = 0 ∧ (nextS b p).i < (b.length : Int) ∧ p.i ≤ (nextS b p).i) := by
  rcases here_ok2 hr (gapF b p) with h | ⟨h1, h2, h3, h4⟩
  · exact .inl h
  · unfold nextF nextS
    rw [h3]
    refine .inr ⟨h1, h2, h2, h4, ?_⟩
    show p.i ≤ p.i + (gapN (b.drop p.i.toNat) : Int)
    omega
theorem noF_ne {p : LS} {a e : Int} (he : e ≠ 0) : (noF p a e).bad ≠ 0 := by
  unfold noF; split
  · exact he
  · assumption
theorem word_ok (w : List Int) : ∀ p : LS, (wordF b w p).bad = 0 → 0 ≤ p.i → p.i ≤ (b.length : Int) → (wordF b w p).i = p.i + w.length ∧ p.i + w.length ≤ (b.length : Int) ∧ seg b p.i (p.i + w.length) = w ∧ (wordF b w p).pos = p.pos := by
  induction w with
  | nil => intro p h h0 h1; exact ⟨by simp [wordF], by simpa using h1, by rw [show p.i + (([] : List Int).length : Int) = p.i by simp]; exact seg_self, rfl⟩
  | cons c w ih =>
    intro p h h0 h1
    rw [wordF] at h ⊢
    rcases here_ok2 hr p with ⟨h2, h3⟩ | ⟨⟨h2, h3⟩, h4, h5, h6⟩
    · rw [if_pos (by omega)] at h; exact absurd h h3
    · rw [if_neg (by omega)] at h ⊢
      split at h
      · exact absurd h (noF_ne hr (by decide))
      · rename_i hc
        rw [if_neg hc]
        have hc : hereF b p = c := Classical.not_not.1 hc
        obtain ⟨e1, e2, e3, e4⟩ := ih (p.go 1) h (by show 0 ≤ p.i + 1; omega) (by show p.i + 1 ≤ _; omega)
        have e1' : (wordF b w (p.go 1)).i = p.i + 1 + w.length := e1
        have e2' : p.i + 1 + w.length ≤ (b.length : Int) := e2
        have e3' : seg b (p.i + 1) (p.i + 1 + w.length) = w := e3
        simp only [List.length_cons]
        refine ⟨by omega, by omega, ?_, e4⟩
        rw [show p.i + ((w.length + 1 : Nat) : Int) = p.i + 1 + w.length by omega, seg_cat (j := p.i + 1) h0 (by omega) (by omega) e2', seg_one h0 h6, e3', ← h3, hc]; rfl
theorem hex_ok (fr : Int) (n : Nat) : ∀ (p : LS) (x : Int), (hexL b fr n p x).2.bad = 0 → 0 ≤ x → p.i ≤ (b.length : Int) → (hexL b fr n p x).2.i = p.i + n ∧ p.i + n ≤ (b.length : Int) ∧ 0 ≤ (hexL b fr n p x).1 ∧ (hexL b fr n p x).1 < (x + 1) * 16 ^ n := by
  induction n with
  | zero => intro p x h h0 h1; exact ⟨by simp [hexL], by simpa using h1, h0, by show x < (x + 1) * 16 ^ 0; omega⟩
  | succ n ih =>
    intro p x h h0 h1
    rw [hexL] at h ⊢
    rcases here_ok2 hr p with ⟨h2, h3⟩ | ⟨⟨h2, h3⟩, h4, h5, h6⟩
    · rw [if_pos (by omega)] at h; exact absurd h h3
    · rw [if_neg (by omega)] at h ⊢
      have key : ∀ y, 16 * x ≤ y → y ≤ 16 * x + 15 → (hexL b fr n (p.go 1) y).2.bad = 0 → (hexL b fr n (p.go 1) y).2.i = p.i + ((n + 1 : Nat) : Int) ∧ p.i + ((n + 1 : Nat) : Int) ≤ (b.length : Int) ∧ 0 ≤ (hexL b fr n (p.go 1) y).1 ∧ (hexL b fr n (p.go 1) y).1 < (x + 1) * 16 ^ (n + 1) := by
        intro y hy1 hy2 hb
        obtain ⟨e1, e2, e3, e4⟩ := ih (p.go 1) y hb (by omega) (by show p.i + 1 ≤ _; omega)
        have e1' : (hexL b fr n (p.go 1) y).2.i = p.i + 1 + n := e1
        have e2' : p.i + 1 + n ≤ (b.length : Int) := e2
        refine ⟨by omega, by omega, e3, Int.lt_of_lt_of_le e4 ?_⟩
        rw [Int.pow_succ, show (x + 1) * (16 ^ n * 16) = (16 * (x + 1)) * 16 ^ n by rw [Int.mul_comm (16 ^ n) 16, ← Int.mul_assoc, Int.mul_comm (x + 1) 16]]
        exact Int.mul_le_mul_of_nonneg_right (by omega) (Int.pow_nonneg (by decide))
      split at h
      · rename_i hd; rw [if_pos hd]; exact key _ (by omega) (by omega) h
      · rename_i hd
        rw [if_neg hd]
        split at h
        · rename_i he; rw [if_pos he]; exact key _ (by omega) (by omega) h
        · rename_i he
          rw [if_neg he]
          split at h
          · rename_i hf; rw [if_pos hf]; exact key _ (by omega) (by omega) h
          · exact absurd h (noF_ne hr (by decide))
omit hr in
theorem mark_ok {c r : Int} (h : markF marksL runesL c = some r) : (c = 34 ∧ r = 34) ∨ (c = 92 ∧ r = 92) ∨ (c = 47 ∧ r = 47) ∨ (r = 8 ∨ r = 12 ∨ r = 10 ∨ r = 13 ∨ r = 9) := by
  unfold marksL runesL at h
  simp only [markF] at h
  repeat' split at h
  all_goals (try cases h)
  all_goals omega
theorem half_ok (fr : Int) (p : LS) (h0 : 0 ≤ p.i) (h1 : p.i < (b.length : Int)) (hc : gt b p.i = 92) (h : (halfF b fr p).2.bad = 0) :
    (halfF b fr p).2.i ≤ (b.length : Int) ∧ (((halfF b fr p).2.i = p.i + 2 ∧ (((halfF b fr p).1 = 34 ∨ (halfF b fr p).1 = 92) ∧ seg b p.i (p.i + 2) = [92, (halfF b fr p).1] ∨ (halfF b fr p).1 = 47 ∨ ((halfF b fr p).1 = 8 ∨ (halfF b fr p).1 = 12 ∨ (halfF b fr p).1 = 10 ∨ (halfF b fr p).1 = 13 ∨ (halfF b fr p).1 = 9))) ∨ ((halfF b fr p).2.i = p.i + 6 ∧ 0 ≤ (halfF b fr p).1 ∧ (halfF b fr p).1 ≤ 65535)) := by
  unfold halfF at h ⊢
  dsimp only at h ⊢
  rcases here_ok2 hr (p.go 1) with ⟨h2, h3⟩ | ⟨⟨h2, h3⟩, h4, h5, h6⟩
  · exfalso
    rw [h2] at h
    have e : markF marksL runesL (-1) = none := by decide
    rw [e] at h
    dsimp only at h
    rw [if_pos (by decide)] at h
    have h3' : ((hereS b (p.go 1)).go 1).bad ≠ 0 := h3
    rw [noF_bad h3'] at h
    exact h3' h
  · rw [h5] at h ⊢
    have h6' : p.i + 1 < (b.length : Int) := h6
    have h3' : hereF b (p.go 1) = gt b (p.i + 1) := h3
    split at h
    · rename_i r hm
      dsimp only
      refine ⟨by show p.i + 1 + 1 ≤ _; omega, .inl ⟨by show p.i + 1 + 1 = _; omega, ?_⟩⟩
      have hseg : seg b p.i (p.i + 2) = [92, hereF b (p.go 1)] := by
        rw [seg_cat (j := p.i + 1) h0 (by omega) (by omega) (by omega), seg_one h0 h1, show p.i + 2 = p.i + 1 + 1 by omega, seg_one (by omega) h6', hc, h3']; rfl
      rcases mark_ok hm with ⟨a, rfl⟩ | ⟨a, rfl⟩ | ⟨a, rfl⟩ | a
      · exact .inl ⟨.inl rfl, by rw [hseg, a]⟩
      · exact .inl ⟨.inr rfl, by rw [hseg, a]⟩
      · exact .inr (.inl rfl)
      · exact .inr (.inr a)
    · rename_i hm
      split at h
      · exact absurd h (noF_ne hr (by decide))
      · rename_i hu
        rw [if_neg hu]
        obtain ⟨e1, e2, e3, e4⟩ := hex_ok hr fr 4 ((p.go 1).go 1) 0 h (by decide) (by show p.i + 1 + 1 ≤ _; omega)
        have e1' : (hexL b fr 4 ((p.go 1).go 1) 0).2.i = p.i + 1 + 1 + 4 := e1
        have e2' : p.i + 1 + 1 + 4 ≤ (b.length : Int) := e2
        exact ⟨by omega, .inr ⟨by omega, e3, by have : (0 + 1 : Int) * 16 ^ 4 = 65536 := by decide
                                                omega⟩⟩
def qx (x : Int) : List Int := if x = 34 ∨ x = 92 then [92, x] else if x < 32 then [92, 117, 48, 48, gt hexD (x / 16), gt hexD (x % 16)] else putF x
theorem esc_ok (p : LS) (h0 : 0 ≤ p.i) (h1 : p.i < (b.length : Int)) (hc : gt b p.i = 92) (h : (escF b p).2.bad = 0) : RuneOk (escF b p).1 ∧ p.i + 2 ≤ (escF b p).2.i ∧ (escF b p).2.i ≤ (b.length : Int) ∧ (¬ (escF b p).1 < 32 → Fit (seg b p.i (escF b p).2.i) (qx (escF b p).1)) := by
  unfold escF at h ⊢
  dsimp only at h ⊢
  have lq : ∀ x, RuneOk x → ¬ x < 32 → (qx x).length ≤ 4 ∧ (x < 65536 → (qx x).length ≤ 3) ∧ (x < 128 → x ≠ 34 → x ≠ 92 → (qx x).length = 1) := by
    intro x hx h32
    unfold qx
    split
    · exact ⟨by simp, fun _ => by simp, fun _ _ _ => by omega⟩
    try rw [if_neg h32]
    refine ⟨putF_len x, fun h5 => ?_, fun h5 _ _ => by rw [putF_1 hx.1 h5]; rfl⟩
    unfold putF
    split
    · simp
    split
    · simp
    · simp
  split at h
  · rename_i hx
    rw [if_pos hx]
    dsimp only at h ⊢
    obtain ⟨e1, e2⟩ := half_ok hr p.i p h0 h1 hc h
    have hrune : RuneOk (halfF b p.i p).1 := ⟨by omega, by omega, by omega⟩
    refine ⟨hrune, by omega, e1, fun h32 => ?_⟩
    obtain ⟨l1, l2, l3⟩ := lq _ hrune h32
    rcases e2 with ⟨e3, e4⟩ | ⟨e3, e4, e5⟩
    · rcases e4 with ⟨e5, e6⟩ | e5 | e5
      · rw [e3, e6]
        unfold qx
        rw [if_pos e5]
        exact Fit.refl _
      · refine Fit.lt ?_
        rw [l3 (by omega) (by omega) (by omega)]
        have := seg_len (b := b) (i := p.i) (j := (halfF b p.i p).2.i) h0 (by omega) e1
        omega
      · omega
    · refine Fit.lt ?_
      have := seg_len (b := b) (i := p.i) (j := (halfF b p.i p).2.i) h0 (by omega) e1
      have := l2 (by omega)
      omega
  · rename_i hx
    rw [if_neg hx]
    split at h
    · dsimp only at h; exact absurd h (noF_ne hr (by decide))
    · rename_i hy
      rw [if_neg hy]
      dsimp only at h ⊢
      have hb1 : (halfF b p.i p).2.bad = 0 := by omega
      obtain ⟨e1, e2⟩ := half_ok hr p.i p h0 h1 hc hb1
      have e3 : (halfF b p.i p).2.i = p.i + 6 := by omega
      generalize hq : (halfF b p.i p).2 = q at *
      generalize hx1 : (halfF b p.i p).1 = x1 at *
      split at h
      · exact absurd h (noF_ne hr (by decide))
      · rename_i hz
        rw [if_neg hz]
        obtain ⟨f1, f2⟩ := half_ok hr p.i q (by omega) (by omega) (by omega) h
        have f3 : (halfF b p.i q).2.i = q.i + 6 := by omega
        have hrune : RuneOk (65536 + (x1 - 55296) * 1024 + (halfF b p.i q).1 - 56320) := ⟨by omega, by omega, by omega⟩
        refine ⟨hrune, by omega, f1, fun h32 => Fit.lt ?_⟩
        have := seg_len (b := b) (i := p.i) (j := (halfF b p.i q).2.i) h0 (by omega) f1
        have := (lq _ hrune h32).1
        omega
end
end Go.SX
namespace Go.SX
open Go
theorem seg_take {b : List Int} {i k : Int} (h0 : 0 ≤ i) (h1 : 0 ≤ k) : seg b i (i + k) = (b.drop i.toNat).take k.toNat := by
  unfold seg
  rw [show (i + k).toNat = i.toNat + k.toNat by omega, List.drop_take, Nat.add_sub_cancel_left]
theorem seg_rng {b : List Int} (hr : ∀ x ∈ b, isB x) (i j : Int) : ∀ x ∈ seg b i j, isB x := rng_drop (rng_take hr _) _
section
variable {b : List Int} (hr : ∀ x ∈ b, isB x)
include hr
theorem textL_ok (k : Nat) : ∀ (p : LS) (o : List Int), (textL b k p o).2.bad = 0 → 0 ≤ p.i → p.i ≤ (b.length : Int) → (p.bad = 0 → (b.length : Int) + 1 - p.i ≤ k) → (p.bad ≠ 0 → 1 ≤ k) → ∃ s2, (textL b k p o).1 = o ++ s2 ∧ p.i < (textL b k p o).2.i ∧ (textL b k p o).2.i ≤ (b.length : Int) ∧ (∀ x ∈ s2, isB x) ∧ ((∀ x ∈ s2, ¬ x < 32) → Fit (seg b p.i (textL b k p o).2.i) (quoF s2 ++ [34])) := by
  induction k with
  | zero => intro p o h h0 h1 h2 h3; exfalso; rw [textL] at h; have := h2 h; omega
  | succ k ih =>
    intro p o h h0 h1 h2 h3
    rw [textL] at h ⊢
    rcases here_ok2 hr p with ⟨g2, g3⟩ | ⟨⟨g2, g3⟩, g4, g5, g6⟩
    · rw [if_pos (by omega)] at h; exact absurd h g3
    · rw [if_neg (by omega)] at h ⊢
      by_cases c34 : hereF b p = 34
      · rw [if_pos c34] at h ⊢
        refine ⟨[], by simp, by show p.i < p.i + 1; omega, by show p.i + 1 ≤ _; omega, fun x hx => (by cases hx), fun _ => ?_⟩
        show Fit (seg b p.i (p.i + 1)) _
        rw [seg_one h0 g6, ← g3, c34, quo_nil]; exact Fit.refl _
      · rw [if_neg c34] at h ⊢
        by_cases c92 : hereF b p = 92
        · rw [if_pos c92] at h ⊢
          have hb : (escF b p).2.bad = 0 ∨ (escF b p).2.bad ≠ 0 := by omega
          rcases hb with hb | hb
          · obtain ⟨e1, e2, e3, e4⟩ := esc_ok hr p h0 g6 (by omega) hb
            obtain ⟨s2, f1, f2, f3, f4, f5⟩ := ih _ _ h (by omega) e3 (fun _ => by have := h2 g4; omega) (fun e => absurd hb e)
            refine ⟨putF (escF b p).1 ++ s2, by rw [f1, List.append_assoc], by omega, f3, fun x hx => ?_, fun hx => ?_⟩
            · rcases List.mem_append.1 hx with hx | hx
              · exact (putF_rune e1 []).2.2.1 x hx
              · exact f4 x hx
            · rw [quo_put e1, List.append_assoc, seg_cat (j := (escF b p).2.i) h0 (by omega) (by omega) f3]
              refine Fit.app (e4 ?_) (f5 fun x hx2 => hx x (List.mem_append_right _ hx2))
              intro hlt
              refine hx (escF b p).1 (List.mem_append_left _ ?_) hlt
              rw [putF_1 e1.1 (by omega)]; simp
          · exfalso
            cases k with
            | zero => rw [textL] at h; exact hb h
            | succ k =>
              rw [textL] at h
              rcases here_ok2 hr (escF b p).2 with ⟨z2, z3⟩ | ⟨_, z4, _⟩
              · rw [if_pos (by omega)] at h; exact z3 h
              · exact hb z4
        · rw [if_neg c92] at h ⊢
          dsimp only at h ⊢
          by_cases c32 : hereF b p < 32
          · rw [if_pos c32, if_pos (noF_ne hr (by decide))] at h
            exact absurd h (noF_ne hr (by decide))
          · rw [if_neg c32] at h ⊢
            by_cases hk : runeF (b.drop p.i.toNat) = 0
            · rw [if_pos hk, if_pos (noF_ne hr (by decide))] at h
              exact absurd h (noF_ne hr (by decide))
            · rw [if_neg hk, if_neg (by omega)] at h ⊢
              have hl : 0 < (b.drop p.i.toNat).length := by rw [List.length_drop]; omega
              have sp := rune_spec _ hl
              have hlen : ((b.drop p.i.toNat).length : Int) = (b.length : Int) - p.i := by rw [List.length_drop]; omega
              generalize hR : runeF (b.drop p.i.toNat) = R at h sp hk ⊢
              obtain ⟨s2, f1, f2, f3, f4, f5⟩ := ih (p.go R) _ h (by show 0 ≤ p.i + R; omega) (by show p.i + R ≤ _; omega) (fun _ => by have := h2 g4; show (b.length : Int) + 1 - (p.i + R) ≤ _; omega) (fun e => absurd g4 e)
              have f2' : p.i + R < (textL b k (p.go R) (o ++ (b.take (p.i + R).toNat).drop p.i.toNat)).2.i := f2
              have hs : (b.take (p.i + R).toNat).drop p.i.toNat = seg b p.i (p.i + R) := rfl
              refine ⟨seg b p.i (p.i + R) ++ s2, by rw [f1, List.append_assoc, hs], by omega, f3, fun x hx => ?_, fun hx => ?_⟩
              · rcases List.mem_append.1 hx with hx | hx
                · exact seg_rng hr _ _ x hx
                · exact f4 x hx
              · have hg0 : gt (b.drop p.i.toNat) 0 = gt b p.i := by rw [gt_drop (by decide)]; congr 1; omega
                have hq := quo_raw hl (by rw [hR]; exact hk) (by rw [hg0, ← g3]; exact c34) (by rw [hg0, ← g3]; exact c92) (by rw [hg0, ← g3]; exact c32) s2
                rw [hR] at hq
                rw [seg_take h0 (by omega), hq, List.append_assoc, seg_cat (j := p.i + R) h0 (by omega) (by omega) f3, seg_take h0 (by omega)]
                exact Fit.app (Fit.refl _) (f5 fun x hx2 => hx x (List.mem_append_right _ hx2))
theorem text_ok (p : LS) (h : (textS b p).bad = 0) (h0 : 0 ≤ p.i) (h1 : p.i < (b.length : Int)) (hc : gt b p.i = 34) : bs (mkS (textF b p)) = textF b p ∧ p.i < (textS b p).i ∧ (textS b p).i ≤ (b.length : Int) ∧ (ClnS (mkS (textF b p)) → Fit (seg b p.i (textS b p).i) (quoteF (mkS (textF b p)))) := by
  unfold textS at h ⊢
  obtain ⟨s2, f1, f2, f3, f4, f5⟩ := textL_ok hr (b.length + 4) (p.go 1) [] h (by show 0 ≤ p.i + 1; omega) (by show p.i + 1 ≤ _; omega) (fun _ => by show (b.length : Int) + 1 - (p.i + 1) ≤ _; omega) (fun _ => by omega)
  have f2' : p.i + 1 < (textL b (b.length + 4) (p.go 1) []).2.i := f2
  have e : textF b p = s2 := by unfold textF; rw [f1]; rfl
  rw [e]
  have hb := bs_mkS f4
  refine ⟨hb, by omega, f3, fun hcl => ?_⟩
  unfold ClnS at hcl
  rw [hb] at hcl
  unfold quoteF
  rw [hb, List.append_assoc, seg_cat (j := p.i + 1) h0 (by omega) (by omega) f3, seg_one h0 h1, hc]
  exact Fit.app (Fit.refl _) (f5 hcl)
omit hr in
theorem numC_le (l : List Int) : numC l ≤ l.length := by
  induction l with
  | nil => exact Nat.le_refl _
  | cons c l ih => rw [numC]; split <;> simp <;> omega
omit hr in
theorem decL_step {x c : Int} (h0 : 0 < x) (hc : 48 ≤ c ∧ c ≤ 57) : decL (10 * x + (c - 48)).toNat = decL x.toNat ++ [c] := by
  rw [dec_next (by omega) (by omega)]
  congr 2
  · congr 1; omega
  · omega
omit hr in
theorem decL_dec (l : List Int) : ∀ x : Int, 0 < x → (¬ ∃ c ∈ l, c < 48 ∨ c > 57) → decL (decV l x).toNat = decL x.toNat ++ l ∧ 0 < decV l x := by
  induction l with
  | nil => intro x h _; exact ⟨by simp [decV], h⟩
  | cons c l ih =>
    intro x h hd
    have hc : 48 ≤ c ∧ c ≤ 57 := by
      have : ¬ (c < 48 ∨ c > 57) := fun e => hd ⟨c, List.mem_cons_self .., e⟩
      omega
    obtain ⟨e1, e2⟩ := ih (10 * x + (c - 48)) (by omega) (fun ⟨y, hy, e⟩ => hd ⟨y, List.mem_cons_of_mem _ hy, e⟩)
    rw [decV]
    exact ⟨by rw [e1, decL_step h hc, List.append_assoc]; rfl, e2⟩
omit hr in
theorem decL_top {c : Int} {l : List Int} (h0 : c ≠ 48) (hd : ¬ ∃ x ∈ c :: l, x < 48 ∨ x > 57) : decL (decV (c :: l) 0).toNat = c :: l ∧ 0 < decV (c :: l) 0 := by
  have hc : 48 ≤ c ∧ c ≤ 57 := by
    have : ¬ (c < 48 ∨ c > 57) := fun e => hd ⟨c, List.mem_cons_self .., e⟩
    omega
  rw [decV]
  obtain ⟨e1, e2⟩ := decL_dec l (10 * 0 + (c - 48)) (by omega) (fun ⟨y, hy, e⟩ => hd ⟨y, List.mem_cons_of_mem _ hy, e⟩)
  refine ⟨?_, e2⟩
  rw [e1, decL, if_pos (by omega), show 48 + (((10 * 0 + (c - 48)).toNat : Nat) : Int) = c by omega]; rfl
omit hr in
theorem parse1_ok {l : List Int} (h : (parse1 l).2 = 0) : l = numL (parse1 l).1 := by
  unfold parse1 at h ⊢
  by_cases h1 : sgn l = (l.length : Int)
  · rw [if_pos h1] at h; cases h
  rw [if_neg h1] at h ⊢
  by_cases h2 : ∃ c ∈ l.drop (sgn l).toNat, c < 48 ∨ c > 57
  · rw [if_pos h2] at h; cases h
  rw [if_neg h2] at h ⊢
  by_cases h3 : gt l (sgn l) = 48 ∧ l ≠ [48]
  · rw [if_pos h3] at h; cases h
  rw [if_neg h3] at h ⊢
  by_cases h4 : (l.length : Int) - sgn l > 19
  · rw [if_pos h4] at h; cases h
  rw [if_neg h4] at h ⊢
  by_cases h5 : decV (l.drop (sgn l).toNat) 0 > 4611686018427387903
  · rw [if_pos h5] at h; cases h
  rw [if_neg h5] at h ⊢
  by_cases hs : (l.length : Int) > 0 ∧ gt l 0 = 45
  · rw [sgn_1 hs] at *
    rw [if_pos rfl]
    dsimp only
    obtain ⟨c, r, rfl⟩ : ∃ c r, l = c :: r := by cases l with
      | nil => simp at hs
      | cons c r => exact ⟨c, r, rfl⟩
    have hc : c = 45 := by have := hs.2; rwa [gt_cons0] at this
    subst hc
    cases r with
    | nil => simp at h1
    | cons d r =>
      have hg : gt (45 :: d :: r) 1 = d := rfl
      rw [hg] at h3
      have hd : d ≠ 48 := fun e => h3 ⟨e, by simp⟩
      have e0 : (45 :: d :: r).drop (1 : Int).toNat = d :: r := rfl
      rw [e0] at h2 ⊢
      obtain ⟨e1, e2⟩ := decL_top hd h2
      unfold numL
      rw [if_pos (by omega), Int.neg_neg, e1]
  · rw [sgn_0 hs] at *
    rw [if_neg (by decide)]
    dsimp only
    have e0 : l.drop (0 : Int).toNat = l := rfl
    rw [e0] at h2 ⊢
    cases l with
    | nil => simp at h1
    | cons d r =>
      rw [gt_cons0] at h3
      by_cases hd : d = 48
      · have : d :: r = [48] := Classical.not_not.1 fun e => h3 ⟨hd, e⟩
        rw [this]; decide +kernel
      · obtain ⟨e1, e2⟩ := decL_top hd h2
        unfold numL
        rw [if_neg (by omega), e1]
theorem number_ok (p : LS) (h : (numberS b p).bad = 0) (h0 : 0 ≤ p.i) (h1 : p.i ≤ (b.length : Int)) : p.i ≤ (numberS b p).i ∧ (numberS b p).i ≤ (b.length : Int) ∧ seg b p.i (numberS b p).i = numL (numberF b p) := by
  unfold numberS at h ⊢
  by_cases he : (parse1 (numSeg b p)).2 ≠ 0
  · rw [if_pos he] at h; exact absurd h (noF_ne hr (by decide))
  · rw [if_neg he] at h ⊢
    have h2 : (numEnd b p).i = p.i + (numC (b.drop p.i.toNat) : Int) := rfl
    have h3 := numC_le (b.drop p.i.toNat)
    rw [List.length_drop] at h3
    refine ⟨by omega, by omega, ?_⟩
    have h4 := parse1_ok (l := numSeg b p) (by omega)
    exact h4
omit hr in
theorem put_ok2 {p : LS} {t : List TN} {v : TN} {fr : Int} (h : (putV p t v fr).p.bad = 0) : p.bad = 0 ∧ putV p t v fr = ⟨t.length, p, t ++ [v]⟩ := by
  unfold putV at h ⊢
  by_cases hb : (putP p t fr).bad ≠ 0
  · rw [if_pos hb] at h; exact absurd h hb
  · rw [if_neg hb]
    unfold putP at hb ⊢
    by_cases hq : p.bad = 0 ∧ (t.length : Int) ≥ 8192
    · rw [if_pos hq] at hb
      unfold noF at hb
      rw [if_pos hq.1] at hb
      exact absurd (show (27 : Int) ≠ 0 by decide) hb
    · rw [if_neg hq] at hb ⊢
      exact ⟨by omega, rfl⟩
theorem name_ok (ns : List ByteArray) (p : LS) (h : (nameS b ns p).1.bad = 0) (h0 : 0 ≤ p.i) : p.bad = 0 ∧ ∃ s, (nameS b ns p).2 = ns ++ [s] ∧ p.i < (nameS b ns p).1.i ∧ (nameS b ns p).1.i ≤ (b.length : Int) ∧ (ClnS s → Fit (seg b p.i (nameS b ns p).1.i) (quoteF s ++ [58])) := by
  unfold nameS at h ⊢
  dsimp only at h ⊢
  by_cases h1 : (nameS1 b p).bad ≠ 0
  · rw [if_pos h1] at h; exact absurd h h1
  · rw [if_neg h1] at h ⊢
    have e1 : nameS1 b p = nextS b p ∧ nextF b p = 34 ∧ p.bad = 0 ∧ (nextS b p).i < (b.length : Int) ∧ p.i ≤ (nextS b p).i ∧ gt b (nextS b p).i = 34 := by
      unfold nameS1 at h1 ⊢
      by_cases hq : nextF b p ≥ 0 ∧ nextF b p ≠ 34
      · rw [if_pos hq] at h1; exact absurd (noF_ne hr (by decide)) h1
      · rw [if_neg hq] at h1 ⊢
        rcases next_ok2 hr p with ⟨_, g2⟩ | ⟨⟨g1, g2⟩, g3, g4, g5, g6⟩
        · exact absurd g2 h1
        · exact ⟨rfl, by omega, g3, g5, g6, by omega⟩
    obtain ⟨e1, e2, e3, e4, e5, e6⟩ := e1
    rw [e1] at h ⊢
    generalize hq : nextS b p = q at *
    generalize hr2 : (if (textS b q).bad = 0 ∧ hasN ns (mkS (textF b q)) = true then noF (textS b q) q.i 28 else textS b q) = r2 at *
    by_cases hn : nextF b r2 ≥ 0 ∧ nextF b r2 ≠ 58
    · rw [if_pos hn] at h; exact absurd h (noF_ne hr (by decide))
    · rw [if_neg hn] at h ⊢
      rcases next_ok2 hr r2 with ⟨_, g2⟩ | ⟨⟨g1, g2⟩, g3, g4, g5, g6⟩
      · exact absurd h g2
      · have hr3 : r2 = textS b q := by
          rw [← hr2] at g3 ⊢
          split at g3
          · exact absurd g3 (noF_ne hr (by decide))
          · rename_i hz; rw [if_neg hz]
        subst hr3
        obtain ⟨t1, t2, t3, t4⟩ := text_ok hr q g3 (by omega) e4 e6
        refine ⟨e3, mkS (textF b q), rfl, by show p.i < (nextS b (textS b q)).i + 1; omega, by show (nextS b (textS b q)).i + 1 ≤ _; omega, fun hcl => ?_⟩
        show Fit (seg b p.i ((nextS b (textS b q)).i + 1)) _
        rw [seg_cat (j := q.i) h0 (by omega) (by omega) (by omega), seg_cat (i := q.i) (j := (textS b q).i) (by omega) (by omega) (by omega) (by omega), seg_cat (i := (textS b q).i) (j := (nextS b (textS b q)).i) (by omega) (by omega) (by omega) (by omega), seg_one (by omega) g5]
        refine Fit.gap (Fit.app (t4 hcl) (Fit.gap ?_))
        rw [← g2, show nextF b (textS b q) = 58 by omega]; exact Fit.refl _
end
end Go.SX
namespace Go.SX
open Go
structure Took (b : List Int) (p : LS) (t : List TN) (R : VR) (j : J) : Prop where
  t_eq : R.t = t ++ lay t.length j
  r_eq : R.r = (R.t.length : Int) - 1
  le : p.i ≤ R.p.i
  ge : R.p.i ≤ (b.length : Int)
  fit : Cln j → Fit (seg b p.i R.p.i) (txt j)
def VOK (b : List Int) (val : LS → List TN → VR) : Prop := ∀ (p : LS) (t : List TN), (val p t).p.bad = 0 → p.bad = 0 ∧ (0 ≤ p.i → ∃ j, Took b p t (val p t) j)
mutual
theorem txtL_f (ns ns2 : List ByteArray) : (l : JL) → txtL false ns l = txtL false ns2 l
  | .nil => by simp [txtL]
  | .cons j l => by
    rw [txtL, txtL, txtL_f ns.tail ns2.tail l]; rfl
end
section
variable {b : List Int} (hr : ∀ x ∈ b, isB x)
include hr
theorem many_ok {val : LS → List TN → VR} (hv : VOK b val) (ob : Bool) (fr : Int) (k : Nat) : ∀ (p : LS) (t : List TN) (ns : List ByteArray) (ks : List Int), (manyL b val ob fr k p t ns ks).p.bad = 0 → 0 ≤ p.i → ((b.length : Int) + 1 - p.i ≤ k) → p.i ≤ (b.length : Int) →
    p.bad = 0 ∧ ∃ (j : J) (l : JL) (ns2 : List ByteArray), (manyL b val ob fr k p t ns ks).t = t ++ (layL t.length (.cons j l)).1 ++ [⟨kindB ob, false, 0, ⟨#[]⟩, ns ++ ns2, ks ++ (layL t.length (.cons j l)).2⟩] ∧ (manyL b val ob fr k p t ns ks).r = ((manyL b val ob fr k p t ns ks).t.length : Int) - 1 ∧
      p.i ≤ (manyL b val ob fr k p t ns ks).p.i ∧ (manyL b val ob fr k p t ns ks).p.i ≤ (b.length : Int) ∧ ((∀ s ∈ ns2, ClnS s) → ClnL (.cons j l) → Fit (seg b p.i (manyL b val ob fr k p t ns ks).p.i) (txtL ob ns2 (.cons j l) ++ [endB ob])) := by
  induction k with
  | zero => intro p t ns ks h h0 h1 h2; exfalso; omega
  | succ k ih =>
    intro p t ns ks h h0 h1 hle
    rw [manyL] at h ⊢
    by_cases hp : p.bad ≠ 0
    · rw [if_pos hp] at h; exact absurd h hp
    rw [if_neg hp] at h ⊢
    refine ⟨by omega, ?_⟩
    have hq : ∃ (q : LS) (nn : List ByteArray), (if ob = true then (nameS b ns p).1 else p) = q ∧ (if ob = true then (nameS b ns p).2 else ns) = ns ++ nn ∧ (q.bad = 0 → p.i ≤ q.i ∧ ((∀ s ∈ nn, ClnS s) → Fit (seg b p.i q.i) (nmT ob nn)) ∧ (ob = true → ∃ s, nn = [s]) ∧ (ob = false → nn = [])) := by
      cases ob with
      | false => exact ⟨p, [], rfl, by simp, fun _ => ⟨by omega, fun _ => by rw [seg_self]; exact Fit.refl _, fun e => (by cases e), fun _ => rfl⟩⟩
      | true =>
        by_cases hb : (nameS b ns p).1.bad = 0
        · obtain ⟨_, s, e1, e2, e3, e4⟩ := name_ok hr ns p hb h0
          exact ⟨(nameS b ns p).1, [s], rfl, e1, fun _ => ⟨by omega, fun hcl => e4 (hcl s (by simp)), fun _ => ⟨s, rfl⟩, fun e => (by cases e)⟩⟩
        · by_cases hn : ∃ nn, (nameS b ns p).2 = ns ++ nn
          · obtain ⟨nn, hn⟩ := hn
            exact ⟨(nameS b ns p).1, nn, rfl, hn, fun e => absurd e hb⟩
          · exfalso
            apply hn
            unfold nameS
            dsimp only
            split
            · exact ⟨[], by simp⟩
            · exact ⟨_, rfl⟩
    obtain ⟨q, nn, hq1, hq2, hq3⟩ := hq
    rw [hq1, hq2] at h ⊢
    dsimp only at h ⊢
    have hs2 : ∀ c s, c = nextF b (val q t).p → s = nextS b (val q t).p → (if c ≥ 0 ∧ c ≠ 44 ∧ c ≠ endB ob then noF s s.i 22 else s).bad = 0 → (val q t).p.bad = 0 ∧ (c = 44 ∨ c = endB ob) ∧ s.bad = 0 ∧ (val q t).p.i ≤ s.i ∧ s.i < (b.length : Int) ∧ gt b s.i = c ∧ (if c ≥ 0 ∧ c ≠ 44 ∧ c ≠ endB ob then noF s s.i 22 else s) = s := by
      intro c s hc hs hz
      by_cases hcc : c ≥ 0 ∧ c ≠ 44 ∧ c ≠ endB ob
      · rw [if_pos hcc] at hz; exact absurd hz (noF_ne hr (by decide))
      · rw [if_neg hcc] at hz ⊢
        rcases next_ok2 hr (val q t).p with ⟨_, g2⟩ | ⟨⟨g1, g2⟩, g3, g4, g5, g6⟩
        · rw [hs] at hz; exact absurd hz g2
        · rw [hc, hs]
          rw [hc] at hcc
          exact ⟨g3, by omega, g4, g6, g5, g2.symm, rfl⟩
    generalize hc : nextF b (val q t).p = c at h ⊢
    generalize hs : nextS b (val q t).p = s at h ⊢
    have hs2 := hs2 c s hc.symm hs.symm
    generalize hz : (if c ≥ 0 ∧ c ≠ 44 ∧ c ≠ endB ob then noF s s.i 22 else s) = s2 at h hs2 ⊢
    by_cases hce : c = endB ob
    · rw [if_pos hce] at h ⊢
      obtain ⟨g1, g2⟩ := put_ok2 h
      have hsb : s2.bad = 0 := g1
      obtain ⟨h3, h4, h5, h6, h7, h8, h9⟩ := hs2 hsb
      obtain ⟨hqb, hj⟩ := hv q t h3
      obtain ⟨m1, m2, m3, m4⟩ := hq3 hqb
      obtain ⟨j, tk⟩ := hj (by omega)
      have hR : putV (s2.go 1) (val q t).t ⟨kindB ob, false, 0, ⟨#[]⟩, ns ++ nn, ks ++ [(val q t).r]⟩ fr = ⟨(val q t).t.length, s2.go 1, (val q t).t ++ [⟨kindB ob, false, 0, ⟨#[]⟩, ns ++ nn, ks ++ [(val q t).r]⟩]⟩ := g2
      rw [hR]
      have hle := tk.le; have hge := tk.ge
      have hl : (lay t.length j).length + t.length = (val q t).t.length := by rw [tk.t_eq, List.length_append]; omega
      refine ⟨j, .nil, nn, ?_, by simp, ?_, ?_, fun hcl hcj => ?_⟩
      · show (val q t).t ++ _ = _
        rw [layL, layL, tk.r_eq, tk.t_eq]
        simp only [List.append_nil, List.length_append]
        congr 4
      · show p.i ≤ s2.i + 1
        rw [h9]; omega
      · show s2.i + 1 ≤ _
        rw [h9]; omega
      · show Fit (seg b p.i (s2.i + 1)) _
        rw [h9]
        have hcj' : Cln j := hcj.1
        rw [txtL, sepT, List.append_nil, seg_cat (j := q.i) h0 (by omega) (by omega) (by omega), seg_cat (i := q.i) (j := (val q t).p.i) (by omega) (by omega) (by omega) (by omega), seg_cat (i := (val q t).p.i) (j := s.i) (by omega) (by omega) (by omega) (by omega), seg_one (by omega) h7, h8, hce]
        rw [List.append_assoc]
        exact Fit.app (m2 hcl) (Fit.app (tk.fit hcj') (Fit.gap (Fit.refl _)))
    · rw [if_neg hce] at h ⊢
      have hsz : (s2.go 1).bad = 0 := by
        by_cases e : (s2.go 1).bad = 0
        · exact e
        · exfalso
          cases k with
          | zero => rw [manyL] at h; exact e h
          | succ k => rw [manyL, if_pos e] at h; exact e h
      have hsb : s2.bad = 0 := hsz
      obtain ⟨h3, h4, h5, h6, h7, h8, h9⟩ := hs2 hsb
      obtain ⟨hqb, hj⟩ := hv q t h3
      obtain ⟨m1, m2, m3, m4⟩ := hq3 hqb
      obtain ⟨j, tk⟩ := hj (by omega)
      have hle := tk.le; have hge := tk.ge
      have hl : (lay t.length j).length + t.length = (val q t).t.length := by rw [tk.t_eq, List.length_append]; omega
      have hgo : (s2.go 1).i = s.i + 1 := by rw [h9]; rfl
      obtain ⟨_, j2, l2, ns2, r1, r2, r3, r4, r5⟩ := ih (s2.go 1) (val q t).t (ns ++ nn) (ks ++ [(val q t).r]) h (by omega) (by omega) (by omega)
      refine ⟨j, .cons j2 l2, nn ++ ns2, ?_, r2, by omega, r4, fun hcl hcj => ?_⟩
      · rw [r1]
        have e1 : ((val q t).t.length : Int) = (t.length : Int) + (lay (t.length : Int) j).length := by omega
        rw [tk.r_eq, e1]
        conv => rhs; rw [layL]
        dsimp only
        rw [tk.t_eq]
        simp only [List.append_assoc, List.cons_append, List.nil_append]
      · have hcj' : Cln j := hcj.1
        have hn2 : ∀ s ∈ ns2, ClnS s := fun s hs => hcl s (List.mem_append_right _ hs)
        have h5' := r5 hn2 hcj.2
        have etl : nmT ob (nn ++ ns2) = nmT ob nn ∧ (ob = true → (nn ++ ns2).tail = ns2) := by
          cases ob with
          | false => exact ⟨rfl, fun e => by cases e⟩
          | true =>
            obtain ⟨s, rfl⟩ := m3 rfl
            exact ⟨rfl, fun _ => rfl⟩
        have etx : txtL ob (nn ++ ns2).tail (.cons j2 l2) = txtL ob ns2 (.cons j2 l2) := by
          cases ob with
          | true => rw [etl.2 rfl]
          | false => exact txtL_f _ _ _
        rw [txtL, etl.1, etx, sepT]
        generalize hRR : manyL b val ob fr k (s2.go 1) (val q t).t (ns ++ nn) (ks ++ [(val q t).r]) = R at *
        rw [seg_cat (j := q.i) h0 (by omega) (by omega) (by omega), seg_cat (i := q.i) (j := (val q t).p.i) (by omega) (by omega) (by omega) (by omega), seg_cat (i := (val q t).p.i) (j := s.i) (by omega) (by omega) (by omega) (by omega), seg_cat (i := s.i) (j := s.i + 1) (by omega) (by omega) (by omega) (by omega), seg_one (by omega) h7, h8, show c = 44 by omega]
        rw [hgo] at h5'
        rw [List.append_assoc, List.append_assoc]
        refine Fit.app (m2 fun s hs => hcl s (List.mem_append_left _ hs)) (Fit.app (tk.fit hcj') (Fit.gap ?_))
        exact Fit.app (s := [44]) (x := [44]) (Fit.refl _) h5'
theorem value_step (d : Nat) (ih : d ≠ 0 → VOK b (valueF b d)) : VOK b (valueF b (d + 1)) := by
    intro p t h
    rw [valueF] at h ⊢
    have hn := next_ok2 hr p
    generalize hc : nextF b p = c at h hn ⊢
    generalize hs : nextS b p = s at h hn ⊢
    rcases hn with ⟨g1, g2⟩ | ⟨⟨g1, g2⟩, g3, g4, g5, g6⟩
    · rw [if_pos (by omega)] at h; exact absurd h g2
    rw [if_neg (by omega)] at h ⊢
    refine ⟨g3, fun h0 => ?_⟩
    have leaf : ∀ (q : LS) (v : TN) (j : J), (putV q t v s.i).p.bad = 0 → lay t.length j = [v] → s.i ≤ q.i → q.i ≤ (b.length : Int) → (Cln j → Fit (seg b s.i q.i) (txt j)) → ∃ j, Took b p t (putV q t v s.i) j := by
      intro q v j hb hj h1 h2 hf
      obtain ⟨e1, e2⟩ := put_ok2 hb
      rw [e2]
      refine ⟨j, ⟨by rw [hj], by simp, by show p.i ≤ q.i; omega, h2, fun hcl => ?_⟩⟩
      show Fit (seg b p.i q.i) _
      rw [seg_cat (j := s.i) h0 (by omega) (by omega) (by omega)]
      exact Fit.gap (hf hcl)
    have word : ∀ (w : List Int) (v : TN) (j : J), (putV (wordF b w s) t v s.i).p.bad = 0 → lay t.length j = [v] → txt j = w → ∃ j, Took b p t (putV (wordF b w s) t v s.i) j := by
      intro w v j hb hj hw
      obtain ⟨e1, _⟩ := put_ok2 hb
      obtain ⟨f1, f2, f3, _⟩ := word_ok hr w s e1 (by omega) (by omega)
      exact leaf _ v j hb hj (by omega) (by omega) (fun _ => by rw [f1, f3, hw]; exact Fit.refl _)
    by_cases c1 : c = 110
    · rw [if_pos c1] at h ⊢; exact word _ _ .nul h (by simp [lay]) (by simp [txt])
    rw [if_neg c1] at h ⊢
    by_cases c2 : c = 116
    · rw [if_pos c2] at h ⊢; exact word _ _ (.boo true) h (by simp [lay]) (by simp [txt])
    rw [if_neg c2] at h ⊢
    by_cases c3 : c = 102
    · rw [if_pos c3] at h ⊢; exact word _ _ (.boo false) h (by simp [lay]) (by simp [txt])
    rw [if_neg c3] at h ⊢
    by_cases c4 : c = 34
    · rw [if_pos c4] at h ⊢
      obtain ⟨e1, _⟩ := put_ok2 h
      obtain ⟨f1, f2, f3, f4⟩ := text_ok hr s e1 (by omega) g5 (by omega)
      exact leaf _ _ (.str (mkS (textF b s))) h (by simp [lay]) (by omega) f3 (fun hcl => by rw [txt]; exact f4 (by rwa [Cln] at hcl))
    rw [if_neg c4] at h ⊢
    by_cases c5 : c = 45 ∨ (c ≥ 48 ∧ c ≤ 57)
    · rw [if_pos c5] at h ⊢
      obtain ⟨e1, _⟩ := put_ok2 h
      obtain ⟨f1, f2, f3⟩ := number_ok hr s e1 (by omega) (by omega)
      exact leaf _ _ (.num (numberF b s)) h (by simp [lay]) f1 f2 (fun _ => by rw [f3, txt]; exact Fit.refl _)
    rw [if_neg c5] at h ⊢
    by_cases c6 : c = 91 ∨ c = 123
    · rw [if_pos c6] at h ⊢
      by_cases hd : d = 0
      · rw [if_pos hd] at h; exact absurd h (noF_ne hr (by decide))
      rw [if_neg hd] at h ⊢
      have hop : opnB (decide (c = 123)) = c := by
        unfold opnB
        by_cases e : c = 123
        · rw [if_pos (by simp [e])]; omega
        · rw [if_neg (by simp [e])]; omega
      generalize hob : decide (c = 123) = ob at h hop ⊢
      unfold manyF at h ⊢
      by_cases he : nextF b (s.go 1) = endB ob
      · rw [if_pos he] at h ⊢
        obtain ⟨e1, e2⟩ := put_ok2 h
        rcases next_ok2 hr (s.go 1) with ⟨k1, k2⟩ | ⟨⟨k1, k2⟩, k3, k4, k5, k6⟩
        · exact absurd e1 k2
        have k6' : s.i + 1 ≤ (nextS b (s.go 1)).i := k6
        rw [e2]
        refine ⟨.box ob [] .nil, ⟨by simp [lay, layL], by simp, by show p.i ≤ (nextS b (s.go 1)).i + 1; omega, by show (nextS b (s.go 1)).i + 1 ≤ _; omega, fun _ => ?_⟩⟩
        show Fit (seg b p.i ((nextS b (s.go 1)).i + 1)) _
        rw [txt, txtL, seg_cat (j := s.i) h0 (by omega) (by omega) (by omega), seg_cat (i := s.i) (j := s.i + 1) (by omega) (by omega) (by omega) (by omega), seg_cat (i := s.i + 1) (j := (nextS b (s.go 1)).i) (by omega) (by omega) (by omega) (by omega), seg_one (by omega) g5, seg_one (by omega) k5, ← g2, ← k2, he, hop]
        exact Fit.gap (Fit.app (s := [c]) (x := [c] ++ []) (Fit.refl _) (Fit.gap (Fit.refl _)))
      · rw [if_neg he] at h ⊢
        have hb1 : (nextS b (s.go 1)).bad = 0 := by
          by_cases e : (nextS b (s.go 1)).bad = 0
          · exact e
          · exfalso; rw [manyL, if_pos e] at h; exact e h
        rcases next_ok2 hr (s.go 1) with ⟨k1, k2⟩ | ⟨⟨k1, k2⟩, k3, k4, k5, k6⟩
        · exact absurd hb1 k2
        have k6' : s.i + 1 ≤ (nextS b (s.go 1)).i := k6
        obtain ⟨_, j, l, ns2, r1, r2, r3, r4, r5⟩ := many_ok hr (ih hd) ob s.i (b.length + 2) (nextS b (s.go 1)) t [] [] h (by omega) (by omega) (by omega)
        generalize manyL b (valueF b d) ob s.i (b.length + 2) (nextS b (s.go 1)) t [] [] = R at *
        refine ⟨.box ob ns2 (.cons j l), ⟨by rw [r1, lay]; simp, r2, by omega, r4, fun hcl => ?_⟩⟩
        rw [Cln] at hcl
        have h5 := r5 hcl.1 hcl.2
        rw [txt, seg_cat (j := s.i) h0 (by omega) (by omega) (by omega), seg_cat (i := s.i) (j := s.i + 1) (by omega) (by omega) (by omega) (by omega), seg_cat (i := s.i + 1) (j := (nextS b (s.go 1)).i) (by omega) (by omega) (by omega) (by omega), seg_one (by omega) g5, ← g2, hop, List.append_assoc]
        exact Fit.gap (Fit.app (Fit.refl _) (Fit.gap h5))
    · rw [if_neg c6] at h; exact absurd h (noF_ne hr (by decide))
theorem value_ok (d : Nat) : VOK b (valueF b (d + 1)) := by
  induction d with
  | zero => exact value_step hr 0 (fun h => absurd rfl h)
  | succ d ih => exact value_step hr (d + 1) (fun _ => ih)
theorem parse_sound (h : parseE b = 0) : ∃ j, parseT b = lay 0 j ∧ (Cln j → Fit b (txt j)) := by
  have h1 : ¬ (b.length : Int) > 65536 := fun e => by unfold parseE at h; rw [if_pos e] at h; cases h
  have h2 : (parseP b).bad = 0 := by unfold parseE at h; rw [if_neg h1] at h; exact h
  have hT : parseT b = (valueF b 17 ⟨0, 0, 0⟩ []).t := by unfold parseT; rw [if_neg (by omega)]
  rw [hT]
  unfold parseP at h2
  have hv := value_ok hr 16 ⟨0, 0, 0⟩ []
  have hg : (gapF b (valueF b 17 ⟨0, 0, 0⟩ []).p).i = (valueF b 17 ⟨0, 0, 0⟩ []).p.i + (gapN (b.drop (valueF b 17 ⟨0, 0, 0⟩ []).p.i.toNat) : Int) := rfl
  have hgb : (gapF b (valueF b 17 ⟨0, 0, 0⟩ []).p).bad = (valueF b 17 ⟨0, 0, 0⟩ []).p.bad := rfl
  have e17 : valueF b 17 = valueF b (16 + 1) := rfl
  rw [e17] at *
  generalize valueF b (16 + 1) ⟨0, 0, 0⟩ [] = R at *
  generalize gapF b R.p = q at *
  by_cases hq : q.bad = 0 ∧ q.i < (b.length : Int)
  · rw [if_pos hq] at h2; exact absurd h2 (noF_ne hr (by decide))
  · rw [if_neg hq] at h2
    obtain ⟨_, hj⟩ := hv (by rw [← hgb]; exact h2)
    obtain ⟨j, tk⟩ := hj (by decide)
    refine ⟨j, by rw [tk.t_eq]; rfl, fun hcl => ?_⟩
    have hf := tk.fit hcl
    have hge := tk.ge
    have h0 : (0 : Int) ≤ R.p.i := tk.le
    have e : b = seg b 0 R.p.i ++ seg b R.p.i (b.length : Int) := by
      rw [← seg_cat (by decide) h0 hge (by omega)]
      unfold seg; simp
    rw [e]
    have := hf.app (t := seg b R.p.i (b.length : Int)) (y := []) ⟨by simp, fun e => by simp at e; exact (List.length_eq_zero_iff.1 (by omega))⟩
    rw [List.append_nil] at this
    rw [← e]
    rw [← e] at this
    exact this
theorem parse_kw {L : List TV} (h : vs L = parseT b) (hl : L.length ≤ 8192) : KW L := by
  by_cases he : parseE b = 0
  · obtain ⟨j, hj, _⟩ := parse_sound hr he
    exact kw_of (h.trans hj) hl
  · have : parseT b = [] := by
      unfold parseE at he
      unfold parseT
      rw [if_pos]
      by_cases h1 : (b.length : Int) > 65536
      · exact .inl h1
      · rw [if_neg h1] at he; exact .inr he
    rw [this] at h
    have : L = [] := by
      have := congrArg List.length h
      rw [vs_len] at this
      exact List.length_eq_zero_iff.1 this
    rw [this]; exact kw_nil
end
end Go.SX
namespace Go.SX
open Go
def JL.of : List J → JL
  | [] => .nil
  | j :: r => .cons j (JL.of r)
theorem app_last {α : Type} {a b : List α} {x y : α} (h : a ++ [x] = b ++ [y]) : a = b ∧ x = y := by
  have := List.append_inj' h rfl
  exact ⟨this.1, by simpa using this.2⟩
mutual
theorem lay_inj : (j : J) → ∀ (j' : J) (p p' : List TN), p ++ lay p.length j = p' ++ lay p'.length j' → j = j' ∧ p = p'
  | .nul, j', p, p', h => by
    cases j' <;> (try (rw [lay, lay] at h; have h2 := app_last h; simp at h2; done)) 
    · exact ⟨rfl, (app_last h).1⟩
    · rename_i ob ns l; exfalso; rw [lay, lay, ← List.append_assoc] at h; have h2 := (app_last h).2; simp [kindB] at h2; cases ob <;> simp at h2
  | .boo b, j', p, p', h => by
    cases j' <;> (try (rw [lay, lay] at h; have h2 := app_last h; simp at h2; done))
    · rename_i c; rw [lay, lay] at h; have h2 := app_last h; simp at h2; exact ⟨by rw [h2.2], h2.1⟩
    · rename_i ob ns l; exfalso; rw [lay, lay, ← List.append_assoc] at h; have h2 := (app_last h).2; simp [kindB] at h2; cases ob <;> simp at h2
  | .num n, j', p, p', h => by
    cases j' <;> (try (rw [lay, lay] at h; have h2 := app_last h; simp at h2; done))
    · rename_i c; rw [lay, lay] at h; have h2 := app_last h; simp at h2; exact ⟨by rw [h2.2], h2.1⟩
    · rename_i ob ns l; exfalso; rw [lay, lay, ← List.append_assoc] at h; have h2 := (app_last h).2; simp [kindB] at h2; cases ob <;> simp at h2
  | .str s, j', p, p', h => by
    cases j' <;> (try (rw [lay, lay] at h; have h2 := app_last h; simp at h2; done))
    · rename_i c; rw [lay, lay] at h; have h2 := app_last h; simp at h2; exact ⟨by rw [h2.2], h2.1⟩
    · rename_i ob ns l; exfalso; rw [lay, lay, ← List.append_assoc] at h; have h2 := (app_last h).2; simp [kindB] at h2; cases ob <;> simp at h2
  | .box ob ns l, j', p, p', h => by
    cases j' with
    | nul => exfalso; rw [lay, lay, ← List.append_assoc] at h; have h2 := (app_last h).2; simp [kindB] at h2; cases ob <;> simp at h2
    | boo c => exfalso; rw [lay, lay, ← List.append_assoc] at h; have h2 := (app_last h).2; simp [kindB] at h2; cases ob <;> simp at h2
    | num c => exfalso; rw [lay, lay, ← List.append_assoc] at h; have h2 := (app_last h).2; simp [kindB] at h2; cases ob <;> simp at h2
    | str c => exfalso; rw [lay, lay, ← List.append_assoc] at h; have h2 := (app_last h).2; simp [kindB] at h2; cases ob <;> simp at h2
    | box ob' ns' l' =>
      rw [lay, lay, ← List.append_assoc, ← List.append_assoc] at h
      obtain ⟨h1, h2⟩ := app_last h
      simp only [TN.mk.injEq, true_and] at h2
      obtain ⟨e1, e2, e3⟩ := h2
      have e1' : ob = ob' := by
        cases ob <;> cases ob' <;> simp [kindB] at e1 <;> rfl
      obtain ⟨e4, e5⟩ := layL_inj l l' p p' h1 e3
      exact ⟨by rw [e1', e2, e4], e5⟩
theorem layL_inj : (l : JL) → ∀ (l' : JL) (p p' : List TN), p ++ (layL p.length l).1 = p' ++ (layL p'.length l').1 → (layL p.length l).2 = (layL p'.length l').2 → l = l' ∧ p = p'
  | .nil, l', p, p', h, hk => by
    cases l' with
    | nil => exact ⟨rfl, by simpa [layL] using h⟩
    | cons j l' => simp [layL] at hk
  | .cons j l, l', p, p', h, hk => by
    cases l' with
    | nil => simp [layL] at hk
    | cons j' l' =>
      rw [layL, layL] at h hk
      simp only [List.cons.injEq] at hk
      obtain ⟨hk1, hk2⟩ := hk
      simp only [← List.append_assoc] at h
      have hl : (p ++ lay p.length j).length = (p' ++ lay p'.length j').length := by simp only [List.length_append]; omega
      obtain ⟨h1, h2⟩ := List.append_inj h hl
      obtain ⟨e1, e2⟩ := lay_inj j j' p p' h1
      subst e1 e2
      have e3 : (p.length : Int) + (lay (p.length : Int) j).length = ((p ++ lay (p.length : Int) j).length : Nat) := by simp
      rw [e3] at h2 hk2
      obtain ⟨e4, _⟩ := layL_inj l l' (p ++ lay p.length j) (p ++ lay p.length j) (by rw [h2]) hk2
      exact ⟨by rw [e4], rfl⟩
end
def joinL : List (List Int) → List Int
  | [] => []
  | [x] => x
  | x :: y :: r => x ++ 44 :: joinL (y :: r)
theorem joinL_snoc (l : List (List Int)) (x : List Int) : joinL (l ++ [x]) = if l = [] then x else joinL l ++ 44 :: x := by
  induction l with
  | nil => rfl
  | cons y r ih =>
    rw [if_neg (by simp)]
    cases r with
    | nil => rfl
    | cons z r =>
      rw [if_neg (by simp)] at ih
      show y ++ 44 :: joinL (z :: r ++ [x]) = _
      rw [ih]
      simp [joinL]
theorem joinL_len {B : Nat} : ∀ l : List (List Int), (∀ x ∈ l, x.length ≤ B) → (joinL l).length ≤ l.length * (B + 1)
  | [], _ => by simp [joinL]
  | [x], h => by have := h x (by simp); simp [joinL]; omega
  | x :: y :: r, h => by
    have h1 := h x (by simp)
    have h2 := joinL_len (y :: r) (fun z hz => h z (List.mem_cons_of_mem _ hz))
    have e : (x :: y :: r).length * (B + 1) = (y :: r).length * (B + 1) + (B + 1) := by rw [List.length_cons, Nat.succ_mul]
    rw [e]
    simp only [joinL, List.length_append, List.length_cons] at h2 ⊢
    omega
theorem joinL_take {l : List (List Int)} (n : Nat) : (joinL (l.take n)).length ≤ (joinL l).length := by
  induction l generalizing n with
  | nil => simp
  | cons x r ih =>
    cases n with
    | zero => simp [joinL]
    | succ n =>
      cases r with
      | nil => simp
      | cons y r =>
        cases n with
        | zero => simp [joinL]
        | succ n =>
          have := ih (n + 1)
          simp only [List.take_succ_cons, joinL, List.length_append, List.length_cons] at this ⊢
          omega
theorem txtL_0 : ∀ (js : List J) (ns : List ByteArray), txtL false ns (JL.of js) = joinL (js.map txt)
  | [], ns => by simp [JL.of, txtL, joinL]
  | [j], ns => by simp [JL.of, txtL, joinL, nmT, sepT]
  | j :: k :: r, ns => by
    have := txtL_0 (k :: r) ns.tail
    rw [JL.of, txtL, this]
    simp [nmT, sepT, JL.of, joinL]
theorem txtL_1 : ∀ (js : List J) (ns : List ByteArray), js.length = ns.length → txtL true ns (JL.of js) = joinL ((ns.zip js).map (fun p => quoteF p.1 ++ [58] ++ txt p.2))
  | [], [], _ => by simp [JL.of, txtL, joinL]
  | [j], [n], _ => by simp [JL.of, txtL, joinL, nmT, sepT]
  | j :: k :: r, n :: m :: ns, h => by
    have := txtL_1 (k :: r) (m :: ns) (by simpa using h)
    rw [JL.of, txtL]
    show _ ++ _ ++ sepT _ (txtL true (m :: ns) _) = _
    rw [this]
    simp [nmT, sepT, JL.of, joinL]
def loadJ (l : List Int) : J := .box false [] (JL.of (l.map J.num))
def stepJ (s : ST) : J := .box true stepNs (JL.of [.str (wordK s.kind), .num s.item, .num s.place, .num s.arr, .num s.wait, .num s.serv, loadJ s.load, .num s.time, .num s.dist])
def planJ (p : PV) : J := .box true planNs (JL.of [.num p.veh, .num p.cost, .num p.time, .num p.dist, .num p.wait, .num p.serv, .box false [] (JL.of (p.steps.map stepJ))])
def taskJ (t : TK) : J := .box true taskNs (JL.of [.str (wordT t.ship), .num t.item])
def sumsJ (s : SU) : J := .box true sumNs (JL.of [.num s.routes, .num s.value, .num s.cost, .num s.time, .num s.dist, .num s.wait, .num s.serv, .num s.left])
def okJ (op : Bool) (su : SU) (ps : List PV) (lf : List TK) : J := .box true wholeNs (JL.of [.str ⟨#[111, 107]⟩, .boo op, sumsJ su, .box false [] (JL.of (ps.map planJ)), .box false [] (JL.of (lf.map taskJ))])
def faultJ (cd at_ : Int) (path : ByteArray) : J := .box true [sStatus, sCode, sAt, sPath] (JL.of [.str sError, .num cd, .num at_, .str path])
def replyJ (cd at_ : Int) (path : ByteArray) (op : Bool) (su : SU) (ps : List PV) (lf : List TK) : J := if cd ≠ 0 then faultJ cd at_ path else okJ op su ps lf
theorem lay_nums (m : List Int) : ∀ k : Int, layL k (JL.of (m.map J.num)) = (m.map numN, seqI k m.length) := by
  have key : ∀ (m : List Int) (k : Int), layL k (JL.of (m.map J.num)) = (m.map numN, (List.range m.length).map (fun i => k + (i : Nat))) := by
    intro m
    induction m with
    | nil => intro k; rfl
    | cons x m ih =>
      intro k
      rw [List.map_cons, JL.of, layL, lay, ih]
      simp only [List.length_cons, List.length_nil, List.map_cons, List.range_succ_eq_map, List.map_map]
      refine Prod.ext (by simp [numN]) ?_
      simp only [List.cons.injEq]
      refine ⟨by simp, List.map_congr_left fun i hi => ?_⟩
      simp only [Function.comp]
      omega
  have hs : ∀ (n : Nat) (k : Int), seqI k n = (List.range n).map (fun i => k + (i : Nat)) := by
    intro n
    induction n with
    | zero => intro k; rfl
    | succ n ih => intro k; rw [seqI, ih, List.range_succ, List.map_append]; rfl
  intro k
  rw [key, hs]
theorem lay_load (k : Int) (m : List Int) : lay k (loadJ m) = numsF k m := by
  unfold loadJ; rw [lay, lay_nums]; rfl
theorem lay_step (k : Int) (s : ST) : lay k (stepJ s) = stepF k s := by
  unfold stepJ stepF
  rw [lay]
  simp only [JL.of, layL, lay, lay_load, List.length_append, List.length_cons, List.length_nil]
  simp [txtN, numN, objN, kindB, numsF]
  and_intros <;> first | omega | (congr 2; omega)
theorem lay_steps (k : Int) : ∀ (l : List ST) (x : List TN × List Int), stepsF k l x = (x.1 ++ (layL (k + x.1.length) (JL.of (l.map stepJ))).1, x.2 ++ (layL (k + x.1.length) (JL.of (l.map stepJ))).2)
  | [], x => by simp [stepsF, JL.of, layL]
  | s :: r, x => by
    rw [stepsF, lay_steps k r, List.map_cons, JL.of, layL, lay_step]
    have e : k + ((x.1 ++ stepF (k + x.1.length) s).length : Int) = k + x.1.length + ((stepF (k + x.1.length) s).length : Int) := by rw [List.length_append]; omega
    dsimp only
    rw [e]
    refine Prod.ext (by simp) ?_
    simp only [List.append_assoc, List.cons_append, List.nil_append]
    congr 2
    rw [stepF_len]; omega
theorem lay_plan (k : Int) (p : PV) : lay k (planJ p) = planF k p := by
  unfold planJ planF
  rw [lay]
  have e := lay_steps (k + 6) p.steps ([], [])
  simp only [List.length_nil, List.nil_append] at e
  rw [e]
  have e6 : k + 6 + ((0 : Nat) : Int) = k + 6 := by omega
  rw [e6]
  simp only [JL.of, layL, lay, List.length_append, List.length_cons, List.length_nil]
  have e7 : k + ((0 + 1 : Nat) : Int) + ((0 + 1 : Nat) : Int) + ((0 + 1 : Nat) : Int) + ((0 + 1 : Nat) : Int) + ((0 + 1 : Nat) : Int) + ((0 + 1 : Nat) : Int) = k + 6 := by omega
  rw [e7]
  simp [numN, objN, lisN, kindB]
  and_intros <;> omega
theorem lay_plans (k : Int) : ∀ (l : List PV) (x : List TN × List Int), plansF k l x = (x.1 ++ (layL (k + x.1.length) (JL.of (l.map planJ))).1, x.2 ++ (layL (k + x.1.length) (JL.of (l.map planJ))).2)
  | [], x => by simp [plansF, JL.of, layL]
  | s :: r, x => by
    rw [plansF, lay_plans k r, List.map_cons, JL.of, layL, lay_plan]
    have e : k + ((x.1 ++ planF (k + x.1.length) s).length : Int) = k + x.1.length + ((planF (k + x.1.length) s).length : Int) := by rw [List.length_append]; omega
    dsimp only
    rw [e]
    refine Prod.ext (by simp) ?_
    simp only [List.append_assoc, List.cons_append, List.nil_append]
theorem lay_task (k : Int) (t : TK) : lay k (taskJ t) = taskF k t := by
  unfold taskJ taskF
  rw [lay]
  simp [JL.of, layL, lay, txtN, numN, objN, kindB]
theorem lay_tasks (k : Int) : ∀ (l : List TK) (x : List TN × List Int), tasksF k l x = (x.1 ++ (layL (k + x.1.length) (JL.of (l.map taskJ))).1, x.2 ++ (layL (k + x.1.length) (JL.of (l.map taskJ))).2)
  | [], x => by simp [tasksF, JL.of, layL]
  | s :: r, x => by
    rw [tasksF, lay_tasks k r, List.map_cons, JL.of, layL, lay_task]
    have e : k + ((x.1 ++ taskF (k + x.1.length) s).length : Int) = k + x.1.length + ((taskF (k + x.1.length) s).length : Int) := by rw [List.length_append]; omega
    dsimp only
    rw [e]
    refine Prod.ext (by simp) ?_
    simp only [List.append_assoc, List.cons_append, List.nil_append]
    congr 2
    simp [taskF]; omega
theorem lay_sums (k : Int) (s : SU) : lay k (sumsJ s) = sumsF k s := by
  unfold sumsJ sumsF
  rw [lay]
  simp [JL.of, layL, lay, numN, objN, kindB]
  and_intros <;> omega
theorem lay_ok_ (op : Bool) (su : SU) (ps : List PV) (lf : List TK) : lay 0 (okJ op su ps lf) = okT op su ps lf := by
  have e1 : okP ps = layL 11 (JL.of (ps.map planJ)) := by
    unfold okP
    rw [lay_plans]
    simp only [List.length_nil, List.nil_append]
    rw [show (11 : Int) + ((0 : Nat) : Int) = 11 by decide]
  have e2 : okK ps lf = layL (12 + (okP ps).1.length) (JL.of (lf.map taskJ)) := by
    unfold okK
    rw [lay_tasks]
    simp only [List.length_nil, List.nil_append]
    rw [show (12 : Int) + (okP ps).1.length + ((0 : Nat) : Int) = 12 + (okP ps).1.length by omega]
  unfold okJ okT
  rw [lay]
  simp only [JL.of, layL, lay_sums]
  have s1 : ∀ k : Int, lay k (.str ⟨#[111, 107]⟩) = [txtN ⟨#[111, 107]⟩] := fun k => by rw [lay]; rfl
  have s2 : ∀ k : Int, lay k (.boo op) = [truN op] := fun k => by rw [lay]; rfl
  simp only [s1, s2, List.length_cons, List.length_nil]
  have s3 : ∀ k : Int, (sumsF k su).length = 9 := fun k => rfl
  simp only [s3]
  rw [show (0 : Int) + ((0 + 1 : Nat) : Int) + ((0 + 1 : Nat) : Int) = 2 by decide, show (2 : Int) + ((9 : Nat) : Int) = 11 by decide]
  have s4 : lay 11 (.box false [] (JL.of (ps.map planJ))) = (okP ps).1 ++ [lisN (okP ps).2] := by rw [lay, ← e1]; rfl
  rw [s4]
  simp only [List.length_append, List.length_cons, List.length_nil]
  have s5 : lay (11 + (((okP ps).1.length + (0 + 1) : Nat) : Int)) (.box false [] (JL.of (lf.map taskJ))) = (okK ps lf).1 ++ [lisN (okK ps lf).2] := by
    rw [show (11 : Int) + (((okP ps).1.length + (0 + 1) : Nat) : Int) = 12 + (okP ps).1.length by omega, lay, ← e2]; rfl
  rw [s5]
  simp [objN, kindB]
  and_intros <;> omega
theorem lay_fault (cd at_ : Int) (path : ByteArray) : lay 0 (faultJ cd at_ path) = faultT cd at_ path := by
  unfold faultJ faultT
  rw [lay]
  simp [JL.of, layL, lay, numN, txtN, objN, kindB]
theorem lay_reply (cd at_ : Int) (path : ByteArray) (op : Bool) (su : SU) (ps : List PV) (lf : List TK) : lay 0 (replyJ cd at_ path op su ps lf) = treeF cd at_ path op su ps lf := by
  unfold replyJ treeF
  split
  · exact lay_fault _ _ _
  · exact lay_ok_ _ _ _ _
end Go.SX
namespace Go.SX
open Go Go.RowKit
section
variable {V : Env} {P : Program} {Q : Exit → Act → World → Prop} {ops : Array Oper} {N : Nat} {o : Oper} {L : List (Nat × Value)} {H R : List Res} {S : Nat → Prop} {wf : World} {K : St → Prop}
theorem run_storeF {P : Program} {t : TypeId} {w : World} {b off : Nat} {l : Array Value} {e : TypeId} {fz : Nat × Nat} {v : Value} (ht : ty P t = some (false, 1)) (hv : v.oneCell' = true) (hb : w.heap[b]? = some (.cells l e fz)) (ho : off < l.size) (hf : off < fz.1) :
    (storeVar t ⟨b, off, none⟩ v).run P w = .ok () (w.setCell ⟨b, off, none⟩ v) := by
  obtain ⟨d, i, hu, hi, hd, hs⟩ := ty_spec ht
  have hc : v.cells = #[v] := by cases v <;> first | rfl | simp [Value.oneCell'] at hv
  have hcell : w.cell? ⟨b, off, none⟩ = some l[off] := by simp [World.cell?, hb, ho]
  have hfr : w.frozen? ⟨b, off, none⟩ = false := by simp [World.frozen?, hb]; omega
  cases v <;> first | (simp [Value.oneCell'] at hv; done) | simp [storeVar, sizeOf, typeInfo, hi, hs, hc, storeCells, store, Addr.add, Sem.run, hcell, hfr]
theorem st_setro {t e n c p : Nat} {A : Option Addr} {l : List Int} {i z : Int} {x y : Operand} (ho : o.op = .store t x y) (hg : o.guard = none) (hd : o.dst = none) (ht : ty P t = some (false, 1))
    (hx : lk L x = some (.pointer (some ⟨ab A, p, none⟩))) (hpo : p = ao A + i.toNat * eY.sz + 0) (hy : lk L y = some (.int .u8 z)) (hp : Pick H (ro_ eY e (.slice A n c) l) R)
    (h0 : 0 ≤ i) (h1 : i < (l.length : Int)) (k : K ⟨L, ro_ eY e (.slice A n c) (l.set i.toNat z) :: R, S, wf⟩) : OpStep V P Q ops N o ⟨L, H, S, wf⟩ K :=
  .eff hg hd (by simp [ho, noSel]) (by simp [ho, Op.operands, known_of hx, known_of hy]) fun w hw => by
    subst hpo
    have hw' := hw.perm hp.perm
    obtain ⟨g, cap, hv, k1, k2, ⟨Cs, k3, k4⟩, k5⟩ := hw'.has _ (List.mem_cons_self ..)
    injection hv with hA hn hc
    subst hA hn hc
    have hi : i.toNat < Cs.size := by
      have : l.length * 1 ≤ Cs.size := k4
      omega
    have e0 : ao (some (⟨g, 0, none⟩ : Addr)) + i.toNat * eY.sz + 0 = i.toNat := by show 0 + i.toNat * 1 + 0 = _; omega
    have hr := run_storeF (P := P) (v := .int .u8 z) (off := i.toNat) ht rfl k3 hi hi
    refine ⟨_, _, by rw [e0] at hx; simp [execOp, ho, ev_of hx, ev_of hy, Instr.storeAt, Instr.sureAddr, ab, hr]; rfl, ?_, k⟩
    refine WW.change (C := [ro_ eY e (.slice (some ⟨g, 0, none⟩) l.length c) l]) (R := R) (C' := [ro_ eY e (.slice (some ⟨g, 0, none⟩) l.length c) (l.set i.toNat z)]) hw' (fun b hb hn => ?_) (by simp) ?_ (by simp [ro_, Value.ownBlock]) (fun b hb => .inl (by simpa [ro_, Value.ownBlock] using hb)) rfl rfl rfl
    · exact Below.heap_setCell _ _ _ _ (by simpa [ro_, Value.ownBlock, ab] using hn)
    · intro r hr
      simp only [List.mem_singleton] at hr
      subst hr
      have hb2 : (w.setCell ⟨g, i.toNat, none⟩ (.int .u8 z)).heap[g]? = some (.cells (Cs.set i.toNat (.int .u8 z) hi) e (Cs.size, Cs.size + 1)) := by
        simp [World.setCell, Array.getElem?_modify, k3, Array.setIfInBounds, hi]
      have hb3 : (Cs.set i.toNat (.int .u8 z) hi).size = Cs.size := Array.size_set ..
      refine ⟨g, c, by rw [List.length_set], by rw [List.length_set]; exact k1, k2, ⟨Cs.set i.toNat (.int .u8 z) hi, by rw [hb3]; exact hb2, by rw [List.length_set, hb3]; exact k4⟩, At.of_blk hb2 fun j u hu => ?_⟩
      · have hj : j < l.length := by
          have := (List.getElem?_eq_some_iff.1 hu).1
          rw [flat_length, List.length_set] at this
          have h1 : j < l.length * 1 := this
          omega
        rw [Nat.zero_add, Array.getElem?_set]
        have fe : ∀ m : List Int, flat eY m = m.map (Value.int .u8) := fun m => by
          induction m with
          | nil => rfl
          | cons a m ih => rw [flat_cons, ih]; rfl
        rw [fe, List.getElem?_map, List.getElem?_set] at hu
        split
        · rename_i hij
          rw [if_pos hij, if_pos (by omega)] at hu
          exact hu
        · rename_i hij
          rw [if_neg hij] at hu
          have := k5 j u (by rw [fe, List.getElem?_map]; exact hu)
          simpa [World.cell?, k3] using this
end
theorem txt_num (n : Int) : txt (.num n) = numL n := by rw [txt]
theorem txt_str (s : ByteArray) : txt (.str s) = quoteF s := by rw [txt]
theorem txt_boo (b : Bool) : txt (.boo b) = if b = true then [116, 114, 117, 101] else [102, 97, 108, 115, 101] := by rw [txt]
theorem obj_txt {ns : List ByteArray} {js : List J} (h : js.length = ns.length) : txt (.box true ns (JL.of js)) = [123] ++ joinL ((ns.zip js).map fun p => quoteF p.1 ++ [58] ++ txt p.2) ++ [125] := by rw [txt, txtL_1 js ns h]; rfl
theorem lst_txt (ns : List ByteArray) (js : List J) : txt (.box false ns (JL.of js)) = [91] ++ joinL (js.map txt) ++ [93] := by rw [txt, txtL_0]; rfl
theorem obj_text {ns : List ByteArray} {js : List J} {l : List ByteArray} {o : ByteArray} (ho : bs o = joinL (l.map bs)) (hl : l.map bs = (ns.zip js).map fun p => quoteF p.1 ++ [58] ++ txt p.2) (hn : js.length = ns.length) : bs (((⟨#[123]⟩ : ByteArray) ++ o) ++ ⟨#[125]⟩) = txt (.box true ns (JL.of js)) := by
  rw [obj_txt hn, bs_append, bs_append, ho, hl]; rfl
theorem lst_text {ns : List ByteArray} {js : List J} {l : List ByteArray} {o : ByteArray} (ho : bs o = joinL (l.map bs)) (hl : l.map bs = js.map txt) : bs (((⟨#[91]⟩ : ByteArray) ++ o) ++ ⟨#[93]⟩) = txt (.box false ns (JL.of js)) := by
  rw [lst_txt, bs_append, bs_append, ho, hl]; rfl
theorem quote_word (k : Int) : bs (((⟨#[34]⟩ : ByteArray) ++ wordK k) ++ ⟨#[34]⟩) = quoteF (wordK k) := by
  have key : ∀ w ∈ (⟨#[63]⟩ : ByteArray) :: kindsL, bs (((⟨#[34]⟩ : ByteArray) ++ w) ++ ⟨#[34]⟩) = quoteF w := by decide +kernel
  unfold wordK
  split
  · exact key _ (List.mem_cons_of_mem _ (gt_mem (by omega) (by show _ < (6 : Int); omega)))
  · exact key _ (List.mem_cons_self ..)
theorem word_size (k : Int) : (wordK k).size ≤ 8 := by
  have key : ∀ w ∈ (⟨#[63]⟩ : ByteArray) :: kindsL, w.size ≤ 8 := by decide
  unfold wordK
  split
  · exact key _ (List.mem_cons_of_mem _ (gt_mem (by omega) (by show _ < (6 : Int); omega)))
  · exact key _ (List.mem_cons_self ..)
theorem quote_ship : bs ⟨#[34, 115, 104, 105, 112, 109, 101, 110, 116, 34]⟩ = quoteF (wordT true) := by decide +kernel
theorem quote_job : bs ⟨#[34, 106, 111, 98, 34]⟩ = quoteF (wordT false) := by decide +kernel
theorem quote_error : bs ⟨#[34, 101, 114, 114, 111, 114, 34]⟩ = quoteF sError := by decide +kernel
theorem quote_ok : bs ⟨#[34, 111, 107, 34]⟩ = quoteF ⟨#[111, 107]⟩ := by decide +kernel
theorem task_text {t : TK} {a b w : ByteArray} (ha : bs a = quoteF ⟨#[116, 121, 112, 101]⟩ ++ [58] ++ bs w) (hw : bs w = quoteF (wordT t.ship)) (hb : bs b = quoteF ⟨#[105, 116, 101, 109]⟩ ++ [58] ++ numL t.item) :
    bs (((((⟨#[123]⟩ : ByteArray) ++ a) ++ (⟨#[44]⟩ : ByteArray)) ++ b) ++ (⟨#[125]⟩ : ByteArray)) = txt (taskJ t) := by
  unfold taskJ
  rw [obj_txt rfl]
  simp only [bs_append, ha, hw, hb, taskNs, List.map_cons, List.map_nil, List.zip_cons_cons, List.zip_nil_right, txt_num, txt_str, joinL]
  simp [bs]
theorem joinL_mem : ∀ {l : List (List Int)} {x : List Int}, x ∈ l → x.length ≤ (joinL l).length
  | [a], x, h => by simp at h; subst h; exact Nat.le_refl _
  | a :: b :: r, x, h => by
    simp only [joinL, List.length_append, List.length_cons]
    rcases List.mem_cons.1 h with rfl | h
    · omega
    · have := joinL_mem (l := b :: r) h; omega
theorem joinL_le {B : Nat} {l : List ByteArray} (h : ∀ x ∈ l, x.size ≤ B) : (joinL (l.map bs)).length ≤ l.length * (B + 1) := by
  have := joinL_len (B := B) (l.map bs) (fun x hx => by obtain ⟨s, hs, rfl⟩ := List.mem_map.1 hx; rw [bs_len]; exact h s hs)
  rwa [List.length_map] at this
theorem joinL_tk (l : List ByteArray) (n : Nat) : (joinL ((l.take n).map bs)).length ≤ (joinL (l.map bs)).length := by
  rw [List.map_take]; exact joinL_take n
theorem join_el {l : List ByteArray} {i : Int} (h0 : 0 ≤ i) (h1 : i < (l.length : Int)) : (gt l i).size ≤ (joinL (l.map bs)).length := by
  have := joinL_mem (List.mem_map_of_mem (f := bs) (gt_mem (l := l) h0 h1))
  rwa [bs_len] at this
theorem join_0 {l : List ByteArray} {i : Int} {s : ByteArray} (h : bs s = joinL ((l.take i.toNat).map bs)) (h0 : 0 ≤ i) (h1 : i < (l.length : Int)) (hi : ¬ i > 0) : bs (s ++ gt l i) = joinL ((l.take (i + 1).toNat).map bs) := by
  have e : i = 0 := by omega
  subst e
  rw [bs_append, h, take_gt h0 h1]
  simp [joinL]
theorem join_1 {l : List ByteArray} {i : Int} {s : ByteArray} (h : bs s = joinL ((l.take i.toNat).map bs)) (h0 : 0 ≤ i) (h1 : i < (l.length : Int)) (hi : i > 0) : bs ((s ++ (⟨#[44]⟩ : ByteArray)) ++ gt l i) = joinL ((l.take (i + 1).toNat).map bs) := by
  rw [bs_append, bs_append, h, take_gt h0 h1, List.map_append, List.map_cons, List.map_nil, joinL_snoc, if_neg, List.append_assoc]
  · rfl
  · intro e
    have := congrArg List.length e
    simp only [List.length_map, List.length_take, List.length_nil] at this; omega
theorem join_end {l : List ByteArray} {i : Int} {s : ByteArray} (h : bs s = joinL ((l.take i.toNat).map bs)) (hi : ¬ i < (l.length : Int)) : bs s = joinL (l.map bs) := by
  rw [List.take_of_length_le (by omega)] at h; exact h
theorem tx_next {α : Type} [Inhabited α] {f : α → List Int} {X : List ByteArray} {l : List α} {i : Int} {o : ByteArray} (h : X.map bs = (l.take i.toNat).map f) (h0 : 0 ≤ i) (h1 : i < (l.length : Int)) (ho : bs o = f (gt l i)) : (X ++ [o]).map bs = (l.take (i + 1).toNat).map f := by
  rw [take_gt h0 h1, List.map_append, List.map_append, h, List.map_cons, List.map_nil, List.map_cons, List.map_nil, ho]
theorem tx_end {α : Type} {f : α → List Int} {X : List ByteArray} {l : List α} {i : Int} (h : X.map bs = (l.take i.toNat).map f) (h1 : ¬ i < (l.length : Int)) : X.map bs = l.map f := by
  rw [List.take_of_length_le (by omega)] at h; exact h
theorem nums_join {X : List ByteArray} {m : List Int} (h : X.map bs = m.map numL) (hm : m.length ≤ 10) (hf : ∀ x ∈ m, fitP x) : (joinL (X.map bs)).length ≤ 220 := by
  rw [h]
  have := joinL_len (B := 21) (m.map numL) (fun x hx => by
    obtain ⟨n, hn, rfl⟩ := List.mem_map.1 hx
    exact numL_len (by have := (hf n hn).1; omega) (by have := (hf n hn).2; omega))
  rw [List.length_map] at this
  omega
theorem join_b {B n : Nat} {X : List ByteArray} (h : ∀ x ∈ X, x.size ≤ B) (hl : X.length ≤ n) : (joinL (X.map bs)).length ≤ n * (B + 1) :=
  Nat.le_trans (joinL_le h) (Nat.mul_le_mul_right _ hl)
theorem join_m {B n m : Nat} {X : List ByteArray} (h : ∀ x ∈ X, x.size ≤ B) (hl : X.length ≤ n) (hm : n * (B + 1) ≤ m) : (joinL (X.map bs)).length ≤ m := Nat.le_trans (join_b h hl) hm
theorem all_snoc {X : List ByteArray} {B : Nat} {o : ByteArray} (h : ∀ x ∈ X, x.size ≤ B) (ho : o.size ≤ B) : ∀ x ∈ X ++ [o], x.size ≤ B := fun x hx => by
  rcases List.mem_append.1 hx with hx | hx
  · exact h x hx
  · simp at hx; subst hx; exact ho
def stepZ (s : ST) : List Int := [s.item, s.place, s.arr, s.wait, s.serv, s.time, s.dist] ++ s.load
def headZ (p : PV) : List Int := [p.veh, p.cost, p.time, p.dist, p.wait, p.serv]
def planZ (p : PV) : List Int := headZ p ++ p.steps.flatMap stepZ
def sumsZ (s : SU) : List Int := [s.routes, s.value, s.cost, s.time, s.dist, s.wait, s.serv, s.left]
def replyZ (su : SU) (ps : List PV) (lf : List TK) : List Int := sumsZ su ++ ps.flatMap planZ ++ lf.flatMap (fun t => [t.item])
theorem fm_next {α : Type} [Inhabited α] {f : α → List Int} {l : List α} {i : Int} (h0 : 0 ≤ i) (h1 : i < (l.length : Int)) : (l.take (i + 1).toNat).flatMap f = (l.take i.toNat).flatMap f ++ f (gt l i) := by
  rw [take_gt h0 h1, List.flatMap_append]; simp
theorem fm_end {α : Type} {f : α → List Int} {l : List α} {i : Int} (h : ¬ i < (l.length : Int)) : (l.take i.toNat).flatMap f = l.flatMap f := by rw [List.take_of_length_le (by omega)]
theorem fit_sums {su : SU} {ps : List PV} {lf : List TK} (h : ∀ x ∈ replyZ su ps lf, fitP x) : ∀ x ∈ sumsZ su, fitP x := fun x hx => h x (List.mem_append_left _ (List.mem_append_left _ hx))
theorem fit_plan {su : SU} {ps : List PV} {lf : List TK} (h : ∀ x ∈ replyZ su ps lf, fitP x) : ∀ p ∈ ps, ∀ x ∈ planZ p, fitP x := fun p hp x hx => h x (List.mem_append_left _ (List.mem_append_right _ (List.mem_flatMap.2 ⟨p, hp, hx⟩)))
theorem fit_task {su : SU} {ps : List PV} {lf : List TK} (h : ∀ x ∈ replyZ su ps lf, fitP x) : ∀ t ∈ lf, fitP t.item := fun t ht => h _ (List.mem_append_right _ (List.mem_flatMap.2 ⟨t, ht, by simp⟩))
theorem fit_step {p : PV} (h : ∀ x ∈ planZ p, fitP x) : ∀ s ∈ p.steps, ∀ x ∈ stepZ s, fitP x := fun s hs x hx => h x (List.mem_append_right _ (List.mem_flatMap.2 ⟨s, hs, hx⟩))
theorem fit_i64 {x : Int} (h : fitP x) : -9223372036854775808 ≤ x ∧ x ≤ 9223372036854775807 := ⟨by have := h.1; omega, by have := h.2; omega⟩
def fitR (cd at_ : Int) (path : ByteArray) (su : SU) (ps : List PV) (lf : List TK) : Prop := (cd ≠ 0 → utfF (bs path) = true ∧ fitP cd ∧ fitP at_) ∧ (cd = 0 → ∀ x ∈ replyZ su ps lf, fitP x)
theorem fit_end {su : SU} {ps : List PV} {lf : List TK} {X : List Int} {j : Int} (h : X = sumsZ su ++ ps.flatMap planZ ++ (lf.take j.toNat).flatMap (fun t => [t.item])) (h1 : ¬ j < (lf.length : Int)) (hf : ∀ x ∈ X, fitP x) : ∀ x ∈ replyZ su ps lf, fitP x := by
  rw [fm_end h1] at h; subst h; exact hf
theorem take_same {α β : Type} [Inhabited α] {f : α → β} {a b : List α} {i : Int} (h : (a.take i.toNat).map f = (b.take i.toNat).map f) (h0 : 0 ≤ i) (h1 : i < (a.length : Int)) (hl : a.length = b.length) (he : f (gt a i) = f (gt b i)) : (a.take (i + 1).toNat).map f = (b.take (i + 1).toNat).map f := by
  rw [take_gt h0 h1, take_gt h0 (by omega), List.map_append, List.map_append, h, List.map_cons, List.map_nil, List.map_cons, List.map_nil, he]
theorem tsame_end {α β : Type} {f : α → β} {a b : List α} {i : Int} (h : (a.take i.toNat).map f = (b.take i.toNat).map f) (h1 : ¬ i < (a.length : Int)) (hl : a.length = b.length) : a.map f = b.map f := by
  rw [List.take_of_length_le (by omega), List.take_of_length_le (by omega)] at h; exact h
theorem tk_eq {x y : TK} (h : x.ship = y.ship) (h2 : x.item = y.item) : id x = id y := by cases x; cases y; simp_all
theorem sv_eq {x y : ST} (h : (x.kind = y.kind ∧ x.item = y.item) ∧ x.place = y.place ∧ x.arr = y.arr ∧ x.wait = y.wait ∧ x.serv = y.serv ∧ x.time = y.time ∧ x.dist = y.dist) (hl : x.load = y.load) : sv x = sv y := by
  obtain ⟨⟨h1, h2⟩, h3, h4, h5, h6, h7, h8⟩ := h
  unfold sv; rw [h1, h2, h3, h4, h5, h6, h7, h8, hl]
theorem pv_eq {x y : PV} (h : (x.veh = y.veh ∧ x.time = y.time ∧ x.dist = y.dist ∧ x.wait = y.wait ∧ x.serv = y.serv ∧ x.cost = y.cost) ∧ x.steps.map sv = y.steps.map sv) : pv x = pv y := by
  obtain ⟨⟨h1, h3, h4, h5, h6, h7⟩, h2⟩ := h
  unfold pv; rw [h1, h2, h3, h4, h5, h6, h7]
theorem tree_same {cd1 cd2 a1 a2 : Int} {p1 p2 : ByteArray} {op1 op2 : Bool} {su1 su2 : SU} {ps1 ps2 : List PV} {lf1 lf2 : List TK} (hc : cd1 = 0 ∧ cd2 = 0) (ho : op1 = op2) (hs : su1 = su2) (hp : ps1.map pv = ps2.map pv) (hl : lf1.map id = lf2.map id) : treeF cd1 a1 p1 op1 su1 ps1 lf1 = treeF cd2 a2 p2 op2 su2 ps2 lf2 := by
  rw [List.map_id, List.map_id] at hl
  rw [← treeF_o hc.1, ← treeF_o hc.2, ho, hs, hl]; exact okT_pv hp
theorem tree_sameF {cd1 cd2 a1 a2 : Int} {p1 p2 : ByteArray} {op1 op2 : Bool} {su1 su2 : SU} {ps1 ps2 : List PV} {lf1 lf2 : List TK} (hc : cd1 ≠ 0 ∨ cd2 ≠ 0) (h1 : cd1 = cd2) (h2 : a1 = a2) (h3 : (p1 == p2) = true) : treeF cd1 a1 p1 op1 su1 ps1 lf1 = treeF cd2 a2 p2 op2 su2 ps2 lf2 := by
  rw [beq_toListBytes p1 p2, beq_iff_eq, ByteArray.toList_eq, ByteArray.toList_eq] at h3
  have e : p1 = p2 := by cases p1; cases p2; congr 1; exact Array.toList_inj.1 h3
  rw [← treeF_f (by omega), ← treeF_f (by omega), h1, h2, e]
theorem ClnL_of : ∀ {l : List J}, (∀ j ∈ l, Cln j) → ClnL (JL.of l)
  | [], _ => trivial
  | j :: r, h => ⟨h j (by simp), ClnL_of (fun k hk => h k (List.mem_cons_of_mem _ hk))⟩
theorem cln_names {l : List ByteArray} (h : l.all (fun s => (bs s).all (fun x => !decide (x < 32))) = true) : ∀ s ∈ l, ClnS s := fun s hs x hx => by
  have := List.all_eq_true.1 (List.all_eq_true.1 h s hs) x hx
  simpa using this
theorem cln_word (k : Int) : ClnS (wordK k) := by
  have key := cln_names (l := (⟨#[63]⟩ : ByteArray) :: kindsL) (by decide +kernel)
  unfold wordK
  split
  · exact key _ (List.mem_cons_of_mem _ (gt_mem (by omega) (by show _ < (6 : Int); omega)))
  · exact key _ (List.mem_cons_self ..)
theorem cln_ship (b : Bool) : ClnS (wordT b) := by
  have key := cln_names (l := [wordT true, wordT false]) (by decide +kernel)
  cases b <;> exact key _ (by simp)
theorem cln_nums (m : List Int) : ∀ j ∈ m.map J.num, Cln j := fun j hj => by
  obtain ⟨n, _, rfl⟩ := List.mem_map.1 hj; trivial
theorem cln_load (m : List Int) : Cln (loadJ m) := ⟨fun s hs => (by cases hs), ClnL_of (cln_nums m)⟩
theorem cln_step (s : ST) : Cln (stepJ s) := ⟨cln_names (by decide +kernel), ClnL_of (fun j hj => by
  simp only [List.mem_cons, List.not_mem_nil, or_false] at hj
  rcases hj with rfl | rfl | rfl | rfl | rfl | rfl | rfl | rfl | rfl
  · exact cln_word _
  all_goals first | trivial | exact cln_load _)⟩
theorem cln_plan (p : PV) : Cln (planJ p) := ⟨cln_names (by decide +kernel), ClnL_of (fun j hj => by
  simp only [List.mem_cons, List.not_mem_nil, or_false] at hj
  rcases hj with rfl | rfl | rfl | rfl | rfl | rfl | rfl
  all_goals first | trivial | exact ⟨fun s hs => (by cases hs), ClnL_of (fun j hj => by obtain ⟨s, _, rfl⟩ := List.mem_map.1 hj; exact cln_step s)⟩)⟩
theorem cln_task (t : TK) : Cln (taskJ t) := ⟨cln_names (by decide +kernel), ClnL_of (fun j hj => by
  simp only [List.mem_cons, List.not_mem_nil, or_false] at hj
  rcases hj with rfl | rfl
  · exact cln_ship _
  · trivial)⟩
theorem cln_sums (s : SU) : Cln (sumsJ s) := ⟨cln_names (by decide +kernel), ClnL_of (fun j hj => by
  simp only [List.mem_cons, List.not_mem_nil, or_false] at hj
  rcases hj with rfl | rfl | rfl | rfl | rfl | rfl | rfl | rfl <;> trivial)⟩
theorem cln_reply {cd at_ : Int} {path : ByteArray} {op : Bool} {su : SU} {ps : List PV} {lf : List TK} (h : ClnS path) : Cln (replyJ cd at_ path op su ps lf) := by
  unfold replyJ
  split
  · exact ⟨cln_names (by decide +kernel), ClnL_of (fun j hj => by
      simp only [List.mem_cons, List.not_mem_nil, or_false] at hj
      rcases hj with rfl | rfl | rfl | rfl
      · exact cln_names (l := [sError]) (by decide +kernel) _ (by simp)
      · trivial
      · trivial
      · exact h)⟩
  · exact ⟨cln_names (by decide +kernel), ClnL_of (fun j hj => by
      simp only [List.mem_cons, List.not_mem_nil, or_false] at hj
      rcases hj with rfl | rfl | rfl | rfl | rfl
      · exact cln_names (l := [⟨#[111, 107]⟩]) (by decide +kernel) _ (by simp)
      · trivial
      · exact cln_sums su
      · exact ⟨fun s hs => (by cases hs), ClnL_of (fun j hj => by obtain ⟨s, _, rfl⟩ := List.mem_map.1 hj; exact cln_plan s)⟩
      · exact ⟨fun s hs => (by cases hs), ClnL_of (fun j hj => by obtain ⟨s, _, rfl⟩ := List.mem_map.1 hj; exact cln_task s)⟩)⟩
theorem set_range {l : List Int} {n : Nat} {c : Int} (h : ∀ x ∈ l, isB x) (hc : 0 ≤ c ∧ c < 256) : ∀ x ∈ l.set n c, isB x := fun x hx => by
  rcases List.mem_or_eq_of_mem_set hx with hx | rfl
  · exact h x hx
  · exact hc
theorem spoil_no {o : ByteArray} {p c : Int} {j : J} {T : List TN} (ho : bs o = txt j) (hc : 0 ≤ c ∧ c < 256) (h0 : 0 ≤ p) (h1 : p < (o.size : Int)) (hne : ¬ gt (bs o) p = c)
    (he : parseE ((bs o).set p.toNat c) = 0) (h2 : T = parseT ((bs o).set p.toNat c)) (h3 : lay 0 j = T) (hcl : Cln j) : False := by
  obtain ⟨j', hj, hf⟩ := parse_sound (set_range (n := p.toNat) (bs_range o) hc) he
  have e := h3.trans (h2.trans hj)
  have := lay_inj j j' [] [] (by simpa using e)
  obtain ⟨rfl, _⟩ := this
  have hfit := (hf hcl).2 (by rw [← ho, List.length_set])
  have hp : p < ((bs o).length : Int) := by rw [bs_len]; exact h1
  have hg := gt_at h0 hp
  rw [← ho] at hfit
  rw [← hfit, List.getElem?_set_self (by omega)] at hg
  injection hg with hg
  exact hne (by rw [hfit] at hg; exact hg.symm)
theorem cl_next {l : List Int} {i : Int} (h : ∀ x ∈ l.take i.toNat, ¬ x < 32) (h0 : 0 ≤ i) (h1 : i < (l.length : Int)) (hx : ¬ gt l i < 32) : ∀ x ∈ l.take (i + 1).toNat, ¬ x < 32 := fun x hm => by
  rw [take_gt h0 h1] at hm
  rcases List.mem_append.1 hm with hm | hm
  · exact h x hm
  · simp at hm; subst hm; exact hx
theorem cl_end {s : ByteArray} {i : Int} (h : ∀ x ∈ (bs s).take i.toNat, ¬ x < 32) (h1 : ¬ i < (s.size : Int)) : ClnS s := by
  rw [List.take_of_length_le (by rw [bs_len]; omega)] at h; exact h
theorem umod_rng {a n : Int} (h0 : 0 < n) (h1 : n < 1000000000) : 0 ≤ IntKind.i64.wrap ((IntKind.u64.wrap a).tmod (IntKind.u64.wrap n)) ∧ IntKind.i64.wrap ((IntKind.u64.wrap a).tmod (IntKind.u64.wrap n)) < n := by
  have e : IntKind.u64.wrap n = n := by rw [IntKind.wrap_u64]; omega
  have e2 : 0 ≤ IntKind.u64.wrap a := by rw [IntKind.wrap_u64]; omega
  rw [e]
  have e3 := Int.tmod_eq_emod_of_nonneg (b := n) e2
  rw [e3]
  have := Int.emod_nonneg (IntKind.u64.wrap a) (show n ≠ 0 by omega)
  have := Int.emod_lt_of_pos (IntKind.u64.wrap a) h0
  rw [wrap_in (by omega) (by omega)]
  omega
theorem txt_pos (cd at_ : Int) (path : ByteArray) (op : Bool) (su : SU) (ps : List PV) (lf : List TK) : 0 < (txt (replyJ cd at_ path op su ps lf)).length := by
  unfold replyJ
  split
  · unfold faultJ; rw [txt]; simp
  · unfold okJ; rw [txt]; simp
end Go.SX
namespace Go.SX
open Go Go.RowKit
def TellsW (P : Program) (w : World) (e : TypeId) {α : Type} (E : Enc α) (good : α → Prop) : Prop :=
  ∀ {H : Type} (enc : TypeId × Value → H) (base : Nat) (spare : Nat → Bool) (held : Bool) (n : Nat) (cs : List Value) (y : DataW H × List MemPlace), DataW.trod enc P w base spare held n e cs = some y → (∀ b ∈ y.1.weights P e, b ≤ reachBytes) → ∃ a, cs = E.enc a ∧ good a
section
variable {H : Type} {enc : TypeId × Value → H} {P : Program} {w : World} {base : Nat} {spare : Nat → Bool} {held : Bool}
theorem weightsAll_mem {e : TypeId} {d : DataW H} {b : Nat} : ∀ {l : List (DataW H)}, d ∈ l → b ∈ d.weights P e → b ∈ DataW.weightsAll P e l
  | [], h, _ => by cases h
  | x :: r, h, hb => by
    unfold DataW.weightsAll
    rcases List.mem_cons.1 h with rfl | h
    · exact List.mem_append_left _ hb
    · exact List.mem_append_right _ (weightsAll_mem h hb)
theorem rows_w {α : Type} [Inhabited α] {E : Enc α} {good : α → Prop} {t e : TypeId} {fuel : Nat} {cs : List Value} {x : DataW H × List MemPlace} (ht : P.underlying t = some (.slice e)) (he : P.cellsOf e = E.sz) (hT : TellsW P w e E good) (hbo : 1 ≤ P.bytesOf e)
    (h : DataW.trod enc P w base spare held fuel t cs = some x) (hw : ∀ b ∈ x.1.weights P t, b ≤ reachBytes) :
    ∃ A l cap, cs = [.slice A l.length cap] ∧ Fr E (fun b => b < w.heap.size) w A l ∧ ∀ y ∈ l, good y := by
  rcases DataW.trod_slice ht h with h0 | ⟨a, len, cap, elems, rest, n, hx1, rfl, rfl, hb, hl, hm, hlen, hel, hsp, hns⟩
  · exact ⟨none, [], 0, h0.1, Fr.nil _ _ _ _, by simp⟩
  have hw2 : ∀ b ∈ DataW.weights P t (.slice (elems.map (·.1)) (rest.map (·.1))), b ≤ reachBytes := hw
  have each : ∀ i, i < len → ∃ x : α, good x ∧ w.cells? base (a.add (i * E.sz)) E.sz = some (E.enc x) := by
    intro i hi
    have h1 := hel i hi
    have h2 : elems[i]? = some (elems[i]'(by omega)) := List.getElem?_eq_getElem (by omega)
    rw [h2, he, Option.bind_eq_some_iff] at h1
    obtain ⟨cs', h3, h4⟩ := h1
    obtain ⟨x, rfl, hg⟩ := hT enc base spare held n cs' _ h4 (fun b hb => hw2 b (by
      unfold DataW.weights
      rw [ht]
      exact List.mem_cons_of_mem _ (List.mem_append_left _ (weightsAll_mem (List.mem_map_of_mem (List.getElem_mem (by omega))) hb))))
    exact ⟨x, hg, h3⟩
  let f : Nat → α := fun i => if hi : i < len then (each i hi).choose else default
  have hf : ∀ i (hi : i < len), f i = (each i hi).choose := fun i hi => dif_pos hi
  have hbig : len ≤ 140737488355328 := by
    have h1 := hw2 ((elems.map (·.1)).length + (rest.map (·.1)).length |>.mul (P.bytesOf e)) (by unfold DataW.weights; rw [ht]; exact List.mem_cons_self ..)
    have h11 : elems.length * 1 ≤ ((elems.map (·.1)).length + (rest.map (·.1)).length) * P.bytesOf e := Nat.mul_le_mul (by simp) hbo
    have h12 : reachBytes < 2 ^ 47 := reachBytes_lt
    have h13 : ((elems.map (·.1)).length + (rest.map (·.1)).length) * P.bytesOf e ≤ reachBytes := h1
    omega
  have hgood : ∀ x ∈ (List.range len).map f, good x := by
    intro x hx
    obtain ⟨i, hi, rfl⟩ := List.mem_map.1 hx
    have hlt : i < len := by simpa using hi
    rw [hf i hlt]
    exact (each i hlt).choose_spec.1
  refine ⟨some a, (List.range len).map f, cap, by simp, ⟨by simpa using hbig, ?_⟩, hgood⟩
  rcases Nat.eq_zero_or_pos len with h0 | h0
  · subst h0; exact .inl (by simp)
  have hat : ∀ i, i < len → ∀ j u, (E.enc (f i))[j]? = some u → w.cell? (a.add (i * E.sz + j)) = some u := by
    intro i hi j u hj
    obtain ⟨_, h1, h2⟩ := World.cells?_some (each i hi).choose_spec.2
    rw [← hf i hi] at h1 h2
    have hjs : j < E.sz := by have := (List.getElem?_eq_some_iff.1 hj).1; omega
    rw [← add_zero_add, h2 j hjs, hj]
  have hpos := E.pos
  have hspot : a.spot = none := by
    have h1 : (E.enc (f 0)).length = E.sz := E.len _
    have h2 := hat 0 h0 0 ((E.enc (f 0))[0]'(by omega)) (List.getElem?_eq_getElem (by omega))
    have h3 := World.cell?_spot h2
    simpa [Addr.add] using h3
  obtain ⟨b, off, spot⟩ := a
  simp only at hspot
  subst hspot
  have hall : ∀ i x, ((List.range len).map f)[i]? = some x → At w b (off + i * E.sz) (E.enc x) := fun i x hx j u hu => by
    simp only [List.getElem?_map, Option.map_eq_some_iff] at hx
    obtain ⟨i', hi', rfl⟩ := hx
    have hi2 := List.getElem?_eq_some_iff.1 hi'
    obtain ⟨hlt, heq⟩ := hi2
    simp at heq hlt
    subst heq
    have := hat i hlt j u hu
    rw [show off + i * E.sz + j = off + (i * E.sz + j) from by omega]
    have e1 : (⟨b, off, none⟩ : Addr).add (i * E.sz + j) = ⟨b, off + (i * E.sz + j), none⟩ := by
      unfold Addr.add
      split
      · rename_i h0; rw [h0]; rfl
      · rfl
    rwa [e1] at this
  refine .inr ⟨b, off, rfl, ?_, hall⟩
  have hx := hall 0 (f 0) (by simp [h0])
  have hl1 := E.len (f 0)
  have := hx 0 ((E.enc (f 0))[0]'(by omega)) (List.getElem?_eq_getElem (by omega))
  unfold World.cell? at this
  cases hb1 : w.heap[b]? with
  | none => simp only [hb1] at this; cases this
  | some o => exact lt_of_some hb1
theorem struct_w {t : TypeId} {fuel : Nat} {cs : List Value} {x : DataW H × List MemPlace} {fs : Array Field} (ht : P.underlying t = some (.struct fs)) (h : DataW.trod enc P w base spare held fuel t cs = some x) (hw : ∀ b ∈ x.1.weights P t, b ≤ reachBytes) :
    ∃ n, cs.length = P.cellsOf t ∧ ∀ (i : Nat) (f : Field), fs[i]? = some f → ∃ y : DataW H × List MemPlace, DataW.trod enc P w base spare held n f.type ((cs.drop f.offset).take (P.cellsOf f.type)) = some y ∧ ∀ b ∈ y.1.weights P f.type, b ≤ reachBytes := by
  obtain ⟨xs, n, _, rfl, hl, hx, hf⟩ := DataW.trod_struct ht h
  refine ⟨n, hl, fun i f hi => ?_⟩
  have h1 := hf i f hi
  have hlt : i < fs.size := (Array.getElem?_eq_some_iff.1 hi).1
  rw [List.getElem?_eq_getElem (by omega)] at h1
  refine ⟨xs[i]'(by omega), h1, fun b hb => hw b ?_⟩
  show b ∈ DataW.weights P t (.agg (xs.map (·.1)))
  unfold DataW.weights
  rw [ht]
  exact DataW.weights_mem_each (j := i) (d := (xs[i]'(by omega)).1) (by simp [hi]) (by simp [List.getElem?_eq_getElem (show i < xs.length by omega)]) b hb
theorem int_w {e : TypeId} (he : P.underlying e = some (.int .i64)) : TellsW P w e eZ (fun _ => True) := fun enc base spare held n cs y hy _ => by
  obtain ⟨m, rfl, _, _⟩ := DataW.trod_int he hy
  exact ⟨m, rfl, trivial⟩
end
end Go.SX
set_option maxRecDepth 20000
set_option maxHeartbeats 4000000
namespace Go.Proofs.Ythmkelkefmfmgaa.Sx.FA
open Go Go.SX Go.Proofs
theorem ty5 : ty Try.prog 5 = some (false, 1) := by kernel_rfl
theorem hbd46 : hasBody Try.prog 46 = true := by kernel_rfl
theorem ai5 : (Try.prog.info? 5).map (fun i => (i.zero, i.size, i.bytes)) = some (some (.int .u8 0), 1, 1) := by kernel_rfl
theorem mo : Try.prog.follows .mixedOrders = true := by kernel_rfl
theorem hbd51 : hasBody Try.prog 51 = true := by kernel_rfl
end Go.Proofs.Ythmkelkefmfmgaa.Sx.FA
namespace Go.Proofs.Ythmkelkefmfmgaa.Sx
open Go Go.SX Go.Proofs FA
theorem fits1 (a : Int) (S : Nat → Prop) (wf : World) :
  TR0 Try.prog 47 [.int .i64 a] [] S wf (fun v_ C_ => v_ = .bool (decide (a ≥ (-4611686018427387903)) && decide (a ≤ 4611686018427387903)) ∧ C_ = []) := by
 refine TR.mk Try.func47 rfl Try.ntmps47 rfl rfl (fun w_ => ?_)
 refine .seq (.region ?_)
 refine .v (ev_as rfl rfl) rfl ?_
 refine .go idQ (.seq (.region ?_))
 refine .v (ev_mv rfl rfl) rfl ?_
 refine .v (ev_cmp rfl rfl rfl rfl) rfl ?_
 refine .v (ev_mv rfl rfl) rfl ?_
 refine .w (fun _ => ev_mv rfl rfl) rfl ?_
 refine .w (fun hb => ev_cmp rfl (lkg rfl hb) rfl rfl) rfl ?_
 refine .v (ev_and rfl rfl rfl rfl) rfl ?_
 refine .v (ev_as rfl rfl) rfl ?_
 refine .go idQ ?_
 exact .ret idQ (ret1 Try.results47 rfl .n ⟨rfl, rfl⟩)
theorem rune (A : Option Addr) (n : Nat) (c : Nat) (l : List Int) (S : Nat → Prop) (wf : World) (hA : Fr eY S wf A l) (hn : l.length = n) (hr : ∀ x ∈ l, isB x) (h0 : 0 < n) :
  TR0 Try.prog 46 [.slice A n c] [] S wf (fun v_ C_ => v_ = .int .i64 (runeF l) ∧ C_ = []) := by
 have hla := hA.len
 have hg0 := gt_range hr 0
 unfold isB at hg0
 refine TR.mk Try.func46 rfl Try.ntmps46 rfl rfl (fun w_ => ?_)
 refine .seq (.region ?_)
 refine .v (ev_as rfl rfl) rfl ?_
 refine .go idQ (.seq (.region ?_))
 refine .v (ev_as rfl rfl) rfl ?_
 refine .v (ev_as rfl rfl) rfl ?_
 refine .go idQ (.seq (.region ?_))
 refine .v (ev_mv rfl rfl) rfl ?_
 refine .v (ev_ix rfl Try.underlying36 ty5 rfl rfl (by omega) (by omega) (fun _ _ => Fr.adr (i := 0) hA (by omega) (by omega))) rfl ?_
 refine .v (ev_ld1 rfl ty5 rfl (At.elem1 (At.w (Fr.el (i := 0) hA (by omega) (by omega))) 0 rfl)) rfl ?_
 refine .v (ev_cv rfl Try.underlying5 Try.underlying3 rfl (wrap_b_i64 (gt_range hr _))) rfl ?_
 refine .v (ev_as rfl rfl) rfl ?_
 refine .go idQ (.seq (.region ?_))
 refine .v (ev_as rfl rfl) rfl ?_
 refine .go idQ (.seq (.block (.seq (.region ?_))))
 refine .v (ev_mv rfl rfl) rfl ?_
 refine .v (ev_cmp rfl rfl rfl rfl) rfl ?_
 refine .v (ev_as rfl rfl) rfl ?_
 refine .go idQ ?_
 refine .condI rfl bD (fun h1 => ?_) (fun h1 => ?_)
 ·
  refine .seq (.region ?_)
  refine .v (ev_as rfl rfl) rfl ?_
  refine .go idQ ?_
  exact .ret idQ (ret1 Try.results46 rfl .n ⟨(congrArg (Value.int .i64) (rsel1 (by assumption))), rfl⟩)
 refine .seq (.region ?_)
 refine .v (ev_mv rfl rfl) rfl ?_
 refine .v (ev_cmp rfl rfl rfl rfl) rfl ?_
 refine .v (ev_mv rfl rfl) rfl ?_
 refine .w (fun _ => ev_mv rfl rfl) rfl ?_
 refine .w (fun hb => ev_cmp rfl (lkg rfl hb) rfl rfl) rfl ?_
 refine .v (ev_and rfl rfl rfl rfl) rfl ?_
 refine .v (ev_as rfl rfl) rfl ?_
 refine .go idQ ?_
 refine .condI rfl (bA bD bD) (fun h2 => ?_) (fun h2 => ?_)
 ·
  refine .region ?_
  refine .v (ev_mv rfl rfl) rfl ?_
  refine .v (ev_band rfl rfl rfl) rfl ?_
  refine .v (ev_as rfl rfl) rfl ?_
  refine .v (ev_as rfl rfl) rfl ?_
  refine .v (ev_as rfl rfl) rfl ?_
  refine .go idQ (.seq (.seq (.region ?_)))
  refine .v (ev_mv rfl rfl) rfl ?_
  refine .v (ev_cmp (r := false) rfl rfl rfl rfl) rfl ?_
  refine .v (ev_mv rfl rfl) rfl ?_
  refine .cons (.on rfl rfl rfl (Ev.step (ev_mv rfl rfl) rfl rfl rfl ?_))
  refine .cons (.on rfl rfl rfl (Ev.step (ev_len rfl Try.underlying36 rfl) rfl rfl rfl ?_))
  refine .cons (.on rfl rfl rfl (Ev.step (ev_mv rfl rfl) rfl rfl rfl ?_))
  refine .cons (.on rfl rfl rfl (Ev.step (ev_cmp rfl rfl rfl rfl) rfl rfl rfl ?_))
  refine .v (ev_pickf rfl rfl rfl rfl) rfl ?_
  refine .go idQ ?_
  refine .condI rfl bD (fun h3 => ?_) (fun h3 => ?_)
  ·
   refine .seq (.region ?_)
   refine .v (ev_as rfl rfl) rfl ?_
   refine .go idQ ?_
   exact .ret idQ (ret1 Try.results46 rfl .n ⟨(congrArg (Value.int .i64) (rn_short (rsel2 (l := l) (by assumption) (by assumption)) (by omega))), rfl⟩)
  refine .skipgo idQ (.seq (.seq (.region ?_)))
  refine .v (ev_as rfl rfl) rfl ?_
  refine .go idQ (.block ?_)
  refine .loop (X := Int × Int) (fun ⟨i, x⟩ => 1 ≤ i ∧ i ≤ 2 ∧ runeGo ((l.take (2 : Int).toNat).drop i.toNat) x = runeGo ((l.take (2 : Int).toNat).drop 1) (bnd .i64 (gt l 0) 31)) (fun ⟨i, x⟩ => [(0, .slice A n c), (3, .int .i64 2), (4, .int .i64 128), (6, .int .i64 x), (7, .int .i64 i)]) (fun ⟨i, x⟩ => []) (fun _ => S) (fun _ => wf) (fun ⟨i, x⟩ => (2 - i).toNat) (fun a_ w_ hs_ hw_ => ⟨⟨1, (bnd .i64 (gt l 0) 31)⟩, (by exact ⟨by omega, by omega, rfl⟩), hs_.mono (Sub.get (.c rfl (.c rfl (.c rfl (.c rfl (.c rfl .n)))))), hw_.keep .n⟩) (fun ⟨i, x⟩ ⟨q_0, q_1, q_2⟩ => ?_)
  show SC _ _ _ _ _ ⟨[(0, .slice A n c), (3, .int .i64 2), (4, .int .i64 128), (6, .int .i64 x), (7, .int .i64 i)], [], S, wf⟩
  refine .seq (.seq (.region ?_))
  refine .v (ev_mv rfl rfl) rfl ?_
  refine .v (ev_mv rfl rfl) rfl ?_
  refine .v (ev_cmp rfl rfl rfl rfl) rfl ?_
  refine .go idQ ?_
  refine .condI rfl bD (fun h4 => ?_) (fun h4 => ?_)
  ·
   refine .skipgo idQ (.seq (.block (.seq (.seq (.region ?_)))))
   refine .v (ev_mv rfl rfl) rfl ?_
   refine .v (ev_mv rfl rfl) rfl ?_
   refine .v (ev_ix rfl Try.underlying36 ty5 rfl rfl (by omega) (by omega) (fun _ _ => Fr.adr (i := i) hA (by omega) (by omega))) rfl ?_
   refine .v (ev_ld1 rfl ty5 rfl (At.elem1 (At.w (Fr.el (i := i) hA (by omega) (by omega))) 0 rfl)) rfl ?_
   refine .v (ev_shr (r := (Int.fdiv (gt l i) 64)) rfl rfl rfl (by decide) rfl) rfl ?_
   refine .v (ev_cmp rfl rfl rfl rfl) rfl ?_
   refine .go idQ ?_
   refine .condI rfl bNE (fun h5 => ?_) (fun h5 => ?_)
   ·
    refine .seq (.region ?_)
    refine .v (ev_as rfl rfl) rfl ?_
    refine .go idQ ?_
    exact .ret idQ (ret1 Try.results46 rfl .n ⟨(congrArg (Value.int .i64) (rn_bad (rsel2 (l := l) (by assumption) (by assumption)) q_0 (by omega) (by omega) q_2 (by omega))), rfl⟩)
   refine .skipgo idQ (.region ?_)
   refine .v (ev_mv rfl rfl) rfl ?_
   refine .v (ev_shl (r := (IntKind.i64.wrap (x * 64))) rfl rfl rfl (by decide) rfl) rfl ?_
   refine .v (ev_mv rfl rfl) rfl ?_
   refine .v (ev_mv rfl rfl) rfl ?_
   refine .v (ev_ix rfl Try.underlying36 ty5 rfl rfl (by omega) (by omega) (fun _ _ => Fr.adr (i := i) hA (by omega) (by omega))) rfl ?_
   refine .v (ev_ld1 rfl ty5 rfl (At.elem1 (At.w (Fr.el (i := i) hA (by omega) (by omega))) 0 rfl)) rfl ?_
   refine .v (ev_band rfl rfl rfl) rfl ?_
   refine .v (ev_cv rfl Try.underlying5 Try.underlying3 rfl rfl) rfl ?_
   refine .v (ev_bor rfl rfl rfl) rfl ?_
   refine .v (ev_as rfl rfl) rfl ?_
   refine .go idQ (.region ?_)
   refine .v (ev_mv rfl rfl) rfl ?_
   refine .v (ev_add rfl rfl rfl (r := (i + 1)) rfl (by omega) (by omega)) rfl ?_
   refine .v (ev_as rfl rfl) rfl ?_
   exact SP.nil (SQ.roundb (X := Int × Int) (x := (i, x)) ⟨(i + 1), (bor .i64 (IntKind.i64.wrap (x * 64)) (IntKind.i64.wrap (bnd .u8 (gt l i) 63)))⟩ (by exact ⟨by omega, by omega, (rn_step q_0 (by omega) (by omega) (by omega)).symm.trans q_2⟩) (by dsimp only; omega) (Sub.get (.c rfl (.c rfl (.c rfl (.c rfl (.c rfl .n)))))) (fun w hw => hw.keep .n))
  refine .exit idQ ?_
  refine .seq (.seq (.region ?_))
  refine .v (ev_mv rfl rfl) rfl ?_
  refine .v (ev_mv rfl rfl) rfl ?_
  refine .v (ev_cmp rfl rfl rfl rfl) rfl ?_
  refine .v (ev_mv rfl rfl) rfl ?_
  refine .w (fun _ => ev_mv rfl rfl) rfl ?_
  refine .w (fun hb => ev_cmp rfl (lkg rfl hb) rfl rfl) rfl ?_
  refine .v (ev_or rfl rfl rfl rfl) rfl ?_
  refine .v (ev_mv rfl rfl) rfl ?_
  refine .w (fun _ => ev_mv rfl rfl) rfl ?_
  refine .w (fun hb => ev_cmp rfl (lkg rfl hb) rfl rfl) rfl ?_
  refine .w (fun hb => ev_mv rfl (lkg rfl hb)) rfl ?_
  rcases Bool.eq_false_or_eq_true ((decide (x < 128)) || (decide (x > 1114111))) with hb6 | hb6
  ·
   have hb6_ := bT (bO bD bD) hb6
   refine SP.reslotv (t := 80) rfl (gv_off hb6) ?_
   refine .cons (.offu rfl rfl rfl rfl rfl ?_)
   refine .cons (.offu rfl rfl rfl rfl rfl ?_)
   refine SP.reslot (t := 77) rfl hb6 ?_
   refine .cons (.off rfl rfl rfl rfl rfl rfl ?_)
   refine .v (ev_pickt rfl rfl rfl rfl) rfl ?_
   refine .go idQ ?_
   refine .cond_t rfl ?_
   refine .seq (.region ?_)
   refine .v (ev_as rfl rfl) rfl ?_
   refine .go idQ ?_
   exact .ret idQ (ret1 Try.results46 rfl .n ⟨(congrArg (Value.int .i64) (rn_no (rsel2 (l := l) (by assumption) (by assumption)) q_0 (by omega) (by omega) q_2 (by unfold runeBad; omega))), rfl⟩)
  have hb6_ := bF (bO bD bD) hb6
  refine SP.reslotv (t := 80) rfl (gv_on hb6) ?_
  refine .w (fun _ => ev_mv rfl rfl) rfl ?_
  refine .w (fun hb => ev_cmp rfl (lkg rfl hb) rfl rfl) rfl ?_
  refine SP.reslot (t := 77) rfl hb6 ?_
  refine .cons (.on rfl rfl rfl (Ev.step (ev_and rfl rfl rfl rfl) rfl rfl rfl ?_))
  refine .v (ev_pickf rfl rfl rfl rfl) rfl ?_
  refine .go idQ ?_
  refine .condI rfl (bA bD bD) (fun h7 => ?_) (fun h7 => ?_)
  ·
   refine .seq (.region ?_)
   refine .v (ev_as rfl rfl) rfl ?_
   refine .go idQ ?_
   exact .ret idQ (ret1 Try.results46 rfl .n ⟨(congrArg (Value.int .i64) (rn_no (rsel2 (l := l) (by assumption) (by assumption)) q_0 (by omega) (by omega) q_2 (by unfold runeBad; omega))), rfl⟩)
  refine .skipgo idQ (.seq (.region ?_))
  refine .v (ev_mv rfl rfl) rfl ?_
  refine .v (ev_as rfl rfl) rfl ?_
  refine .go idQ ?_
  exact .ret idQ (ret1 Try.results46 rfl .n ⟨(congrArg (Value.int .i64) (rn_yes (rsel2 (l := l) (by assumption) (by assumption)) q_0 (by omega) (by omega) q_2 (by unfold runeBad; omega))), rfl⟩)
 refine .seq (.region ?_)
 refine .v (ev_mv rfl rfl) rfl ?_
 refine .v (ev_cmp rfl rfl rfl rfl) rfl ?_
 refine .v (ev_mv rfl rfl) rfl ?_
 refine .w (fun _ => ev_mv rfl rfl) rfl ?_
 refine .w (fun hb => ev_cmp rfl (lkg rfl hb) rfl rfl) rfl ?_
 refine .v (ev_and rfl rfl rfl rfl) rfl ?_
 refine .v (ev_as rfl rfl) rfl ?_
 refine .go idQ ?_
 refine .condI rfl (bA bD bD) (fun h8 => ?_) (fun h8 => ?_)
 ·
  refine .region ?_
  refine .v (ev_mv rfl rfl) rfl ?_
  refine .v (ev_band rfl rfl rfl) rfl ?_
  refine .v (ev_as rfl rfl) rfl ?_
  refine .v (ev_as rfl rfl) rfl ?_
  refine .v (ev_as rfl rfl) rfl ?_
  refine .go idQ (.seq (.seq (.region ?_)))
  refine .v (ev_mv rfl rfl) rfl ?_
  refine .v (ev_cmp (r := false) rfl rfl rfl rfl) rfl ?_
  refine .v (ev_mv rfl rfl) rfl ?_
  refine .cons (.on rfl rfl rfl (Ev.step (ev_mv rfl rfl) rfl rfl rfl ?_))
  refine .cons (.on rfl rfl rfl (Ev.step (ev_len rfl Try.underlying36 rfl) rfl rfl rfl ?_))
  refine .cons (.on rfl rfl rfl (Ev.step (ev_mv rfl rfl) rfl rfl rfl ?_))
  refine .cons (.on rfl rfl rfl (Ev.step (ev_cmp rfl rfl rfl rfl) rfl rfl rfl ?_))
  refine .v (ev_pickf rfl rfl rfl rfl) rfl ?_
  refine .go idQ ?_
  refine .condI rfl bD (fun h9 => ?_) (fun h9 => ?_)
  ·
   refine .seq (.region ?_)
   refine .v (ev_as rfl rfl) rfl ?_
   refine .go idQ ?_
   exact .ret idQ (ret1 Try.results46 rfl .n ⟨(congrArg (Value.int .i64) (rn_short (rsel3 (l := l) (by assumption) (by assumption)) (by omega))), rfl⟩)
  refine .skipgo idQ (.seq (.seq (.region ?_)))
  refine .v (ev_as rfl rfl) rfl ?_
  refine .go idQ (.block ?_)
  refine .loop (X := Int × Int) (fun ⟨i, x⟩ => 1 ≤ i ∧ i ≤ 3 ∧ runeGo ((l.take (3 : Int).toNat).drop i.toNat) x = runeGo ((l.take (3 : Int).toNat).drop 1) (bnd .i64 (gt l 0) 15)) (fun ⟨i, x⟩ => [(0, .slice A n c), (3, .int .i64 3), (4, .int .i64 2048), (6, .int .i64 x), (7, .int .i64 i)]) (fun ⟨i, x⟩ => []) (fun _ => S) (fun _ => wf) (fun ⟨i, x⟩ => (3 - i).toNat) (fun a_ w_ hs_ hw_ => ⟨⟨1, (bnd .i64 (gt l 0) 15)⟩, (by exact ⟨by omega, by omega, rfl⟩), hs_.mono (Sub.get (.c rfl (.c rfl (.c rfl (.c rfl (.c rfl .n)))))), hw_.keep .n⟩) (fun ⟨i, x⟩ ⟨q_0, q_1, q_2⟩ => ?_)
  show SC _ _ _ _ _ ⟨[(0, .slice A n c), (3, .int .i64 3), (4, .int .i64 2048), (6, .int .i64 x), (7, .int .i64 i)], [], S, wf⟩
  refine .seq (.seq (.region ?_))
  refine .v (ev_mv rfl rfl) rfl ?_
  refine .v (ev_mv rfl rfl) rfl ?_
  refine .v (ev_cmp rfl rfl rfl rfl) rfl ?_
  refine .go idQ ?_
  refine .condI rfl bD (fun h10 => ?_) (fun h10 => ?_)
  ·
   refine .skipgo idQ (.seq (.block (.seq (.seq (.region ?_)))))
   refine .v (ev_mv rfl rfl) rfl ?_
   refine .v (ev_mv rfl rfl) rfl ?_
   refine .v (ev_ix rfl Try.underlying36 ty5 rfl rfl (by omega) (by omega) (fun _ _ => Fr.adr (i := i) hA (by omega) (by omega))) rfl ?_
   refine .v (ev_ld1 rfl ty5 rfl (At.elem1 (At.w (Fr.el (i := i) hA (by omega) (by omega))) 0 rfl)) rfl ?_
   refine .v (ev_shr (r := (Int.fdiv (gt l i) 64)) rfl rfl rfl (by decide) rfl) rfl ?_
   refine .v (ev_cmp rfl rfl rfl rfl) rfl ?_
   refine .go idQ ?_
   refine .condI rfl bNE (fun h11 => ?_) (fun h11 => ?_)
   ·
    refine .seq (.region ?_)
    refine .v (ev_as rfl rfl) rfl ?_
    refine .go idQ ?_
    exact .ret idQ (ret1 Try.results46 rfl .n ⟨(congrArg (Value.int .i64) (rn_bad (rsel3 (l := l) (by assumption) (by assumption)) q_0 (by omega) (by omega) q_2 (by omega))), rfl⟩)
   refine .skipgo idQ (.region ?_)
   refine .v (ev_mv rfl rfl) rfl ?_
   refine .v (ev_shl (r := (IntKind.i64.wrap (x * 64))) rfl rfl rfl (by decide) rfl) rfl ?_
   refine .v (ev_mv rfl rfl) rfl ?_
   refine .v (ev_mv rfl rfl) rfl ?_
   refine .v (ev_ix rfl Try.underlying36 ty5 rfl rfl (by omega) (by omega) (fun _ _ => Fr.adr (i := i) hA (by omega) (by omega))) rfl ?_
   refine .v (ev_ld1 rfl ty5 rfl (At.elem1 (At.w (Fr.el (i := i) hA (by omega) (by omega))) 0 rfl)) rfl ?_
   refine .v (ev_band rfl rfl rfl) rfl ?_
   refine .v (ev_cv rfl Try.underlying5 Try.underlying3 rfl rfl) rfl ?_
   refine .v (ev_bor rfl rfl rfl) rfl ?_
   refine .v (ev_as rfl rfl) rfl ?_
   refine .go idQ (.region ?_)
   refine .v (ev_mv rfl rfl) rfl ?_
   refine .v (ev_add rfl rfl rfl (r := (i + 1)) rfl (by omega) (by omega)) rfl ?_
   refine .v (ev_as rfl rfl) rfl ?_
   exact SP.nil (SQ.roundb (X := Int × Int) (x := (i, x)) ⟨(i + 1), (bor .i64 (IntKind.i64.wrap (x * 64)) (IntKind.i64.wrap (bnd .u8 (gt l i) 63)))⟩ (by exact ⟨by omega, by omega, (rn_step q_0 (by omega) (by omega) (by omega)).symm.trans q_2⟩) (by dsimp only; omega) (Sub.get (.c rfl (.c rfl (.c rfl (.c rfl (.c rfl .n)))))) (fun w hw => hw.keep .n))
  refine .exit idQ ?_
  refine .seq (.seq (.region ?_))
  refine .v (ev_mv rfl rfl) rfl ?_
  refine .v (ev_mv rfl rfl) rfl ?_
  refine .v (ev_cmp rfl rfl rfl rfl) rfl ?_
  refine .v (ev_mv rfl rfl) rfl ?_
  refine .w (fun _ => ev_mv rfl rfl) rfl ?_
  refine .w (fun hb => ev_cmp rfl (lkg rfl hb) rfl rfl) rfl ?_
  refine .v (ev_or rfl rfl rfl rfl) rfl ?_
  refine .v (ev_mv rfl rfl) rfl ?_
  refine .w (fun _ => ev_mv rfl rfl) rfl ?_
  refine .w (fun hb => ev_cmp rfl (lkg rfl hb) rfl rfl) rfl ?_
  refine .w (fun hb => ev_mv rfl (lkg rfl hb)) rfl ?_
  rcases Bool.eq_false_or_eq_true ((decide (x < 2048)) || (decide (x > 1114111))) with hb12 | hb12
  ·
   have hb12_ := bT (bO bD bD) hb12
   refine SP.reslotv (t := 80) rfl (gv_off hb12) ?_
   refine .cons (.offu rfl rfl rfl rfl rfl ?_)
   refine .cons (.offu rfl rfl rfl rfl rfl ?_)
   refine SP.reslot (t := 77) rfl hb12 ?_
   refine .cons (.off rfl rfl rfl rfl rfl rfl ?_)
   refine .v (ev_pickt rfl rfl rfl rfl) rfl ?_
   refine .go idQ ?_
   refine .cond_t rfl ?_
   refine .seq (.region ?_)
   refine .v (ev_as rfl rfl) rfl ?_
   refine .go idQ ?_
   exact .ret idQ (ret1 Try.results46 rfl .n ⟨(congrArg (Value.int .i64) (rn_no (rsel3 (l := l) (by assumption) (by assumption)) q_0 (by omega) (by omega) q_2 (by unfold runeBad; omega))), rfl⟩)
  have hb12_ := bF (bO bD bD) hb12
  refine SP.reslotv (t := 80) rfl (gv_on hb12) ?_
  refine .w (fun _ => ev_mv rfl rfl) rfl ?_
  refine .w (fun hb => ev_cmp rfl (lkg rfl hb) rfl rfl) rfl ?_
  refine SP.reslot (t := 77) rfl hb12 ?_
  refine .cons (.on rfl rfl rfl (Ev.step (ev_and rfl rfl rfl rfl) rfl rfl rfl ?_))
  refine .v (ev_pickf rfl rfl rfl rfl) rfl ?_
  refine .go idQ ?_
  refine .condI rfl (bA bD bD) (fun h13 => ?_) (fun h13 => ?_)
  ·
   refine .seq (.region ?_)
   refine .v (ev_as rfl rfl) rfl ?_
   refine .go idQ ?_
   exact .ret idQ (ret1 Try.results46 rfl .n ⟨(congrArg (Value.int .i64) (rn_no (rsel3 (l := l) (by assumption) (by assumption)) q_0 (by omega) (by omega) q_2 (by unfold runeBad; omega))), rfl⟩)
  refine .skipgo idQ (.seq (.region ?_))
  refine .v (ev_mv rfl rfl) rfl ?_
  refine .v (ev_as rfl rfl) rfl ?_
  refine .go idQ ?_
  exact .ret idQ (ret1 Try.results46 rfl .n ⟨(congrArg (Value.int .i64) (rn_yes (rsel3 (l := l) (by assumption) (by assumption)) q_0 (by omega) (by omega) q_2 (by unfold runeBad; omega))), rfl⟩)
 refine .seq (.region ?_)
 refine .v (ev_mv rfl rfl) rfl ?_
 refine .v (ev_cmp rfl rfl rfl rfl) rfl ?_
 refine .v (ev_mv rfl rfl) rfl ?_
 refine .w (fun _ => ev_mv rfl rfl) rfl ?_
 refine .w (fun hb => ev_cmp rfl (lkg rfl hb) rfl rfl) rfl ?_
 refine .v (ev_and rfl rfl rfl rfl) rfl ?_
 refine .v (ev_as rfl rfl) rfl ?_
 refine .go idQ ?_
 refine .condI rfl (bA bD bD) (fun h14 => ?_) (fun h14 => ?_)
 ·
  refine .region ?_
  refine .v (ev_mv rfl rfl) rfl ?_
  refine .v (ev_band rfl rfl rfl) rfl ?_
  refine .v (ev_as rfl rfl) rfl ?_
  refine .v (ev_as rfl rfl) rfl ?_
  refine .v (ev_as rfl rfl) rfl ?_
  refine .go idQ (.seq (.seq (.region ?_)))
  refine .v (ev_mv rfl rfl) rfl ?_
  refine .v (ev_cmp (r := false) rfl rfl rfl rfl) rfl ?_
  refine .v (ev_mv rfl rfl) rfl ?_
  refine .cons (.on rfl rfl rfl (Ev.step (ev_mv rfl rfl) rfl rfl rfl ?_))
  refine .cons (.on rfl rfl rfl (Ev.step (ev_len rfl Try.underlying36 rfl) rfl rfl rfl ?_))
  refine .cons (.on rfl rfl rfl (Ev.step (ev_mv rfl rfl) rfl rfl rfl ?_))
  refine .cons (.on rfl rfl rfl (Ev.step (ev_cmp rfl rfl rfl rfl) rfl rfl rfl ?_))
  refine .v (ev_pickf rfl rfl rfl rfl) rfl ?_
  refine .go idQ ?_
  refine .condI rfl bD (fun h15 => ?_) (fun h15 => ?_)
  ·
   refine .seq (.region ?_)
   refine .v (ev_as rfl rfl) rfl ?_
   refine .go idQ ?_
   exact .ret idQ (ret1 Try.results46 rfl .n ⟨(congrArg (Value.int .i64) (rn_short (rsel4 (l := l) (by assumption) (by assumption)) (by omega))), rfl⟩)
  refine .skipgo idQ (.seq (.seq (.region ?_)))
  refine .v (ev_as rfl rfl) rfl ?_
  refine .go idQ (.block ?_)
  refine .loop (X := Int × Int) (fun ⟨i, x⟩ => 1 ≤ i ∧ i ≤ 4 ∧ runeGo ((l.take (4 : Int).toNat).drop i.toNat) x = runeGo ((l.take (4 : Int).toNat).drop 1) (bnd .i64 (gt l 0) 7)) (fun ⟨i, x⟩ => [(0, .slice A n c), (3, .int .i64 4), (4, .int .i64 65536), (6, .int .i64 x), (7, .int .i64 i)]) (fun ⟨i, x⟩ => []) (fun _ => S) (fun _ => wf) (fun ⟨i, x⟩ => (4 - i).toNat) (fun a_ w_ hs_ hw_ => ⟨⟨1, (bnd .i64 (gt l 0) 7)⟩, (by exact ⟨by omega, by omega, rfl⟩), hs_.mono (Sub.get (.c rfl (.c rfl (.c rfl (.c rfl (.c rfl .n)))))), hw_.keep .n⟩) (fun ⟨i, x⟩ ⟨q_0, q_1, q_2⟩ => ?_)
  show SC _ _ _ _ _ ⟨[(0, .slice A n c), (3, .int .i64 4), (4, .int .i64 65536), (6, .int .i64 x), (7, .int .i64 i)], [], S, wf⟩
  refine .seq (.seq (.region ?_))
  refine .v (ev_mv rfl rfl) rfl ?_
  refine .v (ev_mv rfl rfl) rfl ?_
  refine .v (ev_cmp rfl rfl rfl rfl) rfl ?_
  refine .go idQ ?_
  refine .condI rfl bD (fun h16 => ?_) (fun h16 => ?_)
  ·
   refine .skipgo idQ (.seq (.block (.seq (.seq (.region ?_)))))
   refine .v (ev_mv rfl rfl) rfl ?_
   refine .v (ev_mv rfl rfl) rfl ?_
   refine .v (ev_ix rfl Try.underlying36 ty5 rfl rfl (by omega) (by omega) (fun _ _ => Fr.adr (i := i) hA (by omega) (by omega))) rfl ?_
   refine .v (ev_ld1 rfl ty5 rfl (At.elem1 (At.w (Fr.el (i := i) hA (by omega) (by omega))) 0 rfl)) rfl ?_
   refine .v (ev_shr (r := (Int.fdiv (gt l i) 64)) rfl rfl rfl (by decide) rfl) rfl ?_
   refine .v (ev_cmp rfl rfl rfl rfl) rfl ?_
   refine .go idQ ?_
   refine .condI rfl bNE (fun h17 => ?_) (fun h17 => ?_)
   ·
    refine .seq (.region ?_)
    refine .v (ev_as rfl rfl) rfl ?_
    refine .go idQ ?_
    exact .ret idQ (ret1 Try.results46 rfl .n ⟨(congrArg (Value.int .i64) (rn_bad (rsel4 (l := l) (by assumption) (by assumption)) q_0 (by omega) (by omega) q_2 (by omega))), rfl⟩)
   refine .skipgo idQ (.region ?_)
   refine .v (ev_mv rfl rfl) rfl ?_
   refine .v (ev_shl (r := (IntKind.i64.wrap (x * 64))) rfl rfl rfl (by decide) rfl) rfl ?_
   refine .v (ev_mv rfl rfl) rfl ?_
   refine .v (ev_mv rfl rfl) rfl ?_
   refine .v (ev_ix rfl Try.underlying36 ty5 rfl rfl (by omega) (by omega) (fun _ _ => Fr.adr (i := i) hA (by omega) (by omega))) rfl ?_
   refine .v (ev_ld1 rfl ty5 rfl (At.elem1 (At.w (Fr.el (i := i) hA (by omega) (by omega))) 0 rfl)) rfl ?_
   refine .v (ev_band rfl rfl rfl) rfl ?_
   refine .v (ev_cv rfl Try.underlying5 Try.underlying3 rfl rfl) rfl ?_
   refine .v (ev_bor rfl rfl rfl) rfl ?_
   refine .v (ev_as rfl rfl) rfl ?_
   refine .go idQ (.region ?_)
   refine .v (ev_mv rfl rfl) rfl ?_
   refine .v (ev_add rfl rfl rfl (r := (i + 1)) rfl (by omega) (by omega)) rfl ?_
   refine .v (ev_as rfl rfl) rfl ?_
   exact SP.nil (SQ.roundb (X := Int × Int) (x := (i, x)) ⟨(i + 1), (bor .i64 (IntKind.i64.wrap (x * 64)) (IntKind.i64.wrap (bnd .u8 (gt l i) 63)))⟩ (by exact ⟨by omega, by omega, (rn_step q_0 (by omega) (by omega) (by omega)).symm.trans q_2⟩) (by dsimp only; omega) (Sub.get (.c rfl (.c rfl (.c rfl (.c rfl (.c rfl .n)))))) (fun w hw => hw.keep .n))
  refine .exit idQ ?_
  refine .seq (.seq (.region ?_))
  refine .v (ev_mv rfl rfl) rfl ?_
  refine .v (ev_mv rfl rfl) rfl ?_
  refine .v (ev_cmp rfl rfl rfl rfl) rfl ?_
  refine .v (ev_mv rfl rfl) rfl ?_
  refine .w (fun _ => ev_mv rfl rfl) rfl ?_
  refine .w (fun hb => ev_cmp rfl (lkg rfl hb) rfl rfl) rfl ?_
  refine .v (ev_or rfl rfl rfl rfl) rfl ?_
  refine .v (ev_mv rfl rfl) rfl ?_
  refine .w (fun _ => ev_mv rfl rfl) rfl ?_
  refine .w (fun hb => ev_cmp rfl (lkg rfl hb) rfl rfl) rfl ?_
  refine .w (fun hb => ev_mv rfl (lkg rfl hb)) rfl ?_
  rcases Bool.eq_false_or_eq_true ((decide (x < 65536)) || (decide (x > 1114111))) with hb18 | hb18
  ·
   have hb18_ := bT (bO bD bD) hb18
   refine SP.reslotv (t := 80) rfl (gv_off hb18) ?_
   refine .cons (.offu rfl rfl rfl rfl rfl ?_)
   refine .cons (.offu rfl rfl rfl rfl rfl ?_)
   refine SP.reslot (t := 77) rfl hb18 ?_
   refine .cons (.off rfl rfl rfl rfl rfl rfl ?_)
   refine .v (ev_pickt rfl rfl rfl rfl) rfl ?_
   refine .go idQ ?_
   refine .cond_t rfl ?_
   refine .seq (.region ?_)
   refine .v (ev_as rfl rfl) rfl ?_
   refine .go idQ ?_
   exact .ret idQ (ret1 Try.results46 rfl .n ⟨(congrArg (Value.int .i64) (rn_no (rsel4 (l := l) (by assumption) (by assumption)) q_0 (by omega) (by omega) q_2 (by unfold runeBad; omega))), rfl⟩)
  have hb18_ := bF (bO bD bD) hb18
  refine SP.reslotv (t := 80) rfl (gv_on hb18) ?_
  refine .w (fun _ => ev_mv rfl rfl) rfl ?_
  refine .w (fun hb => ev_cmp rfl (lkg rfl hb) rfl rfl) rfl ?_
  refine SP.reslot (t := 77) rfl hb18 ?_
  refine .cons (.on rfl rfl rfl (Ev.step (ev_and rfl rfl rfl rfl) rfl rfl rfl ?_))
  refine .v (ev_pickf rfl rfl rfl rfl) rfl ?_
  refine .go idQ ?_
  refine .condI rfl (bA bD bD) (fun h19 => ?_) (fun h19 => ?_)
  ·
   refine .seq (.region ?_)
   refine .v (ev_as rfl rfl) rfl ?_
   refine .go idQ ?_
   exact .ret idQ (ret1 Try.results46 rfl .n ⟨(congrArg (Value.int .i64) (rn_no (rsel4 (l := l) (by assumption) (by assumption)) q_0 (by omega) (by omega) q_2 (by unfold runeBad; omega))), rfl⟩)
  refine .skipgo idQ (.seq (.region ?_))
  refine .v (ev_mv rfl rfl) rfl ?_
  refine .v (ev_as rfl rfl) rfl ?_
  refine .go idQ ?_
  exact .ret idQ (ret1 Try.results46 rfl .n ⟨(congrArg (Value.int .i64) (rn_yes (rsel4 (l := l) (by assumption) (by assumption)) q_0 (by omega) (by omega) q_2 (by unfold runeBad; omega))), rfl⟩)
 refine .skipgo idQ (.seq (.seq (.region ?_)))
 refine .v (ev_mv rfl rfl) rfl ?_
 refine .v (ev_cmp (r := true) rfl rfl rfl rfl) rfl ?_
 refine .v (ev_mv rfl rfl) rfl ?_
 refine .cons (.off rfl rfl rfl rfl rfl rfl ?_)
 refine .cons (.off rfl rfl rfl rfl rfl rfl ?_)
 refine .cons (.off rfl rfl rfl rfl rfl rfl ?_)
 refine .cons (.off rfl rfl rfl rfl rfl rfl ?_)
 refine .v (ev_pickt rfl rfl rfl rfl) rfl ?_
 refine .go idQ ?_
 refine .cond_t rfl ?_
 refine .seq (.region ?_)
 refine .v (ev_as rfl rfl) rfl ?_
 refine .go idQ ?_
 exact .ret idQ (ret1 Try.results46 rfl .n ⟨(congrArg (Value.int .i64) (rsel0 (by assumption) (by assumption) (by assumption) (by assumption))), rfl⟩)
theorem utf (s : ByteArray) (S : Nat → Prop) (wf : World) (hs : s.size ≤ 1000000000) :
  TR0 Try.prog 19 [.string s] [] S wf (fun v_ C_ => v_ = .bool (utfF (bs s)) ∧ C_ = []) := by
 have hbs := bs_len s
 refine TR.mk Try.func19 rfl Try.ntmps19 rfl rfl (fun w_ => ?_)
 refine .seq (.region ?_)
 refine .v (ev_as rfl rfl) rfl ?_
 refine .go idQ (.seq (.region ?_))
 refine .v (ev_mv rfl rfl) rfl ?_
 refine .cons (st_s2b rfl rfl rfl rfl Try.underlying9 Try.underlying36 Try.underlying5 rfl (by omega) (fun b1 c2 hc3 hc4 => ?_))
 unfold maxLen at hc4
 have hbl5 := bs_len s
 refine .v (ev_as rfl rfl) rfl ?_
 refine .go idQ (.seq (.seq (.region ?_)))
 refine .v (ev_as rfl rfl) rfl ?_
 refine .go idQ (.block ?_)
 refine .loop (X := Int) (fun i => 0 ≤ i ∧ i ≤ s.size ∧ utfF ((bs s).drop i.toNat) = utfF (bs s)) (fun i => [(3, .slice (some ⟨b1, 0, none⟩) s.size c2), (4, .int .i64 i)]) (fun i => [ro_ eY 5 (.slice (some ⟨b1, 0, none⟩) s.size c2) (bs s)]) (fun _ => S) (fun _ => wf) (fun i => (s.size - i.toNat)) (fun a_ w_ hs_ hw_ => ⟨0, (by exact ⟨by omega, by omega, rfl⟩), hs_.mono (Sub.get (.c rfl (.c rfl .n))), hw_.keep (.c .h .n)⟩) (fun i ⟨q_0, q_1, q_2⟩ => ?_)
 show SC _ _ _ _ _ ⟨[(3, .slice (some ⟨b1, 0, none⟩) s.size c2), (4, .int .i64 i)], [ro_ eY 5 (.slice (some ⟨b1, 0, none⟩) s.size c2) (bs s)], S, wf⟩
 refine .seq (.seq (.region ?_))
 refine .v (ev_mv rfl rfl) rfl ?_
 refine .v (ev_mv rfl rfl) rfl ?_
 refine .v (ev_len rfl Try.underlying36 rfl) rfl ?_
 refine .v (ev_cmp rfl rfl rfl rfl) rfl ?_
 refine .go idQ ?_
 refine .condI rfl bD (fun h6 => ?_) (fun h6 => ?_)
 ·
  refine .skipgo idQ (.block (.seq (.region ?_)))
  refine .v (ev_mv rfl rfl) rfl ?_
  refine .v (ev_mv rfl rfl) rfl ?_
  refine .v (ev_slc rfl Try.underlying36 ty5 rfl (.s rfl (by omega)) .n (by omega) (by omega)) rfl ?_
  refine .cons (st_lendk rfl rfl rfl rfl hbd46 rfl .n (.c .h .n) (fun w_ hw => rune (cutA (some ⟨b1, 0, none⟩) c2 (i).toNat 1) (s.size - (i).toNat) (c2 - (i).toNat) (((bs s).take s.size).drop (i).toNat) _ _ (Fr.view (Fr.lendo hw 0 rfl (by first | omega | simp only [LL] <;> omega | simp <;> omega)) (i).toNat s.size 1 rfl (by omega)) (by first | omega | simp only [LL] <;> omega | simp <;> omega) (rng_drop (rng_take (bs_range _) _) _) (by omega)) ?_)
  refine .v (ev_as rfl rfl) rfl ?_
  refine .go idQ (.seq (.seq ?_))
  have hrb := rune_bd (s := s) (i := i) q_0 (by omega)
  refine .region ?_
  refine .v (ev_mv rfl rfl) rfl ?_
  refine .v (ev_cmp rfl rfl rfl rfl) rfl ?_
  refine .go idQ ?_
  refine .condI rfl bE (fun h7 => ?_) (fun h7 => ?_)
  ·
   refine .seq (.region ?_)
   refine .v (ev_as rfl rfl) rfl ?_
   refine .go idQ ?_
   exact .ret idQ (ret1 Try.results19 rfl .n ⟨(congrArg Value.bool (utf_bad0 q_0 (by omega) q_2 (by assumption))), rfl⟩)
  refine .skipgo idQ (.region ?_)
  refine .v (ev_mv rfl rfl) rfl ?_
  refine .v (ev_mv rfl rfl) rfl ?_
  refine .v (ev_add rfl rfl rfl (r := (i + (runeF (((bs s).take s.size).drop (i).toNat)))) rfl (by omega) (by omega)) rfl ?_
  refine .v (ev_as rfl rfl) rfl ?_
  exact SP.nil (SQ.roundb (X := Int) (x := (i)) (i + (runeF (((bs s).take s.size).drop (i).toNat))) (by exact utf_go q_0 (by omega) q_2 (by assumption)) (by show (_ : Nat) < _; omega) (Sub.get (.c rfl (.c rfl .n))) (fun w hw => hw.keep (.c .h .n)))
 refine .exit idQ ?_
 refine .seq (.region ?_)
 refine .v (ev_as rfl rfl) rfl ?_
 refine .go idQ ?_
 exact .ret idQ (ret1 Try.results19 rfl .n ⟨(congrArg Value.bool (utf_end q_2 (by omega))), rfl⟩)
theorem quote_ (v : Value) (o : List Int) (s : ByteArray) (S : Nat → Prop) (wf : World) (hs : s.size ≤ 1000000000) (ho : o.length ≤ 1000000000000) :
  TR0 Try.prog 52 [v, .string s] [rw_ eY 5 (v) o] S wf (fun v_ C_ => ∃ (u : Value), v_ = u ∧ C_ = [rw_ eY 5 (u) (o ++ quoteF s)]) := by
 have hbs := bs_len s
 refine TR.mk Try.func52 rfl Try.ntmps52 rfl rfl (fun w_ => ?_)
 refine .seq (.region ?_)
 refine .v (ev_as rfl rfl) rfl ?_
 refine .go idQ (.seq (.region ?_))
 refine .v (ev_as rfl rfl) rfl ?_
 refine .go idQ (.seq (.region ?_))
 refine .v (ev_mv rfl rfl) rfl ?_
 refine .cons (st_s2b rfl rfl rfl rfl Try.underlying9 Try.underlying36 Try.underlying5 rfl (by omega) (fun b1 c2 hc3 hc4 => ?_))
 unfold maxLen at hc4
 have hbl5 := bs_len s
 refine .v (ev_as rfl rfl) rfl ?_
 refine .go idQ (.seq (.region ?_))
 refine .v (ev_mv rfl rfl) rfl ?_
 refine .cons (st_lit eY (e := 5) (l := [34]) rfl rfl rfl rfl (by kernel_rfl) rfl rfl (fun w => by kernel_rfl) (fun b6 => ?_))
 refine .cons (st_app (E := eY) (m := [34]) rfl rfl rfl rfl Try.underlying36 ai5 rfl rfl rfl (.t (.t .h)) (by first | rfl | omega | simp) (row_src 0 rfl) (by first | omega | simp only [LL] <;> omega | simp <;> omega) rfl (fun v7 => ?_))
 refine .v (ev_as rfl rfl) rfl ?_
 refine .go idQ (.seq (.seq (.region ?_)))
 refine .v (ev_as rfl rfl) rfl ?_
 refine .go idQ (.block ?_)
 refine .loop (X := Int × (List Int) × Value) (fun ⟨i, O, U⟩ => 0 ≤ i ∧ i ≤ s.size ∧ O ++ quoF ((bs s).drop i.toNat) = (o ++ [34] ++ quoF (bs s)) ∧ (O.length : Int) ≤ o.length + 1 + 6 * i) (fun ⟨i, O, U⟩ => [(0, U), (5, .string ⟨#[48, 49, 50, 51, 52, 53, 54, 55, 56, 57, 97, 98, 99, 100, 101, 102]⟩), (6, .slice (some ⟨b1, 0, none⟩) s.size c2), (7, .int .i64 i)]) (fun ⟨i, O, U⟩ => [rw_ eY 5 (U) O, ro_ eY 5 (.slice (some ⟨b1, 0, none⟩) s.size c2) (bs s)]) (fun _ => S) (fun _ => wf) (fun ⟨i, O, U⟩ => (s.size - i.toNat)) (fun a_ w_ hs_ hw_ => ⟨⟨0, (o ++ [34]), v7⟩, (by exact ⟨by omega, by omega, rfl, by simp only [List.length_append, List.length_cons, List.length_nil]; omega⟩), hs_.mono (Sub.get (.c rfl (.c rfl (.c rfl (.c rfl .n))))), hw_.keep (.c .h (.c (.t .h) .n))⟩) (fun ⟨i, O, U⟩ ⟨q_0, q_1, q_2, q_3⟩ => ?_)
 show SC _ _ _ _ _ ⟨[(0, U), (5, .string ⟨#[48, 49, 50, 51, 52, 53, 54, 55, 56, 57, 97, 98, 99, 100, 101, 102]⟩), (6, .slice (some ⟨b1, 0, none⟩) s.size c2), (7, .int .i64 i)], [rw_ eY 5 (U) O, ro_ eY 5 (.slice (some ⟨b1, 0, none⟩) s.size c2) (bs s)], S, wf⟩
 refine .seq (.seq (.region ?_))
 refine .v (ev_mv rfl rfl) rfl ?_
 refine .v (ev_mv rfl rfl) rfl ?_
 refine .v (ev_len rfl Try.underlying36 rfl) rfl ?_
 refine .v (ev_cmp rfl rfl rfl rfl) rfl ?_
 refine .go idQ ?_
 refine .condI rfl bD (fun h8 => ?_) (fun h8 => ?_)
 ·
  refine .skipgo idQ (.block (.seq (.region ?_)))
  refine .v (ev_mv rfl rfl) rfl ?_
  refine .v (ev_mv rfl rfl) rfl ?_
  refine .v (ev_slc rfl Try.underlying36 ty5 rfl (.s rfl (by omega)) .n (by omega) (by omega)) rfl ?_
  refine .cons (st_lendk rfl rfl rfl rfl hbd46 rfl .n (.c (.t .h) .n) (fun w_ hw => rune (cutA (some ⟨b1, 0, none⟩) c2 (i).toNat 1) (s.size - (i).toNat) (c2 - (i).toNat) (((bs s).take s.size).drop (i).toNat) _ _ (Fr.view (Fr.lendo hw 0 rfl (by first | omega | simp only [LL] <;> omega | simp <;> omega)) (i).toNat s.size 1 rfl (by omega)) (by first | omega | simp only [LL] <;> omega | simp <;> omega) (rng_drop (rng_take (bs_range _) _) _) (by omega)) ?_)
  refine .v (ev_as rfl rfl) rfl ?_
  refine .go idQ (.seq ?_)
  have hrb := rune_bd (s := s) (i := i) q_0 (by omega)
  refine .region ?_
  refine .v (ev_mv rfl rfl) rfl ?_
  refine .v (ev_mv rfl rfl) rfl ?_
  refine .v (ev_ix rfl Try.underlying36 ty5 rfl rfl (by omega) (by omega) (ro_adr (i := i) 1 rfl (by omega) (by first | omega | simp only [LL] <;> omega | simp <;> omega))) rfl ?_
  refine .v (ev_ld1 rfl ty5 rfl (At.elem1 (ro_el (E := eY) (l := (bs s)) (i := i) 1 rfl (by omega) (by first | omega | simp only [LL] <;> omega | simp <;> omega)) 0 rfl)) rfl ?_
  refine .v (ev_as rfl rfl) rfl ?_
  refine .go idQ (.seq (.block (.seq (.region ?_))))
  refine .v (ev_mv rfl rfl) rfl ?_
  refine .v (ev_cmp rfl rfl rfl rfl) rfl ?_
  refine .v (ev_as rfl rfl) rfl ?_
  refine .go idQ ?_
  refine .condI rfl bE (fun h9 => ?_) (fun h9 => ?_)
  ·
   refine .seq (.region ?_)
   refine .v (ev_mv rfl rfl) rfl ?_
   refine .cons (st_lit eY (e := 5) (l := [239, 191, 189]) rfl rfl rfl rfl (by kernel_rfl) rfl rfl (fun w => by kernel_rfl) (fun b10 => ?_))
   refine .cons (st_app (E := eY) (m := [239, 191, 189]) rfl rfl rfl rfl Try.underlying36 ai5 rfl rfl rfl (.t .h) (by first | rfl | omega | simp) (row_src 0 rfl) (by first | omega | simp only [LL] <;> omega | simp <;> omega) rfl (fun v11 => ?_))
   refine .v (ev_as rfl rfl) rfl ?_
   refine .go idQ (.region ?_)
   refine .v (ev_as rfl rfl) rfl ?_
   refine .go idQ (.region ?_)
   refine .v (ev_mv rfl rfl) rfl ?_
   refine .v (ev_mv rfl rfl) rfl ?_
   refine .v (ev_add rfl rfl rfl (r := (i + 1)) rfl (by omega) (by omega)) rfl ?_
   refine .v (ev_as rfl rfl) rfl ?_
   exact SP.nil (SQ.roundb (X := Int × (List Int) × Value) (x := (i, O, U)) ⟨(i + 1), (O ++ [239, 191, 189]), v11⟩ (by exact ⟨by omega, by omega, quo_go q_2 q_0 (by omega) (by omega) (qg_bad (by assumption)), by simp only [List.length_append, List.length_cons, List.length_nil, List.length_take, List.length_drop]; omega⟩) (by dsimp only; omega) (Sub.get (.c rfl (.c rfl (.c rfl (.c rfl .n))))) (fun w hw => hw.keep (.c .h (.c (.t .h) .n))))
  refine .seq (.region ?_)
  refine .v (ev_mv rfl rfl) rfl ?_
  refine .v (ev_cmp rfl rfl rfl rfl) rfl ?_
  refine .v (ev_mv rfl rfl) rfl ?_
  refine .w (fun _ => ev_mv rfl rfl) rfl ?_
  refine .w (fun hb => ev_cmp rfl (lkg rfl hb) rfl rfl) rfl ?_
  refine .v (ev_or rfl rfl rfl rfl) rfl ?_
  refine .v (ev_as rfl rfl) rfl ?_
  refine .go idQ ?_
  refine .condI rfl (bO bE bE) (fun h12 => ?_) (fun h12 => ?_)
  ·
   refine .region ?_
   refine .v (ev_mv rfl rfl) rfl ?_
   refine .v (ev_mv rfl rfl) rfl ?_
   refine .cons (st_lit eY (e := 5) (l := [92, (gt (bs s) i)]) rfl rfl rfl rfl (by kernel_rfl) rfl rfl (fun w => by kernel_rfl) (fun b13 => ?_))
   refine .cons (st_app (E := eY) (m := [92, (gt (bs s) i)]) rfl rfl rfl rfl Try.underlying36 ai5 rfl rfl rfl (.t .h) (by first | rfl | omega | simp) (row_src 0 rfl) (by first | omega | simp only [LL] <;> omega | simp <;> omega) rfl (fun v14 => ?_))
   refine .v (ev_as rfl rfl) rfl ?_
   refine .go idQ (.region ?_)
   refine .v (ev_mv rfl rfl) rfl ?_
   refine .v (ev_mv rfl rfl) rfl ?_
   refine .v (ev_add rfl rfl rfl (r := (i + (runeF (((bs s).take s.size).drop (i).toNat)))) rfl (by omega) (by omega)) rfl ?_
   refine .v (ev_as rfl rfl) rfl ?_
   exact SP.nil (SQ.roundb (X := Int × (List Int) × Value) (x := (i, O, U)) ⟨(i + (runeF (((bs s).take s.size).drop (i).toNat))), (O ++ [92, (gt (bs s) i)]), v14⟩ (by exact ⟨by omega, by omega, quo_go q_2 q_0 (by omega) (by omega) (qg_mark q_0 (by assumption) (by assumption)), by simp only [List.length_append, List.length_cons, List.length_nil, List.length_take, List.length_drop]; omega⟩) (by dsimp only; omega) (Sub.get (.c rfl (.c rfl (.c rfl (.c rfl .n))))) (fun w hw => hw.keep (.c .h (.c (.t .h) .n))))
  refine .seq (.region ?_)
  refine .v (ev_mv rfl rfl) rfl ?_
  refine .v (ev_cmp rfl rfl rfl rfl) rfl ?_
  refine .v (ev_as rfl rfl) rfl ?_
  refine .go idQ ?_
  refine .condI rfl bD (fun h15 => ?_) (fun h15 => ?_)
  ·
   have hrg := gt_range (bs_range s) i
   unfold isB at hrg
   refine SC.draw mo [rw_ eY 5 (U) O] [] (.c .h .n) (fun _ _ _ c hc => by cases hc) (fun wf_16 hl_16 hx_16 hR_16 => ?_)
   refine SR.k 0 rfl (by kernel_rfl) rfl (ev_mv rfl rfl) ?_
   refine SR.k 1 rfl (by kernel_rfl) rfl (ev_mv rfl rfl) ?_
   refine SR.k 2 rfl (by kernel_rfl) rfl (ev_mv rfl rfl) ?_
   refine SR.k 3 rfl (by kernel_rfl) rfl (ev_quon rfl rfl rfl (by omega) (by decide) (by first | exact wrap_small (by omega) (by omega) | exact wrap_in (by omega) (by omega))) ?_
   refine SR.k 4 rfl (by kernel_rfl) rfl (ev_ixs rfl Try.underlying9 rfl rfl (by omega) (by show _ < ((16 : Nat) : Int); omega)) ?_
   refine SR.k 5 rfl (by kernel_rfl) rfl (ev_mv rfl rfl) ?_
   refine SR.k 6 rfl (by kernel_rfl) rfl (ev_mv rfl rfl) ?_
   refine SR.k 7 rfl (by kernel_rfl) rfl (ev_remn rfl rfl rfl (by omega) (by decide) ) ?_
   refine SR.k 8 rfl (by kernel_rfl) rfl (ev_ixs rfl Try.underlying9 rfl rfl (by omega) (by show _ < ((16 : Nat) : Int); omega)) ?_
   refine SR.one (j := 9) (by kernel_rfl) rfl (st_lit eY (e := 5) (l := [92, 117, 48, 48, (gt (bs ⟨#[48, 49, 50, 51, 52, 53, 54, 55, 56, 57, 97, 98, 99, 100, 101, 102]⟩) ((gt (bs s) i) / 16)), (gt (bs ⟨#[48, 49, 50, 51, 52, 53, 54, 55, 56, 57, 97, 98, 99, 100, 101, 102]⟩) ((gt (bs s) i) % 16))]) rfl rfl rfl rfl (by kernel_rfl) rfl rfl (fun w => by kernel_rfl) (fun b17 => ⟨tt0, ?_⟩))
   refine SR.one (j := 10) (by kernel_rfl) rfl (st_app (E := eY) (m := [92, 117, 48, 48, (gt (bs ⟨#[48, 49, 50, 51, 52, 53, 54, 55, 56, 57, 97, 98, 99, 100, 101, 102]⟩) ((gt (bs s) i) / 16)), (gt (bs ⟨#[48, 49, 50, 51, 52, 53, 54, 55, 56, 57, 97, 98, 99, 100, 101, 102]⟩) ((gt (bs s) i) % 16))]) rfl rfl rfl rfl Try.underlying36 ai5 rfl rfl rfl (.t .h) (by first | rfl | omega | simp) (row_src 0 rfl) (by first | omega | simp only [LL] <;> omega | simp <;> omega) rfl (fun v18 => ⟨tt0, ?_⟩))
   refine SR.k 11 rfl (by kernel_rfl) rfl (ev_as rfl rfl) ?_
   refine SR.fin (by kernel_rfl) hl_16 hx_16 hR_16 (.c (.c .n)) ?_
   refine SQ.go idQ ?_
   refine .region ?_
   refine .v (ev_mv rfl rfl) rfl ?_
   refine .v (ev_mv rfl rfl) rfl ?_
   refine .v (ev_add rfl rfl rfl (r := (i + (runeF (((bs s).take s.size).drop (i).toNat)))) rfl (by omega) (by omega)) rfl ?_
   refine .v (ev_as rfl rfl) rfl ?_
   exact SP.nil (SQ.roundb (X := Int × (List Int) × Value) (x := (i, O, U)) ⟨(i + (runeF (((bs s).take s.size).drop (i).toNat))), (O ++ [92, 117, 48, 48, (gt (bs ⟨#[48, 49, 50, 51, 52, 53, 54, 55, 56, 57, 97, 98, 99, 100, 101, 102]⟩) ((gt (bs s) i) / 16)), (gt (bs ⟨#[48, 49, 50, 51, 52, 53, 54, 55, 56, 57, 97, 98, 99, 100, 101, 102]⟩) ((gt (bs s) i) % 16))]), v18⟩ (by exact ⟨by omega, by omega, quo_go q_2 q_0 (by omega) (by omega) (qg_low q_0 (by assumption) (by assumption) (by assumption)), by simp only [List.length_append, List.length_cons, List.length_nil, List.length_take, List.length_drop]; omega⟩) (by dsimp only; omega) (Sub.get (.c rfl (.c rfl (.c rfl (.c rfl .n))))) (fun w hw => hw.keep (.c .h (.c (.t .h) .n))))
  refine .region ?_
  refine .v (ev_mv rfl rfl) rfl ?_
  refine .v (ev_mv rfl rfl) rfl ?_
  refine .v (ev_mv rfl rfl) rfl ?_
  refine .v (ev_mv rfl rfl) rfl ?_
  refine .v (ev_mv rfl rfl) rfl ?_
  refine .v (ev_add rfl rfl rfl (r := (i + (runeF (((bs s).take s.size).drop (i).toNat)))) rfl (by omega) (by omega)) rfl ?_
  refine .v (ev_slc rfl Try.underlying36 ty5 rfl (.s rfl (by omega)) (.s rfl (by omega)) (by omega) (by omega)) rfl ?_
  refine .cons (st_app (E := eY) (m := (((bs s).take ((i + (runeF (((bs s).take s.size).drop (i).toNat)))).toNat).drop (i).toNat)) rfl rfl rfl rfl Try.underlying36 ai5 rfl rfl rfl .h (by (try simp only [List.length_take, List.length_drop]) <;> omega) (srcv 1 rfl (fun _ h_ => Fr.view (Fr.of_ro h_ (fun _ h => h) (by first | omega | simp only [LL] <;> omega | simp <;> omega)) (i).toNat ((i + (runeF (((bs s).take s.size).drop (i).toNat)))).toNat 1 rfl (by omega))) (by first | omega | simp only [LL] <;> omega | simp <;> omega) rfl (fun v19 => ?_))
  refine .v (ev_as rfl rfl) rfl ?_
  refine .go idQ (.region ?_)
  refine .v (ev_mv rfl rfl) rfl ?_
  refine .v (ev_mv rfl rfl) rfl ?_
  refine .v (ev_add rfl rfl rfl (r := (i + (runeF (((bs s).take s.size).drop (i).toNat)))) rfl (by omega) (by omega)) rfl ?_
  refine .v (ev_as rfl rfl) rfl ?_
  exact SP.nil (SQ.roundb (X := Int × (List Int) × Value) (x := (i, O, U)) ⟨(i + (runeF (((bs s).take s.size).drop (i).toNat))), (O ++ (((bs s).take ((i + (runeF (((bs s).take s.size).drop (i).toNat)))).toNat).drop (i).toNat)), v19⟩ (by exact ⟨by omega, by omega, quo_go q_2 q_0 (by omega) (by omega) (qg_raw q_0 (by assumption) (by assumption) (by assumption) (by omega) rfl), by simp only [List.length_append, List.length_cons, List.length_nil, List.length_take, List.length_drop]; omega⟩) (by dsimp only; omega) (Sub.get (.c rfl (.c rfl (.c rfl (.c rfl .n))))) (fun w hw => hw.keep (.c .h (.c .h .n))))
 refine .exit idQ ?_
 refine .seq (.region ?_)
 refine .v (ev_mv rfl rfl) rfl ?_
 refine .cons (st_lit eY (e := 5) (l := [34]) rfl rfl rfl rfl (by kernel_rfl) rfl rfl (fun w => by kernel_rfl) (fun b20 => ?_))
 refine .cons (st_app (E := eY) (m := [34]) rfl rfl rfl rfl Try.underlying36 ai5 rfl rfl rfl (.t .h) (by first | rfl | omega | simp) (row_src 0 rfl) (by first | omega | simp only [LL] <;> omega | simp <;> omega) rfl (fun v21 => ?_))
 refine .v (ev_as rfl rfl) rfl ?_
 refine .go idQ ?_
 exact .ret idQ (ret1 Try.results52 rfl (.c .h .n) ⟨v21, rfl, (by rw [quo_end q_2 (by omega), quoteF]; simp)⟩)
theorem numtxt0 (a : Int) (S : Nat → Prop) (wf : World) (h0 : 0 ≤ a) (h1 : a ≤ 9223372036854775807) :
  TR0 Try.prog 51 [.int .i64 a] [] S wf (fun v_ C_ => v_ = .string (numS a) ∧ C_ = []) := by
 refine TR.mk Try.func51 rfl Try.ntmps51 rfl rfl (fun w_ => ?_)
 refine .seq (.region ?_)
 refine .v (ev_as rfl rfl) rfl ?_
 refine .go idQ (.seq (.seq (.region ?_)))
 refine .v (ev_mv rfl rfl) rfl ?_
 refine .v (ev_cmp rfl rfl rfl rfl) rfl ?_
 refine .go idQ ?_
 refine .condI rfl bE (fun h1 => ?_) (fun h1 => ?_)
 ·
  exfalso; omega
 refine .skipgo idQ (.seq (.seq (.region ?_)))
 refine .v (ev_mv rfl rfl) rfl ?_
 refine .v (ev_cmp rfl rfl rfl rfl) rfl ?_
 refine .go idQ ?_
 refine .condI rfl bD (fun h2 => ?_) (fun h2 => ?_)
 ·
  exfalso; omega
 refine .skipgo idQ (.seq (.region ?_))
 refine .v (ev_as rfl rfl) rfl ?_
 refine .go idQ (.block ?_)
 refine .loop (X := Int × ByteArray) (fun ⟨x, s⟩ => 0 ≤ x ∧ x ≤ a ∧ decL x.toNat ++ bs s = decL a.toNat ∧ (s.size : Int) + x ≤ a ∧ (s.size = 0 ∨ 1 ≤ x)) (fun ⟨x, s⟩ => [(0, .int .i64 x), (3, .string s)]) (fun ⟨x, s⟩ => []) (fun _ => S) (fun _ => wf) (fun ⟨x, s⟩ => x.toNat) (fun a_ w_ hs_ hw_ => ⟨⟨a, ⟨#[]⟩⟩, (by exact ⟨by omega, by omega, by rw [show bs ⟨#[]⟩ = [] from rfl, List.append_nil], by show ((0 : Nat) : Int) + a ≤ a; omega, .inl rfl⟩), hs_.mono (Sub.get (.c rfl (.c rfl .n))), hw_.keep .n⟩) (fun ⟨x, s⟩ ⟨q_0, q_1, q_2, q_3, q_4⟩ => ?_)
 show SC _ _ _ _ _ ⟨[(0, .int .i64 x), (3, .string s)], [], S, wf⟩
 refine .block (.seq (.region ?_))
 refine .v (ev_mv rfl rfl) rfl ?_
 refine .v (ev_remn rfl rfl rfl (by omega) (by decide) ) rfl ?_
 refine .v (ev_add rfl rfl rfl (r := (48 + (x % 10))) rfl (by omega) (by omega)) rfl ?_
 refine .v (ev_cv rfl Try.underlying3 Try.underlying5 rfl (wrap_small (by omega) (by omega))) rfl ?_
 refine .cons (st_lit eY (e := 5) (l := [(48 + (x % 10))]) rfl rfl rfl rfl (by kernel_rfl) rfl rfl (fun w => by kernel_rfl) (fun b3 => ?_))
 refine .v (ev_b2s (l := [(48 + (x % 10))]) rfl Try.underlying36 Try.underlying5 Try.underlying9 rfl (by first | rfl | assumption | omega | ((try simp only [List.length_take, List.length_drop, List.length_append, List.length_cons, List.length_nil]) <;> omega)) (row_src 0 rfl)) rfl ?_
 refine .v (ev_mv rfl rfl) rfl ?_
 refine .v (ev_sadd rfl rfl rfl (by first | omega | (simp only [mkS_size, List.length_cons, List.length_nil]; omega))) rfl ?_
 refine .v (ev_as rfl rfl) rfl ?_
 refine .go idQ (.seq (.region ?_))
 refine .v (ev_mv rfl rfl) rfl ?_
 refine .v (ev_quon rfl rfl rfl (by omega) (by decide) (by first | exact wrap_small (by omega) (by omega) | exact wrap_in (by omega) (by omega))) rfl ?_
 refine .v (ev_as rfl rfl) rfl ?_
 refine .go idQ (.seq (.region ?_))
 refine .v (ev_mv rfl rfl) rfl ?_
 refine .v (ev_cmp rfl rfl rfl rfl) rfl ?_
 refine .go idQ ?_
 refine .condI rfl bE (fun h4 => ?_) (fun h4 => ?_)
 ·
  refine .seq (.region ?_)
  refine .v (ev_mv rfl rfl) rfl ?_
  refine .v (ev_as rfl rfl) rfl ?_
  refine .go idQ ?_
  exact .ret idQ (ret1 Try.results51 rfl .n ⟨(congrArg Value.string (num_done q_2 (by omega) (by omega) (by omega))), rfl⟩)
 exact .skip (SQ.roundb (X := Int × ByteArray) (x := (x, s)) ⟨(x / 10), ((mkS [(48 + (x % 10))]) ++ s)⟩ (by exact ⟨by omega, by omega, num_next q_2 (by omega) (by assumption), by rw [dig_size]; omega, .inr (by omega)⟩) (by dsimp only; omega) (Sub.get (.c rfl (.c rfl .n))) (fun w hw => hw.keep .n))
theorem numtxt (a : Int) (S : Nat → Prop) (wf : World) (h_a : -9223372036854775808 ≤ a ∧ a ≤ 9223372036854775807) :
  TR0 Try.prog 51 [.int .i64 a] [] S wf (fun v_ C_ => v_ = .string (numS a) ∧ C_ = []) := by
 refine TR.mk Try.func51 rfl Try.ntmps51 rfl rfl (fun w_ => ?_)
 refine .seq (.region ?_)
 refine .v (ev_as rfl rfl) rfl ?_
 refine .go idQ (.seq (.seq (.region ?_)))
 refine .v (ev_mv rfl rfl) rfl ?_
 refine .v (ev_cmp rfl rfl rfl rfl) rfl ?_
 refine .go idQ ?_
 refine .condI rfl bE (fun h1 => ?_) (fun h1 => ?_)
 ·
  refine .seq (.region ?_)
  refine .v (ev_as rfl rfl) rfl ?_
  refine .go idQ ?_
  exact .ret idQ (ret1 Try.results51 rfl .n ⟨(congrArg Value.string (by rw [show a = -9223372036854775808 by omega]; exact num_min)), rfl⟩)
 refine .skipgo idQ (.seq (.seq (.region ?_)))
 refine .v (ev_mv rfl rfl) rfl ?_
 refine .v (ev_cmp rfl rfl rfl rfl) rfl ?_
 refine .go idQ ?_
 refine .condI rfl bD (fun h2 => ?_) (fun h2 => ?_)
 ·
  refine .seq ?_
  have hns := numS_size (a := -a) (by omega) (by omega)
  refine .region ?_
  refine .v (ev_mv rfl rfl) rfl ?_
  refine .v (ev_neg rfl rfl (by omega) (by omega)) rfl ?_
  refine .cons (st_callk rfl rfl rfl rfl hbd51 rfl .n (numtxt0 (-a) _ _ (by omega) (by omega)) ?_)
  refine .v (ev_sadd rfl rfl rfl (by show (((1 : Nat) + (_ : Nat) : Nat) : Int) ≤ 9223372036854775807; first | omega | (simp only [mkS_size, List.length_cons, List.length_nil]; omega))) rfl ?_
  refine .v (ev_as rfl rfl) rfl ?_
  refine .go idQ ?_
  exact .ret idQ (ret1 Try.results51 rfl .n ⟨(congrArg Value.string (num_neg (by omega))), rfl⟩)
 refine .skipgo idQ (.seq (.region ?_))
 refine .v (ev_as rfl rfl) rfl ?_
 refine .go idQ (.block ?_)
 refine .loop (X := Int × ByteArray) (fun ⟨x, s⟩ => 0 ≤ x ∧ x ≤ a ∧ decL x.toNat ++ bs s = decL a.toNat ∧ (s.size : Int) + x ≤ a ∧ (s.size = 0 ∨ 1 ≤ x)) (fun ⟨x, s⟩ => [(0, .int .i64 x), (3, .string s)]) (fun ⟨x, s⟩ => []) (fun _ => S) (fun _ => wf) (fun ⟨x, s⟩ => x.toNat) (fun a_ w_ hs_ hw_ => ⟨⟨a, ⟨#[]⟩⟩, (by exact ⟨by omega, by omega, by rw [show bs ⟨#[]⟩ = [] from rfl, List.append_nil], by show ((0 : Nat) : Int) + a ≤ a; omega, .inl rfl⟩), hs_.mono (Sub.get (.c rfl (.c rfl .n))), hw_.keep .n⟩) (fun ⟨x, s⟩ ⟨q_0, q_1, q_2, q_3, q_4⟩ => ?_)
 show SC _ _ _ _ _ ⟨[(0, .int .i64 x), (3, .string s)], [], S, wf⟩
 refine .block (.seq (.region ?_))
 refine .v (ev_mv rfl rfl) rfl ?_
 refine .v (ev_remn rfl rfl rfl (by omega) (by decide) ) rfl ?_
 refine .v (ev_add rfl rfl rfl (r := (48 + (x % 10))) rfl (by omega) (by omega)) rfl ?_
 refine .v (ev_cv rfl Try.underlying3 Try.underlying5 rfl (wrap_small (by omega) (by omega))) rfl ?_
 refine .cons (st_lit eY (e := 5) (l := [(48 + (x % 10))]) rfl rfl rfl rfl (by kernel_rfl) rfl rfl (fun w => by kernel_rfl) (fun b3 => ?_))
 refine .v (ev_b2s (l := [(48 + (x % 10))]) rfl Try.underlying36 Try.underlying5 Try.underlying9 rfl (by first | rfl | assumption | omega | ((try simp only [List.length_take, List.length_drop, List.length_append, List.length_cons, List.length_nil]) <;> omega)) (row_src 0 rfl)) rfl ?_
 refine .v (ev_mv rfl rfl) rfl ?_
 refine .v (ev_sadd rfl rfl rfl (by first | omega | (simp only [mkS_size, List.length_cons, List.length_nil]; omega))) rfl ?_
 refine .v (ev_as rfl rfl) rfl ?_
 refine .go idQ (.seq (.region ?_))
 refine .v (ev_mv rfl rfl) rfl ?_
 refine .v (ev_quon rfl rfl rfl (by omega) (by decide) (by first | exact wrap_small (by omega) (by omega) | exact wrap_in (by omega) (by omega))) rfl ?_
 refine .v (ev_as rfl rfl) rfl ?_
 refine .go idQ (.seq (.region ?_))
 refine .v (ev_mv rfl rfl) rfl ?_
 refine .v (ev_cmp rfl rfl rfl rfl) rfl ?_
 refine .go idQ ?_
 refine .condI rfl bE (fun h4 => ?_) (fun h4 => ?_)
 ·
  refine .seq (.region ?_)
  refine .v (ev_mv rfl rfl) rfl ?_
  refine .v (ev_as rfl rfl) rfl ?_
  refine .go idQ ?_
  exact .ret idQ (ret1 Try.results51 rfl .n ⟨(congrArg Value.string (num_done q_2 (by omega) (by omega) (by omega))), rfl⟩)
 exact .skip (SQ.roundb (X := Int × ByteArray) (x := (x, s)) ⟨(x / 10), ((mkS [(48 + (x % 10))]) ++ s)⟩ (by exact ⟨by omega, by omega, num_next q_2 (by omega) (by assumption), by rw [dig_size]; omega, .inr (by omega)⟩) (by dsimp only; omega) (Sub.get (.c rfl (.c rfl .n))) (fun w hw => hw.keep .n))
end Go.Proofs.Ythmkelkefmfmgaa.Sx
