import Derived.Test.YthmkelkefmfmgaaProg
import Derived.Test.YthmkelkefmfmgaaS1
set_option linter.unusedVariables false
set_option linter.unusedSimpArgs false
set_option linter.unusedSectionVars false
set_option linter.unusedVariables false
set_option linter.unusedSimpArgs false
set_option linter.unusedSectionVars false
namespace Go.SX
open Go
theorem seg_take {b : List Int} {i k : Int} (h0 : 0 ≤ i) (h1 : 0 ≤ k) : seg b i (i + k) = (b.drop i.toNat).take k.toNat := by
  unfold seg
  rw [show (i + k).toNat = i.toNat + k.toNat by omega, List.drop_take, Nat.add_sub_cancel_left]
theorem seg_rng {b : List Int} (hr : ∀ x ∈ b, isB x) (i j : Int) : ∀ x ∈ seg b i j, isB x := rng_drop (rng_take hr _) _
section
variable {b : List Int} (hr : ∀ x ∈ b, isB x)
include hr
theorem textL_ok (k : Nat) : ∀ (p : LS) (o : List Int), (textL b k p o).2.bad = 0 → 0 ≤ p.i → p.i ≤ (b.length : Int) → (p.bad = 0 → (b.length : Int) + 1 - p.i ≤ k) → (p.bad ≠ 0 → 1 ≤ k) → ∃ s2, (textL b k p o).1 = o ++ s2 ∧ p.i < (textL b k p o).2.i ∧ (textL b k p o).2.i ≤ (b.length : Int) ∧ (∀ x ∈ s2, isB x) ∧ ((∀ x ∈ s2, ¬ x < 32) → Fit (seg b p.i (textL b k p o).2.i) (quoF s2 ++ [34])) := by
  induction k with
  | zero => intro p o h h0 h1 h2 h3; exfalso; rw [textL] at h; have := h2 h; omega
  | succ k ih =>
    intro p o h h0 h1 h2 h3
    rw [textL] at h ⊢
    rcases here_ok2 hr p with ⟨g2, g3⟩ | ⟨⟨g2, g3⟩, g4, g5, g6⟩
    · rw [if_pos (by omega)] at h; exact absurd h g3
    · rw [if_neg (by omega)] at h ⊢
      by_cases c34 : hereF b p = 34
      · rw [if_pos c34] at h ⊢
        refine ⟨[], by simp, by show p.i < p.i + 1; omega, by show p.i + 1 ≤ _; omega, fun x hx => (by cases hx), fun _ => ?_⟩
        show Fit (seg b p.i (p.i + 1)) _
        rw [seg_one h0 g6, ← g3, c34, quo_nil]; exact Fit.refl _
      · rw [if_neg c34] at h ⊢
        by_cases c92 : hereF b p = 92
        · rw [if_pos c92] at h ⊢
          have hb : (escF b p).2.bad = 0 ∨ (escF b p).2.bad ≠ 0 := by omega
          rcases hb with hb | hb
          · obtain ⟨e1, e2, e3, e4⟩ := esc_ok hr p h0 g6 (by omega) hb
            obtain ⟨s2, f1, f2, f3, f4, f5⟩ := ih _ _ h (by omega) e3 (fun _ => by have := h2 g4; omega) (fun e => absurd hb e)
            refine ⟨putF (escF b p).1 ++ s2, by rw [f1, List.append_assoc], by omega, f3, fun x hx => ?_, fun hx => ?_⟩
            · rcases List.mem_append.1 hx with hx | hx
              · exact (putF_rune e1 []).2.2.1 x hx
              · exact f4 x hx
            · rw [quo_put e1, List.append_assoc, seg_cat (j := (escF b p).2.i) h0 (by omega) (by omega) f3]
              refine Fit.app (e4 ?_) (f5 fun x hx2 => hx x (List.mem_append_right _ hx2))
              intro hlt
              refine hx (escF b p).1 (List.mem_append_left _ ?_) hlt
              rw [putF_1 e1.1 (by omega)]; simp
          · exfalso
            cases k with
            | zero => rw [textL] at h; exact hb h
            | succ k =>
              rw [textL] at h
              rcases here_ok2 hr (escF b p).2 with ⟨z2, z3⟩ | ⟨_, z4, _⟩
              · rw [if_pos (by omega)] at h; exact z3 h
              · exact hb z4
        · rw [if_neg c92] at h ⊢
          dsimp only at h ⊢
          by_cases c32 : hereF b p < 32
          · rw [if_pos c32, if_pos (noF_ne hr (by decide))] at h
            exact absurd h (noF_ne hr (by decide))
          · rw [if_neg c32] at h ⊢
            by_cases hk : runeF (b.drop p.i.toNat) = 0
            · rw [if_pos hk, if_pos (noF_ne hr (by decide))] at h
              exact absurd h (noF_ne hr (by decide))
            · rw [if_neg hk, if_neg (by omega)] at h ⊢
              have hl : 0 < (b.drop p.i.toNat).length := by rw [List.length_drop]; omega
              have sp := rune_spec _ hl
              have hlen : ((b.drop p.i.toNat).length : Int) = (b.length : Int) - p.i := by rw [List.length_drop]; omega
              generalize hR : runeF (b.drop p.i.toNat) = R at h sp hk ⊢
              obtain ⟨s2, f1, f2, f3, f4, f5⟩ := ih (p.go R) _ h (by show 0 ≤ p.i + R; omega) (by show p.i + R ≤ _; omega) (fun _ => by have := h2 g4; show (b.length : Int) + 1 - (p.i + R) ≤ _; omega) (fun e => absurd g4 e)
              have f2' : p.i + R < (textL b k (p.go R) (o ++ (b.take (p.i + R).toNat).drop p.i.toNat)).2.i := f2
              have hs : (b.take (p.i + R).toNat).drop p.i.toNat = seg b p.i (p.i + R) := rfl
              refine ⟨seg b p.i (p.i + R) ++ s2, by rw [f1, List.append_assoc, hs], by omega, f3, fun x hx => ?_, fun hx => ?_⟩
              · rcases List.mem_append.1 hx with hx | hx
                · exact seg_rng hr _ _ x hx
                · exact f4 x hx
              · have hg0 : gt (b.drop p.i.toNat) 0 = gt b p.i := by rw [gt_drop (by decide)]; congr 1; omega
                have hq := quo_raw hl (by rw [hR]; exact hk) (by rw [hg0, ← g3]; exact c34) (by rw [hg0, ← g3]; exact c92) (by rw [hg0, ← g3]; exact c32) s2
                rw [hR] at hq
                rw [seg_take h0 (by omega), hq, List.append_assoc, seg_cat (j := p.i + R) h0 (by omega) (by omega) f3, seg_take h0 (by omega)]
                exact Fit.app (Fit.refl _) (f5 fun x hx2 => hx x (List.mem_append_right _ hx2))
theorem text_ok (p : LS) (h : (textS b p).bad = 0) (h0 : 0 ≤ p.i) (h1 : p.i < (b.length : Int)) (hc : gt b p.i = 34) : bs (mkS (textF b p)) = textF b p ∧ p.i < (textS b p).i ∧ (textS b p).i ≤ (b.length : Int) ∧ (ClnS (mkS (textF b p)) → Fit (seg b p.i (textS b p).i) (quoteF (mkS (textF b p)))) := by
  unfold textS at h ⊢
  obtain ⟨s2, f1, f2, f3, f4, f5⟩ := textL_ok hr (b.length + 4) (p.go 1) [] h (by show 0 ≤ p.i + 1; omega) (by show p.i + 1 ≤ _; omega) (fun _ => by show (b.length : Int) + 1 - (p.i + 1) ≤ _; omega) (fun _ => by omega)
  have f2' : p.i + 1 < (textL b (b.length + 4) (p.go 1) []).2.i := f2
  have e : textF b p = s2 := by unfold textF; rw [f1]; rfl
  rw [e]
  have hb := bs_mkS f4
  refine ⟨hb, by omega, f3, fun hcl => ?_⟩
  unfold ClnS at hcl
  rw [hb] at hcl
  unfold quoteF
  rw [hb, List.append_assoc, seg_cat (j := p.i + 1) h0 (by omega) (by omega) f3, seg_one h0 h1, hc]
  exact Fit.app (Fit.refl _) (f5 hcl)
omit hr in
theorem numC_le (l : List Int) : numC l ≤ l.length := by
  induction l with
  | nil => exact Nat.le_refl _
  | cons c l ih => rw [numC]; split <;> simp <;> omega
omit hr in
theorem decL_step {x c : Int} (h0 : 0 < x) (hc : 48 ≤ c ∧ c ≤ 57) : decL (10 * x + (c - 48)).toNat = decL x.toNat ++ [c] := by
  rw [dec_next (by omega) (by omega)]
  congr 2
  · congr 1; omega
  · omega
omit hr in
theorem decL_dec (l : List Int) : ∀ x : Int, 0 < x → (¬ ∃ c ∈ l, c < 48 ∨ c > 57) → decL (decV l x).toNat = decL x.toNat ++ l ∧ 0 < decV l x := by
  induction l with
  | nil => intro x h _; exact ⟨by simp [decV], h⟩
  | cons c l ih =>
    intro x h hd
    have hc : 48 ≤ c ∧ c ≤ 57 := by
      have : ¬ (c < 48 ∨ c > 57) := fun e => hd ⟨c, List.mem_cons_self .., e⟩
      omega
    obtain ⟨e1, e2⟩ := ih (10 * x + (c - 48)) (by omega) (fun ⟨y, hy, e⟩ => hd ⟨y, List.mem_cons_of_mem _ hy, e⟩)
    rw [decV]
    exact ⟨by rw [e1, decL_step h hc, List.append_assoc]; rfl, e2⟩
omit hr in
theorem decL_top {c : Int} {l : List Int} (h0 : c ≠ 48) (hd : ¬ ∃ x ∈ c :: l, x < 48 ∨ x > 57) : decL (decV (c :: l) 0).toNat = c :: l ∧ 0 < decV (c :: l) 0 := by
  have hc : 48 ≤ c ∧ c ≤ 57 := by
    have : ¬ (c < 48 ∨ c > 57) := fun e => hd ⟨c, List.mem_cons_self .., e⟩
    omega
  rw [decV]
  obtain ⟨e1, e2⟩ := decL_dec l (10 * 0 + (c - 48)) (by omega) (fun ⟨y, hy, e⟩ => hd ⟨y, List.mem_cons_of_mem _ hy, e⟩)
  refine ⟨?_, e2⟩
  rw [e1, decL, if_pos (by omega), show 48 + (((10 * 0 + (c - 48)).toNat : Nat) : Int) = c by omega]; rfl
omit hr in
theorem parse1_ok {l : List Int} (h : (parse1 l).2 = 0) : l = numL (parse1 l).1 := by
  unfold parse1 at h ⊢
  by_cases h1 : sgn l = (l.length : Int)
  · rw [if_pos h1] at h; cases h
  rw [if_neg h1] at h ⊢
  by_cases h2 : ∃ c ∈ l.drop (sgn l).toNat, c < 48 ∨ c > 57
  · rw [if_pos h2] at h; cases h
  rw [if_neg h2] at h ⊢
  by_cases h3 : gt l (sgn l) = 48 ∧ l ≠ [48]
  · rw [if_pos h3] at h; cases h
  rw [if_neg h3] at h ⊢
  by_cases h4 : (l.length : Int) - sgn l > 19
  · rw [if_pos h4] at h; cases h
  rw [if_neg h4] at h ⊢
  by_cases h5 : decV (l.drop (sgn l).toNat) 0 > 4611686018427387903
  · rw [if_pos h5] at h; cases h
  rw [if_neg h5] at h ⊢
  by_cases hs : (l.length : Int) > 0 ∧ gt l 0 = 45
  · rw [sgn_1 hs] at *
    rw [if_pos rfl]
    dsimp only
    obtain ⟨c, r, rfl⟩ : ∃ c r, l = c :: r := by cases l with
      | nil => simp at hs
      | cons c r => exact ⟨c, r, rfl⟩
    have hc : c = 45 := by have := hs.2; rwa [gt_cons0] at this
    subst hc
    cases r with
    | nil => simp at h1
    | cons d r =>
      have hg : gt (45 :: d :: r) 1 = d := rfl
      rw [hg] at h3
      have hd : d ≠ 48 := fun e => h3 ⟨e, by simp⟩
      have e0 : (45 :: d :: r).drop (1 : Int).toNat = d :: r := rfl
      rw [e0] at h2 ⊢
      obtain ⟨e1, e2⟩ := decL_top hd h2
      unfold numL
      rw [if_pos (by omega), Int.neg_neg, e1]
  · rw [sgn_0 hs] at *
    rw [if_neg (by decide)]
    dsimp only
    have e0 : l.drop (0 : Int).toNat = l := rfl
    rw [e0] at h2 ⊢
    cases l with
    | nil => simp at h1
    | cons d r =>
      rw [gt_cons0] at h3
      by_cases hd : d = 48
      · have : d :: r = [48] := Classical.not_not.1 fun e => h3 ⟨hd, e⟩
        rw [this]; decide +kernel
      · obtain ⟨e1, e2⟩ := decL_top hd h2
        unfold numL
        rw [if_neg (by omega), e1]
theorem number_ok (p : LS) (h : (numberS b p).bad = 0) (h0 : 0 ≤ p.i) (h1 : p.i ≤ (b.length : Int)) : p.i ≤ (numberS b p).i ∧ (numberS b p).i ≤ (b.length : Int) ∧ seg b p.i (numberS b p).i = numL (numberF b p) := by
  unfold numberS at h ⊢
  by_cases he : (parse1 (numSeg b p)).2 ≠ 0
  · rw [if_pos he] at h; exact absurd h (noF_ne hr (by decide))
  · rw [if_neg he] at h ⊢
    have h2 : (numEnd b p).i = p.i + (numC (b.drop p.i.toNat) : Int) := rfl
    have h3 := numC_le (b.drop p.i.toNat)
    rw [List.length_drop] at h3
    refine ⟨by omega, by omega, ?_⟩
    have h4 := parse1_ok (l := numSeg b p) (by omega)
    exact h4
omit hr in
theorem put_ok2 {p : LS} {t : List TN} {v : TN} {fr : Int} (h : (putV p t v fr).p.bad = 0) : p.bad = 0 ∧ putV p t v fr = ⟨t.length, p, t ++ [v]⟩ := by
  unfold putV at h ⊢
  by_cases hb : (putP p t fr).bad ≠ 0
  · rw [if_pos hb] at h; exact absurd h hb
  · rw [if_neg hb]
    unfold putP at hb ⊢
    by_cases hq : p.bad = 0 ∧ (t.length : Int) ≥ 8192
    · rw [if_pos hq] at hb
      unfold noF at hb
      rw [if_pos hq.1] at hb
      exact absurd (show (27 : Int) ≠ 0 by decide) hb
    · rw [if_neg hq] at hb ⊢
      exact ⟨by omega, rfl⟩
theorem name_ok (ns : List ByteArray) (p : LS) (h : (nameS b ns p).1.bad = 0) (h0 : 0 ≤ p.i) : p.bad = 0 ∧ ∃ s, (nameS b ns p).2 = ns ++ [s] ∧ p.i < (nameS b ns p).1.i ∧ (nameS b ns p).1.i ≤ (b.length : Int) ∧ (ClnS s → Fit (seg b p.i (nameS b ns p).1.i) (quoteF s ++ [58])) := by
  unfold nameS at h ⊢
  dsimp only at h ⊢
  by_cases h1 : (nameS1 b p).bad ≠ 0
  · rw [if_pos h1] at h; exact absurd h h1
  · rw [if_neg h1] at h ⊢
    have e1 : nameS1 b p = nextS b p ∧ nextF b p = 34 ∧ p.bad = 0 ∧ (nextS b p).i < (b.length : Int) ∧ p.i ≤ (nextS b p).i ∧ gt b (nextS b p).i = 34 := by
      unfold nameS1 at h1 ⊢
      by_cases hq : nextF b p ≥ 0 ∧ nextF b p ≠ 34
      · rw [if_pos hq] at h1; exact absurd (noF_ne hr (by decide)) h1
      · rw [if_neg hq] at h1 ⊢
        rcases next_ok2 hr p with ⟨_, g2⟩ | ⟨⟨g1, g2⟩, g3, g4, g5, g6⟩
        · exact absurd g2 h1
        · exact ⟨rfl, by omega, g3, g5, g6, by omega⟩
    obtain ⟨e1, e2, e3, e4, e5, e6⟩ := e1
    rw [e1] at h ⊢
    generalize hq : nextS b p = q at *
    generalize hr2 : (if (textS b q).bad = 0 ∧ hasN ns (mkS (textF b q)) = true then noF (textS b q) q.i 28 else textS b q) = r2 at *
    by_cases hn : nextF b r2 ≥ 0 ∧ nextF b r2 ≠ 58
    · rw [if_pos hn] at h; exact absurd h (noF_ne hr (by decide))
    · rw [if_neg hn] at h ⊢
      rcases next_ok2 hr r2 with ⟨_, g2⟩ | ⟨⟨g1, g2⟩, g3, g4, g5, g6⟩
      · exact absurd h g2
      · have hr3 : r2 = textS b q := by
          rw [← hr2] at g3 ⊢
          split at g3
          · exact absurd g3 (noF_ne hr (by decide))
          · rename_i hz; rw [if_neg hz]
        subst hr3
        obtain ⟨t1, t2, t3, t4⟩ := text_ok hr q g3 (by omega) e4 e6
        refine ⟨e3, mkS (textF b q), rfl, by show p.i < (nextS b (textS b q)).i + 1; omega, by show (nextS b (textS b q)).i + 1 ≤ _; omega, fun hcl => ?_⟩
        show Fit (seg b p.i ((nextS b (textS b q)).i + 1)) _
        rw [seg_cat (j := q.i) h0 (by omega) (by omega) (by omega), seg_cat (i := q.i) (j := (textS b q).i) (by omega) (by omega) (by omega) (by omega), seg_cat (i := (textS b q).i) (j := (nextS b (textS b q)).i) (by omega) (by omega) (by omega) (by omega), seg_one (by omega) g5]
        refine Fit.gap (Fit.app (t4 hcl) (Fit.gap ?_))
        rw [← g2, show nextF b (textS b q) = 58 by omega]; exact Fit.refl _
end
end Go.SX
set_option linter.unusedVariables false
set_option linter.unusedSimpArgs false
set_option linter.unusedSectionVars false
namespace Go.SX
open Go
structure Took (b : List Int) (p : LS) (t : List TN) (R : VR) (j : J) : Prop where
  t_eq : R.t = t ++ lay t.length j
  r_eq : R.r = (R.t.length : Int) - 1
  le : p.i ≤ R.p.i
  ge : R.p.i ≤ (b.length : Int)
  fit : Cln j → Fit (seg b p.i R.p.i) (txt j)
def VOK (b : List Int) (val : LS → List TN → VR) : Prop := ∀ (p : LS) (t : List TN), (val p t).p.bad = 0 → p.bad = 0 ∧ (0 ≤ p.i → ∃ j, Took b p t (val p t) j)
mutual
theorem txtL_f (ns ns2 : List ByteArray) : (l : JL) → txtL false ns l = txtL false ns2 l
  | .nil => by simp [txtL]
  | .cons j l => by
    rw [txtL, txtL, txtL_f ns.tail ns2.tail l]; rfl
end
section
variable {b : List Int} (hr : ∀ x ∈ b, isB x)
include hr
theorem many_ok {val : LS → List TN → VR} (hv : VOK b val) (ob : Bool) (fr : Int) (k : Nat) : ∀ (p : LS) (t : List TN) (ns : List ByteArray) (ks : List Int), (manyL b val ob fr k p t ns ks).p.bad = 0 → 0 ≤ p.i → ((b.length : Int) + 1 - p.i ≤ k) → p.i ≤ (b.length : Int) →
    p.bad = 0 ∧ ∃ (j : J) (l : JL) (ns2 : List ByteArray), (manyL b val ob fr k p t ns ks).t = t ++ (layL t.length (.cons j l)).1 ++ [⟨kindB ob, false, 0, ⟨#[]⟩, ns ++ ns2, ks ++ (layL t.length (.cons j l)).2⟩] ∧ (manyL b val ob fr k p t ns ks).r = ((manyL b val ob fr k p t ns ks).t.length : Int) - 1 ∧
      p.i ≤ (manyL b val ob fr k p t ns ks).p.i ∧ (manyL b val ob fr k p t ns ks).p.i ≤ (b.length : Int) ∧ ((∀ s ∈ ns2, ClnS s) → ClnL (.cons j l) → Fit (seg b p.i (manyL b val ob fr k p t ns ks).p.i) (txtL ob ns2 (.cons j l) ++ [endB ob])) := by
  induction k with
  | zero => intro p t ns ks h h0 h1 h2; exfalso; omega
  | succ k ih =>
    intro p t ns ks h h0 h1 hle
    rw [manyL] at h ⊢
    by_cases hp : p.bad ≠ 0
    · rw [if_pos hp] at h; exact absurd h hp
    rw [if_neg hp] at h ⊢
    refine ⟨by omega, ?_⟩
    have hq : ∃ (q : LS) (nn : List ByteArray), (if ob = true then (nameS b ns p).1 else p) = q ∧ (if ob = true then (nameS b ns p).2 else ns) = ns ++ nn ∧ (q.bad = 0 → p.i ≤ q.i ∧ ((∀ s ∈ nn, ClnS s) → Fit (seg b p.i q.i) (nmT ob nn)) ∧ (ob = true → ∃ s, nn = [s]) ∧ (ob = false → nn = [])) := by
      cases ob with
      | false => exact ⟨p, [], rfl, by simp, fun _ => ⟨by omega, fun _ => by rw [seg_self]; exact Fit.refl _, fun e => (by cases e), fun _ => rfl⟩⟩
      | true =>
        by_cases hb : (nameS b ns p).1.bad = 0
        · obtain ⟨_, s, e1, e2, e3, e4⟩ := name_ok hr ns p hb h0
          exact ⟨(nameS b ns p).1, [s], rfl, e1, fun _ => ⟨by omega, fun hcl => e4 (hcl s (by simp)), fun _ => ⟨s, rfl⟩, fun e => (by cases e)⟩⟩
        · by_cases hn : ∃ nn, (nameS b ns p).2 = ns ++ nn
          · obtain ⟨nn, hn⟩ := hn
            exact ⟨(nameS b ns p).1, nn, rfl, hn, fun e => absurd e hb⟩
          · exfalso
            apply hn
            unfold nameS
            dsimp only
            split
            · exact ⟨[], by simp⟩
            · exact ⟨_, rfl⟩
    obtain ⟨q, nn, hq1, hq2, hq3⟩ := hq
    rw [hq1, hq2] at h ⊢
    dsimp only at h ⊢
    have hs2 : ∀ c s, c = nextF b (val q t).p → s = nextS b (val q t).p → (if c ≥ 0 ∧ c ≠ 44 ∧ c ≠ endB ob then noF s s.i 22 else s).bad = 0 → (val q t).p.bad = 0 ∧ (c = 44 ∨ c = endB ob) ∧ s.bad = 0 ∧ (val q t).p.i ≤ s.i ∧ s.i < (b.length : Int) ∧ gt b s.i = c ∧ (if c ≥ 0 ∧ c ≠ 44 ∧ c ≠ endB ob then noF s s.i 22 else s) = s := by
      intro c s hc hs hz
      by_cases hcc : c ≥ 0 ∧ c ≠ 44 ∧ c ≠ endB ob
      · rw [if_pos hcc] at hz; exact absurd hz (noF_ne hr (by decide))
      · rw [if_neg hcc] at hz ⊢
        rcases next_ok2 hr (val q t).p with ⟨_, g2⟩ | ⟨⟨g1, g2⟩, g3, g4, g5, g6⟩
        · rw [hs] at hz; exact absurd hz g2
        · rw [hc, hs]
          rw [hc] at hcc
          exact ⟨g3, by omega, g4, g6, g5, g2.symm, rfl⟩
    generalize hc : nextF b (val q t).p = c at h ⊢
    generalize hs : nextS b (val q t).p = s at h ⊢
    have hs2 := hs2 c s hc.symm hs.symm
    generalize hz : (if c ≥ 0 ∧ c ≠ 44 ∧ c ≠ endB ob then noF s s.i 22 else s) = s2 at h hs2 ⊢
    by_cases hce : c = endB ob
    · rw [if_pos hce] at h ⊢
      obtain ⟨g1, g2⟩ := put_ok2 h
      have hsb : s2.bad = 0 := g1
      obtain ⟨h3, h4, h5, h6, h7, h8, h9⟩ := hs2 hsb
      obtain ⟨hqb, hj⟩ := hv q t h3
      obtain ⟨m1, m2, m3, m4⟩ := hq3 hqb
      obtain ⟨j, tk⟩ := hj (by omega)
      have hR : putV (s2.go 1) (val q t).t ⟨kindB ob, false, 0, ⟨#[]⟩, ns ++ nn, ks ++ [(val q t).r]⟩ fr = ⟨(val q t).t.length, s2.go 1, (val q t).t ++ [⟨kindB ob, false, 0, ⟨#[]⟩, ns ++ nn, ks ++ [(val q t).r]⟩]⟩ := g2
      rw [hR]
      have hle := tk.le; have hge := tk.ge
      have hl : (lay t.length j).length + t.length = (val q t).t.length := by rw [tk.t_eq, List.length_append]; omega
      refine ⟨j, .nil, nn, ?_, by simp, ?_, ?_, fun hcl hcj => ?_⟩
      · show (val q t).t ++ _ = _
        rw [layL, layL, tk.r_eq, tk.t_eq]
        simp only [List.append_nil, List.length_append]
        congr 4
      · show p.i ≤ s2.i + 1
        rw [h9]; omega
      · show s2.i + 1 ≤ _
        rw [h9]; omega
      · show Fit (seg b p.i (s2.i + 1)) _
        rw [h9]
        have hcj' : Cln j := hcj.1
        rw [txtL, sepT, List.append_nil, seg_cat (j := q.i) h0 (by omega) (by omega) (by omega), seg_cat (i := q.i) (j := (val q t).p.i) (by omega) (by omega) (by omega) (by omega), seg_cat (i := (val q t).p.i) (j := s.i) (by omega) (by omega) (by omega) (by omega), seg_one (by omega) h7, h8, hce]
        rw [List.append_assoc]
        exact Fit.app (m2 hcl) (Fit.app (tk.fit hcj') (Fit.gap (Fit.refl _)))
    · rw [if_neg hce] at h ⊢
      have hsz : (s2.go 1).bad = 0 := by
        by_cases e : (s2.go 1).bad = 0
        · exact e
        · exfalso
          cases k with
          | zero => rw [manyL] at h; exact e h
          | succ k => rw [manyL, if_pos e] at h; exact e h
      have hsb : s2.bad = 0 := hsz
      obtain ⟨h3, h4, h5, h6, h7, h8, h9⟩ := hs2 hsb
      obtain ⟨hqb, hj⟩ := hv q t h3
      obtain ⟨m1, m2, m3, m4⟩ := hq3 hqb
      obtain ⟨j, tk⟩ := hj (by omega)
      have hle := tk.le; have hge := tk.ge
      have hl : (lay t.length j).length + t.length = (val q t).t.length := by rw [tk.t_eq, List.length_append]; omega
      have hgo : (s2.go 1).i = s.i + 1 := by rw [h9]; rfl
      obtain ⟨_, j2, l2, ns2, r1, r2, r3, r4, r5⟩ := ih (s2.go 1) (val q t).t (ns ++ nn) (ks ++ [(val q t).r]) h (by omega) (by omega) (by omega)
      refine ⟨j, .cons j2 l2, nn ++ ns2, ?_, r2, by omega, r4, fun hcl hcj => ?_⟩
      · rw [r1]
        have e1 : ((val q t).t.length : Int) = (t.length : Int) + (lay (t.length : Int) j).length := by omega
        rw [tk.r_eq, e1]
        conv => rhs; rw [layL]
        dsimp only
        rw [tk.t_eq]
        simp only [List.append_assoc, List.cons_append, List.nil_append]
      · have hcj' : Cln j := hcj.1
        have hn2 : ∀ s ∈ ns2, ClnS s := fun s hs => hcl s (List.mem_append_right _ hs)
        have h5' := r5 hn2 hcj.2
        have etl : nmT ob (nn ++ ns2) = nmT ob nn ∧ (ob = true → (nn ++ ns2).tail = ns2) := by
          cases ob with
          | false => exact ⟨rfl, fun e => by cases e⟩
          | true =>
            obtain ⟨s, rfl⟩ := m3 rfl
            exact ⟨rfl, fun _ => rfl⟩
        have etx : txtL ob (nn ++ ns2).tail (.cons j2 l2) = txtL ob ns2 (.cons j2 l2) := by
          cases ob with
          | true => rw [etl.2 rfl]
          | false => exact txtL_f _ _ _
        rw [txtL, etl.1, etx, sepT]
        generalize hRR : manyL b val ob fr k (s2.go 1) (val q t).t (ns ++ nn) (ks ++ [(val q t).r]) = R at *
        rw [seg_cat (j := q.i) h0 (by omega) (by omega) (by omega), seg_cat (i := q.i) (j := (val q t).p.i) (by omega) (by omega) (by omega) (by omega), seg_cat (i := (val q t).p.i) (j := s.i) (by omega) (by omega) (by omega) (by omega), seg_cat (i := s.i) (j := s.i + 1) (by omega) (by omega) (by omega) (by omega), seg_one (by omega) h7, h8, show c = 44 by omega]
        rw [hgo] at h5'
        rw [List.append_assoc, List.append_assoc]
        refine Fit.app (m2 fun s hs => hcl s (List.mem_append_left _ hs)) (Fit.app (tk.fit hcj') (Fit.gap ?_))
        exact Fit.app (s := [44]) (x := [44]) (Fit.refl _) h5'
theorem value_step (d : Nat) (ih : d ≠ 0 → VOK b (valueF b d)) : VOK b (valueF b (d + 1)) := by
    intro p t h
    rw [valueF] at h ⊢
    have hn := next_ok2 hr p
    generalize hc : nextF b p = c at h hn ⊢
    generalize hs : nextS b p = s at h hn ⊢
    rcases hn with ⟨g1, g2⟩ | ⟨⟨g1, g2⟩, g3, g4, g5, g6⟩
    · rw [if_pos (by omega)] at h; exact absurd h g2
    rw [if_neg (by omega)] at h ⊢
    refine ⟨g3, fun h0 => ?_⟩
    have leaf : ∀ (q : LS) (v : TN) (j : J), (putV q t v s.i).p.bad = 0 → lay t.length j = [v] → s.i ≤ q.i → q.i ≤ (b.length : Int) → (Cln j → Fit (seg b s.i q.i) (txt j)) → ∃ j, Took b p t (putV q t v s.i) j := by
      intro q v j hb hj h1 h2 hf
      obtain ⟨e1, e2⟩ := put_ok2 hb
      rw [e2]
      refine ⟨j, ⟨by rw [hj], by simp, by show p.i ≤ q.i; omega, h2, fun hcl => ?_⟩⟩
      show Fit (seg b p.i q.i) _
      rw [seg_cat (j := s.i) h0 (by omega) (by omega) (by omega)]
      exact Fit.gap (hf hcl)
    have word : ∀ (w : List Int) (v : TN) (j : J), (putV (wordF b w s) t v s.i).p.bad = 0 → lay t.length j = [v] → txt j = w → ∃ j, Took b p t (putV (wordF b w s) t v s.i) j := by
      intro w v j hb hj hw
      obtain ⟨e1, _⟩ := put_ok2 hb
      obtain ⟨f1, f2, f3, _⟩ := word_ok hr w s e1 (by omega) (by omega)
      exact leaf _ v j hb hj (by omega) (by omega) (fun _ => by rw [f1, f3, hw]; exact Fit.refl _)
    by_cases c1 : c = 110
    · rw [if_pos c1] at h ⊢; exact word _ _ .nul h (by simp [lay]) (by simp [txt])
    rw [if_neg c1] at h ⊢
    by_cases c2 : c = 116
    · rw [if_pos c2] at h ⊢; exact word _ _ (.boo true) h (by simp [lay]) (by simp [txt])
    rw [if_neg c2] at h ⊢
    by_cases c3 : c = 102
    · rw [if_pos c3] at h ⊢; exact word _ _ (.boo false) h (by simp [lay]) (by simp [txt])
    rw [if_neg c3] at h ⊢
    by_cases c4 : c = 34
    · rw [if_pos c4] at h ⊢
      obtain ⟨e1, _⟩ := put_ok2 h
      obtain ⟨f1, f2, f3, f4⟩ := text_ok hr s e1 (by omega) g5 (by omega)
      exact leaf _ _ (.str (mkS (textF b s))) h (by simp [lay]) (by omega) f3 (fun hcl => by rw [txt]; exact f4 (by rwa [Cln] at hcl))
    rw [if_neg c4] at h ⊢
    by_cases c5 : c = 45 ∨ (c ≥ 48 ∧ c ≤ 57)
    · rw [if_pos c5] at h ⊢
      obtain ⟨e1, _⟩ := put_ok2 h
      obtain ⟨f1, f2, f3⟩ := number_ok hr s e1 (by omega) (by omega)
      exact leaf _ _ (.num (numberF b s)) h (by simp [lay]) f1 f2 (fun _ => by rw [f3, txt]; exact Fit.refl _)
    rw [if_neg c5] at h ⊢
    by_cases c6 : c = 91 ∨ c = 123
    · rw [if_pos c6] at h ⊢
      by_cases hd : d = 0
      · rw [if_pos hd] at h; exact absurd h (noF_ne hr (by decide))
      rw [if_neg hd] at h ⊢
      have hop : opnB (decide (c = 123)) = c := by
        unfold opnB
        by_cases e : c = 123
        · rw [if_pos (by simp [e])]; omega
        · rw [if_neg (by simp [e])]; omega
      generalize hob : decide (c = 123) = ob at h hop ⊢
      unfold manyF at h ⊢
      by_cases he : nextF b (s.go 1) = endB ob
      · rw [if_pos he] at h ⊢
        obtain ⟨e1, e2⟩ := put_ok2 h
        rcases next_ok2 hr (s.go 1) with ⟨k1, k2⟩ | ⟨⟨k1, k2⟩, k3, k4, k5, k6⟩
        · exact absurd e1 k2
        have k6' : s.i + 1 ≤ (nextS b (s.go 1)).i := k6
        rw [e2]
        refine ⟨.box ob [] .nil, ⟨by simp [lay, layL], by simp, by show p.i ≤ (nextS b (s.go 1)).i + 1; omega, by show (nextS b (s.go 1)).i + 1 ≤ _; omega, fun _ => ?_⟩⟩
        show Fit (seg b p.i ((nextS b (s.go 1)).i + 1)) _
        rw [txt, txtL, seg_cat (j := s.i) h0 (by omega) (by omega) (by omega), seg_cat (i := s.i) (j := s.i + 1) (by omega) (by omega) (by omega) (by omega), seg_cat (i := s.i + 1) (j := (nextS b (s.go 1)).i) (by omega) (by omega) (by omega) (by omega), seg_one (by omega) g5, seg_one (by omega) k5, ← g2, ← k2, he, hop]
        exact Fit.gap (Fit.app (s := [c]) (x := [c] ++ []) (Fit.refl _) (Fit.gap (Fit.refl _)))
      · rw [if_neg he] at h ⊢
        have hb1 : (nextS b (s.go 1)).bad = 0 := by
          by_cases e : (nextS b (s.go 1)).bad = 0
          · exact e
          · exfalso; rw [manyL, if_pos e] at h; exact e h
        rcases next_ok2 hr (s.go 1) with ⟨k1, k2⟩ | ⟨⟨k1, k2⟩, k3, k4, k5, k6⟩
        · exact absurd hb1 k2
        have k6' : s.i + 1 ≤ (nextS b (s.go 1)).i := k6
        obtain ⟨_, j, l, ns2, r1, r2, r3, r4, r5⟩ := many_ok hr (ih hd) ob s.i (b.length + 2) (nextS b (s.go 1)) t [] [] h (by omega) (by omega) (by omega)
        generalize manyL b (valueF b d) ob s.i (b.length + 2) (nextS b (s.go 1)) t [] [] = R at *
        refine ⟨.box ob ns2 (.cons j l), ⟨by rw [r1, lay]; simp, r2, by omega, r4, fun hcl => ?_⟩⟩
        rw [Cln] at hcl
        have h5 := r5 hcl.1 hcl.2
        rw [txt, seg_cat (j := s.i) h0 (by omega) (by omega) (by omega), seg_cat (i := s.i) (j := s.i + 1) (by omega) (by omega) (by omega) (by omega), seg_cat (i := s.i + 1) (j := (nextS b (s.go 1)).i) (by omega) (by omega) (by omega) (by omega), seg_one (by omega) g5, ← g2, hop, List.append_assoc]
        exact Fit.gap (Fit.app (Fit.refl _) (Fit.gap h5))
    · rw [if_neg c6] at h; exact absurd h (noF_ne hr (by decide))
theorem value_ok (d : Nat) : VOK b (valueF b (d + 1)) := by
  induction d with
  | zero => exact value_step hr 0 (fun h => absurd rfl h)
  | succ d ih => exact value_step hr (d + 1) (fun _ => ih)
theorem parse_sound (h : parseE b = 0) : ∃ j, parseT b = lay 0 j ∧ (Cln j → Fit b (txt j)) := by
  have h1 : ¬ (b.length : Int) > 65536 := fun e => by unfold parseE at h; rw [if_pos e] at h; cases h
  have h2 : (parseP b).bad = 0 := by unfold parseE at h; rw [if_neg h1] at h; exact h
  have hT : parseT b = (valueF b 17 ⟨0, 0, 0⟩ []).t := by unfold parseT; rw [if_neg (by omega)]
  rw [hT]
  unfold parseP at h2
  have hv := value_ok hr 16 ⟨0, 0, 0⟩ []
  have hg : (gapF b (valueF b 17 ⟨0, 0, 0⟩ []).p).i = (valueF b 17 ⟨0, 0, 0⟩ []).p.i + (gapN (b.drop (valueF b 17 ⟨0, 0, 0⟩ []).p.i.toNat) : Int) := rfl
  have hgb : (gapF b (valueF b 17 ⟨0, 0, 0⟩ []).p).bad = (valueF b 17 ⟨0, 0, 0⟩ []).p.bad := rfl
  have e17 : valueF b 17 = valueF b (16 + 1) := rfl
  rw [e17] at *
  generalize valueF b (16 + 1) ⟨0, 0, 0⟩ [] = R at *
  generalize gapF b R.p = q at *
  by_cases hq : q.bad = 0 ∧ q.i < (b.length : Int)
  · rw [if_pos hq] at h2; exact absurd h2 (noF_ne hr (by decide))
  · rw [if_neg hq] at h2
    obtain ⟨_, hj⟩ := hv (by rw [← hgb]; exact h2)
    obtain ⟨j, tk⟩ := hj (by decide)
    refine ⟨j, by rw [tk.t_eq]; rfl, fun hcl => ?_⟩
    have hf := tk.fit hcl
    have hge := tk.ge
    have h0 : (0 : Int) ≤ R.p.i := tk.le
    have e : b = seg b 0 R.p.i ++ seg b R.p.i (b.length : Int) := by
      rw [← seg_cat (by decide) h0 hge (by omega)]
      unfold seg; simp
    rw [e]
    have := hf.app (t := seg b R.p.i (b.length : Int)) (y := []) ⟨by simp, fun e => by simp at e; exact (List.length_eq_zero_iff.1 (by omega))⟩
    rw [List.append_nil] at this
    rw [← e]
    rw [← e] at this
    exact this
theorem parse_kw {L : List TV} (h : vs L = parseT b) (hl : L.length ≤ 8192) : KW L := by
  by_cases he : parseE b = 0
  · obtain ⟨j, hj, _⟩ := parse_sound hr he
    exact kw_of (h.trans hj) hl
  · have : parseT b = [] := by
      unfold parseE at he
      unfold parseT
      rw [if_pos]
      by_cases h1 : (b.length : Int) > 65536
      · exact .inl h1
      · rw [if_neg h1] at he; exact .inr he
    rw [this] at h
    have : L = [] := by
      have := congrArg List.length h
      rw [vs_len] at this
      exact List.length_eq_zero_iff.1 this
    rw [this]; exact kw_nil
end
end Go.SX
set_option maxRecDepth 20000
set_option maxHeartbeats 4000000
set_option linter.unusedVariables false
set_option linter.unusedSimpArgs false
namespace Go.Proofs.Ythmkelkefmfmgaa.Sx.FA
open Go Go.SX Go.Proofs
theorem ty5 : ty Try.prog 5 = some (false, 1) := by kernel_rfl
theorem hbd46 : hasBody Try.prog 46 = true := by kernel_rfl
theorem ai5 : (Try.prog.info? 5).map (fun i => (i.zero, i.size, i.bytes)) = some (some (.int .u8 0), 1, 1) := by kernel_rfl
theorem mo : Try.prog.follows .mixedOrders = true := by kernel_rfl
theorem hbd51 : hasBody Try.prog 51 = true := by kernel_rfl
end Go.Proofs.Ythmkelkefmfmgaa.Sx.FA
namespace Go.Proofs.Ythmkelkefmfmgaa.Sx
open Go Go.SX Go.Proofs FA
theorem fits1 (a : Int) (S : Nat → Prop) (wf : World) :
  TR0 Try.prog 47 [.int .i64 a] [] S wf (fun v_ C_ => v_ = .bool (decide (a ≥ (-4611686018427387903)) && decide (a ≤ 4611686018427387903)) ∧ C_ = []) := by
 refine TR.mk Try.func47 rfl Try.ntmps47 rfl rfl (fun w_ => ?_)
 refine .seq ?_
 refine .region ?_
 refine .ev (ev_as rfl rfl) rfl rfl rfl ?_
 refine .go (fun _ _ h => h) ?_
 refine .seq ?_
 refine .region ?_
 refine .ev (ev_mv rfl rfl) rfl rfl rfl ?_
 refine .ev (ev_cmp rfl rfl rfl rfl) rfl rfl rfl ?_
 refine .ev (ev_mv rfl rfl) rfl rfl rfl ?_
 refine .cons (Ev.gstep (fun _ => ev_mv rfl rfl) rfl rfl rfl rfl rfl ?_)
 refine .cons (Ev.gstep (fun hb => ev_cmp rfl (lkg rfl hb) rfl rfl) rfl rfl rfl rfl rfl ?_)
 refine .ev (ev_and rfl rfl rfl rfl) rfl rfl rfl ?_
 refine .ev (ev_as rfl rfl) rfl rfl rfl ?_
 refine .go (fun _ _ h => h) ?_
 exact .ret (fun _ _ h => h) (ret1 Try.results47 rfl .n ⟨rfl, rfl⟩)
theorem rune (A : Option Addr) (n : Nat) (c : Nat) (l : List Int) (S : Nat → Prop) (wf : World) (hA : Fr eY S wf A l) (hn : l.length = n) (hr : ∀ x ∈ l, isB x) (h0 : 0 < n) :
  TR0 Try.prog 46 [.slice A n c] [] S wf (fun v_ C_ => v_ = .int .i64 (runeF l) ∧ C_ = []) := by
 have hla := hA.len
 have hg0 := gt_range hr 0
 unfold isB at hg0
 refine TR.mk Try.func46 rfl Try.ntmps46 rfl rfl (fun w_ => ?_)
 refine .seq ?_
 refine .region ?_
 refine .ev (ev_as rfl rfl) rfl rfl rfl ?_
 refine .go (fun _ _ h => h) ?_
 refine .seq ?_
 refine .region ?_
 refine .ev (ev_as rfl rfl) rfl rfl rfl ?_
 refine .ev (ev_as rfl rfl) rfl rfl rfl ?_
 refine .go (fun _ _ h => h) ?_
 refine .seq ?_
 refine .region ?_
 refine .ev (ev_mv rfl rfl) rfl rfl rfl ?_
 refine .ev (ev_ix rfl Try.underlying36 ty5 rfl rfl (by omega) (by omega) (fun _ _ => Fr.adr (i := 0) hA (by omega) (by omega))) rfl rfl rfl ?_
 refine .ev (ev_ld1 rfl ty5 rfl (At.elem1 (At.w (Fr.el (i := 0) hA (by omega) (by omega))) 0 rfl)) rfl rfl rfl ?_
 refine .ev (ev_cv rfl Try.underlying5 Try.underlying3 rfl (wrap_b_i64 (gt_range hr _))) rfl rfl rfl ?_
 refine .ev (ev_as rfl rfl) rfl rfl rfl ?_
 refine .go (fun _ _ h => h) ?_
 refine .seq ?_
 refine .region ?_
 refine .ev (ev_as rfl rfl) rfl rfl rfl ?_
 refine .go (fun _ _ h => h) ?_
 refine .seq ?_
 refine .block ?_
 refine .seq ?_
 refine .region ?_
 refine .ev (ev_mv rfl rfl) rfl rfl rfl ?_
 refine .ev (ev_cmp rfl rfl rfl rfl) rfl rfl rfl ?_
 refine .ev (ev_as rfl rfl) rfl rfl rfl ?_
 refine .go (fun _ _ h => h) ?_
 refine .condI rfl bD (fun h1 => ?_) (fun h1 => ?_)
 ·
  refine .seq ?_
  refine .region ?_
  refine .ev (ev_as rfl rfl) rfl rfl rfl ?_
  refine .go (fun _ _ h => h) ?_
  exact .ret (fun _ _ h => h) (ret1 Try.results46 rfl .n ⟨(congrArg (Value.int .i64) (rsel1 (by assumption))), rfl⟩)
 ·
  refine .seq ?_
  refine .region ?_
  refine .ev (ev_mv rfl rfl) rfl rfl rfl ?_
  refine .ev (ev_cmp rfl rfl rfl rfl) rfl rfl rfl ?_
  refine .ev (ev_mv rfl rfl) rfl rfl rfl ?_
  refine .cons (Ev.gstep (fun _ => ev_mv rfl rfl) rfl rfl rfl rfl rfl ?_)
  refine .cons (Ev.gstep (fun hb => ev_cmp rfl (lkg rfl hb) rfl rfl) rfl rfl rfl rfl rfl ?_)
  refine .ev (ev_and rfl rfl rfl rfl) rfl rfl rfl ?_
  refine .ev (ev_as rfl rfl) rfl rfl rfl ?_
  refine .go (fun _ _ h => h) ?_
  refine .condI rfl (bA bD bD) (fun h2 => ?_) (fun h2 => ?_)
  ·
   refine .region ?_
   refine .ev (ev_mv rfl rfl) rfl rfl rfl ?_
   refine .ev (ev_band rfl rfl rfl) rfl rfl rfl ?_
   refine .ev (ev_as rfl rfl) rfl rfl rfl ?_
   refine .ev (ev_as rfl rfl) rfl rfl rfl ?_
   refine .ev (ev_as rfl rfl) rfl rfl rfl ?_
   refine .go (fun _ _ h => h) ?_
   refine .seq ?_
   refine .seq ?_
   refine .region ?_
   refine .ev (ev_mv rfl rfl) rfl rfl rfl ?_
   refine .ev (ev_cmp (r := false) rfl rfl rfl rfl) rfl rfl rfl ?_
   refine .ev (ev_mv rfl rfl) rfl rfl rfl ?_
   refine .cons (.on rfl rfl rfl (Ev.step (ev_mv rfl rfl) rfl rfl rfl ?_))
   refine .cons (.on rfl rfl rfl (Ev.step (ev_len rfl Try.underlying36 rfl) rfl rfl rfl ?_))
   refine .cons (.on rfl rfl rfl (Ev.step (ev_mv rfl rfl) rfl rfl rfl ?_))
   refine .cons (.on rfl rfl rfl (Ev.step (ev_cmp rfl rfl rfl rfl) rfl rfl rfl ?_))
   refine .ev (ev_pickf rfl rfl rfl rfl) rfl rfl rfl ?_
   refine .go (fun _ _ h => h) ?_
   refine .condI rfl bD (fun h3 => ?_) (fun h3 => ?_)
   ·
    refine .seq ?_
    refine .region ?_
    refine .ev (ev_as rfl rfl) rfl rfl rfl ?_
    refine .go (fun _ _ h => h) ?_
    exact .ret (fun _ _ h => h) (ret1 Try.results46 rfl .n ⟨(congrArg (Value.int .i64) (rn_short (rsel2 (l := l) (by assumption) (by assumption)) (by omega))), rfl⟩)
   ·
    refine .skipgo (fun _ _ h => h) ?_
    refine .seq ?_
    refine .seq ?_
    refine .region ?_
    refine .ev (ev_as rfl rfl) rfl rfl rfl ?_
    refine .go (fun _ _ h => h) ?_
    refine .block ?_
    refine .loop (X := Int × Int) (fun ⟨i, x⟩ => 1 ≤ i ∧ i ≤ 2 ∧ runeGo ((l.take (2 : Int).toNat).drop i.toNat) x = runeGo ((l.take (2 : Int).toNat).drop 1) (bnd .i64 (gt l 0) 31)) (fun ⟨i, x⟩ => [(0, .slice A n c), (3, .int .i64 2), (4, .int .i64 128), (6, .int .i64 x), (7, .int .i64 i)]) (fun ⟨i, x⟩ => []) (fun _ => S) (fun _ => wf) (fun ⟨i, x⟩ => (2 - i).toNat) (fun a_ w_ hs_ hw_ => ⟨⟨1, (bnd .i64 (gt l 0) 31)⟩, (by exact ⟨by omega, by omega, rfl⟩), hs_.mono (Sub.get (.c rfl (.c rfl (.c rfl (.c rfl (.c rfl .n)))))), hw_.keep .n⟩) (fun ⟨i, x⟩ ⟨q_0, q_1, q_2⟩ => ?_)
    show SC _ _ _ _ _ ⟨[(0, .slice A n c), (3, .int .i64 2), (4, .int .i64 128), (6, .int .i64 x), (7, .int .i64 i)], [], S, wf⟩
    refine .seq ?_
    refine .seq ?_
    refine .region ?_
    refine .ev (ev_mv rfl rfl) rfl rfl rfl ?_
    refine .ev (ev_mv rfl rfl) rfl rfl rfl ?_
    refine .ev (ev_cmp rfl rfl rfl rfl) rfl rfl rfl ?_
    refine .go (fun _ _ h => h) ?_
    refine .condI rfl bD (fun h4 => ?_) (fun h4 => ?_)
    ·
     refine .skipgo (fun _ _ h => h) ?_
     refine .seq ?_
     refine .block ?_
     refine .seq ?_
     refine .seq ?_
     refine .region ?_
     refine .ev (ev_mv rfl rfl) rfl rfl rfl ?_
     refine .ev (ev_mv rfl rfl) rfl rfl rfl ?_
     refine .ev (ev_ix rfl Try.underlying36 ty5 rfl rfl (by omega) (by omega) (fun _ _ => Fr.adr (i := i) hA (by omega) (by omega))) rfl rfl rfl ?_
     refine .ev (ev_ld1 rfl ty5 rfl (At.elem1 (At.w (Fr.el (i := i) hA (by omega) (by omega))) 0 rfl)) rfl rfl rfl ?_
     refine .ev (ev_shr (r := (Int.fdiv (gt l i) 64)) rfl rfl rfl (by decide) rfl) rfl rfl rfl ?_
     refine .ev (ev_cmp rfl rfl rfl rfl) rfl rfl rfl ?_
     refine .go (fun _ _ h => h) ?_
     refine .condI rfl bNE (fun h5 => ?_) (fun h5 => ?_)
     ·
      refine .seq ?_
      refine .region ?_
      refine .ev (ev_as rfl rfl) rfl rfl rfl ?_
      refine .go (fun _ _ h => h) ?_
      exact .ret (fun _ _ h => h) (ret1 Try.results46 rfl .n ⟨(congrArg (Value.int .i64) (rn_bad (rsel2 (l := l) (by assumption) (by assumption)) q_0 (by omega) (by omega) q_2 (by omega))), rfl⟩)
     ·
      refine .skipgo (fun _ _ h => h) ?_
      refine .region ?_
      refine .ev (ev_mv rfl rfl) rfl rfl rfl ?_
      refine .ev (ev_shl (r := (IntKind.i64.wrap (x * 64))) rfl rfl rfl (by decide) rfl) rfl rfl rfl ?_
      refine .ev (ev_mv rfl rfl) rfl rfl rfl ?_
      refine .ev (ev_mv rfl rfl) rfl rfl rfl ?_
      refine .ev (ev_ix rfl Try.underlying36 ty5 rfl rfl (by omega) (by omega) (fun _ _ => Fr.adr (i := i) hA (by omega) (by omega))) rfl rfl rfl ?_
      refine .ev (ev_ld1 rfl ty5 rfl (At.elem1 (At.w (Fr.el (i := i) hA (by omega) (by omega))) 0 rfl)) rfl rfl rfl ?_
      refine .ev (ev_band rfl rfl rfl) rfl rfl rfl ?_
      refine .ev (ev_cv rfl Try.underlying5 Try.underlying3 rfl rfl) rfl rfl rfl ?_
      refine .ev (ev_bor rfl rfl rfl) rfl rfl rfl ?_
      refine .ev (ev_as rfl rfl) rfl rfl rfl ?_
      refine .go (fun _ _ h => h) ?_
      refine .region ?_
      refine .ev (ev_mv rfl rfl) rfl rfl rfl ?_
      refine .ev (ev_add rfl rfl rfl (r := (i + 1)) rfl (by omega) (by omega)) rfl rfl rfl ?_
      refine .ev (ev_as rfl rfl) rfl rfl rfl ?_
      exact SP.nil (SQ.roundb (X := Int × Int) (x := (i, x)) ⟨(i + 1), (bor .i64 (IntKind.i64.wrap (x * 64)) (IntKind.i64.wrap (bnd .u8 (gt l i) 63)))⟩ (by exact ⟨by omega, by omega, (rn_step q_0 (by omega) (by omega) (by omega)).symm.trans q_2⟩) (by dsimp only; omega) (Sub.get (.c rfl (.c rfl (.c rfl (.c rfl (.c rfl .n)))))) (fun w hw => hw.keep .n))
    ·
     refine .exit (fun _ _ h => h) ?_
     refine .seq ?_
     refine .seq ?_
     refine .region ?_
     refine .ev (ev_mv rfl rfl) rfl rfl rfl ?_
     refine .ev (ev_mv rfl rfl) rfl rfl rfl ?_
     refine .ev (ev_cmp rfl rfl rfl rfl) rfl rfl rfl ?_
     refine .ev (ev_mv rfl rfl) rfl rfl rfl ?_
     refine .cons (Ev.gstep (fun _ => ev_mv rfl rfl) rfl rfl rfl rfl rfl ?_)
     refine .cons (Ev.gstep (fun hb => ev_cmp rfl (lkg rfl hb) rfl rfl) rfl rfl rfl rfl rfl ?_)
     refine .ev (ev_or rfl rfl rfl rfl) rfl rfl rfl ?_
     refine .ev (ev_mv rfl rfl) rfl rfl rfl ?_
     refine .cons (Ev.gstep (fun _ => ev_mv rfl rfl) rfl rfl rfl rfl rfl ?_)
     refine .cons (Ev.gstep (fun hb => ev_cmp rfl (lkg rfl hb) rfl rfl) rfl rfl rfl rfl rfl ?_)
     refine .cons (Ev.gstep (fun hb => ev_mv rfl (lkg rfl hb)) rfl rfl rfl rfl rfl ?_)
     rcases Bool.eq_false_or_eq_true ((decide (x < 128)) || (decide (x > 1114111))) with hb6 | hb6
     ·
      have hb6_ := bT (bO bD bD) hb6
      refine SP.reslotv (t := 80) rfl (gv_off hb6) ?_
      refine .cons (.offu rfl rfl rfl rfl rfl ?_)
      refine .cons (.offu rfl rfl rfl rfl rfl ?_)
      refine SP.reslot (t := 77) rfl hb6 ?_
      refine .cons (.off rfl rfl rfl rfl rfl rfl ?_)
      refine .ev (ev_pickt rfl rfl rfl rfl) rfl rfl rfl ?_
      refine .go (fun _ _ h => h) ?_
      refine .cond_t rfl ?_
      refine .seq ?_
      refine .region ?_
      refine .ev (ev_as rfl rfl) rfl rfl rfl ?_
      refine .go (fun _ _ h => h) ?_
      exact .ret (fun _ _ h => h) (ret1 Try.results46 rfl .n ⟨(congrArg (Value.int .i64) (rn_no (rsel2 (l := l) (by assumption) (by assumption)) q_0 (by omega) (by omega) q_2 (by unfold runeBad; omega))), rfl⟩)
     ·
      have hb6_ := bF (bO bD bD) hb6
      refine SP.reslotv (t := 80) rfl (gv_on hb6) ?_
      refine .cons (Ev.gstep (fun _ => ev_mv rfl rfl) rfl rfl rfl rfl rfl ?_)
      refine .cons (Ev.gstep (fun hb => ev_cmp rfl (lkg rfl hb) rfl rfl) rfl rfl rfl rfl rfl ?_)
      refine SP.reslot (t := 77) rfl hb6 ?_
      refine .cons (.on rfl rfl rfl (Ev.step (ev_and rfl rfl rfl rfl) rfl rfl rfl ?_))
      refine .ev (ev_pickf rfl rfl rfl rfl) rfl rfl rfl ?_
      refine .go (fun _ _ h => h) ?_
      refine .condI rfl (bA bD bD) (fun h7 => ?_) (fun h7 => ?_)
      ·
       refine .seq ?_
       refine .region ?_
       refine .ev (ev_as rfl rfl) rfl rfl rfl ?_
       refine .go (fun _ _ h => h) ?_
       exact .ret (fun _ _ h => h) (ret1 Try.results46 rfl .n ⟨(congrArg (Value.int .i64) (rn_no (rsel2 (l := l) (by assumption) (by assumption)) q_0 (by omega) (by omega) q_2 (by unfold runeBad; omega))), rfl⟩)
      ·
       refine .skipgo (fun _ _ h => h) ?_
       refine .seq ?_
       refine .region ?_
       refine .ev (ev_mv rfl rfl) rfl rfl rfl ?_
       refine .ev (ev_as rfl rfl) rfl rfl rfl ?_
       refine .go (fun _ _ h => h) ?_
       exact .ret (fun _ _ h => h) (ret1 Try.results46 rfl .n ⟨(congrArg (Value.int .i64) (rn_yes (rsel2 (l := l) (by assumption) (by assumption)) q_0 (by omega) (by omega) q_2 (by unfold runeBad; omega))), rfl⟩)
  ·
   refine .seq ?_
   refine .region ?_
   refine .ev (ev_mv rfl rfl) rfl rfl rfl ?_
   refine .ev (ev_cmp rfl rfl rfl rfl) rfl rfl rfl ?_
   refine .ev (ev_mv rfl rfl) rfl rfl rfl ?_
   refine .cons (Ev.gstep (fun _ => ev_mv rfl rfl) rfl rfl rfl rfl rfl ?_)
   refine .cons (Ev.gstep (fun hb => ev_cmp rfl (lkg rfl hb) rfl rfl) rfl rfl rfl rfl rfl ?_)
   refine .ev (ev_and rfl rfl rfl rfl) rfl rfl rfl ?_
   refine .ev (ev_as rfl rfl) rfl rfl rfl ?_
   refine .go (fun _ _ h => h) ?_
   refine .condI rfl (bA bD bD) (fun h8 => ?_) (fun h8 => ?_)
   ·
    refine .region ?_
    refine .ev (ev_mv rfl rfl) rfl rfl rfl ?_
    refine .ev (ev_band rfl rfl rfl) rfl rfl rfl ?_
    refine .ev (ev_as rfl rfl) rfl rfl rfl ?_
    refine .ev (ev_as rfl rfl) rfl rfl rfl ?_
    refine .ev (ev_as rfl rfl) rfl rfl rfl ?_
    refine .go (fun _ _ h => h) ?_
    refine .seq ?_
    refine .seq ?_
    refine .region ?_
    refine .ev (ev_mv rfl rfl) rfl rfl rfl ?_
    refine .ev (ev_cmp (r := false) rfl rfl rfl rfl) rfl rfl rfl ?_
    refine .ev (ev_mv rfl rfl) rfl rfl rfl ?_
    refine .cons (.on rfl rfl rfl (Ev.step (ev_mv rfl rfl) rfl rfl rfl ?_))
    refine .cons (.on rfl rfl rfl (Ev.step (ev_len rfl Try.underlying36 rfl) rfl rfl rfl ?_))
    refine .cons (.on rfl rfl rfl (Ev.step (ev_mv rfl rfl) rfl rfl rfl ?_))
    refine .cons (.on rfl rfl rfl (Ev.step (ev_cmp rfl rfl rfl rfl) rfl rfl rfl ?_))
    refine .ev (ev_pickf rfl rfl rfl rfl) rfl rfl rfl ?_
    refine .go (fun _ _ h => h) ?_
    refine .condI rfl bD (fun h9 => ?_) (fun h9 => ?_)
    ·
     refine .seq ?_
     refine .region ?_
     refine .ev (ev_as rfl rfl) rfl rfl rfl ?_
     refine .go (fun _ _ h => h) ?_
     exact .ret (fun _ _ h => h) (ret1 Try.results46 rfl .n ⟨(congrArg (Value.int .i64) (rn_short (rsel3 (l := l) (by assumption) (by assumption)) (by omega))), rfl⟩)
    ·
     refine .skipgo (fun _ _ h => h) ?_
     refine .seq ?_
     refine .seq ?_
     refine .region ?_
     refine .ev (ev_as rfl rfl) rfl rfl rfl ?_
     refine .go (fun _ _ h => h) ?_
     refine .block ?_
     refine .loop (X := Int × Int) (fun ⟨i, x⟩ => 1 ≤ i ∧ i ≤ 3 ∧ runeGo ((l.take (3 : Int).toNat).drop i.toNat) x = runeGo ((l.take (3 : Int).toNat).drop 1) (bnd .i64 (gt l 0) 15)) (fun ⟨i, x⟩ => [(0, .slice A n c), (3, .int .i64 3), (4, .int .i64 2048), (6, .int .i64 x), (7, .int .i64 i)]) (fun ⟨i, x⟩ => []) (fun _ => S) (fun _ => wf) (fun ⟨i, x⟩ => (3 - i).toNat) (fun a_ w_ hs_ hw_ => ⟨⟨1, (bnd .i64 (gt l 0) 15)⟩, (by exact ⟨by omega, by omega, rfl⟩), hs_.mono (Sub.get (.c rfl (.c rfl (.c rfl (.c rfl (.c rfl .n)))))), hw_.keep .n⟩) (fun ⟨i, x⟩ ⟨q_0, q_1, q_2⟩ => ?_)
     show SC _ _ _ _ _ ⟨[(0, .slice A n c), (3, .int .i64 3), (4, .int .i64 2048), (6, .int .i64 x), (7, .int .i64 i)], [], S, wf⟩
     refine .seq ?_
     refine .seq ?_
     refine .region ?_
     refine .ev (ev_mv rfl rfl) rfl rfl rfl ?_
     refine .ev (ev_mv rfl rfl) rfl rfl rfl ?_
     refine .ev (ev_cmp rfl rfl rfl rfl) rfl rfl rfl ?_
     refine .go (fun _ _ h => h) ?_
     refine .condI rfl bD (fun h10 => ?_) (fun h10 => ?_)
     ·
      refine .skipgo (fun _ _ h => h) ?_
      refine .seq ?_
      refine .block ?_
      refine .seq ?_
      refine .seq ?_
      refine .region ?_
      refine .ev (ev_mv rfl rfl) rfl rfl rfl ?_
      refine .ev (ev_mv rfl rfl) rfl rfl rfl ?_
      refine .ev (ev_ix rfl Try.underlying36 ty5 rfl rfl (by omega) (by omega) (fun _ _ => Fr.adr (i := i) hA (by omega) (by omega))) rfl rfl rfl ?_
      refine .ev (ev_ld1 rfl ty5 rfl (At.elem1 (At.w (Fr.el (i := i) hA (by omega) (by omega))) 0 rfl)) rfl rfl rfl ?_
      refine .ev (ev_shr (r := (Int.fdiv (gt l i) 64)) rfl rfl rfl (by decide) rfl) rfl rfl rfl ?_
      refine .ev (ev_cmp rfl rfl rfl rfl) rfl rfl rfl ?_
      refine .go (fun _ _ h => h) ?_
      refine .condI rfl bNE (fun h11 => ?_) (fun h11 => ?_)
      ·
       refine .seq ?_
       refine .region ?_
       refine .ev (ev_as rfl rfl) rfl rfl rfl ?_
       refine .go (fun _ _ h => h) ?_
       exact .ret (fun _ _ h => h) (ret1 Try.results46 rfl .n ⟨(congrArg (Value.int .i64) (rn_bad (rsel3 (l := l) (by assumption) (by assumption)) q_0 (by omega) (by omega) q_2 (by omega))), rfl⟩)
      ·
       refine .skipgo (fun _ _ h => h) ?_
       refine .region ?_
       refine .ev (ev_mv rfl rfl) rfl rfl rfl ?_
       refine .ev (ev_shl (r := (IntKind.i64.wrap (x * 64))) rfl rfl rfl (by decide) rfl) rfl rfl rfl ?_
       refine .ev (ev_mv rfl rfl) rfl rfl rfl ?_
       refine .ev (ev_mv rfl rfl) rfl rfl rfl ?_
       refine .ev (ev_ix rfl Try.underlying36 ty5 rfl rfl (by omega) (by omega) (fun _ _ => Fr.adr (i := i) hA (by omega) (by omega))) rfl rfl rfl ?_
       refine .ev (ev_ld1 rfl ty5 rfl (At.elem1 (At.w (Fr.el (i := i) hA (by omega) (by omega))) 0 rfl)) rfl rfl rfl ?_
       refine .ev (ev_band rfl rfl rfl) rfl rfl rfl ?_
       refine .ev (ev_cv rfl Try.underlying5 Try.underlying3 rfl rfl) rfl rfl rfl ?_
       refine .ev (ev_bor rfl rfl rfl) rfl rfl rfl ?_
       refine .ev (ev_as rfl rfl) rfl rfl rfl ?_
       refine .go (fun _ _ h => h) ?_
       refine .region ?_
       refine .ev (ev_mv rfl rfl) rfl rfl rfl ?_
       refine .ev (ev_add rfl rfl rfl (r := (i + 1)) rfl (by omega) (by omega)) rfl rfl rfl ?_
       refine .ev (ev_as rfl rfl) rfl rfl rfl ?_
       exact SP.nil (SQ.roundb (X := Int × Int) (x := (i, x)) ⟨(i + 1), (bor .i64 (IntKind.i64.wrap (x * 64)) (IntKind.i64.wrap (bnd .u8 (gt l i) 63)))⟩ (by exact ⟨by omega, by omega, (rn_step q_0 (by omega) (by omega) (by omega)).symm.trans q_2⟩) (by dsimp only; omega) (Sub.get (.c rfl (.c rfl (.c rfl (.c rfl (.c rfl .n)))))) (fun w hw => hw.keep .n))
     ·
      refine .exit (fun _ _ h => h) ?_
      refine .seq ?_
      refine .seq ?_
      refine .region ?_
      refine .ev (ev_mv rfl rfl) rfl rfl rfl ?_
      refine .ev (ev_mv rfl rfl) rfl rfl rfl ?_
      refine .ev (ev_cmp rfl rfl rfl rfl) rfl rfl rfl ?_
      refine .ev (ev_mv rfl rfl) rfl rfl rfl ?_
      refine .cons (Ev.gstep (fun _ => ev_mv rfl rfl) rfl rfl rfl rfl rfl ?_)
      refine .cons (Ev.gstep (fun hb => ev_cmp rfl (lkg rfl hb) rfl rfl) rfl rfl rfl rfl rfl ?_)
      refine .ev (ev_or rfl rfl rfl rfl) rfl rfl rfl ?_
      refine .ev (ev_mv rfl rfl) rfl rfl rfl ?_
      refine .cons (Ev.gstep (fun _ => ev_mv rfl rfl) rfl rfl rfl rfl rfl ?_)
      refine .cons (Ev.gstep (fun hb => ev_cmp rfl (lkg rfl hb) rfl rfl) rfl rfl rfl rfl rfl ?_)
      refine .cons (Ev.gstep (fun hb => ev_mv rfl (lkg rfl hb)) rfl rfl rfl rfl rfl ?_)
      rcases Bool.eq_false_or_eq_true ((decide (x < 2048)) || (decide (x > 1114111))) with hb12 | hb12
      ·
       have hb12_ := bT (bO bD bD) hb12
       refine SP.reslotv (t := 80) rfl (gv_off hb12) ?_
       refine .cons (.offu rfl rfl rfl rfl rfl ?_)
       refine .cons (.offu rfl rfl rfl rfl rfl ?_)
       refine SP.reslot (t := 77) rfl hb12 ?_
       refine .cons (.off rfl rfl rfl rfl rfl rfl ?_)
       refine .ev (ev_pickt rfl rfl rfl rfl) rfl rfl rfl ?_
       refine .go (fun _ _ h => h) ?_
       refine .cond_t rfl ?_
       refine .seq ?_
       refine .region ?_
       refine .ev (ev_as rfl rfl) rfl rfl rfl ?_
       refine .go (fun _ _ h => h) ?_
       exact .ret (fun _ _ h => h) (ret1 Try.results46 rfl .n ⟨(congrArg (Value.int .i64) (rn_no (rsel3 (l := l) (by assumption) (by assumption)) q_0 (by omega) (by omega) q_2 (by unfold runeBad; omega))), rfl⟩)
      ·
       have hb12_ := bF (bO bD bD) hb12
       refine SP.reslotv (t := 80) rfl (gv_on hb12) ?_
       refine .cons (Ev.gstep (fun _ => ev_mv rfl rfl) rfl rfl rfl rfl rfl ?_)
       refine .cons (Ev.gstep (fun hb => ev_cmp rfl (lkg rfl hb) rfl rfl) rfl rfl rfl rfl rfl ?_)
       refine SP.reslot (t := 77) rfl hb12 ?_
       refine .cons (.on rfl rfl rfl (Ev.step (ev_and rfl rfl rfl rfl) rfl rfl rfl ?_))
       refine .ev (ev_pickf rfl rfl rfl rfl) rfl rfl rfl ?_
       refine .go (fun _ _ h => h) ?_
       refine .condI rfl (bA bD bD) (fun h13 => ?_) (fun h13 => ?_)
       ·
        refine .seq ?_
        refine .region ?_
        refine .ev (ev_as rfl rfl) rfl rfl rfl ?_
        refine .go (fun _ _ h => h) ?_
        exact .ret (fun _ _ h => h) (ret1 Try.results46 rfl .n ⟨(congrArg (Value.int .i64) (rn_no (rsel3 (l := l) (by assumption) (by assumption)) q_0 (by omega) (by omega) q_2 (by unfold runeBad; omega))), rfl⟩)
       ·
        refine .skipgo (fun _ _ h => h) ?_
        refine .seq ?_
        refine .region ?_
        refine .ev (ev_mv rfl rfl) rfl rfl rfl ?_
        refine .ev (ev_as rfl rfl) rfl rfl rfl ?_
        refine .go (fun _ _ h => h) ?_
        exact .ret (fun _ _ h => h) (ret1 Try.results46 rfl .n ⟨(congrArg (Value.int .i64) (rn_yes (rsel3 (l := l) (by assumption) (by assumption)) q_0 (by omega) (by omega) q_2 (by unfold runeBad; omega))), rfl⟩)
   ·
    refine .seq ?_
    refine .region ?_
    refine .ev (ev_mv rfl rfl) rfl rfl rfl ?_
    refine .ev (ev_cmp rfl rfl rfl rfl) rfl rfl rfl ?_
    refine .ev (ev_mv rfl rfl) rfl rfl rfl ?_
    refine .cons (Ev.gstep (fun _ => ev_mv rfl rfl) rfl rfl rfl rfl rfl ?_)
    refine .cons (Ev.gstep (fun hb => ev_cmp rfl (lkg rfl hb) rfl rfl) rfl rfl rfl rfl rfl ?_)
    refine .ev (ev_and rfl rfl rfl rfl) rfl rfl rfl ?_
    refine .ev (ev_as rfl rfl) rfl rfl rfl ?_
    refine .go (fun _ _ h => h) ?_
    refine .condI rfl (bA bD bD) (fun h14 => ?_) (fun h14 => ?_)
    ·
     refine .region ?_
     refine .ev (ev_mv rfl rfl) rfl rfl rfl ?_
     refine .ev (ev_band rfl rfl rfl) rfl rfl rfl ?_
     refine .ev (ev_as rfl rfl) rfl rfl rfl ?_
     refine .ev (ev_as rfl rfl) rfl rfl rfl ?_
     refine .ev (ev_as rfl rfl) rfl rfl rfl ?_
     refine .go (fun _ _ h => h) ?_
     refine .seq ?_
     refine .seq ?_
     refine .region ?_
     refine .ev (ev_mv rfl rfl) rfl rfl rfl ?_
     refine .ev (ev_cmp (r := false) rfl rfl rfl rfl) rfl rfl rfl ?_
     refine .ev (ev_mv rfl rfl) rfl rfl rfl ?_
     refine .cons (.on rfl rfl rfl (Ev.step (ev_mv rfl rfl) rfl rfl rfl ?_))
     refine .cons (.on rfl rfl rfl (Ev.step (ev_len rfl Try.underlying36 rfl) rfl rfl rfl ?_))
     refine .cons (.on rfl rfl rfl (Ev.step (ev_mv rfl rfl) rfl rfl rfl ?_))
     refine .cons (.on rfl rfl rfl (Ev.step (ev_cmp rfl rfl rfl rfl) rfl rfl rfl ?_))
     refine .ev (ev_pickf rfl rfl rfl rfl) rfl rfl rfl ?_
     refine .go (fun _ _ h => h) ?_
     refine .condI rfl bD (fun h15 => ?_) (fun h15 => ?_)
     ·
      refine .seq ?_
      refine .region ?_
      refine .ev (ev_as rfl rfl) rfl rfl rfl ?_
      refine .go (fun _ _ h => h) ?_
      exact .ret (fun _ _ h => h) (ret1 Try.results46 rfl .n ⟨(congrArg (Value.int .i64) (rn_short (rsel4 (l := l) (by assumption) (by assumption)) (by omega))), rfl⟩)
     ·
      refine .skipgo (fun _ _ h => h) ?_
      refine .seq ?_
      refine .seq ?_
      refine .region ?_
      refine .ev (ev_as rfl rfl) rfl rfl rfl ?_
      refine .go (fun _ _ h => h) ?_
      refine .block ?_
      refine .loop (X := Int × Int) (fun ⟨i, x⟩ => 1 ≤ i ∧ i ≤ 4 ∧ runeGo ((l.take (4 : Int).toNat).drop i.toNat) x = runeGo ((l.take (4 : Int).toNat).drop 1) (bnd .i64 (gt l 0) 7)) (fun ⟨i, x⟩ => [(0, .slice A n c), (3, .int .i64 4), (4, .int .i64 65536), (6, .int .i64 x), (7, .int .i64 i)]) (fun ⟨i, x⟩ => []) (fun _ => S) (fun _ => wf) (fun ⟨i, x⟩ => (4 - i).toNat) (fun a_ w_ hs_ hw_ => ⟨⟨1, (bnd .i64 (gt l 0) 7)⟩, (by exact ⟨by omega, by omega, rfl⟩), hs_.mono (Sub.get (.c rfl (.c rfl (.c rfl (.c rfl (.c rfl .n)))))), hw_.keep .n⟩) (fun ⟨i, x⟩ ⟨q_0, q_1, q_2⟩ => ?_)
      show SC _ _ _ _ _ ⟨[(0, .slice A n c), (3, .int .i64 4), (4, .int .i64 65536), (6, .int .i64 x), (7, .int .i64 i)], [], S, wf⟩
      refine .seq ?_
      refine .seq ?_
      refine .region ?_
      refine .ev (ev_mv rfl rfl) rfl rfl rfl ?_
      refine .ev (ev_mv rfl rfl) rfl rfl rfl ?_
      refine .ev (ev_cmp rfl rfl rfl rfl) rfl rfl rfl ?_
      refine .go (fun _ _ h => h) ?_
      refine .condI rfl bD (fun h16 => ?_) (fun h16 => ?_)
      ·
       refine .skipgo (fun _ _ h => h) ?_
       refine .seq ?_
       refine .block ?_
       refine .seq ?_
       refine .seq ?_
       refine .region ?_
       refine .ev (ev_mv rfl rfl) rfl rfl rfl ?_
       refine .ev (ev_mv rfl rfl) rfl rfl rfl ?_
       refine .ev (ev_ix rfl Try.underlying36 ty5 rfl rfl (by omega) (by omega) (fun _ _ => Fr.adr (i := i) hA (by omega) (by omega))) rfl rfl rfl ?_
       refine .ev (ev_ld1 rfl ty5 rfl (At.elem1 (At.w (Fr.el (i := i) hA (by omega) (by omega))) 0 rfl)) rfl rfl rfl ?_
       refine .ev (ev_shr (r := (Int.fdiv (gt l i) 64)) rfl rfl rfl (by decide) rfl) rfl rfl rfl ?_
       refine .ev (ev_cmp rfl rfl rfl rfl) rfl rfl rfl ?_
       refine .go (fun _ _ h => h) ?_
       refine .condI rfl bNE (fun h17 => ?_) (fun h17 => ?_)
       ·
        refine .seq ?_
        refine .region ?_
        refine .ev (ev_as rfl rfl) rfl rfl rfl ?_
        refine .go (fun _ _ h => h) ?_
        exact .ret (fun _ _ h => h) (ret1 Try.results46 rfl .n ⟨(congrArg (Value.int .i64) (rn_bad (rsel4 (l := l) (by assumption) (by assumption)) q_0 (by omega) (by omega) q_2 (by omega))), rfl⟩)
       ·
        refine .skipgo (fun _ _ h => h) ?_
        refine .region ?_
        refine .ev (ev_mv rfl rfl) rfl rfl rfl ?_
        refine .ev (ev_shl (r := (IntKind.i64.wrap (x * 64))) rfl rfl rfl (by decide) rfl) rfl rfl rfl ?_
        refine .ev (ev_mv rfl rfl) rfl rfl rfl ?_
        refine .ev (ev_mv rfl rfl) rfl rfl rfl ?_
        refine .ev (ev_ix rfl Try.underlying36 ty5 rfl rfl (by omega) (by omega) (fun _ _ => Fr.adr (i := i) hA (by omega) (by omega))) rfl rfl rfl ?_
        refine .ev (ev_ld1 rfl ty5 rfl (At.elem1 (At.w (Fr.el (i := i) hA (by omega) (by omega))) 0 rfl)) rfl rfl rfl ?_
        refine .ev (ev_band rfl rfl rfl) rfl rfl rfl ?_
        refine .ev (ev_cv rfl Try.underlying5 Try.underlying3 rfl rfl) rfl rfl rfl ?_
        refine .ev (ev_bor rfl rfl rfl) rfl rfl rfl ?_
        refine .ev (ev_as rfl rfl) rfl rfl rfl ?_
        refine .go (fun _ _ h => h) ?_
        refine .region ?_
        refine .ev (ev_mv rfl rfl) rfl rfl rfl ?_
        refine .ev (ev_add rfl rfl rfl (r := (i + 1)) rfl (by omega) (by omega)) rfl rfl rfl ?_
        refine .ev (ev_as rfl rfl) rfl rfl rfl ?_
        exact SP.nil (SQ.roundb (X := Int × Int) (x := (i, x)) ⟨(i + 1), (bor .i64 (IntKind.i64.wrap (x * 64)) (IntKind.i64.wrap (bnd .u8 (gt l i) 63)))⟩ (by exact ⟨by omega, by omega, (rn_step q_0 (by omega) (by omega) (by omega)).symm.trans q_2⟩) (by dsimp only; omega) (Sub.get (.c rfl (.c rfl (.c rfl (.c rfl (.c rfl .n)))))) (fun w hw => hw.keep .n))
      ·
       refine .exit (fun _ _ h => h) ?_
       refine .seq ?_
       refine .seq ?_
       refine .region ?_
       refine .ev (ev_mv rfl rfl) rfl rfl rfl ?_
       refine .ev (ev_mv rfl rfl) rfl rfl rfl ?_
       refine .ev (ev_cmp rfl rfl rfl rfl) rfl rfl rfl ?_
       refine .ev (ev_mv rfl rfl) rfl rfl rfl ?_
       refine .cons (Ev.gstep (fun _ => ev_mv rfl rfl) rfl rfl rfl rfl rfl ?_)
       refine .cons (Ev.gstep (fun hb => ev_cmp rfl (lkg rfl hb) rfl rfl) rfl rfl rfl rfl rfl ?_)
       refine .ev (ev_or rfl rfl rfl rfl) rfl rfl rfl ?_
       refine .ev (ev_mv rfl rfl) rfl rfl rfl ?_
       refine .cons (Ev.gstep (fun _ => ev_mv rfl rfl) rfl rfl rfl rfl rfl ?_)
       refine .cons (Ev.gstep (fun hb => ev_cmp rfl (lkg rfl hb) rfl rfl) rfl rfl rfl rfl rfl ?_)
       refine .cons (Ev.gstep (fun hb => ev_mv rfl (lkg rfl hb)) rfl rfl rfl rfl rfl ?_)
       rcases Bool.eq_false_or_eq_true ((decide (x < 65536)) || (decide (x > 1114111))) with hb18 | hb18
       ·
        have hb18_ := bT (bO bD bD) hb18
        refine SP.reslotv (t := 80) rfl (gv_off hb18) ?_
        refine .cons (.offu rfl rfl rfl rfl rfl ?_)
        refine .cons (.offu rfl rfl rfl rfl rfl ?_)
        refine SP.reslot (t := 77) rfl hb18 ?_
        refine .cons (.off rfl rfl rfl rfl rfl rfl ?_)
        refine .ev (ev_pickt rfl rfl rfl rfl) rfl rfl rfl ?_
        refine .go (fun _ _ h => h) ?_
        refine .cond_t rfl ?_
        refine .seq ?_
        refine .region ?_
        refine .ev (ev_as rfl rfl) rfl rfl rfl ?_
        refine .go (fun _ _ h => h) ?_
        exact .ret (fun _ _ h => h) (ret1 Try.results46 rfl .n ⟨(congrArg (Value.int .i64) (rn_no (rsel4 (l := l) (by assumption) (by assumption)) q_0 (by omega) (by omega) q_2 (by unfold runeBad; omega))), rfl⟩)
       ·
        have hb18_ := bF (bO bD bD) hb18
        refine SP.reslotv (t := 80) rfl (gv_on hb18) ?_
        refine .cons (Ev.gstep (fun _ => ev_mv rfl rfl) rfl rfl rfl rfl rfl ?_)
        refine .cons (Ev.gstep (fun hb => ev_cmp rfl (lkg rfl hb) rfl rfl) rfl rfl rfl rfl rfl ?_)
        refine SP.reslot (t := 77) rfl hb18 ?_
        refine .cons (.on rfl rfl rfl (Ev.step (ev_and rfl rfl rfl rfl) rfl rfl rfl ?_))
        refine .ev (ev_pickf rfl rfl rfl rfl) rfl rfl rfl ?_
        refine .go (fun _ _ h => h) ?_
        refine .condI rfl (bA bD bD) (fun h19 => ?_) (fun h19 => ?_)
        ·
         refine .seq ?_
         refine .region ?_
         refine .ev (ev_as rfl rfl) rfl rfl rfl ?_
         refine .go (fun _ _ h => h) ?_
         exact .ret (fun _ _ h => h) (ret1 Try.results46 rfl .n ⟨(congrArg (Value.int .i64) (rn_no (rsel4 (l := l) (by assumption) (by assumption)) q_0 (by omega) (by omega) q_2 (by unfold runeBad; omega))), rfl⟩)
        ·
         refine .skipgo (fun _ _ h => h) ?_
         refine .seq ?_
         refine .region ?_
         refine .ev (ev_mv rfl rfl) rfl rfl rfl ?_
         refine .ev (ev_as rfl rfl) rfl rfl rfl ?_
         refine .go (fun _ _ h => h) ?_
         exact .ret (fun _ _ h => h) (ret1 Try.results46 rfl .n ⟨(congrArg (Value.int .i64) (rn_yes (rsel4 (l := l) (by assumption) (by assumption)) q_0 (by omega) (by omega) q_2 (by unfold runeBad; omega))), rfl⟩)
    ·
     refine .skipgo (fun _ _ h => h) ?_
     refine .seq ?_
     refine .seq ?_
     refine .region ?_
     refine .ev (ev_mv rfl rfl) rfl rfl rfl ?_
     refine .ev (ev_cmp (r := true) rfl rfl rfl rfl) rfl rfl rfl ?_
     refine .ev (ev_mv rfl rfl) rfl rfl rfl ?_
     refine .cons (.off rfl rfl rfl rfl rfl rfl ?_)
     refine .cons (.off rfl rfl rfl rfl rfl rfl ?_)
     refine .cons (.off rfl rfl rfl rfl rfl rfl ?_)
     refine .cons (.off rfl rfl rfl rfl rfl rfl ?_)
     refine .ev (ev_pickt rfl rfl rfl rfl) rfl rfl rfl ?_
     refine .go (fun _ _ h => h) ?_
     refine .cond_t rfl ?_
     refine .seq ?_
     refine .region ?_
     refine .ev (ev_as rfl rfl) rfl rfl rfl ?_
     refine .go (fun _ _ h => h) ?_
     exact .ret (fun _ _ h => h) (ret1 Try.results46 rfl .n ⟨(congrArg (Value.int .i64) (rsel0 (by assumption) (by assumption) (by assumption) (by assumption))), rfl⟩)
theorem utf (s : ByteArray) (S : Nat → Prop) (wf : World) (hs : s.size ≤ 1000000000) :
  TR0 Try.prog 19 [.string s] [] S wf (fun v_ C_ => v_ = .bool (utfF (bs s)) ∧ C_ = []) := by
 have hbs := bs_len s
 refine TR.mk Try.func19 rfl Try.ntmps19 rfl rfl (fun w_ => ?_)
 refine .seq ?_
 refine .region ?_
 refine .ev (ev_as rfl rfl) rfl rfl rfl ?_
 refine .go (fun _ _ h => h) ?_
 refine .seq ?_
 refine .region ?_
 refine .ev (ev_mv rfl rfl) rfl rfl rfl ?_
 refine .cons (st_s2b rfl rfl rfl rfl Try.underlying9 Try.underlying36 Try.underlying5 rfl (by omega) (fun b1 c2 hc3 hc4 => ?_))
 unfold maxLen at hc4
 have hbl5 := bs_len s
 refine .ev (ev_as rfl rfl) rfl rfl rfl ?_
 refine .go (fun _ _ h => h) ?_
 refine .seq ?_
 refine .seq ?_
 refine .region ?_
 refine .ev (ev_as rfl rfl) rfl rfl rfl ?_
 refine .go (fun _ _ h => h) ?_
 refine .block ?_
 refine .loop (X := Int) (fun i => 0 ≤ i ∧ i ≤ s.size ∧ utfF ((bs s).drop i.toNat) = utfF (bs s)) (fun i => [(3, .slice (some ⟨b1, 0, none⟩) s.size c2), (4, .int .i64 i)]) (fun i => [ro_ eY 5 (.slice (some ⟨b1, 0, none⟩) s.size c2) (bs s)]) (fun _ => S) (fun _ => wf) (fun i => (s.size - i.toNat)) (fun a_ w_ hs_ hw_ => ⟨0, (by exact ⟨by omega, by omega, rfl⟩), hs_.mono (Sub.get (.c rfl (.c rfl .n))), hw_.keep (.c .h .n)⟩) (fun i ⟨q_0, q_1, q_2⟩ => ?_)
 show SC _ _ _ _ _ ⟨[(3, .slice (some ⟨b1, 0, none⟩) s.size c2), (4, .int .i64 i)], [ro_ eY 5 (.slice (some ⟨b1, 0, none⟩) s.size c2) (bs s)], S, wf⟩
 refine .seq ?_
 refine .seq ?_
 refine .region ?_
 refine .ev (ev_mv rfl rfl) rfl rfl rfl ?_
 refine .ev (ev_mv rfl rfl) rfl rfl rfl ?_
 refine .ev (ev_len rfl Try.underlying36 rfl) rfl rfl rfl ?_
 refine .ev (ev_cmp rfl rfl rfl rfl) rfl rfl rfl ?_
 refine .go (fun _ _ h => h) ?_
 refine .condI rfl bD (fun h6 => ?_) (fun h6 => ?_)
 ·
  refine .skipgo (fun _ _ h => h) ?_
  refine .block ?_
  refine .seq ?_
  refine .region ?_
  refine .ev (ev_mv rfl rfl) rfl rfl rfl ?_
  refine .ev (ev_mv rfl rfl) rfl rfl rfl ?_
  refine .ev (ev_slc rfl Try.underlying36 ty5 rfl (.s rfl (by omega)) .n (by omega) (by omega)) rfl rfl rfl ?_
  refine .cons (st_lendk rfl rfl rfl rfl hbd46 rfl .n (.c .h .n) (fun w_ hw => rune (cutA (some ⟨b1, 0, none⟩) c2 (i).toNat 1) (s.size - (i).toNat) (c2 - (i).toNat) (((bs s).take s.size).drop (i).toNat) _ _ (Fr.view (Fr.lendo hw 0 rfl (by first | ((try simp only [LL]) <;> omega) | omega | (simp <;> omega))) (i).toNat s.size 1 rfl (by omega)) (by first | ((try simp only [LL]) <;> omega) | omega | (simp <;> omega)) (rng_drop (rng_take (bs_range _) _) _) (by omega)) ?_)
  refine .ev (ev_as rfl rfl) rfl rfl rfl ?_
  refine .go (fun _ _ h => h) ?_
  refine .seq ?_
  refine .seq ?_
  have hrb := rune_bd (s := s) (i := i) q_0 (by omega)
  refine .region ?_
  refine .ev (ev_mv rfl rfl) rfl rfl rfl ?_
  refine .ev (ev_cmp rfl rfl rfl rfl) rfl rfl rfl ?_
  refine .go (fun _ _ h => h) ?_
  refine .condI rfl bE (fun h7 => ?_) (fun h7 => ?_)
  ·
   refine .seq ?_
   refine .region ?_
   refine .ev (ev_as rfl rfl) rfl rfl rfl ?_
   refine .go (fun _ _ h => h) ?_
   exact .ret (fun _ _ h => h) (ret1 Try.results19 rfl .n ⟨(congrArg Value.bool (utf_bad0 q_0 (by omega) q_2 (by assumption))), rfl⟩)
  ·
   refine .skipgo (fun _ _ h => h) ?_
   refine .region ?_
   refine .ev (ev_mv rfl rfl) rfl rfl rfl ?_
   refine .ev (ev_mv rfl rfl) rfl rfl rfl ?_
   refine .ev (ev_add rfl rfl rfl (r := (i + (runeF (((bs s).take s.size).drop (i).toNat)))) rfl (by omega) (by omega)) rfl rfl rfl ?_
   refine .ev (ev_as rfl rfl) rfl rfl rfl ?_
   exact SP.nil (SQ.roundb (X := Int) (x := (i)) (i + (runeF (((bs s).take s.size).drop (i).toNat))) (by exact utf_go q_0 (by omega) q_2 (by assumption)) (by show (_ : Nat) < _; omega) (Sub.get (.c rfl (.c rfl .n))) (fun w hw => hw.keep (.c .h .n)))
 ·
  refine .exit (fun _ _ h => h) ?_
  refine .seq ?_
  refine .region ?_
  refine .ev (ev_as rfl rfl) rfl rfl rfl ?_
  refine .go (fun _ _ h => h) ?_
  exact .ret (fun _ _ h => h) (ret1 Try.results19 rfl .n ⟨(congrArg Value.bool (utf_end q_2 (by omega))), rfl⟩)
theorem quote_ (v : Value) (o : List Int) (s : ByteArray) (S : Nat → Prop) (wf : World) (hs : s.size ≤ 1000000000) (ho : o.length ≤ 1000000000000) :
  TR0 Try.prog 52 [v, .string s] [rw_ eY 5 (v) o] S wf (fun v_ C_ => ∃ (u : Value), v_ = u ∧ C_ = [rw_ eY 5 (u) (o ++ quoteF s)]) := by
 have hbs := bs_len s
 refine TR.mk Try.func52 rfl Try.ntmps52 rfl rfl (fun w_ => ?_)
 refine .seq ?_
 refine .region ?_
 refine .ev (ev_as rfl rfl) rfl rfl rfl ?_
 refine .go (fun _ _ h => h) ?_
 refine .seq ?_
 refine .region ?_
 refine .ev (ev_as rfl rfl) rfl rfl rfl ?_
 refine .go (fun _ _ h => h) ?_
 refine .seq ?_
 refine .region ?_
 refine .ev (ev_mv rfl rfl) rfl rfl rfl ?_
 refine .cons (st_s2b rfl rfl rfl rfl Try.underlying9 Try.underlying36 Try.underlying5 rfl (by omega) (fun b1 c2 hc3 hc4 => ?_))
 unfold maxLen at hc4
 have hbl5 := bs_len s
 refine .ev (ev_as rfl rfl) rfl rfl rfl ?_
 refine .go (fun _ _ h => h) ?_
 refine .seq ?_
 refine .region ?_
 refine .ev (ev_mv rfl rfl) rfl rfl rfl ?_
 refine .cons (st_lit eY (e := 5) (l := [34]) rfl rfl rfl rfl (by kernel_rfl) rfl rfl (fun w => by kernel_rfl) (fun b6 => ?_))
 refine .cons (st_app (E := eY) (m := [34]) rfl rfl rfl rfl Try.underlying36 ai5 rfl rfl rfl (.t (.t .h)) (by first | rfl | omega | simp) (row_src 0 rfl) (by first | ((try simp only [LL]) <;> omega) | omega | (simp <;> omega)) rfl (fun v7 => ?_))
 refine .ev (ev_as rfl rfl) rfl rfl rfl ?_
 refine .go (fun _ _ h => h) ?_
 refine .seq ?_
 refine .seq ?_
 refine .region ?_
 refine .ev (ev_as rfl rfl) rfl rfl rfl ?_
 refine .go (fun _ _ h => h) ?_
 refine .block ?_
 refine .loop (X := Int × (List Int) × Value) (fun ⟨i, O, U⟩ => 0 ≤ i ∧ i ≤ s.size ∧ O ++ quoF ((bs s).drop i.toNat) = (o ++ [34] ++ quoF (bs s)) ∧ (O.length : Int) ≤ o.length + 1 + 6 * i) (fun ⟨i, O, U⟩ => [(0, U), (5, .string ⟨#[48, 49, 50, 51, 52, 53, 54, 55, 56, 57, 97, 98, 99, 100, 101, 102]⟩), (6, .slice (some ⟨b1, 0, none⟩) s.size c2), (7, .int .i64 i)]) (fun ⟨i, O, U⟩ => [rw_ eY 5 (U) O, ro_ eY 5 (.slice (some ⟨b1, 0, none⟩) s.size c2) (bs s)]) (fun _ => S) (fun _ => wf) (fun ⟨i, O, U⟩ => (s.size - i.toNat)) (fun a_ w_ hs_ hw_ => ⟨⟨0, (o ++ [34]), v7⟩, (by exact ⟨by omega, by omega, rfl, by simp only [List.length_append, List.length_cons, List.length_nil]; omega⟩), hs_.mono (Sub.get (.c rfl (.c rfl (.c rfl (.c rfl .n))))), hw_.keep (.c .h (.c (.t .h) .n))⟩) (fun ⟨i, O, U⟩ ⟨q_0, q_1, q_2, q_3⟩ => ?_)
 show SC _ _ _ _ _ ⟨[(0, U), (5, .string ⟨#[48, 49, 50, 51, 52, 53, 54, 55, 56, 57, 97, 98, 99, 100, 101, 102]⟩), (6, .slice (some ⟨b1, 0, none⟩) s.size c2), (7, .int .i64 i)], [rw_ eY 5 (U) O, ro_ eY 5 (.slice (some ⟨b1, 0, none⟩) s.size c2) (bs s)], S, wf⟩
 refine .seq ?_
 refine .seq ?_
 refine .region ?_
 refine .ev (ev_mv rfl rfl) rfl rfl rfl ?_
 refine .ev (ev_mv rfl rfl) rfl rfl rfl ?_
 refine .ev (ev_len rfl Try.underlying36 rfl) rfl rfl rfl ?_
 refine .ev (ev_cmp rfl rfl rfl rfl) rfl rfl rfl ?_
 refine .go (fun _ _ h => h) ?_
 refine .condI rfl bD (fun h8 => ?_) (fun h8 => ?_)
 ·
  refine .skipgo (fun _ _ h => h) ?_
  refine .block ?_
  refine .seq ?_
  refine .region ?_
  refine .ev (ev_mv rfl rfl) rfl rfl rfl ?_
  refine .ev (ev_mv rfl rfl) rfl rfl rfl ?_
  refine .ev (ev_slc rfl Try.underlying36 ty5 rfl (.s rfl (by omega)) .n (by omega) (by omega)) rfl rfl rfl ?_
  refine .cons (st_lendk rfl rfl rfl rfl hbd46 rfl .n (.c (.t .h) .n) (fun w_ hw => rune (cutA (some ⟨b1, 0, none⟩) c2 (i).toNat 1) (s.size - (i).toNat) (c2 - (i).toNat) (((bs s).take s.size).drop (i).toNat) _ _ (Fr.view (Fr.lendo hw 0 rfl (by first | ((try simp only [LL]) <;> omega) | omega | (simp <;> omega))) (i).toNat s.size 1 rfl (by omega)) (by first | ((try simp only [LL]) <;> omega) | omega | (simp <;> omega)) (rng_drop (rng_take (bs_range _) _) _) (by omega)) ?_)
  refine .ev (ev_as rfl rfl) rfl rfl rfl ?_
  refine .go (fun _ _ h => h) ?_
  refine .seq ?_
  have hrb := rune_bd (s := s) (i := i) q_0 (by omega)
  refine .region ?_
  refine .ev (ev_mv rfl rfl) rfl rfl rfl ?_
  refine .ev (ev_mv rfl rfl) rfl rfl rfl ?_
  refine .ev (ev_ix rfl Try.underlying36 ty5 rfl rfl (by omega) (by omega) (ro_adr (i := i) 1 rfl (by omega) (by first | ((try simp only [LL]) <;> omega) | omega | (simp <;> omega)))) rfl rfl rfl ?_
  refine .ev (ev_ld1 rfl ty5 rfl (At.elem1 (ro_el (E := eY) (l := (bs s)) (i := i) 1 rfl (by omega) (by first | ((try simp only [LL]) <;> omega) | omega | (simp <;> omega))) 0 rfl)) rfl rfl rfl ?_
  refine .ev (ev_as rfl rfl) rfl rfl rfl ?_
  refine .go (fun _ _ h => h) ?_
  refine .seq ?_
  refine .block ?_
  refine .seq ?_
  refine .region ?_
  refine .ev (ev_mv rfl rfl) rfl rfl rfl ?_
  refine .ev (ev_cmp rfl rfl rfl rfl) rfl rfl rfl ?_
  refine .ev (ev_as rfl rfl) rfl rfl rfl ?_
  refine .go (fun _ _ h => h) ?_
  refine .condI rfl bE (fun h9 => ?_) (fun h9 => ?_)
  ·
   refine .seq ?_
   refine .region ?_
   refine .ev (ev_mv rfl rfl) rfl rfl rfl ?_
   refine .cons (st_lit eY (e := 5) (l := [239, 191, 189]) rfl rfl rfl rfl (by kernel_rfl) rfl rfl (fun w => by kernel_rfl) (fun b10 => ?_))
   refine .cons (st_app (E := eY) (m := [239, 191, 189]) rfl rfl rfl rfl Try.underlying36 ai5 rfl rfl rfl (.t .h) (by first | rfl | omega | simp) (row_src 0 rfl) (by first | ((try simp only [LL]) <;> omega) | omega | (simp <;> omega)) rfl (fun v11 => ?_))
   refine .ev (ev_as rfl rfl) rfl rfl rfl ?_
   refine .go (fun _ _ h => h) ?_
   refine .region ?_
   refine .ev (ev_as rfl rfl) rfl rfl rfl ?_
   refine .go (fun _ _ h => h) ?_
   refine .region ?_
   refine .ev (ev_mv rfl rfl) rfl rfl rfl ?_
   refine .ev (ev_mv rfl rfl) rfl rfl rfl ?_
   refine .ev (ev_add rfl rfl rfl (r := (i + 1)) rfl (by omega) (by omega)) rfl rfl rfl ?_
   refine .ev (ev_as rfl rfl) rfl rfl rfl ?_
   exact SP.nil (SQ.roundb (X := Int × (List Int) × Value) (x := (i, O, U)) ⟨(i + 1), (O ++ [239, 191, 189]), v11⟩ (by exact ⟨by omega, by omega, quo_go q_2 q_0 (by omega) (by omega) (qg_bad (by assumption)), by simp only [List.length_append, List.length_cons, List.length_nil, List.length_take, List.length_drop]; omega⟩) (by dsimp only; omega) (Sub.get (.c rfl (.c rfl (.c rfl (.c rfl .n))))) (fun w hw => hw.keep (.c .h (.c (.t .h) .n))))
  ·
   refine .seq ?_
   refine .region ?_
   refine .ev (ev_mv rfl rfl) rfl rfl rfl ?_
   refine .ev (ev_cmp rfl rfl rfl rfl) rfl rfl rfl ?_
   refine .ev (ev_mv rfl rfl) rfl rfl rfl ?_
   refine .cons (Ev.gstep (fun _ => ev_mv rfl rfl) rfl rfl rfl rfl rfl ?_)
   refine .cons (Ev.gstep (fun hb => ev_cmp rfl (lkg rfl hb) rfl rfl) rfl rfl rfl rfl rfl ?_)
   refine .ev (ev_or rfl rfl rfl rfl) rfl rfl rfl ?_
   refine .ev (ev_as rfl rfl) rfl rfl rfl ?_
   refine .go (fun _ _ h => h) ?_
   refine .condI rfl (bO bE bE) (fun h12 => ?_) (fun h12 => ?_)
   ·
    refine .region ?_
    refine .ev (ev_mv rfl rfl) rfl rfl rfl ?_
    refine .ev (ev_mv rfl rfl) rfl rfl rfl ?_
    refine .cons (st_lit eY (e := 5) (l := [92, (gt (bs s) i)]) rfl rfl rfl rfl (by kernel_rfl) rfl rfl (fun w => by kernel_rfl) (fun b13 => ?_))
    refine .cons (st_app (E := eY) (m := [92, (gt (bs s) i)]) rfl rfl rfl rfl Try.underlying36 ai5 rfl rfl rfl (.t .h) (by first | rfl | omega | simp) (row_src 0 rfl) (by first | ((try simp only [LL]) <;> omega) | omega | (simp <;> omega)) rfl (fun v14 => ?_))
    refine .ev (ev_as rfl rfl) rfl rfl rfl ?_
    refine .go (fun _ _ h => h) ?_
    refine .region ?_
    refine .ev (ev_mv rfl rfl) rfl rfl rfl ?_
    refine .ev (ev_mv rfl rfl) rfl rfl rfl ?_
    refine .ev (ev_add rfl rfl rfl (r := (i + (runeF (((bs s).take s.size).drop (i).toNat)))) rfl (by omega) (by omega)) rfl rfl rfl ?_
    refine .ev (ev_as rfl rfl) rfl rfl rfl ?_
    exact SP.nil (SQ.roundb (X := Int × (List Int) × Value) (x := (i, O, U)) ⟨(i + (runeF (((bs s).take s.size).drop (i).toNat))), (O ++ [92, (gt (bs s) i)]), v14⟩ (by exact ⟨by omega, by omega, quo_go q_2 q_0 (by omega) (by omega) (qg_mark q_0 (by assumption) (by assumption)), by simp only [List.length_append, List.length_cons, List.length_nil, List.length_take, List.length_drop]; omega⟩) (by dsimp only; omega) (Sub.get (.c rfl (.c rfl (.c rfl (.c rfl .n))))) (fun w hw => hw.keep (.c .h (.c (.t .h) .n))))
   ·
    refine .seq ?_
    refine .region ?_
    refine .ev (ev_mv rfl rfl) rfl rfl rfl ?_
    refine .ev (ev_cmp rfl rfl rfl rfl) rfl rfl rfl ?_
    refine .ev (ev_as rfl rfl) rfl rfl rfl ?_
    refine .go (fun _ _ h => h) ?_
    refine .condI rfl bD (fun h15 => ?_) (fun h15 => ?_)
    ·
     have hrg := gt_range (bs_range s) i
     unfold isB at hrg
     refine SC.draw mo [rw_ eY 5 (U) O] [] (.c .h .n) (fun _ _ _ c hc => by cases hc) (fun wf_16 hl_16 hx_16 hR_16 => ?_)
     refine SR.tk 0 rfl (by kernel_rfl) rfl rfl rfl (ev_mv rfl rfl) ?_
     refine SR.tk 1 rfl (by kernel_rfl) rfl rfl rfl (ev_mv rfl rfl) ?_
     refine SR.tk 2 rfl (by kernel_rfl) rfl rfl rfl (ev_mv rfl rfl) ?_
     refine SR.tk 3 rfl (by kernel_rfl) rfl rfl rfl (ev_quon rfl rfl rfl (by omega) (by decide) (by first | exact wrap_small (by omega) (by omega) | exact wrap_in (by omega) (by omega))) ?_
     refine SR.tk 4 rfl (by kernel_rfl) rfl rfl rfl (ev_ixs rfl Try.underlying9 rfl rfl (by omega) (by show _ < ((16 : Nat) : Int); omega)) ?_
     refine SR.tk 5 rfl (by kernel_rfl) rfl rfl rfl (ev_mv rfl rfl) ?_
     refine SR.tk 6 rfl (by kernel_rfl) rfl rfl rfl (ev_mv rfl rfl) ?_
     refine SR.tk 7 rfl (by kernel_rfl) rfl rfl rfl (ev_remn rfl rfl rfl (by omega) (by decide) ) ?_
     refine SR.tk 8 rfl (by kernel_rfl) rfl rfl rfl (ev_ixs rfl Try.underlying9 rfl rfl (by omega) (by show _ < ((16 : Nat) : Int); omega)) ?_
     refine SR.one (j := 9) (by kernel_rfl) rfl (st_lit eY (e := 5) (l := [92, 117, 48, 48, (gt (bs ⟨#[48, 49, 50, 51, 52, 53, 54, 55, 56, 57, 97, 98, 99, 100, 101, 102]⟩) ((gt (bs s) i) / 16)), (gt (bs ⟨#[48, 49, 50, 51, 52, 53, 54, 55, 56, 57, 97, 98, 99, 100, 101, 102]⟩) ((gt (bs s) i) % 16))]) rfl rfl rfl rfl (by kernel_rfl) rfl rfl (fun w => by kernel_rfl) (fun b17 => ⟨tt0, ?_⟩))
     refine SR.one (j := 10) (by kernel_rfl) rfl (st_app (E := eY) (m := [92, 117, 48, 48, (gt (bs ⟨#[48, 49, 50, 51, 52, 53, 54, 55, 56, 57, 97, 98, 99, 100, 101, 102]⟩) ((gt (bs s) i) / 16)), (gt (bs ⟨#[48, 49, 50, 51, 52, 53, 54, 55, 56, 57, 97, 98, 99, 100, 101, 102]⟩) ((gt (bs s) i) % 16))]) rfl rfl rfl rfl Try.underlying36 ai5 rfl rfl rfl (.t .h) (by first | rfl | omega | simp) (row_src 0 rfl) (by first | ((try simp only [LL]) <;> omega) | omega | (simp <;> omega)) rfl (fun v18 => ⟨tt0, ?_⟩))
     refine SR.tk 11 rfl (by kernel_rfl) rfl rfl rfl (ev_as rfl rfl) ?_
     refine SR.fin (by kernel_rfl) hl_16 hx_16 hR_16 (.c (.c .n)) ?_
     refine SQ.go (fun _ _ h => h) ?_
     refine .region ?_
     refine .ev (ev_mv rfl rfl) rfl rfl rfl ?_
     refine .ev (ev_mv rfl rfl) rfl rfl rfl ?_
     refine .ev (ev_add rfl rfl rfl (r := (i + (runeF (((bs s).take s.size).drop (i).toNat)))) rfl (by omega) (by omega)) rfl rfl rfl ?_
     refine .ev (ev_as rfl rfl) rfl rfl rfl ?_
     exact SP.nil (SQ.roundb (X := Int × (List Int) × Value) (x := (i, O, U)) ⟨(i + (runeF (((bs s).take s.size).drop (i).toNat))), (O ++ [92, 117, 48, 48, (gt (bs ⟨#[48, 49, 50, 51, 52, 53, 54, 55, 56, 57, 97, 98, 99, 100, 101, 102]⟩) ((gt (bs s) i) / 16)), (gt (bs ⟨#[48, 49, 50, 51, 52, 53, 54, 55, 56, 57, 97, 98, 99, 100, 101, 102]⟩) ((gt (bs s) i) % 16))]), v18⟩ (by exact ⟨by omega, by omega, quo_go q_2 q_0 (by omega) (by omega) (qg_low q_0 (by assumption) (by assumption) (by assumption)), by simp only [List.length_append, List.length_cons, List.length_nil, List.length_take, List.length_drop]; omega⟩) (by dsimp only; omega) (Sub.get (.c rfl (.c rfl (.c rfl (.c rfl .n))))) (fun w hw => hw.keep (.c .h (.c (.t .h) .n))))
    ·
     refine .region ?_
     refine .ev (ev_mv rfl rfl) rfl rfl rfl ?_
     refine .ev (ev_mv rfl rfl) rfl rfl rfl ?_
     refine .ev (ev_mv rfl rfl) rfl rfl rfl ?_
     refine .ev (ev_mv rfl rfl) rfl rfl rfl ?_
     refine .ev (ev_mv rfl rfl) rfl rfl rfl ?_
     refine .ev (ev_add rfl rfl rfl (r := (i + (runeF (((bs s).take s.size).drop (i).toNat)))) rfl (by omega) (by omega)) rfl rfl rfl ?_
     refine .ev (ev_slc rfl Try.underlying36 ty5 rfl (.s rfl (by omega)) (.s rfl (by omega)) (by omega) (by omega)) rfl rfl rfl ?_
     refine .cons (st_app (E := eY) (m := (((bs s).take ((i + (runeF (((bs s).take s.size).drop (i).toNat)))).toNat).drop (i).toNat)) rfl rfl rfl rfl Try.underlying36 ai5 rfl rfl rfl .h (by (try simp only [List.length_take, List.length_drop]) <;> omega) (srcv 1 rfl (fun _ h_ => Fr.view (Fr.of_ro h_ (fun _ h => h) (by first | ((try simp only [LL]) <;> omega) | omega | (simp <;> omega))) (i).toNat ((i + (runeF (((bs s).take s.size).drop (i).toNat)))).toNat 1 rfl (by omega))) (by first | ((try simp only [LL]) <;> omega) | omega | (simp <;> omega)) rfl (fun v19 => ?_))
     refine .ev (ev_as rfl rfl) rfl rfl rfl ?_
     refine .go (fun _ _ h => h) ?_
     refine .region ?_
     refine .ev (ev_mv rfl rfl) rfl rfl rfl ?_
     refine .ev (ev_mv rfl rfl) rfl rfl rfl ?_
     refine .ev (ev_add rfl rfl rfl (r := (i + (runeF (((bs s).take s.size).drop (i).toNat)))) rfl (by omega) (by omega)) rfl rfl rfl ?_
     refine .ev (ev_as rfl rfl) rfl rfl rfl ?_
     exact SP.nil (SQ.roundb (X := Int × (List Int) × Value) (x := (i, O, U)) ⟨(i + (runeF (((bs s).take s.size).drop (i).toNat))), (O ++ (((bs s).take ((i + (runeF (((bs s).take s.size).drop (i).toNat)))).toNat).drop (i).toNat)), v19⟩ (by exact ⟨by omega, by omega, quo_go q_2 q_0 (by omega) (by omega) (qg_raw q_0 (by assumption) (by assumption) (by assumption) (by omega) rfl), by simp only [List.length_append, List.length_cons, List.length_nil, List.length_take, List.length_drop]; omega⟩) (by dsimp only; omega) (Sub.get (.c rfl (.c rfl (.c rfl (.c rfl .n))))) (fun w hw => hw.keep (.c .h (.c .h .n))))
 ·
  refine .exit (fun _ _ h => h) ?_
  refine .seq ?_
  refine .region ?_
  refine .ev (ev_mv rfl rfl) rfl rfl rfl ?_
  refine .cons (st_lit eY (e := 5) (l := [34]) rfl rfl rfl rfl (by kernel_rfl) rfl rfl (fun w => by kernel_rfl) (fun b20 => ?_))
  refine .cons (st_app (E := eY) (m := [34]) rfl rfl rfl rfl Try.underlying36 ai5 rfl rfl rfl (.t .h) (by first | rfl | omega | simp) (row_src 0 rfl) (by first | ((try simp only [LL]) <;> omega) | omega | (simp <;> omega)) rfl (fun v21 => ?_))
  refine .ev (ev_as rfl rfl) rfl rfl rfl ?_
  refine .go (fun _ _ h => h) ?_
  exact .ret (fun _ _ h => h) (ret1 Try.results52 rfl (.c .h .n) ⟨v21, rfl, (by rw [quo_end q_2 (by omega), quoteF]; simp)⟩)
theorem numtxt0 (a : Int) (S : Nat → Prop) (wf : World) (h0 : 0 ≤ a) (h1 : a ≤ 9223372036854775807) :
  TR0 Try.prog 51 [.int .i64 a] [] S wf (fun v_ C_ => v_ = .string (numS a) ∧ C_ = []) := by
 refine TR.mk Try.func51 rfl Try.ntmps51 rfl rfl (fun w_ => ?_)
 refine .seq ?_
 refine .region ?_
 refine .ev (ev_as rfl rfl) rfl rfl rfl ?_
 refine .go (fun _ _ h => h) ?_
 refine .seq ?_
 refine .seq ?_
 refine .region ?_
 refine .ev (ev_mv rfl rfl) rfl rfl rfl ?_
 refine .ev (ev_cmp rfl rfl rfl rfl) rfl rfl rfl ?_
 refine .go (fun _ _ h => h) ?_
 refine .condI rfl bE (fun h1 => ?_) (fun h1 => ?_)
 ·
  exfalso; omega
 ·
  refine .skipgo (fun _ _ h => h) ?_
  refine .seq ?_
  refine .seq ?_
  refine .region ?_
  refine .ev (ev_mv rfl rfl) rfl rfl rfl ?_
  refine .ev (ev_cmp rfl rfl rfl rfl) rfl rfl rfl ?_
  refine .go (fun _ _ h => h) ?_
  refine .condI rfl bD (fun h2 => ?_) (fun h2 => ?_)
  ·
   exfalso; omega
  ·
   refine .skipgo (fun _ _ h => h) ?_
   refine .seq ?_
   refine .region ?_
   refine .ev (ev_as rfl rfl) rfl rfl rfl ?_
   refine .go (fun _ _ h => h) ?_
   refine .block ?_
   refine .loop (X := Int × ByteArray) (fun ⟨x, s⟩ => 0 ≤ x ∧ x ≤ a ∧ decL x.toNat ++ bs s = decL a.toNat ∧ (s.size : Int) + x ≤ a ∧ (s.size = 0 ∨ 1 ≤ x)) (fun ⟨x, s⟩ => [(0, .int .i64 x), (3, .string s)]) (fun ⟨x, s⟩ => []) (fun _ => S) (fun _ => wf) (fun ⟨x, s⟩ => x.toNat) (fun a_ w_ hs_ hw_ => ⟨⟨a, ⟨#[]⟩⟩, (by exact ⟨by omega, by omega, by rw [show bs ⟨#[]⟩ = [] from rfl, List.append_nil], by show ((0 : Nat) : Int) + a ≤ a; omega, .inl rfl⟩), hs_.mono (Sub.get (.c rfl (.c rfl .n))), hw_.keep .n⟩) (fun ⟨x, s⟩ ⟨q_0, q_1, q_2, q_3, q_4⟩ => ?_)
   show SC _ _ _ _ _ ⟨[(0, .int .i64 x), (3, .string s)], [], S, wf⟩
   refine .block ?_
   refine .seq ?_
   refine .region ?_
   refine .ev (ev_mv rfl rfl) rfl rfl rfl ?_
   refine .ev (ev_remn rfl rfl rfl (by omega) (by decide) ) rfl rfl rfl ?_
   refine .ev (ev_add rfl rfl rfl (r := (48 + (x % 10))) rfl (by omega) (by omega)) rfl rfl rfl ?_
   refine .ev (ev_cv rfl Try.underlying3 Try.underlying5 rfl (wrap_small (by omega) (by omega))) rfl rfl rfl ?_
   refine .cons (st_lit eY (e := 5) (l := [(48 + (x % 10))]) rfl rfl rfl rfl (by kernel_rfl) rfl rfl (fun w => by kernel_rfl) (fun b3 => ?_))
   refine .ev (ev_b2s (l := [(48 + (x % 10))]) rfl Try.underlying36 Try.underlying5 Try.underlying9 rfl (by first | rfl | assumption | omega | ((try simp only [List.length_take, List.length_drop, List.length_append, List.length_cons, List.length_nil]) <;> omega)) (row_src 0 rfl)) rfl rfl rfl ?_
   refine .ev (ev_mv rfl rfl) rfl rfl rfl ?_
   refine .ev (ev_sadd rfl rfl rfl (by first | omega | (simp only [mkS_size, List.length_cons, List.length_nil]; omega))) rfl rfl rfl ?_
   refine .ev (ev_as rfl rfl) rfl rfl rfl ?_
   refine .go (fun _ _ h => h) ?_
   refine .seq ?_
   refine .region ?_
   refine .ev (ev_mv rfl rfl) rfl rfl rfl ?_
   refine .ev (ev_quon rfl rfl rfl (by omega) (by decide) (by first | exact wrap_small (by omega) (by omega) | exact wrap_in (by omega) (by omega))) rfl rfl rfl ?_
   refine .ev (ev_as rfl rfl) rfl rfl rfl ?_
   refine .go (fun _ _ h => h) ?_
   refine .seq ?_
   refine .region ?_
   refine .ev (ev_mv rfl rfl) rfl rfl rfl ?_
   refine .ev (ev_cmp rfl rfl rfl rfl) rfl rfl rfl ?_
   refine .go (fun _ _ h => h) ?_
   refine .condI rfl bE (fun h4 => ?_) (fun h4 => ?_)
   ·
    refine .seq ?_
    refine .region ?_
    refine .ev (ev_mv rfl rfl) rfl rfl rfl ?_
    refine .ev (ev_as rfl rfl) rfl rfl rfl ?_
    refine .go (fun _ _ h => h) ?_
    exact .ret (fun _ _ h => h) (ret1 Try.results51 rfl .n ⟨(congrArg Value.string (num_done q_2 (by omega) (by omega) (by omega))), rfl⟩)
   ·
    exact .skip (SQ.roundb (X := Int × ByteArray) (x := (x, s)) ⟨(x / 10), ((mkS [(48 + (x % 10))]) ++ s)⟩ (by exact ⟨by omega, by omega, num_next q_2 (by omega) (by assumption), by rw [dig_size]; omega, .inr (by omega)⟩) (by dsimp only; omega) (Sub.get (.c rfl (.c rfl .n))) (fun w hw => hw.keep .n))
theorem numtxt (a : Int) (S : Nat → Prop) (wf : World) (h_a : -9223372036854775808 ≤ a ∧ a ≤ 9223372036854775807) :
  TR0 Try.prog 51 [.int .i64 a] [] S wf (fun v_ C_ => v_ = .string (numS a) ∧ C_ = []) := by
 refine TR.mk Try.func51 rfl Try.ntmps51 rfl rfl (fun w_ => ?_)
 refine .seq ?_
 refine .region ?_
 refine .ev (ev_as rfl rfl) rfl rfl rfl ?_
 refine .go (fun _ _ h => h) ?_
 refine .seq ?_
 refine .seq ?_
 refine .region ?_
 refine .ev (ev_mv rfl rfl) rfl rfl rfl ?_
 refine .ev (ev_cmp rfl rfl rfl rfl) rfl rfl rfl ?_
 refine .go (fun _ _ h => h) ?_
 refine .condI rfl bE (fun h1 => ?_) (fun h1 => ?_)
 ·
  refine .seq ?_
  refine .region ?_
  refine .ev (ev_as rfl rfl) rfl rfl rfl ?_
  refine .go (fun _ _ h => h) ?_
  exact .ret (fun _ _ h => h) (ret1 Try.results51 rfl .n ⟨(congrArg Value.string (by rw [show a = -9223372036854775808 by omega]; exact num_min)), rfl⟩)
 ·
  refine .skipgo (fun _ _ h => h) ?_
  refine .seq ?_
  refine .seq ?_
  refine .region ?_
  refine .ev (ev_mv rfl rfl) rfl rfl rfl ?_
  refine .ev (ev_cmp rfl rfl rfl rfl) rfl rfl rfl ?_
  refine .go (fun _ _ h => h) ?_
  refine .condI rfl bD (fun h2 => ?_) (fun h2 => ?_)
  ·
   refine .seq ?_
   have hns := numS_size (a := -a) (by omega) (by omega)
   refine .region ?_
   refine .ev (ev_mv rfl rfl) rfl rfl rfl ?_
   refine .ev (ev_neg rfl rfl (by omega) (by omega)) rfl rfl rfl ?_
   refine .cons (st_callk rfl rfl rfl rfl hbd51 rfl .n (numtxt0 (-a) _ _ (by omega) (by omega)) ?_)
   refine .ev (ev_sadd rfl rfl rfl (by show (((1 : Nat) + (_ : Nat) : Nat) : Int) ≤ 9223372036854775807; first | omega | (simp only [mkS_size, List.length_cons, List.length_nil]; omega))) rfl rfl rfl ?_
   refine .ev (ev_as rfl rfl) rfl rfl rfl ?_
   refine .go (fun _ _ h => h) ?_
   exact .ret (fun _ _ h => h) (ret1 Try.results51 rfl .n ⟨(congrArg Value.string (num_neg (by omega))), rfl⟩)
  ·
   refine .skipgo (fun _ _ h => h) ?_
   refine .seq ?_
   refine .region ?_
   refine .ev (ev_as rfl rfl) rfl rfl rfl ?_
   refine .go (fun _ _ h => h) ?_
   refine .block ?_
   refine .loop (X := Int × ByteArray) (fun ⟨x, s⟩ => 0 ≤ x ∧ x ≤ a ∧ decL x.toNat ++ bs s = decL a.toNat ∧ (s.size : Int) + x ≤ a ∧ (s.size = 0 ∨ 1 ≤ x)) (fun ⟨x, s⟩ => [(0, .int .i64 x), (3, .string s)]) (fun ⟨x, s⟩ => []) (fun _ => S) (fun _ => wf) (fun ⟨x, s⟩ => x.toNat) (fun a_ w_ hs_ hw_ => ⟨⟨a, ⟨#[]⟩⟩, (by exact ⟨by omega, by omega, by rw [show bs ⟨#[]⟩ = [] from rfl, List.append_nil], by show ((0 : Nat) : Int) + a ≤ a; omega, .inl rfl⟩), hs_.mono (Sub.get (.c rfl (.c rfl .n))), hw_.keep .n⟩) (fun ⟨x, s⟩ ⟨q_0, q_1, q_2, q_3, q_4⟩ => ?_)
   show SC _ _ _ _ _ ⟨[(0, .int .i64 x), (3, .string s)], [], S, wf⟩
   refine .block ?_
   refine .seq ?_
   refine .region ?_
   refine .ev (ev_mv rfl rfl) rfl rfl rfl ?_
   refine .ev (ev_remn rfl rfl rfl (by omega) (by decide) ) rfl rfl rfl ?_
   refine .ev (ev_add rfl rfl rfl (r := (48 + (x % 10))) rfl (by omega) (by omega)) rfl rfl rfl ?_
   refine .ev (ev_cv rfl Try.underlying3 Try.underlying5 rfl (wrap_small (by omega) (by omega))) rfl rfl rfl ?_
   refine .cons (st_lit eY (e := 5) (l := [(48 + (x % 10))]) rfl rfl rfl rfl (by kernel_rfl) rfl rfl (fun w => by kernel_rfl) (fun b3 => ?_))
   refine .ev (ev_b2s (l := [(48 + (x % 10))]) rfl Try.underlying36 Try.underlying5 Try.underlying9 rfl (by first | rfl | assumption | omega | ((try simp only [List.length_take, List.length_drop, List.length_append, List.length_cons, List.length_nil]) <;> omega)) (row_src 0 rfl)) rfl rfl rfl ?_
   refine .ev (ev_mv rfl rfl) rfl rfl rfl ?_
   refine .ev (ev_sadd rfl rfl rfl (by first | omega | (simp only [mkS_size, List.length_cons, List.length_nil]; omega))) rfl rfl rfl ?_
   refine .ev (ev_as rfl rfl) rfl rfl rfl ?_
   refine .go (fun _ _ h => h) ?_
   refine .seq ?_
   refine .region ?_
   refine .ev (ev_mv rfl rfl) rfl rfl rfl ?_
   refine .ev (ev_quon rfl rfl rfl (by omega) (by decide) (by first | exact wrap_small (by omega) (by omega) | exact wrap_in (by omega) (by omega))) rfl rfl rfl ?_
   refine .ev (ev_as rfl rfl) rfl rfl rfl ?_
   refine .go (fun _ _ h => h) ?_
   refine .seq ?_
   refine .region ?_
   refine .ev (ev_mv rfl rfl) rfl rfl rfl ?_
   refine .ev (ev_cmp rfl rfl rfl rfl) rfl rfl rfl ?_
   refine .go (fun _ _ h => h) ?_
   refine .condI rfl bE (fun h4 => ?_) (fun h4 => ?_)
   ·
    refine .seq ?_
    refine .region ?_
    refine .ev (ev_mv rfl rfl) rfl rfl rfl ?_
    refine .ev (ev_as rfl rfl) rfl rfl rfl ?_
    refine .go (fun _ _ h => h) ?_
    exact .ret (fun _ _ h => h) (ret1 Try.results51 rfl .n ⟨(congrArg Value.string (num_done q_2 (by omega) (by omega) (by omega))), rfl⟩)
   ·
    exact .skip (SQ.roundb (X := Int × ByteArray) (x := (x, s)) ⟨(x / 10), ((mkS [(48 + (x % 10))]) ++ s)⟩ (by exact ⟨by omega, by omega, num_next q_2 (by omega) (by assumption), by rw [dig_size]; omega, .inr (by omega)⟩) (by dsimp only; omega) (Sub.get (.c rfl (.c rfl .n))) (fun w hw => hw.keep .n))
end Go.Proofs.Ythmkelkefmfmgaa.Sx
set_option maxRecDepth 20000
set_option maxHeartbeats 4000000
set_option linter.unusedVariables false
set_option linter.unusedSimpArgs false
namespace Go.Proofs.Ythmkelkefmfmgaa.Sx.FB
open Go Go.SX Go.Proofs
theorem fo90_1 : fo Try.prog 90 1 = some 1 := by kernel_rfl
theorem ty4 : ty Try.prog 4 = some (false, 1) := by kernel_rfl
theorem fo90_0 : fo Try.prog 90 0 = some 0 := by kernel_rfl
theorem ty88 : ty Try.prog 88 = some (false, 1) := by kernel_rfl
theorem fo90_2 : fo Try.prog 90 2 = some 2 := by kernel_rfl
theorem ty3 : ty Try.prog 3 = some (false, 1) := by kernel_rfl
theorem fo90_3 : fo Try.prog 90 3 = some 3 := by kernel_rfl
theorem ty9 : ty Try.prog 9 = some (false, 1) := by kernel_rfl
theorem fo90_5 : fo Try.prog 90 5 = some 5 := by kernel_rfl
theorem ty56 : ty Try.prog 56 = some (false, 1) := by kernel_rfl
theorem hbd47 : hasBody Try.prog 47 = true := by kernel_rfl
theorem hbd19 : hasBody Try.prog 19 = true := by kernel_rfl
theorem fo90_4 : fo Try.prog 90 4 = some 4 := by kernel_rfl
theorem ty82 : ty Try.prog 82 = some (false, 1) := by kernel_rfl
theorem mo : Try.prog.follows .mixedOrders = true := by kernel_rfl
theorem ai3 : (Try.prog.info? 3).map (fun i => (i.zero, i.size, i.bytes)) = some (some (.int .i64 0), 1, 8) := by kernel_rfl
theorem ty90 : ty Try.prog 90 = some (true, 6) := by kernel_rfl
theorem hbd50 : hasBody Try.prog 50 = true := by kernel_rfl
end Go.Proofs.Ythmkelkefmfmgaa.Sx.FB
namespace Go.Proofs.Ythmkelkefmfmgaa.Sx
open Go Go.SX Go.Proofs FB
theorem plain_ (k : Int) (b : Bool) (n : Int) (s : ByteArray) (nA : Option Addr) (nc : Nat) (ns : List ByteArray) (kA : Option Addr) (kc : Nat) (ks : List Int) (S : Nat → Prop) (wf : World) (hN : Fr eS S wf nA ns) (hK : Fr eZ S wf kA ks) (hs : s.size ≤ 1000000) (hns : ∀ x ∈ ns, x.size ≤ 1000000) :
  TR0 Try.prog 50 [.agg #[.int .i64 k, .bool b, .int .i64 n, .string s, .slice nA ns.length nc, .slice kA ks.length kc]] [] S wf (fun v_ C_ => ∃ (r : Bool), (r = true ↔ plainP (TN.mk k b n s ns ks)) ∧ v_ = .bool r ∧ C_ = []) := by
 have hla := hN.len
 have hlb := hK.len
 refine TR.mk Try.func50 rfl Try.ntmps50 rfl rfl (fun w_ => ?_)
 refine .seq ?_
 refine .region ?_
 refine .cons (st_boxa rfl rfl rfl rfl rfl (fun b1 => ?_))
 refine .ev (ev_as rfl rfl) rfl rfl rfl ?_
 refine .go (fun _ _ h => h) ?_
 refine .seq ?_
 refine .seq ?_
 refine .region ?_
 refine .ev (ev_fa rfl fo90_1 rfl (r := 1) rfl) rfl rfl rfl ?_
 refine .ev (ev_ld1 rfl ty4 rfl (At.own1 0 rfl rfl)) rfl rfl rfl ?_
 refine .ev (ev_mv rfl rfl) rfl rfl rfl ?_
 refine .cons (Ev.gstep (fun _ => ev_fa rfl fo90_0 rfl (r := 0) rfl) rfl rfl rfl rfl rfl ?_)
 refine .cons (Ev.gstep (fun hb => ev_ld1 rfl ty88 (lkg rfl hb) (At.own1 0 rfl rfl)) rfl rfl rfl rfl rfl ?_)
 refine .cons (Ev.gstep (fun hb => ev_cmp rfl (lkg rfl hb) rfl rfl) rfl rfl rfl rfl rfl ?_)
 refine .ev (ev_and rfl rfl rfl rfl) rfl rfl rfl ?_
 refine .ev (ev_mv rfl rfl) rfl rfl rfl ?_
 refine .cons (Ev.gstep (fun _ => ev_fa rfl fo90_2 rfl (r := 2) rfl) rfl rfl rfl rfl rfl ?_)
 refine .cons (Ev.gstep (fun hb => ev_ld1 rfl ty3 (lkg rfl hb) (At.own1 0 rfl rfl)) rfl rfl rfl rfl rfl ?_)
 refine .cons (Ev.gstep (fun hb => ev_cmp rfl (lkg rfl hb) rfl rfl) rfl rfl rfl rfl rfl ?_)
 refine .cons (Ev.gstep (fun hb => ev_mv rfl (lkg rfl hb)) rfl rfl rfl rfl rfl ?_)
 rcases Bool.eq_false_or_eq_true (b && (k != 2)) with hb2 | hb2
 ·
  have hb2_ := bT (bA bV bNE) hb2
  refine SP.reslotv (t := 16) rfl (gv_off hb2) ?_
  refine .cons (.offu rfl rfl rfl rfl rfl ?_)
  refine .cons (.offu rfl rfl rfl rfl rfl ?_)
  refine .cons (.offu rfl rfl rfl rfl rfl ?_)
  refine SP.reslot (t := 12) rfl hb2 ?_
  refine .cons (.off rfl rfl rfl rfl rfl rfl ?_)
  refine .ev (ev_pickt rfl rfl rfl rfl) rfl rfl rfl ?_
  refine .ev (ev_mv rfl rfl) rfl rfl rfl ?_
  refine .cons (.off rfl rfl rfl rfl rfl rfl ?_)
  refine .cons (.off rfl rfl rfl rfl rfl rfl ?_)
  refine .cons (.off rfl rfl rfl rfl rfl rfl ?_)
  refine .cons (.off rfl rfl rfl rfl rfl rfl ?_)
  refine .cons (.offu rfl rfl rfl rfl rfl ?_)
  refine .cons (.offu rfl rfl rfl rfl rfl ?_)
  refine .cons (.offu rfl rfl rfl rfl rfl ?_)
  refine .cons (.off rfl rfl rfl rfl rfl rfl ?_)
  refine .ev (ev_pickt rfl rfl rfl rfl) rfl rfl rfl ?_
  refine .ev (ev_mv rfl rfl) rfl rfl rfl ?_
  refine .cons (.off rfl rfl rfl rfl rfl rfl ?_)
  refine .cons (.off rfl rfl rfl rfl rfl rfl ?_)
  refine .cons (.off rfl rfl rfl rfl rfl rfl ?_)
  refine .cons (.off rfl rfl rfl rfl rfl rfl ?_)
  refine .cons (.off rfl rfl rfl rfl rfl rfl ?_)
  refine .cons (.offu rfl rfl rfl rfl rfl ?_)
  refine .cons (.offu rfl rfl rfl rfl rfl ?_)
  refine .cons (.offu rfl rfl rfl rfl rfl ?_)
  refine .cons (.off rfl rfl rfl rfl rfl rfl ?_)
  refine .cons (.off rfl rfl rfl rfl rfl rfl ?_)
  refine .cons (.offu rfl rfl rfl rfl rfl ?_)
  refine .cons (.offu rfl rfl rfl rfl rfl ?_)
  refine .cons (.offu rfl rfl rfl rfl rfl ?_)
  refine .cons (.off rfl rfl rfl rfl rfl rfl ?_)
  refine .ev (ev_pickt rfl rfl rfl rfl) rfl rfl rfl ?_
  refine .go (fun _ _ h => h) ?_
  refine .cond_t rfl ?_
  refine .seq ?_
  refine .region ?_
  refine .ev (ev_as rfl rfl) rfl rfl rfl ?_
  refine .go (fun _ _ h => h) ?_
  exact .ret (fun _ _ h => h) (ret1 Try.results50 rfl .n ⟨false, (pl_1 (v := (TN.mk k b n s ns ks)) (by first | exact .inl (.inl (.inl ‹_›)) | exact .inl (.inl (.inr ‹_›)) | exact .inl (.inr ‹_›) | exact .inr ‹_› | assumption)), rfl, rfl⟩)
 ·
  have hb2_ := bF (bA bV bNE) hb2
  refine SP.reslotv (t := 16) rfl (gv_on hb2) ?_
  refine .cons (Ev.gstep (fun _ => ev_fa rfl fo90_0 rfl (r := 0) rfl) rfl rfl rfl rfl rfl ?_)
  refine .cons (Ev.gstep (fun hb => ev_ld1 rfl ty88 (lkg rfl hb) (At.own1 0 rfl rfl)) rfl rfl rfl rfl rfl ?_)
  refine .cons (Ev.gstep (fun hb => ev_cmp rfl (lkg rfl hb) rfl rfl) rfl rfl rfl rfl rfl ?_)
  refine SP.reslot (t := 12) rfl hb2 ?_
  refine .cons (.on rfl rfl rfl (Ev.step (ev_and rfl rfl rfl rfl) rfl rfl rfl ?_))
  refine .ev (ev_pickf rfl rfl rfl rfl) rfl rfl rfl ?_
  refine .ev (ev_mv rfl rfl) rfl rfl rfl ?_
  refine .cons (Ev.gstep (fun _ => ev_fa rfl fo90_3 rfl (r := 3) rfl) rfl rfl rfl rfl rfl ?_)
  refine .cons (Ev.gstep (fun hb => ev_ld1 rfl ty9 (lkg rfl hb) (At.own1 0 rfl rfl)) rfl rfl rfl rfl rfl ?_)
  refine .cons (Ev.gstep (fun hb => ev_scmp rfl (lkg rfl hb) rfl rfl) rfl rfl rfl rfl rfl ?_)
  refine .cons (Ev.gstep (fun hb => ev_mv rfl (lkg rfl hb)) rfl rfl rfl rfl rfl ?_)
  rcases Bool.eq_false_or_eq_true ((n != 0) && (k != 3)) with hb3 | hb3
  ·
   have hb3_ := bT (bA bNE bNE) hb3
   refine SP.reslotv (t := 26) rfl (gv_off hb3) ?_
   refine .cons (.offu rfl rfl rfl rfl rfl ?_)
   refine .cons (.offu rfl rfl rfl rfl rfl ?_)
   refine .cons (.offu rfl rfl rfl rfl rfl ?_)
   refine SP.reslot (t := 22) rfl hb3 ?_
   refine .cons (.off rfl rfl rfl rfl rfl rfl ?_)
   refine .ev (ev_pickt rfl rfl rfl rfl) rfl rfl rfl ?_
   refine .ev (ev_mv rfl rfl) rfl rfl rfl ?_
   refine .cons (.off rfl rfl rfl rfl rfl rfl ?_)
   refine .cons (.off rfl rfl rfl rfl rfl rfl ?_)
   refine .cons (.off rfl rfl rfl rfl rfl rfl ?_)
   refine .cons (.off rfl rfl rfl rfl rfl rfl ?_)
   refine .cons (.off rfl rfl rfl rfl rfl rfl ?_)
   refine .cons (.offu rfl rfl rfl rfl rfl ?_)
   refine .cons (.offu rfl rfl rfl rfl rfl ?_)
   refine .cons (.offu rfl rfl rfl rfl rfl ?_)
   refine .cons (.off rfl rfl rfl rfl rfl rfl ?_)
   refine .cons (.off rfl rfl rfl rfl rfl rfl ?_)
   refine .cons (.offu rfl rfl rfl rfl rfl ?_)
   refine .cons (.offu rfl rfl rfl rfl rfl ?_)
   refine .cons (.offu rfl rfl rfl rfl rfl ?_)
   refine .cons (.off rfl rfl rfl rfl rfl rfl ?_)
   refine .ev (ev_pickt rfl rfl rfl rfl) rfl rfl rfl ?_
   refine .go (fun _ _ h => h) ?_
   refine .cond_t rfl ?_
   refine .seq ?_
   refine .region ?_
   refine .ev (ev_as rfl rfl) rfl rfl rfl ?_
   refine .go (fun _ _ h => h) ?_
   exact .ret (fun _ _ h => h) (ret1 Try.results50 rfl .n ⟨false, (pl_1 (v := (TN.mk k b n s ns ks)) (by first | exact .inl (.inl (.inl ‹_›)) | exact .inl (.inl (.inr ‹_›)) | exact .inl (.inr ‹_›) | exact .inr ‹_› | assumption)), rfl, rfl⟩)
  ·
   have hb3_ := bF (bA bNE bNE) hb3
   refine SP.reslotv (t := 26) rfl (gv_on hb3) ?_
   refine .cons (Ev.gstep (fun _ => ev_fa rfl fo90_0 rfl (r := 0) rfl) rfl rfl rfl rfl rfl ?_)
   refine .cons (Ev.gstep (fun hb => ev_ld1 rfl ty88 (lkg rfl hb) (At.own1 0 rfl rfl)) rfl rfl rfl rfl rfl ?_)
   refine .cons (Ev.gstep (fun hb => ev_cmp rfl (lkg rfl hb) rfl rfl) rfl rfl rfl rfl rfl ?_)
   refine SP.reslot (t := 22) rfl hb3 ?_
   refine .cons (.on rfl rfl rfl (Ev.step (ev_and rfl rfl rfl rfl) rfl rfl rfl ?_))
   refine .ev (ev_pickf rfl rfl rfl rfl) rfl rfl rfl ?_
   refine .ev (ev_mv rfl rfl) rfl rfl rfl ?_
   refine .cons (Ev.gstep (fun _ => ev_fa rfl fo90_5 rfl (r := 5) rfl) rfl rfl rfl rfl rfl ?_)
   refine .cons (Ev.gstep (fun hb => ev_ld1 rfl ty56 (lkg rfl hb) (At.own1 0 rfl rfl)) rfl rfl rfl rfl rfl ?_)
   refine .cons (Ev.gstep (fun hb => ev_len rfl Try.underlying56 (lkg rfl hb)) rfl rfl rfl rfl rfl ?_)
   refine .cons (Ev.gstep (fun hb => ev_cmp rfl (lkg rfl hb) rfl rfl) rfl rfl rfl rfl rfl ?_)
   refine .cons (Ev.gstep (fun hb => ev_mv rfl (lkg rfl hb)) rfl rfl rfl rfl rfl ?_)
   rcases Bool.eq_false_or_eq_true ((!(s.toList == (⟨#[]⟩ : ByteArray).toList)) && (k != 4)) with hb4 | hb4
   ·
    have hb4_ := bT (bA bV bNE) hb4
    refine SP.reslotv (t := 37) rfl (gv_off hb4) ?_
    refine .cons (.offu rfl rfl rfl rfl rfl ?_)
    refine .cons (.offu rfl rfl rfl rfl rfl ?_)
    refine .cons (.offu rfl rfl rfl rfl rfl ?_)
    refine SP.reslot (t := 32) rfl hb4 ?_
    refine .cons (.off rfl rfl rfl rfl rfl rfl ?_)
    refine .cons (.off rfl rfl rfl rfl rfl rfl ?_)
    refine .cons (.offu rfl rfl rfl rfl rfl ?_)
    refine .cons (.offu rfl rfl rfl rfl rfl ?_)
    refine .cons (.offu rfl rfl rfl rfl rfl ?_)
    refine .cons (.off rfl rfl rfl rfl rfl rfl ?_)
    refine .ev (ev_pickt rfl rfl rfl rfl) rfl rfl rfl ?_
    refine .go (fun _ _ h => h) ?_
    refine .cond_t rfl ?_
    refine .seq ?_
    refine .region ?_
    refine .ev (ev_as rfl rfl) rfl rfl rfl ?_
    refine .go (fun _ _ h => h) ?_
    exact .ret (fun _ _ h => h) (ret1 Try.results50 rfl .n ⟨false, (pl_1 (v := (TN.mk k b n s ns ks)) (by first | exact .inl (.inl (.inl ‹_›)) | exact .inl (.inl (.inr ‹_›)) | exact .inl (.inr ‹_›) | exact .inr ‹_› | assumption)), rfl, rfl⟩)
   ·
    have hb4_ := bF (bA bV bNE) hb4
    refine SP.reslotv (t := 37) rfl (gv_on hb4) ?_
    refine .cons (Ev.gstep (fun _ => ev_fa rfl fo90_0 rfl (r := 0) rfl) rfl rfl rfl rfl rfl ?_)
    refine .cons (Ev.gstep (fun hb => ev_ld1 rfl ty88 (lkg rfl hb) (At.own1 0 rfl rfl)) rfl rfl rfl rfl rfl ?_)
    refine .cons (Ev.gstep (fun hb => ev_cmp rfl (lkg rfl hb) rfl rfl) rfl rfl rfl rfl rfl ?_)
    refine SP.reslot (t := 32) rfl hb4 ?_
    refine .cons (.on rfl rfl rfl (Ev.step (ev_and rfl rfl rfl rfl) rfl rfl rfl ?_))
    refine .cons (.on rfl rfl rfl (Ev.step (ev_mv rfl rfl) rfl rfl rfl ?_))
    refine .cons (Ev.gstep (fun _ => ev_fa rfl fo90_0 rfl (r := 0) rfl) rfl rfl rfl rfl rfl ?_)
    refine .cons (Ev.gstep (fun hb => ev_ld1 rfl ty88 (lkg rfl hb) (At.own1 0 rfl rfl)) rfl rfl rfl rfl rfl ?_)
    refine .cons (Ev.gstep (fun hb => ev_cmp rfl (lkg rfl hb) rfl rfl) rfl rfl rfl rfl rfl ?_)
    refine .cons (.on rfl rfl rfl (Ev.step (ev_and rfl rfl rfl rfl) rfl rfl rfl ?_))
    refine .ev (ev_pickf rfl rfl rfl rfl) rfl rfl rfl ?_
    refine .go (fun _ _ h => h) ?_
    refine .condI rfl (bA (bA bD bNE) bNE) (fun h5 => ?_) (fun h5 => ?_)
    ·
     refine .seq ?_
     refine .region ?_
     refine .ev (ev_as rfl rfl) rfl rfl rfl ?_
     refine .go (fun _ _ h => h) ?_
     exact .ret (fun _ _ h => h) (ret1 Try.results50 rfl .n ⟨false, (pl_1 (v := (TN.mk k b n s ns ks)) (by first | exact .inl (.inl (.inl ‹_›)) | exact .inl (.inl (.inr ‹_›)) | exact .inl (.inr ‹_›) | exact .inr ‹_› | assumption)), rfl, rfl⟩)
    ·
     refine .skipgo (fun _ _ h => h) ?_
     refine .seq ?_
     refine .seq ?_
     have hp1 : ¬ pc1 (TN.mk k b n s ns ks) := by
      unfold pc1
      first | assumption | (rintro (((e | e) | e) | e) <;> exact absurd e (by assumption))
     refine .region ?_
     refine .ev (ev_fa rfl fo90_0 rfl (r := 0) rfl) rfl rfl rfl ?_
     refine .ev (ev_ld1 rfl ty88 rfl (At.own1 0 rfl rfl)) rfl rfl rfl ?_
     refine .ev (ev_cmp rfl rfl rfl rfl) rfl rfl rfl ?_
     refine .ev (ev_mv rfl rfl) rfl rfl rfl ?_
     refine .cons (Ev.gstep (fun _ => ev_fa rfl fo90_0 rfl (r := 0) rfl) rfl rfl rfl rfl rfl ?_)
     refine .cons (Ev.gstep (fun hb => ev_ld1 rfl ty88 (lkg rfl hb) (At.own1 0 rfl rfl)) rfl rfl rfl rfl rfl ?_)
     refine .cons (Ev.gstep (fun hb => ev_cmp rfl (lkg rfl hb) rfl rfl) rfl rfl rfl rfl rfl ?_)
     refine .ev (ev_or rfl rfl rfl rfl) rfl rfl rfl ?_
     refine .ev (ev_mv rfl rfl) rfl rfl rfl ?_
     refine .cons (Ev.gstep (fun _ => ev_fa rfl fo90_2 rfl (r := 2) rfl) rfl rfl rfl rfl rfl ?_)
     refine .cons (Ev.gstep (fun hb => ev_ld1 rfl ty3 (lkg rfl hb) (At.own1 0 rfl rfl)) rfl rfl rfl rfl rfl ?_)
     refine .cons (st_gcallk rfl rfl rfl rfl rfl rfl hbd47 (fun hb => (lkA1 (lkg rfl hb) lkA0)) .n (fun hb => have hp := bF (bO bD bD) hb; fits1 n _ _) ?_)
     refine .cons (Ev.gstep (fun hb => ev_not rfl (lkg rfl hb)) rfl rfl rfl rfl rfl ?_)
     refine .ev (ev_or rfl rfl rfl rfl) rfl rfl rfl ?_
     refine .ev (ev_mv rfl rfl) rfl rfl rfl ?_
     refine .cons (Ev.gstep (fun _ => ev_fa rfl fo90_3 rfl (r := 3) rfl) rfl rfl rfl rfl rfl ?_)
     refine .cons (Ev.gstep (fun hb => ev_ld1 rfl ty9 (lkg rfl hb) (At.own1 0 rfl rfl)) rfl rfl rfl rfl rfl ?_)
     refine .cons (st_gcallk rfl rfl rfl rfl rfl rfl hbd19 (fun hb => (lkA1 (lkg rfl hb) lkA0)) .n (fun hb => have hp := bF (bO (bO bD bD) (bN (bA bD bD))) hb; utf s _ _ (by first | omega | exact Nat.le_trans (hns _ (gt_mem (by omega) (by omega))) (by decide))) ?_)
     refine .cons (Ev.gstep (fun hb => ev_not rfl (lkg rfl hb)) rfl rfl rfl rfl rfl ?_)
     refine .ev (ev_or rfl rfl rfl rfl) rfl rfl rfl ?_
     refine .go (fun _ _ h => h) ?_
     refine .condI rfl (bO (bO (bO bD bD) (bN (bA bD bD))) (bN bV)) (fun h6 => ?_) (fun h6 => ?_)
     ·
      refine .seq ?_
      refine .region ?_
      refine .ev (ev_as rfl rfl) rfl rfl rfl ?_
      refine .go (fun _ _ h => h) ?_
      exact .ret (fun _ _ h => h) (ret1 Try.results50 rfl .n ⟨false, (pl_2 (v := (TN.mk k b n s ns ks)) (by first | exact .inl (.inl (.inl ‹_›)) | exact .inl (.inl (.inr ‹_›)) | exact .inl (.inr ‹_›) | exact .inr ‹_› | assumption)), rfl, rfl⟩)
     ·
      refine .skipgo (fun _ _ h => h) ?_
      refine .seq ?_
      refine .seq ?_
      have hp2 : ¬ pc2 (TN.mk k b n s ns ks) := by
       unfold pc2
       first | assumption | (rintro (((e | e) | e) | e) <;> exact absurd e (by assumption))
      refine .region ?_
      refine .ev (ev_fa rfl fo90_0 rfl (r := 0) rfl) rfl rfl rfl ?_
      refine .ev (ev_ld1 rfl ty88 rfl (At.own1 0 rfl rfl)) rfl rfl rfl ?_
      refine .ev (ev_cmp rfl rfl rfl rfl) rfl rfl rfl ?_
      refine .go (fun _ _ h => h) ?_
      refine .condI rfl bNE (fun h7 => ?_) (fun h7 => ?_)
      ·
       refine .seq ?_
       refine .region ?_
       refine .ev (ev_fa rfl fo90_4 rfl (r := 4) rfl) rfl rfl rfl ?_
       refine .ev (ev_ld1 rfl ty82 rfl (At.own1 0 rfl rfl)) rfl rfl rfl ?_
       refine .ev (ev_len rfl Try.underlying82 rfl) rfl rfl rfl ?_
       refine .ev (ev_cmp rfl rfl rfl rfl) rfl rfl rfl ?_
       refine .ev (ev_as rfl rfl) rfl rfl rfl ?_
       refine .go (fun _ _ h => h) ?_
       exact .ret (fun _ _ h => h) (ret1 Try.results50 rfl .n ⟨((ns.length : Int) == 0), (pl_3 (v := (TN.mk k b n s ns ks)) hp1 hp2 (by assumption) (by simp)), rfl, rfl⟩)
      ·
       refine .skipgo (fun _ _ h => h) ?_
       refine .seq ?_
       refine .seq ?_
       have hk6 := h7
       refine .region ?_
       refine .ev (ev_as rfl rfl) rfl rfl rfl ?_
       refine .go (fun _ _ h => h) ?_
       refine .block ?_
       refine .loop (X := Int) (fun i => 0 ≤ i ∧ i ≤ ns.length ∧ (∀ i' : Int, 0 ≤ i' → i' < i → utfF (bs (gt ns i')) = true ∧ ∀ j : Int, 0 ≤ j → j < i' → ¬ ((gt ns j).toList == (gt ns i').toList) = true)) (fun i => [(1, .pointer (some ⟨b1, 0, none⟩)), (3, .int .i64 i)]) (fun i => [cel b1 [.int .i64 k, .bool b, .int .i64 n, .string s, .slice nA ns.length nc, .slice kA ks.length kc] 90]) (fun _ => S) (fun _ => wf) (fun i => (ns.length - i.toNat)) (fun a_ w_ hs_ hw_ => ⟨0, (by exact ⟨by omega, by omega, fun i' a b => by omega⟩), hs_.mono (Sub.get (.c rfl (.c rfl .n))), hw_.keep (.c .h .n)⟩) (fun i ⟨q_0, q_1, q_2⟩ => ?_)
       show SC _ _ _ _ _ ⟨[(1, .pointer (some ⟨b1, 0, none⟩)), (3, .int .i64 i)], [cel b1 [.int .i64 k, .bool b, .int .i64 n, .string s, .slice nA ns.length nc, .slice kA ks.length kc] 90], S, wf⟩
       refine .seq ?_
       refine .seq ?_
       refine .region ?_
       refine .ev (ev_mv rfl rfl) rfl rfl rfl ?_
       refine .ev (ev_fa rfl fo90_4 rfl (r := 4) rfl) rfl rfl rfl ?_
       refine .ev (ev_ld1 rfl ty82 rfl (At.own1 0 rfl rfl)) rfl rfl rfl ?_
       refine .ev (ev_len rfl Try.underlying82 rfl) rfl rfl rfl ?_
       refine .ev (ev_cmp rfl rfl rfl rfl) rfl rfl rfl ?_
       refine .go (fun _ _ h => h) ?_
       refine .condI rfl bD (fun h8 => ?_) (fun h8 => ?_)
       ·
        refine .skipgo (fun _ _ h => h) ?_
        refine .seq ?_
        refine .block ?_
        refine .seq ?_
        refine .seq ?_
        refine .region ?_
        refine .ev (ev_fa rfl fo90_4 rfl (r := 4) rfl) rfl rfl rfl ?_
        refine .ev (ev_ld1 rfl ty82 rfl (At.own1 0 rfl rfl)) rfl rfl rfl ?_
        refine .ev (ev_mv rfl rfl) rfl rfl rfl ?_
        refine .ev (ev_ix rfl Try.underlying82 ty9 rfl rfl (by omega) (by omega) (fun _ _ => Fr.adr (i := i) hN (by omega) (by omega))) rfl rfl rfl ?_
        refine .ev (ev_ld1 rfl ty9 rfl (At.elem1 (At.w (Fr.el (i := i) hN (by omega) (by omega))) 0 rfl)) rfl rfl rfl ?_
        refine .cons (st_callk rfl rfl rfl rfl hbd19 rfl .n (utf (gt ns i) _ _ (by first | omega | exact Nat.le_trans (hns _ (gt_mem (by omega) (by omega))) (by decide))) ?_)
        refine .ev (ev_not rfl rfl) rfl rfl rfl ?_
        refine .go (fun _ _ h => h) ?_
        refine .condI rfl (bN bV) (fun h9 => ?_) (fun h9 => ?_)
        ·
         refine .seq ?_
         refine .region ?_
         refine .ev (ev_as rfl rfl) rfl rfl rfl ?_
         refine .go (fun _ _ h => h) ?_
         exact .ret (fun _ _ h => h) (ret1 Try.results50 rfl .n ⟨false, (pl_utf (v := (TN.mk k b n s ns ks)) hk6 q_0 (by show _ < (ns.length : Int); omega) (by simp_all)), rfl, rfl⟩)
        ·
         refine .skipgo (fun _ _ h => h) ?_
         refine .seq ?_
         refine .region ?_
         refine .ev (ev_as rfl rfl) rfl rfl rfl ?_
         refine .go (fun _ _ h => h) ?_
         refine .block ?_
         refine .loop (X := Int) (fun z => 0 ≤ z ∧ z ≤ i ∧ (∀ j : Int, 0 ≤ j → j < z → ¬ ((gt ns j).toList == (gt ns i).toList) = true)) (fun z => [(1, .pointer (some ⟨b1, 0, none⟩)), (3, .int .i64 i), (4, .int .i64 z)]) (fun z => [cel b1 [.int .i64 k, .bool b, .int .i64 n, .string s, .slice nA ns.length nc, .slice kA ks.length kc] 90]) (fun _ => S) (fun _ => wf) (fun z => (i - z).toNat) (fun a_ w_ hs_ hw_ => ⟨0, (by exact ⟨by omega, by omega, fun j a b => by omega⟩), hs_.mono (Sub.get (.c rfl (.c rfl (.c rfl .n)))), hw_.keep (.c .h .n)⟩) (fun z ⟨p_0, p_1, p_2⟩ => ?_)
         show SC _ _ _ _ _ ⟨[(1, .pointer (some ⟨b1, 0, none⟩)), (3, .int .i64 i), (4, .int .i64 z)], [cel b1 [.int .i64 k, .bool b, .int .i64 n, .string s, .slice nA ns.length nc, .slice kA ks.length kc] 90], S, wf⟩
         refine .seq ?_
         refine .seq ?_
         refine .region ?_
         refine .ev (ev_mv rfl rfl) rfl rfl rfl ?_
         refine .ev (ev_mv rfl rfl) rfl rfl rfl ?_
         refine .ev (ev_cmp rfl rfl rfl rfl) rfl rfl rfl ?_
         refine .go (fun _ _ h => h) ?_
         refine .condI rfl bD (fun h10 => ?_) (fun h10 => ?_)
         ·
          refine .skipgo (fun _ _ h => h) ?_
          refine .seq ?_
          refine .block ?_
          refine .seq ?_
          refine SC.draw mo [] [] .n (fun _ _ _ c hc => by cases hc) (fun wf_11 hl_11 hx_11 hR_11 => ?_)
          refine SR.tk 0 rfl (by kernel_rfl) rfl rfl rfl (ev_fa rfl fo90_4 rfl (r := 4) rfl) ?_
          refine SR.tk 1 rfl (by kernel_rfl) rfl rfl rfl (ev_ld1 rfl ty82 rfl (At.d (At.lent hR_11 0 rfl rfl))) ?_
          refine SR.tk 2 rfl (by kernel_rfl) rfl rfl rfl (ev_mv rfl rfl) ?_
          refine SR.tk 3 rfl (by kernel_rfl) rfl rfl rfl (ev_ix rfl Try.underlying82 ty9 rfl rfl (by omega) (by omega) (fun _ _ => Fr.adr (i := z) (Fr.ext hN hx_11) (by omega) (by omega))) ?_
          refine SR.tk 4 rfl (by kernel_rfl) rfl rfl rfl (ev_ld1 rfl ty9 rfl (At.elem1 (At.d (Fr.el (i := z) (Fr.ext hN hx_11) (by omega) (by omega))) 0 rfl)) ?_
          refine SR.tk 5 rfl (by kernel_rfl) rfl rfl rfl (ev_fa rfl fo90_4 rfl (r := 4) rfl) ?_
          refine SR.tk 6 rfl (by kernel_rfl) rfl rfl rfl (ev_ld1 rfl ty82 rfl (At.d (At.lent hR_11 0 rfl rfl))) ?_
          refine SR.tk 7 rfl (by kernel_rfl) rfl rfl rfl (ev_mv rfl rfl) ?_
          refine SR.tk 8 rfl (by kernel_rfl) rfl rfl rfl (ev_ix rfl Try.underlying82 ty9 rfl rfl (by omega) (by omega) (fun _ _ => Fr.adr (i := i) (Fr.ext hN hx_11) (by omega) (by omega))) ?_
          refine SR.tk 9 rfl (by kernel_rfl) rfl rfl rfl (ev_ld1 rfl ty9 rfl (At.elem1 (At.d (Fr.el (i := i) (Fr.ext hN hx_11) (by omega) (by omega))) 0 rfl)) ?_
          refine SR.tk 10 rfl (by kernel_rfl) rfl rfl rfl (ev_scmp rfl rfl rfl rfl) ?_
          refine SR.fin (by kernel_rfl) hl_11 hx_11 hR_11 .n ?_
          refine SQ.go (fun _ _ h => h) ?_
          refine .condI rfl bV (fun h12 => ?_) (fun h12 => ?_)
          ·
           refine .seq ?_
           refine .region ?_
           refine .ev (ev_as rfl rfl) rfl rfl rfl ?_
           refine .go (fun _ _ h => h) ?_
           exact .ret (fun _ _ h => h) (ret1 Try.results50 rfl .n ⟨false, (pl_twice (v := (TN.mk k b n s ns ks)) hk6 q_0 (by show _ < (ns.length : Int); omega) p_0 (by omega) (by assumption)), rfl, rfl⟩)
          ·
           refine .skipgo (fun _ _ h => h) ?_
           refine .region ?_
           refine .ev (ev_mv rfl rfl) rfl rfl rfl ?_
           refine .ev (ev_add rfl rfl rfl (r := (z + 1)) rfl (by omega) (by omega)) rfl rfl rfl ?_
           refine .ev (ev_as rfl rfl) rfl rfl rfl ?_
           exact SP.nil (SQ.roundb (X := Int) (x := (z)) (z + 1) (by exact ⟨by omega, by omega, pl_step p_2 (by assumption)⟩) (by show (_ : Nat) < _; omega) (Sub.get (.c rfl (.c rfl (.c rfl .n)))) (fun w hw => hw.keep (.c .h .n)))
         ·
          refine .exit (fun _ _ h => h) ?_
          refine .region ?_
          refine .ev (ev_mv rfl rfl) rfl rfl rfl ?_
          refine .ev (ev_add rfl rfl rfl (r := (i + 1)) rfl (by omega) (by omega)) rfl rfl rfl ?_
          refine .ev (ev_as rfl rfl) rfl rfl rfl ?_
          exact SP.nil (SQ.roundb (X := Int) (x := (i)) (i + 1) (by exact ⟨by omega, by omega, pl_next q_2 (by simp_all) p_2 (by omega)⟩) (by show (_ : Nat) < _; omega) (Sub.get (.c rfl (.c rfl .n))) (fun w hw => hw.keep (.c .h .n)))
       ·
        refine .exit (fun _ _ h => h) ?_
        refine .seq ?_
        refine .region ?_
        refine .ev (ev_fa rfl fo90_4 rfl (r := 4) rfl) rfl rfl rfl ?_
        refine .ev (ev_ld1 rfl ty82 rfl (At.own1 0 rfl rfl)) rfl rfl rfl ?_
        refine .ev (ev_len rfl Try.underlying82 rfl) rfl rfl rfl ?_
        refine .ev (ev_fa rfl fo90_5 rfl (r := 5) rfl) rfl rfl rfl ?_
        refine .ev (ev_ld1 rfl ty56 rfl (At.own1 0 rfl rfl)) rfl rfl rfl ?_
        refine .ev (ev_len rfl Try.underlying56 rfl) rfl rfl rfl ?_
        refine .ev (ev_cmp rfl rfl rfl rfl) rfl rfl rfl ?_
        refine .ev (ev_as rfl rfl) rfl rfl rfl ?_
        refine .go (fun _ _ h => h) ?_
        exact .ret (fun _ _ h => h) (ret1 Try.results50 rfl .n ⟨((ns.length : Int) == (ks.length : Int)), (pl_end (v := (TN.mk k b n s ns ks)) hp1 hp2 hk6 q_2 (by show ¬ _ < (ns.length : Int); omega) (by simp)), rfl, rfl⟩)
theorem check_ (A : Option Addr) (c : Nat) (l : List TV) (S : Nat → Prop) (wf : World) (hA : Fr eTV S wf A l) (hN : NT S wf l) (hB : ∀ t ∈ l, TB t.v) :
  TR0 Try.prog 29 [.slice A l.length c] [] S wf (fun v_ C_ => v_ = .int .i64 (checkF (vs l)) ∧ C_ = []) := by
 have hla := hA.len
 refine TR.mk Try.func29 rfl Try.ntmps29 rfl rfl (fun w_ => ?_)
 refine .seq ?_
 refine .region ?_
 refine .ev (ev_as rfl rfl) rfl rfl rfl ?_
 refine .go (fun _ _ h => h) ?_
 refine .seq ?_
 refine .seq ?_
 refine .region ?_
 refine .ev (ev_mv rfl rfl) rfl rfl rfl ?_
 refine .ev (ev_len rfl Try.underlying34 rfl) rfl rfl rfl ?_
 refine .ev (ev_cmp rfl rfl rfl rfl) rfl rfl rfl ?_
 refine .go (fun _ _ h => h) ?_
 refine .condI rfl bE (fun h1 => ?_) (fun h1 => ?_)
 ·
  refine .seq ?_
  refine .region ?_
  refine .ev (ev_as rfl rfl) rfl rfl rfl ?_
  refine .go (fun _ _ h => h) ?_
  exact .ret (fun _ _ h => h) (ret1 Try.results29 rfl .n ⟨(congrArg (Value.int .i64) (ck_0 (by omega))), rfl⟩)
 ·
  refine .skipgo (fun _ _ h => h) ?_
  refine .seq ?_
  refine .seq ?_
  refine .region ?_
  refine .ev (ev_mv rfl rfl) rfl rfl rfl ?_
  refine .ev (ev_len rfl Try.underlying34 rfl) rfl rfl rfl ?_
  refine .ev (ev_cmp rfl rfl rfl rfl) rfl rfl rfl ?_
  refine .go (fun _ _ h => h) ?_
  refine .condI rfl bD (fun h2 => ?_) (fun h2 => ?_)
  ·
   refine .seq ?_
   refine .region ?_
   refine .ev (ev_as rfl rfl) rfl rfl rfl ?_
   refine .go (fun _ _ h => h) ?_
   exact .ret (fun _ _ h => h) (ret1 Try.results29 rfl .n ⟨(congrArg (Value.int .i64) (ck_27 (by omega) (by omega))), rfl⟩)
  ·
   refine .skipgo (fun _ _ h => h) ?_
   refine .seq ?_
   refine .region ?_
   refine .ev (ev_mv rfl rfl) rfl rfl rfl ?_
   refine .ev (ev_len rfl Try.underlying34 rfl) rfl rfl rfl ?_
   refine .cons (st_mkints (q := .i64) (n := l.length) rfl rfl rfl rfl Try.underlying56 ai3 rfl rfl rfl (by omega) rfl (fun b3 => ?_))
   refine .ev (ev_as rfl rfl) rfl rfl rfl ?_
   refine .go (fun _ _ h => h) ?_
   refine .seq ?_
   refine .region ?_
   refine .ev (ev_mv rfl rfl) rfl rfl rfl ?_
   refine .ev (ev_len rfl Try.underlying34 rfl) rfl rfl rfl ?_
   refine .cons (st_mkints (q := .i64) (n := l.length) rfl rfl rfl rfl Try.underlying56 ai3 rfl rfl rfl (by omega) rfl (fun b4 => ?_))
   refine .ev (ev_as rfl rfl) rfl rfl rfl ?_
   refine .go (fun _ _ h => h) ?_
   refine .seq ?_
   refine .seq ?_
   refine .region ?_
   refine .ev (ev_as rfl rfl) rfl rfl rfl ?_
   refine .go (fun _ _ h => h) ?_
   refine .block ?_
   refine .loop (X := Int × (List Int) × (List Int)) (fun ⟨i, U, D⟩ => 0 ≤ i ∧ i ≤ l.length ∧ U.length = l.length ∧ D.length = l.length ∧ ckAll ((vs l).drop i.toNat) i U D = (ckAll (vs l) 0 (zs l.length) (zs l.length)) ∧ Btw U 0 (i * 1000000) ∧ Btw D 0 i) (fun ⟨i, U, D⟩ => [(0, .slice A l.length c), (3, .slice (some ⟨b3, 0, none⟩) l.length l.length), (4, .slice (some ⟨b4, 0, none⟩) l.length l.length), (5, .int .i64 i)]) (fun ⟨i, U, D⟩ => [rw_ eZ 3 (.slice (some ⟨b3, 0, none⟩) l.length l.length) U, rw_ eZ 3 (.slice (some ⟨b4, 0, none⟩) l.length l.length) D]) (fun _ => S) (fun _ => wf) (fun ⟨i, U, D⟩ => (l.length - i.toNat)) (fun a_ w_ hs_ hw_ => ⟨⟨0, (List.replicate l.length 0), (List.replicate l.length 0)⟩, (by exact ⟨by omega, by omega, List.length_replicate, List.length_replicate, rfl, btw_zs, btw_zs⟩), hs_.mono (Sub.get (.c rfl (.c rfl (.c rfl (.c rfl .n))))), hw_.keep (.c (.t .h) (.c .h .n))⟩) (fun ⟨i, U, D⟩ ⟨q_0, q_1, q_2, q_3, q_4, q_5, q_6⟩ => ?_)
   show SC _ _ _ _ _ ⟨[(0, .slice A l.length c), (3, .slice (some ⟨b3, 0, none⟩) l.length l.length), (4, .slice (some ⟨b4, 0, none⟩) l.length l.length), (5, .int .i64 i)], [rw_ eZ 3 (.slice (some ⟨b3, 0, none⟩) l.length l.length) U, rw_ eZ 3 (.slice (some ⟨b4, 0, none⟩) l.length l.length) D], S, wf⟩
   refine .seq ?_
   refine .seq ?_
   refine .region ?_
   refine .ev (ev_mv rfl rfl) rfl rfl rfl ?_
   refine .ev (ev_mv rfl rfl) rfl rfl rfl ?_
   refine .ev (ev_len rfl Try.underlying34 rfl) rfl rfl rfl ?_
   refine .ev (ev_cmp rfl rfl rfl rfl) rfl rfl rfl ?_
   refine .go (fun _ _ h => h) ?_
   refine .condI rfl bD (fun h5 => ?_) (fun h5 => ?_)
   ·
    refine .skipgo (fun _ _ h => h) ?_
    refine .seq ?_
    refine .block ?_
    refine .seq ?_
    refine .seq ?_
    have hBi := hB _ (gt_mem (i := i) q_0 (by omega))
    unfold TB at hBi
    refine .region ?_
    refine .ev (ev_mv rfl rfl) rfl rfl rfl ?_
    refine .ev (ev_mv rfl rfl) rfl rfl rfl ?_
    refine .ev (ev_ix rfl Try.underlying34 ty90 rfl rfl (by omega) (by omega) (fun _ _ => Fr.adr (i := i) hA (by omega) (by omega))) rfl rfl rfl ?_
    refine .ev (ev_lda rfl rfl (At.w (Fr.el (i := i) hA (by omega) (by omega))) ty90) rfl rfl rfl ?_
    refine .cons (st_call00 rfl rfl rfl rfl hbd50 rfl .n (plain_ ((gt l i).v.kind) ((gt l i).v.truth) ((gt l i).v.num) ((gt l i).v.text) ((gt l i).nA) ((gt l i).nc) ((gt l i).v.ns) ((gt l i).kA) ((gt l i).kc) ((gt l i).v.ks) _ _ ((hN _ (gt_mem (i := i) (by omega) (by omega))).1) ((hN _ (gt_mem (i := i) (by omega) (by omega))).2) hBi.1 hBi.2.1) (by intro v C h; obtain ⟨_, _, rfl, rfl⟩ := h; rfl) (fun v_q7 q7 => ?_))
    obtain ⟨r6, p8, rfl, -⟩ := q7
    refine .ev (ev_not rfl rfl) rfl rfl rfl ?_
    refine .go (fun _ _ h => h) ?_
    refine .condI rfl (bN bV) (fun h9 => ?_) (fun h9 => ?_)
    ·
     refine .seq ?_
     refine .region ?_
     refine .ev (ev_as rfl rfl) rfl rfl rfl ?_
     refine .go (fun _ _ h => h) ?_
     exact .ret (fun _ _ h => h) (ret1 Try.results29 rfl .n ⟨(congrArg (Value.int .i64) (ck_none (by omega) (by omega) (ck_plain q_4 q_0 (by omega) (fun e => by simp_all)))), rfl⟩)
    ·
     refine .skipgo (fun _ _ h => h) ?_
     refine .seq ?_
     have hpl : plainP (gt l i).v := p8.1 (by simp_all)
     refine .region ?_
     refine .ev (ev_as rfl rfl) rfl rfl rfl ?_
     refine .go (fun _ _ h => h) ?_
     refine .seq ?_
     refine .seq ?_
     refine .region ?_
     refine .ev (ev_as rfl rfl) rfl rfl rfl ?_
     refine .go (fun _ _ h => h) ?_
     refine .block ?_
     refine .loop (X := Int × (List Int) × Int) (fun ⟨k, U2, m⟩ => 0 ≤ k ∧ k ≤ (gt l i).v.ks.length ∧ U2.length = l.length ∧ (0 ≤ m ∧ m ≤ i) ∧ ckKids i D ((gt l i).v.ks.drop k.toNat) U2 m = ckKids i D (gt l i).v.ks U 0 ∧ Btw U2 0 (i * 1000000 + k)) (fun ⟨k, U2, m⟩ => [(0, .slice A l.length c), (3, .slice (some ⟨b3, 0, none⟩) l.length l.length), (4, .slice (some ⟨b4, 0, none⟩) l.length l.length), (5, .int .i64 i), (6, .int .i64 m), (7, .int .i64 k)]) (fun ⟨k, U2, m⟩ => [rw_ eZ 3 (.slice (some ⟨b3, 0, none⟩) l.length l.length) U2, rw_ eZ 3 (.slice (some ⟨b4, 0, none⟩) l.length l.length) D]) (fun _ => S) (fun _ => wf) (fun ⟨k, U2, m⟩ => ((gt l i).v.ks.length - k.toNat)) (fun a_ w_ hs_ hw_ => ⟨⟨0, U, 0⟩, (by exact ⟨by omega, by omega, by omega, by omega, rfl, q_5.mono (by omega)⟩), hs_.mono (Sub.get (.c rfl (.c rfl (.c rfl (.c rfl (.c rfl (.c rfl .n))))))), hw_.keep (.c .h (.c .h .n))⟩) (fun ⟨k, U2, m⟩ ⟨p_0, p_1, p_2, p_3, p_4, p_5⟩ => ?_)
     show SC _ _ _ _ _ ⟨[(0, .slice A l.length c), (3, .slice (some ⟨b3, 0, none⟩) l.length l.length), (4, .slice (some ⟨b4, 0, none⟩) l.length l.length), (5, .int .i64 i), (6, .int .i64 m), (7, .int .i64 k)], [rw_ eZ 3 (.slice (some ⟨b3, 0, none⟩) l.length l.length) U2, rw_ eZ 3 (.slice (some ⟨b4, 0, none⟩) l.length l.length) D], S, wf⟩
     refine .seq ?_
     refine .seq ?_
     refine .region ?_
     refine .ev (ev_mv rfl rfl) rfl rfl rfl ?_
     refine .ev (ev_mv rfl rfl) rfl rfl rfl ?_
     refine .ev (ev_mv rfl rfl) rfl rfl rfl ?_
     refine .ev (ev_ix rfl Try.underlying34 ty90 rfl rfl (by omega) (by omega) (fun _ _ => Fr.adr (i := i) hA (by omega) (by omega))) rfl rfl rfl ?_
     refine .ev (ev_fa rfl fo90_5 rfl (r := ao A + (i).toNat * 6 + 5) rfl) rfl rfl rfl ?_
     refine .ev (ev_ld1 rfl ty56 rfl (At.elem1 (At.w (Fr.el (i := i) hA (by omega) (by omega))) 5 rfl)) rfl rfl rfl ?_
     refine .ev (ev_len rfl Try.underlying56 rfl) rfl rfl rfl ?_
     refine .ev (ev_cmp rfl rfl rfl rfl) rfl rfl rfl ?_
     refine .go (fun _ _ h => h) ?_
     refine .condI rfl bD (fun h10 => ?_) (fun h10 => ?_)
     ·
      refine .skipgo (fun _ _ h => h) ?_
      refine .seq ?_
      refine .block ?_
      refine .seq ?_
      refine .region ?_
      refine .ev (ev_mv rfl rfl) rfl rfl rfl ?_
      refine .ev (ev_mv rfl rfl) rfl rfl rfl ?_
      refine .ev (ev_ix rfl Try.underlying34 ty90 rfl rfl (by omega) (by omega) (fun _ _ => Fr.adr (i := i) hA (by omega) (by omega))) rfl rfl rfl ?_
      refine .ev (ev_fa rfl fo90_5 rfl (r := ao A + (i).toNat * 6 + 5) rfl) rfl rfl rfl ?_
      refine .ev (ev_ld1 rfl ty56 rfl (At.elem1 (At.w (Fr.el (i := i) hA (by omega) (by omega))) 5 rfl)) rfl rfl rfl ?_
      refine .ev (ev_mv rfl rfl) rfl rfl rfl ?_
      refine .ev (ev_ix rfl Try.underlying56 ty3 rfl rfl (by omega) (by omega) (fun _ _ => Fr.adr (i := k) (hN _ (gt_mem (i := i) (by omega) (by omega))).2 (by omega) (by omega))) rfl rfl rfl ?_
      refine .ev (ev_ld1 rfl ty3 rfl (At.elem1 (At.w (Fr.el (i := k) (hN _ (gt_mem (i := i) (by omega) (by omega))).2 (by omega) (by omega))) 0 rfl)) rfl rfl rfl ?_
      refine .ev (ev_as rfl rfl) rfl rfl rfl ?_
      refine .go (fun _ _ h => h) ?_
      refine .seq ?_
      refine .seq ?_
      have hD1 := q_6.gt (by omega) (by omega) (gt (gt l i).v.ks k)
      have hU1 := p_5.gt (by omega) (by omega) (gt (gt l i).v.ks k)
      refine .region ?_
      refine .ev (ev_mv rfl rfl) rfl rfl rfl ?_
      refine .ev (ev_cmp rfl rfl rfl rfl) rfl rfl rfl ?_
      refine .ev (ev_mv rfl rfl) rfl rfl rfl ?_
      refine .cons (Ev.gstep (fun _ => ev_mv rfl rfl) rfl rfl rfl rfl rfl ?_)
      refine .cons (Ev.gstep (fun _ => ev_mv rfl rfl) rfl rfl rfl rfl rfl ?_)
      refine .cons (Ev.gstep (fun hb => ev_cmp rfl (lkg rfl hb) (lkg rfl hb) rfl) rfl rfl rfl rfl rfl ?_)
      refine .ev (ev_or rfl rfl rfl rfl) rfl rfl rfl ?_
      refine .go (fun _ _ h => h) ?_
      refine .condI rfl (bO bD bD) (fun h11 => ?_) (fun h11 => ?_)
      ·
       refine .seq ?_
       refine .region ?_
       refine .ev (ev_as rfl rfl) rfl rfl rfl ?_
       refine .go (fun _ _ h => h) ?_
       exact .ret (fun _ _ h => h) (ret1 Try.results29 rfl .n ⟨(congrArg (Value.int .i64) (ck_none (by omega) (by omega) (ck_kid q_4 q_0 (by omega) hpl p_4 p_0 (by omega) (by omega)))), rfl⟩)
      ·
       refine .skipgo (fun _ _ h => h) ?_
       refine .seq ?_
       refine .region ?_
       refine .ev (ev_mv rfl rfl) rfl rfl rfl ?_
       refine .ev (ev_mv rfl rfl) rfl rfl rfl ?_
       refine .ev (ev_mv rfl rfl) rfl rfl rfl ?_
       refine .ev (ev_mv rfl rfl) rfl rfl rfl ?_
       refine .ev (ev_ix rfl Try.underlying56 ty3 rfl rfl (by omega) (by omega) (row_adr (i := (gt ((gt l i).v.ks) k)) 0 rfl (by omega) (by omega))) rfl rfl rfl ?_
       refine .ev (ev_ld1 rfl ty3 rfl (At.elem1 (row_el (E := eZ) (l := U2) (i := (gt ((gt l i).v.ks) k)) 0 rfl (by omega) (by omega)) 0 rfl)) rfl rfl rfl ?_
       refine .ev (ev_add rfl rfl rfl (r := ((gt U2 (gt ((gt l i).v.ks) k)) + 1)) rfl (by omega) (by omega)) rfl rfl rfl ?_
       refine .ev (ev_ix rfl Try.underlying56 ty3 rfl rfl (by omega) (by omega) (row_adr (i := (gt ((gt l i).v.ks) k)) 0 rfl (by omega) (by omega))) rfl rfl rfl ?_
       refine .cons (st_setel (E := eZ) (i := (gt ((gt l i).v.ks) k)) (cs := [.int .i64 ((gt U2 (gt ((gt l i).v.ks) k)) + 1)]) (off := 0) ((gt U2 (gt ((gt l i).v.ks) k)) + 1) rfl rfl rfl ty3 rfl rfl rfl rfl rfl .h (by first | ((try simp only [LL]) <;> omega) | omega | (simp <;> omega)) (by first | ((try simp only [LL]) <;> omega) | omega | (simp <;> omega)) (Nat.le_of_ble_eq_true rfl) rfl ?_)
       refine .go (fun _ _ h => h) ?_
       refine .seq ?_
       refine .region ?_
       refine .ev (ev_mv rfl rfl) rfl rfl rfl ?_
       refine .ev (ev_mv rfl rfl) rfl rfl rfl ?_
       refine .ev (ev_ix rfl Try.underlying56 ty3 rfl rfl (by omega) (by omega) (row_adr (i := (gt ((gt l i).v.ks) k)) 1 rfl (by omega) (by omega))) rfl rfl rfl ?_
       refine .ev (ev_ld1 rfl ty3 rfl (At.elem1 (row_el (E := eZ) (l := D) (i := (gt ((gt l i).v.ks) k)) 1 rfl (by omega) (by omega)) 0 rfl)) rfl rfl rfl ?_
       refine .ev (ev_mv rfl rfl) rfl rfl rfl ?_
       refine .ev (ev_cmp rfl rfl rfl rfl) rfl rfl rfl ?_
       refine .go (fun _ _ h => h) ?_
       refine .condI rfl bD (fun h12 => ?_) (fun h12 => ?_)
       ·
        refine .region ?_
        refine .ev (ev_mv rfl rfl) rfl rfl rfl ?_
        refine .ev (ev_mv rfl rfl) rfl rfl rfl ?_
        refine .ev (ev_ix rfl Try.underlying56 ty3 rfl rfl (by omega) (by omega) (row_adr (i := (gt ((gt l i).v.ks) k)) 1 rfl (by omega) (by omega))) rfl rfl rfl ?_
        refine .ev (ev_ld1 rfl ty3 rfl (At.elem1 (row_el (E := eZ) (l := D) (i := (gt ((gt l i).v.ks) k)) 1 rfl (by omega) (by omega)) 0 rfl)) rfl rfl rfl ?_
        refine .ev (ev_as rfl rfl) rfl rfl rfl ?_
        refine .go (fun _ _ h => h) ?_
        refine .region ?_
        refine .ev (ev_mv rfl rfl) rfl rfl rfl ?_
        refine .ev (ev_add rfl rfl rfl (r := (k + 1)) rfl (by omega) (by omega)) rfl rfl rfl ?_
        refine .ev (ev_as rfl rfl) rfl rfl rfl ?_
        exact SP.nil (SQ.roundb (X := Int × (List Int) × Int) (x := (k, U2, m)) ⟨(k + 1), (U2.set ((gt ((gt l i).v.ks) k)).toNat ((gt U2 (gt ((gt l i).v.ks) k)) + 1)), (gt D (gt ((gt l i).v.ks) k))⟩ (by exact ⟨by omega, by omega, by rw [List.length_set]; omega, by omega, kid_next p_4 p_0 (by omega) (by omega) (by rw [if_pos (by assumption)]), p_5.set (by omega) (by omega) (by omega)⟩) (by dsimp only; omega) (Sub.get (.c rfl (.c rfl (.c rfl (.c rfl (.c rfl (.c rfl .n))))))) (fun w hw => hw.keep (.c .h (.c .h .n))))
       ·
        refine .skipgo (fun _ _ h => h) ?_
        refine .region ?_
        refine .ev (ev_mv rfl rfl) rfl rfl rfl ?_
        refine .ev (ev_add rfl rfl rfl (r := (k + 1)) rfl (by omega) (by omega)) rfl rfl rfl ?_
        refine .ev (ev_as rfl rfl) rfl rfl rfl ?_
        exact SP.nil (SQ.roundb (X := Int × (List Int) × Int) (x := (k, U2, m)) ⟨(k + 1), (U2.set ((gt ((gt l i).v.ks) k)).toNat ((gt U2 (gt ((gt l i).v.ks) k)) + 1)), m⟩ (by exact ⟨by omega, by omega, by rw [List.length_set]; omega, by omega, kid_next p_4 p_0 (by omega) (by omega) (by rw [if_neg (by assumption)]), p_5.set (by omega) (by omega) (by omega)⟩) (by dsimp only; omega) (Sub.get (.c rfl (.c rfl (.c rfl (.c rfl (.c rfl (.c rfl .n))))))) (fun w hw => hw.keep (.c .h (.c .h .n))))
     ·
      refine .exit (fun _ _ h => h) ?_
      refine .seq ?_
      refine .seq ?_
      refine .region ?_
      refine .ev (ev_mv rfl rfl) rfl rfl rfl ?_
      refine .ev (ev_mv rfl rfl) rfl rfl rfl ?_
      refine .ev (ev_ix rfl Try.underlying34 ty90 rfl rfl (by omega) (by omega) (fun _ _ => Fr.adr (i := i) hA (by omega) (by omega))) rfl rfl rfl ?_
      refine .ev (ev_fa rfl fo90_0 rfl (r := ao A + (i).toNat * 6) rfl) rfl rfl rfl ?_
      refine .ev (ev_ld1 rfl ty88 rfl (At.elem1 (At.w (Fr.el (i := i) hA (by omega) (by omega))) 0 rfl)) rfl rfl rfl ?_
      refine .ev (ev_cmp rfl rfl rfl rfl) rfl rfl rfl ?_
      refine .go (fun _ _ h => h) ?_
      refine .condI rfl bD (fun h13 => ?_) (fun h13 => ?_)
      ·
       refine .region ?_
       refine .ev (ev_mv rfl rfl) rfl rfl rfl ?_
       refine .ev (ev_add rfl rfl rfl (r := (m + 1)) rfl (by omega) (by omega)) rfl rfl rfl ?_
       refine .ev (ev_as rfl rfl) rfl rfl rfl ?_
       refine .go (fun _ _ h => h) ?_
       refine .region ?_
       refine .ev (ev_mv rfl rfl) rfl rfl rfl ?_
       refine .ev (ev_mv rfl rfl) rfl rfl rfl ?_
       refine .ev (ev_mv rfl rfl) rfl rfl rfl ?_
       refine .ev (ev_ix rfl Try.underlying56 ty3 rfl rfl (by omega) (by omega) (row_adr (i := i) 1 rfl (by omega) (by omega))) rfl rfl rfl ?_
       refine .cons (st_setel (E := eZ) (i := i) (cs := [.int .i64 (m + 1)]) (off := 0) (m + 1) rfl rfl rfl ty3 rfl rfl rfl rfl rfl (.t .h) (by first | ((try simp only [LL]) <;> omega) | omega | (simp <;> omega)) (by first | ((try simp only [LL]) <;> omega) | omega | (simp <;> omega)) (Nat.le_of_ble_eq_true rfl) rfl ?_)
       refine .go (fun _ _ h => h) ?_
       refine .region ?_
       refine .ev (ev_mv rfl rfl) rfl rfl rfl ?_
       refine .ev (ev_add rfl rfl rfl (r := (i + 1)) rfl (by omega) (by omega)) rfl rfl rfl ?_
       refine .ev (ev_as rfl rfl) rfl rfl rfl ?_
       exact SP.nil (SQ.roundb (X := Int × (List Int) × (List Int)) (x := (i, U, D)) ⟨(i + 1), U2, (D.set (i).toNat (m + 1))⟩ (by exact ⟨by omega, by omega, by omega, by rw [List.length_set]; omega, ck_next q_4 q_0 (by omega) hpl p_4 (by omega) (by rw [if_pos (by assumption)]), p_5.mono (by omega), q_6.set (by omega) (by omega) (by omega)⟩) (by dsimp only; omega) (Sub.get (.c rfl (.c rfl (.c rfl (.c rfl .n))))) (fun w hw => hw.keep (.c (.t .h) (.c .h .n))))
      ·
       refine .skipgo (fun _ _ h => h) ?_
       refine .region ?_
       refine .ev (ev_mv rfl rfl) rfl rfl rfl ?_
       refine .ev (ev_mv rfl rfl) rfl rfl rfl ?_
       refine .ev (ev_mv rfl rfl) rfl rfl rfl ?_
       refine .ev (ev_ix rfl Try.underlying56 ty3 rfl rfl (by omega) (by omega) (row_adr (i := i) 1 rfl (by omega) (by omega))) rfl rfl rfl ?_
       refine .cons (st_setel (E := eZ) (i := i) (cs := [.int .i64 m]) (off := 0) m rfl rfl rfl ty3 rfl rfl rfl rfl rfl (.t .h) (by first | ((try simp only [LL]) <;> omega) | omega | (simp <;> omega)) (by first | ((try simp only [LL]) <;> omega) | omega | (simp <;> omega)) (Nat.le_of_ble_eq_true rfl) rfl ?_)
       refine .go (fun _ _ h => h) ?_
       refine .region ?_
       refine .ev (ev_mv rfl rfl) rfl rfl rfl ?_
       refine .ev (ev_add rfl rfl rfl (r := (i + 1)) rfl (by omega) (by omega)) rfl rfl rfl ?_
       refine .ev (ev_as rfl rfl) rfl rfl rfl ?_
       exact SP.nil (SQ.roundb (X := Int × (List Int) × (List Int)) (x := (i, U, D)) ⟨(i + 1), U2, (D.set (i).toNat m)⟩ (by exact ⟨by omega, by omega, by omega, by rw [List.length_set]; omega, ck_next q_4 q_0 (by omega) hpl p_4 (by omega) (by rw [if_neg (by assumption)]), p_5.mono (by omega), q_6.set (by omega) (by omega) (by omega)⟩) (by dsimp only; omega) (Sub.get (.c rfl (.c rfl (.c rfl (.c rfl .n))))) (fun w hw => hw.keep (.c (.t .h) (.c .h .n))))
   ·
    refine .exit (fun _ _ h => h) ?_
    refine .seq ?_
    refine .seq ?_
    refine .region ?_
    refine .ev (ev_as rfl rfl) rfl rfl rfl ?_
    refine .go (fun _ _ h => h) ?_
    refine .block ?_
    refine .loop (X := Int) (fun j => 0 ≤ j ∧ (∀ j' : Int, 0 ≤ j' → j' < j → gt U j' = 1)) (fun j => [(0, .slice A l.length c), (3, .slice (some ⟨b3, 0, none⟩) l.length l.length), (4, .slice (some ⟨b4, 0, none⟩) l.length l.length), (9, .int .i64 j)]) (fun j => [rw_ eZ 3 (.slice (some ⟨b3, 0, none⟩) l.length l.length) U, rw_ eZ 3 (.slice (some ⟨b4, 0, none⟩) l.length l.length) D]) (fun _ => S) (fun _ => wf) (fun j => (l.length - j.toNat)) (fun a_ w_ hs_ hw_ => ⟨0, (by exact ⟨by omega, fun j' a b => by omega⟩), hs_.mono (Sub.get (.c rfl (.c rfl (.c rfl (.c rfl .n))))), hw_.keep (.c .h (.c .h .n))⟩) (fun j ⟨s_0, s_1⟩ => ?_)
    show SC _ _ _ _ _ ⟨[(0, .slice A l.length c), (3, .slice (some ⟨b3, 0, none⟩) l.length l.length), (4, .slice (some ⟨b4, 0, none⟩) l.length l.length), (9, .int .i64 j)], [rw_ eZ 3 (.slice (some ⟨b3, 0, none⟩) l.length l.length) U, rw_ eZ 3 (.slice (some ⟨b4, 0, none⟩) l.length l.length) D], S, wf⟩
    refine .seq ?_
    refine .seq ?_
    refine .region ?_
    refine .ev (ev_mv rfl rfl) rfl rfl rfl ?_
    refine .ev (ev_mv rfl rfl) rfl rfl rfl ?_
    refine .ev (ev_len rfl Try.underlying34 rfl) rfl rfl rfl ?_
    refine .ev (ev_sub rfl rfl rfl (r := ((l.length : Int) - 1)) rfl (by omega) (by omega)) rfl rfl rfl ?_
    refine .ev (ev_cmp rfl rfl rfl rfl) rfl rfl rfl ?_
    refine .go (fun _ _ h => h) ?_
    refine .condI rfl bD (fun h14 => ?_) (fun h14 => ?_)
    ·
     refine .skipgo (fun _ _ h => h) ?_
     refine .seq ?_
     refine .block ?_
     refine .seq ?_
     refine .region ?_
     refine .ev (ev_mv rfl rfl) rfl rfl rfl ?_
     refine .ev (ev_mv rfl rfl) rfl rfl rfl ?_
     refine .ev (ev_ix rfl Try.underlying56 ty3 rfl rfl (by omega) (by omega) (row_adr (i := j) 0 rfl (by omega) (by omega))) rfl rfl rfl ?_
     refine .ev (ev_ld1 rfl ty3 rfl (At.elem1 (row_el (E := eZ) (l := U) (i := j) 0 rfl (by omega) (by omega)) 0 rfl)) rfl rfl rfl ?_
     refine .ev (ev_cmp rfl rfl rfl rfl) rfl rfl rfl ?_
     refine .go (fun _ _ h => h) ?_
     refine .condI rfl bNE (fun h15 => ?_) (fun h15 => ?_)
     ·
      refine .seq ?_
      refine .region ?_
      refine .ev (ev_as rfl rfl) rfl rfl rfl ?_
      refine .go (fun _ _ h => h) ?_
      exact .ret (fun _ _ h => h) (ret1 Try.results29 rfl .n ⟨(congrArg (Value.int .i64) (ck_twice (by omega) (by omega) q_4 (by omega) s_0 (by omega) (by assumption))), rfl⟩)
     ·
      refine .skipgo (fun _ _ h => h) ?_
      refine .region ?_
      refine .ev (ev_mv rfl rfl) rfl rfl rfl ?_
      refine .ev (ev_add rfl rfl rfl (r := (j + 1)) rfl (by omega) (by omega)) rfl rfl rfl ?_
      refine .ev (ev_as rfl rfl) rfl rfl rfl ?_
      exact SP.nil (SQ.roundb (X := Int) (x := (j)) (j + 1) (by exact ⟨by omega, fun j' a b => (by by_cases e : j' = j <;> first | (subst e; omega) | exact s_1 j' a (by omega))⟩) (by show (_ : Nat) < _; omega) (Sub.get (.c rfl (.c rfl (.c rfl (.c rfl .n))))) (fun w hw => hw.keep (.c .h (.c .h .n))))
    ·
     refine .exit (fun _ _ h => h) ?_
     refine .seq ?_
     refine .seq ?_
     refine .region ?_
     refine .ev (ev_mv rfl rfl) rfl rfl rfl ?_
     refine .ev (ev_mv rfl rfl) rfl rfl rfl ?_
     refine .ev (ev_len rfl Try.underlying34 rfl) rfl rfl rfl ?_
     refine .ev (ev_sub rfl rfl rfl (r := ((l.length : Int) - 1)) rfl (by omega) (by omega)) rfl rfl rfl ?_
     refine .ev (ev_ix rfl Try.underlying56 ty3 rfl rfl (by omega) (by omega) (row_adr (i := ((l.length : Int) - 1)) 1 rfl (by omega) (by omega))) rfl rfl rfl ?_
     refine .ev (ev_ld1 rfl ty3 rfl (At.elem1 (row_el (E := eZ) (l := D) (i := ((l.length : Int) - 1)) 1 rfl (by omega) (by omega)) 0 rfl)) rfl rfl rfl ?_
     refine .ev (ev_cmp rfl rfl rfl rfl) rfl rfl rfl ?_
     refine .go (fun _ _ h => h) ?_
     refine .condI rfl bD (fun h16 => ?_) (fun h16 => ?_)
     ·
      refine .seq ?_
      refine .region ?_
      refine .ev (ev_as rfl rfl) rfl rfl rfl ?_
      refine .go (fun _ _ h => h) ?_
      exact .ret (fun _ _ h => h) (ret1 Try.results29 rfl .n ⟨(congrArg (Value.int .i64) (by rw [ck_deep (by omega) (by omega) q_4 (by omega) s_1 (by omega), if_pos (by assumption)])), rfl⟩)
     ·
      refine .skipgo (fun _ _ h => h) ?_
      refine .seq ?_
      refine .region ?_
      refine .ev (ev_as rfl rfl) rfl rfl rfl ?_
      refine .go (fun _ _ h => h) ?_
      exact .ret (fun _ _ h => h) (ret1 Try.results29 rfl .n ⟨(congrArg (Value.int .i64) (by rw [ck_deep (by omega) (by omega) q_4 (by omega) s_1 (by omega), if_neg (by assumption)])), rfl⟩)
end Go.Proofs.Ythmkelkefmfmgaa.Sx
