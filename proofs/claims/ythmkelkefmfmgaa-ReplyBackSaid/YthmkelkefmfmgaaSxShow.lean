/- Which trees are lawful, and their texts. -/
import Derived.Test.YthmkelkefmfmgaaSxJson
set_option linter.unusedVariables false
set_option linter.unusedSimpArgs false
namespace Go.SX
open Go
theorem toList_eq {a b : ByteArray} : (a.toList == b.toList) = true ↔ a.toList = b.toList := by simp
def pc1 (v : TN) : Prop := (((v.truth = true ∧ v.kind ≠ 2) ∨ (v.num ≠ 0 ∧ v.kind ≠ 3)) ∨ ((!(v.text.toList == (⟨#[]⟩ : ByteArray).toList)) = true ∧ v.kind ≠ 4)) ∨ (((v.ks.length : Int) > 0 ∧ v.kind ≠ 5) ∧ v.kind ≠ 6)
def pc2 (v : TN) : Prop := ((v.kind < 1 ∨ v.kind > 6) ∨ ¬ (v.num ≥ (-4611686018427387903) ∧ v.num ≤ 4611686018427387903)) ∨ ¬ (utfF (bs v.text) = true)
/-- Distinct, one by one. -/
def apart : List ByteArray → Prop
  | [] => True
  | s :: r => (∀ t ∈ r, ¬ (s.toList == t.toList) = true) ∧ apart r
def plainP (v : TN) : Prop := ¬ pc1 v ∧ ¬ pc2 v ∧ (v.kind ≠ 6 → v.ns.length = 0) ∧ (v.kind = 6 → (∀ i : Int, 0 ≤ i → i < (v.ns.length : Int) → utfF (bs (gt v.ns i)) = true ∧ ∀ j : Int, 0 ≤ j → j < i → ¬ ((gt v.ns j).toList == (gt v.ns i).toList) = true) ∧ v.ns.length = v.ks.length)
theorem pl_1 {v : TN} (h : pc1 v) : (false = true ↔ plainP v) := ⟨(fun e => by cases e), fun e => absurd h e.1⟩
theorem pl_2 {v : TN} (h : pc2 v) : (false = true ↔ plainP v) := ⟨(fun e => by cases e), fun e => absurd h e.2.1⟩
theorem pl_3 {v : TN} {r : Bool} (h1 : ¬ pc1 v) (h2 : ¬ pc2 v) (h : v.kind ≠ 6) (hr : r = true ↔ (v.ns.length : Int) = 0) : (r = true ↔ plainP v) := by
  rw [hr]
  exact ⟨fun e => ⟨h1, h2, fun _ => by omega, fun e2 => absurd e2 h⟩, fun e => by have := e.2.2.1 h; omega⟩
theorem pl_utf {v : TN} {i : Int} (hk : ¬ v.kind ≠ 6) (h0 : 0 ≤ i) (h1 : i < (v.ns.length : Int)) (h : ¬ utfF (bs (gt v.ns i)) = true) : (false = true ↔ plainP v) := ⟨(fun e => by cases e), fun e => absurd ((e.2.2.2 (by omega)).1 i h0 h1).1 h⟩
theorem pl_twice {v : TN} {i j : Int} (hk : ¬ v.kind ≠ 6) (h0 : 0 ≤ i) (h1 : i < (v.ns.length : Int)) (h2 : 0 ≤ j) (h3 : j < i) (h : ((gt v.ns j).toList == (gt v.ns i).toList) = true) : (false = true ↔ plainP v) := ⟨(fun e => by cases e), fun e => absurd h (((e.2.2.2 (by omega)).1 i h0 h1).2 j h2 h3)⟩
theorem pl_end {v : TN} {i : Int} {r : Bool} (h1 : ¬ pc1 v) (h2 : ¬ pc2 v) (hk : ¬ v.kind ≠ 6) (q : ∀ i' : Int, 0 ≤ i' → i' < i → utfF (bs (gt v.ns i')) = true ∧ ∀ j : Int, 0 ≤ j → j < i' → ¬ ((gt v.ns j).toList == (gt v.ns i').toList) = true) (hi : ¬ i < (v.ns.length : Int)) (hr : r = true ↔ (v.ns.length : Int) = (v.ks.length : Int)) : (r = true ↔ plainP v) := by
  rw [hr]
  exact ⟨fun e => ⟨h1, h2, fun e2 => absurd e2 hk, fun _ => ⟨fun i' a b => q i' a (by omega), by omega⟩⟩, fun e => by have := (e.2.2.2 (by omega)).2; omega⟩
theorem pl_next {ns : List ByteArray} {i k : Int} (q : ∀ i' : Int, 0 ≤ i' → i' < i → utfF (bs (gt ns i')) = true ∧ ∀ j : Int, 0 ≤ j → j < i' → ¬ ((gt ns j).toList == (gt ns i').toList) = true) (hu : utfF (bs (gt ns i)) = true) (p : ∀ j : Int, 0 ≤ j → j < k → ¬ ((gt ns j).toList == (gt ns i).toList) = true) (hk : ¬ k < i) : ∀ i' : Int, 0 ≤ i' → i' < i + 1 → utfF (bs (gt ns i')) = true ∧ ∀ j : Int, 0 ≤ j → j < i' → ¬ ((gt ns j).toList == (gt ns i').toList) = true := by
  intro i' a b
  by_cases e : i' = i
  · subst e; exact ⟨hu, fun j c d => p j c (by omega)⟩
  · exact q i' a (by omega)
theorem pl_step {ns : List ByteArray} {i k : Int} (p : ∀ j : Int, 0 ≤ j → j < k → ¬ ((gt ns j).toList == (gt ns i).toList) = true) (h : ¬ ((gt ns k).toList == (gt ns i).toList) = true) : ∀ j : Int, 0 ≤ j → j < k + 1 → ¬ ((gt ns j).toList == (gt ns i).toList) = true := by
  intro j a b
  by_cases e : j = k
  · subst e; exact h
  · exact p j a (by omega)
/-- Sizes that the walks ask for. -/
def TB (v : TN) : Prop := v.text.size ≤ 1000000 ∧ (∀ s ∈ v.ns, s.size ≤ 1000000) ∧ v.ns.length ≤ 1000000 ∧ v.ks.length ≤ 1000000 ∧ -9223372036854775808 ≤ v.num ∧ v.num ≤ 9223372036854775807
end Go.SX
namespace Go.SX
def ckKids (i : Int) (deep : List Int) : List Int → List Int → Int → Option (List Int × Int)
  | [], used, most => some (used, most)
  | k :: ks, used, most => if k < 0 ∨ k ≥ i then none else ckKids i deep ks (used.set k.toNat (gt used k + 1)) (if gt deep k > most then gt deep k else most)
open Classical in
noncomputable def ckAll : List TN → Int → List Int → List Int → Option (List Int × List Int)
  | [], _, used, deep => some (used, deep)
  | t :: ts, i, used, deep => if plainP t then (match ckKids i deep t.ks used 0 with
      | none => none
      | some (u, m) => ckAll ts (i + 1) u (deep.set i.toNat (if t.kind ≥ 5 then m + 1 else m))) else none
def zs (n : Nat) : List Int := List.replicate n 0
open Classical in
noncomputable def checkF (l : List TN) : Int :=
  if (l.length : Int) = 0 then 29 else if (l.length : Int) > 8192 then 27 else match ckAll l 0 (zs l.length) (zs l.length) with
    | none => 29
    | some (used, deep) => if ∃ j : Int, 0 ≤ j ∧ j < (l.length : Int) - 1 ∧ gt used j ≠ 1 then 29 else if gt deep ((l.length : Int) - 1) > 16 then 26 else 0
theorem ck_0 {l : List TV} (h : (l.length : Int) = 0) : 29 = checkF (vs l) := by unfold checkF; rw [vs_len, if_pos h]
theorem ck_27 {l : List TV} (h : ¬ (l.length : Int) = 0) (h2 : (l.length : Int) > 8192) : 27 = checkF (vs l) := by unfold checkF; rw [vs_len, if_neg h, if_pos h2]
theorem ck_none {l : List TV} (h : ¬ (l.length : Int) = 0) (h2 : ¬ (l.length : Int) > 8192) (q : ckAll (vs l) 0 (zs l.length) (zs l.length) = none) : 29 = checkF (vs l) := by unfold checkF; rw [vs_len, if_neg h, if_neg h2, q]
theorem ck_drop {l : List TV} {i : Int} (h0 : 0 ≤ i) (h1 : i < (l.length : Int)) : (vs l).drop i.toNat = (gt l i).v :: (vs l).drop (i + 1).toNat := by
  rw [drop_gt h0 (by rw [vs_len]; exact h1), vs_gt h0 h1]
section
variable {l : List TV} {U D U2 : List Int} {i k m : Int} {X : Option (List Int × List Int)}
theorem ck_plain (q : ckAll ((vs l).drop i.toNat) i U D = X) (h0 : 0 ≤ i) (h1 : i < (l.length : Int)) (hp : ¬ plainP (gt l i).v) : X = none := by
  rw [← q, ck_drop h0 h1, ckAll, if_neg hp]
theorem ck_kid (q : ckAll ((vs l).drop i.toNat) i U D = X) (h0 : 0 ≤ i) (h1 : i < (l.length : Int)) (hp : plainP (gt l i).v) (p : ckKids i D ((gt l i).v.ks.drop k.toNat) U2 m = ckKids i D (gt l i).v.ks U 0) (k0 : 0 ≤ k) (k1 : k < ((gt l i).v.ks.length : Int)) (hb : gt (gt l i).v.ks k < 0 ∨ gt (gt l i).v.ks k ≥ i) : X = none := by
  rw [← q, ck_drop h0 h1, ckAll, if_pos hp, ← p, drop_gt k0 k1, ckKids, if_pos hb]
theorem ck_next (q : ckAll ((vs l).drop i.toNat) i U D = X) (h0 : 0 ≤ i) (h1 : i < (l.length : Int)) (hp : plainP (gt l i).v) (p : ckKids i D ((gt l i).v.ks.drop k.toNat) U2 m = ckKids i D (gt l i).v.ks U 0) (k1 : ¬ k < ((gt l i).v.ks.length : Int)) {m' : Int} (hm : m' = if (gt l i).v.kind ≥ 5 then m + 1 else m) : ckAll ((vs l).drop (i + 1).toNat) (i + 1) U2 (D.set i.toNat m') = X := by
  rw [← q, ck_drop h0 h1]
  conv => rhs; rw [ckAll]
  rw [if_pos hp, ← p, List.drop_of_length_le (l := (gt l i).v.ks) (by omega), ckKids, hm]
theorem kid_next {ks : List Int} {Y : Option (List Int × Int)} (p : ckKids i D (ks.drop k.toNat) U2 m = Y) (k0 : 0 ≤ k) (k1 : k < (ks.length : Int)) (hb : ¬ (gt ks k < 0 ∨ gt ks k ≥ i)) {m' : Int} (hm : m' = if gt D (gt ks k) > m then gt D (gt ks k) else m) : ckKids i D (ks.drop (k + 1).toNat) (U2.set (gt ks k).toNat (gt U2 (gt ks k) + 1)) m' = Y := by
  rw [← p, drop_gt k0 k1]
  conv => rhs; rw [ckKids]
  rw [if_neg hb, hm]
/-- All numbers of a list lie between. -/
def Btw (U : List Int) (a b : Int) : Prop := ∀ x ∈ U, a ≤ x ∧ x ≤ b
theorem Btw.gt {a b : Int} (h : Btw U a b) (ha : a ≤ 0) (hb : 0 ≤ b) (i : Int) : a ≤ gt U i ∧ gt U i ≤ b := by
  unfold SX.gt
  rw [List.getD_eq_getElem?_getD]
  cases hq : U[i.toNat]? with
  | none => exact ⟨ha, hb⟩
  | some x => exact h x (List.mem_of_getElem? hq)
theorem Btw.set {a b c x : Int} {n : Nat} (h : Btw U a b) (hb : b ≤ c) (h1 : a ≤ x) (h2 : x ≤ c) : Btw (U.set n x) a c := fun y hy => by
  rcases List.mem_or_eq_of_mem_set hy with hy | rfl
  · have := h y hy; omega
  · exact ⟨h1, h2⟩
theorem Btw.mono {a b c : Int} (h : Btw U a b) (hb : b ≤ c) : Btw U a c := fun y hy => by have := h y hy; omega
theorem btw_zs {n : Nat} : Btw (zs n) 0 0 := fun y hy => by have := List.eq_of_mem_replicate hy; omega
theorem ck_twice (h : ¬ (l.length : Int) = 0) (h2 : ¬ (l.length : Int) > 8192) (q : ckAll ((vs l).drop i.toNat) i U D = ckAll (vs l) 0 (zs l.length) (zs l.length)) (hi : ¬ i < (l.length : Int)) {j : Int} (j0 : 0 ≤ j) (j1 : j < (l.length : Int) - 1) (hj : gt U j ≠ 1) : 29 = checkF (vs l) := by
  unfold checkF
  rw [vs_len, if_neg h, if_neg h2, ← q, List.drop_of_length_le (by rw [vs_len]; omega), ckAll]
  dsimp only
  rw [if_pos ⟨j, j0, j1, hj⟩]
theorem ck_deep (h : ¬ (l.length : Int) = 0) (h2 : ¬ (l.length : Int) > 8192) (q : ckAll ((vs l).drop i.toNat) i U D = ckAll (vs l) 0 (zs l.length) (zs l.length)) (hi : ¬ i < (l.length : Int)) {j : Int} (hu : ∀ j' : Int, 0 ≤ j' → j' < j → gt U j' = 1) (j1 : ¬ j < (l.length : Int) - 1) : checkF (vs l) = if gt D ((l.length : Int) - 1) > 16 then 26 else 0 := by
  unfold checkF
  rw [vs_len, if_neg h, if_neg h2, ← q, List.drop_of_length_le (by rw [vs_len]; omega), ckAll]
  dsimp only
  rw [if_neg]
  rintro ⟨j', a, b, c⟩
  exact c (hu j' a (by omega))
end
end Go.SX
namespace Go.SX
theorem nat_ind {P : Nat → Prop} (h0 : P 0) (hs : ∀ f, P f → P (f + 1)) : ∀ f, P f := fun f => by
  induction f with
  | zero => exact h0
  | succ f ih => exact hs f ih
/-! ### The text -/
def upTo (f : Int → List Int) : Nat → List Int
  | 0 => []
  | n + 1 => upTo f n ++ f n
def itemF (v : TN) (w : Int → List Int) (i : Int) : List Int := (if i > 0 then [44] else []) ++ (if v.kind = 6 then quoteF (gt v.ns i) ++ [58] else []) ++ w (gt v.ks i)
def markO (v : TN) : Int := if v.kind = 6 then 123 else 91
def markC (v : TN) : Int := if v.kind = 6 then 125 else 93
def wF : Nat → List TN → Int → List Int
  | 0, _, _ => []
  | n + 1, l, i =>
    if (gt l i).kind = 1 then [110, 117, 108, 108]
    else if (gt l i).kind = 2 then (if (gt l i).truth = true then [116, 114, 117, 101] else [102, 97, 108, 115, 101])
    else if (gt l i).kind = 3 then numL (gt l i).num
    else if (gt l i).kind = 4 then quoteF (gt l i).text
    else [markO (gt l i)] ++ upTo (itemF (gt l i) (wF n l)) (gt l i).ks.length ++ [markC (gt l i)]
/-- Such as Check lets through. -/
def Valid (l : List TV) : Prop := ∀ i : Int, 0 ≤ i → i < (l.length : Int) → ((∀ k ∈ (gt l i).v.ks, 0 ≤ k ∧ k < i) ∧ ((gt l i).v.kind = 6 → (gt l i).v.ns.length = (gt l i).v.ks.length))
theorem up_next {f : Int → List Int} {i : Int} (h : 0 ≤ i) : upTo f (i + 1).toNat = upTo f i.toNat ++ f i := by
  rw [show (i + 1).toNat = i.toNat + 1 from by omega, upTo, show ((i.toNat : Nat) : Int) = i from by omega]
theorem up_mono {f : Int → List Int} {a b : Nat} (h : a ≤ b) : (upTo f a).length ≤ (upTo f b).length := by
  induction h with
  | refl => exact Nat.le_refl _
  | step _ ih => rw [upTo, List.length_append]; omega
theorem up_le {f : Int → List Int} {i : Int} {n : Nat} (h : 0 ≤ i) (h1 : i < (n : Int)) : (upTo f i.toNat).length + (f i).length ≤ (upTo f n).length := by
  have := up_mono (f := f) (show (i + 1).toNat ≤ n by omega)
  rw [up_next h, List.length_append] at this
  exact this
section
variable {f : Nat} {l : List TV} {i : Int}
theorem w_1 (h0 : 0 ≤ i) (h1 : i < (l.length : Int)) (k1 : (gt l i).v.kind = 1) : wF (f + 1) (vs l) i = [110, 117, 108, 108] := by rw [wF, vs_gt h0 h1, if_pos k1]
theorem w_2t (h0 : 0 ≤ i) (h1 : i < (l.length : Int)) (k1 : (gt l i).v.kind = 2) (t : (gt l i).v.truth = true) : wF (f + 1) (vs l) i = [116, 114, 117, 101] := by rw [wF, vs_gt h0 h1, if_neg (by omega), if_pos k1, if_pos t]
theorem w_2f (h0 : 0 ≤ i) (h1 : i < (l.length : Int)) (k1 : (gt l i).v.kind = 2) (t : ¬ (gt l i).v.truth = true) : wF (f + 1) (vs l) i = [102, 97, 108, 115, 101] := by rw [wF, vs_gt h0 h1, if_neg (by omega), if_pos k1, if_neg t]
theorem w_3 (h0 : 0 ≤ i) (h1 : i < (l.length : Int)) (k1 : (gt l i).v.kind = 3) : wF (f + 1) (vs l) i = numL (gt l i).v.num := by rw [wF, vs_gt h0 h1, if_neg (by omega), if_neg (by omega), if_pos k1]
theorem w_4 (h0 : 0 ≤ i) (h1 : i < (l.length : Int)) (k1 : (gt l i).v.kind = 4) : wF (f + 1) (vs l) i = quoteF (gt l i).v.text := by rw [wF, vs_gt h0 h1, if_neg (by omega), if_neg (by omega), if_neg (by omega), if_pos k1]
theorem w_5 (h0 : 0 ≤ i) (h1 : i < (l.length : Int)) (k1 : ¬ (gt l i).v.kind = 1) (k2 : ¬ (gt l i).v.kind = 2) (k3 : ¬ (gt l i).v.kind = 3) (k4 : ¬ (gt l i).v.kind = 4) : wF (f + 1) (vs l) i = [markO (gt l i).v] ++ upTo (itemF (gt l i).v (wF f (vs l))) (gt l i).v.ks.length ++ [markC (gt l i).v] := by
  rw [wF, vs_gt h0 h1, if_neg k1, if_neg k2, if_neg k3, if_neg k4]
theorem w_5len (h0 : 0 ≤ i) (h1 : i < (l.length : Int)) (k1 : ¬ (gt l i).v.kind = 1) (k2 : ¬ (gt l i).v.kind = 2) (k3 : ¬ (gt l i).v.kind = 3) (k4 : ¬ (gt l i).v.kind = 4) : (wF (f + 1) (vs l) i).length = (upTo (itemF (gt l i).v (wF f (vs l))) (gt l i).v.ks.length).length + 2 := by
  rw [w_5 h0 h1 k1 k2 k3 k4]; simp
end
theorem item_len (v : TN) (w : Int → List Int) (i : Int) : (itemF v w i).length = (if i > 0 then 1 else 0) + (if v.kind = 6 then (quoteF (gt v.ns i)).length + 1 else 0) + (w (gt v.ks i)).length := by
  unfold itemF
  rw [List.length_append, List.length_append]
  congr 2
  · split <;> rfl
  · split
    · rw [List.length_append]; rfl
    · rfl
/-- A round of write. -/
theorem w_next {v : TN} {w : Int → List Int} {X O Y : List Int} {i : Int} (q : X = O ++ upTo (itemF v w) i.toNat) (h : 0 ≤ i) (hY : Y = X ++ itemF v w i) : Y = O ++ upTo (itemF v w) (i + 1).toNat := by
  rw [hY, q, up_next h, List.append_assoc]
end Go.SX
namespace Go.SX
theorem ckKids_ok {i : Int} {D : List Int} : ∀ {ks U : List Int} {m : Int} {r : List Int × Int}, ckKids i D ks U m = some r → ∀ k ∈ ks, 0 ≤ k ∧ k < i
  | [], _, _, _, _ => fun k hk => by cases hk
  | k :: ks, U, m, r, h => by
    rw [ckKids] at h
    split at h
    · cases h
    · rename_i hb
      intro k' hk'
      rcases List.mem_cons.1 hk' with rfl | hk'
      · omega
      · exact ckKids_ok h k' hk'
theorem ckAll_ok : ∀ {ts : List TN} {i : Int} {U D : List Int} {r : List Int × List Int}, ckAll ts i U D = some r → ∀ (j : Nat) t, ts[j]? = some t → plainP t ∧ ∀ k ∈ t.ks, 0 ≤ k ∧ k < i + j
  | [], _, _, _, _, _ => fun j t ht => by simp at ht
  | t :: ts, i, U, D, r, h => by
    rw [ckAll] at h
    split at h
    · rename_i hp
      split at h
      · cases h
      · rename_i u m hk
        intro j t' ht'
        cases j with
        | zero =>
          simp at ht'
          subst ht'
          exact ⟨hp, fun k hk' => by have := ckKids_ok hk k hk'; omega⟩
        | succ j =>
          have := ckAll_ok h j t' (by simpa using ht')
          exact ⟨this.1, fun k hk' => by have := this.2 k hk'; omega⟩
    · cases h
theorem check_valid {l : List TV} (h : checkF (vs l) = 0) : 0 < l.length ∧ Valid l := by
  unfold checkF at h
  rw [vs_len] at h
  split at h
  · omega
  · rename_i h0
    split at h
    · omega
    · split at h
      · omega
      · rename_i used deep hk
        refine ⟨by omega, fun i a b => ?_⟩
        have hlt : i.toNat < l.length := by omega
        have hg := ckAll_ok hk i.toNat (gt l i).v (by rw [← vs_gt a b]; exact gt_at a (by rw [vs_len]; exact b))
        refine ⟨fun k hk' => by have := hg.2 k hk'; omega, fun e => (hg.1.2.2.2 e).2⟩
/-- The text of a tree. -/
def showF (l : List TN) : List Int := wF l.length l ((l.length : Int) - 1)
end Go.SX
namespace Go.SX
open Go
/-- A name and a place. -/
structure Pr where
  name : ByteArray
  pos : Int
  deriving Inhabited
def ePr : Enc Pr where
  sz := 2
  enc x := [.string x.name, .int .i64 x.pos]
  len _ := rfl
  one x u hu := by simp at hu; rcases hu with rfl | rfl <;> rfl
  pos := by decide
theorem map_next {α β : Type} [Inhabited α] {f : α → β} {l : List α} {X : List β} {i : Int} (h : X = (l.take i.toNat).map f) (h0 : 0 ≤ i) (h1 : i < (l.length : Int)) : X ++ [f (gt l i)] = (l.take (i + 1).toNat).map f := by
  rw [take_gt h0 h1, List.map_append, h]; rfl
theorem map_end {α β : Type} {f : α → β} {l : List α} {X : List β} {i : Int} (h : X = (l.take i.toNat).map f) (h1 : ¬ i < (l.length : Int)) : X = l.map f := by
  rw [h, List.take_of_length_le (by omega)]
end Go.SX
