import Derived.Test.YtpjblnmophcdmaaProg
import Derived.Shelf.SlGeneric
import Derived.Ground.SlgmProg
import Derived.Test.YtpjblnmophcdmaaS3
set_option linter.unusedVariables false
set_option linter.unusedSimpArgs false
set_option linter.unusedSectionVars false
set_option maxRecDepth 20000
namespace Go.Proofs
open Go.Shelf
def Try.laySort_ren : Go.Shelf.Ren := ⟨fun | 5 => 78 | 8 => 82 | 7 => 81 | 19 => 93 | 20 => 94 | 10 => 84 | 11 => 85 | 12 => 86 | 13 => 87 | 14 => 88 | 15 => 89 | 16 => 90 | 17 => 91 | 18 => 92 | 30 => 95 | 31 => 96 | 32 => 97 | 33 => 98 | 34 => 99 | 35 => 66 | 40 => 100 | n => n, fun | 23 => 27 | 25 => 3 | 3 => 3 | 32 => 121 | 22 => 27 | 0 => 0 | 44 => 134 | 46 => 137 | 4 => 4 | 36 => 152 | 35 => 151 | 41 => 108 | 5 => 5 | 9 => 9 | 53 => 159 | 57 => 45 | 63 => 164 | 64 => 91 | n => n, fun | n => n⟩
theorem Try.laySort : Go.Proofs.SlLaysM.n5 prog Try.laySort_ren := {
 mixed := by kernel_rfl
 f5 := ⟨Try.f78.name, by decide, func78.trans (congrArg some (by  kernel_rfl))⟩
 f7 := ⟨Try.f81.name, by decide, func81.trans (congrArg some (by  kernel_rfl))⟩
 f8 := func82.trans (congrArg some (by  kernel_rfl))
 f10 := ⟨Try.f84.name, by decide, func84.trans (congrArg some (by  kernel_rfl))⟩
 f11 := ⟨Try.f85.name, by decide, func85.trans (congrArg some (by  kernel_rfl))⟩
 f12 := ⟨Try.f86.name, by decide, func86.trans (congrArg some (by  kernel_rfl))⟩
 f13 := ⟨Try.f87.name, by decide, func87.trans (congrArg some (by  kernel_rfl))⟩
 f14 := ⟨Try.f88.name, by decide, func88.trans (congrArg some (by  kernel_rfl))⟩
 f15 := ⟨Try.f89.name, by decide, func89.trans (congrArg some (by  kernel_rfl))⟩
 f16 := ⟨Try.f90.name, by decide, func90.trans (congrArg some (by  kernel_rfl))⟩
 f17 := ⟨Try.f91.name, by decide, func91.trans (congrArg some (by  kernel_rfl))⟩
 f18 := ⟨Try.f92.name, by decide, func92.trans (congrArg some (by  kernel_rfl))⟩
 f19 := func93.trans (congrArg some (by  kernel_rfl))
 f20 := func94.trans (congrArg some (by  kernel_rfl))
 f30 := ⟨Try.f95.name, by decide, func95.trans (congrArg some (by  kernel_rfl))⟩
 f31 := func96.trans (congrArg some (by  kernel_rfl))
 f32 := func97.trans (congrArg some (by  kernel_rfl))
 f33 := ⟨Try.f98.name, by decide, func98.trans (congrArg some (by  kernel_rfl))⟩
 f34 := ⟨Try.f99.name, by decide, func99.trans (congrArg some (by  kernel_rfl))⟩
 f35 := ⟨Try.f66.name, by decide, func66.trans (congrArg some (by  kernel_rfl))⟩
 f40 := ⟨Try.f100.name, by decide, func100.trans (congrArg some (by  kernel_rfl))⟩
 t0 := underlying0
 a0 := Try.isAgg0
 z0 := Try.sizeOf0
 v0 := Try.zeroValue0
 t3 := underlying3
 a3 := Try.isAgg3
 z3 := Try.sizeOf3
 v3 := Try.zeroValue3
 t4 := underlying4
 a4 := Try.isAgg4
 z4 := Try.sizeOf4
 v4 := Try.zeroValue4
 t5 := underlying5
 a5 := Try.isAgg5
 z5 := Try.sizeOf5
 v5 := Try.zeroValue5
 t9 := underlying9
 a9 := Try.isAgg9
 z9 := Try.sizeOf9
 v9 := Try.zeroValue9
 t22 := underlying27
 a22 := Try.isAgg27
 z22 := Try.sizeOf27
 v22 := Try.zeroValue27
 t23 := underlying27
 a23 := Try.isAgg27
 z23 := Try.sizeOf27
 v23 := Try.zeroValue27
 t25 := underlying3
 a25 := Try.isAgg3
 z25 := Try.sizeOf3
 v25 := Try.zeroValue3
 t32 := underlying121
 a32 := Try.isAgg121
 z32 := Try.sizeOf121
 v32 := Try.zeroValue121
 t35 := underlying151
 a35 := Try.isAgg151
 z35 := Try.sizeOf151
 v35 := Try.zeroValue151
 t36 := underlying152
 a36 := Try.isAgg152
 z36 := Try.sizeOf152
 v36 := Try.zeroValue152
 t41 := underlying108
 a41 := Try.isAgg108
 z41 := Try.sizeOf108
 v41 := Try.zeroValue108
 t44 := underlying134
 a44 := Try.isAgg134
 z44 := Try.sizeOf134
 v44 := Try.zeroValue134
 t46 := underlying137
 a46 := Try.isAgg137
 z46 := Try.sizeOf137
 v46 := Try.zeroValue137
 t53 := underlying159
 a53 := Try.isAgg159
 z53 := Try.sizeOf159
 v53 := Try.zeroValue159
 t57 := underlying45
 a57 := Try.isAgg45
 z57 := Try.sizeOf45
 v57 := Try.zeroValue45
 t63 := underlying164
 a63 := Try.isAgg164
 z63 := Try.sizeOf164
 v63 := Try.zeroValue164
 t64 := underlying91
 a64 := Try.isAgg91
 z64 := Try.sizeOf91
 v64 := Try.zeroValue91 }
end Go.Proofs
namespace Go.Proofs.Ytpjblnmophcdmaa.Sx
open Go Go.SX Go.Proofs Go.Proofs.Try
theorem sortZ_ (A : Option Addr) (n c : Nat) (l : List Int) (S : Nat → Prop) (wf : World) (hn : l.length = n) (hb : n ≤ 140737488355328) :
  TR0 prog 78 [.slice A n c] [rw_ eZ 3 (.slice A n c) l] S wf (fun v_ C_ => v_ = .tuple #[] ∧ C_ = [rw_ eZ 3 (.slice A n c) (srtL l)]) := sort_tr Try.laySort A n c 3 l S wf hn hb
end Go.Proofs.Ytpjblnmophcdmaa.Sx
namespace Go.SX
open Go Go.RowKit
theorem idx_inj {n a b c d : Int} (ha : 0 ≤ a ∧ a < n) (hb : 0 ≤ b ∧ b < n) (hc : 0 ≤ c ∧ c < n) (hd : 0 ≤ d ∧ d < n) (h : a * n + b = c * n + d) : a = c ∧ b = d := by
  have h1 : a = c := by
    rcases Int.lt_trichotomy a c with h1 | h1 | h1
    · have := Int.mul_le_mul_of_nonneg_right (show a + 1 ≤ c by omega) (show 0 ≤ n by omega)
      rw [Int.add_mul] at this; omega
    · exact h1
    · have := Int.mul_le_mul_of_nonneg_right (show c + 1 ≤ a by omega) (show 0 ≤ n by omega)
      rw [Int.add_mul] at this; omega
  subst h1; exact ⟨rfl, by omega⟩
theorem gtset {l : List Int} {i j x : Int} (h0 : 0 ≤ i) (h1 : i < (l.length : Int)) (h2 : 0 ≤ j) : gt (l.set i.toNat x) j = if i = j then x else gt l j := by
  unfold gt
  rw [List.getD_eq_getElem?_getD, List.getD_eq_getElem?_getD, List.getElem?_set]
  by_cases h : i = j
  · subst h; rw [if_pos rfl, if_pos rfl, if_pos (by omega)]; rfl
  · rw [if_neg (by omega), if_neg h]
structure MF (n : Int) (W : List Int) (f : Int → Int → Int) : Prop where
  len : (W.length : Int) = n * n
  at_ : ∀ x y : Int, 0 ≤ x → x < n → 0 ≤ y → y < n → gt W (x * n + y) = f x y
theorem MF.set {n : Int} {W : List Int} {f g : Int → Int → Int} {a b v : Int} (h : MF n W f) (ha : 0 ≤ a ∧ a < n) (hb : 0 ≤ b ∧ b < n) (h1 : g a b = v) (h2 : ∀ x y, ¬ (x = a ∧ y = b) → g x y = f x y) : MF n (W.set (a * n + b).toNat v) g where
  len := by rw [List.length_set]; exact h.len
  at_ := fun x y x0 x1 y0 y1 => by
    have hl := h.len
    have r1 := idx_rng ha hb
    have r2 := idx_rng (n := n) ⟨x0, x1⟩ ⟨y0, y1⟩
    rw [gtset (by omega) (by omega) (by omega)]
    split
    · rename_i e
      obtain ⟨e1, e2⟩ := idx_inj ha hb ⟨x0, x1⟩ ⟨y0, y1⟩ e
      subst e1; subst e2; exact h1.symm
    · rename_i e
      rw [h2 x y (fun ⟨e1, e2⟩ => e (by rw [e1, e2]))]; exact h.at_ x y x0 x1 y0 y1
theorem MF.congr {n : Int} {W : List Int} {f g : Int → Int → Int} (h : MF n W f) (h2 : ∀ x y, 0 ≤ x → x < n → 0 ≤ y → y < n → g x y = f x y) : MF n W g := ⟨h.len, fun x y a b c d => by rw [h2 x y a b c d]; exact h.at_ x y a b c d⟩
def nw (f : Int → Int → Int) (k x y : Int) : Int := if f x k ≥ 0 ∧ f k y ≥ 0 ∧ (f x y < 0 ∨ f x k + f k y < f x y) then f x k + f k y else f x y
def fw (f : Int → Int → Int) : Nat → Int → Int → Int
  | 0, x, y => if x = y then 0 else f x y
  | k + 1, x, y => nw (fw f k) k x y
structure FB (f : Int → Int → Int) (B : Int) : Prop where
  lo : ∀ x y, -1 ≤ f x y
  hi : ∀ x y, f x y ≤ B
  dg : ∀ x, f x x = 0
theorem nw_col {f : Int → Int → Int} {k x B : Int} (h : FB f B) : nw f k x k = f x k := by
  unfold nw; have := h.dg k; split <;> omega
theorem nw_row {f : Int → Int → Int} {k y B : Int} (h : FB f B) : nw f k k y = f k y := by
  unfold nw; have := h.dg k; split <;> omega
theorem FB.next {f : Int → Int → Int} {k B : Int} (h : FB f B) (hB : 0 ≤ B) : FB (nw f k) (2 * B) where
  lo := fun x y => by unfold nw; have := h.lo x y; split <;> omega
  hi := fun x y => by unfold nw; have h1 := h.hi x y; have h2 := h.hi x k; have h3 := h.hi k y; split <;> omega
  dg := fun x => by
    unfold nw; have := h.dg x
    split
    · rename_i c; omega
    · exact this
theorem fw_b {f : Int → Int → Int} (h1 : ∀ x y, -1 ≤ f x y) (h2 : ∀ x y, f x y ≤ 1000000) : ∀ k : Nat, FB (fw f k) (1000000 * 2 ^ k)
  | 0 => ⟨fun x y => by unfold fw; have := h1 x y; split <;> omega, fun x y => by unfold fw; have := h2 x y; split <;> omega, fun x => by unfold fw; rw [if_pos rfl]⟩
  | k + 1 => by
    have := FB.next (k := (k : Int)) (fw_b h1 h2 k) (by have : (0 : Int) ≤ 2 ^ k := Int.pow_nonneg (by decide); omega)
    rw [show (1000000 : Int) * 2 ^ (k + 1) = 2 * (1000000 * 2 ^ k) from by rw [Int.pow_succ]; omega]
    exact this
def stg (f : Int → Int → Int) (k i j x y : Int) : Int := if x < i ∨ (x = i ∧ y < j) then nw f k x y else f x y
section
variable {n k i j B : Int} {W : List Int} {f : Int → Int → Int}
theorem stg_a (h : MF n W (stg f k i j)) (hf : FB f B) (hi : 0 ≤ i ∧ i < n) (hk : 0 ≤ k ∧ k < n) : gt W (i * n + k) = f i k := by
  rw [h.at_ i k hi.1 hi.2 hk.1 hk.2]; unfold stg; split
  · exact nw_col hf
  · rfl
theorem stg_b (h : MF n W (stg f k i j)) (hf : FB f B) (hj : 0 ≤ j ∧ j < n) (hk : 0 ≤ k ∧ k < n) : gt W (k * n + j) = f k j := by
  rw [h.at_ k j hk.1 hk.2 hj.1 hj.2]; unfold stg; split
  · exact nw_row hf
  · rfl
theorem stg_c (h : MF n W (stg f k i j)) (hi : 0 ≤ i ∧ i < n) (hj : 0 ≤ j ∧ j < n) : gt W (i * n + j) = f i j := by
  rw [h.at_ i j hi.1 hi.2 hj.1 hj.2]; unfold stg; rw [if_neg (by omega)]
theorem stg_ne {x y : Int} (h : ¬ (x = i ∧ y = j)) : stg f k i (j + 1) x y = stg f k i j x y := by
  unfold stg
  by_cases h1 : x < i ∨ (x = i ∧ y < j)
  · rw [if_pos h1, if_pos (by omega)]
  · rw [if_neg h1, if_neg (by omega)]
theorem stg_yes (h : MF n W (stg f k i j)) (hf : FB f B) (hi : 0 ≤ i ∧ i < n) (hj : 0 ≤ j ∧ j < n) (hk : 0 ≤ k ∧ k < n) (hc : (gt W (i * n + k) ≥ 0 ∧ gt W (k * n + j) ≥ 0) ∧ (gt W (i * n + j) < 0 ∨ gt W (i * n + k) + gt W (k * n + j) < gt W (i * n + j))) : MF n (W.set (i * n + j).toNat (gt W (i * n + k) + gt W (k * n + j))) (stg f k i (j + 1)) := by
  refine h.set hi hj ?_ (fun x y e => stg_ne e)
  rw [stg_a h hf hi hk, stg_b h hf hj hk, stg_c h hi hj] at hc
  rw [stg_a h hf hi hk, stg_b h hf hj hk]
  unfold stg; rw [if_pos (by omega)]; unfold nw; rw [if_pos ⟨hc.1.1, hc.1.2, hc.2⟩]
theorem stg_no (h : MF n W (stg f k i j)) (hf : FB f B) (hi : 0 ≤ i ∧ i < n) (hj : 0 ≤ j ∧ j < n) (hk : 0 ≤ k ∧ k < n) (hc : ¬ ((gt W (i * n + k) ≥ 0 ∧ gt W (k * n + j) ≥ 0) ∧ (gt W (i * n + j) < 0 ∨ gt W (i * n + k) + gt W (k * n + j) < gt W (i * n + j)))) : MF n W (stg f k i (j + 1)) := by
  refine h.congr (fun x y _ _ _ _ => ?_)
  by_cases e : x = i ∧ y = j
  · obtain ⟨rfl, rfl⟩ := e
    rw [stg_a h hf hi hk, stg_b h hf hj hk, stg_c h hi hj] at hc
    unfold stg; rw [if_pos (by omega), if_neg (by omega)]; unfold nw; rw [if_neg (fun q => hc ⟨⟨q.1, q.2.1⟩, q.2.2⟩)]
  · exact stg_ne e
theorem stg_row (h : MF n W (stg f k i j)) (hj : n ≤ j) : MF n W (stg f k (i + 1) 0) := h.congr (fun x y x0 x1 y0 y1 => by
  unfold stg
  by_cases e : x < i + 1
  · rw [if_pos (.inl e), if_pos (by omega)]
  · rw [if_neg (by omega), if_neg (by omega)])
theorem stg_0 (h : MF n W f) : MF n W (stg f k 0 0) := h.congr (fun x y x0 x1 y0 y1 => by unfold stg; rw [if_neg (by omega)])
theorem stg_end (h : MF n W (stg f k i 0)) (hi : n ≤ i) : MF n W (nw f k) := h.congr (fun x y x0 x1 y0 y1 => by unfold stg; rw [if_pos (.inl (by omega))])
end
def tf (n : Int) (t : List Int) (x y : Int) : Int := gt t (x * n + y)
def dgf (f : Int → Int → Int) (a x y : Int) : Int := if x = y ∧ x < a then 0 else f x y
theorem dg_0 {n : Int} {t : List Int} (h : (t.length : Int) = n * n) : MF n t (dgf (tf n t) 0) := ⟨h, fun x y x0 x1 y0 y1 => by unfold dgf tf; rw [if_neg (by omega)]⟩
theorem dg_next {n a : Int} {W : List Int} {f : Int → Int → Int} (h : MF n W (dgf f a)) (ha : 0 ≤ a ∧ a < n) : MF n (W.set (a * n + a).toNat 0) (dgf f (a + 1)) := by
  refine h.set ha ha ?_ (fun x y e => ?_)
  · unfold dgf; rw [if_pos ⟨rfl, by omega⟩]
  · unfold dgf
    by_cases h1 : x = y ∧ x < a
    · rw [if_pos h1, if_pos (by omega)]
    · rw [if_neg h1, if_neg (by omega)]
theorem dg_end {n a : Int} {W : List Int} {f : Int → Int → Int} (h : MF n W (dgf f a)) (ha : n ≤ a) : MF n W (fw f ((0 : Int)).toNat) := h.congr (fun x y x0 x1 y0 y1 => by
  show (if x = y then 0 else f x y) = _
  unfold dgf
  by_cases e : x = y
  · rw [if_pos e, if_pos ⟨e, by omega⟩]
  · rw [if_neg e, if_neg (fun q => e q.1)])
theorem fw_next {n k i : Int} {W : List Int} {f : Int → Int → Int} (h : MF n W (stg (fw f k.toNat) k i 0)) (hi : n ≤ i) (hk : 0 ≤ k) : MF n W (fw f (k + 1).toNat) := by
  have := stg_end h hi
  rw [show (k + 1).toNat = k.toNat + 1 from by omega]
  refine this.congr (fun x y _ _ _ _ => ?_)
  show nw (fw f k.toNat) ((k.toNat : Nat) : Int) x y = _
  rw [show ((k.toNat : Nat) : Int) = k from by omega]
theorem fw_bd {n k : Int} {f : Int → Int → Int} (h1 : ∀ x y, -1 ≤ f x y) (h2 : ∀ x y, f x y ≤ 1000000) (hn : n ≤ 32) (h0 : 0 ≤ k) (hk : k < n) : FB (fw f k.toNat) 2147483648000000 := by
  have h := fw_b h1 h2 k.toNat
  have h3 : (2 : Int) ^ k.toNat ≤ 2 ^ 31 := by have h4 := Nat.pow_le_pow_right (n := 2) (by decide) (show k.toNat ≤ 31 by omega); exact_mod_cast h4
  exact ⟨h.lo, fun x y => by have := h.hi x y; have e : (2 : Int) ^ 31 = 2147483648 := by decide
                             rw [e] at h3; omega, h.dg⟩
end Go.SX
namespace Go.SX
open Go Go.RowKit
theorem cb_tf {x y : Bool} : (x && !y) = ((x == true) && (y == false)) := by cases x <;> cases y <;> rfl
theorem cb_ft {x y : Bool} : (!x && y) = ((x == false) && (y == true)) := by cases x <;> cases y <;> rfl
theorem gvn {b b1 c w1 want : Bool} {v : Value} (hc : c = ((b1 == w1) && (b == want))) (hb : b1 = w1) : gv c true v = gv b want v := by
  subst hb hc
  cases b1 <;> cases b <;> cases want <;> rfl
theorem lkgn {L : List (Nat × Value)} {x : Operand} {b b1 c w1 want : Bool} {v : Value} (h : lk L x = some (gv c true v)) (hc : c = ((b1 == w1) && (b == want))) (hb : b1 = w1) : lk L x = some (gv b want v) := by
  rw [h, gvn hc hb]
section
variable {V : Env} {P : Program} {Q : Exit → Act → World → Prop} {ops : Array Oper} {N : Nat} {o : Oper} {rest : List Oper} {L : List (Nat × Value)} {H : List Res} {S : Nat → Prop} {wf : World} {K : St → Prop} {st : St}
  {B : World → Prop} {cs : List (Nat × (World → Prop))} {fuel : Nat} {listed : Array Bool}
theorem yielded_gv {a : Act} {g t : Nat} {b b1 w1 : Bool} (hs : SL N L a) (ht : (ops[g]?).bind (·.dst) = some t) (hL : lkp L t = some (gv b1 w1 (.bool b))) : yielded ops a.tmps g = if b1 = w1 then some b else none := by
  by_cases hb : b1 = w1
  · rw [if_pos hb]
    rw [gv, if_pos hb] at hL
    exact yielded_of hs ht hL
  · rw [if_neg hb]
    rw [gv, if_neg hb] at hL
    have h := hs.2.2 t _ hL
    simp only [yielded, ht]
    cases hq : a.tmps[t]? with
    | none => simp [hq]
    | some u =>
      rw [Array.getD_eq_getD_getElem?, hq] at h
      simp at h
      subst h
      simp [hq, undef]
theorem Ev.ggstep {d g t : Nat} {want b b1 w1 c : Bool} {v : Value} (hc : c = ((b1 == w1) && (b == want))) (h : b1 = w1 → c = true → Ev P (WW V S wf H) L o v)
    (hg : o.guard = some (g, want)) (ht : (ops[g]?).bind (·.dst) = some t) (hL : lkp L t = some (gv b1 w1 (.bool b))) (hd : o.dst = some d) (hdN : Nat.blt d N = true)
    (k : K ⟨(d, gv c true v) :: L, H, S, wf⟩) : OpStep V P Q ops N o ⟨L, H, S, wf⟩ K := by
  intro a w hs hw J hJ
  unfold Step1
  have hy := yielded_gv hs ht hL
  by_cases hct : c = true
  · have h12 : b1 = w1 ∧ b = want := by rw [hc] at hct; simpa using hct
    obtain ⟨hn, hk, h⟩ := h h12.1 hct
    rw [if_pos h12.1] at hy
    rw [if_pos (by simp [Region.wanted, hg, hy, h12.2])]
    rw [show gv c true v = v from if_pos hct] at k
    refine .inl ?_
    unfold Oper.wp
    rw [exec_ev hs hn hk, h w hw, Oper.upon_value, hd]
    exact hJ _ k _ _ (hs.put hdN v) hw
  · have hno : Region.wanted o (yielded ops a.tmps) = false := by
      by_cases hb1 : b1 = w1
      · rw [if_pos hb1] at hy
        have : ¬ b = want := fun e => hct (by rw [hc, hb1, e]; simp)
        simp [Region.wanted, hg, hy, this]
      · rw [if_neg hb1] at hy
        simp [Region.wanted, hg, hy]
    rw [if_neg (by simp [hno]), hd]
    rw [show gv c true v = undef from if_neg hct] at k
    exact hJ _ k _ _ (hs.put hdN undef) hw
end
end Go.SX
namespace Go.SX
open Go Go.RowKit
section
variable {V : Env} {P : Program} {Q : Exit → Act → World → Prop} {N : Nat} {L L' : List (Nat × Value)} {H H' : List Res} {S : Nat → Prop} {wf : World} {st : St} {x y : Code}
theorem SC.seqx {X : Type} (Φ : X → Prop) (F : X → List (Nat × Value) × List Res) (S0 : Nat → Prop) (wf0 : World) (h1 : ∀ b, Φ b → SC V P Q N y ⟨(F b).1, (F b).2, S0, wf0⟩) (h2 : (∀ b, Φ b → SC V P Q N y ⟨(F b).1, (F b).2, S0, wf0⟩) → SC V P (Exit.then (y.wp P Q) Q) N x st) : SC V P Q N (.seq x y) st := fun a w hs hw => wp_seq (h2 h1 a w hs hw)
theorem SC.weak (h : SC V P Q N y ⟨L', H', S, wf⟩) (hL : ∀ k v, lkp L' k = some v → lkp L k = some v) (hw : ∀ w, WW V S wf H w → WW V S wf H' w) : SC V P Q N y ⟨L, H, S, wf⟩ := fun a w hs hw' => h a w (hs.mono hL) (hw w hw')
end
end Go.SX
namespace Go.SX
open Go
def sqR : Code → Code
  | .seq _ b => b
  | c => c
def bodyC (f : Func) : Code := f.body.getD .skip
end Go.SX
namespace Go.SX
def linksG (G : GS) (l : List LK) : GS := l.foldl linkG G
def goneG (G : GS) (p : Int) : GS := ⟨G.go, G.gi, G.gl, G.gg.set p.toNat true⟩
inductive NX : (Int → Option Int) → GS → Int → (Int → Option Int) → GS → Prop
  | take {f G p key} : leastK f p key → ¬ (prG G p > key ∧ ∃ x, delK f p x ≠ none) → NX f G p (delK f p) (goneG (linksG G (scG G p)) p)
  | again {f G p key q f2 G2} : leastK f p key → prG G p > key → (∃ x, delK f p x ≠ none) → NX (putK (delK f p) p (prG G p)) G q f2 G2 → NX f G q f2 G2
theorem nx_take {f f2 : Int → Option Int} {G G2 : GS} {p key : Int} (h : leastK f p key) (hn : ¬ (prG G p > key ∧ ∃ x, delK f p x ≠ none)) (e1 : f2 = delK f p) (e2 : G2 = goneG (linksG G (scG G p)) p) : NX f G p f2 G2 := by
  subst e1 e2; exact .take h hn
theorem gok_link {n : Int} {G : GS} {k : LK} (hG : GOK n G) (hk : 0 ≤ k.lf ∧ k.lf < n ∧ 0 ≤ k.lt ∧ k.lt < n) (hw : 0 ≤ k.lw ∧ k.lw ≤ 10000000000000000) : GOK n (linkG G k) := by
  unfold linkG
  split
  · exact hG
  · have hlo := hG.lo
    have hli := hG.li
    have mapok : ∀ (M : List (List (Int × Int))) (i x : Int), 0 ≤ i → i < M.length → 0 ≤ x → x < n → (∀ p : Int, ((gt M p).map Prod.fst).Nodup ∧ ∀ x, mhas (gt M p) x = true → 0 ≤ x ∧ x < n ∧ 0 ≤ mget (gt M p) x 0 ∧ mget (gt M p) x 0 < G.gl.length) →
        ∀ p : Int, ((gt (M.set i.toNat (mset (gt M i) x (G.gl.length : Int))) p).map Prod.fst).Nodup ∧ ∀ y, mhas (gt (M.set i.toNat (mset (gt M i) x (G.gl.length : Int))) p) y = true → 0 ≤ y ∧ y < n ∧ 0 ≤ mget (gt (M.set i.toNat (mset (gt M i) x (G.gl.length : Int))) p) y 0 ∧ mget (gt (M.set i.toNat (mset (gt M i) x (G.gl.length : Int))) p) y 0 < (G.gl ++ [k]).length := by
      intro M i x i0 i1 x0 x1 hM p
      have hle : (G.gl ++ [k]).length = G.gl.length + 1 := by simp
      by_cases e : p.toNat = i.toNat
      · have eg : gt (M.set i.toNat (mset (gt M i) x (G.gl.length : Int))) p = mset (gt M i) x (G.gl.length : Int) := by
          have := gtS (l := M) (i := i) (x := mset (gt M i) x (G.gl.length : Int)) i0 i1
          unfold gt at this ⊢
          rw [e]; exact this
        rw [eg]
        refine ⟨nd_set (hM i).1, fun y hy => ?_⟩
        rw [mhas_set, Bool.or_eq_true, decide_eq_true_eq] at hy
        rw [mget_set]
        by_cases exy : x = y
        · subst exy; rw [if_pos rfl]; exact ⟨x0, x1, by omega, by omega⟩
        · rw [if_neg exy]
          have := (hM i).2 y (hy.resolve_right exy)
          exact ⟨this.1, this.2.1, this.2.2.1, by omega⟩
      · have eg : gt (M.set i.toNat (mset (gt M i) x (G.gl.length : Int))) p = gt M p := by
          simp [gt, List.getD_eq_getElem?_getD, List.getElem?_set_ne (Ne.symm e)]
        rw [eg]
        refine ⟨(hM p).1, fun y hy => ?_⟩
        have := (hM p).2 y hy
        exact ⟨this.1, this.2.1, this.2.2.1, by omega⟩
    refine ⟨hG.n1, by show ((G.go.set _ _).length : Int) = n; rw [List.length_set]; exact hlo, by show ((G.gi.set _ _).length : Int) = n; rw [List.length_set]; exact hli, hG.lg, fun j j0 j1 => ?_, mapok G.go k.lf k.lt hk.1 (by omega) hk.2.2.1 hk.2.2.2 hG.om, mapok G.gi k.lt k.lf hk.2.2.1 (by omega) hk.1 hk.2.1 hG.im⟩
    have j1 : j < ((G.gl ++ [k]).length : Int) := j1
    rw [List.length_append, List.length_singleton] at j1
    show 0 ≤ (gt (G.gl ++ [k]) j).lf ∧ _
    by_cases e : j < G.gl.length
    · show _ ∧ (gt (G.gl ++ [k]) j).lf < n ∧ 0 ≤ (gt (G.gl ++ [k]) j).lt ∧ (gt (G.gl ++ [k]) j).lt < n ∧ 0 ≤ (gt (G.gl ++ [k]) j).lw ∧ (gt (G.gl ++ [k]) j).lw ≤ _
      rw [gtA j0 e]; exact hG.lk j j0 e
    · show _ ∧ (gt (G.gl ++ [k]) j).lf < n ∧ 0 ≤ (gt (G.gl ++ [k]) j).lt ∧ (gt (G.gl ++ [k]) j).lt < n ∧ 0 ≤ (gt (G.gl ++ [k]) j).lw ∧ (gt (G.gl ++ [k]) j).lw ≤ _
      rw [gtB (by omega), show j - (G.gl.length : Int) = 0 from by omega]
      show 0 ≤ k.lf ∧ k.lf < n ∧ 0 ≤ k.lt ∧ k.lt < n ∧ 0 ≤ k.lw ∧ k.lw ≤ _
      omega
theorem gok_gone {n : Int} {G : GS} {p : Int} (hG : GOK n G) : GOK n (goneG G p) :=
  ⟨hG.n1, hG.lo, hG.li, by show ((G.gg.set _ _).length : Int) = n; rw [List.length_set]; exact hG.lg, hG.lk, hG.om, hG.im⟩
def WB (G : GS) (W : Int) : Prop := ∀ k ∈ G.gl, k.lw ≤ W
theorem wb_link {G : GS} {W : Int} {k : LK} (h : WB G W) (hk : k.lw ≤ W) : WB (linkG G k) W := by
  unfold linkG
  split
  · exact h
  · intro x hx
    have hx : x ∈ G.gl ++ [k] := hx
    rcases List.mem_append.1 hx with hx | hx
    · exact h x hx
    · simp only [List.mem_singleton] at hx; subst hx; exact hk
theorem link_len (G : GS) (k : LK) : G.gl.length ≤ (linkG G k).gl.length ∧ (linkG G k).gl.length ≤ G.gl.length + 1 := by
  unfold linkG
  split
  · omega
  · show G.gl.length ≤ (G.gl ++ [k]).length ∧ (G.gl ++ [k]).length ≤ _
    simp
theorem link_gg (G : GS) (k : LK) : (linkG G k).gg = G.gg := by unfold linkG; split <;> rfl
def kOk (n W : Int) (k : LK) : Prop := (0 ≤ k.lf ∧ k.lf < n ∧ 0 ≤ k.lt ∧ k.lt < n) ∧ k.lf ≠ k.lt ∧ 0 ≤ k.lw ∧ k.lw ≤ W
theorem links_ok {n W : Int} {l : List LK} : ∀ {G : GS}, GOK n G → WB G W → W ≤ 10000000000000000 → (∀ k ∈ l, kOk n W k) → GOK n (linksG G l) ∧ WB (linksG G l) W ∧ (linksG G l).gl.length ≤ G.gl.length + l.length ∧ (linksG G l).gg = G.gg := by
  induction l with
  | nil => intro G hG hW hWb _; exact ⟨hG, hW, by simp [linksG], rfl⟩
  | cons k l ih =>
    intro G hG hW hWb hk
    have h1 := hk k (by simp)
    have := ih (gok_link hG h1.1 ⟨h1.2.2.1, by have := h1.2.2.2; omega⟩) (wb_link hW h1.2.2.2) hWb (fun x hx => hk x (by simp [hx]))
    have hl := (link_len G k).2
    refine ⟨this.1, this.2.1, ?_, by rw [← link_gg G k]; exact this.2.2.2⟩
    have h3 := this.2.2.1
    show (linksG (linkG G k) l).gl.length ≤ G.gl.length + (k :: l).length
    rw [List.length_cons]; omega
theorem links_snoc {G : GS} {l : List LK} {k : LK} : linksG G (l ++ [k]) = linkG (linksG G l) k := by unfold linksG; rw [List.foldl_append]; rfl
theorem links_next {G G1 G2 : GS} {l : List LK} {i : Int} (h : G1 = linksG G (l.take i.toNat)) (h0 : 0 ≤ i) (h1 : i < (l.length : Int)) (h2 : G2 = linkG G1 (gt l i)) : G2 = linksG G (l.take (i + 1).toNat) := by
  rw [take_gt h0 h1, links_snoc, ← h]; exact h2
theorem mem_scG {G : GS} {p : Int} {k : LK} (h : k ∈ scG G p) : mhas (gt G.gi p) k.lf = true ∧ gt G.gg k.lf = false ∧ mhas (gt G.go p) k.lt = true ∧ gt G.gg k.lt = false ∧ k.lt ≠ k.lf ∧ k.lm = p ∧ k.lw = scD G p k.lf k.lt := by
  unfold scG at h
  obtain ⟨fr, hfr, h⟩ := List.mem_flatMap.1 h
  unfold scF at h
  split at h
  · cases h
  rename_i hg
  obtain ⟨to, hto, h⟩ := List.mem_flatMap.1 h
  have key : k = ⟨fr, to, scD G p fr to, p⟩ ∧ ¬ (gt G.gg to = true ∨ to = fr) := by
    unfold scE at h
    split at h
    · cases h
    rename_i hn
    split at h
    · split at h
      · simp only [List.mem_singleton] at h; exact ⟨h, hn⟩
      · cases h
    · simp only [List.mem_singleton] at h; exact ⟨h, hn⟩
  obtain ⟨rfl, hn⟩ := key
  exact ⟨mem_srtK.1 hfr, by simpa using hg, mem_srtK.1 hto, by simpa using fun e => hn (.inl e), fun e => hn (.inr e), rfl, rfl⟩
theorem scG_or {G : GS} {p fr to : Int} (h1 : mhas (gt G.gi p) fr = true) (h2 : gt G.gg fr = false) (h3 : mhas (gt G.go p) to = true) (h4 : gt G.gg to = false) (h5 : to ≠ fr) : ⟨fr, to, scD G p fr to, p⟩ ∈ scG G p ∨ ∃ o, arR G fr p to = some o ∧ o ≤ scD G p fr to := by
  have hin : scE G p fr to = [⟨fr, to, scD G p fr to, p⟩] → ⟨fr, to, scD G p fr to, p⟩ ∈ scG G p := fun e => by
    unfold scG
    refine List.mem_flatMap.2 ⟨fr, mem_srtK.2 h1, ?_⟩
    rw [scF_do (by rw [h2]; decide)]
    exact List.mem_flatMap.2 ⟨to, mem_srtK.2 h3, by rw [e]; simp⟩
  have hn : ¬ (gt G.gg to = true ∨ to = fr) := by rintro (e | e); rw [h4] at e; cases e; exact h5 e
  cases ha : arR G fr p to with
  | none => left; apply hin; unfold scE; rw [if_neg hn, ha]
  | some o =>
    by_cases ho : o > scD G p fr to
    · left; apply hin; unfold scE; rw [if_neg hn, ha]; simp only; rw [if_pos ho]
    · exact .inr ⟨o, rfl, by omega⟩
theorem sc_kok {n W : Int} {G : GS} {p : Int} (hG : GOK n G) (hW : WB G W) (h2 : 0 ≤ W) : ∀ k ∈ scG G p, kOk n (2 * W) k := fun k hk => by
  obtain ⟨a1, a2, a3, a4, a5, a6, a7⟩ := mem_scG hk
  have b1 := (hG.im p).2 _ a1
  have b2 := (hG.om p).2 _ a3
  have c1 := hG.lk _ b1.2.2.1 b1.2.2.2
  have c2 := hG.lk _ b2.2.2.1 b2.2.2.2
  have d1 := hW _ (gtM b1.2.2.1 b1.2.2.2)
  have d2 := hW _ (gtM b2.2.2.1 b2.2.2.2)
  refine ⟨⟨b1.1, b1.2.1, b2.1, b2.2.1⟩, fun e => a5 e.symm, ?_, ?_⟩ <;> (rw [a7]; unfold scD; omega)
noncomputable def stl (G : GS) (f : Int → Option Int) : Nat := (List.range 32).countP (fun x : Nat => match f (x : Int) with
  | some k => decide (k < prG G (x : Int))
  | none => false)
theorem countP_lt_ {α : Type} {p q : α → Bool} : ∀ {l : List α}, (∀ x ∈ l, q x = true → p x = true) → (∃ x ∈ l, p x = true ∧ q x = false) → l.countP q < l.countP p
  | [], _, h => by obtain ⟨x, hx, _⟩ := h; cases hx
  | a :: l, hi, h => by
    rw [List.countP_cons, List.countP_cons]
    have hle : l.countP q ≤ l.countP p := List.countP_mono_left (fun x hx => hi x (List.mem_cons_of_mem _ hx))
    by_cases he : p a = true ∧ q a = false
    · rw [if_pos he.1, if_neg (by rw [he.2]; decide)]; omega
    · have ih := countP_lt_ (l := l) (fun x hx => hi x (List.mem_cons_of_mem _ hx)) (by
        obtain ⟨x, hx, h1⟩ := h
        rcases List.mem_cons.1 hx with rfl | hx
        · exact absurd h1 he
        · exact ⟨x, hx, h1⟩)
      have h3 := hi a (by simp)
      cases hq : q a with
      | true => rw [h3 hq]; simp; omega
      | false => simp; omega
theorem stl_lt {G : GS} {f f2 : Int → Option Int} {p key : Int} (hl : leastK f p key) (hp : 0 ≤ p ∧ p < 32) (hk : prG G p > key) (h2 : f2 = putK (delK f p) p (prG G p)) : stl G f2 < stl G f := by
  subst h2
  unfold stl
  refine countP_lt_ (fun x hx hq => ?_) ⟨p.toNat, List.mem_range.2 (by omega), ?_, ?_⟩
  · by_cases e : (x : Int) = p
    · rw [e] at hq
      unfold putK delK at hq
      simp at hq
    · unfold putK delK at hq
      simp only [if_neg e] at hq; exact hq
  · rw [show ((p.toNat : Nat) : Int) = p from by omega, hl.1]; simpa using hk
  · rw [show ((p.toNat : Nat) : Int) = p from by omega]
    unfold putK delK
    simp
end Go.SX
namespace Go.SX
theorem pr_bd {n p : Int} {G : GS} (hG : GOK n G) : -10000 ≤ prG G p ∧ prG G p ≤ 10000 := by
  have h1 := scG_len hG p
  have h2 := nOf_le (gt G.go p) G.gg
  have h3 := nOf_le (gt G.gi p) G.gg
  have h4 := keys_le (hG.om p).1 (fun x hx => ⟨((hG.om p).2 x hx).1, ((hG.om p).2 x hx).2.1⟩) (by have := hG.n1; omega)
  have h5 := keys_le (hG.im p).1 (fun x hx => ⟨((hG.im p).2 x hx).1, ((hG.im p).2 x hx).2.1⟩) (by have := hG.n1; omega)
  have := hG.n1
  unfold prG; omega
theorem nx_pos {l : List EN} {m : List (Int × Int)} {f : Int → Option Int} {p k : Int} (h : QI l m) (e : kq l = putK f p k) : 0 < l.length := by
  rcases Nat.eq_zero_or_pos l.length with h0 | h0
  · have := kq_nil h0 p
    rw [e] at this; unfold putK at this; simp at this
  · exact h0
theorem nx_some {l : List EN} {x : Int} {k : Nat} (h : kq l x ≠ none) (hk : l.length = k) : (k : Int) > 0 := by
  rcases Nat.eq_zero_or_pos l.length with h0 | h0
  · exact absurd (kq_nil h0 x) h
  · omega
theorem nx_dom {n p k : Int} {f f2 f3 : Int → Option Int} (h : ∀ x k, f x = some k → (0 ≤ x ∧ x < n) ∧ -10000 ≤ k ∧ k ≤ 10000) (e : f2 = delK f p) (e2 : f3 = putK f2 p k) (hp : 0 ≤ p ∧ p < n) (hk : -10000 ≤ k ∧ k ≤ 10000) : ∀ x k, f3 x = some k → (0 ≤ x ∧ x < n) ∧ -10000 ≤ k ∧ k ≤ 10000 := fun x k1 hx => by
  subst e e2
  unfold putK delK at hx
  by_cases e : x = p
  · subst e; simp at hx; subst hx; exact ⟨hp, hk⟩
  · simp only [if_neg e] at hx; exact h x k1 hx
end Go.SX
namespace Go.SX
open Go Go.RowKit
def G0 (n : Int) : GS := ⟨List.replicate n.toNat [], List.replicate n.toNat [], [], List.replicate n.toNat false⟩
theorem gt_repl {α : Type} [Inhabited α] {n : Nat} {x : α} (i : Int) : gt (List.replicate n x) i = x ∨ gt (List.replicate n x) i = default := by
  rcases gt_mem_or (List.replicate n x) i with h | h
  · exact .inl (List.eq_of_mem_replicate h)
  · exact .inr h
theorem gok_0 {n : Int} (hn : 1 ≤ n ∧ n ≤ 32) : GOK n (G0 n) := by
  have hm : ∀ p : Int, gt (List.replicate n.toNat ([] : List (Int × Int))) p = [] := fun p => (gt_repl (x := ([] : List (Int × Int))) p).elim id id
  refine ⟨hn, by simp [G0]; omega, by simp [G0]; omega, by simp [G0]; omega, fun j j0 j1 => by simp [G0] at j1; omega, fun p => ?_, fun p => ?_⟩
  · show ((gt (List.replicate n.toNat ([] : List (Int × Int))) p).map Prod.fst).Nodup ∧ ∀ x, mhas (gt (List.replicate n.toNat ([] : List (Int × Int))) p) x = true → _
    rw [hm]; exact ⟨by simp, fun x hx => by simp [mhas] at hx⟩
  · show ((gt (List.replicate n.toNat ([] : List (Int × Int))) p).map Prod.fst).Nodup ∧ ∀ x, mhas (gt (List.replicate n.toNat ([] : List (Int × Int))) p) x = true → _
    rw [hm]; exact ⟨by simp, fun x hx => by simp [mhas] at hx⟩
theorem wb_0 {n W : Int} : WB (G0 n) W := fun k hk => by cases hk
def eL (p : Int) (e : EG) : LK := ⟨p, e.et, e.ew, -1⟩
def bEp (fi : List Int) (ed : List EG) (p : Int) : List LK := (outL fi ed p).map (eL p)
def bEto (fi : List Int) (ed : List EG) : Nat → List LK
  | 0 => []
  | p + 1 => bEto fi ed p ++ bEp fi ed p
def bL (fi : List Int) (ed : List EG) (p : Int) : List LK := bEto fi ed p.toNat
theorem bL_s {fi : List Int} {ed : List EG} {p : Int} (h : 0 ≤ p) : bL fi ed (p + 1) = bL fi ed p ++ bEp fi ed p := by
  unfold bL; rw [show (p + 1).toNat = p.toNat + 1 from by omega, bEto, show ((p.toNat : Nat) : Int) = p from by omega]
theorem bEp_len {fi : List Int} {ed : List EG} {p : Int} : (bEp fi ed p).length ≤ ed.length := by
  unfold bEp outL; rw [List.length_map, List.length_drop, List.length_take]; omega
theorem mem_bL {fi : List Int} {ed : List EG} {n : Int} (hn : 0 ≤ n) {k : LK} : k ∈ bL fi ed n ↔ ∃ p : Int, 0 ≤ p ∧ p < n ∧ ∃ e ∈ outL fi ed p, k = eL p e := by
  obtain ⟨m, rfl⟩ : ∃ m : Nat, n = m := ⟨n.toNat, by omega⟩
  induction m with
  | zero => exact ⟨fun h => (by cases h), fun ⟨p, h0, h1, _⟩ => (by omega)⟩
  | succ m ih =>
    rw [show ((m + 1 : Nat) : Int) = (m : Int) + 1 from by omega, bL_s (by omega), List.mem_append, ih (by omega)]
    constructor
    · rintro (⟨p, p0, p1, h⟩ | h)
      · exact ⟨p, p0, by omega, h⟩
      · obtain ⟨e, he, rfl⟩ := List.mem_map.1 h
        exact ⟨m, by omega, by omega, e, he, rfl⟩
    · rintro ⟨p, p0, p1, e, he, rfl⟩
      by_cases hp : p < m
      · exact .inl ⟨p, p0, hp, e, he, rfl⟩
      · right
        obtain rfl : p = m := by omega
        exact List.mem_map.2 ⟨e, he, rfl⟩
theorem bL_len {fi : List Int} {ed : List EG} {p : Int} (h : 0 ≤ p) : ((bL fi ed p).length : Int) ≤ p * ed.length := by
  obtain ⟨m, rfl⟩ : ∃ m : Nat, p = m := ⟨p.toNat, by omega⟩
  induction m with
  | zero => simp [bL, bEto]
  | succ m ih =>
    rw [show ((m + 1 : Nat) : Int) = (m : Int) + 1 from by omega, bL_s (by omega), List.length_append, Int.add_mul]
    have := ih (by omega)
    have := bEp_len (fi := fi) (ed := ed) (p := (m : Int))
    omega
theorem bEp_ok {n p : Int} {t fi : List Int} {ed : List EG} (hT : TabOk n t) (hG : GOk n t fi ed) (h0 : 0 ≤ p) (h1 : p < n) : ∀ k ∈ bEp fi ed p, kOk n 1000000 k := fun k hk => by
  obtain ⟨e, he, rfl⟩ := List.mem_map.1 hk
  have h := hG.ok p h0 h1 e he
  have hw := (hT.rng (p * n + e.et)).2
  exact ⟨⟨h0, h1, h.1, h.2.1⟩, fun q => h.2.2.1 q.symm, h.2.2.2.1, by show e.ew ≤ _; omega⟩
theorem bL_ok {n p : Int} {t fi : List Int} {ed : List EG} (hT : TabOk n t) (hG : GOk n t fi ed) (h0 : 0 ≤ p) (h1 : p ≤ n) : ∀ k ∈ bL fi ed p, kOk n 1000000 k := fun k hk => by
  obtain ⟨q, q0, q1, e, he, rfl⟩ := (mem_bL h0).1 hk
  exact bEp_ok hT hG q0 (by omega) _ (List.mem_map.2 ⟨e, he, rfl⟩)
def G1 (n : Int) (fi : List Int) (ed : List EG) : GS := linksG (G0 n) (bL fi ed n)
theorem pre_ok {n p : Int} {t fi : List Int} {ed : List EG} (hT : TabOk n t) (hG : GOk n t fi ed) (h0 : 0 ≤ p) (h1 : p ≤ n) {j : Nat} (hj : p < n ∨ j = 0) : GOK n (linksG (G0 n) (bL fi ed p ++ (bEp fi ed p).take j)) ∧ WB (linksG (G0 n) (bL fi ed p ++ (bEp fi ed p).take j)) 1000000 ∧ ((linksG (G0 n) (bL fi ed p ++ (bEp fi ed p).take j)).gl.length : Int) ≤ 8448 := by
  have hk : ∀ k ∈ bL fi ed p ++ (bEp fi ed p).take j, kOk n 1000000 k := fun k hk => by
    rcases List.mem_append.1 hk with hk | hk
    · exact bL_ok hT hG h0 h1 k hk
    · rcases hj with hj | rfl
      · exact bEp_ok hT hG h0 hj k (List.mem_of_mem_take hk)
      · simp at hk
  have := links_ok (gok_0 hT.pl) wb_0 (by decide) hk
  refine ⟨this.1, this.2.1, ?_⟩
  have h3 := this.2.2.1
  rw [List.length_append, List.length_take] at h3
  have h4 := bL_len (fi := fi) (ed := ed) h0
  have h5 := bEp_len (fi := fi) (ed := ed) (p := p)
  have h6 := hG.ne
  have h7 := hT.pl
  have h8 : p * (ed.length : Int) ≤ 32 * 256 := Int.mul_le_mul (by omega) (by omega) (by omega) (by decide)
  have h9 : (G0 n).gl.length = 0 := rfl
  omega
theorem pre_ok0 {n p : Int} {t fi : List Int} {ed : List EG} (hT : TabOk n t) (hG : GOk n t fi ed) (h0 : 0 ≤ p) (h1 : p ≤ n) : GOK n (linksG (G0 n) (bL fi ed p)) ∧ WB (linksG (G0 n) (bL fi ed p)) 1000000 ∧ ((linksG (G0 n) (bL fi ed p)).gl.length : Int) ≤ 8448 := by
  have := pre_ok hT hG h0 h1 (j := 0) (.inr rfl)
  simpa using this
theorem pre_step {G : GS} {fi : List Int} {ed : List EG} {n p j : Int} {G2 : GS} (h : G = linksG (G0 n) (bL fi ed p ++ (bEp fi ed p).take j.toNat)) (h0 : 0 ≤ j) (h1 : j < ((outL fi ed p).length : Int)) (h2 : G2 = linkG G (eL p (gt (outL fi ed p) j))) : G2 = linksG (G0 n) (bL fi ed p ++ (bEp fi ed p).take (j + 1).toNat) := by
  have hl : (bEp fi ed p).length = (outL fi ed p).length := List.length_map _
  have hg : gt (bEp fi ed p) j = eL p (gt (outL fi ed p) j) := by
    have e1 := gt_get (l := bEp fi ed p) (i := j) h0 (by omega)
    have e2 := gt_get (l := outL fi ed p) (i := j) h0 (by omega)
    rw [e1, e2]; unfold bEp; rw [List.getElem_map]
  rw [take_gt h0 (by omega), ← List.append_assoc, links_snoc, ← h, hg]; exact h2
theorem pre_end {G : GS} {fi : List Int} {ed : List EG} {n p j : Int} (h : G = linksG (G0 n) (bL fi ed p ++ (bEp fi ed p).take j.toNat)) (h0 : 0 ≤ p) (hj : ((outL fi ed p).length : Int) ≤ j) : G = linksG (G0 n) (bL fi ed (p + 1)) := by
  have hl : (bEp fi ed p).length = (outL fi ed p).length := List.length_map _
  rw [List.take_of_length_le (by omega)] at h
  rw [h, bL_s h0]
noncomputable def pqF (G : GS) (p : Int) : Int → Option Int := fun x => if 0 ≤ x ∧ x < p then some (prG G x) else none
theorem pq_0 {G : GS} : pqF G 0 = kq [] := by funext x; exact if_neg (by omega)
theorem pq_s {G : GS} {p : Int} {f : Int → Option Int} (h : f = pqF G p) (h0 : 0 ≤ p) : putK f p (prG G p) = pqF G (p + 1) := by
  subst h; funext x
  have hn : pqF G p p = none := if_neg (by omega)
  by_cases e : x = p
  · subst e
    have h1 : pqF G (x + 1) x = some (prG G x) := if_pos (by omega)
    unfold putK
    rw [if_pos rfl, hn, h1]
  · have h1 : pqF G (p + 1) x = pqF G p x := by
      unfold pqF
      by_cases h1 : 0 ≤ x ∧ x < p
      · rw [if_pos h1, if_pos (by omega)]
      · rw [if_neg h1, if_neg (by omega)]
    rw [h1]; exact if_neg e
inductive NXS : List Int → (Int → Option Int) → GS → (Int → Option Int) → GS → Prop
  | nil {f G} : NXS [] f G f G
  | snoc {ps f G f1 G1 p f2 G2} : NXS ps f G f1 G1 → NX f1 G1 p f2 G2 → NXS (ps ++ [p]) f G f2 G2
def wBd (k : Nat) : Int := 1000000 * 2 ^ k
theorem wBd_s (k : Nat) : wBd (k + 1) = 2 * wBd k := by unfold wBd; rw [Int.pow_succ]; omega
theorem wBd_le {k : Nat} (h : k ≤ 32) : 0 ≤ wBd k ∧ wBd k ≤ 4294967296000000 := by
  unfold wBd
  have h1 : (2 : Int) ^ k ≤ 2 ^ 32 := by exact_mod_cast Nat.pow_le_pow_right (by decide) h
  have h2 : (0 : Int) ≤ 2 ^ k := by exact_mod_cast Nat.zero_le _
  omega
theorem NX.inv {n W : Int} {f f2 : Int → Option Int} {G G2 : GS} {p : Int} (h : NX f G p f2 G2) : GOK n G → WB G W → 0 ≤ W → 2 * W ≤ 10000000000000000 → (∃ k, f p = some k) ∧ (∀ x, f2 x = none ↔ f x = none ∨ x = p) ∧ GOK n G2 ∧ WB G2 (2 * W) ∧ G2.gl.length ≤ G.gl.length + 1024 ∧ G2 = goneG (linksG G (scG G p)) p := by
  induction h with
  | @take f G p key h1 h2 =>
    intro hG hW h0 hb
    have := links_ok (l := scG G p) hG (fun k hk => Int.le_trans (hW k hk) (by omega)) hb (sc_kok hG hW h0)
    have hl := scG_len hG
    refine ⟨⟨_, h1.1⟩, fun x => ?_, gok_gone this.1, this.2.1, ?_, rfl⟩
    · unfold delK; split <;> simp [*]
    · exact Nat.le_trans this.2.2.1 (by have := hl p; omega)
  | @again f G p' key q f2 G2 h1 h2 h3 h4 ih =>
    intro hG hW h0 hb
    obtain ⟨a1, a2, a3⟩ := ih hG hW h0 hb
    have hn : ∀ x, putK (delK f p') p' (prG G p') x = none ↔ f x = none := fun x => by
      unfold putK delK
      by_cases e : x = p'
      · subst e; simp [h1.1]
      · simp [e]
    refine ⟨?_, fun x => by rw [a2, hn], a3⟩
    cases hf : f q with
    | some k => exact ⟨k, rfl⟩
    | none => obtain ⟨k, hk⟩ := a1; rw [(hn q).2 hf] at hk; cases hk
theorem NXS.inv {n : Int} {ps : List Int} {f f1 : Int → Option Int} {G G1 : GS} (h : NXS ps f G f1 G1) : GOK n G → WB G (wBd 0) → (∀ x, f x = none ↔ ¬ (0 ≤ x ∧ x < n)) → GOK n G1 ∧ WB G1 (wBd ps.length) ∧ (∀ x, f1 x = none ↔ ¬ (0 ≤ x ∧ x < n) ∨ x ∈ ps) ∧ ps.Nodup ∧ (∀ x ∈ ps, 0 ≤ x ∧ x < n) ∧ G1.gl.length ≤ G.gl.length + 1024 * ps.length := by
  induction h with
  | nil => intro hG hW hf; exact ⟨hG, hW, fun x => (by rw [hf]; simp), (by simp), fun x hx => (by cases hx), (by simp)⟩
  | @snoc ps f G f1 G1 p f2 G2 h1 h2 ih =>
    intro hG hW hf
    obtain ⟨a1, a2, a3, a4, a5, a6⟩ := ih hG hW hf
    have hle : ps.length < 32 ∨ 32 ≤ ps.length := by omega
    have hlen : (ps.length : Int) ≤ n := nodup_le a4 a5 (by have := hG.n1; omega)
    have hpl : ps.length ≤ 31 := by
      refine Classical.byContradiction fun hc => ?_
      have hn := hG.n1
      have hall : ∀ x : Int, 0 ≤ x → x < n → x ∈ ps := fun x x0 x1 => Classical.byContradiction fun hx => by
        have h3 : ((x :: ps).length : Int) ≤ n := nodup_le (List.nodup_cons.2 ⟨hx, a4⟩) (fun y hy => by
          rcases List.mem_cons.1 hy with rfl | hy
          · exact ⟨x0, x1⟩
          · exact a5 y hy) (by omega)
        rw [List.length_cons] at h3; omega
      have hex : ∃ k, f1 p = some k := by
        clear ih a6 hle
        have : ∀ {f f2 : Int → Option Int} {G G2 : GS} {p : Int}, NX f G p f2 G2 → ∃ k, f p = some k := by
          intro f f2 G G2 p h
          induction h with
          | take h1 _ => exact ⟨_, h1.1⟩
          | @again f G p' key q f2 G2 h1 h2 h3 h4 ih =>
            obtain ⟨k, hk⟩ := ih
            unfold putK delK at hk
            by_cases e : q = p'
            · subst e; exact ⟨_, h1.1⟩
            · simp only [if_neg e] at hk; exact ⟨k, hk⟩
        exact this h2
      obtain ⟨k, hk⟩ := hex
      have hnn : f1 p ≠ none := by rw [hk]; simp
      by_cases hp : 0 ≤ p ∧ p < n
      · exact hnn ((a3 p).2 (.inr (hall p hp.1 hp.2)))
      · exact hnn ((a3 p).2 (.inl hp))
    have hw := wBd_le (k := ps.length) (by omega)
    obtain ⟨b1, b2, b3, b4, b5, _⟩ := h2.inv a1 a2 hw.1 (by omega)
    have hnn : f1 p ≠ none := by obtain ⟨k, hk⟩ := b1; rw [hk]; simp
    have hp : 0 ≤ p ∧ p < n := Classical.byContradiction fun q => hnn ((a3 p).2 (.inl q))
    have hpn : p ∉ ps := fun q => hnn ((a3 p).2 (.inr q))
    refine ⟨b3, by rw [List.length_append, List.length_singleton, wBd_s]; exact b4, fun x => by rw [b2, a3, List.mem_append, List.mem_singleton, or_assoc], ?_, fun x hx => ?_, ?_⟩
    · rw [List.nodup_append]
      exact ⟨a4, by simp, fun a ha b hb e => by simp only [List.mem_singleton] at hb; subst hb e; exact hpn ha⟩
    · rcases List.mem_append.1 hx with hx | hx
      · exact a5 x hx
      · simp only [List.mem_singleton] at hx; subst hx; exact hp
    · rw [List.length_append, List.length_singleton]
      exact Nat.le_trans b5 (Nat.le_trans (Nat.add_le_add_right a6 1024) (Nat.le_of_eq (by rw [Nat.mul_add, Nat.mul_one, Nat.add_assoc])))
theorem nodup_sub : ∀ {l m : List Int}, l.Nodup → (∀ x ∈ l, x ∈ m) → l.length ≤ m.length
  | [], m, _, _ => by simp
  | a :: l, m, hn, h => by
    rw [List.nodup_cons] at hn
    have ha := h a (by simp)
    have := nodup_sub (m := m.erase a) hn.2 (fun x hx => (List.mem_erase_of_ne (fun e => hn.1 (by rw [← e]; exact hx))).2 (h x (by simp [hx])))
    rw [List.length_erase_of_mem ha] at this
    have := List.length_pos_of_mem ha
    rw [List.length_cons]; omega
theorem NXS.more {n : Int} {ps : List Int} {f1 : Int → Option Int} (h3 : ∀ x, f1 x = none ↔ ¬ (0 ≤ x ∧ x < n) ∨ x ∈ ps) (h4 : ps.Nodup) (hl : (ps.length : Int) < n) : ∃ x k, f1 x = some k := by
  refine Classical.byContradiction fun hc => ?_
  have hall : ∀ x : Int, 0 ≤ x → x < n → x ∈ ps := fun x x0 x1 => by
    cases hf : f1 x with
    | some k => exact absurd ⟨x, k, hf⟩ hc
    | none => exact ((h3 x).1 hf).resolve_left (fun q => q ⟨x0, x1⟩)
  have hr : ∀ m : Nat, (m : Int) ≤ n → (m : Int) ≤ ps.length := fun m hm => by
    have hsub : ((List.range m).map (fun i : Nat => (i : Int))).length ≤ ps.length := by
      refine nodup_sub ?_ ?_
      · exact nodup_map_inj (f := fun i : Nat => (i : Int)) (fun x y e => Int.ofNat.inj e) List.nodup_range
      · intro x hx
        obtain ⟨i, hi, rfl⟩ := List.mem_map.1 hx
        have := List.mem_range.1 hi
        exact hall _ (by omega) (by omega)
    rw [List.length_map, List.length_range] at hsub
    omega
  have := hr n.toNat (by omega)
  omega
end Go.SX
namespace Go.SX
open Go Go.RowKit
abbrev dIL : IL := ⟨[], none, 0⟩
theorem made_slices (n : Nat) : (madeCells (Value.slice none 0 0).cells (n * 1)).toList = flat eIL (List.replicate n dIL) := by
  have hc : Value.cells (.slice none 0 0) = #[Value.slice none 0 0] := rfl
  have h1 : (madeCells (Value.slice none 0 0).cells (n * 1)).toList = List.replicate n (Value.slice none 0 0) := by
    unfold madeCells
    rw [hc, Array.toList_map, Array.toList_range]
    refine List.ext_getElem (by simp) fun i h1 h2 => ?_
    simp [Nat.mod_one]
  rw [h1]
  clear h1
  induction n with
  | zero => rfl
  | succ n ih => rw [List.replicate_succ, List.replicate_succ, flat_cons, ← ih]; rfl
section
variable {V : Env} {P : Program} {Q : Exit → Act → World → Prop} {ops : Array Oper} {N : Nat} {o : Oper} {rest : List Oper} {L : List (Nat × Value)} {H R : List Res} {S : Nat → Prop} {wf : World} {K : St → Prop} {st : St} {c : Code}
theorem st_mkslices {t e : TypeId} {x y : Operand} {kk : IntKind} {n : Nat} {a : Int} {bytes : Nat} {d : Nat} (ho : o.op = .makeSlice t x y) (hg : o.guard = none) (hd : o.dst = some d) (hdN : Nat.blt d N = true) (ht : P.underlying t = some (.slice e)) (hi : (P.info? e).map (fun i => (i.zero, i.size, i.bytes)) = some (some (.slice none 0 0), 1, bytes))
    (hx : lk L x = some (.int kk a)) (hy : lk L y = some (.int kk a)) (ha : a = (n : Int)) (hb : n * bytes ≤ 1073741824) (hb1 : Nat.ble 1 bytes = true)
    (k : ∀ b, K ⟨(d, .slice (some ⟨b, 0, none⟩) n n) :: L, rw_ eIL e (.slice (some ⟨b, 0, none⟩) n n) (List.replicate n dIL) :: H, S, wf⟩) : OpStep V P Q ops N o ⟨L, H, S, wf⟩ K := by
  subst ha
  have hb1 := Nat.le_of_ble_eq_true hb1
  have hn : n ≤ 1073741824 := Nat.le_trans (by have := Nat.mul_le_mul_left n hb1; omega) hb
  refine .act hg hd hdN (by simp [ho, noSel]) (by simp [ho, Op.operands, known_of hx, known_of hy]) fun w hw => ?_
  obtain ⟨i, hi, hq⟩ := Option.map_eq_some_iff.1 hi
  simp only [Prod.mk.injEq] at hq
  have hbb : ((i.bytes : Nat) : Int) * (n : Int) ≤ 281474976710656 := by
    rw [hq.2.2, ← Int.natCast_mul, Nat.mul_comm]; omega
  have hr := run_make (P := P) w t e i (.slice none 0 0) ht hi hq.1 kk kk n n (by omega) (Int.le_refl _) hbb (by omega)
  simp only [Int.toNat_natCast, hq.2.1, Nat.mul_one] at hr
  refine ⟨_, _, _, by simp only [execOp, ho, ev_of hx, ev_of hy, Sem.run_bind, hr]; rfl, ?_, k w.heap.size⟩
  refine WW.change (C := []) (R := H) (C' := [rw_ eIL e (.slice (some ⟨w.heap.size, 0, none⟩) n n) (List.replicate n dIL)]) hw (fun b hb _ => Below.heap_alloc w _ b hb) (by simp) ?_ (by simp [rw_, row, Value.ownBlock]) (fun b hb => .inr ?_) rfl rfl rfl
  · intro r hr
    simp only [List.mem_singleton] at hr
    subst hr
    refine rw_holds.2 (.inr ⟨w.heap.size, n, _, by rw [List.length_replicate], heap_alloc_new w _, by simp, by simp only [maxLen]; omega, by rw [size_madeCells]; simp [eIL], ?_⟩)
    have := made_slices n
    rw [Nat.mul_one] at this
    rw [this, List.take_of_length_le (by rw [flat_length]; exact Nat.le_refl _)]
  · simp [rw_, row, Value.ownBlock] at hb
    omega
theorem foot_ILs (e n : Nat) : (nestIL e (List.replicate n dIL)).foot = [] := by
  induction n with
  | zero => rfl
  | succ n ih => rw [List.replicate_succ]; show (resIL e dIL).foot ++ (nestIL e (List.replicate n dIL)).foot = []; rw [ih]; rfl
theorem SC.ILs (e n : Nat) (h : SC V P Q N c ⟨L, nestIL e (List.replicate n dIL) :: H, S, wf⟩) : SC V P Q N c ⟨L, H, S, wf⟩ := fun a w hs hw =>
  h a w hs (WW.swap (A := []) hw (foot_ILs e n) (fun _ x hx => by
    rw [List.eq_of_mem_replicate hx]
    exact ⟨⟨by simp [flat], .inl ⟨rfl, rfl⟩⟩, Nat.zero_le _⟩))
theorem SC.outIL {e : Nat} {l : List IL} (i : Int) (h0 : 0 ≤ i) (h1 : i < (l.length : Int)) (hp : Pick H (nestIL e l) R)
    (h : (gt l i).il.length ≤ 140737488355328 → SC V P Q N c ⟨L, rw_ eZ e (.slice (gt l i).ilA (gt l i).il.length (gt l i).ilc) (gt l i).il :: nestIL e (l.take i.toNat ++ l.drop (i + 1).toNat) :: R, S, wf⟩) : SC V P Q N c ⟨L, H, S, wf⟩ := fun a w hs hw => by
  have hw' := hw.perm hp.perm
  have hh := hw'.has (nestIL e l) (List.mem_cons_self ..)
  refine h (hh _ (gtM h0 h1)).2 a w hs (WW.relist (A := [nestIL e l]) (B := [rw_ eZ e (.slice (gt l i).ilA (gt l i).il.length (gt l i).ilc) (gt l i).il, nestIL e (l.take i.toNat ++ l.drop (i + 1).toNat)]) hw' ?_ (fun hA r hr => ?_))
  · simp only [feet_cons, feet_nil, List.append_nil]
    have hm := big_mid (f := resIL e) (a := l.take i.toNat) (b := l.drop (i + 1).toNat) (x := gt l i)
    rw [← split_at h0 h1] at hm
    exact hm.symm
  · have hA := hA (nestIL e l) (by simp)
    rcases List.mem_cons.1 hr with rfl | hr
    · exact (hA _ (gtM h0 h1)).1
    · simp only [List.mem_singleton] at hr; subst hr
      intro x hx
      refine hA x ?_
      rw [split_at h0 h1]
      rcases List.mem_append.1 hx with hx | hx
      · exact List.mem_append_left _ hx
      · exact List.mem_append_right _ (List.mem_cons_of_mem _ hx)
theorem SQ.inIL {Q : Act → World → Prop} {e n : Nat} {l : List IL} (i : Int) (x : IL) (h0 : 0 ≤ i) (h1 : i < (l.length : Int)) (hp : PickL H [rw_ eZ e (.slice x.ilA n x.ilc) x.il, nestIL e (l.take i.toNat ++ l.drop (i + 1).toNat)] R) (hn : x.il.length = n) (hb : n ≤ 140737488355328)
    (h : SQ V Q N ⟨L, nestIL e (l.set i.toNat x) :: R, S, wf⟩) : SQ V Q N ⟨L, H, S, wf⟩ := fun a w hs hw => by
  subst hn
  have hw' := hw.perm hp.perm
  refine h a w hs (WW.relist (A := [rw_ eZ e (.slice x.ilA x.il.length x.ilc) x.il, nestIL e (l.take i.toNat ++ l.drop (i + 1).toNat)]) (B := [nestIL e (l.set i.toNat x)]) hw' ?_ (fun hA r hr => ?_))
  · simp only [feet_cons, feet_nil, List.append_nil]
    have hm := big_mid (f := resIL e) (a := l.take i.toNat) (b := l.drop (i + 1).toNat) (x := x)
    rw [← set_at h0 h1] at hm
    exact hm
  · simp only [List.mem_singleton] at hr; subst hr
    intro y hy
    rw [set_at h0 h1] at hy
    have k1 := hA (rw_ eZ e (.slice x.ilA x.il.length x.ilc) x.il) (by simp)
    have k2 := hA (nestIL e (l.take i.toNat ++ l.drop (i + 1).toNat)) (by simp)
    rcases List.mem_append.1 hy with hy | hy
    · exact k2 y (List.mem_append_left _ hy)
    · rcases List.mem_cons.1 hy with rfl | hy
      · exact ⟨k1, hb⟩
      · exact k2 y (List.mem_append_right _ hy)
end
def rkS (R : List Int) (ps : List Int) : List Int × Int := ps.foldl (fun s p => (s.1.set p.toNat s.2, s.2 + 1)) (R, 0)
def rkL (n : Int) (ps : List Int) : List Int := (rkS (List.replicate n.toNat 0) ps).1
theorem rkS_snoc {R ps : List Int} {p : Int} : rkS R (ps ++ [p]) = ((rkS R ps).1.set p.toNat (rkS R ps).2, (rkS R ps).2 + 1) := by unfold rkS; rw [List.foldl_append]; rfl
theorem snoc_ind {P : List Int → Prop} (h0 : P []) (hs : ∀ l x, P l → P (l ++ [x])) : ∀ l, P l := fun l => by
  have h : ∀ l : List Int, P l.reverse := fun l => by
    induction l with
    | nil => exact h0
    | cons a l ih => rw [List.reverse_cons]; exact hs _ _ ih
  have := h l.reverse
  rwa [List.reverse_reverse] at this
theorem rkS_2 {R : List Int} : ∀ ps : List Int, (rkS R ps).2 = ps.length ∧ (rkS R ps).1.length = R.length := snoc_ind ⟨rfl, rfl⟩ (fun l x ih => by
  rw [rkS_snoc]; refine ⟨?_, ?_⟩
  · show (rkS R l).2 + 1 = _; rw [ih.1]; simp
  · show ((rkS R l).1.set _ _).length = _; rw [List.length_set]; exact ih.2)
theorem rkL_snoc {n p : Int} {ps : List Int} : rkL n (ps ++ [p]) = (rkL n ps).set p.toNat (ps.length : Int) := by
  unfold rkL; rw [rkS_snoc]; show (rkS _ ps).1.set _ (rkS _ ps).2 = _; rw [(rkS_2 ps).1]
theorem rkL_len {n : Int} {ps : List Int} : (rkL n ps).length = n.toNat := by unfold rkL; rw [(rkS_2 ps).2, List.length_replicate]
theorem rkL_at {n : Int} : ∀ ps : List Int, ps.Nodup → (∀ x ∈ ps, 0 ≤ x ∧ x < n) → ∀ i : Int, 0 ≤ i → i < ps.length → gt (rkL n ps) (gt ps i) = i := by
  refine snoc_ind (fun _ _ i h0 h1 => by simp at h1; omega) (fun l x ih hn hr i h0 h1 => ?_)
  rw [List.nodup_append] at hn
  rw [List.length_append, List.length_singleton] at h1
  have hx := hr x (by simp)
  rw [rkL_snoc]
  by_cases e : i < l.length
  · have hm := gtM h0 e
    have hne : x ≠ gt l i := fun q => hn.2.2 _ hm x (by simp) q.symm
    have hl := hr (gt l i) (by simp [hm])
    rw [gtA h0 e, gtN hx.1 hl.1 hne]
    exact ih hn.1 (fun y hy => hr y (by simp [hy])) i h0 e
  · have e2 : i = l.length := by omega
    subst e2
    have e3 : gt (l ++ [x]) (l.length : Int) = x := by rw [gtB (by omega), show ((l.length : Int) - l.length) = 0 from by omega]; rfl
    rw [e3, gtS hx.1 (by rw [rkL_len]; omega)]
def upJ (R : List Int) (K : List LK) (p : Int) : Nat → List Int
  | 0 => []
  | i + 1 => if gt R (gt K i).lf < gt R (gt K i).lt ∧ (gt K i).lf = p then upJ R K p i ++ [(i : Int)] else upJ R K p i
def dnJ (R : List Int) (K : List LK) (p : Int) : Nat → List Int
  | 0 => []
  | i + 1 => if ¬ gt R (gt K i).lf < gt R (gt K i).lt ∧ (gt K i).lt = p then dnJ R K p i ++ [(i : Int)] else dnJ R K p i
structure UD (n : Int) (R : List Int) (K : List LK) (U D : List IL) (i : Int) : Prop where
  lu : (U.length : Int) = n
  ld : (D.length : Int) = n
  u : ∀ p : Int, 0 ≤ p → p < n → (gt U p).il = upJ R K p i.toNat
  d : ∀ p : Int, 0 ≤ p → p < n → (gt D p).il = dnJ R K p i.toNat
theorem ud_0 {n : Int} {R : List Int} {K : List LK} (hn : 0 ≤ n) : UD n R K (List.replicate n.toNat dIL) (List.replicate n.toNat dIL) 0 := by
  have h : ∀ p : Int, (gt (List.replicate n.toNat dIL) p).il = [] := fun p => by
    rcases gt_repl (n := n.toNat) (x := dIL) p with h | h <;> rw [h] <;> rfl
  exact ⟨by simp; omega, by simp; omega, fun p _ _ => h p, fun p _ _ => h p⟩
theorem ud_up {n i : Int} {R : List Int} {K : List LK} {U D : List IL} {A : Option Addr} {c : Nat} (h : UD n R K U D i) (h0 : 0 ≤ i) (hk : gt R (gt K i).lf < gt R (gt K i).lt) (hf : 0 ≤ (gt K i).lf ∧ (gt K i).lf < n) : UD n R K (U.set (gt K i).lf.toNat ⟨(gt U (gt K i).lf).il ++ [i], A, c⟩) D (i + 1) := by
  have hl := h.lu
  refine ⟨by rw [List.length_set]; exact h.lu, h.ld, fun p p0 p1 => ?_, fun p p0 p1 => ?_⟩
  · rw [show (i + 1).toNat = i.toNat + 1 from by omega, upJ, show ((i.toNat : Nat) : Int) = i from by omega]
    by_cases e : (gt K i).lf = p
    · rw [if_pos ⟨hk, e⟩, e, gtS p0 (by omega)]; show (gt U p).il ++ [i] = _; rw [h.u p p0 p1]
    · rw [if_neg (fun q => e q.2), gtN hf.1 p0 e]; exact h.u p p0 p1
  · rw [show (i + 1).toNat = i.toNat + 1 from by omega, dnJ, show ((i.toNat : Nat) : Int) = i from by omega, if_neg (fun q => q.1 hk)]; exact h.d p p0 p1
theorem ud_dn {n i : Int} {R : List Int} {K : List LK} {U D : List IL} {A : Option Addr} {c : Nat} (h : UD n R K U D i) (h0 : 0 ≤ i) (hk : ¬ gt R (gt K i).lf < gt R (gt K i).lt) (hf : 0 ≤ (gt K i).lt ∧ (gt K i).lt < n) : UD n R K U (D.set (gt K i).lt.toNat ⟨(gt D (gt K i).lt).il ++ [i], A, c⟩) (i + 1) := by
  have hl := h.ld
  refine ⟨h.lu, by rw [List.length_set]; exact h.ld, fun p p0 p1 => ?_, fun p p0 p1 => ?_⟩
  · rw [show (i + 1).toNat = i.toNat + 1 from by omega, upJ, show ((i.toNat : Nat) : Int) = i from by omega, if_neg (fun q => hk q.1)]; exact h.u p p0 p1
  · rw [show (i + 1).toNat = i.toNat + 1 from by omega, dnJ, show ((i.toNat : Nat) : Int) = i from by omega]
    by_cases e : (gt K i).lt = p
    · rw [if_pos ⟨hk, e⟩, e, gtS p0 (by omega)]; show (gt D p).il ++ [i] = _; rw [h.d p p0 p1]
    · rw [if_neg (fun q => e q.2), gtN hf.1 p0 e]; exact h.d p p0 p1
theorem upJ_len (R : List Int) (K : List LK) (p : Int) : ∀ i : Nat, (upJ R K p i).length ≤ i
  | 0 => by simp [upJ]
  | i + 1 => by have := upJ_len R K p i; rw [upJ]; split <;> (try rw [List.length_append, List.length_singleton]) <;> omega
theorem dnJ_len (R : List Int) (K : List LK) (p : Int) : ∀ i : Nat, (dnJ R K p i).length ≤ i
  | 0 => by simp [dnJ]
  | i + 1 => by have := dnJ_len R K p i; rw [dnJ]; split <;> (try rw [List.length_append, List.length_singleton]) <;> omega
theorem mem_up {R : List Int} {K : List LK} {p x : Int} : ∀ {i : Nat}, x ∈ upJ R K p i ↔ 0 ≤ x ∧ x < i ∧ gt R (gt K x).lf < gt R (gt K x).lt ∧ (gt K x).lf = p
  | 0 => ⟨fun h => (by cases h), fun h => (by omega)⟩
  | i + 1 => by
    have ih := mem_up (R := R) (K := K) (p := p) (x := x) (i := i)
    rw [upJ]
    split
    · rename_i hc
      rw [List.mem_append, List.mem_singleton, ih]
      constructor
      · rintro (h | rfl)
        · exact ⟨h.1, by omega, h.2.2⟩
        · exact ⟨by omega, by omega, hc⟩
      · rintro ⟨h1, h2, h3⟩
        by_cases e : x = i
        · exact .inr e
        · exact .inl ⟨h1, by omega, h3⟩
    · rename_i hc
      rw [ih]
      constructor
      · rintro h; exact ⟨h.1, by omega, h.2.2⟩
      · rintro ⟨h1, h2, h3⟩
        by_cases e : x = i
        · subst e; exact absurd h3 hc
        · exact ⟨h1, by omega, h3⟩
theorem mem_dn {R : List Int} {K : List LK} {p x : Int} : ∀ {i : Nat}, x ∈ dnJ R K p i ↔ 0 ≤ x ∧ x < i ∧ ¬ gt R (gt K x).lf < gt R (gt K x).lt ∧ (gt K x).lt = p
  | 0 => ⟨fun h => (by cases h), fun h => (by omega)⟩
  | i + 1 => by
    have ih := mem_dn (R := R) (K := K) (p := p) (x := x) (i := i)
    rw [dnJ]
    split
    · rename_i hc
      rw [List.mem_append, List.mem_singleton, ih]
      constructor
      · rintro (h | rfl)
        · exact ⟨h.1, by omega, h.2.2⟩
        · exact ⟨by omega, by omega, hc⟩
      · rintro ⟨h1, h2, h3⟩
        by_cases e : x = i
        · exact .inr e
        · exact .inl ⟨h1, by omega, h3⟩
    · rename_i hc
      rw [ih]
      constructor
      · rintro h; exact ⟨h.1, by omega, h.2.2⟩
      · rintro ⟨h1, h2, h3⟩
        by_cases e : x = i
        · subst e; exact absurd h3 hc
        · exact ⟨h1, by omega, h3⟩
structure LftP (n : Int) (fi : List Int) (ed : List EG) (R : List Int) (K : List LK) (U D : List IL) : Prop where
  or : ∃ ps f G, NXS ps (pqF (G1 n fi ed) n) (G1 n fi ed) f G ∧ (ps.length : Int) = n ∧ R = rkL n ps ∧ K = G.gl
  ud : UD n R K U D K.length
theorem NXS.at {n : Int} {t fi : List Int} {ed : List EG} {ps : List Int} {f : Int → Option Int} {G : GS} (hT : TabOk n t) (hG : GOk n t fi ed) (h : NXS ps (pqF (G1 n fi ed) n) (G1 n fi ed) f G) : GOK n G ∧ WB G (wBd ps.length) ∧ (∀ x, f x = none ↔ ¬ (0 ≤ x ∧ x < n) ∨ x ∈ ps) ∧ ps.Nodup ∧ (∀ x ∈ ps, 0 ≤ x ∧ x < n) ∧ (G.gl.length : Int) ≤ 8448 + 1024 * ps.length := by
  have h0 := pre_ok0 hT hG (p := n) (by have := hT.pl; omega) (Int.le_refl _)
  have h1 := h.inv (n := n) h0.1 (by unfold wBd; exact h0.2.1) (fun x => by unfold pqF; split <;> simp [*])
  refine ⟨h1.1, h1.2.1, h1.2.2.1, h1.2.2.2.1, h1.2.2.2.2.1, ?_⟩
  have a := h1.2.2.2.2.2
  have b : ((G1 n fi ed).gl.length : Int) ≤ 8448 := h0.2.2
  omega
theorem NX.bd {n : Int} {G G2 : GS} {p : Int} {f f2 : Int → Option Int} (h : NX f G p f2 G2) (hG : GOK n G) (hf : ∀ x k, f x = some k → -10000 ≤ k ∧ k ≤ 10000) : ∀ x k, f2 x = some k → -10000 ≤ k ∧ k ≤ 10000 := by
  induction h with
  | take h1 h2 => intro x k hx; unfold delK at hx; split at hx; cases hx; exact hf x k hx
  | @again f G p key q f2 G2 h1 h2 h3 h4 ih =>
    refine ih hG (fun x k hx => ?_)
    unfold putK delK at hx
    by_cases e : x = p
    · subst e; simp at hx; subst hx; exact pr_bd hG
    · simp only [if_neg e] at hx; exact hf x k hx
end Go.SX
namespace Go.SX
theorem more_len {l : List EN} (h : ∃ x k, kq l x = some k) : 0 < l.length := by
  obtain ⟨x, k, h⟩ := h
  rcases Nat.eq_zero_or_pos l.length with h0 | h0
  · rw [kq_nil h0] at h; cases h
  · exact h0
theorem dom_kq {n : Int} {ps : List Int} {f : Int → Option Int} (h : ∀ x, f x = none ↔ ¬ (0 ≤ x ∧ x < n) ∨ x ∈ ps) (hb : ∀ x k, f x = some k → -10000 ≤ k ∧ k ≤ 10000) : ∀ x k, f x = some k → (0 ≤ x ∧ x < n) ∧ -10000 ≤ k ∧ k ≤ 10000 := fun x k hx =>
  ⟨Classical.byContradiction fun q => (by rw [(h x).2 (.inl q)] at hx; cases hx), hb x k hx⟩
theorem pq_bd {n p : Int} {G : GS} (hG : GOK n G) : ∀ x k, pqF G p x = some k → -10000 ≤ k ∧ k ≤ 10000 := fun x k hx => by
  unfold pqF at hx
  split at hx
  · injection hx with hx; subst hx; exact pr_bd hG
  · cases hx
theorem pq_dom {n p : Int} {G : GS} (h0 : p ≤ n) : ∀ x k, pqF G p x = some k → 0 ≤ x ∧ x < n := fun x k hx => by
  unfold pqF at hx
  split at hx
  · omega
  · cases hx
end Go.SX
namespace Go.SX
open Go Go.RowKit
section
variable {V : Env} {P : Program} {Q : Exit → Act → World → Prop} {N : Nat} {L : List (Nat × Value)} {H R : List Res} {S : Nat → Prop} {wf : World} {c : Code}
theorem SC.backIL {e : Nat} {l : List IL} (i : Int) (h0 : 0 ≤ i) (h1 : i < (l.length : Int)) (hp : PickL H [rw_ eZ e (.slice (gt l i).ilA (gt l i).il.length (gt l i).ilc) (gt l i).il, nestIL e (l.take i.toNat ++ l.drop (i + 1).toNat)] R) (hb : (gt l i).il.length ≤ 140737488355328)
    (h : SC V P Q N c ⟨L, nestIL e l :: R, S, wf⟩) : SC V P Q N c ⟨L, H, S, wf⟩ := fun a w hs hw => by
  have hw' := hw.perm hp.perm
  refine h a w hs (WW.relist (A := [rw_ eZ e (.slice (gt l i).ilA (gt l i).il.length (gt l i).ilc) (gt l i).il, nestIL e (l.take i.toNat ++ l.drop (i + 1).toNat)]) (B := [nestIL e l]) hw' ?_ (fun hA r hr => ?_))
  · simp only [feet_cons, feet_nil, List.append_nil]
    have hm := big_mid (f := resIL e) (a := l.take i.toNat) (b := l.drop (i + 1).toNat) (x := gt l i)
    rw [← split_at h0 h1] at hm
    exact hm
  · simp only [List.mem_singleton] at hr; subst hr
    intro y hy
    rw [split_at h0 h1] at hy
    have k1 := hA (rw_ eZ e (.slice (gt l i).ilA (gt l i).il.length (gt l i).ilc) (gt l i).il) (by simp)
    have k2 := hA (nestIL e (l.take i.toNat ++ l.drop (i + 1).toNat)) (by simp)
    rcases List.mem_append.1 hy with hy | hy
    · exact k2 y (List.mem_append_left _ hy)
    · rcases List.mem_cons.1 hy with rfl | hy
      · exact ⟨k1, hb⟩
      · exact k2 y (List.mem_append_right _ hy)
theorem retv4 {C : List Res} {fn : Func} {r s t u : ResultVar} {v v' v'' v3 : Value} {post : Value → List Res → Prop} (hr : fn.results = #[r, s, t, u]) (h1 : RV P L (WW V S wf H) r v) (h2 : RV P L (WW V S wf H) s v') (h3 : RV P L (WW V S wf H) t v'') (h4 : RV P L (WW V S wf H) u v3) (hp : PickL H C R) (h : post (.tuple #[v, v', v'', v3]) C) :
    SQ V (bodyPost P fn (TRp V S wf fun v C' S' wf' => post v C' ∧ S' = S ∧ wf' = wf) .ret) N ⟨L, H, S, wf⟩ := fun a w hs hw => by
  refine ⟨hs.2.1, .tuple #[v, v', v'', v3], ?_, .tuple #[v, v', v'', v3], C, S, wf, rfl, ⟨h, rfl, rfl⟩, .of_fz hw, hw.keep hp⟩
  have e1 := h1 a w N hs hw
  have e2 := h2 a w N hs hw
  have e3 := h3 a w N hs hw
  have e4 := h4 a w N hs hw
  rw [results_resF, hr]
  simp [e1, e2, e3, e4]
end
def rkAt (R : List Int) (p : Int) : Int := if 0 ≤ p ∧ p < (R.length : Int) then gt R p else -1
def pkL (R : List Int) (K : List LK) (U : List IL) (p : Int) : List LK := if rkAt R p < 0 then [] else (gt U p).il.map (gt K)
structure LOk (R : List Int) (K : List LK) (U D : List IL) : Prop where
  lu : U.length = R.length
  ld : D.length = R.length
  lr : R.length ≤ 32
  r0 : ∀ p : Int, 0 ≤ p → p < (R.length : Int) → 0 ≤ gt R p
  iu : ∀ p : Int, 0 ≤ p → p < (R.length : Int) → (∀ x ∈ (gt U p).il, 0 ≤ x ∧ x < (K.length : Int)) ∧ (gt U p).il.length ≤ 100000
  iD : ∀ p : Int, 0 ≤ p → p < (R.length : Int) → (∀ x ∈ (gt D p).il, 0 ≤ x ∧ x < (K.length : Int)) ∧ (gt D p).il.length ≤ 100000
  kl : K.length ≤ 100000
theorem rk_rng {R : List Int} {p : Int} (h : ¬ rkAt R p < 0) : 0 ≤ p ∧ p < (R.length : Int) := by
  unfold rkAt at h; split at h
  · assumption
  · omega
theorem pick_next {l : List Int} {K Y : List LK} {i : Int} (h : Y = (l.take i.toNat).map (gt K)) (h0 : 0 ≤ i) (h1 : i < (l.length : Int)) : Y ++ [gt K (gt l i)] = (l.take (i + 1).toNat).map (gt K) := by
  rw [h, show (i + 1).toNat = i.toNat + 1 from by omega, List.take_succ_eq_append_getElem (by omega), List.map_append]
  congr 1
  have : gt l i = l[i.toNat]'(by omega) := by unfold gt; rw [List.getD_eq_getElem?_getD, List.getElem?_eq_getElem (by omega)]; rfl
  rw [this]; rfl
theorem rk_own {n : Int} {R ps : List Int} (h : R = rkL n ps) (hn : ps.Nodup) (hr : ∀ x ∈ ps, 0 ≤ x ∧ x < n) (hl : (ps.length : Int) = n) : ∀ p : Int, 0 ≤ p → p < n → 0 ≤ gt R p ∧ gt R p < n ∧ gt ps (gt R p) = p := fun p h0 h1 => by
  subst h
  have hm : p ∈ ps := by
    have hs : ∀ (l : List Int), l.Nodup → (∀ x ∈ l, 0 ≤ x ∧ x < n) → (l.length : Int) = n → p ∈ l := fun l hn hr hl => by
      refine Classical.byContradiction fun q => ?_
      have := nodup_le (n := n) (List.nodup_cons.2 ⟨q, hn⟩) (fun x hx => (by rcases List.mem_cons.1 hx with h_ | h_; rw [h_]; exact ⟨h0, h1⟩; exact hr x h_)) (by omega)
      rw [List.length_cons] at this; omega
    exact hs ps hn hr hl
  obtain ⟨k, hk, e⟩ := List.getElem_of_mem hm
  have hg : gt ps (k : Int) = p := by unfold gt; rw [Int.toNat_natCast, List.getD_eq_getElem?_getD, List.getElem?_eq_getElem hk, e]; rfl
  have := rkL_at ps hn hr k (by omega) (by omega)
  rw [hg] at this
  exact ⟨by omega, by omega, by rw [this]; exact hg⟩
theorem lok {n : Int} {t fi : List Int} {ed : List EG} {R : List Int} {K : List LK} {U D : List IL} (hT : TabOk n t) (hG : GOk n t fi ed) (h : LftP n fi ed R K U D) : LOk R K U D ∧ (R.length : Int) = n := by
  obtain ⟨⟨ps, f, G, hx, hl, hR, hK⟩, hu⟩ := h
  have ha := hx.at hT hG
  have hb := rk_own hR ha.2.2.2.1 ha.2.2.2.2.1 hl
  have hn := hT.pl
  have hRl : (R.length : Int) = n := by rw [hR, rkL_len]; omega
  have hkl : (K.length : Int) ≤ 8448 + 1024 * ps.length := by rw [hK]; exact ha.2.2.2.2.2
  have h1 := hu.lu
  have h2 := hu.ld
  refine ⟨⟨by omega, by omega, by omega, fun p p0 p1 => (hb p p0 (by omega)).1, fun p p0 p1 => ?_, fun p p0 p1 => ?_, by omega⟩, hRl⟩
  · have e := hu.u p p0 (by omega)
    rw [Int.toNat_natCast] at e
    have := upJ_len R K p K.length
    exact ⟨fun x hx => by rw [e] at hx; have := mem_up.1 hx; omega, by rw [e]; omega⟩
  · have e := hu.d p p0 (by omega)
    rw [Int.toNat_natCast] at e
    have := dnJ_len R K p K.length
    exact ⟨fun x hx => by rw [e] at hx; have := mem_dn.1 hx; omega, by rw [e]; omega⟩
end Go.SX
namespace Go.SX
open Go Go.RowKit
theorem wt_none {n : Int} {t fi : List Int} {ed : List EG} {p q : Int} (hT : TabOk n t) (hG : GOk n t fi ed) (hp : 0 ≤ p ∧ p < n) (hq : 0 ≤ q ∧ q < n) (h : ∀ j : Int, 0 ≤ j → j < ((outL fi ed p).length : Int) → (gt (outL fi ed p) j).et ≠ q) : (-1 : Int) = gt t (p * n + q) := by
  have h1 := (hT.rng (p * n + q)).1
  refine Classical.byContradiction fun hn => ?_
  obtain ⟨e, he, e1⟩ := hG.all p q hp.1 hp.2 hq.1 hq.2 (by omega)
  obtain ⟨i, i0, i1, e2⟩ := memG he
  exact h i i0 i1 (by rw [e2]; exact e1)
theorem wt_some {n : Int} {t fi : List Int} {ed : List EG} {p q : Int} {e : EG} (hG : GOk n t fi ed) (hp : 0 ≤ p ∧ p < n) (he : e ∈ outL fi ed p) (h : e.et = q) : e.ew = gt t (p * n + q) := by
  have := hG.ok p hp.1 hp.2 e he
  rw [← h]; exact this.2.2.2.2
theorem ok_of (n : Int) (l : List AR) (hn : 1 ≤ n ∧ n ≤ 32) (hl : l.length ≤ 256) (h : ∀ a ∈ l, arcOk n a) : RoadOk n l := ⟨hn, hl, fun i h0 h1 => h _ (gtM h0 h1)⟩
theorem ra5 : RoadOk 3 [(AR.mk 0 1 5 9), (AR.mk 0 1 4 12), (AR.mk 1 1 1 0), (AR.mk 1 2 0 0)] := ok_of _ _ (by decide) (by decide) (fun a ha => by
  simp only [List.mem_cons, List.not_mem_nil, or_false] at ha
  rcases ha with rfl | rfl | rfl | rfl <;> unfold arcOk <;> decide)
theorem srd_eq {d : Bool} {X l : List AR} (hp : X.Perm l) (hX : Srd (ltA d) X 0 (X.length : Int)) (hl : Srd (ltA d) l 0 (l.length : Int)) (ha : ∀ a ∈ l, ∀ b ∈ l, ¬ ltA d a b → ¬ ltA d b a → a = b) : X = l := by
  have pw : ∀ l : List AR, Srd (ltA d) l 0 (l.length : Int) → l.Pairwise (fun a b => ¬ ltA d b a) := fun l hl => by
    rw [List.pairwise_iff_getElem]
    intro i j hi hj hij
    have := hl i j (by omega) (by omega) (by omega)
    unfold gt at this
    rw [Int.toNat_natCast, Int.toNat_natCast, List.getD_eq_getElem?_getD, List.getD_eq_getElem?_getD, List.getElem?_eq_getElem hi, List.getElem?_eq_getElem hj] at this
    exact this
  exact hp.eq_of_pairwise (fun a b h1 h2 h3 h4 => ha a (hp.mem_iff.1 h1) b h2 h4 h3) (pw X hX) (pw l hl)
theorem aw5 {ed : List EG} (h : ∃ X : List AR, X.Perm [(AR.mk 0 1 5 9), (AR.mk 0 1 4 12), (AR.mk 1 1 1 0), (AR.mk 1 2 0 0)] ∧ Srd (ltA false) X 0 (([(AR.mk 0 1 5 9), (AR.mk 0 1 4 12), (AR.mk 1 1 1 0), (AR.mk 1 2 0 0)] : List AR).length : Int) ∧ ed = (kpA X (([(AR.mk 0 1 5 9), (AR.mk 0 1 4 12), (AR.mk 1 1 1 0), (AR.mk 1 2 0 0)] : List AR).length : Int)).map (egF false)) :
    (((((((ed.length : Int) == 2) && ((gt (tabF 3 false [(AR.mk 0 1 5 9), (AR.mk 0 1 4 12), (AR.mk 1 1 1 0), (AR.mk 1 2 0 0)]) (0 * 3 + 1)) == 4)) && ((gt (tabF 3 false [(AR.mk 0 1 5 9), (AR.mk 0 1 4 12), (AR.mk 1 1 1 0), (AR.mk 1 2 0 0)]) (1 * 3 + 1)) == (-1)))) && ((gt (tabF 3 false [(AR.mk 0 1 5 9), (AR.mk 0 1 4 12), (AR.mk 1 1 1 0), (AR.mk 1 2 0 0)]) (1 * 3 + 2)) == 0))) = true := by
  obtain ⟨X, h1, h2, h3⟩ := h
  have hp : List.Perm [(AR.mk 0 1 5 9), (AR.mk 0 1 4 12), (AR.mk 1 1 1 0), (AR.mk 1 2 0 0)] [(AR.mk 0 1 4 12), (AR.mk 0 1 5 9), (AR.mk 1 1 1 0), (AR.mk 1 2 0 0)] := .swap ..
  have hS : Srd (ltA false) [(AR.mk 0 1 4 12), (AR.mk 0 1 5 9), (AR.mk 1 1 1 0), (AR.mk 1 2 0 0)] 0 4 := fun i j i0 i1 i2 => by
    have : (i = 0 ∨ i = 1 ∨ i = 2 ∨ i = 3) ∧ (j = 0 ∨ j = 1 ∨ j = 2 ∨ j = 3) := by omega
    obtain ⟨a, b⟩ := this
    rcases a with rfl | rfl | rfl | rfl <;> rcases b with rfl | rfl | rfl | rfl <;> first | omega | (unfold ltA gt wgt; decide)
  have hX := srd_eq (h1.trans hp) (by rw [h1.length_eq]; exact h2) hS (fun a ha b hb => by
    simp only [List.mem_cons, List.not_mem_nil, or_false] at ha hb
    rcases ha with rfl | rfl | rfl | rfl <;> rcases hb with rfl | rfl | rfl | rfl <;> first | (intros; rfl) | (unfold ltA wgt; decide))
  have hk : kpA X 4 = [(AR.mk 0 1 4 12), (AR.mk 1 2 0 0)] := by
    rw [hX, show (4 : Int) = 3 + 1 from rfl, kp_keep (by decide) (by unfold skipA gt; decide), show (3 : Int) = 2 + 1 from rfl, kp_skip (by decide) (by unfold skipA gt; decide), show (2 : Int) = 1 + 1 from rfl, kp_skip (by decide) (by unfold skipA gt; decide), show (1 : Int) = 0 + 1 from rfl, kp_keep (by decide) (by unfold skipA gt; decide), kp_0]
    rfl
  rw [h3, show (([(AR.mk 0 1 5 9), (AR.mk 0 1 4 12), (AR.mk 1 1 1 0), (AR.mk 1 2 0 0)] : List AR).length : Int) = 4 from rfl, hk]
  decide
end Go.SX
namespace Go.SX
open Go Go.RowKit
theorem pk_len {R : List Int} {K : List LK} {U D : List IL} (h : LOk R K U D) (q : Int) : (pkL R K U q).length ≤ 100000 ∧ (pkL R K D q).length ≤ 100000 := by
  unfold pkL
  split
  · exact ⟨by simp, by simp⟩
  · rename_i e
    have := rk_rng e
    rw [List.length_map, List.length_map]
    exact ⟨(h.iu q this.1 this.2).2, (h.iD q this.1 this.2).2⟩
def sumP (f : Int → Int) : Nat → Int
  | 0 => 0
  | k + 1 => sumP f k + f k
theorem sumP_ext {f g : Int → Int} : ∀ {n : Nat}, (∀ k : Int, 0 ≤ k → k < n → f k = g k) → sumP f n = sumP g n
  | 0, _ => rfl
  | n + 1, h => by
    show sumP f n + f n = sumP g n + g n
    rw [sumP_ext (n := n) (fun k h0 h1 => h k h0 (by omega)), h n (by omega) (by omega)]
theorem sumP_0 : ∀ n : Nat, sumP (fun _ => 0) n = 0
  | 0 => rfl
  | n + 1 => by show sumP _ n + 0 = 0; rw [sumP_0 n]; rfl
theorem sumP_bump {f g : Int → Int} {a : Int} : ∀ {n : Nat}, 0 ≤ a → a < n → (∀ k : Int, k ≠ a → g k = f k) → g a = f a + 1 → sumP g n = sumP f n + 1
  | 0, h0, h1, _, _ => absurd h1 (by omega)
  | n + 1, h0, h1, h2, h3 => by
    show sumP g n + g n = sumP f n + f n + 1
    by_cases e : a = n
    · subst e
      rw [h3, sumP_ext (f := g) (g := f) (fun k k0 k1 => h2 k (by omega))]; omega
    · rw [sumP_bump (n := n) h0 (by omega) h2 h3, h2 n (by omega)]; omega
theorem cnt_ud {n : Nat} {R : List Int} {K : List LK} : ∀ i : Nat, (∀ j : Int, 0 ≤ j → j < i → (0 ≤ (gt K j).lf ∧ (gt K j).lf < n) ∧ (0 ≤ (gt K j).lt ∧ (gt K j).lt < n)) → sumP (fun p => ((upJ R K p i).length : Int) + (dnJ R K p i).length) n = i
  | 0, _ => by
    rw [sumP_ext (g := fun _ => 0) (fun k _ _ => by simp [upJ, dnJ])]; exact sumP_0 n
  | i + 1, h => by
    have hi := h i (by omega) (by omega)
    have ih := cnt_ud (n := n) (R := R) (K := K) i (fun j j0 j1 => h j j0 (by omega))
    by_cases e : gt R (gt K i).lf < gt R (gt K i).lt
    · have e1 := sumP_bump (n := n) (f := fun p => ((upJ R K p i).length : Int) + (dnJ R K p i).length) (g := fun p => ((upJ R K p (i + 1)).length : Int) + (dnJ R K p (i + 1)).length) (a := (gt K i).lf) hi.1.1 hi.1.2
        (fun k hk => by
          show ((upJ R K k (i + 1)).length : Int) + (dnJ R K k (i + 1)).length = _
          rw [upJ, dnJ, if_neg (fun q => hk q.2.symm), if_neg (fun q => q.1 e)])
        (by
          show ((upJ R K (gt K i).lf (i + 1)).length : Int) + (dnJ R K (gt K i).lf (i + 1)).length = _
          rw [upJ, dnJ, if_pos ⟨e, rfl⟩, if_neg (fun q => q.1 e), List.length_append, List.length_singleton]; omega)
      rw [e1, ih]; omega
    · have e1 := sumP_bump (n := n) (f := fun p => ((upJ R K p i).length : Int) + (dnJ R K p i).length) (g := fun p => ((upJ R K p (i + 1)).length : Int) + (dnJ R K p (i + 1)).length) (a := (gt K i).lt) hi.2.1 hi.2.2
        (fun k hk => by
          show ((upJ R K k (i + 1)).length : Int) + (dnJ R K k (i + 1)).length = _
          rw [upJ, dnJ, if_neg (fun q => e q.1), if_neg (fun q => hk q.2.symm)])
        (by
          show ((upJ R K (gt K i).lt (i + 1)).length : Int) + (dnJ R K (gt K i).lt (i + 1)).length = _
          rw [upJ, dnJ, if_neg (fun q => e q.1), if_pos ⟨e, rfl⟩, List.length_append, List.length_singleton]; omega)
      rw [e1, ih]; omega
theorem mem_link {G : GS} {k x : LK} (h : x ∈ (linkG G k).gl) : x ∈ G.gl ∨ x = k := by
  unfold linkG at h
  split at h
  · exact .inl h
  · rcases List.mem_append.1 h with h | h
    · exact .inl h
    · exact .inr (List.mem_singleton.1 h)
theorem mem_links {l : List LK} : ∀ {G : GS} {x : LK}, x ∈ (linksG G l).gl → x ∈ G.gl ∨ x ∈ l := by
  induction l with
  | nil => intro G x h; exact .inl h
  | cons k l ih =>
    intro G x h
    rcases ih (G := linkG G k) h with h | h
    · rcases mem_link h with h | h
      · exact .inl h
      · exact .inr (by rw [h]; simp)
    · exact .inr (List.mem_cons_of_mem _ h)
theorem nx_ne {f f2 : Int → Option Int} {G G2 : GS} {p : Int} (h : NX f G p f2 G2) : (∀ k ∈ G.gl, k.lf ≠ k.lt) → ∀ k ∈ G2.gl, k.lf ≠ k.lt := by
  induction h with
  | take h1 h2 =>
    intro hk k hm
    rcases mem_links (show k ∈ (linksG _ _).gl from hm) with h | h
    · exact hk k h
    · exact fun e => (mem_scG h).2.2.2.2.1 e.symm
  | again h1 h2 h3 h4 ih => exact ih
theorem nxs_ne {ps : List Int} {f f2 : Int → Option Int} {G G2 : GS} (h : NXS ps f G f2 G2) : (∀ k ∈ G.gl, k.lf ≠ k.lt) → ∀ k ∈ G2.gl, k.lf ≠ k.lt := by
  induction h with
  | nil => exact id
  | snoc h1 h2 ih => exact fun hk => nx_ne h2 (ih hk)
theorem g1_ne {n : Int} {t fi : List Int} {ed : List EG} (hT : TabOk n t) (hG : GOk n t fi ed) : ∀ k ∈ (G1 n fi ed).gl, k.lf ≠ k.lt := fun k hk => by
  have hn := hT.pl
  rcases mem_links hk with h | h
  · cases h
  · obtain ⟨p, p0, p1, e, he, rfl⟩ := (mem_bL (by omega)).1 h
    exact fun q => (hG.ok p p0 p1 e he).2.2.1 q.symm
structure RkF (n : Int) (R : List Int) (K : List LK) (U D : List IL) : Prop where
  inj : ∀ p q : Int, 0 ≤ p → p < n → 0 ≤ q → q < n → gt R p = gt R q → p = q
  rng : ∀ p : Int, 0 ≤ p → p < n → 0 ≤ gt R p ∧ gt R p < n
  up : ∀ p : Int, 0 ≤ p → p < n → ∀ x ∈ pkL R K U p, x.lf = p ∧ gt R p < rkAt R x.lt
  dn : ∀ p : Int, 0 ≤ p → p < n → ∀ x ∈ pkL R K D p, x.lt = p ∧ gt R p < rkAt R x.lf
  cnt : sumP (fun p => ((pkL R K U p).length : Int) + (pkL R K D p).length) n.toNat = K.length
theorem rkAt_in {R : List Int} {p : Int} (h0 : 0 ≤ p) (h1 : p < (R.length : Int)) : rkAt R p = gt R p := if_pos ⟨h0, h1⟩
theorem rkAt_out {R : List Int} {p : Int} (h : p < 0 ∨ (R.length : Int) ≤ p) : rkAt R p = -1 := if_neg (by omega)
theorem rkf {n : Int} {t fi : List Int} {ed : List EG} {R : List Int} {K : List LK} {U D : List IL} (hT : TabOk n t) (hG : GOk n t fi ed) (h : LftP n fi ed R K U D) : RkF n R K U D := by
  have hL := lok hT hG h
  obtain ⟨⟨ps, f, G, hx, hl, hR, hK⟩, hu⟩ := h
  have ha := hx.at hT hG
  have hb := rk_own hR ha.2.2.2.1 ha.2.2.2.2.1 hl
  have hn := hT.pl
  have hRl := hL.2
  have hne : ∀ k ∈ K, k.lf ≠ k.lt := by rw [hK]; exact nxs_ne hx (g1_ne hT hG)
  have hlk : ∀ j : Int, 0 ≤ j → j < K.length → (0 ≤ (gt K j).lf ∧ (gt K j).lf < n) ∧ (0 ≤ (gt K j).lt ∧ (gt K j).lt < n) := fun j j0 j1 => by
    rw [hK] at j1 ⊢
    have := ha.1.lk j j0 j1
    exact ⟨⟨this.1, this.2.1⟩, this.2.2.1, this.2.2.2.1⟩
  have hinj : ∀ p q : Int, 0 ≤ p → p < n → 0 ≤ q → q < n → gt R p = gt R q → p = q := fun p q p0 p1 q0 q1 e => by
    rw [← (hb p p0 p1).2.2, ← (hb q q0 q1).2.2, e]
  have hpU : ∀ p : Int, 0 ≤ p → p < n → pkL R K U p = (upJ R K p K.length).map (gt K) := fun p p0 p1 => by
    have e := hu.u p p0 p1
    rw [Int.toNat_natCast] at e
    unfold pkL
    rw [rkAt_in p0 (by omega), if_neg (by have := (hb p p0 p1).1; omega), e]
  have hpD : ∀ p : Int, 0 ≤ p → p < n → pkL R K D p = (dnJ R K p K.length).map (gt K) := fun p p0 p1 => by
    have e := hu.d p p0 p1
    rw [Int.toNat_natCast] at e
    unfold pkL
    rw [rkAt_in p0 (by omega), if_neg (by have := (hb p p0 p1).1; omega), e]
  refine ⟨hinj, fun p p0 p1 => ⟨(hb p p0 p1).1, (hb p p0 p1).2.1⟩, fun p p0 p1 x hx => ?_, fun p p0 p1 x hx => ?_, ?_⟩
  · rw [hpU p p0 p1] at hx
    obtain ⟨j, hj, rfl⟩ := List.mem_map.1 hx
    obtain ⟨j0, j1, j2, j3⟩ := mem_up.1 hj
    have hk := hlk j j0 j1
    exact ⟨j3, by rw [rkAt_in hk.2.1 (by omega), ← j3]; exact j2⟩
  · rw [hpD p p0 p1] at hx
    obtain ⟨j, hj, rfl⟩ := List.mem_map.1 hx
    obtain ⟨j0, j1, j2, j3⟩ := mem_dn.1 hj
    have hk := hlk j j0 j1
    have h1 := hne _ (gtM j0 j1)
    have h2 : gt R (gt K j).lf ≠ gt R (gt K j).lt := fun e => h1 (hinj _ _ hk.1.1 hk.1.2 hk.2.1 hk.2.2 e)
    exact ⟨j3, by rw [rkAt_in hk.1.1 (by omega), ← j3]; omega⟩
  · rw [sumP_ext (g := fun p => ((upJ R K p K.length).length : Int) + (dnJ R K p K.length).length) (fun k k0 k1 => by rw [hpU k k0 (by omega), hpD k k0 (by omega), List.length_map, List.length_map])]
    exact cnt_ud K.length (fun j j0 j1 => by have := hlk j j0 j1; omega)
end Go.SX
namespace Go.SX
open Go Go.RowKit
def EV (G : GS) (p x : Int) : Option Int := if mhas (gt G.go p) x = true then some (wG G p x) else none
theorem ev_some {G : GS} {p x w : Int} : EV G p x = some w ↔ mhas (gt G.go p) x = true ∧ wG G p x = w := by
  unfold EV; split
  · rename_i h; simp [h]
  · rename_i h; simp [h]
theorem maps_set {M : List (List (Int × Int))} {i x v p y : Int} (i0 : 0 ≤ i) (i1 : i < (M.length : Int)) (p0 : 0 ≤ p) :
    (mhas (gt (M.set i.toNat (mset (gt M i) x v)) p) y = true ↔ (p = i ∧ y = x) ∨ mhas (gt M p) y = true) ∧ mget (gt (M.set i.toNat (mset (gt M i) x v)) p) y 0 = if p = i ∧ y = x then v else mget (gt M p) y 0 := by
  by_cases e : i = p
  · subst e
    rw [gtS i0 i1, mhas_set, mget_set]
    refine ⟨?_, ?_⟩
    · rw [Bool.or_eq_true, decide_eq_true_eq]
      constructor
      · rintro (h | h); exact .inr h; exact .inl ⟨rfl, h.symm⟩
      · rintro (h | h); exact .inr h.2.symm; exact .inl h
    · by_cases h : x = y
      · rw [if_pos h, if_pos ⟨rfl, h.symm⟩]
      · rw [if_neg h, if_neg (fun q => h q.2.symm)]
  · rw [gtN i0 p0 e]
    exact ⟨⟨fun h => .inr h, fun h => h.resolve_left (fun q => e q.1.symm)⟩, by rw [if_neg (fun q => e q.1.symm)]⟩
structure SB (n : Int) (G : GS) : Prop where
  ok : GOK n G
  ne : ∀ k ∈ G.gl, k.lf ≠ k.lt
  ent : ∀ p x : Int, 0 ≤ p → mhas (gt G.go p) x = true → (gt G.gl (mget (gt G.go p) x 0)).lf = p ∧ (gt G.gl (mget (gt G.go p) x 0)).lt = x
  sym : ∀ p x : Int, 0 ≤ p → 0 ≤ x → (mhas (gt G.gi x) p = true ↔ mhas (gt G.go p) x = true) ∧ (mhas (gt G.go p) x = true → mget (gt G.gi x) p 0 = mget (gt G.go p) x 0)
  mn : ∀ k ∈ G.gl, ∃ w, EV G k.lf k.lt = some w ∧ w ≤ k.lw
theorem SB.at {n : Int} {G : GS} (h : SB n G) {p x w : Int} (p0 : 0 ≤ p) (he : EV G p x = some w) : ∃ k ∈ G.gl, k.lf = p ∧ k.lt = x ∧ k.lw = w := by
  obtain ⟨h1, h2⟩ := ev_some.1 he
  have hr := (h.ok.om p).2 x h1
  exact ⟨_, gtM hr.2.2.1 hr.2.2.2, (h.ent p x p0 h1).1, (h.ent p x p0 h1).2, h2⟩
theorem SB.rng {n : Int} {G : GS} (h : SB n G) {k : LK} (hk : k ∈ G.gl) : 0 ≤ k.lf ∧ k.lf < n ∧ 0 ≤ k.lt ∧ k.lt < n ∧ 0 ≤ k.lw := by
  obtain ⟨i, i0, i1, rfl⟩ := memG hk
  have := h.ok.lk i i0 i1
  exact ⟨this.1, this.2.1, this.2.2.1, this.2.2.2.1, this.2.2.2.2.1⟩
theorem sb_0 {n : Int} (hn : 1 ≤ n ∧ n ≤ 32) : SB n (G0 n) := by
  have hg : ∀ p : Int, gt (List.replicate n.toNat ([] : List (Int × Int))) p = [] := fun p => by
    rcases gt_repl (n := n.toNat) (x := ([] : List (Int × Int))) p with h | h <;> rw [h] <;> rfl
  refine ⟨gok_0 hn, fun k hk => (by cases hk), fun p x _ h => ?_, fun p x _ _ => ?_, fun k hk => (by cases hk)⟩
  · have h : mhas (gt (List.replicate n.toNat ([] : List (Int × Int))) p) x = true := h
    rw [hg] at h; cases h
  · show (mhas (gt (List.replicate n.toNat ([] : List (Int × Int))) x) p = true ↔ mhas (gt (List.replicate n.toNat ([] : List (Int × Int))) p) x = true) ∧ (mhas (gt (List.replicate n.toNat ([] : List (Int × Int))) p) x = true → _)
    rw [hg, hg]; exact ⟨⟨fun h => (by cases h), fun h => (by cases h)⟩, fun h => (by cases h)⟩
theorem sb_link {n W : Int} {G : GS} {k : LK} (h : SB n G) (hk : kOk n W k) (hW : W ≤ 10000000000000000) : SB n (linkG G k) ∧ (∀ p x : Int, 0 ≤ p → ¬ (k.lf = p ∧ k.lt = x) → EV (linkG G k) p x = EV G p x) ∧ (∀ p x w : Int, 0 ≤ p → EV G p x = some w → ∃ w', EV (linkG G k) p x = some w' ∧ w' ≤ w) ∧ (∃ w', EV (linkG G k) k.lf k.lt = some w' ∧ w' ≤ k.lw) ∧ ∀ j ∈ G.gl, j ∈ (linkG G k).gl := by
  have hGk := gok_link h.ok hk.1 ⟨hk.2.2.1, Int.le_trans hk.2.2.2 hW⟩
  by_cases c : mhas (gt G.go k.lf) k.lt = true ∧ (gt G.gl (mget (gt G.go k.lf) k.lt 0)).lw ≤ k.lw
  · have e : linkG G k = G := if_pos c
    rw [e]
    exact ⟨h, fun _ _ _ _ => rfl, fun p x w _ hw => ⟨w, hw, Int.le_refl _⟩, ⟨_, ev_some.2 ⟨c.1, rfl⟩, c.2⟩, fun _ h => h⟩
  · have e : linkG G k = ⟨G.go.set k.lf.toNat (mset (gt G.go k.lf) k.lt (G.gl.length : Int)), G.gi.set k.lt.toNat (mset (gt G.gi k.lt) k.lf (G.gl.length : Int)), G.gl ++ [k], G.gg⟩ := if_neg c
    rw [e] at hGk ⊢
    have hlo := h.ok.lo
    have hli := h.ok.li
    have mo_ := fun (p x : Int) (p0 : 0 ≤ p) => maps_set (M := G.go) (i := k.lf) (x := k.lt) (v := (G.gl.length : Int)) (p := p) (y := x) hk.1.1 (by have := hk.1.2.1; omega) p0
    have mi_ := fun (p x : Int) (p0 : 0 ≤ p) => maps_set (M := G.gi) (i := k.lt) (x := k.lf) (v := (G.gl.length : Int)) (p := p) (y := x) hk.1.2.2.1 (by have := hk.1.2.2.2; omega) p0
    have gnew : gt (G.gl ++ [k]) (G.gl.length : Int) = k := by rw [gtB (by omega), show ((G.gl.length : Int) - G.gl.length) = 0 from by omega]; rfl
    have wnew : wG ⟨G.go.set k.lf.toNat (mset (gt G.go k.lf) k.lt (G.gl.length : Int)), G.gi.set k.lt.toNat (mset (gt G.gi k.lt) k.lf (G.gl.length : Int)), G.gl ++ [k], G.gg⟩ k.lf k.lt = k.lw := by
      show (gt (G.gl ++ [k]) (mget (gt (G.go.set k.lf.toNat (mset (gt G.go k.lf) k.lt (G.gl.length : Int))) k.lf) k.lt 0)).lw = _
      rw [(mo_ k.lf k.lt hk.1.1).2, if_pos ⟨rfl, rfl⟩, gnew]
    have hnew : mhas (gt (G.go.set k.lf.toNat (mset (gt G.go k.lf) k.lt (G.gl.length : Int))) k.lf) k.lt = true := (mo_ k.lf k.lt hk.1.1).1.2 (.inl ⟨rfl, rfl⟩)
    have evnew : EV ⟨G.go.set k.lf.toNat (mset (gt G.go k.lf) k.lt (G.gl.length : Int)), G.gi.set k.lt.toNat (mset (gt G.gi k.lt) k.lf (G.gl.length : Int)), G.gl ++ [k], G.gg⟩ k.lf k.lt = some k.lw := ev_some.2 ⟨hnew, wnew⟩
    have evold : ∀ p x : Int, 0 ≤ p → ¬ (k.lf = p ∧ k.lt = x) → EV ⟨G.go.set k.lf.toNat (mset (gt G.go k.lf) k.lt (G.gl.length : Int)), G.gi.set k.lt.toNat (mset (gt G.gi k.lt) k.lf (G.gl.length : Int)), G.gl ++ [k], G.gg⟩ p x = EV G p x := fun p x p0 hn => by
      have hn' : ¬ (p = k.lf ∧ x = k.lt) := fun q => hn ⟨q.1.symm, q.2.symm⟩
      have h1 := (mo_ p x p0).1
      have h2 := (mo_ p x p0).2
      rw [if_neg hn'] at h2
      unfold EV wG
      show (if mhas (gt (G.go.set k.lf.toNat (mset (gt G.go k.lf) k.lt (G.gl.length : Int))) p) x = true then some (gt (G.gl ++ [k]) (mget (gt (G.go.set k.lf.toNat (mset (gt G.go k.lf) k.lt (G.gl.length : Int))) p) x 0)).lw else none) = _
      rw [h2]
      by_cases hm : mhas (gt G.go p) x = true
      · have hr := (h.ok.om p).2 x hm
        rw [if_pos (h1.2 (.inr hm)), if_pos hm, gtA hr.2.2.1 hr.2.2.2]
      · rw [if_neg (fun q => hm ((h1.1 q).resolve_left hn')), if_neg hm]
    have evmon : ∀ p x w : Int, 0 ≤ p → EV G p x = some w → ∃ w', EV ⟨G.go.set k.lf.toNat (mset (gt G.go k.lf) k.lt (G.gl.length : Int)), G.gi.set k.lt.toNat (mset (gt G.gi k.lt) k.lf (G.gl.length : Int)), G.gl ++ [k], G.gg⟩ p x = some w' ∧ w' ≤ w := fun p x w p0 hw => by
      by_cases q : k.lf = p ∧ k.lt = x
      · obtain ⟨rfl, rfl⟩ := q
        obtain ⟨a, b⟩ := ev_some.1 hw
        refine ⟨k.lw, evnew, ?_⟩
        have : ¬ (gt G.gl (mget (gt G.go k.lf) k.lt 0)).lw ≤ k.lw := fun z => c ⟨a, z⟩
        have b : (gt G.gl (mget (gt G.go k.lf) k.lt 0)).lw = w := b
        omega
      · exact ⟨w, by rw [evold p x p0 q]; exact hw, Int.le_refl _⟩
    refine ⟨⟨hGk, fun j hj => ?_, fun p x p0 hm => ?_, fun p x p0 x0 => ?_, fun j hj => ?_⟩, evold, evmon, ⟨_, evnew, Int.le_refl _⟩, fun j hj => List.mem_append_left _ hj⟩
    · rcases List.mem_append.1 hj with hj | hj
      · exact h.ne j hj
      · rw [List.mem_singleton.1 hj]; exact hk.2.1
    · show (gt (G.gl ++ [k]) (mget (gt (G.go.set k.lf.toNat (mset (gt G.go k.lf) k.lt (G.gl.length : Int))) p) x 0)).lf = p ∧ (gt (G.gl ++ [k]) (mget (gt (G.go.set k.lf.toNat (mset (gt G.go k.lf) k.lt (G.gl.length : Int))) p) x 0)).lt = x
      rw [(mo_ p x p0).2]
      by_cases q : p = k.lf ∧ x = k.lt
      · rw [if_pos q, gnew]; exact ⟨q.1.symm, q.2.symm⟩
      · have hm' := ((mo_ p x p0).1.1 hm).resolve_left q
        have hr := (h.ok.om p).2 x hm'
        rw [if_neg q, gtA hr.2.2.1 hr.2.2.2]; exact h.ent p x p0 hm'
    · show (mhas (gt (G.gi.set k.lt.toNat (mset (gt G.gi k.lt) k.lf (G.gl.length : Int))) x) p = true ↔ mhas (gt (G.go.set k.lf.toNat (mset (gt G.go k.lf) k.lt (G.gl.length : Int))) p) x = true) ∧ (mhas (gt (G.go.set k.lf.toNat (mset (gt G.go k.lf) k.lt (G.gl.length : Int))) p) x = true → mget (gt (G.gi.set k.lt.toNat (mset (gt G.gi k.lt) k.lf (G.gl.length : Int))) x) p 0 = mget (gt (G.go.set k.lf.toNat (mset (gt G.go k.lf) k.lt (G.gl.length : Int))) p) x 0)
      rw [(mo_ p x p0).1, (mi_ x p x0).1, (mo_ p x p0).2, (mi_ x p x0).2]
      have hs := h.sym p x p0 x0
      refine ⟨?_, fun hm => ?_⟩
      · rw [hs.1]; exact ⟨fun q => q.imp (fun z => ⟨z.2, z.1⟩) id, fun q => q.imp (fun z => ⟨z.2, z.1⟩) id⟩
      · by_cases q : p = k.lf ∧ x = k.lt
        · rw [if_pos q, if_pos ⟨q.2, q.1⟩]
        · rw [if_neg q, if_neg (fun z => q ⟨z.2, z.1⟩)]; exact hs.2 (hm.resolve_left q)
    · rcases List.mem_append.1 hj with hj | hj
      · obtain ⟨w, hw, hle⟩ := h.mn j hj
        obtain ⟨w', hw', hle'⟩ := evmon _ _ _ (h.rng hj).1 hw
        exact ⟨w', hw', by omega⟩
      · rw [List.mem_singleton.1 hj]; exact ⟨_, evnew, Int.le_refl _⟩
theorem sb_links {n W : Int} (hW : W ≤ 10000000000000000) : ∀ {l : List LK} {G : GS}, SB n G → (∀ k ∈ l, kOk n W k) → SB n (linksG G l) ∧ (∀ p x : Int, 0 ≤ p → (∀ k ∈ l, ¬ (k.lf = p ∧ k.lt = x)) → EV (linksG G l) p x = EV G p x) ∧ (∀ p x w : Int, 0 ≤ p → EV G p x = some w → ∃ w', EV (linksG G l) p x = some w' ∧ w' ≤ w) ∧ (∀ k ∈ l, ∃ w', EV (linksG G l) k.lf k.lt = some w' ∧ w' ≤ k.lw) ∧ (∀ j ∈ G.gl, j ∈ (linksG G l).gl) ∧ (linksG G l).gg = G.gg
  | [], G, h, _ => ⟨h, fun _ _ _ _ => rfl, fun p x w _ hw => ⟨w, hw, Int.le_refl _⟩, fun k hk => (by cases hk), fun _ h => h, rfl⟩
  | k :: l, G, h, hk => by
    have a := sb_link h (hk k (by simp)) hW
    have b := sb_links hW (l := l) a.1 (fun j hj => hk j (List.mem_cons_of_mem _ hj))
    show SB n (linksG (linkG G k) l) ∧ (∀ p x : Int, 0 ≤ p → _ → EV (linksG (linkG G k) l) p x = _) ∧ (∀ p x w : Int, 0 ≤ p → _ → ∃ w', EV (linksG (linkG G k) l) p x = some w' ∧ _) ∧ (∀ j ∈ k :: l, ∃ w', EV (linksG (linkG G k) l) j.lf j.lt = some w' ∧ _) ∧ (∀ j ∈ G.gl, j ∈ (linksG (linkG G k) l).gl) ∧ (linksG (linkG G k) l).gg = G.gg
    refine ⟨b.1, fun p x p0 hn => ?_, fun p x w p0 hw => ?_, fun j hj => ?_, fun j hj => b.2.2.2.2.1 j (a.2.2.2.2 j hj), by rw [b.2.2.2.2.2, link_gg]⟩
    · rw [b.2.1 p x p0 (fun j hj => hn j (List.mem_cons_of_mem _ hj)), a.2.1 p x p0 (hn k (by simp))]
    · obtain ⟨w1, h1, h2⟩ := a.2.2.1 p x w p0 hw
      obtain ⟨w2, h3, h4⟩ := b.2.2.1 p x w1 p0 h1
      exact ⟨w2, h3, by omega⟩
    · rcases List.mem_cons.1 hj with rfl | hj
      · obtain ⟨w1, h1, h2⟩ := a.2.2.2.1
        obtain ⟨w2, h3, h4⟩ := b.2.2.1 _ _ w1 (hk j (by simp)).1.1 h1
        exact ⟨w2, h3, by omega⟩
      · exact b.2.2.2.1 j hj
end Go.SX
namespace Go.SX
open Go Go.RowKit
inductive LPath (gl : List LK) (ok : Int → Prop) (i : Int) : Int → Int → Prop
  | nil : LPath gl ok i i 0
  | snoc {x w : Int} (k : LK) : LPath gl ok i x w → k ∈ gl → k.lf = x → ok k.lt → LPath gl ok i k.lt (w + k.lw)
theorem LPath.mono {gl gl2 : List LK} {ok ok2 : Int → Prop} {i x w : Int} (h : LPath gl ok i x w) (hg : ∀ k ∈ gl, k ∈ gl2) (ho : ∀ x, ok x → ok2 x) : LPath gl2 ok2 i x w := by
  induction h with
  | nil => exact .nil
  | snoc k h1 h2 h3 h4 ih => exact .snoc k ih (hg k h2) h3 (ho _ h4)
theorem dj_sound {G : GS} {but : Int} {D K R : Int → Option Int} {Pr : Int → Int → Prop} (h : DJ G but D K R) (hc : ∀ p d x, Pr p d → mhas (gt G.go p) x = true → gt G.gg x = false → x ≠ but → Pr x (d + wG G p x)) : (∀ x o, D x = some o → Pr x o) → (∀ x o, K x = some o → Pr x o) → ∀ x o, R x = some o → Pr x o := by
  induction h with
  | stop h => intro hD _; exact hD
  | @step D K R p d hl h2 ih =>
    intro hD hK
    have hp := hK p d hl.1
    refine ih (fun x o hx => ?_) (fun x o hx => ?_)
    · unfold setK at hx
      split at hx
      · rename_i e; subst e; injection hx with hx; rw [← hx]; exact hp
      · exact hD x o hx
    · unfold rlx at hx
      split at hx
      · rename_i c
        obtain ⟨c1, c2, c3, c4⟩ := c
        have hn := hc p d x hp c1 c3 c4
        unfold putK at hx
        rw [if_pos rfl] at hx
        injection hx with hx
        cases hd : delK K p x with
        | none => rw [hd] at hx; simp only at hx; rw [← hx]; exact hn
        | some k0 =>
          rw [hd] at hx
          simp only at hx
          split at hx
          · rw [← hx]; exact hn
          · rw [← hx]
            unfold delK at hd
            split at hd
            · cases hd
            · exact hK x _ hd
      · unfold delK at hx
        split at hx
        · cases hx
        · exact hK x o hx
structure SI (n : Int) (t : List Int) (ps : List Int) (G : GS) : Prop where
  sb : SB n G
  tab : ∀ p q : Int, 0 ≤ p → p < n → 0 ≤ q → q < n → 0 ≤ gt t (p * n + q) → ∃ w, EV G p q = some w ∧ w ≤ gt t (p * n + q)
  gone : ∀ x : Int, 0 ≤ x → x < n → (gt G.gg x = true ↔ x ∈ ps)
  mid : ∀ k ∈ G.gl, (k.lm = -1 ∧ gt t (k.lf * n + k.lt) = k.lw) ∨ (0 ≤ k.lm ∧ k.lm < n ∧ (∃ a b, ps = a ++ b ∧ k.lm ∈ a ∧ k.lf ∉ a ∧ k.lt ∉ a) ∧ ∃ u v, EV G k.lf k.lm = some u ∧ EV G k.lm k.lt = some v ∧ u + v = k.lw)
  wit : ∀ (a : List Int) (v : Int) (b : List Int), ps = a ++ v :: b → ∀ i u x y : Int, 0 ≤ i → i < n → 0 ≤ u → u < n → i ∉ a → u ∉ a → i ≠ v → u ≠ v → i ≠ u → EV G i v = some x → EV G v u = some y → ∃ w, LPath G.gl (fun z => z ∉ a ∧ z ≠ v) i u w ∧ w ≤ x + y
theorem si_next {n W : Int} {t ps : List Int} {G : GS} {p : Int} (h : SI n t ps G) (hW : WB G W) (h0 : 0 ≤ W) (hb : 2 * W ≤ 10000000000000000) (p0 : 0 ≤ p) (p1 : p < n) (hp : p ∉ ps) (hr : ∀ x ∈ ps, 0 ≤ x ∧ x < n) : SI n t (ps ++ [p]) (goneG (linksG G (scG G p)) p) := by
  have hS := h.sb
  have hkok := sc_kok (p := p) hS.ok hW h0
  have L := sb_links hb hS hkok
  have hsc : ∀ k ∈ scG G p, (0 ≤ k.lf ∧ k.lf < n ∧ 0 ≤ k.lt ∧ k.lt < n) ∧ (k.lf ∉ ps ∧ k.lf ≠ p) ∧ (k.lt ∉ ps ∧ k.lt ≠ p) ∧ k.lm = p ∧ ∃ u v, EV G k.lf p = some u ∧ EV G p k.lt = some v ∧ u + v = k.lw := fun k hk => by
    obtain ⟨a1, a2, a3, a4, a5, a6, a7⟩ := mem_scG hk
    have b1 := (hS.ok.im p).2 _ a1
    have b2 := (hS.ok.om p).2 _ a3
    have s1 := hS.sym k.lf p b1.1 p0
    have e1 : EV G k.lf p = some (wG G k.lf p) := ev_some.2 ⟨s1.1.1 a1, rfl⟩
    have e2 : EV G p k.lt = some (wG G p k.lt) := ev_some.2 ⟨a3, rfl⟩
    obtain ⟨x1, m1, f1, t1, _⟩ := hS.at b1.1 e1
    obtain ⟨x2, m2, f2, t2, _⟩ := hS.at p0 e2
    refine ⟨⟨b1.1, b1.2.1, b2.1, b2.2.1⟩, ⟨fun q => ?_, fun q => hS.ne x1 m1 (by rw [f1, t1, q])⟩, ⟨fun q => ?_, fun q => hS.ne x2 m2 (by rw [f2, t2, q])⟩, a6, _, _, e1, e2, ?_⟩
    · rw [(h.gone _ b1.1 b1.2.1).2 q] at a2; cases a2
    · rw [(h.gone _ b2.1 b2.2.1).2 q] at a4; cases a4
    · rw [a7]; unfold scD wG; rw [s1.2 (s1.1.1 a1)]
  have far : ∀ a b : Int, 0 ≤ a → (a ∈ ps ∨ a = p ∨ b ∈ ps ∨ b = p) → EV (linksG G (scG G p)) a b = EV G a b := fun a b a0 q => L.2.1 a b a0 (fun k hk e => by
    have := hsc k hk
    obtain ⟨rfl, rfl⟩ := e
    rcases q with q | q | q | q
    · exact this.2.1.1 q
    · exact this.2.1.2 q
    · exact this.2.2.1.1 q
    · exact this.2.2.1.2 q)
  have hEV : ∀ a b, EV (goneG (linksG G (scG G p)) p) a b = EV (linksG G (scG G p)) a b := fun _ _ => rfl
  have hgl : ∀ k ∈ G.gl, k ∈ (goneG (linksG G (scG G p)) p).gl := L.2.2.2.2.1
  have hlg := hS.ok.lg
  refine ⟨⟨gok_gone L.1.ok, L.1.ne, L.1.ent, L.1.sym, L.1.mn⟩, fun a b a0 a1 b0 b1 hab => ?_, fun x x0 x1 => ?_, fun k hk => ?_, fun a v b e i u x y i0 i1 u0 u1 hi hu hiv huv hiu hx hy => ?_⟩
  · obtain ⟨w, hw, hle⟩ := h.tab a b a0 a1 b0 b1 hab
    obtain ⟨w', hw', hle'⟩ := L.2.2.1 a b w a0 hw
    exact ⟨w', hw', by omega⟩
  · show gt ((linksG G (scG G p)).gg.set p.toNat true) x = true ↔ _
    rw [L.2.2.2.2.2, List.mem_append, List.mem_singleton]
    by_cases e : p = x
    · subst e; rw [gtS p0 (by omega)]; exact ⟨fun _ => .inr rfl, fun _ => rfl⟩
    · rw [gtN p0 x0 e, h.gone x x0 x1]; exact ⟨.inl, fun q => q.resolve_right (fun z => e z.symm)⟩
  · rcases mem_links (show k ∈ (linksG G (scG G p)).gl from hk) with hk | hk
    · rcases h.mid k hk with q | ⟨q0, q1, ⟨a, b, e, m1, m2, m3⟩, u, v, e1, e2, e3⟩
      · exact .inl q
      · have hm : k.lm ∈ ps := by rw [e]; exact List.mem_append_left _ m1
        have hrg := hS.rng hk
        refine .inr ⟨q0, q1, ⟨a, b ++ [p], by rw [e, List.append_assoc], m1, m2, m3⟩, u, v, ?_, ?_, e3⟩
        · rw [hEV, far _ _ hrg.1 (.inr (.inr (.inl hm)))]; exact e1
        · rw [hEV, far _ _ q0 (.inl hm)]; exact e2
    · obtain ⟨c1, c2, c3, c4, u, v, e1, e2, e3⟩ := hsc k hk
      refine .inr ⟨by rw [c4]; exact p0, by rw [c4]; exact p1, ⟨ps ++ [p], [], by simp, by rw [c4]; simp, ?_, ?_⟩, u, v, ?_, ?_, e3⟩
      · simp [c2.1, c2.2]
      · simp [c3.1, c3.2]
      · rw [c4, hEV, far _ _ c1.1 (.inr (.inr (.inr rfl)))]; exact e1
      · rw [c4, hEV, far _ _ p0 (.inr (.inl rfl))]; exact e2
  · rw [hEV] at hx hy
    rcases List.eq_nil_or_concat b with hb2 | ⟨b', z, hb2⟩
    · subst hb2
      have e' : ps = a ∧ p = v := by
        have := List.append_inj' e rfl
        exact ⟨this.1, by have h2 := this.2; injection h2⟩
      obtain ⟨rfl, rfl⟩ := e'
      rw [far _ _ i0 (.inr (.inr (.inr rfl)))] at hx
      rw [far _ _ p0 (.inr (.inl rfl))] at hy
      obtain ⟨x1, x2⟩ := ev_some.1 hx
      obtain ⟨y1, y2⟩ := ev_some.1 hy
      have s1 := hS.sym i p i0 p0
      have g1 : gt G.gg i = false := by
        cases hg : gt G.gg i with
        | false => rfl
        | true => exact absurd ((h.gone i i0 i1).1 hg) hi
      have g2 : gt G.gg u = false := by
        cases hg : gt G.gg u with
        | false => rfl
        | true => exact absurd ((h.gone u u0 u1).1 hg) hu
      have hd : scD G p i u = x + y := by
        unfold scD
        rw [s1.2 x1, ← x2, ← y2]; rfl
      rcases scG_or (s1.1.2 x1) g1 y1 g2 (fun q => hiu q.symm) with hk | ⟨o, ho, hle⟩
      · obtain ⟨w', hw', hle⟩ := L.2.2.2.1 _ hk
        obtain ⟨k, hk1, f1, t1, l1⟩ := L.1.at i0 hw'
        refine ⟨0 + k.lw, ?_, ?_⟩
        · have : LPath (goneG (linksG G (scG G p)) p).gl (fun z => z ∉ ps ∧ z ≠ p) i k.lt (0 + k.lw) := .snoc k .nil hk1 f1 (by rw [t1]; exact ⟨hu, huv⟩)
          rw [t1] at this; exact this
        · have : w' ≤ scD G p i u := hle
          omega
      · have hR := fun (R : Int → Option Int) (hR : DJ G p K0 (putK K0 i 0) R) => dj_sound (Pr := fun x o => (0 ≤ x ∧ x < n) ∧ LPath G.gl (fun z => z ∉ ps ∧ z ≠ p) i x o) hR (fun q d z ⟨hq, hpq⟩ m1 m2 m3 => by
            have hz := (hS.ok.om q).2 z m1
            obtain ⟨k, hk1, f1, t1, l1⟩ := hS.at hq.1 (ev_some.2 ⟨m1, rfl⟩)
            refine ⟨⟨hz.1, hz.2.1⟩, ?_⟩
            have : LPath G.gl (fun z => z ∉ ps ∧ z ≠ p) i k.lt (d + k.lw) := .snoc k hpq hk1 f1 (by rw [t1]; exact ⟨fun w => (by rw [(h.gone z hz.1 hz.2.1).2 w] at m2; cases m2), m3⟩)
            rw [t1, l1] at this; exact this) (fun _ _ q => (by cases q)) (fun z o' q => by
            unfold putK at q
            split at q
            · rename_i e; subst e; injection q with q
              have q : (0 : Int) = o' := q
              rw [← q]; exact ⟨⟨i0, i1⟩, .nil⟩
            · cases q)
        unfold arR at ho
        split at ho
        · rename_i hex
          have := (hR _ hex.choose_spec u o ho).2
          exact ⟨o, this.mono hgl (fun _ h => h), by omega⟩
        · cases ho
    · subst hb2
      have e' : ps = a ++ v :: b' ∧ p = z := by
        have e2 : ps ++ [p] = (a ++ v :: b') ++ [z] := by rw [e]; simp
        have := List.append_inj' e2 rfl
        exact ⟨this.1, by have h2 := this.2; injection h2⟩
      obtain ⟨e1, rfl⟩ := e'
      have hv : v ∈ ps := by rw [e1]; simp
      rw [far _ _ i0 (.inr (.inr (.inl hv)))] at hx
      rw [far _ _ (hr v hv).1 (.inl hv)] at hy
      obtain ⟨w, hw, hle⟩ := h.wit a v b' e1 i u x y i0 i1 u0 u1 hi hu hiv huv hiu hx hy
      exact ⟨w, hw.mono hgl (fun _ h => h), hle⟩
theorem nxs_si {n : Int} {t ps : List Int} {f f1 : Int → Option Int} {G G1 : GS} (h : NXS ps f G f1 G1) : GOK n G → WB G (wBd 0) → (∀ x, f x = none ↔ ¬ (0 ≤ x ∧ x < n)) → SI n t [] G → SI n t ps G1 := by
  induction h with
  | nil => intro _ _ _ h; exact h
  | @snoc ps f G f1 G1 p f2 G2 h1 h2 ih =>
    intro a1 a2 a3 a4
    have hi := h1.inv a1 a2 a3
    have hn := a1.n1
    have hle := nodup_le hi.2.2.2.1 hi.2.2.2.2.1 (by omega)
    have hwb := wBd_le (k := ps.length) (by omega)
    have hx := h2.inv hi.1 hi.2.1 hwb.1 (by omega)
    obtain ⟨k, hk⟩ := hx.1
    have hp : (0 ≤ p ∧ p < n) ∧ p ∉ ps := by
      refine ⟨Classical.byContradiction fun q => ?_, fun q => ?_⟩
      · rw [(hi.2.2.1 p).2 (.inl q)] at hk; cases hk
      · rw [(hi.2.2.1 p).2 (.inr q)] at hk; cases hk
    rw [hx.2.2.2.2.2]
    exact si_next (ih a1 a2 a3 a4) hi.2.1 hwb.1 (by omega) hp.1.1 hp.1.2 hp.2 hi.2.2.2.2.1
theorem si_1 {n : Int} {t fi : List Int} {ed : List EG} (hT : TabOk n t) (hG : GOk n t fi ed) : SI n t [] (G1 n fi ed) := by
  have hn := hT.pl
  have L := sb_links (n := n) (W := 1000000) (by decide) (sb_0 hn) (bL_ok (p := n) hT hG (by omega) (Int.le_refl _))
  refine ⟨L.1, fun p q p0 p1 q0 q1 h => ?_, fun x x0 x1 => ?_, fun k hk => ?_, fun a v b e => ?_⟩
  · obtain ⟨e, he, rfl⟩ := hG.all p q p0 p1 q0 q1 h
    obtain ⟨w, hw, hle⟩ := L.2.2.2.1 (eL p e) ((mem_bL (by omega)).2 ⟨p, p0, p1, e, he, rfl⟩)
    exact ⟨w, hw, by rw [← (hG.ok p p0 p1 e he).2.2.2.2]; exact hle⟩
  · show gt (linksG (G0 n) (bL fi ed n)).gg x = true ↔ _
    rw [L.2.2.2.2.2]
    refine ⟨fun q => ?_, fun q => by cases q⟩
    rcases gt_repl (n := n.toNat) (x := false) x with e | e
    · have q : gt (List.replicate n.toNat false) x = true := q
      rw [e] at q; cases q
    · have q : gt (List.replicate n.toNat false) x = true := q
      rw [e] at q; cases q
  · rcases mem_links hk with h | h
    · cases h
    · obtain ⟨p, p0, p1, e, he, rfl⟩ := (mem_bL (by omega)).1 h
      exact .inl ⟨rfl, (hG.ok p p0 p1 e he).2.2.2.2.symm⟩
  · cases a <;> cases e
theorem lft_si {n : Int} {t fi : List Int} {ed : List EG} {R : List Int} {K : List LK} {U D : List IL} (hT : TabOk n t) (hG : GOk n t fi ed) (h : LftP n fi ed R K U D) : ∃ ps G, SI n t ps G ∧ K = G.gl ∧ R = rkL n ps ∧ (ps.length : Int) = n ∧ ps.Nodup ∧ ∀ x ∈ ps, 0 ≤ x ∧ x < n := by
  obtain ⟨⟨ps, f, G, hx, hl, hR, hK⟩, hu⟩ := h
  have ha := hx.at hT hG
  have h0 := pre_ok0 hT hG (p := n) (by have := hT.pl; omega) (Int.le_refl _)
  exact ⟨ps, G, nxs_si hx h0.1 (by unfold wBd; exact h0.2.1) (fun x => by unfold pqF; split <;> simp [*]) (si_1 hT hG), hK, hR, hl, ha.2.2.2.1, ha.2.2.2.2.1⟩
theorem rk_lt {n : Int} {R ps a b : List Int} {x y : Int} (hR : R = rkL n ps) (hn : ps.Nodup) (hr : ∀ x ∈ ps, 0 ≤ x ∧ x < n) (hl : (ps.length : Int) = n) (e : ps = a ++ b) (hx : x ∈ a) (hy : y ∉ a) (y0 : 0 ≤ y) (y1 : y < n) : gt R x < gt R y := by
  obtain ⟨i, i0, i1, rfl⟩ := memG hx
  have hxr := rkL_at ps hn hr i i0 (by rw [e, List.length_append]; omega)
  have e1 : gt ps i = gt a i := by rw [e, gtA i0 i1]
  rw [e1, ← hR] at hxr
  have ho := rk_own hR hn hr hl y y0 y1
  rw [hxr]
  refine Classical.byContradiction fun q => hy ?_
  have h2 : gt ps (gt R y) = gt a (gt R y) := by rw [e, gtA ho.1 (by omega)]
  rw [← ho.2.2, h2]
  exact gtM ho.1 (by omega)
end Go.SX
namespace Go.SX
open Go Go.RowKit
def minSt (n : Int) (m : List Int) (k : LK) : List Int := if gt m (k.lf * n + k.lt) < 0 ∨ k.lw < gt m (k.lf * n + k.lt) then m.set (k.lf * n + k.lt).toNat k.lw else m
theorem min_len {n : Int} {m : List Int} {k : LK} : (minSt n m k).length = m.length := by unfold minSt; split <;> simp
def lkOk (n : Int) (k : LK) : Prop := (0 ≤ k.lf ∧ k.lf < n) ∧ (0 ≤ k.lt ∧ k.lt < n) ∧ 0 ≤ k.lw
def cellOk (n : Int) (Y : List Int) (l : List LK) : Prop := ∀ p q : Int, 0 ≤ p → p < n → 0 ≤ q → q < n →
  (gt Y (p * n + q) = -1 ∧ ∀ k ∈ l, ¬ (k.lf = p ∧ k.lt = q)) ∨ (0 ≤ gt Y (p * n + q) ∧ (∃ k ∈ l, k.lf = p ∧ k.lt = q ∧ k.lw = gt Y (p * n + q)) ∧ ∀ k ∈ l, k.lf = p → k.lt = q → gt Y (p * n + q) ≤ k.lw)
theorem cell_0 {n : Int} : cellOk n (List.replicate (n * n).toNat (-1)) [] := fun p q p0 p1 q0 q1 => by
  have hi := idx_rng (n := n) ⟨p0, p1⟩ ⟨q0, q1⟩
  refine .inl ⟨?_, fun k hk => by cases hk⟩
  have := gtM (l := List.replicate (n * n).toNat (-1 : Int)) (i := p * n + q) (by omega) (by rw [List.length_replicate]; omega)
  exact List.eq_of_mem_replicate this
theorem cell_s {n : Int} {Y : List Int} {l : List LK} {k : LK} (h : cellOk n Y l) (hY : (Y.length : Int) = n * n) (hk : lkOk n k) : cellOk n (minSt n Y k) (l ++ [k]) := fun p q p0 p1 q0 q1 => by
  have hi := idx_rng (n := n) ⟨p0, p1⟩ ⟨q0, q1⟩
  have hki := idx_rng (n := n) hk.1 hk.2.1
  have hpq := h p q p0 p1 q0 q1
  have hw := hk.2.2
  have hk1 := hk.1
  have hk2 := hk.2.1
  by_cases e : k.lf = p ∧ k.lt = q
  · obtain ⟨rfl, rfl⟩ := e
    unfold minSt
    split
    · rename_i c
      rw [gtS (by omega) (by omega)]
      refine .inr ⟨hw, ⟨k, by simp, rfl, rfl, rfl⟩, fun j hj jf jt => ?_⟩
      rcases List.mem_append.1 hj with hj | hj
      · rcases hpq with hp | hp
        · exact absurd ⟨jf, jt⟩ (hp.2 j hj)
        · have := hp.2.2 j hj jf jt; have := hp.1; omega
      · rw [List.mem_singleton.1 hj]; exact Int.le_refl _
    · rename_i c
      rcases hpq with hp | hp
      · exact absurd (.inl (by rw [hp.1]; decide)) c
      · obtain ⟨h1, ⟨j, hj, j1, j2, j3⟩, h3⟩ := hp
        refine .inr ⟨h1, ⟨j, List.mem_append_left _ hj, j1, j2, j3⟩, fun j hj jf jt => ?_⟩
        rcases List.mem_append.1 hj with hj | hj
        · exact h3 j hj jf jt
        · rw [List.mem_singleton.1 hj]; omega
  · have hg : gt (minSt n Y k) (p * n + q) = gt Y (p * n + q) := by
      unfold minSt
      split
      · rw [gtN (by omega) (by omega) (fun z => e (idx_inj hk.1 hk.2.1 ⟨p0, p1⟩ ⟨q0, q1⟩ z))]
      · rfl
    rw [hg]
    rcases hpq with hp | hp
    · refine .inl ⟨hp.1, fun j hj => ?_⟩
      rcases List.mem_append.1 hj with hj | hj
      · exact hp.2 j hj
      · rw [List.mem_singleton.1 hj]; exact e
    · obtain ⟨h1, ⟨j, hj, j1, j2, j3⟩, h3⟩ := hp
      refine .inr ⟨h1, ⟨j, List.mem_append_left _ hj, j1, j2, j3⟩, fun j hj jf jt => ?_⟩
      rcases List.mem_append.1 hj with hj | hj
      · exact h3 j hj jf jt
      · rw [List.mem_singleton.1 hj] at jf jt; exact absurd ⟨jf, jt⟩ e
theorem cell_all {n : Int} : ∀ {l l0 : List LK} {Y : List Int}, cellOk n Y l0 → (Y.length : Int) = n * n → (∀ k ∈ l, lkOk n k) → cellOk n (l.foldl (minSt n) Y) (l0 ++ l) ∧ ((l.foldl (minSt n) Y).length : Int) = n * n
  | [], l0, Y, h, hY, _ => ⟨by rw [List.append_nil]; exact h, hY⟩
  | k :: l, l0, Y, h, hY, hk => by
    have h1 := cell_s h hY (hk k (by simp))
    have := cell_all (l := l) h1 (by rw [min_len]; exact hY) (fun j hj => hk j (List.mem_cons_of_mem _ hj))
    rw [List.append_assoc] at this
    exact this
theorem lk_rg {n : Int} {t fi : List Int} {ed : List EG} {R : List Int} {K : List LK} {U D : List IL} (hT : TabOk n t) (hG : GOk n t fi ed) (h : LftP n fi ed R K U D) : ∀ i : Int, 0 ≤ i → i < (K.length : Int) → (0 ≤ (gt K i).lf ∧ (gt K i).lf < n) ∧ (0 ≤ (gt K i).lt ∧ (gt K i).lt < n) ∧ (0 ≤ (gt K i).lw ∧ (gt K i).lw ≤ 10000000000000000) ∧ (gt K i).lf ≠ (gt K i).lt := fun i i0 i1 => by
  obtain ⟨ps, G, hs, rfl, -⟩ := lft_si hT hG h
  have a := hs.sb.ok.lk i i0 i1
  exact ⟨⟨a.1, a.2.1⟩, ⟨a.2.2.1, a.2.2.2.1⟩, ⟨a.2.2.2.2.1, a.2.2.2.2.2⟩, hs.sb.ne _ (gtM i0 i1)⟩
end Go.SX
namespace Go.SX
open Go Go.RowKit
section
variable {f : Int → Int → Int}
theorem fw_lo (h : ∀ x y, -1 ≤ f x y) : ∀ (k : Nat) (x y : Int), -1 ≤ fw f k x y
  | 0, x, y => by unfold fw; have := h x y; split <;> omega
  | k + 1, x, y => by
    show -1 ≤ nw (fw f k) k x y
    unfold nw; have := fw_lo h k x y; split <;> omega
theorem fw_dg (h : ∀ x y, -1 ≤ f x y) : ∀ (k : Nat) (x : Int), fw f k x x = 0
  | 0, x => by unfold fw; rw [if_pos rfl]
  | k + 1, x => by
    show nw (fw f k) k x x = 0
    unfold nw; have := fw_dg h k x; split <;> omega
theorem fw_tri (h : ∀ x y, -1 ≤ f x y) : ∀ (k m : Nat), m < k → ∀ x y : Int, 0 ≤ fw f k x m → 0 ≤ fw f k m y → 0 ≤ fw f k x y ∧ fw f k x y ≤ fw f k x m + fw f k m y
  | 0, m, hm, _, _ => absurd hm (by omega)
  | k + 1, m, hm, x, y => by
    show 0 ≤ nw (fw f k) k x m → 0 ≤ nw (fw f k) k m y → 0 ≤ nw (fw f k) k x y ∧ nw (fw f k) k x y ≤ nw (fw f k) k x m + nw (fw f k) k m y
    have d0 := fw_dg h k k
    by_cases e : m = k
    · subst e
      intro h1 h2
      unfold nw at *
      split at h1 <;> split at h2 <;> (try split) <;> (repeat' split) <;> (try rw [if_pos (by assumption)]) <;> omega
    · have t1 := fw_tri h k m (by omega) x y
      have t2 := fw_tri h k m (by omega) x k
      have t3 := fw_tri h k m (by omega) k y
      intro h1 h2
      unfold nw at *
      split at h1 <;> split at h2 <;> (repeat' split) <;> omega
theorem fw_le (h : ∀ x y, -1 ≤ f x y) : ∀ (k : Nat) (x y : Int), 0 ≤ f x y → 0 ≤ fw f k x y ∧ fw f k x y ≤ f x y
  | 0, x, y, h0 => by unfold fw; split <;> omega
  | k + 1, x, y, h0 => by
    show 0 ≤ nw (fw f k) k x y ∧ nw (fw f k) k x y ≤ f x y
    have := fw_le h k x y h0
    unfold nw; split <;> omega
theorem fw_sound {n : Int} {Pr : Int → Int → Int → Prop} (h0 : ∀ x, 0 ≤ x → x < n → Pr x x 0) (h1 : ∀ x y, 0 ≤ x → x < n → 0 ≤ y → y < n → 0 ≤ f x y → Pr x y (f x y)) (h2 : ∀ x k y a b, Pr x k a → Pr k y b → Pr x y (a + b)) : ∀ (k : Nat), (k : Int) ≤ n → ∀ x y : Int, 0 ≤ x → x < n → 0 ≤ y → y < n → 0 ≤ fw f k x y → Pr x y (fw f k x y)
  | 0, _, x, y, x0, x1, y0, y1, h => by
    unfold fw at h ⊢
    split
    · rename_i e; subst e; exact h0 x x0 x1
    · rename_i e; rw [if_neg e] at h; exact h1 x y x0 x1 y0 y1 h
  | k + 1, hk, x, y, x0, x1, y0, y1, h => by
    have h : 0 ≤ nw (fw f k) k x y := h
    show Pr x y (nw (fw f k) k x y)
    unfold nw at h ⊢
    split
    · rename_i c
      exact h2 x k y _ _ (fw_sound h0 h1 h2 k (by omega) x k x0 x1 (by omega) (by omega) c.1) (fw_sound h0 h1 h2 k (by omega) k y (by omega) (by omega) y0 y1 c.2.1)
    · rename_i c
      rw [if_neg c] at h
      exact fw_sound h0 h1 h2 k (by omega) x y x0 x1 y0 y1 h
theorem fw_pot {ρ : Int → Int} {B : Int} (h : ∀ x y, 0 ≤ f x y → f x y ≤ (ρ y - ρ x) * B) : ∀ (k : Nat) (x y : Int), 0 ≤ fw f k x y → fw f k x y ≤ (ρ y - ρ x) * B
  | 0, x, y, h0 => by
    unfold fw at h0 ⊢
    split
    · rename_i e; subst e; rw [Int.sub_self, Int.zero_mul]; exact Int.le_refl _
    · rename_i e; rw [if_neg e] at h0; exact h x y h0
  | k + 1, x, y, h0 => by
    have h0 : 0 ≤ nw (fw f k) k x y := h0
    show nw (fw f k) k x y ≤ _
    unfold nw at h0 ⊢
    split
    · rename_i c
      have a := fw_pot h k x k c.1
      have b := fw_pot h k k y c.2.1
      have e : (ρ k - ρ x) * B + (ρ y - ρ k) * B = (ρ y - ρ x) * B := by rw [← Int.add_mul]; congr 1; omega
      omega
    · rename_i c; rw [if_neg c] at h0; exact fw_pot h k x y h0
theorem fw_fb {ρ : Int → Int} {B : Int} (hl : ∀ x y, -1 ≤ f x y) (h : ∀ x y, 0 ≤ f x y → f x y ≤ (ρ y - ρ x) * B) (hr : ∀ x, 0 ≤ ρ x ∧ ρ x ≤ 32) (hB : 0 ≤ B) (k : Nat) : FB (fw f k) (32 * B) := ⟨fw_lo hl k, fun x y => by
  by_cases c : 0 ≤ fw f k x y
  · have := fw_pot h k x y c
    have h2 : (ρ y - ρ x) * B ≤ 32 * B := Int.mul_le_mul_of_nonneg_right (by have := hr x; have := hr y; omega) hB
    omega
  · have : 0 ≤ 32 * B := by omega
    omega, fw_dg hl k⟩
end
inductive LW (E : LK → Prop) (i : Int) : Int → Int → Prop
  | nil : LW E i i 0
  | snoc {x w : Int} (k : LK) : LW E i x w → E k → k.lf = x → LW E i k.lt (w + k.lw)
section
variable {R : List Int} {K : List LK}
def isUp (R : List Int) (K : List LK) (k : LK) : Prop := k ∈ K ∧ gt R k.lf < gt R k.lt
def isDn (R : List Int) (K : List LK) (k : LK) : Prop := k ∈ K ∧ gt R k.lt < gt R k.lf
def UDW (R : List Int) (K : List LK) (i j w : Int) : Prop := ∃ k w1 w2, LW (isUp R K) i k w1 ∧ LW (isDn R K) k j w2 ∧ w1 + w2 ≤ w
theorem UDW.mono {i j w w' : Int} (h : UDW R K i j w) (hw : w ≤ w') : UDW R K i j w' := by
  obtain ⟨k, w1, w2, h1, h2, h3⟩ := h; exact ⟨k, w1, w2, h1, h2, by omega⟩
def Wit (R : List Int) (K : List LK) (n : Int) : Prop := ∀ k1 ∈ K, ∀ k2 ∈ K, k1.lt = k2.lf → gt R k1.lt < gt R k1.lf → gt R k2.lf < gt R k2.lt → k1.lf ≠ k2.lt → ∃ w, LPath K (fun z => gt R k1.lt < gt R z) k1.lf k2.lt w ∧ w ≤ k1.lw + k2.lw
theorem ud_app {n : Int} (hW : Wit R K n) (h0 : ∀ k ∈ K, 0 ≤ k.lw) (hne : ∀ k ∈ K, gt R k.lf ≠ gt R k.lt) (hr : ∀ k ∈ K, gt R k.lf < n ∧ gt R k.lt < n) : ∀ (d : Nat) (m : Int), n - m ≤ d → ∀ i w : Int, ∀ k ∈ K, m ≤ gt R k.lf → m ≤ gt R k.lt → UDW R K i k.lf w → UDW R K i k.lt (w + k.lw)
  | 0, m, hd, i, w, k, hk, a, b, _ => absurd a (by have := hr k hk; omega)
  | d + 1, m, hd, i, w, k, hk, a, b, h => by
    obtain ⟨t, w1, w2, h1, h2, h3⟩ := h
    by_cases c : gt R k.lt < gt R k.lf
    · exact ⟨t, w1, w2 + k.lw, h1, .snoc k h2 ⟨hk, c⟩ rfl, by omega⟩
    · have c' : gt R k.lf < gt R k.lt := by have := hne k hk; omega
      generalize hv : k.lf = v at h2
      cases h2 with
      | nil => exact ⟨k.lt, w1 + k.lw, 0, .snoc k h1 ⟨hk, c'⟩ hv, .nil, by omega⟩
      | @snoc x w3 k1 g1 g2 g3 =>
        have hk1 := g2.1
        have hw1 := h0 k1 hk1
        have hw2 := h0 k hk
        subst g3
        have base : UDW R K i k1.lf (w1 + w3) := ⟨t, w1, w3, h1, g1, Int.le_refl _⟩
        by_cases e : k1.lf = k.lt
        · rw [← e]; exact base.mono (by omega)
        · obtain ⟨w', hp, hle⟩ := hW k1 hk1 k hk hv.symm (by rw [hv] at *; exact g2.2) (by exact c') e
          have step : ∀ z w'', LPath K (fun z => gt R k1.lt < gt R z) k1.lf z w'' → gt R k1.lt < gt R z ∧ UDW R K i z (w1 + w3 + w'') := fun z w'' hp => by
            induction hp with
            | nil => exact ⟨g2.2, base.mono (by omega)⟩
            | @snoc x w4 k2 q1 q2 q3 q4 ih =>
              subst q3
              refine ⟨q4, ?_⟩
              have := ud_app hW h0 hne hr d (gt R k1.lt + 1) (by rw [← hv] at *; omega) i (w1 + w3 + w4) k2 q2 (by omega) (by omega) ih.2
              exact this.mono (by omega)
          exact (step _ _ hp).2.mono (by omega)
theorem ud_all {n : Int} (hW : Wit R K n) (h0 : ∀ k ∈ K, 0 ≤ k.lw) (hne : ∀ k ∈ K, gt R k.lf ≠ gt R k.lt) (hr : ∀ k ∈ K, 0 ≤ gt R k.lf ∧ gt R k.lf < n ∧ 0 ≤ gt R k.lt ∧ gt R k.lt < n) {i x w : Int} (h : LPath K (fun _ => True) i x w) : UDW R K i x w := by
  induction h with
  | nil => exact ⟨i, 0, 0, .nil, .nil, by omega⟩
  | snoc k h1 h2 h3 h4 ih =>
    subst h3
    exact ud_app hW h0 hne (fun k hk => ⟨(hr k hk).2.1, (hr k hk).2.2.2⟩) n.toNat 0 (by omega) i _ k h2 (hr k h2).1 (hr k h2).2.2.1 ih
end
end Go.SX
namespace Go.SX
open Go Go.RowKit
def clipF (n : Int) (Y : List Int) (x y : Int) : Int := if (0 ≤ x ∧ x < n) ∧ (0 ≤ y ∧ y < n) then gt Y (x * n + y) else -1
theorem clip_mf {n : Int} {Y : List Int} (h : (Y.length : Int) = n * n) : MF n Y (clipF n Y) := ⟨h, fun x y x0 x1 y0 y1 => by unfold clipF; rw [if_pos ⟨⟨x0, x1⟩, y0, y1⟩]⟩
theorem dg_0m {n : Int} {l : List Int} {f : Int → Int → Int} (h : MF n l f) : MF n l (dgf f 0) := h.congr (fun x y x0 x1 y0 y1 => by unfold dgf; rw [if_neg (by omega)])
def allP (R : List Int) (K : List LK) (M : List IL) : Nat → List LK
  | 0 => []
  | p + 1 => allP R K M p ++ pkL R K M p
def upT (n : Int) (R : List Int) (K : List LK) (M : List IL) : List Int := (allP R K M n.toNat).foldl (minSt n) (List.replicate (n * n).toNat (-1))
theorem ls2 {n : Int} {A L : List LK} {Y Y0 : List Int} {i : Int} (h : Y = (A ++ L.take i.toNat).foldl (minSt n) Y0) (h0 : 0 ≤ i) (h1 : i < (L.length : Int)) : (A ++ L.take (i + 1).toNat).foldl (minSt n) Y0 = minSt n Y (gt L i) := by
  rw [show (i + 1).toNat = i.toNat + 1 from by omega, List.take_succ_eq_append_getElem (by omega), ← List.append_assoc, List.foldl_append, ← h, show L[i.toNat]'(by omega) = gt L i from by unfold gt; rw [List.getD_eq_getElem?_getD, List.getElem?_eq_getElem (by omega)]; rfl]
  rfl
theorem ls2_yes {n : Int} {A L : List LK} {Y Y0 : List Int} {i : Int} (h : Y = (A ++ L.take i.toNat).foldl (minSt n) Y0) (h0 : 0 ≤ i) (h1 : i < (L.length : Int)) (hc : gt Y ((gt L i).lf * n + (gt L i).lt) < 0 ∨ (gt L i).lw < gt Y ((gt L i).lf * n + (gt L i).lt)) : Y.set ((gt L i).lf * n + (gt L i).lt).toNat (gt L i).lw = (A ++ L.take (i + 1).toNat).foldl (minSt n) Y0 := by
  rw [ls2 h h0 h1]; unfold minSt; rw [if_pos hc]
theorem ls2_no {n : Int} {A L : List LK} {Y Y0 : List Int} {i : Int} (h : Y = (A ++ L.take i.toNat).foldl (minSt n) Y0) (h0 : 0 ≤ i) (h1 : i < (L.length : Int)) (hc : ¬ (gt Y ((gt L i).lf * n + (gt L i).lt) < 0 ∨ (gt L i).lw < gt Y ((gt L i).lf * n + (gt L i).lt))) : Y = (A ++ L.take (i + 1).toNat).foldl (minSt n) Y0 := by
  rw [ls2 h h0 h1]; unfold minSt; rw [if_neg hc]
theorem ls2_0 {n : Int} {A L : List LK} {Y Y0 : List Int} (h : Y = A.foldl (minSt n) Y0) : Y = (A ++ L.take (0 : Int).toNat).foldl (minSt n) Y0 := by rw [h]; simp
theorem ls2_end {n p i : Int} {R : List Int} {K : List LK} {M : List IL} {Y Y0 : List Int} (h : Y = (allP R K M p.toNat ++ (pkL R K M p).take i.toNat).foldl (minSt n) Y0) (hi : ((pkL R K M p).length : Int) ≤ i) (p0 : 0 ≤ p) : Y = (allP R K M (p + 1).toNat).foldl (minSt n) Y0 := by
  rw [h, List.take_of_length_le (by omega), show (p + 1).toNat = p.toNat + 1 from by omega]
  show _ = (allP R K M p.toNat ++ pkL R K M ((p.toNat : Nat) : Int)).foldl (minSt n) Y0
  rw [show ((p.toNat : Nat) : Int) = p from by omega]
def bst (A B : Int → Int → Int) (i j : Int) : Nat → Int
  | 0 => -1
  | k + 1 => if A i k ≥ 0 ∧ B k j ≥ 0 ∧ (bst A B i j k < 0 ∨ A i k + B k j < bst A B i j k) then A i k + B k j else bst A B i j k
end Go.SX
namespace Go.SX
open Go Go.RowKit
structure WyK (n : Int) (R : List Int) (K : List LK) (U D : List IL) : Prop where
  lu : ∀ p : Int, 0 ≤ p → p < n → ∀ k ∈ pkL R K U p, lkOk n k
  ld : ∀ p : Int, 0 ≤ p → p < n → ∀ k ∈ pkL R K D p, lkOk n k
  fu : ∀ k : Nat, k ≤ 32 → FB (fw (clipF n (upT n R K U)) k) 200000000000000000
  fd : ∀ k : Nat, k ≤ 32 → FB (fw (clipF n (upT n R K D)) k) 200000000000000000
theorem LPath.monoL {gl gl2 : List LK} {ok ok2 : Int → Prop} {i x w : Int} (h : LPath gl ok i x w) (hg : ∀ k ∈ gl, k ∈ gl2) (ho : ∀ k ∈ gl, ok k.lt → ok2 k.lt) : LPath gl2 ok2 i x w := by
  induction h with
  | nil => exact .nil
  | snoc k h1 h2 h3 h4 ih => exact .snoc k ih (hg k h2) h3 (ho _ h2 h4)
theorem LPath.trans {gl : List LK} {ok : Int → Prop} {i x y a b : Int} (h : LPath gl ok i x a) (k : LPath gl ok x y b) : LPath gl ok i y (a + b) := by
  induction k with
  | nil => rw [Int.add_zero]; exact h
  | snoc k h1 h2 h3 h4 ih => rw [← Int.add_assoc]; exact .snoc k ih h2 h3 h4
theorem mem_allP {R : List Int} {K : List LK} {M : List IL} {k : LK} : ∀ {m : Nat}, k ∈ allP R K M m ↔ ∃ p : Int, 0 ≤ p ∧ p < m ∧ k ∈ pkL R K M p
  | 0 => ⟨fun h => (by cases h), fun ⟨p, h0, h1, _⟩ => absurd h1 (by omega)⟩
  | m + 1 => by
    show k ∈ allP R K M m ++ pkL R K M m ↔ _
    rw [List.mem_append, mem_allP (m := m)]
    constructor
    · rintro (⟨p, h0, h1, h2⟩ | h)
      · exact ⟨p, h0, by omega, h2⟩
      · exact ⟨m, by omega, by omega, h⟩
    · rintro ⟨p, h0, h1, h2⟩
      by_cases e : p = m
      · subst e; exact .inr h2
      · exact .inl ⟨p, h0, by omega, h2⟩
theorem bst_spec {A B : Int → Int → Int} {i j : Int} : ∀ N : Nat, (bst A B i j N = -1 ∧ ∀ k : Int, 0 ≤ k → k < N → ¬ (0 ≤ A i k ∧ 0 ≤ B k j)) ∨ (0 ≤ bst A B i j N ∧ (∃ k : Int, 0 ≤ k ∧ k < N ∧ 0 ≤ A i k ∧ 0 ≤ B k j ∧ bst A B i j N = A i k + B k j) ∧ ∀ k : Int, 0 ≤ k → k < N → 0 ≤ A i k → 0 ≤ B k j → bst A B i j N ≤ A i k + B k j)
  | 0 => .inl ⟨rfl, fun k h0 h1 => absurd h1 (by omega)⟩
  | N + 1 => by
    have ih := bst_spec (A := A) (B := B) (i := i) (j := j) N
    show ((if A i N ≥ 0 ∧ B N j ≥ 0 ∧ (bst A B i j N < 0 ∨ A i N + B N j < bst A B i j N) then A i N + B N j else bst A B i j N) = -1 ∧ _) ∨ (0 ≤ (if A i N ≥ 0 ∧ B N j ≥ 0 ∧ (bst A B i j N < 0 ∨ A i N + B N j < bst A B i j N) then A i N + B N j else bst A B i j N) ∧ (∃ k : Int, 0 ≤ k ∧ k < ((N + 1 : Nat) : Int) ∧ 0 ≤ A i k ∧ 0 ≤ B k j ∧ (if A i N ≥ 0 ∧ B N j ≥ 0 ∧ (bst A B i j N < 0 ∨ A i N + B N j < bst A B i j N) then A i N + B N j else bst A B i j N) = A i k + B k j) ∧ ∀ k : Int, 0 ≤ k → k < ((N + 1 : Nat) : Int) → 0 ≤ A i k → 0 ≤ B k j → (if A i N ≥ 0 ∧ B N j ≥ 0 ∧ (bst A B i j N < 0 ∨ A i N + B N j < bst A B i j N) then A i N + B N j else bst A B i j N) ≤ A i k + B k j)
    split
    · rename_i c
      refine .inr ⟨by omega, ⟨N, by omega, by omega, c.1, c.2.1, rfl⟩, fun k k0 k1 a b => ?_⟩
      by_cases e : k = N
      · subst e; exact Int.le_refl _
      · rcases ih with ih | ih
        · exact absurd ⟨a, b⟩ (ih.2 k k0 (by omega))
        · have := ih.2.2 k k0 (by omega) a b
          have := c.2.2; omega
    · rename_i c
      rcases ih with ih | ih
      · refine .inl ⟨ih.1, fun k k0 k1 q => ?_⟩
        by_cases e : k = N
        · subst e; exact c ⟨q.1, q.2, .inl (by rw [ih.1]; decide)⟩
        · exact ih.2 k k0 (by omega) q
      · obtain ⟨h1, ⟨k2, a1, a2, a3, a4, a5⟩, h3⟩ := ih
        refine .inr ⟨h1, ⟨k2, a1, by omega, a3, a4, a5⟩, fun k k0 k1 a b => ?_⟩
        by_cases e : k = N
        · subst e
          refine Classical.byContradiction fun q => c ⟨a, b, .inr (by omega)⟩
        · exact h3 k k0 (by omega) a b
structure TabL (n : Int) (E : LK → Prop) (Y : List Int) : Prop where
  one : ∀ k, E k → 0 ≤ clipF n Y k.lf k.lt ∧ clipF n Y k.lf k.lt ≤ k.lw
  all : ∀ x y, 0 ≤ clipF n Y x y → ∃ k, E k ∧ k.lf = x ∧ k.lt = y ∧ k.lw = clipF n Y x y
  lo : ∀ x y, -1 ≤ clipF n Y x y
theorem tabL {n : Int} {E : LK → Prop} {l : List LK} (hn : 1 ≤ n ∧ n ≤ 32) (hm : ∀ k, k ∈ l ↔ E k) (hk : ∀ k, E k → lkOk n k) : TabL n E (l.foldl (minSt n) (List.replicate (n * n).toNat (-1))) := by
  have hsq := sq_le hn
  have hc := (cell_all (l := l) (cell_0 (n := n)) (by rw [List.length_replicate]; omega) (fun k h => hk k ((hm k).1 h))).1
  rw [List.nil_append] at hc
  refine ⟨fun k h => ?_, fun x y h => ?_, fun x y => ?_⟩
  · have ho := hk k h
    unfold clipF
    rw [if_pos ⟨ho.1, ho.2.1⟩]
    rcases hc k.lf k.lt ho.1.1 ho.1.2 ho.2.1.1 ho.2.1.2 with q | q
    · exact absurd ⟨rfl, rfl⟩ (q.2 k ((hm k).2 h))
    · exact ⟨q.1, q.2.2 k ((hm k).2 h) rfl rfl⟩
  · unfold clipF at h ⊢
    split
    · rename_i c
      rw [if_pos c] at h
      rcases hc x y c.1.1 c.1.2 c.2.1 c.2.2 with q | q
      · rw [q.1] at h; exact absurd h (by decide)
      · obtain ⟨k, k1, k2, k3, k4⟩ := q.2.1
        exact ⟨k, (hm k).1 k1, k2, k3, k4⟩
    · rename_i c; rw [if_neg c] at h; exact absurd h (by decide)
  · unfold clipF
    split
    · rename_i c
      rcases hc x y c.1.1 c.1.2 c.2.1 c.2.2 with q | q
      · rw [q.1]; exact Int.le_refl _
      · have := q.1; omega
    · exact Int.le_refl _
theorem tabL_way {n : Int} {E : LK → Prop} {Y : List Int} (h : TabL n E Y) (hk : ∀ k, E k → lkOk n k) {i x w : Int} (i0 : 0 ≤ i ∧ i < n) (hw : LW E i x w) : (0 ≤ x ∧ x < n) ∧ 0 ≤ fw (clipF n Y) n.toNat i x ∧ fw (clipF n Y) n.toNat i x ≤ w := by
  induction hw with
  | nil => rw [fw_dg h.lo]; exact ⟨i0, Int.le_refl _, Int.le_refl _⟩
  | snoc k h1 h2 h3 ih =>
    subst h3
    have ho := hk k h2
    have e1 := h.one k h2
    have e2 := fw_le h.lo n.toNat k.lf k.lt e1.1
    have e3 := fw_tri h.lo n.toNat k.lf.toNat (by have := ho.1; omega) i k.lt
    rw [show ((k.lf.toNat : Nat) : Int) = k.lf from by have := ho.1; omega] at e3
    have e4 := e3 ih.2.1 e2.1
    exact ⟨ho.2.1, e4.1, by omega⟩
theorem tabL_fb {n B : Int} {E : LK → Prop} {Y : List Int} {r : Int → Int} (h : TabL n E Y) (hk : ∀ k, E k → lkOk n k ∧ k.lw ≤ B ∧ r k.lf < r k.lt) (hr : ∀ x, 0 ≤ r x ∧ r x ≤ 32) (hB : 0 ≤ B ∧ 32 * B ≤ 200000000000000000) (k : Nat) : FB (fw (clipF n Y) k) 200000000000000000 := by
  have := fw_fb (ρ := r) (B := B) h.lo (fun x y hxy => by
    obtain ⟨k, k1, k2, k3, k4⟩ := h.all x y hxy
    have := hk k k1
    rw [← k4, ← k2, ← k3]
    have h1 : 1 * B ≤ (r k.lt - r k.lf) * B := Int.mul_le_mul_of_nonneg_right (by omega) hB.1
    omega) hr hB.1 k
  exact ⟨this.lo, fun x y => Int.le_trans (this.hi x y) hB.2, this.dg⟩
structure WyB (n : Int) (t R : List Int) (K : List LK) (U D : List IL) : Prop where
  hn : 1 ≤ n ∧ n ≤ 32
  ok : ∀ k ∈ K, lkOk n k ∧ k.lw ≤ 4294967296000000
  rk : ∀ p : Int, 0 ≤ p → p < n → 0 ≤ gt R p ∧ gt R p < n
  ne : ∀ k ∈ K, gt R k.lf ≠ gt R k.lt
  up : ∀ k, k ∈ allP R K U n.toNat ↔ isUp R K k
  dn : ∀ k, k ∈ allP R K D n.toNat ↔ isDn R K k
  wit : Wit R K n
  tab : ∀ x y : Int, 0 ≤ x → x < n → 0 ≤ y → y < n → 0 ≤ tf n t x y → ∃ k ∈ K, k.lf = x ∧ k.lt = y ∧ k.lw ≤ tf n t x y
  mid : ∀ k ∈ K, tf n t k.lf k.lt = k.lw ∨ ∃ k1 ∈ K, ∃ k2 ∈ K, k1.lf = k.lf ∧ k1.lt = k2.lf ∧ k2.lt = k.lt ∧ k1.lw + k2.lw = k.lw ∧ gt R k1.lt < gt R k.lf ∧ gt R k1.lt < gt R k.lt
theorem pk_mem {n : Int} {R : List Int} {K : List LK} {U D : List IL} (hu : UD n R K U D K.length) (hRl : (R.length : Int) = n) (hr : ∀ p : Int, 0 ≤ p → p < n → 0 ≤ gt R p) (hne : ∀ k ∈ K, gt R k.lf ≠ gt R k.lt) (hok : ∀ k ∈ K, (0 ≤ k.lf ∧ k.lf < n) ∧ 0 ≤ k.lt ∧ k.lt < n) (k : LK) : (k ∈ allP R K U n.toNat ↔ isUp R K k) ∧ (k ∈ allP R K D n.toNat ↔ isDn R K k) := by
  have hpU : ∀ p : Int, 0 ≤ p → p < n → pkL R K U p = (upJ R K p K.length).map (gt K) := fun p p0 p1 => by
    have e := hu.u p p0 p1
    rw [Int.toNat_natCast] at e
    unfold pkL
    rw [rkAt_in p0 (by omega), if_neg (by have := hr p p0 p1; omega), e]
  have hpD : ∀ p : Int, 0 ≤ p → p < n → pkL R K D p = (dnJ R K p K.length).map (gt K) := fun p p0 p1 => by
    have e := hu.d p p0 p1
    rw [Int.toNat_natCast] at e
    unfold pkL
    rw [rkAt_in p0 (by omega), if_neg (by have := hr p p0 p1; omega), e]
  refine ⟨?_, ?_⟩
  · rw [mem_allP]
    constructor
    · rintro ⟨p, p0, p1, hk⟩
      rw [hpU p p0 (by omega)] at hk
      obtain ⟨x, hx, rfl⟩ := List.mem_map.1 hk
      obtain ⟨x0, x1, x2, x3⟩ := mem_up.1 hx
      exact ⟨gtM x0 x1, x2⟩
    · rintro ⟨hk, hlt⟩
      obtain ⟨x, x0, x1, rfl⟩ := memG hk
      have := hok _ hk
      refine ⟨(gt K x).lf, this.1.1, by omega, ?_⟩
      rw [hpU _ this.1.1 this.1.2]
      exact List.mem_map.2 ⟨x, mem_up.2 ⟨x0, x1, hlt, rfl⟩, rfl⟩
  · rw [mem_allP]
    constructor
    · rintro ⟨p, p0, p1, hk⟩
      rw [hpD p p0 (by omega)] at hk
      obtain ⟨x, hx, rfl⟩ := List.mem_map.1 hk
      obtain ⟨x0, x1, x2, x3⟩ := mem_dn.1 hx
      exact ⟨gtM x0 x1, by have := hne _ (gtM x0 x1); omega⟩
    · rintro ⟨hk, hlt⟩
      obtain ⟨x, x0, x1, rfl⟩ := memG hk
      have := hok _ hk
      refine ⟨(gt K x).lt, this.2.1, by omega, ?_⟩
      rw [hpD _ this.2.1 this.2.2]
      exact List.mem_map.2 ⟨x, mem_dn.2 ⟨x0, x1, by omega, rfl⟩, rfl⟩
end Go.SX
namespace Go.SX
open Go Go.RowKit
theorem wyb {n : Int} {t fi : List Int} {ed : List EG} {R : List Int} {K : List LK} {U D : List IL} (hT : TabOk n t) (hG : GOk n t fi ed) (h : LftP n fi ed R K U D) : WyB n t R K U D := by
  have hlo := lok hT hG h
  have hn := hT.pl
  have hF := rkf hT hG h
  have hrg := lk_rg hT hG h
  have hbd : ∀ k ∈ K, k.lw ≤ 4294967296000000 := by
    obtain ⟨⟨ps, f, G, hx, hl, hR, hK⟩, hu⟩ := h
    have ha := hx.at hT hG
    have hw := wBd_le (k := ps.length) (by omega)
    rw [hK]; exact fun k hk => Int.le_trans (ha.2.1 k hk) hw.2
  have hud := h.ud
  obtain ⟨ps, G, hs, hK, hR, hl, hnd, hr⟩ := lft_si hT hG h
  have hmem : ∀ k ∈ K, ∃ i : Int, 0 ≤ i ∧ i < (K.length : Int) ∧ gt K i = k := fun k hk => memG hk
  have hrk : ∀ k ∈ K, ((0 ≤ k.lf ∧ k.lf < n) ∧ 0 ≤ k.lt ∧ k.lt < n) ∧ 0 ≤ k.lw ∧ k.lf ≠ k.lt := fun k hk => by
    obtain ⟨i, i0, i1, rfl⟩ := hmem k hk
    have := hrg i i0 i1
    exact ⟨⟨this.1, this.2.1⟩, this.2.2.1.1, this.2.2.2⟩
  have hne : ∀ k ∈ K, gt R k.lf ≠ gt R k.lt := fun k hk e => by
    have := hrk k hk
    exact this.2.2 (hF.inj _ _ this.1.1.1 this.1.1.2 this.1.2.1 this.1.2.2 e)
  have hRl := hlo.2
  have hpm := pk_mem hud hRl (fun p p0 p1 => (hF.rng p p0 p1).1) hne (fun k hk => (hrk k hk).1)
  have hin : ∀ z : Int, 0 ≤ z → z < n → z ∈ ps := fun z z0 z1 => by
    have ho := rk_own hR hnd hr hl z z0 z1
    rw [← ho.2.2]
    exact gtM ho.1 (by omega)
  refine ⟨hn, fun k hk => ⟨⟨(hrk k hk).1.1, (hrk k hk).1.2, (hrk k hk).2.1⟩, hbd k hk⟩, fun p p0 p1 => hF.rng p p0 p1, hne, fun k => (hpm k).1, fun k => (hpm k).2, ?_, fun x y x0 x1 y0 y1 ht => ?_, fun k hk => ?_⟩
  · intro k1 hk1 k2 hk2 hv h1 h2 h3
    have r1 := hrk k1 hk1
    have r2 := hrk k2 hk2
    obtain ⟨a, b, e⟩ := List.append_of_mem (hin k1.lt r1.1.2.1 r1.1.2.2)
    have hva : k1.lt ∉ a := fun q => by
      rw [e, List.nodup_append] at hnd
      exact hnd.2.2 _ q _ (by simp) rfl
    have hia : k1.lf ∉ a := fun q => by
      have := rk_lt hR hnd hr hl e q hva r1.1.2.1 r1.1.2.2; omega
    have hua : k2.lt ∉ a := fun q => by
      have := rk_lt hR hnd hr hl e q hva r1.1.2.1 r1.1.2.2
      rw [← hv] at h2; omega
    obtain ⟨x, ex, lx⟩ := hs.sb.mn k1 (by rw [← hK]; exact hk1)
    obtain ⟨y, ey, ly⟩ := hs.sb.mn k2 (by rw [← hK]; exact hk2)
    rw [← hv] at ey
    have hiv : k1.lf ≠ k1.lt := r1.2.2
    have huv : k2.lt ≠ k1.lt := fun q => by rw [hv] at q; exact r2.2.2 q.symm
    obtain ⟨w, hw, hle⟩ := hs.wit a k1.lt b e k1.lf k2.lt x y r1.1.1.1 r1.1.1.2 r2.1.2.1 r2.1.2.2 hia hua hiv huv h3 ex ey
    refine ⟨w, hw.monoL (fun k hk => by rw [hK]; exact hk) (fun k hk ho => ?_), by omega⟩
    have rk_ := hrk k (by rw [hK]; exact hk)
    refine rk_lt (a := a ++ [k1.lt]) (b := b) hR hnd hr hl (by rw [e]; simp) (by simp) ?_ rk_.1.2.1 rk_.1.2.2
    simp only [List.mem_append, List.mem_singleton, not_or]
    exact ho
  · obtain ⟨w, hw, hle⟩ := hs.tab x y x0 x1 y0 y1 ht
    obtain ⟨k, hk, k1, k2, k3⟩ := hs.sb.at x0 hw
    exact ⟨k, by rw [hK]; exact hk, k1, k2, by rw [k3]; exact hle⟩
  · rcases hs.mid k (by rw [← hK]; exact hk) with q | ⟨q0, q1, ⟨a, b, e, m1, m2, m3⟩, u, v, e1, e2, e3⟩
    · exact .inl q.2
    · have rk_ := hrk k hk
      obtain ⟨j1, g1, f1, t1, w1⟩ := hs.sb.at rk_.1.1.1 e1
      obtain ⟨j2, g2, f2, t2, w2⟩ := hs.sb.at q0 e2
      refine .inr ⟨j1, by rw [hK]; exact g1, j2, by rw [hK]; exact g2, f1, by rw [t1, f2], t2, by rw [w1, w2]; exact e3, ?_, ?_⟩
      · rw [t1]; exact rk_lt hR hnd hr hl e m1 m2 rk_.1.1.1 rk_.1.1.2
      · rw [t1]; exact rk_lt hR hnd hr hl e m1 m3 rk_.1.2.1 rk_.1.2.2
theorem wyk {n : Int} {t R : List Int} {K : List LK} {U D : List IL} (h : WyB n t R K U D) : WyK n R K U D ∧ TabL n (isUp R K) (upT n R K U) ∧ TabL n (isDn R K) (upT n R K D) := by
  have hn := h.hn
  have tu := tabL (E := isUp R K) hn h.up (fun k hk => (h.ok k hk.1).1)
  have td := tabL (E := isDn R K) hn h.dn (fun k hk => (h.ok k hk.1).1)
  have hrg : ∀ x : Int, 0 ≤ (if 0 ≤ x ∧ x < n then gt R x else 0) ∧ (if 0 ≤ x ∧ x < n then gt R x else 0) ≤ 32 := fun x => by
    split
    · rename_i c; have := h.rk x c.1 c.2; omega
    · omega
  have hrg2 : ∀ x : Int, 0 ≤ (if 0 ≤ x ∧ x < n then n - gt R x else 0) ∧ (if 0 ≤ x ∧ x < n then n - gt R x else 0) ≤ 32 := fun x => by
    split
    · rename_i c; have := h.rk x c.1 c.2; omega
    · omega
  refine ⟨⟨fun p p0 p1 k hk => (h.ok k ((h.up k).1 (mem_allP.2 ⟨p, p0, by omega, hk⟩)).1).1, fun p p0 p1 k hk => (h.ok k ((h.dn k).1 (mem_allP.2 ⟨p, p0, by omega, hk⟩)).1).1, fun k _ => ?_, fun k _ => ?_⟩, tu, td⟩
  · exact tabL_fb (B := 4294967296000000) tu (fun k hk => ⟨(h.ok k hk.1).1, (h.ok k hk.1).2, by
      have o := (h.ok k hk.1).1
      show (if 0 ≤ k.lf ∧ k.lf < n then gt R k.lf else 0) < (if 0 ≤ k.lt ∧ k.lt < n then gt R k.lt else 0)
      rw [if_pos o.1, if_pos o.2.1]; exact hk.2⟩) hrg ⟨by decide, by decide⟩ k
  · exact tabL_fb (B := 4294967296000000) td (fun k hk => ⟨(h.ok k hk.1).1, (h.ok k hk.1).2, by
      have o := (h.ok k hk.1).1
      show (if 0 ≤ k.lf ∧ k.lf < n then n - gt R k.lf else 0) < (if 0 ≤ k.lt ∧ k.lt < n then n - gt R k.lt else 0)
      rw [if_pos o.1, if_pos o.2.1]; have := hk.2; omega⟩) hrg2 ⟨by decide, by decide⟩ k
theorem ways_k {n : Int} {t fi : List Int} {ed : List EG} {R : List Int} {K : List LK} {U D : List IL} (hT : TabOk n t) (hG : GOk n t fi ed) (h : LftP n fi ed R K U D) : WyK n R K U D := (wyk (wyb hT hG h)).1
theorem ways_eq {n : Int} {t R : List Int} {K : List LK} {U D : List IL} (h : WyB n t R K U D) (hlo : ∀ x y, -1 ≤ tf n t x y) {i j : Int} (i0 : 0 ≤ i) (i1 : i < n) (j0 : 0 ≤ j) (j1 : j < n) : bst (fw (clipF n (upT n R K U)) n.toNat) (fw (clipF n (upT n R K D)) n.toNat) i j n.toNat = fw (tf n t) n.toNat i j := by
  have hn := h.hn
  obtain ⟨-, tu, td⟩ := wyk h
  have tri : ∀ x q y : Int, 0 ≤ q → q < n → 0 ≤ fw (tf n t) n.toNat x q → 0 ≤ fw (tf n t) n.toNat q y → 0 ≤ fw (tf n t) n.toNat x y ∧ fw (tf n t) n.toNat x y ≤ fw (tf n t) n.toNat x q + fw (tf n t) n.toNat q y := fun x q y q0 q1 => by
    have := fw_tri hlo n.toNat q.toNat (by omega) x y
    rw [show ((q.toNat : Nat) : Int) = q from by omega] at this
    exact this
  have hlink : ∀ m : Nat, ∀ k ∈ K, gt R k.lf < m ∨ gt R k.lt < m → 0 ≤ fw (tf n t) n.toNat k.lf k.lt ∧ fw (tf n t) n.toNat k.lf k.lt ≤ k.lw := fun m => by
    induction m with
    | zero =>
      intro k hk q
      have o := (h.ok k hk).1
      have a := h.rk _ o.1.1 o.1.2
      have b := h.rk _ o.2.1.1 o.2.1.2
      omega
    | succ m ih =>
      intro k hk q
      have o := (h.ok k hk).1
      rcases h.mid k hk with e | ⟨k1, g1, k2, g2, e1, e2, e3, e4, r1, r2⟩
      · have := fw_le hlo n.toNat k.lf k.lt (by rw [e]; exact o.2.2)
        rw [e] at this; exact this
      · have a := ih k1 g1 (.inr (by omega))
        have b := ih k2 g2 (.inl (by rw [← e2]; omega))
        have o1 := (h.ok k1 g1).1
        rw [e1] at a
        rw [e3, ← e2] at b
        have c := tri k.lf k1.lt k.lt o1.2.1.1 o1.2.1.2 a.1 b.1
        exact ⟨c.1, by omega⟩
  have hlink : ∀ k ∈ K, 0 ≤ fw (tf n t) n.toNat k.lf k.lt ∧ fw (tf n t) n.toNat k.lf k.lt ≤ k.lw := fun k hk => by
    have o := (h.ok k hk).1
    have a := h.rk _ o.1.1 o.1.2
    exact hlink (gt R k.lf + 1).toNat k hk (.inl (by omega))
  have sound : ∀ {E : LK → Prop} {Y : List Int}, TabL n E Y → (∀ k, E k → k ∈ K) → ∀ x y : Int, 0 ≤ x → x < n → 0 ≤ y → y < n → 0 ≤ fw (clipF n Y) n.toNat x y → 0 ≤ fw (tf n t) n.toNat x y ∧ fw (tf n t) n.toNat x y ≤ fw (clipF n Y) n.toNat x y := fun {E Y} hY hE x y x0 x1 y0 y1 hxy =>
    (fw_sound (n := n) (Pr := fun x y w => ((0 ≤ x ∧ x < n) ∧ 0 ≤ y ∧ y < n) ∧ 0 ≤ fw (tf n t) n.toNat x y ∧ fw (tf n t) n.toNat x y ≤ w) (fun x x0 x1 => ⟨⟨⟨x0, x1⟩, x0, x1⟩, by rw [fw_dg hlo]; exact Int.le_refl _, by rw [fw_dg hlo]; exact Int.le_refl _⟩) (fun x y x0 x1 y0 y1 hc => by
      obtain ⟨k, k1, k2, k3, k4⟩ := hY.all x y hc
      have := hlink k (hE k k1)
      rw [k2, k3, k4] at this
      exact ⟨⟨⟨x0, x1⟩, y0, y1⟩, this⟩) (fun x q y a b ⟨⟨p1, p2⟩, p3, p4⟩ ⟨⟨q1, q2⟩, q3, q4⟩ => by
      have c := tri x q y q1.1 q1.2 p3 q3
      exact ⟨⟨p1, q2⟩, c.1, by omega⟩) n.toNat (by omega) x y x0 x1 y0 y1 hxy).2
  have su := sound tu (fun k hk => hk.1)
  have sd := sound td (fun k hk => hk.1)
  have complete : 0 ≤ fw (tf n t) n.toNat i j → ∃ k : Int, (0 ≤ k ∧ k < n) ∧ 0 ≤ fw (clipF n (upT n R K U)) n.toNat i k ∧ 0 ≤ fw (clipF n (upT n R K D)) n.toNat k j ∧ fw (clipF n (upT n R K U)) n.toNat i k + fw (clipF n (upT n R K D)) n.toNat k j ≤ fw (tf n t) n.toNat i j := fun hd => by
    obtain ⟨w', hle, hp⟩ := fw_sound (n := n) (Pr := fun x y w => ∃ w', w' ≤ w ∧ LPath K (fun _ => True) x y w') (fun x _ _ => ⟨0, Int.le_refl _, .nil⟩) (fun x y x0 x1 y0 y1 hc => by
      obtain ⟨k, k1, k2, k3, k4⟩ := h.tab x y x0 x1 y0 y1 hc
      refine ⟨0 + k.lw, by omega, ?_⟩
      have : LPath K (fun _ => True) x k.lt (0 + k.lw) := .snoc k .nil k1 k2 trivial
      rw [k3] at this; exact this) (fun x q y a b ⟨w1, l1, p1⟩ ⟨w2, l2, p2⟩ => ⟨w1 + w2, by omega, p1.trans p2⟩) n.toNat (by omega) i j i0 i1 j0 j1 hd
    obtain ⟨k, w1, w2, u1, u2, u3⟩ := ud_all h.wit (fun k hk => (h.ok k hk).1.2.2) h.ne (fun k hk => by
      have o := (h.ok k hk).1
      have a := h.rk _ o.1.1 o.1.2
      have b := h.rk _ o.2.1.1 o.2.1.2
      omega) hp
    have a := tabL_way tu (fun k hk => (h.ok k hk.1).1) ⟨i0, i1⟩ u1
    have b := tabL_way td (fun k hk => (h.ok k hk.1).1) a.1 u2
    exact ⟨k, a.1, a.2.1, b.2.1, by omega⟩
  have hDlo := fw_lo hlo n.toNat i j
  rcases bst_spec (A := fw (clipF n (upT n R K U)) n.toNat) (B := fw (clipF n (upT n R K D)) n.toNat) (i := i) (j := j) n.toNat with hb | ⟨hb, ⟨k, k0, k1, k2, k3, k4⟩, hmin⟩
  · rw [hb.1]
    refine Classical.byContradiction fun q => ?_
    obtain ⟨k, hk, a, b, _⟩ := complete (by omega)
    exact hb.2 k hk.1 (by omega) ⟨a, b⟩
  · have a := su i k i0 i1 k0 (by omega) k2
    have b := sd k j k0 (by omega) j0 j1 k3
    have c := tri i k j k0 (by omega) a.1 b.1
    obtain ⟨k', hk', a', b', c'⟩ := complete c.1
    have := hmin k' hk'.1 (by omega) a' b'
    omega
end Go.SX
namespace Go.SX
open Go Go.RowKit
inductive EW (E : Int → Int → Int → Prop) (s : Int) : Int → Int → Prop
  | nil : EW E s s 0
  | snoc {x w y v : Int} : EW E s x w → E x y v → EW E s y (w + v)
structure DkI (E : Int → Int → Int → Prop) (s : Int) (D K : Int → Option Int) : Prop where
  src : (D s = some 0) ∨ (D s = none ∧ ∃ o, K s = some o ∧ o ≤ 0)
  dn : ∀ x o, D x = some o → EW E s x o ∧ ∀ w, EW E s x w → o ≤ w
  kw : ∀ x o, K x = some o → D x = none ∧ EW E s x o
  out : ∀ p o x v, D p = some o → E p x v → (∃ o', D x = some o') ∨ ∃ o', K x = some o' ∧ o' ≤ o + v
structure DkS (E : Int → Int → Int → Prop) (D K : Int → Option Int) (p d : Int) (K2 : Int → Option Int) : Prop where
  lst : leastK K p d
  only : ∀ x o, K2 x = some o → x ≠ p ∧ (K x = some o ∨ (D x = none ∧ ∃ v, E p x v ∧ o = d + v))
  keep : ∀ x o, x ≠ p → K x = some o → ∃ o', K2 x = some o' ∧ o' ≤ o
  new : ∀ x v, E p x v → x ≠ p → D x = none → ∃ o', K2 x = some o' ∧ o' ≤ d + v
theorem dk_near {E : Int → Int → Int → Prop} {s : Int} {D K : Int → Option Int} (hE : ∀ x y v, E x y v → 0 ≤ v) (h : DkI E s D K) {x w : Int} (hw : EW E s x w) : (∃ o, D x = some o ∧ o ≤ w) ∨ ∃ y o, K y = some o ∧ o ≤ w := by
  induction hw with
  | nil =>
    rcases h.src with q | ⟨_, o, q, l⟩
    · exact .inl ⟨0, q, Int.le_refl _⟩
    · exact .inr ⟨s, o, q, l⟩
  | @snoc x w y v h1 h2 ih =>
    have hv := hE x y v h2
    rcases ih with ⟨o, q, l⟩ | ⟨z, o, q, l⟩
    · rcases h.out x o y v q h2 with ⟨o', q'⟩ | ⟨o', q', l'⟩
      · exact .inl ⟨o', q', (h.dn y o' q').2 _ (.snoc h1 h2)⟩
      · exact .inr ⟨y, o', q', by omega⟩
    · exact .inr ⟨z, o, q, by omega⟩
theorem dk_step {E : Int → Int → Int → Prop} {s : Int} {D K K2 : Int → Option Int} {p d : Int} (hE : ∀ x y v, E x y v → 0 ≤ v) (h : DkI E s D K) (hs : DkS E D K p d K2) : DkI E s (setK D p d) K2 := by
  have hp := h.kw p d hs.lst.1
  have hleast : ∀ w, EW E s p w → d ≤ w := fun w hw => by
    rcases dk_near hE h hw with ⟨o, q, l⟩ | ⟨y, o, q, l⟩
    · rw [hp.1] at q; cases q
    · have := hs.lst.2 y o q; omega
  have hset : ∀ x, x ≠ p → setK D p d x = D x := fun x e => if_neg e
  have hsp : setK D p d p = some d := if_pos rfl
  refine ⟨?_, fun x o hx => ?_, fun x o hx => ?_, fun q o x v hq he => ?_⟩
  · by_cases e : s = p
    · subst e
      left
      have h1 := hleast 0 .nil
      rcases h.src with q | ⟨_, o, q, l⟩
      · rw [hp.1] at q; cases q
      · have h2 := (h.kw s o q).2
        rw [hs.lst.1] at q; injection q with q
        have hnn : ∀ x w, EW E s x w → 0 ≤ w := fun x w hw => by
          induction hw with
          | nil => exact Int.le_refl _
          | snoc a b ih => have := hE _ _ _ b; omega
        have := hnn s d hp.2
        rw [hsp]; congr 1; omega
    · rcases h.src with q | ⟨q0, o, q, l⟩
      · left; rw [hset s e]; exact q
      · obtain ⟨o', a, b⟩ := hs.keep s o e q
        right; exact ⟨by rw [hset s e]; exact q0, o', a, by omega⟩
  · by_cases e : x = p
    · subst e; rw [hsp] at hx; injection hx with hx; subst hx; exact ⟨hp.2, hleast⟩
    · rw [hset x e] at hx; exact h.dn x o hx
  · obtain ⟨e, a | ⟨a, v, b, c⟩⟩ := hs.only x o hx
    · rw [hset x e]; exact h.kw x o a
    · rw [hset x e, c]; exact ⟨a, .snoc hp.2 b⟩
  · by_cases ex : x = p
    · subst ex; exact .inl ⟨d, hsp⟩
    · by_cases eq : q = p
      · subst eq
        rw [hsp] at hq; injection hq with hq; subst hq
        cases hD : D x with
        | some o' => exact .inl ⟨o', by rw [hset x ex]; exact hD⟩
        | none => exact .inr (hs.new x v he ex hD)
      · rw [hset q eq] at hq
        rcases h.out q o x v hq he with ⟨o', a⟩ | ⟨o', a, b⟩
        · exact .inl ⟨o', by rw [hset x ex]; exact a⟩
        · obtain ⟨o2, a2, b2⟩ := hs.keep x o' ex a
          exact .inr ⟨o2, a2, by omega⟩
theorem dk_end {E : Int → Int → Int → Prop} {s : Int} {D K : Int → Option Int} (hE : ∀ x y v, E x y v → 0 ≤ v) (h : DkI E s D K) (hK : ∀ x, K x = none) : ∀ x, (∀ o, D x = some o → EW E s x o ∧ ∀ w, EW E s x w → o ≤ w) ∧ (D x = none → ∀ w, ¬ EW E s x w) := fun x => ⟨h.dn x, fun q w hw => by
  rcases dk_near hE h hw with ⟨o, a, _⟩ | ⟨y, o, a, _⟩
  · rw [q] at a; cases a
  · rw [hK] at a; cases a⟩
theorem dk_0 {E : Int → Int → Int → Prop} {s : Int} : DkI E s K0 (putK K0 s 0) := by
  have e : ∀ x o, putK K0 s 0 x = some o → x = s ∧ o = 0 := fun x o h => by
    unfold putK at h
    split at h
    · rename_i c; injection h with h; exact ⟨c, h.symm⟩
    · cases h
  refine ⟨.inr ⟨rfl, 0, if_pos rfl, Int.le_refl _⟩, fun x o h => (by cases h), fun x o h => ?_, fun p o x v h => (by cases h)⟩
  obtain ⟨rfl, rfl⟩ := e x o h
  exact ⟨rfl, .nil⟩
end Go.SX
namespace Go.SX
open Go Go.RowKit
structure LA where
  ld : Int
  af : Int
  ax : Int
  aw : Int
  am : Int
  deriving DecidableEq, Inhabited
def LA.k (a : LA) : LK := ⟨a.af, a.ax, a.aw, a.am⟩
def laV (a : LA) : Value := .agg #[.int .i64 a.ld, .int .i64 a.af, .int .i64 a.ax, .int .i64 a.aw, .int .i64 a.am]
def dLA : LA := ⟨0, 0, 0, 0, 0⟩
def laO (M : List (Int × LA)) : Int → Option LA := fun x => if mhas M x = true then some (mget M x dLA) else none
def laD (M : List (Int × LA)) : Int → Option Int := fun x => (laO M x).map LA.ld
theorem lo_set {M : List (Int × LA)} {x y : Int} {a : LA} : laO (mset M x a) y = if y = x then some a else laO M y := by
  unfold laO
  rw [mhas_set, mget_set]
  by_cases e : x = y
  · subst e; simp
  · rw [if_neg e, if_neg (Ne.symm e)]; simp [e]
theorem laD_set {M : List (Int × LA)} {x : Int} {a : LA} : laD (mset M x a) = setK (laD M) x a.ld := by
  funext y
  unfold laD setK
  rw [lo_set]
  split <;> rfl
theorem lo_none {M : List (Int × LA)} {x : Int} : laO M x = none ↔ mhas M x = false := by
  unfold laO; cases mhas M x <;> simp
theorem laD_none {M : List (Int × LA)} {x : Int} : laD M x = none ↔ mhas M x = false := by
  unfold laD; rw [Option.map_eq_none_iff, lo_none]
theorem lo_has {M : List (Int × LA)} {x : Int} (h : mhas M x = true) : laO M x = some (mget M x dLA) := if_pos h
theorem lo_mem {M : List (Int × LA)} {x : Int} {a : LA} (hn : (M.map Prod.fst).Nodup) (h : (x, a) ∈ M) : laO M x = some a := by
  rw [lo_has (mhas_iff.2 ⟨a, h⟩), mget_mem hn h]
theorem lo_in {M : List (Int × LA)} {x : Int} {a : LA} (h : laO M x = some a) : mhas M x = true ∧ mget M x dLA = a := by
  unfold laO at h; split at h
  · rename_i c; injection h with h; exact ⟨c, h⟩
  · cases h
structure SD (n B : Int) (rk : Int → Int) (Lk : Int → List LK) (nx pv : LK → Int) : Prop where
  hn : 1 ≤ n ∧ n ≤ 32
  hB : 0 ≤ B ∧ 33 * B ≤ 200000000000000000
  ok : ∀ p : Int, 0 ≤ p → p < n → ∀ k ∈ Lk p, pv k = p ∧ (0 ≤ nx k ∧ nx k < n) ∧ (0 ≤ k.lw ∧ k.lw ≤ B) ∧ rk p < rk (nx k)
  rr : ∀ p : Int, 0 ≤ p → p < n → 0 ≤ rk p ∧ rk p ≤ 32
  ll : ∀ p : Int, 0 ≤ p → p < n → (Lk p).length ≤ 100000
def EL (n : Int) (Lk : Int → List LK) (nx : LK → Int) (p x v : Int) : Prop := (0 ≤ p ∧ p < n) ∧ ∃ k ∈ Lk p, nx k = x ∧ k.lw = v
def LGd (n : Int) (Lk : Int → List LK) (nx pv : LK → Int) (D : Int → Option Int) (s x : Int) (a : LA) : Prop := (x = s ∧ a.ld = 0 ∧ a.af = -1) ∨ ((0 ≤ pv a.k ∧ pv a.k < n) ∧ a.k ∈ Lk (pv a.k) ∧ nx a.k = x ∧ ∃ o, D (pv a.k) = some o ∧ a.ld = o + a.aw)
section
variable {n B : Int} {rk : Int → Int} {Lk : Int → List LK} {nx pv : LK → Int}
theorem SD.nn (h : SD n B rk Lk nx pv) : ∀ x y v, EL n Lk nx x y v → 0 ≤ v := fun x y v ⟨h1, k, hk, _, e⟩ => by have := (h.ok x h1.1 h1.2 k hk).2.2.1.1; omega
theorem SD.bd (h : SD n B rk Lk nx pv) {s x w : Int} (hs : 0 ≤ s ∧ s < n) (hw : EW (EL n Lk nx) s x w) : (0 ≤ x ∧ x < n) ∧ (0 ≤ w ∧ w ≤ (rk x - rk s) * B) ∧ rk s ≤ rk x := by
  induction hw with
  | nil => rw [Int.sub_self, Int.zero_mul]; exact ⟨hs, ⟨Int.le_refl _, Int.le_refl _⟩, Int.le_refl _⟩
  | @snoc x w y v h1 h2 ih =>
    obtain ⟨hx, k, hk, e1, e2⟩ := h2
    have ho := h.ok x hx.1 hx.2 k hk
    subst e1 e2
    have h3 : (rk x - rk s + 1) * B ≤ (rk (nx k) - rk s) * B := Int.mul_le_mul_of_nonneg_right (by omega) h.hB.1
    rw [Int.add_mul, Int.one_mul] at h3
    exact ⟨ho.2.1, ⟨by omega, by omega⟩, by omega⟩
theorem SD.bd2 (h : SD n B rk Lk nx pv) {s x w : Int} (hs : 0 ≤ s ∧ s < n) (hw : EW (EL n Lk nx) s x w) : (0 ≤ x ∧ x < n) ∧ 0 ≤ w ∧ w ≤ 32 * B := by
  have h1 := h.bd hs hw
  have h2 : (rk x - rk s) * B ≤ 32 * B := Int.mul_le_mul_of_nonneg_right (by have := h.rr x h1.1.1 h1.1.2; have := h.rr s hs.1 hs.2; omega) h.hB.1
  exact ⟨h1.1, h1.2.1.1, by omega⟩
theorem LGd.mono {D D' : Int → Option Int} {s x : Int} {a : LA} (h : LGd n Lk nx pv D s x a) (hD : ∀ y o, D y = some o → D' y = some o) : LGd n Lk nx pv D' s x a := by
  rcases h with h | ⟨h1, h2, h3, o, h4, h5⟩
  · exact .inl h
  · exact .inr ⟨h1, h2, h3, o, hD _ _ h4, h5⟩
structure SrI (n : Int) (Lk : Int → List LK) (nx pv : LK → Int) (s : Int) (l : List EN) (m : List (Int × Int)) (M F : List (Int × LA)) : Prop where
  qq : QQ l m
  nd : (M.map Prod.fst).Nodup
  nf : (F.map Prod.fst).Nodup
  dk : DkI (EL n Lk nx) s (laD M) (kq l)
  lab : ∀ x a, laO M x = some a → LGd n Lk nx pv (laD M) s x a
  fnd : ∀ x o, kq l x = some o → ∃ a, laO F x = some a ∧ a.ld = o ∧ LGd n Lk nx pv (laD M) s x a
structure SrJ (n : Int) (Lk : Int → List LK) (nx pv : LK → Int) (s p d : Int) (a : LA) (k0 : Int → Option Int) (M : List (Int × LA)) (i : Nat) (l : List EN) (m : List (Int × Int)) (F : List (Int × LA)) : Prop where
  qq : QQ l m
  nd : (M.map Prod.fst).Nodup
  nf : (F.map Prod.fst).Nodup
  dk : DkI (EL n Lk nx) s (laD M) k0
  lst : leastK k0 p d
  lab : ∀ x a, laO M x = some a → LGd n Lk nx pv (laD M) s x a
  la : a.ld = d ∧ LGd n Lk nx pv (laD M) s p a
  only : ∀ x o, kq l x = some o → x ≠ p ∧ (k0 x = some o ∨ (laD M x = none ∧ ∃ v, EL n Lk nx p x v ∧ o = d + v))
  keep : ∀ x o, x ≠ p → k0 x = some o → ∃ o', kq l x = some o' ∧ o' ≤ o
  new : ∀ k ∈ (Lk p).take i, nx k ≠ p → laD M (nx k) = none → ∃ o', kq l (nx k) = some o' ∧ o' ≤ d + k.lw
  fnd : ∀ x o, kq l x = some o → ∃ b, laO F x = some b ∧ b.ld = o ∧ LGd n Lk nx pv (laD (mset M p a)) s x b
theorem SrI.len (h0 : SD n B rk Lk nx pv) {s : Int} {l : List EN} {m : List (Int × Int)} {M F : List (Int × LA)} (hs : 0 ≤ s ∧ s < n) (h : SrI n Lk nx pv s l m M F) : (l.length : Int) ≤ n ∧ (M.length : Int) ≤ n := by
  have hn := h0.hn
  refine ⟨kq_len h.qq.qi (fun x k hk => (h0.bd2 hs (h.dk.kw x k hk).2).1) (by omega), ?_⟩
  have := nodup_le h.nd (fun x hx => by
    obtain ⟨⟨y, a⟩, hm, rfl⟩ := List.mem_map.1 hx
    have e := lo_mem h.nd hm
    exact (h0.bd2 hs (h.dk.dn y a.ld (by unfold laD; rw [e]; rfl)).1).1) (by omega)
  rwa [List.length_map] at this
theorem sr_0 {s : Int} {l : List EN} {m : List (Int × Int)} {F : List (Int × LA)} {a : LA} (hq : QQ l m) (hk : kq l = putK (kq []) s 0) (ha : a.ld = 0 ∧ a.af = -1) (hF : (F.map Prod.fst).Nodup ∧ laO F s = some a) : SrI n Lk nx pv s l m [] F := by
  have e0 : kq l = putK K0 s 0 := hk
  have hd : DkI (EL n Lk nx) s (laD []) (kq l) := by rw [e0]; exact dk_0
  refine ⟨hq, by simp, hF.1, hd, fun x a h => by simp [laO, mhas] at h, fun x o h => ?_⟩
  rw [e0] at h
  unfold putK at h
  split at h
  · rename_i e; subst e; injection h with h; simp [K0] at h
    exact ⟨a, hF.2, by omega, .inl ⟨rfl, ha.1, ha.2⟩⟩
  · cases h
theorem sr_take (h0 : SD n B rk Lk nx pv) {s p d : Int} {l l2 : List EN} {m m2 : List (Int × Int)} {M F : List (Int × LA)} (hs : 0 ≤ s ∧ s < n) (h : SrI n Lk nx pv s l m M F) (hl : leastK (kq l) p d) (hk : kq l2 = delK (kq l) p) (hq : QQ l2 m2) : (mhas F p = true ∧ (mget F p dLA).ld = d) ∧ mhas M p = false ∧ (0 ≤ p ∧ p < n) ∧ (0 ≤ d ∧ d ≤ 32 * B) ∧ (mset M p (mget F p dLA)).length = M.length + 1 ∧ SrJ n Lk nx pv s p d (mget F p dLA) (kq l) M 0 l2 m2 F := by
  have h1 := h.dk.kw p d hl.1
  have hb := h0.bd2 hs h1.2
  obtain ⟨a, ha, hd, hg⟩ := h.fnd p d hl.1
  obtain ⟨hf, rfl⟩ := lo_in ha
  have hMp := laD_none.1 h1.1
  have ext : ∀ y o, laD M y = some o → laD (mset M p (mget F p dLA)) y = some o := fun y o e => by
    rw [laD_set]; unfold setK
    split
    · rename_i c; subst c; rw [h1.1] at e; cases e
    · exact e
  refine ⟨⟨hf, hd⟩, hMp, hb.1, hb.2, by unfold mset; rw [if_neg (by rw [hMp]; decide)]; simp, hq, h.nd, h.nf, h.dk, hl, h.lab, ⟨hd, hg⟩, fun x o e => ?_, fun x o hx e => ⟨o, ?_, Int.le_refl _⟩, fun k hk => by simp at hk, fun x o e => ?_⟩
  · rw [hk] at e; unfold delK at e
    split at e
    · cases e
    · rename_i c; exact ⟨c, .inl e⟩
  · rw [hk]; unfold delK; rw [if_neg hx]; exact e
  · rw [hk] at e; unfold delK at e
    split at e
    · cases e
    · obtain ⟨b, q1, q2, q3⟩ := h.fnd x o e
      exact ⟨b, q1, q2, q3.mono ext⟩
theorem SrJ.bd (h0 : SD n B rk Lk nx pv) {s p d : Int} {a : LA} {k0 : Int → Option Int} {M F : List (Int × LA)} {i : Nat} {l : List EN} {m : List (Int × Int)} (hs : 0 ≤ s ∧ s < n) (hp : 0 ≤ p ∧ p < n) (h : SrJ n Lk nx pv s p d a k0 M i l m F) : (l.length : Int) ≤ n := kq_len h.qq.qi (fun x o e => by
  rcases (h.only x o e).2 with q | ⟨_, v, q, _⟩
  · exact (h0.bd2 hs (h.dk.kw x o q).2).1
  · obtain ⟨_, k, hk, rfl, _⟩ := q; exact (h0.ok p hp.1 hp.2 k hk).2.1) (by have := h0.hn; omega)
theorem srj_new {L : List LK} {i : Nat} {k : LK} (hk : L[i]? = some k) {Φ : LK → Prop} (h : ∀ k ∈ L.take i, Φ k) (hi : Φ k) : ∀ k ∈ L.take (i + 1), Φ k := fun x hx => by
  rw [List.take_add_one, hk] at hx
  rcases List.mem_append.1 hx with hx | hx
  · exact h x hx
  · simp at hx; subst hx; exact hi
theorem srj_done {s p d : Int} {a k : LA} {y : LK} {k0 : Int → Option Int} {M F : List (Int × LA)} {i : Nat} {l : List EN} {m : List (Int × Int)} (h : SrJ n Lk nx pv s p d a k0 M i l m F) (hy : (Lk p)[i]? = some y) (hc : mhas (mset M p a) (nx y) = true) : SrJ n Lk nx pv s p d a k0 M (i + 1) l m F := by
  obtain ⟨a1, a2, a3, a4, a5, a6, a7, a8, a9, a10, a11⟩ := h
  refine ⟨a1, a2, a3, a4, a5, a6, a7, a8, a9, srj_new hy a10 fun e q => ?_, a11⟩
  rw [mhas_set] at hc
  rw [laD_none.1 q] at hc
  simp at hc; exact absurd hc.symm e
theorem srj_same {s p d : Int} {a : LA} {y : LK} {k0 : Int → Option Int} {M F : List (Int × LA)} {i : Nat} {l l2 : List EN} {m m2 : List (Int × Int)} (h : SrJ n Lk nx pv s p d a k0 M i l m F) (hy : (Lk p)[i]? = some y) (hc : ¬ ∀ o, kq l (nx y) = some o → d + y.lw < o) (hq : QQ l2 m2) (hk : kq l2 = putK (kq l) (nx y) (d + y.lw)) : SrJ n Lk nx pv s p d a k0 M (i + 1) l2 m2 F := by
  have hh : ∃ o, kq l (nx y) = some o ∧ o ≤ d + y.lw := Classical.byContradiction fun c => hc fun o e => by
    refine Classical.byContradiction fun c2 => c ⟨o, e, by omega⟩
  obtain ⟨o, e, le⟩ := hh
  have hk : kq l2 = kq l := by
    rw [hk]; funext z; unfold putK
    split
    · rename_i c; subst c; rw [e]; show some (if _ then _ else _) = _; rw [if_neg (by omega)]
    · rfl
  obtain ⟨a1, a2, a3, a4, a5, a6, a7, a8, a9, a10, a11⟩ := h
  rw [← hk] at a8 a9 a10 a11 e
  exact ⟨hq, a2, a3, a4, a5, a6, a7, a8, a9, srj_new hy a10 fun _ _ => ⟨o, e, le⟩, a11⟩
theorem srj_yes (h0 : SD n B rk Lk nx pv) {s p d : Int} {a b : LA} {y : LK} {k0 : Int → Option Int} {M F : List (Int × LA)} {i : Nat} {l l2 : List EN} {m m2 : List (Int × Int)} (hp : 0 ≤ p ∧ p < n) (h : SrJ n Lk nx pv s p d a k0 M i l m F) (hy : (Lk p)[i]? = some y) (hn : mhas (mset M p a) (nx y) = false) (hc : ∀ o, kq l (nx y) = some o → d + y.lw < o) (hq : QQ l2 m2) (hk : kq l2 = putK (kq l) (nx y) (d + y.lw)) (hb : b = ⟨d + y.lw, y.lf, y.lt, y.lw, y.lm⟩) : SrJ n Lk nx pv s p d a k0 M (i + 1) l2 m2 (mset F (nx y) b) := by
  have hmem : y ∈ Lk p := List.mem_of_getElem? hy
  have ho := h0.ok p hp.1 hp.2 y hmem
  have hbk : b.k = y := by subst hb; rfl
  have hbd : b.ld = d + y.lw := by subst hb; rfl
  have hbw : b.aw = y.lw := by subst hb; rfl
  rw [mhas_set, Bool.or_eq_false_iff] at hn
  have hne : nx y ≠ p := fun e => of_decide_eq_false hn.2 e.symm
  have hDn : laD M (nx y) = none := laD_none.2 hn.1
  have hat : kq l2 (nx y) = some (d + y.lw) := by
    rw [hk]; unfold putK; rw [if_pos rfl]
    cases e : kq l (nx y) with
    | none => rfl
    | some o => show some (if _ then _ else _) = _; rw [if_pos (hc o e)]
  have hother : ∀ x, x ≠ nx y → kq l2 x = kq l x := fun x e => by rw [hk]; unfold putK; rw [if_neg e]
  have low : ∀ x o, kq l x = some o → ∃ o', kq l2 x = some o' ∧ o' ≤ o := fun x o e => by
    by_cases c : x = nx y
    · subst c; exact ⟨_, hat, by have := hc o e; omega⟩
    · exact ⟨o, by rw [hother x c]; exact e, Int.le_refl _⟩
  obtain ⟨a1, a2, a3, a4, a5, a6, a7, a8, a9, a10, a11⟩ := h
  refine ⟨hq, a2, nd_set a3, a4, a5, a6, a7, fun x o e => ?_, fun x o c e => ?_, srj_new hy (fun k hk c e => ?_) fun _ _ => ⟨_, hat, Int.le_refl _⟩, fun x o e => ?_⟩
  · by_cases c : x = nx y
    · subst c; rw [hat] at e; injection e with e
      exact ⟨hne, .inr ⟨hDn, y.lw, ⟨hp, y, hmem, rfl, rfl⟩, e.symm⟩⟩
    · rw [hother x c] at e; exact a8 x o e
  · obtain ⟨o1, e1, l1⟩ := a9 x o c e
    obtain ⟨o2, e2, l2⟩ := low x o1 e1
    exact ⟨o2, e2, by omega⟩
  · obtain ⟨o1, e1, l1⟩ := a10 k hk c e
    obtain ⟨o2, e2, l2⟩ := low _ o1 e1
    exact ⟨o2, e2, by omega⟩
  · by_cases c : x = nx y
    · subst c; rw [hat] at e; injection e with e
      refine ⟨b, by rw [lo_set, if_pos rfl], by omega, .inr ⟨by rw [hbk, ho.1]; exact hp, by rw [hbk, ho.1]; exact hmem, by rw [hbk], d, ?_, by omega⟩⟩
      rw [hbk, ho.1, laD_set]; unfold setK; rw [if_pos rfl, a7.1]
    · rw [hother x c] at e
      obtain ⟨b', q1, q2, q3⟩ := a11 x o e
      exact ⟨b', by rw [lo_set, if_neg c]; exact q1, q2, q3⟩
theorem srj_end (h0 : SD n B rk Lk nx pv) {s p d : Int} {a : LA} {k0 : Int → Option Int} {M F : List (Int × LA)} {i : Nat} {l : List EN} {m : List (Int × Int)} (h : SrJ n Lk nx pv s p d a k0 M i l m F) (hi : (Lk p).length ≤ i) : SrI n Lk nx pv s l m (mset M p a) F := by
  obtain ⟨a1, a2, a3, a4, a5, a6, a7, a8, a9, a10, a11⟩ := h
  have hpn := (a4.kw p d a5.1).1
  have ext : ∀ y o, laD M y = some o → laD (mset M p a) y = some o := fun y o e => by
    rw [laD_set]; unfold setK
    split
    · rename_i c; subst c; rw [hpn] at e; cases e
    · exact e
  refine ⟨a1, nd_set a2, a3, ?_, fun x b e => ?_, a11⟩
  · rw [laD_set, a7.1]
    refine dk_step h0.nn a4 ⟨a5, a8, a9, fun x v ⟨hp, k, hk, e1, e2⟩ c e => ?_⟩
    subst e1 e2
    exact a10 k (by rw [List.take_of_length_le hi]; exact hk) c e
  · rw [lo_set] at e
    split at e
    · rename_i c; subst c; injection e with e; subst e; exact a7.2.mono ext
    · exact (a6 x b e).mono ext
structure SrE (n : Int) (Lk : Int → List LK) (nx pv : LK → Int) (s : Int) (M : List (Int × LA)) : Prop where
  nd : (M.map Prod.fst).Nodup
  yes : ∀ x a, laO M x = some a → EW (EL n Lk nx) s x a.ld ∧ ∀ w, EW (EL n Lk nx) s x w → a.ld ≤ w
  no : ∀ x, laO M x = none → ∀ w, ¬ EW (EL n Lk nx) s x w
  lab : ∀ x a, laO M x = some a → LGd n Lk nx pv (laD M) s x a
theorem sr_end (h0 : SD n B rk Lk nx pv) {s : Int} {l : List EN} {m : List (Int × Int)} {M F : List (Int × LA)} (h : SrI n Lk nx pv s l m M F) (hl : l.length = 0) : SrE n Lk nx pv s M := by
  have hd := dk_end h0.nn h.dk (kq_nil hl)
  refine ⟨h.nd, fun x a e => (hd x).1 a.ld (by unfold laD; rw [e]; rfl), fun x e => (hd x).2 (by unfold laD; rw [e]; rfl), h.lab⟩
structure SrR (n : Int) (f : Int → Int) (M : List (Int × LA)) : Prop where
  nd : (M.map Prod.fst).Nodup
  yes : ∀ x a, laO M x = some a → (0 ≤ x ∧ x < n) ∧ a.ld = f x ∧ 0 ≤ f x ∧ f x ≤ 200000000000000000
  no : ∀ x, 0 ≤ x → x < n → laO M x = none → f x < 0
theorem sr_f (h0 : SD n B rk Lk nx pv) {s : Int} {M : List (Int × LA)} {f : Int → Int} (hs : 0 ≤ s ∧ s < n) (h : SrE n Lk nx pv s M) (h1 : ∀ x w, EW (EL n Lk nx) s x w → 0 ≤ f x ∧ f x ≤ w) (h2 : ∀ x, 0 ≤ x → x < n → 0 ≤ f x → EW (EL n Lk nx) s x (f x)) : SrR n f M := by
  refine ⟨h.nd, fun x a e => ?_, fun x x0 x1 e => ?_⟩
  · have hy := h.yes x a e
    have hb := h0.bd2 hs hy.1
    have q1 := h1 x a.ld hy.1
    have q2 := hy.2 _ (h2 x hb.1.1 hb.1.2 q1.1)
    have := h0.hB
    exact ⟨hb.1, by omega, q1.1, by omega⟩
  · refine Classical.byContradiction fun c => ?_
    exact h.no x e _ (h2 x x0 x1 (by omega))
end
theorem nd_filter {L : List (Int × LA)} {x : Int} (h : (L.map Prod.fst).Nodup) : ((L.filter (fun q => decide (q.1 ≠ x))).map Prod.fst).Nodup := h.sublist (List.filter_sublist.map _)
section
variable {n B : Int} {rk : Int → Int} {Lk : Int → List LK} {nx pv : LK → Int} {s p d : Int} {a : LA} {k0 : Int → Option Int} {M F : List (Int × LA)} {i : Int} {l l2 : List EN} {m m2 : List (Int × Int)}
theorem nat_1 (h : 0 ≤ i) : (i + 1).toNat = i.toNat + 1 := by omega
theorem sj_done (h : SrJ n Lk nx pv s p d a k0 M i.toNat l m F) (h0 : 0 ≤ i) (h1 : i < ((Lk p).length : Int)) (hc : mhas (mset M p a) (nx (gt (Lk p) i)) = true) : SrJ n Lk nx pv s p d a k0 M (i + 1).toNat l m F := by
  rw [nat_1 h0]; exact srj_done (k := a) h (gt_at h0 h1) hc
theorem sj_same (h : SrJ n Lk nx pv s p d a k0 M i.toNat l m F) (h0 : 0 ≤ i) (h1 : i < ((Lk p).length : Int)) (hc : ¬ ∀ o, kq l (nx (gt (Lk p) i)) = some o → d + (gt (Lk p) i).lw < o) (hq : QQ l2 m2) (hk : kq l2 = putK (kq l) (nx (gt (Lk p) i)) (d + (gt (Lk p) i).lw)) : SrJ n Lk nx pv s p d a k0 M (i + 1).toNat l2 m2 F := by
  rw [nat_1 h0]; exact srj_same h (gt_at h0 h1) hc hq hk
theorem sj_yes (hD : SD n B rk Lk nx pv) (hp : 0 ≤ p ∧ p < n) (h : SrJ n Lk nx pv s p d a k0 M i.toNat l m F) (h0 : 0 ≤ i) (h1 : i < ((Lk p).length : Int)) (hn : mhas (mset M p a) (nx (gt (Lk p) i)) = false) (hc : ∀ o, kq l (nx (gt (Lk p) i)) = some o → d + (gt (Lk p) i).lw < o) (hq : QQ l2 m2) (hk : kq l2 = putK (kq l) (nx (gt (Lk p) i)) (d + (gt (Lk p) i).lw)) : SrJ n Lk nx pv s p d a k0 M (i + 1).toNat l2 m2 (mset F (nx (gt (Lk p) i)) (LA.mk (d + (gt (Lk p) i).lw) (gt (Lk p) i).lf (gt (Lk p) i).lt (gt (Lk p) i).lw (gt (Lk p) i).lm)) := by
  rw [nat_1 h0]; exact srj_yes hD hp h (gt_at h0 h1) hn hc hq hk rfl
theorem sj_end (hD : SD n B rk Lk nx pv) (h : SrJ n Lk nx pv s p d a k0 M i.toNat l m F) (hi : ((Lk p).length : Int) ≤ i) : SrI n Lk nx pv s l m (mset M p a) F := srj_end hD h (by omega)
end
def LBd (M : List (Int × LA)) : Prop := (M.map Prod.fst).Nodup ∧ ∀ x a, laO M x = some a → 0 ≤ a.ld ∧ a.ld ≤ 200000000000000000
def MtR (A B : List (Int × LA)) (b p : Int) : Prop := (b = -1 ∧ p = -1 ∧ ∀ k a, laO A k = some a → laO B k = none) ∨ (∃ a c, laO A p = some a ∧ laO B p = some c ∧ b = a.ld + c.ld ∧ ∀ k a' c', laO A k = some a' → laO B k = some c' → b ≤ a'.ld + c'.ld)
structure MtI (A B Lf : List (Int × LA)) (b p : Int) : Prop where
  nd : (Lf.map Prod.fst).Nodup
  sub : ∀ q ∈ Lf, q ∈ A
  bd : -1 ≤ b
  m : (b = -1 ∧ p = -1 ∧ ∀ k a, laO A k = some a → mhas Lf k = false → laO B k = none) ∨ (∃ a c, laO A p = some a ∧ laO B p = some c ∧ b = a.ld + c.ld ∧ ∀ k a' c', laO A k = some a' → mhas Lf k = false → laO B k = some c' → b ≤ a'.ld + c'.ld)
theorem mt_0 {A B : List (Int × LA)} (h : (A.map Prod.fst).Nodup) : MtI A B A (-1) (-1) := ⟨h, fun _ h => h, by decide, .inl ⟨rfl, rfl, fun k a e q => by rw [(lo_in e).1] at q; cases q⟩⟩
theorem has_del {L : List (Int × LA)} {x k : Int} : mhas (L.filter (fun p => decide (p.1 ≠ x))) k = false ↔ k = x ∨ mhas L k = false := by
  rw [← Bool.not_eq_true, ← Bool.not_eq_true, mhas_iff, mhas_iff]
  constructor
  · intro h
    by_cases e : k = x
    · exact .inl e
    · exact .inr fun ⟨v, hv⟩ => h ⟨v, List.mem_filter.2 ⟨hv, by simpa using e⟩⟩
  · rintro (rfl | h) ⟨v, hv⟩
    · have := (List.mem_filter.1 hv).2; simp at this
    · exact h ⟨v, (List.mem_filter.1 hv).1⟩
theorem mt_at {A B Lf : List (Int × LA)} {b p x : Int} {v : LA} (hA : LBd A) (h : MtI A B Lf b p) (hx : (x, v) ∈ Lf) : laO A x = some v ∧ 0 ≤ v.ld ∧ v.ld ≤ 200000000000000000 := by
  have h1 := lo_mem hA.1 (h.sub _ hx)
  exact ⟨h1, hA.2 x v h1⟩
theorem la_bd {B : List (Int × LA)} {x : Int} (hB : LBd B) : 0 ≤ (mget B x dLA).ld ∧ (mget B x dLA).ld ≤ 200000000000000000 := by
  rcases Bool.eq_false_or_eq_true (mhas B x) with h | h
  · exact hB.2 x _ (lo_has h)
  · rw [mget_none h]; decide
theorem mt_no {A B Lf : List (Int × LA)} {b p x : Int} {v : LA} (hA : LBd A) (h : MtI A B Lf b p) (hx : (x, v) ∈ Lf) (hc : mhas B x = false) : MtI A B (Lf.filter (fun q => decide (q.1 ≠ x))) b p := by
  have hb := lo_none.2 hc
  refine ⟨nd_filter h.nd, fun q hq => h.sub q (List.mem_filter.1 hq).1, h.bd, ?_⟩
  rcases h.m with ⟨h1, h2, h3⟩ | ⟨a, c, h1, h2, h3, h4⟩
  · refine .inl ⟨h1, h2, fun k a e q => ?_⟩
    rcases has_del.1 q with rfl | q
    · exact hb
    · exact h3 k a e q
  · refine .inr ⟨a, c, h1, h2, h3, fun k a' c' e q e2 => ?_⟩
    rcases has_del.1 q with rfl | q
    · rw [hb] at e2; cases e2
    · exact h4 k a' c' e q e2
theorem mt_old {A B Lf : List (Int × LA)} {b p x : Int} {v : LA} (hA : LBd A) (h : MtI A B Lf b p) (hx : (x, v) ∈ Lf) (hc : 0 ≤ b ∧ b ≤ v.ld + (mget B x dLA).ld) : MtI A B (Lf.filter (fun q => decide (q.1 ≠ x))) b p := by
  refine ⟨nd_filter h.nd, fun q hq => h.sub q (List.mem_filter.1 hq).1, h.bd, ?_⟩
  rcases h.m with ⟨h1, h2, h3⟩ | ⟨a, c, h1, h2, h3, h4⟩
  · omega
  · refine .inr ⟨a, c, h1, h2, h3, fun k a' c' e q e2 => ?_⟩
    rcases has_del.1 q with rfl | q
    · have e3 := (mt_at hA h hx).1
      rw [e] at e3; injection e3 with e3; subst e3
      rw [← (lo_in e2).2]; exact hc.2
    · exact h4 k a' c' e q e2
theorem mt_yes {A B Lf : List (Int × LA)} {b p x : Int} {v : LA} (hA : LBd A) (hB : LBd B) (h : MtI A B Lf b p) (hx : (x, v) ∈ Lf) (hc : mhas B x = true) (hb : b < 0 ∨ v.ld + (mget B x dLA).ld ≤ b) : MtI A B (Lf.filter (fun q => decide (q.1 ≠ x))) (v.ld + (mget B x dLA).ld) x := by
  have e3 := mt_at hA h hx
  have hbb := la_bd (x := x) hB
  refine ⟨nd_filter h.nd, fun q hq => h.sub q (List.mem_filter.1 hq).1, by omega, .inr ⟨v, _, e3.1, lo_has hc, rfl, fun k a' c' e q e2 => ?_⟩⟩
  rcases has_del.1 q with rfl | q
  · rw [e3.1] at e; injection e with e; subst e
    rw [← (lo_in e2).2]; exact Int.le_refl _
  · rcases h.m with ⟨h1, h2, h3⟩ | ⟨a, c, h1, h2, h3, h4⟩
    · rw [h3 k a' e q] at e2; cases e2
    · have := h4 k a' c' e q e2
      have := (hA.2 _ _ h1).1
      have := (hB.2 _ _ h2).1
      omega
theorem mt_end {A B : List (Int × LA)} {b p : Int} (h : MtI A B [] b p) : MtR A B b p := by
  have e : ∀ k : Int, mhas ([] : List (Int × LA)) k = false := fun _ => rfl
  rcases h.m with ⟨h1, h2, h3⟩ | ⟨a, c, h1, h2, h3, h4⟩
  · exact .inl ⟨h1, h2, fun k a q => h3 k a q (e k)⟩
  · exact .inr ⟨a, c, h1, h2, h3, fun k a' c' q q2 => h4 k a' c' q (e k) q2⟩
end Go.SX
