/- Answers as trees of values: what the maker of trees lays down. -/
import Derived.Test.YthmkelkefmfmgaaSxUniq
set_option linter.unusedVariables false
set_option linter.unusedSimpArgs false
set_option linter.unusedSectionVars false
namespace Go.SX
open Go Go.RowKit
/-! ### The answer's rows -/
/-- A step of a plan, with the place of its load. -/
structure ST where
  kind : Int
  item : Int
  place : Int
  arr : Int
  wait : Int
  serv : Int
  load : List Int
  time : Int
  dist : Int
  lA : Option Addr
  lc : Nat
  deriving Inhabited
def eST : Enc ST where
  sz := 9
  enc s := [.int .i64 s.kind, .int .i64 s.item, .int .i64 s.place, .int .i64 s.arr, .int .i64 s.wait, .int .i64 s.serv, .slice s.lA s.load.length s.lc, .int .i64 s.time, .int .i64 s.dist]
  len _ := rfl
  one x u hu := by simp at hu; rcases hu with rfl | rfl | rfl | rfl | rfl | rfl | rfl | rfl | rfl <;> rfl
  pos := by decide
/-- A plan, with the place of its steps. -/
structure PV where
  veh : Int
  steps : List ST
  time : Int
  dist : Int
  wait : Int
  serv : Int
  cost : Int
  sA : Option Addr
  sc : Nat
  deriving Inhabited
def ePL : Enc PV where
  sz := 7
  enc p := [.int .i64 p.veh, .slice p.sA p.steps.length p.sc, .int .i64 p.time, .int .i64 p.dist, .int .i64 p.wait, .int .i64 p.serv, .int .i64 p.cost]
  len _ := rfl
  one x u hu := by simp at hu; rcases hu with rfl | rfl | rfl | rfl | rfl | rfl | rfl <;> rfl
  pos := by decide
structure TK where
  ship : Bool
  item : Int
  deriving Inhabited, DecidableEq
def eTK : Enc TK where
  sz := 2
  enc t := [.bool t.ship, .int .i64 t.item]
  len _ := rfl
  one x u hu := by simp at hu; rcases hu with rfl | rfl <;> rfl
  pos := by decide
/-- The steps' loads are frozen. -/
def NS (S : Nat → Prop) (wf : World) (l : List ST) : Prop := ∀ s ∈ l, Fr eZ S wf s.lA s.load
/-- The plans' steps are frozen, and their loads. -/
def NP (S : Nat → Prop) (wf : World) (l : List PV) : Prop := ∀ p ∈ l, Fr eST S wf p.sA p.steps ∧ NS S wf p.steps
theorem NS.ext {S S' : Nat → Prop} {wf wf' : World} {l : List ST} (h : NS S wf l) (hx : Ext S wf S' wf') : NS S' wf' l := fun t ht => (h t ht).ext hx
theorem NP.ext {S S' : Nat → Prop} {wf wf' : World} {l : List PV} (h : NP S wf l) (hx : Ext S wf S' wf') : NP S' wf' l := fun t ht => ⟨(h t ht).1.ext hx, (h t ht).2.ext hx⟩
theorem NS.nil {S : Nat → Prop} {wf : World} : NS S wf [] := fun t ht => by cases ht
theorem NP.nil {S : Nat → Prop} {wf : World} : NP S wf [] := fun t ht => by cases ht
/-! ### Two trees' lists -/
section
variable {V : Env} {P : Program} {Q : Exit → Act → World → Prop} {ops : Array Oper} {N : Nat} {o : Oper} {rest : List Oper} {L : List (Nat × Value)} {H R : List Res} {S : Nat → Prop} {wf : World} {K : St → Prop} {st : St}
theorem WW.nestapp {e1 e2 : Nat} {l m : List TV} {w : World} (h : WW V S wf (nest e1 e2 l :: nest e1 e2 m :: R) w) : WW V S wf (nest e1 e2 (l ++ m) :: R) w := by
  have hf : feet (nest e1 e2 (l ++ m) :: R) = feet (nest e1 e2 l :: nest e1 e2 m :: R) := by
    simp [nest, List.flatMap_append]
  exact {
    has := fun r hr => by
      rcases List.mem_cons.1 hr with rfl | hr
      · intro u hu
        rcases List.mem_append.1 hu with hu | hu
        · exact h.has _ (List.mem_cons_self ..) u hu
        · exact h.has (nest e1 e2 m) (by simp) u hu
      · exact h.has r (by simp [hr])
    nd := hf ▸ h.nd
    sep := fun b hb => h.sep b (hf ▸ hb)
    fz := h.fz, new := h.new, fr := h.fr, sz := h.sz, os := h.os, tape := h.tape, output := h.output }
theorem SC.nestapp {e1 e2 : Nat} {l m : List TV} {c : Code} (hp : PickL H [nest e1 e2 l, nest e1 e2 m] R) (h : SC V P Q N c ⟨L, nest e1 e2 (l ++ m) :: R, S, wf⟩) : SC V P Q N c ⟨L, H, S, wf⟩ := fun a w hs hw => h a w hs ((hw.perm hp.perm).nestapp)
end
/-! ### What is laid down -/
def numN (n : Int) : TN := ⟨3, false, n, ⟨#[]⟩, [], []⟩
def txtN (s : ByteArray) : TN := ⟨4, false, 0, s, [], []⟩
def truN (b : Bool) : TN := ⟨2, b, 0, ⟨#[]⟩, [], []⟩
def lisN (ks : List Int) : TN := ⟨5, false, 0, ⟨#[]⟩, [], ks⟩
def objN (ns : List ByteArray) (ks : List Int) : TN := ⟨6, false, 0, ⟨#[]⟩, ns, ks⟩
/-- The places k, k + 1, .. of n values. -/
def seqI (k : Int) : Nat → List Int
  | 0 => []
  | n + 1 => seqI k n ++ [k + n]
theorem seqI_len (k : Int) (n : Nat) : (seqI k n).length = n := by
  induction n with
  | zero => rfl
  | succ n ih => simp [seqI, ih]
theorem seqI_next {k i : Int} (h : 0 ≤ i) : seqI k (i + 1).toNat = seqI k i.toNat ++ [k + i] := by
  have e : (i + 1).toNat = i.toNat + 1 := by omega
  have e2 : ((i.toNat : Nat) : Int) = i := by omega
  rw [e, seqI, e2]
/-- Numbers, and the list of them. -/
def numsF (k : Int) (m : List Int) : List TN := m.map numN ++ [lisN (seqI k m.length)]
theorem nums_next {m : List Int} {i : Int} {M : List TV} (h : vs M = (m.take i.toNat).map numN) (h0 : 0 ≤ i) (h1 : i < (m.length : Int)) :
    vs (M ++ [TV.mk (TN.mk 3 false (gt m i) ⟨#[]⟩ [] []) none 0 none 0]) = (m.take (i + 1).toNat).map numN := by rw [vs_app, h, take_gt h0 h1, List.map_append]; rfl
theorem nums_end {m : List Int} {i k : Int} {M : List TV} {X : List Int} {kA : Option Addr} {kc : Nat} (h : vs M = (m.take i.toNat).map numN) (hX : X = seqI k i.toNat) (h0 : i ≤ (m.length : Int)) (h1 : ¬ i < (m.length : Int)) :
    vs (M ++ [TV.mk (TN.mk 5 false 0 ⟨#[]⟩ [] X) none 0 kA kc]) = numsF k m := by
  have e : i.toNat = m.length := by omega
  rw [vs_app, h, hX, e, List.take_length]; rfl
theorem numsF_len (k : Int) (m : List Int) : (numsF k m).length = m.length + 1 := by simp [numsF]
def kindsL : List ByteArray := [⟨#[106, 111, 98]⟩, ⟨#[112, 105, 99, 107, 117, 112]⟩, ⟨#[100, 101, 108, 105, 118, 101, 114, 121]⟩, ⟨#[98, 114, 101, 97, 107]⟩, ⟨#[115, 116, 97, 114, 116]⟩, ⟨#[101, 110, 100]⟩]
def wordK (k : Int) : ByteArray := if 1 ≤ k ∧ k ≤ 6 then gt kindsL (k - 1) else ⟨#[63]⟩
def stepNs : List ByteArray := [⟨#[116, 121, 112, 101]⟩, ⟨#[105, 116, 101, 109]⟩, ⟨#[112, 108, 97, 99, 101]⟩, ⟨#[97, 114, 114, 105, 118, 97, 108]⟩, ⟨#[119, 97, 105, 116]⟩, ⟨#[115, 101, 114, 118, 105, 99, 101]⟩, ⟨#[108, 111, 97, 100]⟩, ⟨#[116, 105, 109, 101]⟩, ⟨#[100, 105, 115, 116]⟩]
def stepF (k : Int) (s : ST) : List TN :=
  [txtN (wordK s.kind), numN s.item, numN s.place, numN s.arr, numN s.wait, numN s.serv] ++ numsF (k + 6) s.load ++ [numN s.time, numN s.dist, objN stepNs [k, k + 1, k + 2, k + 3, k + 4, k + 5, k + 6 + s.load.length, k + 7 + s.load.length, k + 8 + s.load.length]]
theorem stepF_len (k : Int) (s : ST) : (stepF k s).length = s.load.length + 10 := by simp [stepF, numsF]
/-- Steps one behind the other, and their places. -/
def stepsF (k : Int) : List ST → List TN × List Int → List TN × List Int
  | [], x => x
  | s :: r, x => stepsF k r (x.1 ++ stepF (k + x.1.length) s, x.2 ++ [k + x.1.length + s.load.length + 9])
theorem stepsF_app (k : Int) (a b : List ST) : ∀ x, stepsF k (a ++ b) x = stepsF k b (stepsF k a x) := by
  induction a with
  | nil => intro x; rfl
  | cons s r ih => intro x; exact ih _
theorem stepsF_next {k i : Int} {l : List ST} (h0 : 0 ≤ i) (h1 : i < (l.length : Int)) {T : List TN} {K : List Int} (h : stepsF k (l.take i.toNat) ([], []) = (T, K)) :
    stepsF k (l.take (i + 1).toNat) ([], []) = (T ++ stepF (k + T.length) (gt l i), K ++ [k + T.length + (gt l i).load.length + 9]) := by
  rw [take_gt h0 h1, stepsF_app, h]; rfl
def planNs : List ByteArray := [⟨#[118, 101, 104, 105, 99, 108, 101]⟩, ⟨#[99, 111, 115, 116]⟩, ⟨#[116, 105, 109, 101]⟩, ⟨#[100, 105, 115, 116]⟩, ⟨#[119, 97, 105, 116]⟩, ⟨#[115, 101, 114, 118, 105, 99, 101]⟩, ⟨#[115, 116, 101, 112, 115]⟩]
def planF (k : Int) (p : PV) : List TN :=
  [numN p.veh, numN p.cost, numN p.time, numN p.dist, numN p.wait, numN p.serv] ++ (stepsF (k + 6) p.steps ([], [])).1 ++ [lisN (stepsF (k + 6) p.steps ([], [])).2, objN planNs [k, k + 1, k + 2, k + 3, k + 4, k + 5, k + 6 + (stepsF (k + 6) p.steps ([], [])).1.length]]
def plansF (k : Int) : List PV → List TN × List Int → List TN × List Int
  | [], x => x
  | p :: r, x => plansF k r (x.1 ++ planF (k + x.1.length) p, x.2 ++ [k + x.1.length + (planF (k + x.1.length) p).length - 1])
theorem plansF_app (k : Int) (a b : List PV) : ∀ x, plansF k (a ++ b) x = plansF k b (plansF k a x) := by
  induction a with
  | nil => intro x; rfl
  | cons s r ih => intro x; exact ih _
theorem plansF_next {k i : Int} {l : List PV} (h0 : 0 ≤ i) (h1 : i < (l.length : Int)) {T : List TN} {K : List Int} (h : plansF k (l.take i.toNat) ([], []) = (T, K)) :
    plansF k (l.take (i + 1).toNat) ([], []) = (T ++ planF (k + T.length) (gt l i), K ++ [k + T.length + (planF (k + T.length) (gt l i)).length - 1]) := by
  rw [take_gt h0 h1, plansF_app, h]; rfl
def sumNs : List ByteArray := [⟨#[114, 111, 117, 116, 101, 115]⟩, ⟨#[118, 97, 108, 117, 101]⟩, ⟨#[99, 111, 115, 116]⟩, ⟨#[116, 105, 109, 101]⟩, ⟨#[100, 105, 115, 116]⟩, ⟨#[119, 97, 105, 116]⟩, ⟨#[115, 101, 114, 118, 105, 99, 101]⟩, ⟨#[108, 101, 102, 116]⟩]
/-- A summary. -/
structure SU where
  routes : Int
  value : Int
  cost : Int
  time : Int
  dist : Int
  wait : Int
  serv : Int
  left : Int
def sumsF (k : Int) (s : SU) : List TN :=
  [numN s.routes, numN s.value, numN s.cost, numN s.time, numN s.dist, numN s.wait, numN s.serv, numN s.left, objN sumNs [k, k + 1, k + 2, k + 3, k + 4, k + 5, k + 6, k + 7]]
def wordT (b : Bool) : ByteArray := if b then ⟨#[115, 104, 105, 112, 109, 101, 110, 116]⟩ else ⟨#[106, 111, 98]⟩
def taskNs : List ByteArray := [⟨#[116, 121, 112, 101]⟩, ⟨#[105, 116, 101, 109]⟩]
def taskF (k : Int) (t : TK) : List TN := [txtN (wordT t.ship), numN t.item, objN taskNs [k, k + 1]]
def tasksF (k : Int) : List TK → List TN × List Int → List TN × List Int
  | [], x => x
  | p :: r, x => tasksF k r (x.1 ++ taskF (k + x.1.length) p, x.2 ++ [k + x.1.length + 2])
theorem tasksF_app (k : Int) (a b : List TK) : ∀ x, tasksF k (a ++ b) x = tasksF k b (tasksF k a x) := by
  induction a with
  | nil => intro x; rfl
  | cons s r ih => intro x; exact ih _
theorem tasksF_next {k i : Int} {l : List TK} (h0 : 0 ≤ i) (h1 : i < (l.length : Int)) {T : List TN} {K : List Int} (h : tasksF k (l.take i.toNat) ([], []) = (T, K)) :
    tasksF k (l.take (i + 1).toNat) ([], []) = (T ++ taskF (k + T.length) (gt l i), K ++ [k + T.length + 2]) := by
  rw [take_gt h0 h1, tasksF_app, h]; rfl
def wholeNs : List ByteArray := [⟨#[115, 116, 97, 116, 117, 115]⟩, ⟨#[111, 112, 116, 105, 109, 97, 108]⟩, ⟨#[115, 117, 109, 109, 97, 114, 121]⟩, ⟨#[114, 111, 117, 116, 101, 115]⟩, ⟨#[117, 110, 97, 115, 115, 105, 103, 110, 101, 100]⟩]
def okP (ps : List PV) : List TN × List Int := plansF 11 ps ([], [])
def okK (ps : List PV) (lf : List TK) : List TN × List Int := tasksF (12 + (okP ps).1.length) lf ([], [])
/-- The tree of an answer without a fault. -/
def okT (op : Bool) (su : SU) (ps : List PV) (lf : List TK) : List TN :=
  [txtN ⟨#[111, 107]⟩, truN op] ++ sumsF 2 su ++ (okP ps).1 ++ [lisN (okP ps).2] ++ (okK ps lf).1 ++ [lisN (okK ps lf).2] ++ [objN wholeNs [0, 1, 10, 11 + (okP ps).1.length, 12 + (okP ps).1.length + (okK ps lf).1.length]]
theorem steps_next {a i b r : Int} {l : List ST} {M M2 : List TV} {X : List Int} (h : stepsF a (l.take i.toNat) ([], []) = (vs M, X)) (h2 : vs M2 = stepF b (gt l i)) (hb : b = a + M.length) (hr : r = b + (gt l i).load.length + 9) (h0 : 0 ≤ i) (h1 : i < (l.length : Int)) :
    stepsF a (l.take (i + 1).toNat) ([], []) = (vs (M ++ M2), X ++ [r]) := by
  rw [stepsF_next h0 h1 h, vs_app, h2, hr, hb, vs_len]
theorem plans_next {a i b r : Int} {l : List PV} {M M2 : List TV} {X : List Int} (h : plansF a (l.take i.toNat) ([], []) = (vs M, X)) (h2 : vs M2 = planF b (gt l i)) (hb : b = a + M.length) (hr : r = b + M2.length - 1) (h0 : 0 ≤ i) (h1 : i < (l.length : Int)) :
    plansF a (l.take (i + 1).toNat) ([], []) = (vs (M ++ M2), X ++ [r]) := by
  rw [plansF_next h0 h1 h, vs_app, hr, ← vs_len M2, h2, hb, vs_len]
theorem tasks_next {a i b r : Int} {l : List TK} {M : List TV} {X : List Int} {ns : List ByteArray} {ks : List Int} {nA kA : Option Addr} {nc kc : Nat} (h : tasksF a (l.take i.toNat) ([], []) = (vs M, X)) (hb : b = a + M.length) (hns : ns = taskNs) (hks : ks = [b, b + 1]) (hr : r = b + 2) (h0 : 0 ≤ i) (h1 : i < (l.length : Int)) :
    tasksF a (l.take (i + 1).toNat) ([], []) = (vs (((M ++ [TV.mk (TN.mk 4 false 0 (wordT (gt l i).ship) [] []) none 0 none 0]) ++ [TV.mk (TN.mk 3 false (gt l i).item ⟨#[]⟩ [] []) none 0 none 0]) ++ [TV.mk (TN.mk 6 false 0 ⟨#[]⟩ ns ks) nA nc kA kc]), X ++ [r]) := by
  rw [tasksF_next h0 h1 h, hr, hb]
  subst hns hks hb
  simp only [vs_app, vs_len, taskF]
  simp [vs, txtN, numN, objN]
theorem tree_lay {op : Bool} {su : SU} {ps : List PV} {lf : List TK} {a0 a1 a2 : Int} {S1 M M2 : List TV} {X X2 : List Int} {ns : List ByteArray} {ks : List Int} {nA kA lA lB : Option Addr} {nc kc lc ld : Nat} (hS : vs S1 = sumsF a0 su) (ha0 : a0 = 2) (hP : plansF a1 ps ([], []) = (vs M, X)) (ha1 : a1 = 11)
    (hT : tasksF a2 lf ([], []) = (vs M2, X2)) (ha2 : a2 = 12 + M.length) (hns : ns = wholeNs) (hks : ks = [0, 1, 10, 11 + (M.length : Int), 12 + (M.length : Int) + M2.length]) :
    vs (((((((([] ++ [TV.mk (TN.mk 4 false 0 ⟨#[111, 107]⟩ [] []) none 0 none 0]) ++ [TV.mk (TN.mk 2 op 0 ⟨#[]⟩ [] []) none 0 none 0]) ++ S1) ++ M) ++ [TV.mk (TN.mk 5 false 0 ⟨#[]⟩ [] X) none 0 lA lc]) ++ M2) ++ [TV.mk (TN.mk 5 false 0 ⟨#[]⟩ [] X2) none 0 lB ld]) ++ [TV.mk (TN.mk 6 false 0 ⟨#[]⟩ ns ks) nA nc kA kc]) = okT op su ps lf := by
  subst ha0 ha1 ha2 hns hks
  have e1 : okP ps = (vs M, X) := hP
  have e2 : okK ps lf = (vs M2, X2) := by unfold okK; rw [e1]; simp only [vs_len]; exact hT
  unfold okT
  rw [e1, e2]
  simp only [vs_app, hS, vs_len]
  simp [vs, txtN, truN, lisN, objN]
/-- A step, laid down. -/
theorem step_lay {k0 a : Int} {w : ByteArray} {Mx : List TV} {ns : List ByteArray} {ks : List Int} {nA kA : Option Addr} {nc kc : Nat} (s : ST) (h : vs Mx = numsF a s.load) (ha : a = k0 + 6) (hw : w = wordK s.kind) (hns : ns = stepNs)
    (hks : ks = [k0, k0 + 1, k0 + 2, k0 + 3, k0 + 4, k0 + 5, k0 + 6 + s.load.length, k0 + 7 + s.load.length, k0 + 8 + s.load.length]) :
    vs (((((((((([] ++ [TV.mk (TN.mk 4 false 0 w [] []) none 0 none 0]) ++ [TV.mk (TN.mk 3 false s.item ⟨#[]⟩ [] []) none 0 none 0]) ++ [TV.mk (TN.mk 3 false s.place ⟨#[]⟩ [] []) none 0 none 0]) ++ [TV.mk (TN.mk 3 false s.arr ⟨#[]⟩ [] []) none 0 none 0]) ++ [TV.mk (TN.mk 3 false s.wait ⟨#[]⟩ [] []) none 0 none 0]) ++ [TV.mk (TN.mk 3 false s.serv ⟨#[]⟩ [] []) none 0 none 0]) ++ Mx) ++ [TV.mk (TN.mk 3 false s.time ⟨#[]⟩ [] []) none 0 none 0]) ++ [TV.mk (TN.mk 3 false s.dist ⟨#[]⟩ [] []) none 0 none 0]) ++ [TV.mk (TN.mk 6 false 0 ⟨#[]⟩ ns ks) nA nc kA kc]) = stepF k0 s := by
  subst ha hw hns hks
  simp only [vs_app, h, stepF]
  simp [vs, txtN, numN, objN]
/-- A plan, laid down. -/
theorem plan_lay {k0 a : Int} {Mx : List TV} {X : List Int} {ns : List ByteArray} {ks : List Int} {nA kA lA : Option Addr} {nc kc lc : Nat} (p : PV) (h : stepsF a p.steps ([], []) = (vs Mx, X)) (ha : a = k0 + 6) (hns : ns = planNs)
    (hks : ks = [k0, k0 + 1, k0 + 2, k0 + 3, k0 + 4, k0 + 5, k0 + 6 + Mx.length]) :
    vs ((((((((([] ++ [TV.mk (TN.mk 3 false p.veh ⟨#[]⟩ [] []) none 0 none 0]) ++ [TV.mk (TN.mk 3 false p.cost ⟨#[]⟩ [] []) none 0 none 0]) ++ [TV.mk (TN.mk 3 false p.time ⟨#[]⟩ [] []) none 0 none 0]) ++ [TV.mk (TN.mk 3 false p.dist ⟨#[]⟩ [] []) none 0 none 0]) ++ [TV.mk (TN.mk 3 false p.wait ⟨#[]⟩ [] []) none 0 none 0]) ++ [TV.mk (TN.mk 3 false p.serv ⟨#[]⟩ [] []) none 0 none 0]) ++ Mx) ++ [TV.mk (TN.mk 5 false 0 ⟨#[]⟩ [] X) none 0 lA lc]) ++ [TV.mk (TN.mk 6 false 0 ⟨#[]⟩ ns ks) nA nc kA kc]) = planF k0 p := by
  subst ha hns hks
  simp only [planF, h, vs_app, vs_len]
  simp [vs, lisN, numN, objN]
end Go.SX
