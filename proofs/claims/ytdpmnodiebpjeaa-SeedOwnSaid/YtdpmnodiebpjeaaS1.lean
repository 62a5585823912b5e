import Derived.Laws.Strings
import Derived.Maps.RangeRun
import Derived.MapKept
import Derived.Test.YtdpmnodiebpjeaaS0
set_option linter.unusedVariables false
set_option linter.unusedSimpArgs false
set_option linter.unusedSectionVars false
namespace Go.SX
open Go
def apart : List ByteArray → Prop
  | [] => True
  | s :: r => (∀ t ∈ r, ¬ (s.toList == t.toList) = true) ∧ apart r
end Go.SX
namespace Go.SX
section
variable {l : List TV} {U D U2 : List Int} {i k m : Int} {X : Option (List Int × List Int)}
def Btw (U : List Int) (a b : Int) : Prop := ∀ x ∈ U, a ≤ x ∧ x ≤ b
theorem Btw.gt {a b : Int} (h : Btw U a b) (ha : a ≤ 0) (hb : 0 ≤ b) (i : Int) : a ≤ gt U i ∧ gt U i ≤ b := by
  unfold SX.gt
  rw [List.getD_eq_getElem?_getD]
  cases hq : U[i.toNat]? with
  | none => exact ⟨ha, hb⟩
  | some x => exact h x (List.mem_of_getElem? hq)
theorem Btw.set {a b c x : Int} {n : Nat} (h : Btw U a b) (hb : b ≤ c) (h1 : a ≤ x) (h2 : x ≤ c) : Btw (U.set n x) a c := fun y hy => by
  rcases List.mem_or_eq_of_mem_set hy with hy | rfl
  · have := h y hy; omega
  · exact ⟨h1, h2⟩
theorem Btw.mono {a b c : Int} (h : Btw U a b) (hb : b ≤ c) : Btw U a c := fun y hy => by have := h y hy; omega
end
end Go.SX
namespace Go.SX
open Go
structure Pr where
  name : ByteArray
  pos : Int
  deriving Inhabited
end Go.SX
namespace Go.SX
open Go Go.RowKit
structure ST where
  kind : Int
  item : Int
  place : Int
  arr : Int
  wait : Int
  serv : Int
  load : List Int
  time : Int
  dist : Int
  lA : Option Addr
  lc : Nat
  deriving Inhabited
def eST : Enc ST where
  sz := 9
  enc s := [.int .i64 s.kind, .int .i64 s.item, .int .i64 s.place, .int .i64 s.arr, .int .i64 s.wait, .int .i64 s.serv, .slice s.lA s.load.length s.lc, .int .i64 s.time, .int .i64 s.dist]
  len _ := rfl
  one x u hu := by simp at hu; rcases hu with rfl | rfl | rfl | rfl | rfl | rfl | rfl | rfl | rfl <;> rfl
  pos := by decide
structure PV where
  veh : Int
  steps : List ST
  time : Int
  dist : Int
  wait : Int
  serv : Int
  cost : Int
  sA : Option Addr
  sc : Nat
  deriving Inhabited
structure TK where
  ship : Bool
  item : Int
  deriving Inhabited, DecidableEq
def eTK : Enc TK where
  sz := 2
  enc t := [.bool t.ship, .int .i64 t.item]
  len _ := rfl
  one x u hu := by simp at hu; rcases hu with rfl | rfl <;> rfl
  pos := by decide
def NS (S : Nat → Prop) (wf : World) (l : List ST) : Prop := ∀ s ∈ l, Fr eZ S wf s.lA s.load
def NP (S : Nat → Prop) (wf : World) (l : List PV) : Prop := ∀ p ∈ l, Fr eST S wf p.sA p.steps ∧ NS S wf p.steps
theorem NS.ext {S S' : Nat → Prop} {wf wf' : World} {l : List ST} (h : NS S wf l) (hx : Ext S wf S' wf') : NS S' wf' l := fun t ht => (h t ht).ext hx
theorem NP.ext {S S' : Nat → Prop} {wf wf' : World} {l : List PV} (h : NP S wf l) (hx : Ext S wf S' wf') : NP S' wf' l := fun t ht => ⟨(h t ht).1.ext hx, (h t ht).2.ext hx⟩
theorem NS.nil {S : Nat → Prop} {wf : World} : NS S wf [] := fun t ht => by cases ht
theorem NP.nil {S : Nat → Prop} {wf : World} : NP S wf [] := fun t ht => by cases ht
structure SU where
  routes : Int
  value : Int
  cost : Int
  time : Int
  dist : Int
  wait : Int
  serv : Int
  left : Int
end Go.SX
namespace Go.SX
open Go
def mixOk (n i j : Int) : Prop := 0 ≤ i ∧ i < n ∧ 0 ≤ j ∧ j + 1 < n ∧ i ≠ j ∧ i ≠ j + 1
instance (n i j : Int) : Decidable (mixOk n i j) := by unfold mixOk; infer_instance
def orOk (n i j k : Int) : Prop := 1 ≤ k ∧ k ≤ 3 ∧ 0 ≤ i ∧ i < n ∧ k ≤ n - i ∧ 0 ≤ j ∧ j ≤ n - k ∧ i ≠ j
instance (n i j k : Int) : Decidable (orOk n i j k) := by unfold orOk; infer_instance
def twoOk (n i j : Int) : Prop := 0 ≤ i ∧ i < j ∧ j < n
instance (n i j : Int) : Decidable (twoOk n i j) := by unfold twoOk; infer_instance
end Go.SX
namespace Go.SX
open Go Go.RowKit
section
variable {V : Env} {P : Program} {Q : Exit → Act → World → Prop} {ops : Array Oper} {N : Nat} {o : Oper} {rest : List Oper} {L : List (Nat × Value)} {H R : List Res} {S : Nat → Prop} {wf : World} {K : St → Prop} {st : St} {C : World → Prop}
variable {α : Type} [Inhabited α] {E : Enc α} {a b : List Value} {m : List α} {g e off : Nat} {i : Int}
theorem SC.exitq {id : Nat} {Q1 : Act → World → Prop} (hQ : ∀ a w, Q1 a w → Q (.exit id) a w) (h : SQ V Q1 N st) : SC V P Q N (.exit id) st := fun a w hs hw => wp_exit (hQ a w (h a w hs hw))
end
end Go.SX
namespace Go.SX
open Go Go.RowKit
section
variable {V : Env} {P : Program} {Q : Exit → Act → World → Prop} {ops : Array Oper} {N : Nat} {o : Oper} {rest : List Oper} {L : List (Nat × Value)} {H R C : List Res} {S : Nat → Prop} {wf : World} {K : St → Prop} {st : St}
def resF (tmps : Array Value) : ResultVar → Sem Value
  | .tmp t => pure (tmps.getD t undef)
  | .cell t ty => do loadVar ty (← asAddr (tmps.getD t undef))
theorem results_resF (fn : Func) (tmps : Array Value) : results fn tmps = (do let vs ← fn.results.mapM (resF tmps); pure (if h : vs.size = 1 then vs[0] else .tuple vs)) := by
  unfold results
  congr 1
def RV (P : Program) (L : List (Nat × Value)) (D : World → Prop) (r : ResultVar) (v : Value) : Prop := ∀ a w N, SL N L a → D w → (resF a.tmps r).run P w = .ok v w
theorem RV.t {D : World → Prop} {t : Nat} {v : Value} (h : lkp L t = some v) : RV P L D (.tmp t) v := fun a w N hs hw => by
  show (pure (a.tmps.getD t undef) : Sem Value).run P w = _
  rw [hs.2.2 t v h]; rfl
theorem RV.c {t b : Nat} {ty : TypeId} {l : List Value} {e : TypeId} (k : Nat) (h : lkp L t = some (.pointer (some ⟨b, 0, none⟩))) (hk : H[k]? = some (cel b l e)) (ht : SX.ty P ty = some (true, l.length)) : RV P L (WW V S wf H) (.cell t ty) (.agg l.toArray) := fun a w N hs hw => by
  show (do loadVar ty (← asAddr (a.tmps.getD t undef)) : Sem Value).run P w = _
  rw [hs.2.2 t _ h]
  show (loadVar ty ⟨b, 0, none⟩).run P w = _
  exact run_load_at ht (.inl rfl) (At.whole k hk w hw)
theorem retv2 {fn : Func} {r s : ResultVar} {v v' : Value} {post : Value → List Res → Prop} (hr : fn.results = #[r, s]) (h1 : RV P L (WW V S wf H) r v) (h2 : RV P L (WW V S wf H) s v') (hp : PickL H C R) (h : post (.tuple #[v, v']) C) :
    SQ V (bodyPost P fn (TRp V S wf fun v C' S' wf' => post v C' ∧ S' = S ∧ wf' = wf) .ret) N ⟨L, H, S, wf⟩ := fun a w hs hw => by
  refine ⟨hs.2.1, .tuple #[v, v'], ?_, .tuple #[v, v'], C, S, wf, rfl, ⟨h, rfl, rfl⟩, .of_fz hw, hw.keep hp⟩
  have e1 := h1 a w N hs hw
  have e2 := h2 a w N hs hw
  rw [results_resF, hr]
  simp [e1, e2]
theorem retv3 {fn : Func} {r s t : ResultVar} {v v' v'' : Value} {post : Value → List Res → Prop} (hr : fn.results = #[r, s, t]) (h1 : RV P L (WW V S wf H) r v) (h2 : RV P L (WW V S wf H) s v') (h3 : RV P L (WW V S wf H) t v'') (hp : PickL H C R) (h : post (.tuple #[v, v', v'']) C) :
    SQ V (bodyPost P fn (TRp V S wf fun v C' S' wf' => post v C' ∧ S' = S ∧ wf' = wf) .ret) N ⟨L, H, S, wf⟩ := fun a w hs hw => by
  refine ⟨hs.2.1, .tuple #[v, v', v''], ?_, .tuple #[v, v', v''], C, S, wf, rfl, ⟨h, rfl, rfl⟩, .of_fz hw, hw.keep hp⟩
  have e1 := h1 a w N hs hw
  have e2 := h2 a w N hs hw
  have e3 := h3 a w N hs hw
  rw [results_resF, hr]
  simp [e1, e2, e3]
end
end Go.SX
namespace Go.SX
open Go Go.RowKit
def kidT (l : List TV) (i k : Int) : Int := gt (gt l i).v.ks k
def kidOk (l : List TV) (i k : Int) : Prop := 0 ≤ k ∧ k < (gt l i).v.ks.length ∧ 0 ≤ kidT l i k ∧ kidT l i k < i
def sv (s : ST) : ST := { s with lA := none, lc := 0 }
theorem gt_map {α β : Type} [Inhabited α] [Inhabited β] (f : α → β) {l : List α} {i : Int} (h0 : 0 ≤ i) (h1 : i < (l.length : Int)) : gt (l.map f) i = f (gt l i) := by
  have hi : i.toNat < l.length := by omega
  simp [gt, List.getD_eq_getElem?_getD, hi]
section
variable {V : Env} {P : Program} {Q : Exit → Act → World → Prop} {N : Nat} {L : List (Nat × Value)} {H R C : List Res} {S : Nat → Prop} {wf : World}
theorem retv1 {fn : Func} {r : ResultVar} {v : Value} {post : Value → List Res → Prop} (hr : fn.results = #[r]) (h1 : RV P L (WW V S wf H) r v) (hp : PickL H C R) (h : post v C) :
    SQ V (bodyPost P fn (TRp V S wf fun v C' S' wf' => post v C' ∧ S' = S ∧ wf' = wf) .ret) N ⟨L, H, S, wf⟩ := fun a w hs hw => by
  refine ⟨hs.2.1, v, ?_, v, C, S, wf, rfl, ⟨h, rfl, rfl⟩, .of_fz hw, hw.keep hp⟩
  have e1 := h1 a w N hs hw
  rw [results_resF, hr]
  simp [e1]
end
end Go.SX
namespace Go.SX
open Go Go.RowKit
def big {α : Type} (f : α → Res) (l : List α) : Res where
  foot := l.flatMap (fun x => (f x).foot)
  holds w := ∀ x ∈ l, (f x).holds w
  stable w w' h hw x hx := (f x).stable w w' (fun b hb => h b (List.mem_flatMap.2 ⟨x, hx, hb⟩)) (hw x hx)
  lt w hw b hb := by
    obtain ⟨x, hx, hb⟩ := List.mem_flatMap.1 hb
    exact (f x).lt w (hw x hx) b hb
def both (a b : Res) : Res where
  foot := a.foot ++ b.foot
  holds w := a.holds w ∧ b.holds w
  stable w w' h hw := ⟨a.stable w w' (fun c hc => h c (List.mem_append_left _ hc)) hw.1, b.stable w w' (fun c hc => h c (List.mem_append_right _ hc)) hw.2⟩
  lt w hw b hb := by
    rcases List.mem_append.1 hb with hb | hb
    · exact a.lt w hw.1 _ hb
    · exact (Res.lt _ w hw.2 _ hb)
def rowB {α : Type} (E : Enc α) (e : Nat) (v : Value) (l : List α) : Res where
  foot := (rw_ E e v l).foot
  holds w := (rw_ E e v l).holds w ∧ l.length ≤ 140737488355328
  stable w w' h hw := ⟨(rw_ E e v l).stable w w' h hw.1, hw.2⟩
  lt w hw b hb := (rw_ E e v l).lt w hw.1 b hb
def resS (e : Nat) (s : ST) : Res := rowB eZ e (.slice s.lA s.load.length s.lc) s.load
def nestS (e : Nat) (l : List ST) : Res := big (resS e) l
def resP (e1 e2 : Nat) (p : PV) : Res := both (rowB eST e1 (.slice p.sA p.steps.length p.sc) p.steps) (nestS e2 p.steps)
def nestP (e1 e2 : Nat) (l : List PV) : Res := big (resP e1 e2) l
theorem big_foot {α : Type} {f : α → Res} {l : List α} {x : α} (h : x ∈ l) : ∀ b ∈ (f x).foot, b ∈ (big f l).foot := fun b hb => List.mem_flatMap.2 ⟨x, h, hb⟩
theorem NS.of {e : Nat} {l : List ST} {S : Nat → Prop} {w : World} (h : (nestS e l).holds w) (hS : ∀ b ∈ (nestS e l).foot, S b) : NS S w l := fun s hs =>
  Fr.of_row (h s hs).1 (fun b hb => hS b (big_foot (f := resS e) hs b hb)) (h s hs).2
theorem NP.of {e1 e2 : Nat} {l : List PV} {S : Nat → Prop} {w : World} (h : (nestP e1 e2 l).holds w) (hS : ∀ b ∈ (nestP e1 e2 l).foot, S b) : NP S w l := fun p hp =>
  ⟨Fr.of_row (h p hp).1.1 (fun b hb => hS b (big_foot (f := resP e1 e2) hp b (List.mem_append_left _ hb))) (h p hp).1.2,
   NS.of (h p hp).2 (fun b hb => hS b (big_foot (f := resP e1 e2) hp b (List.mem_append_right _ hb)))⟩
section
variable {V : Env} {P : Program} {Q : Exit → Act → World → Prop} {ops : Array Oper} {N : Nat} {L : List (Nat × Value)} {H R : List Res} {S : Nat → Prop} {wf : World}
theorem NS.lent {e : Nat} {l : List ST} {wf1 : World} (hR : ∀ r ∈ R, r.holds wf1) (i : Nat) (hi : R[i]? = some (nestS e l)) : NS (fun b => S b ∨ b ∈ feet R) wf1 l :=
  NS.of (hR _ (List.mem_of_getElem? hi)) (fun b hb => .inr (feet_of i hi hb))
theorem NP.lent {e1 e2 : Nat} {l : List PV} {wf1 : World} (hR : ∀ r ∈ R, r.holds wf1) (i : Nat) (hi : R[i]? = some (nestP e1 e2 l)) : NP (fun b => S b ∨ b ∈ feet R) wf1 l :=
  NP.of (hR _ (List.mem_of_getElem? hi)) (fun b hb => .inr (feet_of i hi hb))
theorem NS.lend {e : Nat} {l : List ST} {C0 R1 : List Res} {w : World} (hw : WW V S wf (C0 ++ (R1 ++ R)) w) (i : Nat) (hi : R1[i]? = some (nestS e l)) : NS (fun b => S b ∨ b ∈ feet R1) w l :=
  NS.of (hw.has _ (List.mem_append_right _ (List.mem_append_left _ (List.mem_of_getElem? hi)))) (fun b hb => .inr (feet_of i hi hb))
theorem NP.lend {e1 e2 : Nat} {l : List PV} {C0 R1 : List Res} {w : World} (hw : WW V S wf (C0 ++ (R1 ++ R)) w) (i : Nat) (hi : R1[i]? = some (nestP e1 e2 l)) : NP (fun b => S b ∨ b ∈ feet R1) w l :=
  NP.of (hw.has _ (List.mem_append_right _ (List.mem_append_left _ (List.mem_of_getElem? hi)))) (fun b hb => .inr (feet_of i hi hb))
theorem WW.swap {A : List Res} {r : Res} {w : World} (h : WW V S wf (A ++ R) w) (hf : r.foot = feet A) (hh : (∀ x ∈ A, x.holds w) → r.holds w) : WW V S wf (r :: R) w := by
  have e : feet (r :: R) = feet (A ++ R) := by rw [feet_cons, hf, feet_append]
  exact {
    has := fun x hx => by
      rcases List.mem_cons.1 hx with rfl | hx
      · exact hh (fun y hy => h.has y (List.mem_append_left _ hy))
      · exact h.has x (List.mem_append_right _ hx)
    nd := e ▸ h.nd
    sep := fun b hb => h.sep b (e ▸ hb)
    fz := h.fz, new := h.new, fr := h.fr, sz := h.sz, os := h.os, tape := h.tape, output := h.output }
end
theorem kidOk.rng {l : List TV} {i k : Int} {n : Nat} (h : kidOk l i k) (hi : 0 ≤ i ∧ i < (n : Int)) : 0 ≤ kidT l i k ∧ kidT l i k < (n : Int) := ⟨h.2.2.1, by have := h.2.2.2; omega⟩
end Go.SX
namespace Go.SX
open Go Go.RowKit
structure WN where
  lo : Int
  hi : Int
  deriving Inhabited, DecidableEq
def eWN : Enc WN where
  sz := 2
  enc x := [.int .i64 x.lo, .int .i64 x.hi]
  len _ := rfl
  one x u hu := by simp at hu; rcases hu with rfl | rfl <;> rfl
  pos := by decide
structure BK where
  bws : List WN
  bsrv : Int
  bwA : Option Addr
  bwc : Nat
  deriving Inhabited
def eBK : Enc BK where
  sz := 2
  enc x := [.slice x.bwA x.bws.length x.bwc, .int .i64 x.bsrv]
  len _ := rfl
  one x u hu := by simp at hu; rcases hu with rfl | rfl <;> rfl
  pos := by decide
structure VH where
  st : Int
  en : Int
  vcap : List Int
  vsk : Int
  lo : Int
  hi : Int
  fix : Int
  pt : Int
  pd : Int
  mt : Int
  brs : List BK
  vcA : Option Addr
  vcc : Nat
  vbA : Option Addr
  vbc : Nat
  deriving Inhabited
def eVH : Enc VH where
  sz := 11
  enc x := [.int .i64 x.st, .int .i64 x.en, .slice x.vcA x.vcap.length x.vcc, .int .u64 x.vsk, .int .i64 x.lo, .int .i64 x.hi, .int .i64 x.fix, .int .i64 x.pt, .int .i64 x.pd, .int .i64 x.mt, .slice x.vbA x.brs.length x.vbc]
  len _ := rfl
  one x u hu := by simp at hu; rcases hu with rfl | rfl | rfl | rfl | rfl | rfl | rfl | rfl | rfl | rfl | rfl <;> rfl
  pos := by decide
structure SO where
  pl : Int
  srv : Int
  sws : List WN
  soA : Option Addr
  soc : Nat
  deriving Inhabited
structure JB where
  so : SO
  drop : List Int
  pick : List Int
  jsk : Int
  jpr : Int
  jdA : Option Addr
  jdc : Nat
  jkA : Option Addr
  jkc : Nat
  deriving Inhabited
def eJB : Enc JB where
  sz := 7
  enc x := [.int .i64 x.so.pl, .int .i64 x.so.srv, .slice x.so.soA x.so.sws.length x.so.soc, .slice x.jdA x.drop.length x.jdc, .slice x.jkA x.pick.length x.jkc, .int .u64 x.jsk, .int .i64 x.jpr]
  len _ := rfl
  one x u hu := by simp at hu; rcases hu with rfl | rfl | rfl | rfl | rfl | rfl | rfl <;> rfl
  pos := by decide
structure SH where
  sp : SO
  sd : SO
  am : List Int
  ssk : Int
  spr : Int
  saA : Option Addr
  sac : Nat
  deriving Inhabited
def eSH : Enc SH where
  sz := 9
  enc x := [.int .i64 x.sp.pl, .int .i64 x.sp.srv, .slice x.sp.soA x.sp.sws.length x.sp.soc, .int .i64 x.sd.pl, .int .i64 x.sd.srv, .slice x.sd.soA x.sd.sws.length x.sd.soc, .slice x.saA x.am.length x.sac, .int .u64 x.ssk, .int .i64 x.spr]
  len _ := rfl
  one x u hu := by simp at hu; rcases hu with rfl | rfl | rfl | rfl | rfl | rfl | rfl | rfl | rfl <;> rfl
  pos := by decide
structure PB where
  dims : Int
  tn : Int
  time : List Int
  dn : Int
  dist : List Int
  vehs : List VH
  jobs : List JB
  ships : List SH
  ptA : Option Addr
  ptc : Nat
  pdA : Option Addr
  pdc : Nat
  pvA : Option Addr
  pvc : Nat
  pjA : Option Addr
  pjc : Nat
  psA : Option Addr
  psc : Nat
  deriving Inhabited
structure RT where
  veh : Int
  vis : List Vis
  rA : Option Addr
  rc : Nat
  deriving Inhabited
def eRT : Enc RT where
  sz := 2
  enc x := [.int .i64 x.veh, .slice x.rA x.vis.length x.rc]
  len _ := rfl
  one x u hu := by simp at hu; rcases hu with rfl | rfl <;> rfl
  pos := by decide
structure VL where
  vl : List Vis
  wlA : Option Addr
  wlc : Nat
  deriving Inhabited
def eVL : Enc VL where
  sz := 1
  enc x := [.slice x.wlA x.vl.length x.wlc]
  len _ := rfl
  one x u hu := by simp at hu; subst hu; rfl
  pos := by decide
structure IL where
  il : List Int
  ilA : Option Addr
  ilc : Nat
  deriving Inhabited
def eIL : Enc IL where
  sz := 1
  enc x := [.slice x.ilA x.il.length x.ilc]
  len _ := rfl
  one x u hu := by simp at hu; subst hu; rfl
  pos := by decide
def BKF (S : Nat → Prop) (wf : World) (b : BK) : Prop := Fr eWN S wf b.bwA b.bws
def SOF (S : Nat → Prop) (wf : World) (s : SO) : Prop := Fr eWN S wf s.soA s.sws
def VHF (S : Nat → Prop) (wf : World) (v : VH) : Prop := Fr eZ S wf v.vcA v.vcap ∧ Fr eBK S wf v.vbA v.brs ∧ ∀ i : Int, BKF S wf (gt v.brs i)
def JBF (S : Nat → Prop) (wf : World) (j : JB) : Prop := Fr eZ S wf j.jdA j.drop ∧ Fr eZ S wf j.jkA j.pick ∧ SOF S wf j.so
def SHF (S : Nat → Prop) (wf : World) (s : SH) : Prop := Fr eZ S wf s.saA s.am ∧ SOF S wf s.sp ∧ SOF S wf s.sd
def PBF (S : Nat → Prop) (wf : World) (p : PB) : Prop := Fr eZ S wf p.ptA p.time ∧ Fr eZ S wf p.pdA p.dist ∧ (Fr eVH S wf p.pvA p.vehs ∧ ∀ i : Int, VHF S wf (gt p.vehs i)) ∧ (Fr eJB S wf p.pjA p.jobs ∧ ∀ i : Int, JBF S wf (gt p.jobs i)) ∧ (Fr eSH S wf p.psA p.ships ∧ ∀ i : Int, SHF S wf (gt p.ships i))
def RTF (S : Nat → Prop) (wf : World) (l : List RT) : Prop := ∀ i : Int, Fr eVis S wf (gt l i).rA (gt l i).vis
def VLF (S : Nat → Prop) (wf : World) (l : List VL) : Prop := ∀ i : Int, Fr eVis S wf (gt l i).wlA (gt l i).vl
def ILF (S : Nat → Prop) (wf : World) (l : List IL) : Prop := ∀ i : Int, Fr eZ S wf (gt l i).ilA (gt l i).il
section
variable {S S' : Nat → Prop} {wf wf' : World}
theorem BKF.ext {b : BK} (h : BKF S wf b) (hx : Ext S wf S' wf') : BKF S' wf' b := Fr.ext h hx
theorem SOF.ext {b : SO} (h : SOF S wf b) (hx : Ext S wf S' wf') : SOF S' wf' b := Fr.ext h hx
theorem VHF.ext {v : VH} (h : VHF S wf v) (hx : Ext S wf S' wf') : VHF S' wf' v := ⟨h.1.ext hx, h.2.1.ext hx, fun i => (h.2.2 i).ext hx⟩
theorem JBF.ext {v : JB} (h : JBF S wf v) (hx : Ext S wf S' wf') : JBF S' wf' v := ⟨h.1.ext hx, h.2.1.ext hx, h.2.2.ext hx⟩
theorem SHF.ext {v : SH} (h : SHF S wf v) (hx : Ext S wf S' wf') : SHF S' wf' v := ⟨h.1.ext hx, h.2.1.ext hx, h.2.2.ext hx⟩
theorem PBF.ext {p : PB} (h : PBF S wf p) (hx : Ext S wf S' wf') : PBF S' wf' p :=
  ⟨h.1.ext hx, h.2.1.ext hx, ⟨h.2.2.1.1.ext hx, fun i => (h.2.2.1.2 i).ext hx⟩, ⟨h.2.2.2.1.1.ext hx, fun i => (h.2.2.2.1.2 i).ext hx⟩, ⟨h.2.2.2.2.1.ext hx, fun i => (h.2.2.2.2.2 i).ext hx⟩⟩
theorem RTF.ext {l : List RT} (h : RTF S wf l) (hx : Ext S wf S' wf') : RTF S' wf' l := fun i => (h i).ext hx
theorem VLF.ext {l : List VL} (h : VLF S wf l) (hx : Ext S wf S' wf') : VLF S' wf' l := fun i => (h i).ext hx
theorem ILF.ext {l : List IL} (h : ILF S wf l) (hx : Ext S wf S' wf') : ILF S' wf' l := fun i => (h i).ext hx
theorem RTF.nil : RTF S wf [] := fun i => Fr.nil _ _ _ _
theorem VLF.nil : VLF S wf [] := fun i => Fr.nil _ _ _ _
theorem ILF.nil : ILF S wf [] := fun i => Fr.nil _ _ _ _
theorem gt_mem_or {α : Type} [Inhabited α] (l : List α) (i : Int) : gt l i ∈ l ∨ gt l i = default := by
  unfold gt
  by_cases h : i.toNat < l.length
  · left; rw [List.getD_eq_getElem?_getD, List.getElem?_eq_getElem h]; exact List.getElem_mem h
  · right; rw [List.getD_eq_getElem?_getD, List.getElem?_eq_none (by omega)]; rfl
theorem gt_mapd {α β : Type} [Inhabited α] [Inhabited β] (f : α → β) (hf : f default = default) (l : List α) (i : Int) : gt (l.map f) i = f (gt l i) := by
  unfold gt
  rw [List.getD_eq_getElem?_getD, List.getD_eq_getElem?_getD, List.getElem?_map]
  cases l[i.toNat]? with
  | none => simp [hf]
  | some x => simp
theorem drop_end {α : Type} {l : List α} {i : Int} (h : ¬ i < (l.length : Int)) : l.drop i.toNat = [] := List.drop_of_length_le (by omega)
end
def resR (e : Nat) (s : RT) : Res := rowB eVis e (.slice s.rA s.vis.length s.rc) s.vis
def nestR (e : Nat) (l : List RT) : Res := big (resR e) l
def resVL (e : Nat) (s : VL) : Res := rowB eVis e (.slice s.wlA s.vl.length s.wlc) s.vl
def nestVL (e : Nat) (l : List VL) : Res := big (resVL e) l
def resIL (e : Nat) (s : IL) : Res := rowB eZ e (.slice s.ilA s.il.length s.ilc) s.il
def nestIL (e : Nat) (l : List IL) : Res := big (resIL e) l
theorem RTF.of {e : Nat} {l : List RT} {S : Nat → Prop} {w : World} (h : (nestR e l).holds w) (hS : ∀ b ∈ (nestR e l).foot, S b) : RTF S w l := fun i => by
  rcases gt_mem_or l i with hm | hm
  · exact Fr.of_row (h _ hm).1 (fun b hb => hS b (big_foot (f := resR e) hm b hb)) (h _ hm).2
  · rw [hm]; exact Fr.nil _ _ _ _
theorem VLF.of {e : Nat} {l : List VL} {S : Nat → Prop} {w : World} (h : (nestVL e l).holds w) (hS : ∀ b ∈ (nestVL e l).foot, S b) : VLF S w l := fun i => by
  rcases gt_mem_or l i with hm | hm
  · exact Fr.of_row (h _ hm).1 (fun b hb => hS b (big_foot (f := resVL e) hm b hb)) (h _ hm).2
  · rw [hm]; exact Fr.nil _ _ _ _
theorem ILF.of {e : Nat} {l : List IL} {S : Nat → Prop} {w : World} (h : (nestIL e l).holds w) (hS : ∀ b ∈ (nestIL e l).foot, S b) : ILF S w l := fun i => by
  rcases gt_mem_or l i with hm | hm
  · exact Fr.of_row (h _ hm).1 (fun b hb => hS b (big_foot (f := resIL e) hm b hb)) (h _ hm).2
  · rw [hm]; exact Fr.nil _ _ _ _
section
variable {V : Env} {P : Program} {Q : Exit → Act → World → Prop} {ops : Array Oper} {N : Nat} {L : List (Nat × Value)} {H R : List Res} {S : Nat → Prop} {wf : World} {rest : List Oper}
theorem RTF.lent {e : Nat} {l : List RT} {wf1 : World} (hR : ∀ r ∈ R, r.holds wf1) (i : Nat) (hi : R[i]? = some (nestR e l)) : RTF (fun b => S b ∨ b ∈ feet R) wf1 l := RTF.of (hR _ (List.mem_of_getElem? hi)) (fun b hb => .inr (feet_of i hi hb))
theorem VLF.lent {e : Nat} {l : List VL} {wf1 : World} (hR : ∀ r ∈ R, r.holds wf1) (i : Nat) (hi : R[i]? = some (nestVL e l)) : VLF (fun b => S b ∨ b ∈ feet R) wf1 l := VLF.of (hR _ (List.mem_of_getElem? hi)) (fun b hb => .inr (feet_of i hi hb))
theorem ILF.lent {e : Nat} {l : List IL} {wf1 : World} (hR : ∀ r ∈ R, r.holds wf1) (i : Nat) (hi : R[i]? = some (nestIL e l)) : ILF (fun b => S b ∨ b ∈ feet R) wf1 l := ILF.of (hR _ (List.mem_of_getElem? hi)) (fun b hb => .inr (feet_of i hi hb))
theorem RTF.lend {e : Nat} {l : List RT} {C0 R1 : List Res} {w : World} (hw : WW V S wf (C0 ++ (R1 ++ R)) w) (i : Nat) (hi : R1[i]? = some (nestR e l)) : RTF (fun b => S b ∨ b ∈ feet R1) w l :=
  RTF.of (hw.has _ (List.mem_append_right _ (List.mem_append_left _ (List.mem_of_getElem? hi)))) (fun b hb => .inr (feet_of i hi hb))
theorem VLF.lend {e : Nat} {l : List VL} {C0 R1 : List Res} {w : World} (hw : WW V S wf (C0 ++ (R1 ++ R)) w) (i : Nat) (hi : R1[i]? = some (nestVL e l)) : VLF (fun b => S b ∨ b ∈ feet R1) w l :=
  VLF.of (hw.has _ (List.mem_append_right _ (List.mem_append_left _ (List.mem_of_getElem? hi)))) (fun b hb => .inr (feet_of i hi hb))
theorem ILF.lend {e : Nat} {l : List IL} {C0 R1 : List Res} {w : World} (hw : WW V S wf (C0 ++ (R1 ++ R)) w) (i : Nat) (hi : R1[i]? = some (nestIL e l)) : ILF (fun b => S b ∨ b ∈ feet R1) w l :=
  ILF.of (hw.has _ (List.mem_append_right _ (List.mem_append_left _ (List.mem_of_getElem? hi)))) (fun b hb => .inr (feet_of i hi hb))
theorem WW.bigapp {α : Type} {f : α → Res} {l : List α} {x : α} {r : Res} {w : World} (h : WW V S wf (big f l :: r :: R) w) (hf : (f x).foot = r.foot) (hh : r.holds w → (f x).holds w) : WW V S wf (big f (l ++ [x]) :: R) w :=
  WW.swap (A := [big f l, r]) h (by simp [big, feet, List.flatMap_append, hf]) (fun hA y hy => by
    rcases List.mem_append.1 hy with hy | hy
    · exact hA _ (List.mem_cons_self ..) y hy
    · simp only [List.mem_singleton] at hy; subst hy; exact hh (hA _ (by simp)))
theorem WW.big0 {α : Type} (f : α → Res) {w : World} (h : WW V S wf H w) : WW V S wf (big f [] :: H) w := WW.swap (A := []) h rfl (fun _ x hx => by cases hx)
theorem SC.nestR0 (e : Nat) {c : Code} (h : SC V P Q N c ⟨L, nestR e [] :: H, S, wf⟩) : SC V P Q N c ⟨L, H, S, wf⟩ := fun a w hs hw => h a w hs (hw.big0 _)
theorem SC.nestVL0 (e : Nat) {c : Code} (h : SC V P Q N c ⟨L, nestVL e [] :: H, S, wf⟩) : SC V P Q N c ⟨L, H, S, wf⟩ := fun a w hs hw => h a w hs (hw.big0 _)
theorem SP.nestR0 (e : Nat) (h : SP V P Q ops N rest ⟨L, nestR e [] :: H, S, wf⟩) : SP V P Q ops N rest ⟨L, H, S, wf⟩ := fun a w hs hw => h a w hs (hw.big0 _)
theorem SP.nestVL0 (e : Nat) (h : SP V P Q ops N rest ⟨L, nestVL e [] :: H, S, wf⟩) : SP V P Q ops N rest ⟨L, H, S, wf⟩ := fun a w hs hw => h a w hs (hw.big0 _)
theorem SC.packR {e : Nat} {l : List RT} (s : RT) {c : Code} (hp : PickL H [nestR e l, rw_ eVis e (.slice s.rA s.vis.length s.rc) s.vis] R) (hb : s.vis.length ≤ 140737488355328) (h : SC V P Q N c ⟨L, nestR e (l ++ [s]) :: R, S, wf⟩) : SC V P Q N c ⟨L, H, S, wf⟩ := fun a w hs hw => h a w hs (WW.bigapp (hw.perm hp.perm) rfl (fun h => ⟨h, hb⟩))
theorem SP.packR {e : Nat} {l : List RT} (s : RT) (hp : PickL H [nestR e l, rw_ eVis e (.slice s.rA s.vis.length s.rc) s.vis] R) (hb : s.vis.length ≤ 140737488355328) (h : SP V P Q ops N rest ⟨L, nestR e (l ++ [s]) :: R, S, wf⟩) : SP V P Q ops N rest ⟨L, H, S, wf⟩ := fun a w hs hw => h a w hs (WW.bigapp (hw.perm hp.perm) rfl (fun h => ⟨h, hb⟩))
theorem SC.packVL {e : Nat} {l : List VL} (s : VL) {c : Code} (hp : PickL H [nestVL e l, rw_ eVis e (.slice s.wlA s.vl.length s.wlc) s.vl] R) (hb : s.vl.length ≤ 140737488355328) (h : SC V P Q N c ⟨L, nestVL e (l ++ [s]) :: R, S, wf⟩) : SC V P Q N c ⟨L, H, S, wf⟩ := fun a w hs hw => h a w hs (WW.bigapp (hw.perm hp.perm) rfl (fun h => ⟨h, hb⟩))
theorem SP.packVL {e : Nat} {l : List VL} (s : VL) (hp : PickL H [nestVL e l, rw_ eVis e (.slice s.wlA s.vl.length s.wlc) s.vl] R) (hb : s.vl.length ≤ 140737488355328) (h : SP V P Q ops N rest ⟨L, nestVL e (l ++ [s]) :: R, S, wf⟩) : SP V P Q ops N rest ⟨L, H, S, wf⟩ := fun a w hs hw => h a w hs (WW.bigapp (hw.perm hp.perm) rfl (fun h => ⟨h, hb⟩))
theorem WW.freeze {w : World} (h : WW V S wf (R ++ H) w) : WW V (fun b => S b ∨ b ∈ feet R) w H w where
  has r hr := h.has r (List.mem_append_right _ hr)
  nd := by have := h.nd; rw [feet_append] at this; exact (List.nodup_append.1 this).2.1
  sep b hb := by
    have h1 := h.sep b (by rw [feet_append]; exact List.mem_append_right _ hb)
    refine ⟨fun hs => ?_, h1.2⟩
    rcases hs with hs | hs
    · exact h1.1 hs
    · have := h.nd
      rw [feet_append] at this
      exact (List.nodup_append.1 this).2.2 b hs b hb rfl
  fz b hb := by
    refine ⟨?_, rfl⟩
    rcases hb with hb | hb
    · exact h.fz.lt hb
    · exact h.lt b (by rw [feet_append]; exact List.mem_append_left _ hb)
  new b hb := by
    rcases hb with hb | hb
    · exact h.new b hb
    · exact .inr (h.sep b (by rw [feet_append]; exact List.mem_append_left _ hb)).2
  fr := h.fr
  sz := h.sz
  os := h.os
  tape := h.tape
  output := h.output
theorem WW.thaw {S1 : Nat → Prop} {wf1 w : World} (hx : Ext S wf S1 wf1) (h : WW V S1 wf1 H w) : WW V S wf H w where
  has := h.has
  nd := h.nd
  sep b hb := ⟨fun hs => (h.sep b hb).1 (hx b hs).1, (h.sep b hb).2⟩
  fz b hb := ⟨(hx b hb).2.1, by rw [← (hx b hb).2.2]; exact (h.fz b (hx b hb).1).2⟩
  new b hb := h.new b (hx b hb).1
  fr := h.fr
  sz := h.sz
  os := h.os
  tape := h.tape
  output := h.output
theorem SC.freeze {c : Code} {H' : List Res} (hp : PickL H R H') (h : ∀ S1 wf1, Ext S wf S1 wf1 → (∀ r ∈ R, r.holds wf1) → (∀ b ∈ feet R, S1 b) → SC V P Q N c ⟨L, H', S1, wf1⟩) : SC V P Q N c ⟨L, H, S, wf⟩ := fun a w hs hw =>
  have hw' := hw.perm hp.perm
  h _ w (fun b hb => ⟨.inl hb, (hw.fz b hb).1, (hw.fz b hb).2⟩) (fun r hr => hw'.has r (List.mem_append_left _ hr)) (fun b hb => .inr hb) a w hs hw'.freeze
theorem SP.freeze {H' : List Res} (hp : PickL H R H') (h : ∀ S1 wf1, Ext S wf S1 wf1 → (∀ r ∈ R, r.holds wf1) → (∀ b ∈ feet R, S1 b) → SP V P Q ops N rest ⟨L, H', S1, wf1⟩) : SP V P Q ops N rest ⟨L, H, S, wf⟩ := fun a w hs hw =>
  have hw' := hw.perm hp.perm
  h _ w (fun b hb => ⟨.inl hb, (hw.fz b hb).1, (hw.fz b hb).2⟩) (fun r hr => hw'.has r (List.mem_append_left _ hr)) (fun b hb => .inr hb) a w hs hw'.freeze
theorem SC.thaw {c : Code} {S1 : Nat → Prop} {wf1 : World} (hx : Ext S wf S1 wf1) (h : SC V P Q N c ⟨L, H, S, wf⟩) : SC V P Q N c ⟨L, H, S1, wf1⟩ := fun a w hs hw => h a w hs (hw.thaw hx)
theorem SP.thaw {S1 : Nat → Prop} {wf1 : World} (hx : Ext S wf S1 wf1) (h : SP V P Q ops N rest ⟨L, H, S, wf⟩) : SP V P Q ops N rest ⟨L, H, S1, wf1⟩ := fun a w hs hw => h a w hs (hw.thaw hx)
end
end Go.SX
namespace Go.SX
open Go Go.RowKit
def ban (k : IntKind) (x y : Int) : Int := k.wrap (BitVec.ofInt k.bits x &&& ~~~ BitVec.ofInt k.bits y).toNat
section
variable {P : Program} {L : List (Nat × Value)} {o : Oper} {C : World → Prop}
theorem ev_bandn {t t' : TypeId} {x y : Operand} {k : IntKind} {a b : Int} (ho : o.op = .binOp .andNot t x y t') (hx : lk L x = some (.int k a)) (hy : lk L y = some (.int k b)) : Ev P C L o (.int k (ban k a b)) :=
  ev_bin ho hx hy (fun w => by simp [eqGuard, binOp, Op.intBits, ban, pure])
theorem Ev.reslot {t : Nat} {v u : Value} (h : lk L (.tmp t) = some v) (k : Ev P C ((t, v) :: L) o u) : Ev P C L o u := by
  have h : lkp L t = some v := h
  have hl : ∀ x, lk ((t, v) :: L) x = lk L x := fun x => by
    cases x with
    | tmp s =>
      show lkp ((t, v) :: L) s = lkp L s
      rw [lkp]
      cases hq : Nat.beq s t with
      | true => rw [cond_true, Nat.eq_of_beq_eq_true hq, h]
      | false => rw [cond_false]
    | _ => rfl
  have he : ev ((t, v) :: L) = ev L := funext fun x => by unfold ev; rw [hl]
  have hk : known ((t, v) :: L) = known L := funext fun x => by unfold known; rw [hl]
  obtain ⟨h1, h2, h3⟩ := k
  rw [he] at h3; rw [hk] at h2
  exact ⟨h1, h2, h3⟩
theorem ev_max {x y : Operand} {a b : Int} {t : Array TypeId} (ho : o.op = .call { callee := .builtin .max, args := #[x, y], argTypes := t }) (hx : lk L x = some (.int .i64 a)) (hy : lk L y = some (.int .i64 b)) : Ev P C L o (.int .i64 (max a b)) :=
  ⟨by simp [ho, noSel], by simp [ho, Op.operands, Call.operands, known_of hx, known_of hy], fun w _ => by
    simp [execOp, ho, ev_of hx, ev_of hy, resolve, invoke, builtin, Builtin.max_, Builtin.max2]
    rw [Int.max_def]
    split <;> split <;> omega⟩
end
theorem mulb {a b : Int} (h1 : -2000000000 ≤ a) (h2 : a ≤ 2000000000) (h3 : -2000000000 ≤ b) (h4 : b ≤ 2000000000) : -4000000000000000000 ≤ a * b ∧ a * b ≤ 4000000000000000000 := by
  have e : (a * b).natAbs ≤ 4000000000000000000 := by
    rw [Int.natAbs_mul]
    exact Nat.mul_le_mul (show a.natAbs ≤ 2000000000 by omega) (show b.natAbs ≤ 2000000000 by omega)
  omega
theorem mul_rng {f n : Int} (hn : n ≤ 32) : 0 ≤ f → f < n → 0 ≤ f * n ∧ f * n ≤ 992 := fun h0 h1 => by
  have h2 : 0 ≤ f * n := Int.mul_nonneg h0 (by omega)
  have h3 : f * n ≤ 31 * 32 := Int.mul_le_mul (by omega) hn (by omega) (by omega)
  omega
def addL (a b : List Int) : List Int := List.zipWith (fun x y => x + y) a b
def subL (a b : List Int) : List Int := List.zipWith (fun x y => x - y) a b
theorem zip_next {f : Int → Int → Int} {a b : List Int} {i : Int} (h0 : 0 ≤ i) (h1 : i < (a.length : Int)) (h2 : i < (b.length : Int)) : List.zipWith f (a.take (i + 1).toNat) (b.take (i + 1).toNat) = List.zipWith f (a.take i.toNat) (b.take i.toNat) ++ [f (gt a i) (gt b i)] := by
  rw [take_gt h0 h1, take_gt h0 h2, List.zipWith_append (by simp; omega)]
  rfl
theorem addL_next {a b X : List Int} {i : Int} (h : X = addL (a.take i.toNat) (b.take i.toNat)) (h0 : 0 ≤ i) (h1 : i < (a.length : Int)) (h2 : i < (b.length : Int)) : X ++ [gt a i + gt b i] = addL (a.take (i + 1).toNat) (b.take (i + 1).toNat) := by
  unfold addL at *; rw [zip_next h0 h1 h2, h]
theorem subL_next {a b X : List Int} {i : Int} (h : X = subL (a.take i.toNat) (b.take i.toNat)) (h0 : 0 ≤ i) (h1 : i < (a.length : Int)) (h2 : i < (b.length : Int)) : X ++ [gt a i - gt b i] = subL (a.take (i + 1).toNat) (b.take (i + 1).toNat) := by
  unfold subL at *; rw [zip_next h0 h1 h2, h]
theorem zip_all {f : List Int → List Int → List Int} {a b X : List Int} {i : Int} (h : X = f (a.take i.toNat) (b.take i.toNat)) (h1 : ¬ i < (a.length : Int)) (h2 : a.length = b.length) : X = f a b := by
  rw [h, List.take_of_length_le (by omega), List.take_of_length_le (by omega)]
theorem addL_len {a b : List Int} : (addL a b).length = min a.length b.length := by simp [addL]
theorem subL_len {a b : List Int} : (subL a b).length = min a.length b.length := by simp [subL]
theorem gt_zip {f : Int → Int → Int} {a b : List Int} (hl : a.length = b.length) (hf : f 0 0 = 0) (i : Int) : gt (List.zipWith f a b) i = f (gt a i) (gt b i) := by
  unfold gt
  simp only [List.getD_eq_getElem?_getD, List.getElem?_zipWith]
  by_cases h : i.toNat < a.length
  · rw [List.getElem?_eq_getElem h, List.getElem?_eq_getElem (by omega)]; rfl
  · rw [List.getElem?_eq_none (by omega), List.getElem?_eq_none (by omega)]; exact hf.symm
theorem gt_add {a b : List Int} (hl : a.length = b.length) (i : Int) : gt (addL a b) i = gt a i + gt b i := gt_zip hl rfl i
theorem gt_sub {a b : List Int} (hl : a.length = b.length) (i : Int) : gt (subL a b) i = gt a i - gt b i := gt_zip hl rfl i
def bdd (m : Int) (l : List Int) : Prop := ∀ i : Int, -m ≤ gt l i ∧ gt l i ≤ m
def underL : List Int → List Int → Bool
  | x :: r, y :: s => if x > y then false else underL r s
  | _, _ => true
def underF (a b : List Int) : Bool := if a.length = b.length then underL a b else false
theorem underL_cons {x y : Int} {r s : List Int} : underL (x :: r) (y :: s) = if x > y then false else underL r s := rfl
theorem underL_end {a b : List Int} {i : Int} {r : Bool} (h : underL (a.drop i.toNat) (b.drop i.toNat) = r) (h1 : ¬ i < (a.length : Int)) : true = r := by
  rw [drop_end h1] at h; rw [← h]; rfl
def startF : List WN → Int → Int × Bool
  | [], _ => (0, false)
  | w :: r, t => if t ≤ w.hi then (max t w.lo, true) else startF r t
theorem startF_cons {w : WN} {r : List WN} {t : Int} : startF (w :: r) t = if t ≤ w.hi then (max t w.lo, true) else startF r t := rfl
def thereF (p : PB) (t : TK) : Bool := if t.ship then decide (0 ≤ t.item ∧ t.item < p.ships.length) else decide (0 ≤ t.item ∧ t.item < p.jobs.length)
def prioF (p : PB) (t : TK) : Int := if thereF p t = true then (if t.ship then (gt p.ships t.item).spr else (gt p.jobs t.item).jpr) else 0
def skilF (p : PB) (t : TK) : Int := if thereF p t = true then (if t.ship then (gt p.ships t.item).ssk else (gt p.jobs t.item).jsk) else 0
def taskV (x : Vis) : TK := if x.kind = 1 then ⟨false, x.item⟩ else if x.kind = 2 ∨ x.kind = 3 then ⟨true, x.item⟩ else ⟨false, 0⟩
def isTask (x : Vis) : Bool := decide (x.kind = 1 ∨ x.kind = 2 ∨ x.kind = 3)
def visT (t : TK) : List Vis := if t.ship then [⟨2, t.item⟩, ⟨3, t.item⟩] else [⟨1, t.item⟩]
def isStop (p : PB) (x : Vis) : Bool := isTask x && thereF p (taskV x)
def stopO (p : PB) (x : Vis) : SO := if x.kind = 1 then (gt p.jobs x.item).so else if x.kind = 2 then (gt p.ships x.item).sp else (gt p.ships x.item).sd
def stopD (p : PB) (x : Vis) : SO := if isStop p x = true then stopO p x else default
theorem task1 {x : Vis} (h : x.kind = 1) : taskV x = ⟨false, x.item⟩ ∧ isTask x = true := by unfold taskV isTask; simp [h]
theorem task2 {x : Vis} (h : x.kind = 2) : taskV x = ⟨true, x.item⟩ ∧ isTask x = true := by unfold taskV isTask; simp [h]
theorem task3 {x : Vis} (h : x.kind = 3) : taskV x = ⟨true, x.item⟩ ∧ isTask x = true := by unfold taskV isTask; simp [h]
theorem task23 {x : Vis} (h : x.kind = 2 ∨ x.kind = 3) : taskV x = ⟨true, x.item⟩ ∧ isTask x = true := h.elim task2 task3
theorem task_no {x : Vis} (h : x.kind ≠ 1) (h2 : x.kind ≠ 2) (h3 : x.kind ≠ 3) : taskV x = ⟨false, 0⟩ ∧ isTask x = false := by unfold taskV isTask; simp [h, h2, h3]
theorem there_f {p : PB} {y : Int} : thereF p ⟨false, y⟩ = decide (0 ≤ y ∧ y < p.jobs.length) := rfl
theorem there_t {p : PB} {y : Int} : thereF p ⟨true, y⟩ = decide (0 ≤ y ∧ y < p.ships.length) := rfl
theorem thr_t {p : PB} {t : TK} (h : ¬ ¬ thereF p t = true) (hs : t.ship = true) : 0 ≤ t.item ∧ t.item < (p.ships.length : Int) := by
  have h := Classical.not_not.1 h; unfold thereF at h; rw [if_pos hs] at h; exact of_decide_eq_true h
theorem thr_f {p : PB} {t : TK} (h : ¬ ¬ thereF p t = true) (hs : ¬ t.ship = true) : 0 ≤ t.item ∧ t.item < (p.jobs.length : Int) := by
  have h := Classical.not_not.1 h; unfold thereF at h; rw [if_neg hs] at h; exact of_decide_eq_true h
theorem stop_no {p : PB} {x : Vis} (h : ¬ isTask x = true ∨ ¬ thereF p (taskV x) = true) : isStop p x = false ∧ stopD p x = default := by
  have e : isStop p x = false := by unfold isStop; rcases h with h | h <;> simp [h]
  exact ⟨e, by unfold stopD; rw [e]; rfl⟩
theorem stop_yes {p : PB} {x : Vis} (h : ¬ (¬ isTask x = true ∨ ¬ thereF p (taskV x) = true)) : isStop p x = true ∧ stopD p x = stopO p x := by
  have e : isStop p x = true := by
    unfold isStop
    have h1 := Classical.not_not.1 (fun e => h (.inl e)); have h2 := Classical.not_not.1 (fun e => h (.inr e))
    rw [h1, h2]; rfl
  exact ⟨e, by unfold stopD; rw [e]; rfl⟩
theorem stop_i1 {p : PB} {x : Vis} (h : ¬ (¬ isTask x = true ∨ ¬ thereF p (taskV x) = true)) (hk : x.kind = 1) : 0 ≤ x.item ∧ x.item < (p.jobs.length : Int) := by
  have h2 := Classical.not_not.1 (fun e => h (.inr e)); rw [(task1 hk).1, there_f] at h2; exact of_decide_eq_true h2
theorem stop_i2 {p : PB} {x : Vis} (h : ¬ (¬ isTask x = true ∨ ¬ thereF p (taskV x) = true)) (hk : x.kind ≠ 1) : 0 ≤ x.item ∧ x.item < (p.ships.length : Int) := by
  have h1 := Classical.not_not.1 (fun e => h (.inl e)); have h2 := Classical.not_not.1 (fun e => h (.inr e))
  unfold isTask at h1; have h1 := of_decide_eq_true h1
  have h3 : x.kind = 2 ∨ x.kind = 3 := by rcases h1 with h | h | h <;> simp_all
  have h4 : taskV x = ⟨true, x.item⟩ := by rcases h3 with h3 | h3 <;> simp [taskV, h3]
  rw [h4, there_t] at h2; exact of_decide_eq_true h2
theorem stopO1 {p : PB} {x : Vis} (h : x.kind = 1) : stopO p x = (gt p.jobs x.item).so := by unfold stopO; rw [if_pos h]
theorem stopO2 {p : PB} {x : Vis} (h : x.kind = 2) : stopO p x = (gt p.ships x.item).sp := by unfold stopO; rw [if_neg (by omega), if_pos h]
theorem stopO3 {p : PB} {x : Vis} (h : ¬ x.kind = 1) (h2 : ¬ x.kind = 2) : stopO p x = (gt p.ships x.item).sd := by unfold stopO; rw [if_neg h, if_neg h2]
theorem SOF.dflt {S : Nat → Prop} {wf : World} : SOF S wf default := Fr.nil _ _ _ _
def cellF (n : Int) (l : List Int) (f t : Int) : Int := if f < 0 ∨ t < 0 ∨ f ≥ n ∨ t ≥ n then -1 else gt l (f * n + t)
theorem cell_in {f t n : Int} : 0 ≤ f → f < n → 0 ≤ t → t < n → 0 ≤ f * n ∧ 0 ≤ f * n + t ∧ f * n + t < n * n := fun h0 h1 h2 h3 => by
  have h4 : 0 ≤ f * n := Int.mul_nonneg h0 (by omega)
  have h5 : (f + 1) * n ≤ n * n := Int.mul_le_mul_of_nonneg_right (by omega) (by omega)
  rw [Int.add_mul] at h5
  omega
theorem prio_no {p : PB} {t : TK} (h : ¬ thereF p t = true) : prioF p t = 0 ∧ skilF p t = 0 := by unfold prioF skilF; rw [if_neg h, if_neg h]; exact ⟨rfl, rfl⟩
theorem prio_t {p : PB} {t : TK} (h : ¬ ¬ thereF p t = true) (hs : t.ship = true) : prioF p t = (gt p.ships t.item).spr ∧ skilF p t = (gt p.ships t.item).ssk := by
  have h := Classical.not_not.1 h; unfold prioF skilF; rw [if_pos h, if_pos h, if_pos hs, if_pos hs]; exact ⟨rfl, rfl⟩
theorem prio_f {p : PB} {t : TK} (h : ¬ ¬ thereF p t = true) (hs : ¬ t.ship = true) : prioF p t = (gt p.jobs t.item).jpr ∧ skilF p t = (gt p.jobs t.item).jsk := by
  have h := Classical.not_not.1 h; unfold prioF skilF; rw [if_pos h, if_pos h, if_neg hs, if_neg hs]; exact ⟨rfl, rfl⟩
end Go.SX
namespace Go.SX
open Go Go.RowKit
def rIL (e : Nat) (s : IL) : Res := rw_ eZ e (.slice s.ilA s.il.length s.ilc) s.il
def inow (e : Nat) (own : Bool) (x : IL) (l : List IL) : Res where
  foot := (if own then (rIL e x).foot else []) ++ (nestIL e l).foot
  holds w := (own = true → (resIL e x).holds w) ∧ (nestIL e l).holds w ∧ (own = false → x ∈ l)
  stable w w' h hw := ⟨fun ho => (resIL e x).stable w w' (fun b hb => h b (List.mem_append_left _ (by rw [if_pos ho]; exact hb))) (hw.1 ho), (nestIL e l).stable w w' (fun b hb => h b (List.mem_append_right _ hb)) hw.2.1, hw.2.2⟩
  lt w hw b hb := by
    rcases List.mem_append.1 hb with hb | hb
    · cases own with
      | true => exact (resIL e x).lt w (hw.1 rfl) b hb
      | false => cases hb
    · exact (nestIL e l).lt w hw.2.1 b hb
def INF (S : Nat → Prop) (wf : World) (x : IL) (l : List IL) : Prop := Fr eZ S wf x.ilA x.il ∧ ILF S wf l
theorem INF.of {e : Nat} {own : Bool} {x : IL} {l : List IL} {S : Nat → Prop} {w : World} (h : (inow e own x l).holds w) (hS : ∀ b ∈ (inow e own x l).foot, S b) : INF S w x l := by
  have h2 : ILF S w l := ILF.of h.2.1 (fun b hb => hS b (List.mem_append_right _ hb))
  refine ⟨?_, h2⟩
  cases own with
  | true => exact Fr.of_row (h.1 rfl).1 (fun b hb => hS b (List.mem_append_left _ hb)) (h.1 rfl).2
  | false =>
    obtain ⟨n, hn, e⟩ := List.getElem_of_mem (h.2.2 rfl)
    have h3 := h2 n
    have e2 : gt l (n : Int) = x := by simp [gt, List.getD_eq_getElem?_getD, hn, e]
    rw [e2] at h3; exact h3
section
variable {V : Env} {P : Program} {Q : Exit → Act → World → Prop} {ops : Array Oper} {N : Nat} {L : List (Nat × Value)} {H R : List Res} {S : Nat → Prop} {wf : World} {rest : List Oper}
theorem INF.lent {e : Nat} {own : Bool} {x : IL} {l : List IL} {wf1 : World} (hR : ∀ r ∈ R, r.holds wf1) (i : Nat) (hi : R[i]? = some (inow e own x l)) : INF (fun b => S b ∨ b ∈ feet R) wf1 x l := INF.of (hR _ (List.mem_of_getElem? hi)) (fun b hb => .inr (feet_of i hi hb))
theorem INF.lend {e : Nat} {own : Bool} {x : IL} {l : List IL} {C0 R1 : List Res} {w : World} (hw : WW V S wf (C0 ++ (R1 ++ R)) w) (i : Nat) (hi : R1[i]? = some (inow e own x l)) : INF (fun b => S b ∨ b ∈ feet R1) w x l :=
  INF.of (hw.has _ (List.mem_append_right _ (List.mem_append_left _ (List.mem_of_getElem? hi)))) (fun b hb => .inr (feet_of i hi hb))
theorem SC.inow0 {e : Nat} (x : IL) {c : Code} (hp : PickL H [rw_ eZ e (.slice x.ilA x.il.length x.ilc) x.il] R) (hb : x.il.length ≤ 140737488355328) (h : SC V P Q N c ⟨L, inow e false x [x] :: R, S, wf⟩) : SC V P Q N c ⟨L, H, S, wf⟩ := fun a w hs hw =>
  h a w hs (WW.swap (hw.perm hp.perm) (by simp [inow, nestIL, big, resIL, rowB, feet]) (fun hA => ⟨fun h => (by cases h), fun y hy => by simp only [List.mem_singleton] at hy; subst hy; exact ⟨hA _ (by simp), hb⟩, fun _ => by simp⟩))
theorem SC.inowk {e : Nat} {own : Bool} {x : IL} {l : List IL} (s : IL) {c : Code} (hp : PickL H [inow e own x l, rw_ eZ e (.slice s.ilA s.il.length s.ilc) s.il] R) (hb : s.il.length ≤ 140737488355328) (h : SC V P Q N c ⟨L, inow e own x (l ++ [s]) :: R, S, wf⟩) : SC V P Q N c ⟨L, H, S, wf⟩ := fun a w hs hw =>
  h a w hs (WW.swap (hw.perm hp.perm) (by simp [inow, nestIL, big, resIL, rowB, feet, List.flatMap_append]) (fun hA => by
    obtain ⟨h1, h2, h3⟩ := hA _ (List.mem_cons_self ..)
    refine ⟨h1, fun y hy => ?_, fun ho => List.mem_append_left _ (h3 ho)⟩
    rcases List.mem_append.1 hy with hy | hy
    · exact h2 y hy
    · simp only [List.mem_singleton] at hy; subst hy; exact ⟨hA _ (by simp), hb⟩))
theorem WW.relist {A B : List Res} {w : World} (h : WW V S wf (A ++ R) w) (hf : (feet B).Perm (feet A)) (hh : (∀ x ∈ A, x.holds w) → ∀ x ∈ B, x.holds w) : WW V S wf (B ++ R) w := by
  have e : (feet (B ++ R)).Perm (feet (A ++ R)) := by rw [feet_append, feet_append]; exact hf.append_right _
  exact {
    has := fun r hr => by
      rcases List.mem_append.1 hr with hr | hr
      · exact hh (fun y hy => h.has y (List.mem_append_left _ hy)) r hr
      · exact h.has r (List.mem_append_right _ hr)
    nd := e.nodup_iff.2 h.nd
    sep := fun b hb => h.sep b (e.mem_iff.1 hb)
    fz := h.fz, new := h.new, fr := h.fr, sz := h.sz, os := h.os, tape := h.tape, output := h.output }
theorem SC.inown {e : Nat} {own : Bool} {x : IL} {l : List IL} (y s : IL) {c : Code} (hp : PickL H [inow e own x l, rw_ eZ e (.slice y.ilA y.il.length y.ilc) y.il, rw_ eZ e (.slice s.ilA s.il.length s.ilc) s.il] R) (hy : y.il.length ≤ 140737488355328) (hb : s.il.length ≤ 140737488355328)
    (h : SC V P Q N c ⟨L, inow e true y (l ++ [s]) :: R, S, wf⟩) : SC V P Q N c ⟨L, H, S, wf⟩ := fun a w hs hw => by
  have hw1 := hw.perm hp.perm
  have key : ∀ z ∈ l ++ [s], (nestIL e l).holds w → (rw_ eZ e (.slice s.ilA s.il.length s.ilc) s.il).holds w → (resIL e z).holds w := fun z hz h1 h2 => by
    rcases List.mem_append.1 hz with hz | hz
    · exact h1 z hz
    · simp only [List.mem_singleton] at hz; subst hz; exact ⟨h2, hb⟩
  cases own with
  | false =>
    refine h a w hs (WW.relist (B := [inow e true y (l ++ [s])]) hw1 ?_ (fun hA r hr => ?_))
    · simp only [inow, rIL, rw_, nestIL, big, resIL, rowB, feet, List.flatMap_append, List.flatMap_cons, List.flatMap_nil, List.append_nil, if_pos, Bool.false_eq_true, if_false, List.nil_append]
      simp only [← List.append_assoc]
      exact (List.perm_append_comm).append_right _
    · simp only [List.mem_singleton] at hr; subst hr
      exact ⟨fun _ => ⟨hA _ (by simp), hy⟩, fun z hz => key z hz (hA (inow e false x l) (by simp)).2.1 (hA _ (by simp)), fun h => by cases h⟩
  | true =>
    have h3 : WW V S wf ([rIL e x, inow e true y (l ++ [s])] ++ R) w := by
      refine WW.relist hw1 ?_ (fun hA r hr => ?_)
      · simp only [inow, rIL, rw_, nestIL, big, resIL, rowB, feet, List.flatMap_append, List.flatMap_cons, List.flatMap_nil, List.append_nil, if_pos]
        rw [List.append_assoc]
        refine List.Perm.append_left _ ?_
        simp only [← List.append_assoc]
        exact (List.perm_append_comm).append_right _
      · rcases List.mem_cons.1 hr with rfl | hr
        · exact ((hA (inow e true x l) (by simp)).1 rfl).1
        · simp only [List.mem_singleton] at hr; subst hr
          exact ⟨fun _ => ⟨hA _ (by simp), hy⟩, fun z hz => key z hz (hA (inow e true x l) (by simp)).2.1 (hA _ (by simp)), fun h => by cases h⟩
    exact h a w hs (WW.drop (C := [rIL e x]) h3)
theorem SC.inowend {e : Nat} {own : Bool} {x : IL} {l : List IL} {c : Code} (hp : PickL H [inow e own x l] R) (h : SC V P Q N c ⟨L, nestIL e l :: R, S, wf⟩) : SC V P Q N c ⟨L, H, S, wf⟩ := fun a w hs hw => by
  have hw1 := hw.perm hp.perm
  cases own with
  | false => exact h a w hs (WW.relist (B := [nestIL e l]) hw1 (by simp [inow, feet]) (fun hA r hr => by simp only [List.mem_singleton] at hr; subst hr; exact (hA (inow e false x l) (by simp)).2.1))
  | true =>
    have h3 : WW V S wf ([rIL e x, nestIL e l] ++ R) w := WW.relist hw1 (by simp [inow, feet]) (fun hA r hr => by
      rcases List.mem_cons.1 hr with rfl | hr
      · exact ((hA (inow e true x l) (by simp)).1 rfl).1
      · simp only [List.mem_singleton] at hr; subst hr; exact (hA (inow e true x l) (by simp)).2.1)
    exact h a w hs (WW.drop (C := [rIL e x]) h3)
end
end Go.SX
namespace Go.SX
open Go
def relOk (m j k L : Int) : Prop := 0 ≤ j ∧ j ≤ m ∧ (L = 2 → j < k ∧ k ≤ m + 1)
instance (m j k L : Int) : Decidable (relOk m j k L) := by unfold relOk; infer_instance
end Go.SX
namespace Go.SX
def ex2Ok (n m i j : Int) : Prop := 0 ≤ i ∧ i < n ∧ 0 ≤ j ∧ j < m
instance (n m i j : Int) : Decidable (ex2Ok n m i j) := by unfold ex2Ok; infer_instance
end Go.SX
namespace Go.SX
open Go Go.RowKit Go.Lib
instance : Inhabited Sl := ⟨⟨.bool false, rfl⟩⟩
end Go.SX
namespace Go.SX
def taOk (n m i j : Int) : Prop := 0 ≤ i ∧ i ≤ n ∧ 0 ≤ j ∧ j ≤ m ∧ ¬ (i = n ∧ j = m)
instance (n m i j : Int) : Decidable (taOk n m i j) := by unfold taOk; infer_instance
end Go.SX
namespace Go.SX
def tuOk (n m i j : Int) : Prop := 0 ≤ i ∧ i ≤ n ∧ 0 ≤ j ∧ j ≤ m ∧ n + m ≠ 0
instance (n m i j : Int) : Decidable (tuOk n m i j) := by unfold tuOk; infer_instance
end Go.SX
namespace Go.SX
def swOk (n k f L : Int) : Prop := ¬ (L = 2 ∧ (k ≤ f ∨ k > n + 1))
instance (n k f L : Int) : Decidable (swOk n k f L) := by unfold swOk; infer_instance
end Go.SX
namespace Go.SX
open Go
def putOk (n j k : Int) (s : Bool) : Prop := ¬ (j < 0 ∨ j > n ∨ (s = true ∧ (k ≤ j ∨ k > n + 1)))
instance (n j k : Int) (s : Bool) : Decidable (putOk n j k s) := by unfold putOk; infer_instance
end Go.SX
namespace Go.SX
open Go Go.RowKit
open Go.ChangeMaps (setBlock)
structure KE (P : Program) (k : TypeId) (α : Type) where
  f : α → Value
  inj : ∀ x y, f x = f y → x = y
  check : ∀ w b x, (Instr.checkKey b 10000 k (f x)).run P w = .ok () w
  find : ∀ w x (es : List MapEntry), (∀ e ∈ es, ∃ y, e.key = f y) → ((Instr.findKey k (f x) es).run P w = .ok none w ∧ ∀ e ∈ es, e.key ≠ f x) ∨ ∃ j e0, (Instr.findKey k (f x) es).run P w = .ok (some (j, e0.val)) w ∧ es[j]? = some e0 ∧ e0.key = f x
  bits : ∀ x, Instr.sameBits 10000 (f x) (f x) = true
theorem find_asking {P : Program} {k : TypeId} {α : Type} [DecidableEq α] (f : α → Value) (inj : ∀ x y, f x = f y → x = y) (heq : ∀ x y w, (Op.equal k (f x) (f y)).run P w = .ok (decide (x = y)) w) (w : World) (x : α) :
    ∀ (es : List MapEntry) (i : Nat), (∀ e ∈ es, ∃ y, e.key = f y) → ((Instr.findAsking k (f x) es i).run P w = .ok none w ∧ ∀ e ∈ es, e.key ≠ f x) ∨ ∃ j e0, (Instr.findAsking k (f x) es i).run P w = .ok (some (i + j, e0.val)) w ∧ es[j]? = some e0 ∧ e0.key = f x
  | [], i, _ => .inl ⟨by simp [Instr.findAsking], by simp⟩
  | e :: es, i, h => by
    obtain ⟨y, hy⟩ := h e (by simp)
    by_cases hxy : x = y
    · refine .inr ⟨0, e, ?_, by simp, by rw [hy, hxy]⟩
      simp only [Instr.findAsking, Sem.run_bind, hy, heq, hxy, decide_true, Result.andThen_ok, if_true]
      rfl
    · rcases find_asking f inj heq w x es (i + 1) (fun e he => h e (by simp [he])) with ⟨h1, h2⟩ | ⟨j, e0, h1, h2, h3⟩
      · refine .inl ⟨?_, ?_⟩
        · simp only [Instr.findAsking, Sem.run_bind, hy, heq, hxy, decide_false, Result.andThen_ok]
          exact h1
        · intro e' he'
          rcases List.mem_cons.1 he' with rfl | he'
          · rw [hy]; exact fun h => hxy (inj _ _ h).symm
          · exact h2 e' he'
      · refine .inr ⟨j + 1, e0, ?_, by simpa using h2, h3⟩
        simp only [Instr.findAsking, Sem.run_bind, hy, heq, hxy, decide_false, Result.andThen_ok]
        rw [show i + (j + 1) = i + 1 + j from by omega]
        exact h1
theorem find_now {kd : TypeDesc} {α : Type} [DecidableEq α] (f : α → Value) (inj : ∀ x y, f x = f y → x = y) (hs : ∀ x y, Instr.sameNow kd (f x) (f y) = some (decide (x = y))) (x : α) :
    ∀ (es : List MapEntry) (i : Nat), (∀ e ∈ es, ∃ y, e.key = f y) → (Instr.findNow kd (f x) es i = some none ∧ ∀ e ∈ es, e.key ≠ f x) ∨ ∃ j e0, Instr.findNow kd (f x) es i = some (some (i + j, e0.val)) ∧ es[j]? = some e0 ∧ e0.key = f x
  | [], i, _ => .inl ⟨by simp [Instr.findNow], by simp⟩
  | e :: es, i, h => by
    obtain ⟨y, hy⟩ := h e (by simp)
    by_cases hxy : x = y
    · refine .inr ⟨0, e, ?_, by simp, by rw [hy, hxy]⟩
      simp [Instr.findNow, hy, hs, hxy]
    · rcases find_now f inj hs x es (i + 1) (fun e he => h e (by simp [he])) with ⟨h1, h2⟩ | ⟨j, e0, h1, h2, h3⟩
      · refine .inl ⟨by simp [Instr.findNow, hy, hs, hxy, h1], ?_⟩
        intro e' he'
        rcases List.mem_cons.1 he' with rfl | he'
        · rw [hy]; exact fun h => hxy (inj _ _ h).symm
        · exact h2 e' he'
      · refine .inr ⟨j + 1, e0, ?_, by simpa using h2, h3⟩
        simp [Instr.findNow, hy, hs, hxy, h1]
        omega
def KE.ofStruct {P : Program} {k : TypeId} {α : Type} [DecidableEq α] {fs : Array Field} (f : α → Value) (inj : ∀ x y, f x = f y → x = y) (hu : P.underlying k = some (.struct fs)) (heq : ∀ x y w, (Op.equal k (f x) (f y)).run P w = .ok (decide (x = y)) w)
    (hc : ∀ w b x, (Instr.checkKey b 10000 k (f x)).run P w = .ok () w) (hb : ∀ x, Instr.sameBits 10000 (f x) (f x) = true) : KE P k α where
  f := f
  inj := inj
  check := hc
  bits := hb
  find w x es h := by
    have hn : ∀ (es : List MapEntry), es ≠ [] → ∀ i, Instr.findNow (.struct fs) (f x) es i = none := by
      intro es he i
      cases es with
      | nil => exact absurd rfl he
      | cons e r => simp [Instr.findNow, Instr.sameNow]
    by_cases h0 : es = []
    · subst h0
      refine .inl ⟨?_, by simp⟩
      simp [Instr.findKey, run_underlying hu, Instr.findNow]
    · have hr : (Instr.findKey k (f x) es).run P w = (Instr.findAsking k (f x) es 0).run P w := by
        simp only [Instr.findKey, Sem.run_bind, run_underlying hu, Result.andThen_ok, hn es h0 0]
      rw [hr]
      have := find_asking f inj heq w x es 0 h
      simpa using this
def KE.int {P : Program} {k : TypeId} {q : IntKind} (hu : P.underlying k = some (.int q)) : KE P k Int where
  f := .int q
  inj x y h := by injection h
  check w b x := by
    have : ∀ n, (Instr.checkKey b (n + 1) k (.int q x)).run P w = .ok () w := by intro n; simp [Instr.checkKey, run_underlying hu]
    exact this 9999
  bits x := by
    have : ∀ n, Instr.sameBits n (.int q x) (.int q x) = true := by intro n; cases n <;> simp [Instr.sameBits]
    exact this 10000
  find w x es h := by
    have hs : ∀ x y : Int, Instr.sameNow (.int q) (.int q x) (.int q y) = some (decide (x = y)) := by
      intro x y; simp only [Instr.sameNow, if_true]; congr 1
    rcases find_now (kd := .int q) (Value.int q) (fun x y h => by injection h) hs x es 0 h with ⟨h1, h2⟩ | ⟨j, e0, h1, h2, h3⟩
    · exact .inl ⟨by simp [Instr.findKey, run_underlying hu, h1], h2⟩
    · exact .inr ⟨j, e0, by simp [Instr.findKey, run_underlying hu, h1], h2, h3⟩
structure MC {α β : Type} (kf : α → Value) (vf : β → Value) (es : Array MapEntry) (clock : Nat) (m : List (α × β)) : Prop where
  kv : es.toList.map (fun e => (e.key, e.val)) = m.map (fun p => (kf p.1, vf p.2))
  nd : (m.map Prod.fst).Nodup
  bn : (es.toList.map MapEntry.born).Nodup
  old : ∀ e ∈ es.toList, e.born < clock
def mget {α β : Type} [DecidableEq α] (m : List (α × β)) (x : α) (z : β) : β := ((m.find? (fun p => decide (p.1 = x))).map Prod.snd).getD z
def mhas {α β : Type} [DecidableEq α] (m : List (α × β)) (x : α) : Bool := m.any (fun p => decide (p.1 = x))
def mins {α β : Type} [DecidableEq α] (m : List (α × β)) (x : α) (z : β) : List (α × β) := if mhas m x then m else m ++ [(x, z)]
def mset {α β : Type} [DecidableEq α] (m : List (α × β)) (x : α) (v : β) : List (α × β) := if mhas m x then m.map (fun p => if p.1 = x then (x, v) else p) else m ++ [(x, v)]
section
variable {α β : Type} [DecidableEq α] {m : List (α × β)} {x y : α} {v z : β}
theorem mhas_iff : mhas m x = true ↔ ∃ v, (x, v) ∈ m := by
  unfold mhas
  rw [List.any_eq_true]
  constructor
  · rintro ⟨p, hp, h⟩
    rw [decide_eq_true_iff] at h
    exact ⟨p.2, by rw [← h]; exact hp⟩
  · rintro ⟨v, hv⟩
    exact ⟨(x, v), hv, by simp⟩
theorem mget_cons {p : α × β} : mget (p :: m) x z = if p.1 = x then p.2 else mget m x z := by
  unfold mget
  rw [List.find?_cons]
  by_cases h : p.1 = x <;> simp [h]
theorem mget_none (h : mhas m x = false) : mget m x z = z := by
  induction m with
  | nil => rfl
  | cons p m ih =>
    unfold mhas at h ih
    rw [List.any_cons, Bool.or_eq_false_iff] at h
    rw [mget_cons, if_neg (by simpa using h.1), ih h.2]
theorem keys_ins : (mins m x z).map Prod.fst = if mhas m x then m.map Prod.fst else m.map Prod.fst ++ [x] := by
  unfold mins; split <;> simp
theorem nd_ins (h : (m.map Prod.fst).Nodup) : ((mins m x z).map Prod.fst).Nodup := by
  rw [keys_ins]
  split
  · exact h
  · rename_i hh
    rw [List.nodup_append]
    refine ⟨h, by simp, ?_⟩
    intro a ha b hb e
    simp only [List.mem_singleton] at hb
    subst hb e
    obtain ⟨p, hp, e⟩ := List.mem_map.1 ha
    exact hh (mhas_iff.2 ⟨p.2, by rw [← e]; exact hp⟩)
theorem keys_set : (mset m x v).map Prod.fst = if mhas m x then m.map Prod.fst else m.map Prod.fst ++ [x] := by
  unfold mset; split
  · rw [List.map_map]
    refine List.map_congr_left fun p hp => ?_
    simp only [Function.comp]
    by_cases h : p.1 = x
    · rw [if_pos h, h]
    · rw [if_neg h]
  · simp
theorem nd_set (h : (m.map Prod.fst).Nodup) : ((mset m x v).map Prod.fst).Nodup := by
  have := nd_ins (m := m) (x := x) (z := v) h
  rw [keys_ins] at this
  rw [keys_set]
  exact this
theorem mget_mem (h : (m.map Prod.fst).Nodup) (hm : (x, v) ∈ m) : mget m x z = v := by
  induction m with
  | nil => cases hm
  | cons p m ih =>
    rw [List.map_cons, List.nodup_cons] at h
    rw [mget_cons]
    rcases List.mem_cons.1 hm with rfl | hm
    · simp
    · rw [if_neg, ih h.2 hm]
      intro e
      exact h.1 (by rw [e]; exact List.mem_map.2 ⟨_, hm, rfl⟩)
end
end Go.SX
namespace Go.SX
open Go Go.RowKit
open Go.ChangeMaps (setBlock)
section
variable {α β : Type}
def mp (kf : α → Value) (vf : β → Value) (b : Nat) (m : List (α × β)) : Res where
  foot := [b]
  holds w := ∃ es clock, w.heap[b]? = some (.map es clock) ∧ MC kf vf es clock m
  stable w w' h hw := by rw [h b (by simp)]; exact hw
  lt w h b' hb := by
    simp at hb; subst hb
    obtain ⟨es, clock, h1, _⟩ := h
    exact lt_of_some h1
end
section
variable {V : Env} {P : Program} {Q : Exit → Act → World → Prop} {ops : Array Oper} {N : Nat} {o : Oper} {rest : List Oper} {L : List (Nat × Value)} {H R : List Res} {S : Nat → Prop} {wf : World} {K : St → Prop} {st : St} {C : World → Prop}
variable {α β : Type} [DecidableEq α] {vf : β → Value} {m : List (α × β)} {x : α} {v z : β} {b : Nat}
theorem MC.at {kf : α → Value} {es : Array MapEntry} {clock j : Nat} {e : MapEntry} (h : MC kf vf es clock m) (hj : es.toList[j]? = some e) : ∃ p, m[j]? = some p ∧ e.key = kf p.1 ∧ e.val = vf p.2 := by
  have := congrArg (fun l => l[j]?) h.kv
  simp only [List.getElem?_map, hj, Option.map_some] at this
  cases hm : m[j]? with
  | none => rw [hm] at this; cases this
  | some p =>
    rw [hm] at this
    simp only [Option.map_some, Option.some.injEq, Prod.mk.injEq] at this
    exact ⟨p, rfl, this.1, this.2⟩
theorem MC.keys {kf : α → Value} {es : Array MapEntry} {clock : Nat} (h : MC kf vf es clock m) : ∀ e ∈ es.toList, ∃ y, e.key = kf y := fun e he => by
  obtain ⟨j, hj⟩ := List.getElem?_of_mem he
  obtain ⟨p, _, h2, _⟩ := h.at hj
  exact ⟨p.1, h2⟩
theorem MC.len {kf : α → Value} {es : Array MapEntry} {clock : Nat} (h : MC kf vf es clock m) : es.toList.length = m.length := by
  have := congrArg List.length h.kv
  simpa using this
theorem MC.find {k : TypeId} {E : KE P k α} {es : Array MapEntry} {clock : Nat} (h : MC E.f vf es clock m) (w : World) (x : α) :
    ((Instr.findKey k (E.f x) es.toList).run P w = .ok none w ∧ mhas m x = false) ∨
    ∃ j e0 v, (Instr.findKey k (E.f x) es.toList).run P w = .ok (some (j, e0.val)) w ∧ es.toList[j]? = some e0 ∧ e0.key = E.f x ∧ m[j]? = some (x, v) ∧ e0.val = vf v ∧ mhas m x = true ∧ ∀ z, mget m x z = v := by
  rcases E.find w x es.toList h.keys with ⟨h1, h2⟩ | ⟨j, e0, h1, h2, h3⟩
  · refine .inl ⟨h1, ?_⟩
    rw [Bool.eq_false_iff]
    intro hm
    obtain ⟨v, hv⟩ := mhas_iff.1 hm
    obtain ⟨j, hj⟩ := List.getElem?_of_mem hv
    have hlt : j < es.toList.length := by rw [h.len]; exact (List.getElem?_eq_some_iff.1 hj).1
    obtain ⟨p, hp, h4, _⟩ := h.at (List.getElem?_eq_getElem hlt)
    rw [hj] at hp
    cases hp
    exact h2 _ (List.getElem_mem hlt) h4
  · obtain ⟨p, hp, h4, h5⟩ := h.at h2
    have hx : p.1 = x := E.inj _ _ (h4.symm.trans h3)
    have hp' : m[j]? = some (x, p.2) := by rw [hp, ← hx]
    exact .inr ⟨j, e0, p.2, h1, h2, h3, hp', h5, mhas_iff.2 ⟨p.2, List.mem_of_getElem? hp'⟩, fun z => mget_mem h.nd (List.mem_of_getElem? hp')⟩
theorem ev_lkp {t k e : TypeId} (E : KE P k α) {a y : Operand} (ho : o.op = .lookup t a y false) (hu : P.underlying t = some (.map k e)) (hz : (P.info? e).bind (fun i => i.zero) = some (vf z))
    (ha : lk L a = some (.map (some b))) (hy : lk L y = some (E.f x)) (i : Nat) (hi : H[i]? = some (mp E.f vf b m)) : Ev P (WW V S wf H) L o (vf (mget m x z)) :=
  ⟨by simp [ho, noSel], by simp [ho, Op.operands, known_of ha, known_of hy], fun w hw => by
    obtain ⟨es, clock, hb, hM⟩ := hw.has _ (List.mem_of_getElem? hi)
    obtain ⟨inf, hi1, hi2⟩ := Option.bind_eq_some_iff.1 hz
    have hzr : (zeroValue e).run P w = .ok (vf z) w := by simp [zeroValue, typeInfo, hi1, hi2]
    rcases hM.find w x with ⟨h1, h2⟩ | ⟨j, e0, u, h1, h2, h3, h4, h5, h6, h7⟩
    · simp [execOp, ho, ev_of ha, ev_of hy, Instr.lookup, run_underlying hu, MapKept.run_getObj_map hb, E.check, h1, hzr, Result.andThen, mget_none h2]
    · simp [execOp, ho, ev_of ha, ev_of hy, Instr.lookup, run_underlying hu, MapKept.run_getObj_map hb, E.check, h1, hzr, Result.andThen, h7, h5]⟩
theorem st_mkmap {t : TypeId} (kf : α → Value) (vf : β → Value) {d : Nat} (ho : o.op = .makeMap t none) (hg : o.guard = none) (hd : o.dst = some d) (hdN : Nat.blt d N = true)
    (k : ∀ b, K ⟨(d, .map (some b)) :: L, mp kf vf b [] :: H, S, wf⟩) : OpStep V P Q ops N o ⟨L, H, S, wf⟩ K :=
  .act hg hd hdN (by simp [ho, noSel]) (by rw [ho]; simp [Op.operands]) fun w hw => by
    refine ⟨_, _, _, by simp [execOp, ho, Instr.makeMap, newObj, Sem.run]; rfl, ?_, k w.heap.size⟩
    refine WW.change (C := []) (R := H) (C' := [mp kf vf w.heap.size []]) hw (fun b hb _ => Below.heap_alloc w _ b hb) (by simp) ?_ (by simp [mp]) (fun b hb => .inr ?_) rfl rfl rfl
    · intro r hr
      simp only [List.mem_singleton] at hr
      subst hr
      exact ⟨#[], 0, heap_alloc_new w _, ⟨by simp, by simp, by simp, by simp⟩⟩
    · simp [mp] at hb
      omega
theorem heap_setBlock_ne (w : World) (b : Nat) (o : Obj) (b' : Nat) (h : b' ≠ b) : (setBlock w b o).heap[b']? = w.heap[b']? := by
  simp [setBlock, Array.getElem?_setIfInBounds, Ne.symm h]
theorem heap_setBlock_at {w : World} {b : Nat} {o o' : Obj} (h : w.heap[b]? = some o) : (setBlock w b o').heap[b]? = some o' := by
  simp [setBlock, Array.getElem?_setIfInBounds, lt_of_some h]
theorem WW.setBlock {w : World} {r r' : Res} {o' : Obj} {o1 : Obj} (hw : WW V S wf (r :: R) w) (hf : r.foot = [b]) (hf' : r'.foot = [b]) (hb : w.heap[b]? = some o1) (h : r'.holds (setBlock w b o')) : WW V S wf (r' :: R) (setBlock w b o') := by
  refine WW.change (C := [r]) (R := R) (C' := [r']) hw (fun b' _ hn => heap_setBlock_ne _ _ _ _ (by simpa [hf] using hn)) (by simp [ChangeMaps.setBlock]) ?_ (by simp [hf']) (fun b' hb' => .inl (by simpa [hf, hf'] using hb')) rfl rfl rfl
  intro q hq
  simp only [List.mem_singleton] at hq
  subst hq
  exact h
theorem MC.push {kf : α → Value} {es : Array MapEntry} {clock : Nat} (h : MC kf vf es clock m) (hx : mhas m x = false) : MC kf vf (es.push ⟨kf x, vf v, clock⟩) (clock + 1) (m ++ [(x, v)]) where
  kv := by simp [h.kv]
  nd := by
    have := nd_ins (z := v) (x := x) h.nd
    unfold mins at this
    rwa [if_neg (by simp [hx])] at this
  bn := by
    rw [Array.toList_push, List.map_append, List.nodup_append]
    refine ⟨h.bn, by simp, ?_⟩
    intro a ha c hc e
    obtain ⟨e0, he0, rfl⟩ := List.mem_map.1 ha
    simp at hc
    have := h.old e0 he0
    omega
  old e he := by
    rw [Array.toList_push, List.mem_append] at he
    rcases he with he | he
    · have := h.old e he; omega
    · simp at he; subst he; simp
theorem set_map {kf : α → Value} {j : Nat} {u : β} (hn : (m.map Prod.fst).Nodup) (h : m[j]? = some (x, u)) : m.set j (x, v) = mset m x v := by
  have hm : mhas m x = true := mhas_iff.2 ⟨u, List.mem_of_getElem? h⟩
  unfold mset
  rw [if_pos hm]
  refine List.ext_getElem? fun i => ?_
  rw [List.getElem?_map]
  by_cases hij : j = i
  · subst hij
    rw [List.getElem?_set_self (List.getElem?_eq_some_iff.1 h).1, h]
    simp
  · rw [List.getElem?_set_ne hij]
    cases hi : m[i]? with
    | none => rfl
    | some p =>
      simp only [Option.map_some, Option.some.injEq]
      rw [if_neg]
      intro e
      have h1 : (m.map Prod.fst)[i]? = some x := by simp [hi, e]
      have h2 : (m.map Prod.fst)[j]? = some x := by simp [h]
      have hlt : i < (m.map Prod.fst).length := (List.getElem?_eq_some_iff.1 h1).1
      exact hij ((List.getElem?_inj hlt hn).1 (h1.trans h2.symm)).symm
theorem MC.set {kf : α → Value} {es : Array MapEntry} {clock j : Nat} {e0 : MapEntry} {u : β} (h : MC kf vf es clock m) (hj : es.toList[j]? = some e0) (hk : e0.key = kf x) (hm : m[j]? = some (x, u)) :
    MC kf vf (es.modify j (fun e => { e with val := vf v })) clock (mset m x v) := by
  have hl : (es.modify j (fun e => { e with val := vf v })).toList = es.toList.set j { e0 with val := vf v } := by rw [Array.toList_modify, ChangeMaps.modify_eq_set _ _ _ _ hj]
  have hlt := (List.getElem?_eq_some_iff.1 hj).1
  have hg := (List.getElem?_eq_some_iff.1 hj).2
  refine ⟨?_, nd_set h.nd, ?_, ?_⟩
  · rw [hl, List.map_set, h.kv, ← set_map (kf := kf) h.nd hm, List.map_set, hk]
  · rw [hl, List.map_set]
    have : (es.toList.map MapEntry.born).set j e0.born = es.toList.map MapEntry.born := by
      have e1 : e0.born = (es.toList.map MapEntry.born)[j]'(by simpa using hlt) := by simp [hg]
      rw [e1, List.set_getElem_self]
    show ((es.toList.map MapEntry.born).set j e0.born).Nodup
    rw [this]; exact h.bn
  · intro e he
    rw [hl] at he
    rcases List.mem_or_eq_of_mem_set he with he | rfl
    · exact h.old e he
    · exact h.old e0 (List.mem_of_getElem? hj)
end
end Go.SX
namespace Go.SX
open Go Go.RowKit
open Go.ChangeMaps (setBlock)
section
variable {V : Env} {P : Program} {Q : Exit → Act → World → Prop} {ops : Array Oper} {N : Nat} {o : Oper} {rest : List Oper} {L : List (Nat × Value)} {H R : List Res} {S : Nat → Prop} {wf : World} {K : St → Prop} {st : St} {C : World → Prop}
variable {α β : Type} [DecidableEq α] {vf : β → Value} {m : List (α × β)} {x : α} {v z : β} {b : Nat}
theorem MC.same {kf : α → Value} {es : Array MapEntry} {clock j : Nat} {e0 : MapEntry} (h : MC kf vf es clock m) (hj : es.toList[j]? = some e0) : es.modify j (fun e => { e with key := e0.key }) = es := by
  apply Array.toList_inj.1
  rw [Array.toList_modify, ChangeMaps.modify_eq_set _ _ _ _ hj]
  have hlt := (List.getElem?_eq_some_iff.1 hj).1
  have hg := (List.getElem?_eq_some_iff.1 hj).2
  show es.toList.set j e0 = es.toList
  rw [← hg, List.set_getElem_self]
theorem run_stays {k : TypeId} (E : KE P k α) (w : World) (x : α) : (Instr.keyThatStays (E.f x) (E.f x)).run P w = .ok (E.f x) w := by
  simp [Instr.keyThatStays, E.bits x]
theorem st_mapSet {t k e : TypeId} (E : KE P k α) {a s y : Operand} {u : Value} (ho : o.op = .mapUpdate t a s y) (hg : o.guard = none) (hd : o.dst = none) (hu : P.underlying t = some (.map k e))
    (ha : lk L a = some (.map (some b))) (hs : lk L s = some (E.f x)) (hy : lk L y = some (vf v)) (hp : Pick H (mp E.f vf b m) R)
    (kx : K ⟨L, mp E.f vf b (mset m x v) :: R, S, wf⟩) : OpStep V P Q ops N o ⟨L, H, S, wf⟩ K :=
  .eff hg hd (by simp [ho, noSel]) (by simp [ho, Op.operands, known_of ha, known_of hs, known_of hy]) fun w hw => by
    have hw' := hw.perm hp.perm
    obtain ⟨es, clock, hb, hM⟩ := hw'.has _ (List.mem_cons_self ..)
    rcases hM.find w x with ⟨h1, h2⟩ | ⟨j, e0, u, h1, h2, h3, h4, h5, h6, h7⟩
    · refine ⟨setBlock w b (.map (es.push ⟨E.f x, vf v, clock⟩) (clock + 1)), mp E.f vf b (mset m x v) :: R, ?_, hw'.setBlock rfl rfl hb ?_, kx⟩
      · simp [execOp, ho, ev_of ha, ev_of hs, ev_of hy, Instr.mapUpdate, run_underlying hu, MapKept.run_getObj_map hb, E.check, h1, MapKept.run_setObj_map _ hb, Result.andThen, setBlock]
      · have hm : mset m x v = m ++ [(x, v)] := by unfold mset; rw [if_neg (by simp [h2])]
        exact ⟨_, _, heap_setBlock_at hb, by rw [hm]; exact hM.push h2⟩
    · have hj : es[j]? = some e0 := by simpa using h2
      have hmod : es.modify j (fun e => { e with key := E.f x, val := vf v }) = es.modify j (fun e => { e with val := vf v }) := by
        apply Array.toList_inj.1
        rw [Array.toList_modify, Array.toList_modify, ChangeMaps.modify_eq_set _ _ _ _ h2, ChangeMaps.modify_eq_set _ _ _ _ h2, ← h3]
      refine ⟨setBlock w b (.map (es.modify j fun e => { e with key := E.f x, val := vf v }) clock), mp E.f vf b (mset m x v) :: R, ?_, hw'.setBlock rfl rfl hb ?_, kx⟩
      · simp [execOp, ho, ev_of ha, ev_of hs, ev_of hy, Instr.mapUpdate, run_underlying hu, MapKept.run_getObj_map hb, E.check, h1, hj, h3, run_stays E, MapKept.run_setObj_map _ hb, Result.andThen, setBlock]
      · rw [hmod]
        exact ⟨_, _, heap_setBlock_at hb, hM.set h2 h3 h4⟩
end
end Go.SX
namespace Go.SX
def Cn (p q a b : List Vis) : Prop := ∀ v : Vis, p.count v + q.count v = a.count v + b.count v
theorem Cn.trans {p q a b c d : List Vis} (h : Cn p q a b) (k : Cn a b c d) : Cn p q c d := fun v => (h v).trans (k v)
end Go.SX
namespace Go.SX
def visV (x : Vis) : Value := .agg #[.int .i64 x.kind, .int .i64 x.item]
theorem visV_inj : ∀ x y : Vis, visV x = visV y → x = y := by
  intro x y h
  unfold visV at h
  injection h with h
  simp at h
  exact vis_ext h.1 h.2
theorem visV_bits (x : Vis) : Instr.sameBits 10000 (visV x) (visV x) = true := by
  have : ∀ n, Instr.sameBits (n + 1) (visV x) (visV x) = true := by intro n; simp [visV, Instr.sameBits]
  exact this 9999
end Go.SX
namespace Go.SX
open Go Go.RowKit
def rng (l : List Int) (m : Int) : Prop := ∀ i : Int, 0 ≤ gt l i ∧ gt l i ≤ m
structure WinsOk (l : List WN) : Prop where
  len : 1 ≤ l.length ∧ l.length ≤ 4
  each : ∀ i : Int, 0 ≤ i → i < l.length → 0 ≤ (gt l i).lo ∧ (gt l i).hi ≤ 1000000 ∧ (gt l i).lo ≤ (gt l i).hi
  next : ∀ i : Int, 0 < i → i < l.length → (gt l (i - 1)).hi < (gt l i).lo
structure StopOk (n : Int) (s : SO) : Prop where
  pl : 0 ≤ s.pl ∧ s.pl < n
  srv : 0 ≤ s.srv ∧ s.srv ≤ 1000000
  win : WinsOk s.sws
structure VehOk (dims n : Int) (v : VH) : Prop where
  st : 0 ≤ v.st ∧ v.st < n
  en : 0 ≤ v.en ∧ v.en < n
  cap : (v.vcap.length : Int) = dims ∧ rng v.vcap 1000000
  sk : 0 ≤ v.vsk ∧ v.vsk < 4611686018427387904
  sh : 0 ≤ v.lo ∧ v.hi ≤ 1000000 ∧ v.lo ≤ v.hi
  fix : 0 ≤ v.fix ∧ v.fix ≤ 1000000
  pt : 0 ≤ v.pt ∧ v.pt ≤ 1000000
  pd : 0 ≤ v.pd ∧ v.pd ≤ 1000000
  mt : 0 ≤ v.mt ∧ v.mt ≤ 12
  brs : v.brs.length ≤ 2
  brk : ∀ i : Int, 0 ≤ i → i < v.brs.length → WinsOk (gt v.brs i).bws ∧ 0 ≤ (gt v.brs i).bsrv ∧ (gt v.brs i).bsrv ≤ 1000000
structure JobOk (dims n : Int) (j : JB) : Prop where
  so : StopOk n j.so
  drop : (j.drop.length : Int) = dims ∧ rng j.drop 1000000
  pick : (j.pick.length : Int) = dims ∧ rng j.pick 1000000
  sk : 0 ≤ j.jsk ∧ j.jsk < 4611686018427387904
  pr : 0 ≤ j.jpr ∧ j.jpr ≤ 100
structure ShipOk (dims n : Int) (s : SH) : Prop where
  sp : StopOk n s.sp
  sd : StopOk n s.sd
  am : (s.am.length : Int) = dims ∧ rng s.am 1000000
  sk : 0 ≤ s.ssk ∧ s.ssk < 4611686018427387904
  pr : 0 ≤ s.spr ∧ s.spr ≤ 100
structure LawP (p : PB) : Prop where
  dims : 0 ≤ p.dims ∧ p.dims ≤ 3
  tn : 1 ≤ p.tn ∧ p.tn ≤ 32
  dn : p.dn = p.tn
  tlen : (p.time.length : Int) = p.tn * p.tn
  dlen : (p.dist.length : Int) = p.tn * p.tn
  tc : ∀ i : Int, -1 ≤ gt p.time i ∧ gt p.time i ≤ 32000000
  dc : ∀ i : Int, -1 ≤ gt p.dist i ∧ gt p.dist i ≤ 32000000
  nv : p.vehs.length ≤ 4
  nj : p.jobs.length + p.ships.length ≤ 12
  veh : ∀ i : Int, 0 ≤ i → i < p.vehs.length → VehOk p.dims p.tn (gt p.vehs i)
  job : ∀ i : Int, 0 ≤ i → i < p.jobs.length → JobOk p.dims p.tn (gt p.jobs i)
  ship : ∀ i : Int, 0 ≤ i → i < p.ships.length → ShipOk p.dims p.tn (gt p.ships i)
theorem is_i1 {p : PB} {x : Vis} (h : isStop p x = true) (hk : x.kind = 1) : 0 ≤ x.item ∧ x.item < (p.jobs.length : Int) := by
  unfold isStop at h; rw [(task1 hk).1, (task1 hk).2, Bool.true_and, there_f] at h; exact of_decide_eq_true h
theorem is_i2 {p : PB} {x : Vis} (h : isStop p x = true) (hk : x.kind = 2 ∨ x.kind = 3) : 0 ≤ x.item ∧ x.item < (p.ships.length : Int) := by
  unfold isStop at h; rw [(task23 hk).1, (task23 hk).2, Bool.true_and, there_t] at h; exact of_decide_eq_true h
theorem is_kind {p : PB} {x : Vis} (h : isStop p x = true) : x.kind = 1 ∨ x.kind = 2 ∨ x.kind = 3 := by
  unfold isStop isTask at h; rw [Bool.and_eq_true] at h; exact of_decide_eq_true h.1
theorem stop_ok {p : PB} {x : Vis} (L : LawP p) (h : isStop p x = true) : StopOk p.tn (stopD p x) := by
  have e : stopD p x = stopO p x := by unfold stopD; rw [if_pos h]
  rw [e]
  rcases is_kind h with k | k | k
  · rw [stopO1 k]; have i := is_i1 h k; exact (L.job _ i.1 i.2).so
  · rw [stopO2 k]; have i := is_i2 h (.inl k); exact (L.ship _ i.1 i.2).sp
  · rw [stopO3 (by omega) (by omega)]; have i := is_i2 h (.inr k); exact (L.ship _ i.1 i.2).sd
theorem stop_ws {p : PB} (L : LawP p) : ∀ y, (stopD p y).sws.length ≤ 1000 := fun y => by
  by_cases h : isStop p y = true
  · have := (stop_ok L h).win.len; omega
  · unfold stopD; rw [if_neg h]; exact Nat.zero_le _
theorem rng_bdd {l : List Int} {m k : Int} (h : rng l m) (hk : m ≤ k) (h0 : 0 ≤ m) : bdd k l := fun i => by have := h i; omega
theorem bdd_mono {l : List Int} {m k : Int} (h : bdd m l) (hk : m ≤ k) : bdd k l := fun i => by have := h i; omega
theorem bdd_add {a b : List Int} {m k : Int} (h1 : bdd m a) (h2 : bdd k b) (hl : a.length = b.length) : bdd (m + k) (addL a b) := fun i => by rw [gt_add hl]; have := h1 i; have := h2 i; omega
theorem bdd_sub {a b : List Int} {m k : Int} (h1 : bdd m a) (h2 : bdd k b) (hl : a.length = b.length) : bdd (m + k) (subL a b) := fun i => by rw [gt_sub hl]; have := h1 i; have := h2 i; omega
theorem bdd_zero (n : Nat) : bdd 0 (List.replicate n 0) := fun i => by
  rcases gt_mem_or (List.replicate n (0 : Int)) i with h | h
  · rw [(List.mem_replicate.1 h).2]; omega
  · rw [h]; exact ⟨by decide, by decide⟩
def pairsR (p : PB) : List Vis → List (Vis × Bool) → Int → Bool
  | [], m, op => decide (op = 0)
  | x :: r, m, op => if x.kind = 4 then pairsR p r m op
    else if (¬ isStop p x = true ∨ mget m x false = true) ∨ (x.kind = 3 ∧ ¬ mget m ⟨2, x.item⟩ false = true) then false
    else pairsR p r (mset m x true) (if x.kind = 2 then op + 1 else if x.kind = 3 then op - 1 else op)
theorem pairsR_cons {p : PB} {x : Vis} {r : List Vis} {m : List (Vis × Bool)} {op : Int} : pairsR p (x :: r) m op = if x.kind = 4 then pairsR p r m op
    else if (¬ isStop p x = true ∨ mget m x false = true) ∨ (x.kind = 3 ∧ ¬ mget m ⟨2, x.item⟩ false = true) then false
    else pairsR p r (mset m x true) (if x.kind = 2 then op + 1 else if x.kind = 3 then op - 1 else op) := rfl
def breaksR (nb : Int) : List Vis → Int → Bool
  | [], n => decide (n = nb)
  | x :: r, n => if x.kind = 4 then (if x.item ≠ n then false else breaksR nb r (n + 1)) else breaksR nb r n
theorem breaksR_cons {nb : Int} {x : Vis} {r : List Vis} {n : Int} : breaksR nb (x :: r) n = if x.kind = 4 then (if x.item ≠ n then false else breaksR nb r (n + 1)) else breaksR nb r n := rfl
def skillsR (p : PB) (v : VH) : List Vis → Bool
  | [] => true
  | x :: r => if isTask x = true ∧ ¬ ban .u64 (skilF p (taskV x)) v.vsk = 0 then false else skillsR p v r
theorem skillsR_cons {p : PB} {v : VH} {x : Vis} {r : List Vis} : skillsR p v (x :: r) = if isTask x = true ∧ ¬ ban .u64 (skilF p (taskV x)) v.vsk = 0 then false else skillsR p v r := rfl
def tasksR : List Vis → Int → Int
  | [], n => n
  | x :: r, n => if x.kind = 1 ∨ x.kind = 2 then tasksR r (n + 1) else tasksR r n
theorem tasksR_cons {x : Vis} {r : List Vis} {n : Int} : tasksR (x :: r) n = if x.kind = 1 ∨ x.kind = 2 then tasksR r (n + 1) else tasksR r n := rfl
def errI (b : Bool) (e : Int) : Int := if b = true then 0 else e
theorem errI_t {b : Bool} {e : Int} (h : b = true) : errI b e = 0 := if_pos h
theorem errI_f {b : Bool} {e : Int} (h : b = false) : errI b e = e := by unfold errI; rw [h]; rfl
abbrev dropV (p : PB) (x : Vis) : List Int := (gt p.jobs x.item).drop
abbrev pickV (p : PB) (x : Vis) : List Int := (gt p.jobs x.item).pick
abbrev amV (p : PB) (x : Vis) : List Int := (gt p.ships x.item).am
def load0R (p : PB) : List Vis → List Int → List Int
  | [], a => a
  | x :: r, a => if isStop p x = true ∧ x.kind = 1 then load0R p r (addL a (dropV p x)) else load0R p r a
theorem load0R_cons {p : PB} {x : Vis} {r : List Vis} {a : List Int} : load0R p (x :: r) a = if isStop p x = true ∧ x.kind = 1 then load0R p r (addL a (dropV p x)) else load0R p r a := rfl
def loadSt (p : PB) (x : Vis) (a : List Int) : List Int :=
  if isStop p x = true then (if x.kind = 1 then addL (subL a (dropV p x)) (pickV p x) else if x.kind = 2 then addL a (amV p x) else if x.kind = 3 then subL a (amV p x) else a) else a
def loadsR (p : PB) : List Vis → List Int → List (List Int)
  | [], a => []
  | x :: r, a => loadSt p x a :: loadsR p r (loadSt p x a)
theorem loadsR_cons {p : PB} {x : Vis} {r : List Vis} {a : List Int} : loadsR p (x :: r) a = loadSt p x a :: loadsR p r (loadSt p x a) := rfl
def load0 (p : PB) (l : List Vis) : List Int := load0R p l (List.replicate p.dims.toNat 0)
def loadsF (p : PB) (l : List Vis) : List (List Int) := load0 p l :: loadsR p l (load0 p l)
def lOk (p : PB) (m : Int) (a : List Int) : Prop := (a.length : Int) = p.dims ∧ bdd m a
theorem lOk_add {p : PB} {m k : Int} {a b : List Int} (h : lOk p m a) (h2 : (b.length : Int) = p.dims ∧ rng b 1000000) (hk : m + 1000000 ≤ k) : lOk p k (addL a b) :=
  ⟨by rw [addL_len]; have := h.1; have := h2.1; omega, bdd_mono (bdd_add h.2 (rng_bdd h2.2 (Int.le_refl _) (by decide)) (by have := h.1; have := h2.1; omega)) hk⟩
theorem lOk_sub {p : PB} {m k : Int} {a b : List Int} (h : lOk p m a) (h2 : (b.length : Int) = p.dims ∧ rng b 1000000) (hk : m + 1000000 ≤ k) : lOk p k (subL a b) :=
  ⟨by rw [subL_len]; have := h.1; have := h2.1; omega, bdd_mono (bdd_sub h.2 (rng_bdd h2.2 (Int.le_refl _) (by decide)) (by have := h.1; have := h2.1; omega)) hk⟩
theorem lOk_mono {p : PB} {m k : Int} {a : List Int} (h : lOk p m a) (hk : m ≤ k) : lOk p k a := ⟨h.1, bdd_mono h.2 hk⟩
theorem lOk_St {p : PB} {m k : Int} {a : List Int} {x : Vis} (L : LawP p) (h : lOk p m a) (hk : m + 2000000 ≤ k) : lOk p k (loadSt p x a) := by
  unfold loadSt
  split
  · rename_i h1
    split
    · rename_i h2; have i := is_i1 h1 h2; exact lOk_add (lOk_sub h (L.job _ i.1 i.2).drop (Int.le_refl _)) (L.job _ i.1 i.2).pick (by omega)
    · split
      · rename_i h2; have i := is_i2 h1 (.inl h2); exact lOk_add h (L.ship _ i.1 i.2).am (by omega)
      · split
        · rename_i h2; have i := is_i2 h1 (.inr h2); exact lOk_sub h (L.ship _ i.1 i.2).am (by omega)
        · exact lOk_mono h (by omega)
  · exact lOk_mono h (by omega)
theorem loadSt_1 {p : PB} {x : Vis} {a : List Int} (h : isStop p x = true) (k : x.kind = 1) : loadSt p x a = addL (subL a (dropV p x)) (pickV p x) := by unfold loadSt; rw [if_pos h, if_pos k]
theorem loadSt_2 {p : PB} {x : Vis} {a : List Int} (h : isStop p x = true) (k : x.kind = 2) : loadSt p x a = addL a (amV p x) := by unfold loadSt; rw [if_pos h, if_neg (by omega), if_pos k]
theorem loadSt_3 {p : PB} {x : Vis} {a : List Int} (h : isStop p x = true) (k : x.kind = 3) : loadSt p x a = subL a (amV p x) := by unfold loadSt; rw [if_pos h, if_neg (by omega), if_neg (by omega), if_pos k]
theorem loadSt_no {p : PB} {x : Vis} {a : List Int} (h : ¬ isStop p x = true) : loadSt p x a = a := by unfold loadSt; rw [if_neg h]
def allUnder (cap : List Int) : List (List Int) → Bool
  | [] => true
  | a :: r => if ¬ underF a cap = true then false else allUnder cap r
theorem allUnder_cons {cap a : List Int} {r : List (List Int)} : allUnder cap (a :: r) = if ¬ underF a cap = true then false else allUnder cap r := rfl
theorem loadsR_len {p : PB} : ∀ {l : List Vis} {a : List Int}, (loadsR p l a).length = l.length
  | [], _ => rfl
  | x :: r, a => by rw [loadsR_cons, List.length_cons, loadsR_len, List.length_cons]
theorem loadsF_len {p : PB} {l : List Vis} : (loadsF p l).length = l.length + 1 := by unfold loadsF; rw [List.length_cons, loadsR_len]
def nextPl (p : PB) (a : Int) (x : Vis) : Int := if isStop p x = true then (stopD p x).pl else a
def placesR (p : PB) : List Vis → Int → List Int
  | [], a => []
  | x :: r, a => nextPl p a x :: placesR p r (nextPl p a x)
theorem placesR_cons {p : PB} {x : Vis} {r : List Vis} {a : Int} : placesR p (x :: r) a = nextPl p a x :: placesR p r (nextPl p a x) := rfl
def placesF (p : PB) (v : VH) (l : List Vis) : List Int := v.st :: placesR p l v.st ++ [v.en]
def travelR (p : PB) : List Int → Bool
  | a :: b :: r => if cellF p.tn p.time a b < 0 ∨ cellF p.dn p.dist a b < 0 then false else travelR p (b :: r)
  | _ => true
theorem travelR_cons {p : PB} {a b : Int} {r : List Int} : travelR p (a :: b :: r) = if cellF p.tn p.time a b < 0 ∨ cellF p.dn p.dist a b < 0 then false else travelR p (b :: r) := rfl
theorem placesR_len {p : PB} : ∀ {l : List Vis} {a : Int}, (placesR p l a).length = l.length
  | [], _ => rfl
  | x :: r, a => by rw [placesR_cons, List.length_cons, placesR_len, List.length_cons]
theorem placesF_len {p : PB} {v : VH} {l : List Vis} : (placesF p v l).length = l.length + 2 := by simp [placesF, placesR_len]
theorem cellF_rng {n : Int} {l : List Int} {f t : Int} (h : ∀ i : Int, -1 ≤ gt l i ∧ gt l i ≤ 32000000) : -1 ≤ cellF n l f t ∧ cellF n l f t ≤ 32000000 := by
  unfold cellF; split
  · omega
  · exact h _
theorem gt_last {α : Type} [Inhabited α] {X : List α} {y : α} {i : Int} (h : (X.length : Int) = i) : gt (X ++ [y]) i = y := by
  have e : i.toNat = X.length := by omega
  simp [gt, e, List.getD_eq_getElem?_getD]
theorem travel_step {p : PB} {L : List Int} {i : Int} (h0 : 1 ≤ i) (h1 : i < (L.length : Int)) : travelR p (L.drop (i - 1).toNat) = if cellF p.tn p.time (gt L (i - 1)) (gt L i) < 0 ∨ cellF p.dn p.dist (gt L (i - 1)) (gt L i) < 0 then false else travelR p (L.drop i.toNat) := by
  rw [drop_gt (x := i - 1) (by omega) (by omega), show i - 1 + 1 = i from by omega, drop_gt (x := i) (by omega) h1, travelR_cons]
theorem travel_end {p : PB} {L : List Int} {i : Int} (h0 : 1 ≤ i) (h1 : ¬ i < (L.length : Int)) : travelR p (L.drop (i - 1).toNat) = true := by
  have h : (L.drop (i - 1).toNat).length ≤ 1 := by rw [List.length_drop]; omega
  match hd : L.drop (i - 1).toNat with
  | [] => rfl
  | [a] => rfl
  | a :: b :: r => rw [hd] at h; simp at h
structure TM where
  now : Int
  time : Int
  dist : Int
  wait : Int
  serv : Int
  pl : Int
  deriving Inhabited
def stopB (p : PB) (v : VH) (x : Vis) : SO := if x.kind = 4 then ⟨0, (gt v.brs x.item).bsrv, (gt v.brs x.item).bws, (gt v.brs x.item).bwA, (gt v.brs x.item).bwc⟩ else stopD p x
abbrev tcell (p : PB) (a b : Int) : Int := cellF p.tn p.time a b
abbrev dcell (p : PB) (a b : Int) : Int := cellF p.dn p.dist a b
def tmSt (p : PB) (v : VH) (s : TM) (x : Vis) (b : Int) : TM :=
  ⟨b + (stopB p v x).srv, s.time + tcell p s.pl (nextPl p s.pl x), s.dist + dcell p s.pl (nextPl p s.pl x), s.wait + b - (s.now + tcell p s.pl (nextPl p s.pl x)), s.serv + (stopB p v x).srv, nextPl p s.pl x⟩
def timesR (p : PB) (v : VH) : List Vis → TM → Option TM
  | [], s => some s
  | x :: r, s => if (startF (stopB p v x).sws (s.now + tcell p s.pl (nextPl p s.pl x))).2 = true then timesR p v r (tmSt p v s x (startF (stopB p v x).sws (s.now + tcell p s.pl (nextPl p s.pl x))).1) else none
theorem timesR_cons {p : PB} {v : VH} {x : Vis} {r : List Vis} {s : TM} : timesR p v (x :: r) s = if (startF (stopB p v x).sws (s.now + tcell p s.pl (nextPl p s.pl x))).2 = true then timesR p v r (tmSt p v s x (startF (stopB p v x).sws (s.now + tcell p s.pl (nextPl p s.pl x))).1) else none := rfl
structure PR where
  e : Int
  time : Int
  dist : Int
  wait : Int
  serv : Int
  cost : Int
  deriving Inhabited, DecidableEq
def noPR (e : Int) : PR := ⟨e, 0, 0, 0, 0, 0⟩
def tmEnd (p : PB) (v : VH) (s : TM) : PR :=
  if s.now + tcell p s.pl v.en > v.hi then noPR 167 else ⟨0, s.time + tcell p s.pl v.en, s.dist + dcell p s.pl v.en, s.wait, s.serv, v.fix + (s.time + tcell p s.pl v.en) * v.pt + (s.dist + dcell p s.pl v.en) * v.pd⟩
def timesF (p : PB) (v : VH) (l : List Vis) : PR := match timesR p v l ⟨v.lo, 0, 0, 0, 0, v.st⟩ with
  | some s => tmEnd p v s
  | none => noPR 167
theorem timesF_some {p : PB} {v : VH} {l : List Vis} {s : TM} (h : timesR p v l ⟨v.lo, 0, 0, 0, 0, v.st⟩ = some s) : timesF p v l = tmEnd p v s := by unfold timesF; rw [h]
theorem timesF_none {p : PB} {v : VH} {l : List Vis} (h : timesR p v l ⟨v.lo, 0, 0, 0, 0, v.st⟩ = none) : timesF p v l = noPR 167 := by unfold timesF; rw [h]
def checksF (p : PB) (v : VH) (l : List Vis) : Int :=
  if ¬ pairsR p l [] 0 = true then 161 else if ¬ breaksR v.brs.length l 0 = true then 162 else if ¬ skillsR p v l = true then 163 else if tasksR l 0 > v.mt then 164
  else if ¬ allUnder v.vcap (loadsF p l) = true then 165 else if ¬ travelR p (placesF p v l) = true then 166 else 0
def planP (p : PB) (k : Int) (l : List Vis) : PR := if k < 0 ∨ k ≥ p.vehs.length then noPR 160 else if checksF p (gt p.vehs k) l ≠ 0 then noPR (checksF p (gt p.vehs k) l) else timesF p (gt p.vehs k) l
theorem startF_rng : ∀ {l : List WN} {t : Int}, (∀ i : Int, 0 ≤ i → i < l.length → 0 ≤ (gt l i).lo ∧ (gt l i).hi ≤ 1000000 ∧ (gt l i).lo ≤ (gt l i).hi) → (startF l t).2 = true → 0 ≤ (startF l t).1 ∧ (startF l t).1 ≤ 1000000 ∧ t ≤ (startF l t).1
  | [], t, _, h => by cases h
  | w :: r, t, hw, h => by
    have h0 := hw 0 (by decide) (by simp)
    have e0 : gt (w :: r) 0 = w := rfl
    rw [e0] at h0
    rw [startF_cons] at h ⊢
    split
    · rename_i hle; exact ⟨by omega, by omega, by omega⟩
    · rename_i hle
      rw [if_neg hle] at h
      exact startF_rng (fun i h1 h2 => by
        have := hw (i + 1) (by omega) (by simp; omega)
        have e : gt (w :: r) (i + 1) = gt r i := by
          unfold gt; rw [show (i + 1).toNat = i.toNat + 1 from by omega]; rfl
        rw [e] at this; exact this) h
theorem breaks_item {nb : Int} : ∀ {l : List Vis} {n : Int}, breaksR nb l n = true → 0 ≤ n → n ≤ nb ∧ ∀ x ∈ l, x.kind = 4 → 0 ≤ x.item ∧ x.item < nb
  | [], n, h, h0 => ⟨by have := of_decide_eq_true h; omega, fun x hx => by cases hx⟩
  | y :: r, n, h, h0 => by
    rw [breaksR_cons] at h
    split at h
    · rename_i hk
      split at h
      · cases h
      · rename_i hi
        have ih := breaks_item h (by omega)
        refine ⟨by omega, fun x hx hx4 => ?_⟩
        rcases List.mem_cons.1 hx with rfl | hx
        · omega
        · exact ih.2 x hx hx4
    · rename_i hk
      have ih := breaks_item h h0
      refine ⟨ih.1, fun x hx hx4 => ?_⟩
      rcases List.mem_cons.1 hx with rfl | hx
      · exact absurd hx4 hk
      · exact ih.2 x hx hx4
theorem drop_gtm {Y : List IL} {i : Int} (h0 : 0 ≤ i) (h1 : i < (Y.length : Int)) : (Y.map IL.il).drop i.toNat = (gt Y i).il :: (Y.map IL.il).drop (i + 1).toNat := by
  rw [drop_gt h0 (by simpa using h1), gt_map IL.il h0 h1]
theorem nextPl_y {p : PB} {a : Int} {x : Vis} (h : isStop p x = true) : nextPl p a x = (stopD p x).pl := if_pos h
theorem nextPl_n {p : PB} {a : Int} {x : Vis} (h : ¬ isStop p x = true) : nextPl p a x = a := if_neg h
theorem gt_cons1 {α : Type} [Inhabited α] {x : α} {X : List α} {i : Int} (h : 0 ≤ i) : gt (x :: X) (i + 1) = gt X i := by
  unfold gt; rw [show (i + 1).toNat = i.toNat + 1 from by omega]; rfl
theorem placesR_gt {p : PB} : ∀ {l : List Vis} {a : Int} {i : Int} {z : Int}, 0 ≤ i → i < (l.length : Int) → gt (a :: placesR p l a ++ [z]) (i + 1) = nextPl p (gt (a :: placesR p l a ++ [z]) i) (gt l i)
  | [], _, i, _, h0, h1 => by simp at h1; omega
  | x :: r, a, i, z, h0, h1 => by
    by_cases hi : i = 0
    · subst hi; rfl
    · have h2 : gt (x :: r) i = gt r (i - 1) := by
        have := gt_cons1 (x := x) (X := r) (i := i - 1) (by omega); rwa [show i - 1 + 1 = i from by omega] at this
      have ih := placesR_gt (p := p) (l := r) (a := nextPl p a x) (i := i - 1) (z := z) (by omega) (by simp at h1; omega)
      rw [show i - 1 + 1 = i from by omega] at ih
      rw [placesR_cons, h2, List.cons_append, gt_cons1 h0, ih]
      have h3 := gt_cons1 (x := a) (X := nextPl p a x :: placesR p r (nextPl p a x) ++ [z]) (i := i - 1) (by omega)
      rw [show i - 1 + 1 = i from by omega] at h3
      rw [h3]
theorem places_gt {p : PB} {v : VH} {l : List Vis} {i : Int} (h0 : 0 ≤ i) (h1 : i < (l.length : Int)) : gt (placesF p v l) (i + 1) = nextPl p (gt (placesF p v l) i) (gt l i) := placesR_gt h0 h1
theorem places_end {p : PB} {v : VH} {l : List Vis} : gt (placesF p v l) ((l.length : Int) + 1) = v.en := by
  unfold placesF; exact gt_last (by simp [placesR_len])
theorem places_last {p : PB} : ∀ {l : List Vis} {v : VH} {R : Option TM} {now tm ds wt sr : Int} {i : Int}, ¬ i < (l.length : Int) → timesR p v (l.drop i.toNat) ⟨now, tm, ds, wt, sr, gt (placesF p v l) i⟩ = R → R = some ⟨now, tm, ds, wt, sr, gt (placesF p v l) i⟩ := fun h hq => by
  rw [drop_end h] at hq; exact hq.symm
theorem times_next {p : PB} {V : VH} {l : List Vis} {i now tm ds wt sr : Int} {R : Option TM} {W : List WN} {srv : Int} (hq : timesR p V (l.drop i.toNat) ⟨now, tm, ds, wt, sr, gt (placesF p V l) i⟩ = R) (h0 : 0 ≤ i) (h1 : i < (l.length : Int))
    (hW : (stopB p V (gt l i)).sws = W) (hs : (stopB p V (gt l i)).srv = srv) (h2 : (startF W (now + tcell p (gt (placesF p V l) i) (gt (placesF p V l) (i + 1)))).2 = true) :
    timesR p V (l.drop (i + 1).toNat) ⟨(startF W (now + tcell p (gt (placesF p V l) i) (gt (placesF p V l) (i + 1)))).1 + srv, tm + tcell p (gt (placesF p V l) i) (gt (placesF p V l) (i + 1)), ds + dcell p (gt (placesF p V l) i) (gt (placesF p V l) (i + 1)),
      wt + (startF W (now + tcell p (gt (placesF p V l) i) (gt (placesF p V l) (i + 1)))).1 - (now + tcell p (gt (placesF p V l) i) (gt (placesF p V l) (i + 1))), sr + srv, gt (placesF p V l) (i + 1)⟩ = R := by
  subst hW hs
  rw [drop_gt h0 h1, timesR_cons] at hq
  simp only [places_gt h0 h1] at h2 ⊢
  rw [if_pos h2] at hq
  exact hq
theorem times_stop {p : PB} {V : VH} {l : List Vis} {i now tm ds wt sr : Int} {R : Option TM} {W : List WN} (hq : timesR p V (l.drop i.toNat) ⟨now, tm, ds, wt, sr, gt (placesF p V l) i⟩ = R) (h0 : 0 ≤ i) (h1 : i < (l.length : Int))
    (hW : (stopB p V (gt l i)).sws = W) (h2 : ¬ (startF W (now + tcell p (gt (placesF p V l) i) (gt (placesF p V l) (i + 1)))).2 = true) : R = none := by
  subst hW
  rw [drop_gt h0 h1, timesR_cons] at hq
  simp only [places_gt h0 h1] at h2
  rw [if_neg h2] at hq
  exact hq.symm
theorem stopB_b {p : PB} {V : VH} {x : Vis} (h : x.kind = 4) : (stopB p V x).sws = (gt V.brs x.item).bws ∧ (stopB p V x).srv = (gt V.brs x.item).bsrv := by unfold stopB; rw [if_pos h]; exact ⟨rfl, rfl⟩
theorem stopB_n {p : PB} {V : VH} {x : Vis} (h : ¬ x.kind = 4) : (stopB p V x).sws = (stopD p x).sws ∧ (stopB p V x).srv = (stopD p x).srv := by unfold stopB; rw [if_neg h]; exact ⟨rfl, rfl⟩
theorem stopB_bd {p : PB} {V : VH} {x : Vis} {t : Int} (L : LawP p) (hV : VehOk p.dims p.tn V) (hb : x.kind = 4 → 0 ≤ x.item ∧ x.item < (V.brs.length : Int)) :
    0 ≤ (stopB p V x).srv ∧ (stopB p V x).srv ≤ 1000000 ∧ ((startF (stopB p V x).sws t).2 = true → 0 ≤ (startF (stopB p V x).sws t).1 ∧ (startF (stopB p V x).sws t).1 ≤ 1000000 ∧ t ≤ (startF (stopB p V x).sws t).1) := by
  by_cases h : x.kind = 4
  · have hi := hb h
    have k := hV.brk _ hi.1 hi.2
    rw [(stopB_b h).1, (stopB_b h).2]
    exact ⟨k.2.1, k.2.2, fun h2 => startF_rng k.1.each h2⟩
  · rw [(stopB_n h).1, (stopB_n h).2]
    by_cases hs : isStop p x = true
    · have k := stop_ok L hs
      exact ⟨k.srv.1, k.srv.2, fun h2 => startF_rng k.win.each h2⟩
    · have e : stopD p x = default := by unfold stopD; rw [if_neg hs]
      rw [e]; exact ⟨by decide, by decide, fun h2 => by cases h2⟩
theorem times_end {p : PB} {V : VH} {l : List Vis} {now tm ds wt sr : Int} (hq : timesR p V (l.drop ((l.length : Int)).toNat) ⟨now, tm, ds, wt, sr, gt (placesF p V l) (l.length : Int)⟩ = timesR p V l ⟨V.lo, 0, 0, 0, 0, V.st⟩) :
    timesF p V l = if now + tcell p (gt (placesF p V l) (l.length : Int)) (gt (placesF p V l) ((l.length : Int) + 1)) > V.hi then noPR 167 else
      ⟨0, tm + tcell p (gt (placesF p V l) (l.length : Int)) (gt (placesF p V l) ((l.length : Int) + 1)), ds + dcell p (gt (placesF p V l) (l.length : Int)) (gt (placesF p V l) ((l.length : Int) + 1)), wt, sr,
        V.fix + (tm + tcell p (gt (placesF p V l) (l.length : Int)) (gt (placesF p V l) ((l.length : Int) + 1))) * V.pt + (ds + dcell p (gt (placesF p V l) (l.length : Int)) (gt (placesF p V l) ((l.length : Int) + 1))) * V.pd⟩ := by
  rw [timesF_some (places_last (by omega) hq), tmEnd, places_end]
theorem loads_len {p : PB} {l : List Vis} {Y : List IL} (h : Y.map IL.il = loadsF p l) : Y.length = l.length + 1 := by
  have := congrArg List.length h; rwa [List.length_map, loadsF_len] at this
def checkI (p : PB) (v : VH) (l : List Vis) (i : Int) : Int :=
  if i = 0 then errI (pairsR p l [] 0) 161 else if i = 1 then errI (breaksR v.brs.length l 0) 162 else if i = 2 then errI (skillsR p v l) 163 else if i = 3 then (if tasksR l 0 > v.mt then 164 else 0)
  else if i = 4 then errI (allUnder v.vcap (loadsF p l)) 165 else errI (travelR p (placesF p v l)) 166
theorem checks_all {p : PB} {v : VH} {l : List Vis} (h : ∀ i : Int, 0 ≤ i → i < 6 → checkI p v l i = 0) : checksF p v l = 0 ∧ breaksR v.brs.length l 0 = true := by
  have e : ∀ {b : Bool} {n : Int}, n ≠ 0 → errI b n = 0 → b = true := fun {b n} hn h => by
    cases b with
    | true => rfl
    | false => exact absurd h hn
  have h0 := e (by decide) (h 0 (by decide) (by decide))
  have h1 := e (by decide) (h 1 (by decide) (by decide))
  have h2 := e (by decide) (h 2 (by decide) (by decide))
  have h3 : ¬ tasksR l 0 > v.mt := fun hc => by have := h 3 (by decide) (by decide); rw [checkI, if_neg (by decide), if_neg (by decide), if_neg (by decide), if_pos rfl, if_pos hc] at this; exact absurd this (by decide)
  have h4 := e (by decide) (h 4 (by decide) (by decide))
  have h5 := e (by decide) (h 5 (by decide) (by decide))
  refine ⟨?_, h1⟩
  unfold checksF
  simp only [h0, h1, h2, h4, h5, not_true_eq_false, if_false, if_neg h3]
theorem checks_at {p : PB} {v : VH} {l : List Vis} {i : Int} (h0 : 0 ≤ i) (h1 : i < 6) (h : ∀ j : Int, 0 ≤ j → j < i → checkI p v l j = 0) (hn : checkI p v l i ≠ 0) : checksF p v l = checkI p v l i := by
  have e : ∀ {b : Bool} {n : Int}, n ≠ 0 → errI b n = 0 → b = true := fun {b n} hn h => by
    cases b with
    | true => rfl
    | false => exact absurd h hn
  have f : ∀ {b : Bool} {n : Int}, errI b n ≠ 0 → b = false ∧ errI b n = n := fun {b n} h => by
    cases b with
    | true => exact absurd rfl h
    | false => exact ⟨rfl, rfl⟩
  unfold checksF
  rcases (by omega : i = 0 ∨ i = 1 ∨ i = 2 ∨ i = 3 ∨ i = 4 ∨ i = 5) with rfl | rfl | rfl | rfl | rfl | rfl
  · have k : errI (pairsR p l [] 0) 161 ≠ 0 := hn
    show _ = errI (pairsR p l [] 0) 161
    rw [(f k).2, (f k).1]; rfl
  · have h0 := e (by decide) (h 0 (by decide) (by decide))
    have k : errI (breaksR v.brs.length l 0) 162 ≠ 0 := hn
    show _ = errI (breaksR v.brs.length l 0) 162
    rw [(f k).2, (f k).1, h0]; rfl
  · have h0 := e (by decide) (h 0 (by decide) (by decide))
    have h1 := e (by decide) (h 1 (by decide) (by decide))
    have k : errI (skillsR p v l) 163 ≠ 0 := hn
    show _ = errI (skillsR p v l) 163
    rw [(f k).2, (f k).1, h0, h1]; rfl
  · have h0 := e (by decide) (h 0 (by decide) (by decide))
    have h1 := e (by decide) (h 1 (by decide) (by decide))
    have h2 := e (by decide) (h 2 (by decide) (by decide))
    have k : (if tasksR l 0 > v.mt then 164 else 0 : Int) ≠ 0 := hn
    show _ = (if tasksR l 0 > v.mt then 164 else 0 : Int)
    have hc : tasksR l 0 > v.mt := Classical.byContradiction fun hc => by rw [if_neg hc] at k; exact k rfl
    rw [if_pos hc, h0, h1, h2]; simp only [not_true_eq_false, if_false, if_pos hc]
  · have h0 := e (by decide) (h 0 (by decide) (by decide))
    have h1 := e (by decide) (h 1 (by decide) (by decide))
    have h2 := e (by decide) (h 2 (by decide) (by decide))
    have h3 : ¬ tasksR l 0 > v.mt := fun hc => by have := h 3 (by decide) (by decide); rw [checkI, if_neg (by decide), if_neg (by decide), if_neg (by decide), if_pos rfl, if_pos hc] at this; exact absurd this (by decide)
    have k : errI (allUnder v.vcap (loadsF p l)) 165 ≠ 0 := hn
    show _ = errI (allUnder v.vcap (loadsF p l)) 165
    rw [(f k).2, (f k).1, h0, h1, h2]; simp only [not_true_eq_false, if_false, if_neg h3]; rfl
  · have h0 := e (by decide) (h 0 (by decide) (by decide))
    have h1 := e (by decide) (h 1 (by decide) (by decide))
    have h2 := e (by decide) (h 2 (by decide) (by decide))
    have h3 : ¬ tasksR l 0 > v.mt := fun hc => by have := h 3 (by decide) (by decide); rw [checkI, if_neg (by decide), if_neg (by decide), if_neg (by decide), if_pos rfl, if_pos hc] at this; exact absurd this (by decide)
    have h4 := e (by decide) (h 4 (by decide) (by decide))
    have k : errI (travelR p (placesF p v l)) 166 ≠ 0 := hn
    show _ = errI (travelR p (placesF p v l)) 166
    rw [(f k).2, (f k).1, h0, h1, h2, h4]; simp only [not_true_eq_false, if_false, if_neg h3]; rfl
theorem chk_next {p : PB} {v : VH} {l : List Vis} {i : Int} (h : ∀ j : Int, 0 ≤ j → j < i → checkI p v l j = 0) (hi : checkI p v l i = 0) : ∀ j : Int, 0 ≤ j → j < i + 1 → checkI p v l j = 0 := fun j h0 h1 => by
  by_cases hj : j = i
  · subst hj; exact hi
  · exact h j h0 (by omega)
theorem plan_out {p : PB} {k : Int} {l : List Vis} (h : k < 0 ∨ k ≥ p.vehs.length) : planP p k l = noPR 160 := by unfold planP; rw [if_pos h]
theorem plan_err {p : PB} {k e : Int} {l : List Vis} (h : ¬ (k < 0 ∨ k ≥ p.vehs.length)) (he : checksF p (gt p.vehs k) l = e) (hn : e ≠ 0) : planP p k l = noPR e := by unfold planP; rw [if_neg h, he, if_pos hn]
theorem plan_ok {p : PB} {k : Int} {l : List Vis} (h : ¬ (k < 0 ∨ k ≥ p.vehs.length)) (he : checksF p (gt p.vehs k) l = 0) : planP p k l = timesF p (gt p.vehs k) l := by unfold planP; rw [if_neg h, he, if_neg (by decide)]
theorem load0R_ok {p : PB} (L : LawP p) : ∀ {l : List Vis} {a : List Int} {m : Int}, lOk p m a → lOk p (m + 1000000 * l.length) (load0R p l a)
  | [], a, m, h => lOk_mono h (by simp)
  | x :: r, a, m, h => by
    rw [load0R_cons]
    split
    · rename_i hc; have i := is_i1 hc.1 hc.2
      exact lOk_mono (load0R_ok L (lOk_add h (L.job _ i.1 i.2).drop (Int.le_refl _))) (by rw [List.length_cons]; omega)
    · exact lOk_mono (load0R_ok L h) (by rw [List.length_cons]; omega)
theorem load0_ok {p : PB} (L : LawP p) {l : List Vis} : lOk p (1000000 * l.length) (load0 p l) := by
  have h : lOk p 0 (List.replicate p.dims.toNat 0) := ⟨by have := L.dims; rw [List.length_replicate]; omega, bdd_zero _⟩
  exact lOk_mono (load0R_ok L h) (by omega)
theorem loadsR_ok {p : PB} (L : LawP p) : ∀ {l : List Vis} {a : List Int} {m : Int}, lOk p m a → ∀ b ∈ loadsR p l a, (b.length : Int) = p.dims
  | [], a, m, h, b, hb => by cases hb
  | x :: r, a, m, h, b, hb => by
    rw [loadsR_cons] at hb
    have h1 := lOk_St (x := x) L h (Int.le_refl _)
    rcases List.mem_cons.1 hb with rfl | hb
    · exact h1.1
    · exact loadsR_ok L h1 b hb
theorem loadsF_ok {p : PB} (L : LawP p) {l : List Vis} : ∀ b ∈ loadsF p l, (b.length : Int) = p.dims := fun b hb => by
  unfold loadsF at hb
  rcases List.mem_cons.1 hb with rfl | hb
  · exact (load0_ok L).1
  · exact loadsR_ok L (load0_ok L) b hb
theorem loads_il {p : PB} (L : LawP p) {l : List Vis} {Y : List IL} (hY : Y.map IL.il = loadsF p l) {i : Int} (h0 : 0 ≤ i) (h1 : i < (Y.length : Int)) : ((gt Y i).il.length : Int) = p.dims ∧ p.dims ≤ 3 :=
  ⟨loadsF_ok L _ (by rw [← hY]; exact List.mem_map_of_mem (gt_mem h0 h1)), L.dims.2⟩
end Go.SX
namespace Go.SX
open Go Go.RowKit
def laterI (m : Int) (a : List Int) : Nat → Bool × List Int
  | 0 => (false, a)
  | i + 1 => if gt a (i : Int) < m then (true, a.take i ++ List.replicate (a.length - i) (gt a (i : Int) + 1)) else laterI m a i
def laterF (m : Int) (a : List Int) : Bool × List Int := laterI m a a.length
theorem laterI_step {m : Int} {a : List Int} {i : Int} (h : 0 ≤ i) : laterI m a (i + 1).toNat = if gt a i < m then (true, a.take i.toNat ++ List.replicate (a.length - i.toNat) (gt a i + 1)) else laterI m a i.toNat := by
  rw [show (i + 1).toNat = i.toNat + 1 from by omega, laterI, show ((i.toNat : Nat) : Int) = i from by omega]
theorem lt_set0 {a : List Int} {i y : Int} (h0 : 0 ≤ i) (h1 : i < (a.length : Int)) : a.set i.toNat y = a.take i.toNat ++ List.replicate (i + 1 - i).toNat y ++ a.drop (i + 1).toNat := by
  rw [show (i + 1 - i).toNat = 1 from by omega, show (i + 1).toNat = i.toNat + 1 from by omega, List.set_eq_take_append_cons_drop, if_pos (by omega)]
  simp
theorem lt_set {a : List Int} {i k y : Int} (h0 : 0 ≤ i) (hk : i < k) (h1 : k < (a.length : Int)) :
    (a.take i.toNat ++ List.replicate (k - i).toNat y ++ a.drop k.toNat).set k.toNat y = a.take i.toNat ++ List.replicate (k + 1 - i).toNat y ++ a.drop (k + 1).toNat := by
  have e1 : (a.take i.toNat ++ List.replicate (k - i).toNat y).length = k.toNat := by simp; omega
  rw [List.set_append, if_neg (by rw [e1]; omega), e1, Nat.sub_self, List.drop_eq_getElem_cons (i := k.toNat) (by omega), List.set_cons_zero, show (k + 1).toNat = k.toNat + 1 from by omega,
    show (k + 1 - i).toNat = (k - i).toNat + 1 from by omega, List.replicate_succ']
  simp
theorem gt_mid {a : List Int} {i k y : Int} (h0 : 0 ≤ i) (hk : i < k) (h1 : i < (a.length : Int)) : gt (a.take i.toNat ++ List.replicate (k - i).toNat y ++ a.drop k.toNat) i = y := by
  have hl : (a.take i.toNat).length = i.toNat := by simp; omega
  unfold gt
  rw [List.getD_eq_getElem?_getD, List.append_assoc, List.getElem?_append_right (by rw [hl]; exact Nat.le_refl _), hl, Nat.sub_self, List.getElem?_append_left (by simp; omega), List.getElem?_replicate, if_pos (by omega)]
  rfl
theorem lt_end {a : List Int} {i k y : Int} (h0 : 0 ≤ i) (h1 : ¬ k < (a.length : Int)) (hk : k ≤ (a.length : Int)) : a.take i.toNat ++ List.replicate (k - i).toNat y ++ a.drop k.toNat = a.take i.toNat ++ List.replicate (a.length - i.toNat) y := by
  rw [List.drop_of_length_le (by omega), List.append_nil, show (k - i).toNat = a.length - i.toNat from by omega]
def takeB (i : Int) : Int → List Int → List Vis
  | k, [] => []
  | k, y :: r => if y ≤ i then ⟨4, k⟩ :: takeB i (k + 1) r else []
def leftB (i : Int) : List Int → List Int
  | [] => []
  | y :: r => if y ≤ i then leftB i r else y :: r
def cntB (i : Int) : List Int → Int
  | [] => 0
  | y :: r => if y ≤ i then 1 + cntB i r else 0
def setR : List Vis → Int → Int → List Int → List Vis
  | [], i, k, r => takeB i k r
  | x :: l, i, k, r => takeB i k r ++ x :: setR l (i + 1) (k + cntB i r) (leftB i r)
theorem setR_pop {l : List Vis} {i k y : Int} {r : List Int} (h : y ≤ i) : setR l i k (y :: r) = ⟨4, k⟩ :: setR l i (k + 1) r := by
  cases l with
  | nil => simp only [setR, takeB, if_pos h]
  | cons x l => simp only [setR, takeB, cntB, leftB, if_pos h, List.cons_append]; rw [show k + (1 + cntB i r) = k + 1 + cntB i r from by omega]
theorem setR_go {x : Vis} {l : List Vis} {i k : Int} {r : List Int} (h : ∀ y, r.head? = some y → ¬ y ≤ i) : setR (x :: l) i k r = x :: setR l (i + 1) k r := by
  cases r with
  | nil => simp [setR, takeB, cntB, leftB]
  | cons y r => have := h y rfl; simp only [setR, takeB, cntB, leftB, if_neg this, List.nil_append, Int.add_zero]
theorem head_drop {a : List Int} {k y : Int} (hk : 0 ≤ k) (h : (a.drop k.toNat).head? = some y) : k < (a.length : Int) ∧ gt a k = y := by
  rw [List.head?_drop] at h
  have h1 := (List.getElem?_eq_some_iff.1 h).1
  exact ⟨by omega, by unfold gt; rw [List.getD_eq_getElem?_getD, h]; rfl⟩
def AtOk (m : Int) (a : List Int) : Prop := a.length ≤ 2 ∧ (∀ i : Int, 0 ≤ i → i < (a.length : Int) → 0 ≤ gt a i ∧ gt a i ≤ m) ∧ (a.length = 2 → gt a 0 ≤ gt a 1)
def up (a m : Int) : List Int := (List.range (m + 1 - a).toNat).map (fun i : Nat => a + (i : Int))
theorem up_cons {a m : Int} (h : a ≤ m) : up a m = a :: up (a + 1) m := by
  unfold up
  rw [show (m + 1 - a).toNat = (m + 1 - (a + 1)).toNat + 1 from by omega, List.range_succ_eq_map]
  simp only [List.map_cons, List.map_map]
  have e1 : a + ((0 : Nat) : Int) = a := by simp
  rw [e1]
  congr 1
  exact List.map_congr_left (fun x _ => by show a + ((x + 1 : Nat) : Int) = a + 1 + (x : Int); omega)
theorem up_nil {a m : Int} (h : m < a) : up a m = [] := by unfold up; rw [show (m + 1 - a).toNat = 0 from by omega]; rfl
def candsA (m : Int) : List Int → List (List Int)
  | [] => [[]]
  | [a] => (up a m).map (fun x => [x])
  | [a, b] => (up b m).map (fun y => [a, y]) ++ (up (a + 1) m).flatMap (fun x => (up x m).map (fun y => [x, y]))
  | l => [l]
theorem later0 {m : Int} : laterF m [] = (false, []) := rfl
theorem later1 {m a : Int} : laterF m [a] = if a < m then (true, [a + 1]) else (false, [a]) := rfl
theorem later2 {m a b : Int} : laterF m [a, b] = if b < m then (true, [a, b + 1]) else if a < m then (true, [a + 1, a + 1]) else (false, [a, b]) := rfl
theorem cands_next {m : Int} {a : List Int} (h : AtOk m a) : candsA m a = a :: (if (laterF m a).1 = true then candsA m (laterF m a).2 else []) := by
  obtain ⟨h1, h2, h3⟩ := h
  match a, h1, h2, h3 with
  | [], _, _, _ => rfl
  | [a], _, h2, _ =>
    have ha : a ≤ m := (h2 0 (by decide) (by simp)).2
    rw [later1]
    simp only [candsA]
    rw [up_cons ha, List.map_cons]
    by_cases hm : a < m
    · rw [if_pos hm, if_pos rfl]
    · rw [if_neg hm, if_neg (by simp), up_nil (by omega)]; rfl
  | [a, b], _, h2, h3 =>
    have ha : a ≤ m := (h2 0 (by decide) (by simp)).2
    have hb : b ≤ m := (h2 1 (by decide) (by simp)).2
    have hab : a ≤ b := h3 rfl
    rw [later2]
    simp only [candsA]
    rw [up_cons hb, List.map_cons, List.cons_append]
    by_cases hm : b < m
    · rw [if_pos hm, if_pos rfl]
    · rw [if_neg hm, up_nil (a := b + 1) (by omega), List.map_nil, List.nil_append]
      by_cases hm2 : a < m
      · rw [if_pos hm2, if_pos rfl, up_cons (a := a + 1) (by omega), List.flatMap_cons]
      · rw [if_neg hm2, if_neg (by simp), up_nil (by omega)]; rfl
  | _ :: _ :: _ :: _, h1, _, _ => simp at h1
theorem later_ok {m : Int} {a : List Int} (h : AtOk m a) : AtOk m (laterF m a).2 ∧ (laterF m a).2.length = a.length := by
  obtain ⟨h1, h2, h3⟩ := h
  match a, h1, h2, h3 with
  | [], _, _, _ => exact ⟨⟨by simp [later0], fun i h0 h1 => by simp [later0] at h1; omega, fun h => by simp [later0] at h⟩, rfl⟩
  | [a], _, h2, _ =>
    have ha := h2 0 (by decide) (by simp)
    have ha : 0 ≤ a ∧ a ≤ m := ha
    rw [later1]
    split
    · refine ⟨⟨by simp, fun i h0 h1 => ?_, fun h => by simp at h⟩, rfl⟩
      obtain rfl : i = 0 := by simp at h1; omega
      show 0 ≤ a + 1 ∧ a + 1 ≤ m; omega
    · refine ⟨⟨by simp, fun i h0 h1 => ?_, fun h => by simp at h⟩, rfl⟩
      obtain rfl : i = 0 := by simp at h1; omega
      exact ha
  | [a, b], _, h2, h3 =>
    have ha : 0 ≤ a ∧ a ≤ m := h2 0 (by decide) (by simp)
    have hb : 0 ≤ b ∧ b ≤ m := h2 1 (by decide) (by simp)
    have hab : a ≤ b := h3 rfl
    have mk : ∀ x y : Int, 0 ≤ x → x ≤ m → 0 ≤ y → y ≤ m → x ≤ y → AtOk m [x, y] := fun x y q1 q2 q3 q4 q5 => ⟨by simp, fun i h0 h1 => by
      rcases (by simp at h1; omega : i = 0 ∨ i = 1) with rfl | rfl
      · exact ⟨q1, q2⟩
      · exact ⟨q3, q4⟩, fun _ => q5⟩
    rw [later2]
    split
    · exact ⟨mk _ _ (by omega) (by omega) (by omega) (by omega) (by omega), rfl⟩
    · split
      · exact ⟨mk _ _ (by omega) (by omega) (by omega) (by omega) (by omega), rfl⟩
      · exact ⟨mk _ _ (by omega) (by omega) (by omega) (by omega) (by omega), rfl⟩
  | _ :: _ :: _ :: _, h1, _, _ => simp at h1
def firstC (F : List Int → PR) : List (List Int) → PR
  | [] => noPR 167
  | c :: r => if (F c).e ≠ 167 then F c else firstC F r
theorem firstC_cons {F : List Int → PR} {c : List Int} {r : List (List Int)} : firstC F (c :: r) = if (F c).e ≠ 167 then F c else firstC F r := rfl
theorem checks_codes {p : PB} {v : VH} {l : List Vis} : checksF p v l ≠ 167 := by
  unfold checksF
  repeat' split
  all_goals decide
theorem times_167 {p : PB} {v : VH} {l : List Vis} (h : (timesF p v l).e = 167) : timesF p v l = noPR 167 := by
  unfold timesF at *
  split
  · rename_i s hs
    rw [hs] at h
    simp only [tmEnd] at *
    split
    · rfl
    · rename_i hc; rw [if_neg hc] at h; have h : (0 : Int) = 167 := h; exact absurd h (by decide)
  · rfl
theorem plan_167 {p : PB} {k : Int} {l : List Vis} (h : (planP p k l).e = 167) : planP p k l = noPR 167 := by
  unfold planP at *
  split
  · rename_i hc; rw [if_pos hc] at h; exact absurd h (by decide)
  · rename_i hc
    rw [if_neg hc] at h
    split
    · rename_i h2; rw [if_pos h2] at h; exact absurd h checks_codes
    · rename_i h2; rw [if_neg h2] at h; exact times_167 h
def noBr : List Vis → Bool
  | [] => true
  | x :: r => if x.kind = 4 then false else noBr r
theorem noBr_cons {x : Vis} {r : List Vis} : noBr (x :: r) = if x.kind = 4 then false else noBr r := rfl
def zerosB (p : PB) (k : Int) : List Int := List.replicate (gt p.vehs k).brs.length 0
def planS (p : PB) (k : Int) (l : List Vis) (a : List Int) : PR := planP p k (setR l 0 0 a)
def fitV (p : PB) (k : Int) (l : List Vis) : PR := if k < 0 ∨ k ≥ p.vehs.length then noPR 160 else if ¬ noBr l = true then noPR 162 else firstC (planS p k l) (candsA l.length (zerosB p k))
theorem zeros_ok {n : Nat} {m : Int} (hn : n ≤ 2) (hm : 0 ≤ m) : AtOk m (List.replicate n 0) := by
  refine ⟨by simp; exact hn, fun i h0 h1 => ?_, fun h => ?_⟩
  · have : gt (List.replicate n (0 : Int)) i = 0 := by
      rcases gt_mem_or (List.replicate n (0 : Int)) i with h | h
      · exact (List.mem_replicate.1 h).2
      · exact h
    omega
  · simp at h; subst h; exact Int.le_refl _
theorem fit_step {p : PB} {k m : Int} {l : List Vis} {a : List Int} {R : PR} (ha : AtOk m a) (h : firstC (planS p k l) (candsA m a) = R) (he : (planS p k l a).e = 167) (hl : (laterF m a).1 = true) : firstC (planS p k l) (candsA m (laterF m a).2) = R := by
  rw [cands_next ha, firstC_cons, if_neg (by rw [he]; decide), if_pos hl] at h; exact h
theorem fit_stop {p : PB} {k m : Int} {l : List Vis} {a : List Int} {R : PR} (ha : AtOk m a) (h : firstC (planS p k l) (candsA m a) = R) (he : (planS p k l a).e ≠ 167 ∨ ¬ (laterF m a).1 = true) : planS p k l a = R := by
  rw [cands_next ha, firstC_cons] at h
  by_cases hc : (planS p k l a).e = 167
  · rw [if_neg (by rw [hc]; decide), if_neg (he.resolve_left (fun h => h hc))] at h
    rw [← h]; exact plan_167 hc
  · rw [if_pos hc] at h; exact h
theorem cands_mu {m : Int} {a : List Int} (ha : AtOk m a) (hl : (laterF m a).1 = true) : (candsA m (laterF m a).2).length < (candsA m a).length := by
  rw [cands_next ha, if_pos hl, List.length_cons]; omega
theorem setR_len : ∀ {l : List Vis} {i k : Int} {r : List Int}, (setR l i k r).length ≤ l.length + r.length
  | [], i, k, r => by
    rw [setR, List.length_nil, Nat.zero_add]
    induction r generalizing k with
    | nil => simp [takeB]
    | cons y r ih => rw [takeB]; split <;> simp; exact ih _
  | x :: l, i, k, r => by
    have h : ∀ (r : List Int) (k : Int), (takeB i k r).length + (leftB i r).length ≤ r.length := fun r => by
      induction r with
      | nil => intro k; simp [takeB, leftB]
      | cons y r ih => intro k; rw [takeB, leftB]; split <;> simp <;> have := ih (k + 1) <;> omega
    have h1 := h r k
    have h2 := setR_len (l := l) (i := i + 1) (k := k + cntB i r) (r := leftB i r)
    rw [setR, List.length_append, List.length_cons, List.length_cons]; omega
theorem fit_out {p : PB} {k : Int} {l : List Vis} (h : k < 0 ∨ k ≥ p.vehs.length) : fitV p k l = noPR 160 := by unfold fitV; rw [if_pos h]
theorem fit_brk {p : PB} {k : Int} {l : List Vis} (h : ¬ (k < 0 ∨ k ≥ p.vehs.length)) (hb : noBr l = false) : fitV p k l = noPR 162 := by unfold fitV; rw [if_neg h, hb, if_pos (by decide)]
theorem fit_in {p : PB} {k : Int} {l : List Vis} (h : ¬ (k < 0 ∨ k ≥ p.vehs.length)) (hb : noBr l = true) : fitV p k l = firstC (planS p k l) (candsA l.length (zerosB p k)) := by unfold fitV; rw [if_neg h, hb, if_neg (by decide)]
end Go.SX
namespace Go.SX
open Go Go.RowKit
def cmpI (a b : Int) : Int := if a < b then -1 else if a > b then 1 else 0
section
variable {α : Type} [Inhabited α]
def swp (X : List α) (j : Int) : List α := (X.set j.toNat (gt X (j - 1))).set (j - 1).toNat (gt X j)
def bub (lt : α → α → Bool) (X : List α) : Nat → List α
  | 0 => X
  | j + 1 => if lt (gt X ((j : Int) + 1)) (gt X (j : Int)) = true then bub lt (swp X ((j : Int) + 1)) j else X
def srt (lt : α → α → Bool) : Nat → Nat → List α → List α
  | 0, i, X => X
  | f + 1, i, X => srt lt f (i + 1) (bub lt X i)
def sortF (lt : α → α → Bool) (X : List α) : List α := srt lt (X.length - 1) 1 X
theorem bub_step {lt : α → α → Bool} {X : List α} {j : Int} (h : 0 < j) : bub lt X j.toNat = if lt (gt X j) (gt X (j - 1)) = true then bub lt (swp X j) (j - 1).toNat else X := by
  obtain ⟨n, rfl⟩ : ∃ n : Nat, j = (n : Int) + 1 := ⟨(j - 1).toNat, by omega⟩
  rw [show ((n : Int) + 1).toNat = n + 1 from by omega, bub, show ((n : Int) + 1 - 1) = (n : Int) from by omega, show ((n : Int)).toNat = n from by omega]
theorem srt_step {lt : α → α → Bool} {X : List α} {n i : Int} (h0 : 0 ≤ i) (h : i < n) : srt lt (n - i).toNat i.toNat X = srt lt (n - (i + 1)).toNat (i + 1).toNat (bub lt X i.toNat) := by
  rw [show (n - i).toNat = (n - (i + 1)).toNat + 1 from by omega, srt, show i.toNat + 1 = (i + 1).toNat from by omega]
theorem srt_end {lt : α → α → Bool} {X : List α} {n i : Int} (h : ¬ i < n) : srt lt (n - i).toNat i.toNat X = X := by
  rw [show (n - i).toNat = 0 from by omega]; rfl
theorem swp_len {X : List α} {j : Int} : (swp X j).length = X.length := by simp [swp]
theorem bub_len {lt : α → α → Bool} : ∀ {j : Nat} {X : List α}, (bub lt X j).length = X.length
  | 0, X => rfl
  | j + 1, X => by rw [bub]; split; · rw [bub_len, swp_len]
                   · rfl
theorem swp_perm {X : List α} {j : Int} (h0 : 0 < j) (h1 : j < (X.length : Int)) : (swp X j).Perm X := by
  have hj : j.toNat < X.length := by omega
  have hk : (j - 1).toNat < X.length := by omega
  have e1 : gt X j = X[j.toNat] := by simp [gt, List.getD_eq_getElem?_getD, hj]
  have e2 : gt X (j - 1) = X[(j - 1).toNat] := by unfold gt; rw [List.getD_eq_getElem?_getD, List.getElem?_eq_getElem hk]; rfl
  unfold swp
  rw [e1, e2]
  have hsw : (X.set j.toNat X[(j - 1).toNat]).set (j - 1).toNat X[j.toNat] = X.take (j - 1).toNat ++ [X[j.toNat], X[(j - 1).toNat]] ++ X.drop (j.toNat + 1) := by
    obtain ⟨n, hn⟩ : ∃ n, j.toNat = n + 1 := ⟨j.toNat - 1, by omega⟩
    have hn2 : (j - 1).toNat = n := by omega
    simp only [hn, hn2] at *
    refine List.ext_getElem? fun i => ?_
    rw [List.getElem?_set, List.getElem?_set, List.append_assoc]
    by_cases hi : i < n
    · rw [if_neg (by omega), if_neg (by omega), List.getElem?_append_left (by simp; omega), List.getElem?_take, if_pos hi]
    · rw [List.getElem?_append_right (by simp; omega)]
      have hl : (X.take n).length = n := by simp; omega
      rw [hl]
      by_cases h2 : i = n
      · subst h2; rw [if_pos rfl, if_pos (by simp; omega), Nat.sub_self]; rfl
      · rw [if_neg (by omega)]
        by_cases h3 : i = n + 1
        · subst h3; rw [if_pos rfl, if_pos (by omega), show n + 1 - n = 1 from by omega]; rfl
        · rw [if_neg (by omega), List.getElem?_append_right (by simp; omega), List.getElem?_drop]
          congr 1; simp; omega
  rw [hsw]
  have hX : X = X.take (j - 1).toNat ++ [X[(j - 1).toNat], X[j.toNat]] ++ X.drop (j.toNat + 1) := by
    have h1 : X = X.take (j - 1).toNat ++ X.drop (j - 1).toNat := (List.take_append_drop _ _).symm
    have h2 : X.drop (j - 1).toNat = X[(j - 1).toNat] :: X.drop ((j - 1).toNat + 1) := List.drop_eq_getElem_cons hk
    have h3 : X.drop ((j - 1).toNat + 1) = X[j.toNat] :: X.drop (j.toNat + 1) := by
      rw [show (j - 1).toNat + 1 = j.toNat from by omega]; exact List.drop_eq_getElem_cons hj
    rw [h2, h3] at h1
    rw [List.append_assoc]; exact h1
  conv => rhs; rw [hX]
  exact ((List.Perm.swap _ _ _).append_left _).append_right _
theorem bub_perm {lt : α → α → Bool} : ∀ {j : Nat} {X : List α}, j < X.length → (bub lt X j).Perm X
  | 0, X, _ => List.Perm.refl _
  | j + 1, X, h => by
    rw [bub]
    split
    · exact (bub_perm (by rw [swp_len]; omega)).trans (swp_perm (by omega) (by omega))
    · exact List.Perm.refl _
theorem srt_perm {lt : α → α → Bool} : ∀ {f i : Nat} {X : List α}, i + f ≤ X.length → (srt lt f i X).Perm X
  | 0, i, X, _ => List.Perm.refl _
  | f + 1, i, X, h => by rw [srt]; exact (srt_perm (by rw [bub_len]; omega)).trans (bub_perm (by omega))
theorem sort_perm {lt : α → α → Bool} {X : List α} : (sortF lt X).Perm X := by
  unfold sortF
  cases X with
  | nil => exact List.Perm.refl _
  | cons x X => exact srt_perm (by simp; omega)
theorem sort_len {lt : α → α → Bool} {X : List α} : (sortF lt X).length = X.length := sort_perm.length_eq
end
section
variable {α β : Type} [Inhabited α] [Inhabited β] {f : α → β} {lt : α → α → Bool} {lt' : β → β → Bool}
theorem swp_map (hf : f default = default) {X : List α} {j : Int} : (swp X j).map f = swp (X.map f) j := by
  unfold swp; rw [List.map_set, List.map_set, gt_mapd f hf, gt_mapd f hf]
theorem bub_map (hf : f default = default) (hlt : ∀ x y, lt' (f x) (f y) = lt x y) : ∀ {j : Nat} {X : List α}, (bub lt X j).map f = bub lt' (X.map f) j
  | 0, X => rfl
  | j + 1, X => by
    rw [bub, bub, gt_mapd f hf, gt_mapd f hf, hlt]
    split
    · rw [bub_map hf hlt, swp_map hf]
    · rfl
theorem srt_map (hf : f default = default) (hlt : ∀ x y, lt' (f x) (f y) = lt x y) : ∀ {n i : Nat} {X : List α}, (srt lt n i X).map f = srt lt' n i (X.map f)
  | 0, i, X => rfl
  | n + 1, i, X => by rw [srt, srt, srt_map hf hlt, bub_map hf hlt]
theorem sort_map (hf : f default = default) (hlt : ∀ x y, lt' (f x) (f y) = lt x y) {X : List α} : (sortF lt X).map f = sortF lt' (X.map f) := by
  unfold sortF; rw [srt_map hf hlt, List.length_map]
end
abbrev RC := Int × List Vis
def rc (r : RT) : RC := (r.veh, r.vis)
def ltV (x y : RC) : Bool := decide (cmpI x.1 y.1 < 0)
def ltR (x y : RT) : Bool := decide (cmpI x.veh y.veh < 0)
theorem rc_d : rc default = default := rfl
theorem sort_rc {X : List RT} : (sortF ltR X).map rc = sortF ltV (X.map rc) := sort_map (lt := ltR) (lt' := ltV) rc_d (fun x y => rfl)
section
variable {V : Env} {P : Program} {Q : Exit → Act → World → Prop} {ops : Array Oper} {N : Nat} {L : List (Nat × Value)} {H R : List Res} {S : Nat → Prop} {wf : World} {rest : List Oper}
theorem nestR_perm {e : Nat} {l l' : List RT} (h : l'.Perm l) {w : World} (hw : WW V S wf ([nestR e l] ++ R) w) : WW V S wf ([nestR e l'] ++ R) w :=
  WW.relist hw (by simp only [feet_cons, feet_nil, List.append_nil]; exact List.Perm.flatMap_right _ h) (fun hA r hr => by
    simp only [List.mem_singleton] at hr; subst hr
    intro x hx; exact hA (nestR e l) (by simp) x (h.mem_iff.1 hx))
theorem SC.permR {e : Nat} {l l' : List RT} {c : Code} (hp : PickL H [nestR e l] R) (hl : l'.Perm l) (h : SC V P Q N c ⟨L, nestR e l' :: R, S, wf⟩) : SC V P Q N c ⟨L, H, S, wf⟩ := fun a w hs hw => h a w hs (nestR_perm hl (hw.perm hp.perm))
end
def visR (v : Int) : List RC → List Vis
  | [] => []
  | r :: s => if r.1 = v then r.2 else visR v s
theorem visR_cons {v : Int} {r : RC} {s : List RC} : visR v (r :: s) = if r.1 = v then r.2 else visR v s := rfl
def otherR (v : Int) : List RC → List RC
  | [] => []
  | r :: s => if r.1 ≠ v then r :: otherR v s else otherR v s
theorem otherR_cons {v : Int} {r : RC} {s : List RC} : otherR v (r :: s) = if r.1 ≠ v then r :: otherR v s else otherR v s := rfl
def withF (s : List RC) (v : Int) (l : List Vis) : List RC := sortF ltV (otherR v s ++ if l.length > 0 then [(v, l)] else [])
theorem drop_rc {Y : List RT} {i : Int} (h0 : 0 ≤ i) (h1 : i < (Y.length : Int)) : (Y.map rc).drop i.toNat = ((gt Y i).veh, (gt Y i).vis) :: (Y.map rc).drop (i + 1).toNat := by
  rw [drop_gt h0 (by simpa using h1), gt_map rc h0 h1]; rfl
theorem otherR_len {v : Int} : ∀ {s : List RC}, (otherR v s).length ≤ s.length
  | [] => Nat.le_refl _
  | r :: s => by rw [otherR_cons]; split; · simp; exact otherR_len
                 · have := otherR_len (v := v) (s := s); simp; omega
end Go.SX
namespace Go.SX
theorem kbDT {φ : Prop} [Decidable φ] (h : φ) : some (decide φ) = some true := congrArg some (decide_eq_true h)
theorem kbDF {φ : Prop} [Decidable φ] (h : ¬ φ) : some (decide φ) = some false := congrArg some (decide_eq_false h)
end Go.SX
namespace Go.SX
open Go Go.RowKit
theorem bub_stop {α : Type} [Inhabited α] {lt : α → α → Bool} {X : List α} {j : Int} (h0 : 0 ≤ j) (h : ¬ (j > 0 ∧ lt (gt X j) (gt X (j - 1)) = true)) : bub lt X j.toNat = X := by
  by_cases hj : j > 0
  · rw [bub_step hj, if_neg (fun hc => h ⟨hj, hc⟩)]
  · rw [show j.toNat = 0 from by omega]; rfl
def ltT (p : PB) (x y : TK) : Bool := decide (prioF p y - prioF p x < 0)
def allT (nj ns : Nat) : List TK := (List.range nj).map (fun i : Nat => ⟨false, (i : Int)⟩) ++ (List.range ns).map (fun i : Nat => ⟨true, (i : Int)⟩)
def taskL (p : PB) : List TK := sortF (ltT p) (allT p.jobs.length p.ships.length)
theorem range_next {α : Type} {f : Nat → α} {X : List α} {i : Int} (h0 : 0 ≤ i) (h : X = (List.range i.toNat).map f) : X ++ [f i.toNat] = (List.range (i + 1).toNat).map f := by
  rw [show (i + 1).toNat = i.toNat + 1 from by omega, List.range_succ, List.map_append, h]; rfl
abbrev ins1 (l : List Vis) (i : Int) (x : Vis) : List Vis := l.take i.toNat ++ [x] ++ l.drop i.toNat
def waysK (one : List Vis) (y : Vis) : Nat → Int → List (List Vis)
  | 0, k => []
  | f + 1, k => ins1 one k y :: waysK one y f (k + 1)
def waysO (l : List Vis) (t : TK) (i : Int) : List (List Vis) := if t.ship = true then waysK (ins1 l i (gt (visT t) 0)) (gt (visT t) 1) ((l.length : Int) + 1 - i).toNat (i + 1) else [ins1 l i (gt (visT t) 0)]
def waysI (l : List Vis) (t : TK) : Nat → Int → List (List Vis)
  | 0, i => []
  | f + 1, i => waysO l t i ++ waysI l t f (i + 1)
def waysF (l : List Vis) (t : TK) : List (List Vis) := waysI l t (l.length + 1) 0
theorem waysI_step {l : List Vis} {t : TK} {n i : Int} (h : i < n) : waysI l t (n - i).toNat i = waysO l t i ++ waysI l t (n - (i + 1)).toNat (i + 1) := by
  rw [show (n - i).toNat = (n - (i + 1)).toNat + 1 from by omega, waysI]
theorem waysI_end {l : List Vis} {t : TK} {n i : Int} (h : ¬ i < n) : waysI l t (n - i).toNat i = [] := by rw [show (n - i).toNat = 0 from by omega]; rfl
theorem waysK_step {l : List Vis} {y : Vis} {n i : Int} (h : i < n) : waysK l y (n - i).toNat i = ins1 l i y :: waysK l y (n - (i + 1)).toNat (i + 1) := by
  rw [show (n - i).toNat = (n - (i + 1)).toNat + 1 from by omega, waysK]
theorem waysK_end {l : List Vis} {y : Vis} {n i : Int} (h : ¬ i < n) : waysK l y (n - i).toNat i = [] := by rw [show (n - i).toNat = 0 from by omega]; rfl
theorem ins1_len {l : List Vis} {i : Int} {x : Vis} (h0 : 0 ≤ i) (h1 : i ≤ (l.length : Int)) : (ins1 l i x).length = l.length + 1 := by simp; omega
theorem visT_len (t : TK) : (t.ship = true ∧ (visT t).length = 2) ∨ (¬ t.ship = true ∧ (visT t).length = 1) := by
  unfold visT; cases t.ship <;> simp
theorem visT_1 {t : TK} (h : ((visT t).length : Int) = 1) : ¬ t.ship = true := (visT_len t).elim (fun k => by omega) (fun k => k.1)
theorem visT_2 {t : TK} (h : ¬ ((visT t).length : Int) = 1) : t.ship = true ∧ (visT t).length = 2 := (visT_len t).elim (fun k => k) (fun k => by omega)
def costP (p : PB) (k : Int) (l : List Vis) : Int × Int := if l.length = 0 then (0, 0) else ((fitV p k l).cost, (fitV p k l).e)
theorem timesR_bd {p : PB} (L : LawP p) {v : VH} : ∀ {l : List Vis} {s z : TM} {m : Int}, timesR p v l s = some z → (-m ≤ s.time ∧ s.time ≤ m) → (-m ≤ s.dist ∧ s.dist ≤ m) →
    (-(m + 32000000 * l.length) ≤ z.time ∧ z.time ≤ m + 32000000 * l.length) ∧ (-(m + 32000000 * l.length) ≤ z.dist ∧ z.dist ≤ m + 32000000 * l.length)
  | [], s, z, m, h, h1, h2 => by
    have h : some s = some z := h
    cases h; simp; omega
  | x :: r, s, z, m, h, h1, h2 => by
    rw [timesR_cons] at h
    split at h
    · have c1 : -1 ≤ tcell p s.pl (nextPl p s.pl x) ∧ tcell p s.pl (nextPl p s.pl x) ≤ 32000000 := cellF_rng L.tc
      have c2 : -1 ≤ dcell p s.pl (nextPl p s.pl x) ∧ dcell p s.pl (nextPl p s.pl x) ≤ 32000000 := cellF_rng L.dc
      have ih := timesR_bd L (m := m + 32000000) h (by simp only [tmSt]; omega) (by simp only [tmSt]; omega)
      rw [List.length_cons]; omega
    · cases h
theorem times_cost {p : PB} (L : LawP p) {v : VH} {l : List Vis} (hv : 0 ≤ v.fix ∧ v.fix ≤ 1000000 ∧ 0 ≤ v.pt ∧ v.pt ≤ 1000000 ∧ 0 ≤ v.pd ∧ v.pd ≤ 1000000) (hl : l.length ≤ 60) : -4100000000000000000 ≤ (timesF p v l).cost ∧ (timesF p v l).cost ≤ 4100000000000000000 := by
  unfold timesF
  split
  · rename_i s hs
    have b := timesR_bd L (m := 0) hs (by simp) (by simp)
    have c1 : -1 ≤ tcell p s.pl v.en ∧ tcell p s.pl v.en ≤ 32000000 := cellF_rng L.tc
    have c2 : -1 ≤ dcell p s.pl v.en ∧ dcell p s.pl v.en ≤ 32000000 := cellF_rng L.dc
    unfold tmEnd
    split
    · exact ⟨by decide, by decide⟩
    · have m1 : ∀ {a q : Int}, -2000000000 ≤ a → a ≤ 2000000000 → 0 ≤ q → q ≤ 1000000 → -2000000000000000 ≤ a * q ∧ a * q ≤ 2000000000000000 := fun {a q} h1 h2 h3 h4 => by
        have e : (a * q).natAbs ≤ 2000000000000000 := by
          rw [Int.natAbs_mul]
          exact Nat.mul_le_mul (show a.natAbs ≤ 2000000000 by omega) (show q.natAbs ≤ 1000000 by omega)
        omega
      have k1 := m1 (a := s.time + tcell p s.pl v.en) (q := v.pt) (by omega) (by omega) (by omega) (by omega)
      have k2 := m1 (a := s.dist + dcell p s.pl v.en) (q := v.pd) (by omega) (by omega) (by omega) (by omega)
      dsimp only
      omega
  · exact ⟨by decide, by decide⟩
theorem firstC_all {F : List Int → PR} {Q : PR → Prop} (h0 : Q (noPR 167)) : ∀ {cs : List (List Int)}, (∀ c ∈ cs, Q (F c)) → Q (firstC F cs)
  | [], _ => h0
  | c :: r, h => by
    rw [firstC_cons]; split
    · exact h c (List.mem_cons_self ..)
    · exact firstC_all h0 (fun x hx => h x (List.mem_cons_of_mem _ hx))
theorem plan_cost {p : PB} (L : LawP p) {k : Int} {l : List Vis} (hl : l.length ≤ 60) : -4100000000000000000 ≤ (planP p k l).cost ∧ (planP p k l).cost ≤ 4100000000000000000 := by
  unfold planP
  split
  · exact ⟨by decide, by decide⟩
  · rename_i h
    split
    · exact ⟨Int.le_trans (by decide) (Int.le_refl 0), Int.le_trans (Int.le_refl 0) (by decide)⟩
    · have V := L.veh k (by omega) (by omega)
      exact times_cost L ⟨V.fix.1, V.fix.2, V.pt.1, V.pt.2, V.pd.1, V.pd.2⟩ hl
theorem cands_len {m : Int} {a : List Int} (ha : a.length ≤ 2) : ∀ c ∈ candsA m a, c.length ≤ 2 := by
  intro c hc
  match a, ha with
  | [], _ => simp [candsA] at hc; subst hc; simp
  | [x], _ => simp only [candsA, List.mem_map] at hc; obtain ⟨y, _, rfl⟩ := hc; simp
  | [x, y], _ =>
    simp only [candsA, List.mem_append, List.mem_map, List.mem_flatMap] at hc
    rcases hc with ⟨z, _, rfl⟩ | ⟨w, _, z, _, rfl⟩ <;> simp
  | _ :: _ :: _ :: _, h => simp at h
theorem fit_cost {p : PB} (L : LawP p) {k : Int} {l : List Vis} (hl : l.length ≤ 50) : -4100000000000000000 ≤ (fitV p k l).cost ∧ (fitV p k l).cost ≤ 4100000000000000000 := by
  unfold fitV
  split
  · exact ⟨by decide, by decide⟩
  · rename_i h
    split
    · exact ⟨by decide, by decide⟩
    · have V := L.veh k (by omega) (by omega)
      refine firstC_all (Q := fun r => -4100000000000000000 ≤ r.cost ∧ r.cost ≤ 4100000000000000000) ⟨by decide, by decide⟩ (fun c hc => plan_cost L ?_)
      have h1 := cands_len (m := (l.length : Int)) (a := zerosB p k) (by unfold zerosB; rw [List.length_replicate]; exact V.brs) c hc
      have h2 := setR_len (l := l) (i := 0) (k := 0) (r := c)
      omega
theorem cost_bd {p : PB} (L : LawP p) {k : Int} {l : List Vis} (hl : l.length ≤ 50) : -4100000000000000000 ≤ (costP p k l).1 ∧ (costP p k l).1 ≤ 4100000000000000000 := by
  unfold costP; split
  · exact ⟨by decide, by decide⟩
  · exact fit_cost L hl
structure IS where
  found : Bool
  best : Int
  out : List RC
def insW (p : PB) (s : List RC) (v old : Int) : List (List Vis) → IS → IS
  | [], z => z
  | l :: r, z => insW p s v old r (if (costP p v l).2 = 0 ∧ (¬ z.found = true ∨ (costP p v l).1 - old < z.best) then ⟨true, (costP p v l).1 - old, withF s v l⟩ else z)
theorem insW_cons {p : PB} {s : List RC} {v old : Int} {l : List Vis} {r : List (List Vis)} {z : IS} : insW p s v old (l :: r) z = insW p s v old r (if (costP p v l).2 = 0 ∧ (¬ z.found = true ∨ (costP p v l).1 - old < z.best) then ⟨true, (costP p v l).1 - old, withF s v l⟩ else z) := rfl
def insV (p : PB) (s : List RC) (t : TK) : Nat → Int → IS → IS
  | 0, v, z => z
  | f + 1, v, z => insV p s t f (v + 1) (if (costP p v (visR v s)).2 ≠ 0 then z else insW p s v (costP p v (visR v s)).1 (waysF (visR v s) t) z)
theorem insV_step {p : PB} {s : List RC} {t : TK} {n v : Int} {z : IS} (h : v < n) : insV p s t (n - v).toNat v z = insV p s t (n - (v + 1)).toNat (v + 1) (if (costP p v (visR v s)).2 ≠ 0 then z else insW p s v (costP p v (visR v s)).1 (waysF (visR v s) t) z) := by
  rw [show (n - v).toNat = (n - (v + 1)).toNat + 1 from by omega, insV]
theorem insV_end {p : PB} {s : List RC} {t : TK} {n v : Int} {z : IS} (h : ¬ v < n) : insV p s t (n - v).toNat v z = z := by rw [show (n - v).toNat = 0 from by omega]; rfl
def insF (p : PB) (s : List RC) (t : TK) : IS := insV p s t p.vehs.length 0 ⟨false, 0, []⟩
theorem waysK_mem {one : List Vis} {y : Vis} : ∀ {f : Nat} {k : Int} {l : List Vis}, l ∈ waysK one y f k → l.length ≤ one.length + 1
  | 0, k, l, h => by cases h
  | f + 1, k, l, h => by
    rw [waysK] at h
    rcases List.mem_cons.1 h with rfl | h
    · simp; omega
    · exact waysK_mem h
theorem ways_mem {l0 : List Vis} {t : TK} : ∀ {f : Nat} {i : Int} {l : List Vis}, l ∈ waysI l0 t f i → l.length ≤ l0.length + 2
  | 0, i, l, h => by cases h
  | f + 1, i, l, h => by
    rw [waysI] at h
    rcases List.mem_append.1 h with h | h
    · unfold waysO at h
      split at h
      · have := waysK_mem h; simp at this; omega
      · simp only [List.mem_singleton] at h; subst h; simp; omega
    · exact ways_mem h
theorem visR_mem {v : Int} : ∀ {s : List RC}, visR v s = [] ∨ ∃ r ∈ s, r.2 = visR v s
  | [] => .inl rfl
  | r :: s => by
    rw [visR_cons]
    split
    · exact .inr ⟨r, List.mem_cons_self .., rfl⟩
    · rcases visR_mem (v := v) (s := s) with h | ⟨r', h1, h2⟩
      · exact .inl h
      · exact .inr ⟨r', List.mem_cons_of_mem _ h1, h2⟩
def RBd (b : Int) (s : List RC) : Prop := ∀ r ∈ s, (r.2.length : Int) ≤ b
theorem otherR_mem {v : Int} : ∀ {s : List RC} {r : RC}, r ∈ otherR v s → r ∈ s ∧ r.1 ≠ v
  | [], r, h => by cases h
  | x :: s, r, h => by
    rw [otherR_cons] at h
    split at h
    · rename_i hx
      rcases List.mem_cons.1 h with rfl | h
      · exact ⟨List.mem_cons_self .., hx⟩
      · exact ⟨List.mem_cons_of_mem _ (otherR_mem h).1, (otherR_mem h).2⟩
    · exact ⟨List.mem_cons_of_mem _ (otherR_mem h).1, (otherR_mem h).2⟩
theorem with_mem {s : List RC} {v : Int} {l : List Vis} {r : RC} (h : r ∈ withF s v l) : (r ∈ s ∧ r.1 ≠ v) ∨ (r = (v, l) ∧ 0 < l.length) := by
  have h := sort_perm.mem_iff.1 h
  rcases List.mem_append.1 h with h | h
  · exact .inl (otherR_mem h)
  · split at h
    · rename_i hl; simp only [List.mem_singleton] at h; exact .inr ⟨h, hl⟩
    · cases h
theorem with_len {s : List RC} {v : Int} {l : List Vis} : (withF s v l).length ≤ s.length + 1 := by
  unfold withF
  rw [sort_len, List.length_append]
  have := otherR_len (v := v) (s := s)
  split <;> simp <;> omega
theorem visR_bd {b : Int} {s : List RC} {v : Int} (h : RBd b s) (hb : 0 ≤ b) : ((visR v s).length : Int) ≤ b := by
  rcases visR_mem (v := v) (s := s) with e | ⟨r, h1, h2⟩
  · rw [e]; exact hb
  · rw [← h2]; exact h r h1
theorem insW_bd {p : PB} {s : List RC} {v old b : Int} (h : RBd b s) : ∀ {ls : List (List Vis)} {z : IS}, (∀ l ∈ ls, (l.length : Int) ≤ b + 2) → (RBd (b + 2) z.out ∧ z.out.length ≤ s.length + 1) → RBd (b + 2) (insW p s v old ls z).out ∧ (insW p s v old ls z).out.length ≤ s.length + 1
  | [], z, _, hz => hz
  | l :: r, z, hl, hz => by
    rw [insW_cons]
    refine insW_bd h (fun x hx => hl x (List.mem_cons_of_mem _ hx)) ?_
    split
    · refine ⟨fun x hx => ?_, with_len⟩
      rcases with_mem hx with ⟨h1, _⟩ | ⟨rfl, _⟩
      · have := h x h1; omega
      · exact hl l (List.mem_cons_self ..)
    · exact hz
theorem insV_bd {p : PB} {s : List RC} {t : TK} {b : Int} (h : RBd b s) (hb : 0 ≤ b) : ∀ {f : Nat} {v : Int} {z : IS}, (RBd (b + 2) z.out ∧ z.out.length ≤ s.length + 1) → RBd (b + 2) (insV p s t f v z).out ∧ (insV p s t f v z).out.length ≤ s.length + 1
  | 0, v, z, hz => hz
  | f + 1, v, z, hz => by
    rw [insV]
    refine insV_bd h hb ?_
    split
    · exact hz
    · refine insW_bd h (fun l hl => ?_) hz
      have h1 := ways_mem hl
      have h2 := visR_bd (v := v) h hb
      omega
theorem ins_bd {p : PB} {s : List RC} {t : TK} {b : Int} (h : RBd b s) (hb : 0 ≤ b) : RBd (b + 2) (insF p s t).out ∧ (insF p s t).out.length ≤ s.length + 1 :=
  insV_bd h hb ⟨fun r hr => by (cases hr), Nat.zero_le _⟩
def greedyR (p : PB) : List TK → List RC → List RC
  | [], s => s
  | t :: r, s => greedyR p r (if (insF p s t).found = true then (insF p s t).out else s)
theorem greedyR_cons {p : PB} {t : TK} {r : List TK} {s : List RC} : greedyR p (t :: r) s = greedyR p r (if (insF p s t).found = true then (insF p s t).out else s) := rfl
def greedyF (p : PB) : List RC := greedyR p (taskL p) []
theorem RBd_gt {b : Int} {l : List RT} (h : RBd b (l.map rc)) (hb : 0 ≤ b) (i : Int) : ((gt l i).vis.length : Int) ≤ b := by
  rcases gt_mem_or l i with hm | hm
  · exact h (rc (gt l i)) (List.mem_map_of_mem hm)
  · rw [hm]; exact hb
theorem RBd_mono {a b : Int} {s : List RC} (h : RBd a s) (hab : a ≤ b) : RBd b s := fun r hr => by have := h r hr; omega
theorem prio_rng {p : PB} (L : LawP p) (t : TK) : 0 ≤ prioF p t ∧ prioF p t ≤ 100 := by
  unfold prioF
  split
  · rename_i h
    split
    · rename_i hs; have i := thr_t (p := p) (t := t) (fun k => k h) hs; exact (L.ship _ i.1 i.2).pr
    · rename_i hs; have i := thr_f (p := p) (t := t) (fun k => k h) hs; exact (L.job _ i.1 i.2).pr
  · exact ⟨Int.le_refl _, by decide⟩
end Go.SX
namespace Go.SX
theorem RBd_of {b : Int} {l : List RT} (h : ∀ i : Int, ((gt l i).vis.length : Int) ≤ b) : RBd b (l.map rc) := fun r hr => by
  obtain ⟨x, hx, rfl⟩ := List.mem_map.1 hr
  obtain ⟨n, hn, e⟩ := List.getElem_of_mem hx
  have h1 := h n
  have e2 : gt l (n : Int) = x := by simp [gt, List.getD_eq_getElem?_getD, hn, e]
  rw [e2] at h1; exact h1
theorem drop_gtv {Y : List VL} {i : Int} (h0 : 0 ≤ i) (h1 : i < (Y.length : Int)) : (Y.map VL.vl).drop i.toNat = (gt Y i).vl :: (Y.map VL.vl).drop (i + 1).toNat := by
  rw [drop_gt h0 (by simpa using h1), gt_map VL.vl h0 h1]
theorem ways_at {Y : List VL} {l : List Vis} {t : TK} {i : Int} (h : Y.map VL.vl = waysF l t) (h0 : 0 ≤ i) (h1 : i < (Y.length : Int)) : (gt Y i).vl.length ≤ l.length + 2 :=
  ways_mem (by show _ ∈ waysF l t; rw [← h]; exact List.mem_map_of_mem (gt_mem h0 h1))
theorem taskL_len {p : PB} (L : LawP p) : (taskL p).length = p.jobs.length + p.ships.length := by unfold taskL; rw [sort_len]; simp [allT]
end Go.SX
namespace Go.SX
open Go Go.RowKit
section
variable {α : Type} [Inhabited α] (key : α → Int)
def SortedK (l : List α) : Prop := l.Pairwise (fun x y => key x ≤ key y)
def SameK (l m : List α) : Prop := ∀ k : Int, l.filter (fun x => decide (key x = k)) = m.filter (fun x => decide (key x = k))
variable {key}
theorem SameK.refl (l : List α) : SameK key l l := fun _ => rfl
theorem SameK.trans {l m n : List α} (h : SameK key l m) (k : SameK key m n) : SameK key l n := fun x => (h x).trans (k x)
theorem SameK.symm {l m : List α} (h : SameK key l m) : SameK key m l := fun x => (h x).symm
variable {lt : α → α → Bool}
def rem : List α → List Bool → List α
  | a :: l, u :: us => if u = true then rem l us else a :: rem l us
  | _, _ => []
variable (key)
structure SelI (all X : List α) (U : List Bool) : Prop where
  ulen : U.length = all.length
  cnt : X.length + (rem all U).length = all.length
  srt : SortedK key X
  le : ∀ x ∈ X, ∀ y ∈ rem all U, key x ≤ key y
  same : SameK key (X ++ rem all U) all
variable {key}
theorem gt_some {β : Type} [Inhabited β] {l : List β} {b : Int} {x : β} (h : l[b.toNat]? = some x) : gt l b = x := by unfold gt; rw [List.getD_eq_getElem?_getD, h]; rfl
end
end Go.SX
namespace Go.SX
open Go Go.RowKit
section
variable {V : Env} {N : Nat} {L : List (Nat × Value)} {H R : List Res} {S : Nat → Prop} {wf : World} {Q : Act → World → Prop}
theorem SQ.packR {e : Nat} {l : List RT} (s : RT) (hp : PickL H [nestR e l, rw_ eVis e (.slice s.rA s.vis.length s.rc) s.vis] R) (hb : s.vis.length ≤ 140737488355328) (h : SQ V Q N ⟨L, nestR e (l ++ [s]) :: R, S, wf⟩) : SQ V Q N ⟨L, H, S, wf⟩ := fun a w hs hw => h a w hs (WW.bigapp (hw.perm hp.perm) rfl (fun h => ⟨h, hb⟩))
end
section
variable {S : Nat → Prop} {wf : World}
theorem gt_right {α : Type} [Inhabited α] {D Y : List α} {i : Int} (h0 : 0 ≤ i) : gt (D ++ Y) ((D.length : Int) + i) = gt Y i := by
  unfold gt; rw [List.getD_eq_getElem?_getD, List.getD_eq_getElem?_getD, show ((D.length : Int) + i).toNat = D.length + i.toNat from by omega, List.getElem?_append_right (by omega)]; congr 2; omega
theorem VLF.right {D Y : List VL} (h : VLF S wf (D ++ Y)) : VLF S wf Y := fun i => by
  rcases gt_mem_or Y i with hm | hm
  · obtain ⟨n, hn, e⟩ := List.getElem_of_mem hm
    have e2 : gt (D ++ Y) ((D.length : Int) + n) = gt Y i := by rw [gt_right (by omega), ← e]; simp [gt, List.getD_eq_getElem?_getD, hn]
    have := h ((D.length : Int) + n); rw [e2] at this; exact this
  · rw [hm]; exact Fr.nil _ _ _ _
end
end Go.SX
namespace Go.SX
open Go Go.RowKit
theorem rcs_nx {l m : List RT} {i : Int} (h : ∀ j : Int, 0 ≤ j → j < i → rc (gt l j) = rc (gt m j)) (hq : ¬ (¬ (gt l i).veh = (gt m i).veh ∨ ¬ (gt l i).vis = (gt m i).vis)) : ∀ j : Int, 0 ≤ j → j < i + 1 → rc (gt l j) = rc (gt m j) := fun j h0 h1 => by
  by_cases hj : j = i
  · subst hj
    exact Prod.ext (Classical.not_not.1 fun hc => hq (.inl hc)) (Classical.not_not.1 fun hc => hq (.inr hc))
  · exact h j h0 (by omega)
theorem rcs_ne {l m : List RT} {i : Int} (hq : ¬ (gt l i).veh = (gt m i).veh ∨ ¬ (gt l i).vis = (gt m i).vis) (e : l.map rc = m.map rc) : False := by
  have e2 : rc (gt l i) = rc (gt m i) := by rw [← gt_mapd rc rc_d, ← gt_mapd rc rc_d, e]
  rcases hq with hq | hq
  · exact hq (congrArg Prod.fst e2)
  · exact hq (congrArg Prod.snd e2)
theorem rcs_eq {l m : List RT} (hl : l.length = m.length) (h : ∀ j : Int, 0 ≤ j → j < (l.length : Int) → rc (gt l j) = rc (gt m j)) : l.map rc = m.map rc := by
  refine List.ext_getElem (by simpa using hl) fun n h1 h2 => ?_
  have h1' : n < l.length := by simpa using h1
  have h2' : n < m.length := by simpa using h2
  have := h n (by omega) (by omega)
  have e1 : gt l (n : Int) = l[n] := by simp [gt, List.getD_eq_getElem?_getD, h1']
  have e2 : gt m (n : Int) = m[n] := by simp [gt, List.getD_eq_getElem?_getD, h2']
  rw [e1, e2] at this
  simpa using this
end Go.SX
namespace Go.SX
open Go Go.RowKit
structure SkU (p : PB) : Prop where
  v : ∀ i : Int, 0 ≤ (gt p.vehs i).vsk
  j : ∀ i : Int, 0 ≤ (gt p.jobs i).jsk
  s : ∀ i : Int, 0 ≤ (gt p.ships i).ssk
theorem shift_to {lo hi : Int} (h : 0 ≤ lo ∧ hi ≤ 1000000 ∧ lo ≤ hi) : WinsOk [⟨lo, hi⟩] where
  len := ⟨by simp, by simp⟩
  each i h0 h1 := by
    simp at h1
    have : i = 0 := by omega
    subst this; exact h
  next i h0 h1 := by simp at h1; omega
end Go.SX
namespace Go.SX
open Go Go.RowKit
section
variable {V : Env} {P : Program} {Q : Exit → Act → World → Prop} {ops : Array Oper} {N fuel : Nat} {L : List (Nat × Value)} {H R C : List Res} {S S1 : Nat → Prop} {wf wf1 : World} {B : World → Prop} {cs : List (Nat × (World → Prop))} {listed : Array Bool}
theorem SR.thaw (hx : Ext S wf S1 wf1) (h : SR V P Q ops N B cs fuel listed ⟨L, H, S, wf⟩) : SR V P Q ops N B cs fuel listed ⟨L, H, S1, wf1⟩ := fun a w hs hw ht hc => h a w hs (hw.thaw hx) ht hc
theorem retz1 {fn : Func} {r : ResultVar} {v : Value} {post : Value → List Res → (Nat → Prop) → World → Prop} (hr : fn.results = #[r]) (h1 : RV P L (WW V S1 wf1 H) r v) (hx : Ext S wf S1 wf1) (h : post v [] S1 wf1) :
    SQ V (bodyPost P fn (TRp V S wf post) .ret) N ⟨L, H, S1, wf1⟩ := fun a w hs hw => by
  refine ⟨hs.2.1, v, ?_, v, [], S1, wf1, rfl, h, hx, hw.keep .n⟩
  have e1 := h1 a w N hs hw
  rw [results_resF, hr]
  simp [e1]
end
end Go.SX
namespace Go.SX
open Go Go.RowKit
def eraB (b : BK) : BK := { b with bwA := none, bwc := 0 }
def eraO (s : SO) : SO := { s with soA := none, soc := 0 }
def eraV (v : VH) : VH := { v with brs := v.brs.map eraB, vcA := none, vcc := 0, vbA := none, vbc := 0 }
def eraJ (j : JB) : JB := { j with so := eraO j.so, jdA := none, jdc := 0, jkA := none, jkc := 0 }
def eraS (s : SH) : SH := { s with sp := eraO s.sp, sd := eraO s.sd, saA := none, sac := 0 }
def era (p : PB) : PB := { p with vehs := p.vehs.map eraV, jobs := p.jobs.map eraJ, ships := p.ships.map eraS, ptA := none, ptc := 0, pdA := none, pdc := 0, pvA := none, pvc := 0, pjA := none, pjc := 0, psA := none, psc := 0 }
section
variable {p : PB}
theorem era_gv (i : Int) : gt (era p).vehs i = eraV (gt p.vehs i) := gt_mapd eraV rfl p.vehs i
theorem era_gj (i : Int) : gt (era p).jobs i = eraJ (gt p.jobs i) := gt_mapd eraJ rfl p.jobs i
theorem era_gs (i : Int) : gt (era p).ships i = eraS (gt p.ships i) := gt_mapd eraS rfl p.ships i
theorem era_gb {v : VH} (i : Int) : gt (eraV v).brs i = eraB (gt v.brs i) := gt_mapd eraB rfl v.brs i
theorem era_lv : (era p).vehs.length = p.vehs.length := List.length_map ..
theorem era_lj : (era p).jobs.length = p.jobs.length := List.length_map ..
theorem era_ls : (era p).ships.length = p.ships.length := List.length_map ..
theorem era_lb {v : VH} : (eraV v).brs.length = v.brs.length := List.length_map ..
theorem there_e {t : TK} : thereF (era p) t = thereF p t := by unfold thereF; rw [era_lj, era_ls]
theorem prio_e {t : TK} : prioF (era p) t = prioF p t := by unfold prioF; rw [there_e, era_gj, era_gs]; rfl
theorem skil_e {t : TK} : skilF (era p) t = skilF p t := by unfold skilF; rw [there_e, era_gj, era_gs]; rfl
theorem isStop_e {x : Vis} : isStop (era p) x = isStop p x := by unfold isStop; rw [there_e]
theorem stopO_e {x : Vis} : stopO (era p) x = eraO (stopO p x) := by
  unfold stopO; rw [era_gj, era_gs]; split
  · rfl
  · split <;> rfl
theorem stopD_e {x : Vis} : stopD (era p) x = eraO (stopD p x) := by
  unfold stopD; rw [isStop_e, stopO_e]; split <;> rfl
theorem pairs_e : ∀ {l : List Vis} {m : List (Vis × Bool)} {op : Int}, pairsR (era p) l m op = pairsR p l m op
  | [], _, _ => rfl
  | x :: r, m, op => by rw [pairsR_cons, pairsR_cons, isStop_e, pairs_e, pairs_e]
theorem skills_e {v : VH} : ∀ {l : List Vis}, skillsR (era p) (eraV v) l = skillsR p v l
  | [] => rfl
  | x :: r => by rw [skillsR_cons, skillsR_cons, skil_e, skills_e]; rfl
theorem load0R_e : ∀ {l : List Vis} {a : List Int}, load0R (era p) l a = load0R p l a
  | [], _ => rfl
  | x :: r, a => by
    rw [load0R_cons, load0R_cons, isStop_e, load0R_e, load0R_e, show dropV (era p) x = dropV p x from by show (gt (era p).jobs x.item).drop = _; rw [era_gj]; rfl]
theorem loadSt_e {x : Vis} {a : List Int} : loadSt (era p) x a = loadSt p x a := by
  unfold loadSt
  rw [isStop_e, show dropV (era p) x = dropV p x from by show (gt (era p).jobs x.item).drop = _; rw [era_gj]; rfl, show pickV (era p) x = pickV p x from by show (gt (era p).jobs x.item).pick = _; rw [era_gj]; rfl, show amV (era p) x = amV p x from by show (gt (era p).ships x.item).am = _; rw [era_gs]; rfl]
theorem loadsR_e : ∀ {l : List Vis} {a : List Int}, loadsR (era p) l a = loadsR p l a
  | [], _ => rfl
  | x :: r, a => by rw [loadsR_cons, loadsR_cons, loadSt_e, loadsR_e]
theorem loads_e {l : List Vis} : loadsF (era p) l = loadsF p l := by
  unfold loadsF load0; rw [load0R_e, loadsR_e]; rfl
theorem nextPl_e {a : Int} {x : Vis} : nextPl (era p) a x = nextPl p a x := by unfold nextPl; rw [isStop_e, stopD_e]; rfl
theorem placesR_e : ∀ {l : List Vis} {a : Int}, placesR (era p) l a = placesR p l a
  | [], _ => rfl
  | x :: r, a => by rw [placesR_cons, placesR_cons, nextPl_e, placesR_e]
theorem places_e {v : VH} {l : List Vis} : placesF (era p) (eraV v) l = placesF p v l := by unfold placesF; rw [placesR_e]; rfl
theorem travel_e : ∀ {l : List Int}, travelR (era p) l = travelR p l
  | [] => rfl
  | [a] => rfl
  | a :: b :: r => by rw [travelR_cons, travelR_cons, travel_e]; rfl
theorem stopB_e {v : VH} {x : Vis} : (stopB (era p) (eraV v) x).srv = (stopB p v x).srv ∧ (stopB (era p) (eraV v) x).sws = (stopB p v x).sws := by
  unfold stopB; rw [era_gb, stopD_e]; split <;> exact ⟨rfl, rfl⟩
theorem tmSt_e {v : VH} {s : TM} {x : Vis} {b : Int} : tmSt (era p) (eraV v) s x b = tmSt p v s x b := by
  unfold tmSt; rw [stopB_e.1, nextPl_e]; rfl
theorem times_e {v : VH} : ∀ {l : List Vis} {s : TM}, timesR (era p) (eraV v) l s = timesR p v l s
  | [], _ => rfl
  | x :: r, s => by rw [timesR_cons, timesR_cons, tmSt_e, stopB_e.2, nextPl_e, times_e]; rfl
theorem timesF_e {v : VH} {l : List Vis} : timesF (era p) (eraV v) l = timesF p v l := by
  unfold timesF; rw [times_e]; rfl
theorem checks_e {v : VH} {l : List Vis} : checksF (era p) (eraV v) l = checksF p v l := by
  unfold checksF; rw [pairs_e, skills_e, loads_e, places_e, travel_e, era_lb]; rfl
theorem planP_e {k : Int} {l : List Vis} : planP (era p) k l = planP p k l := by
  unfold planP; rw [era_lv, era_gv, checks_e, timesF_e]
theorem fit_e {k : Int} {l : List Vis} : fitV (era p) k l = fitV p k l := by
  have h1 : planS (era p) k l = planS p k l := funext fun a => planP_e
  unfold fitV zerosB; rw [era_lv, era_gv, era_lb, h1]
theorem cost_e {k : Int} {l : List Vis} : costP (era p) k l = costP p k l := by unfold costP; rw [fit_e]
theorem ltT_e : ltT (era p) = ltT p := funext fun x => funext fun y => by unfold ltT; rw [prio_e, prio_e]
theorem taskL_e : taskL (era p) = taskL p := by unfold taskL; rw [ltT_e, era_lj, era_ls]
theorem insW_e {s : List RC} {v old : Int} : ∀ {ls : List (List Vis)} {z : IS}, insW (era p) s v old ls z = insW p s v old ls z
  | [], _ => rfl
  | l :: r, z => by rw [insW_cons, insW_cons, cost_e, insW_e]
theorem insV_e {s : List RC} {t : TK} : ∀ {f : Nat} {v : Int} {z : IS}, insV (era p) s t f v z = insV p s t f v z
  | 0, _, _ => rfl
  | f + 1, v, z => by rw [insV, insV, cost_e, insW_e, insV_e]
theorem ins_e {s : List RC} {t : TK} : insF (era p) s t = insF p s t := by unfold insF; rw [era_lv, insV_e]
theorem greedyR_e : ∀ {ts : List TK} {s : List RC}, greedyR (era p) ts s = greedyR p ts s
  | [], _ => rfl
  | t :: r, s => by rw [greedyR_cons, greedyR_cons, ins_e, greedyR_e]
theorem greedy_e : greedyF (era p) = greedyF p := by unfold greedyF; rw [taskL_e, greedyR_e]
end
theorem greedy_era {p q : PB} (h : era q = era p) : greedyF q = greedyF p := by rw [← greedy_e (p := q), h, greedy_e]
theorem vehOk_e {d n : Int} {v : VH} : VehOk d n (eraV v) ↔ VehOk d n v := by
  constructor
  · rintro ⟨a, b, c, e, f, g, h, i, j, k, l⟩
    refine ⟨a, b, c, e, f, g, h, i, j, by rw [era_lb] at k; exact k, fun x h0 h1 => ?_⟩
    have := l x h0 (by rw [era_lb]; exact h1)
    rw [era_gb] at this; exact this
  · rintro ⟨a, b, c, e, f, g, h, i, j, k, l⟩
    refine ⟨a, b, c, e, f, g, h, i, j, by rw [era_lb]; exact k, fun x h0 h1 => ?_⟩
    have := l x h0 (by rw [era_lb] at h1; exact h1)
    rw [era_gb]; exact this
theorem stopOk_e {n : Int} {s : SO} : StopOk n (eraO s) ↔ StopOk n s := ⟨fun ⟨a, b, c⟩ => ⟨a, b, c⟩, fun ⟨a, b, c⟩ => ⟨a, b, c⟩⟩
theorem jobOk_e {d n : Int} {s : JB} : JobOk d n (eraJ s) ↔ JobOk d n s := ⟨fun ⟨a, b, c, e, f⟩ => ⟨stopOk_e.1 a, b, c, e, f⟩, fun ⟨a, b, c, e, f⟩ => ⟨stopOk_e.2 a, b, c, e, f⟩⟩
theorem shipOk_e {d n : Int} {s : SH} : ShipOk d n (eraS s) ↔ ShipOk d n s := ⟨fun ⟨a, b, c, e, f⟩ => ⟨stopOk_e.1 a, stopOk_e.1 b, c, e, f⟩, fun ⟨a, b, c, e, f⟩ => ⟨stopOk_e.2 a, stopOk_e.2 b, c, e, f⟩⟩
theorem law_e {p : PB} : LawP (era p) ↔ LawP p := by
  constructor
  · rintro ⟨a, b, c, d, e, f, g, h, i, j, k, l⟩
    refine ⟨a, b, c, d, e, f, g, by rw [era_lv] at h; exact h, by rw [era_lj, era_ls] at i; exact i, fun x h0 h1 => ?_, fun x h0 h1 => ?_, fun x h0 h1 => ?_⟩
    · have := j x h0 (by rw [era_lv]; exact h1); rw [era_gv] at this; exact vehOk_e.1 this
    · have := k x h0 (by rw [era_lj]; exact h1); rw [era_gj] at this; exact jobOk_e.1 this
    · have := l x h0 (by rw [era_ls]; exact h1); rw [era_gs] at this; exact shipOk_e.1 this
  · rintro ⟨a, b, c, d, e, f, g, h, i, j, k, l⟩
    refine ⟨a, b, c, d, e, f, g, by rw [era_lv]; exact h, by rw [era_lj, era_ls]; exact i, fun x h0 h1 => ?_, fun x h0 h1 => ?_, fun x h0 h1 => ?_⟩
    · rw [era_gv]; exact vehOk_e.2 (j x h0 (by rw [era_lv] at h1; exact h1))
    · rw [era_gj]; exact jobOk_e.2 (k x h0 (by rw [era_lj] at h1; exact h1))
    · rw [era_gs]; exact shipOk_e.2 (l x h0 (by rw [era_ls] at h1; exact h1))
theorem law_era {p q : PB} (h : era q = era p) (L : LawP p) : LawP q := law_e.1 (by rw [h]; exact law_e.2 L)
def lineP : PB := ⟨0, 2, [0, 10, 10, 0], 2, [0, 10, 10, 0], [⟨0, 0, [], 0, 0, 1000000, 0, 1, 0, 12, [], none, 0, none, 0⟩], [⟨⟨1, 5, [⟨0, 1000000⟩], none, 0⟩, [], [], 0, 1, none, 0, none, 0⟩, ⟨⟨1, 0, [⟨0, 1000000⟩], none, 0⟩, [], [], 0, 5, none, 0, none, 0⟩], [], none, 0, none, 0, none, 0, none, 0, none, 0⟩
theorem line_greedy : (greedyF lineP).map (fun r => r.2.length) = [2] := by rfl
theorem gt_all {α : Type} [Inhabited α] {l : List α} {Φ : α → Prop} (h : ∀ x ∈ l, Φ x) (hd : Φ default) (i : Int) : Φ (gt l i) := by
  rcases gt_mem_or l i with k | k
  · exact h _ k
  · rw [k]; exact hd
theorem gt_in {α : Type} [Inhabited α] {l : List α} {i : Int} (h0 : 0 ≤ i) (h1 : i < (l.length : Int)) : gt l i ∈ l := by
  unfold gt; rw [List.getD_eq_getElem?_getD, List.getElem?_eq_getElem (by omega)]; exact List.getElem_mem _
theorem rng_nil {m : Int} (h : 0 ≤ m) : rng [] m := fun i => by
  rcases gt_mem_or ([] : List Int) i with k | k
  · cases k
  · rw [k]; exact ⟨Int.le_refl _, h⟩
theorem line_law : LawP lineP where
  dims := ⟨by decide, by decide⟩
  tn := ⟨by decide, by decide⟩
  dn := rfl
  tlen := rfl
  dlen := rfl
  tc := gt_all (Φ := fun x : Int => -1 ≤ x ∧ x ≤ 32000000) (by decide) (by decide)
  dc := gt_all (Φ := fun x : Int => -1 ≤ x ∧ x ≤ 32000000) (by decide) (by decide)
  nv := by decide
  nj := by decide
  veh i h0 h1 := by
    have hm := gt_in h0 h1
    simp only [lineP, List.mem_singleton] at hm
    have e : gt lineP.vehs i = _ := hm
    rw [e]
    exact { st := by decide, en := by decide, cap := ⟨rfl, rng_nil (by decide)⟩, sk := by decide, sh := by decide, fix := by decide, pt := by decide, pd := by decide, mt := by decide, brs := by decide, brk := fun i h0 h1 => by simp at h1; omega }
  job i h0 h1 := by
    have hm := gt_in h0 h1
    simp only [lineP, List.mem_cons, List.mem_singleton, List.not_mem_nil, or_false] at hm
    rcases hm with hm | hm
    all_goals
      have e : gt lineP.jobs i = _ := hm
      rw [e]
      exact { so := ⟨by decide, by decide, shift_to (by decide)⟩, drop := ⟨rfl, rng_nil (by decide)⟩, pick := ⟨rfl, rng_nil (by decide)⟩, sk := by decide, pr := by decide }
  ship i h0 h1 := by simp [lineP] at h1; omega
theorem one_all {α : Type} [Inhabited α] {x : α} {Φ : α → Prop} (h : Φ x) (hd : Φ default) (i : Int) : Φ (gt [x] i) := gt_all (by simpa using h) hd i
theorem two_all {α : Type} [Inhabited α] {x y : α} {Φ : α → Prop} (h : Φ x) (h2 : Φ y) (hd : Φ default) (i : Int) : Φ (gt [x, y] i) := gt_all (by simp [h, h2]) hd i
theorem VHF.dflt {S : Nat → Prop} {wf : World} : VHF S wf default := ⟨Fr.nil _ _ _ _, Fr.nil _ _ _ _, fun i => by rw [show gt (default : VH).brs i = default from (gt_mem_or ([] : List BK) i).elim (fun h => by cases h) id]; exact Fr.nil _ _ _ _⟩
theorem JBF.dflt {S : Nat → Prop} {wf : World} : JBF S wf default := ⟨Fr.nil _ _ _ _, Fr.nil _ _ _ _, Fr.nil _ _ _ _⟩
theorem SHF.dflt {S : Nat → Prop} {wf : World} : SHF S wf default := ⟨Fr.nil _ _ _ _, Fr.nil _ _ _ _, Fr.nil _ _ _ _⟩
theorem gt_none {α : Type} [Inhabited α] (i : Int) : gt ([] : List α) i = default := (gt_mem_or ([] : List α) i).elim (fun h => by cases h) id
theorem awake_ {R : List RT} {q : PB} (h : R.map rc = greedyF q) (he : era q = lineP) : R.length = 1 ∧ (gt R 0).vis.length = 2 := by
  have h2 : (R.map rc).map (fun r => r.2.length) = [2] := by
    rw [h, greedy_era (p := lineP) (q := q) he]; exact line_greedy
  match R, h2 with
  | [], h2 => cases h2
  | [r], h2 => exact ⟨rfl, by injection h2⟩
  | _ :: _ :: _, h2 => injection h2 with _ h3; cases h3
end Go.SX
namespace Go.SX
open Go Go.RowKit
theorem gt_sets {α : Type} [Inhabited α] {l : List α} {i : Int} {x : α} (h0 : 0 ≤ i) (h1 : i < (l.length : Int)) : gt (l.set i.toNat x) i = x := by
  unfold gt; rw [List.getD_eq_getElem?_getD, List.getElem?_set_self (by omega)]; rfl
theorem gt_setn {α : Type} [Inhabited α] {l : List α} {i j : Int} {x : α} (h0 : 0 ≤ i) (h1 : 0 ≤ j) (h : i ≠ j) : gt (l.set i.toNat x) j = gt l j := by
  unfold gt; rw [List.getD_eq_getElem?_getD, List.getD_eq_getElem?_getD, List.getElem?_set_ne (by omega)]
def resB (e : Nat) (b : BK) : Res := rowB eWN e (.slice b.bwA b.bws.length b.bwc) b.bws
def nestB (e : Nat) (l : List BK) : Res := big (resB e) l
def resV (a b c : Nat) (v : VH) : Res := both (rowB eZ a (.slice v.vcA v.vcap.length v.vcc) v.vcap) (both (rowB eBK b (.slice v.vbA v.brs.length v.vbc) v.brs) (nestB c v.brs))
def nestV (a b c : Nat) (l : List VH) : Res := big (resV a b c) l
def resJ (a c : Nat) (j : JB) : Res := both (rowB eZ a (.slice j.jdA j.drop.length j.jdc) j.drop) (both (rowB eZ a (.slice j.jkA j.pick.length j.jkc) j.pick) (rowB eWN c (.slice j.so.soA j.so.sws.length j.so.soc) j.so.sws))
def nestJ (a c : Nat) (l : List JB) : Res := big (resJ a c) l
def resZ (a c : Nat) (s : SH) : Res := both (rowB eZ a (.slice s.saA s.am.length s.sac) s.am) (both (rowB eWN c (.slice s.sp.soA s.sp.sws.length s.sp.soc) s.sp.sws) (rowB eWN c (.slice s.sd.soA s.sd.sws.length s.sd.soc) s.sd.sws))
def nestZ (a c : Nat) (l : List SH) : Res := big (resZ a c) l
section
variable {S : Nat → Prop} {w : World}
theorem BKF.of {e : Nat} {l : List BK} (h : (nestB e l).holds w) (hS : ∀ b ∈ (nestB e l).foot, S b) : ∀ i : Int, BKF S w (gt l i) := gt_all (Φ := BKF S w) (fun x hx => Fr.of_row (h x hx).1 (fun b hb => hS b (big_foot (f := resB e) hx b hb)) (h x hx).2) (Fr.nil _ _ _ _)
theorem VHF.of {a b c : Nat} {l : List VH} (h : (nestV a b c l).holds w) (hS : ∀ x ∈ (nestV a b c l).foot, S x) : ∀ i : Int, VHF S w (gt l i) := gt_all (Φ := VHF S w) (fun x hx => by
  have hf : ∀ y ∈ (resV a b c x).foot, S y := fun y hy => hS y (big_foot (f := resV a b c) hx y hy)
  obtain ⟨h1, h2, h3⟩ := h x hx
  exact ⟨Fr.of_row h1.1 (fun y hy => hf y (List.mem_append_left _ hy)) h1.2, Fr.of_row h2.1 (fun y hy => hf y (List.mem_append_right _ (List.mem_append_left _ hy))) h2.2, BKF.of h3 (fun y hy => hf y (List.mem_append_right _ (List.mem_append_right _ hy)))⟩) VHF.dflt
theorem JBF.of {a c : Nat} {l : List JB} (h : (nestJ a c l).holds w) (hS : ∀ x ∈ (nestJ a c l).foot, S x) : ∀ i : Int, JBF S w (gt l i) := gt_all (Φ := JBF S w) (fun x hx => by
  have hf : ∀ y ∈ (resJ a c x).foot, S y := fun y hy => hS y (big_foot (f := resJ a c) hx y hy)
  obtain ⟨h1, h2, h3⟩ := h x hx
  exact ⟨Fr.of_row h1.1 (fun y hy => hf y (List.mem_append_left _ hy)) h1.2, Fr.of_row h2.1 (fun y hy => hf y (List.mem_append_right _ (List.mem_append_left _ hy))) h2.2, Fr.of_row h3.1 (fun y hy => hf y (List.mem_append_right _ (List.mem_append_right _ hy))) h3.2⟩) JBF.dflt
theorem SHF.of {a c : Nat} {l : List SH} (h : (nestZ a c l).holds w) (hS : ∀ x ∈ (nestZ a c l).foot, S x) : ∀ i : Int, SHF S w (gt l i) := gt_all (Φ := SHF S w) (fun x hx => by
  have hf : ∀ y ∈ (resZ a c x).foot, S y := fun y hy => hS y (big_foot (f := resZ a c) hx y hy)
  obtain ⟨h1, h2, h3⟩ := h x hx
  exact ⟨Fr.of_row h1.1 (fun y hy => hf y (List.mem_append_left _ hy)) h1.2, Fr.of_row h2.1 (fun y hy => hf y (List.mem_append_right _ (List.mem_append_left _ hy))) h2.2, Fr.of_row h3.1 (fun y hy => hf y (List.mem_append_right _ (List.mem_append_right _ hy))) h3.2⟩) SHF.dflt
end
structure CpI {α : Type} [Inhabited α] (er : α → α) (src X D : List α) (i : Int) : Prop where
  len : X.length = src.length
  rest : ∀ j : Int, i ≤ j → gt X j = gt src j
  done : D = X.take i.toNat
  same : ∀ j : Int, 0 ≤ j → j < i → er (gt X j) = er (gt src j)
end Go.SX
namespace Go.SX
open Go Go.RowKit
theorem ttr {V : Env} {H : List Res} {S : Nat → Prop} {wf : World} {α : Type} [Inhabited α] {E : Enc α} {e n c j : Nat} {A : Option Addr} {l : List α} {i : Int} {listed : Array Bool} (k : Nat) (hk : H[k]? = some (rw_ E e (.slice A n c) l)) (h0 : 0 ≤ i) (h1 : i < (l.length : Int)) : ∀ w, WW V S wf H w → TT (Fz S wf) [(j, fun w => At w (ab A) (ao A + i.toNat * E.sz) (E.enc (gt l i)))] listed w :=
  ttc (fun w hw => tc1 (row_el k hk h0 h1 w hw) tc0)
end Go.SX
namespace Go.SX
open Go Go.RowKit
structure SolI (p : PB) (s : List RC) : Prop where
  inc : s.Pairwise (fun x y => x.1 < y.1)
  rng : ∀ r ∈ s, 0 ≤ r.1 ∧ r.1 < (p.vehs.length : Int)
  non : ∀ r ∈ s, r.2 ≠ []
  fit : ∀ r ∈ s, (fitV p r.1 r.2).e = 0
end Go.SX
namespace Go.SX
open Go Go.RowKit
theorem RTF.sub {S : Nat → Prop} {wf : World} {l l' : List RT} (h : RTF S wf l) (hs : ∀ x ∈ l', x ∈ l) : RTF S wf l' := gt_all (Φ := fun r : RT => Fr eVis S wf r.rA r.vis) (fun x hx => by
  obtain ⟨n, hn, e⟩ := List.getElem_of_mem (hs x hx)
  have := h n
  rw [show gt l (n : Int) = x from by simp [gt, List.getD_eq_getElem?_getD, hn, e]] at this
  exact this) (Fr.nil _ _ _ _)
end Go.SX
