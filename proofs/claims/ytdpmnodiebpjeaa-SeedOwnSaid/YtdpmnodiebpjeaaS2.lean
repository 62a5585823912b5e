import Derived.Test.YtdpmnodiebpjeaaProg
import Derived.Test.YtdpmnodiebpjeaaS1
set_option linter.unusedVariables false
set_option linter.unusedSimpArgs false
set_option linter.unusedSectionVars false
namespace Go.SX
open Go Go.RowKit
section
variable {V : Env} {P : Program} {Q : Exit → Act → World → Prop} {N : Nat} {L : List (Nat × Value)} {H R : List Res} {S : Nat → Prop} {wf : World} {c : Code}
theorem split_at {α : Type} [Inhabited α] {l : List α} {i : Int} (h0 : 0 ≤ i) (h1 : i < (l.length : Int)) : l = l.take i.toNat ++ gt l i :: l.drop (i + 1).toNat := by rw [← drop_gt h0 h1]; exact (List.take_append_drop _ _).symm
theorem set_at {α : Type} [Inhabited α] {l : List α} {i : Int} {x : α} (h0 : 0 ≤ i) (h1 : i < (l.length : Int)) : l.set i.toNat x = l.take i.toNat ++ x :: l.drop (i + 1).toNat := by
  rw [show (i + 1).toNat = i.toNat + 1 from by omega, List.set_eq_take_append_cons_drop, if_pos (by omega)]
theorem big_mid {α : Type} {f : α → Res} {a b : List α} {x : α} : ((big f (a ++ x :: b)).foot).Perm ((f x).foot ++ (big f (a ++ b)).foot) := by
  simp only [big, List.flatMap_append, List.flatMap_cons]
  rw [← List.append_assoc, ← List.append_assoc]
  exact List.perm_append_comm.append_right _
theorem SC.outR {e : Nat} {l : List RT} {i : Int} (h0 : 0 ≤ i) (h1 : i < (l.length : Int)) (hp : PickL H [nestR e l] R)
    (h : (gt l i).vis.length ≤ 140737488355328 → SC V P Q N c ⟨L, rw_ eVis e (.slice (gt l i).rA (gt l i).vis.length (gt l i).rc) (gt l i).vis :: nestR e (l.take i.toNat ++ l.drop (i + 1).toNat) :: R, S, wf⟩) : SC V P Q N c ⟨L, H, S, wf⟩ := fun a w hs hw => by
  have hw' := hw.perm hp.perm
  have hh := hw'.has (nestR e l) (List.mem_cons_self ..)
  refine h (hh _ (gt_in h0 h1)).2 a w hs (WW.relist (A := [nestR e l]) (B := [rw_ eVis e (.slice (gt l i).rA (gt l i).vis.length (gt l i).rc) (gt l i).vis, nestR e (l.take i.toNat ++ l.drop (i + 1).toNat)]) hw' ?_ (fun hA r hr => ?_))
  · simp only [feet_cons, feet_nil, List.append_nil]
    have hm := big_mid (f := resR e) (a := l.take i.toNat) (b := l.drop (i + 1).toNat) (x := gt l i)
    rw [← split_at h0 h1] at hm
    exact hm.symm
  · have hA := hA (nestR e l) (by simp)
    rcases List.mem_cons.1 hr with rfl | hr
    · exact (hA _ (gt_in h0 h1)).1
    · simp only [List.mem_singleton] at hr; subst hr
      intro x hx
      refine hA x ?_
      rw [split_at h0 h1]
      rcases List.mem_append.1 hx with hx | hx
      · exact List.mem_append_left _ hx
      · exact List.mem_append_right _ (List.mem_cons_of_mem _ hx)
theorem SC.inR {e n : Nat} {l : List RT} {i : Int} (x : RT) (h0 : 0 ≤ i) (h1 : i < (l.length : Int)) (hp : PickL H [rw_ eVis e (.slice x.rA n x.rc) x.vis, nestR e (l.take i.toNat ++ l.drop (i + 1).toNat)] R) (hn : x.vis.length = n) (hb : n ≤ 140737488355328)
    (h : SC V P Q N c ⟨L, nestR e (l.set i.toNat x) :: R, S, wf⟩) : SC V P Q N c ⟨L, H, S, wf⟩ := fun a w hs hw => by
  subst hn
  have hw' := hw.perm hp.perm
  refine h a w hs (WW.relist (A := [rw_ eVis e (.slice x.rA x.vis.length x.rc) x.vis, nestR e (l.take i.toNat ++ l.drop (i + 1).toNat)]) (B := [nestR e (l.set i.toNat x)]) hw' ?_ (fun hA r hr => ?_))
  · simp only [feet_cons, feet_nil, List.append_nil]
    have hm := big_mid (f := resR e) (a := l.take i.toNat) (b := l.drop (i + 1).toNat) (x := x)
    rw [← set_at h0 h1] at hm
    exact hm
  · simp only [List.mem_singleton] at hr; subst hr
    intro y hy
    rw [set_at h0 h1] at hy
    have k1 := hA (rw_ eVis e (.slice x.rA x.vis.length x.rc) x.vis) (by simp)
    have k2 := hA (nestR e (l.take i.toNat ++ l.drop (i + 1).toNat)) (by simp)
    rcases List.mem_append.1 hy with hy | hy
    · exact k2 y (List.mem_append_left _ hy)
    · rcases List.mem_cons.1 hy with rfl | hy
      · exact ⟨k1, hb⟩
      · exact k2 y (List.mem_append_right _ hy)
theorem SC.outVL {e : Nat} {l : List VL} {i : Int} (h0 : 0 ≤ i) (h1 : i < (l.length : Int)) (hp : PickL H [nestVL e l] R)
    (h : (gt l i).vl.length ≤ 140737488355328 → SC V P Q N c ⟨L, rw_ eVis e (.slice (gt l i).wlA (gt l i).vl.length (gt l i).wlc) (gt l i).vl :: nestVL e (l.take i.toNat ++ l.drop (i + 1).toNat) :: R, S, wf⟩) : SC V P Q N c ⟨L, H, S, wf⟩ := fun a w hs hw => by
  have hw' := hw.perm hp.perm
  have hh := hw'.has (nestVL e l) (List.mem_cons_self ..)
  refine h (hh _ (gt_in h0 h1)).2 a w hs (WW.relist (A := [nestVL e l]) (B := [rw_ eVis e (.slice (gt l i).wlA (gt l i).vl.length (gt l i).wlc) (gt l i).vl, nestVL e (l.take i.toNat ++ l.drop (i + 1).toNat)]) hw' ?_ (fun hA r hr => ?_))
  · simp only [feet_cons, feet_nil, List.append_nil]
    have hm := big_mid (f := resVL e) (a := l.take i.toNat) (b := l.drop (i + 1).toNat) (x := gt l i)
    rw [← split_at h0 h1] at hm
    exact hm.symm
  · have hA := hA (nestVL e l) (by simp)
    rcases List.mem_cons.1 hr with rfl | hr
    · exact (hA _ (gt_in h0 h1)).1
    · simp only [List.mem_singleton] at hr; subst hr
      intro x hx
      refine hA x ?_
      rw [split_at h0 h1]
      rcases List.mem_append.1 hx with hx | hx
      · exact List.mem_append_left _ hx
      · exact List.mem_append_right _ (List.mem_cons_of_mem _ hx)
theorem SC.inVL {e n : Nat} {l : List VL} {i : Int} (x : VL) (h0 : 0 ≤ i) (h1 : i < (l.length : Int)) (hp : PickL H [rw_ eVis e (.slice x.wlA n x.wlc) x.vl, nestVL e (l.take i.toNat ++ l.drop (i + 1).toNat)] R) (hn : x.vl.length = n) (hb : n ≤ 140737488355328)
    (h : SC V P Q N c ⟨L, nestVL e (l.set i.toNat x) :: R, S, wf⟩) : SC V P Q N c ⟨L, H, S, wf⟩ := fun a w hs hw => by
  subst hn
  have hw' := hw.perm hp.perm
  refine h a w hs (WW.relist (A := [rw_ eVis e (.slice x.wlA x.vl.length x.wlc) x.vl, nestVL e (l.take i.toNat ++ l.drop (i + 1).toNat)]) (B := [nestVL e (l.set i.toNat x)]) hw' ?_ (fun hA r hr => ?_))
  · simp only [feet_cons, feet_nil, List.append_nil]
    have hm := big_mid (f := resVL e) (a := l.take i.toNat) (b := l.drop (i + 1).toNat) (x := x)
    rw [← set_at h0 h1] at hm
    exact hm
  · simp only [List.mem_singleton] at hr; subst hr
    intro y hy
    rw [set_at h0 h1] at hy
    have k1 := hA (rw_ eVis e (.slice x.wlA x.vl.length x.wlc) x.vl) (by simp)
    have k2 := hA (nestVL e (l.take i.toNat ++ l.drop (i + 1).toNat)) (by simp)
    rcases List.mem_append.1 hy with hy | hy
    · exact k2 y (List.mem_append_left _ hy)
    · rcases List.mem_cons.1 hy with rfl | hy
      · exact ⟨k1, hb⟩
      · exact k2 y (List.mem_append_right _ hy)
end
end Go.SX
namespace Go.SX
open Go Go.RowKit
theorem ev_addw {P : Program} {C : World → Prop} {L : List (Nat × Value)} {o : Oper} {t t' : TypeId} {x y : Operand} {a b r : Int} (ho : o.op = .binOp .add t x y t') (hx : lk L x = some (.int .i64 a)) (hy : lk L y = some (.int .i64 b)) (hr : IntKind.i64.wrap (a + b) = r) : Ev P C L o (.int .i64 r) :=
  ev_ar ho hx hy (by simp only [arB]; rw [hr])
theorem short_nx {l : List RT} {i s z : Int} (h : ∀ j : Int, 0 ≤ j → j < i → ((gt l j).vis.length : Int) ≤ s) (hz : z = s + ((gt l i).vis.length : Int) ∧ 0 ≤ s) : ∀ j : Int, 0 ≤ j → j < i + 1 → ((gt l j).vis.length : Int) ≤ z := fun j h0 h1 => by
  by_cases hj : j = i
  · subst hj; omega
  · have := h j h0 (by omega); omega
end Go.SX
namespace Go.SX
open Go Go.RowKit
theorem vis_tot {l : List RT} {a b : Nat} (h : ∀ i : Int, 0 ≤ i → i < l.length → (gt l i).vis.length ≤ a) (hab : a ≤ b) : ∀ i : Int, (gt l i).vis.length ≤ b := fun i => by
  rcases gt_mem_or l i with hm | hm
  · obtain ⟨n, hn, e⟩ := List.getElem_of_mem hm
    have := h n (by omega) (by omega)
    rw [show gt l (n : Int) = gt l i from by rw [← e]; exact gt_some (by simp [hn])] at this
    omega
  · rw [hm]; exact Nat.zero_le _
theorem kind_nx {W : List Vis} {k w : Int} {z : Vis} (h : ∀ j : Int, 0 ≤ j → j < k → (gt W j).kind = w) (hz : z.kind = w) (h0 : 0 ≤ k) (h1 : k < (W.length : Int)) : ∀ j : Int, 0 ≤ j → j < k + 1 → (gt (W.set k.toNat z) j).kind = w := fun j q0 q1 => by
  by_cases hj : j = k
  · subst hj; rw [gt_sets h0 h1]; exact hz
  · rw [gt_setn h0 q0 (by omega)]; exact h j q0 (by omega)
def WayI (Y M : List VL) (w : Int) : Prop := ∀ j : Int, 0 ≤ j → j < w → (gt M j).wlA = (gt Y j).wlA ∧ (gt M j).vl.length = (gt Y j).vl.length ∧ ∀ k : Int, 0 ≤ k → k < ((gt Y j).vl.length : Int) → (gt (gt M j).vl k).kind = j
theorem way_nx {Y M : List VL} {w : Int} {x : VL} (h : WayI Y M w) (h0 : 0 ≤ w) (h1 : w < (M.length : Int)) (hA : x.wlA = (gt Y w).wlA) (hl : x.vl.length = (gt Y w).vl.length) (hk : ∀ k : Int, 0 ≤ k → k < ((gt Y w).vl.length : Int) → (gt x.vl k).kind = w) : WayI Y (M.set w.toNat x) (w + 1) := fun j q0 q1 => by
  by_cases hj : j = w
  · subst hj; rw [gt_sets h0 h1]; exact ⟨hA, hl, hk⟩
  · rw [gt_setn h0 q0 (by omega)]; exact h j q0 (by omega)
end Go.SX
namespace Go.SX
open Go Go.RowKit
theorem cb_tf {x y : Bool} : (x && !y) = ((x == true) && (y == false)) := by cases x <;> cases y <;> rfl
theorem cb_ft {x y : Bool} : (!x && y) = ((x == false) && (y == true)) := by cases x <;> cases y <;> rfl
theorem gvn {b b1 c w1 want : Bool} {v : Value} (hc : c = ((b1 == w1) && (b == want))) (hb : b1 = w1) : gv c true v = gv b want v := by
  subst hb hc
  cases b1 <;> cases b <;> cases want <;> rfl
theorem lkgn {L : List (Nat × Value)} {x : Operand} {b b1 c w1 want : Bool} {v : Value} (h : lk L x = some (gv c true v)) (hc : c = ((b1 == w1) && (b == want))) (hb : b1 = w1) : lk L x = some (gv b want v) := by
  rw [h, gvn hc hb]
section
variable {V : Env} {P : Program} {Q : Exit → Act → World → Prop} {ops : Array Oper} {N : Nat} {o : Oper} {rest : List Oper} {L : List (Nat × Value)} {H : List Res} {S : Nat → Prop} {wf : World} {K : St → Prop} {st : St}
  {B : World → Prop} {cs : List (Nat × (World → Prop))} {fuel : Nat} {listed : Array Bool}
theorem yielded_gv {a : Act} {g t : Nat} {b b1 w1 : Bool} (hs : SL N L a) (ht : (ops[g]?).bind (·.dst) = some t) (hL : lkp L t = some (gv b1 w1 (.bool b))) : yielded ops a.tmps g = if b1 = w1 then some b else none := by
  by_cases hb : b1 = w1
  · rw [if_pos hb]
    rw [gv, if_pos hb] at hL
    exact yielded_of hs ht hL
  · rw [if_neg hb]
    rw [gv, if_neg hb] at hL
    have h := hs.2.2 t _ hL
    simp only [yielded, ht]
    cases hq : a.tmps[t]? with
    | none => simp [hq]
    | some u =>
      rw [Array.getD_eq_getD_getElem?, hq] at h
      simp at h
      subst h
      simp [hq, undef]
theorem Ev.ggstep {d g t : Nat} {want b b1 w1 c : Bool} {v : Value} (hc : c = ((b1 == w1) && (b == want))) (h : b1 = w1 → c = true → Ev P (WW V S wf H) L o v)
    (hg : o.guard = some (g, want)) (ht : (ops[g]?).bind (·.dst) = some t) (hL : lkp L t = some (gv b1 w1 (.bool b))) (hd : o.dst = some d) (hdN : Nat.blt d N = true)
    (k : K ⟨(d, gv c true v) :: L, H, S, wf⟩) : OpStep V P Q ops N o ⟨L, H, S, wf⟩ K := by
  intro a w hs hw J hJ
  unfold Step1
  have hy := yielded_gv hs ht hL
  by_cases hct : c = true
  · have h12 : b1 = w1 ∧ b = want := by rw [hc] at hct; simpa using hct
    obtain ⟨hn, hk, h⟩ := h h12.1 hct
    rw [if_pos h12.1] at hy
    rw [if_pos (by simp [Region.wanted, hg, hy, h12.2])]
    rw [show gv c true v = v from if_pos hct] at k
    refine .inl ?_
    unfold Oper.wp
    rw [exec_ev hs hn hk, h w hw, Oper.upon_value, hd]
    exact hJ _ k _ _ (hs.put hdN v) hw
  · have hno : Region.wanted o (yielded ops a.tmps) = false := by
      by_cases hb1 : b1 = w1
      · rw [if_pos hb1] at hy
        have : ¬ b = want := fun e => hct (by rw [hc, hb1, e]; simp)
        simp [Region.wanted, hg, hy, this]
      · rw [if_neg hb1] at hy
        simp [Region.wanted, hg, hy]
    rw [if_neg (by simp [hno]), hd]
    rw [show gv c true v = undef from if_neg hct] at k
    exact hJ _ k _ _ (hs.put hdN undef) hw
end
end Go.SX
set_option maxRecDepth 20000
set_option maxHeartbeats 1000000
namespace Go.Proofs.Ytdpmnodiebpjeaa.Sx.FA
open Go Go.SX Go.Proofs
theorem hbd111 : hasBody Try.prog 111 = true := by kernel_rfl
theorem hbd109 : hasBody Try.prog 109 = true := by kernel_rfl
theorem ai3 : (Try.prog.info? 3).map (fun i => (i.zero, i.size, i.bytes)) = some (some (.int .i64 0), 1, 8) := by kernel_rfl
theorem ty3 : ty Try.prog 3 = some (false, 1) := by kernel_rfl
theorem mo : Try.prog.follows .mixedOrders = true := by kernel_rfl
theorem hbd108 : hasBody Try.prog 108 = true := by kernel_rfl
theorem hbd110 : hasBody Try.prog 110 = true := by kernel_rfl
theorem ty72 : ty Try.prog 72 = some (true, 2) := by kernel_rfl
theorem zf72 : (Try.prog.info? 72).bind (fun i => i.zero.map Value.cells) = some (List.toArray [.int .i64 0, .int .i64 0]) := by kernel_rfl
theorem fo72_1 : fo Try.prog 72 1 = some 1 := by kernel_rfl
theorem fo72_0 : fo Try.prog 72 0 = some 0 := by kernel_rfl
end Go.Proofs.Ytdpmnodiebpjeaa.Sx.FA
namespace Go.Proofs.Ytdpmnodiebpjeaa.Sx
open Go Go.SX Go.Proofs FA
theorem fits_ (a : Int) (S : Nat → Prop) (wf : World) :
  TR0 Try.prog 111 [.int .i64 a] [] S wf (fun v_ C_ => v_ = .bool (decide (a ≥ (-4611686018427387903)) && decide (a ≤ 4611686018427387903)) ∧ C_ = []) := by
 refine TR.mk Try.func111 rfl Try.ntmps111 rfl rfl (fun w_ => ?_)
 refine .seq (.region (.a rfl rfl rfl (.go idQ (.seq (.region ?_)))))
 refine .m rfl rfl rfl (.v (ev_cmp rfl rfl rfl rfl) rfl (.m rfl rfl rfl (.w (fun _ => ev_mv rfl rfl) rfl (.w (fun hb => ev_cmp rfl (lkg rfl hb) rfl rfl) rfl (.v (ev_and rfl rfl rfl rfl) rfl ?_)))))
 exact .a rfl rfl rfl (.go idQ (.ret idQ (ret1 Try.results111 rfl .n ⟨rfl, rfl⟩)))
theorem nadd_ (a : Int) (b : Int) (S : Nat → Prop) (wf : World) (h_a : -1000000000000 ≤ a ∧ a ≤ 1000000000000) (h_b : -1000000000000 ≤ b ∧ b ≤ 1000000000000) :
  TR0 Try.prog 109 [.int .i64 a, .int .i64 b] [] S wf (fun v_ C_ => v_ = .tuple #[.int .i64 (a + b), .int .i64 0] ∧ C_ = []) := by
 refine TR.mk Try.func109 rfl Try.ntmps109 rfl rfl (fun w_ => ?_)
 refine .seq (.region (.a rfl rfl rfl (.a rfl rfl rfl (.go idQ (.seq ?_)))))
 refine .seq (.region (.m rfl rfl rfl (.cons (st_callk rfl rfl rfl rfl hbd111 rfl .n (fits_ a _ _) (.v (ev_not rfl rfl) rfl (.m rfl rfl rfl ?_))))))
 refine .w (fun _ => ev_mv rfl rfl) rfl (.cons (st_gcallk rfl rfl rfl rfl rfl rfl hbd111 (fun hb => (lkA1 (lkg rfl hb) lkA0)) .n (fun hb => have hp := bF (bN (bA bD bD)) hb; fits_ b _ _) (.w (fun hb => ev_not rfl (lkg rfl hb)) rfl (.v (ev_or rfl rfl rfl rfl) rfl (.m rfl rfl rfl (.w (fun _ => ev_mv rfl rfl) rfl ?_))))))
 refine .w (fun _ => ev_mv rfl rfl) rfl (.w (fun hb => have hp := bF (bO (bN (bA bD bD)) (bN (bA bD bD))) hb; ev_add rfl (lkg rfl hb) (lkg rfl hb) (r := (a + b)) rfl (by have _h := hp; omega) (by have _h := hp; omega)) rfl (.cons (st_gcallk rfl rfl rfl rfl rfl rfl hbd111 (fun hb => (lkA1 (lkg rfl hb) lkA0)) .n (fun hb => have hp := bF (bO (bN (bA bD bD)) (bN (bA bD bD))) hb; fits_ (a + b) _ _) (.w (fun hb => ev_not rfl (lkg rfl hb)) rfl (.v (ev_or rfl rfl rfl rfl) rfl (.go idQ ?_))))))
 refine .condI rfl (bO (bO (bN (bA bD bD)) (bN (bA bD bD))) (bN (bA bD bD))) (fun h1 => ?_) (fun h1 => ?_)
 ·
  exfalso; omega
 refine .skipgo idQ (.seq (.region (.m rfl rfl rfl (.m rfl rfl rfl (.v (ev_add rfl rfl rfl (r := (a + b)) rfl (by omega) (by omega)) rfl ?_)))))
 exact .a rfl rfl rfl (.a rfl rfl rfl (.go idQ (.ret idQ (ret2 Try.results109 rfl rfl .n ⟨rfl, rfl⟩))))
theorem lsub1_ (a : Int) (b : Int) (S : Nat → Prop) (wf : World) (h_a : -1000000000000 ≤ a ∧ a ≤ 1000000000000) (h_b : -1000000000000 ≤ b ∧ b ≤ 1000000000000) :
  TR0 Try.prog 110 [.int .i64 a, .int .i64 b] [] S wf (fun v_ C_ => v_ = .tuple #[.int .i64 (a + (-b)), .int .i64 0] ∧ C_ = []) := by
 refine TR.mk Try.func110 rfl Try.ntmps110 rfl rfl (fun w_ => ?_)
 refine .seq (.region (.a rfl rfl rfl (.a rfl rfl rfl (.go idQ (.seq ?_)))))
 refine .seq (.region (.m rfl rfl rfl (.cons (st_callk rfl rfl rfl rfl hbd111 rfl .n (fits_ b _ _) (.v (ev_not rfl rfl) rfl (.go idQ ?_))))))
 refine .condI rfl (bN (bA bD bD)) (fun h1 => ?_) (fun h1 => ?_)
 ·
  exfalso; omega
 refine .skipgo idQ (.seq (.region (.m rfl rfl rfl (.m rfl rfl rfl (.v (ev_neg rfl rfl (by omega) (by omega)) rfl ?_)))))
 refine .cons (st_callk rfl rfl rfl rfl hbd109 rfl .n (nadd_ a (-b) _ _ (by omega) (by omega)) (.v (ev_ext rfl rfl rfl) rfl (.v (ev_ext rfl rfl rfl) rfl (.a rfl rfl rfl (.a rfl rfl rfl (.go idQ ?_))))))
 exact .ret idQ (ret2 Try.results110 rfl rfl .n ⟨rfl, rfl⟩)
theorem lzero_ (n : Int) (S : Nat → Prop) (wf : World) (hn : 0 ≤ n ∧ n ≤ 3) :
  TR0 Try.prog 105 [.int .i64 n] [] S wf (fun v_ C_ => ∃ (u : Value), v_ = u ∧ C_ = [rw_ eZ 3 (u) (List.replicate (n).toNat 0)]) := by
 refine TR.mk Try.func105 rfl Try.ntmps105 rfl rfl (fun w_ => ?_)
 refine .seq (.region (.a rfl rfl rfl (.go idQ (.seq (.seq ?_)))))
 refine .region (.m rfl rfl rfl (.v (ev_cmp rfl rfl rfl rfl) rfl (.m rfl rfl rfl (.w (fun _ => ev_mv rfl rfl) rfl (.w (fun hb => ev_cmp rfl (lkg rfl hb) rfl rfl) rfl ?_)))))
 refine .v (ev_or rfl rfl rfl rfl) rfl (.go idQ (.condI rfl (bO bD bD) (fun h1 => ?_) (fun h1 => ?_)))
 ·
  exfalso; omega
 refine .skipgo idQ (.seq (.region (.m rfl rfl rfl (.cons (st_mkints (q := .i64) (n := (n).toNat) rfl rfl rfl rfl Try.underlying22 ai3 rfl rfl (by omega) (by omega) rfl (fun b2 => .a rfl rfl rfl ?_))))))
 exact .go idQ (.ret idQ (ret1 Try.results105 rfl (.c .h .n) ⟨.slice (some ⟨b2, 0, none⟩) ((n).toNat) ((n).toNat), rfl, rfl⟩))
theorem each_addL (A : Option Addr) (c : Nat) (a : List Int) (B : Option Addr) (d : Nat) (b : List Int) (S : Nat → Prop) (wf : World) (hA : Fr eZ S wf A a) (hB : Fr eZ S wf B b) (hl : a.length = b.length) (hm : a.length ≤ 100) (kb1 : bdd 100000000000 a) (kb2 : bdd 100000000000 b) :
  TR0 Try.prog 108 [.slice A a.length c, .slice B b.length d, .func (.func 109) #[] #[]] [] S wf (fun v_ C_ => ∃ (u : Value), v_ = .tuple #[u, .int .i64 0] ∧ C_ = [rw_ eZ 3 (u) (addL a b)]) := by
 refine TR.mk Try.func108 rfl Try.ntmps108 rfl rfl (fun w_ => ?_)
 refine .seq (.region (.a rfl rfl rfl (.a rfl rfl rfl (.go idQ (.seq ?_)))))
 refine .seq (.region (.m rfl rfl rfl (.v (ev_len rfl Try.underlying22 rfl) rfl (.m rfl rfl rfl (.v (ev_len rfl Try.underlying22 rfl) rfl ?_)))))
 refine .v (ev_cmp rfl rfl rfl rfl) rfl (.go idQ (.condI rfl bNE (fun h1 => ?_) (fun h1 => ?_)))
 ·
  exfalso; omega
 refine .skipgo idQ (.seq (.region (.a rfl rfl rfl (.go idQ (.seq ?_)))))
 refine .seq (.region (.m rfl rfl rfl (.v (ev_len rfl Try.underlying22 rfl) rfl (.m rfl rfl rfl (.go idQ ?_)))))
 refine .block ?_
 refine SC.nilrow eZ 3 ?_
 refine .loop (X := Int × (List Int) × Value) (fun ⟨i, X, u_X⟩ => 0 ≤ i ∧ i ≤ (a.length : Int) ∧ X = addL (a.take i.toNat) (b.take i.toNat) ∧ (X.length : Int) ≤ i) (fun ⟨i, X, u_X⟩ => [(0, .slice A a.length c), (1, .slice B b.length d), (2, .func (.func 109) #[] #[]), (18, .int .i64 (a.length : Int)), (19, .int .i64 i), (8, u_X)]) (fun ⟨i, X, u_X⟩ => [rw_ eZ 3 (u_X) X]) (fun _ => S) (fun _ => wf) (fun ⟨i, X, u_X⟩ => ((a.length : Int) - i).toNat) (fun a_ w_ hs_ hw_ => ⟨⟨0, ([] : List Int), .slice none 0 0⟩, (by exact ⟨(by omega), (by omega), (by simp [addL]), (by simp)⟩), hs_.mono (Sub.get (.c4 rfl rfl rfl rfl (.c rfl (.c rfl .n)))), hw_.keep (.c .h .n)⟩) (fun ⟨i, X, u_X⟩ ⟨q_0, q_1, q_2, q_3⟩ => ?_)
 show SC _ _ _ _ _ ⟨[(0, .slice A a.length c), (1, .slice B b.length d), (2, .func (.func 109) #[] #[]), (18, .int .i64 (a.length : Int)), (19, .int .i64 i), (8, u_X)], [rw_ eZ 3 (u_X) X], S, wf⟩
 refine .seq (.region (.v (ev_cmp rfl rfl rfl rfl) rfl (.go idQ (.seq (.condI rfl bD (fun h2 => ?_) (fun h2 => ?_))))))
 ·
  refine .skipgo idQ (.seq (.block (.seq (.region (.m rfl rfl rfl ?_)))))
  refine .a rfl rfl rfl (.go idQ (.seq ?_))
  refine SC.draw mo [] [] .n (fun _ _ _ => sc0) (fun wf_3 hl_3 hx_3 hR_3 => ?_)
  refine SR.m 0 rfl rfl rfl rfl (SR.m 1 rfl rfl rfl rfl (SR.m 2 rfl rfl rfl rfl (SR.z 3 rfl rfl (ev_ix rfl Try.underlying22 ty3 rfl rfl (by omega) (by omega) (fun _ _ => Fr.adr (i := i) (Fr.ext hA hx_3) (by omega) (by omega))) (SR.z 4 rfl rfl (ev_ld1 rfl ty3 rfl (At.elem1 (At.d (Fr.el (i := i) (Fr.ext hA hx_3) (by omega) (by omega))) 0 rfl)) (SR.m 5 rfl rfl rfl rfl ?_)))))
  refine SR.m 6 rfl rfl rfl rfl (SR.z 7 rfl rfl (ev_ix rfl Try.underlying22 ty3 rfl rfl (by omega) (by omega) (fun _ _ => Fr.adr (i := i) (Fr.ext hB hx_3) (by omega) (by omega))) (SR.z 8 rfl rfl (ev_ld1 rfl ty3 rfl (At.elem1 (At.d (Fr.el (i := i) (Fr.ext hB hx_3) (by omega) (by omega))) 0 rfl)) (SR.o 9 rfl (.viafun rfl rfl (st_callk rfl rfl rfl rfl hbd109 rfl .n (nadd_ (gt a i) (gt b i) _ _ (by have := kb1 i; have := kb2 i; omega) (by have := kb1 i; have := kb2 i; omega)) ⟨tt0, (SR.m 10 rfl rfl rfl rfl (SR.z 11 rfl rfl (ev_ext rfl rfl rfl) ?_))⟩)))))
  refine SR.z 12 rfl rfl (ev_ext rfl rfl rfl) (SR.z 13 rfl rfl (ev_as rfl rfl) (SR.z 14 rfl rfl (ev_as rfl rfl) (SR.fin (by kernel_rfl) hl_3 hx_3 hR_3 .n (SQ.go idQ (.seq ?_)))))
  refine .seq (.region (.m rfl rfl rfl (.v (ev_cmp (r := false) rfl rfl rfl rfl) rfl (.go idQ (.cond_f rfl ?_)))))
  refine .skipgo idQ (.region (.m rfl rfl rfl (.m rfl rfl rfl (.cons (st_lit eZ (e := 3) (l := [((gt a i) + (gt b i))]) rfl rfl rfl rfl (by kernel_rfl) rfl rfl (fun w => by kernel_rfl) (fun b4 => .cons (st_app (E := eZ) (m := [((gt a i) + (gt b i))]) rfl rfl rfl rfl Try.underlying22 ai3 rfl rfl rfl (.t .h) (by first | rfl | omega | simp) (row_src 0 rfl) (by first | omega | simp only [LL] <;> omega | simp <;> omega) rfl (fun v5 => ?_))))))))
  exact .a rfl rfl rfl (.go idQ (.region (.v (ev_add rfl rfl rfl (r := (i + 1)) rfl (by omega) (by omega)) rfl (.m rfl rfl rfl (SP.nil (SQ.roundb (X := Int × (List Int) × Value) (x := (i, X, u_X)) ⟨(i + 1), (X ++ [((gt a i) + (gt b i))]), v5⟩ (by exact ⟨(by omega), (by omega), (addL_next q_2 (by omega) (by omega) (by omega)), (by simp only [List.length_append, List.length_singleton]; omega)⟩) (by dsimp only; omega) (Sub.get (.c4 rfl rfl rfl rfl (.c rfl (.c rfl .n)))) (fun w hw => hw.keep (.c .h .n))))))))
 refine .exit idQ (.seq (.region (.m rfl rfl rfl (.a rfl rfl rfl (.a rfl rfl rfl ?_)))))
 exact .go idQ (.ret idQ (ret2 Try.results108 rfl rfl (.c .h .n) ⟨u_X, rfl, (by rw [zip_all (f := addL) q_2 (by omega) hl])⟩))
theorem laddL (A : Option Addr) (c : Nat) (a : List Int) (B : Option Addr) (d : Nat) (b : List Int) (S : Nat → Prop) (wf : World) (hA : Fr eZ S wf A a) (hB : Fr eZ S wf B b) (hl : a.length = b.length) (hm : a.length ≤ 100) (kb1 : bdd 100000000000 a) (kb2 : bdd 100000000000 b) :
  TR0 Try.prog 106 [.slice A a.length c, .slice B b.length d] [] S wf (fun v_ C_ => ∃ (u : Value), v_ = .tuple #[u, .int .i64 0] ∧ C_ = [rw_ eZ 3 (u) (addL a b)]) := by
 refine TR.mk Try.func106 rfl Try.ntmps106 rfl rfl (fun w_ => ?_)
 refine .seq (.region (.a rfl rfl rfl (.a rfl rfl rfl (.go idQ (.seq ?_)))))
 refine .region (.m rfl rfl rfl (.m rfl rfl rfl (.cons (st_call0 rfl rfl rfl rfl hbd108 rfl .n (each_addL A c a B d b _ _ hA hB (by first | omega | simp only [LL] <;> omega | simp <;> omega) (by first | omega | simp only [LL] <;> omega | simp <;> omega) (by omega) (by omega)) (fun v_q2 C_q2 q2 => ?_)))))
 obtain ⟨u1, rfl, rfl⟩ := q2
 show SP _ _ _ _ _ _ ⟨_, _ :: _, _, _⟩
 exact .v (ev_ext rfl rfl rfl) rfl (.v (ev_ext rfl rfl rfl) rfl (.a rfl rfl rfl (.a rfl rfl rfl (.go idQ (.ret idQ (ret2 Try.results106 rfl rfl (.c .h .n) ⟨u1, rfl, rfl⟩))))))
theorem each_subL (A : Option Addr) (c : Nat) (a : List Int) (B : Option Addr) (d : Nat) (b : List Int) (S : Nat → Prop) (wf : World) (hA : Fr eZ S wf A a) (hB : Fr eZ S wf B b) (hl : a.length = b.length) (hm : a.length ≤ 100) (kb1 : bdd 100000000000 a) (kb2 : bdd 100000000000 b) :
  TR0 Try.prog 108 [.slice A a.length c, .slice B b.length d, .func (.func 110) #[] #[]] [] S wf (fun v_ C_ => ∃ (u : Value), v_ = .tuple #[u, .int .i64 0] ∧ C_ = [rw_ eZ 3 (u) (subL a b)]) := by
 refine TR.mk Try.func108 rfl Try.ntmps108 rfl rfl (fun w_ => ?_)
 refine .seq (.region (.a rfl rfl rfl (.a rfl rfl rfl (.go idQ (.seq ?_)))))
 refine .seq (.region (.m rfl rfl rfl (.v (ev_len rfl Try.underlying22 rfl) rfl (.m rfl rfl rfl (.v (ev_len rfl Try.underlying22 rfl) rfl ?_)))))
 refine .v (ev_cmp rfl rfl rfl rfl) rfl (.go idQ (.condI rfl bNE (fun h1 => ?_) (fun h1 => ?_)))
 ·
  exfalso; omega
 refine .skipgo idQ (.seq (.region (.a rfl rfl rfl (.go idQ (.seq ?_)))))
 refine .seq (.region (.m rfl rfl rfl (.v (ev_len rfl Try.underlying22 rfl) rfl (.m rfl rfl rfl (.go idQ ?_)))))
 refine .block ?_
 refine SC.nilrow eZ 3 ?_
 refine .loop (X := Int × (List Int) × Value) (fun ⟨i, X, u_X⟩ => 0 ≤ i ∧ i ≤ (a.length : Int) ∧ X = subL (a.take i.toNat) (b.take i.toNat) ∧ (X.length : Int) ≤ i) (fun ⟨i, X, u_X⟩ => [(0, .slice A a.length c), (1, .slice B b.length d), (2, .func (.func 110) #[] #[]), (18, .int .i64 (a.length : Int)), (19, .int .i64 i), (8, u_X)]) (fun ⟨i, X, u_X⟩ => [rw_ eZ 3 (u_X) X]) (fun _ => S) (fun _ => wf) (fun ⟨i, X, u_X⟩ => ((a.length : Int) - i).toNat) (fun a_ w_ hs_ hw_ => ⟨⟨0, ([] : List Int), .slice none 0 0⟩, (by exact ⟨(by omega), (by omega), (by simp [subL]), (by simp)⟩), hs_.mono (Sub.get (.c4 rfl rfl rfl rfl (.c rfl (.c rfl .n)))), hw_.keep (.c .h .n)⟩) (fun ⟨i, X, u_X⟩ ⟨q_0, q_1, q_2, q_3⟩ => ?_)
 show SC _ _ _ _ _ ⟨[(0, .slice A a.length c), (1, .slice B b.length d), (2, .func (.func 110) #[] #[]), (18, .int .i64 (a.length : Int)), (19, .int .i64 i), (8, u_X)], [rw_ eZ 3 (u_X) X], S, wf⟩
 refine .seq (.region (.v (ev_cmp rfl rfl rfl rfl) rfl (.go idQ (.seq (.condI rfl bD (fun h2 => ?_) (fun h2 => ?_))))))
 ·
  refine .skipgo idQ (.seq (.block (.seq (.region (.m rfl rfl rfl ?_)))))
  refine .a rfl rfl rfl (.go idQ (.seq ?_))
  refine SC.draw mo [] [] .n (fun _ _ _ => sc0) (fun wf_3 hl_3 hx_3 hR_3 => ?_)
  refine SR.m 0 rfl rfl rfl rfl (SR.m 1 rfl rfl rfl rfl (SR.m 2 rfl rfl rfl rfl (SR.z 3 rfl rfl (ev_ix rfl Try.underlying22 ty3 rfl rfl (by omega) (by omega) (fun _ _ => Fr.adr (i := i) (Fr.ext hA hx_3) (by omega) (by omega))) (SR.z 4 rfl rfl (ev_ld1 rfl ty3 rfl (At.elem1 (At.d (Fr.el (i := i) (Fr.ext hA hx_3) (by omega) (by omega))) 0 rfl)) (SR.m 5 rfl rfl rfl rfl ?_)))))
  refine SR.m 6 rfl rfl rfl rfl (SR.z 7 rfl rfl (ev_ix rfl Try.underlying22 ty3 rfl rfl (by omega) (by omega) (fun _ _ => Fr.adr (i := i) (Fr.ext hB hx_3) (by omega) (by omega))) (SR.z 8 rfl rfl (ev_ld1 rfl ty3 rfl (At.elem1 (At.d (Fr.el (i := i) (Fr.ext hB hx_3) (by omega) (by omega))) 0 rfl)) (SR.o 9 rfl (.viafun rfl rfl (st_callk rfl rfl rfl rfl hbd110 rfl .n (lsub1_ (gt a i) (gt b i) _ _ (by have := kb1 i; have := kb2 i; omega) (by have := kb1 i; have := kb2 i; omega)) ⟨tt0, (SR.m 10 rfl rfl rfl rfl (SR.z 11 rfl rfl (ev_ext rfl rfl rfl) ?_))⟩)))))
  refine SR.z 12 rfl rfl (ev_ext rfl rfl rfl) (SR.z 13 rfl rfl (ev_as rfl rfl) (SR.z 14 rfl rfl (ev_as rfl rfl) (SR.fin (by kernel_rfl) hl_3 hx_3 hR_3 .n (SQ.go idQ (.seq ?_)))))
  refine .seq (.region (.m rfl rfl rfl (.v (ev_cmp (r := false) rfl rfl rfl rfl) rfl (.go idQ (.cond_f rfl ?_)))))
  refine .skipgo idQ (.region (.m rfl rfl rfl (.m rfl rfl rfl (.cons (st_lit eZ (e := 3) (l := [((gt a i) + (-(gt b i)))]) rfl rfl rfl rfl (by kernel_rfl) rfl rfl (fun w => by kernel_rfl) (fun b4 => .cons (st_app (E := eZ) (m := [((gt a i) + (-(gt b i)))]) rfl rfl rfl rfl Try.underlying22 ai3 rfl rfl rfl (.t .h) (by first | rfl | omega | simp) (row_src 0 rfl) (by first | omega | simp only [LL] <;> omega | simp <;> omega) rfl (fun v5 => ?_))))))))
  exact .a rfl rfl rfl (.go idQ (.region (.v (ev_add rfl rfl rfl (r := (i + 1)) rfl (by omega) (by omega)) rfl (.m rfl rfl rfl (SP.nil (SQ.roundb (X := Int × (List Int) × Value) (x := (i, X, u_X)) ⟨(i + 1), (X ++ [((gt a i) + (-(gt b i)))]), v5⟩ (by exact ⟨(by omega), (by omega), (subL_next q_2 (by omega) (by omega) (by omega)), (by simp only [List.length_append, List.length_singleton]; omega)⟩) (by dsimp only; omega) (Sub.get (.c4 rfl rfl rfl rfl (.c rfl (.c rfl .n)))) (fun w hw => hw.keep (.c .h .n))))))))
 refine .exit idQ (.seq (.region (.m rfl rfl rfl (.a rfl rfl rfl (.a rfl rfl rfl ?_)))))
 exact .go idQ (.ret idQ (ret2 Try.results108 rfl rfl (.c .h .n) ⟨u_X, rfl, (by rw [zip_all (f := subL) q_2 (by omega) hl])⟩))
theorem lsubL (A : Option Addr) (c : Nat) (a : List Int) (B : Option Addr) (d : Nat) (b : List Int) (S : Nat → Prop) (wf : World) (hA : Fr eZ S wf A a) (hB : Fr eZ S wf B b) (hl : a.length = b.length) (hm : a.length ≤ 100) (kb1 : bdd 100000000000 a) (kb2 : bdd 100000000000 b) :
  TR0 Try.prog 107 [.slice A a.length c, .slice B b.length d] [] S wf (fun v_ C_ => ∃ (u : Value), v_ = .tuple #[u, .int .i64 0] ∧ C_ = [rw_ eZ 3 (u) (subL a b)]) := by
 refine TR.mk Try.func107 rfl Try.ntmps107 rfl rfl (fun w_ => ?_)
 refine .seq (.region (.a rfl rfl rfl (.a rfl rfl rfl (.go idQ (.seq ?_)))))
 refine .region (.m rfl rfl rfl (.m rfl rfl rfl (.cons (st_call0 rfl rfl rfl rfl hbd108 rfl .n (each_subL A c a B d b _ _ hA hB (by first | omega | simp only [LL] <;> omega | simp <;> omega) (by first | omega | simp only [LL] <;> omega | simp <;> omega) (by omega) (by omega)) (fun v_q2 C_q2 q2 => ?_)))))
 obtain ⟨u1, rfl, rfl⟩ := q2
 show SP _ _ _ _ _ _ ⟨_, _ :: _, _, _⟩
 exact .v (ev_ext rfl rfl rfl) rfl (.v (ev_ext rfl rfl rfl) rfl (.a rfl rfl rfl (.a rfl rfl rfl (.go idQ (.ret idQ (ret2 Try.results107 rfl rfl (.c .h .n) ⟨u1, rfl, rfl⟩))))))
theorem lunder (A : Option Addr) (c : Nat) (a : List Int) (B : Option Addr) (d : Nat) (b : List Int) (S : Nat → Prop) (wf : World) (hA : Fr eZ S wf A a) (hB : Fr eZ S wf B b) :
  TR0 Try.prog 97 [.slice A a.length c, .slice B b.length d] [] S wf (fun v_ C_ => v_ = .bool (underF a b) ∧ C_ = []) := by
 have hla := hA.len
 have hlb := hB.len
 refine TR.mk Try.func97 rfl Try.ntmps97 rfl rfl (fun w_ => ?_)
 refine .seq (.region (.a rfl rfl rfl (.go idQ (.seq (.seq ?_)))))
 refine .region (.m rfl rfl rfl (.v (ev_len rfl Try.underlying22 rfl) rfl (.m rfl rfl rfl (.v (ev_len rfl Try.underlying22 rfl) rfl (.v (ev_cmp rfl rfl rfl rfl) rfl ?_)))))
 refine .go idQ (.condI rfl bNE (fun h1 => ?_) (fun h1 => ?_))
 ·
  exact .seq (.region (.a rfl rfl rfl (.go idQ (.ret idQ (ret1 Try.results97 rfl .n ⟨(congrArg Value.bool (by unfold underF; rw [if_neg (by omega)])), rfl⟩)))))
 refine .skipgo idQ (.seq (.seq (.region (.m rfl rfl rfl (.v (ev_len rfl Try.underlying22 rfl) rfl ?_)))))
 refine .m rfl rfl rfl (.go idQ (.block ?_))
 refine .loop (X := Int) (fun i => 0 ≤ i ∧ i ≤ (a.length : Int) ∧ underL (a.drop i.toNat) (b.drop i.toNat) = underL a b ∧ a.length = b.length) (fun i => [(0, .slice A a.length c), (1, .slice B b.length d), (12, .int .i64 (a.length : Int)), (13, .int .i64 i)]) (fun i => []) (fun _ => S) (fun _ => wf) (fun i => ((a.length : Int) - i).toNat) (fun a_ w_ hs_ hw_ => ⟨0, (by exact ⟨(by omega), (by omega), rfl, (by omega)⟩), hs_.mono (Sub.get (.c4 rfl rfl rfl rfl .n)), hw_.keep .n⟩) (fun i ⟨q_0, q_1, q_2, q_3⟩ => ?_)
 try dsimp only
 refine .seq (.region (.v (ev_cmp rfl rfl rfl rfl) rfl (.go idQ (.seq (.condI rfl bD (fun h2 => ?_) (fun h2 => ?_))))))
 ·
  refine .skipgo idQ (.seq (.block (.seq (.region (.m rfl rfl rfl ?_)))))
  refine .a rfl rfl rfl (.go idQ (.seq ?_))
  refine SC.draw mo [] [] .n (fun _ _ _ => sc0) (fun wf_3 hl_3 hx_3 hR_3 => ?_)
  refine SR.m 0 rfl rfl rfl rfl (SR.m 1 rfl rfl rfl rfl (SR.z 2 rfl rfl (ev_ix rfl Try.underlying22 ty3 rfl rfl (by omega) (by omega) (fun _ _ => Fr.adr (i := i) (Fr.ext hA hx_3) (by omega) (by omega))) (SR.z 3 rfl rfl (ev_ld1 rfl ty3 rfl (At.elem1 (At.d (Fr.el (i := i) (Fr.ext hA hx_3) (by omega) (by omega))) 0 rfl)) (SR.m 4 rfl rfl rfl rfl (SR.m 5 rfl rfl rfl rfl ?_)))))
  refine SR.z 6 rfl rfl (ev_ix rfl Try.underlying22 ty3 rfl rfl (by omega) (by omega) (fun _ _ => Fr.adr (i := i) (Fr.ext hB hx_3) (by omega) (by omega))) (SR.z 7 rfl rfl (ev_ld1 rfl ty3 rfl (At.elem1 (At.d (Fr.el (i := i) (Fr.ext hB hx_3) (by omega) (by omega))) 0 rfl)) (SR.z 8 rfl rfl (ev_cmp rfl rfl rfl rfl) (SR.fin (by kernel_rfl) hl_3 hx_3 hR_3 .n (SQ.go idQ (.condI rfl bD (fun h4 => ?_) (fun h4 => ?_))))))
  ·
   exact .seq (.region (.a rfl rfl rfl (.go idQ (.ret idQ (ret1 Try.results97 rfl .n ⟨(congrArg Value.bool (by unfold underF; rw [if_pos q_3, ← q_2, drop_gt (x := i) (by omega) (by omega), drop_gt (x := i) (l := b) (by omega) (by omega), underL_cons, if_pos (by omega)])), rfl⟩)))))
  exact .skipgo idQ (.region (.v (ev_add rfl rfl rfl (r := (i + 1)) rfl (by omega) (by omega)) rfl (.m rfl rfl rfl (SP.nil (SQ.roundb (X := Int) (x := (i)) (i + 1) (by exact ⟨(by omega), (by omega), (by have hq := q_2; rw [drop_gt (x := i) (by omega) (by omega), drop_gt (x := i) (l := b) (by omega) (by omega), underL_cons, if_neg (by omega)] at hq; exact hq), (by omega)⟩) (by show (_ : Nat) < _; omega) (Sub.get (.c4 rfl rfl rfl rfl .n)) (fun w hw => hw.keep .n))))))
 exact .exit idQ (.seq (.region (.a rfl rfl rfl (.go idQ (.ret idQ (ret1 Try.results97 rfl .n ⟨(congrArg Value.bool (by unfold underF; rw [if_pos q_3]; exact underL_end q_2 (by omega))), rfl⟩))))))
theorem hstart (A : Option Addr) (c : Nat) (l : List WN) (t : Int) (S : Nat → Prop) (wf : World) (hA : Fr eWN S wf A l) :
  TR0 Try.prog 101 [.slice A l.length c, .int .i64 t] [] S wf (fun v_ C_ => v_ = .tuple #[.int .i64 ((startF l t).1), .bool ((startF l t).2)] ∧ C_ = []) := by
 have hla := hA.len
 refine TR.mk Try.func101 rfl Try.ntmps101 rfl rfl (fun w_ => ?_)
 refine .seq (.region (.a rfl rfl rfl (.a rfl rfl rfl (.go idQ (.seq ?_)))))
 refine .seq (.region (.m rfl rfl rfl (.v (ev_len rfl Try.underlying76 rfl) rfl (.m rfl rfl rfl (.go idQ ?_)))))
 refine .block ?_
 refine .loop (X := Int) (fun i => 0 ≤ i ∧ i ≤ (l.length : Int) ∧ startF (l.drop i.toNat) t = startF l t) (fun i => [(1, .int .i64 t), (8, .slice A l.length c), (9, .int .i64 (l.length : Int)), (10, .int .i64 i)]) (fun i => []) (fun _ => S) (fun _ => wf) (fun i => ((l.length : Int) - i).toNat) (fun a_ w_ hs_ hw_ => ⟨0, (by exact ⟨(by omega), (by omega), rfl⟩), hs_.mono (Sub.get (.c4 rfl rfl rfl rfl .n)), hw_.keep .n⟩) (fun i ⟨q_0, q_1, q_2⟩ => ?_)
 try dsimp only
 refine .seq (.region (.v (ev_cmp rfl rfl rfl rfl) rfl (.go idQ (.seq (.condI rfl bD (fun h1 => ?_) (fun h1 => ?_))))))
 ·
  refine .skipgo idQ (.seq (.block (.seq (.region (.v (ev_ix rfl Try.underlying76 ty72 rfl rfl (by omega) (by omega) (fun _ _ => Fr.adr (i := i) hA (by omega) (by omega))) rfl ?_)))))
  refine .v (ev_lda rfl rfl (At.w (Fr.el (i := i) hA (by omega) (by omega))) ty72) rfl (.cons (st_alloc rfl rfl rfl rfl zf72 (fun b2 => .cons (st_storea (l' := [.int .i64 ((gt l i).lo), .int .i64 ((gt l i).hi)]) rfl rfl rfl ty72 rfl rfl rfl .h rfl rfl (.go idQ (.seq (.region ?_)))))))
  refine .m rfl rfl rfl (.v (ev_fa rfl fo72_1 rfl (r := 1) rfl) rfl (.v (ev_ld1 rfl ty3 rfl (At.own1 0 rfl rfl)) rfl (.v (ev_cmp rfl rfl rfl rfl) rfl (.go idQ (.condI rfl bD (fun h3 => ?_) (fun h3 => ?_))))))
  ·
   refine .seq (.region (.m rfl rfl rfl (.v (ev_fa rfl fo72_0 rfl (r := 0) rfl) rfl (.v (ev_ld1 rfl ty3 rfl (At.own1 0 rfl rfl)) rfl (.v (ev_max rfl rfl rfl) rfl ?_)))))
   exact .a rfl rfl rfl (.a rfl rfl rfl (.go idQ (.ret idQ (ret2 Try.results101 rfl rfl .n ⟨(by rw [← q_2, drop_gt (x := i) (by omega) (by omega), startF_cons, if_pos (by omega)]), rfl⟩))))
  exact .skipgo idQ (.region (.v (ev_add rfl rfl rfl (r := (i + 1)) rfl (by omega) (by omega)) rfl (.m rfl rfl rfl (SP.nil (SQ.roundb (X := Int) (x := (i)) (i + 1) (by exact ⟨(by omega), (by omega), (by have hq := q_2; rw [drop_gt (x := i) (by omega) (by omega), startF_cons, if_neg (by omega)] at hq; exact hq)⟩) (by show (_ : Nat) < _; omega) (Sub.get (.c4 rfl rfl rfl rfl .n)) (fun w hw => hw.keep .n))))))
 refine .exit idQ (.seq (.region (.a rfl rfl rfl (.a rfl rfl rfl (.go idQ ?_)))))
 exact .ret idQ (ret2 Try.results101 rfl rfl .n ⟨(by rw [← q_2, drop_end (by omega)]; rfl), rfl⟩)
theorem covers_ (a : Int) (b : Int) (S : Nat → Prop) (wf : World) :
  TR0 Try.prog 94 [.int .u64 a, .int .u64 b] [] S wf (fun v_ C_ => v_ = .bool ((ban .u64 b a) == 0) ∧ C_ = []) := by
 refine TR.mk Try.func94 rfl Try.ntmps94 rfl rfl (fun w_ => ?_)
 refine .seq (.region (.a rfl rfl rfl (.go idQ (.seq (.region ?_)))))
 refine .m rfl rfl rfl (.m rfl rfl rfl (.v (ev_bandn rfl rfl rfl) rfl (.v (ev_cmp rfl rfl rfl rfl) rfl (.a rfl rfl rfl (.go idQ ?_)))))
 exact .ret idQ (ret1 Try.results94 rfl .n ⟨rfl, rfl⟩)
end Go.Proofs.Ytdpmnodiebpjeaa.Sx
set_option maxRecDepth 20000
set_option maxHeartbeats 1000000
namespace Go.Proofs.Ytdpmnodiebpjeaa.Sx.FB
open Go Go.SX Go.Proofs
theorem ai46 : (Try.prog.info? 46).map (fun i => (i.zero, i.size, i.bytes)) = some (some (.agg #[.int .i64 0, .int .i64 0]), 2, 16) := by kernel_rfl
theorem ai72 : (Try.prog.info? 72).map (fun i => (i.zero, i.size, i.bytes)) = some (some (.agg #[.int .i64 0, .int .i64 0]), 2, 16) := by kernel_rfl
theorem ai3 : (Try.prog.info? 3).map (fun i => (i.zero, i.size, i.bytes)) = some (some (.int .i64 0), 1, 8) := by kernel_rfl
theorem fo54_0 : fo Try.prog 54 0 = some 0 := by kernel_rfl
theorem ty4 : ty Try.prog 4 = some (false, 1) := by kernel_rfl
theorem fo54_1 : fo Try.prog 54 1 = some 1 := by kernel_rfl
theorem ty3 : ty Try.prog 3 = some (false, 1) := by kernel_rfl
theorem fo29_5 : fo Try.prog 29 5 = some 7 := by kernel_rfl
theorem ty27 : ty Try.prog 27 = some (false, 1) := by kernel_rfl
theorem fo29_4 : fo Try.prog 29 4 = some 6 := by kernel_rfl
theorem ty26 : ty Try.prog 26 = some (false, 1) := by kernel_rfl
theorem ty29 : ty Try.prog 29 = some (true, 8) := by kernel_rfl
theorem ty54 : ty Try.prog 54 = some (true, 2) := by kernel_rfl
theorem hbd60 : hasBody Try.prog 60 = true := by kernel_rfl
theorem ty86 : ty Try.prog 86 = some (true, 9) := by kernel_rfl
theorem fo86_4 : fo Try.prog 86 4 = some 8 := by kernel_rfl
theorem ty83 : ty Try.prog 83 = some (true, 7) := by kernel_rfl
theorem fo83_4 : fo Try.prog 83 4 = some 6 := by kernel_rfl
theorem fo86_3 : fo Try.prog 86 3 = some 7 := by kernel_rfl
theorem ty65 : ty Try.prog 65 = some (false, 1) := by kernel_rfl
theorem fo83_3 : fo Try.prog 83 3 = some 5 := by kernel_rfl
theorem mo : Try.prog.follows .mixedOrders = true := by kernel_rfl
theorem zf54 : (Try.prog.info? 54).bind (fun i => i.zero.map Value.cells) = some (List.toArray [.bool false, .int .i64 0]) := by kernel_rfl
theorem fo46_0 : fo Try.prog 46 0 = some 0 := by kernel_rfl
theorem ty44 : ty Try.prog 44 = some (false, 1) := by kernel_rfl
theorem fo46_1 : fo Try.prog 46 1 = some 1 := by kernel_rfl
theorem zf81 : (Try.prog.info? 81).bind (fun i => i.zero.map Value.cells) = some (List.toArray [.int .i64 0, .int .i64 0, .slice none 0 0]) := by kernel_rfl
theorem ty46 : ty Try.prog 46 = some (true, 2) := by kernel_rfl
theorem hbd93 : hasBody Try.prog 93 = true := by kernel_rfl
theorem ty81 : ty Try.prog 81 = some (true, 3) := by kernel_rfl
theorem fo83_0 : fo Try.prog 83 0 = some 0 := by kernel_rfl
theorem fo81_2 : fo Try.prog 81 2 = some 2 := by kernel_rfl
theorem ty76 : ty Try.prog 76 = some (false, 1) := by kernel_rfl
theorem hbd104 : hasBody Try.prog 104 = true := by kernel_rfl
theorem fo86_0 : fo Try.prog 86 0 = some 0 := by kernel_rfl
theorem fo86_1 : fo Try.prog 86 1 = some 3 := by kernel_rfl
theorem fo24_0 : fo Try.prog 24 0 = some 0 := by kernel_rfl
theorem fo24_1 : fo Try.prog 24 1 = some 1 := by kernel_rfl
theorem ty22 : ty Try.prog 22 = some (false, 1) := by kernel_rfl
end Go.Proofs.Ytdpmnodiebpjeaa.Sx.FB
namespace Go.Proofs.Ytdpmnodiebpjeaa.Sx
open Go Go.SX Go.Proofs FB
theorem clone (A : Option Addr) (n : Nat) (c : Nat) (l : List Vis) (S : Nat → Prop) (wf : World) (hA : Fr eVis S wf A l) (hn : l.length = n) (hl : l.length ≤ 1000000) :
  TR0 Try.prog 30 [.slice A n c] [] S wf (fun v_ C_ => ∃ (v : Value), v_ = v ∧ C_ = [rw_ eVis 46 (v) l]) := by
 refine TR.mk Try.func30 rfl Try.ntmps30 rfl rfl (fun w_ => ?_)
 refine .seq (.region (.a rfl rfl rfl (.go idQ (.seq (.seq ?_)))))
 refine .region (.m rfl rfl rfl (.v (ev_nils rfl Try.underlying41 rfl rfl (by rfl)) rfl (.go idQ (.condI rfl bV (fun h1 => ?_) (fun h1 => ?_)))))
 ·
  refine .seq (.region (.a rfl rfl rfl (.go idQ ?_)))
  refine SC.nilrow eVis 46 ?_
  exact .ret idQ (ret1 Try.results30 rfl (.c .h .n) ⟨.slice none 0 0, rfl, (by rw [clone_nil hA (by assumption)])⟩)
 refine .skipgo idQ (.seq (.region (.cons (st_lit eVis (e := 46) (l := []) rfl rfl rfl rfl (by kernel_rfl) rfl rfl (fun w => by kernel_rfl) (fun b2 => .m rfl rfl rfl (.cons (st_app0 (E := eVis) (m := l) rfl rfl rfl rfl Try.underlying41 ai46 rfl rfl rfl .h (by first | rfl | omega | simp) (Src.w (Fr.flat hA)) (by first | omega | simp only [LL] <;> omega | simp <;> omega) rfl (fun v3 => ?_))))))))
 exact .a rfl rfl rfl (.go idQ (.ret idQ (ret1 Try.results30 rfl (.c .h .n) ⟨v3, rfl, rfl⟩)))
theorem clonew (A : Option Addr) (n : Nat) (c : Nat) (l : List WN) (S : Nat → Prop) (wf : World) (hA : Fr eWN S wf A l) (hn : l.length = n) (hl : l.length ≤ 1000000) :
  TR0 Try.prog 104 [.slice A n c] [] S wf (fun v_ C_ => ∃ (v : Value), v_ = v ∧ C_ = [rw_ eWN 72 (v) l]) := by
 refine TR.mk Try.func104 rfl Try.ntmps104 rfl rfl (fun w_ => ?_)
 refine .seq (.region (.a rfl rfl rfl (.go idQ (.seq (.seq ?_)))))
 refine .region (.m rfl rfl rfl (.v (ev_nils rfl Try.underlying76 rfl rfl (by rfl)) rfl (.go idQ (.condI rfl bV (fun h1 => ?_) (fun h1 => ?_)))))
 ·
  refine .seq (.region (.a rfl rfl rfl (.go idQ ?_)))
  refine SC.nilrow eWN 72 ?_
  exact .ret idQ (ret1 Try.results104 rfl (.c .h .n) ⟨.slice none 0 0, rfl, (by rw [clone_nil hA (by assumption)])⟩)
 refine .skipgo idQ (.seq (.region (.cons (st_lit eWN (e := 72) (l := []) rfl rfl rfl rfl (by kernel_rfl) rfl rfl (fun w => by kernel_rfl) (fun b2 => .m rfl rfl rfl (.cons (st_app0 (E := eWN) (m := l) rfl rfl rfl rfl Try.underlying76 ai72 rfl rfl rfl .h (by first | rfl | omega | simp) (Src.w (Fr.flat hA)) (by first | omega | simp only [LL] <;> omega | simp <;> omega) rfl (fun v3 => ?_))))))))
 exact .a rfl rfl rfl (.go idQ (.ret idQ (ret1 Try.results104 rfl (.c .h .n) ⟨v3, rfl, rfl⟩)))
theorem clonez (A : Option Addr) (n : Nat) (c : Nat) (l : List Int) (S : Nat → Prop) (wf : World) (hA : Fr eZ S wf A l) (hn : l.length = n) (hl : l.length ≤ 1000000) :
  TR0 Try.prog 102 [.slice A n c] [] S wf (fun v_ C_ => ∃ (v : Value), v_ = v ∧ C_ = [rw_ eZ 3 (v) l]) := by
 refine TR.mk Try.func102 rfl Try.ntmps102 rfl rfl (fun w_ => ?_)
 refine .seq (.region (.a rfl rfl rfl (.go idQ (.seq (.seq ?_)))))
 refine .region (.m rfl rfl rfl (.v (ev_nils rfl Try.underlying22 rfl rfl (by rfl)) rfl (.go idQ (.condI rfl bV (fun h1 => ?_) (fun h1 => ?_)))))
 ·
  refine .seq (.region (.a rfl rfl rfl (.go idQ ?_)))
  refine SC.nilrow eZ 3 ?_
  exact .ret idQ (ret1 Try.results102 rfl (.c .h .n) ⟨.slice none 0 0, rfl, (by rw [clone_nil hA (by assumption)])⟩)
 refine .skipgo idQ (.seq (.region (.cons (st_lit eZ (e := 3) (l := []) rfl rfl rfl rfl (by kernel_rfl) rfl rfl (fun w => by kernel_rfl) (fun b2 => .m rfl rfl rfl (.cons (st_app0 (E := eZ) (m := l) rfl rfl rfl rfl Try.underlying22 ai3 rfl rfl rfl .h (by first | rfl | omega | simp) (Src.w (Fr.flat hA)) (by first | omega | simp only [LL] <;> omega | simp <;> omega) rfl (fun v3 => ?_))))))))
 exact .a rfl rfl rfl (.go idQ (.ret idQ (ret1 Try.results102 rfl (.c .h .n) ⟨v3, rfl, rfl⟩)))
theorem there_ (p : PB) (t : TK) (S : Nat → Prop) (wf : World) (hPB : PBF S wf p) :
  TR0 Try.prog 60 [.agg #[.int .i64 p.dims, .int .i64 p.tn, .slice p.ptA p.time.length p.ptc, .int .i64 p.dn, .slice p.pdA p.dist.length p.pdc, .slice p.pvA p.vehs.length p.pvc, .slice p.pjA p.jobs.length p.pjc, .slice p.psA p.ships.length p.psc], .agg #[.bool t.ship, .int .i64 t.item]] [] S wf (fun v_ C_ => v_ = .bool (thereF p t) ∧ C_ = []) := by
 have hlj := hPB.2.2.2.1.1.len
 have hls := hPB.2.2.2.2.1.len
 have hlv := hPB.2.2.1.1.len
 refine TR.mk Try.func60 rfl Try.ntmps60 rfl rfl (fun w_ => ?_)
 refine .seq (.region (.cons (st_boxa rfl rfl rfl rfl rfl (fun b1 => .cons (st_boxa rfl rfl rfl rfl rfl (fun b2 => .a rfl rfl rfl (.go idQ ?_)))))))
 refine .seq (.seq (.region (.v (ev_fa rfl fo54_0 rfl (r := 0) rfl) rfl (.v (ev_ld1 rfl ty4 rfl (At.own1 0 rfl rfl)) rfl (.go idQ ?_)))))
 refine .condI rfl bV (fun h3 => ?_) (fun h3 => ?_)
 ·
  refine .seq (.region (.v (ev_fa rfl fo54_1 rfl (r := 1) rfl) rfl (.v (ev_ld1 rfl ty3 rfl (At.own1 0 rfl rfl)) rfl (.v (ev_cmp rfl rfl rfl rfl) rfl (.m rfl rfl rfl ?_)))))
  refine .w (fun _ => ev_fa rfl fo54_1 rfl (r := 1) rfl) rfl (.w (fun hb => ev_ld1 rfl ty3 (lkg rfl hb) (At.own1 0 rfl rfl)) rfl (.w (fun _ => ev_fa rfl fo29_5 rfl (r := 7) rfl) rfl (.w (fun hb => ev_ld1 rfl ty27 (lkg rfl hb) (At.own1 1 rfl rfl)) rfl (.w (fun hb => ev_len rfl Try.underlying27 (lkg rfl hb)) rfl (.w (fun hb => ev_cmp rfl (lkg rfl hb) (lkg rfl hb) rfl) rfl ?_)))))
  exact .v (ev_and rfl rfl rfl rfl) rfl (.a rfl rfl rfl (.go idQ (.ret idQ (ret1 Try.results60 rfl .n ⟨(congrArg Value.bool (by unfold thereF; rw [if_pos (by assumption)]; rw [Bool.eq_iff_iff]; simp)), rfl⟩))))
 refine .skipgo idQ (.seq (.region (.v (ev_fa rfl fo54_1 rfl (r := 1) rfl) rfl (.v (ev_ld1 rfl ty3 rfl (At.own1 0 rfl rfl)) rfl (.v (ev_cmp rfl rfl rfl rfl) rfl ?_)))))
 refine .m rfl rfl rfl (.w (fun _ => ev_fa rfl fo54_1 rfl (r := 1) rfl) rfl (.w (fun hb => ev_ld1 rfl ty3 (lkg rfl hb) (At.own1 0 rfl rfl)) rfl (.w (fun _ => ev_fa rfl fo29_4 rfl (r := 6) rfl) rfl (.w (fun hb => ev_ld1 rfl ty26 (lkg rfl hb) (At.own1 1 rfl rfl)) rfl (.w (fun hb => ev_len rfl Try.underlying26 (lkg rfl hb)) rfl ?_)))))
 exact .w (fun hb => ev_cmp rfl (lkg rfl hb) (lkg rfl hb) rfl) rfl (.v (ev_and rfl rfl rfl rfl) rfl (.a rfl rfl rfl (.go idQ (.ret idQ (ret1 Try.results60 rfl .n ⟨(congrArg Value.bool (by unfold thereF; rw [if_neg (by assumption)]; rw [Bool.eq_iff_iff]; simp)), rfl⟩)))))
theorem prio_ (p : PB) (t : TK) (S : Nat → Prop) (wf : World) (hPB : PBF S wf p) :
  TR0 Try.prog 42 [.agg #[.int .i64 p.dims, .int .i64 p.tn, .slice p.ptA p.time.length p.ptc, .int .i64 p.dn, .slice p.pdA p.dist.length p.pdc, .slice p.pvA p.vehs.length p.pvc, .slice p.pjA p.jobs.length p.pjc, .slice p.psA p.ships.length p.psc], .agg #[.bool t.ship, .int .i64 t.item]] [] S wf (fun v_ C_ => v_ = .int .i64 (prioF p t) ∧ C_ = []) := by
 have hlj := hPB.2.2.2.1.1.len
 have hls := hPB.2.2.2.2.1.len
 have hlv := hPB.2.2.1.1.len
 refine TR.mk Try.func42 rfl Try.ntmps42 rfl rfl (fun w_ => ?_)
 refine .seq (.region (.cons (st_boxa rfl rfl rfl rfl rfl (fun b1 => .cons (st_boxa rfl rfl rfl rfl rfl (fun b2 => .a rfl rfl rfl (.go idQ ?_)))))))
 refine .seq (.block (.seq (.region (.v (ev_lda rfl rfl (At.whole 1 rfl) ty29) rfl (.v (ev_lda rfl rfl (At.whole 0 rfl) ty54) rfl ?_)))))
 refine .cons (st_callk rfl rfl rfl rfl hbd60 rfl .n (there_ p t _ _ hPB) (.v (ev_not rfl rfl) rfl (.a rfl rfl rfl (.go idQ (.condI rfl (bN bV) (fun h3 => ?_) (fun h3 => ?_))))))
 ·
  exact .seq (.region (.a rfl rfl rfl (.go idQ (.ret idQ (ret1 Try.results42 rfl .n ⟨(congrArg (Value.int .i64) (prio_no (by assumption)).1.symm), rfl⟩)))))
 refine .seq (.region (.v (ev_fa rfl fo54_0 rfl (r := 0) rfl) rfl (.v (ev_ld1 rfl ty4 rfl (At.own1 0 rfl rfl)) rfl (.a rfl rfl rfl (.go idQ ?_)))))
 refine .condI rfl bV (fun h4 => ?_) (fun h4 => ?_)
 ·
  refine .seq ?_
  have hin := thr_t (by assumption) (by assumption)
  refine .region (.v (ev_fa rfl fo29_5 rfl (r := 7) rfl) rfl (.v (ev_ld1 rfl ty27 rfl (At.own1 1 rfl rfl)) rfl (.v (ev_fa rfl fo54_1 rfl (r := 1) rfl) rfl (.v (ev_ld1 rfl ty3 rfl (At.own1 0 rfl rfl)) rfl (.v (ev_ix rfl Try.underlying27 ty86 rfl rfl (by omega) (by omega) (fun _ _ => Fr.adr (i := t.item) hPB.2.2.2.2.1 (by omega) (by omega))) rfl ?_)))))
  exact .v (ev_fa rfl fo86_4 rfl (r := ao p.psA + (t.item).toNat * 9 + 8) rfl) rfl (.v (ev_ld1 rfl ty3 rfl (At.elem1 (At.w (Fr.el (i := t.item) hPB.2.2.2.2.1 (by omega) (by omega))) 8 rfl)) rfl (.a rfl rfl rfl (.go idQ (.ret idQ (ret1 Try.results42 rfl .n ⟨(congrArg (Value.int .i64) (prio_t (by assumption) (by assumption)).1.symm), rfl⟩)))))
 refine .skipgo idQ (.seq ?_)
 have hin := thr_f (by assumption) (by assumption)
 refine .region (.v (ev_fa rfl fo29_4 rfl (r := 6) rfl) rfl (.v (ev_ld1 rfl ty26 rfl (At.own1 1 rfl rfl)) rfl (.v (ev_fa rfl fo54_1 rfl (r := 1) rfl) rfl (.v (ev_ld1 rfl ty3 rfl (At.own1 0 rfl rfl)) rfl (.v (ev_ix rfl Try.underlying26 ty83 rfl rfl (by omega) (by omega) (fun _ _ => Fr.adr (i := t.item) hPB.2.2.2.1.1 (by omega) (by omega))) rfl ?_)))))
 exact .v (ev_fa rfl fo83_4 rfl (r := ao p.pjA + (t.item).toNat * 7 + 6) rfl) rfl (.v (ev_ld1 rfl ty3 rfl (At.elem1 (At.w (Fr.el (i := t.item) hPB.2.2.2.1.1 (by omega) (by omega))) 6 rfl)) rfl (.a rfl rfl rfl (.go idQ (.ret idQ (ret1 Try.results42 rfl .n ⟨(congrArg (Value.int .i64) (prio_f (by assumption) (by assumption)).1.symm), rfl⟩)))))
theorem skil_ (p : PB) (t : TK) (S : Nat → Prop) (wf : World) (hPB : PBF S wf p) :
  TR0 Try.prog 95 [.agg #[.int .i64 p.dims, .int .i64 p.tn, .slice p.ptA p.time.length p.ptc, .int .i64 p.dn, .slice p.pdA p.dist.length p.pdc, .slice p.pvA p.vehs.length p.pvc, .slice p.pjA p.jobs.length p.pjc, .slice p.psA p.ships.length p.psc], .agg #[.bool t.ship, .int .i64 t.item]] [] S wf (fun v_ C_ => v_ = .int .u64 (skilF p t) ∧ C_ = []) := by
 have hlj := hPB.2.2.2.1.1.len
 have hls := hPB.2.2.2.2.1.len
 have hlv := hPB.2.2.1.1.len
 refine TR.mk Try.func95 rfl Try.ntmps95 rfl rfl (fun w_ => ?_)
 refine .seq (.region (.cons (st_boxa rfl rfl rfl rfl rfl (fun b1 => .cons (st_boxa rfl rfl rfl rfl rfl (fun b2 => .a rfl rfl rfl (.go idQ ?_)))))))
 refine .seq (.block (.seq (.region (.v (ev_lda rfl rfl (At.whole 1 rfl) ty29) rfl (.v (ev_lda rfl rfl (At.whole 0 rfl) ty54) rfl ?_)))))
 refine .cons (st_callk rfl rfl rfl rfl hbd60 rfl .n (there_ p t _ _ hPB) (.v (ev_not rfl rfl) rfl (.a rfl rfl rfl (.go idQ (.condI rfl (bN bV) (fun h3 => ?_) (fun h3 => ?_))))))
 ·
  exact .seq (.region (.a rfl rfl rfl (.go idQ (.ret idQ (ret1 Try.results95 rfl .n ⟨(congrArg (Value.int .u64) (prio_no (by assumption)).2.symm), rfl⟩)))))
 refine .seq (.region (.v (ev_fa rfl fo54_0 rfl (r := 0) rfl) rfl (.v (ev_ld1 rfl ty4 rfl (At.own1 0 rfl rfl)) rfl (.a rfl rfl rfl (.go idQ ?_)))))
 refine .condI rfl bV (fun h4 => ?_) (fun h4 => ?_)
 ·
  refine .seq ?_
  have hin := thr_t (by assumption) (by assumption)
  refine .region (.v (ev_fa rfl fo29_5 rfl (r := 7) rfl) rfl (.v (ev_ld1 rfl ty27 rfl (At.own1 1 rfl rfl)) rfl (.v (ev_fa rfl fo54_1 rfl (r := 1) rfl) rfl (.v (ev_ld1 rfl ty3 rfl (At.own1 0 rfl rfl)) rfl (.v (ev_ix rfl Try.underlying27 ty86 rfl rfl (by omega) (by omega) (fun _ _ => Fr.adr (i := t.item) hPB.2.2.2.2.1 (by omega) (by omega))) rfl ?_)))))
  exact .v (ev_fa rfl fo86_3 rfl (r := ao p.psA + (t.item).toNat * 9 + 7) rfl) rfl (.v (ev_ld1 rfl ty65 rfl (At.elem1 (At.w (Fr.el (i := t.item) hPB.2.2.2.2.1 (by omega) (by omega))) 7 rfl)) rfl (.a rfl rfl rfl (.go idQ (.ret idQ (ret1 Try.results95 rfl .n ⟨(congrArg (Value.int .u64) (prio_t (by assumption) (by assumption)).2.symm), rfl⟩)))))
 refine .skipgo idQ (.seq ?_)
 have hin := thr_f (by assumption) (by assumption)
 refine .region (.v (ev_fa rfl fo29_4 rfl (r := 6) rfl) rfl (.v (ev_ld1 rfl ty26 rfl (At.own1 1 rfl rfl)) rfl (.v (ev_fa rfl fo54_1 rfl (r := 1) rfl) rfl (.v (ev_ld1 rfl ty3 rfl (At.own1 0 rfl rfl)) rfl (.v (ev_ix rfl Try.underlying26 ty83 rfl rfl (by omega) (by omega) (fun _ _ => Fr.adr (i := t.item) hPB.2.2.2.1.1 (by omega) (by omega))) rfl ?_)))))
 exact .v (ev_fa rfl fo83_3 rfl (r := ao p.pjA + (t.item).toNat * 7 + 5) rfl) rfl (.v (ev_ld1 rfl ty65 rfl (At.elem1 (At.w (Fr.el (i := t.item) hPB.2.2.2.1.1 (by omega) (by omega))) 5 rfl)) rfl (.a rfl rfl rfl (.go idQ (.ret idQ (ret1 Try.results95 rfl .n ⟨(congrArg (Value.int .u64) (prio_f (by assumption) (by assumption)).2.symm), rfl⟩)))))
theorem of_ (x : Vis) (S : Nat → Prop) (wf : World) :
  TR0 Try.prog 93 [.agg #[.int .i64 x.kind, .int .i64 x.item]] [] S wf (fun v_ C_ => v_ = .tuple #[.agg #[.bool ((taskV x).ship), .int .i64 ((taskV x).item)], .bool (isTask x)] ∧ C_ = []) := by
 refine TR.mk Try.func93 rfl Try.ntmps93 rfl rfl (fun w_ => ?_)
 refine .seq (.region (.cons (st_boxa rfl rfl rfl rfl rfl (fun b1 => .cons (st_alloc rfl rfl rfl rfl zf54 (fun b2 => .a rfl rfl rfl (.go idQ ?_)))))))
 refine .seq (.seq (.region (.v (ev_fa rfl fo46_0 rfl (r := 0) rfl) rfl (.v (ev_ld1 rfl ty44 rfl (At.own1 1 rfl rfl)) rfl (.go idQ ?_)))))
 refine .block (.seq (.region (.v (ev_cmp rfl rfl rfl rfl) rfl (.a rfl rfl rfl (.go idQ ?_)))))
 refine .condI rfl bE (fun h3 => ?_) (fun h3 => ?_)
 ·
  refine .seq (.region (.v (ev_fa rfl fo46_1 rfl (r := 1) rfl) rfl (.v (ev_ld1 rfl ty3 rfl (At.own1 1 rfl rfl)) rfl (.v (ev_any (v := .agg #[.bool false, .int .i64 x.item]) rfl (by kernel_rfl) (fun _ => by kernel_rfl)) rfl (.cons (st_storea (l' := [.bool false, .int .i64 x.item]) rfl rfl rfl ty54 rfl rfl rfl .h rfl rfl ?_))))))
  exact .a rfl rfl rfl (.go idQ (.ret idQ (retv2 Try.results93 (.c 0 rfl rfl ty54) (.t rfl) .n ⟨(by obtain ⟨e1, e2⟩ := task1 (x := x) (by omega); rw [e1, e2]), rfl⟩)))
 refine .seq (.seq (.region (.v (ev_cmp rfl rfl rfl rfl) rfl (.a rfl rfl rfl (.go idQ ?_)))))
 refine .condI rfl bE (fun h4 => ?_) (fun h4 => ?_)
 ·
  refine .skipgo idQ (.condI rfl bE (fun h5 => ?_) (fun h5 => ?_))
  ·
   refine .seq (.region (.v (ev_fa rfl fo46_1 rfl (r := 1) rfl) rfl (.v (ev_ld1 rfl ty3 rfl (At.own1 1 rfl rfl)) rfl (.v (ev_any (v := .agg #[.bool true, .int .i64 x.item]) rfl (by kernel_rfl) (fun _ => by kernel_rfl)) rfl (.cons (st_storea (l' := [.bool true, .int .i64 x.item]) rfl rfl rfl ty54 rfl rfl rfl .h rfl rfl ?_))))))
   exact .a rfl rfl rfl (.go idQ (.ret idQ (retv2 Try.results93 (.c 0 rfl rfl ty54) (.t rfl) .n ⟨(by have hk_ : x.kind = 2 ∨ x.kind = 3 := (by omega); obtain ⟨e1, e2⟩ := task23 hk_; rw [e1, e2]), rfl⟩)))
  exact absurd h4 h5
 refine .region (.v (ev_cmp rfl rfl rfl rfl) rfl (.a rfl rfl rfl (.go idQ (.condI rfl bE (fun h6 => ?_) (fun h6 => ?_)))))
 ·
  refine .seq (.region (.v (ev_fa rfl fo46_1 rfl (r := 1) rfl) rfl (.v (ev_ld1 rfl ty3 rfl (At.own1 1 rfl rfl)) rfl (.v (ev_any (v := .agg #[.bool true, .int .i64 x.item]) rfl (by kernel_rfl) (fun _ => by kernel_rfl)) rfl (.cons (st_storea (l' := [.bool true, .int .i64 x.item]) rfl rfl rfl ty54 rfl rfl rfl .h rfl rfl ?_))))))
  exact .a rfl rfl rfl (.go idQ (.ret idQ (retv2 Try.results93 (.c 0 rfl rfl ty54) (.t rfl) .n ⟨(by have hk_ : x.kind = 2 ∨ x.kind = 3 := (by omega); obtain ⟨e1, e2⟩ := task23 hk_; rw [e1, e2]), rfl⟩)))
 refine .skipgo idQ (.seq (.region (.v (ev_any (v := .agg #[.bool false, .int .i64 0]) rfl (by kernel_rfl) (fun _ => by kernel_rfl)) rfl (.cons (st_storea (l' := [.bool false, .int .i64 0]) rfl rfl rfl ty54 rfl rfl rfl .h rfl rfl (.a rfl rfl rfl ?_))))))
 exact .go idQ (.ret idQ (retv2 Try.results93 (.c 0 rfl rfl ty54) (.t rfl) .n ⟨(by obtain ⟨e1, e2⟩ := task_no (x := x) (by omega) (by omega) (by omega); rw [e1, e2]), rfl⟩))
theorem mvis_ (t : TK) (S : Nat → Prop) (wf : World) :
  TR0 Try.prog 34 [.agg #[.bool t.ship, .int .i64 t.item]] [] S wf (fun v_ C_ => ∃ (u : Value), v_ = u ∧ C_ = [rw_ eVis 46 (u) (visT t)]) := by
 refine TR.mk Try.func34 rfl Try.ntmps34 rfl rfl (fun w_ => ?_)
 refine .seq (.region (.cons (st_boxa rfl rfl rfl rfl rfl (fun b1 => .a rfl rfl rfl (.go idQ (.seq ?_))))))
 refine .seq (.region (.v (ev_fa rfl fo54_0 rfl (r := 0) rfl) rfl (.v (ev_ld1 rfl ty4 rfl (At.own1 0 rfl rfl)) rfl (.go idQ (.condI rfl bV (fun h2 => ?_) (fun h2 => ?_))))))
 ·
  refine .seq (.region (.v (ev_fa rfl fo54_1 rfl (r := 1) rfl) rfl (.v (ev_ld1 rfl ty3 rfl (At.own1 0 rfl rfl)) rfl (.v (ev_any (v := .agg #[.int .i64 2, .int .i64 t.item]) rfl (by kernel_rfl) (fun _ => by kernel_rfl)) rfl (.v (ev_fa rfl fo54_1 rfl (r := 1) rfl) rfl ?_)))))
  exact .v (ev_ld1 rfl ty3 rfl (At.own1 0 rfl rfl)) rfl (.v (ev_any (v := .agg #[.int .i64 3, .int .i64 t.item]) rfl (by kernel_rfl) (fun _ => by kernel_rfl)) rfl (.cons (st_lit eVis (e := 46) (l := [(Vis.mk 2 t.item), (Vis.mk 3 t.item)]) rfl rfl rfl rfl (by kernel_rfl) rfl rfl (fun w => by kernel_rfl) (fun b3 => .a rfl rfl rfl (.go idQ (.ret idQ (ret1 Try.results34 rfl (.c .h .n) ⟨.slice (some ⟨b3, 0, none⟩) 2 2, rfl, (by unfold visT; rw [if_pos (by assumption)])⟩)))))))
 refine .skipgo idQ (.seq (.region (.v (ev_fa rfl fo54_1 rfl (r := 1) rfl) rfl (.v (ev_ld1 rfl ty3 rfl (At.own1 0 rfl rfl)) rfl (.v (ev_any (v := .agg #[.int .i64 1, .int .i64 t.item]) rfl (by kernel_rfl) (fun _ => by kernel_rfl)) rfl ?_)))))
 exact .cons (st_lit eVis (e := 46) (l := [(Vis.mk 1 t.item)]) rfl rfl rfl rfl (by kernel_rfl) rfl rfl (fun w => by kernel_rfl) (fun b4 => .a rfl rfl rfl (.go idQ (.ret idQ (ret1 Try.results34 rfl (.c .h .n) ⟨.slice (some ⟨b4, 0, none⟩) 1 1, rfl, (by unfold visT; rw [if_neg (by assumption)])⟩)))))
theorem stop_ (p : PB) (x : Vis) (S : Nat → Prop) (wf : World) (hPB : PBF S wf p) (hw : ∀ y, (stopD p y).sws.length ≤ 1000) :
  TR0 Try.prog 92 [.agg #[.int .i64 p.dims, .int .i64 p.tn, .slice p.ptA p.time.length p.ptc, .int .i64 p.dn, .slice p.pdA p.dist.length p.pdc, .slice p.pvA p.vehs.length p.pvc, .slice p.pjA p.jobs.length p.pjc, .slice p.psA p.ships.length p.psc], .agg #[.int .i64 x.kind, .int .i64 x.item]] [] S wf (fun v_ C_ => ∃ (u : Value), v_ = .tuple #[.agg #[.int .i64 ((stopD p x).pl), .int .i64 ((stopD p x).srv), u], .bool (isStop p x)] ∧ C_ = [rw_ eWN 72 (u) ((stopD p x).sws)]) := by
 have hlj := hPB.2.2.2.1.1.len
 have hls := hPB.2.2.2.2.1.len
 have hlv := hPB.2.2.1.1.len
 refine TR.mk Try.func92 rfl Try.ntmps92 rfl rfl (fun w_ => ?_)
 refine .seq (.region (.cons (st_boxa rfl rfl rfl rfl rfl (fun b1 => .cons (st_boxa rfl rfl rfl rfl rfl (fun b2 => .cons (st_alloc rfl rfl rfl rfl zf81 (fun b3 => .a rfl rfl rfl ?_))))))))
 refine .go idQ (.seq (.region (.v (ev_lda rfl rfl (At.whole 1 rfl) ty46) rfl (.cons (st_callk rfl rfl rfl rfl hbd93 rfl .n (of_ x _ _) (.m rfl rfl rfl ?_))))))
 refine .v (ev_ext rfl rfl rfl) rfl (.v (ev_ext rfl rfl rfl) rfl (.cons (st_alloc rfl rfl rfl rfl zf54 (fun b4 => .cons (st_storea (l' := [.bool ((taskV x).ship), .int .i64 ((taskV x).item)]) rfl rfl rfl ty54 rfl rfl rfl .h rfl rfl (.a rfl rfl rfl (.go idQ ?_)))))))
 refine .seq (.seq (.region (.m rfl rfl rfl (.v (ev_not rfl rfl) rfl (.m rfl rfl rfl ?_)))))
 refine .w (fun _ => ev_lda rfl rfl (At.whole 3 rfl) ty29) rfl (.w (fun _ => ev_lda rfl rfl (At.whole 0 rfl) ty54) rfl (.cons (st_gcallk rfl rfl rfl rfl rfl rfl hbd60 (fun hb => (lkA1 (lkg rfl hb) (lkA1 (lkg rfl hb) lkA0))) .n (fun hb => have hp := bF (bN bV) hb; there_ p (taskV x) _ _ hPB) (.w (fun hb => ev_not rfl (lkg rfl hb)) rfl (.v (ev_or rfl rfl rfl rfl) rfl (.go idQ ?_))))))
 refine .condI rfl (bO (bN bV) (bN bV)) (fun h5 => ?_) (fun h5 => ?_)
 ·
  refine .seq ?_
  refine SC.nilrow eWN 72 ?_
  exact .region (.v (ev_any (v := .agg #[.int .i64 0, .int .i64 0, .slice none 0 0]) rfl (by kernel_rfl) (fun _ => by kernel_rfl)) rfl (.cons (st_storea (l' := [.int .i64 0, .int .i64 0, .slice none 0 0]) rfl rfl rfl ty81 rfl rfl rfl (.t (.t .h)) rfl rfl (.a rfl rfl rfl (.go idQ (.ret idQ (retv2 Try.results92 (.c 0 rfl rfl ty81) (.t rfl) (.c (.t .h) .n) ⟨.slice none 0 0, (by obtain ⟨e1, e2⟩ := stop_no (p := p) (x := x) (by assumption); rw [e1, e2]; rfl), (by obtain ⟨e1, e2⟩ := stop_no (p := p) (x := x) (by assumption); rw [e2]; rfl)⟩)))))))
 refine .skipgo idQ (.seq (.region (.v (ev_any (v := .agg #[.int .i64 0, .int .i64 0, .slice none 0 0]) rfl (by kernel_rfl) (fun _ => by kernel_rfl)) rfl (.cons (st_alloc rfl rfl rfl rfl zf81 (fun b6 => .cons (st_storea (l' := [.int .i64 0, .int .i64 0, .slice none 0 0]) rfl rfl rfl ty81 rfl rfl rfl .h rfl rfl ?_)))))))
 refine .go idQ (.seq (.seq (.region (.v (ev_fa rfl fo46_0 rfl (r := 0) rfl) rfl (.v (ev_ld1 rfl ty44 rfl (At.own1 3 rfl rfl)) rfl ?_)))))
 refine .go idQ (.block (.seq (.region (.v (ev_cmp rfl rfl rfl rfl) rfl (.a rfl rfl rfl ?_)))))
 refine .go idQ (.condI rfl bE (fun h7 => ?_) (fun h7 => ?_))
 ·
  have hin := stop_i1 (p := p) (x := x) (by assumption) (by assumption)
  refine .region (.v (ev_fa rfl fo29_4 rfl (r := 6) rfl) rfl (.v (ev_ld1 rfl ty26 rfl (At.own1 4 rfl rfl)) rfl (.v (ev_fa rfl fo46_1 rfl (r := 1) rfl) rfl (.v (ev_ld1 rfl ty3 rfl (At.own1 3 rfl rfl)) rfl (.v (ev_ix rfl Try.underlying26 ty83 rfl rfl (by omega) (by omega) (fun _ _ => Fr.adr (i := x.item) hPB.2.2.2.1.1 (by omega) (by omega))) rfl ?_)))))
  refine .v (ev_fa rfl fo83_0 rfl (r := ao p.pjA + (x.item).toNat * 7) rfl) rfl (.v (ev_lda (cs := [.int .i64 (((gt p.jobs x.item).so).pl), .int .i64 (((gt p.jobs x.item).so).srv), .slice (((gt p.jobs x.item).so).soA) (((gt p.jobs x.item).so).sws.length) (((gt p.jobs x.item).so).soc)]) rfl rfl (At.elemn (At.w (Fr.el (i := x.item) hPB.2.2.2.1.1 (by omega) (by omega))) 0 rfl) ty81) rfl (.cons (st_storea (l' := [.int .i64 (((gt p.jobs x.item).so).pl), .int .i64 (((gt p.jobs x.item).so).srv), .slice (((gt p.jobs x.item).so).soA) (((gt p.jobs x.item).so).sws.length) (((gt p.jobs x.item).so).soc)]) rfl rfl rfl ty81 rfl rfl rfl .h rfl rfl (.go idQ (.seq (.region ?_))))))
  refine .v (ev_fa rfl fo81_2 rfl (r := 2) rfl) rfl (.v (ev_ld1 rfl ty76 rfl (At.own1 0 rfl rfl)) rfl (.cons (st_call0 rfl rfl rfl rfl hbd104 rfl .n (clonew (((gt p.jobs x.item).so).soA) (((gt p.jobs x.item).so).sws.length) (((gt p.jobs x.item).so).soc) (((gt p.jobs x.item).so).sws) _ _ ((hPB.2.2.2.1.2 x.item).2.2) (by first | omega | simp only [LL] <;> omega | simp <;> omega) (by obtain ⟨e1, e2⟩ := stop_yes (p := p) (x := x) (by assumption); have hw1 := hw x; rw [e2, stopO1 (by assumption)] at hw1; omega)) (fun v_q9 C_q9 q9 => ?_))))
  obtain ⟨v8, rfl, rfl⟩ := q9
  show SP _ _ _ _ _ _ ⟨_, _ :: _, _, _⟩
  refine .v (ev_fa rfl fo81_2 rfl (r := 2) rfl) rfl ?_
  refine .know (row_len 0 rfl) (fun hv12 => ?_)
  obtain ⟨A10, c11, rfl, hv12_1, hv12_2⟩ := hv12
  unfold maxLen at hv12_2
  refine .cons (st_store1 rfl rfl rfl ty76 rfl rfl rfl (.t .h) (.t (.t .h)) (.go idQ (.seq (.region (.v (ev_lda rfl rfl (At.whole 0 rfl) ty81) rfl (.cons (st_storea (l' := [.int .i64 (((gt p.jobs x.item).so).pl), .int .i64 (((gt p.jobs x.item).so).srv), .slice A10 ((((gt p.jobs x.item).so).sws).length) c11]) rfl rfl rfl ty81 rfl rfl rfl (.t (.t (.t .h))) rfl rfl ?_)))))))
  exact .a rfl rfl rfl (.go idQ (.ret idQ (retv2 Try.results92 (.c 0 rfl rfl ty81) (.t rfl) (.c (.t (.t .h)) .n) ⟨.slice A10 ((((gt p.jobs x.item).so).sws).length) c11, (by obtain ⟨e1, e2⟩ := stop_yes (p := p) (x := x) (by assumption); rw [e1, e2, stopO1 (by assumption)]), (by obtain ⟨e1, e2⟩ := stop_yes (p := p) (x := x) (by assumption); rw [e2, stopO1 (by assumption)])⟩)))
 refine .seq (.region (.v (ev_cmp rfl rfl rfl rfl) rfl (.a rfl rfl rfl (.go idQ (.condI rfl bE (fun h13 => ?_) (fun h13 => ?_))))))
 ·
  have hin := stop_i2 (p := p) (x := x) (by assumption) (by assumption)
  refine .region (.v (ev_fa rfl fo29_5 rfl (r := 7) rfl) rfl (.v (ev_ld1 rfl ty27 rfl (At.own1 4 rfl rfl)) rfl (.v (ev_fa rfl fo46_1 rfl (r := 1) rfl) rfl (.v (ev_ld1 rfl ty3 rfl (At.own1 3 rfl rfl)) rfl (.v (ev_ix rfl Try.underlying27 ty86 rfl rfl (by omega) (by omega) (fun _ _ => Fr.adr (i := x.item) hPB.2.2.2.2.1 (by omega) (by omega))) rfl ?_)))))
  refine .v (ev_fa rfl fo86_0 rfl (r := ao p.psA + (x.item).toNat * 9) rfl) rfl (.v (ev_lda (cs := [.int .i64 (((gt p.ships x.item).sp).pl), .int .i64 (((gt p.ships x.item).sp).srv), .slice (((gt p.ships x.item).sp).soA) (((gt p.ships x.item).sp).sws.length) (((gt p.ships x.item).sp).soc)]) rfl rfl (At.elemn (At.w (Fr.el (i := x.item) hPB.2.2.2.2.1 (by omega) (by omega))) 0 rfl) ty81) rfl (.cons (st_storea (l' := [.int .i64 (((gt p.ships x.item).sp).pl), .int .i64 (((gt p.ships x.item).sp).srv), .slice (((gt p.ships x.item).sp).soA) (((gt p.ships x.item).sp).sws.length) (((gt p.ships x.item).sp).soc)]) rfl rfl rfl ty81 rfl rfl rfl .h rfl rfl (.go idQ (.seq (.region ?_))))))
  refine .v (ev_fa rfl fo81_2 rfl (r := 2) rfl) rfl (.v (ev_ld1 rfl ty76 rfl (At.own1 0 rfl rfl)) rfl (.cons (st_call0 rfl rfl rfl rfl hbd104 rfl .n (clonew (((gt p.ships x.item).sp).soA) (((gt p.ships x.item).sp).sws.length) (((gt p.ships x.item).sp).soc) (((gt p.ships x.item).sp).sws) _ _ ((hPB.2.2.2.2.2 x.item).2.1) (by first | omega | simp only [LL] <;> omega | simp <;> omega) (by obtain ⟨e1, e2⟩ := stop_yes (p := p) (x := x) (by assumption); have hw1 := hw x; rw [e2, stopO2 (by assumption)] at hw1; omega)) (fun v_q15 C_q15 q15 => ?_))))
  obtain ⟨v14, rfl, rfl⟩ := q15
  show SP _ _ _ _ _ _ ⟨_, _ :: _, _, _⟩
  refine .v (ev_fa rfl fo81_2 rfl (r := 2) rfl) rfl ?_
  refine .know (row_len 0 rfl) (fun hv18 => ?_)
  obtain ⟨A16, c17, rfl, hv18_1, hv18_2⟩ := hv18
  unfold maxLen at hv18_2
  refine .cons (st_store1 rfl rfl rfl ty76 rfl rfl rfl (.t .h) (.t (.t .h)) (.go idQ (.seq (.region (.v (ev_lda rfl rfl (At.whole 0 rfl) ty81) rfl (.cons (st_storea (l' := [.int .i64 (((gt p.ships x.item).sp).pl), .int .i64 (((gt p.ships x.item).sp).srv), .slice A16 ((((gt p.ships x.item).sp).sws).length) c17]) rfl rfl rfl ty81 rfl rfl rfl (.t (.t (.t .h))) rfl rfl ?_)))))))
  exact .a rfl rfl rfl (.go idQ (.ret idQ (retv2 Try.results92 (.c 0 rfl rfl ty81) (.t rfl) (.c (.t (.t .h)) .n) ⟨.slice A16 ((((gt p.ships x.item).sp).sws).length) c17, (by obtain ⟨e1, e2⟩ := stop_yes (p := p) (x := x) (by assumption); rw [e1, e2, stopO2 (by assumption)]), (by obtain ⟨e1, e2⟩ := stop_yes (p := p) (x := x) (by assumption); rw [e2, stopO2 (by assumption)])⟩)))
 have hin := stop_i2 (p := p) (x := x) (by assumption) (by assumption)
 refine .region (.v (ev_fa rfl fo29_5 rfl (r := 7) rfl) rfl (.v (ev_ld1 rfl ty27 rfl (At.own1 4 rfl rfl)) rfl (.v (ev_fa rfl fo46_1 rfl (r := 1) rfl) rfl (.v (ev_ld1 rfl ty3 rfl (At.own1 3 rfl rfl)) rfl (.v (ev_ix rfl Try.underlying27 ty86 rfl rfl (by omega) (by omega) (fun _ _ => Fr.adr (i := x.item) hPB.2.2.2.2.1 (by omega) (by omega))) rfl ?_)))))
 refine .v (ev_fa rfl fo86_1 rfl (r := ao p.psA + (x.item).toNat * 9 + 3) rfl) rfl (.v (ev_lda (cs := [.int .i64 (((gt p.ships x.item).sd).pl), .int .i64 (((gt p.ships x.item).sd).srv), .slice (((gt p.ships x.item).sd).soA) (((gt p.ships x.item).sd).sws.length) (((gt p.ships x.item).sd).soc)]) rfl rfl (At.elemn (At.w (Fr.el (i := x.item) hPB.2.2.2.2.1 (by omega) (by omega))) 3 rfl) ty81) rfl (.cons (st_storea (l' := [.int .i64 (((gt p.ships x.item).sd).pl), .int .i64 (((gt p.ships x.item).sd).srv), .slice (((gt p.ships x.item).sd).soA) (((gt p.ships x.item).sd).sws.length) (((gt p.ships x.item).sd).soc)]) rfl rfl rfl ty81 rfl rfl rfl .h rfl rfl (.go idQ (.seq (.region ?_))))))
 refine .v (ev_fa rfl fo81_2 rfl (r := 2) rfl) rfl (.v (ev_ld1 rfl ty76 rfl (At.own1 0 rfl rfl)) rfl (.cons (st_call0 rfl rfl rfl rfl hbd104 rfl .n (clonew (((gt p.ships x.item).sd).soA) (((gt p.ships x.item).sd).sws.length) (((gt p.ships x.item).sd).soc) (((gt p.ships x.item).sd).sws) _ _ ((hPB.2.2.2.2.2 x.item).2.2) (by first | omega | simp only [LL] <;> omega | simp <;> omega) (by obtain ⟨e1, e2⟩ := stop_yes (p := p) (x := x) (by assumption); have hw1 := hw x; rw [e2, stopO3 (by assumption) (by assumption)] at hw1; omega)) (fun v_q20 C_q20 q20 => ?_))))
 obtain ⟨v19, rfl, rfl⟩ := q20
 show SP _ _ _ _ _ _ ⟨_, _ :: _, _, _⟩
 refine .v (ev_fa rfl fo81_2 rfl (r := 2) rfl) rfl ?_
 refine .know (row_len 0 rfl) (fun hv23 => ?_)
 obtain ⟨A21, c22, rfl, hv23_1, hv23_2⟩ := hv23
 unfold maxLen at hv23_2
 refine .cons (st_store1 rfl rfl rfl ty76 rfl rfl rfl (.t .h) (.t (.t .h)) (.go idQ (.seq (.region (.v (ev_lda rfl rfl (At.whole 0 rfl) ty81) rfl (.cons (st_storea (l' := [.int .i64 (((gt p.ships x.item).sd).pl), .int .i64 (((gt p.ships x.item).sd).srv), .slice A21 ((((gt p.ships x.item).sd).sws).length) c22]) rfl rfl rfl ty81 rfl rfl rfl (.t (.t (.t .h))) rfl rfl ?_)))))))
 exact .a rfl rfl rfl (.go idQ (.ret idQ (retv2 Try.results92 (.c 0 rfl rfl ty81) (.t rfl) (.c (.t (.t .h)) .n) ⟨.slice A21 ((((gt p.ships x.item).sd).sws).length) c22, (by obtain ⟨e1, e2⟩ := stop_yes (p := p) (x := x) (by assumption); rw [e1, e2, stopO3 (by assumption) (by assumption)]), (by obtain ⟨e1, e2⟩ := stop_yes (p := p) (x := x) (by assumption); rw [e2, stopO3 (by assumption) (by assumption)])⟩)))
theorem cell_ (n : Int) (A : Option Addr) (c : Nat) (l : List Int) (f : Int) (t : Int) (S : Nat → Prop) (wf : World) (hA : Fr eZ S wf A l) (hn : 1 ≤ n ∧ n ≤ 32) (hl : (l.length : Int) = n * n) :
  TR0 Try.prog 99 [.agg #[.int .i64 n, .slice A l.length c], .int .i64 f, .int .i64 t] [] S wf (fun v_ C_ => v_ = .int .i64 (cellF n l f t) ∧ C_ = []) := by
 have hmr := mul_rng (f := f) (n := n) hn.2
 have hci := cell_in (f := f) (t := t) (n := n)
 refine TR.mk Try.func99 rfl Try.ntmps99 rfl rfl (fun w_ => ?_)
 refine .seq (.region (.cons (st_boxa rfl rfl rfl rfl rfl (fun b1 => .a rfl rfl rfl (.go idQ (.seq ?_))))))
 refine .seq (.region (.m rfl rfl rfl (.v (ev_cmp rfl rfl rfl rfl) rfl (.m rfl rfl rfl (.w (fun _ => ev_mv rfl rfl) rfl ?_)))))
 refine .w (fun hb => ev_cmp rfl (lkg rfl hb) rfl rfl) rfl (.v (ev_or rfl rfl rfl rfl) rfl (.m rfl rfl rfl (.w (fun _ => ev_mv rfl rfl) rfl (.w (fun _ => ev_fa rfl fo24_0 rfl (r := 0) rfl) rfl (.w (fun hb => ev_ld1 rfl ty3 (lkg rfl hb) (At.own1 0 rfl rfl)) rfl ?_)))))
 refine .w (fun hb => ev_cmp rfl (lkg rfl hb) (lkg rfl hb) rfl) rfl (.v (ev_or rfl rfl rfl rfl) rfl (.m rfl rfl rfl (.w (fun _ => ev_mv rfl rfl) rfl (.w (fun _ => ev_fa rfl fo24_0 rfl (r := 0) rfl) rfl (.w (fun hb => ev_ld1 rfl ty3 (lkg rfl hb) (At.own1 0 rfl rfl)) rfl ?_)))))
 refine .w (fun hb => ev_cmp rfl (lkg rfl hb) (lkg rfl hb) rfl) rfl (.v (ev_or rfl rfl rfl rfl) rfl (.m rfl rfl rfl (.w (fun _ => ev_mv rfl rfl) rfl (.w (fun _ => ev_fa rfl fo24_0 rfl (r := 0) rfl) rfl (.w (fun hb => ev_ld1 rfl ty3 (lkg rfl hb) (At.own1 0 rfl rfl)) rfl ?_)))))
 refine .w (fun hb => have hp := bF (bO (bO (bO bD bD) bD) bD) hb; ev_mul rfl (lkg rfl hb) (lkg rfl hb) (r := (f * n)) rfl (by have _h := hp; omega) (by have _h := hp; omega)) rfl (.w (fun _ => ev_mv rfl rfl) rfl (.w (fun hb => have hp := bF (bO (bO (bO bD bD) bD) bD) hb; ev_add rfl (lkg rfl hb) (lkg rfl hb) (r := ((f * n) + t)) rfl (by have _h := hp; omega) (by have _h := hp; omega)) rfl (.w (fun _ => ev_fa rfl fo24_1 rfl (r := 1) rfl) rfl (.w (fun hb => ev_ld1 rfl ty22 (lkg rfl hb) (At.own1 0 rfl rfl)) rfl (.w (fun hb => ev_len rfl Try.underlying22 (lkg rfl hb)) rfl ?_)))))
 refine .w (fun hb => ev_cmp rfl (lkg rfl hb) (lkg rfl hb) rfl) rfl (.v (ev_or rfl rfl rfl rfl) rfl (.go idQ (.condI rfl (bO (bO (bO (bO bD bD) bD) bD) bD) (fun h2 => ?_) (fun h2 => ?_))))
 ·
  exact .seq (.region (.a rfl rfl rfl (.go idQ (.ret idQ (ret1 Try.results99 rfl .n ⟨(congrArg (Value.int .i64) (by unfold cellF; rw [if_pos (by omega)])), rfl⟩)))))
 refine .skipgo idQ (.seq (.region (.v (ev_fa rfl fo24_1 rfl (r := 1) rfl) rfl (.v (ev_ld1 rfl ty22 rfl (At.own1 0 rfl rfl)) rfl (.m rfl rfl rfl ?_)))))
 refine .v (ev_fa rfl fo24_0 rfl (r := 0) rfl) rfl (.v (ev_ld1 rfl ty3 rfl (At.own1 0 rfl rfl)) rfl (.v (ev_mul rfl rfl rfl (r := (f * n)) rfl (by omega) (by omega)) rfl (.m rfl rfl rfl (.v (ev_add rfl rfl rfl (r := ((f * n) + t)) rfl (by omega) (by omega)) rfl (.v (ev_ix rfl Try.underlying22 ty3 rfl rfl (by omega) (by omega) (fun _ _ => Fr.adr (i := ((f * n) + t)) hA (by omega) (by omega))) rfl ?_)))))
 exact .v (ev_ld1 rfl ty3 rfl (At.elem1 (At.w (Fr.el (i := ((f * n) + t)) hA (by omega) (by omega))) 0 rfl)) rfl (.a rfl rfl rfl (.go idQ (.ret idQ (ret1 Try.results99 rfl .n ⟨(congrArg (Value.int .i64) (by unfold cellF; rw [if_neg (by omega)])), rfl⟩))))
end Go.Proofs.Ytdpmnodiebpjeaa.Sx
set_option maxRecDepth 20000
set_option maxHeartbeats 1000000
namespace Go.Proofs.Ytdpmnodiebpjeaa.Sx.FC
open Go Go.SX Go.Proofs
theorem ty46 : ty Try.prog 46 = some (true, 2) := by kernel_rfl
theorem zf46 : (Try.prog.info? 46).bind (fun i => i.zero.map Value.cells) = some (List.toArray [.int .i64 0, .int .i64 0]) := by kernel_rfl
theorem fo46_0 : fo Try.prog 46 0 = some 0 := by kernel_rfl
theorem ty44 : ty Try.prog 44 = some (false, 1) := by kernel_rfl
theorem ty29 : ty Try.prog 29 = some (true, 8) := by kernel_rfl
theorem hbd92 : hasBody Try.prog 92 = true := by kernel_rfl
theorem zf81 : (Try.prog.info? 81).bind (fun i => i.zero.map Value.cells) = some (List.toArray [.int .i64 0, .int .i64 0, .slice none 0 0]) := by kernel_rfl
theorem ty81 : ty Try.prog 81 = some (true, 3) := by kernel_rfl
theorem zv4 : (Try.prog.info? 4).bind (fun i => i.zero) = some (.bool false) := by kernel_rfl
theorem fo46_1 : fo Try.prog 46 1 = some 1 := by kernel_rfl
theorem ty3 : ty Try.prog 3 = some (false, 1) := by kernel_rfl
theorem fo75_9 : fo Try.prog 75 9 = some 10 := by kernel_rfl
theorem ty73 : ty Try.prog 73 = some (false, 1) := by kernel_rfl
theorem hbd93 : hasBody Try.prog 93 = true := by kernel_rfl
theorem zf54 : (Try.prog.info? 54).bind (fun i => i.zero.map Value.cells) = some (List.toArray [.bool false, .int .i64 0]) := by kernel_rfl
theorem ty54 : ty Try.prog 54 = some (true, 2) := by kernel_rfl
theorem fo75_3 : fo Try.prog 75 3 = some 3 := by kernel_rfl
theorem ty65 : ty Try.prog 65 = some (false, 1) := by kernel_rfl
theorem hbd95 : hasBody Try.prog 95 = true := by kernel_rfl
theorem hbd94 : hasBody Try.prog 94 = true := by kernel_rfl
theorem mo : Try.prog.follows .mixedOrders = true := by kernel_rfl
theorem fo75_8 : fo Try.prog 75 8 = some 9 := by kernel_rfl
theorem fo29_0 : fo Try.prog 29 0 = some 0 := by kernel_rfl
theorem hbd105 : hasBody Try.prog 105 = true := by kernel_rfl
theorem fo29_4 : fo Try.prog 29 4 = some 6 := by kernel_rfl
theorem ty26 : ty Try.prog 26 = some (false, 1) := by kernel_rfl
theorem ty83 : ty Try.prog 83 = some (true, 7) := by kernel_rfl
theorem fo83_1 : fo Try.prog 83 1 = some 3 := by kernel_rfl
theorem ty22 : ty Try.prog 22 = some (false, 1) := by kernel_rfl
theorem hbd106 : hasBody Try.prog 106 = true := by kernel_rfl
theorem hbd107 : hasBody Try.prog 107 = true := by kernel_rfl
theorem fo83_2 : fo Try.prog 83 2 = some 4 := by kernel_rfl
theorem hbd102 : hasBody Try.prog 102 = true := by kernel_rfl
theorem ai22 : (Try.prog.info? 22).map (fun i => (i.zero, i.size, i.bytes)) = some (some (.slice none 0 0), 1, 24) := by kernel_rfl
theorem fo29_5 : fo Try.prog 29 5 = some 7 := by kernel_rfl
theorem ty27 : ty Try.prog 27 = some (false, 1) := by kernel_rfl
theorem ty86 : ty Try.prog 86 = some (true, 9) := by kernel_rfl
theorem fo86_2 : fo Try.prog 86 2 = some 6 := by kernel_rfl
theorem eqIn46 (d : Nat) (x0 y0 : Int) (x1 y1 : Int) (w : World) : (Op.equalIn (d + 3) 46 (.agg #[(.int .i64 x0), (.int .i64 x1)]) (.agg #[(.int .i64 y0), (.int .i64 y1)])).run Try.prog w = .ok ((x0 == y0) && (x1 == y1)) w := by
 rw [run_equalIn_struct w (d + 2) 46 _ _ (by kernel_rfl) (by kernel_rfl)]
 have hf : (Try.prog.fieldsOf 46).toList = [{ name := "Kind", type := 44, offset := 0, embedded := false, tag := "", pkgPath := "", byteOffset := 0 }, { name := "Item", type := 3, offset := 1, embedded := false, tag := "", pkgPath := "", byteOffset := 8 }] := by kernel_rfl
 rw [hf]
 have h44 : ∀ (x y : Int) (w : World), (Op.equalIn (d + 2) 44 (.int .i64 x) (.int .i64 y)).run Try.prog w = .ok (x == y) w := fun x y w => by
  simp [Op.equalIn, run_underlying Try.underlying44]
 have h3 : ∀ (x y : Int) (w : World), (Op.equalIn (d + 2) 3 (.int .i64 x) (.int .i64 y)).run Try.prog w = .ok (x == y) w := fun x y w => by
  simp [Op.equalIn, run_underlying Try.underlying3]
 have p0 : ∀ (x0 : Int) (x1 : Int) (w : World), (part 44 #[(.int .i64 x0), (.int .i64 x1)] 0).run Try.prog w = .ok (.int .i64 x0) w := fun _ _ _ => by kernel_rfl
 have p1 : ∀ (x0 : Int) (x1 : Int) (w : World), (part 3 #[(.int .i64 x0), (.int .i64 x1)] 1).run Try.prog w = .ok (.int .i64 x1) w := fun _ _ _ => by kernel_rfl
 simp only [Op.eqFields, Sem.run_bind, h44, h3, p0, p1, Result.andThen_ok, Sem.run_ite, ne_eq]
 cases g0 : (x0 == y0) <;> cases g1 : (x1 == y1) <;> simp [g0, g1]
theorem ev46_neq (x y : Operand) (x0 y0 : Int) (x1 y1 : Int) (w : World) : (do eqGuard .neq 46 x y (.agg #[(.int .i64 x0), (.int .i64 x1)]) (.agg #[(.int .i64 y0), (.int .i64 y1)]); binOp .neq 46 (.agg #[(.int .i64 x0), (.int .i64 x1)]) (.agg #[(.int .i64 y0), (.int .i64 y1)]) : Sem Value).run Try.prog w = .ok (.bool (!((x0 == y0) && (x1 == y1)))) w := by
 have h1 : (Op.equal 46 (.agg #[(.int .i64 x0), (.int .i64 x1)]) (.agg #[(.int .i64 y0), (.int .i64 y1)])).run Try.prog w = .ok ((x0 == y0) && (x1 == y1)) w := eqIn46 9997 x0 y0 x1 y1 w
 have h2 : (eqGuard .neq 46 x y (.agg #[(.int .i64 x0), (.int .i64 x1)]) (.agg #[(.int .i64 y0), (.int .i64 y1)])).run Try.prog w = .ok () w := by kernel_rfl
 simp only [Sem.run_bind, h2, Result.andThen_ok, binOp, h1]
 rfl
end Go.Proofs.Ytdpmnodiebpjeaa.Sx.FC
namespace Go.Proofs.Ytdpmnodiebpjeaa.Sx
open Go Go.SX Go.Proofs FC
def keVis : KE Try.prog 46 Vis := KE.ofStruct visV visV_inj Try.underlying46 (fun x y w => by
  have h : (Op.equal 46 (visV x) (visV y)).run Try.prog w = .ok ((x.kind == y.kind) && (x.item == y.item)) w := eqIn46 9997 _ _ _ _ w
  rw [h]; congr 1; rw [Bool.eq_iff_iff]; simp only [Bool.and_eq_true, beq_iff_eq, decide_eq_true_eq]; exact ⟨fun e => vis_ext e.1 e.2, fun e => by rw [e]; exact ⟨rfl, rfl⟩⟩)
 (fun w b x => by kernel_rfl) visV_bits
theorem pairs_ (p : PB) (v : VH) (A : Option Addr) (c : Nat) (l : List Vis) (S : Nat → Prop) (wf : World) (hA : Fr eVis S wf A l) (hPB : PBF S wf p) (hVH : VHF S wf v) (hL : LawP p) (hll : l.length ≤ 60) :
  TR0 Try.prog 81 [.agg #[.int .i64 p.dims, .int .i64 p.tn, .slice p.ptA p.time.length p.ptc, .int .i64 p.dn, .slice p.pdA p.dist.length p.pdc, .slice p.pvA p.vehs.length p.pvc, .slice p.pjA p.jobs.length p.pjc, .slice p.psA p.ships.length p.psc], .agg #[.int .i64 v.st, .int .i64 v.en, .slice v.vcA v.vcap.length v.vcc, .int .u64 v.vsk, .int .i64 v.lo, .int .i64 v.hi, .int .i64 v.fix, .int .i64 v.pt, .int .i64 v.pd, .int .i64 v.mt, .slice v.vbA v.brs.length v.vbc], .slice A l.length c] [] S wf (fun v_ C_ => v_ = .int .i64 (errI (pairsR p l [] 0) 161) ∧ C_ = []) := by
 have hla := hA.len
 refine TR.mk Try.func81 rfl Try.ntmps81 rfl rfl (fun w_ => ?_)
 refine .seq (.region (.cons (st_boxa rfl rfl rfl rfl rfl (fun b1 => .cons (st_boxa rfl rfl rfl rfl rfl (fun b2 => .a rfl rfl rfl (.go idQ ?_)))))))
 refine .seq (.region (.cons (st_mkmap (α := Vis) (β := Bool) keVis.f (.bool) rfl rfl rfl rfl (fun b3 => .a rfl rfl rfl (.go idQ (.seq ?_))))))
 refine .region (.a rfl rfl rfl (.go idQ (.seq (.seq (.region ?_)))))
 refine .m rfl rfl rfl (.v (ev_len rfl Try.underlying41 rfl) rfl (.m rfl rfl rfl (.go idQ (.block ?_))))
 refine .loop (X := Int × (List (Vis × Bool)) × Int) (fun ⟨i, m, op⟩ => 0 ≤ i ∧ i ≤ (l.length : Int) ∧ pairsR p (l.drop i.toNat) m op = pairsR p l [] 0 ∧ (-i ≤ op ∧ op ≤ i)) (fun ⟨i, m, op⟩ => [(3, .pointer (some ⟨b1, 0, none⟩)), (7, .map (some b3)), (14, .slice A l.length c), (15, .int .i64 (l.length : Int)), (16, .int .i64 i), (8, .int .i64 op)]) (fun ⟨i, m, op⟩ => [mp keVis.f (.bool) b3 m, cel b2 [.int .i64 v.st, .int .i64 v.en, .slice v.vcA v.vcap.length v.vcc, .int .u64 v.vsk, .int .i64 v.lo, .int .i64 v.hi, .int .i64 v.fix, .int .i64 v.pt, .int .i64 v.pd, .int .i64 v.mt, .slice v.vbA v.brs.length v.vbc] 75, cel b1 [.int .i64 p.dims, .int .i64 p.tn, .slice p.ptA p.time.length p.ptc, .int .i64 p.dn, .slice p.pdA p.dist.length p.pdc, .slice p.pvA p.vehs.length p.pvc, .slice p.pjA p.jobs.length p.pjc, .slice p.psA p.ships.length p.psc] 29]) (fun _ => S) (fun _ => wf) (fun ⟨i, m, op⟩ => ((l.length : Int) - i).toNat) (fun a_ w_ hs_ hw_ => ⟨⟨0, ([] : List (Vis × Bool)), 0⟩, (by exact ⟨(by omega), (by omega), rfl, (by omega)⟩), hs_.mono (Sub.get (.c4 rfl rfl rfl rfl (.c rfl (.c rfl .n)))), hw_.keep (.c .h (.c .h (.c .h .n)))⟩) (fun ⟨i, m, op⟩ ⟨q_0, q_1, q_2, q_3⟩ => ?_)
 show SC _ _ _ _ _ ⟨[(3, .pointer (some ⟨b1, 0, none⟩)), (7, .map (some b3)), (14, .slice A l.length c), (15, .int .i64 (l.length : Int)), (16, .int .i64 i), (8, .int .i64 op)], [mp keVis.f (.bool) b3 m, cel b2 [.int .i64 v.st, .int .i64 v.en, .slice v.vcA v.vcap.length v.vcc, .int .u64 v.vsk, .int .i64 v.lo, .int .i64 v.hi, .int .i64 v.fix, .int .i64 v.pt, .int .i64 v.pd, .int .i64 v.mt, .slice v.vbA v.brs.length v.vbc] 75, cel b1 [.int .i64 p.dims, .int .i64 p.tn, .slice p.ptA p.time.length p.ptc, .int .i64 p.dn, .slice p.pdA p.dist.length p.pdc, .slice p.pvA p.vehs.length p.pvc, .slice p.pjA p.jobs.length p.pjc, .slice p.psA p.ships.length p.psc] 29], S, wf⟩
 refine .seq (.region (.v (ev_cmp rfl rfl rfl rfl) rfl (.go idQ (.seq (.condI rfl bD (fun h4 => ?_) (fun h4 => ?_))))))
 ·
  refine .skipgo idQ (.seq (.block (.seq (.region (.v (ev_ix rfl Try.underlying41 ty46 rfl rfl (by omega) (by omega) (fun _ _ => Fr.adr (i := i) hA (by omega) (by omega))) rfl ?_)))))
  refine .v (ev_lda rfl rfl (At.w (Fr.el (i := i) hA (by omega) (by omega))) ty46) rfl (.cons (st_alloc rfl rfl rfl rfl zf46 (fun b5 => .cons (st_storea (l' := [.int .i64 ((gt l i).kind), .int .i64 ((gt l i).item)]) rfl rfl rfl ty46 rfl rfl rfl .h rfl rfl (.go idQ (.seq (.seq ?_)))))))
  refine .region (.v (ev_fa rfl fo46_0 rfl (r := 0) rfl) rfl (.v (ev_ld1 rfl ty44 rfl (At.own1 0 rfl rfl)) rfl (.v (ev_cmp rfl rfl rfl rfl) rfl (.go idQ (.condI rfl bE (fun h6 => ?_) (fun h6 => ?_))))))
  ·
   exact .exit idQ (.region (.v (ev_add rfl rfl rfl (r := (i + 1)) rfl (by omega) (by omega)) rfl (.m rfl rfl rfl (SP.nil (SQ.roundb (X := Int × (List (Vis × Bool)) × Int) (x := (i, m, op)) ⟨(i + 1), m, op⟩ (by exact ⟨(by omega), (by omega), (by have hq := q_2; rw [drop_gt (x := i) (by omega) (by omega), pairsR_cons] at hq; (repeat' split at hq) <;> first | exact hq | contradiction | (exfalso; omega)), (by omega)⟩) (by dsimp only; omega) (Sub.get (.c4 rfl rfl rfl rfl (.c rfl (.c rfl .n)))) (fun w hw => hw.keep (.c (.t .h) (.c (.t .h) (.c (.t .h) .n)))))))))
  refine .skipgo idQ (.seq (.seq (.region (.v (ev_lda rfl rfl (At.whole 3 rfl) ty29) rfl (.v (ev_lda rfl rfl (At.whole 0 rfl) ty46) rfl ?_)))))
  refine .cons (st_call0 rfl rfl rfl rfl hbd92 rfl .n (stop_ p (gt l i) _ _ hPB (stop_ws hL)) (fun v_q8 C_q8 q8 => ?_))
  obtain ⟨u7, rfl, rfl⟩ := q8
  show SP _ _ _ _ _ _ ⟨_, _ :: _, _, _⟩
  refine .know (row_len 0 rfl) (fun hv11 => ?_)
  obtain ⟨A9, c10, rfl, hv11_1, hv11_2⟩ := hv11
  unfold maxLen at hv11_2
  refine .m rfl rfl rfl (.v (ev_ext rfl rfl rfl) rfl (.v (ev_ext rfl rfl rfl) rfl (.cons (st_alloc rfl rfl rfl rfl zf81 (fun b12 => .cons (st_storea (l' := [.int .i64 ((stopD p (gt l i)).pl), .int .i64 ((stopD p (gt l i)).srv), .slice A9 (((stopD p (gt l i)).sws).length) c10]) rfl rfl rfl ty81 rfl rfl rfl .h rfl rfl (.a rfl rfl rfl ?_)))))))
  refine .go idQ (.seq (.region (.m rfl rfl rfl (.v (ev_not rfl rfl) rfl (.m rfl rfl rfl ?_)))))
  refine .w (fun _ => ev_mv rfl rfl) rfl (.w (fun _ => ev_lda rfl rfl (At.whole 2 rfl) ty46) rfl (.w (fun hb => ev_lkp keVis (m := m) (x := (gt l i)) (z := false) rfl Try.underlying40 zv4 (lkg rfl hb) (lkg rfl hb) 3 rfl) rfl (.v (ev_or rfl rfl rfl rfl) rfl (.m rfl rfl rfl (.w (fun _ => ev_fa rfl fo46_0 rfl (r := 0) rfl) rfl ?_)))))
  refine .w (fun hb => ev_ld1 rfl ty44 (lkg rfl hb) (At.own1 2 rfl rfl)) rfl (.w (fun hb => ev_cmp rfl (lkg rfl hb) rfl rfl) rfl (.w (fun hb => ev_mv rfl (lkg rfl hb)) rfl (.cons (Ev.ggstep (b1 := ((!(isStop p (gt l i))) || (mget m (gt l i) false))) (b := (((gt l i).kind) == 3)) cb_ft (fun hb1 _ => ev_mv rfl rfl) rfl rfl rfl rfl rfl (.cons (Ev.ggstep (b1 := ((!(isStop p (gt l i))) || (mget m (gt l i) false))) (b := (((gt l i).kind) == 3)) cb_ft (fun hb1 _ => ev_fa rfl fo46_1 rfl (r := 1) rfl) rfl rfl rfl rfl rfl (.cons (Ev.ggstep (b1 := ((!(isStop p (gt l i))) || (mget m (gt l i) false))) (b := (((gt l i).kind) == 3)) cb_ft (fun hb1 hb => ev_ld1 rfl ty3 (lkg rfl hb) (At.own1 2 rfl rfl)) rfl rfl rfl rfl rfl ?_))))))))
  refine .cons (Ev.ggstep (b1 := ((!(isStop p (gt l i))) || (mget m (gt l i) false))) (b := (((gt l i).kind) == 3)) cb_ft (fun hb1 hb => Ev.reslot (t := 43) (v := .int .i64 ((gt l i).item)) (lkg rfl hb) (ev_any (v := .agg #[.int .i64 2, .int .i64 ((gt l i).item)]) rfl (by kernel_rfl) (fun _ => by kernel_rfl))) rfl rfl rfl rfl rfl (.cons (Ev.ggstep (b1 := ((!(isStop p (gt l i))) || (mget m (gt l i) false))) (b := (((gt l i).kind) == 3)) cb_ft (fun hb1 hb => ev_lkp keVis (m := m) (x := (Vis.mk 2 ((gt l i).item))) (z := false) rfl Try.underlying40 zv4 (lkg rfl hb) (lkg rfl hb) 3 rfl) rfl rfl rfl rfl rfl (.cons (Ev.ggstep (b1 := ((!(isStop p (gt l i))) || (mget m (gt l i) false))) (b := (((gt l i).kind) == 3)) cb_ft (fun hb1 hb => ev_not rfl (lkg rfl hb)) rfl rfl rfl rfl rfl (.w (fun hb => ev_and rfl (lkg rfl hb) (lkgn rfl cb_ft hb) rfl) rfl (.v (ev_or rfl rfl rfl rfl) rfl (.go idQ ?_))))))))
  refine .condI rfl (bO (bO (bN bV) bV) (bA bE (bN bV))) (fun h13 => ?_) (fun h13 => ?_)
  ·
   exact .seq (.region (.a rfl rfl rfl (.go idQ (.ret idQ (ret1 Try.results81 rfl .n ⟨(congrArg (Value.int .i64) (errI_f (by have hq := q_2; rw [drop_gt (x := i) (by omega) (by omega), pairsR_cons] at hq; (repeat' split at hq) <;> first | exact hq.symm | contradiction | (exfalso; omega))).symm), rfl⟩)))))
  refine .skipgo idQ (.seq (.region (.m rfl rfl rfl (.v (ev_lda rfl rfl (At.whole 2 rfl) ty46) rfl (.cons (st_mapSet keVis (u := undef) (x := (gt l i)) (v := true) rfl rfl rfl Try.underlying40 rfl rfl rfl (.t (.t (.t .h))) ?_))))))
  refine .go idQ (.seq (.region (.v (ev_fa rfl fo46_0 rfl (r := 0) rfl) rfl (.v (ev_ld1 rfl ty44 rfl (At.own1 3 rfl rfl)) rfl (.go idQ ?_)))))
  refine .block (.seq (.region (.v (ev_cmp rfl rfl rfl rfl) rfl (.a rfl rfl rfl (.go idQ ?_)))))
  refine .condI rfl bE (fun h14 => ?_) (fun h14 => ?_)
  ·
   refine .region (.m rfl rfl rfl (.v (ev_add rfl rfl rfl (r := (op + 1)) rfl (by omega) (by omega)) rfl (.a rfl rfl rfl (.go idQ (.region ?_)))))
   exact .v (ev_add rfl rfl rfl (r := (i + 1)) rfl (by omega) (by omega)) rfl (.m rfl rfl rfl (SP.nil (SQ.roundb (X := Int × (List (Vis × Bool)) × Int) (x := (i, m, op)) ⟨(i + 1), (mset m (gt l i) true), (op + 1)⟩ (by exact ⟨(by omega), (by omega), (by have hq := q_2; rw [drop_gt (x := i) (by omega) (by omega), pairsR_cons] at hq; (repeat' split at hq) <;> first | exact hq | contradiction | (exfalso; omega)), (by omega)⟩) (by dsimp only; omega) (Sub.get (.c4 rfl rfl rfl rfl (.c rfl (.c rfl .n)))) (fun w hw => hw.keep (.c .h (.c (.t (.t (.t .h))) (.c (.t (.t (.t .h))) .n)))))))
  refine .seq (.region (.v (ev_cmp rfl rfl rfl rfl) rfl (.a rfl rfl rfl (.go idQ (.condI rfl bE (fun h15 => ?_) (fun h15 => ?_))))))
  ·
   refine .region (.m rfl rfl rfl (.v (ev_sub rfl rfl rfl (r := (op - 1)) rfl (by omega) (by omega)) rfl (.a rfl rfl rfl (.go idQ (.region ?_)))))
   exact .v (ev_add rfl rfl rfl (r := (i + 1)) rfl (by omega) (by omega)) rfl (.m rfl rfl rfl (SP.nil (SQ.roundb (X := Int × (List (Vis × Bool)) × Int) (x := (i, m, op)) ⟨(i + 1), (mset m (gt l i) true), (op - 1)⟩ (by exact ⟨(by omega), (by omega), (by have hq := q_2; rw [drop_gt (x := i) (by omega) (by omega), pairsR_cons] at hq; (repeat' split at hq) <;> first | exact hq | contradiction | (exfalso; omega)), (by omega)⟩) (by dsimp only; omega) (Sub.get (.c4 rfl rfl rfl rfl (.c rfl (.c rfl .n)))) (fun w hw => hw.keep (.c .h (.c (.t (.t (.t .h))) (.c (.t (.t (.t .h))) .n)))))))
  exact .skipgo idQ (.region (.v (ev_add rfl rfl rfl (r := (i + 1)) rfl (by omega) (by omega)) rfl (.m rfl rfl rfl (SP.nil (SQ.roundb (X := Int × (List (Vis × Bool)) × Int) (x := (i, m, op)) ⟨(i + 1), (mset m (gt l i) true), op⟩ (by exact ⟨(by omega), (by omega), (by have hq := q_2; rw [drop_gt (x := i) (by omega) (by omega), pairsR_cons] at hq; (repeat' split at hq) <;> first | exact hq | contradiction | (exfalso; omega)), (by omega)⟩) (by dsimp only; omega) (Sub.get (.c4 rfl rfl rfl rfl (.c rfl (.c rfl .n)))) (fun w hw => hw.keep (.c .h (.c (.t (.t (.t .h))) (.c (.t (.t (.t .h))) .n)))))))))
 refine .exit idQ (.seq (.seq (.region (.m rfl rfl rfl (.v (ev_cmp rfl rfl rfl rfl) rfl ?_)))))
 refine .go idQ (.condI rfl bNE (fun h16 => ?_) (fun h16 => ?_))
 ·
  exact .seq (.region (.a rfl rfl rfl (.go idQ (.ret idQ (ret1 Try.results81 rfl .n ⟨(congrArg (Value.int .i64) (errI_f (by have hq := q_2; rw [drop_end (by omega)] at hq; rw [← hq]; exact decide_eq_false (by omega))).symm), rfl⟩)))))
 exact .skipgo idQ (.seq (.region (.a rfl rfl rfl (.go idQ (.ret idQ (ret1 Try.results81 rfl .n ⟨(congrArg (Value.int .i64) (errI_t (by have hq := q_2; rw [drop_end (by omega)] at hq; rw [← hq]; exact decide_eq_true (by omega))).symm), rfl⟩))))))
theorem breaks_ (p : PB) (v : VH) (A : Option Addr) (c : Nat) (l : List Vis) (S : Nat → Prop) (wf : World) (hA : Fr eVis S wf A l) (hPB : PBF S wf p) (hVH : VHF S wf v) (hll : l.length ≤ 60) :
  TR0 Try.prog 82 [.agg #[.int .i64 p.dims, .int .i64 p.tn, .slice p.ptA p.time.length p.ptc, .int .i64 p.dn, .slice p.pdA p.dist.length p.pdc, .slice p.pvA p.vehs.length p.pvc, .slice p.pjA p.jobs.length p.pjc, .slice p.psA p.ships.length p.psc], .agg #[.int .i64 v.st, .int .i64 v.en, .slice v.vcA v.vcap.length v.vcc, .int .u64 v.vsk, .int .i64 v.lo, .int .i64 v.hi, .int .i64 v.fix, .int .i64 v.pt, .int .i64 v.pd, .int .i64 v.mt, .slice v.vbA v.brs.length v.vbc], .slice A l.length c] [] S wf (fun v_ C_ => v_ = .int .i64 (errI (breaksR v.brs.length l 0) 162) ∧ C_ = []) := by
 have hla := hA.len
 refine TR.mk Try.func82 rfl Try.ntmps82 rfl rfl (fun w_ => ?_)
 refine .seq (.region (.cons (st_boxa rfl rfl rfl rfl rfl (fun b1 => .cons (st_boxa rfl rfl rfl rfl rfl (fun b2 => .a rfl rfl rfl (.go idQ ?_)))))))
 refine .seq (.region (.a rfl rfl rfl (.go idQ (.seq (.seq ?_)))))
 refine .region (.m rfl rfl rfl (.v (ev_len rfl Try.underlying41 rfl) rfl (.m rfl rfl rfl (.go idQ (.block ?_)))))
 refine .loop (X := Int × Int) (fun ⟨i, n⟩ => 0 ≤ i ∧ i ≤ (l.length : Int) ∧ breaksR v.brs.length (l.drop i.toNat) n = breaksR v.brs.length l 0 ∧ (0 ≤ n ∧ n ≤ i)) (fun ⟨i, n⟩ => [(4, .pointer (some ⟨b2, 0, none⟩)), (10, .slice A l.length c), (11, .int .i64 (l.length : Int)), (12, .int .i64 i), (7, .int .i64 n)]) (fun ⟨i, n⟩ => [cel b2 [.int .i64 v.st, .int .i64 v.en, .slice v.vcA v.vcap.length v.vcc, .int .u64 v.vsk, .int .i64 v.lo, .int .i64 v.hi, .int .i64 v.fix, .int .i64 v.pt, .int .i64 v.pd, .int .i64 v.mt, .slice v.vbA v.brs.length v.vbc] 75, cel b1 [.int .i64 p.dims, .int .i64 p.tn, .slice p.ptA p.time.length p.ptc, .int .i64 p.dn, .slice p.pdA p.dist.length p.pdc, .slice p.pvA p.vehs.length p.pvc, .slice p.pjA p.jobs.length p.pjc, .slice p.psA p.ships.length p.psc] 29]) (fun _ => S) (fun _ => wf) (fun ⟨i, n⟩ => ((l.length : Int) - i).toNat) (fun a_ w_ hs_ hw_ => ⟨⟨0, 0⟩, (by exact ⟨(by omega), (by omega), rfl, (by omega)⟩), hs_.mono (Sub.get (.c4 rfl rfl rfl rfl (.c rfl .n))), hw_.keep (.c .h (.c .h .n))⟩) (fun ⟨i, n⟩ ⟨q_0, q_1, q_2, q_3⟩ => ?_)
 show SC _ _ _ _ _ ⟨[(4, .pointer (some ⟨b2, 0, none⟩)), (10, .slice A l.length c), (11, .int .i64 (l.length : Int)), (12, .int .i64 i), (7, .int .i64 n)], [cel b2 [.int .i64 v.st, .int .i64 v.en, .slice v.vcA v.vcap.length v.vcc, .int .u64 v.vsk, .int .i64 v.lo, .int .i64 v.hi, .int .i64 v.fix, .int .i64 v.pt, .int .i64 v.pd, .int .i64 v.mt, .slice v.vbA v.brs.length v.vbc] 75, cel b1 [.int .i64 p.dims, .int .i64 p.tn, .slice p.ptA p.time.length p.ptc, .int .i64 p.dn, .slice p.pdA p.dist.length p.pdc, .slice p.pvA p.vehs.length p.pvc, .slice p.pjA p.jobs.length p.pjc, .slice p.psA p.ships.length p.psc] 29], S, wf⟩
 refine .seq (.region (.v (ev_cmp rfl rfl rfl rfl) rfl (.go idQ (.seq (.condI rfl bD (fun h3 => ?_) (fun h3 => ?_))))))
 ·
  refine .skipgo idQ (.seq (.block (.seq (.region (.v (ev_ix rfl Try.underlying41 ty46 rfl rfl (by omega) (by omega) (fun _ _ => Fr.adr (i := i) hA (by omega) (by omega))) rfl ?_)))))
  refine .v (ev_lda rfl rfl (At.w (Fr.el (i := i) hA (by omega) (by omega))) ty46) rfl (.cons (st_alloc rfl rfl rfl rfl zf46 (fun b4 => .cons (st_storea (l' := [.int .i64 ((gt l i).kind), .int .i64 ((gt l i).item)]) rfl rfl rfl ty46 rfl rfl rfl .h rfl rfl (.go idQ (.seq (.region ?_)))))))
  refine .v (ev_fa rfl fo46_0 rfl (r := 0) rfl) rfl (.v (ev_ld1 rfl ty44 rfl (At.own1 0 rfl rfl)) rfl (.v (ev_cmp rfl rfl rfl rfl) rfl (.go idQ (.condI rfl bE (fun h5 => ?_) (fun h5 => ?_)))))
  ·
   refine .seq (.seq (.region (.v (ev_fa rfl fo46_1 rfl (r := 1) rfl) rfl (.v (ev_ld1 rfl ty3 rfl (At.own1 0 rfl rfl)) rfl (.m rfl rfl rfl ?_)))))
   refine .v (ev_cmp rfl rfl rfl rfl) rfl (.go idQ (.condI rfl bNE (fun h6 => ?_) (fun h6 => ?_)))
   ·
    exact .seq (.region (.a rfl rfl rfl (.go idQ (.ret idQ (ret1 Try.results82 rfl .n ⟨(congrArg (Value.int .i64) (errI_f (by have hq := q_2; rw [drop_gt (x := i) (by omega) (by omega), breaksR_cons] at hq; (repeat' split at hq) <;> first | exact hq.symm | contradiction | (exfalso; omega))).symm), rfl⟩)))))
   refine .skipgo idQ (.region (.m rfl rfl rfl (.v (ev_add rfl rfl rfl (r := (n + 1)) rfl (by omega) (by omega)) rfl (.a rfl rfl rfl (.go idQ ?_)))))
   exact .region (.v (ev_add rfl rfl rfl (r := (i + 1)) rfl (by omega) (by omega)) rfl (.m rfl rfl rfl (SP.nil (SQ.roundb (X := Int × Int) (x := (i, n)) ⟨(i + 1), (n + 1)⟩ (by exact ⟨(by omega), (by omega), (by have hq := q_2; rw [drop_gt (x := i) (by omega) (by omega), breaksR_cons] at hq; (repeat' split at hq) <;> first | exact hq | contradiction | (exfalso; omega)), (by omega)⟩) (by dsimp only; omega) (Sub.get (.c4 rfl rfl rfl rfl (.c rfl .n))) (fun w hw => hw.keep (.c (.t .h) (.c (.t .h) .n)))))))
  exact .skipgo idQ (.region (.v (ev_add rfl rfl rfl (r := (i + 1)) rfl (by omega) (by omega)) rfl (.m rfl rfl rfl (SP.nil (SQ.roundb (X := Int × Int) (x := (i, n)) ⟨(i + 1), n⟩ (by exact ⟨(by omega), (by omega), (by have hq := q_2; rw [drop_gt (x := i) (by omega) (by omega), breaksR_cons] at hq; (repeat' split at hq) <;> first | exact hq | contradiction | (exfalso; omega)), (by omega)⟩) (by dsimp only; omega) (Sub.get (.c4 rfl rfl rfl rfl (.c rfl .n))) (fun w hw => hw.keep (.c (.t .h) (.c (.t .h) .n))))))))
 refine .exit idQ (.seq (.seq (.region (.m rfl rfl rfl (.v (ev_fa rfl fo75_9 rfl (r := 10) rfl) rfl ?_)))))
 refine .v (ev_ld1 rfl ty73 rfl (At.own1 0 rfl rfl)) rfl (.v (ev_len rfl Try.underlying73 rfl) rfl (.v (ev_cmp rfl rfl rfl rfl) rfl (.go idQ (.condI rfl bNE (fun h7 => ?_) (fun h7 => ?_)))))
 ·
  exact .seq (.region (.a rfl rfl rfl (.go idQ (.ret idQ (ret1 Try.results82 rfl .n ⟨(congrArg (Value.int .i64) (errI_f (by have hq := q_2; rw [drop_end (by omega)] at hq; rw [← hq]; exact decide_eq_false (by omega))).symm), rfl⟩)))))
 exact .skipgo idQ (.seq (.region (.a rfl rfl rfl (.go idQ (.ret idQ (ret1 Try.results82 rfl .n ⟨(congrArg (Value.int .i64) (errI_t (by have hq := q_2; rw [drop_end (by omega)] at hq; rw [← hq]; exact decide_eq_true (by omega))).symm), rfl⟩))))))
theorem skills_ (p : PB) (v : VH) (A : Option Addr) (c : Nat) (l : List Vis) (S : Nat → Prop) (wf : World) (hA : Fr eVis S wf A l) (hPB : PBF S wf p) (hVH : VHF S wf v) (hll : l.length ≤ 60) :
  TR0 Try.prog 83 [.agg #[.int .i64 p.dims, .int .i64 p.tn, .slice p.ptA p.time.length p.ptc, .int .i64 p.dn, .slice p.pdA p.dist.length p.pdc, .slice p.pvA p.vehs.length p.pvc, .slice p.pjA p.jobs.length p.pjc, .slice p.psA p.ships.length p.psc], .agg #[.int .i64 v.st, .int .i64 v.en, .slice v.vcA v.vcap.length v.vcc, .int .u64 v.vsk, .int .i64 v.lo, .int .i64 v.hi, .int .i64 v.fix, .int .i64 v.pt, .int .i64 v.pd, .int .i64 v.mt, .slice v.vbA v.brs.length v.vbc], .slice A l.length c] [] S wf (fun v_ C_ => v_ = .int .i64 (errI (skillsR p v l) 163) ∧ C_ = []) := by
 have hla := hA.len
 refine TR.mk Try.func83 rfl Try.ntmps83 rfl rfl (fun w_ => ?_)
 refine .seq (.region (.cons (st_boxa rfl rfl rfl rfl rfl (fun b1 => .cons (st_boxa rfl rfl rfl rfl rfl (fun b2 => .a rfl rfl rfl (.go idQ ?_)))))))
 refine .seq (.seq (.region (.m rfl rfl rfl (.v (ev_len rfl Try.underlying41 rfl) rfl (.m rfl rfl rfl ?_)))))
 refine .go idQ (.block ?_)
 refine .loop (X := Int) (fun i => 0 ≤ i ∧ i ≤ (l.length : Int) ∧ skillsR p v (l.drop i.toNat) = skillsR p v l) (fun i => [(3, .pointer (some ⟨b1, 0, none⟩)), (4, .pointer (some ⟨b2, 0, none⟩)), (11, .slice A l.length c), (12, .int .i64 (l.length : Int)), (13, .int .i64 i)]) (fun i => [cel b2 [.int .i64 v.st, .int .i64 v.en, .slice v.vcA v.vcap.length v.vcc, .int .u64 v.vsk, .int .i64 v.lo, .int .i64 v.hi, .int .i64 v.fix, .int .i64 v.pt, .int .i64 v.pd, .int .i64 v.mt, .slice v.vbA v.brs.length v.vbc] 75, cel b1 [.int .i64 p.dims, .int .i64 p.tn, .slice p.ptA p.time.length p.ptc, .int .i64 p.dn, .slice p.pdA p.dist.length p.pdc, .slice p.pvA p.vehs.length p.pvc, .slice p.pjA p.jobs.length p.pjc, .slice p.psA p.ships.length p.psc] 29]) (fun _ => S) (fun _ => wf) (fun i => ((l.length : Int) - i).toNat) (fun a_ w_ hs_ hw_ => ⟨0, (by exact ⟨(by omega), (by omega), rfl⟩), hs_.mono (Sub.get (.c4 rfl rfl rfl rfl (.c rfl .n))), hw_.keep (.c .h (.c .h .n))⟩) (fun i ⟨q_0, q_1, q_2⟩ => ?_)
 try dsimp only
 refine .seq (.region (.v (ev_cmp rfl rfl rfl rfl) rfl (.go idQ (.seq (.condI rfl bD (fun h3 => ?_) (fun h3 => ?_))))))
 ·
  refine .skipgo idQ (.seq (.block (.seq (.region (.v (ev_ix rfl Try.underlying41 ty46 rfl rfl (by omega) (by omega) (fun _ _ => Fr.adr (i := i) hA (by omega) (by omega))) rfl ?_)))))
  refine .v (ev_lda rfl rfl (At.w (Fr.el (i := i) hA (by omega) (by omega))) ty46) rfl (.cons (st_alloc rfl rfl rfl rfl zf46 (fun b4 => .cons (st_storea (l' := [.int .i64 ((gt l i).kind), .int .i64 ((gt l i).item)]) rfl rfl rfl ty46 rfl rfl rfl .h rfl rfl (.go idQ (.seq (.region ?_)))))))
  refine .v (ev_lda rfl rfl (At.whole 0 rfl) ty46) rfl (.cons (st_callk rfl rfl rfl rfl hbd93 rfl .n (of_ (gt l i) _ _) (.m rfl rfl rfl (.v (ev_ext rfl rfl rfl) rfl (.v (ev_ext rfl rfl rfl) rfl (.cons (st_alloc rfl rfl rfl rfl zf54 (fun b5 => ?_))))))))
  refine .cons (st_storea (l' := [.bool ((taskV (gt l i)).ship), .int .i64 ((taskV (gt l i)).item)]) rfl rfl rfl ty54 rfl rfl rfl .h rfl rfl (.a rfl rfl rfl (.go idQ (.seq ?_))))
  refine SC.draw mo [] [] .n (fun _ _ _ => sc0) (fun wf_6 hl_6 hx_6 hR_6 => ?_)
  refine SR.m 0 rfl rfl rfl rfl (SR.m 1 rfl rfl rfl rfl (SR.y 2 rfl rfl (fun _ => ev_fa rfl fo75_3 rfl (r := 3) rfl) (SR.y 3 rfl rfl (fun hb => ev_ld1 rfl ty65 (lkg rfl hb) (At.d (At.lent hR_6 2 rfl rfl))) (SR.y 4 rfl rfl (fun _ => ev_lda (cs := [.int .i64 p.dims, .int .i64 p.tn, .slice p.ptA p.time.length p.ptc, .int .i64 p.dn, .slice p.pdA p.dist.length p.pdc, .slice p.pvA p.vehs.length p.pvc, .slice p.pjA p.jobs.length p.pjc, .slice p.psA p.ships.length p.psc]) rfl rfl (At.d (At.lent hR_6 3 rfl rfl)) ty29) (SR.y 5 rfl rfl (fun _ => ev_lda (cs := [.bool ((taskV (gt l i)).ship), .int .i64 ((taskV (gt l i)).item)]) rfl rfl (At.d (At.lent hR_6 0 rfl rfl)) ty54) ?_)))))
  refine SR.o 6 rfl (st_gcallk rfl rfl rfl rfl rfl rfl hbd95 (fun hb => (lkA1 (lkg rfl hb) (lkA1 (lkg rfl hb) lkA0))) .n (fun hb => have hp := bT bV hb; skil_ p (taskV (gt l i)) _ _ ((hPB).ext hx_6)) ⟨tt0, (SR.o 7 rfl (st_gcallk rfl rfl rfl rfl rfl rfl hbd94 (fun hb => (lkA1 (lkg rfl hb) (lkA1 (lkg rfl hb) lkA0))) .n (fun hb => have hp := bT bV hb; covers_ v.vsk (skilF p (taskV (gt l i))) _ _) ⟨tt0, (SR.y 8 rfl rfl (fun hb => ev_not rfl (lkg rfl hb)) (SR.z 9 rfl rfl (ev_and rfl rfl rfl rfl) (SR.fin (by kernel_rfl) hl_6 hx_6 hR_6 .n (SQ.go idQ ?_))))⟩))⟩)
  refine .condI rfl (bA bV (bN bE)) (fun h7 => ?_) (fun h7 => ?_)
  ·
   exact .seq (.region (.a rfl rfl rfl (.go idQ (.ret idQ (ret1 Try.results83 rfl .n ⟨(congrArg (Value.int .i64) (errI_f (by have hq := q_2; rw [drop_gt (x := i) (by omega) (by omega), skillsR_cons] at hq; (repeat' split at hq) <;> first | exact hq.symm | contradiction | (exfalso; omega))).symm), rfl⟩)))))
  exact .skipgo idQ (.region (.v (ev_add rfl rfl rfl (r := (i + 1)) rfl (by omega) (by omega)) rfl (.m rfl rfl rfl (SP.nil (SQ.roundb (X := Int) (x := (i)) (i + 1) (by exact ⟨(by omega), (by omega), (by have hq := q_2; rw [drop_gt (x := i) (by omega) (by omega), skillsR_cons] at hq; (repeat' split at hq) <;> first | exact hq | contradiction | (exfalso; omega))⟩) (by show (_ : Nat) < _; omega) (Sub.get (.c4 rfl rfl rfl rfl (.c rfl .n))) (fun w hw => hw.keep (.c (.t (.t .h)) (.c (.t (.t .h)) .n))))))))
 exact .exit idQ (.seq (.region (.a rfl rfl rfl (.go idQ (.ret idQ (ret1 Try.results83 rfl .n ⟨(congrArg (Value.int .i64) (errI_t (by have hq := q_2; rw [drop_end (by omega)] at hq; rw [← hq]; rfl)).symm), rfl⟩))))))
theorem tasks_ (p : PB) (v : VH) (A : Option Addr) (c : Nat) (l : List Vis) (S : Nat → Prop) (wf : World) (hA : Fr eVis S wf A l) (hPB : PBF S wf p) (hVH : VHF S wf v) (hll : l.length ≤ 60) :
  TR0 Try.prog 84 [.agg #[.int .i64 p.dims, .int .i64 p.tn, .slice p.ptA p.time.length p.ptc, .int .i64 p.dn, .slice p.pdA p.dist.length p.pdc, .slice p.pvA p.vehs.length p.pvc, .slice p.pjA p.jobs.length p.pjc, .slice p.psA p.ships.length p.psc], .agg #[.int .i64 v.st, .int .i64 v.en, .slice v.vcA v.vcap.length v.vcc, .int .u64 v.vsk, .int .i64 v.lo, .int .i64 v.hi, .int .i64 v.fix, .int .i64 v.pt, .int .i64 v.pd, .int .i64 v.mt, .slice v.vbA v.brs.length v.vbc], .slice A l.length c] [] S wf (fun v_ C_ => v_ = .int .i64 (if tasksR l 0 > v.mt then 164 else 0) ∧ C_ = []) := by
 have hla := hA.len
 refine TR.mk Try.func84 rfl Try.ntmps84 rfl rfl (fun w_ => ?_)
 refine .seq (.region (.cons (st_boxa rfl rfl rfl rfl rfl (fun b1 => .cons (st_boxa rfl rfl rfl rfl rfl (fun b2 => .a rfl rfl rfl (.go idQ ?_)))))))
 refine .seq (.region (.a rfl rfl rfl (.go idQ (.seq (.seq ?_)))))
 refine .region (.m rfl rfl rfl (.v (ev_len rfl Try.underlying41 rfl) rfl (.m rfl rfl rfl (.go idQ (.block ?_)))))
 refine .loop (X := Int × Int) (fun ⟨i, n⟩ => 0 ≤ i ∧ i ≤ (l.length : Int) ∧ tasksR (l.drop i.toNat) n = tasksR l 0 ∧ (0 ≤ n ∧ n ≤ i)) (fun ⟨i, n⟩ => [(4, .pointer (some ⟨b2, 0, none⟩)), (6, .int .i64 0), (10, .slice A l.length c), (11, .int .i64 (l.length : Int)), (12, .int .i64 i), (7, .int .i64 n)]) (fun ⟨i, n⟩ => [cel b2 [.int .i64 v.st, .int .i64 v.en, .slice v.vcA v.vcap.length v.vcc, .int .u64 v.vsk, .int .i64 v.lo, .int .i64 v.hi, .int .i64 v.fix, .int .i64 v.pt, .int .i64 v.pd, .int .i64 v.mt, .slice v.vbA v.brs.length v.vbc] 75, cel b1 [.int .i64 p.dims, .int .i64 p.tn, .slice p.ptA p.time.length p.ptc, .int .i64 p.dn, .slice p.pdA p.dist.length p.pdc, .slice p.pvA p.vehs.length p.pvc, .slice p.pjA p.jobs.length p.pjc, .slice p.psA p.ships.length p.psc] 29]) (fun _ => S) (fun _ => wf) (fun ⟨i, n⟩ => ((l.length : Int) - i).toNat) (fun a_ w_ hs_ hw_ => ⟨⟨0, 0⟩, (by exact ⟨(by omega), (by omega), rfl, (by omega)⟩), hs_.mono (Sub.get (.c4 rfl rfl rfl rfl (.c rfl (.c rfl .n)))), hw_.keep (.c .h (.c .h .n))⟩) (fun ⟨i, n⟩ ⟨q_0, q_1, q_2, q_3⟩ => ?_)
 show SC _ _ _ _ _ ⟨[(4, .pointer (some ⟨b2, 0, none⟩)), (6, .int .i64 0), (10, .slice A l.length c), (11, .int .i64 (l.length : Int)), (12, .int .i64 i), (7, .int .i64 n)], [cel b2 [.int .i64 v.st, .int .i64 v.en, .slice v.vcA v.vcap.length v.vcc, .int .u64 v.vsk, .int .i64 v.lo, .int .i64 v.hi, .int .i64 v.fix, .int .i64 v.pt, .int .i64 v.pd, .int .i64 v.mt, .slice v.vbA v.brs.length v.vbc] 75, cel b1 [.int .i64 p.dims, .int .i64 p.tn, .slice p.ptA p.time.length p.ptc, .int .i64 p.dn, .slice p.pdA p.dist.length p.pdc, .slice p.pvA p.vehs.length p.pvc, .slice p.pjA p.jobs.length p.pjc, .slice p.psA p.ships.length p.psc] 29], S, wf⟩
 refine .seq (.region (.v (ev_cmp rfl rfl rfl rfl) rfl (.go idQ (.seq (.condI rfl bD (fun h3 => ?_) (fun h3 => ?_))))))
 ·
  refine .skipgo idQ (.seq (.block (.seq (.region (.v (ev_ix rfl Try.underlying41 ty46 rfl rfl (by omega) (by omega) (fun _ _ => Fr.adr (i := i) hA (by omega) (by omega))) rfl ?_)))))
  refine .v (ev_lda rfl rfl (At.w (Fr.el (i := i) hA (by omega) (by omega))) ty46) rfl (.cons (st_alloc rfl rfl rfl rfl zf46 (fun b4 => .cons (st_storea (l' := [.int .i64 ((gt l i).kind), .int .i64 ((gt l i).item)]) rfl rfl rfl ty46 rfl rfl rfl .h rfl rfl (.go idQ (.seq (.region ?_)))))))
  refine .v (ev_fa rfl fo46_0 rfl (r := 0) rfl) rfl (.v (ev_ld1 rfl ty44 rfl (At.own1 0 rfl rfl)) rfl (.v (ev_cmp rfl rfl rfl rfl) rfl (.m rfl rfl rfl (.w (fun _ => ev_fa rfl fo46_0 rfl (r := 0) rfl) rfl (.w (fun hb => ev_ld1 rfl ty44 (lkg rfl hb) (At.own1 0 rfl rfl)) rfl ?_)))))
  refine .w (fun hb => ev_cmp rfl (lkg rfl hb) rfl rfl) rfl (.v (ev_or rfl rfl rfl rfl) rfl (.go idQ (.condI rfl (bO bE bE) (fun h5 => ?_) (fun h5 => ?_))))
  ·
   refine .region (.m rfl rfl rfl (.v (ev_add rfl rfl rfl (r := (n + 1)) rfl (by omega) (by omega)) rfl (.a rfl rfl rfl (.go idQ (.region ?_)))))
   exact .v (ev_add rfl rfl rfl (r := (i + 1)) rfl (by omega) (by omega)) rfl (.m rfl rfl rfl (SP.nil (SQ.roundb (X := Int × Int) (x := (i, n)) ⟨(i + 1), (n + 1)⟩ (by exact ⟨(by omega), (by omega), (by have hq := q_2; rw [drop_gt (x := i) (by omega) (by omega), tasksR_cons] at hq; (repeat' split at hq) <;> first | exact hq | contradiction | (exfalso; omega)), (by omega)⟩) (by dsimp only; omega) (Sub.get (.c4 rfl rfl rfl rfl (.c rfl (.c rfl .n)))) (fun w hw => hw.keep (.c (.t .h) (.c (.t .h) .n))))))
  exact .skipgo idQ (.region (.v (ev_add rfl rfl rfl (r := (i + 1)) rfl (by omega) (by omega)) rfl (.m rfl rfl rfl (SP.nil (SQ.roundb (X := Int × Int) (x := (i, n)) ⟨(i + 1), n⟩ (by exact ⟨(by omega), (by omega), (by have hq := q_2; rw [drop_gt (x := i) (by omega) (by omega), tasksR_cons] at hq; (repeat' split at hq) <;> first | exact hq | contradiction | (exfalso; omega)), (by omega)⟩) (by dsimp only; omega) (Sub.get (.c4 rfl rfl rfl rfl (.c rfl (.c rfl .n)))) (fun w hw => hw.keep (.c (.t .h) (.c (.t .h) .n))))))))
 refine .exit idQ (.seq (.seq (.region (.m rfl rfl rfl (.v (ev_fa rfl fo75_8 rfl (r := 9) rfl) rfl ?_)))))
 refine .v (ev_ld1 rfl ty3 rfl (At.own1 0 rfl rfl)) rfl (.v (ev_cmp rfl rfl rfl rfl) rfl (.go idQ (.condI rfl bD (fun h6 => ?_) (fun h6 => ?_))))
 ·
  exact .seq (.region (.a rfl rfl rfl (.go idQ (.ret idQ (ret1 Try.results84 rfl .n ⟨(congrArg (Value.int .i64) (by have hq := q_2; rw [drop_end (by omega)] at hq; rw [← hq]; exact (if_pos (show _ from by assumption)).symm)), rfl⟩)))))
 exact .skipgo idQ (.seq (.region (.a rfl rfl rfl (.go idQ (.ret idQ (ret1 Try.results84 rfl .n ⟨(congrArg (Value.int .i64) (by have hq := q_2; rw [drop_end (by omega)] at hq; rw [← hq]; exact (if_neg (show _ from by assumption)).symm)), rfl⟩))))))
theorem loads_ (p : PB) (A : Option Addr) (c : Nat) (l : List Vis) (S : Nat → Prop) (wf : World) (hA : Fr eVis S wf A l) (hPB : PBF S wf p) (hL : LawP p) (hll : l.length ≤ 60) :
  TR0 Try.prog 96 [.agg #[.int .i64 p.dims, .int .i64 p.tn, .slice p.ptA p.time.length p.ptc, .int .i64 p.dn, .slice p.pdA p.dist.length p.pdc, .slice p.pvA p.vehs.length p.pvc, .slice p.pjA p.jobs.length p.pjc, .slice p.psA p.ships.length p.psc], .slice A l.length c] [] S wf (fun v_ C_ => ∃ (u : Value) (Y : List IL), (Y.map IL.il = loadsF p l) ∧ v_ = u ∧ C_ = [rw_ eIL 22 (u) Y, nestIL 3 Y]) := by
 have hla := hA.len
 refine TR.mk Try.func96 rfl Try.ntmps96 rfl rfl (fun w_ => ?_)
 refine .seq (.region (.cons (st_boxa rfl rfl rfl rfl rfl (fun b1 => .a rfl rfl rfl (.go idQ (.seq ?_))))))
 refine .region (.v (ev_fa rfl fo29_0 rfl (r := 0) rfl) rfl (.v (ev_ld1 rfl ty3 rfl (At.own1 0 rfl rfl)) rfl (.cons (st_call0 rfl rfl rfl rfl hbd105 rfl .n (lzero_ p.dims _ _ hL.dims) (fun v_q3 C_q3 q3 => ?_)))))
 obtain ⟨u2, rfl, rfl⟩ := q3
 show SP _ _ _ _ _ _ ⟨_, _ :: _, _, _⟩
 refine .a rfl rfl rfl (.go idQ (.seq (.seq (.region (.m rfl rfl rfl ?_)))))
 refine .v (ev_len rfl Try.underlying41 rfl) rfl (.m rfl rfl rfl (.go idQ (.block ?_)))
 refine .loop (X := Int × (List Int) × Value) (fun ⟨i, X, u_X⟩ => 0 ≤ i ∧ i ≤ (l.length : Int) ∧ load0R p (l.drop i.toNat) X = load0 p l ∧ lOk p (1000000 * i) X) (fun ⟨i, X, u_X⟩ => [(1, .slice A l.length c), (2, .pointer (some ⟨b1, 0, none⟩)), (4, .slice none 0 0), (18, .slice A l.length c), (19, .int .i64 (l.length : Int)), (20, .int .i64 i), (5, u_X)]) (fun ⟨i, X, u_X⟩ => [rw_ eZ 3 (u_X) X, cel b1 [.int .i64 p.dims, .int .i64 p.tn, .slice p.ptA p.time.length p.ptc, .int .i64 p.dn, .slice p.pdA p.dist.length p.pdc, .slice p.pvA p.vehs.length p.pvc, .slice p.pjA p.jobs.length p.pjc, .slice p.psA p.ships.length p.psc] 29]) (fun _ => S) (fun _ => wf) (fun ⟨i, X, u_X⟩ => ((l.length : Int) - i).toNat) (fun a_ w_ hs_ hw_ => ⟨⟨0, (List.replicate (p.dims).toNat 0), v_q3⟩, (by exact ⟨(by omega), (by omega), rfl, (by refine ⟨by have := hL.dims; rw [List.length_replicate]; omega, bdd_mono (bdd_zero _) (by omega)⟩)⟩), hs_.mono (Sub.get (.c4 rfl rfl rfl rfl (.c rfl (.c rfl (.c rfl .n))))), hw_.keep (.c .h (.c .h .n))⟩) (fun ⟨i, X, u_X⟩ ⟨q_0, q_1, q_2, q_3⟩ => ?_)
 show SC _ _ _ _ _ ⟨[(1, .slice A l.length c), (2, .pointer (some ⟨b1, 0, none⟩)), (4, .slice none 0 0), (18, .slice A l.length c), (19, .int .i64 (l.length : Int)), (20, .int .i64 i), (5, u_X)], [rw_ eZ 3 (u_X) X, cel b1 [.int .i64 p.dims, .int .i64 p.tn, .slice p.ptA p.time.length p.ptc, .int .i64 p.dn, .slice p.pdA p.dist.length p.pdc, .slice p.pvA p.vehs.length p.pvc, .slice p.pjA p.jobs.length p.pjc, .slice p.psA p.ships.length p.psc] 29], S, wf⟩
 have hXl := q_3.1
 have hdm := hL.dims
 refine .seq (.region (.v (ev_cmp rfl rfl rfl rfl) rfl (.go idQ (.seq (.condI rfl bD (fun h4 => ?_) (fun h4 => ?_))))))
 ·
  refine .skipgo idQ (.seq (.block (.seq (.region (.v (ev_ix rfl Try.underlying41 ty46 rfl rfl (by omega) (by omega) (fun _ _ => Fr.adr (i := i) hA (by omega) (by omega))) rfl ?_)))))
  refine .v (ev_lda rfl rfl (At.w (Fr.el (i := i) hA (by omega) (by omega))) ty46) rfl (.cons (st_alloc rfl rfl rfl rfl zf46 (fun b5 => .cons (st_storea (l' := [.int .i64 ((gt l i).kind), .int .i64 ((gt l i).item)]) rfl rfl rfl ty46 rfl rfl rfl .h rfl rfl (.go idQ (.seq (.region ?_)))))))
  refine .v (ev_lda rfl rfl (At.whole 2 rfl) ty29) rfl (.v (ev_lda rfl rfl (At.whole 0 rfl) ty46) rfl (.cons (st_call0 rfl rfl rfl rfl hbd92 rfl .n (stop_ p (gt l i) _ _ hPB (stop_ws hL)) (fun v_q7 C_q7 q7 => ?_))))
  obtain ⟨u6, rfl, rfl⟩ := q7
  show SP _ _ _ _ _ _ ⟨_, _ :: _, _, _⟩
  refine .know (row_len 0 rfl) (fun hv10 => ?_)
  obtain ⟨A8, c9, rfl, hv10_1, hv10_2⟩ := hv10
  unfold maxLen at hv10_2
  refine .m rfl rfl rfl (.v (ev_ext rfl rfl rfl) rfl (.v (ev_ext rfl rfl rfl) rfl (.cons (st_alloc rfl rfl rfl rfl zf81 (fun b11 => .cons (st_storea (l' := [.int .i64 ((stopD p (gt l i)).pl), .int .i64 ((stopD p (gt l i)).srv), .slice A8 (((stopD p (gt l i)).sws).length) c9]) rfl rfl rfl ty81 rfl rfl rfl .h rfl rfl (.a rfl rfl rfl ?_)))))))
  refine .go idQ (.seq (.region (.m rfl rfl rfl (.m rfl rfl rfl (.w (fun _ => ev_fa rfl fo46_0 rfl (r := 0) rfl) rfl ?_)))))
  refine .w (fun hb => ev_ld1 rfl ty44 (lkg rfl hb) (At.own1 2 rfl rfl)) rfl (.w (fun hb => ev_cmp rfl (lkg rfl hb) rfl rfl) rfl (.v (ev_and rfl rfl rfl rfl) rfl (.go idQ (.condI rfl (bA bV bE) (fun h12 => ?_) (fun h12 => ?_)))))
  ·
   have hin := is_i1 (by exact (by assumption : _ ∧ _).1) (by exact (by assumption : _ ∧ _).2)
   have hjb := hL.job _ hin.1 hin.2
   refine .region (.m rfl rfl rfl (.v (ev_fa rfl fo29_4 rfl (r := 6) rfl) rfl (.v (ev_ld1 rfl ty26 rfl (At.own1 4 rfl rfl)) rfl (.v (ev_fa rfl fo46_1 rfl (r := 1) rfl) rfl (.v (ev_ld1 rfl ty3 rfl (At.own1 2 rfl rfl)) rfl ?_)))))
   refine .v (ev_ix rfl Try.underlying26 ty83 rfl rfl (by omega) (by omega) (fun _ _ => Fr.adr (i := (gt l i).item) hPB.2.2.2.1.1 (by omega) (by omega))) rfl (.v (ev_fa rfl fo83_1 rfl (r := ao p.pjA + ((gt l i).item).toNat * 7 + 3) rfl) rfl (.v (ev_ld1 rfl ty22 rfl (At.elem1 (At.w (Fr.el (i := (gt l i).item) hPB.2.2.2.1.1 (by omega) (by omega))) 3 rfl)) rfl ?_))
   refine .know (row_len 3 rfl) (fun hv15 => ?_)
   obtain ⟨A13, c14, rfl, hv15_1, hv15_2⟩ := hv15
   unfold maxLen at hv15_2
   refine .cons (st_lend0 rfl rfl rfl rfl hbd106 rfl .n (.c (.t (.t (.t .h))) .n) (fun w_ hw => laddL A13 c14 X ((gt p.jobs ((gt l i).item)).jdA) ((gt p.jobs ((gt l i).item)).jdc) ((gt p.jobs ((gt l i).item)).drop) _ _ (Fr.lend hw 0 rfl (by first | ((try simp only [List.length_nil, List.length_cons, List.length_append, List.length_set, List.length_singleton, List.length_take, List.length_drop, List.length_reverse, addL_len, subL_len]) <;> omega) | omega)) (Fr.ext (hPB.2.2.2.1.2 ((gt l i).item)).1 hw.lendx) (by have h_ := q_3.1; have := hjb.drop.1; first | omega | (have := hjb.pick.1; rw [subL_len]; omega)) (by have h_ := q_3.1; have hd_ := hL.dims; first | omega | (rw [subL_len]; omega)) (by first | exact bdd_mono q_3.2 (by omega) | exact bdd_mono (lOk_sub q_3 hjb.drop (Int.le_refl _)).2 (by omega)) (by first | exact rng_bdd hjb.drop.2 (by omega) (by omega) | exact rng_bdd hjb.pick.2 (by omega) (by omega) | exact rng_bdd hjb.am.2 (by omega) (by omega))) (fun v_q17 C_q17 q17 => ?_))
   obtain ⟨u16, rfl, rfl⟩ := q17
   show SP _ _ _ _ _ _ ⟨_, _ :: _ :: _, _, _⟩
   refine .m rfl rfl rfl (.v (ev_ext rfl rfl rfl) rfl (.v (ev_ext rfl rfl rfl) rfl (.a rfl rfl rfl (.go idQ (.region ?_)))))
   exact .v (ev_add rfl rfl rfl (r := (i + 1)) rfl (by omega) (by omega)) rfl (.m rfl rfl rfl (SP.nil (SQ.roundb (X := Int × (List Int) × Value) (x := (i, X, (.slice A13 X.length c14))) ⟨(i + 1), (addL X ((gt p.jobs ((gt l i).item)).drop)), u16⟩ (by exact ⟨(by omega), (by omega), (by have hq := q_2; rw [drop_gt (x := i) (by omega) (by omega), load0R_cons] at hq; (repeat' split at hq) <;> first | exact hq | contradiction | (exfalso; omega)), (by first | exact lOk_mono q_3 (by omega) | exact lOk_add q_3 hjb.drop (by omega))⟩) (by dsimp only; omega) (Sub.get (.c4 rfl rfl rfl rfl (.c rfl (.c rfl (.c rfl .n))))) (fun w hw => hw.keep (.c .h (.c (.t (.t (.t (.t .h)))) .n))))))
  exact .skipgo idQ (.region (.v (ev_add rfl rfl rfl (r := (i + 1)) rfl (by omega) (by omega)) rfl (.m rfl rfl rfl (SP.nil (SQ.roundb (X := Int × (List Int) × Value) (x := (i, X, u_X)) ⟨(i + 1), X, u_X⟩ (by exact ⟨(by omega), (by omega), (by have hq := q_2; rw [drop_gt (x := i) (by omega) (by omega), load0R_cons] at hq; (repeat' split at hq) <;> first | exact hq | contradiction | (exfalso; omega)), (by first | exact lOk_mono q_3 (by omega) | exact lOk_add q_3 hjb.drop (by omega))⟩) (by dsimp only; omega) (Sub.get (.c4 rfl rfl rfl rfl (.c rfl (.c rfl (.c rfl .n))))) (fun w hw => hw.keep (.c (.t (.t (.t .h))) (.c (.t (.t (.t .h))) .n))))))))
 refine .exit idQ (.seq (.region (.m rfl rfl rfl ?_)))
 refine .know (row_len 0 rfl) (fun hv20 => ?_)
 obtain ⟨A18, c19, rfl, hv20_1, hv20_2⟩ := hv20
 unfold maxLen at hv20_2
 refine .cons (st_lit eIL (e := 22) (l := [(IL.mk X A18 c19)]) rfl rfl rfl rfl (by kernel_rfl) rfl rfl (fun w => by kernel_rfl) (fun b21 => .a rfl rfl rfl (.go idQ (.seq (.seq ?_)))))
 refine SC.inow0 (IL.mk X A18 c19) (.c (.t .h) .n) (by first | ((try simp only [List.length_nil, List.length_cons, List.length_append, List.length_set, List.length_singleton, List.length_take, List.length_drop, List.length_reverse, addL_len, subL_len]) <;> omega) | omega) ?_
 refine .region (.m rfl rfl rfl (.v (ev_len rfl Try.underlying41 rfl) rfl (.m rfl rfl rfl (.go idQ (.block ?_)))))
 refine .loop (X := Int × Bool × IL × (List IL) × Value) (fun ⟨j, own, x, Y, u_Y⟩ => 0 ≤ j ∧ j ≤ (l.length : Int) ∧ Y.map IL.il ++ loadsR p (l.drop j.toNat) x.il = loadsF p l ∧ lOk p (100000000 + 2000000 * j) x.il ∧ (Y.length : Int) ≤ j + 1) (fun ⟨j, own, x, Y, u_Y⟩ => [(1, .slice A l.length c), (2, .pointer (some ⟨b1, 0, none⟩)), (4, .slice none 0 0), (18, .slice A l.length c), (19, .int .i64 (l.length : Int)), (20, .int .i64 i), (51, .slice A l.length c), (52, .int .i64 (l.length : Int)), (53, .int .i64 j), (5, .slice x.ilA x.il.length x.ilc), (10, u_Y)]) (fun ⟨j, own, x, Y, u_Y⟩ => [inow 3 own x Y, rw_ eIL 22 (u_Y) Y, cel b1 [.int .i64 p.dims, .int .i64 p.tn, .slice p.ptA p.time.length p.ptc, .int .i64 p.dn, .slice p.pdA p.dist.length p.pdc, .slice p.pvA p.vehs.length p.pvc, .slice p.pjA p.jobs.length p.pjc, .slice p.psA p.ships.length p.psc] 29]) (fun _ => S) (fun _ => wf) (fun ⟨j, own, x, Y, u_Y⟩ => ((l.length : Int) - j).toNat) (fun a_ w_ hs_ hw_ => ⟨⟨0, false, (IL.mk X A18 c19), [(IL.mk X A18 c19)], .slice (some ⟨b21, 0, none⟩) 1 1⟩, (by exact ⟨(by omega), (by omega), (by rw [show (0 : Int).toNat = 0 from rfl, List.drop_zero]; have hz := q_2; rw [drop_end (by omega)] at hz; have hz : X = load0 p l := hz; rw [hz]; rfl), (by refine lOk_mono q_3 (by omega)), (by simp only [List.length_singleton]; omega)⟩), hs_.mono (Sub.get (.c4 rfl rfl rfl rfl (.c4 rfl rfl rfl rfl (.c rfl (.c rfl (.c rfl .n)))))), hw_.keep (.c .h (.c .h (.c .h .n)))⟩) (fun ⟨j, own, x, Y, u_Y⟩ ⟨r_0, r_1, r_2, r_3, r_4⟩ => ?_)
 show SC _ _ _ _ _ ⟨[(1, .slice A l.length c), (2, .pointer (some ⟨b1, 0, none⟩)), (4, .slice none 0 0), (18, .slice A l.length c), (19, .int .i64 (l.length : Int)), (20, .int .i64 i), (51, .slice A l.length c), (52, .int .i64 (l.length : Int)), (53, .int .i64 j), (5, .slice x.ilA x.il.length x.ilc), (10, u_Y)], [inow 3 own x Y, rw_ eIL 22 (u_Y) Y, cel b1 [.int .i64 p.dims, .int .i64 p.tn, .slice p.ptA p.time.length p.ptc, .int .i64 p.dn, .slice p.pdA p.dist.length p.pdc, .slice p.pvA p.vehs.length p.pvc, .slice p.pjA p.jobs.length p.pjc, .slice p.psA p.ships.length p.psc] 29], S, wf⟩
 have hXl := r_3.1
 have hdm := hL.dims
 refine .seq (.region (.v (ev_cmp rfl rfl rfl rfl) rfl (.go idQ (.seq (.condI rfl bD (fun h22 => ?_) (fun h22 => ?_))))))
 ·
  refine .skipgo idQ (.seq (.block (.seq (.region (.v (ev_ix rfl Try.underlying41 ty46 rfl rfl (by omega) (by omega) (fun _ _ => Fr.adr (i := j) hA (by omega) (by omega))) rfl ?_)))))
  refine .v (ev_lda rfl rfl (At.w (Fr.el (i := j) hA (by omega) (by omega))) ty46) rfl (.cons (st_alloc rfl rfl rfl rfl zf46 (fun b23 => .cons (st_storea (l' := [.int .i64 ((gt l j).kind), .int .i64 ((gt l j).item)]) rfl rfl rfl ty46 rfl rfl rfl .h rfl rfl (.go idQ (.seq (.seq ?_)))))))
  refine .region (.v (ev_lda rfl rfl (At.whole 3 rfl) ty29) rfl (.v (ev_lda rfl rfl (At.whole 0 rfl) ty46) rfl (.cons (st_call0 rfl rfl rfl rfl hbd92 rfl .n (stop_ p (gt l j) _ _ hPB (stop_ws hL)) (fun v_q25 C_q25 q25 => ?_)))))
  obtain ⟨u24, rfl, rfl⟩ := q25
  show SP _ _ _ _ _ _ ⟨_, _ :: _, _, _⟩
  refine .know (row_len 0 rfl) (fun hv28 => ?_)
  obtain ⟨A26, c27, rfl, hv28_1, hv28_2⟩ := hv28
  unfold maxLen at hv28_2
  refine .m rfl rfl rfl (.v (ev_ext rfl rfl rfl) rfl (.v (ev_ext rfl rfl rfl) rfl (.cons (st_alloc rfl rfl rfl rfl zf81 (fun b29 => .cons (st_storea (l' := [.int .i64 ((stopD p (gt l j)).pl), .int .i64 ((stopD p (gt l j)).srv), .slice A26 (((stopD p (gt l j)).sws).length) c27]) rfl rfl rfl ty81 rfl rfl rfl .h rfl rfl (.a rfl rfl rfl ?_)))))))
  refine .go idQ (.seq (.region (.m rfl rfl rfl (.go idQ (.condI rfl bV (fun h30 => ?_) (fun h30 => ?_))))))
  ·
   refine .seq (.region (.v (ev_fa rfl fo46_0 rfl (r := 0) rfl) rfl (.v (ev_ld1 rfl ty44 rfl (At.own1 2 rfl rfl)) rfl (.go idQ (.block ?_)))))
   refine .seq (.region (.v (ev_cmp rfl rfl rfl rfl) rfl (.a rfl rfl rfl (.go idQ (.condI rfl bE (fun h31 => ?_) (fun h31 => ?_))))))
   ·
    refine .seq ?_
    have hin := is_i1 (by assumption) (by assumption)
    have hjb := hL.job _ hin.1 hin.2
    refine .region (.m rfl rfl rfl (.v (ev_fa rfl fo29_4 rfl (r := 6) rfl) rfl (.v (ev_ld1 rfl ty26 rfl (At.own1 5 rfl rfl)) rfl (.v (ev_fa rfl fo46_1 rfl (r := 1) rfl) rfl (.v (ev_ld1 rfl ty3 rfl (At.own1 2 rfl rfl)) rfl ?_)))))
    refine .v (ev_ix rfl Try.underlying26 ty83 rfl rfl (by omega) (by omega) (fun _ _ => Fr.adr (i := (gt l j).item) hPB.2.2.2.1.1 (by omega) (by omega))) rfl (.v (ev_fa rfl fo83_1 rfl (r := ao p.pjA + ((gt l j).item).toNat * 7 + 3) rfl) rfl (.v (ev_ld1 rfl ty22 rfl (At.elem1 (At.w (Fr.el (i := (gt l j).item) hPB.2.2.2.1.1 (by omega) (by omega))) 3 rfl)) rfl (.cons (st_lend0 rfl rfl rfl rfl hbd107 rfl .n (.c (.t (.t (.t .h))) .n) (fun w_ hw => lsubL x.ilA x.ilc x.il ((gt p.jobs ((gt l j).item)).jdA) ((gt p.jobs ((gt l j).item)).jdc) ((gt p.jobs ((gt l j).item)).drop) _ _ ((INF.lend hw 0 rfl).1) (Fr.ext (hPB.2.2.2.1.2 ((gt l j).item)).1 hw.lendx) (by have h_ := r_3.1; have := hjb.drop.1; first | omega | (have := hjb.pick.1; rw [subL_len]; omega)) (by have h_ := r_3.1; have hd_ := hL.dims; first | omega | (rw [subL_len]; omega)) (by first | exact bdd_mono r_3.2 (by omega) | exact bdd_mono (lOk_sub r_3 hjb.drop (Int.le_refl _)).2 (by omega)) (by first | exact rng_bdd hjb.drop.2 (by omega) (by omega) | exact rng_bdd hjb.pick.2 (by omega) (by omega) | exact rng_bdd hjb.am.2 (by omega) (by omega))) (fun v_q33 C_q33 q33 => ?_)))))
    obtain ⟨u32, rfl, rfl⟩ := q33
    show SP _ _ _ _ _ _ ⟨_, _ :: _ :: _, _, _⟩
    refine .m rfl rfl rfl (.v (ev_ext rfl rfl rfl) rfl (.v (ev_ext rfl rfl rfl) rfl (.a rfl rfl rfl (.go idQ (.region ?_)))))
    refine .m rfl rfl rfl (.v (ev_fa rfl fo29_4 rfl (r := 6) rfl) rfl (.v (ev_ld1 rfl ty26 rfl (At.own1 6 rfl rfl)) rfl (.v (ev_fa rfl fo46_1 rfl (r := 1) rfl) rfl (.v (ev_ld1 rfl ty3 rfl (At.own1 4 rfl rfl)) rfl (.v (ev_ix rfl Try.underlying26 ty83 rfl rfl (by omega) (by omega) (fun _ _ => Fr.adr (i := (gt l j).item) hPB.2.2.2.1.1 (by omega) (by omega))) rfl ?_)))))
    refine .v (ev_fa rfl fo83_2 rfl (r := ao p.pjA + ((gt l j).item).toNat * 7 + 4) rfl) rfl (.v (ev_ld1 rfl ty22 rfl (At.elem1 (At.w (Fr.el (i := (gt l j).item) hPB.2.2.2.1.1 (by omega) (by omega))) 4 rfl)) rfl ?_)
    refine .know (row_len 0 rfl) (fun hv36 => ?_)
    obtain ⟨A34, c35, rfl, hv36_1, hv36_2⟩ := hv36
    unfold maxLen at hv36_2
    refine .cons (st_lend0 rfl rfl rfl rfl hbd106 rfl .n (.c .h .n) (fun w_ hw => laddL A34 c35 (subL x.il ((gt p.jobs ((gt l j).item)).drop)) ((gt p.jobs ((gt l j).item)).jkA) ((gt p.jobs ((gt l j).item)).jkc) ((gt p.jobs ((gt l j).item)).pick) _ _ (Fr.lend hw 0 rfl (by first | ((try simp only [List.length_nil, List.length_cons, List.length_append, List.length_set, List.length_singleton, List.length_take, List.length_drop, List.length_reverse, addL_len, subL_len]) <;> omega) | omega)) (Fr.ext (hPB.2.2.2.1.2 ((gt l j).item)).2.1 hw.lendx) (by have h_ := r_3.1; have := hjb.drop.1; first | omega | (have := hjb.pick.1; rw [subL_len]; omega)) (by have h_ := r_3.1; have hd_ := hL.dims; first | omega | (rw [subL_len]; omega)) (by first | exact bdd_mono r_3.2 (by omega) | exact bdd_mono (lOk_sub r_3 hjb.drop (Int.le_refl _)).2 (by omega)) (by first | exact rng_bdd hjb.drop.2 (by omega) (by omega) | exact rng_bdd hjb.pick.2 (by omega) (by omega) | exact rng_bdd hjb.am.2 (by omega) (by omega))) (fun v_q38 C_q38 q38 => ?_))
    obtain ⟨u37, rfl, rfl⟩ := q38
    show SP _ _ _ _ _ _ ⟨_, _ :: _ :: _, _, _⟩
    refine .m rfl rfl rfl (.v (ev_ext rfl rfl rfl) rfl (.v (ev_ext rfl rfl rfl) rfl (.a rfl rfl rfl (.go idQ ?_))))
    refine .know (row_len 0 rfl) (fun hv41 => ?_)
    obtain ⟨A39, c40, rfl, hv41_1, hv41_2⟩ := hv41
    unfold maxLen at hv41_2
    have hSt := lOk_St (x := gt l j) hL r_3 (k := 100000000 + 2000000 * (j + 1)) (by omega)
    rw [loadSt_1 (by assumption) (by assumption)] at hSt
    simp only [dropV, pickV, amV] at hSt
    refine .region (.m rfl rfl rfl (.m rfl rfl rfl (.cons (st_lend0 rfl rfl rfl rfl hbd102 rfl .n (.c .h .n) (fun w_ hw => clonez A39 ((addL (subL x.il ((gt p.jobs ((gt l j).item)).drop)) ((gt p.jobs ((gt l j).item)).pick)).length) c40 (addL (subL x.il ((gt p.jobs ((gt l j).item)).drop)) ((gt p.jobs ((gt l j).item)).pick)) _ _ (Fr.lend hw 0 rfl (by first | ((try simp only [List.length_nil, List.length_cons, List.length_append, List.length_set, List.length_singleton, List.length_take, List.length_drop, List.length_reverse, addL_len, subL_len]) <;> omega) | omega)) rfl (by have h_ := hSt.1; have hd_ := hL.dims; omega)) (fun v_q43 C_q43 q43 => ?_)))))
    obtain ⟨v42, rfl, rfl⟩ := q43
    show SP _ _ _ _ _ _ ⟨_, _ :: _ :: _, _, _⟩
    refine .know (row_len 0 rfl) (fun hv46 => ?_)
    obtain ⟨A44, c45, rfl, hv46_1, hv46_2⟩ := hv46
    unfold maxLen at hv46_2
    refine .cons (st_lit eIL (e := 22) (l := [(IL.mk (addL (subL x.il ((gt p.jobs ((gt l j).item)).drop)) ((gt p.jobs ((gt l j).item)).pick)) A44 c45)]) rfl rfl rfl rfl (by kernel_rfl) rfl rfl (fun w => by kernel_rfl) (fun b47 => .cons (st_app (E := eIL) (m := [(IL.mk (addL (subL x.il ((gt p.jobs ((gt l j).item)).drop)) ((gt p.jobs ((gt l j).item)).pick)) A44 c45)]) rfl rfl rfl rfl Try.underlying124 ai22 rfl rfl rfl (.t (.t (.t (.t (.t (.t (.t (.t .h)))))))) (by first | rfl | omega | simp) (row_src 0 rfl) (by first | ((try simp only [List.length_nil, List.length_cons, List.length_append, List.length_set, List.length_singleton, List.length_take, List.length_drop, List.length_reverse, addL_len, subL_len]) <;> omega) | omega) rfl (fun v48 => .a rfl rfl rfl (.go idQ ?_)))))
    refine SC.inown (IL.mk (addL (subL x.il ((gt p.jobs ((gt l j).item)).drop)) ((gt p.jobs ((gt l j).item)).pick)) A39 c40) (IL.mk (addL (subL x.il ((gt p.jobs ((gt l j).item)).drop)) ((gt p.jobs ((gt l j).item)).pick)) A44 c45) (.c (.t (.t (.t (.t (.t .h))))) (.c (.t (.t (.t .h))) (.c (.t (.t .h)) .n))) (by have h_ := hSt.1; have hd_ := hL.dims; dsimp only; omega) (by have h_ := hSt.1; have hd_ := hL.dims; dsimp only; omega) ?_
    exact .region (.v (ev_add rfl rfl rfl (r := (j + 1)) rfl (by omega) (by omega)) rfl (.m rfl rfl rfl (SP.nil (SQ.roundb (X := Int × Bool × IL × (List IL) × Value) (x := (j, own, x, Y, u_Y)) ⟨(j + 1), true, (IL.mk (addL (subL x.il ((gt p.jobs ((gt l j).item)).drop)) ((gt p.jobs ((gt l j).item)).pick)) A39 c40), (Y ++ [(IL.mk (addL (subL x.il ((gt p.jobs ((gt l j).item)).drop)) ((gt p.jobs ((gt l j).item)).pick)) A44 c45)]), v48⟩ (by exact ⟨(by omega), (by omega), (by have hq := r_2; rw [drop_gt (x := j) (by omega) (by omega), loadsR_cons, loadSt_1 (by assumption) (by assumption)] at hq; rw [List.map_append, List.append_assoc]; exact hq), hSt, (by simp only [List.length_append, List.length_singleton]; omega)⟩) (by dsimp only; omega) (Sub.get (.c4 rfl rfl rfl rfl (.c4 rfl rfl rfl rfl (.c rfl (.c rfl (.c rfl .n)))))) (fun w hw => hw.keep (.c .h (.c .h (.c (.t (.t (.t (.t (.t .h))))) .n))))))))
   refine .seq (.region (.v (ev_cmp rfl rfl rfl rfl) rfl (.a rfl rfl rfl (.go idQ (.condI rfl bE (fun h49 => ?_) (fun h49 => ?_))))))
   ·
    have hin := is_i2 (by assumption) (by omega)
    have hjb := hL.ship _ hin.1 hin.2
    refine .region (.m rfl rfl rfl (.v (ev_fa rfl fo29_5 rfl (r := 7) rfl) rfl (.v (ev_ld1 rfl ty27 rfl (At.own1 5 rfl rfl)) rfl (.v (ev_fa rfl fo46_1 rfl (r := 1) rfl) rfl (.v (ev_ld1 rfl ty3 rfl (At.own1 2 rfl rfl)) rfl ?_)))))
    refine .v (ev_ix rfl Try.underlying27 ty86 rfl rfl (by omega) (by omega) (fun _ _ => Fr.adr (i := (gt l j).item) hPB.2.2.2.2.1 (by omega) (by omega))) rfl (.v (ev_fa rfl fo86_2 rfl (r := ao p.psA + ((gt l j).item).toNat * 9 + 6) rfl) rfl (.v (ev_ld1 rfl ty22 rfl (At.elem1 (At.w (Fr.el (i := (gt l j).item) hPB.2.2.2.2.1 (by omega) (by omega))) 6 rfl)) rfl (.cons (st_lend0 rfl rfl rfl rfl hbd106 rfl .n (.c (.t (.t (.t .h))) .n) (fun w_ hw => laddL x.ilA x.ilc x.il ((gt p.ships ((gt l j).item)).saA) ((gt p.ships ((gt l j).item)).sac) ((gt p.ships ((gt l j).item)).am) _ _ ((INF.lend hw 0 rfl).1) (Fr.ext (hPB.2.2.2.2.2 ((gt l j).item)).1 hw.lendx) (by have h_ := r_3.1; have := hjb.am.1; omega) (by have h_ := r_3.1; have hd_ := hL.dims; first | omega | (rw [subL_len]; omega)) (by first | exact bdd_mono r_3.2 (by omega) | exact bdd_mono (lOk_sub r_3 hjb.drop (Int.le_refl _)).2 (by omega)) (by first | exact rng_bdd hjb.drop.2 (by omega) (by omega) | exact rng_bdd hjb.pick.2 (by omega) (by omega) | exact rng_bdd hjb.am.2 (by omega) (by omega))) (fun v_q51 C_q51 q51 => ?_)))))
    obtain ⟨u50, rfl, rfl⟩ := q51
    show SP _ _ _ _ _ _ ⟨_, _ :: _ :: _, _, _⟩
    refine .m rfl rfl rfl (.v (ev_ext rfl rfl rfl) rfl (.v (ev_ext rfl rfl rfl) rfl (.a rfl rfl rfl (.go idQ ?_))))
    refine .know (row_len 0 rfl) (fun hv54 => ?_)
    obtain ⟨A52, c53, rfl, hv54_1, hv54_2⟩ := hv54
    unfold maxLen at hv54_2
    have hSt := lOk_St (x := gt l j) hL r_3 (k := 100000000 + 2000000 * (j + 1)) (by omega)
    rw [loadSt_2 (by assumption) (by assumption)] at hSt
    simp only [dropV, pickV, amV] at hSt
    refine .region (.m rfl rfl rfl (.m rfl rfl rfl (.cons (st_lend0 rfl rfl rfl rfl hbd102 rfl .n (.c .h .n) (fun w_ hw => clonez A52 ((addL x.il ((gt p.ships ((gt l j).item)).am)).length) c53 (addL x.il ((gt p.ships ((gt l j).item)).am)) _ _ (Fr.lend hw 0 rfl (by first | ((try simp only [List.length_nil, List.length_cons, List.length_append, List.length_set, List.length_singleton, List.length_take, List.length_drop, List.length_reverse, addL_len, subL_len]) <;> omega) | omega)) rfl (by have h_ := hSt.1; have hd_ := hL.dims; omega)) (fun v_q56 C_q56 q56 => ?_)))))
    obtain ⟨v55, rfl, rfl⟩ := q56
    show SP _ _ _ _ _ _ ⟨_, _ :: _ :: _, _, _⟩
    refine .know (row_len 0 rfl) (fun hv59 => ?_)
    obtain ⟨A57, c58, rfl, hv59_1, hv59_2⟩ := hv59
    unfold maxLen at hv59_2
    refine .cons (st_lit eIL (e := 22) (l := [(IL.mk (addL x.il ((gt p.ships ((gt l j).item)).am)) A57 c58)]) rfl rfl rfl rfl (by kernel_rfl) rfl rfl (fun w => by kernel_rfl) (fun b60 => .cons (st_app (E := eIL) (m := [(IL.mk (addL x.il ((gt p.ships ((gt l j).item)).am)) A57 c58)]) rfl rfl rfl rfl Try.underlying124 ai22 rfl rfl rfl (.t (.t (.t (.t (.t (.t (.t .h))))))) (by first | rfl | omega | simp) (row_src 0 rfl) (by first | ((try simp only [List.length_nil, List.length_cons, List.length_append, List.length_set, List.length_singleton, List.length_take, List.length_drop, List.length_reverse, addL_len, subL_len]) <;> omega) | omega) rfl (fun v61 => .a rfl rfl rfl (.go idQ ?_)))))
    refine SC.inown (IL.mk (addL x.il ((gt p.ships ((gt l j).item)).am)) A52 c53) (IL.mk (addL x.il ((gt p.ships ((gt l j).item)).am)) A57 c58) (.c (.t (.t (.t (.t .h)))) (.c (.t (.t (.t .h))) (.c (.t (.t .h)) .n))) (by have h_ := hSt.1; have hd_ := hL.dims; dsimp only; omega) (by have h_ := hSt.1; have hd_ := hL.dims; dsimp only; omega) ?_
    exact .region (.v (ev_add rfl rfl rfl (r := (j + 1)) rfl (by omega) (by omega)) rfl (.m rfl rfl rfl (SP.nil (SQ.roundb (X := Int × Bool × IL × (List IL) × Value) (x := (j, own, x, Y, u_Y)) ⟨(j + 1), true, (IL.mk (addL x.il ((gt p.ships ((gt l j).item)).am)) A52 c53), (Y ++ [(IL.mk (addL x.il ((gt p.ships ((gt l j).item)).am)) A57 c58)]), v61⟩ (by exact ⟨(by omega), (by omega), (by have hq := r_2; rw [drop_gt (x := j) (by omega) (by omega), loadsR_cons, loadSt_2 (by assumption) (by assumption)] at hq; rw [List.map_append, List.append_assoc]; exact hq), hSt, (by simp only [List.length_append, List.length_singleton]; omega)⟩) (by dsimp only; omega) (Sub.get (.c4 rfl rfl rfl rfl (.c4 rfl rfl rfl rfl (.c rfl (.c rfl (.c rfl .n)))))) (fun w hw => hw.keep (.c .h (.c .h (.c (.t (.t (.t (.t .h)))) .n))))))))
   refine .seq (.region (.v (ev_cmp rfl rfl rfl rfl) rfl (.a rfl rfl rfl (.go idQ (.condI rfl bE (fun h62 => ?_) (fun h62 => ?_))))))
   ·
    have hin := is_i2 (by assumption) (by omega)
    have hjb := hL.ship _ hin.1 hin.2
    refine .region (.m rfl rfl rfl (.v (ev_fa rfl fo29_5 rfl (r := 7) rfl) rfl (.v (ev_ld1 rfl ty27 rfl (At.own1 5 rfl rfl)) rfl (.v (ev_fa rfl fo46_1 rfl (r := 1) rfl) rfl (.v (ev_ld1 rfl ty3 rfl (At.own1 2 rfl rfl)) rfl ?_)))))
    refine .v (ev_ix rfl Try.underlying27 ty86 rfl rfl (by omega) (by omega) (fun _ _ => Fr.adr (i := (gt l j).item) hPB.2.2.2.2.1 (by omega) (by omega))) rfl (.v (ev_fa rfl fo86_2 rfl (r := ao p.psA + ((gt l j).item).toNat * 9 + 6) rfl) rfl (.v (ev_ld1 rfl ty22 rfl (At.elem1 (At.w (Fr.el (i := (gt l j).item) hPB.2.2.2.2.1 (by omega) (by omega))) 6 rfl)) rfl (.cons (st_lend0 rfl rfl rfl rfl hbd107 rfl .n (.c (.t (.t (.t .h))) .n) (fun w_ hw => lsubL x.ilA x.ilc x.il ((gt p.ships ((gt l j).item)).saA) ((gt p.ships ((gt l j).item)).sac) ((gt p.ships ((gt l j).item)).am) _ _ ((INF.lend hw 0 rfl).1) (Fr.ext (hPB.2.2.2.2.2 ((gt l j).item)).1 hw.lendx) (by have h_ := r_3.1; have := hjb.am.1; omega) (by have h_ := r_3.1; have hd_ := hL.dims; first | omega | (rw [subL_len]; omega)) (by first | exact bdd_mono r_3.2 (by omega) | exact bdd_mono (lOk_sub r_3 hjb.drop (Int.le_refl _)).2 (by omega)) (by first | exact rng_bdd hjb.drop.2 (by omega) (by omega) | exact rng_bdd hjb.pick.2 (by omega) (by omega) | exact rng_bdd hjb.am.2 (by omega) (by omega))) (fun v_q64 C_q64 q64 => ?_)))))
    obtain ⟨u63, rfl, rfl⟩ := q64
    show SP _ _ _ _ _ _ ⟨_, _ :: _ :: _, _, _⟩
    refine .m rfl rfl rfl (.v (ev_ext rfl rfl rfl) rfl (.v (ev_ext rfl rfl rfl) rfl (.a rfl rfl rfl (.go idQ ?_))))
    refine .know (row_len 0 rfl) (fun hv67 => ?_)
    obtain ⟨A65, c66, rfl, hv67_1, hv67_2⟩ := hv67
    unfold maxLen at hv67_2
    have hSt := lOk_St (x := gt l j) hL r_3 (k := 100000000 + 2000000 * (j + 1)) (by omega)
    rw [loadSt_3 (by assumption) (by assumption)] at hSt
    simp only [dropV, pickV, amV] at hSt
    refine .region (.m rfl rfl rfl (.m rfl rfl rfl (.cons (st_lend0 rfl rfl rfl rfl hbd102 rfl .n (.c .h .n) (fun w_ hw => clonez A65 ((subL x.il ((gt p.ships ((gt l j).item)).am)).length) c66 (subL x.il ((gt p.ships ((gt l j).item)).am)) _ _ (Fr.lend hw 0 rfl (by first | ((try simp only [List.length_nil, List.length_cons, List.length_append, List.length_set, List.length_singleton, List.length_take, List.length_drop, List.length_reverse, addL_len, subL_len]) <;> omega) | omega)) rfl (by have h_ := hSt.1; have hd_ := hL.dims; omega)) (fun v_q69 C_q69 q69 => ?_)))))
    obtain ⟨v68, rfl, rfl⟩ := q69
    show SP _ _ _ _ _ _ ⟨_, _ :: _ :: _, _, _⟩
    refine .know (row_len 0 rfl) (fun hv72 => ?_)
    obtain ⟨A70, c71, rfl, hv72_1, hv72_2⟩ := hv72
    unfold maxLen at hv72_2
    refine .cons (st_lit eIL (e := 22) (l := [(IL.mk (subL x.il ((gt p.ships ((gt l j).item)).am)) A70 c71)]) rfl rfl rfl rfl (by kernel_rfl) rfl rfl (fun w => by kernel_rfl) (fun b73 => .cons (st_app (E := eIL) (m := [(IL.mk (subL x.il ((gt p.ships ((gt l j).item)).am)) A70 c71)]) rfl rfl rfl rfl Try.underlying124 ai22 rfl rfl rfl (.t (.t (.t (.t (.t (.t (.t .h))))))) (by first | rfl | omega | simp) (row_src 0 rfl) (by first | ((try simp only [List.length_nil, List.length_cons, List.length_append, List.length_set, List.length_singleton, List.length_take, List.length_drop, List.length_reverse, addL_len, subL_len]) <;> omega) | omega) rfl (fun v74 => .a rfl rfl rfl (.go idQ ?_)))))
    refine SC.inown (IL.mk (subL x.il ((gt p.ships ((gt l j).item)).am)) A65 c66) (IL.mk (subL x.il ((gt p.ships ((gt l j).item)).am)) A70 c71) (.c (.t (.t (.t (.t .h)))) (.c (.t (.t (.t .h))) (.c (.t (.t .h)) .n))) (by have h_ := hSt.1; have hd_ := hL.dims; dsimp only; omega) (by have h_ := hSt.1; have hd_ := hL.dims; dsimp only; omega) ?_
    exact .region (.v (ev_add rfl rfl rfl (r := (j + 1)) rfl (by omega) (by omega)) rfl (.m rfl rfl rfl (SP.nil (SQ.roundb (X := Int × Bool × IL × (List IL) × Value) (x := (j, own, x, Y, u_Y)) ⟨(j + 1), true, (IL.mk (subL x.il ((gt p.ships ((gt l j).item)).am)) A65 c66), (Y ++ [(IL.mk (subL x.il ((gt p.ships ((gt l j).item)).am)) A70 c71)]), v74⟩ (by exact ⟨(by omega), (by omega), (by have hq := r_2; rw [drop_gt (x := j) (by omega) (by omega), loadsR_cons, loadSt_3 (by assumption) (by assumption)] at hq; rw [List.map_append, List.append_assoc]; exact hq), hSt, (by simp only [List.length_append, List.length_singleton]; omega)⟩) (by dsimp only; omega) (Sub.get (.c4 rfl rfl rfl rfl (.c4 rfl rfl rfl rfl (.c rfl (.c rfl (.c rfl .n)))))) (fun w hw => hw.keep (.c .h (.c .h (.c (.t (.t (.t (.t .h)))) .n))))))))
   refine .skipgo idQ ?_
   have hSt := lOk_St (x := gt l j) hL r_3 (k := 100000000 + 2000000 * (j + 1)) (by omega)
   exact absurd (is_kind (by assumption)) (by omega)
  refine .skipgo idQ ?_
  have hSt := lOk_St (x := gt l j) hL r_3 (k := 100000000 + 2000000 * (j + 1)) (by omega)
  rw [loadSt_no (by assumption)] at hSt
  refine .region (.m rfl rfl rfl (.m rfl rfl rfl (.cons (st_lend0 rfl rfl rfl rfl hbd102 rfl .n (.c (.t (.t (.t .h))) .n) (fun w_ hw => clonez x.ilA x.il.length x.ilc x.il _ _ ((INF.lend hw 0 rfl).1) rfl (by have h_ := hSt.1; have hd_ := hL.dims; omega)) (fun v_q76 C_q76 q76 => ?_)))))
  obtain ⟨v75, rfl, rfl⟩ := q76
  show SP _ _ _ _ _ _ ⟨_, _ :: _ :: _, _, _⟩
  refine .know (row_len 0 rfl) (fun hv79 => ?_)
  obtain ⟨A77, c78, rfl, hv79_1, hv79_2⟩ := hv79
  unfold maxLen at hv79_2
  refine .cons (st_lit eIL (e := 22) (l := [(IL.mk x.il A77 c78)]) rfl rfl rfl rfl (by kernel_rfl) rfl rfl (fun w => by kernel_rfl) (fun b80 => .cons (st_app (E := eIL) (m := [(IL.mk x.il A77 c78)]) rfl rfl rfl rfl Try.underlying124 ai22 rfl rfl rfl (.t (.t (.t (.t (.t (.t .h)))))) (by first | rfl | omega | simp) (row_src 0 rfl) (by first | ((try simp only [List.length_nil, List.length_cons, List.length_append, List.length_set, List.length_singleton, List.length_take, List.length_drop, List.length_reverse, addL_len, subL_len]) <;> omega) | omega) rfl (fun v81 => .a rfl rfl rfl (.go idQ ?_)))))
  refine SC.inowk (IL.mk x.il A77 c78) (.c (.t (.t (.t .h))) (.c (.t (.t .h)) .n)) (by have h_ := hSt.1; have hd_ := hL.dims; dsimp only; omega) ?_
  exact .region (.v (ev_add rfl rfl rfl (r := (j + 1)) rfl (by omega) (by omega)) rfl (.m rfl rfl rfl (SP.nil (SQ.roundb (X := Int × Bool × IL × (List IL) × Value) (x := (j, own, x, Y, u_Y)) ⟨(j + 1), own, x, (Y ++ [(IL.mk x.il A77 c78)]), v81⟩ (by exact ⟨(by omega), (by omega), (by have hq := r_2; rw [drop_gt (x := j) (by omega) (by omega), loadsR_cons, loadSt_no (by assumption)] at hq; rw [List.map_append, List.append_assoc]; exact hq), hSt, (by simp only [List.length_append, List.length_singleton]; omega)⟩) (by dsimp only; omega) (Sub.get (.c4 rfl rfl rfl rfl (.c4 rfl rfl rfl rfl (.c rfl (.c rfl (.c rfl .n)))))) (fun w hw => hw.keep (.c .h (.c .h (.c (.t (.t (.t (.t .h)))) .n))))))))
 refine .exit idQ (.seq ?_)
 refine SC.inowend (.c .h .n) ?_
 exact .region (.m rfl rfl rfl (.a rfl rfl rfl (.go idQ (.ret idQ (ret1 Try.results96 rfl (.c (.t .h) (.c .h .n)) ⟨u_Y, Y, (by have hq := r_2; rw [drop_end (by omega)] at hq; rw [← hq]; exact (List.append_nil _).symm), rfl, rfl⟩)))))
end Go.Proofs.Ytdpmnodiebpjeaa.Sx
set_option maxRecDepth 20000
set_option maxHeartbeats 1000000
namespace Go.Proofs.Ytdpmnodiebpjeaa.Sx.FD
open Go Go.SX Go.Proofs
theorem ty29 : ty Try.prog 29 = some (true, 8) := by kernel_rfl
theorem hbd96 : hasBody Try.prog 96 = true := by kernel_rfl
theorem ty22 : ty Try.prog 22 = some (false, 1) := by kernel_rfl
theorem fo75_2 : fo Try.prog 75 2 = some 2 := by kernel_rfl
theorem hbd97 : hasBody Try.prog 97 = true := by kernel_rfl
theorem fo75_0 : fo Try.prog 75 0 = some 0 := by kernel_rfl
theorem ty3 : ty Try.prog 3 = some (false, 1) := by kernel_rfl
theorem ty46 : ty Try.prog 46 = some (true, 2) := by kernel_rfl
theorem zf46 : (Try.prog.info? 46).bind (fun i => i.zero.map Value.cells) = some (List.toArray [.int .i64 0, .int .i64 0]) := by kernel_rfl
theorem hbd92 : hasBody Try.prog 92 = true := by kernel_rfl
theorem zf81 : (Try.prog.info? 81).bind (fun i => i.zero.map Value.cells) = some (List.toArray [.int .i64 0, .int .i64 0, .slice none 0 0]) := by kernel_rfl
theorem ty81 : ty Try.prog 81 = some (true, 3) := by kernel_rfl
theorem fo81_0 : fo Try.prog 81 0 = some 0 := by kernel_rfl
theorem ai3 : (Try.prog.info? 3).map (fun i => (i.zero, i.size, i.bytes)) = some (some (.int .i64 0), 1, 8) := by kernel_rfl
theorem fo75_1 : fo Try.prog 75 1 = some 1 := by kernel_rfl
theorem ty75 : ty Try.prog 75 = some (true, 11) := by kernel_rfl
theorem hbd98 : hasBody Try.prog 98 = true := by kernel_rfl
theorem fo29_1 : fo Try.prog 29 1 = some 1 := by kernel_rfl
theorem ty24 : ty Try.prog 24 = some (true, 2) := by kernel_rfl
theorem hbd99 : hasBody Try.prog 99 = true := by kernel_rfl
theorem fo29_2 : fo Try.prog 29 2 = some 3 := by kernel_rfl
theorem mo : Try.prog.follows .mixedOrders = true := by kernel_rfl
theorem fo89_2 : fo Try.prog 89 2 = some 2 := by kernel_rfl
theorem fo89_3 : fo Try.prog 89 3 = some 3 := by kernel_rfl
end Go.Proofs.Ytdpmnodiebpjeaa.Sx.FD
namespace Go.Proofs.Ytdpmnodiebpjeaa.Sx
open Go Go.SX Go.Proofs FD
theorem loadsc_ (p : PB) (v : VH) (A : Option Addr) (c : Nat) (l : List Vis) (S : Nat → Prop) (wf : World) (hA : Fr eVis S wf A l) (hPB : PBF S wf p) (hVH : VHF S wf v) (hL : LawP p) (hll : l.length ≤ 60) :
  TR0 Try.prog 85 [.agg #[.int .i64 p.dims, .int .i64 p.tn, .slice p.ptA p.time.length p.ptc, .int .i64 p.dn, .slice p.pdA p.dist.length p.pdc, .slice p.pvA p.vehs.length p.pvc, .slice p.pjA p.jobs.length p.pjc, .slice p.psA p.ships.length p.psc], .agg #[.int .i64 v.st, .int .i64 v.en, .slice v.vcA v.vcap.length v.vcc, .int .u64 v.vsk, .int .i64 v.lo, .int .i64 v.hi, .int .i64 v.fix, .int .i64 v.pt, .int .i64 v.pd, .int .i64 v.mt, .slice v.vbA v.brs.length v.vbc], .slice A l.length c] [] S wf (fun v_ C_ => v_ = .int .i64 (errI (allUnder v.vcap (loadsF p l)) 165) ∧ C_ = []) := by
 have hla := hA.len
 refine TR.mk Try.func85 rfl Try.ntmps85 rfl rfl (fun w_ => ?_)
 refine .seq (.region (.cons (st_boxa rfl rfl rfl rfl rfl (fun b1 => .cons (st_boxa rfl rfl rfl rfl rfl (fun b2 => .a rfl rfl rfl (.go idQ ?_)))))))
 refine .seq (.seq (.region (.v (ev_lda rfl rfl (At.whole 1 rfl) ty29) rfl (.m rfl rfl rfl (.cons (st_call0 rfl rfl rfl rfl hbd96 rfl .n (loads_ p A c l _ _ hA hPB (by omega) (by first | omega | simp only [LL] <;> omega | simp <;> omega)) (fun v_q5 C_q5 q5 => ?_)))))))
 obtain ⟨u3, Y4, p6, rfl, rfl⟩ := q5
 show SP _ _ _ _ _ _ ⟨_, _ :: _ :: _, _, _⟩
 have hY := p6
 refine .know (row_len 0 rfl) (fun hv9 => ?_)
 obtain ⟨A7, c8, rfl, hv9_1, hv9_2⟩ := hv9
 unfold maxLen at hv9_2
 refine .v (ev_len rfl Try.underlying124 rfl) rfl (.m rfl rfl rfl (.go idQ (.block ?_)))
 refine .loop (X := Int) (fun i => 0 ≤ i ∧ i ≤ (Y4.length : Int) ∧ allUnder v.vcap ((Y4.map IL.il).drop i.toNat) = allUnder v.vcap (loadsF p l)) (fun i => [(4, .pointer (some ⟨b2, 0, none⟩)), (11, .slice A7 Y4.length c8), (12, .int .i64 (Y4.length : Int)), (13, .int .i64 i)]) (fun i => [rw_ eIL 22 (.slice A7 Y4.length c8) Y4, nestIL 3 Y4, cel b2 [.int .i64 v.st, .int .i64 v.en, .slice v.vcA v.vcap.length v.vcc, .int .u64 v.vsk, .int .i64 v.lo, .int .i64 v.hi, .int .i64 v.fix, .int .i64 v.pt, .int .i64 v.pd, .int .i64 v.mt, .slice v.vbA v.brs.length v.vbc] 75, cel b1 [.int .i64 p.dims, .int .i64 p.tn, .slice p.ptA p.time.length p.ptc, .int .i64 p.dn, .slice p.pdA p.dist.length p.pdc, .slice p.pvA p.vehs.length p.pvc, .slice p.pjA p.jobs.length p.pjc, .slice p.psA p.ships.length p.psc] 29]) (fun _ => S) (fun _ => wf) (fun i => ((Y4.length : Int) - i).toNat) (fun a_ w_ hs_ hw_ => ⟨0, (by exact ⟨(by omega), (by omega), (by rw [← hY]; rfl)⟩), hs_.mono (Sub.get (.c4 rfl rfl rfl rfl .n)), hw_.keep (.c .h (.c .h (.c .h (.c .h .n))))⟩) (fun i ⟨q_0, q_1, q_2⟩ => ?_)
 try dsimp only
 refine .seq (.region (.v (ev_cmp rfl rfl rfl rfl) rfl (.go idQ (.seq (.condI rfl bD (fun h10 => ?_) (fun h10 => ?_))))))
 ·
  refine .skipgo idQ (.seq (.block (.seq (.region (.v (ev_ix rfl Try.underlying124 ty22 rfl rfl (by omega) (by omega) (row_adr (i := i) 0 rfl (by omega) (by omega))) rfl ?_)))))
  refine .v (ev_ld1 rfl ty22 rfl (At.elem1 (row_el (E := eIL) (l := Y4) (i := i) 0 rfl (by omega) (by omega)) 0 rfl)) rfl (.a rfl rfl rfl (.go idQ (.seq (.region (.m rfl rfl rfl ?_)))))
  refine .v (ev_fa rfl fo75_2 rfl (r := 2) rfl) rfl (.v (ev_ld1 rfl ty22 rfl (At.own1 2 rfl rfl)) rfl (.cons (st_lendk rfl rfl rfl rfl hbd97 rfl .n (.c (.t .h) .n) (fun w_ hw => lunder ((gt Y4 i).ilA) ((gt Y4 i).ilc) ((gt Y4 i).il) v.vcA v.vcc v.vcap _ _ ((ILF.lend hw 0 rfl) i) (Fr.ext hVH.1 hw.lendx)) (.v (ev_not rfl rfl) rfl (.go idQ (.condI rfl (bN bV) (fun h11 => ?_) (fun h11 => ?_)))))))
  ·
   exact .seq (.region (.a rfl rfl rfl (.go idQ (.ret idQ (ret1 Try.results85 rfl .n ⟨(congrArg (Value.int .i64) (errI_f (by have hq := q_2; rw [drop_gtm (i := i) (by omega) (by omega), allUnder_cons] at hq; (repeat' split at hq) <;> first | exact hq.symm | contradiction)).symm), rfl⟩)))))
  exact .skipgo idQ (.region (.v (ev_add rfl rfl rfl (r := (i + 1)) rfl (by omega) (by omega)) rfl (.m rfl rfl rfl (SP.nil (SQ.roundb (X := Int) (x := (i)) (i + 1) (by exact ⟨(by omega), (by omega), (by have hq := q_2; rw [drop_gtm (i := i) (by omega) (by omega), allUnder_cons] at hq; (repeat' split at hq) <;> first | exact hq | contradiction)⟩) (by show (_ : Nat) < _; omega) (Sub.get (.c4 rfl rfl rfl rfl .n)) (fun w hw => hw.keep (.c .h (.c .h (.c .h (.c .h .n))))))))))
 exact .exit idQ (.seq (.region (.a rfl rfl rfl (.go idQ (.ret idQ (ret1 Try.results85 rfl .n ⟨(congrArg (Value.int .i64) (errI_t (by have hq := q_2; rw [drop_end (by simp only [List.length_map]; omega)] at hq; rw [← hq]; rfl)).symm), rfl⟩))))))
theorem places_ (p : PB) (v : VH) (A : Option Addr) (c : Nat) (l : List Vis) (S : Nat → Prop) (wf : World) (hA : Fr eVis S wf A l) (hPB : PBF S wf p) (hVH : VHF S wf v) (hL : LawP p) (hll : l.length ≤ 60) :
  TR0 Try.prog 98 [.agg #[.int .i64 p.dims, .int .i64 p.tn, .slice p.ptA p.time.length p.ptc, .int .i64 p.dn, .slice p.pdA p.dist.length p.pdc, .slice p.pvA p.vehs.length p.pvc, .slice p.pjA p.jobs.length p.pjc, .slice p.psA p.ships.length p.psc], .agg #[.int .i64 v.st, .int .i64 v.en, .slice v.vcA v.vcap.length v.vcc, .int .u64 v.vsk, .int .i64 v.lo, .int .i64 v.hi, .int .i64 v.fix, .int .i64 v.pt, .int .i64 v.pd, .int .i64 v.mt, .slice v.vbA v.brs.length v.vbc], .slice A l.length c] [] S wf (fun v_ C_ => ∃ (u : Value), v_ = u ∧ C_ = [rw_ eZ 3 (u) (placesF p v l)]) := by
 have hla := hA.len
 refine TR.mk Try.func98 rfl Try.ntmps98 rfl rfl (fun w_ => ?_)
 refine .seq (.region (.cons (st_boxa rfl rfl rfl rfl rfl (fun b1 => .cons (st_boxa rfl rfl rfl rfl rfl (fun b2 => .a rfl rfl rfl (.go idQ ?_)))))))
 refine .seq (.region (.v (ev_fa rfl fo75_0 rfl (r := 0) rfl) rfl (.v (ev_ld1 rfl ty3 rfl (At.own1 0 rfl rfl)) rfl (.cons (st_lit eZ (e := 3) (l := [v.st]) rfl rfl rfl rfl (by kernel_rfl) rfl rfl (fun w => by kernel_rfl) (fun b3 => .a rfl rfl rfl ?_))))))
 refine .go idQ (.seq (.seq (.region (.m rfl rfl rfl (.v (ev_len rfl Try.underlying41 rfl) rfl ?_)))))
 refine .m rfl rfl rfl (.go idQ (.block ?_))
 refine .loop (X := Int × (List Int) × Value) (fun ⟨i, X, u_X⟩ => 0 ≤ i ∧ i ≤ (l.length : Int) ∧ X ++ placesR p (l.drop i.toNat) (gt X i) = v.st :: placesR p l v.st ∧ (X.length : Int) = i + 1) (fun ⟨i, X, u_X⟩ => [(3, .pointer (some ⟨b1, 0, none⟩)), (4, .pointer (some ⟨b2, 0, none⟩)), (6, .slice none 0 0), (16, .slice A l.length c), (17, .int .i64 (l.length : Int)), (18, .int .i64 i), (7, u_X)]) (fun ⟨i, X, u_X⟩ => [rw_ eZ 3 (u_X) X, cel b2 [.int .i64 v.st, .int .i64 v.en, .slice v.vcA v.vcap.length v.vcc, .int .u64 v.vsk, .int .i64 v.lo, .int .i64 v.hi, .int .i64 v.fix, .int .i64 v.pt, .int .i64 v.pd, .int .i64 v.mt, .slice v.vbA v.brs.length v.vbc] 75, cel b1 [.int .i64 p.dims, .int .i64 p.tn, .slice p.ptA p.time.length p.ptc, .int .i64 p.dn, .slice p.pdA p.dist.length p.pdc, .slice p.pvA p.vehs.length p.pvc, .slice p.pjA p.jobs.length p.pjc, .slice p.psA p.ships.length p.psc] 29]) (fun _ => S) (fun _ => wf) (fun ⟨i, X, u_X⟩ => ((l.length : Int) - i).toNat) (fun a_ w_ hs_ hw_ => ⟨⟨0, [v.st], .slice (some ⟨b3, 0, none⟩) 1 1⟩, (by exact ⟨(by omega), (by omega), rfl, rfl⟩), hs_.mono (Sub.get (.c4 rfl rfl rfl rfl (.c rfl (.c rfl (.c rfl .n))))), hw_.keep (.c .h (.c .h (.c .h .n)))⟩) (fun ⟨i, X, u_X⟩ ⟨q_0, q_1, q_2, q_3⟩ => ?_)
 show SC _ _ _ _ _ ⟨[(3, .pointer (some ⟨b1, 0, none⟩)), (4, .pointer (some ⟨b2, 0, none⟩)), (6, .slice none 0 0), (16, .slice A l.length c), (17, .int .i64 (l.length : Int)), (18, .int .i64 i), (7, u_X)], [rw_ eZ 3 (u_X) X, cel b2 [.int .i64 v.st, .int .i64 v.en, .slice v.vcA v.vcap.length v.vcc, .int .u64 v.vsk, .int .i64 v.lo, .int .i64 v.hi, .int .i64 v.fix, .int .i64 v.pt, .int .i64 v.pd, .int .i64 v.mt, .slice v.vbA v.brs.length v.vbc] 75, cel b1 [.int .i64 p.dims, .int .i64 p.tn, .slice p.ptA p.time.length p.ptc, .int .i64 p.dn, .slice p.pdA p.dist.length p.pdc, .slice p.pvA p.vehs.length p.pvc, .slice p.pjA p.jobs.length p.pjc, .slice p.psA p.ships.length p.psc] 29], S, wf⟩
 refine .seq (.region (.v (ev_cmp rfl rfl rfl rfl) rfl (.go idQ (.seq (.condI rfl bD (fun h4 => ?_) (fun h4 => ?_))))))
 ·
  refine .skipgo idQ (.seq (.block (.seq (.region (.m rfl rfl rfl ?_)))))
  refine .v (ev_ix rfl Try.underlying41 ty46 rfl rfl (by omega) (by omega) (fun _ _ => Fr.adr (i := i) hA (by omega) (by omega))) rfl (.v (ev_lda rfl rfl (At.w (Fr.el (i := i) hA (by omega) (by omega))) ty46) rfl (.cons (st_alloc rfl rfl rfl rfl zf46 (fun b5 => .a rfl rfl rfl (.cons (st_storea (l' := [.int .i64 ((gt l i).kind), .int .i64 ((gt l i).item)]) rfl rfl rfl ty46 rfl rfl rfl .h rfl rfl (.go idQ ?_)))))))
  refine .seq (.region (.m rfl rfl rfl (.m rfl rfl rfl ?_)))
  refine .know (row_len 1 rfl) (fun hv8 => ?_)
  obtain ⟨A6, c7, rfl, hv8_1, hv8_2⟩ := hv8
  unfold maxLen at hv8_2
  refine .v (ev_ix rfl Try.underlying22 ty3 rfl rfl (by omega) (by omega) (row_adr (i := i) 1 rfl (by omega) (by omega))) rfl (.v (ev_ld1 rfl ty3 rfl (At.elem1 (row_el (E := eZ) (l := X) (i := i) 1 rfl (by omega) (by omega)) 0 rfl)) rfl (.a rfl rfl rfl (.go idQ (.seq (.seq ?_)))))
  refine .region (.v (ev_lda rfl rfl (At.whole 3 rfl) ty29) rfl (.v (ev_lda rfl rfl (At.whole 0 rfl) ty46) rfl (.cons (st_call0 rfl rfl rfl rfl hbd92 rfl .n (stop_ p (gt l i) _ _ hPB (stop_ws hL)) (fun v_q10 C_q10 q10 => ?_)))))
  obtain ⟨u9, rfl, rfl⟩ := q10
  show SP _ _ _ _ _ _ ⟨_, _ :: _, _, _⟩
  refine .know (row_len 0 rfl) (fun hv13 => ?_)
  obtain ⟨A11, c12, rfl, hv13_1, hv13_2⟩ := hv13
  unfold maxLen at hv13_2
  refine .m rfl rfl rfl (.v (ev_ext rfl rfl rfl) rfl (.v (ev_ext rfl rfl rfl) rfl (.cons (st_alloc rfl rfl rfl rfl zf81 (fun b14 => .cons (st_storea (l' := [.int .i64 ((stopD p (gt l i)).pl), .int .i64 ((stopD p (gt l i)).srv), .slice A11 (((stopD p (gt l i)).sws).length) c12]) rfl rfl rfl ty81 rfl rfl rfl .h rfl rfl (.a rfl rfl rfl ?_)))))))
  refine .go idQ (.seq (.region (.m rfl rfl rfl (.go idQ (.condI rfl bV (fun h15 => ?_) (fun h15 => ?_))))))
  ·
   refine .region (.v (ev_fa rfl fo81_0 rfl (r := 0) rfl) rfl (.v (ev_ld1 rfl ty3 rfl (At.own1 0 rfl rfl)) rfl (.a rfl rfl rfl (.go idQ (.region ?_)))))
   refine .m rfl rfl rfl (.m rfl rfl rfl (.cons (st_lit eZ (e := 3) (l := [(stopD p (gt l i)).pl]) rfl rfl rfl rfl (by kernel_rfl) rfl rfl (fun w => by kernel_rfl) (fun b16 => .cons (st_app (E := eZ) (m := [(stopD p (gt l i)).pl]) rfl rfl rfl rfl Try.underlying22 ai3 rfl rfl rfl (.t (.t (.t (.t .h)))) (by first | rfl | omega | simp) (row_src 0 rfl) (by first | omega | simp only [LL] <;> omega | simp <;> omega) rfl (fun v17 => .a rfl rfl rfl (.go idQ ?_)))))))
   exact .region (.v (ev_add rfl rfl rfl (r := (i + 1)) rfl (by omega) (by omega)) rfl (.m rfl rfl rfl (SP.nil (SQ.roundb (X := Int × (List Int) × Value) (x := (i, X, (.slice A6 X.length c7))) ⟨(i + 1), (X ++ [(stopD p (gt l i)).pl]), v17⟩ (by exact ⟨(by omega), (by omega), (by have hq := q_2; rw [drop_gt (x := i) (by omega) (by omega), placesR_cons, nextPl_y (by assumption)] at hq; rw [gt_last (by omega), List.append_assoc]; exact hq), (by simp only [List.length_append, List.length_singleton]; omega)⟩) (by dsimp only; omega) (Sub.get (.c4 rfl rfl rfl rfl (.c rfl (.c rfl (.c rfl .n))))) (fun w hw => hw.keep (.c .h (.c (.t (.t (.t (.t .h)))) (.c (.t (.t (.t (.t .h)))) .n))))))))
  refine .skipgo idQ (.region (.m rfl rfl rfl (.m rfl rfl rfl (.cons (st_lit eZ (e := 3) (l := [(gt X i)]) rfl rfl rfl rfl (by kernel_rfl) rfl rfl (fun w => by kernel_rfl) (fun b18 => .cons (st_app (E := eZ) (m := [(gt X i)]) rfl rfl rfl rfl Try.underlying22 ai3 rfl rfl rfl (.t (.t (.t (.t .h)))) (by first | rfl | omega | simp) (row_src 0 rfl) (by first | omega | simp only [LL] <;> omega | simp <;> omega) rfl (fun v19 => ?_))))))))
  exact .a rfl rfl rfl (.go idQ (.region (.v (ev_add rfl rfl rfl (r := (i + 1)) rfl (by omega) (by omega)) rfl (.m rfl rfl rfl (SP.nil (SQ.roundb (X := Int × (List Int) × Value) (x := (i, X, (.slice A6 X.length c7))) ⟨(i + 1), (X ++ [(gt X i)]), v19⟩ (by exact ⟨(by omega), (by omega), (by have hq := q_2; rw [drop_gt (x := i) (by omega) (by omega), placesR_cons, nextPl_n (by assumption)] at hq; rw [gt_last (by omega), List.append_assoc]; exact hq), (by simp only [List.length_append, List.length_singleton]; omega)⟩) (by dsimp only; omega) (Sub.get (.c4 rfl rfl rfl rfl (.c rfl (.c rfl (.c rfl .n))))) (fun w hw => hw.keep (.c .h (.c (.t (.t (.t (.t .h)))) (.c (.t (.t (.t (.t .h)))) .n))))))))))
 refine .exit idQ (.seq (.region (.m rfl rfl rfl (.v (ev_fa rfl fo75_1 rfl (r := 1) rfl) rfl (.v (ev_ld1 rfl ty3 rfl (At.own1 1 rfl rfl)) rfl ?_)))))
 exact .cons (st_lit eZ (e := 3) (l := [v.en]) rfl rfl rfl rfl (by kernel_rfl) rfl rfl (fun w => by kernel_rfl) (fun b20 => .cons (st_app (E := eZ) (m := [v.en]) rfl rfl rfl rfl Try.underlying22 ai3 rfl rfl rfl (.t .h) (by first | rfl | omega | simp) (row_src 0 rfl) (by first | omega | simp only [LL] <;> omega | simp <;> omega) rfl (fun v21 => .a rfl rfl rfl (.go idQ (.ret idQ (ret1 Try.results98 rfl (.c .h .n) ⟨v21, rfl, (by have hq := q_2; rw [drop_end (by omega)] at hq; have hq : X ++ [] = _ := hq; rw [List.append_nil] at hq; rw [hq]; rfl)⟩)))))))
theorem travel_ (p : PB) (v : VH) (A : Option Addr) (c : Nat) (l : List Vis) (S : Nat → Prop) (wf : World) (hA : Fr eVis S wf A l) (hPB : PBF S wf p) (hVH : VHF S wf v) (hL : LawP p) (hll : l.length ≤ 60) :
  TR0 Try.prog 86 [.agg #[.int .i64 p.dims, .int .i64 p.tn, .slice p.ptA p.time.length p.ptc, .int .i64 p.dn, .slice p.pdA p.dist.length p.pdc, .slice p.pvA p.vehs.length p.pvc, .slice p.pjA p.jobs.length p.pjc, .slice p.psA p.ships.length p.psc], .agg #[.int .i64 v.st, .int .i64 v.en, .slice v.vcA v.vcap.length v.vcc, .int .u64 v.vsk, .int .i64 v.lo, .int .i64 v.hi, .int .i64 v.fix, .int .i64 v.pt, .int .i64 v.pd, .int .i64 v.mt, .slice v.vbA v.brs.length v.vbc], .slice A l.length c] [] S wf (fun v_ C_ => v_ = .int .i64 (errI (travelR p (placesF p v l)) 166) ∧ C_ = []) := by
 have hla := hA.len
 have hpl := placesF_len (p := p) (v := v) (l := l)
 refine TR.mk Try.func86 rfl Try.ntmps86 rfl rfl (fun w_ => ?_)
 refine .seq (.region (.cons (st_boxa rfl rfl rfl rfl rfl (fun b1 => .cons (st_boxa rfl rfl rfl rfl rfl (fun b2 => .a rfl rfl rfl (.go idQ ?_)))))))
 refine .seq (.region (.v (ev_lda rfl rfl (At.whole 1 rfl) ty29) rfl (.v (ev_lda rfl rfl (At.whole 0 rfl) ty75) rfl (.m rfl rfl rfl (.cons (st_call0 rfl rfl rfl rfl hbd98 rfl .n (places_ p v A c l _ _ hA hPB hVH (by omega) (by first | omega | simp only [LL] <;> omega | simp <;> omega)) (fun v_q4 C_q4 q4 => ?_)))))))
 obtain ⟨u3, rfl, rfl⟩ := q4
 show SP _ _ _ _ _ _ ⟨_, _ :: _, _, _⟩
 refine .a rfl rfl rfl (.go idQ (.seq (.seq ?_)))
 refine .know (row_len 0 rfl) (fun hv7 => ?_)
 obtain ⟨A5, c6, rfl, hv7_1, hv7_2⟩ := hv7
 unfold maxLen at hv7_2
 refine .region (.a rfl rfl rfl (.go idQ (.block ?_)))
 refine .loop (X := Int) (fun i => 1 ≤ i ∧ i ≤ (((placesF p v l).length : Nat) : Int) ∧ travelR p ((placesF p v l).drop (i - 1).toNat) = travelR p (placesF p v l)) (fun i => [(3, .pointer (some ⟨b1, 0, none⟩)), (7, .slice A5 ((placesF p v l).length) c6), (8, .int .i64 i)]) (fun i => [rw_ eZ 3 (.slice A5 ((placesF p v l).length) c6) (placesF p v l), cel b2 [.int .i64 v.st, .int .i64 v.en, .slice v.vcA v.vcap.length v.vcc, .int .u64 v.vsk, .int .i64 v.lo, .int .i64 v.hi, .int .i64 v.fix, .int .i64 v.pt, .int .i64 v.pd, .int .i64 v.mt, .slice v.vbA v.brs.length v.vbc] 75, cel b1 [.int .i64 p.dims, .int .i64 p.tn, .slice p.ptA p.time.length p.ptc, .int .i64 p.dn, .slice p.pdA p.dist.length p.pdc, .slice p.pvA p.vehs.length p.pvc, .slice p.pjA p.jobs.length p.pjc, .slice p.psA p.ships.length p.psc] 29]) (fun _ => S) (fun _ => wf) (fun i => ((((placesF p v l).length : Nat) : Int) - i).toNat) (fun a_ w_ hs_ hw_ => ⟨1, (by exact ⟨(by omega), (by omega), rfl⟩), hs_.mono (Sub.get (.c rfl (.c rfl (.c rfl .n)))), hw_.keep (.c .h (.c .h (.c .h .n)))⟩) (fun i ⟨q_0, q_1, q_2⟩ => ?_)
 try dsimp only
 refine .seq (.seq (.region (.m rfl rfl rfl (.m rfl rfl rfl (.v (ev_len rfl Try.underlying22 rfl) rfl ?_)))))
 refine .v (ev_cmp rfl rfl rfl rfl) rfl (.go idQ (.condI rfl bD (fun h8 => ?_) (fun h8 => ?_)))
 ·
  refine .skipgo idQ (.seq (.block (.seq ?_)))
  refine SC.draw mo [] [] .n (fun _ _ _ => sc0) (fun wf_9 hl_9 hx_9 hR_9 => ?_)
  refine SR.z 0 rfl rfl (ev_fa rfl fo29_1 rfl (r := 1) rfl) (SR.z 1 rfl rfl (ev_lda (cs := [.int .i64 p.tn, .slice p.ptA p.time.length p.ptc]) rfl rfl (At.d (At.lent hR_9 2 rfl rfl)) ty24) (SR.m 2 rfl rfl rfl rfl (SR.m 3 rfl rfl rfl rfl (SR.z 4 rfl rfl (ev_sub rfl rfl rfl (r := (i - 1)) rfl (by omega) (by omega)) (SR.z 5 rfl rfl (ev_ix rfl Try.underlying22 ty3 rfl rfl (by omega) (by omega) (fun _ _ => Fr.adr (i := (i - 1)) (Fr.lent (S := S) hR_9 0 rfl (by first | omega | simp only [LL] <;> omega | simp <;> omega)) (by omega) (by omega))) ?_)))))
  refine SR.z 6 rfl rfl (ev_ld1 rfl ty3 rfl (At.elem1 (At.d (Fr.el (i := (i - 1)) (Fr.lent (S := S) hR_9 0 rfl (by first | omega | simp only [LL] <;> omega | simp <;> omega)) (by omega) (by omega))) 0 rfl)) (SR.m 7 rfl rfl rfl rfl (SR.m 8 rfl rfl rfl rfl (SR.z 9 rfl rfl (ev_ix rfl Try.underlying22 ty3 rfl rfl (by omega) (by omega) (fun _ _ => Fr.adr (i := i) (Fr.lent (S := S) hR_9 0 rfl (by first | omega | simp only [LL] <;> omega | simp <;> omega)) (by omega) (by omega))) (SR.z 10 rfl rfl (ev_ld1 rfl ty3 rfl (At.elem1 (At.d (Fr.el (i := i) (Fr.lent (S := S) hR_9 0 rfl (by first | omega | simp only [LL] <;> omega | simp <;> omega)) (by omega) (by omega))) 0 rfl)) (SR.o 11 rfl (st_callk rfl rfl rfl rfl hbd99 rfl .n (cell_ p.tn p.ptA p.ptc p.time (gt (placesF p v l) (i - 1)) (gt (placesF p v l) i) _ _ (((hPB).ext hx_9).1) (by have := hL.tn; have := hL.dn; omega) (by first | exact hL.tlen | (rw [hL.dn]; exact hL.dlen))) ⟨tt0, ?_⟩))))))
  refine SR.z 12 rfl rfl (ev_cmp rfl rfl rfl rfl) (SR.m 13 rfl rfl rfl rfl (SR.y 14 rfl rfl (fun _ => ev_fa rfl fo29_2 rfl (r := 3) rfl) (SR.y 15 rfl rfl (fun hb => ev_lda (cs := [.int .i64 p.dn, .slice p.pdA p.dist.length p.pdc]) rfl (lkg rfl hb) (At.d (At.lent hR_9 2 rfl rfl)) ty24) (SR.y 16 rfl rfl (fun _ => ev_mv rfl rfl) (SR.y 17 rfl rfl (fun _ => ev_mv rfl rfl) ?_)))))
  refine SR.y 18 rfl rfl (fun hb => have hp := bF bD hb; ev_sub rfl (lkg rfl hb) rfl (r := (i - 1)) rfl (by have _h := hp; omega) (by have _h := hp; omega)) (SR.y 19 rfl rfl (fun hb => have hp := bF bD hb; ev_ix rfl Try.underlying22 ty3 (lkg rfl hb) (lkg rfl hb) (by have _h := hp; omega) (by have _h := hp; omega) (fun _ _ => Fr.adr (i := (i - 1)) (Fr.lent (S := S) hR_9 0 rfl (by first | omega | simp only [LL] <;> omega | simp <;> omega)) (by have _h := hp; omega) (by have _h := hp; omega))) (SR.y 20 rfl rfl (fun hb => have hp := bF bD hb; ev_ld1 rfl ty3 (lkg rfl hb) (At.elem1 (At.d (Fr.el (i := (i - 1)) (Fr.lent (S := S) hR_9 0 rfl (by first | omega | simp only [LL] <;> omega | simp <;> omega)) (by have _h := hp; omega) (by have _h := hp; omega))) 0 rfl)) (SR.y 21 rfl rfl (fun _ => ev_mv rfl rfl) (SR.y 22 rfl rfl (fun _ => ev_mv rfl rfl) (SR.y 23 rfl rfl (fun hb => have hp := bF bD hb; ev_ix rfl Try.underlying22 ty3 (lkg rfl hb) (lkg rfl hb) (by have _h := hp; omega) (by have _h := hp; omega) (fun _ _ => Fr.adr (i := i) (Fr.lent (S := S) hR_9 0 rfl (by first | omega | simp only [LL] <;> omega | simp <;> omega)) (by have _h := hp; omega) (by have _h := hp; omega))) ?_)))))
  refine SR.y 24 rfl rfl (fun hb => have hp := bF bD hb; ev_ld1 rfl ty3 (lkg rfl hb) (At.elem1 (At.d (Fr.el (i := i) (Fr.lent (S := S) hR_9 0 rfl (by first | omega | simp only [LL] <;> omega | simp <;> omega)) (by have _h := hp; omega) (by have _h := hp; omega))) 0 rfl)) (SR.o 25 rfl (st_gcallk rfl rfl rfl rfl rfl rfl hbd99 (fun hb => (lkA1 (lkg rfl hb) (lkA1 (lkg rfl hb) (lkA1 (lkg rfl hb) lkA0)))) .n (fun hb => have hp := bF bD hb; cell_ p.dn p.pdA p.pdc p.dist (gt (placesF p v l) (i - 1)) (gt (placesF p v l) i) _ _ (((hPB).ext hx_9).2.1) (by have := hL.tn; have := hL.dn; omega) (by first | exact hL.tlen | (rw [hL.dn]; exact hL.dlen))) ⟨tt0, (SR.y 26 rfl rfl (fun hb => ev_cmp rfl (lkg rfl hb) rfl rfl) (SR.z 27 rfl rfl (ev_or rfl rfl rfl rfl) (SR.fin (by kernel_rfl) hl_9 hx_9 hR_9 .n (SQ.go idQ ?_))))⟩))
  refine .condI rfl (bO bD bD) (fun h10 => ?_) (fun h10 => ?_)
  ·
   exact .seq (.region (.a rfl rfl rfl (.go idQ (.ret idQ (ret1 Try.results86 rfl .n ⟨(congrArg (Value.int .i64) (errI_f (by have hq := q_2; rw [travel_step (i := i) (by omega) (by omega)] at hq; (repeat' split at hq) <;> first | exact hq.symm | contradiction | (exfalso; omega))).symm), rfl⟩)))))
  exact .skipgo idQ (.region (.m rfl rfl rfl (.v (ev_add rfl rfl rfl (r := (i + 1)) rfl (by omega) (by omega)) rfl (.a rfl rfl rfl (SP.nil (SQ.roundb (X := Int) (x := (i)) (i + 1) (by exact ⟨(by omega), (by omega), (by have hq := q_2; rw [travel_step (i := i) (by omega) (by omega)] at hq; rw [show i + 1 - 1 = i from by omega]; (repeat' split at hq) <;> first | exact hq | contradiction | (exfalso; omega))⟩) (by show (_ : Nat) < _; omega) (Sub.get (.c rfl (.c rfl (.c rfl .n)))) (fun w hw => hw.keep (.c .h (.c .h (.c .h .n))))))))))
 exact .exit idQ (.seq (.region (.a rfl rfl rfl (.go idQ (.ret idQ (ret1 Try.results86 rfl .n ⟨(congrArg (Value.int .i64) (errI_t (by rw [← q_2]; exact travel_end (by omega) (by omega))).symm), rfl⟩))))))
theorem drive_ (p : PB) (g : Nat) (vh : Int) (sv : Value) (tm : Int) (ds : Int) (wt : Int) (sr : Int) (co : Int) (f : Int) (t : Int) (S : Nat → Prop) (wf : World) (hPB : PBF S wf p) (hL : LawP p) (h_tm : -2000000000000 ≤ tm ∧ tm ≤ 2000000000000) (h_ds : -2000000000000 ≤ ds ∧ ds ≤ 2000000000000) :
  TR0 Try.prog 100 [.agg #[.int .i64 p.dims, .int .i64 p.tn, .slice p.ptA p.time.length p.ptc, .int .i64 p.dn, .slice p.pdA p.dist.length p.pdc, .slice p.pvA p.vehs.length p.pvc, .slice p.pjA p.jobs.length p.pjc, .slice p.psA p.ships.length p.psc], .pointer (some ⟨g, 0, none⟩), .int .i64 f, .int .i64 t] [cel g [.int .i64 vh, sv, .int .i64 tm, .int .i64 ds, .int .i64 wt, .int .i64 sr, .int .i64 co] 89] S wf (fun v_ C_ => v_ = .int .i64 (tcell p f t) ∧ C_ = [cel g [.int .i64 vh, sv, .int .i64 (tm + tcell p f t), .int .i64 (ds + dcell p f t), .int .i64 wt, .int .i64 sr, .int .i64 co] 89]) := by
 have hct := cellF_rng (n := p.tn) (l := p.time) (f := f) (t := t) hL.tc
 have hcd := cellF_rng (n := p.dn) (l := p.dist) (f := f) (t := t) hL.dc
 refine TR.mk Try.func100 rfl Try.ntmps100 rfl rfl (fun w_ => ?_)
 refine .seq (.region (.cons (st_boxa rfl rfl rfl rfl rfl (fun b1 => .a rfl rfl rfl (.go idQ (.seq ?_))))))
 refine .region (.v (ev_fa rfl fo29_1 rfl (r := 1) rfl) rfl (.v (ev_lda (cs := [.int .i64 p.tn, .slice p.ptA p.time.length p.ptc]) rfl rfl (At.own 0 rfl rfl) ty24) rfl (.m rfl rfl rfl (.m rfl rfl rfl (.cons (st_callk rfl rfl rfl rfl hbd99 rfl .n (cell_ p.tn p.ptA p.ptc p.time f t _ _ hPB.1 (by have := hL.tn; have := hL.dn; omega) (by first | exact hL.tlen | (rw [hL.dn]; exact hL.dlen))) ?_))))))
 refine .a rfl rfl rfl (.go idQ (.seq ?_))
 refine SC.draw mo [cel g [.int .i64 vh, sv, .int .i64 tm, .int .i64 ds, .int .i64 wt, .int .i64 sr, .int .i64 co] 89] [(20, fun w => At w g 0 [.int .i64 vh, sv, .int .i64 tm, .int .i64 ds, .int .i64 wt, .int .i64 sr, .int .i64 co])] (.c (.t .h) .n) (fun w_ _ hw_ => (sc1 (At.whole 0 rfl w_ hw_) sc0)) (fun wf_2 hl_2 hx_2 hR_2 => ?_)
 refine SR.m 0 rfl rfl rfl rfl (SR.m 1 rfl rfl rfl rfl (SR.m 2 rfl rfl rfl rfl (SR.z 3 rfl rfl (ev_nil rfl rfl) (SR.z 4 rfl rfl (ev_fa rfl fo89_2 rfl (r := 2) rfl) (SR.z 5 rfl rfl (ev_ld1 rfl ty3 rfl (At.elem1 (v := .int .i64 tm) (At.ofcs 0 rfl (by kernel_rfl)) 2 rfl)) ?_)))))
 refine SR.m 6 rfl rfl rfl rfl (SR.z 7 rfl rfl (ev_add rfl rfl rfl (r := (tm + (cellF p.tn p.time f t))) rfl (by omega) (by omega)) (SR.m 8 rfl rfl rfl rfl (SR.z 9 rfl rfl (ev_nil rfl rfl) (SR.z 10 rfl rfl (ev_fa rfl fo89_3 rfl (r := 3) rfl) (SR.z 11 rfl rfl (ev_ld1 rfl ty3 rfl (At.elem1 (v := .int .i64 ds) (At.ofcs 0 rfl (by kernel_rfl)) 3 rfl)) ?_)))))
 refine SR.z 12 rfl rfl (ev_fa rfl fo29_2 rfl (r := 3) rfl) (SR.z 13 rfl rfl (ev_lda (cs := [.int .i64 p.dn, .slice p.pdA p.dist.length p.pdc]) rfl rfl (At.d (At.lent hR_2 0 rfl rfl)) ty24) (SR.m 14 rfl rfl rfl rfl (SR.m 15 rfl rfl rfl rfl (SR.o 16 rfl (st_callk rfl rfl rfl rfl hbd99 rfl .n (cell_ p.dn p.pdA p.pdc p.dist f t _ _ (((hPB).ext hx_2).2.1) (by have := hL.tn; have := hL.dn; omega) (by first | exact hL.tlen | (rw [hL.dn]; exact hL.dlen))) ⟨ttc (fun w_ hw_ => (tc1 (At.whole 0 rfl w_ hw_) tc0)), (SR.z 17 rfl rfl (ev_add rfl rfl rfl (r := (ds + (cellF p.dn p.dist f t))) rfl (by omega) (by omega)) ?_)⟩)))))
 refine SR.z 18 rfl rfl (ev_nil rfl rfl) (SR.z 19 rfl rfl (ev_fa rfl fo89_2 rfl (r := 2) rfl) (SR.o 20 rfl (st_store1 rfl rfl rfl ty3 rfl rfl rfl .h (.t (.t .h)) ⟨ttc (fun w_ hw_ => (tc2 (by kernel_rfl) tc0)), (SR.z 21 rfl rfl (ev_nil rfl rfl) (SR.z 22 rfl rfl (ev_fa rfl fo89_3 rfl (r := 3) rfl) (SR.o 23 rfl (st_store1 rfl rfl rfl ty3 rfl rfl rfl .h (.t (.t (.t .h))) ⟨ttc (fun w_ hw_ => (tc2 (by kernel_rfl) tc0)), ?_⟩))))⟩)))
 refine SR.fin (by kernel_rfl) hl_2 hx_2 hR_2 (.c .n) (SQ.go idQ (.seq (.region (.m rfl rfl rfl (.a rfl rfl rfl ?_)))))
 exact .go idQ (.ret idQ (ret1 Try.results100 rfl (.c .h .n) ⟨rfl, rfl⟩))
end Go.Proofs.Ytdpmnodiebpjeaa.Sx
