import Derived.Test.YtlefdinbbjiabaaProg
import Derived.Test.YtlefdinbbjiabaaS5
set_option linter.unusedVariables false
set_option linter.unusedSimpArgs false
set_option linter.unusedSectionVars false
set_option maxRecDepth 20000
set_option maxHeartbeats 8000000
namespace Go.Proofs.Ytlefdinbbjiabaa.Sx.FR
open Go Go.SX Go.Proofs Go.Proofs.Try FA FB FC FD FE FF FG FH FI FJ FK FL FM FN FO FP FQ
theorem hbd13 : hasBody prog 13 = true := by kernel_rfl
theorem hbd12 : hasBody prog 12 = true := by kernel_rfl
theorem hbd32 : hasBody prog 32 = true := by kernel_rfl
theorem hbd31 : hasBody prog 31 = true := by kernel_rfl
end Go.Proofs.Ytlefdinbbjiabaa.Sx.FR
namespace Go.Proofs.Ytlefdinbbjiabaa.Sx
open Go Go.SX Go.Proofs Go.Proofs.Try FA FB FC FD FE FF FG FH FI FJ FK FL FM FN FO FP FQ FR
theorem lpl_ (lb : Nat) (rA : Option Addr) (rc : Nat) (R : List Int) (kA : Option Addr) (kc : Nat) (K : List LK) (uA : Option Addr) (uc : Nat) (U : List IL) (dA : Option Addr) (dc : Nat) (D : List IL) (S : Nat → Prop) (wf : World) :
  TR0 prog 13 [.pointer (some ⟨lb, 0, none⟩)] [cel lb [.slice rA R.length rc, .slice kA K.length kc, .slice uA U.length uc, .slice dA D.length dc] 68, rw_ eZ 3 (.slice rA R.length rc) R, rw_ eLK 37 (.slice kA K.length kc) K, rw_ eIL 27 (.slice uA U.length uc) U, rw_ eIL 27 (.slice dA D.length dc) D, nestIL 3 U, nestIL 3 D] S wf (fun v_ C_ => v_ = .int .i64 (R.length : Int) ∧ C_ = [cel lb [.slice rA R.length rc, .slice kA K.length kc, .slice uA U.length uc, .slice dA D.length dc] 68, rw_ eZ 3 (.slice rA R.length rc) R, rw_ eLK 37 (.slice kA K.length kc) K, rw_ eIL 27 (.slice uA U.length uc) U, rw_ eIL 27 (.slice dA D.length dc) D, nestIL 3 U, nestIL 3 D]) := by
 refine TR.mk func13 G ntmps13 G G (fun w_ => ?_)
 refine .seq (.region (.a G G G (.go idQ (.seq (.seq (.region (.m G G G ?_)))))))
 refine .v (ev_bin G G G (r := .bool false) (fun _ => by kernel_rfl)) G (.go idQ (.cond_f G (.skipgo idQ (.seq (.region ?_)))))
 refine .m G G G (.v (ev_nil G G) G (.f fo68_0 0 G G G G (.l ty27 0 G G G G G ?_)))
 refine .g underlying27 G G G (.a G G G (.go idQ (.ret idQ (ret1 results13 G (.d (.d (.d (.c .h .n)))) ⟨G, G⟩))))
theorem lrk_ (lb : Nat) (rA : Option Addr) (rc : Nat) (R : List Int) (kA : Option Addr) (kc : Nat) (K : List LK) (uA : Option Addr) (uc : Nat) (U : List IL) (dA : Option Addr) (dc : Nat) (D : List IL) (p : Int) (S : Nat → Prop) (wf : World) :
  TR0 prog 12 [.pointer (some ⟨lb, 0, none⟩), .int .i64 p] [cel lb [.slice rA R.length rc, .slice kA K.length kc, .slice uA U.length uc, .slice dA D.length dc] 68, rw_ eZ 3 (.slice rA R.length rc) R, rw_ eLK 37 (.slice kA K.length kc) K, rw_ eIL 27 (.slice uA U.length uc) U, rw_ eIL 27 (.slice dA D.length dc) D, nestIL 3 U, nestIL 3 D] S wf (fun v_ C_ => v_ = .int .i64 (rkAt R p) ∧ C_ = [cel lb [.slice rA R.length rc, .slice kA K.length kc, .slice uA U.length uc, .slice dA D.length dc] 68, rw_ eZ 3 (.slice rA R.length rc) R, rw_ eLK 37 (.slice kA K.length kc) K, rw_ eIL 27 (.slice uA U.length uc) U, rw_ eIL 27 (.slice dA D.length dc) D, nestIL 3 U, nestIL 3 D]) := by
 refine TR.mk func12 G ntmps12 G G (fun w_ => ?_)
 refine .seq (.region (.a G G G (.go idQ (.seq (.seq (.region (.m G G G ?_)))))))
 refine .e G G G G G (.m G G G (.w (fun _ => ev_mv G G) G (.w (fun _ => ev_mv G G) G ?_)))
 refine .cons (st_gcallk G G G G G G hbd13 (fun hb => (lkA1 (lkg G hb) lkA0)) (.d (.d (.d (.c .h .n)))) (fun hb => have hp := bF bD hb; lpl_ lb rA rc R kA kc K uA uc U dA dc D _ _) ?_)
 refine .w (fun hb => ev_cmp G (lkg G hb) (lkg G hb) G) G (.r G G G G G (.go idQ (.condI G (bO bD bD) (fun h1 => ?_) (fun h1 => ?_))))
 ·
  refine .seq (.region (.a G G G (.go idQ (.ret idQ (ret1 results12 G (.d (.d (.d (.c .h .n)))) ⟨(congrArg (Value.int .i64) (by unfold rkAt; repeat (first | rw [if_pos oO] | rw [if_neg oO]))), G⟩)))))
 refine .skipgo idQ (.seq (.region (.m G G G (.v (ev_nil G G) G (.f fo68_0 0 G G G G ?_)))))
 refine .l ty27 0 G G G G G (.m G G G (.v (ev_ix G underlying27 ty3 G G oO oO (row_adr (i := p) 1 G oO oO)) G (.v (ev_ld1 G ty3 G (At.elem1 (row_el (E := eZ) (l := R) (i := p) 1 G oO oO) 0 G)) G ?_)))
 refine .a G G G (.go idQ (.ret idQ (ret1 results12 G (.d (.d (.d (.c .h .n)))) ⟨(congrArg (Value.int .i64) (by unfold rkAt; repeat (first | rw [if_pos oO] | rw [if_neg oO]))), G⟩)))
theorem pick_ (lb : Nat) (rA : Option Addr) (rc : Nat) (R : List Int) (kA : Option Addr) (kc : Nat) (K : List LK) (v3 : Value) (v4 : Value) (A : Option Addr) (n : Nat) (c : Nat) (l : List Int) (S : Nat → Prop) (wf : World) (hA : Fr eZ S wf A l) (hn : l.length = n) (hx : ∀ x ∈ l, 0 ≤ x ∧ x < (K.length : Int)) (hl : l.length ≤ 100000) :
  TR0 prog 32 [.pointer (some ⟨lb, 0, none⟩), .slice A n c] [cel lb [.slice rA R.length rc, .slice kA K.length kc, v3, v4] 68, rw_ eLK 37 (.slice kA K.length kc) K] S wf (fun v_ C_ => ∃ (u : Value), v_ = u ∧ C_ = [cel lb [.slice rA R.length rc, .slice kA K.length kc, v3, v4] 68, rw_ eLK 37 (.slice kA K.length kc) K, rw_ eLK 37 (u) (l.map (gt K))]) := by
 have hla := hA.len
 refine TR.mk func32 G ntmps32 G G (fun w_ => ?_)
 refine .seq (.region (.a G G G (.go idQ (.seq (.region (.a G G G ?_))))))
 refine .go idQ (.seq (.seq (.region (.m G G G (.g underlying27 G G G (.m G G G ?_))))))
 refine .go idQ (.block ?_)
 refine SC.nilrow eLK 37 ?_
 refine .loop (X := Int × (List LK) × Value) (fun ⟨i, X, u_X⟩ => 0 ≤ i ∧ i ≤ (n : Int) ∧ X = (l.take i.toNat).map (gt K)) (fun ⟨i, X, u_X⟩ => [(0, .pointer (some ⟨lb, 0, none⟩)), (4, .slice none 0 0), (8, .slice A n c), (9, .int .i64 (n : Int)), (10, .int .i64 i), (5, u_X)]) (fun ⟨i, X, u_X⟩ => [rw_ eLK 37 (u_X) X, cel lb [.slice rA R.length rc, .slice kA K.length kc, v3, v4] 68, rw_ eLK 37 (.slice kA K.length kc) K]) (fun _ => S) (fun _ => wf) (fun ⟨i, X, u_X⟩ => ((n : Int) - i).toNat) (fun a_ w_ hs_ hw_ => ⟨⟨0, ([] : List LK), .slice none 0 0⟩, (by (try dsimp only); exact ⟨oO, oO, G⟩), hs_.mono (Sub.get (.c4 G G G G (.c G (.c G .n)))), hw_.keep (.d (.c .h .n))⟩) (fun ⟨i, X, u_X⟩ ⟨q_0, q_1, q_2⟩ => ?_)
 try dsimp only
 have hxl : X.length ≤ i.toNat := by rw [q_2, List.length_map, List.length_take]; omega
 refine .seq (.region (.e G G G G G (.go idQ (.seq (.condI G bD (fun h1 => ?_) (fun h1 => ?_))))))
 ·
  refine .skipgo idQ (.seq (.block (.seq ?_)))
  have hgi := hx _ (gtM (l := l) (i := i) oO oO)
  refine .region (.v (ev_ix G underlying27 ty3 G G oO oO (fun _ _ => Fr.adr (i := i) hA oO oO)) G (.v (ev_ld1 G ty3 G (At.elem1 (At.w (Fr.el (i := i) hA oO oO)) 0 G)) G (.a G G G ?_)))
  refine .go idQ (.region (.m G G G (.m G G G (.v (ev_nil G G) G ?_))))
  refine .f fo68_1 1 G G G G (.l ty34 1 G G G G G (.m G G G (.v (ev_ix G underlying34 ty37 G G oO oO (row_adr (i := (gt l i)) 2 G oO oO)) G ?_)))
  refine .v (ev_lda G G (row_el (E := eLK) (l := K) (i := (gt l i)) 2 G oO oO) ty37) G (.cons (st_lit eLK (e := 37) (l := [(gt K (gt l i))]) G G G G kR G G kW (fun b2 => (.cons (st_app (E := eLK) (m := [(gt K (gt l i))]) G G G G underlying34 ai37 G G G (.t .h) rO (row_src 0 G) lO G (fun v3 => (.a G G G ?_)))))))
  refine .go idQ (.region (.p ((i + 1)) oO oO G G G G G (.m G G G ?_)))
  exact SP.nil (SQ.roundb (X := Int × (List LK) × Value) (x := (i, X, u_X)) ⟨(i + 1), (X ++ [(gt K (gt l i))]), v3⟩ (by (try dsimp only); exact ⟨oO, oO, (pick_next q_2 oO oO)⟩) dO (Sub.get (.c4 G G G G (.c G (.c G .n)))) (kp (.c .h (.c (.t .h) (.c (.t .h) .n)))))
 refine .exit idQ ?_
 refine .seq (.region (.m G G G (.a G G G (.go idQ ?_))))
 exact .ret idQ (ret1 results32 G (.c (.t .h) (.c (.t .h) (.c .h .n))) ⟨u_X, G, (by rw [q_2, List.take_of_length_le oO])⟩)
theorem lup_ (lb : Nat) (rA : Option Addr) (rc : Nat) (R : List Int) (kA : Option Addr) (kc : Nat) (K : List LK) (uA : Option Addr) (uc : Nat) (U : List IL) (dA : Option Addr) (dc : Nat) (D : List IL) (p : Int) (S : Nat → Prop) (wf : World) (hL : LOk R K U D) :
  TR0 prog 14 [.pointer (some ⟨lb, 0, none⟩), .int .i64 p] [cel lb [.slice rA R.length rc, .slice kA K.length kc, .slice uA U.length uc, .slice dA D.length dc] 68, rw_ eZ 3 (.slice rA R.length rc) R, rw_ eLK 37 (.slice kA K.length kc) K, rw_ eIL 27 (.slice uA U.length uc) U, rw_ eIL 27 (.slice dA D.length dc) D, nestIL 3 U, nestIL 3 D] S wf (fun v_ C_ => ∃ (u : Value), v_ = u ∧ C_ = [cel lb [.slice rA R.length rc, .slice kA K.length kc, .slice uA U.length uc, .slice dA D.length dc] 68, rw_ eZ 3 (.slice rA R.length rc) R, rw_ eLK 37 (.slice kA K.length kc) K, rw_ eIL 27 (.slice uA U.length uc) U, rw_ eIL 27 (.slice dA D.length dc) D, nestIL 3 U, nestIL 3 D, rw_ eLK 37 (u) (pkL R K U p)]) := by
 refine TR.mk func14 G ntmps14 G G (fun w_ => ?_)
 refine .seq (.region (.a G G G (.go idQ (.seq (.seq (.region (.m G G G ?_)))))))
 refine .m G G G (.cons (st_callk G G G G hbd12 G (.d (.d (.d (.c .h .n)))) (lrk_ lb rA rc R kA kc K uA uc U dA dc D p _ _) (.e G G G G G (.go idQ ?_))))
 refine .condI G bD (fun h1 => ?_) (fun h1 => ?_)
 ·
  refine .seq (.region (.a G G G (.go idQ ?_)))
  refine SC.nilrow eLK 37 ?_
  exact .ret idQ (ret1 results14 G (.c (.t .h) (.c (.t .h) (.c (.t .h) (.c (.t .h) (.c (.t .h) (.c (.t .h) (.c (.t .h) (.c .h .n)))))))) ⟨.slice none 0 0, G, (by unfold pkL; rw [if_pos h1])⟩)
 refine .skipgo idQ (.seq ?_)
 have hpr := rk_rng h1
 have hUl := hL.lu
 have hui := hL.iu p hpr.1 hpr.2
 refine SC.outIL p oO oO (.t4 (.t .h)) (fun hol => ?_)
 refine .region (.m G G G (.m G G G (.v (ev_nil G G) G ?_)))
 refine .f fo68_2 2 G G G G (.l ty66 2 G G G G G (.m G G G (.v (ev_ix G underlying66 ty27 G G oO oO (row_adr (i := p) 5 G oO oO)) G ?_)))
 refine .v (ev_ld1 G ty27 G (At.elem1 (row_el (E := eIL) (l := U) (i := p) 5 G oO oO) 0 G)) G (.cons (st_lend0 G G G G hbd32 G (.c (.t2 .h) (.c (.t2 (.t .h)) .n)) (.c .h .n) (fun w_ hw => pick_ lb rA rc R kA kc K (.slice uA U.length uc) (.slice dA D.length dc) ((gt U p).ilA) ((gt U p).il.length) ((gt U p).ilc) ((gt U p).il) _ _ (Fr.lend hw 0 G lO) G hui.1 hui.2) (fun v_q3 C_q3 q3 => ?_)))
 obtain ⟨u2, rfl, rfl⟩ := q3
 show SP _ _ _ _ _ _ ⟨_, _ :: _ :: _ :: _ :: _, _, _⟩
 refine .a G G G (.go idQ ?_)
 refine SC.backIL p oO oO (.c (.t2 (.t .h)) (.c (.t2 (.t .h)) .n)) hol ?_
 exact .ret idQ (ret1 results14 G (.c (.t .h) (.c (.t2 (.t .h)) (.c (.t .h) (.c (.t2 .h) (.c (.t2 .h) (.c .h (.c (.t .h) (.c .h .n)))))))) ⟨v_q3, G, (by unfold pkL; rw [if_neg h1])⟩)
theorem ldown_ (lb : Nat) (rA : Option Addr) (rc : Nat) (R : List Int) (kA : Option Addr) (kc : Nat) (K : List LK) (uA : Option Addr) (uc : Nat) (U : List IL) (dA : Option Addr) (dc : Nat) (D : List IL) (p : Int) (S : Nat → Prop) (wf : World) (hL : LOk R K U D) :
  TR0 prog 15 [.pointer (some ⟨lb, 0, none⟩), .int .i64 p] [cel lb [.slice rA R.length rc, .slice kA K.length kc, .slice uA U.length uc, .slice dA D.length dc] 68, rw_ eZ 3 (.slice rA R.length rc) R, rw_ eLK 37 (.slice kA K.length kc) K, rw_ eIL 27 (.slice uA U.length uc) U, rw_ eIL 27 (.slice dA D.length dc) D, nestIL 3 U, nestIL 3 D] S wf (fun v_ C_ => ∃ (u : Value), v_ = u ∧ C_ = [cel lb [.slice rA R.length rc, .slice kA K.length kc, .slice uA U.length uc, .slice dA D.length dc] 68, rw_ eZ 3 (.slice rA R.length rc) R, rw_ eLK 37 (.slice kA K.length kc) K, rw_ eIL 27 (.slice uA U.length uc) U, rw_ eIL 27 (.slice dA D.length dc) D, nestIL 3 U, nestIL 3 D, rw_ eLK 37 (u) (pkL R K D p)]) := by
 refine TR.mk func15 G ntmps15 G G (fun w_ => ?_)
 refine .seq (.region (.a G G G (.go idQ (.seq (.seq (.region (.m G G G ?_)))))))
 refine .m G G G (.cons (st_callk G G G G hbd12 G (.d (.d (.d (.c .h .n)))) (lrk_ lb rA rc R kA kc K uA uc U dA dc D p _ _) (.e G G G G G (.go idQ ?_))))
 refine .condI G bD (fun h1 => ?_) (fun h1 => ?_)
 ·
  refine .seq (.region (.a G G G (.go idQ ?_)))
  refine SC.nilrow eLK 37 ?_
  exact .ret idQ (ret1 results15 G (.c (.t .h) (.c (.t .h) (.c (.t .h) (.c (.t .h) (.c (.t .h) (.c (.t .h) (.c (.t .h) (.c .h .n)))))))) ⟨.slice none 0 0, G, (by unfold pkL; rw [if_pos h1])⟩)
 refine .skipgo idQ (.seq ?_)
 have hpr := rk_rng h1
 have hUl := hL.ld
 have hui := hL.iD p hpr.1 hpr.2
 refine SC.outIL p oO oO (.t4 (.t2 .h)) (fun hol => ?_)
 refine .region (.m G G G (.m G G G (.v (ev_nil G G) G ?_)))
 refine .f fo68_3 3 G G G G (.l ty66 2 G G G G G (.m G G G (.v (ev_ix G underlying66 ty27 G G oO oO (row_adr (i := p) 6 G oO oO)) G ?_)))
 refine .v (ev_ld1 G ty27 G (At.elem1 (row_el (E := eIL) (l := D) (i := p) 6 G oO oO) 0 G)) G (.cons (st_lend0 G G G G hbd32 G (.c (.t2 .h) (.c (.t2 (.t .h)) .n)) (.c .h .n) (fun w_ hw => pick_ lb rA rc R kA kc K (.slice uA U.length uc) (.slice dA D.length dc) ((gt D p).ilA) ((gt D p).il.length) ((gt D p).ilc) ((gt D p).il) _ _ (Fr.lend hw 0 G lO) G hui.1 hui.2) (fun v_q3 C_q3 q3 => ?_)))
 obtain ⟨u2, rfl, rfl⟩ := q3
 show SP _ _ _ _ _ _ ⟨_, _ :: _ :: _ :: _ :: _, _, _⟩
 refine .a G G G (.go idQ ?_)
 refine SC.backIL p oO oO (.c (.t2 (.t .h)) (.c (.t2 (.t .h)) .n)) hol ?_
 exact .ret idQ (ret1 results15 G (.c (.t .h) (.c (.t2 (.t .h)) (.c (.t .h) (.c (.t2 .h) (.c (.t2 .h) (.c (.t2 .h) (.d .n))))))) ⟨v_q3, G, (by unfold pkL; rw [if_neg h1])⟩)
theorem lks_ (lb : Nat) (rA : Option Addr) (rc : Nat) (R : List Int) (kA : Option Addr) (kc : Nat) (K : List LK) (uA : Option Addr) (uc : Nat) (U : List IL) (dA : Option Addr) (dc : Nat) (D : List IL) (S : Nat → Prop) (wf : World) (hkl : K.length ≤ 100000) :
  TR0 prog 11 [.pointer (some ⟨lb, 0, none⟩)] [cel lb [.slice rA R.length rc, .slice kA K.length kc, .slice uA U.length uc, .slice dA D.length dc] 68, rw_ eZ 3 (.slice rA R.length rc) R, rw_ eLK 37 (.slice kA K.length kc) K, rw_ eIL 27 (.slice uA U.length uc) U, rw_ eIL 27 (.slice dA D.length dc) D, nestIL 3 U, nestIL 3 D] S wf (fun v_ C_ => ∃ (u : Value), v_ = u ∧ C_ = [cel lb [.slice rA R.length rc, .slice kA K.length kc, .slice uA U.length uc, .slice dA D.length dc] 68, rw_ eZ 3 (.slice rA R.length rc) R, rw_ eLK 37 (.slice kA K.length kc) K, rw_ eIL 27 (.slice uA U.length uc) U, rw_ eIL 27 (.slice dA D.length dc) D, nestIL 3 U, nestIL 3 D, rw_ eLK 37 (u) K]) := by
 refine TR.mk func11 G ntmps11 G G (fun w_ => ?_)
 refine .seq (.region (.a G G G (.go idQ (.seq (.seq (.region (.m G G G ?_)))))))
 refine .v (ev_bin G G G (r := .bool false) (fun _ => by kernel_rfl)) G (.go idQ (.cond_f G (.skipgo idQ (.seq (.region ?_)))))
 refine .m G G G (.v (ev_nil G G) G (.f fo68_1 1 G G G G (.l ty34 0 G G G G G ?_)))
 refine .cons (st_lend0 G G G G hbd31 G .n (.c (.t2 .h) .n) (fun w_ hw => cloneL kA K.length kc K _ _ (Fr.lend hw 0 G lO) lO lO) (fun v_q2 C_q2 q2 => ?_))
 obtain ⟨v1, rfl, rfl⟩ := q2
 show SP _ _ _ _ _ _ ⟨_, _ :: _ :: _, _, _⟩
 refine .a G G G (.go idQ (.ret idQ (ret1 results11 G (.c (.t2 .h) (.c (.t2 .h) (.c (.t .h) (.c (.t .h) (.c (.t .h) (.c (.t .h) (.c (.t .h) (.c .h .n)))))))) ⟨v_q2, G, G⟩)))
end Go.Proofs.Ytlefdinbbjiabaa.Sx
set_option maxRecDepth 20000
set_option maxHeartbeats 8000000
namespace Go.Proofs.Ytlefdinbbjiabaa.Sx.FS
open Go Go.SX Go.Proofs Go.Proofs.Try FA FB FC FD FE FF FG FH FI FJ FK FL FM FN FO FP FQ FR
theorem hbd20 : hasBody prog 20 = true := by kernel_rfl
theorem hbd33 : hasBody prog 33 = true := by kernel_rfl
theorem hbd34 : hasBody prog 34 = true := by kernel_rfl
theorem hbd17 : hasBody prog 17 = true := by kernel_rfl
theorem hbd21 : hasBody prog 21 = true := by kernel_rfl
theorem hbd22 : hasBody prog 22 = true := by kernel_rfl
theorem hbd23 : hasBody prog 23 = true := by kernel_rfl
end Go.Proofs.Ytlefdinbbjiabaa.Sx.FS
namespace Go.Proofs.Ytlefdinbbjiabaa.Sx
open Go Go.SX Go.Proofs Go.Proofs.Try FA FB FC FD FE FF FG FH FI FJ FK FL FM FN FO FP FQ FR FS
theorem gwt_ (n : Int) (t : List Int) (b : Nat) (fA : Option Addr) (fc : Nat) (fi : List Int) (eA : Option Addr) (ec : Nat) (ed : List EG) (p : Int) (q : Int) (S : Nat → Prop) (wf : World) (hF : Fr eZ S wf fA fi) (hE : Fr eEG S wf eA ed) (hT : TabOk n t) (hGr : GOk n t fi ed) (hec : ed.length ≤ ec) (hp : 0 ≤ p ∧ p < n) (hq : 0 ≤ q ∧ q < n) :
  TR0 prog 34 [.pointer (some ⟨b, 0, none⟩), .int .i64 p, .int .i64 q] [cel b [.slice fA fi.length fc, .slice eA ed.length ec] 83] S wf (fun v_ C_ => v_ = .int .i64 (gt t (p * n + q)) ∧ C_ = [cel b [.slice fA fi.length fc, .slice eA ed.length ec] 83]) := by
 have hn1 := hT.pl
 have hfl := hGr.len
 have hne := hGr.ne
 refine TR.mk func34 G ntmps34 G G (fun w_ => ?_)
 refine .seq (.region (.a G G G (.go idQ (.seq (.seq (.region (.m G G G ?_)))))))
 refine .m G G G (.cons (st_call0 G G G G hbd25 G (.c .h .n) (gout_ b fA fc fi eA ec ed p _ _ hF hE lO (hGr.rng p oO oO) oO) (fun v_q2 C_q2 q2 => ?_)))
 obtain ⟨u1, rfl, rfl⟩ := q2
 show SP _ _ _ _ _ _ ⟨_, _ :: _ :: _, _, _⟩
 refine .know (row_len 1 G) (fun hv5 => ?_)
 obtain ⟨A3, c4, rfl, hv5_1, hv5_2⟩ := hv5
 unfold maxLen at hv5_2
 refine .g underlying61 G G G (.m G G G (.go idQ (.block (.loop (X := Int) (fun i => 0 ≤ i ∧ i ≤ ((outL fi ed p).length : Int) ∧ (∀ j : Int, 0 ≤ j → j < i → (gt (outL fi ed p) j).et ≠ q)) (fun i => [(2, .int .i64 q), (11, .slice A3 ((outL fi ed p).length) c4), (12, .int .i64 (((outL fi ed p).length : Nat) : Int)), (13, .int .i64 i)]) (fun i => [cel b [.slice fA fi.length fc, .slice eA ed.length ec] 83, rw_ eEG 64 (.slice A3 ((outL fi ed p).length) c4) (outL fi ed p)]) (fun _ => S) (fun _ => wf) (fun i => (((outL fi ed p).length : Int) - i).toNat) (fun a_ w_ hs_ hw_ => ⟨0, (by (try dsimp only); exact ⟨oO, oO, (fun j j0 j1 => absurd j1 oO)⟩), hs_.mono (Sub.get (.c4 G G G G .n)), hw_.keep (.d .n)⟩) (fun i ⟨q_0, q_1, q_2⟩ => ?_)))))
 try dsimp only
 refine .seq (.region (.e G G G G G (.go idQ (.seq (.condI G bD (fun h6 => ?_) (fun h6 => ?_))))))
 ·
  refine .skipgo idQ (.seq (.block (.seq (.region (.v (ev_ix G underlying61 ty64 G G oO oO (row_adr (i := i) 1 G oO lO)) G (.v (ev_lda G G (row_el (E := eEG) (l := (outL fi ed p)) (i := i) 1 G oO lO) ty64) G (.cons (st_alloc G G G G zf64 (fun b7 => ?_)))))))))
  refine .cons (st_storea (l' := [.int .i64 ((gt (outL fi ed p) i).et), .int .i64 ((gt (outL fi ed p) i).ew)]) G G G ty64 G G G .h G G ?_)
  refine .go idQ (.seq (.region (.f fo64_0 0 G G G G (.l ty3 0 G G G G G (.m G G G ?_)))))
  refine .e G G G G G (.go idQ (.condI G bE (fun h8 => ?_) (fun h8 => ?_)))
  ·
   refine .seq (.region (.f fo64_1 1 G G G G (.l ty3 0 G G G G G (.a G G G ?_))))
   refine .go idQ (.ret idQ (ret1 results34 G (.c (.t .h) .n) ⟨(congrArg (Value.int .i64) (wt_some hGr hp (gtM oO oO) h8)), G⟩))
  refine .skipgo idQ (.region (.p ((i + 1)) oO oO G G G G G (.m G G G ?_)))
  exact SP.nil (SQ.roundb (X := Int) (x := (i)) (i + 1) (by (try dsimp only); exact ⟨oO, oO, (upN q_2 h8)⟩) (by show (_ : Nat) < _; omega) (Sub.get (.c4 G G G G .n)) (kp (.c (.t .h) (.c (.t .h) .n))))
 refine .exit idQ ?_
 refine .seq (.region (.a G G G (.go idQ (.ret idQ (ret1 results34 G (.c .h .n) ⟨(congrArg (Value.int .i64) (wt_none hT hGr hp hq (by have h_ := q_2; rw [show i = ((outL fi ed p).length : Int) from by omega] at h_; exact h_))), G⟩)))))
theorem awake5_ (S : Nat → Prop) (wf : World) :
  TR0 prog 17 [] [] S wf (fun v_ C_ => v_ = .bool true ∧ C_ = []) := by
 refine TR.mk func17 G ntmps17 G G (fun w_ => ?_)
 refine .seq (.region (.a G G G (.go idQ (.seq (.region (.v (ev_any (v := .agg #[.int .i64 0, .int .i64 1, .int .i64 5, .int .i64 9]) G kR (fun _ => by kernel_rfl)) G ?_))))))
 refine .v (ev_any (v := .agg #[.int .i64 0, .int .i64 1, .int .i64 4, .int .i64 12]) G kR (fun _ => by kernel_rfl)) G (.v (ev_any (v := .agg #[.int .i64 1, .int .i64 1, .int .i64 1, .int .i64 0]) G kR (fun _ => by kernel_rfl)) G (.v (ev_any (v := .agg #[.int .i64 1, .int .i64 2, .int .i64 0, .int .i64 0]) G kR (fun _ => by kernel_rfl)) G (.cons (st_lit eAR (e := 47) (l := [(AR.mk 0 1 5 9), (AR.mk 0 1 4 12), (AR.mk 1 1 1 0), (AR.mk 1 2 0 0)]) G G G G kR G G kW (fun b1 => ?_)))))
 refine .v (ev_any (v := .agg #[.int .i64 3, .slice (some ⟨b1, 0, none⟩) 4 4]) G kR (fun _ => by kernel_rfl)) G (.cons (st_lend0 G G G G hbd20 G .n (.c .h .n) (fun w_ hw => new_ 3 (some ⟨b1, 0, none⟩) 4 [(AR.mk 0 1 5 9), (AR.mk 0 1 4 12), (AR.mk 1 1 1 0), (AR.mk 1 2 0 0)] false _ _ (Fr.lend hw 0 G lO) ra5) (fun v_q7 C_q7 q7 => ?_)))
 obtain ⟨b2, u3, v4, fi5, ed6, p8, p9, rfl, rfl⟩ := q7
 show SP _ _ _ _ _ _ ⟨_, _ :: _ :: _ :: _ :: _, _, _⟩
 have hgl := p8.len
 have hgn := p8.ne
 refine .m G G G (.x G G G G (.x G G G G (.a G G G ?_)))
 refine .a G G G (.go idQ (.seq (.region (.m G G G (.v (ev_cmp (r := true) G G G G) G ?_)))))
 refine .m G G G (.cons (.on G G G (Ev.step (ev_mv G G) G G G (.know (row_len 1 G) (fun hv12 => ?_)))))
 obtain ⟨A10, c11, rfl, hv12_1, hv12_2⟩ := hv12
 unfold maxLen at hv12_2
 refine .know (row_len 2 G) (fun hv15 => ?_)
 obtain ⟨A13, c14, rfl, hv15_1, hv15_2⟩ := hv15
 unfold maxLen at hv15_2
 refine .cons (.on G G G (st_lendk G G G G hbd33 G (.c .h .n) (.d .n) (fun w_ hw => glen_ b2 A10 c11 fi5 A13 c14 ed6 _ _ (Fr.lend hw 0 G lO) (Fr.lend hw 1 G lO)) ?_))
 refine .cons (.on G G G (Ev.step (ev_cmp G G G G) G G G ?_))
 refine .v (ev_pickt G G G G) G (.m G G G (.w (fun _ => ev_mv G G) G (.cons (st_glendk G G G G G G hbd34 (fun hb => (lkA1 (lkg G hb) (lkA1 G (lkA1 G lkA0)))) (.c .h .n) (.d .n) (fun hb w_ hw => have hp := bT bE hb; gwt_ 3 (tabF 3 false [(AR.mk 0 1 5 9), (AR.mk 0 1 4 12), (AR.mk 1 1 1 0), (AR.mk 1 2 0 0)]) b2 A10 c11 fi5 A13 c14 ed6 0 1 _ _ (Fr.lend hw 0 G lO) (Fr.lend hw 1 G lO) (tab_ok ra5) p8 lO oO oO) ?_))))
 refine .w (fun hb => ev_cmp G (lkg G hb) G G) G (.v (ev_and G G G G) G (.m G G G (.w (fun _ => ev_mv G G) G ?_)))
 refine .cons (st_glendk G G G G G G hbd34 (fun hb => (lkA1 (lkg G hb) (lkA1 G (lkA1 G lkA0)))) (.c .h .n) (.d .n) (fun hb w_ hw => have hp := bT (bA bE bE) hb; gwt_ 3 (tabF 3 false [(AR.mk 0 1 5 9), (AR.mk 0 1 4 12), (AR.mk 1 1 1 0), (AR.mk 1 2 0 0)]) b2 A10 c11 fi5 A13 c14 ed6 1 1 _ _ (Fr.lend hw 0 G lO) (Fr.lend hw 1 G lO) (tab_ok ra5) p8 lO oO oO) ?_)
 refine .w (fun hb => ev_cmp G (lkg G hb) G G) G (.v (ev_and G G G G) G (.m G G G (.w (fun _ => ev_mv G G) G ?_)))
 refine .cons (st_glendk G G G G G G hbd34 (fun hb => (lkA1 (lkg G hb) (lkA1 G (lkA1 G lkA0)))) (.c .h .n) (.d .n) (fun hb w_ hw => have hp := bT (bA (bA bE bE) bE) hb; gwt_ 3 (tabF 3 false [(AR.mk 0 1 5 9), (AR.mk 0 1 4 12), (AR.mk 1 1 1 0), (AR.mk 1 2 0 0)]) b2 A10 c11 fi5 A13 c14 ed6 1 2 _ _ (Fr.lend hw 0 G lO) (Fr.lend hw 1 G lO) (tab_ok ra5) p8 lO oO oO) ?_)
 refine .w (fun hb => ev_cmp G (lkg G hb) G G) G (.v (ev_and G G G G) G (.a G G G (.go idQ ?_)))
 exact .ret idQ (ret1 results17 G .n ⟨(congrArg Value.bool (aw5 p9)), G⟩)
theorem graphF (n : Int) (A : Option Addr) (c : Nat) (l : List AR) (S : Nat → Prop) (wf : World) (hA : Fr eAR S wf A l) (hR : RoadOk n l) :
  TR0 prog 9 [.agg #[.int .i64 n, .slice A l.length c], .bool false] [] S wf (fun v_ C_ => ∃ (b : Nat) (u : Value) (v : Value) (fi : List Int) (ed : List EG) (x : Value) (y : Value) (W : List Int), (GOk n (tabF n false l) fi ed) ∧ (∃ X : List AR, X.Perm l ∧ Srd (ltA false) X 0 (l.length : Int) ∧ ed = (kpA X (l.length : Int)).map (egF false)) ∧ (MF n W (fw (tf n (tabF n false l)) n.toNat)) ∧ v_ = .tuple #[.pointer (some ⟨b, 0, none⟩), .agg #[.int .i64 n, x], .agg #[.int .i64 n, y], .bool true] ∧ C_ = [cel b [u, v] 83, rw_ eZ 3 (u) fi, rw_ eEG 64 (v) ed, rw_ eZ 3 (x) (tabF n false l), rw_ eZ 3 (y) W]) := by
 have hla := hA.len
 have hlen := hR.len
 have hnp := hR.pl
 have hto := tab_ok (d := false) hR
 have htl := hto.len
 have hsq := sq_le hnp
 refine TR.mk func9 G ntmps9 G G (fun w_ => ?_)
 refine .seq (.region (.cons (st_boxa G G G G G (fun b1 => (.a G G G (.cons (st_alloc G G G G zf29 (fun b2 => ?_))))))))
 refine .cons (st_alloc G G G G zf29 (fun b3 => ?_))
 refine .a G G G (.go idQ (.seq (.seq (.region (.f fo24_1 1 G G G G (.l ty22 2 G G G G G ?_))))))
 refine .g underlying22 G G G (.e G G G G G (.m G G G (.cons (st_gcallk G G G G G G hbd17 (fun hb => G) .n (fun hb => have hp := bF bD hb; awake5_ _ _) ?_))))
 refine .w (fun hb => ev_not G (lkg G hb)) G (.r G G G G G (.go idQ (.condI G (bO bD bV) (fun h4 => ?_) (fun h4 => ?_))))
 ·
  exfalso; rcases (by assumption : (l.length : Int) > 300 ∨ false = true) with h_ | h_ <;> first | omega | cases h_
 refine .skipgo idQ (.seq (.region (.a G G G (.go idQ (.seq (.seq (.region (.m G G G ?_))))))))
 refine .go idQ (.cond_f G (.skipgo idQ (.seq (.region (.d 2 ty24 G G G G ?_)))))
 refine .cons (st_call0 G G G G hbd21 G .n (rdcop_ n A c l _ _ hA lO) (fun v_q6 C_q6 q6 => ?_))
 obtain ⟨u5, rfl, rfl⟩ := q6
 show SP _ _ _ _ _ _ ⟨_, _ :: _, _, _⟩
 refine .m G G G (.know (row_len 0 G) (fun hv9 => ?_))
 obtain ⟨A7, c8, rfl, hv9_1, hv9_2⟩ := hv9
 unfold maxLen at hv9_2
 refine .cons (st_lend0 G G G G hbd20 G .n (.c .h .n) (fun w_ hw => new_ n A7 c8 l false _ _ (Fr.lend hw 0 G lO) hR) (fun v_q15 C_q15 q15 => ?_))
 obtain ⟨b10, u11, v12, fi13, ed14, p16, p17, rfl, rfl⟩ := q15
 show SP _ _ _ _ _ _ ⟨_, _ :: _ :: _ :: _ :: _, _, _⟩
 have hgl := p16.len
 have hgn := p16.ne
 refine .m G G G (.x G G G G (.x G G G G (.a G G G ?_)))
 refine .a G G G (.go idQ (.seq (.seq (.region (.m G G G (.v (ev_cmp (r := false) G G G G) G ?_))))))
 refine .go idQ (.cond_f G (.skipgo idQ (.seq (.region (.d 6 ty24 G G G G ?_)))))
 refine .m G G G (.cons (st_call0 G G G G hbd22 G .n (tab_ n A c l false _ _ hA hR) (fun v_q19 C_q19 q19 => ?_)))
 obtain ⟨u18, rfl, rfl⟩ := q19
 show SP _ _ _ _ _ _ ⟨_, _ :: _, _, _⟩
 refine .cons (st_alloc G G G G zf29 (fun b20 => ?_))
 refine .know (row_len 1 G) (fun hv23 => ?_)
 obtain ⟨A21, c22, rfl, hv23_1, hv23_2⟩ := hv23
 unfold maxLen at hv23_2
 refine .cons (st_storea (l' := [.int .i64 n, .slice A21 ((tabF n false l).length) c22]) G G G ty29 G G G .h G G ?_)
 refine .go idQ (.seq ?_)
 refine SC.draw mo [cel b3 [.int .i64 0, .slice none 0 0] 29, cel b2 [.int .i64 0, .slice none 0 0] 29] [] (.c (.t4 (.t2 .h)) (.c (.t4 (.t2 .h)) .n)) (fun _ _ _ => sc0) (fun wf_24 hl_24 hx_24 hR_24 => ?_)
 refine SR.m 0 G G G G ?_
 refine SR.z 1 G G (ev_lda (cs := [.int .i64 n, .slice A21 ((tabF n false l).length) c22]) G G (At.d (At.lent hR_24 0 G G)) ty29) ?_
 refine SR.z 2 G G (ev_lda (cs := [.int .i64 n, .slice A21 ((tabF n false l).length) c22]) G G (At.d (At.lent hR_24 0 G G)) ty29) ?_
 refine SR.o 3 G (st_call0 G G G G hbd23 G .n (least_ n A21 c22 (tabF n false l) _ _ (Fr.lent (S := S) hR_24 1 G lO) hnp hto.len hto.rng) (fun v_q27 C_q27 q27 => ⟨tt0, ?_⟩))
 obtain ⟨u25, W26, p28, rfl, rfl⟩ := q27
 show SR _ _ _ _ _ _ _ _ _ ⟨_, _ :: _, _, _⟩
 refine SR.z 4 G G (ev_as G G) ?_
 refine SR.o 5 G (st_storea (l' := [.int .i64 n, .slice A21 ((tabF n false l).length) c22]) G G G ty29 G G G (.t2 .h) G G ⟨tt0, ?_⟩)
 refine .know (row_len 1 G) (fun hv31 => ?_)
 obtain ⟨A29, c30, rfl, hv31_1, hv31_2⟩ := hv31
 unfold maxLen at hv31_2
 refine SR.o 6 G (st_storea (l' := [.int .i64 n, .slice A29 W26.length c30]) G G G ty29 G G G (.t2 .h) G G ⟨tt0, ?_⟩)
 refine SR.z 7 G G (ev_as G G) ?_
 refine SR.fin kR hl_24 hx_24 hR_24 (.c (.c (.c .n))) ?_
 refine SQ.go idQ ?_
 exact .ret idQ (retv4 results9 (.t G) (.c 1 G G ty29) (.c 0 G G ty29) (.t G) (.c (.t4 (.t .h)) (.c (.t4 (.t .h)) (.c (.t4 (.t .h)) (.c (.t4 .h) (.c (.t2 .h) .n))))) ⟨b10, u11, v12, fi13, ed14, .slice A21 ((tabF n false l).length) c22, .slice A29 W26.length c30, W26, p16, p17, p28, G, G⟩)
theorem graphbadF (n : Int) (A : Option Addr) (c : Nat) (l : List AR) (S : Nat → Prop) (wf : World) (hA : Fr eAR S wf A l) (hR : ¬ RoadOk n l) :
  TR0 prog 9 [.agg #[.int .i64 n, .slice A l.length c], .bool false] [] S wf (fun v_ C_ => v_ = .tuple #[.pointer none, .agg #[.int .i64 0, .slice none 0 0], .agg #[.int .i64 0, .slice none 0 0], .bool false] ∧ C_ = []) := by
 have hla := hA.len
 refine TR.mk func9 G ntmps9 G G (fun w_ => ?_)
 refine .seq (.region (.cons (st_boxa G G G G G (fun b1 => (.a G G G (.cons (st_alloc G G G G zf29 (fun b2 => ?_))))))))
 refine .cons (st_alloc G G G G zf29 (fun b3 => ?_))
 refine .a G G G (.go idQ (.seq (.seq (.region (.f fo24_1 1 G G G G (.l ty22 2 G G G G G ?_))))))
 refine .g underlying22 G G G (.e G G G G G (.m G G G (.cons (st_gcallk G G G G G G hbd17 (fun hb => G) .n (fun hb => have hp := bF bD hb; awake5_ _ _) ?_))))
 refine .w (fun hb => ev_not G (lkg G hb)) G (.r G G G G G (.go idQ (.condI G (bO bD bV) (fun h4 => ?_) (fun h4 => ?_))))
 ·
  refine .seq (.region (.v (ev_any (v := .agg #[.int .i64 0, .slice none 0 0]) G kR (fun _ => by kernel_rfl)) G (.v (ev_any (v := .agg #[.int .i64 0, .slice none 0 0]) G kR (fun _ => by kernel_rfl)) G (.a G G G ?_))))
  refine .cons (st_storea (l' := [.int .i64 0, .slice none 0 0]) G G G ty29 G G G (.t .h) G G ?_)
  refine .cons (st_storea (l' := [.int .i64 0, .slice none 0 0]) G G G ty29 G G G (.t .h) G G ?_)
  refine .a G G G (.go idQ (.ret idQ (retv4 results9 (.t G) (.c 1 G G ty29) (.c 0 G G ty29) (.t G) .n ⟨G, G⟩)))
 refine .skipgo idQ (.seq (.region (.a G G G (.go idQ (.seq (.seq (.region (.m G G G ?_))))))))
 refine .go idQ (.cond_f G (.skipgo idQ (.seq (.region (.d 2 ty24 G G G G ?_)))))
 refine .cons (st_call0 G G G G hbd21 G .n (rdcop_ n A c l _ _ hA lO) (fun v_q6 C_q6 q6 => ?_))
 obtain ⟨u5, rfl, rfl⟩ := q6
 show SP _ _ _ _ _ _ ⟨_, _ :: _, _, _⟩
 refine .m G G G (.know (row_len 0 G) (fun hv9 => ?_))
 obtain ⟨A7, c8, rfl, hv9_1, hv9_2⟩ := hv9
 unfold maxLen at hv9_2
 refine .cons (st_lend0 G G G G hbd20 G .n (.c .h .n) (fun w_ hw => newbad_ n A7 c8 l false _ _ (Fr.lend hw 0 G lO) hR) (fun v_q11 C_q11 q11 => ?_))
 obtain ⟨e10, p12, rfl, rfl⟩ := q11
 show SP _ _ _ _ _ _ ⟨_, _ :: _, _, _⟩
 refine .m G G G (.x G G G G (.x G G G G (.a G G G ?_)))
 refine .a G G G (.go idQ (.seq (.seq (.region (.m G G G (.e G G G G G ?_))))))
 refine .go idQ (.condI G bNE (fun h13 => ?_) (fun h13 => ?_))
 ·
  refine .seq (.region (.v (ev_any (v := .agg #[.int .i64 0, .slice none 0 0]) G kR (fun _ => by kernel_rfl)) G (.v (ev_any (v := .agg #[.int .i64 0, .slice none 0 0]) G kR (fun _ => by kernel_rfl)) G (.a G G G ?_))))
  refine .cons (st_storea (l' := [.int .i64 0, .slice none 0 0]) G G G ty29 G G G (.t2 .h) G G ?_)
  refine .cons (st_storea (l' := [.int .i64 0, .slice none 0 0]) G G G ty29 G G G (.t2 .h) G G ?_)
  refine .a G G G (.go idQ (.ret idQ (retv4 results9 (.t G) (.c 1 G G ty29) (.c 0 G G ty29) (.t G) .n ⟨G, G⟩)))
 exfalso; omega
theorem graphT (n : Int) (A : Option Addr) (c : Nat) (l : List AR) (S : Nat → Prop) (wf : World) (hA : Fr eAR S wf A l) (hR : RoadOk n l) :
  TR0 prog 9 [.agg #[.int .i64 n, .slice A l.length c], .bool true] [] S wf (fun v_ C_ => ∃ (b : Nat) (u : Value) (v : Value) (fi : List Int) (ed : List EG) (x : Value) (y : Value) (W : List Int), (GOk n (tabF n true l) fi ed) ∧ (∃ X : List AR, X.Perm l ∧ Srd (ltA true) X 0 (l.length : Int) ∧ ed = (kpA X (l.length : Int)).map (egF true)) ∧ (MF n W (fw (tf n (tabF n true l)) n.toNat)) ∧ v_ = .tuple #[.pointer (some ⟨b, 0, none⟩), .agg #[.int .i64 n, x], .agg #[.int .i64 n, y], .bool true] ∧ C_ = [cel b [u, v] 83, rw_ eZ 3 (u) fi, rw_ eEG 64 (v) ed, rw_ eZ 3 (x) (tabF n true l), rw_ eZ 3 (y) W]) := by
 have hla := hA.len
 have hlen := hR.len
 have hnp := hR.pl
 have hto := tab_ok (d := true) hR
 have htl := hto.len
 have hsq := sq_le hnp
 refine TR.mk func9 G ntmps9 G G (fun w_ => ?_)
 refine .seq (.region (.cons (st_boxa G G G G G (fun b1 => (.a G G G (.cons (st_alloc G G G G zf29 (fun b2 => ?_))))))))
 refine .cons (st_alloc G G G G zf29 (fun b3 => ?_))
 refine .a G G G (.go idQ (.seq (.seq (.region (.f fo24_1 1 G G G G (.l ty22 2 G G G G G ?_))))))
 refine .g underlying22 G G G (.e G G G G G (.m G G G (.cons (st_gcallk G G G G G G hbd17 (fun hb => G) .n (fun hb => have hp := bF bD hb; awake5_ _ _) ?_))))
 refine .w (fun hb => ev_not G (lkg G hb)) G (.r G G G G G (.go idQ (.condI G (bO bD bV) (fun h4 => ?_) (fun h4 => ?_))))
 ·
  exfalso; rcases (by assumption : (l.length : Int) > 300 ∨ false = true) with h_ | h_ <;> first | omega | cases h_
 refine .skipgo idQ (.seq (.region (.a G G G (.go idQ (.seq (.seq (.region (.m G G G ?_))))))))
 refine .go idQ (.cond_t G (.region (.a G G G ?_)))
 refine .go idQ (.seq (.region (.d 2 ty24 G G G G (.cons (st_call0 G G G G hbd21 G .n (rdcop_ n A c l _ _ hA lO) (fun v_q6 C_q6 q6 => ?_))))))
 obtain ⟨u5, rfl, rfl⟩ := q6
 show SP _ _ _ _ _ _ ⟨_, _ :: _, _, _⟩
 refine .m G G G (.know (row_len 0 G) (fun hv9 => ?_))
 obtain ⟨A7, c8, rfl, hv9_1, hv9_2⟩ := hv9
 unfold maxLen at hv9_2
 refine .cons (st_lend0 G G G G hbd20 G .n (.c .h .n) (fun w_ hw => new_ n A7 c8 l true _ _ (Fr.lend hw 0 G lO) hR) (fun v_q15 C_q15 q15 => ?_))
 obtain ⟨b10, u11, v12, fi13, ed14, p16, p17, rfl, rfl⟩ := q15
 show SP _ _ _ _ _ _ ⟨_, _ :: _ :: _ :: _ :: _, _, _⟩
 have hgl := p16.len
 have hgn := p16.ne
 refine .m G G G (.x G G G G (.x G G G G (.a G G G ?_)))
 refine .a G G G (.go idQ (.seq (.seq (.region (.m G G G (.v (ev_cmp (r := false) G G G G) G ?_))))))
 refine .go idQ (.cond_f G (.skipgo idQ (.seq (.region (.d 6 ty24 G G G G ?_)))))
 refine .m G G G (.cons (st_call0 G G G G hbd22 G .n (tab_ n A c l true _ _ hA hR) (fun v_q19 C_q19 q19 => ?_)))
 obtain ⟨u18, rfl, rfl⟩ := q19
 show SP _ _ _ _ _ _ ⟨_, _ :: _, _, _⟩
 refine .cons (st_alloc G G G G zf29 (fun b20 => ?_))
 refine .know (row_len 1 G) (fun hv23 => ?_)
 obtain ⟨A21, c22, rfl, hv23_1, hv23_2⟩ := hv23
 unfold maxLen at hv23_2
 refine .cons (st_storea (l' := [.int .i64 n, .slice A21 ((tabF n true l).length) c22]) G G G ty29 G G G .h G G ?_)
 refine .go idQ (.seq ?_)
 refine SC.draw mo [cel b3 [.int .i64 0, .slice none 0 0] 29, cel b2 [.int .i64 0, .slice none 0 0] 29] [] (.c (.t4 (.t2 .h)) (.c (.t4 (.t2 .h)) .n)) (fun _ _ _ => sc0) (fun wf_24 hl_24 hx_24 hR_24 => ?_)
 refine SR.m 0 G G G G ?_
 refine SR.z 1 G G (ev_lda (cs := [.int .i64 n, .slice A21 ((tabF n true l).length) c22]) G G (At.d (At.lent hR_24 0 G G)) ty29) ?_
 refine SR.z 2 G G (ev_lda (cs := [.int .i64 n, .slice A21 ((tabF n true l).length) c22]) G G (At.d (At.lent hR_24 0 G G)) ty29) ?_
 refine SR.o 3 G (st_call0 G G G G hbd23 G .n (least_ n A21 c22 (tabF n true l) _ _ (Fr.lent (S := S) hR_24 1 G lO) hnp hto.len hto.rng) (fun v_q27 C_q27 q27 => ⟨tt0, ?_⟩))
 obtain ⟨u25, W26, p28, rfl, rfl⟩ := q27
 show SR _ _ _ _ _ _ _ _ _ ⟨_, _ :: _, _, _⟩
 refine SR.z 4 G G (ev_as G G) ?_
 refine SR.o 5 G (st_storea (l' := [.int .i64 n, .slice A21 ((tabF n true l).length) c22]) G G G ty29 G G G (.t2 .h) G G ⟨tt0, ?_⟩)
 refine .know (row_len 1 G) (fun hv31 => ?_)
 obtain ⟨A29, c30, rfl, hv31_1, hv31_2⟩ := hv31
 unfold maxLen at hv31_2
 refine SR.o 6 G (st_storea (l' := [.int .i64 n, .slice A29 W26.length c30]) G G G ty29 G G G (.t2 .h) G G ⟨tt0, ?_⟩)
 refine SR.z 7 G G (ev_as G G) ?_
 refine SR.fin kR hl_24 hx_24 hR_24 (.c (.c (.c .n))) ?_
 refine SQ.go idQ ?_
 exact .ret idQ (retv4 results9 (.t G) (.c 1 G G ty29) (.c 0 G G ty29) (.t G) (.c (.t4 (.t .h)) (.c (.t4 (.t .h)) (.c (.t4 (.t .h)) (.c (.t4 .h) (.c (.t2 .h) .n))))) ⟨b10, u11, v12, fi13, ed14, .slice A21 ((tabF n true l).length) c22, .slice A29 W26.length c30, W26, p16, p17, p28, G, G⟩)
theorem graphbadT (n : Int) (A : Option Addr) (c : Nat) (l : List AR) (S : Nat → Prop) (wf : World) (hA : Fr eAR S wf A l) (hR : ¬ RoadOk n l) :
  TR0 prog 9 [.agg #[.int .i64 n, .slice A l.length c], .bool true] [] S wf (fun v_ C_ => v_ = .tuple #[.pointer none, .agg #[.int .i64 0, .slice none 0 0], .agg #[.int .i64 0, .slice none 0 0], .bool false] ∧ C_ = []) := by
 have hla := hA.len
 refine TR.mk func9 G ntmps9 G G (fun w_ => ?_)
 refine .seq (.region (.cons (st_boxa G G G G G (fun b1 => (.a G G G (.cons (st_alloc G G G G zf29 (fun b2 => ?_))))))))
 refine .cons (st_alloc G G G G zf29 (fun b3 => ?_))
 refine .a G G G (.go idQ (.seq (.seq (.region (.f fo24_1 1 G G G G (.l ty22 2 G G G G G ?_))))))
 refine .g underlying22 G G G (.e G G G G G (.m G G G (.cons (st_gcallk G G G G G G hbd17 (fun hb => G) .n (fun hb => have hp := bF bD hb; awake5_ _ _) ?_))))
 refine .w (fun hb => ev_not G (lkg G hb)) G (.r G G G G G (.go idQ (.condI G (bO bD bV) (fun h4 => ?_) (fun h4 => ?_))))
 ·
  refine .seq (.region (.v (ev_any (v := .agg #[.int .i64 0, .slice none 0 0]) G kR (fun _ => by kernel_rfl)) G (.v (ev_any (v := .agg #[.int .i64 0, .slice none 0 0]) G kR (fun _ => by kernel_rfl)) G (.a G G G ?_))))
  refine .cons (st_storea (l' := [.int .i64 0, .slice none 0 0]) G G G ty29 G G G (.t .h) G G ?_)
  refine .cons (st_storea (l' := [.int .i64 0, .slice none 0 0]) G G G ty29 G G G (.t .h) G G ?_)
  refine .a G G G (.go idQ (.ret idQ (retv4 results9 (.t G) (.c 1 G G ty29) (.c 0 G G ty29) (.t G) .n ⟨G, G⟩)))
 refine .skipgo idQ (.seq (.region (.a G G G (.go idQ (.seq (.seq (.region (.m G G G ?_))))))))
 refine .go idQ (.cond_t G (.region (.a G G G ?_)))
 refine .go idQ (.seq (.region (.d 2 ty24 G G G G (.cons (st_call0 G G G G hbd21 G .n (rdcop_ n A c l _ _ hA lO) (fun v_q6 C_q6 q6 => ?_))))))
 obtain ⟨u5, rfl, rfl⟩ := q6
 show SP _ _ _ _ _ _ ⟨_, _ :: _, _, _⟩
 refine .m G G G (.know (row_len 0 G) (fun hv9 => ?_))
 obtain ⟨A7, c8, rfl, hv9_1, hv9_2⟩ := hv9
 unfold maxLen at hv9_2
 refine .cons (st_lend0 G G G G hbd20 G .n (.c .h .n) (fun w_ hw => newbad_ n A7 c8 l true _ _ (Fr.lend hw 0 G lO) hR) (fun v_q11 C_q11 q11 => ?_))
 obtain ⟨e10, p12, rfl, rfl⟩ := q11
 show SP _ _ _ _ _ _ ⟨_, _ :: _, _, _⟩
 refine .m G G G (.x G G G G (.x G G G G (.a G G G ?_)))
 refine .a G G G (.go idQ (.seq (.seq (.region (.m G G G (.e G G G G G ?_))))))
 refine .go idQ (.condI G bNE (fun h13 => ?_) (fun h13 => ?_))
 ·
  refine .seq (.region (.v (ev_any (v := .agg #[.int .i64 0, .slice none 0 0]) G kR (fun _ => by kernel_rfl)) G (.v (ev_any (v := .agg #[.int .i64 0, .slice none 0 0]) G kR (fun _ => by kernel_rfl)) G (.a G G G ?_))))
  refine .cons (st_storea (l' := [.int .i64 0, .slice none 0 0]) G G G ty29 G G G (.t2 .h) G G ?_)
  refine .cons (st_storea (l' := [.int .i64 0, .slice none 0 0]) G G G ty29 G G G (.t2 .h) G G ?_)
  refine .a G G G (.go idQ (.ret idQ (retv4 results9 (.t G) (.c 1 G G ty29) (.c 0 G G ty29) (.t G) .n ⟨G, G⟩)))
 exfalso; omega
end Go.Proofs.Ytlefdinbbjiabaa.Sx
set_option maxRecDepth 20000
set_option maxHeartbeats 8000000
namespace Go.Proofs.Ytlefdinbbjiabaa.Sx.FT
open Go Go.SX Go.Proofs Go.Proofs.Try FA FB FC FD FE FF FG FH FI FJ FK FL FM FN FO FP FQ FR FS
theorem hbd9 : hasBody prog 9 = true := by kernel_rfl
theorem hbd10 : hasBody prog 10 = true := by kernel_rfl
theorem hbd11 : hasBody prog 11 = true := by kernel_rfl
theorem eqIn37 (d : Nat) (x0 y0 : Int) (x1 y1 : Int) (x2 y2 : Int) (x3 y3 : Int) (w : World) : (Op.equalIn (d + 3) 37 (.agg #[(.int .i64 x0), (.int .i64 x1), (.int .i64 x2), (.int .i64 x3)]) (.agg #[(.int .i64 y0), (.int .i64 y1), (.int .i64 y2), (.int .i64 y3)])).run prog w = .ok ((x0 == y0) && ((x1 == y1) && ((x2 == y2) && (x3 == y3)))) w := by
 rw [run_equalIn_struct w (d + 2) 37 _ _ kR kR]
 have hf : (prog.fieldsOf 37).toList = [{ name := "From", type := 3, offset := 0, embedded := false, tag := "", pkgPath := "", byteOffset := 0 }, { name := "To", type := 3, offset := 1, embedded := false, tag := "", pkgPath := "", byteOffset := 8 }, { name := "Weight", type := 3, offset := 2, embedded := false, tag := "", pkgPath := "", byteOffset := 16 }, { name := "Mid", type := 3, offset := 3, embedded := false, tag := "", pkgPath := "", byteOffset := 24 }] := by kernel_rfl
 rw [hf]
 have h3 : ∀ (x y : Int) (w : World), (Op.equalIn (d + 2) 3 (.int .i64 x) (.int .i64 y)).run prog w = .ok (x == y) w := fun x y w => by
  simp [Op.equalIn, run_underlying underlying3]
 have p0 : ∀ (x0 : Int) (x1 : Int) (x2 : Int) (x3 : Int) (w : World), (part 3 #[(.int .i64 x0), (.int .i64 x1), (.int .i64 x2), (.int .i64 x3)] 0).run prog w = .ok (.int .i64 x0) w := fun _ _ _ _ _ => by kernel_rfl
 have p1 : ∀ (x0 : Int) (x1 : Int) (x2 : Int) (x3 : Int) (w : World), (part 3 #[(.int .i64 x0), (.int .i64 x1), (.int .i64 x2), (.int .i64 x3)] 1).run prog w = .ok (.int .i64 x1) w := fun _ _ _ _ _ => by kernel_rfl
 have p2 : ∀ (x0 : Int) (x1 : Int) (x2 : Int) (x3 : Int) (w : World), (part 3 #[(.int .i64 x0), (.int .i64 x1), (.int .i64 x2), (.int .i64 x3)] 2).run prog w = .ok (.int .i64 x2) w := fun _ _ _ _ _ => by kernel_rfl
 have p3 : ∀ (x0 : Int) (x1 : Int) (x2 : Int) (x3 : Int) (w : World), (part 3 #[(.int .i64 x0), (.int .i64 x1), (.int .i64 x2), (.int .i64 x3)] 3).run prog w = .ok (.int .i64 x3) w := fun _ _ _ _ _ => by kernel_rfl
 simp only [Op.eqFields, Sem.run_bind, h3, p0, p1, p2, p3, Result.andThen_ok, Sem.run_ite, ne_eq]
 cases g0 : (x0 == y0) <;> cases g1 : (x1 == y1) <;> cases g2 : (x2 == y2) <;> cases g3 : (x3 == y3) <;> simp [g0, g1, g2, g3]
theorem ev37_eql (x y : Operand) (x0 y0 : Int) (x1 y1 : Int) (x2 y2 : Int) (x3 y3 : Int) (w : World) : (do eqGuard .eql 37 x y (.agg #[(.int .i64 x0), (.int .i64 x1), (.int .i64 x2), (.int .i64 x3)]) (.agg #[(.int .i64 y0), (.int .i64 y1), (.int .i64 y2), (.int .i64 y3)]); binOp .eql 37 (.agg #[(.int .i64 x0), (.int .i64 x1), (.int .i64 x2), (.int .i64 x3)]) (.agg #[(.int .i64 y0), (.int .i64 y1), (.int .i64 y2), (.int .i64 y3)]) : Sem Value).run prog w = .ok (.bool (((x0 == y0) && ((x1 == y1) && ((x2 == y2) && (x3 == y3)))))) w := by
 have h1 : (Op.equal 37 (.agg #[(.int .i64 x0), (.int .i64 x1), (.int .i64 x2), (.int .i64 x3)]) (.agg #[(.int .i64 y0), (.int .i64 y1), (.int .i64 y2), (.int .i64 y3)])).run prog w = .ok ((x0 == y0) && ((x1 == y1) && ((x2 == y2) && (x3 == y3)))) w := eqIn37 9997 x0 y0 x1 y1 x2 y2 x3 y3 w
 have h2 : (eqGuard .eql 37 x y (.agg #[(.int .i64 x0), (.int .i64 x1), (.int .i64 x2), (.int .i64 x3)]) (.agg #[(.int .i64 y0), (.int .i64 y1), (.int .i64 y2), (.int .i64 y3)])).run prog w = .ok () w := by kernel_rfl
 simp only [Sem.run_bind, h2, Result.andThen_ok, binOp, h1]
 rfl
end Go.Proofs.Ytlefdinbbjiabaa.Sx.FT
namespace Go.Proofs.Ytlefdinbbjiabaa.Sx
open Go Go.SX Go.Proofs Go.Proofs.Try FA FB FC FD FE FF FG FH FI FJ FK FL FM FN FO FP FQ FR FS FT
theorem awake7_ (S : Nat → Prop) (wf : World) :
  TR0 prog 8 [] [] S wf (fun v_ C_ => v_ = .bool true ∧ C_ = []) := by
 refine TR.mk func8 G ntmps8 G G (fun w_ => ?_)
 refine .seq (.region (.a G G G (.go idQ (.seq (.region (.v (ev_any (v := .agg #[.int .i64 0, .int .i64 1, .int .i64 7, .int .i64 0]) G kR (fun _ => by kernel_rfl)) G ?_))))))
 refine .cons (st_lit eAR (e := 47) (l := [(AR.mk 0 1 7 0)]) G G G G kR G G kW (fun b1 => ?_))
 refine .v (ev_any (v := .agg #[.int .i64 2, .slice (some ⟨b1, 0, none⟩) 1 1]) G kR (fun _ => by kernel_rfl)) G (.cons (st_lend0 G G G G hbd9 G .n (.c .h .n) (fun w_ hw => graphF 2 (some ⟨b1, 0, none⟩) 1 [(AR.mk 0 1 7 0)] _ _ (Fr.lend hw 0 G lO) ra7) (fun v_q10 C_q10 q10 => ?_)))
 obtain ⟨b2, u3, v4, fi5, ed6, x7, y8, W9, p11, p12, p13, rfl, rfl⟩ := q10
 show SP _ _ _ _ _ _ ⟨_, _ :: _ :: _ :: _ :: _ :: _ :: _, _, _⟩
 have hgl := p11.len
 have hgn := p11.ne
 refine .m G G G (.x G G G G (.x G G G G (.x G G G G ?_)))
 refine .x G G G G (.cons (st_alloc G G G G zf29 (fun b14 => (.cons (st_alloc G G G G zf29 (fun b15 => (.a G G G ?_)))))))
 refine .know (row_len 5 G) (fun hv18 => ?_)
 obtain ⟨A16, c17, rfl, hv18_1, hv18_2⟩ := hv18
 unfold maxLen at hv18_2
 refine .cons (st_storea (l' := [.int .i64 2, .slice A16 ((tabF 2 false [(AR.mk 0 1 7 0)]).length) c17]) G G G ty29 G G G (.t .h) G G ?_)
 refine .know (row_len 6 G) (fun hv21 => ?_)
 obtain ⟨A19, c20, rfl, hv21_1, hv21_2⟩ := hv21
 unfold maxLen at hv21_2
 refine .cons (st_storea (l' := [.int .i64 2, .slice A19 W9.length c20]) G G G ty29 G G G (.t .h) G G ?_)
 refine .a G G G (.go idQ (.seq (.region (.m G G G (.know (row_len 3 G) (fun hv24 => ?_))))))
 obtain ⟨A22, c23, rfl, hv24_1, hv24_2⟩ := hv24
 unfold maxLen at hv24_2
 refine .know (row_len 4 G) (fun hv27 => ?_)
 obtain ⟨A25, c26, rfl, hv27_1, hv27_2⟩ := hv27
 unfold maxLen at hv27_2
 refine .cons (st_lend0 G G G G hbd10 G (.c (.t2 .h) .n) (.c (.t2 .h) (.c (.t2 .h) .n)) (fun w_ hw => build_ 2 (tabF 2 false [(AR.mk 0 1 7 0)]) b2 A22 c23 fi5 A25 c26 ed6 _ _ (Fr.lend hw 0 G lO) (Fr.lend hw 1 G lO) (tab_ok ra7) p11 lO) (fun v_q37 C_q37 q37 => ?_))
 obtain ⟨lb28, v129, v230, v331, v432, R33, K34, U35, D36, p38, rfl, rfl⟩ := q37
 show SP _ _ _ _ _ _ ⟨_, _ :: _ :: _ :: _ :: _ :: _ :: _ :: _ :: _ :: _ :: _, _, _⟩
 obtain ⟨hk7, hr7⟩ := k7 p11 p12 p38
 subst hk7
 refine .a G G G (.go idQ (.seq (.region (.m G G G (.m G G G ?_)))))
 refine .cons (.on G G G (Ev.step (ev_mv G G) G G G ?_))
 refine .know (row_len 2 G) (fun hv41 => ?_)
 obtain ⟨A39, c40, rfl, hv41_1, hv41_2⟩ := hv41
 unfold maxLen at hv41_2
 refine .know (row_len 3 G) (fun hv44 => ?_)
 obtain ⟨A42, c43, rfl, hv44_1, hv44_2⟩ := hv44
 unfold maxLen at hv44_2
 refine .know (row_len 4 G) (fun hv47 => ?_)
 obtain ⟨A45, c46, rfl, hv47_1, hv47_2⟩ := hv47
 unfold maxLen at hv47_2
 refine .know (row_len 5 G) (fun hv50 => ?_)
 obtain ⟨A48, c49, rfl, hv50_1, hv50_2⟩ := hv50
 unfold maxLen at hv50_2
 refine .cons (.on G G G (st_callk G G G G hbd13 G (.c (.t .h) (.c (.t .h) (.c (.t .h) (.c (.t .h) (.c (.t .h) (.c (.t .h) (.c (.t .h) .n))))))) (lpl_ lb28 A39 c40 R33 A42 c43 [(LK.mk 0 1 7 (-1))] A45 c46 U35 A48 c49 D36 _ _) ?_))
 refine .cons (.on G G G (Ev.step (ev_cmp G G G G) G G G ?_))
 refine .v (ev_pickt G G G G) G (.m G G G (.w (fun _ => ev_mv G G) G ?_))
 rcases Bool.eq_false_or_eq_true ((R33.length : Int) == 2) with hb51 | hb51
 ·
  refine SP.reslot (t := 23) G hb51 ?_
  have hb51_ := bT bE hb51
  refine .cons (.on G G G (st_call0 G G G G hbd11 (lkA1 (lkg G hb51) lkA0) (.c (.t .h) (.c (.t .h) (.c (.t .h) (.c (.t .h) (.c (.t .h) (.c (.t .h) (.c (.t .h) .n))))))) (lks_ lb28 A39 c40 R33 A42 c43 [(LK.mk 0 1 7 (-1))] A45 c46 U35 A48 c49 D36 _ _ (by decide)) (fun v_q53 C_q53 q53 => ?_)))
  obtain ⟨u52, rfl, rfl⟩ := q53
  show SP _ _ _ _ _ _ ⟨_, _ :: _ :: _ :: _ :: _ :: _ :: _ :: _ :: _, _, _⟩
  refine .know (row_len 7 G) (fun hv56 => ?_)
  obtain ⟨A54, c55, rfl, hv56_1, hv56_2⟩ := hv56
  unfold maxLen at hv56_2
  refine .cons (.on G G G (Ev.step (ev_len G underlying34 G) G G G ?_))
  refine .cons (.on G G G (Ev.step (ev_cmp G G G G) G G G ?_))
  refine .v (ev_pickt G G G G) G (.m G G G (.w (fun _ => ev_mv G G) G ?_))
  rcases Bool.eq_false_or_eq_true ((([(LK.mk 0 1 7 (-1))].length : Nat) : Int) == 1) with hb57 | hb57
  ·
   refine SP.reslot (t := 29) G hb57 ?_
   have hb57_ := bT bE hb57
   refine .cons (.on G G G (st_call0 G G G G hbd11 (lkA1 (lkg G hb57) lkA0) (.d (.d (.d (.c .h .n)))) (lks_ lb28 A39 c40 R33 A42 c43 [(LK.mk 0 1 7 (-1))] A45 c46 U35 A48 c49 D36 _ _ (by decide)) (fun v_q59 C_q59 q59 => ?_)))
   obtain ⟨u58, rfl, rfl⟩ := q59
   show SP _ _ _ _ _ _ ⟨_, _ :: _ :: _ :: _ :: _ :: _ :: _ :: _ :: _, _, _⟩
   refine .know (row_len 7 G) (fun hv62 => ?_)
   obtain ⟨A60, c61, rfl, hv62_1, hv62_2⟩ := hv62
   unfold maxLen at hv62_2
   refine .cons (.on G G G (Ev.step (ev_ix G underlying34 ty37 G G oO oO (row_adr (i := 0) 7 G oO lO)) G G G ?_))
   refine .cons (.on G G G (Ev.step (ev_lda G G (row_el (E := eLK) (l := [(LK.mk 0 1 7 (-1))]) (i := 0) 7 G oO lO) ty37) G G G ?_))
   refine .cons (.on G G G (Ev.step (ev_any (v := .agg #[.int .i64 0, .int .i64 1, .int .i64 7, .int .i64 (-1)]) G kR (fun _ => by kernel_rfl)) G G G ?_))
   refine .cons (.on G G G (Ev.step (ev_bin G G G (r := .bool ((((gt [(LK.mk 0 1 7 (-1))] 0).lf) == 0) && ((((gt [(LK.mk 0 1 7 (-1))] 0).lt) == 1) && ((((gt [(LK.mk 0 1 7 (-1))] 0).lw) == 7) && (((gt [(LK.mk 0 1 7 (-1))] 0).lm) == (-1)))))) (ev37_eql _ _ _ _ _ _ _ _ _ _)) G G G ?_))
   refine .v (ev_pickt G G G G) G (.a G G G (.go idQ (.ret idQ (ret1 results8 G .n ⟨(congrArg Value.bool (by first | decide | (rw [hr7]; decide) | (exfalso; simp_all))), G⟩))))
  refine SP.reslot (t := 29) G hb57 ?_
  have hb57_ := bF bE hb57
  refine .cons (.off G G G G G G ?_)
  refine .cons (.off G G G G G G ?_)
  refine .cons (.off G G G G G G ?_)
  refine .cons (.off G G G G G G ?_)
  refine .cons (.off G G G G G G ?_)
  refine .v (ev_pickf G G G G) G (.a G G G (.go idQ (.ret idQ (ret1 results8 G .n ⟨(congrArg Value.bool (by first | decide | (rw [hr7]; decide) | (exfalso; simp_all))), G⟩))))
 refine SP.reslot (t := 23) G hb51 ?_
 have hb51_ := bF bE hb51
 refine .cons (.off G G G G G G ?_)
 refine .cons (.off G G G G G G ?_)
 refine .cons (.off G G G G G G ?_)
 refine .v (ev_pickf G G G G) G (.m G G G (.cons (.off G G G G G G (.cons (.off G G G G G G ?_)))))
 refine .cons (.off G G G G G G ?_)
 refine .cons (.off G G G G G G ?_)
 refine .cons (.off G G G G G G ?_)
 refine .cons (.off G G G G G G ?_)
 refine .v (ev_pickf G G G G) G (.a G G G (.go idQ (.ret idQ (ret1 results8 G .n ⟨(congrArg Value.bool (by first | decide | (rw [hr7]; decide) | (exfalso; simp_all))), G⟩))))
end Go.Proofs.Ytlefdinbbjiabaa.Sx
set_option maxRecDepth 20000
set_option maxHeartbeats 8000000
set_option maxRecDepth 20000
set_option maxHeartbeats 8000000
set_option maxRecDepth 20000
set_option maxHeartbeats 8000000
set_option maxRecDepth 20000
set_option maxHeartbeats 8000000
set_option maxRecDepth 20000
set_option maxHeartbeats 8000000
namespace Go.Proofs.Ytlefdinbbjiabaa.Sx.FY
open Go Go.SX Go.Proofs Go.Proofs.Try FA FB FC FD FE FF FG FH FI FJ FK FL FM FN FO FP FQ FR FS FT
theorem hbd15 : hasBody prog 15 = true := by kernel_rfl
theorem hbd14 : hasBody prog 14 = true := by kernel_rfl
end Go.Proofs.Ytlefdinbbjiabaa.Sx.FY
namespace Go.Proofs.Ytlefdinbbjiabaa.Sx
open Go Go.SX Go.Proofs Go.Proofs.Try FA FB FC FD FE FF FG FH FI FJ FK FL FM FN FO FP FQ FR FS FT FY
theorem least2_ (n : Int) (A : Option Addr) (c : Nat) (l : List Int) (f : Int → Int → Int) (S : Nat → Prop) (wf : World) (hA : Fr eZ S wf A l) (h1 : 1 ≤ n ∧ n ≤ 32) (hM : MF n l f) (hfb0 : ∀ k : Nat, k ≤ 32 → FB (fw f k) 200000000000000000) :
  TR0 prog 23 [.agg #[.int .i64 n, .slice A l.length c]] [] S wf (fun v_ C_ => ∃ (u : Value) (W : List Int), (MF n W (fw f n.toNat)) ∧ v_ = .agg #[.int .i64 n, u] ∧ C_ = [rw_ eZ 3 (u) W]) := by
 have hla := hA.len
 have hsq := sq_le h1
 have hl := hM.len
 refine TR.mk func23 G ntmps23 G G (fun w_ => ?_)
 refine .seq (.region (.cons (st_boxa G G G G G (fun b1 => (.cons (st_alloc G G G G zf29 (fun b2 => (.go idQ (.seq (.region ?_))))))))))
 refine .f fo29_0 0 G G G G (.l ty3 1 G G G G G (.a G G G (.go idQ (.seq (.region ?_)))))
 refine .m G G G (.cons (st_lit eZ (e := 3) (l := []) G G G G kR G G kW (fun b3 => (.f fo29_1 1 G G G G (.l ty27 2 G G G G G ?_)))))
 refine .cons (st_app0 (E := eZ) (m := l) G G G G underlying27 ai3 G G G .h rO (Src.w (Fr.flat hA)) lO G (fun v4 => ?_))
 refine .know (row_len 0 G) (fun hv7 => ?_)
 obtain ⟨A5, c6, rfl, hv7_1, hv7_2⟩ := hv7
 unfold maxLen at hv7_2
 refine .v (ev_any (v := .agg #[.int .i64 n, .slice A5 l.length c6]) G kR (fun _ => by kernel_rfl)) G (.cons (st_alloc G G G G zf29 (fun b8 => (.cons (st_storea (l' := [.int .i64 n, .slice A5 l.length c6]) G G G ty29 G G G .h G G (.go idQ (.seq (.seq (.region ?_)))))))))
 refine .a G G G (.go idQ (.block (.loop (X := Int × (List Int) × Value) (fun ⟨a, X, u_X⟩ => 0 ≤ a ∧ a ≤ n ∧ MF n X (dgf f a)) (fun ⟨a, X, u_X⟩ => [(2, .pointer (some ⟨b2, 0, none⟩)), (3, .int .i64 n), (4, .pointer (some ⟨b8, 0, none⟩)), (5, .int .i64 a)]) (fun ⟨a, X, u_X⟩ => [cel b8 [.int .i64 n, u_X] 29, rw_ eZ 3 (u_X) X, cel b2 [.int .i64 0, .slice none 0 0] 29, cel b1 [.int .i64 n, .slice A l.length c] 29]) (fun _ => S) (fun _ => wf) (fun ⟨a, X, u_X⟩ => (n - a).toNat) (fun a_ w_ hs_ hw_ => ⟨⟨0, l, .slice A5 l.length c6⟩, (by (try dsimp only); exact ⟨oO, oO, (dg_0m hM)⟩), hs_.mono (Sub.get (.c4 G G G G .n)), hw_.keep (.d (.d .n))⟩) (fun ⟨a, X, u_X⟩ ⟨q_0, q_1, q_2⟩ => ?_))))
 try dsimp only
 have hxl := q_2.len
 refine .seq (.seq (.region (.m G G G (.m G G G (.e G G G G G ?_)))))
 refine .go idQ (.condI G bD (fun h9 => ?_) (fun h9 => ?_))
 ·
  refine .skipgo idQ (.seq (.block ?_))
  have hix := idx_rng (n := n) (a := a) (b := a) ⟨by omega, by omega⟩ ⟨by omega, by omega⟩
  refine .region (.f fo29_1 1 G G G G (.l ty27 0 G G G G G (.m G G G ?_)))
  refine .m G G G (.v (ev_mul G G G (r := (a * n)) G oO oO) G (.m G G G (.p (((a * n) + a)) oO oO G G G G G ?_)))
  refine .know (row_len 1 G) (fun hv12 => ?_)
  obtain ⟨A10, c11, rfl, hv12_1, hv12_2⟩ := hv12
  unfold maxLen at hv12_2
  refine .v (ev_ix G underlying27 ty3 G G oO oO (row_adr (i := ((a * n) + a)) 1 G oO oO)) G (.cons (st_setel (E := eZ) (i := ((a * n) + a)) (cs := [.int .i64 0]) (off := 0) 0 G G G ty3 G G G G G (.t .h) lO lO (Nat.le_of_ble_eq_true G) G (.go idQ (.region (.m G G G ?_)))))
  refine .p ((a + 1)) oO oO G G G G G (.a G G G ?_)
  exact SP.nil (SQ.roundb (X := Int × (List Int) × Value) (x := (a, X, (.slice A10 X.length c11))) ⟨(a + 1), (X.set (((a * n) + a)).toNat 0), .slice A10 X.length c11⟩ (by (try dsimp only); exact ⟨oO, oO, (dg_next q_2 ⟨by omega, by omega⟩)⟩) dO (Sub.get (.c4 G G G G .n)) (kp (.c (.t .h) (.d (.c .h .n)))))
 refine .exit idQ ?_
 refine .seq (.seq (.region (.a G G G (.go idQ (.block (.loop (X := Int × (List Int) × Value) (fun ⟨k, Y, u_Y⟩ => 0 ≤ k ∧ k ≤ n ∧ MF n Y (fw f k.toNat)) (fun ⟨k, Y, u_Y⟩ => [(2, .pointer (some ⟨b2, 0, none⟩)), (3, .int .i64 n), (4, .pointer (some ⟨b8, 0, none⟩)), (5, .int .i64 a), (6, .int .i64 k)]) (fun ⟨k, Y, u_Y⟩ => [cel b8 [.int .i64 n, u_Y] 29, rw_ eZ 3 (u_Y) Y, cel b2 [.int .i64 0, .slice none 0 0] 29, cel b1 [.int .i64 n, .slice A l.length c] 29]) (fun _ => S) (fun _ => wf) (fun ⟨k, Y, u_Y⟩ => (n - k).toNat) (fun a_ w_ hs_ hw_ => ⟨⟨0, X, u_X⟩, (by (try dsimp only); exact ⟨oO, oO, (dg_end q_2 oO)⟩), hs_.mono (Sub.get (.c4 G G G G (.c G .n))), hw_.keep (.d (.d .n))⟩) (fun ⟨k, Y, u_Y⟩ ⟨r_0, r_1, r_2⟩ => ?_)))))))
 try dsimp only
 have hyl := r_2.len
 refine .seq (.seq (.region (.m G G G (.m G G G (.e G G G G G ?_)))))
 refine .go idQ (.condI G bD (fun h13 => ?_) (fun h13 => ?_))
 ·
  refine .skipgo idQ (.seq (.block (.seq (.region (.a G G G (.go idQ (.block (.loop (X := Int × (List Int) × Value) (fun ⟨i, Z, u_Z⟩ => 0 ≤ i ∧ i ≤ n ∧ MF n Z (stg (fw f k.toNat) k i 0)) (fun ⟨i, Z, u_Z⟩ => [(2, .pointer (some ⟨b2, 0, none⟩)), (3, .int .i64 n), (4, .pointer (some ⟨b8, 0, none⟩)), (5, .int .i64 a), (6, .int .i64 k), (7, .int .i64 i)]) (fun ⟨i, Z, u_Z⟩ => [cel b8 [.int .i64 n, u_Z] 29, rw_ eZ 3 (u_Z) Z, cel b2 [.int .i64 0, .slice none 0 0] 29, cel b1 [.int .i64 n, .slice A l.length c] 29]) (fun _ => S) (fun _ => wf) (fun ⟨i, Z, u_Z⟩ => (n - i).toNat) (fun a_ w_ hs_ hw_ => ⟨⟨0, Y, u_Y⟩, (by (try dsimp only); exact ⟨oO, oO, (stg_0 r_2)⟩), hs_.mono (Sub.get (.c4 G G G G (.c G (.c G .n)))), hw_.keep (.d (.d .n))⟩) (fun ⟨i, Z, u_Z⟩ ⟨s_0, s_1, s_2⟩ => ?_)))))))))
  try dsimp only
  have hzl := s_2.len
  refine .seq (.seq (.region (.m G G G (.m G G G (.e G G G G G ?_)))))
  refine .go idQ (.condI G bD (fun h14 => ?_) (fun h14 => ?_))
  ·
   refine .skipgo idQ (.seq (.block (.seq (.region (.a G G G (.go idQ (.block (.loop (X := Int × (List Int) × Value) (fun ⟨j, V, u_V⟩ => 0 ≤ j ∧ j ≤ n ∧ MF n V (stg (fw f k.toNat) k i j)) (fun ⟨j, V, u_V⟩ => [(2, .pointer (some ⟨b2, 0, none⟩)), (3, .int .i64 n), (4, .pointer (some ⟨b8, 0, none⟩)), (5, .int .i64 a), (6, .int .i64 k), (7, .int .i64 i), (8, .int .i64 j)]) (fun ⟨j, V, u_V⟩ => [cel b8 [.int .i64 n, u_V] 29, rw_ eZ 3 (u_V) V, cel b2 [.int .i64 0, .slice none 0 0] 29, cel b1 [.int .i64 n, .slice A l.length c] 29]) (fun _ => S) (fun _ => wf) (fun ⟨j, V, u_V⟩ => (n - j).toNat) (fun a_ w_ hs_ hw_ => ⟨⟨0, Z, u_Z⟩, (by (try dsimp only); exact ⟨oO, oO, (by assumption)⟩), hs_.mono (Sub.get (.c4 G G G G (.c G (.c G (.c G .n))))), hw_.keep (.d (.d .n))⟩) (fun ⟨j, V, u_V⟩ ⟨u_0, u_1, u_2⟩ => ?_)))))))))
   try dsimp only
   have hvl := u_2.len
   refine .seq (.seq ?_)
   have hfb := hfb0 k.toNat oO
   refine .region (.m G G G (.m G G G (.e G G G G G ?_)))
   refine .go idQ (.condI G bD (fun h15 => ?_) (fun h15 => ?_))
   ·
    refine .skipgo idQ (.seq (.block (.seq ?_)))
    have hi1 := idx_rng (n := n) (a := i) (b := k) ⟨by omega, by omega⟩ ⟨by omega, by omega⟩
    have hi2 := idx_rng (n := n) (a := k) (b := j) ⟨by omega, by omega⟩ ⟨by omega, by omega⟩
    have hi3 := idx_rng (n := n) (a := i) (b := j) ⟨by omega, by omega⟩ ⟨by omega, by omega⟩
    have hga := stg_a u_2 hfb ⟨by omega, by omega⟩ ⟨by omega, by omega⟩
    have hgb := stg_b u_2 hfb ⟨by omega, by omega⟩ ⟨by omega, by omega⟩
    have hba := hfb.hi i k
    have hbb := hfb.hi k j
    have hbc := hfb.lo i k
    have hbd := hfb.lo k j
    refine .know (row_len 1 G) (fun hv18 => ?_)
    obtain ⟨A16, c17, rfl, hv18_1, hv18_2⟩ := hv18
    unfold maxLen at hv18_2
    refine SC.draw mo [] [] .n (fun _ _ _ => sc0) (fun wf_19 hl_19 hx_19 hR_19 => ?_)
    refine SR.z 0 G G (ev_fa G fo29_1 G (r := 1) G) ?_
    refine SR.z 1 G G (ev_ld1 G ty27 G (At.d (At.lent hR_19 0 G G))) ?_
    refine SR.m 2 G G G G ?_
    refine SR.m 3 G G G G ?_
    refine SR.z 4 G G (ev_mul G G G (r := (i * n)) G oO oO) ?_
    refine SR.m 5 G G G G ?_
    refine SR.z 6 G G (ev_add G G G (r := ((i * n) + k)) G oO oO) ?_
    refine SR.z 7 G G (ev_ix G underlying27 ty3 G G oO oO (fun _ _ => Fr.adr (i := ((i * n) + k)) (Fr.lent (S := S) hR_19 1 G lO) oO oO)) ?_
    refine SR.z 8 G G (ev_ld1 G ty3 G (At.elem1 (At.d (Fr.el (i := ((i * n) + k)) (Fr.lent (S := S) hR_19 1 G lO) oO oO)) 0 G)) ?_
    refine SR.z 9 G G (ev_fa G fo29_1 G (r := 1) G) ?_
    refine SR.z 10 G G (ev_ld1 G ty27 G (At.d (At.lent hR_19 0 G G))) ?_
    refine SR.m 11 G G G G ?_
    refine SR.m 12 G G G G ?_
    refine SR.z 13 G G (ev_mul G G G (r := (k * n)) G oO oO) ?_
    refine SR.m 14 G G G G ?_
    refine SR.z 15 G G (ev_add G G G (r := ((k * n) + j)) G oO oO) ?_
    refine SR.z 16 G G (ev_ix G underlying27 ty3 G G oO oO (fun _ _ => Fr.adr (i := ((k * n) + j)) (Fr.lent (S := S) hR_19 1 G lO) oO oO)) ?_
    refine SR.z 17 G G (ev_ld1 G ty3 G (At.elem1 (At.d (Fr.el (i := ((k * n) + j)) (Fr.lent (S := S) hR_19 1 G lO) oO oO)) 0 G)) ?_
    refine SR.z 18 G G (ev_fa G fo29_1 G (r := 1) G) ?_
    refine SR.z 19 G G (ev_ld1 G ty27 G (At.d (At.lent hR_19 0 G G))) ?_
    refine SR.m 20 G G G G ?_
    refine SR.m 21 G G G G ?_
    refine SR.z 22 G G (ev_mul G G G (r := (i * n)) G oO oO) ?_
    refine SR.m 23 G G G G ?_
    refine SR.z 24 G G (ev_add G G G (r := ((i * n) + j)) G oO oO) ?_
    refine SR.z 25 G G (ev_ix G underlying27 ty3 G G oO oO (fun _ _ => Fr.adr (i := ((i * n) + j)) (Fr.lent (S := S) hR_19 1 G lO) oO oO)) ?_
    refine SR.z 26 G G (ev_ld1 G ty3 G (At.elem1 (At.d (Fr.el (i := ((i * n) + j)) (Fr.lent (S := S) hR_19 1 G lO) oO oO)) 0 G)) ?_
    refine SR.z 27 G G (ev_as G G) ?_
    refine SR.z 28 G G (ev_as G G) ?_
    refine SR.z 29 G G (ev_as G G) ?_
    refine SR.fin kR hl_19 hx_19 hR_19 .n ?_
    refine SQ.go idQ ?_
    refine .seq (.region (.m G G G (.e G G G G G (.m G G G ?_))))
    refine .w (fun _ => ev_mv G G) G (.w (fun hb => ev_cmp G (lkg G hb) G G) G (.v (ev_and G G G G) G (.m G G G ?_)))
    refine .w (fun _ => ev_mv G G) G (.w (fun hb => ev_cmp G (lkg G hb) G G) G (.w (fun hb => ev_mv G (lkg G hb)) G (.cons (Ev.ggstep (b1 := ((decide ((gt V ((i * n) + k)) ≥ 0)) && (decide ((gt V ((k * n) + j)) ≥ 0)))) (b := (decide ((gt V ((i * n) + j)) < 0))) cb_tf (fun hb1 _ => ev_mv G G) G G G G G ?_))))
    refine .cons (Ev.ggstep (b1 := ((decide ((gt V ((i * n) + k)) ≥ 0)) && (decide ((gt V ((k * n) + j)) ≥ 0)))) (b := (decide ((gt V ((i * n) + j)) < 0))) cb_tf (fun hb1 _ => ev_mv G G) G G G G G ?_)
    refine .cons (Ev.ggstep (b1 := ((decide ((gt V ((i * n) + k)) ≥ 0)) && (decide ((gt V ((k * n) + j)) ≥ 0)))) (b := (decide ((gt V ((i * n) + j)) < 0))) cb_tf (fun hb1 hb => have hp := bT (bA (bA bD bD) (bN bD)) hb; ev_add G (lkg G hb) (lkg G hb) (r := ((gt V ((i * n) + k)) + (gt V ((k * n) + j)))) G (by have _h := hp; omega) (by have _h := hp; omega)) G G G G G ?_)
    refine .cons (Ev.ggstep (b1 := ((decide ((gt V ((i * n) + k)) ≥ 0)) && (decide ((gt V ((k * n) + j)) ≥ 0)))) (b := (decide ((gt V ((i * n) + j)) < 0))) cb_tf (fun hb1 _ => ev_mv G G) G G G G G ?_)
    refine .cons (Ev.ggstep (b1 := ((decide ((gt V ((i * n) + k)) ≥ 0)) && (decide ((gt V ((k * n) + j)) ≥ 0)))) (b := (decide ((gt V ((i * n) + j)) < 0))) cb_tf (fun hb1 hb => ev_cmp G (lkg G hb) (lkg G hb) G) G G G G G ?_)
    refine .w (fun hb => ev_or G (lkg G hb) G (lkgn G cb_tf hb)) G (.v (ev_and G G G G) G (.go idQ (.condI G (bA (bA bD bD) (bO bD bD)) (fun h20 => ?_) (fun h20 => ?_))))
    ·
     refine .region (.f fo29_1 1 G G G G (.l ty27 0 G G G G G (.m G G G ?_)))
     refine .m G G G (.v (ev_mul G G G (r := (i * n)) G oO oO) G (.m G G G (.p (((i * n) + j)) oO oO G G G G G ?_)))
     refine .m G G G (.m G G G (.v (ev_add G G G (r := ((gt V ((i * n) + k)) + (gt V ((k * n) + j)))) G oO oO) G (.v (ev_ix G underlying27 ty3 G G oO oO (row_adr (i := ((i * n) + j)) 1 G oO oO)) G ?_)))
     refine .cons (st_setel (E := eZ) (i := ((i * n) + j)) (cs := [.int .i64 ((gt V ((i * n) + k)) + (gt V ((k * n) + j)))]) (off := 0) ((gt V ((i * n) + k)) + (gt V ((k * n) + j))) G G G ty3 G G G G G (.t .h) lO lO (Nat.le_of_ble_eq_true G) G ?_)
     refine .go idQ (.region (.m G G G (.p ((j + 1)) oO oO G G G G G (.a G G G ?_))))
     exact SP.nil (SQ.roundb (X := Int × (List Int) × Value) (x := (j, V, (.slice A16 V.length c17))) ⟨(j + 1), (V.set (((i * n) + j)).toNat ((gt V ((i * n) + k)) + (gt V ((k * n) + j)))), .slice A16 V.length c17⟩ (by (try dsimp only); exact ⟨oO, oO, (stg_yes u_2 hfb ⟨by omega, by omega⟩ ⟨by omega, by omega⟩ ⟨by omega, by omega⟩ h20)⟩) dO (Sub.get (.c4 G G G G (.c G (.c G (.c G .n))))) (kp (.c (.t .h) (.d (.c .h .n)))))
    refine .skipgo idQ (.region (.m G G G (.p ((j + 1)) oO oO G G G G G (.a G G G ?_))))
    exact SP.nil (SQ.roundb (X := Int × (List Int) × Value) (x := (j, V, (.slice A16 V.length c17))) ⟨(j + 1), V, .slice A16 V.length c17⟩ (by (try dsimp only); exact ⟨oO, oO, (stg_no u_2 hfb ⟨by omega, by omega⟩ ⟨by omega, by omega⟩ ⟨by omega, by omega⟩ h20)⟩) dO (Sub.get (.c4 G G G G (.c G (.c G (.c G .n))))) (kp (.d (.d .n))))
   refine .exit idQ ?_
   refine .region (.m G G G (.p ((i + 1)) oO oO G G G G G (.a G G G ?_)))
   exact SP.nil (SQ.roundb (X := Int × (List Int) × Value) (x := (i, Z, u_Z)) ⟨(i + 1), V, u_V⟩ (by (try dsimp only); exact ⟨oO, oO, (stg_row u_2 oO)⟩) dO (Sub.get (.c4 G G G G (.c G (.c G .n)))) (kp (.d (.d .n))))
  refine .exit idQ ?_
  refine .region (.m G G G (.p ((k + 1)) oO oO G G G G G (.a G G G ?_)))
  exact SP.nil (SQ.roundb (X := Int × (List Int) × Value) (x := (k, Y, u_Y)) ⟨(k + 1), Z, u_Z⟩ (by (try dsimp only); exact ⟨oO, oO, (fw_next s_2 oO oO)⟩) dO (Sub.get (.c4 G G G G (.c G .n))) (kp (.d (.d .n))))
 refine .exit idQ ?_
 refine .seq (.region (.d 0 ty29 G G G G (.know (row_len 1 G) (fun hv23 => ?_))))
 obtain ⟨A21, c22, rfl, hv23_1, hv23_2⟩ := hv23
 unfold maxLen at hv23_2
 refine .cons (st_storea (l' := [.int .i64 n, .slice A21 Y.length c22]) G G G ty29 G G G (.t2 .h) G G ?_)
 refine .go idQ (.ret idQ (retv1 results23 (.c 0 G G ty29) (.c (.t2 .h) .n) ⟨.slice A21 Y.length c22, Y, (by rw [show n = k from by omega]; rw [show n = k from by omega] at r_2; exact r_2), G, G⟩))
theorem climbU (lb : Nat) (rA : Option Addr) (rc : Nat) (R : List Int) (kA : Option Addr) (kc : Nat) (K : List LK) (uA : Option Addr) (uc : Nat) (U : List IL) (dA : Option Addr) (dc : Nat) (D : List IL) (n : Int) (S : Nat → Prop) (wf : World) (hL : LOk R K U D) (h1 : 1 ≤ n ∧ n ≤ 32) (hRn : (R.length : Int) = n) (hlk : ∀ p : Int, 0 ≤ p → p < n → ∀ k ∈ (pkL R K U p), lkOk n k) (hfb : ∀ k : Nat, k ≤ 32 → FB (fw (clipF n (upT n R K U)) k) 200000000000000000) :
  TR0 prog 16 [.pointer (some ⟨lb, 0, none⟩), .int .i64 n, .bool true] [cel lb [.slice rA R.length rc, .slice kA K.length kc, .slice uA U.length uc, .slice dA D.length dc] 68, rw_ eZ 3 (.slice rA R.length rc) R, rw_ eLK 37 (.slice kA K.length kc) K, rw_ eIL 27 (.slice uA U.length uc) U, rw_ eIL 27 (.slice dA D.length dc) D, nestIL 3 U, nestIL 3 D] S wf (fun v_ C_ => ∃ (u : Value) (W : List Int), (MF n W (fw (clipF n (upT n R K U)) n.toNat)) ∧ v_ = .agg #[.int .i64 n, u] ∧ C_ = [cel lb [.slice rA R.length rc, .slice kA K.length kc, .slice uA U.length uc, .slice dA D.length dc] 68, rw_ eZ 3 (.slice rA R.length rc) R, rw_ eLK 37 (.slice kA K.length kc) K, rw_ eIL 27 (.slice uA U.length uc) U, rw_ eIL 27 (.slice dA D.length dc) D, nestIL 3 U, nestIL 3 D, rw_ eZ 3 (u) W]) := by
 have hsq := sq_le h1
 refine TR.mk func16 G ntmps16 G G (fun w_ => ?_)
 refine .seq (.region (.cons (st_alloc G G G G zf29 (fun b1 => (.go idQ (.seq (.region (.m G G G ?_))))))))
 refine .v (ev_any (v := .agg #[.int .i64 n, .slice none 0 0]) G kR (fun _ => by kernel_rfl)) G (.cons (st_alloc G G G G zf29 (fun b2 => (.cons (st_storea (l' := [.int .i64 n, .slice none 0 0]) G G G ty29 G G G .h G G (.go idQ (.seq (.seq (.region ?_)))))))))
 refine .a G G G (.go idQ (.block ?_))
 refine SC.nilrow eZ 3 ?_
 refine .loop (X := Int × (List Int) × Value) (fun ⟨k, X, u_X⟩ => 0 ≤ k ∧ k ≤ (n * n) ∧ X = List.replicate k.toNat (-1 : Int)) (fun ⟨k, X, u_X⟩ => [(0, .pointer (some ⟨lb, 0, none⟩)), (1, .int .i64 n), (2, .bool true), (6, .pointer (some ⟨b1, 0, none⟩)), (7, .pointer (some ⟨b2, 0, none⟩)), (8, .int .i64 k)]) (fun ⟨k, X, u_X⟩ => [rw_ eZ 3 (u_X) X, cel b2 [.int .i64 n, u_X] 29, cel b1 [.int .i64 0, .slice none 0 0] 29, cel lb [.slice rA R.length rc, .slice kA K.length kc, .slice uA U.length uc, .slice dA D.length dc] 68, rw_ eZ 3 (.slice rA R.length rc) R, rw_ eLK 37 (.slice kA K.length kc) K, rw_ eIL 27 (.slice uA U.length uc) U, rw_ eIL 27 (.slice dA D.length dc) D, nestIL 3 U, nestIL 3 D]) (fun _ => S) (fun _ => wf) (fun ⟨k, X, u_X⟩ => ((n * n) - k).toNat) (fun a_ w_ hs_ hw_ => ⟨⟨0, ([] : List Int), .slice none 0 0⟩, (by (try dsimp only); exact ⟨oO, oO, (by rfl)⟩), hs_.mono (Sub.get (.c4 G G G G (.c G (.c G .n)))), hw_.keep (.d (.d (.d (.d (.d .n)))))⟩) (fun ⟨k, X, u_X⟩ ⟨q_0, q_1, q_2⟩ => ?_)
 try dsimp only
 have hxl : X.length = k.toNat := by rw [q_2, List.length_replicate]
 refine .seq (.seq (.region (.m G G G (.m G G G (.m G G G ?_)))))
 refine .v (ev_mul G G G (r := (n * n)) G oO oO) G (.e G G G G G (.go idQ (.condI G bD (fun h3 => ?_) (fun h3 => ?_))))
 ·
  refine .skipgo idQ (.seq (.block (.region (.f fo29_1 1 G G G G (.l ty27 1 G G G G G (.cons (st_lit eZ (e := 3) (l := [(-1)]) G G G G kR G G kW (fun b4 => ?_))))))))
  refine .cons (st_app (E := eZ) (m := [(-1)]) G G G G underlying27 ai3 G G G (.t .h) rO (row_src 0 G) lO G (fun v5 => ?_))
  refine .f fo29_1 1 G G G G (.know (row_len 0 G) (fun hv8 => ?_))
  obtain ⟨A6, c7, rfl, hv8_1, hv8_2⟩ := hv8
  unfold maxLen at hv8_2
  refine .cons (st_store1 G G G ty27 G G G (.t2 .h) (.t .h) ?_)
  refine .go idQ (.region (.m G G G (.p ((k + 1)) oO oO G G G G G (.a G G G ?_))))
  exact SP.nil (SQ.roundb (X := Int × (List Int) × Value) (x := (k, X, u_X)) ⟨(k + 1), (X ++ [(-1)]), .slice A6 ((X ++ [(-1)]).length) c7⟩ (by (try dsimp only); exact ⟨oO, oO, (by rw [q_2]; exact (rep_snoc q_0).symm)⟩) dO (Sub.get (.c4 G G G G (.c G (.c G .n)))) (kp (.c (.t .h) (.c .h (.c (.t .h) (.c (.t .h) (.c (.t .h) (.c (.t .h) (.c (.t .h) (.c (.t .h) (.c (.t .h) (.c (.t .h) .n))))))))))))
 refine .exit idQ ?_
 refine .seq (.seq (.know (row_len 0 G) (fun hv11 => ?_)))
 obtain ⟨A9, c10, rfl, hv11_1, hv11_2⟩ := hv11
 unfold maxLen at hv11_2
 obtain rfl : k = n * n := by omega
 refine .region (.a G G G (.go idQ (.block (.loop (X := Int × (List Int) × Value) (fun ⟨p, Y, u_Y⟩ => 0 ≤ p ∧ p ≤ n ∧ Y = (allP R K U p.toNat).foldl (minSt n) (List.replicate (n * n).toNat (-1 : Int)) ∧ Y.length = (n * n).toNat) (fun ⟨p, Y, u_Y⟩ => [(0, .pointer (some ⟨lb, 0, none⟩)), (1, .int .i64 n), (2, .bool true), (6, .pointer (some ⟨b1, 0, none⟩)), (7, .pointer (some ⟨b2, 0, none⟩)), (8, .int .i64 (n * n)), (9, .int .i64 p)]) (fun ⟨p, Y, u_Y⟩ => [rw_ eZ 3 (u_Y) Y, cel b2 [.int .i64 n, u_Y] 29, cel b1 [.int .i64 0, .slice none 0 0] 29, cel lb [.slice rA R.length rc, .slice kA K.length kc, .slice uA U.length uc, .slice dA D.length dc] 68, rw_ eZ 3 (.slice rA R.length rc) R, rw_ eLK 37 (.slice kA K.length kc) K, rw_ eIL 27 (.slice uA U.length uc) U, rw_ eIL 27 (.slice dA D.length dc) D, nestIL 3 U, nestIL 3 D]) (fun _ => S) (fun _ => wf) (fun ⟨p, Y, u_Y⟩ => (n - p).toNat) (fun a_ w_ hs_ hw_ => ⟨⟨0, X, .slice A9 X.length c10⟩, (by (try dsimp only); exact ⟨oO, oO, (by exact q_2), oO⟩), hs_.mono (Sub.get (.c4 G G G G (.c G (.c G (.c G .n))))), hw_.keep (.d (.d (.d (.d (.d .n)))))⟩) (fun ⟨p, Y, u_Y⟩ ⟨r_0, r_1, r_2, r_3⟩ => ?_)))))
 try dsimp only
 refine .seq (.seq (.region (.m G G G (.m G G G (.e G G G G G ?_)))))
 refine .go idQ (.condI G bD (fun h12 => ?_) (fun h12 => ?_))
 ·
  refine .skipgo idQ (.seq (.block (.seq ?_)))
  have hpu := pk_len hL p
  refine .region (.m G G G (.m G G G (.cons (st_call0 G G G G hbd15 G (.c (.t2 (.t .h)) (.c (.t2 (.t .h)) (.c (.t2 (.t .h)) (.c (.t2 (.t .h)) (.c (.t2 (.t .h)) (.c (.t2 (.t .h)) (.c (.t2 (.t .h)) .n))))))) (ldown_ lb rA rc R kA kc K uA uc U dA dc D p _ _ hL) (fun v_q14 C_q14 q14 => ?_)))))
  obtain ⟨u13, rfl, rfl⟩ := q14
  show SP _ _ _ _ _ _ ⟨_, _ :: _ :: _ :: _ :: _ :: _ :: _ :: _ :: _, _, _⟩
  refine .a G G G (.go idQ (.seq (.seq (.region (.m G G G (.go idQ ?_))))))
  refine .cond_t G ?_
  refine .region (.m G G G (.m G G G (.cons (st_call0 G G G G hbd14 G (.d (.d (.d (.c .h .n)))) (lup_ lb rA rc R kA kc K uA uc U dA dc D p _ _ hL) (fun v_q16 C_q16 q16 => ?_)))))
  obtain ⟨u15, rfl, rfl⟩ := q16
  show SP _ _ _ _ _ _ ⟨_, _ :: _ :: _ :: _ :: _ :: _ :: _ :: _ :: _, _, _⟩
  refine .a G G G (.go idQ (.seq (.region (.m G G G (.know (row_len 7 G) (fun hv19 => ?_))))))
  obtain ⟨A17, c18, rfl, hv19_1, hv19_2⟩ := hv19
  unfold maxLen at hv19_2
  refine .g underlying34 G G G (.m G G G (.go idQ (.block (.loop (X := Int × (List Int) × Value) (fun ⟨i, Z, u_Z⟩ => 0 ≤ i ∧ i ≤ ((pkL R K U p).length : Int) ∧ Z = (allP R K U p.toNat ++ (pkL R K U p).take i.toNat).foldl (minSt n) (List.replicate (n * n).toNat (-1 : Int)) ∧ Z.length = (n * n).toNat) (fun ⟨i, Z, u_Z⟩ => [(0, .pointer (some ⟨lb, 0, none⟩)), (1, .int .i64 n), (2, .bool true), (6, .pointer (some ⟨b1, 0, none⟩)), (7, .pointer (some ⟨b2, 0, none⟩)), (8, .int .i64 (n * n)), (9, .int .i64 p), (40, .slice A17 ((pkL R K U p).length) c18), (41, .int .i64 (((pkL R K U p).length : Nat) : Int)), (42, .int .i64 i)]) (fun ⟨i, Z, u_Z⟩ => [cel lb [.slice rA R.length rc, .slice kA K.length kc, .slice uA U.length uc, .slice dA D.length dc] 68, rw_ eZ 3 (.slice rA R.length rc) R, rw_ eLK 37 (.slice kA K.length kc) K, rw_ eIL 27 (.slice uA U.length uc) U, rw_ eIL 27 (.slice dA D.length dc) D, nestIL 3 U, nestIL 3 D, rw_ eLK 37 (.slice A17 ((pkL R K U p).length) c18) (pkL R K U p), rw_ eLK 37 (v_q14) (pkL R K D p), rw_ eZ 3 (u_Z) Z, cel b2 [.int .i64 n, u_Z] 29, cel b1 [.int .i64 0, .slice none 0 0] 29]) (fun _ => S) (fun _ => wf) (fun ⟨i, Z, u_Z⟩ => (((pkL R K U p).length : Int) - i).toNat) (fun a_ w_ hs_ hw_ => ⟨⟨0, Y, u_Y⟩, (by (try dsimp only); exact ⟨oO, oO, (ls2_0 r_2), oO⟩), hs_.mono (Sub.get (.c4 G G G G (.c4 G G G G (.c G (.c G .n))))), hw_.keep (.d (.d (.d (.d (.d (.d .n))))))⟩) (fun ⟨i, Z, u_Z⟩ ⟨s_0, s_1, s_2, s_3⟩ => ?_)))))
  try dsimp only
  refine .seq (.region (.e G G G G G (.go idQ (.seq (.condI G bD (fun h20 => ?_) (fun h20 => ?_))))))
  ·
   refine .skipgo idQ (.seq (.block (.seq (.region (.v (ev_ix G underlying34 ty37 G G oO oO (row_adr (i := i) 7 G oO lO)) G (.v (ev_lda G G (row_el (E := eLK) (l := (pkL R K U p)) (i := i) 7 G oO lO) ty37) G (.cons (st_alloc G G G G zf37 (fun b21 => ?_)))))))))
   refine .cons (st_storea (l' := [.int .i64 ((gt (pkL R K U p) i).lf), .int .i64 ((gt (pkL R K U p) i).lt), .int .i64 ((gt (pkL R K U p) i).lw), .int .i64 ((gt (pkL R K U p) i).lm)]) G G G ty37 G G G .h G G ?_)
   refine .go idQ (.seq ?_)
   have hxr := hlk p oO oO _ (gtM (l := (pkL R K U p)) (i := i) oO oO)
   unfold lkOk at hxr
   have hix := idx_rng (n := n) (a := (gt (pkL R K U p) i).lf) (b := (gt (pkL R K U p) i).lt) ⟨by omega, by omega⟩ ⟨by omega, by omega⟩
   refine .region (.f fo29_1 1 G G G G (.l ty27 11 G G G G G (.f fo37_0 0 G G G G ?_)))
   refine .l ty3 0 G G G G G (.m G G G (.v (ev_mul G G G (r := (((gt (pkL R K U p) i).lf) * n)) G oO oO) G (.f fo37_1 1 G G G G ?_)))
   refine .l ty3 0 G G G G G (.v (ev_add G G G (r := ((((gt (pkL R K U p) i).lf) * n) + ((gt (pkL R K U p) i).lt))) G oO oO) G (.know (row_len 10 G) (fun hv24 => ?_)))
   obtain ⟨A22, c23, rfl, hv24_1, hv24_2⟩ := hv24
   unfold maxLen at hv24_2
   refine .v (ev_ix G underlying27 ty3 G G oO oO (row_adr (i := ((((gt (pkL R K U p) i).lf) * n) + ((gt (pkL R K U p) i).lt))) 10 G oO oO)) G (.a G G G (.go idQ (.seq ?_)))
   refine SC.draw mo [] [] .n (fun _ _ _ => sc0) (fun wf_25 hl_25 hx_25 hR_25 => ?_)
   refine SR.m 0 G G G G ?_
   refine SR.z 1 G G (ev_nil G G) ?_
   refine SR.z 2 G G (ev_ld1 G ty3 G (At.elem1 (At.d (Fr.el (i := ((((gt (pkL R K U p) i).lf) * n) + ((gt (pkL R K U p) i).lt))) (Fr.lent (S := S) hR_25 10 G lO) oO oO)) 0 G)) ?_
   refine SR.z 3 G G (ev_cmp G G G G) ?_
   refine SR.m 4 G G G G ?_
   refine SR.y 5 G G (fun _ => ev_fa G fo37_2 G (r := 2) G) ?_
   refine SR.y 6 G G (fun hb => ev_ld1 G ty3 (lkg G hb) (At.d (At.lent hR_25 0 G G))) ?_
   refine SR.y 7 G G (fun _ => ev_mv G G) ?_
   refine SR.y 8 G G (fun hb => ev_nil G (lkg G hb)) ?_
   refine SR.y 9 G G (fun hb => have hp := bF bD hb; ev_ld1 G ty3 (lkg G hb) (At.elem1 (At.d (Fr.el (i := ((((gt (pkL R K U p) i).lf) * n) + ((gt (pkL R K U p) i).lt))) (Fr.lent (S := S) hR_25 10 G lO) (by have _h := hp; omega) (by have _h := hp; omega))) 0 G)) ?_
   refine SR.y 10 G G (fun hb => ev_cmp G (lkg G hb) (lkg G hb) G) ?_
   refine SR.z 11 G G (ev_or G G G G) ?_
   refine SR.fin kR hl_25 hx_25 hR_25 .n ?_
   refine SQ.go idQ ?_
   refine .condI G (bO bD bD) (fun h26 => ?_) (fun h26 => ?_)
   ·
    refine .region (.m G G G (.f fo37_2 2 G G G G (.l ty3 0 G G G G G ?_)))
    refine .v (ev_nil G G) G (.cons (st_setel (E := eZ) (i := ((((gt (pkL R K U p) i).lf) * n) + ((gt (pkL R K U p) i).lt))) (cs := [.int .i64 ((gt (pkL R K U p) i).lw)]) (off := 0) ((gt (pkL R K U p) i).lw) G G G ty3 G G G G G (.t4 (.t4 (.t2 .h))) lO lO (Nat.le_of_ble_eq_true G) G (.go idQ (.region (.p ((i + 1)) oO oO G G G G G ?_)))))
    refine .m G G G ?_
    exact SP.nil (SQ.roundb (X := Int × (List Int) × Value) (x := (i, Z, (.slice A22 Z.length c23))) ⟨(i + 1), (Z.set (((((gt (pkL R K U p) i).lf) * n) + ((gt (pkL R K U p) i).lt))).toNat ((gt (pkL R K U p) i).lw)), .slice A22 Z.length c23⟩ (by (try dsimp only); exact ⟨oO, oO, (ls2_yes s_2 oO oO h26), (by (try rw [List.length_set]); exact s_3)⟩) dO (Sub.get (.c4 G G G G (.c4 G G G G (.c G (.c G .n))))) (kp (.c (.t2 .h) (.c (.t2 .h) (.c (.t2 .h) (.c (.t2 .h) (.c (.t2 .h) (.c (.t2 .h) (.c (.t2 .h) (.c (.t2 .h) (.c (.t2 .h) (.c .h (.c (.t .h) (.c (.t .h) .n))))))))))))))
   refine .skipgo idQ (.region (.p ((i + 1)) oO oO G G G G G (.m G G G ?_)))
   exact SP.nil (SQ.roundb (X := Int × (List Int) × Value) (x := (i, Z, (.slice A22 Z.length c23))) ⟨(i + 1), Z, .slice A22 Z.length c23⟩ (by (try dsimp only); exact ⟨oO, oO, (ls2_no s_2 oO oO h26), (by (try rw [List.length_set]); exact s_3)⟩) dO (Sub.get (.c4 G G G G (.c4 G G G G (.c G (.c G .n))))) (kp (.c (.t .h) (.c (.t .h) (.c (.t .h) (.c (.t .h) (.c (.t .h) (.c (.t .h) (.c (.t .h) (.c (.t .h) (.c (.t .h) (.c (.t .h) (.c (.t .h) (.c (.t .h) .n))))))))))))))
  refine .exit idQ ?_
  refine .region (.m G G G (.p ((p + 1)) oO oO G G G G G (.a G G G ?_)))
  exact SP.nil (SQ.roundb (X := Int × (List Int) × Value) (x := (p, Y, u_Y)) ⟨(p + 1), Z, u_Z⟩ (by (try dsimp only); exact ⟨oO, oO, (ls2_end s_2 oO r_0), (by exact s_3)⟩) dO (Sub.get (.c4 G G G G (.c G (.c G (.c G .n))))) (kp (.c (.t4 (.t4 (.t .h))) (.c (.t4 (.t4 (.t .h))) (.c (.t4 (.t4 (.t .h))) (.d (.d (.d (.c .h .n)))))))))
 refine .exit idQ ?_
 refine .seq ?_
 have hYT : Y = (upT n R K U) := by rw [r_2, show p = n from by omega]; rfl
 have hfb1 := hfb
 rw [← hYT] at hfb1
 refine .region (.d 1 ty29 G G G G (.know (row_len 0 G) (fun hv29 => ?_)))
 obtain ⟨A27, c28, rfl, hv29_1, hv29_2⟩ := hv29
 unfold maxLen at hv29_2
 refine .cons (st_lend0 G G G G hbd23 G .n (.c .h .n) (fun w_ hw => least2_ n A27 c28 Y (clipF n Y) _ _ (Fr.lend hw 0 G lO) h1 (clip_mf oO) hfb1) (fun v_q32 C_q32 q32 => ?_))
 obtain ⟨u30, W31, p33, rfl, rfl⟩ := q32
 show SP _ _ _ _ _ _ ⟨_, _ :: _ :: _, _, _⟩
 refine .know (row_len 0 G) (fun hv36 => ?_)
 obtain ⟨A34, c35, rfl, hv36_1, hv36_2⟩ := hv36
 unfold maxLen at hv36_2
 refine .cons (st_storea (l' := [.int .i64 n, .slice A34 W31.length c35]) G G G ty29 G G G (.t2 (.t .h)) G G ?_)
 refine .go idQ (.ret idQ (retv1 results16 (.c 0 G G ty29) (.c (.t4 .h) (.c (.t4 .h) (.c (.t4 .h) (.c (.t4 .h) (.c (.t4 .h) (.c (.t4 .h) (.c (.t4 .h) (.c (.t .h) .n)))))))) ⟨.slice A34 W31.length c35, W31, (by have h_ := p33; rw [hYT] at h_; exact h_), G, G⟩))
theorem climbD (lb : Nat) (rA : Option Addr) (rc : Nat) (R : List Int) (kA : Option Addr) (kc : Nat) (K : List LK) (uA : Option Addr) (uc : Nat) (U : List IL) (dA : Option Addr) (dc : Nat) (D : List IL) (n : Int) (S : Nat → Prop) (wf : World) (hL : LOk R K U D) (h1 : 1 ≤ n ∧ n ≤ 32) (hRn : (R.length : Int) = n) (hlk : ∀ p : Int, 0 ≤ p → p < n → ∀ k ∈ (pkL R K D p), lkOk n k) (hfb : ∀ k : Nat, k ≤ 32 → FB (fw (clipF n (upT n R K D)) k) 200000000000000000) :
  TR0 prog 16 [.pointer (some ⟨lb, 0, none⟩), .int .i64 n, .bool false] [cel lb [.slice rA R.length rc, .slice kA K.length kc, .slice uA U.length uc, .slice dA D.length dc] 68, rw_ eZ 3 (.slice rA R.length rc) R, rw_ eLK 37 (.slice kA K.length kc) K, rw_ eIL 27 (.slice uA U.length uc) U, rw_ eIL 27 (.slice dA D.length dc) D, nestIL 3 U, nestIL 3 D] S wf (fun v_ C_ => ∃ (u : Value) (W : List Int), (MF n W (fw (clipF n (upT n R K D)) n.toNat)) ∧ v_ = .agg #[.int .i64 n, u] ∧ C_ = [cel lb [.slice rA R.length rc, .slice kA K.length kc, .slice uA U.length uc, .slice dA D.length dc] 68, rw_ eZ 3 (.slice rA R.length rc) R, rw_ eLK 37 (.slice kA K.length kc) K, rw_ eIL 27 (.slice uA U.length uc) U, rw_ eIL 27 (.slice dA D.length dc) D, nestIL 3 U, nestIL 3 D, rw_ eZ 3 (u) W]) := by
 have hsq := sq_le h1
 refine TR.mk func16 G ntmps16 G G (fun w_ => ?_)
 refine .seq (.region (.cons (st_alloc G G G G zf29 (fun b1 => (.go idQ (.seq (.region (.m G G G ?_))))))))
 refine .v (ev_any (v := .agg #[.int .i64 n, .slice none 0 0]) G kR (fun _ => by kernel_rfl)) G (.cons (st_alloc G G G G zf29 (fun b2 => (.cons (st_storea (l' := [.int .i64 n, .slice none 0 0]) G G G ty29 G G G .h G G (.go idQ (.seq (.seq (.region ?_)))))))))
 refine .a G G G (.go idQ (.block ?_))
 refine SC.nilrow eZ 3 ?_
 refine .loop (X := Int × (List Int) × Value) (fun ⟨k, X, u_X⟩ => 0 ≤ k ∧ k ≤ (n * n) ∧ X = List.replicate k.toNat (-1 : Int)) (fun ⟨k, X, u_X⟩ => [(0, .pointer (some ⟨lb, 0, none⟩)), (1, .int .i64 n), (2, .bool false), (6, .pointer (some ⟨b1, 0, none⟩)), (7, .pointer (some ⟨b2, 0, none⟩)), (8, .int .i64 k)]) (fun ⟨k, X, u_X⟩ => [rw_ eZ 3 (u_X) X, cel b2 [.int .i64 n, u_X] 29, cel b1 [.int .i64 0, .slice none 0 0] 29, cel lb [.slice rA R.length rc, .slice kA K.length kc, .slice uA U.length uc, .slice dA D.length dc] 68, rw_ eZ 3 (.slice rA R.length rc) R, rw_ eLK 37 (.slice kA K.length kc) K, rw_ eIL 27 (.slice uA U.length uc) U, rw_ eIL 27 (.slice dA D.length dc) D, nestIL 3 U, nestIL 3 D]) (fun _ => S) (fun _ => wf) (fun ⟨k, X, u_X⟩ => ((n * n) - k).toNat) (fun a_ w_ hs_ hw_ => ⟨⟨0, ([] : List Int), .slice none 0 0⟩, (by (try dsimp only); exact ⟨oO, oO, (by rfl)⟩), hs_.mono (Sub.get (.c4 G G G G (.c G (.c G .n)))), hw_.keep (.d (.d (.d (.d (.d .n)))))⟩) (fun ⟨k, X, u_X⟩ ⟨q_0, q_1, q_2⟩ => ?_)
 try dsimp only
 have hxl : X.length = k.toNat := by rw [q_2, List.length_replicate]
 refine .seq (.seq (.region (.m G G G (.m G G G (.m G G G ?_)))))
 refine .v (ev_mul G G G (r := (n * n)) G oO oO) G (.e G G G G G (.go idQ (.condI G bD (fun h3 => ?_) (fun h3 => ?_))))
 ·
  refine .skipgo idQ (.seq (.block (.region (.f fo29_1 1 G G G G (.l ty27 1 G G G G G (.cons (st_lit eZ (e := 3) (l := [(-1)]) G G G G kR G G kW (fun b4 => ?_))))))))
  refine .cons (st_app (E := eZ) (m := [(-1)]) G G G G underlying27 ai3 G G G (.t .h) rO (row_src 0 G) lO G (fun v5 => ?_))
  refine .f fo29_1 1 G G G G (.know (row_len 0 G) (fun hv8 => ?_))
  obtain ⟨A6, c7, rfl, hv8_1, hv8_2⟩ := hv8
  unfold maxLen at hv8_2
  refine .cons (st_store1 G G G ty27 G G G (.t2 .h) (.t .h) ?_)
  refine .go idQ (.region (.m G G G (.p ((k + 1)) oO oO G G G G G (.a G G G ?_))))
  exact SP.nil (SQ.roundb (X := Int × (List Int) × Value) (x := (k, X, u_X)) ⟨(k + 1), (X ++ [(-1)]), .slice A6 ((X ++ [(-1)]).length) c7⟩ (by (try dsimp only); exact ⟨oO, oO, (by rw [q_2]; exact (rep_snoc q_0).symm)⟩) dO (Sub.get (.c4 G G G G (.c G (.c G .n)))) (kp (.c (.t .h) (.c .h (.c (.t .h) (.c (.t .h) (.c (.t .h) (.c (.t .h) (.c (.t .h) (.c (.t .h) (.c (.t .h) (.c (.t .h) .n))))))))))))
 refine .exit idQ ?_
 refine .seq (.seq (.know (row_len 0 G) (fun hv11 => ?_)))
 obtain ⟨A9, c10, rfl, hv11_1, hv11_2⟩ := hv11
 unfold maxLen at hv11_2
 obtain rfl : k = n * n := by omega
 refine .region (.a G G G (.go idQ (.block (.loop (X := Int × (List Int) × Value) (fun ⟨p, Y, u_Y⟩ => 0 ≤ p ∧ p ≤ n ∧ Y = (allP R K D p.toNat).foldl (minSt n) (List.replicate (n * n).toNat (-1 : Int)) ∧ Y.length = (n * n).toNat) (fun ⟨p, Y, u_Y⟩ => [(0, .pointer (some ⟨lb, 0, none⟩)), (1, .int .i64 n), (2, .bool false), (6, .pointer (some ⟨b1, 0, none⟩)), (7, .pointer (some ⟨b2, 0, none⟩)), (8, .int .i64 (n * n)), (9, .int .i64 p)]) (fun ⟨p, Y, u_Y⟩ => [rw_ eZ 3 (u_Y) Y, cel b2 [.int .i64 n, u_Y] 29, cel b1 [.int .i64 0, .slice none 0 0] 29, cel lb [.slice rA R.length rc, .slice kA K.length kc, .slice uA U.length uc, .slice dA D.length dc] 68, rw_ eZ 3 (.slice rA R.length rc) R, rw_ eLK 37 (.slice kA K.length kc) K, rw_ eIL 27 (.slice uA U.length uc) U, rw_ eIL 27 (.slice dA D.length dc) D, nestIL 3 U, nestIL 3 D]) (fun _ => S) (fun _ => wf) (fun ⟨p, Y, u_Y⟩ => (n - p).toNat) (fun a_ w_ hs_ hw_ => ⟨⟨0, X, .slice A9 X.length c10⟩, (by (try dsimp only); exact ⟨oO, oO, (by exact q_2), oO⟩), hs_.mono (Sub.get (.c4 G G G G (.c G (.c G (.c G .n))))), hw_.keep (.d (.d (.d (.d (.d .n)))))⟩) (fun ⟨p, Y, u_Y⟩ ⟨r_0, r_1, r_2, r_3⟩ => ?_)))))
 try dsimp only
 refine .seq (.seq (.region (.m G G G (.m G G G (.e G G G G G ?_)))))
 refine .go idQ (.condI G bD (fun h12 => ?_) (fun h12 => ?_))
 ·
  refine .skipgo idQ (.seq (.block (.seq ?_)))
  have hpu := pk_len hL p
  refine .region (.m G G G (.m G G G (.cons (st_call0 G G G G hbd15 G (.c (.t2 (.t .h)) (.c (.t2 (.t .h)) (.c (.t2 (.t .h)) (.c (.t2 (.t .h)) (.c (.t2 (.t .h)) (.c (.t2 (.t .h)) (.c (.t2 (.t .h)) .n))))))) (ldown_ lb rA rc R kA kc K uA uc U dA dc D p _ _ hL) (fun v_q14 C_q14 q14 => ?_)))))
  obtain ⟨u13, rfl, rfl⟩ := q14
  show SP _ _ _ _ _ _ ⟨_, _ :: _ :: _ :: _ :: _ :: _ :: _ :: _ :: _, _, _⟩
  refine .a G G G (.go idQ (.seq (.seq (.region (.m G G G (.go idQ ?_))))))
  refine .cond_f G ?_
  refine .skipgo idQ (.seq (.region (.m G G G (.know (row_len 7 G) (fun hv17 => ?_)))))
  obtain ⟨A15, c16, rfl, hv17_1, hv17_2⟩ := hv17
  unfold maxLen at hv17_2
  refine .g underlying34 G G G (.m G G G (.go idQ (.block (.loop (X := Int × (List Int) × Value) (fun ⟨i, Z, u_Z⟩ => 0 ≤ i ∧ i ≤ ((pkL R K D p).length : Int) ∧ Z = (allP R K D p.toNat ++ (pkL R K D p).take i.toNat).foldl (minSt n) (List.replicate (n * n).toNat (-1 : Int)) ∧ Z.length = (n * n).toNat) (fun ⟨i, Z, u_Z⟩ => [(0, .pointer (some ⟨lb, 0, none⟩)), (1, .int .i64 n), (2, .bool false), (6, .pointer (some ⟨b1, 0, none⟩)), (7, .pointer (some ⟨b2, 0, none⟩)), (8, .int .i64 (n * n)), (9, .int .i64 p), (40, .slice A15 ((pkL R K D p).length) c16), (41, .int .i64 (((pkL R K D p).length : Nat) : Int)), (42, .int .i64 i)]) (fun ⟨i, Z, u_Z⟩ => [cel lb [.slice rA R.length rc, .slice kA K.length kc, .slice uA U.length uc, .slice dA D.length dc] 68, rw_ eZ 3 (.slice rA R.length rc) R, rw_ eLK 37 (.slice kA K.length kc) K, rw_ eIL 27 (.slice uA U.length uc) U, rw_ eIL 27 (.slice dA D.length dc) D, nestIL 3 U, nestIL 3 D, rw_ eLK 37 (.slice A15 ((pkL R K D p).length) c16) (pkL R K D p), rw_ eZ 3 (u_Z) Z, cel b2 [.int .i64 n, u_Z] 29, cel b1 [.int .i64 0, .slice none 0 0] 29]) (fun _ => S) (fun _ => wf) (fun ⟨i, Z, u_Z⟩ => (((pkL R K D p).length : Int) - i).toNat) (fun a_ w_ hs_ hw_ => ⟨⟨0, Y, u_Y⟩, (by (try dsimp only); exact ⟨oO, oO, (ls2_0 r_2), oO⟩), hs_.mono (Sub.get (.c4 G G G G (.c4 G G G G (.c G (.c G .n))))), hw_.keep (.d (.d (.d (.d (.d (.c .h .n))))))⟩) (fun ⟨i, Z, u_Z⟩ ⟨s_0, s_1, s_2, s_3⟩ => ?_)))))
  try dsimp only
  refine .seq (.region (.e G G G G G (.go idQ (.seq (.condI G bD (fun h18 => ?_) (fun h18 => ?_))))))
  ·
   refine .skipgo idQ (.seq (.block (.seq (.region (.v (ev_ix G underlying34 ty37 G G oO oO (row_adr (i := i) 7 G oO lO)) G (.v (ev_lda G G (row_el (E := eLK) (l := (pkL R K D p)) (i := i) 7 G oO lO) ty37) G (.cons (st_alloc G G G G zf37 (fun b19 => ?_)))))))))
   refine .cons (st_storea (l' := [.int .i64 ((gt (pkL R K D p) i).lf), .int .i64 ((gt (pkL R K D p) i).lt), .int .i64 ((gt (pkL R K D p) i).lw), .int .i64 ((gt (pkL R K D p) i).lm)]) G G G ty37 G G G .h G G ?_)
   refine .go idQ (.seq ?_)
   have hxr := hlk p oO oO _ (gtM (l := (pkL R K D p)) (i := i) oO oO)
   unfold lkOk at hxr
   have hix := idx_rng (n := n) (a := (gt (pkL R K D p) i).lf) (b := (gt (pkL R K D p) i).lt) ⟨by omega, by omega⟩ ⟨by omega, by omega⟩
   refine .region (.f fo29_1 1 G G G G (.l ty27 10 G G G G G (.f fo37_0 0 G G G G ?_)))
   refine .l ty3 0 G G G G G (.m G G G (.v (ev_mul G G G (r := (((gt (pkL R K D p) i).lf) * n)) G oO oO) G (.f fo37_1 1 G G G G ?_)))
   refine .l ty3 0 G G G G G (.v (ev_add G G G (r := ((((gt (pkL R K D p) i).lf) * n) + ((gt (pkL R K D p) i).lt))) G oO oO) G (.know (row_len 9 G) (fun hv22 => ?_)))
   obtain ⟨A20, c21, rfl, hv22_1, hv22_2⟩ := hv22
   unfold maxLen at hv22_2
   refine .v (ev_ix G underlying27 ty3 G G oO oO (row_adr (i := ((((gt (pkL R K D p) i).lf) * n) + ((gt (pkL R K D p) i).lt))) 9 G oO oO)) G (.a G G G (.go idQ (.seq ?_)))
   refine SC.draw mo [] [] .n (fun _ _ _ => sc0) (fun wf_23 hl_23 hx_23 hR_23 => ?_)
   refine SR.m 0 G G G G ?_
   refine SR.z 1 G G (ev_nil G G) ?_
   refine SR.z 2 G G (ev_ld1 G ty3 G (At.elem1 (At.d (Fr.el (i := ((((gt (pkL R K D p) i).lf) * n) + ((gt (pkL R K D p) i).lt))) (Fr.lent (S := S) hR_23 9 G lO) oO oO)) 0 G)) ?_
   refine SR.z 3 G G (ev_cmp G G G G) ?_
   refine SR.m 4 G G G G ?_
   refine SR.y 5 G G (fun _ => ev_fa G fo37_2 G (r := 2) G) ?_
   refine SR.y 6 G G (fun hb => ev_ld1 G ty3 (lkg G hb) (At.d (At.lent hR_23 0 G G))) ?_
   refine SR.y 7 G G (fun _ => ev_mv G G) ?_
   refine SR.y 8 G G (fun hb => ev_nil G (lkg G hb)) ?_
   refine SR.y 9 G G (fun hb => have hp := bF bD hb; ev_ld1 G ty3 (lkg G hb) (At.elem1 (At.d (Fr.el (i := ((((gt (pkL R K D p) i).lf) * n) + ((gt (pkL R K D p) i).lt))) (Fr.lent (S := S) hR_23 9 G lO) (by have _h := hp; omega) (by have _h := hp; omega))) 0 G)) ?_
   refine SR.y 10 G G (fun hb => ev_cmp G (lkg G hb) (lkg G hb) G) ?_
   refine SR.z 11 G G (ev_or G G G G) ?_
   refine SR.fin kR hl_23 hx_23 hR_23 .n ?_
   refine SQ.go idQ ?_
   refine .condI G (bO bD bD) (fun h24 => ?_) (fun h24 => ?_)
   ·
    refine .region (.m G G G (.f fo37_2 2 G G G G (.l ty3 0 G G G G G ?_)))
    refine .v (ev_nil G G) G (.cons (st_setel (E := eZ) (i := ((((gt (pkL R K D p) i).lf) * n) + ((gt (pkL R K D p) i).lt))) (cs := [.int .i64 ((gt (pkL R K D p) i).lw)]) (off := 0) ((gt (pkL R K D p) i).lw) G G G ty3 G G G G G (.t4 (.t4 (.t .h))) lO lO (Nat.le_of_ble_eq_true G) G (.go idQ (.region (.p ((i + 1)) oO oO G G G G G ?_)))))
    refine .m G G G ?_
    exact SP.nil (SQ.roundb (X := Int × (List Int) × Value) (x := (i, Z, (.slice A20 Z.length c21))) ⟨(i + 1), (Z.set (((((gt (pkL R K D p) i).lf) * n) + ((gt (pkL R K D p) i).lt))).toNat ((gt (pkL R K D p) i).lw)), .slice A20 Z.length c21⟩ (by (try dsimp only); exact ⟨oO, oO, (ls2_yes s_2 oO oO h24), (by (try rw [List.length_set]); exact s_3)⟩) dO (Sub.get (.c4 G G G G (.c4 G G G G (.c G (.c G .n))))) (kp (.c (.t2 .h) (.c (.t2 .h) (.c (.t2 .h) (.c (.t2 .h) (.c (.t2 .h) (.c (.t2 .h) (.c (.t2 .h) (.c (.t2 .h) (.c .h (.c (.t .h) (.c (.t .h) .n)))))))))))))
   refine .skipgo idQ (.region (.p ((i + 1)) oO oO G G G G G (.m G G G ?_)))
   exact SP.nil (SQ.roundb (X := Int × (List Int) × Value) (x := (i, Z, (.slice A20 Z.length c21))) ⟨(i + 1), Z, .slice A20 Z.length c21⟩ (by (try dsimp only); exact ⟨oO, oO, (ls2_no s_2 oO oO h24), (by (try rw [List.length_set]); exact s_3)⟩) dO (Sub.get (.c4 G G G G (.c4 G G G G (.c G (.c G .n))))) (kp (.c (.t .h) (.c (.t .h) (.c (.t .h) (.c (.t .h) (.c (.t .h) (.c (.t .h) (.c (.t .h) (.c (.t .h) (.c (.t .h) (.c (.t .h) (.c (.t .h) .n)))))))))))))
  refine .exit idQ ?_
  refine .region (.m G G G (.p ((p + 1)) oO oO G G G G G (.a G G G ?_)))
  exact SP.nil (SQ.roundb (X := Int × (List Int) × Value) (x := (p, Y, u_Y)) ⟨(p + 1), Z, u_Z⟩ (by (try dsimp only); exact ⟨oO, oO, (ls2_end s_2 oO r_0), (by exact s_3)⟩) dO (Sub.get (.c4 G G G G (.c G (.c G (.c G .n))))) (kp (.c (.t4 (.t4 .h)) (.c (.t4 (.t4 .h)) (.c (.t4 (.t4 .h)) (.d (.d (.d (.c .h .n)))))))))
 refine .exit idQ ?_
 refine .seq ?_
 have hYT : Y = (upT n R K D) := by rw [r_2, show p = n from by omega]; rfl
 have hfb1 := hfb
 rw [← hYT] at hfb1
 refine .region (.d 1 ty29 G G G G (.know (row_len 0 G) (fun hv27 => ?_)))
 obtain ⟨A25, c26, rfl, hv27_1, hv27_2⟩ := hv27
 unfold maxLen at hv27_2
 refine .cons (st_lend0 G G G G hbd23 G .n (.c .h .n) (fun w_ hw => least2_ n A25 c26 Y (clipF n Y) _ _ (Fr.lend hw 0 G lO) h1 (clip_mf oO) hfb1) (fun v_q30 C_q30 q30 => ?_))
 obtain ⟨u28, W29, p31, rfl, rfl⟩ := q30
 show SP _ _ _ _ _ _ ⟨_, _ :: _ :: _, _, _⟩
 refine .know (row_len 0 G) (fun hv34 => ?_)
 obtain ⟨A32, c33, rfl, hv34_1, hv34_2⟩ := hv34
 unfold maxLen at hv34_2
 refine .cons (st_storea (l' := [.int .i64 n, .slice A32 W29.length c33]) G G G ty29 G G G (.t2 (.t .h)) G G ?_)
 refine .go idQ (.ret idQ (retv1 results16 (.c 0 G G ty29) (.c (.t4 .h) (.c (.t4 .h) (.c (.t4 .h) (.c (.t4 .h) (.c (.t4 .h) (.c (.t4 .h) (.c (.t4 .h) (.c (.t .h) .n)))))))) ⟨.slice A32 W29.length c33, W29, (by have h_ := p31; rw [hYT] at h_; exact h_), G, G⟩))
end Go.Proofs.Ytlefdinbbjiabaa.Sx
set_option maxRecDepth 20000
set_option maxHeartbeats 8000000
namespace Go.Proofs.Ytlefdinbbjiabaa.Sx.FZ
open Go Go.SX Go.Proofs Go.Proofs.Try FA FB FC FD FE FF FG FH FI FJ FK FL FM FN FO FP FQ FR FS FT FY
theorem hbd8 : hasBody prog 8 = true := by kernel_rfl
theorem hbd16 : hasBody prog 16 = true := by kernel_rfl
end Go.Proofs.Ytlefdinbbjiabaa.Sx.FZ
namespace Go.Proofs.Ytlefdinbbjiabaa.Sx
open Go Go.SX Go.Proofs Go.Proofs.Try FA FB FC FD FE FF FG FH FI FJ FK FL FM FN FO FP FQ FR FS FT FY FZ
theorem liftWaysF_s8 (n : Int) (A : Option Addr) (c : Nat) (l : List AR) (S : Nat → Prop) (wf : World) (hA : Fr eAR S wf A l) (hR : RoadOk n l) (mb : Nat) (ub : Nat) (db : Nat) (xm : Value) (xu : Value) (xd : Value) (W : List Int) (Wu : List Int) (Wd : List Int) (R : List Int) (K : List LK) (U : List IL) (D : List IL) (j_0 : WyK n R K U D) (j_1 : MF n Wu (fw (clipF n (upT n R K U)) n.toNat)) (j_2 : MF n Wd (fw (clipF n (upT n R K D)) n.toNat)) (j_3 : MF n W (fw (tf n (tabF n false l)) n.toNat)) (j_4 : ∀ i j : Int, 0 ≤ i → i < n → 0 ≤ j → j < n → bst (fw (clipF n (upT n R K U)) n.toNat) (fw (clipF n (upT n R K D)) n.toNat) i j n.toNat = gt W (i * n + j)) (V : Env) :
  SC V prog (bodyPost prog Try.f5 (TRp V S wf (fun v_ C_ S_ wf_ => (fun v_ C_ => v_ = .bool true ∧ C_ = []) v_ C_ ∧ S_ = S ∧ wf_ = wf))) 110 (sqR (sqR (sqR (sqR (sqR (sqR (bodyC Try.f5))))))) ⟨[(7, .pointer (some ⟨mb, 0, none⟩)), (10, .pointer (some ⟨ub, 0, none⟩)), (11, .pointer (some ⟨db, 0, none⟩))], [cel mb [.int .i64 n, xm] 29, cel ub [.int .i64 n, xu] 29, cel db [.int .i64 n, xd] 29, rw_ eZ 3 (xm) W, rw_ eZ 3 (xu) Wu, rw_ eZ 3 (xd) Wd], S, wf⟩ := by
 have hla := hA.len
 have hlen := hR.len
 have hnp := hR.pl
 have hto := tab_ok (d := false) hR
 have htl := hto.len
 have hsq := sq_le hnp
 show SC _ _ _ _ (.seq _ _) _
 refine .seq (.seq (.know (row_len 3 G) (fun hv41 => ?_)))
 obtain ⟨A39, c40, rfl, hv41_1, hv41_2⟩ := hv41
 unfold maxLen at hv41_2
 refine .know (row_len 4 G) (fun hv44 => ?_)
 obtain ⟨A42, c43, rfl, hv44_1, hv44_2⟩ := hv44
 unfold maxLen at hv44_2
 refine .know (row_len 5 G) (fun hv47 => ?_)
 obtain ⟨A45, c46, rfl, hv47_1, hv47_2⟩ := hv47
 unfold maxLen at hv47_2
 refine .region (.a G G G (.go idQ (.block (.loop (X := Int) (fun i => 0 ≤ i ∧ i ≤ n) (fun i => [(7, .pointer (some ⟨mb, 0, none⟩)), (10, .pointer (some ⟨ub, 0, none⟩)), (11, .pointer (some ⟨db, 0, none⟩)), (12, .int .i64 i)]) (fun i => [cel mb [.int .i64 n, .slice A39 W.length c40] 29, cel ub [.int .i64 n, .slice A42 Wu.length c43] 29, cel db [.int .i64 n, .slice A45 Wd.length c46] 29, rw_ eZ 3 (.slice A39 W.length c40) W, rw_ eZ 3 (.slice A42 Wu.length c43) Wu, rw_ eZ 3 (.slice A45 Wd.length c46) Wd]) (fun _ => S) (fun _ => wf) (fun i => (n - i).toNat) (fun a_ w_ hs_ hw_ => ⟨0, (by (try dsimp only); exact ⟨oO, oO⟩), hs_.mono (Sub.get (.c4 G G G G .n)), hw_.keep (.d (.d (.d .n)))⟩) (fun i ⟨q_0, q_1⟩ => ?_)))))
 try dsimp only
 refine .seq (.seq (.region (.m G G G (.f fo29_0 0 G G G G (.l ty3 0 G G G G G ?_)))))
 refine .e G G G G G (.go idQ (.condI G bD (fun h48 => ?_) (fun h48 => ?_)))
 ·
  refine .skipgo idQ (.seq (.block (.seq (.region (.a G G G (.go idQ (.block (.loop (X := Int) (fun j => 0 ≤ j ∧ j ≤ n) (fun j => [(7, .pointer (some ⟨mb, 0, none⟩)), (10, .pointer (some ⟨ub, 0, none⟩)), (11, .pointer (some ⟨db, 0, none⟩)), (12, .int .i64 i), (13, .int .i64 j)]) (fun j => [cel mb [.int .i64 n, .slice A39 W.length c40] 29, cel ub [.int .i64 n, .slice A42 Wu.length c43] 29, cel db [.int .i64 n, .slice A45 Wd.length c46] 29, rw_ eZ 3 (.slice A39 W.length c40) W, rw_ eZ 3 (.slice A42 Wu.length c43) Wu, rw_ eZ 3 (.slice A45 Wd.length c46) Wd]) (fun _ => S) (fun _ => wf) (fun j => (n - j).toNat) (fun a_ w_ hs_ hw_ => ⟨0, (by (try dsimp only); exact ⟨oO, oO⟩), hs_.mono (Sub.get (.c4 G G G G (.c G .n))), hw_.keep (.d (.d (.d .n)))⟩) (fun j ⟨r_0, r_1⟩ => ?_)))))))))
  try dsimp only
  refine .seq (.seq (.region (.m G G G (.f fo29_0 0 G G G G (.l ty3 0 G G G G G ?_)))))
  refine .e G G G G G (.go idQ (.condI G bD (fun h49 => ?_) (fun h49 => ?_)))
  ·
   refine .skipgo idQ (.seq (.block (.seq (.region (.a G G G (.go idQ (.seq (.seq (.region (.a G G G ?_))))))))))
   refine .go idQ (.block (.loop (X := Int × Int) (fun ⟨k, best⟩ => 0 ≤ k ∧ k ≤ n ∧ best = bst (fw (clipF n (upT n R K U)) n.toNat) (fw (clipF n (upT n R K D)) n.toNat) i j k.toNat) (fun ⟨k, best⟩ => [(7, .pointer (some ⟨mb, 0, none⟩)), (10, .pointer (some ⟨ub, 0, none⟩)), (11, .pointer (some ⟨db, 0, none⟩)), (12, .int .i64 i), (13, .int .i64 j), (15, .int .i64 k), (14, .int .i64 best)]) (fun ⟨k, best⟩ => [cel mb [.int .i64 n, .slice A39 W.length c40] 29, cel ub [.int .i64 n, .slice A42 Wu.length c43] 29, cel db [.int .i64 n, .slice A45 Wd.length c46] 29, rw_ eZ 3 (.slice A39 W.length c40) W, rw_ eZ 3 (.slice A42 Wu.length c43) Wu, rw_ eZ 3 (.slice A45 Wd.length c46) Wd]) (fun _ => S) (fun _ => wf) (fun ⟨k, best⟩ => (n - k).toNat) (fun a_ w_ hs_ hw_ => ⟨⟨0, (-1)⟩, (by (try dsimp only); exact ⟨oO, oO, G⟩), hs_.mono (Sub.get (.c4 G G G G (.c G (.c G (.c G .n))))), hw_.keep (.d (.d (.d .n)))⟩) (fun ⟨k, best⟩ ⟨s_0, s_1, s_2⟩ => ?_)))
   try dsimp only
   refine .seq (.seq (.region (.m G G G (.f fo29_0 0 G G G G (.l ty3 0 G G G G G ?_)))))
   refine .e G G G G G (.go idQ (.condI G bD (fun h50 => ?_) (fun h50 => ?_)))
   ·
    refine .skipgo idQ (.seq (.block (.seq ?_)))
    have hx1 := idx_rng (n := n) (a := i) (b := k) ⟨by omega, by omega⟩ ⟨by omega, by omega⟩
    have hx2 := idx_rng (n := n) (a := k) (b := j) ⟨by omega, by omega⟩ ⟨by omega, by omega⟩
    have ha := j_1.at_ i k oO oO oO oO
    have hb := j_2.at_ k j oO oO oO oO
    have hau := (j_0.fu n.toNat oO).hi i k
    have hal := (j_0.fu n.toNat oO).lo i k
    have hbu := (j_0.fd n.toNat oO).hi k j
    have hbl := (j_0.fd n.toNat oO).lo k j
    have hul := j_1.len
    have hdl := j_2.len
    refine SC.draw mo [] [] .n (fun _ _ _ => sc0) (fun wf_51 hl_51 hx_51 hR_51 => ?_)
    refine SR.z 0 G G (ev_fa G fo29_1 G (r := 1) G) ?_
    refine SR.z 1 G G (ev_ld1 G ty27 G (At.d (At.lent hR_51 1 G G))) ?_
    refine SR.m 2 G G G G ?_
    refine SR.z 3 G G (ev_fa G fo29_0 G (r := 0) G) ?_
    refine SR.z 4 G G (ev_ld1 G ty3 G (At.d (At.lent hR_51 0 G G))) ?_
    refine SR.z 5 G G (ev_mul G G G (r := (i * n)) G oO oO) ?_
    refine SR.m 6 G G G G ?_
    refine SR.z 7 G G (ev_add G G G (r := ((i * n) + k)) G oO oO) ?_
    refine SR.z 8 G G (ev_ix G underlying27 ty3 G G oO oO (fun _ _ => Fr.adr (i := ((i * n) + k)) (Fr.lent (S := S) hR_51 4 G lO) oO oO)) ?_
    refine SR.z 9 G G (ev_ld1 G ty3 G (At.elem1 (At.d (Fr.el (i := ((i * n) + k)) (Fr.lent (S := S) hR_51 4 G lO) oO oO)) 0 G)) ?_
    refine SR.z 10 G G (ev_fa G fo29_1 G (r := 1) G) ?_
    refine SR.z 11 G G (ev_ld1 G ty27 G (At.d (At.lent hR_51 2 G G))) ?_
    refine SR.m 12 G G G G ?_
    refine SR.z 13 G G (ev_fa G fo29_0 G (r := 0) G) ?_
    refine SR.z 14 G G (ev_ld1 G ty3 G (At.d (At.lent hR_51 0 G G))) ?_
    refine SR.z 15 G G (ev_mul G G G (r := (k * n)) G oO oO) ?_
    refine SR.m 16 G G G G ?_
    refine SR.z 17 G G (ev_add G G G (r := ((k * n) + j)) G oO oO) ?_
    refine SR.z 18 G G (ev_ix G underlying27 ty3 G G oO oO (fun _ _ => Fr.adr (i := ((k * n) + j)) (Fr.lent (S := S) hR_51 5 G lO) oO oO)) ?_
    refine SR.z 19 G G (ev_ld1 G ty3 G (At.elem1 (At.d (Fr.el (i := ((k * n) + j)) (Fr.lent (S := S) hR_51 5 G lO) oO oO)) 0 G)) ?_
    refine SR.z 20 G G (ev_as G G) ?_
    refine SR.z 21 G G (ev_as G G) ?_
    refine SR.fin kR hl_51 hx_51 hR_51 .n ?_
    refine SQ.go idQ ?_
    refine .seq (.region (.m G G G (.e G G G G G (.m G G G ?_))))
    refine .w (fun _ => ev_mv G G) G (.w (fun hb => ev_cmp G (lkg G hb) G G) G (.v (ev_and G G G G) G (.m G G G ?_)))
    refine .w (fun _ => ev_mv G G) G (.w (fun hb => ev_cmp G (lkg G hb) G G) G (.w (fun hb => ev_mv G (lkg G hb)) G ?_))
    rcases Bool.eq_false_or_eq_true ((decide ((gt Wu ((i * n) + k)) ≥ 0)) && (decide ((gt Wd ((k * n) + j)) ≥ 0))) with hb52 | hb52
    ·
     have hb52_ := bT (bA bD bD) hb52
     refine SP.reslotv (t := 87) G (gv_on hb52) ?_
     refine .w (fun _ => ev_mv G G) G (.w (fun _ => ev_mv G G) G (.w (fun hb => have hp := bF bD hb; ev_add G (lkg G hb) (lkg G hb) (r := ((gt Wu ((i * n) + k)) + (gt Wd ((k * n) + j)))) G (by have _h := hp; omega) (by have _h := hp; omega)) G (.w (fun _ => ev_mv G G) G ?_)))
     refine .w (fun hb => ev_cmp G (lkg G hb) (lkg G hb) G) G ?_
     refine SP.reslot (t := 84) G hb52 ?_
     refine .cons (.on G G G (Ev.step (ev_or G G G G) G G G ?_))
     refine .v (ev_pickt G G G G) G (.go idQ (.condI G (bO bD bD) (fun h53 => ?_) (fun h53 => ?_)))
     ·
      refine .region (.m G G G (.m G G G (.v (ev_add G G G (r := ((gt Wu ((i * n) + k)) + (gt Wd ((k * n) + j)))) G oO oO) G ?_)))
      refine .a G G G (.go idQ (.region (.m G G G (.p ((k + 1)) oO oO G G G G G ?_))))
      refine .a G G G ?_
      exact SP.nil (SQ.roundb (X := Int × Int) (x := (k, best)) ⟨(k + 1), ((gt Wu ((i * n) + k)) + (gt Wd ((k * n) + j)))⟩ (by (try dsimp only); exact ⟨oO, oO, (by rw [ha, hb]; exact bst_yes s_2 s_0 oO)⟩) dO (Sub.get (.c4 G G G G (.c G (.c G (.c G .n))))) (kp (.d (.d (.d .n)))))
     refine .skipgo idQ (.region (.m G G G (.p ((k + 1)) oO oO G G G G G (.a G G G ?_))))
     exact SP.nil (SQ.roundb (X := Int × Int) (x := (k, best)) ⟨(k + 1), best⟩ (by (try dsimp only); exact ⟨oO, oO, (by exact bst_no s_2 s_0 oO)⟩) dO (Sub.get (.c4 G G G G (.c G (.c G (.c G .n))))) (kp (.d (.d (.d .n)))))
    have hb52_ := bF (bA bD bD) hb52
    refine SP.reslotv (t := 87) G (gv_off hb52) ?_
    refine .cons (.offu G G G G G ?_)
    refine .cons (.offu G G G G G ?_)
    refine .cons (.offu G G G G G ?_)
    refine .cons (.offu G G G G G ?_)
    refine .cons (.offu G G G G G ?_)
    refine SP.reslot (t := 84) G hb52 ?_
    refine .cons (.off G G G G G G ?_)
    refine .v (ev_pickf G G G G) G (.go idQ (.cond_f G (.skipgo idQ (.region ?_))))
    refine .m G G G (.p ((k + 1)) oO oO G G G G G (.a G G G ?_))
    exact SP.nil (SQ.roundb (X := Int × Int) (x := (k, best)) ⟨(k + 1), best⟩ (by (try dsimp only); exact ⟨oO, oO, (by exact bst_no s_2 s_0 oO)⟩) dO (Sub.get (.c4 G G G G (.c G (.c G (.c G .n))))) (kp (.d (.d (.d .n)))))
   refine .exit idQ ?_
   refine .seq ?_
   have hx3 := idx_rng (n := n) (a := i) (b := j) ⟨by omega, by omega⟩ ⟨by omega, by omega⟩
   have hwl := j_3.len
   have hbe := j_4 i j oO oO oO oO
   have hbk := s_2
   rw [show k = n from by omega] at hbk
   rw [← hbk] at hbe
   refine .region (.m G G G (.f fo29_1 1 G G G G (.l ty27 0 G G G G G ?_)))
   refine .m G G G (.f fo29_0 0 G G G G (.l ty3 0 G G G G G (.v (ev_mul G G G (r := (i * n)) G oO oO) G ?_)))
   refine .m G G G (.p (((i * n) + j)) oO oO G G G G G (.v (ev_ix G underlying27 ty3 G G oO oO (row_adr (i := ((i * n) + j)) 3 G oO oO)) G (.v (ev_ld1 G ty3 G (At.elem1 (row_el (E := eZ) (l := W) (i := ((i * n) + j)) 3 G oO oO) 0 G)) G ?_)))
   refine .e G G G G G (.go idQ (.condI G bNE (fun h54 => ?_) (fun h54 => ?_)))
   ·
    exfalso; omega
   refine .skipgo idQ (.region (.m G G G (.p ((j + 1)) oO oO G G G G G (.a G G G ?_))))
   exact SP.nil (SQ.roundb (X := Int) (x := (j)) (j + 1) (by (try dsimp only); exact ⟨oO, oO⟩) (by show (_ : Nat) < _; omega) (Sub.get (.c4 G G G G (.c G .n))) (kp (.d (.d (.d .n)))))
  refine .exit idQ ?_
  refine .region (.m G G G (.p ((i + 1)) oO oO G G G G G (.a G G G ?_)))
  exact SP.nil (SQ.roundb (X := Int) (x := (i)) (i + 1) (by (try dsimp only); exact ⟨oO, oO⟩) (by show (_ : Nat) < _; omega) (Sub.get (.c4 G G G G .n)) (kp (.d (.d (.d .n)))))
 refine .exit idQ ?_
 refine .seq (.region (.a G G G (.go idQ (.ret idQ (ret1 results5 G .n ⟨G, G⟩)))))
theorem liftWaysF (n : Int) (A : Option Addr) (c : Nat) (l : List AR) (S : Nat → Prop) (wf : World) (hA : Fr eAR S wf A l) (hR : RoadOk n l) :
  TR0 prog 5 [.agg #[.int .i64 n, .slice A l.length c], .bool false] [] S wf (fun v_ C_ => v_ = .bool true ∧ C_ = []) := by
 have hla := hA.len
 have hlen := hR.len
 have hnp := hR.pl
 have hto := tab_ok (d := false) hR
 have htl := hto.len
 have hsq := sq_le hnp
 refine TR.mk func5 G ntmps5 G G (fun w_ => ?_)
 refine .seq (.region (.cons (st_boxa G G G G G (fun b1 => (.a G G G (.go idQ (.seq (.seq (.region ?_)))))))))
 refine .cons (st_callk G G G G hbd8 G .n (awake7_ _ _) ?_)
 refine .v (ev_not G G) G (.go idQ (.cond_f G (.skipgo idQ (.seq (.region ?_)))))
 refine .d 0 ty24 G G G G (.m G G G (.cons (st_call0 G G G G hbd9 G .n (graphF n A c l _ _ hA hR) (fun v_q10 C_q10 q10 => ?_))))
 obtain ⟨b2, u3, v4, fi5, ed6, x7, y8, W9, p11, p12, p13, rfl, rfl⟩ := q10
 show SP _ _ _ _ _ _ ⟨_, _ :: _ :: _ :: _ :: _ :: _, _, _⟩
 have hgl := p11.len
 have hgn := p11.ne
 refine .m G G G (.x G G G G (.x G G G G (.x G G G G ?_)))
 refine .x G G G G (.cons (st_alloc G G G G zf29 (fun b14 => (.cons (st_alloc G G G G zf29 (fun b15 => (.a G G G ?_)))))))
 refine .know (row_len 5 G) (fun hv18 => ?_)
 obtain ⟨A16, c17, rfl, hv18_1, hv18_2⟩ := hv18
 unfold maxLen at hv18_2
 refine .cons (st_storea (l' := [.int .i64 n, .slice A16 ((tabF n false l).length) c17]) G G G ty29 G G G (.t .h) G G ?_)
 refine .know (row_len 6 G) (fun hv21 => ?_)
 obtain ⟨A19, c20, rfl, hv21_1, hv21_2⟩ := hv21
 unfold maxLen at hv21_2
 refine .cons (st_storea (l' := [.int .i64 n, .slice A19 W9.length c20]) G G G ty29 G G G (.t .h) G G ?_)
 refine .a G G G (.go idQ (.seq (.seq (.region (.m G G G (.v (ev_not G G) G ?_))))))
 refine .go idQ (.cond_f G (.skipgo idQ (.seq (.region (.m G G G ?_)))))
 refine .know (row_len 3 G) (fun hv24 => ?_)
 obtain ⟨A22, c23, rfl, hv24_1, hv24_2⟩ := hv24
 unfold maxLen at hv24_2
 refine .know (row_len 4 G) (fun hv27 => ?_)
 obtain ⟨A25, c26, rfl, hv27_1, hv27_2⟩ := hv27
 unfold maxLen at hv27_2
 refine .cons (st_lend0 G G G G hbd10 G (.c (.t2 .h) .n) (.c (.t2 .h) (.c (.t2 .h) .n)) (fun w_ hw => build_ n (tabF n false l) b2 A22 c23 fi5 A25 c26 ed6 _ _ (Fr.lend hw 0 G lO) (Fr.lend hw 1 G lO) hto p11 lO) (fun v_q37 C_q37 q37 => ?_))
 obtain ⟨lb28, v129, v230, v331, v432, R33, K34, U35, D36, p38, rfl, rfl⟩ := q37
 show SP _ _ _ _ _ _ ⟨_, _ :: _ :: _ :: _ :: _ :: _ :: _ :: _ :: _ :: _ :: _, _, _⟩
 have hlo := lok hto p11 p38
 have hRn := hlo.2
 have hL := hlo.1
 have hkl := hL.kl
 have hWk := ways_k hto p11 p38
 have hWy := ways_law hto p11 p38 p13
 refine .a G G G (.go idQ ?_)
 refine SC.seqx (X := Nat × Nat × Nat × Value × Value × Value × (List Int) × (List Int) × (List Int) × (List Int) × (List LK) × (List IL) × (List IL)) (fun ⟨mb, ub, db, xm, xu, xd, W, Wu, Wd, R, K, U, D⟩ => (WyK n R K U D) ∧ (MF n Wu (fw (clipF n (upT n R K U)) n.toNat)) ∧ (MF n Wd (fw (clipF n (upT n R K D)) n.toNat)) ∧ (MF n W (fw (tf n (tabF n false l)) n.toNat)) ∧ (∀ i j : Int, 0 ≤ i → i < n → 0 ≤ j → j < n → bst (fw (clipF n (upT n R K U)) n.toNat) (fw (clipF n (upT n R K D)) n.toNat) i j n.toNat = gt W (i * n + j))) (fun ⟨mb, ub, db, xm, xu, xd, W, Wu, Wd, R, K, U, D⟩ => ([(7, .pointer (some ⟨mb, 0, none⟩)), (10, .pointer (some ⟨ub, 0, none⟩)), (11, .pointer (some ⟨db, 0, none⟩))], [cel mb [.int .i64 n, xm] 29, cel ub [.int .i64 n, xu] 29, cel db [.int .i64 n, xd] 29, rw_ eZ 3 (xm) W, rw_ eZ 3 (xu) Wu, rw_ eZ 3 (xd) Wd])) S wf (fun ⟨mb, ub, db, xm, xu, xd, W, Wu, Wd, R, K, U, D⟩ hk56 => ?_) (fun key55 => ?_)
 ·
  obtain ⟨j_0, j_1, j_2, j_3, j_4⟩ := hk56
  exact liftWaysF_s8 n A c l _ _ hA hR mb ub db xm xu xd W Wu Wd R K U D j_0 j_1 j_2 j_3 j_4 _
 refine .know (row_len 2 G) (fun hv59 => ?_)
 obtain ⟨A57, c58, rfl, hv59_1, hv59_2⟩ := hv59
 unfold maxLen at hv59_2
 refine .know (row_len 3 G) (fun hv62 => ?_)
 obtain ⟨A60, c61, rfl, hv62_1, hv62_2⟩ := hv62
 unfold maxLen at hv62_2
 refine .know (row_len 4 G) (fun hv65 => ?_)
 obtain ⟨A63, c64, rfl, hv65_1, hv65_2⟩ := hv65
 unfold maxLen at hv65_2
 refine .know (row_len 5 G) (fun hv68 => ?_)
 obtain ⟨A66, c67, rfl, hv68_1, hv68_2⟩ := hv68
 unfold maxLen at hv68_2
 refine SC.draw mo [cel lb28 [.slice A57 R33.length c58, .slice A60 K34.length c61, .slice A63 U35.length c64, .slice A66 D36.length c67] 68, rw_ eZ 3 (.slice A57 R33.length c58) R33, rw_ eLK 37 (.slice A60 K34.length c61) K34, rw_ eIL 27 (.slice A63 U35.length c64) U35, rw_ eIL 27 (.slice A66 D36.length c67) D36, nestIL 3 U35, nestIL 3 D36] [] (.c (.t .h) (.c (.t .h) (.c (.t .h) (.c (.t .h) (.c (.t .h) (.c (.t .h) (.c (.t .h) .n))))))) (fun _ _ _ => sc0) (fun wf_69 hl_69 hx_69 hR_69 => ?_)
 refine SR.m 0 G G G G ?_
 refine SR.z 1 G G (ev_fa G fo29_0 G (r := 0) G) ?_
 refine SR.z 2 G G (ev_ld1 G ty3 G (At.d (At.lent hR_69 3 G G))) ?_
 refine SR.m 4 G G G G ?_
 refine SR.z 5 G G (ev_fa G fo29_0 G (r := 0) G) ?_
 refine SR.z 6 G G (ev_ld1 G ty3 G (At.d (At.lent hR_69 3 G G))) ?_
 refine SR.three (i := 3) (j := 8) (l := 9) kR ⟨_, G, ?_⟩ ⟨_, G, ?_⟩ ⟨_, G, ?_⟩
 ·
  refine st_call0 G G G G hbd16 G (.d (.d (.d (.c .h .n)))) (climbU lb28 A57 c58 R33 A60 c61 K34 A63 c64 U35 A66 c67 D36 n _ _ hL hnp hRn hWk.lu hWk.fu) (fun v_q72 C_q72 q72 => ⟨tt0, ?_⟩)
  obtain ⟨u70, W71, p73, rfl, rfl⟩ := q72
  show SR _ _ _ _ _ _ _ _ _ ⟨_, _ :: _ :: _ :: _ :: _ :: _ :: _ :: _ :: _, _, _⟩
  refine SR.three (i := 7) (j := 8) (l := 9) kR ⟨_, G, ?_⟩ ⟨_, G, ?_⟩ ⟨_, G, ?_⟩
  ·
   refine st_call0 G G G G hbd16 G (.d (.d (.d (.c .h .n)))) (climbD lb28 A57 c58 R33 A60 c61 K34 A63 c64 U35 A66 c67 D36 n _ _ hL hnp hRn hWk.ld hWk.fd) (fun v_q76 C_q76 q76 => ⟨tt0, ?_⟩)
   obtain ⟨u74, W75, p77, rfl, rfl⟩ := q76
   show SR _ _ _ _ _ _ _ _ _ ⟨_, _ :: _ :: _ :: _ :: _ :: _ :: _ :: _ :: _, _, _⟩
   refine SR.two (i := 8) (j := 9) kR ⟨_, G, ?_⟩ ⟨_, G, ?_⟩
   ·
    refine st_alloc G G G G zf29 (fun b78 => ⟨tt0, ?_⟩)
    refine SR.o 9 G (st_alloc G G G G zf29 (fun b79 => ⟨tt0, ?_⟩))
    refine .know (row_len 10 G) (fun hv82 => ?_)
    obtain ⟨A80, c81, rfl, hv82_1, hv82_2⟩ := hv82
    unfold maxLen at hv82_2
    refine SR.o 10 G (st_storea (l' := [.int .i64 n, .slice A80 W71.length c81]) G G G ty29 G G G (.t .h) G G ⟨tt0, ?_⟩)
    refine .know (row_len 9 G) (fun hv85 => ?_)
    obtain ⟨A83, c84, rfl, hv85_1, hv85_2⟩ := hv85
    unfold maxLen at hv85_2
    refine SR.o 11 G (st_storea (l' := [.int .i64 n, .slice A83 W75.length c84]) G G G ty29 G G G (.t .h) G G ⟨tt0, ?_⟩)
    refine SR.fin kR hl_69 hx_69 hR_69 (.c (.c (.c (.c (.c (.c (.c (.c (.c (.c (.c .n))))))))))) ?_
    refine SQ.go idQ ?_
    exact SC.weak (key55 ⟨b15, b78, b79, .slice A19 W9.length c20, .slice A80 W71.length c81, .slice A83 W75.length c84, W9, W71, W75, R33, K34, U35, D36⟩ ⟨hWk, p73, p77, p13, hWy⟩) (Sub.get (.c G (.c G (.c G .n)))) (kp (.c (.t4 (.t4 (.t4 (.t2 .h)))) (.c (.t .h) (.c .h (.c (.t4 (.t4 (.t4 (.t2 .h)))) (.c (.t4 (.t4 .h)) (.c (.t4 (.t2 (.t .h))) .n)))))))
   refine st_alloc G G G G zf29 (fun b86 => ⟨tt0, ?_⟩)
   refine SR.o 8 G (st_alloc G G G G zf29 (fun b87 => ⟨tt0, ?_⟩))
   refine .know (row_len 10 G) (fun hv90 => ?_)
   obtain ⟨A88, c89, rfl, hv90_1, hv90_2⟩ := hv90
   unfold maxLen at hv90_2
   refine SR.o 10 G (st_storea (l' := [.int .i64 n, .slice A88 W71.length c89]) G G G ty29 G G G .h G G ⟨tt0, ?_⟩)
   refine .know (row_len 9 G) (fun hv93 => ?_)
   obtain ⟨A91, c92, rfl, hv93_1, hv93_2⟩ := hv93
   unfold maxLen at hv93_2
   refine SR.o 11 G (st_storea (l' := [.int .i64 n, .slice A91 W75.length c92]) G G G ty29 G G G (.t .h) G G ⟨tt0, ?_⟩)
   refine SR.fin kR hl_69 hx_69 hR_69 (.c (.c (.c (.c (.c (.c (.c (.c (.c (.c (.c .n))))))))))) ?_
   refine SQ.go idQ ?_
   exact SC.weak (key55 ⟨b15, b87, b86, .slice A19 W9.length c20, .slice A88 W71.length c89, .slice A91 W75.length c92, W9, W71, W75, R33, K34, U35, D36⟩ ⟨hWk, p73, p77, p13, hWy⟩) (Sub.get (.c G (.c G (.c G .n)))) (kp (.c (.t4 (.t4 (.t4 (.t2 .h)))) (.c (.t .h) (.c .h (.c (.t4 (.t4 (.t4 (.t2 .h)))) (.c (.t4 (.t4 .h)) (.c (.t4 (.t2 (.t .h))) .n)))))))
  ·
   refine st_alloc G G G G zf29 (fun b94 => ⟨tt0, ?_⟩)
   refine SR.two (i := 7) (j := 9) kR ⟨_, G, ?_⟩ ⟨_, G, ?_⟩
   ·
    refine st_call0 G G G G hbd16 G (.c (.t .h) (.c (.t .h) (.c (.t .h) (.c (.t .h) (.c (.t .h) (.c (.t .h) (.c (.t .h) .n))))))) (climbD lb28 A57 c58 R33 A60 c61 K34 A63 c64 U35 A66 c67 D36 n _ _ hL hnp hRn hWk.ld hWk.fd) (fun v_q97 C_q97 q97 => ⟨tt0, ?_⟩)
    obtain ⟨u95, W96, p98, rfl, rfl⟩ := q97
    show SR _ _ _ _ _ _ _ _ _ ⟨_, _ :: _ :: _ :: _ :: _ :: _ :: _ :: _ :: _, _, _⟩
    refine SR.o 9 G (st_alloc G G G G zf29 (fun b99 => ⟨tt0, ?_⟩))
    refine .know (row_len 10 G) (fun hv102 => ?_)
    obtain ⟨A100, c101, rfl, hv102_1, hv102_2⟩ := hv102
    unfold maxLen at hv102_2
    refine SR.o 10 G (st_storea (l' := [.int .i64 n, .slice A100 W71.length c101]) G G G ty29 G G G (.t4 (.t4 (.t .h))) G G ⟨tt0, ?_⟩)
    refine .know (row_len 9 G) (fun hv105 => ?_)
    obtain ⟨A103, c104, rfl, hv105_1, hv105_2⟩ := hv105
    unfold maxLen at hv105_2
    refine SR.o 11 G (st_storea (l' := [.int .i64 n, .slice A103 W96.length c104]) G G G ty29 G G G (.t .h) G G ⟨tt0, ?_⟩)
    refine SR.fin kR hl_69 hx_69 hR_69 (.c (.c (.c (.c (.c (.c (.c (.c (.c (.c (.c .n))))))))))) ?_
    refine SQ.go idQ ?_
    exact SC.weak (key55 ⟨b15, b94, b99, .slice A19 W9.length c20, .slice A100 W71.length c101, .slice A103 W96.length c104, W9, W71, W96, R33, K34, U35, D36⟩ ⟨hWk, p73, p98, p13, hWy⟩) (Sub.get (.c G (.c G (.c G .n)))) (kp (.c (.t4 (.t4 (.t4 (.t2 .h)))) (.c (.t .h) (.c .h (.c (.t4 (.t4 (.t4 (.t2 .h)))) (.c (.t4 (.t4 .h)) (.c (.t4 (.t2 (.t .h))) .n)))))))
   refine st_alloc G G G G zf29 (fun b106 => ⟨tt0, ?_⟩)
   refine SR.o 7 G (st_call0 G G G G hbd16 G (.c (.t2 .h) (.c (.t2 .h) (.c (.t2 .h) (.c (.t2 .h) (.c (.t2 .h) (.c (.t2 .h) (.c (.t2 .h) .n))))))) (climbD lb28 A57 c58 R33 A60 c61 K34 A63 c64 U35 A66 c67 D36 n _ _ hL hnp hRn hWk.ld hWk.fd) (fun v_q109 C_q109 q109 => ⟨tt0, ?_⟩))
   obtain ⟨u107, W108, p110, rfl, rfl⟩ := q109
   show SR _ _ _ _ _ _ _ _ _ ⟨_, _ :: _ :: _ :: _ :: _ :: _ :: _ :: _ :: _, _, _⟩
   refine .know (row_len 10 G) (fun hv113 => ?_)
   obtain ⟨A111, c112, rfl, hv113_1, hv113_2⟩ := hv113
   unfold maxLen at hv113_2
   refine SR.o 10 G (st_storea (l' := [.int .i64 n, .slice A111 W71.length c112]) G G G ty29 G G G (.t4 (.t4 (.t .h))) G G ⟨tt0, ?_⟩)
   refine .know (row_len 8 G) (fun hv116 => ?_)
   obtain ⟨A114, c115, rfl, hv116_1, hv116_2⟩ := hv116
   unfold maxLen at hv116_2
   refine SR.o 11 G (st_storea (l' := [.int .i64 n, .slice A114 W108.length c115]) G G G ty29 G G G (.t4 (.t4 (.t .h))) G G ⟨tt0, ?_⟩)
   refine SR.fin kR hl_69 hx_69 hR_69 (.c (.c (.c (.c (.c (.c (.c (.c (.c (.c (.c .n))))))))))) ?_
   refine SQ.go idQ ?_
   exact SC.weak (key55 ⟨b15, b94, b106, .slice A19 W9.length c20, .slice A111 W71.length c112, .slice A114 W108.length c115, W9, W71, W108, R33, K34, U35, D36⟩ ⟨hWk, p73, p110, p13, hWy⟩) (Sub.get (.c G (.c G (.c G .n)))) (kp (.c (.t4 (.t4 (.t4 (.t2 .h)))) (.c (.t .h) (.c .h (.c (.t4 (.t4 (.t4 (.t2 .h)))) (.c (.t4 (.t4 .h)) (.c (.t4 (.t2 (.t .h))) .n)))))))
  refine st_alloc G G G G zf29 (fun b117 => ⟨tt0, ?_⟩)
  refine SR.two (i := 7) (j := 8) kR ⟨_, G, ?_⟩ ⟨_, G, ?_⟩
  ·
   refine st_call0 G G G G hbd16 G (.c (.t .h) (.c (.t .h) (.c (.t .h) (.c (.t .h) (.c (.t .h) (.c (.t .h) (.c (.t .h) .n))))))) (climbD lb28 A57 c58 R33 A60 c61 K34 A63 c64 U35 A66 c67 D36 n _ _ hL hnp hRn hWk.ld hWk.fd) (fun v_q120 C_q120 q120 => ⟨tt0, ?_⟩)
   obtain ⟨u118, W119, p121, rfl, rfl⟩ := q120
   show SR _ _ _ _ _ _ _ _ _ ⟨_, _ :: _ :: _ :: _ :: _ :: _ :: _ :: _ :: _, _, _⟩
   refine SR.o 8 G (st_alloc G G G G zf29 (fun b122 => ⟨tt0, ?_⟩))
   refine .know (row_len 10 G) (fun hv125 => ?_)
   obtain ⟨A123, c124, rfl, hv125_1, hv125_2⟩ := hv125
   unfold maxLen at hv125_2
   refine SR.o 10 G (st_storea (l' := [.int .i64 n, .slice A123 W71.length c124]) G G G ty29 G G G .h G G ⟨tt0, ?_⟩)
   refine .know (row_len 8 G) (fun hv128 => ?_)
   obtain ⟨A126, c127, rfl, hv128_1, hv128_2⟩ := hv128
   unfold maxLen at hv128_2
   refine SR.o 11 G (st_storea (l' := [.int .i64 n, .slice A126 W119.length c127]) G G G ty29 G G G (.t4 (.t4 (.t .h))) G G ⟨tt0, ?_⟩)
   refine SR.fin kR hl_69 hx_69 hR_69 (.c (.c (.c (.c (.c (.c (.c (.c (.c (.c (.c .n))))))))))) ?_
   refine SQ.go idQ ?_
   exact SC.weak (key55 ⟨b15, b122, b117, .slice A19 W9.length c20, .slice A123 W71.length c124, .slice A126 W119.length c127, W9, W71, W119, R33, K34, U35, D36⟩ ⟨hWk, p73, p121, p13, hWy⟩) (Sub.get (.c G (.c G (.c G .n)))) (kp (.c (.t4 (.t4 (.t4 (.t2 .h)))) (.c (.t .h) (.c .h (.c (.t4 (.t4 (.t4 (.t2 .h)))) (.c (.t4 (.t4 .h)) (.c (.t4 (.t2 (.t .h))) .n)))))))
  refine st_alloc G G G G zf29 (fun b129 => ⟨tt0, ?_⟩)
  refine SR.o 7 G (st_call0 G G G G hbd16 G (.c (.t2 .h) (.c (.t2 .h) (.c (.t2 .h) (.c (.t2 .h) (.c (.t2 .h) (.c (.t2 .h) (.c (.t2 .h) .n))))))) (climbD lb28 A57 c58 R33 A60 c61 K34 A63 c64 U35 A66 c67 D36 n _ _ hL hnp hRn hWk.ld hWk.fd) (fun v_q132 C_q132 q132 => ⟨tt0, ?_⟩))
  obtain ⟨u130, W131, p133, rfl, rfl⟩ := q132
  show SR _ _ _ _ _ _ _ _ _ ⟨_, _ :: _ :: _ :: _ :: _ :: _ :: _ :: _ :: _, _, _⟩
  refine .know (row_len 10 G) (fun hv136 => ?_)
  obtain ⟨A134, c135, rfl, hv136_1, hv136_2⟩ := hv136
  unfold maxLen at hv136_2
  refine SR.o 10 G (st_storea (l' := [.int .i64 n, .slice A134 W71.length c135]) G G G ty29 G G G (.t4 (.t4 .h)) G G ⟨tt0, ?_⟩)
  refine .know (row_len 8 G) (fun hv139 => ?_)
  obtain ⟨A137, c138, rfl, hv139_1, hv139_2⟩ := hv139
  unfold maxLen at hv139_2
  refine SR.o 11 G (st_storea (l' := [.int .i64 n, .slice A137 W131.length c138]) G G G ty29 G G G (.t4 (.t4 (.t .h))) G G ⟨tt0, ?_⟩)
  refine SR.fin kR hl_69 hx_69 hR_69 (.c (.c (.c (.c (.c (.c (.c (.c (.c (.c (.c .n))))))))))) ?_
  refine SQ.go idQ ?_
  exact SC.weak (key55 ⟨b15, b129, b117, .slice A19 W9.length c20, .slice A134 W71.length c135, .slice A137 W131.length c138, W9, W71, W131, R33, K34, U35, D36⟩ ⟨hWk, p73, p133, p13, hWy⟩) (Sub.get (.c G (.c G (.c G .n)))) (kp (.c (.t4 (.t4 (.t4 (.t2 .h)))) (.c (.t .h) (.c .h (.c (.t4 (.t4 (.t4 (.t2 .h)))) (.c (.t4 (.t4 .h)) (.c (.t4 (.t2 (.t .h))) .n)))))))
 ·
  refine st_alloc G G G G zf29 (fun b140 => ⟨tt0, ?_⟩)
  refine SR.two (i := 3) (j := 9) kR ⟨_, G, ?_⟩ ⟨_, G, ?_⟩
  ·
   refine st_call0 G G G G hbd16 G (.c (.t .h) (.c (.t .h) (.c (.t .h) (.c (.t .h) (.c (.t .h) (.c (.t .h) (.c (.t .h) .n))))))) (climbU lb28 A57 c58 R33 A60 c61 K34 A63 c64 U35 A66 c67 D36 n _ _ hL hnp hRn hWk.lu hWk.fu) (fun v_q143 C_q143 q143 => ⟨tt0, ?_⟩)
   obtain ⟨u141, W142, p144, rfl, rfl⟩ := q143
   show SR _ _ _ _ _ _ _ _ _ ⟨_, _ :: _ :: _ :: _ :: _ :: _ :: _ :: _ :: _, _, _⟩
   refine SR.two (i := 7) (j := 9) kR ⟨_, G, ?_⟩ ⟨_, G, ?_⟩
   ·
    refine st_call0 G G G G hbd16 G (.d (.d (.d (.c .h .n)))) (climbD lb28 A57 c58 R33 A60 c61 K34 A63 c64 U35 A66 c67 D36 n _ _ hL hnp hRn hWk.ld hWk.fd) (fun v_q147 C_q147 q147 => ⟨tt0, ?_⟩)
    obtain ⟨u145, W146, p148, rfl, rfl⟩ := q147
    show SR _ _ _ _ _ _ _ _ _ ⟨_, _ :: _ :: _ :: _ :: _ :: _ :: _ :: _ :: _, _, _⟩
    refine SR.o 9 G (st_alloc G G G G zf29 (fun b149 => ⟨tt0, ?_⟩))
    refine .know (row_len 9 G) (fun hv152 => ?_)
    obtain ⟨A150, c151, rfl, hv152_1, hv152_2⟩ := hv152
    unfold maxLen at hv152_2
    refine SR.o 10 G (st_storea (l' := [.int .i64 n, .slice A150 W142.length c151]) G G G ty29 G G G (.t4 (.t4 (.t2 .h))) G G ⟨tt0, ?_⟩)
    refine .know (row_len 9 G) (fun hv155 => ?_)
    obtain ⟨A153, c154, rfl, hv155_1, hv155_2⟩ := hv155
    unfold maxLen at hv155_2
    refine SR.o 11 G (st_storea (l' := [.int .i64 n, .slice A153 W146.length c154]) G G G ty29 G G G (.t .h) G G ⟨tt0, ?_⟩)
    refine SR.fin kR hl_69 hx_69 hR_69 (.c (.c (.c (.c (.c (.c (.c (.c (.c (.c (.c .n))))))))))) ?_
    refine SQ.go idQ ?_
    exact SC.weak (key55 ⟨b15, b140, b149, .slice A19 W9.length c20, .slice A150 W142.length c151, .slice A153 W146.length c154, W9, W142, W146, R33, K34, U35, D36⟩ ⟨hWk, p144, p148, p13, hWy⟩) (Sub.get (.c G (.c G (.c G .n)))) (kp (.c (.t4 (.t4 (.t4 (.t2 .h)))) (.c (.t .h) (.c .h (.c (.t4 (.t4 (.t4 (.t2 .h)))) (.c (.t4 (.t4 .h)) (.c (.t4 (.t2 (.t .h))) .n)))))))
   refine st_alloc G G G G zf29 (fun b156 => ⟨tt0, ?_⟩)
   refine SR.o 7 G (st_call0 G G G G hbd16 G (.c (.t .h) (.c (.t .h) (.c (.t .h) (.c (.t .h) (.c (.t .h) (.c (.t .h) (.c (.t .h) .n))))))) (climbD lb28 A57 c58 R33 A60 c61 K34 A63 c64 U35 A66 c67 D36 n _ _ hL hnp hRn hWk.ld hWk.fd) (fun v_q159 C_q159 q159 => ⟨tt0, ?_⟩))
   obtain ⟨u157, W158, p160, rfl, rfl⟩ := q159
   show SR _ _ _ _ _ _ _ _ _ ⟨_, _ :: _ :: _ :: _ :: _ :: _ :: _ :: _ :: _, _, _⟩
   refine .know (row_len 9 G) (fun hv163 => ?_)
   obtain ⟨A161, c162, rfl, hv163_1, hv163_2⟩ := hv163
   unfold maxLen at hv163_2
   refine SR.o 10 G (st_storea (l' := [.int .i64 n, .slice A161 W142.length c162]) G G G ty29 G G G (.t4 (.t4 (.t2 .h))) G G ⟨tt0, ?_⟩)
   refine .know (row_len 8 G) (fun hv166 => ?_)
   obtain ⟨A164, c165, rfl, hv166_1, hv166_2⟩ := hv166
   unfold maxLen at hv166_2
   refine SR.o 11 G (st_storea (l' := [.int .i64 n, .slice A164 W158.length c165]) G G G ty29 G G G (.t4 (.t4 (.t .h))) G G ⟨tt0, ?_⟩)
   refine SR.fin kR hl_69 hx_69 hR_69 (.c (.c (.c (.c (.c (.c (.c (.c (.c (.c (.c .n))))))))))) ?_
   refine SQ.go idQ ?_
   exact SC.weak (key55 ⟨b15, b140, b156, .slice A19 W9.length c20, .slice A161 W142.length c162, .slice A164 W158.length c165, W9, W142, W158, R33, K34, U35, D36⟩ ⟨hWk, p144, p160, p13, hWy⟩) (Sub.get (.c G (.c G (.c G .n)))) (kp (.c (.t4 (.t4 (.t4 (.t2 .h)))) (.c (.t .h) (.c .h (.c (.t4 (.t4 (.t4 (.t2 .h)))) (.c (.t4 (.t4 .h)) (.c (.t4 (.t2 (.t .h))) .n)))))))
  refine st_alloc G G G G zf29 (fun b167 => ⟨tt0, ?_⟩)
  refine SR.o 3 G (st_call0 G G G G hbd16 G (.c (.t2 .h) (.c (.t2 .h) (.c (.t2 .h) (.c (.t2 .h) (.c (.t2 .h) (.c (.t2 .h) (.c (.t2 .h) .n))))))) (climbU lb28 A57 c58 R33 A60 c61 K34 A63 c64 U35 A66 c67 D36 n _ _ hL hnp hRn hWk.lu hWk.fu) (fun v_q170 C_q170 q170 => ⟨tt0, ?_⟩))
  obtain ⟨u168, W169, p171, rfl, rfl⟩ := q170
  show SR _ _ _ _ _ _ _ _ _ ⟨_, _ :: _ :: _ :: _ :: _ :: _ :: _ :: _ :: _, _, _⟩
  refine SR.o 7 G (st_call0 G G G G hbd16 G (.d (.d (.d (.c .h .n)))) (climbD lb28 A57 c58 R33 A60 c61 K34 A63 c64 U35 A66 c67 D36 n _ _ hL hnp hRn hWk.ld hWk.fd) (fun v_q174 C_q174 q174 => ⟨tt0, ?_⟩))
  obtain ⟨u172, W173, p175, rfl, rfl⟩ := q174
  show SR _ _ _ _ _ _ _ _ _ ⟨_, _ :: _ :: _ :: _ :: _ :: _ :: _ :: _ :: _, _, _⟩
  refine .know (row_len 8 G) (fun hv178 => ?_)
  obtain ⟨A176, c177, rfl, hv178_1, hv178_2⟩ := hv178
  unfold maxLen at hv178_2
  refine SR.o 10 G (st_storea (l' := [.int .i64 n, .slice A176 W169.length c177]) G G G ty29 G G G (.t4 (.t4 (.t2 .h))) G G ⟨tt0, ?_⟩)
  refine .know (row_len 8 G) (fun hv181 => ?_)
  obtain ⟨A179, c180, rfl, hv181_1, hv181_2⟩ := hv181
  unfold maxLen at hv181_2
  refine SR.o 11 G (st_storea (l' := [.int .i64 n, .slice A179 W173.length c180]) G G G ty29 G G G (.t4 (.t4 (.t2 .h))) G G ⟨tt0, ?_⟩)
  refine SR.fin kR hl_69 hx_69 hR_69 (.c (.c (.c (.c (.c (.c (.c (.c (.c (.c (.c .n))))))))))) ?_
  refine SQ.go idQ ?_
  exact SC.weak (key55 ⟨b15, b140, b167, .slice A19 W9.length c20, .slice A176 W169.length c177, .slice A179 W173.length c180, W9, W169, W173, R33, K34, U35, D36⟩ ⟨hWk, p171, p175, p13, hWy⟩) (Sub.get (.c G (.c G (.c G .n)))) (kp (.c (.t4 (.t4 (.t4 (.t2 .h)))) (.c (.t .h) (.c .h (.c (.t4 (.t4 (.t4 (.t2 .h)))) (.c (.t4 (.t4 .h)) (.c (.t4 (.t2 (.t .h))) .n)))))))
 refine st_alloc G G G G zf29 (fun b182 => ⟨tt0, ?_⟩)
 refine SR.two (i := 3) (j := 8) kR ⟨_, G, ?_⟩ ⟨_, G, ?_⟩
 ·
  refine st_call0 G G G G hbd16 G (.c (.t .h) (.c (.t .h) (.c (.t .h) (.c (.t .h) (.c (.t .h) (.c (.t .h) (.c (.t .h) .n))))))) (climbU lb28 A57 c58 R33 A60 c61 K34 A63 c64 U35 A66 c67 D36 n _ _ hL hnp hRn hWk.lu hWk.fu) (fun v_q185 C_q185 q185 => ⟨tt0, ?_⟩)
  obtain ⟨u183, W184, p186, rfl, rfl⟩ := q185
  show SR _ _ _ _ _ _ _ _ _ ⟨_, _ :: _ :: _ :: _ :: _ :: _ :: _ :: _ :: _, _, _⟩
  refine SR.two (i := 7) (j := 8) kR ⟨_, G, ?_⟩ ⟨_, G, ?_⟩
  ·
   refine st_call0 G G G G hbd16 G (.d (.d (.d (.c .h .n)))) (climbD lb28 A57 c58 R33 A60 c61 K34 A63 c64 U35 A66 c67 D36 n _ _ hL hnp hRn hWk.ld hWk.fd) (fun v_q189 C_q189 q189 => ⟨tt0, ?_⟩)
   obtain ⟨u187, W188, p190, rfl, rfl⟩ := q189
   show SR _ _ _ _ _ _ _ _ _ ⟨_, _ :: _ :: _ :: _ :: _ :: _ :: _ :: _ :: _, _, _⟩
   refine SR.o 8 G (st_alloc G G G G zf29 (fun b191 => ⟨tt0, ?_⟩))
   refine .know (row_len 9 G) (fun hv194 => ?_)
   obtain ⟨A192, c193, rfl, hv194_1, hv194_2⟩ := hv194
   unfold maxLen at hv194_2
   refine SR.o 10 G (st_storea (l' := [.int .i64 n, .slice A192 W184.length c193]) G G G ty29 G G G .h G G ⟨tt0, ?_⟩)
   refine .know (row_len 8 G) (fun hv197 => ?_)
   obtain ⟨A195, c196, rfl, hv197_1, hv197_2⟩ := hv197
   unfold maxLen at hv197_2
   refine SR.o 11 G (st_storea (l' := [.int .i64 n, .slice A195 W188.length c196]) G G G ty29 G G G (.t4 (.t4 (.t2 .h))) G G ⟨tt0, ?_⟩)
   refine SR.fin kR hl_69 hx_69 hR_69 (.c (.c (.c (.c (.c (.c (.c (.c (.c (.c (.c .n))))))))))) ?_
   refine SQ.go idQ ?_
   exact SC.weak (key55 ⟨b15, b191, b182, .slice A19 W9.length c20, .slice A192 W184.length c193, .slice A195 W188.length c196, W9, W184, W188, R33, K34, U35, D36⟩ ⟨hWk, p186, p190, p13, hWy⟩) (Sub.get (.c G (.c G (.c G .n)))) (kp (.c (.t4 (.t4 (.t4 (.t2 .h)))) (.c (.t .h) (.c .h (.c (.t4 (.t4 (.t4 (.t2 .h)))) (.c (.t4 (.t4 .h)) (.c (.t4 (.t2 (.t .h))) .n)))))))
  refine st_alloc G G G G zf29 (fun b198 => ⟨tt0, ?_⟩)
  refine SR.o 7 G (st_call0 G G G G hbd16 G (.c (.t .h) (.c (.t .h) (.c (.t .h) (.c (.t .h) (.c (.t .h) (.c (.t .h) (.c (.t .h) .n))))))) (climbD lb28 A57 c58 R33 A60 c61 K34 A63 c64 U35 A66 c67 D36 n _ _ hL hnp hRn hWk.ld hWk.fd) (fun v_q201 C_q201 q201 => ⟨tt0, ?_⟩))
  obtain ⟨u199, W200, p202, rfl, rfl⟩ := q201
  show SR _ _ _ _ _ _ _ _ _ ⟨_, _ :: _ :: _ :: _ :: _ :: _ :: _ :: _ :: _, _, _⟩
  refine .know (row_len 9 G) (fun hv205 => ?_)
  obtain ⟨A203, c204, rfl, hv205_1, hv205_2⟩ := hv205
  unfold maxLen at hv205_2
  refine SR.o 10 G (st_storea (l' := [.int .i64 n, .slice A203 W184.length c204]) G G G ty29 G G G (.t4 (.t4 .h)) G G ⟨tt0, ?_⟩)
  refine .know (row_len 8 G) (fun hv208 => ?_)
  obtain ⟨A206, c207, rfl, hv208_1, hv208_2⟩ := hv208
  unfold maxLen at hv208_2
  refine SR.o 11 G (st_storea (l' := [.int .i64 n, .slice A206 W200.length c207]) G G G ty29 G G G (.t4 (.t4 (.t2 .h))) G G ⟨tt0, ?_⟩)
  refine SR.fin kR hl_69 hx_69 hR_69 (.c (.c (.c (.c (.c (.c (.c (.c (.c (.c (.c .n))))))))))) ?_
  refine SQ.go idQ ?_
  exact SC.weak (key55 ⟨b15, b198, b182, .slice A19 W9.length c20, .slice A203 W184.length c204, .slice A206 W200.length c207, W9, W184, W200, R33, K34, U35, D36⟩ ⟨hWk, p186, p202, p13, hWy⟩) (Sub.get (.c G (.c G (.c G .n)))) (kp (.c (.t4 (.t4 (.t4 (.t2 .h)))) (.c (.t .h) (.c .h (.c (.t4 (.t4 (.t4 (.t2 .h)))) (.c (.t4 (.t4 .h)) (.c (.t4 (.t2 (.t .h))) .n)))))))
 refine st_alloc G G G G zf29 (fun b209 => ⟨tt0, ?_⟩)
 refine SR.o 3 G (st_call0 G G G G hbd16 G (.c (.t2 .h) (.c (.t2 .h) (.c (.t2 .h) (.c (.t2 .h) (.c (.t2 .h) (.c (.t2 .h) (.c (.t2 .h) .n))))))) (climbU lb28 A57 c58 R33 A60 c61 K34 A63 c64 U35 A66 c67 D36 n _ _ hL hnp hRn hWk.lu hWk.fu) (fun v_q212 C_q212 q212 => ⟨tt0, ?_⟩))
 obtain ⟨u210, W211, p213, rfl, rfl⟩ := q212
 show SR _ _ _ _ _ _ _ _ _ ⟨_, _ :: _ :: _ :: _ :: _ :: _ :: _ :: _ :: _, _, _⟩
 refine SR.o 7 G (st_call0 G G G G hbd16 G (.d (.d (.d (.c .h .n)))) (climbD lb28 A57 c58 R33 A60 c61 K34 A63 c64 U35 A66 c67 D36 n _ _ hL hnp hRn hWk.ld hWk.fd) (fun v_q216 C_q216 q216 => ⟨tt0, ?_⟩))
 obtain ⟨u214, W215, p217, rfl, rfl⟩ := q216
 show SR _ _ _ _ _ _ _ _ _ ⟨_, _ :: _ :: _ :: _ :: _ :: _ :: _ :: _ :: _, _, _⟩
 refine .know (row_len 8 G) (fun hv220 => ?_)
 obtain ⟨A218, c219, rfl, hv220_1, hv220_2⟩ := hv220
 unfold maxLen at hv220_2
 refine SR.o 10 G (st_storea (l' := [.int .i64 n, .slice A218 W211.length c219]) G G G ty29 G G G (.t4 (.t4 (.t .h))) G G ⟨tt0, ?_⟩)
 refine .know (row_len 8 G) (fun hv223 => ?_)
 obtain ⟨A221, c222, rfl, hv223_1, hv223_2⟩ := hv223
 unfold maxLen at hv223_2
 refine SR.o 11 G (st_storea (l' := [.int .i64 n, .slice A221 W215.length c222]) G G G ty29 G G G (.t4 (.t4 (.t2 .h))) G G ⟨tt0, ?_⟩)
 refine SR.fin kR hl_69 hx_69 hR_69 (.c (.c (.c (.c (.c (.c (.c (.c (.c (.c (.c .n))))))))))) ?_
 refine SQ.go idQ ?_
 exact SC.weak (key55 ⟨b15, b209, b182, .slice A19 W9.length c20, .slice A218 W211.length c219, .slice A221 W215.length c222, W9, W211, W215, R33, K34, U35, D36⟩ ⟨hWk, p213, p217, p13, hWy⟩) (Sub.get (.c G (.c G (.c G .n)))) (kp (.c (.t4 (.t4 (.t4 (.t2 .h)))) (.c (.t .h) (.c .h (.c (.t4 (.t4 (.t4 (.t2 .h)))) (.c (.t4 (.t4 .h)) (.c (.t4 (.t2 (.t .h))) .n)))))))
theorem liftWaysBadF (n : Int) (A : Option Addr) (c : Nat) (l : List AR) (S : Nat → Prop) (wf : World) (hA : Fr eAR S wf A l) (hR : ¬ RoadOk n l) :
  TR0 prog 5 [.agg #[.int .i64 n, .slice A l.length c], .bool false] [] S wf (fun v_ C_ => v_ = .bool true ∧ C_ = []) := by
 have hla := hA.len
 refine TR.mk func5 G ntmps5 G G (fun w_ => ?_)
 refine .seq (.region (.cons (st_boxa G G G G G (fun b1 => (.a G G G (.go idQ (.seq (.seq (.region ?_)))))))))
 refine .cons (st_callk G G G G hbd8 G .n (awake7_ _ _) ?_)
 refine .v (ev_not G G) G (.go idQ (.cond_f G (.skipgo idQ (.seq (.region ?_)))))
 refine .d 0 ty24 G G G G (.m G G G (.cons (st_callk G G G G hbd9 G .n (graphbadF n A c l _ _ hA hR) (.m G G G ?_))))
 refine .x G G G G (.x G G G G (.x G G G G (.x G G G G ?_)))
 refine .cons (st_alloc G G G G zf29 (fun b2 => ?_))
 refine .cons (st_alloc G G G G zf29 (fun b3 => ?_))
 refine .a G G G (.cons (st_storea (l' := [.int .i64 0, .slice none 0 0]) G G G ty29 G G G (.t .h) G G (.cons (st_storea (l' := [.int .i64 0, .slice none 0 0]) G G G ty29 G G G (.t .h) G G (.a G G G ?_)))))
 refine .go idQ (.seq (.seq (.region (.m G G G (.v (ev_not G G) G (.go idQ ?_))))))
 refine .cond_t G ?_
 refine .seq (.region (.a G G G (.go idQ (.ret idQ (ret1 results5 G .n ⟨G, G⟩)))))
theorem liftWaysT_s8 (n : Int) (A : Option Addr) (c : Nat) (l : List AR) (S : Nat → Prop) (wf : World) (hA : Fr eAR S wf A l) (hR : RoadOk n l) (mb : Nat) (ub : Nat) (db : Nat) (xm : Value) (xu : Value) (xd : Value) (W : List Int) (Wu : List Int) (Wd : List Int) (R : List Int) (K : List LK) (U : List IL) (D : List IL) (j_0 : WyK n R K U D) (j_1 : MF n Wu (fw (clipF n (upT n R K U)) n.toNat)) (j_2 : MF n Wd (fw (clipF n (upT n R K D)) n.toNat)) (j_3 : MF n W (fw (tf n (tabF n true l)) n.toNat)) (j_4 : ∀ i j : Int, 0 ≤ i → i < n → 0 ≤ j → j < n → bst (fw (clipF n (upT n R K U)) n.toNat) (fw (clipF n (upT n R K D)) n.toNat) i j n.toNat = gt W (i * n + j)) (V : Env) :
  SC V prog (bodyPost prog Try.f5 (TRp V S wf (fun v_ C_ S_ wf_ => (fun v_ C_ => v_ = .bool true ∧ C_ = []) v_ C_ ∧ S_ = S ∧ wf_ = wf))) 110 (sqR (sqR (sqR (sqR (sqR (sqR (bodyC Try.f5))))))) ⟨[(7, .pointer (some ⟨mb, 0, none⟩)), (10, .pointer (some ⟨ub, 0, none⟩)), (11, .pointer (some ⟨db, 0, none⟩))], [cel mb [.int .i64 n, xm] 29, cel ub [.int .i64 n, xu] 29, cel db [.int .i64 n, xd] 29, rw_ eZ 3 (xm) W, rw_ eZ 3 (xu) Wu, rw_ eZ 3 (xd) Wd], S, wf⟩ := by
 have hla := hA.len
 have hlen := hR.len
 have hnp := hR.pl
 have hto := tab_ok (d := true) hR
 have htl := hto.len
 have hsq := sq_le hnp
 show SC _ _ _ _ (.seq _ _) _
 refine .seq (.seq (.know (row_len 3 G) (fun hv41 => ?_)))
 obtain ⟨A39, c40, rfl, hv41_1, hv41_2⟩ := hv41
 unfold maxLen at hv41_2
 refine .know (row_len 4 G) (fun hv44 => ?_)
 obtain ⟨A42, c43, rfl, hv44_1, hv44_2⟩ := hv44
 unfold maxLen at hv44_2
 refine .know (row_len 5 G) (fun hv47 => ?_)
 obtain ⟨A45, c46, rfl, hv47_1, hv47_2⟩ := hv47
 unfold maxLen at hv47_2
 refine .region (.a G G G (.go idQ (.block (.loop (X := Int) (fun i => 0 ≤ i ∧ i ≤ n) (fun i => [(7, .pointer (some ⟨mb, 0, none⟩)), (10, .pointer (some ⟨ub, 0, none⟩)), (11, .pointer (some ⟨db, 0, none⟩)), (12, .int .i64 i)]) (fun i => [cel mb [.int .i64 n, .slice A39 W.length c40] 29, cel ub [.int .i64 n, .slice A42 Wu.length c43] 29, cel db [.int .i64 n, .slice A45 Wd.length c46] 29, rw_ eZ 3 (.slice A39 W.length c40) W, rw_ eZ 3 (.slice A42 Wu.length c43) Wu, rw_ eZ 3 (.slice A45 Wd.length c46) Wd]) (fun _ => S) (fun _ => wf) (fun i => (n - i).toNat) (fun a_ w_ hs_ hw_ => ⟨0, (by (try dsimp only); exact ⟨oO, oO⟩), hs_.mono (Sub.get (.c4 G G G G .n)), hw_.keep (.d (.d (.d .n)))⟩) (fun i ⟨q_0, q_1⟩ => ?_)))))
 try dsimp only
 refine .seq (.seq (.region (.m G G G (.f fo29_0 0 G G G G (.l ty3 0 G G G G G ?_)))))
 refine .e G G G G G (.go idQ (.condI G bD (fun h48 => ?_) (fun h48 => ?_)))
 ·
  refine .skipgo idQ (.seq (.block (.seq (.region (.a G G G (.go idQ (.block (.loop (X := Int) (fun j => 0 ≤ j ∧ j ≤ n) (fun j => [(7, .pointer (some ⟨mb, 0, none⟩)), (10, .pointer (some ⟨ub, 0, none⟩)), (11, .pointer (some ⟨db, 0, none⟩)), (12, .int .i64 i), (13, .int .i64 j)]) (fun j => [cel mb [.int .i64 n, .slice A39 W.length c40] 29, cel ub [.int .i64 n, .slice A42 Wu.length c43] 29, cel db [.int .i64 n, .slice A45 Wd.length c46] 29, rw_ eZ 3 (.slice A39 W.length c40) W, rw_ eZ 3 (.slice A42 Wu.length c43) Wu, rw_ eZ 3 (.slice A45 Wd.length c46) Wd]) (fun _ => S) (fun _ => wf) (fun j => (n - j).toNat) (fun a_ w_ hs_ hw_ => ⟨0, (by (try dsimp only); exact ⟨oO, oO⟩), hs_.mono (Sub.get (.c4 G G G G (.c G .n))), hw_.keep (.d (.d (.d .n)))⟩) (fun j ⟨r_0, r_1⟩ => ?_)))))))))
  try dsimp only
  refine .seq (.seq (.region (.m G G G (.f fo29_0 0 G G G G (.l ty3 0 G G G G G ?_)))))
  refine .e G G G G G (.go idQ (.condI G bD (fun h49 => ?_) (fun h49 => ?_)))
  ·
   refine .skipgo idQ (.seq (.block (.seq (.region (.a G G G (.go idQ (.seq (.seq (.region (.a G G G ?_))))))))))
   refine .go idQ (.block (.loop (X := Int × Int) (fun ⟨k, best⟩ => 0 ≤ k ∧ k ≤ n ∧ best = bst (fw (clipF n (upT n R K U)) n.toNat) (fw (clipF n (upT n R K D)) n.toNat) i j k.toNat) (fun ⟨k, best⟩ => [(7, .pointer (some ⟨mb, 0, none⟩)), (10, .pointer (some ⟨ub, 0, none⟩)), (11, .pointer (some ⟨db, 0, none⟩)), (12, .int .i64 i), (13, .int .i64 j), (15, .int .i64 k), (14, .int .i64 best)]) (fun ⟨k, best⟩ => [cel mb [.int .i64 n, .slice A39 W.length c40] 29, cel ub [.int .i64 n, .slice A42 Wu.length c43] 29, cel db [.int .i64 n, .slice A45 Wd.length c46] 29, rw_ eZ 3 (.slice A39 W.length c40) W, rw_ eZ 3 (.slice A42 Wu.length c43) Wu, rw_ eZ 3 (.slice A45 Wd.length c46) Wd]) (fun _ => S) (fun _ => wf) (fun ⟨k, best⟩ => (n - k).toNat) (fun a_ w_ hs_ hw_ => ⟨⟨0, (-1)⟩, (by (try dsimp only); exact ⟨oO, oO, G⟩), hs_.mono (Sub.get (.c4 G G G G (.c G (.c G (.c G .n))))), hw_.keep (.d (.d (.d .n)))⟩) (fun ⟨k, best⟩ ⟨s_0, s_1, s_2⟩ => ?_)))
   try dsimp only
   refine .seq (.seq (.region (.m G G G (.f fo29_0 0 G G G G (.l ty3 0 G G G G G ?_)))))
   refine .e G G G G G (.go idQ (.condI G bD (fun h50 => ?_) (fun h50 => ?_)))
   ·
    refine .skipgo idQ (.seq (.block (.seq ?_)))
    have hx1 := idx_rng (n := n) (a := i) (b := k) ⟨by omega, by omega⟩ ⟨by omega, by omega⟩
    have hx2 := idx_rng (n := n) (a := k) (b := j) ⟨by omega, by omega⟩ ⟨by omega, by omega⟩
    have ha := j_1.at_ i k oO oO oO oO
    have hb := j_2.at_ k j oO oO oO oO
    have hau := (j_0.fu n.toNat oO).hi i k
    have hal := (j_0.fu n.toNat oO).lo i k
    have hbu := (j_0.fd n.toNat oO).hi k j
    have hbl := (j_0.fd n.toNat oO).lo k j
    have hul := j_1.len
    have hdl := j_2.len
    refine SC.draw mo [] [] .n (fun _ _ _ => sc0) (fun wf_51 hl_51 hx_51 hR_51 => ?_)
    refine SR.z 0 G G (ev_fa G fo29_1 G (r := 1) G) ?_
    refine SR.z 1 G G (ev_ld1 G ty27 G (At.d (At.lent hR_51 1 G G))) ?_
    refine SR.m 2 G G G G ?_
    refine SR.z 3 G G (ev_fa G fo29_0 G (r := 0) G) ?_
    refine SR.z 4 G G (ev_ld1 G ty3 G (At.d (At.lent hR_51 0 G G))) ?_
    refine SR.z 5 G G (ev_mul G G G (r := (i * n)) G oO oO) ?_
    refine SR.m 6 G G G G ?_
    refine SR.z 7 G G (ev_add G G G (r := ((i * n) + k)) G oO oO) ?_
    refine SR.z 8 G G (ev_ix G underlying27 ty3 G G oO oO (fun _ _ => Fr.adr (i := ((i * n) + k)) (Fr.lent (S := S) hR_51 4 G lO) oO oO)) ?_
    refine SR.z 9 G G (ev_ld1 G ty3 G (At.elem1 (At.d (Fr.el (i := ((i * n) + k)) (Fr.lent (S := S) hR_51 4 G lO) oO oO)) 0 G)) ?_
    refine SR.z 10 G G (ev_fa G fo29_1 G (r := 1) G) ?_
    refine SR.z 11 G G (ev_ld1 G ty27 G (At.d (At.lent hR_51 2 G G))) ?_
    refine SR.m 12 G G G G ?_
    refine SR.z 13 G G (ev_fa G fo29_0 G (r := 0) G) ?_
    refine SR.z 14 G G (ev_ld1 G ty3 G (At.d (At.lent hR_51 0 G G))) ?_
    refine SR.z 15 G G (ev_mul G G G (r := (k * n)) G oO oO) ?_
    refine SR.m 16 G G G G ?_
    refine SR.z 17 G G (ev_add G G G (r := ((k * n) + j)) G oO oO) ?_
    refine SR.z 18 G G (ev_ix G underlying27 ty3 G G oO oO (fun _ _ => Fr.adr (i := ((k * n) + j)) (Fr.lent (S := S) hR_51 5 G lO) oO oO)) ?_
    refine SR.z 19 G G (ev_ld1 G ty3 G (At.elem1 (At.d (Fr.el (i := ((k * n) + j)) (Fr.lent (S := S) hR_51 5 G lO) oO oO)) 0 G)) ?_
    refine SR.z 20 G G (ev_as G G) ?_
    refine SR.z 21 G G (ev_as G G) ?_
    refine SR.fin kR hl_51 hx_51 hR_51 .n ?_
    refine SQ.go idQ ?_
    refine .seq (.region (.m G G G (.e G G G G G (.m G G G ?_))))
    refine .w (fun _ => ev_mv G G) G (.w (fun hb => ev_cmp G (lkg G hb) G G) G (.v (ev_and G G G G) G (.m G G G ?_)))
    refine .w (fun _ => ev_mv G G) G (.w (fun hb => ev_cmp G (lkg G hb) G G) G (.w (fun hb => ev_mv G (lkg G hb)) G ?_))
    rcases Bool.eq_false_or_eq_true ((decide ((gt Wu ((i * n) + k)) ≥ 0)) && (decide ((gt Wd ((k * n) + j)) ≥ 0))) with hb52 | hb52
    ·
     have hb52_ := bT (bA bD bD) hb52
     refine SP.reslotv (t := 87) G (gv_on hb52) ?_
     refine .w (fun _ => ev_mv G G) G (.w (fun _ => ev_mv G G) G (.w (fun hb => have hp := bF bD hb; ev_add G (lkg G hb) (lkg G hb) (r := ((gt Wu ((i * n) + k)) + (gt Wd ((k * n) + j)))) G (by have _h := hp; omega) (by have _h := hp; omega)) G (.w (fun _ => ev_mv G G) G ?_)))
     refine .w (fun hb => ev_cmp G (lkg G hb) (lkg G hb) G) G ?_
     refine SP.reslot (t := 84) G hb52 ?_
     refine .cons (.on G G G (Ev.step (ev_or G G G G) G G G ?_))
     refine .v (ev_pickt G G G G) G (.go idQ (.condI G (bO bD bD) (fun h53 => ?_) (fun h53 => ?_)))
     ·
      refine .region (.m G G G (.m G G G (.v (ev_add G G G (r := ((gt Wu ((i * n) + k)) + (gt Wd ((k * n) + j)))) G oO oO) G ?_)))
      refine .a G G G (.go idQ (.region (.m G G G (.p ((k + 1)) oO oO G G G G G ?_))))
      refine .a G G G ?_
      exact SP.nil (SQ.roundb (X := Int × Int) (x := (k, best)) ⟨(k + 1), ((gt Wu ((i * n) + k)) + (gt Wd ((k * n) + j)))⟩ (by (try dsimp only); exact ⟨oO, oO, (by rw [ha, hb]; exact bst_yes s_2 s_0 oO)⟩) dO (Sub.get (.c4 G G G G (.c G (.c G (.c G .n))))) (kp (.d (.d (.d .n)))))
     refine .skipgo idQ (.region (.m G G G (.p ((k + 1)) oO oO G G G G G (.a G G G ?_))))
     exact SP.nil (SQ.roundb (X := Int × Int) (x := (k, best)) ⟨(k + 1), best⟩ (by (try dsimp only); exact ⟨oO, oO, (by exact bst_no s_2 s_0 oO)⟩) dO (Sub.get (.c4 G G G G (.c G (.c G (.c G .n))))) (kp (.d (.d (.d .n)))))
    have hb52_ := bF (bA bD bD) hb52
    refine SP.reslotv (t := 87) G (gv_off hb52) ?_
    refine .cons (.offu G G G G G ?_)
    refine .cons (.offu G G G G G ?_)
    refine .cons (.offu G G G G G ?_)
    refine .cons (.offu G G G G G ?_)
    refine .cons (.offu G G G G G ?_)
    refine SP.reslot (t := 84) G hb52 ?_
    refine .cons (.off G G G G G G ?_)
    refine .v (ev_pickf G G G G) G (.go idQ (.cond_f G (.skipgo idQ (.region ?_))))
    refine .m G G G (.p ((k + 1)) oO oO G G G G G (.a G G G ?_))
    exact SP.nil (SQ.roundb (X := Int × Int) (x := (k, best)) ⟨(k + 1), best⟩ (by (try dsimp only); exact ⟨oO, oO, (by exact bst_no s_2 s_0 oO)⟩) dO (Sub.get (.c4 G G G G (.c G (.c G (.c G .n))))) (kp (.d (.d (.d .n)))))
   refine .exit idQ ?_
   refine .seq ?_
   have hx3 := idx_rng (n := n) (a := i) (b := j) ⟨by omega, by omega⟩ ⟨by omega, by omega⟩
   have hwl := j_3.len
   have hbe := j_4 i j oO oO oO oO
   have hbk := s_2
   rw [show k = n from by omega] at hbk
   rw [← hbk] at hbe
   refine .region (.m G G G (.f fo29_1 1 G G G G (.l ty27 0 G G G G G ?_)))
   refine .m G G G (.f fo29_0 0 G G G G (.l ty3 0 G G G G G (.v (ev_mul G G G (r := (i * n)) G oO oO) G ?_)))
   refine .m G G G (.p (((i * n) + j)) oO oO G G G G G (.v (ev_ix G underlying27 ty3 G G oO oO (row_adr (i := ((i * n) + j)) 3 G oO oO)) G (.v (ev_ld1 G ty3 G (At.elem1 (row_el (E := eZ) (l := W) (i := ((i * n) + j)) 3 G oO oO) 0 G)) G ?_)))
   refine .e G G G G G (.go idQ (.condI G bNE (fun h54 => ?_) (fun h54 => ?_)))
   ·
    exfalso; omega
   refine .skipgo idQ (.region (.m G G G (.p ((j + 1)) oO oO G G G G G (.a G G G ?_))))
   exact SP.nil (SQ.roundb (X := Int) (x := (j)) (j + 1) (by (try dsimp only); exact ⟨oO, oO⟩) (by show (_ : Nat) < _; omega) (Sub.get (.c4 G G G G (.c G .n))) (kp (.d (.d (.d .n)))))
  refine .exit idQ ?_
  refine .region (.m G G G (.p ((i + 1)) oO oO G G G G G (.a G G G ?_)))
  exact SP.nil (SQ.roundb (X := Int) (x := (i)) (i + 1) (by (try dsimp only); exact ⟨oO, oO⟩) (by show (_ : Nat) < _; omega) (Sub.get (.c4 G G G G .n)) (kp (.d (.d (.d .n)))))
 refine .exit idQ ?_
 refine .seq (.region (.a G G G (.go idQ (.ret idQ (ret1 results5 G .n ⟨G, G⟩)))))
theorem liftWaysT (n : Int) (A : Option Addr) (c : Nat) (l : List AR) (S : Nat → Prop) (wf : World) (hA : Fr eAR S wf A l) (hR : RoadOk n l) :
  TR0 prog 5 [.agg #[.int .i64 n, .slice A l.length c], .bool true] [] S wf (fun v_ C_ => v_ = .bool true ∧ C_ = []) := by
 have hla := hA.len
 have hlen := hR.len
 have hnp := hR.pl
 have hto := tab_ok (d := true) hR
 have htl := hto.len
 have hsq := sq_le hnp
 refine TR.mk func5 G ntmps5 G G (fun w_ => ?_)
 refine .seq (.region (.cons (st_boxa G G G G G (fun b1 => (.a G G G (.go idQ (.seq (.seq (.region ?_)))))))))
 refine .cons (st_callk G G G G hbd8 G .n (awake7_ _ _) ?_)
 refine .v (ev_not G G) G (.go idQ (.cond_f G (.skipgo idQ (.seq (.region ?_)))))
 refine .d 0 ty24 G G G G (.m G G G (.cons (st_call0 G G G G hbd9 G .n (graphT n A c l _ _ hA hR) (fun v_q10 C_q10 q10 => ?_))))
 obtain ⟨b2, u3, v4, fi5, ed6, x7, y8, W9, p11, p12, p13, rfl, rfl⟩ := q10
 show SP _ _ _ _ _ _ ⟨_, _ :: _ :: _ :: _ :: _ :: _, _, _⟩
 have hgl := p11.len
 have hgn := p11.ne
 refine .m G G G (.x G G G G (.x G G G G (.x G G G G ?_)))
 refine .x G G G G (.cons (st_alloc G G G G zf29 (fun b14 => (.cons (st_alloc G G G G zf29 (fun b15 => (.a G G G ?_)))))))
 refine .know (row_len 5 G) (fun hv18 => ?_)
 obtain ⟨A16, c17, rfl, hv18_1, hv18_2⟩ := hv18
 unfold maxLen at hv18_2
 refine .cons (st_storea (l' := [.int .i64 n, .slice A16 ((tabF n true l).length) c17]) G G G ty29 G G G (.t .h) G G ?_)
 refine .know (row_len 6 G) (fun hv21 => ?_)
 obtain ⟨A19, c20, rfl, hv21_1, hv21_2⟩ := hv21
 unfold maxLen at hv21_2
 refine .cons (st_storea (l' := [.int .i64 n, .slice A19 W9.length c20]) G G G ty29 G G G (.t .h) G G ?_)
 refine .a G G G (.go idQ (.seq (.seq (.region (.m G G G (.v (ev_not G G) G ?_))))))
 refine .go idQ (.cond_f G (.skipgo idQ (.seq (.region (.m G G G ?_)))))
 refine .know (row_len 3 G) (fun hv24 => ?_)
 obtain ⟨A22, c23, rfl, hv24_1, hv24_2⟩ := hv24
 unfold maxLen at hv24_2
 refine .know (row_len 4 G) (fun hv27 => ?_)
 obtain ⟨A25, c26, rfl, hv27_1, hv27_2⟩ := hv27
 unfold maxLen at hv27_2
 refine .cons (st_lend0 G G G G hbd10 G (.c (.t2 .h) .n) (.c (.t2 .h) (.c (.t2 .h) .n)) (fun w_ hw => build_ n (tabF n true l) b2 A22 c23 fi5 A25 c26 ed6 _ _ (Fr.lend hw 0 G lO) (Fr.lend hw 1 G lO) hto p11 lO) (fun v_q37 C_q37 q37 => ?_))
 obtain ⟨lb28, v129, v230, v331, v432, R33, K34, U35, D36, p38, rfl, rfl⟩ := q37
 show SP _ _ _ _ _ _ ⟨_, _ :: _ :: _ :: _ :: _ :: _ :: _ :: _ :: _ :: _ :: _, _, _⟩
 have hlo := lok hto p11 p38
 have hRn := hlo.2
 have hL := hlo.1
 have hkl := hL.kl
 have hWk := ways_k hto p11 p38
 have hWy := ways_law hto p11 p38 p13
 refine .a G G G (.go idQ ?_)
 refine SC.seqx (X := Nat × Nat × Nat × Value × Value × Value × (List Int) × (List Int) × (List Int) × (List Int) × (List LK) × (List IL) × (List IL)) (fun ⟨mb, ub, db, xm, xu, xd, W, Wu, Wd, R, K, U, D⟩ => (WyK n R K U D) ∧ (MF n Wu (fw (clipF n (upT n R K U)) n.toNat)) ∧ (MF n Wd (fw (clipF n (upT n R K D)) n.toNat)) ∧ (MF n W (fw (tf n (tabF n true l)) n.toNat)) ∧ (∀ i j : Int, 0 ≤ i → i < n → 0 ≤ j → j < n → bst (fw (clipF n (upT n R K U)) n.toNat) (fw (clipF n (upT n R K D)) n.toNat) i j n.toNat = gt W (i * n + j))) (fun ⟨mb, ub, db, xm, xu, xd, W, Wu, Wd, R, K, U, D⟩ => ([(7, .pointer (some ⟨mb, 0, none⟩)), (10, .pointer (some ⟨ub, 0, none⟩)), (11, .pointer (some ⟨db, 0, none⟩))], [cel mb [.int .i64 n, xm] 29, cel ub [.int .i64 n, xu] 29, cel db [.int .i64 n, xd] 29, rw_ eZ 3 (xm) W, rw_ eZ 3 (xu) Wu, rw_ eZ 3 (xd) Wd])) S wf (fun ⟨mb, ub, db, xm, xu, xd, W, Wu, Wd, R, K, U, D⟩ hk56 => ?_) (fun key55 => ?_)
 ·
  obtain ⟨j_0, j_1, j_2, j_3, j_4⟩ := hk56
  exact liftWaysT_s8 n A c l _ _ hA hR mb ub db xm xu xd W Wu Wd R K U D j_0 j_1 j_2 j_3 j_4 _
 refine .know (row_len 2 G) (fun hv59 => ?_)
 obtain ⟨A57, c58, rfl, hv59_1, hv59_2⟩ := hv59
 unfold maxLen at hv59_2
 refine .know (row_len 3 G) (fun hv62 => ?_)
 obtain ⟨A60, c61, rfl, hv62_1, hv62_2⟩ := hv62
 unfold maxLen at hv62_2
 refine .know (row_len 4 G) (fun hv65 => ?_)
 obtain ⟨A63, c64, rfl, hv65_1, hv65_2⟩ := hv65
 unfold maxLen at hv65_2
 refine .know (row_len 5 G) (fun hv68 => ?_)
 obtain ⟨A66, c67, rfl, hv68_1, hv68_2⟩ := hv68
 unfold maxLen at hv68_2
 refine SC.draw mo [cel lb28 [.slice A57 R33.length c58, .slice A60 K34.length c61, .slice A63 U35.length c64, .slice A66 D36.length c67] 68, rw_ eZ 3 (.slice A57 R33.length c58) R33, rw_ eLK 37 (.slice A60 K34.length c61) K34, rw_ eIL 27 (.slice A63 U35.length c64) U35, rw_ eIL 27 (.slice A66 D36.length c67) D36, nestIL 3 U35, nestIL 3 D36] [] (.c (.t .h) (.c (.t .h) (.c (.t .h) (.c (.t .h) (.c (.t .h) (.c (.t .h) (.c (.t .h) .n))))))) (fun _ _ _ => sc0) (fun wf_69 hl_69 hx_69 hR_69 => ?_)
 refine SR.m 0 G G G G ?_
 refine SR.z 1 G G (ev_fa G fo29_0 G (r := 0) G) ?_
 refine SR.z 2 G G (ev_ld1 G ty3 G (At.d (At.lent hR_69 3 G G))) ?_
 refine SR.m 4 G G G G ?_
 refine SR.z 5 G G (ev_fa G fo29_0 G (r := 0) G) ?_
 refine SR.z 6 G G (ev_ld1 G ty3 G (At.d (At.lent hR_69 3 G G))) ?_
 refine SR.three (i := 3) (j := 8) (l := 9) kR ⟨_, G, ?_⟩ ⟨_, G, ?_⟩ ⟨_, G, ?_⟩
 ·
  refine st_call0 G G G G hbd16 G (.d (.d (.d (.c .h .n)))) (climbU lb28 A57 c58 R33 A60 c61 K34 A63 c64 U35 A66 c67 D36 n _ _ hL hnp hRn hWk.lu hWk.fu) (fun v_q72 C_q72 q72 => ⟨tt0, ?_⟩)
  obtain ⟨u70, W71, p73, rfl, rfl⟩ := q72
  show SR _ _ _ _ _ _ _ _ _ ⟨_, _ :: _ :: _ :: _ :: _ :: _ :: _ :: _ :: _, _, _⟩
  refine SR.three (i := 7) (j := 8) (l := 9) kR ⟨_, G, ?_⟩ ⟨_, G, ?_⟩ ⟨_, G, ?_⟩
  ·
   refine st_call0 G G G G hbd16 G (.d (.d (.d (.c .h .n)))) (climbD lb28 A57 c58 R33 A60 c61 K34 A63 c64 U35 A66 c67 D36 n _ _ hL hnp hRn hWk.ld hWk.fd) (fun v_q76 C_q76 q76 => ⟨tt0, ?_⟩)
   obtain ⟨u74, W75, p77, rfl, rfl⟩ := q76
   show SR _ _ _ _ _ _ _ _ _ ⟨_, _ :: _ :: _ :: _ :: _ :: _ :: _ :: _ :: _, _, _⟩
   refine SR.two (i := 8) (j := 9) kR ⟨_, G, ?_⟩ ⟨_, G, ?_⟩
   ·
    refine st_alloc G G G G zf29 (fun b78 => ⟨tt0, ?_⟩)
    refine SR.o 9 G (st_alloc G G G G zf29 (fun b79 => ⟨tt0, ?_⟩))
    refine .know (row_len 10 G) (fun hv82 => ?_)
    obtain ⟨A80, c81, rfl, hv82_1, hv82_2⟩ := hv82
    unfold maxLen at hv82_2
    refine SR.o 10 G (st_storea (l' := [.int .i64 n, .slice A80 W71.length c81]) G G G ty29 G G G (.t .h) G G ⟨tt0, ?_⟩)
    refine .know (row_len 9 G) (fun hv85 => ?_)
    obtain ⟨A83, c84, rfl, hv85_1, hv85_2⟩ := hv85
    unfold maxLen at hv85_2
    refine SR.o 11 G (st_storea (l' := [.int .i64 n, .slice A83 W75.length c84]) G G G ty29 G G G (.t .h) G G ⟨tt0, ?_⟩)
    refine SR.fin kR hl_69 hx_69 hR_69 (.c (.c (.c (.c (.c (.c (.c (.c (.c (.c (.c .n))))))))))) ?_
    refine SQ.go idQ ?_
    exact SC.weak (key55 ⟨b15, b78, b79, .slice A19 W9.length c20, .slice A80 W71.length c81, .slice A83 W75.length c84, W9, W71, W75, R33, K34, U35, D36⟩ ⟨hWk, p73, p77, p13, hWy⟩) (Sub.get (.c G (.c G (.c G .n)))) (kp (.c (.t4 (.t4 (.t4 (.t2 .h)))) (.c (.t .h) (.c .h (.c (.t4 (.t4 (.t4 (.t2 .h)))) (.c (.t4 (.t4 .h)) (.c (.t4 (.t2 (.t .h))) .n)))))))
   refine st_alloc G G G G zf29 (fun b86 => ⟨tt0, ?_⟩)
   refine SR.o 8 G (st_alloc G G G G zf29 (fun b87 => ⟨tt0, ?_⟩))
   refine .know (row_len 10 G) (fun hv90 => ?_)
   obtain ⟨A88, c89, rfl, hv90_1, hv90_2⟩ := hv90
   unfold maxLen at hv90_2
   refine SR.o 10 G (st_storea (l' := [.int .i64 n, .slice A88 W71.length c89]) G G G ty29 G G G .h G G ⟨tt0, ?_⟩)
   refine .know (row_len 9 G) (fun hv93 => ?_)
   obtain ⟨A91, c92, rfl, hv93_1, hv93_2⟩ := hv93
   unfold maxLen at hv93_2
   refine SR.o 11 G (st_storea (l' := [.int .i64 n, .slice A91 W75.length c92]) G G G ty29 G G G (.t .h) G G ⟨tt0, ?_⟩)
   refine SR.fin kR hl_69 hx_69 hR_69 (.c (.c (.c (.c (.c (.c (.c (.c (.c (.c (.c .n))))))))))) ?_
   refine SQ.go idQ ?_
   exact SC.weak (key55 ⟨b15, b87, b86, .slice A19 W9.length c20, .slice A88 W71.length c89, .slice A91 W75.length c92, W9, W71, W75, R33, K34, U35, D36⟩ ⟨hWk, p73, p77, p13, hWy⟩) (Sub.get (.c G (.c G (.c G .n)))) (kp (.c (.t4 (.t4 (.t4 (.t2 .h)))) (.c (.t .h) (.c .h (.c (.t4 (.t4 (.t4 (.t2 .h)))) (.c (.t4 (.t4 .h)) (.c (.t4 (.t2 (.t .h))) .n)))))))
  ·
   refine st_alloc G G G G zf29 (fun b94 => ⟨tt0, ?_⟩)
   refine SR.two (i := 7) (j := 9) kR ⟨_, G, ?_⟩ ⟨_, G, ?_⟩
   ·
    refine st_call0 G G G G hbd16 G (.c (.t .h) (.c (.t .h) (.c (.t .h) (.c (.t .h) (.c (.t .h) (.c (.t .h) (.c (.t .h) .n))))))) (climbD lb28 A57 c58 R33 A60 c61 K34 A63 c64 U35 A66 c67 D36 n _ _ hL hnp hRn hWk.ld hWk.fd) (fun v_q97 C_q97 q97 => ⟨tt0, ?_⟩)
    obtain ⟨u95, W96, p98, rfl, rfl⟩ := q97
    show SR _ _ _ _ _ _ _ _ _ ⟨_, _ :: _ :: _ :: _ :: _ :: _ :: _ :: _ :: _, _, _⟩
    refine SR.o 9 G (st_alloc G G G G zf29 (fun b99 => ⟨tt0, ?_⟩))
    refine .know (row_len 10 G) (fun hv102 => ?_)
    obtain ⟨A100, c101, rfl, hv102_1, hv102_2⟩ := hv102
    unfold maxLen at hv102_2
    refine SR.o 10 G (st_storea (l' := [.int .i64 n, .slice A100 W71.length c101]) G G G ty29 G G G (.t4 (.t4 (.t .h))) G G ⟨tt0, ?_⟩)
    refine .know (row_len 9 G) (fun hv105 => ?_)
    obtain ⟨A103, c104, rfl, hv105_1, hv105_2⟩ := hv105
    unfold maxLen at hv105_2
    refine SR.o 11 G (st_storea (l' := [.int .i64 n, .slice A103 W96.length c104]) G G G ty29 G G G (.t .h) G G ⟨tt0, ?_⟩)
    refine SR.fin kR hl_69 hx_69 hR_69 (.c (.c (.c (.c (.c (.c (.c (.c (.c (.c (.c .n))))))))))) ?_
    refine SQ.go idQ ?_
    exact SC.weak (key55 ⟨b15, b94, b99, .slice A19 W9.length c20, .slice A100 W71.length c101, .slice A103 W96.length c104, W9, W71, W96, R33, K34, U35, D36⟩ ⟨hWk, p73, p98, p13, hWy⟩) (Sub.get (.c G (.c G (.c G .n)))) (kp (.c (.t4 (.t4 (.t4 (.t2 .h)))) (.c (.t .h) (.c .h (.c (.t4 (.t4 (.t4 (.t2 .h)))) (.c (.t4 (.t4 .h)) (.c (.t4 (.t2 (.t .h))) .n)))))))
   refine st_alloc G G G G zf29 (fun b106 => ⟨tt0, ?_⟩)
   refine SR.o 7 G (st_call0 G G G G hbd16 G (.c (.t2 .h) (.c (.t2 .h) (.c (.t2 .h) (.c (.t2 .h) (.c (.t2 .h) (.c (.t2 .h) (.c (.t2 .h) .n))))))) (climbD lb28 A57 c58 R33 A60 c61 K34 A63 c64 U35 A66 c67 D36 n _ _ hL hnp hRn hWk.ld hWk.fd) (fun v_q109 C_q109 q109 => ⟨tt0, ?_⟩))
   obtain ⟨u107, W108, p110, rfl, rfl⟩ := q109
   show SR _ _ _ _ _ _ _ _ _ ⟨_, _ :: _ :: _ :: _ :: _ :: _ :: _ :: _ :: _, _, _⟩
   refine .know (row_len 10 G) (fun hv113 => ?_)
   obtain ⟨A111, c112, rfl, hv113_1, hv113_2⟩ := hv113
   unfold maxLen at hv113_2
   refine SR.o 10 G (st_storea (l' := [.int .i64 n, .slice A111 W71.length c112]) G G G ty29 G G G (.t4 (.t4 (.t .h))) G G ⟨tt0, ?_⟩)
   refine .know (row_len 8 G) (fun hv116 => ?_)
   obtain ⟨A114, c115, rfl, hv116_1, hv116_2⟩ := hv116
   unfold maxLen at hv116_2
   refine SR.o 11 G (st_storea (l' := [.int .i64 n, .slice A114 W108.length c115]) G G G ty29 G G G (.t4 (.t4 (.t .h))) G G ⟨tt0, ?_⟩)
   refine SR.fin kR hl_69 hx_69 hR_69 (.c (.c (.c (.c (.c (.c (.c (.c (.c (.c (.c .n))))))))))) ?_
   refine SQ.go idQ ?_
   exact SC.weak (key55 ⟨b15, b94, b106, .slice A19 W9.length c20, .slice A111 W71.length c112, .slice A114 W108.length c115, W9, W71, W108, R33, K34, U35, D36⟩ ⟨hWk, p73, p110, p13, hWy⟩) (Sub.get (.c G (.c G (.c G .n)))) (kp (.c (.t4 (.t4 (.t4 (.t2 .h)))) (.c (.t .h) (.c .h (.c (.t4 (.t4 (.t4 (.t2 .h)))) (.c (.t4 (.t4 .h)) (.c (.t4 (.t2 (.t .h))) .n)))))))
  refine st_alloc G G G G zf29 (fun b117 => ⟨tt0, ?_⟩)
  refine SR.two (i := 7) (j := 8) kR ⟨_, G, ?_⟩ ⟨_, G, ?_⟩
  ·
   refine st_call0 G G G G hbd16 G (.c (.t .h) (.c (.t .h) (.c (.t .h) (.c (.t .h) (.c (.t .h) (.c (.t .h) (.c (.t .h) .n))))))) (climbD lb28 A57 c58 R33 A60 c61 K34 A63 c64 U35 A66 c67 D36 n _ _ hL hnp hRn hWk.ld hWk.fd) (fun v_q120 C_q120 q120 => ⟨tt0, ?_⟩)
   obtain ⟨u118, W119, p121, rfl, rfl⟩ := q120
   show SR _ _ _ _ _ _ _ _ _ ⟨_, _ :: _ :: _ :: _ :: _ :: _ :: _ :: _ :: _, _, _⟩
   refine SR.o 8 G (st_alloc G G G G zf29 (fun b122 => ⟨tt0, ?_⟩))
   refine .know (row_len 10 G) (fun hv125 => ?_)
   obtain ⟨A123, c124, rfl, hv125_1, hv125_2⟩ := hv125
   unfold maxLen at hv125_2
   refine SR.o 10 G (st_storea (l' := [.int .i64 n, .slice A123 W71.length c124]) G G G ty29 G G G .h G G ⟨tt0, ?_⟩)
   refine .know (row_len 8 G) (fun hv128 => ?_)
   obtain ⟨A126, c127, rfl, hv128_1, hv128_2⟩ := hv128
   unfold maxLen at hv128_2
   refine SR.o 11 G (st_storea (l' := [.int .i64 n, .slice A126 W119.length c127]) G G G ty29 G G G (.t4 (.t4 (.t .h))) G G ⟨tt0, ?_⟩)
   refine SR.fin kR hl_69 hx_69 hR_69 (.c (.c (.c (.c (.c (.c (.c (.c (.c (.c (.c .n))))))))))) ?_
   refine SQ.go idQ ?_
   exact SC.weak (key55 ⟨b15, b122, b117, .slice A19 W9.length c20, .slice A123 W71.length c124, .slice A126 W119.length c127, W9, W71, W119, R33, K34, U35, D36⟩ ⟨hWk, p73, p121, p13, hWy⟩) (Sub.get (.c G (.c G (.c G .n)))) (kp (.c (.t4 (.t4 (.t4 (.t2 .h)))) (.c (.t .h) (.c .h (.c (.t4 (.t4 (.t4 (.t2 .h)))) (.c (.t4 (.t4 .h)) (.c (.t4 (.t2 (.t .h))) .n)))))))
  refine st_alloc G G G G zf29 (fun b129 => ⟨tt0, ?_⟩)
  refine SR.o 7 G (st_call0 G G G G hbd16 G (.c (.t2 .h) (.c (.t2 .h) (.c (.t2 .h) (.c (.t2 .h) (.c (.t2 .h) (.c (.t2 .h) (.c (.t2 .h) .n))))))) (climbD lb28 A57 c58 R33 A60 c61 K34 A63 c64 U35 A66 c67 D36 n _ _ hL hnp hRn hWk.ld hWk.fd) (fun v_q132 C_q132 q132 => ⟨tt0, ?_⟩))
  obtain ⟨u130, W131, p133, rfl, rfl⟩ := q132
  show SR _ _ _ _ _ _ _ _ _ ⟨_, _ :: _ :: _ :: _ :: _ :: _ :: _ :: _ :: _, _, _⟩
  refine .know (row_len 10 G) (fun hv136 => ?_)
  obtain ⟨A134, c135, rfl, hv136_1, hv136_2⟩ := hv136
  unfold maxLen at hv136_2
  refine SR.o 10 G (st_storea (l' := [.int .i64 n, .slice A134 W71.length c135]) G G G ty29 G G G (.t4 (.t4 .h)) G G ⟨tt0, ?_⟩)
  refine .know (row_len 8 G) (fun hv139 => ?_)
  obtain ⟨A137, c138, rfl, hv139_1, hv139_2⟩ := hv139
  unfold maxLen at hv139_2
  refine SR.o 11 G (st_storea (l' := [.int .i64 n, .slice A137 W131.length c138]) G G G ty29 G G G (.t4 (.t4 (.t .h))) G G ⟨tt0, ?_⟩)
  refine SR.fin kR hl_69 hx_69 hR_69 (.c (.c (.c (.c (.c (.c (.c (.c (.c (.c (.c .n))))))))))) ?_
  refine SQ.go idQ ?_
  exact SC.weak (key55 ⟨b15, b129, b117, .slice A19 W9.length c20, .slice A134 W71.length c135, .slice A137 W131.length c138, W9, W71, W131, R33, K34, U35, D36⟩ ⟨hWk, p73, p133, p13, hWy⟩) (Sub.get (.c G (.c G (.c G .n)))) (kp (.c (.t4 (.t4 (.t4 (.t2 .h)))) (.c (.t .h) (.c .h (.c (.t4 (.t4 (.t4 (.t2 .h)))) (.c (.t4 (.t4 .h)) (.c (.t4 (.t2 (.t .h))) .n)))))))
 ·
  refine st_alloc G G G G zf29 (fun b140 => ⟨tt0, ?_⟩)
  refine SR.two (i := 3) (j := 9) kR ⟨_, G, ?_⟩ ⟨_, G, ?_⟩
  ·
   refine st_call0 G G G G hbd16 G (.c (.t .h) (.c (.t .h) (.c (.t .h) (.c (.t .h) (.c (.t .h) (.c (.t .h) (.c (.t .h) .n))))))) (climbU lb28 A57 c58 R33 A60 c61 K34 A63 c64 U35 A66 c67 D36 n _ _ hL hnp hRn hWk.lu hWk.fu) (fun v_q143 C_q143 q143 => ⟨tt0, ?_⟩)
   obtain ⟨u141, W142, p144, rfl, rfl⟩ := q143
   show SR _ _ _ _ _ _ _ _ _ ⟨_, _ :: _ :: _ :: _ :: _ :: _ :: _ :: _ :: _, _, _⟩
   refine SR.two (i := 7) (j := 9) kR ⟨_, G, ?_⟩ ⟨_, G, ?_⟩
   ·
    refine st_call0 G G G G hbd16 G (.d (.d (.d (.c .h .n)))) (climbD lb28 A57 c58 R33 A60 c61 K34 A63 c64 U35 A66 c67 D36 n _ _ hL hnp hRn hWk.ld hWk.fd) (fun v_q147 C_q147 q147 => ⟨tt0, ?_⟩)
    obtain ⟨u145, W146, p148, rfl, rfl⟩ := q147
    show SR _ _ _ _ _ _ _ _ _ ⟨_, _ :: _ :: _ :: _ :: _ :: _ :: _ :: _ :: _, _, _⟩
    refine SR.o 9 G (st_alloc G G G G zf29 (fun b149 => ⟨tt0, ?_⟩))
    refine .know (row_len 9 G) (fun hv152 => ?_)
    obtain ⟨A150, c151, rfl, hv152_1, hv152_2⟩ := hv152
    unfold maxLen at hv152_2
    refine SR.o 10 G (st_storea (l' := [.int .i64 n, .slice A150 W142.length c151]) G G G ty29 G G G (.t4 (.t4 (.t2 .h))) G G ⟨tt0, ?_⟩)
    refine .know (row_len 9 G) (fun hv155 => ?_)
    obtain ⟨A153, c154, rfl, hv155_1, hv155_2⟩ := hv155
    unfold maxLen at hv155_2
    refine SR.o 11 G (st_storea (l' := [.int .i64 n, .slice A153 W146.length c154]) G G G ty29 G G G (.t .h) G G ⟨tt0, ?_⟩)
    refine SR.fin kR hl_69 hx_69 hR_69 (.c (.c (.c (.c (.c (.c (.c (.c (.c (.c (.c .n))))))))))) ?_
    refine SQ.go idQ ?_
    exact SC.weak (key55 ⟨b15, b140, b149, .slice A19 W9.length c20, .slice A150 W142.length c151, .slice A153 W146.length c154, W9, W142, W146, R33, K34, U35, D36⟩ ⟨hWk, p144, p148, p13, hWy⟩) (Sub.get (.c G (.c G (.c G .n)))) (kp (.c (.t4 (.t4 (.t4 (.t2 .h)))) (.c (.t .h) (.c .h (.c (.t4 (.t4 (.t4 (.t2 .h)))) (.c (.t4 (.t4 .h)) (.c (.t4 (.t2 (.t .h))) .n)))))))
   refine st_alloc G G G G zf29 (fun b156 => ⟨tt0, ?_⟩)
   refine SR.o 7 G (st_call0 G G G G hbd16 G (.c (.t .h) (.c (.t .h) (.c (.t .h) (.c (.t .h) (.c (.t .h) (.c (.t .h) (.c (.t .h) .n))))))) (climbD lb28 A57 c58 R33 A60 c61 K34 A63 c64 U35 A66 c67 D36 n _ _ hL hnp hRn hWk.ld hWk.fd) (fun v_q159 C_q159 q159 => ⟨tt0, ?_⟩))
   obtain ⟨u157, W158, p160, rfl, rfl⟩ := q159
   show SR _ _ _ _ _ _ _ _ _ ⟨_, _ :: _ :: _ :: _ :: _ :: _ :: _ :: _ :: _, _, _⟩
   refine .know (row_len 9 G) (fun hv163 => ?_)
   obtain ⟨A161, c162, rfl, hv163_1, hv163_2⟩ := hv163
   unfold maxLen at hv163_2
   refine SR.o 10 G (st_storea (l' := [.int .i64 n, .slice A161 W142.length c162]) G G G ty29 G G G (.t4 (.t4 (.t2 .h))) G G ⟨tt0, ?_⟩)
   refine .know (row_len 8 G) (fun hv166 => ?_)
   obtain ⟨A164, c165, rfl, hv166_1, hv166_2⟩ := hv166
   unfold maxLen at hv166_2
   refine SR.o 11 G (st_storea (l' := [.int .i64 n, .slice A164 W158.length c165]) G G G ty29 G G G (.t4 (.t4 (.t .h))) G G ⟨tt0, ?_⟩)
   refine SR.fin kR hl_69 hx_69 hR_69 (.c (.c (.c (.c (.c (.c (.c (.c (.c (.c (.c .n))))))))))) ?_
   refine SQ.go idQ ?_
   exact SC.weak (key55 ⟨b15, b140, b156, .slice A19 W9.length c20, .slice A161 W142.length c162, .slice A164 W158.length c165, W9, W142, W158, R33, K34, U35, D36⟩ ⟨hWk, p144, p160, p13, hWy⟩) (Sub.get (.c G (.c G (.c G .n)))) (kp (.c (.t4 (.t4 (.t4 (.t2 .h)))) (.c (.t .h) (.c .h (.c (.t4 (.t4 (.t4 (.t2 .h)))) (.c (.t4 (.t4 .h)) (.c (.t4 (.t2 (.t .h))) .n)))))))
  refine st_alloc G G G G zf29 (fun b167 => ⟨tt0, ?_⟩)
  refine SR.o 3 G (st_call0 G G G G hbd16 G (.c (.t2 .h) (.c (.t2 .h) (.c (.t2 .h) (.c (.t2 .h) (.c (.t2 .h) (.c (.t2 .h) (.c (.t2 .h) .n))))))) (climbU lb28 A57 c58 R33 A60 c61 K34 A63 c64 U35 A66 c67 D36 n _ _ hL hnp hRn hWk.lu hWk.fu) (fun v_q170 C_q170 q170 => ⟨tt0, ?_⟩))
  obtain ⟨u168, W169, p171, rfl, rfl⟩ := q170
  show SR _ _ _ _ _ _ _ _ _ ⟨_, _ :: _ :: _ :: _ :: _ :: _ :: _ :: _ :: _, _, _⟩
  refine SR.o 7 G (st_call0 G G G G hbd16 G (.d (.d (.d (.c .h .n)))) (climbD lb28 A57 c58 R33 A60 c61 K34 A63 c64 U35 A66 c67 D36 n _ _ hL hnp hRn hWk.ld hWk.fd) (fun v_q174 C_q174 q174 => ⟨tt0, ?_⟩))
  obtain ⟨u172, W173, p175, rfl, rfl⟩ := q174
  show SR _ _ _ _ _ _ _ _ _ ⟨_, _ :: _ :: _ :: _ :: _ :: _ :: _ :: _ :: _, _, _⟩
  refine .know (row_len 8 G) (fun hv178 => ?_)
  obtain ⟨A176, c177, rfl, hv178_1, hv178_2⟩ := hv178
  unfold maxLen at hv178_2
  refine SR.o 10 G (st_storea (l' := [.int .i64 n, .slice A176 W169.length c177]) G G G ty29 G G G (.t4 (.t4 (.t2 .h))) G G ⟨tt0, ?_⟩)
  refine .know (row_len 8 G) (fun hv181 => ?_)
  obtain ⟨A179, c180, rfl, hv181_1, hv181_2⟩ := hv181
  unfold maxLen at hv181_2
  refine SR.o 11 G (st_storea (l' := [.int .i64 n, .slice A179 W173.length c180]) G G G ty29 G G G (.t4 (.t4 (.t2 .h))) G G ⟨tt0, ?_⟩)
  refine SR.fin kR hl_69 hx_69 hR_69 (.c (.c (.c (.c (.c (.c (.c (.c (.c (.c (.c .n))))))))))) ?_
  refine SQ.go idQ ?_
  exact SC.weak (key55 ⟨b15, b140, b167, .slice A19 W9.length c20, .slice A176 W169.length c177, .slice A179 W173.length c180, W9, W169, W173, R33, K34, U35, D36⟩ ⟨hWk, p171, p175, p13, hWy⟩) (Sub.get (.c G (.c G (.c G .n)))) (kp (.c (.t4 (.t4 (.t4 (.t2 .h)))) (.c (.t .h) (.c .h (.c (.t4 (.t4 (.t4 (.t2 .h)))) (.c (.t4 (.t4 .h)) (.c (.t4 (.t2 (.t .h))) .n)))))))
 refine st_alloc G G G G zf29 (fun b182 => ⟨tt0, ?_⟩)
 refine SR.two (i := 3) (j := 8) kR ⟨_, G, ?_⟩ ⟨_, G, ?_⟩
 ·
  refine st_call0 G G G G hbd16 G (.c (.t .h) (.c (.t .h) (.c (.t .h) (.c (.t .h) (.c (.t .h) (.c (.t .h) (.c (.t .h) .n))))))) (climbU lb28 A57 c58 R33 A60 c61 K34 A63 c64 U35 A66 c67 D36 n _ _ hL hnp hRn hWk.lu hWk.fu) (fun v_q185 C_q185 q185 => ⟨tt0, ?_⟩)
  obtain ⟨u183, W184, p186, rfl, rfl⟩ := q185
  show SR _ _ _ _ _ _ _ _ _ ⟨_, _ :: _ :: _ :: _ :: _ :: _ :: _ :: _ :: _, _, _⟩
  refine SR.two (i := 7) (j := 8) kR ⟨_, G, ?_⟩ ⟨_, G, ?_⟩
  ·
   refine st_call0 G G G G hbd16 G (.d (.d (.d (.c .h .n)))) (climbD lb28 A57 c58 R33 A60 c61 K34 A63 c64 U35 A66 c67 D36 n _ _ hL hnp hRn hWk.ld hWk.fd) (fun v_q189 C_q189 q189 => ⟨tt0, ?_⟩)
   obtain ⟨u187, W188, p190, rfl, rfl⟩ := q189
   show SR _ _ _ _ _ _ _ _ _ ⟨_, _ :: _ :: _ :: _ :: _ :: _ :: _ :: _ :: _, _, _⟩
   refine SR.o 8 G (st_alloc G G G G zf29 (fun b191 => ⟨tt0, ?_⟩))
   refine .know (row_len 9 G) (fun hv194 => ?_)
   obtain ⟨A192, c193, rfl, hv194_1, hv194_2⟩ := hv194
   unfold maxLen at hv194_2
   refine SR.o 10 G (st_storea (l' := [.int .i64 n, .slice A192 W184.length c193]) G G G ty29 G G G .h G G ⟨tt0, ?_⟩)
   refine .know (row_len 8 G) (fun hv197 => ?_)
   obtain ⟨A195, c196, rfl, hv197_1, hv197_2⟩ := hv197
   unfold maxLen at hv197_2
   refine SR.o 11 G (st_storea (l' := [.int .i64 n, .slice A195 W188.length c196]) G G G ty29 G G G (.t4 (.t4 (.t2 .h))) G G ⟨tt0, ?_⟩)
   refine SR.fin kR hl_69 hx_69 hR_69 (.c (.c (.c (.c (.c (.c (.c (.c (.c (.c (.c .n))))))))))) ?_
   refine SQ.go idQ ?_
   exact SC.weak (key55 ⟨b15, b191, b182, .slice A19 W9.length c20, .slice A192 W184.length c193, .slice A195 W188.length c196, W9, W184, W188, R33, K34, U35, D36⟩ ⟨hWk, p186, p190, p13, hWy⟩) (Sub.get (.c G (.c G (.c G .n)))) (kp (.c (.t4 (.t4 (.t4 (.t2 .h)))) (.c (.t .h) (.c .h (.c (.t4 (.t4 (.t4 (.t2 .h)))) (.c (.t4 (.t4 .h)) (.c (.t4 (.t2 (.t .h))) .n)))))))
  refine st_alloc G G G G zf29 (fun b198 => ⟨tt0, ?_⟩)
  refine SR.o 7 G (st_call0 G G G G hbd16 G (.c (.t .h) (.c (.t .h) (.c (.t .h) (.c (.t .h) (.c (.t .h) (.c (.t .h) (.c (.t .h) .n))))))) (climbD lb28 A57 c58 R33 A60 c61 K34 A63 c64 U35 A66 c67 D36 n _ _ hL hnp hRn hWk.ld hWk.fd) (fun v_q201 C_q201 q201 => ⟨tt0, ?_⟩))
  obtain ⟨u199, W200, p202, rfl, rfl⟩ := q201
  show SR _ _ _ _ _ _ _ _ _ ⟨_, _ :: _ :: _ :: _ :: _ :: _ :: _ :: _ :: _, _, _⟩
  refine .know (row_len 9 G) (fun hv205 => ?_)
  obtain ⟨A203, c204, rfl, hv205_1, hv205_2⟩ := hv205
  unfold maxLen at hv205_2
  refine SR.o 10 G (st_storea (l' := [.int .i64 n, .slice A203 W184.length c204]) G G G ty29 G G G (.t4 (.t4 .h)) G G ⟨tt0, ?_⟩)
  refine .know (row_len 8 G) (fun hv208 => ?_)
  obtain ⟨A206, c207, rfl, hv208_1, hv208_2⟩ := hv208
  unfold maxLen at hv208_2
  refine SR.o 11 G (st_storea (l' := [.int .i64 n, .slice A206 W200.length c207]) G G G ty29 G G G (.t4 (.t4 (.t2 .h))) G G ⟨tt0, ?_⟩)
  refine SR.fin kR hl_69 hx_69 hR_69 (.c (.c (.c (.c (.c (.c (.c (.c (.c (.c (.c .n))))))))))) ?_
  refine SQ.go idQ ?_
  exact SC.weak (key55 ⟨b15, b198, b182, .slice A19 W9.length c20, .slice A203 W184.length c204, .slice A206 W200.length c207, W9, W184, W200, R33, K34, U35, D36⟩ ⟨hWk, p186, p202, p13, hWy⟩) (Sub.get (.c G (.c G (.c G .n)))) (kp (.c (.t4 (.t4 (.t4 (.t2 .h)))) (.c (.t .h) (.c .h (.c (.t4 (.t4 (.t4 (.t2 .h)))) (.c (.t4 (.t4 .h)) (.c (.t4 (.t2 (.t .h))) .n)))))))
 refine st_alloc G G G G zf29 (fun b209 => ⟨tt0, ?_⟩)
 refine SR.o 3 G (st_call0 G G G G hbd16 G (.c (.t2 .h) (.c (.t2 .h) (.c (.t2 .h) (.c (.t2 .h) (.c (.t2 .h) (.c (.t2 .h) (.c (.t2 .h) .n))))))) (climbU lb28 A57 c58 R33 A60 c61 K34 A63 c64 U35 A66 c67 D36 n _ _ hL hnp hRn hWk.lu hWk.fu) (fun v_q212 C_q212 q212 => ⟨tt0, ?_⟩))
 obtain ⟨u210, W211, p213, rfl, rfl⟩ := q212
 show SR _ _ _ _ _ _ _ _ _ ⟨_, _ :: _ :: _ :: _ :: _ :: _ :: _ :: _ :: _, _, _⟩
 refine SR.o 7 G (st_call0 G G G G hbd16 G (.d (.d (.d (.c .h .n)))) (climbD lb28 A57 c58 R33 A60 c61 K34 A63 c64 U35 A66 c67 D36 n _ _ hL hnp hRn hWk.ld hWk.fd) (fun v_q216 C_q216 q216 => ⟨tt0, ?_⟩))
 obtain ⟨u214, W215, p217, rfl, rfl⟩ := q216
 show SR _ _ _ _ _ _ _ _ _ ⟨_, _ :: _ :: _ :: _ :: _ :: _ :: _ :: _ :: _, _, _⟩
 refine .know (row_len 8 G) (fun hv220 => ?_)
 obtain ⟨A218, c219, rfl, hv220_1, hv220_2⟩ := hv220
 unfold maxLen at hv220_2
 refine SR.o 10 G (st_storea (l' := [.int .i64 n, .slice A218 W211.length c219]) G G G ty29 G G G (.t4 (.t4 (.t .h))) G G ⟨tt0, ?_⟩)
 refine .know (row_len 8 G) (fun hv223 => ?_)
 obtain ⟨A221, c222, rfl, hv223_1, hv223_2⟩ := hv223
 unfold maxLen at hv223_2
 refine SR.o 11 G (st_storea (l' := [.int .i64 n, .slice A221 W215.length c222]) G G G ty29 G G G (.t4 (.t4 (.t2 .h))) G G ⟨tt0, ?_⟩)
 refine SR.fin kR hl_69 hx_69 hR_69 (.c (.c (.c (.c (.c (.c (.c (.c (.c (.c (.c .n))))))))))) ?_
 refine SQ.go idQ ?_
 exact SC.weak (key55 ⟨b15, b209, b182, .slice A19 W9.length c20, .slice A218 W211.length c219, .slice A221 W215.length c222, W9, W211, W215, R33, K34, U35, D36⟩ ⟨hWk, p213, p217, p13, hWy⟩) (Sub.get (.c G (.c G (.c G .n)))) (kp (.c (.t4 (.t4 (.t4 (.t2 .h)))) (.c (.t .h) (.c .h (.c (.t4 (.t4 (.t4 (.t2 .h)))) (.c (.t4 (.t4 .h)) (.c (.t4 (.t2 (.t .h))) .n)))))))
theorem liftWaysBadT (n : Int) (A : Option Addr) (c : Nat) (l : List AR) (S : Nat → Prop) (wf : World) (hA : Fr eAR S wf A l) (hR : ¬ RoadOk n l) :
  TR0 prog 5 [.agg #[.int .i64 n, .slice A l.length c], .bool true] [] S wf (fun v_ C_ => v_ = .bool true ∧ C_ = []) := by
 have hla := hA.len
 refine TR.mk func5 G ntmps5 G G (fun w_ => ?_)
 refine .seq (.region (.cons (st_boxa G G G G G (fun b1 => (.a G G G (.go idQ (.seq (.seq (.region ?_)))))))))
 refine .cons (st_callk G G G G hbd8 G .n (awake7_ _ _) ?_)
 refine .v (ev_not G G) G (.go idQ (.cond_f G (.skipgo idQ (.seq (.region ?_)))))
 refine .d 0 ty24 G G G G (.m G G G (.cons (st_callk G G G G hbd9 G .n (graphbadT n A c l _ _ hA hR) (.m G G G ?_))))
 refine .x G G G G (.x G G G G (.x G G G G (.x G G G G ?_)))
 refine .cons (st_alloc G G G G zf29 (fun b2 => ?_))
 refine .cons (st_alloc G G G G zf29 (fun b3 => ?_))
 refine .a G G G (.cons (st_storea (l' := [.int .i64 0, .slice none 0 0]) G G G ty29 G G G (.t .h) G G (.cons (st_storea (l' := [.int .i64 0, .slice none 0 0]) G G G ty29 G G G (.t .h) G G (.a G G G ?_)))))
 refine .go idQ (.seq (.seq (.region (.m G G G (.v (ev_not G G) G (.go idQ ?_))))))
 refine .cond_t G ?_
 refine .seq (.region (.a G G G (.go idQ (.ret idQ (ret1 results5 G .n ⟨G, G⟩)))))
end Go.Proofs.Ytlefdinbbjiabaa.Sx
namespace Go.Proofs.Ytlefdinbbjiabaa.Sx
open Go Go.SX Go.Proofs Go.Proofs.Try
theorem liftWays_ (n : Int) (A : Option Addr) (c : Nat) (l : List AR) (d : Bool) (S : Nat → Prop) (wf : World) (hA : Fr eAR S wf A l) : TR0 prog 5 [.agg #[.int .i64 n, .slice A l.length c], .bool d] [] S wf (fun v C => v = .bool true ∧ C = []) :=
 (Classical.em (RoadOk n l)).elim (fun h => match d with | false => liftWaysF n A c l S wf hA h | true => liftWaysT n A c l S wf hA h) (fun h => match d with | false => liftWaysBadF n A c l S wf hA h | true => liftWaysBadT n A c l S wf hA h)
end Go.Proofs.Ytlefdinbbjiabaa.Sx
