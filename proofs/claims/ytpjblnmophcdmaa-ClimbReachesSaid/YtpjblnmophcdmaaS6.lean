import Derived.Test.YtpjblnmophcdmaaProg
import Derived.Test.YtpjblnmophcdmaaS5
set_option linter.unusedVariables false
set_option linter.unusedSimpArgs false
set_option linter.unusedSectionVars false
set_option maxRecDepth 20000
set_option maxHeartbeats 8000000
namespace Go.Proofs.Ytpjblnmophcdmaa.Sx.FH
open Go Go.SX Go.Proofs Go.Proofs.Try FA FB FC FD FE FF FG
theorem hbd53 : hasBody prog 53 = true := by kernel_rfl
theorem hbd83 : hasBody prog 83 = true := by kernel_rfl
end Go.Proofs.Ytpjblnmophcdmaa.Sx.FH
namespace Go.Proofs.Ytpjblnmophcdmaa.Sx
open Go Go.SX Go.Proofs Go.Proofs.Try FA FB FC FD FE FF FG FH
def metF (d : Bool) : Nat := if d then 25 else 24
theorem hbmet (d : Bool) : hasBody prog (metF d) = true := by cases d <;> kernel_rfl
theorem wgt_ (a : AR) (d : Bool) (S : Nat → Prop) (wf : World) :
  TR0 prog (metF d) [.agg #[.int .i64 a.fr, .int .i64 a.to, .int .i64 a.tm, .int .i64 a.ds]] [] S wf (fun v_ C_ => v_ = .int .i64 (wgt d a) ∧ C_ = []) := by
 cases d
 · exact time_ a S wf
 · exact dist_ a S wf
theorem new1_ (a : AR) (b : AR) (d : Bool) (mb : Nat) (S : Nat → Prop) (wf : World) :
  TR0 prog 53 [.agg #[.int .i64 a.fr, .int .i64 a.to, .int .i64 a.tm, .int .i64 a.ds], .agg #[.int .i64 b.fr, .int .i64 b.to, .int .i64 b.tm, .int .i64 b.ds], .pointer (some ⟨mb, 0, none⟩)] [cel mb [.func (.func (metF d)) #[] #[]] 56] S wf (fun v_ C_ => v_ = .int .i64 (cmpA d a b) ∧ C_ = [cel mb [.func (.func (metF d)) #[] #[]] 56]) := by
 cases d
 · exact TR0.mono (new1_Time a b mb S wf) (fun v C h => by obtain ⟨r, h1, h2, h3⟩ := h; subst h1; exact ⟨h2, h3⟩)
 · exact TR0.mono (new1_Dist a b mb S wf) (fun v C h => by obtain ⟨r, h1, h2, h3⟩ := h; subst h1; exact ⟨h2, h3⟩)
theorem insA_ (A : Option Addr) (n : Nat) (c : Nat) (l : List AR) (a : Int) (b : Int) (d : Bool) (mb : Nat) (S : Nat → Prop) (wf : World) (hn : l.length = n) (hb : n ≤ 1000) (hr : 0 ≤ a ∧ a ≤ b ∧ b ≤ (n : Int)) :
  TR0 prog 76 [.slice A n c, .int .i64 a, .int .i64 b, .func (.func 53) #[] #[.pointer (some ⟨mb, 0, none⟩)]] [rw_ eAR 54 (.slice A n c) l, cel mb [.func (.func (metF d)) #[] #[]] 56] S wf (fun v_ C_ => ∃ (l2 : List AR), (SegP a b l l2) ∧ (Srd (ltA d) l2 a b) ∧ v_ = .tuple #[] ∧ C_ = [rw_ eAR 54 (.slice A n c) l2, cel mb [.func (.func (metF d)) #[] #[]] 56]) := by
 refine TR.mk func76 G ntmps76 G G (fun w_ => ?_)
 refine .seq (.region (.m G G G (.p ((a + 1)) oO oO G G G G G (.a G G G ?_))))
 refine .go idQ (.block (.loop (X := Int × (List AR)) (fun ⟨i, X⟩ => a + 1 ≤ i ∧ i ≤ b + 1 ∧ X.length = n ∧ SegP a b l X ∧ Srd (ltA d) X a i) (fun ⟨i, X⟩ => [(0, .slice A n c), (1, .int .i64 a), (2, .int .i64 b), (3, .func (.func 53) #[] #[.pointer (some ⟨mb, 0, none⟩)]), (8, .int .i64 i)]) (fun ⟨i, X⟩ => [rw_ eAR 54 (.slice A n c) X, cel mb [.func (.func (metF d)) #[] #[]] 56]) (fun _ => S) (fun _ => wf) (fun ⟨i, X⟩ => (b + 1 - i).toNat) (fun a_ w_ hs_ hw_ => ⟨⟨(a + 1), l⟩, (by (try dsimp only); exact ⟨oO, oO, hn, SegP.rfl', (Srd.one (ltA_wo d) oO)⟩), hs_.mono (Sub.get (.c4 G G G G (.c G .n))), hw_.keep (.d .n)⟩) (fun ⟨i, X⟩ ⟨q_0, q_1, q_2, q_3, q_4⟩ => ?_)))
 try dsimp only
 refine .seq (.seq (.region (.m G G G (.m G G G (.e G G G G G ?_)))))
 refine .go idQ (.condI G bD (fun h1 => ?_) (fun h1 => ?_))
 ·
  refine .skipgo idQ (.seq (.block (.seq (.region (.m G G G (.a G G G (.go idQ (.block ?_))))))))
  refine .loop (X := Int × (List AR)) (fun ⟨j, Y⟩ => Y.length = n ∧ SegP a b l Y ∧ InsI (ltA d) Y a i j ∧ a ≤ j ∧ j ≤ i) (fun ⟨j, Y⟩ => [(0, .slice A n c), (1, .int .i64 a), (2, .int .i64 b), (3, .func (.func 53) #[] #[.pointer (some ⟨mb, 0, none⟩)]), (8, .int .i64 i), (9, .int .i64 j)]) (fun ⟨j, Y⟩ => [rw_ eAR 54 (.slice A n c) Y, cel mb [.func (.func (metF d)) #[] #[]] 56]) (fun _ => S) (fun _ => wf) (fun ⟨j, Y⟩ => j.toNat) (fun a_ w_ hs_ hw_ => ⟨⟨i, X⟩, (by (try dsimp only); exact ⟨q_2, q_3, (inz_start q_4), oO, oO⟩), hs_.mono (Sub.get (.c4 G G G G (.c G (.c G .n)))), hw_.keep (.d .n)⟩) (fun ⟨j, Y⟩ ⟨r_0, r_1, r_2, r_3, r_4⟩ => ?_)
  try dsimp only
  refine .seq (.seq (.know (row_form 0 G oO) (fun hv4 => ?_)))
  obtain ⟨g2, c3, hv4, hv4_1, hv4_2⟩ := hv4
  injection hv4 with eA _ _; subst eA
  by_cases hc5 : j > a
  ·
   refine SC.draw mo [cel mb [.func (.func (metF d)) #[] #[]] 56] [] (.c (.t .h) .n) (fun _ _ _ => sc0) (fun wf_6 hl_6 hx_6 hR_6 => ?_)
   refine SR.m 0 G G G G ?_
   refine SR.m 1 G G G G ?_
   refine SR.z 2 G G (ev_cmp (r := true) G G G (kbDT hc5)) ?_
   refine SR.m 3 G G G G ?_
   refine SR.y 4 G G (fun _ => ev_mv G G) ?_
   refine SR.y 5 G G (fun _ => ev_mv G G) ?_
   refine SR.y 6 G G (fun _ => ev_mv G G) ?_
   refine SR.y 7 G G (fun _ => ev_ix G underlying22 ty54 G G oO oO (fun _ _ => Fr.adr (i := j) (Fr.lent (S := S) hR_6 0 G lO) oO oO)) ?_
   refine SR.y 8 G G (fun _ => ev_lda G G (At.d (Fr.el (i := j) (Fr.lent (S := S) hR_6 0 G lO) oO oO)) ty54) ?_
   refine SR.y 9 G G (fun _ => ev_mv G G) ?_
   refine SR.y 10 G G (fun _ => ev_mv G G) ?_
   refine SR.y 11 G G (fun _ => ev_sub G G G (r := (j - 1)) G oO oO) ?_
   refine SR.y 12 G G (fun _ => ev_ix G underlying22 ty54 G G oO oO (fun _ _ => Fr.adr (i := (j - 1)) (Fr.lent (S := S) hR_6 0 G lO) oO oO)) ?_
   refine SR.y 13 G G (fun _ => ev_lda G G (At.d (Fr.el (i := (j - 1)) (Fr.lent (S := S) hR_6 0 G lO) oO oO)) ty54) ?_
   refine SR.o 14 G (.on G G G (.viacap (args' := #[.tmp 26, .tmp 31, .const (.pointer (some ⟨mb, 0, none⟩))]) G G (by simp) hbd53 (st_callk G G G G hbd53 G (.c .h .n) (new1_ (gt Y j) (gt Y (j - 1)) d mb _ _) ⟨tt0, ?_⟩)))
   refine SR.y 15 G G (fun _ => ev_cmp G G G G) ?_
   refine SR.z 16 G G (ev_pickt G G G G) ?_
   refine SR.fin kR hl_6 hx_6 hR_6 (.c .n) ?_
   refine SQ.go idQ ?_
   refine .condI G bD (fun h7 => ?_) (fun h7 => ?_)
   ·
    refine .skipgo idQ (.seq (.block ?_))
    refine SC.draw mo [rw_ eAR 54 (.slice (some ⟨g2, 0, none⟩) n c) Y] [(15, fun w => At w (ab (some ⟨g2, 0, none⟩)) (ao (some ⟨g2, 0, none⟩) + ((j - 1)).toNat * eAR.sz) (eAR.enc (gt Y (j - 1)))), (15, fun w => At w (ab (some ⟨g2, 0, none⟩)) (ao (some ⟨g2, 0, none⟩) + (j).toNat * eAR.sz) (eAR.enc (gt Y j)))] (.c (.t .h) .n) (fun w_ _ hw_ => (sc1 (row_el (E := eAR) (l := Y) (i := (j - 1)) 0 G oO lO w_ hw_) (sc1 (row_el (E := eAR) (l := Y) (i := j) 0 G oO lO w_ hw_) sc0))) (fun wf_8 hl_8 hx_8 hR_8 => ?_)
    refine SR.m 0 G G G G ?_
    refine SR.m 1 G G G G ?_
    refine SR.m 2 G G G G ?_
    refine SR.m 3 G G G G ?_
    refine SR.z 4 G G (ev_sub G G G (r := (j - 1)) G oO oO) ?_
    refine SR.m 5 G G G G ?_
    refine SR.m 6 G G G G ?_
    refine SR.z 7 G G (ev_sub G G G (r := (j - 1)) G oO oO) ?_
    refine SR.z 8 G G (ev_ix G underlying22 ty54 G G oO oO (fun _ _ => G)) ?_
    refine SR.z 9 G G (ev_lda G G ((At.ofcs 0 G kR)) ty54) ?_
    refine SR.m 10 G G G G ?_
    refine SR.m 11 G G G G ?_
    refine SR.z 12 G G (ev_ix G underlying22 ty54 G G oO oO (fun _ _ => G)) ?_
    refine SR.z 13 G G (ev_lda G G ((At.ofcs 1 G kR)) ty54) ?_
    refine SR.z 14 G G (ev_ix G underlying22 ty54 G G oO oO (fun _ _ => G)) ?_
    refine SR.o 15 G (st_setel (E := eAR) (i := j) (cs := [.int .i64 ((gt Y (j - 1)).fr), .int .i64 ((gt Y (j - 1)).to), .int .i64 ((gt Y (j - 1)).tm), .int .i64 ((gt Y (j - 1)).ds)]) (off := 0) (gt Y (j - 1)) G G G ty54 G G G G G .h lO lO (Nat.le_of_ble_eq_true G) G ⟨ttc (fun w_ hw_ => (tc2 kR (tc2 kR tc0))), ?_⟩)
    refine SR.z 16 G G (ev_ix G underlying22 ty54 G G oO oO (fun _ _ => G)) ?_
    refine SR.o 17 G (st_setel (E := eAR) (i := (j - 1)) (cs := [.int .i64 ((gt Y j).fr), .int .i64 ((gt Y j).to), .int .i64 ((gt Y j).tm), .int .i64 ((gt Y j).ds)]) (off := 0) (gt Y j) G G G ty54 G G G G G .h lO lO (Nat.le_of_ble_eq_true G) G ⟨ttc (fun w_ hw_ => (tc2 kR (tc2 kR tc0))), ?_⟩)
    refine SR.fin kR hl_8 hx_8 hR_8 (.c .n) ?_
    refine SQ.go idQ ?_
    refine .region (.m G G G (.v (ev_sub G G G (r := (j - 1)) G oO oO) G (.a G G G ?_)))
    exact SP.nil (SQ.roundb (X := Int × (List AR)) (x := (j, Y)) ⟨(j - 1), ((Y.set (j).toNat (gt Y (j - 1))).set ((j - 1)).toNat (gt Y j))⟩ (by (try dsimp only); exact ⟨(by (try simp only [List.length_set]); omega), (r_1.trans (SegP.swap oO oO oO oO)), (inz_step (ltA_wo d) r_2 oO oO oO oO (cmpA_lt.1 h7)), oO, oO⟩) dO (Sub.get (.c4 G G G G (.c G (.c G .n)))) (kp (.d .n)))
   refine .exit idQ ?_
   refine .region (.m G G G (.p ((i + 1)) oO oO G G G G G (.a G G G ?_)))
   exact SP.nil (SQ.roundb (X := Int × (List AR)) (x := (i, X)) ⟨(i + 1), Y⟩ (by (try dsimp only); exact ⟨oO, oO, r_0, r_1, (inz_end (ltA_wo d) r_2 (.inr (fun h_ => h7 (cmpA_lt.2 h_))))⟩) dO (Sub.get (.c4 G G G G (.c G .n))) (kp (.c (.t .h) (.c .h .n))))
  refine SC.draw mo [] [] .n (fun _ _ _ => sc0) (fun wf_9 hl_9 hx_9 hR_9 => ?_)
  refine SR.m 0 G G G G ?_
  refine SR.m 1 G G G G ?_
  refine SR.z 2 G G (ev_cmp (r := false) G G G (kbDF hc5)) ?_
  refine SR.m 3 G G G G ?_
  refine SR.gtake (v := undef) 4 G kR kR kR G (fun _ _ _ _ h => h) G G G G G (fun hb => by cases hb) ?_
  refine SR.gtake (v := undef) 5 G kR kR kR G (fun _ _ _ _ h => h) G G G G G (fun hb => by cases hb) ?_
  refine SR.gtake (v := undef) 6 G kR kR kR G (fun _ _ _ _ h => h) G G G G G (fun hb => by cases hb) ?_
  refine SR.gtake (v := undef) 7 G kR kR kR G (fun _ _ _ _ h => h) G G G G G (fun hb => by cases hb) ?_
  refine SR.gtake (v := undef) 8 G kR kR kR G (fun _ _ _ _ h => h) G G G G G (fun hb => by cases hb) ?_
  refine SR.gtake (v := undef) 9 G kR kR kR G (fun _ _ _ _ h => h) G G G G G (fun hb => by cases hb) ?_
  refine SR.gtake (v := undef) 10 G kR kR kR G (fun _ _ _ _ h => h) G G G G G (fun hb => by cases hb) ?_
  refine SR.gtake (v := undef) 11 G kR kR kR G (fun _ _ _ _ h => h) G G G G G (fun hb => by cases hb) ?_
  refine SR.gtake (v := undef) 12 G kR kR kR G (fun _ _ _ _ h => h) G G G G G (fun hb => by cases hb) ?_
  refine SR.gtake (v := undef) 13 G kR kR kR G (fun _ _ _ _ h => h) G G G G G (fun hb => by cases hb) ?_
  refine SR.gtake (v := undef) 14 G kR kR kR G (fun _ _ _ _ h => h) G G G G G (fun hb => by cases hb) ?_
  refine SR.gtake (v := undef) 15 G kR kR kR G (fun _ _ _ _ h => h) G G G G G (fun hb => by cases hb) ?_
  refine SR.z 16 G G (ev_pickf G G G G) ?_
  refine SR.fin kR hl_9 hx_9 hR_9 .n ?_
  refine SQ.go idQ ?_
  refine .cond_f G ?_
  refine .exit idQ ?_
  refine .region (.m G G G (.p ((i + 1)) oO oO G G G G G (.a G G G ?_)))
  exact SP.nil (SQ.roundb (X := Int × (List AR)) (x := (i, X)) ⟨(i + 1), Y⟩ (by (try dsimp only); exact ⟨oO, oO, r_0, r_1, (inz_end (ltA_wo d) r_2 (.inl oO))⟩) dO (Sub.get (.c4 G G G G (.c G .n))) (kp (.d .n)))
 exact .exitq idQ (end0 results76 (.d .n) ⟨X, q_3, (q_4.sub oO oO), G, G⟩)
theorem swrA_ (A : Option Addr) (n : Nat) (c : Nat) (l : List AR) (a : Int) (b : Int) (k : Int) (mb : Nat) (S : Nat → Prop) (wf : World) (hn : l.length = n) (hb : n ≤ 1000) (hr : 0 ≤ a ∧ 0 ≤ k ∧ a + k ≤ b ∧ b + k ≤ (n : Int)) :
  TR0 prog 83 [.slice A n c, .int .i64 a, .int .i64 b, .int .i64 k, .func (.func 53) #[] #[.pointer (some ⟨mb, 0, none⟩)]] [rw_ eAR 54 (.slice A n c) l] S wf (fun v_ C_ => ∃ (l2 : List AR), (SwR l l2 a b k) ∧ (SegP a (b + k) l l2) ∧ v_ = .tuple #[] ∧ C_ = [rw_ eAR 54 (.slice A n c) l2]) := by
 refine TR.mk func83 G ntmps83 G G (fun w_ => ?_)
 refine .seq (.region (.a G G G (.go idQ (.block (.loop (X := Int × (List AR)) (fun ⟨i, X⟩ => 0 ≤ i ∧ i ≤ k ∧ X.length = n ∧ SwR l X a b i ∧ SegP a (b + k) l X) (fun ⟨i, X⟩ => [(0, .slice A n c), (1, .int .i64 a), (2, .int .i64 b), (3, .int .i64 k), (10, .int .i64 i)]) (fun ⟨i, X⟩ => [rw_ eAR 54 (.slice A n c) X]) (fun _ => S) (fun _ => wf) (fun ⟨i, X⟩ => (k - i).toNat) (fun a_ w_ hs_ hw_ => ⟨⟨0, l⟩, (by (try dsimp only); exact ⟨oO, oO, hn, swr_0, SegP.rfl'⟩), hs_.mono (Sub.get (.c4 G G G G (.c G .n))), hw_.keep (.c .h .n)⟩) (fun ⟨i, X⟩ ⟨q_0, q_1, q_2, q_3, q_4⟩ => ?_))))))
 try dsimp only
 refine .seq (.seq (.region (.m G G G (.m G G G (.e G G G G G ?_)))))
 refine .go idQ (.condI G bD (fun h1 => ?_) (fun h1 => ?_))
 ·
  refine .skipgo idQ (.seq (.block (.know (row_form 0 G oO) (fun hv4 => ?_))))
  obtain ⟨g2, c3, hv4, hv4_1, hv4_2⟩ := hv4
  injection hv4 with eA _ _; subst eA
  refine SC.draw mo [rw_ eAR 54 (.slice (some ⟨g2, 0, none⟩) n c) X] [(21, fun w => At w (ab (some ⟨g2, 0, none⟩)) (ao (some ⟨g2, 0, none⟩) + ((b + i)).toNat * eAR.sz) (eAR.enc (gt X (b + i)))), (21, fun w => At w (ab (some ⟨g2, 0, none⟩)) (ao (some ⟨g2, 0, none⟩) + ((a + i)).toNat * eAR.sz) (eAR.enc (gt X (a + i))))] (.c .h .n) (fun w_ _ hw_ => (sc1 (row_el (E := eAR) (l := X) (i := (b + i)) 0 G oO lO w_ hw_) (sc1 (row_el (E := eAR) (l := X) (i := (a + i)) 0 G oO lO w_ hw_) sc0))) (fun wf_5 hl_5 hx_5 hR_5 => ?_)
  refine SR.m 0 G G G G ?_
  refine SR.m 1 G G G G ?_
  refine SR.m 2 G G G G ?_
  refine SR.z 3 G G (ev_add G G G (r := (a + i)) G oO oO) ?_
  refine SR.m 4 G G G G ?_
  refine SR.m 5 G G G G ?_
  refine SR.m 6 G G G G ?_
  refine SR.z 7 G G (ev_add G G G (r := (b + i)) G oO oO) ?_
  refine SR.m 8 G G G G ?_
  refine SR.m 9 G G G G ?_
  refine SR.m 10 G G G G ?_
  refine SR.z 11 G G (ev_add G G G (r := (b + i)) G oO oO) ?_
  refine SR.z 12 G G (ev_ix G underlying22 ty54 G G oO oO (fun _ _ => G)) ?_
  refine SR.z 13 G G (ev_lda G G ((At.ofcs 0 G kR)) ty54) ?_
  refine SR.m 14 G G G G ?_
  refine SR.m 15 G G G G ?_
  refine SR.m 16 G G G G ?_
  refine SR.z 17 G G (ev_add G G G (r := (a + i)) G oO oO) ?_
  refine SR.z 18 G G (ev_ix G underlying22 ty54 G G oO oO (fun _ _ => G)) ?_
  refine SR.z 19 G G (ev_lda G G ((At.ofcs 1 G kR)) ty54) ?_
  refine SR.z 20 G G (ev_ix G underlying22 ty54 G G oO oO (fun _ _ => G)) ?_
  refine SR.o 21 G (st_setel (E := eAR) (i := (a + i)) (cs := [.int .i64 ((gt X (b + i)).fr), .int .i64 ((gt X (b + i)).to), .int .i64 ((gt X (b + i)).tm), .int .i64 ((gt X (b + i)).ds)]) (off := 0) (gt X (b + i)) G G G ty54 G G G G G .h lO lO (Nat.le_of_ble_eq_true G) G ⟨ttc (fun w_ hw_ => (tc2 kR (tc2 kR tc0))), ?_⟩)
  refine SR.z 22 G G (ev_ix G underlying22 ty54 G G oO oO (fun _ _ => G)) ?_
  refine SR.o 23 G (st_setel (E := eAR) (i := (b + i)) (cs := [.int .i64 ((gt X (a + i)).fr), .int .i64 ((gt X (a + i)).to), .int .i64 ((gt X (a + i)).tm), .int .i64 ((gt X (a + i)).ds)]) (off := 0) (gt X (a + i)) G G G ty54 G G G G G .h lO lO (Nat.le_of_ble_eq_true G) G ⟨ttc (fun w_ hw_ => (tc2 kR (tc2 kR tc0))), ?_⟩)
  refine SR.fin kR hl_5 hx_5 hR_5 (.c .n) ?_
  refine SQ.go idQ ?_
  refine .region (.m G G G (.p ((i + 1)) oO oO G G G G G (.a G G G ?_)))
  exact SP.nil (SQ.roundb (X := Int × (List AR)) (x := (i, X)) ⟨(i + 1), ((X.set ((a + i)).toNat (gt X (b + i))).set ((b + i)).toNat (gt X (a + i)))⟩ (by (try dsimp only); exact ⟨oO, oO, (by (try simp only [List.length_set]); omega), (swr_next q_3 oO oO oO oO oO), (q_4.trans (SegP.swap oO oO oO oO))⟩) dO (Sub.get (.c4 G G G G (.c G .n))) (kp (.c .h .n)))
 exact .exitq idQ (end0 results83 (.c .h .n) ⟨X, (by rw [show k = i from by omega]; exact q_3), q_4, G, G⟩)
theorem rotA_ (A : Option Addr) (n : Nat) (c : Nat) (l : List AR) (a : Int) (m : Int) (b : Int) (mb : Nat) (S : Nat → Prop) (wf : World) (hn : l.length = n) (hb : n ≤ 1000) (hr : 0 ≤ a ∧ a < m ∧ m < b ∧ b ≤ (n : Int)) :
  TR0 prog 80 [.slice A n c, .int .i64 a, .int .i64 m, .int .i64 b, .func (.func 53) #[] #[.pointer (some ⟨mb, 0, none⟩)]] [rw_ eAR 54 (.slice A n c) l] S wf (fun v_ C_ => ∃ (l2 : List AR), (SegP a b l l2) ∧ (∀ q : Int, a ≤ q → q < b → gt l2 q = RotT l a m b q) ∧ v_ = .tuple #[] ∧ C_ = [rw_ eAR 54 (.slice A n c) l2]) := by
 refine TR.mk func80 G ntmps80 G G (fun w_ => ?_)
 refine .seq (.region (.m G G G (.m G G G (.v (ev_sub G G G (r := (m - a)) G oO oO) G ?_))))
 refine .a G G G (.go idQ (.seq (.region (.m G G G (.m G G G ?_)))))
 refine .v (ev_sub G G G (r := (b - m)) G oO oO) G (.a G G G (.go idQ (.seq (.block (.loop (X := Int × Int × (List AR)) (fun ⟨i, j, X⟩ => X.length = n ∧ SegP a b l X ∧ RotI l X a m b i j ∧ 1 ≤ i ∧ i ≤ m - a ∧ 1 ≤ j ∧ j ≤ b - m) (fun ⟨i, j, X⟩ => [(0, .slice A n c), (2, .int .i64 m), (4, .func (.func 53) #[] #[.pointer (some ⟨mb, 0, none⟩)]), (10, .int .i64 i), (11, .int .i64 j)]) (fun ⟨i, j, X⟩ => [rw_ eAR 54 (.slice A n c) X]) (fun _ => S) (fun _ => wf) (fun ⟨i, j, X⟩ => (i + j).toNat) (fun a_ w_ hs_ hw_ => ⟨⟨(m - a), (b - m), l⟩, (by (try dsimp only); exact ⟨hn, SegP.rfl', (rot_0 oO oO), oO, oO, oO, oO⟩), hs_.mono (Sub.get (.c4 G G G G (.c G .n))), hw_.keep (.c .h .n)⟩) (fun ⟨i, j, X⟩ ⟨q_0, q_1, q_2, q_3, q_4, q_5, q_6⟩ => ?_))))))
 try dsimp only
 refine .seq (.seq (.region (.m G G G (.m G G G (.e G G G G G ?_)))))
 refine .go idQ (.condI G bNE (fun h1 => ?_) (fun h1 => ?_))
 ·
  refine .skipgo idQ (.block (.seq (.region (.m G G G (.m G G G (.e G G G G G ?_))))))
  refine .go idQ (.condI G bD (fun h2 => ?_) (fun h2 => ?_))
  ·
   refine .seq (.region (.m G G G (.m G G G (.m G G G ?_))))
   refine .v (ev_sub G G G (r := (m - i)) G oO oO) G (.m G G G (.m G G G (.m G G G ?_)))
   refine .cons (st_call0 G G G G hbd83 G (.c .h .n) (swrA_ A n c X (m - i) m j mb _ _ lO oO oO) (fun v_q4 C_q4 q4 => ?_))
   obtain ⟨l23, p5, p6, rfl, rfl⟩ := q4
   show SP _ _ _ _ _ _ ⟨_, _ :: _, _, _⟩
   refine .go idQ (.region (.m G G G (.m G G G (.v (ev_sub G G G (r := (i - j)) G oO oO) G ?_))))
   refine .a G G G ?_
   exact SP.nil (SQ.roundb (X := Int × Int × (List AR)) (x := (i, j, X)) ⟨(i - j), j, l23⟩ (by (try dsimp only); exact ⟨(p6.len.trans q_0), (q_1.trans (p6.mono oO oO oO)), (rot_gt q_2 oO p5 oO), oO, oO, oO, oO⟩) dO (Sub.get (.c4 G G G G (.c G .n))) (kp (.c .h .n)))
  refine .seq (.region (.m G G G (.m G G G (.m G G G ?_))))
  refine .v (ev_sub G G G (r := (m - i)) G oO oO) G (.m G G G (.m G G G (.p ((m + j)) oO oO G G G G G ?_)))
  refine .m G G G (.v (ev_sub G G G (r := ((m + j) - i)) G oO oO) G (.m G G G (.m G G G ?_)))
  refine .cons (st_call0 G G G G hbd83 G (.c .h .n) (swrA_ A n c X (m - i) ((m + j) - i) i mb _ _ lO oO oO) (fun v_q8 C_q8 q8 => ?_))
  obtain ⟨l27, p9, p10, rfl, rfl⟩ := q8
  show SP _ _ _ _ _ _ ⟨_, _ :: _, _, _⟩
  refine .go idQ (.region (.m G G G (.m G G G (.v (ev_sub G G G (r := (j - i)) G oO oO) G ?_))))
  refine .a G G G ?_
  exact SP.nil (SQ.roundb (X := Int × Int × (List AR)) (x := (i, j, X)) ⟨i, (j - i), l27⟩ (by (try dsimp only); exact ⟨(p10.len.trans q_0), (q_1.trans (p10.mono oO oO oO)), (rot_lt q_2 oO p9 oO), oO, oO, oO, oO⟩) dO (Sub.get (.c4 G G G G (.c G .n))) (kp (.c .h .n)))
 refine .exit idQ ?_
 refine .region (.m G G G (.m G G G (.m G G G ?_)))
 refine .v (ev_sub G G G (r := (m - i)) G oO oO) G (.m G G G (.m G G G (.m G G G ?_)))
 refine .cons (st_call0 G G G G hbd83 G (.c .h .n) (swrA_ A n c X (m - i) m i mb _ _ lO oO oO) (fun v_q12 C_q12 q12 => ?_))
 obtain ⟨l211, p13, p14, rfl, rfl⟩ := q12
 show SP _ _ _ _ _ _ ⟨_, _ :: _, _, _⟩
 exact SP.nil (end0 results80 (.c .h .n) ⟨l211, (q_1.trans (p14.mono oO oO oO)), (rot_end q_2 oO p13 oO), G, G⟩)
end Go.Proofs.Ytpjblnmophcdmaa.Sx
set_option maxRecDepth 20000
set_option maxHeartbeats 8000000
namespace Go.Proofs.Ytpjblnmophcdmaa.Sx.FI
open Go Go.SX Go.Proofs Go.Proofs.Try FA FB FC FD FE FF FG FH
theorem hbd77 : hasBody prog 77 = true := by kernel_rfl
theorem hbd80 : hasBody prog 80 = true := by kernel_rfl
end Go.Proofs.Ytpjblnmophcdmaa.Sx.FI
namespace Go.Proofs.Ytpjblnmophcdmaa.Sx
open Go Go.SX Go.Proofs Go.Proofs.Try FA FB FC FD FE FF FG FH FI
theorem symA_ : ∀ (f : Nat) (A : Option Addr) (n : Nat) (c : Nat) (l : List AR) (a : Int) (m : Int) (b : Int) (d : Bool) (mb : Nat) (S : Nat → Prop) (wf : World) (hn : l.length = n) (hb : n ≤ 1000) (hr : 0 ≤ a ∧ a < m ∧ m < b ∧ b ≤ (n : Int)) (hf : b - a < (f : Int)) (hA : Srd (ltA d) l a m) (hB : Srd (ltA d) l m b),
  TR0 prog 77 [.slice A n c, .int .i64 a, .int .i64 m, .int .i64 b, .func (.func 53) #[] #[.pointer (some ⟨mb, 0, none⟩)]] [rw_ eAR 54 (.slice A n c) l, cel mb [.func (.func (metF d)) #[] #[]] 56] S wf (fun v_ C_ => ∃ (l2 : List AR), (SegP a b l l2) ∧ (Srd (ltA d) l2 a b) ∧ v_ = .tuple #[] ∧ C_ = [rw_ eAR 54 (.slice A n c) l2, cel mb [.func (.func (metF d)) #[] #[]] 56]) := by
 refine nat_ind ?_ (fun f ih => ?_)
 · intro A n c l a m b d mb S wf hn hb hr hf hA hB; exfalso; omega
 intro A n c l a m b d mb S wf hn hb hr hf hA hB
 refine TR.mk func77 G ntmps77 G G (fun w_ => ?_)
 refine .seq (.seq (.region (.m G G G (.m G G G (.v (ev_sub G G G (r := (m - a)) G oO oO) G ?_)))))
 refine .e G G G G G (.go idQ (.condI G bE (fun h1 => ?_) (fun h1 => ?_)))
 ·
  refine .seq (.region (.m G G G (.a G G G (.go idQ (.seq (.region ?_))))))
  refine .m G G G (.a G G G (.go idQ (.seq (.block (.loop (X := Int × Int) (fun ⟨i, j⟩ => m ≤ i ∧ i ≤ j ∧ j ≤ b ∧ (∀ q : Int, m ≤ q → q < i → ltA d (gt l q) (gt l a)) ∧ (∀ q : Int, j ≤ q → q < b → ¬ ltA d (gt l q) (gt l a))) (fun ⟨i, j⟩ => [(0, .slice A n c), (1, .int .i64 a), (2, .int .i64 m), (3, .int .i64 b), (4, .func (.func 53) #[] #[.pointer (some ⟨mb, 0, none⟩)]), (10, .int .i64 i), (11, .int .i64 j)]) (fun ⟨i, j⟩ => [rw_ eAR 54 (.slice A n c) l, cel mb [.func (.func (metF d)) #[] #[]] 56]) (fun _ => S) (fun _ => wf) (fun ⟨i, j⟩ => (j - i).toNat) (fun a_ w_ hs_ hw_ => ⟨⟨m, b⟩, (by (try dsimp only); exact ⟨oO, oO, oO, (fun q q0 q1 => absurd q1 oO), (fun q q0 q1 => absurd q1 oO)⟩), hs_.mono (Sub.get (.c4 G G G G (.c G (.c G (.c G .n))))), hw_.keep (.d .n)⟩) (fun ⟨i, j⟩ ⟨q_0, q_1, q_2, q_3, q_4⟩ => ?_))))))
  try dsimp only
  refine .seq (.seq (.region (.m G G G (.m G G G (.e G G G G G ?_)))))
  refine .go idQ (.condI G bD (fun h2 => ?_) (fun h2 => ?_))
  ·
   refine .skipgo idQ (.block (.seq ?_))
   have hfd := half_of (h := Int.fdiv (i + j) 2) (x := i + j) rfl oO
   refine .region (.m G G G (.m G G G (.p ((i + j)) oO oO G G G G G ?_)))
   refine .v (ev_cv G underlying3 underlying121 G (wrap_u64_in oO oO)) G (.v (ev_shr (r := (Int.fdiv (i + j) 2)) G G G (by decide) G) G (.v (ev_cv G underlying121 underlying3 G (wrap_in oO oO)) G (.a G G G ?_)))
   refine .go idQ (.seq ?_)
   obtain ⟨h, hh_⟩ : ∃ h_, h_ = Int.fdiv (i + j) 2 := ⟨_, rfl⟩
   rw [← hh_]
   have hhm := half_of hh_ oO
   refine SC.draw mo [cel mb [.func (.func (metF d)) #[] #[]] 56] [] (.c (.t .h) .n) (fun _ _ _ => sc0) (fun wf_3 hl_3 hx_3 hR_3 => ?_)
   refine SR.m 0 G G G G ?_
   refine SR.m 1 G G G G ?_
   refine SR.m 2 G G G G ?_
   refine SR.z 3 G G (ev_ix G underlying22 ty54 G G oO oO (fun _ _ => Fr.adr (i := h) (Fr.lent (S := S) hR_3 0 G lO) oO oO)) ?_
   refine SR.z 4 G G (ev_lda G G (At.d (Fr.el (i := h) (Fr.lent (S := S) hR_3 0 G lO) oO oO)) ty54) ?_
   refine SR.m 5 G G G G ?_
   refine SR.m 6 G G G G ?_
   refine SR.z 7 G G (ev_ix G underlying22 ty54 G G oO oO (fun _ _ => Fr.adr (i := a) (Fr.lent (S := S) hR_3 0 G lO) oO oO)) ?_
   refine SR.z 8 G G (ev_lda G G (At.d (Fr.el (i := a) (Fr.lent (S := S) hR_3 0 G lO) oO oO)) ty54) ?_
   refine SR.o 9 G (.viacap (args' := #[.tmp 44, .tmp 48, .const (.pointer (some ⟨mb, 0, none⟩))]) G G (by simp) hbd53 (st_callk G G G G hbd53 G (.c .h .n) (new1_ (gt l h) (gt l a) d mb _ _) ⟨tt0, ?_⟩))
   refine SR.z 10 G G (ev_cmp G G G G) ?_
   refine SR.fin kR hl_3 hx_3 hR_3 (.c .n) ?_
   refine SQ.go idQ ?_
   refine .condI G bD (fun h4 => ?_) (fun h4 => ?_)
   ·
    refine .region (.m G G G (.p ((h + 1)) oO oO G G G G G (.a G G G ?_)))
    exact SP.nil (SQ.roundb (X := Int × Int) (x := (i, j)) ⟨(h + 1), j⟩ (by (try dsimp only); exact ⟨oO, oO, oO, (bs_lo (ltA_wo d) hB oO oO (cmpA_lt.1 h4)), q_4⟩) dO (Sub.get (.c4 G G G G (.c G (.c G (.c G .n))))) (kp (.c (.t .h) (.c .h .n))))
   refine .region (.m G G G (.a G G G ?_))
   exact SP.nil (SQ.roundb (X := Int × Int) (x := (i, j)) ⟨i, h⟩ (by (try dsimp only); exact ⟨oO, oO, oO, q_3, (bs_hi (ltA_wo d) hB oO oO (fun h_ => h4 (cmpA_lt.2 h_)))⟩) dO (Sub.get (.c4 G G G G (.c G (.c G (.c G .n))))) (kp (.c (.t .h) (.c .h .n))))
  refine .exit idQ ?_
  refine .seq (.seq (.region (.m G G G (.a G G G (.go idQ (.block ?_))))))
  refine .loop (X := Int × (List AR)) (fun ⟨k, X⟩ => a ≤ k ∧ k ≤ i - 1 ∧ UpR l X a k ∧ SegP a b l X ∧ X.length = n) (fun ⟨k, X⟩ => [(0, .slice A n c), (1, .int .i64 a), (2, .int .i64 m), (3, .int .i64 b), (4, .func (.func 53) #[] #[.pointer (some ⟨mb, 0, none⟩)]), (10, .int .i64 i), (11, .int .i64 j), (13, .int .i64 k)]) (fun ⟨k, X⟩ => [rw_ eAR 54 (.slice A n c) X, cel mb [.func (.func (metF d)) #[] #[]] 56]) (fun _ => S) (fun _ => wf) (fun ⟨k, X⟩ => (i - 1 - k).toNat) (fun a_ w_ hs_ hw_ => ⟨⟨a, l⟩, (by (try dsimp only); exact ⟨oO, oO, upr_0, SegP.rfl', hn⟩), hs_.mono (Sub.get (.c4 G G G G (.c4 G G G G .n))), hw_.keep (.d .n)⟩) (fun ⟨k, X⟩ ⟨r_0, r_1, r_2, r_3, r_4⟩ => ?_)
  try dsimp only
  refine .seq (.seq (.region (.m G G G (.m G G G (.v (ev_sub G G G (r := (i - 1)) G oO oO) G ?_)))))
  refine .e G G G G G (.go idQ (.condI G bD (fun h5 => ?_) (fun h5 => ?_)))
  ·
   refine .skipgo idQ (.seq (.block (.know (row_form 0 G oO) (fun hv8 => ?_))))
   obtain ⟨g6, c7, hv8, hv8_1, hv8_2⟩ := hv8
   injection hv8 with eA _ _; subst eA
   refine SC.draw mo [rw_ eAR 54 (.slice (some ⟨g6, 0, none⟩) n c) X] [(15, fun w => At w (ab (some ⟨g6, 0, none⟩)) (ao (some ⟨g6, 0, none⟩) + ((k + 1)).toNat * eAR.sz) (eAR.enc (gt X (k + 1)))), (15, fun w => At w (ab (some ⟨g6, 0, none⟩)) (ao (some ⟨g6, 0, none⟩) + (k).toNat * eAR.sz) (eAR.enc (gt X k)))] (.c .h .n) (fun w_ _ hw_ => (sc1 (row_el (E := eAR) (l := X) (i := (k + 1)) 0 G oO lO w_ hw_) (sc1 (row_el (E := eAR) (l := X) (i := k) 0 G oO lO w_ hw_) sc0))) (fun wf_9 hl_9 hx_9 hR_9 => ?_)
   refine SR.m 0 G G G G ?_
   refine SR.m 1 G G G G ?_
   refine SR.m 2 G G G G ?_
   refine SR.m 3 G G G G ?_
   refine SR.z 4 G G (ev_add G G G (r := (k + 1)) G oO oO) ?_
   refine SR.m 5 G G G G ?_
   refine SR.m 6 G G G G ?_
   refine SR.z 7 G G (ev_add G G G (r := (k + 1)) G oO oO) ?_
   refine SR.z 8 G G (ev_ix G underlying22 ty54 G G oO oO (fun _ _ => G)) ?_
   refine SR.z 9 G G (ev_lda G G ((At.ofcs 0 G kR)) ty54) ?_
   refine SR.m 10 G G G G ?_
   refine SR.m 11 G G G G ?_
   refine SR.z 12 G G (ev_ix G underlying22 ty54 G G oO oO (fun _ _ => G)) ?_
   refine SR.z 13 G G (ev_lda G G ((At.ofcs 1 G kR)) ty54) ?_
   refine SR.z 14 G G (ev_ix G underlying22 ty54 G G oO oO (fun _ _ => G)) ?_
   refine SR.o 15 G (st_setel (E := eAR) (i := k) (cs := [.int .i64 ((gt X (k + 1)).fr), .int .i64 ((gt X (k + 1)).to), .int .i64 ((gt X (k + 1)).tm), .int .i64 ((gt X (k + 1)).ds)]) (off := 0) (gt X (k + 1)) G G G ty54 G G G G G .h lO lO (Nat.le_of_ble_eq_true G) G ⟨ttc (fun w_ hw_ => (tc2 kR (tc2 kR tc0))), ?_⟩)
   refine SR.z 16 G G (ev_ix G underlying22 ty54 G G oO oO (fun _ _ => G)) ?_
   refine SR.o 17 G (st_setel (E := eAR) (i := (k + 1)) (cs := [.int .i64 ((gt X k).fr), .int .i64 ((gt X k).to), .int .i64 ((gt X k).tm), .int .i64 ((gt X k).ds)]) (off := 0) (gt X k) G G G ty54 G G G G G .h lO lO (Nat.le_of_ble_eq_true G) G ⟨ttc (fun w_ hw_ => (tc2 kR (tc2 kR tc0))), ?_⟩)
   refine SR.fin kR hl_9 hx_9 hR_9 (.c .n) ?_
   refine SQ.go idQ ?_
   refine .region (.m G G G (.p ((k + 1)) oO oO G G G G G (.a G G G ?_)))
   exact SP.nil (SQ.roundb (X := Int × (List AR)) (x := (k, X)) ⟨(k + 1), ((X.set (k).toNat (gt X (k + 1))).set ((k + 1)).toNat (gt X k))⟩ (by (try dsimp only); exact ⟨oO, oO, (upr_next r_2 oO oO oO oO), (r_3.trans (SegP.swap oO oO oO oO)), (by (try simp only [List.length_set]); omega)⟩) dO (Sub.get (.c4 G G G G (.c4 G G G G .n))) (kp (.d .n)))
  refine .exit idQ ?_
  exact .ret idQ (ret0 results77 (.d .n) ⟨X, r_3, (one_up (ltA_wo d) oO oO hB oO q_3 (fun q q0 q1 => q_4 q oO q1) (by rw [show i - 1 = k from by omega]; exact r_2)), G, G⟩)
 refine .skipgo idQ (.seq (.seq (.region (.m G G G (.m G G G (.v (ev_sub G G G (r := (b - m)) G oO oO) G ?_))))))
 refine .e G G G G G (.go idQ (.condI G bE (fun h10 => ?_) (fun h10 => ?_)))
 ·
  refine .seq (.region (.m G G G (.a G G G (.go idQ (.seq (.region ?_))))))
  refine .m G G G (.a G G G (.go idQ (.seq (.block (.loop (X := Int × Int) (fun ⟨i, j⟩ => a ≤ i ∧ i ≤ j ∧ j ≤ m ∧ (∀ q : Int, a ≤ q → q < i → ¬ ltA d (gt l m) (gt l q)) ∧ (∀ q : Int, j ≤ q → q < m → ltA d (gt l m) (gt l q))) (fun ⟨i, j⟩ => [(0, .slice A n c), (1, .int .i64 a), (2, .int .i64 m), (3, .int .i64 b), (4, .func (.func 53) #[] #[.pointer (some ⟨mb, 0, none⟩)]), (14, .int .i64 i), (15, .int .i64 j)]) (fun ⟨i, j⟩ => [rw_ eAR 54 (.slice A n c) l, cel mb [.func (.func (metF d)) #[] #[]] 56]) (fun _ => S) (fun _ => wf) (fun ⟨i, j⟩ => (j - i).toNat) (fun a_ w_ hs_ hw_ => ⟨⟨a, m⟩, (by (try dsimp only); exact ⟨oO, oO, oO, (fun q q0 q1 => absurd q1 oO), (fun q q0 q1 => absurd q1 oO)⟩), hs_.mono (Sub.get (.c4 G G G G (.c G (.c G (.c G .n))))), hw_.keep (.d .n)⟩) (fun ⟨i, j⟩ ⟨q_0, q_1, q_2, q_3, q_4⟩ => ?_))))))
  try dsimp only
  refine .seq (.seq (.region (.m G G G (.m G G G (.e G G G G G ?_)))))
  refine .go idQ (.condI G bD (fun h11 => ?_) (fun h11 => ?_))
  ·
   refine .skipgo idQ (.block (.seq ?_))
   have hfd := half_of (h := Int.fdiv (i + j) 2) (x := i + j) rfl oO
   refine .region (.m G G G (.m G G G (.p ((i + j)) oO oO G G G G G ?_)))
   refine .v (ev_cv G underlying3 underlying121 G (wrap_u64_in oO oO)) G (.v (ev_shr (r := (Int.fdiv (i + j) 2)) G G G (by decide) G) G (.v (ev_cv G underlying121 underlying3 G (wrap_in oO oO)) G (.a G G G ?_)))
   refine .go idQ (.seq ?_)
   obtain ⟨h, hh_⟩ : ∃ h_, h_ = Int.fdiv (i + j) 2 := ⟨_, rfl⟩
   rw [← hh_]
   have hhm := half_of hh_ oO
   refine SC.draw mo [cel mb [.func (.func (metF d)) #[] #[]] 56] [] (.c (.t .h) .n) (fun _ _ _ => sc0) (fun wf_12 hl_12 hx_12 hR_12 => ?_)
   refine SR.m 0 G G G G ?_
   refine SR.m 1 G G G G ?_
   refine SR.m 2 G G G G ?_
   refine SR.z 3 G G (ev_ix G underlying22 ty54 G G oO oO (fun _ _ => Fr.adr (i := m) (Fr.lent (S := S) hR_12 0 G lO) oO oO)) ?_
   refine SR.z 4 G G (ev_lda G G (At.d (Fr.el (i := m) (Fr.lent (S := S) hR_12 0 G lO) oO oO)) ty54) ?_
   refine SR.m 5 G G G G ?_
   refine SR.m 6 G G G G ?_
   refine SR.z 7 G G (ev_ix G underlying22 ty54 G G oO oO (fun _ _ => Fr.adr (i := h) (Fr.lent (S := S) hR_12 0 G lO) oO oO)) ?_
   refine SR.z 8 G G (ev_lda G G (At.d (Fr.el (i := h) (Fr.lent (S := S) hR_12 0 G lO) oO oO)) ty54) ?_
   refine SR.o 9 G (.viacap (args' := #[.tmp 96, .tmp 100, .const (.pointer (some ⟨mb, 0, none⟩))]) G G (by simp) hbd53 (st_callk G G G G hbd53 G (.c .h .n) (new1_ (gt l m) (gt l h) d mb _ _) ⟨tt0, ?_⟩))
   refine SR.z 10 G G (ev_cmp G G G G) ?_
   refine SR.z 11 G G (ev_not G G) ?_
   refine SR.fin kR hl_12 hx_12 hR_12 (.c .n) ?_
   refine SQ.go idQ ?_
   refine .condI G (bN bD) (fun h13 => ?_) (fun h13 => ?_)
   ·
    refine .region (.m G G G (.p ((h + 1)) oO oO G G G G G (.a G G G ?_)))
    exact SP.nil (SQ.roundb (X := Int × Int) (x := (i, j)) ⟨(h + 1), j⟩ (by (try dsimp only); exact ⟨oO, oO, oO, (bs_lo' (ltA_wo d) hA oO oO (fun h_ => h13 (cmpA_lt.2 h_))), q_4⟩) dO (Sub.get (.c4 G G G G (.c G (.c G (.c G .n))))) (kp (.c (.t .h) (.c .h .n))))
   refine .region (.m G G G (.a G G G ?_))
   exact SP.nil (SQ.roundb (X := Int × Int) (x := (i, j)) ⟨i, h⟩ (by (try dsimp only); exact ⟨oO, oO, oO, q_3, (bs_hi' (ltA_wo d) hA oO oO (cmpA_lt.1 (Classical.not_not.1 h13)))⟩) dO (Sub.get (.c4 G G G G (.c G (.c G (.c G .n))))) (kp (.c (.t .h) (.c .h .n))))
  refine .exit idQ ?_
  refine .seq (.seq (.region (.m G G G (.a G G G (.go idQ (.block ?_))))))
  refine .loop (X := Int × (List AR)) (fun ⟨k, X⟩ => i ≤ k ∧ k ≤ m ∧ DnR l X m k ∧ SegP a b l X ∧ X.length = n) (fun ⟨k, X⟩ => [(0, .slice A n c), (1, .int .i64 a), (2, .int .i64 m), (3, .int .i64 b), (4, .func (.func 53) #[] #[.pointer (some ⟨mb, 0, none⟩)]), (14, .int .i64 i), (15, .int .i64 j), (17, .int .i64 k)]) (fun ⟨k, X⟩ => [rw_ eAR 54 (.slice A n c) X, cel mb [.func (.func (metF d)) #[] #[]] 56]) (fun _ => S) (fun _ => wf) (fun ⟨k, X⟩ => (k - i).toNat) (fun a_ w_ hs_ hw_ => ⟨⟨m, l⟩, (by (try dsimp only); exact ⟨oO, oO, dnr_0, SegP.rfl', hn⟩), hs_.mono (Sub.get (.c4 G G G G (.c4 G G G G .n))), hw_.keep (.d .n)⟩) (fun ⟨k, X⟩ ⟨r_0, r_1, r_2, r_3, r_4⟩ => ?_)
  try dsimp only
  refine .seq (.seq (.region (.m G G G (.m G G G (.e G G G G G ?_)))))
  refine .go idQ (.condI G bD (fun h14 => ?_) (fun h14 => ?_))
  ·
   refine .skipgo idQ (.seq (.block (.know (row_form 0 G oO) (fun hv17 => ?_))))
   obtain ⟨g15, c16, hv17, hv17_1, hv17_2⟩ := hv17
   injection hv17 with eA _ _; subst eA
   refine SC.draw mo [rw_ eAR 54 (.slice (some ⟨g15, 0, none⟩) n c) X] [(15, fun w => At w (ab (some ⟨g15, 0, none⟩)) (ao (some ⟨g15, 0, none⟩) + ((k - 1)).toNat * eAR.sz) (eAR.enc (gt X (k - 1)))), (15, fun w => At w (ab (some ⟨g15, 0, none⟩)) (ao (some ⟨g15, 0, none⟩) + (k).toNat * eAR.sz) (eAR.enc (gt X k)))] (.c .h .n) (fun w_ _ hw_ => (sc1 (row_el (E := eAR) (l := X) (i := (k - 1)) 0 G oO lO w_ hw_) (sc1 (row_el (E := eAR) (l := X) (i := k) 0 G oO lO w_ hw_) sc0))) (fun wf_18 hl_18 hx_18 hR_18 => ?_)
   refine SR.m 0 G G G G ?_
   refine SR.m 1 G G G G ?_
   refine SR.m 2 G G G G ?_
   refine SR.m 3 G G G G ?_
   refine SR.z 4 G G (ev_sub G G G (r := (k - 1)) G oO oO) ?_
   refine SR.m 5 G G G G ?_
   refine SR.m 6 G G G G ?_
   refine SR.z 7 G G (ev_sub G G G (r := (k - 1)) G oO oO) ?_
   refine SR.z 8 G G (ev_ix G underlying22 ty54 G G oO oO (fun _ _ => G)) ?_
   refine SR.z 9 G G (ev_lda G G ((At.ofcs 0 G kR)) ty54) ?_
   refine SR.m 10 G G G G ?_
   refine SR.m 11 G G G G ?_
   refine SR.z 12 G G (ev_ix G underlying22 ty54 G G oO oO (fun _ _ => G)) ?_
   refine SR.z 13 G G (ev_lda G G ((At.ofcs 1 G kR)) ty54) ?_
   refine SR.z 14 G G (ev_ix G underlying22 ty54 G G oO oO (fun _ _ => G)) ?_
   refine SR.o 15 G (st_setel (E := eAR) (i := k) (cs := [.int .i64 ((gt X (k - 1)).fr), .int .i64 ((gt X (k - 1)).to), .int .i64 ((gt X (k - 1)).tm), .int .i64 ((gt X (k - 1)).ds)]) (off := 0) (gt X (k - 1)) G G G ty54 G G G G G .h lO lO (Nat.le_of_ble_eq_true G) G ⟨ttc (fun w_ hw_ => (tc2 kR (tc2 kR tc0))), ?_⟩)
   refine SR.z 16 G G (ev_ix G underlying22 ty54 G G oO oO (fun _ _ => G)) ?_
   refine SR.o 17 G (st_setel (E := eAR) (i := (k - 1)) (cs := [.int .i64 ((gt X k).fr), .int .i64 ((gt X k).to), .int .i64 ((gt X k).tm), .int .i64 ((gt X k).ds)]) (off := 0) (gt X k) G G G ty54 G G G G G .h lO lO (Nat.le_of_ble_eq_true G) G ⟨ttc (fun w_ hw_ => (tc2 kR (tc2 kR tc0))), ?_⟩)
   refine SR.fin kR hl_18 hx_18 hR_18 (.c .n) ?_
   refine SQ.go idQ ?_
   refine .region (.m G G G (.v (ev_sub G G G (r := (k - 1)) G oO oO) G (.a G G G ?_)))
   exact SP.nil (SQ.roundb (X := Int × (List AR)) (x := (k, X)) ⟨(k - 1), ((X.set (k).toNat (gt X (k - 1))).set ((k - 1)).toNat (gt X k))⟩ (by (try dsimp only); exact ⟨oO, oO, (dnr_next r_2 oO oO oO oO), (r_3.trans (SegP.swap oO oO oO oO)), (by (try simp only [List.length_set]); omega)⟩) dO (Sub.get (.c4 G G G G (.c4 G G G G .n))) (kp (.d .n)))
  refine .exit idQ ?_
  exact .ret idQ (ret0 results77 (.d .n) ⟨X, r_3, (one_dn (ltA_wo d) oO oO hA oO q_3 (fun q q0 q1 => q_4 q oO q1) (by rw [show i = k from by omega]; exact r_2)), G, G⟩)
 refine .skipgo idQ (.seq ?_)
 have hfd := half_of (h := Int.fdiv (a + b) 2) (x := a + b) rfl oO
 refine .region (.m G G G (.m G G G (.p ((a + b)) oO oO G G G G G ?_)))
 refine .v (ev_cv G underlying3 underlying121 G (wrap_u64_in oO oO)) G (.v (ev_shr (r := (Int.fdiv (a + b) 2)) G G G (by decide) G) G (.v (ev_cv G underlying121 underlying3 G (wrap_in oO oO)) G (.a G G G ?_)))
 refine .go idQ (.seq ?_)
 obtain ⟨z0, hz0_⟩ : ∃ h_, h_ = Int.fdiv (a + b) 2 := ⟨_, rfl⟩
 rw [← hz0_]
 have hz0m := half_of hz0_ oO
 refine .region (.m G G G (.m G G G (.p ((z0 + m)) oO oO G G G G G ?_)))
 refine .a G G G (.go idQ (.seq (.region (.a G G G (.a G G G ?_)))))
 refine .go idQ ?_
 refine SC.seqx (X := Int × Int × Int) (fun ⟨z, lo, hi⟩ => (2 * z ≤ a + b ∧ a + b ≤ 2 * z + 1) ∧ ((m > z ∧ lo = z + m - b ∧ hi = z) ∨ (m ≤ z ∧ lo = a ∧ hi = m))) (fun ⟨z, lo, hi⟩ => ([(0, .slice A n c), (1, .int .i64 a), (2, .int .i64 m), (3, .int .i64 b), (4, .func (.func 53) #[] #[.pointer (some ⟨mb, 0, none⟩)]), (18, .int .i64 z), (19, .int .i64 (z + m)), (20, .int .i64 lo), (21, .int .i64 hi)], [rw_ eAR 54 (.slice A n c) l, cel mb [.func (.func (metF d)) #[] #[]] 56])) S wf (fun ⟨z, lo, hi⟩ hk20 => ?_) (fun key19 => ?_)
 ·
  show SC _ _ _ _ _ ⟨[(0, .slice A n c), (1, .int .i64 a), (2, .int .i64 m), (3, .int .i64 b), (4, .func (.func 53) #[] #[.pointer (some ⟨mb, 0, none⟩)]), (18, .int .i64 z), (19, .int .i64 (z + m)), (20, .int .i64 lo), (21, .int .i64 hi)], [rw_ eAR 54 (.slice A n c) l, cel mb [.func (.func (metF d)) #[] #[]] 56], S, wf⟩
  obtain ⟨j_0, j_1⟩ := hk20
  refine .seq (.region (.m G G G (.v (ev_sub G G G (r := ((z + m) - 1)) G oO oO) G (.a G G G ?_))))
  refine .go idQ (.seq (.block (.loop (X := Int × Int) (fun ⟨s, r⟩ => lo ≤ s ∧ s ≤ r ∧ r ≤ hi ∧ (∀ q : Int, lo ≤ q → q < s → ¬ ltA d (gt l (z + m - 1 - q)) (gt l q)) ∧ (∀ q : Int, r ≤ q → q < hi → ltA d (gt l (z + m - 1 - q)) (gt l q))) (fun ⟨s, r⟩ => [(0, .slice A n c), (1, .int .i64 a), (2, .int .i64 m), (3, .int .i64 b), (4, .func (.func 53) #[] #[.pointer (some ⟨mb, 0, none⟩)]), (18, .int .i64 z), (19, .int .i64 (z + m)), (22, .int .i64 ((z + m) - 1)), (20, .int .i64 s), (21, .int .i64 r)]) (fun ⟨s, r⟩ => [rw_ eAR 54 (.slice A n c) l, cel mb [.func (.func (metF d)) #[] #[]] 56]) (fun _ => S) (fun _ => wf) (fun ⟨s, r⟩ => (r - s).toNat) (fun a_ w_ hs_ hw_ => ⟨⟨lo, hi⟩, (by (try dsimp only); exact ⟨oO, oO, oO, (fun q q0 q1 => absurd q1 oO), (fun q q0 q1 => absurd q1 oO)⟩), hs_.mono (Sub.get (.c4 G G G G (.c4 G G G G (.c G (.c G .n))))), hw_.keep (.d .n)⟩) (fun ⟨s, r⟩ ⟨q_0, q_1, q_2, q_3, q_4⟩ => ?_))))
  try dsimp only
  refine .seq (.seq (.region (.m G G G (.m G G G (.e G G G G G ?_)))))
  refine .go idQ (.condI G bD (fun h21 => ?_) (fun h21 => ?_))
  ·
   refine .skipgo idQ (.block (.seq ?_))
   have hfd := half_of (h := Int.fdiv (s + r) 2) (x := s + r) rfl oO
   refine .region (.m G G G (.m G G G (.p ((s + r)) oO oO G G G G G ?_)))
   refine .v (ev_cv G underlying3 underlying121 G (wrap_u64_in oO oO)) G (.v (ev_shr (r := (Int.fdiv (s + r) 2)) G G G (by decide) G) G (.v (ev_cv G underlying121 underlying3 G (wrap_in oO oO)) G (.a G G G ?_)))
   refine .go idQ (.seq ?_)
   obtain ⟨h, hh_⟩ : ∃ h_, h_ = Int.fdiv (s + r) 2 := ⟨_, rfl⟩
   rw [← hh_]
   have hhm := half_of hh_ oO
   refine SC.draw mo [cel mb [.func (.func (metF d)) #[] #[]] 56] [] (.c (.t .h) .n) (fun _ _ _ => sc0) (fun wf_22 hl_22 hx_22 hR_22 => ?_)
   refine SR.m 0 G G G G ?_
   refine SR.m 1 G G G G ?_
   refine SR.m 2 G G G G ?_
   refine SR.m 3 G G G G ?_
   refine SR.z 4 G G (ev_sub G G G (r := (((z + m) - 1) - h)) G oO oO) ?_
   refine SR.z 5 G G (ev_ix G underlying22 ty54 G G oO oO (fun _ _ => Fr.adr (i := (((z + m) - 1) - h)) (Fr.lent (S := S) hR_22 0 G lO) oO oO)) ?_
   refine SR.z 6 G G (ev_lda G G (At.d (Fr.el (i := (((z + m) - 1) - h)) (Fr.lent (S := S) hR_22 0 G lO) oO oO)) ty54) ?_
   refine SR.m 7 G G G G ?_
   refine SR.m 8 G G G G ?_
   refine SR.z 9 G G (ev_ix G underlying22 ty54 G G oO oO (fun _ _ => Fr.adr (i := h) (Fr.lent (S := S) hR_22 0 G lO) oO oO)) ?_
   refine SR.z 10 G G (ev_lda G G (At.d (Fr.el (i := h) (Fr.lent (S := S) hR_22 0 G lO) oO oO)) ty54) ?_
   refine SR.o 11 G (.viacap (args' := #[.tmp 164, .tmp 168, .const (.pointer (some ⟨mb, 0, none⟩))]) G G (by simp) hbd53 (st_callk G G G G hbd53 G (.c .h .n) (new1_ (gt l (((z + m) - 1) - h)) (gt l h) d mb _ _) ⟨tt0, ?_⟩))
   refine SR.z 12 G G (ev_cmp G G G G) ?_
   refine SR.z 13 G G (ev_not G G) ?_
   refine SR.fin kR hl_22 hx_22 hR_22 (.c .n) ?_
   refine SQ.go idQ ?_
   refine .condI G (bN bD) (fun h23 => ?_) (fun h23 => ?_)
   ·
    refine .region (.m G G G (.p ((h + 1)) oO oO G G G G G (.a G G G ?_)))
    exact SP.nil (SQ.roundb (X := Int × Int) (x := (s, r)) ⟨(h + 1), r⟩ (by (try dsimp only); exact ⟨oO, oO, oO, (cut_lo (ltA_wo d) hA hB oO oO oO oO (fun h_ => h23 (cmpA_lt.2 h_))), q_4⟩) dO (Sub.get (.c4 G G G G (.c4 G G G G (.c G (.c G .n))))) (kp (.c (.t .h) (.c .h .n))))
   refine .region (.m G G G (.a G G G ?_))
   exact SP.nil (SQ.roundb (X := Int × Int) (x := (s, r)) ⟨s, h⟩ (by (try dsimp only); exact ⟨oO, oO, oO, q_3, (cut_hi (ltA_wo d) hA hB oO oO oO oO (cmpA_lt.1 (Classical.not_not.1 h23)))⟩) dO (Sub.get (.c4 G G G G (.c4 G G G G (.c G (.c G .n))))) (kp (.c (.t .h) (.c .h .n))))
  refine .exit idQ ?_
  refine .seq (.region (.m G G G (.m G G G (.v (ev_sub G G G (r := ((z + m) - s)) G oO oO) G ?_))))
  refine .a G G G (.go idQ ?_)
  refine SC.seqx (X := (List AR)) (fun X => X.length = n ∧ SegP a b l X ∧ HalfI (ltA d) X a b z s (z + m - s)) (fun X => ([(0, .slice A n c), (1, .int .i64 a), (2, .int .i64 m), (3, .int .i64 b), (4, .func (.func 53) #[] #[.pointer (some ⟨mb, 0, none⟩)]), (18, .int .i64 z), (19, .int .i64 (z + m)), (20, .int .i64 s), (24, .int .i64 ((z + m) - s))], [rw_ eAR 54 (.slice A n c) X, cel mb [.func (.func (metF d)) #[] #[]] 56])) S wf (fun X hk25 => ?_) (fun key24 => ?_)
  ·
   show SC _ _ _ _ _ ⟨[(0, .slice A n c), (1, .int .i64 a), (2, .int .i64 m), (3, .int .i64 b), (4, .func (.func 53) #[] #[.pointer (some ⟨mb, 0, none⟩)]), (18, .int .i64 z), (19, .int .i64 (z + m)), (20, .int .i64 s), (24, .int .i64 ((z + m) - s))], [rw_ eAR 54 (.slice A n c) X, cel mb [.func (.func (metF d)) #[] #[]] 56], S, wf⟩
   obtain ⟨x_0, x_1, x_2⟩ := hk25
   refine SC.seqx (X := (List AR)) (fun Y => Y.length = n ∧ SegP a b l Y ∧ LeftI (ltA d) Y a b z (z + m - s)) (fun Y => ([(0, .slice A n c), (1, .int .i64 a), (2, .int .i64 m), (3, .int .i64 b), (4, .func (.func 53) #[] #[.pointer (some ⟨mb, 0, none⟩)]), (18, .int .i64 z), (24, .int .i64 ((z + m) - s))], [rw_ eAR 54 (.slice A n c) Y, cel mb [.func (.func (metF d)) #[] #[]] 56])) S wf (fun Y hk27 => ?_) (fun key26 => ?_)
   ·
    show SC _ _ _ _ _ ⟨[(0, .slice A n c), (1, .int .i64 a), (2, .int .i64 m), (3, .int .i64 b), (4, .func (.func 53) #[] #[.pointer (some ⟨mb, 0, none⟩)]), (18, .int .i64 z), (24, .int .i64 ((z + m) - s))], [rw_ eAR 54 (.slice A n c) Y, cel mb [.func (.func (metF d)) #[] #[]] 56], S, wf⟩
    obtain ⟨y_0, y_1, y_2⟩ := hk27
    refine .seq (.region (.m G G G (.m G G G (.e G G G G G ?_))))
    refine .m G G G (.w (fun _ => ev_mv G G) G (.w (fun _ => ev_mv G G) G (.w (fun hb => ev_cmp G (lkg G hb) (lkg G hb) G) G ?_)))
    refine .v (ev_and G G G G) G (.go idQ (.condI G (bA bD bD) (fun h28 => ?_) (fun h28 => ?_)))
    ·
     refine .region (.m G G G (.m G G G (.m G G G ?_)))
     refine .m G G G (.m G G G (.cons (st_call0 G G G G hbd77 G (.d .n) (ih A n c Y z ((z + m) - s) b d mb _ _ lO oO oO oO y_2.p3 y_2.p4) (fun v_q30 C_q30 q30 => ?_))))
     obtain ⟨l229, p31, p32, rfl, rfl⟩ := q30
     show SP _ _ _ _ _ _ ⟨_, _ :: _ :: _, _, _⟩
     exact SP.nil (end0 results77 (.d .n) ⟨l229, (y_1.trans (p31.mono oO oO oO)), (right_do y_2 oO oO p31 p32), G, G⟩)
    exact .skipq idQ (end0 results77 (.d .n) ⟨Y, y_1, (right_no y_2 oO oO h28 oO), G, G⟩)
   refine .seq (.region (.m G G G (.m G G G (.e G G G G G ?_))))
   refine .m G G G (.w (fun _ => ev_mv G G) G (.w (fun _ => ev_mv G G) G (.w (fun hb => ev_cmp G (lkg G hb) (lkg G hb) G) G ?_)))
   refine .v (ev_and G G G G) G (.go idQ (.condI G (bA bD bD) (fun h33 => ?_) (fun h33 => ?_)))
   ·
    refine .region (.m G G G (.m G G G (.m G G G ?_)))
    refine .m G G G (.m G G G (.cons (st_call0 G G G G hbd77 G (.d .n) (ih A n c X a s z d mb _ _ lO oO oO oO x_2.p1 x_2.p2) (fun v_q35 C_q35 q35 => ?_))))
    obtain ⟨l234, p36, p37, rfl, rfl⟩ := q35
    show SP _ _ _ _ _ _ ⟨_, _ :: _ :: _, _, _⟩
    refine .go idQ ?_
    exact SC.weak (key26 l234 ⟨(p36.len.trans x_0), (x_1.trans (p36.mono oO oO oO)), (left_do x_2 oO oO p36 p37)⟩) (Sub.get (.c4 G G G G (.c G (.c G (.c G .n))))) (kp (.d .n))
   refine .skipgo idQ ?_
   exact SC.weak (key26 X ⟨x_0, x_1, (left_no x_2 h33 oO)⟩) (Sub.get (.c4 G G G G (.c G (.c G (.c G .n))))) (kp (.d .n))
  refine .seq ?_
  have hcut : CutI (ltA d) l a m b z s (z + m - s) := cut_mk (ltA_wo d) hA hB oO j_0 j_1 oO rfl q_3 (by rw [show s = r from by omega]; exact q_4)
  have hrg := hcut.rng
  refine .region (.m G G G (.m G G G (.e G G G G G ?_)))
  refine .m G G G (.w (fun _ => ev_mv G G) G (.w (fun _ => ev_mv G G) G (.w (fun hb => ev_cmp G (lkg G hb) (lkg G hb) G) G ?_)))
  refine .v (ev_and G G G G) G (.go idQ (.condI G (bA bD bD) (fun h38 => ?_) (fun h38 => ?_)))
  ·
   refine .region (.m G G G (.m G G G (.m G G G ?_)))
   refine .m G G G (.m G G G (.cons (st_call0 G G G G hbd80 G (.c .h .n) (rotA_ A n c l s m ((z + m) - s) mb _ _ lO oO oO) (fun v_q40 C_q40 q40 => ?_))))
   obtain ⟨l239, p41, p42, rfl, rfl⟩ := q40
   show SP _ _ _ _ _ _ ⟨_, _ :: _, _, _⟩
   refine .go idQ ?_
   exact SC.weak (key24 l239 ⟨(p41.len.trans hn), (p41.mono oO oO oO), (half_rot (ltA_wo d) hA hB oO hcut p41 p42)⟩) (Sub.get (.c4 G G G G (.c4 G G G G (.c G .n)))) (kp (.d .n))
  refine .skipgo idQ ?_
  exact SC.weak (key24 l ⟨hn, SegP.rfl', (half_no (ltA_wo d) hA hB oO hcut h38)⟩) (Sub.get (.c4 G G G G (.c4 G G G G (.c G .n)))) (kp (.d .n))
 refine .seq (.region (.m G G G (.m G G G (.e G G G G G ?_))))
 refine .go idQ (.condI G bD (fun h43 => ?_) (fun h43 => ?_))
 ·
  refine .seq (.region (.m G G G (.m G G G (.v (ev_sub G G G (r := ((z0 + m) - b)) G oO oO) G ?_))))
  refine .a G G G (.go idQ (.region (.m G G G (.a G G G ?_))))
  refine .go idQ ?_
  exact SC.weak (key19 ⟨z0, ((z0 + m) - b), z0⟩ ⟨oO, oO⟩) (Sub.get (.c4 G G G G (.c4 G G G G (.c G .n)))) (kp (.d .n))
 refine .seq (.region (.m G G G (.a G G G (.go idQ (.region ?_)))))
 refine .m G G G (.a G G G (.go idQ ?_))
 exact SC.weak (key19 ⟨z0, a, m⟩ ⟨oO, oO⟩) (Sub.get (.c4 G G G G (.c4 G G G G (.c G .n)))) (kp (.d .n))
end Go.Proofs.Ytpjblnmophcdmaa.Sx
set_option maxRecDepth 20000
set_option maxHeartbeats 8000000
namespace Go.Proofs.Ytpjblnmophcdmaa.Sx.FJ
open Go Go.SX Go.Proofs Go.Proofs.Try FA FB FC FD FE FF FG FH FI
theorem hbd76 : hasBody prog 76 = true := by kernel_rfl
theorem hbd65 : hasBody prog 65 = true := by kernel_rfl
end Go.Proofs.Ytpjblnmophcdmaa.Sx.FJ
namespace Go.Proofs.Ytpjblnmophcdmaa.Sx
open Go Go.SX Go.Proofs Go.Proofs.Try FA FB FC FD FE FF FG FH FI FJ
theorem stbA_ (A : Option Addr) (n : Nat) (c : Nat) (l : List AR) (d : Bool) (mb : Nat) (S : Nat → Prop) (wf : World) (hn : l.length = n) (hb : n ≤ 1000) :
  TR0 prog 65 [.slice A n c, .int .i64 (n : Int), .func (.func 53) #[] #[.pointer (some ⟨mb, 0, none⟩)]] [rw_ eAR 54 (.slice A n c) l, cel mb [.func (.func (metF d)) #[] #[]] 56] S wf (fun v_ C_ => ∃ (l2 : List AR), (l2.Perm l) ∧ (Srd (ltA d) l2 0 n) ∧ v_ = .tuple #[] ∧ C_ = [rw_ eAR 54 (.slice A n c) l2, cel mb [.func (.func (metF d)) #[] #[]] 56]) := by
 refine TR.mk func65 G ntmps65 G G (fun w_ => ?_)
 refine .seq (.region (.a G G G (.go idQ (.seq (.region (.m G G G ?_))))))
 refine .a G G G (.a G G G (.go idQ (.seq (.block (.loop (X := Int × Int × (List AR)) (fun ⟨a, b, X⟩ => b = a + 20 ∧ 0 ≤ a ∧ a ≤ n ∧ F1 (ltA d) X a ∧ X.Perm l ∧ X.length = n) (fun ⟨a, b, X⟩ => [(0, .slice A n c), (1, .int .i64 (n : Int)), (2, .func (.func 53) #[] #[.pointer (some ⟨mb, 0, none⟩)]), (6, .int .i64 20), (7, .int .i64 a), (8, .int .i64 b)]) (fun ⟨a, b, X⟩ => [rw_ eAR 54 (.slice A n c) X, cel mb [.func (.func (metF d)) #[] #[]] 56]) (fun _ => S) (fun _ => wf) (fun ⟨a, b, X⟩ => ((n : Int) - a).toNat) (fun a_ w_ hs_ hw_ => ⟨⟨0, 20, l⟩, (by (try dsimp only); exact ⟨oO, oO, oO, f1_0, (.refl _), hn⟩), hs_.mono (Sub.get (.c4 G G G G (.c G (.c G .n)))), hw_.keep (.d .n)⟩) (fun ⟨a, b, X⟩ ⟨q_0, q_1, q_2, q_3, q_4, q_5⟩ => ?_))))))
 try dsimp only
 refine .seq (.seq (.region (.m G G G (.m G G G (.e G G G G G ?_)))))
 refine .go idQ (.condI G bD (fun h1 => ?_) (fun h1 => ?_))
 ·
  refine .skipgo idQ (.block (.seq (.region (.m G G G (.m G G G (.m G G G ?_))))))
  refine .m G G G (.cons (st_call0 G G G G hbd76 G (.d .n) (insA_ A n c X a b d mb _ _ lO oO oO) (fun v_q3 C_q3 q3 => ?_)))
  obtain ⟨l22, p4, p5, rfl, rfl⟩ := q3
  show SP _ _ _ _ _ _ ⟨_, _ :: _ :: _, _, _⟩
  refine .go idQ (.seq (.region (.m G G G (.a G G G (.go idQ (.region ?_))))))
  refine .m G G G (.m G G G (.p ((b + 20)) oO oO G G G G G (.a G G G ?_)))
  exact SP.nil (SQ.roundb (X := Int × Int × (List AR)) (x := (a, b, X)) ⟨b, (b + 20), l22⟩ (by (try dsimp only); exact ⟨oO, oO, oO, (f1_next q_3 p4 q_0 p5), (p4.pm.trans q_4), (p4.len.trans q_5)⟩) dO (Sub.get (.c4 G G G G (.c G (.c G .n)))) (kp (.d .n)))
 refine .exit idQ ?_
 refine .seq (.region (.m G G G (.m G G G (.m G G G ?_))))
 refine .m G G G (.cons (st_call0 G G G G hbd76 G (.d .n) (insA_ A n c X a (n : Int) d mb _ _ lO oO oO) (fun v_q7 C_q7 q7 => ?_)))
 obtain ⟨l26, p8, p9, rfl, rfl⟩ := q7
 show SP _ _ _ _ _ _ ⟨_, _ :: _ :: _, _, _⟩
 refine .go idQ (.block (.loop (X := Int × (List AR)) (fun ⟨bs, Y⟩ => 20 ≤ bs ∧ bs ≤ 2000 ∧ BS (ltA d) Y n bs ∧ Y.Perm l ∧ Y.length = n) (fun ⟨bs, Y⟩ => [(0, .slice A n c), (1, .int .i64 (n : Int)), (2, .func (.func 53) #[] #[.pointer (some ⟨mb, 0, none⟩)]), (6, .int .i64 bs)]) (fun ⟨bs, Y⟩ => [rw_ eAR 54 (.slice A n c) Y, cel mb [.func (.func (metF d)) #[] #[]] 56]) (fun _ => S) (fun _ => wf) (fun ⟨bs, Y⟩ => (2000 - bs).toNat) (fun a_ w_ hs_ hw_ => ⟨⟨20, l26⟩, (by (try dsimp only); exact ⟨oO, oO, (f1_end (n := n) (ltA_wo d) q_3 oO p8 p9), (p8.pm.trans q_4), (p8.len.trans q_5)⟩), hs_.mono (Sub.get (.c4 G G G G .n)), hw_.keep (.d .n)⟩) (fun ⟨bs, Y⟩ ⟨r_0, r_1, r_2, r_3, r_4⟩ => ?_)))
 try dsimp only
 refine .seq (.seq (.region (.m G G G (.m G G G (.e G G G G G ?_)))))
 refine .go idQ (.condI G bD (fun h10 => ?_) (fun h10 => ?_))
 ·
  refine .skipgo idQ (.block (.seq (.region (.m G G G (.v (ev_mul G G G (r := (2 * bs)) G oO oO) G (.a G G G ?_))))))
  refine .a G G G (.go idQ (.seq (.block (.loop (X := Int × Int × (List AR)) (fun ⟨a2, b2, Z⟩ => b2 = a2 + 2 * bs ∧ a2 ≤ n ∧ Lv (ltA d) Z n bs a2 ∧ Z.Perm l ∧ Z.length = n) (fun ⟨a2, b2, Z⟩ => [(0, .slice A n c), (1, .int .i64 (n : Int)), (2, .func (.func 53) #[] #[.pointer (some ⟨mb, 0, none⟩)]), (6, .int .i64 bs), (7, .int .i64 a2), (8, .int .i64 b2)]) (fun ⟨a2, b2, Z⟩ => [rw_ eAR 54 (.slice A n c) Z, cel mb [.func (.func (metF d)) #[] #[]] 56]) (fun _ => S) (fun _ => wf) (fun ⟨a2, b2, Z⟩ => ((n : Int) - a2).toNat) (fun a_ w_ hs_ hw_ => ⟨⟨0, (2 * bs), Y⟩, (by (try dsimp only); exact ⟨oO, oO, (lv_0 r_2 oO), r_3, r_4⟩), hs_.mono (Sub.get (.c4 G G G G (.c G (.c G .n)))), hw_.keep (.d .n)⟩) (fun ⟨a2, b2, Z⟩ ⟨s_0, s_1, s_2, s_3, s_4⟩ => ?_)))))
  try dsimp only
  refine .seq (.seq (.region (.m G G G (.m G G G (.e G G G G G ?_)))))
  refine .go idQ (.condI G bD (fun h11 => ?_) (fun h11 => ?_))
  ·
   refine .skipgo idQ (.block (.seq ?_))
   have hlu := lv_use s_2 oO
   refine .region (.m G G G (.m G G G (.m G G G ?_)))
   refine .m G G G (.p ((a2 + bs)) oO oO G G G G G (.m G G G (.m G G G ?_)))
   refine .cons (st_call0 G G G G hbd77 G (.d .n) (symA_ (n + 1) A n c Z a2 (a2 + bs) b2 d mb _ _ lO oO oO oO (by have h_ := hlu.2.1; rw [Int.min_eq_left oO] at h_; exact h_) (by have h_ := hlu.2.2; rw [Int.min_eq_left oO] at h_; rw [show b2 = a2 + 2 * bs from by omega]; exact h_)) (fun v_q13 C_q13 q13 => ?_))
   obtain ⟨l212, p14, p15, rfl, rfl⟩ := q13
   show SP _ _ _ _ _ _ ⟨_, _ :: _ :: _, _, _⟩
   refine .go idQ (.seq (.region (.m G G G (.a G G G (.go idQ (.region ?_))))))
   refine .m G G G (.m G G G (.v (ev_mul G G G (r := (2 * bs)) G oO oO) G (.p ((b2 + (2 * bs))) oO oO G G G G G ?_)))
   refine .a G G G ?_
   exact SP.nil (SQ.roundb (X := Int × Int × (List AR)) (x := (a2, b2, Z)) ⟨b2, (b2 + (2 * bs)), l212⟩ (by (try dsimp only); exact ⟨oO, oO, (lv_next s_2 oO s_0 p14 p15), (p14.pm.trans s_3), (p14.len.trans s_4)⟩) dO (Sub.get (.c4 G G G G (.c G (.c G .n)))) (kp (.d .n)))
  refine .exit idQ ?_
  refine .seq (.seq (.region (.m G G G (.m G G G (.p ((a2 + bs)) oO oO G G G G G ?_)))))
  refine .a G G G (.go idQ (.seq ?_))
  have hlw := lv_use s_2 oO
  refine .region (.m G G G (.m G G G (.e G G G G G ?_)))
  refine .go idQ (.condI G bD (fun h16 => ?_) (fun h16 => ?_))
  ·
   refine .region (.m G G G (.m G G G (.m G G G ?_)))
   refine .m G G G (.m G G G (.cons (st_call0 G G G G hbd77 G (.d .n) (symA_ (n + 1) A n c Z a2 (a2 + bs) (n : Int) d mb _ _ lO oO oO oO (by have h_ := hlw.2.1; rw [Int.min_eq_left oO] at h_; exact h_) (by have h_ := hlw.2.2; rw [Int.min_eq_right oO] at h_; exact h_)) (fun v_q18 C_q18 q18 => ?_))))
   obtain ⟨l217, p19, p20, rfl, rfl⟩ := q18
   show SP _ _ _ _ _ _ ⟨_, _ :: _ :: _, _, _⟩
   refine .go idQ (.region (.m G G G (.v (ev_mul G G G (r := (bs * 2)) G oO oO) G (.a G G G ?_))))
   exact SP.nil (SQ.roundb (X := Int × (List AR)) (x := (bs, Y)) ⟨(bs * 2), l217⟩ (by (try dsimp only); exact ⟨oO, oO, (lv_end (ltA_wo d) s_2 oO oO p19 p20), (p19.pm.trans s_3), (p19.len.trans s_4)⟩) dO (Sub.get (.c4 G G G G .n)) (kp (.d .n)))
  refine .skipgo idQ (.region (.m G G G (.v (ev_mul G G G (r := (bs * 2)) G oO oO) G (.a G G G ?_))))
  exact SP.nil (SQ.roundb (X := Int × (List AR)) (x := (bs, Y)) ⟨(bs * 2), Z⟩ (by (try dsimp only); exact ⟨oO, oO, (lv_end (ltA_wo d) s_2 oO oO SegP.rfl' (lv_end0 s_2 oO oO)), s_3, s_4⟩) dO (Sub.get (.c4 G G G G .n)) (kp (.d .n)))
 exact .exitq idQ (end0 results65 (.d .n) ⟨Y, r_3, (bs_all r_2 oO), G, G⟩)
theorem srtA_ (A : Option Addr) (n : Nat) (c : Nat) (l : List AR) (d : Bool) (mb : Nat) (S : Nat → Prop) (wf : World) (hn : l.length = n) (hb : n ≤ 1000) :
  TR0 prog 52 [.slice A n c, .func (.func 53) #[] #[.pointer (some ⟨mb, 0, none⟩)]] [rw_ eAR 54 (.slice A n c) l, cel mb [.func (.func (metF d)) #[] #[]] 56] S wf (fun v_ C_ => ∃ (l2 : List AR), (l2.Perm l) ∧ (Srd (ltA d) l2 0 n) ∧ v_ = .tuple #[] ∧ C_ = [rw_ eAR 54 (.slice A n c) l2, cel mb [.func (.func (metF d)) #[] #[]] 56]) := by
 refine TR.mk func52 G ntmps52 G G (fun w_ => ?_)
 refine .region (.m G G G (.m G G G (.g underlying22 G G G ?_)))
 refine .m G G G (.cons (st_call0 G G G G hbd65 G (.d .n) (stbA_ A n c l d mb _ _ lO oO) (fun v_q2 C_q2 q2 => ?_)))
 obtain ⟨l21, p3, p4, rfl, rfl⟩ := q2
 show SP _ _ _ _ _ _ ⟨_, _ :: _ :: _, _, _⟩
 exact SP.nil (end0 results52 (.d .n) ⟨l21, p3, p4, G, G⟩)
end Go.Proofs.Ytpjblnmophcdmaa.Sx
set_option maxRecDepth 20000
set_option maxHeartbeats 8000000
namespace Go.Proofs.Ytpjblnmophcdmaa.Sx.FK
open Go Go.SX Go.Proofs Go.Proofs.Try FA FB FC FD FE FF FG FH FI FJ
theorem hbd50 : hasBody prog 50 = true := by kernel_rfl
theorem hbd51 : hasBody prog 51 = true := by kernel_rfl
theorem hbd52 : hasBody prog 52 = true := by kernel_rfl
end Go.Proofs.Ytpjblnmophcdmaa.Sx.FK
namespace Go.Proofs.Ytpjblnmophcdmaa.Sx
open Go Go.SX Go.Proofs Go.Proofs.Try FA FB FC FD FE FF FG FH FI FJ FK
theorem new_ (n : Int) (A : Option Addr) (c : Nat) (l : List AR) (d : Bool) (S : Nat → Prop) (wf : World) (hA : Fr eAR S wf A l) (hR : RoadOk n l) :
  TR0 prog 26 [.agg #[.int .i64 n, .slice A l.length c], .func (.func (metF d)) #[] #[]] [] S wf (fun v_ C_ => ∃ (b : Nat) (u : Value) (v : Value) (fi : List Int) (ed : List EG), (GOk n (tabF n d l) fi ed) ∧ (∃ X : List AR, X.Perm l ∧ Srd (ltA d) X 0 (l.length : Int) ∧ ed = (kpA X (l.length : Int)).map (egF d)) ∧ v_ = .tuple #[.pointer (some ⟨b, 0, none⟩), .int .i64 0] ∧ C_ = [cel b [u, v] 106, rw_ eZ 3 (u) fi, rw_ eEG 72 (v) ed]) := by
 have hla := hA.len
 have hnp := hR.pl
 have hnl := hR.len
 refine TR.mk func26 G ntmps26 G G (fun w_ => ?_)
 refine .seq (.region (.cons (st_boxa G G G G G (fun b1 => (.cons (st_box1 G G G G G G (fun b2 => (.a G G G ?_))))))))
 refine .a rfl rfl rfl (.go idQ (.seq (.seq (.region (.v (ev_lda rfl rfl (At.whole 1 rfl) ty24) rfl (.cons (st_call00 rfl rfl rfl rfl hbd50 rfl .n (rdchk_ n A c l _ _ hA) (by intro v C h; obtain ⟨_, _, _, rfl, rfl⟩ := h; rfl) (fun v_q5 q5 => ?_))))))))
 obtain ⟨x3, e4, p6, rfl, -⟩ := q5
 obtain ⟨rfl, -⟩ : e4 = 0 ∧ RoadOk n l := p6.elim id (fun h_ => absurd hR h_.2)
 refine .m G G G (.x G G G G (.x G G G G (.a G G G ?_)))
 refine .a G G G (.go idQ (.seq (.region (.m G G G (.v (ev_cmp (r := false) G G G G) G ?_)))))
 refine .go idQ (.cond_f G (.skipgo idQ (.seq (.region (.f fo24_1 1 G G G G ?_)))))
 refine .l ty22 1 G G G G G (.cons (st_call0 G G G G hbd51 G .n (cloneA A l.length c l _ _ hA G lO) (fun v_q8 C_q8 q8 => ?_)))
 obtain ⟨v7, rfl, rfl⟩ := q8
 show SP _ _ _ _ _ _ ⟨_, _ :: _, _, _⟩
 refine .a G G G (.go idQ (.seq (.region (.m G G G (.v (ev_any (v := .func (.func 53) #[] #[.pointer (some ⟨b2, 0, none⟩)]) G kR (fun _ => by kernel_rfl)) G ?_)))))
 refine .know (row_len 0 G) (fun hv11 => ?_)
 obtain ⟨A9, c10, rfl, hv11_1, hv11_2⟩ := hv11
 unfold maxLen at hv11_2
 refine .cons (st_call0 G G G G hbd52 G (.d .n) (srtA_ A9 l.length c10 l d b2 _ _ lO lO) (fun v_q13 C_q13 q13 => ?_))
 obtain ⟨l212, p14, p15, rfl, rfl⟩ := q13
 show SP _ _ _ _ _ _ ⟨_, _ :: _ :: _, _, _⟩
 obtain ⟨X, hX⟩ : ∃ X, X = l212 := ⟨_, rfl⟩
 subst hX
 have hXl : X.length = l.length := p14.length_eq
 have hXo := arcs_perm hR p14
 refine .go idQ (.seq (.region (.f fo24_0 0 G G G G (.l ty3 2 G G G G G (.p ((n + 1)) oO oO G G G G G ?_)))))
 refine .cons (st_mkints (q := .i64) (n := ((n + 1)).toNat) G G G G underlying27 ai3 G G oO oO G (fun b16 => ?_))
 refine .v (ev_any (v := .agg #[.slice (some ⟨b16, 0, none⟩) (((n + 1)).toNat) (((n + 1)).toNat), .slice none 0 0]) G kR (fun _ => by kernel_rfl)) G (.cons (st_boxa G G G G G (fun b17 => (.a G G G (.go idQ (.seq (.seq (.region ?_))))))))
 refine .m G G G (.g underlying22 G G G (.m G G G (.go idQ (.block ?_))))
 refine SC.nilrow eEG 72 ?_
 refine .loop (X := Int × (List EG) × Value × (List Int)) (fun ⟨i, E, u_E, F⟩ => 0 ≤ i ∧ i ≤ (l.length : Int) ∧ E = (kpA X i).map (egF d) ∧ CntI n F (kpA X i)) (fun ⟨i, E, u_E, F⟩ => [(2, .pointer (some ⟨b1, 0, none⟩)), (3, .pointer (some ⟨b2, 0, none⟩)), (4, .pointer none), (5, .int .i64 0), (8, .slice A9 l.length c10), (9, .pointer (some ⟨b17, 0, none⟩)), (33, .slice A9 l.length c10), (34, .int .i64 (l.length : Int)), (35, .int .i64 i)]) (fun ⟨i, E, u_E, F⟩ => [rw_ eEG 72 (u_E) E, cel b17 [.slice (some ⟨b16, 0, none⟩) (((n + 1)).toNat) (((n + 1)).toNat), u_E] 106, rw_ eZ 3 (.slice (some ⟨b16, 0, none⟩) (((n + 1)).toNat) (((n + 1)).toNat)) F, rw_ eAR 54 (.slice A9 l.length c10) X, cel b2 [.func (.func (metF d)) #[] #[]] 56, cel b1 [.int .i64 n, .slice A l.length c] 24]) (fun _ => S) (fun _ => wf) (fun ⟨i, E, u_E, F⟩ => ((l.length : Int) - i).toNat) (fun a_ w_ hs_ hw_ => ⟨⟨0, ([] : List EG), .slice none 0 0, (List.replicate (((n + 1)).toNat) 0)⟩, (by (try dsimp only); exact ⟨oO, oO, G, (cnt_0 oO)⟩), hs_.mono (Sub.get (.c4 G G G G (.c4 G G G G (.c G .n)))), hw_.keep (.d (.d (.d .n)))⟩) (fun ⟨i, E, u_E, F⟩ ⟨q_0, q_1, q_2, q_3⟩ => ?_)
 try dsimp only
 refine .seq (.region (.e G G G G G (.go idQ (.seq (.condI G bD (fun h18 => ?_) (fun h18 => ?_))))))
 ·
  refine .skipgo idQ (.seq (.block (.seq (.region (.m G G G (.v (ev_ix G underlying22 ty54 G G oO oO (row_adr (i := i) 3 G oO oO)) G (.v (ev_lda G G (row_el (E := eAR) (l := X) (i := i) 3 G oO oO) ty54) G ?_)))))))
  refine .cons (st_alloc G G G G zf54 (fun b19 => ?_))
  refine .a G G G (.cons (st_storea (l' := [.int .i64 ((gt X i).fr), .int .i64 ((gt X i).to), .int .i64 ((gt X i).tm), .int .i64 ((gt X i).ds)]) G G G ty54 G G G .h G G (.go idQ (.seq (.seq ?_)))))
  have hai := hXo i oO oO
  unfold arcOk at hai
  by_cases hc20 : (gt X i).fr = (gt X i).to
  ·
   refine SC.draw mo [] [] .n (fun _ _ _ => sc0) (fun wf_21 hl_21 hx_21 hR_21 => ?_)
   refine SR.z 0 G G (ev_fa G fo54_0 G (r := 0) G) ?_
   refine SR.z 1 G G (ev_ld1 G ty3 G (At.d (At.lent hR_21 0 G G))) ?_
   refine SR.z 2 G G (ev_fa G fo54_1 G (r := 1) G) ?_
   refine SR.z 3 G G (ev_ld1 G ty3 G (At.d (At.lent hR_21 0 G G))) ?_
   refine SR.z 4 G G (ev_cmp (r := true) G G G (kbET hc20)) ?_
   refine SR.m 5 G G G G ?_
   refine SR.gtake (v := undef) 6 G kR kR kR G (fun _ _ _ _ h => h) G G G G G (fun hb => by cases hb) ?_
   refine SR.gtake (v := undef) 7 G kR kR kR G (fun _ _ _ _ h => h) G G G G G (fun hb => by cases hb) ?_
   refine SR.gtake (v := undef) 8 G kR kR kR G (fun _ _ _ _ h => h) G G G G G (fun hb => by cases hb) ?_
   refine SR.utake 9 G kR kR kR G (fun _ _ _ _ h => h) G G G G G ?_
   refine SR.utake 10 G kR kR kR G (fun _ _ _ _ h => h) G G G G G ?_
   refine SR.utake 11 G kR kR kR G (fun _ _ _ _ h => h) G G G G G ?_
   refine SR.utake 12 G kR kR kR G (fun _ _ _ _ h => h) G G G G G ?_
   refine SR.utake 13 G kR kR kR G (fun _ _ _ _ h => h) G G G G G ?_
   refine SR.utake 14 G kR kR kR G (fun _ _ _ _ h => h) G G G G G ?_
   refine SR.utake 15 G kR kR kR G (fun _ _ _ _ h => h) G G G G G ?_
   refine SR.utake 16 G kR kR kR G (fun _ _ _ _ h => h) G G G G G ?_
   refine SR.utake 17 G kR kR kR G (fun _ _ _ _ h => h) G G G G G ?_
   refine SR.gtake (v := undef) 18 G kR kR kR G (fun _ _ _ _ h => h) G G G G G (fun hb => by cases hb) ?_
   refine SR.gtake (v := undef) 19 G kR kR kR G (fun _ _ _ _ h => h) G G G G G (fun hb => by cases hb) ?_
   refine SR.utake 20 G kR kR kR G (fun _ _ _ _ h => h) G G G G G ?_
   refine SR.utake 21 G kR kR kR G (fun _ _ _ _ h => h) G G G G G ?_
   refine SR.utake 22 G kR kR kR G (fun _ _ _ _ h => h) G G G G G ?_
   refine SR.utake 23 G kR kR kR G (fun _ _ _ _ h => h) G G G G G ?_
   refine SR.utake 24 G kR kR kR G (fun _ _ _ _ h => h) G G G G G ?_
   refine SR.utake 25 G kR kR kR G (fun _ _ _ _ h => h) G G G G G ?_
   refine SR.utake 26 G kR kR kR G (fun _ _ _ _ h => h) G G G G G ?_
   refine SR.utake 27 G kR kR kR G (fun _ _ _ _ h => h) G G G G G ?_
   refine SR.utake 28 G kR kR kR G (fun _ _ _ _ h => h) G G G G G ?_
   refine SR.gtake (v := undef) 29 G kR kR kR G (fun _ _ _ _ h => h) G G G G G (fun hb => by cases hb) ?_
   refine SR.z 30 G G (ev_pickt G G G G) ?_
   refine SR.fin kR hl_21 hx_21 hR_21 .n ?_
   refine SQ.go idQ ?_
   refine .cond_t G ?_
   refine .exit idQ ?_
   refine .region (.p ((i + 1)) oO oO G G G G G (.m G G G ?_))
   exact SP.nil (SQ.roundb (X := Int × (List EG) × Value × (List Int)) (x := (i, E, u_E, F)) ⟨(i + 1), E, u_E, F⟩ (by (try dsimp only); exact ⟨oO, oO, (by rw [kp_skip oO (.inl hc20)]; exact q_2), (by rw [kp_skip oO (.inl hc20)]; exact q_3)⟩) dO (Sub.get (.c4 G G G G (.c4 G G G G (.c G .n)))) (kp (.c (.t .h) (.c (.t .h) (.c (.t .h) (.c (.t .h) (.c (.t .h) (.c (.t .h) .n))))))))
  by_cases hc22 : i > 0
  ·
   refine SC.draw mo [] [] .n (fun _ _ _ => sc0) (fun wf_23 hl_23 hx_23 hR_23 => ?_)
   refine SR.z 0 G G (ev_fa G fo54_0 G (r := 0) G) ?_
   refine SR.z 1 G G (ev_ld1 G ty3 G (At.d (At.lent hR_23 0 G G))) ?_
   refine SR.z 2 G G (ev_fa G fo54_1 G (r := 1) G) ?_
   refine SR.z 3 G G (ev_ld1 G ty3 G (At.d (At.lent hR_23 0 G G))) ?_
   refine SR.z 4 G G (ev_cmp (r := false) G G G (kbEF hc20)) ?_
   refine SR.m 5 G G G G ?_
   refine SR.y 6 G G (fun _ => ev_mv G G) ?_
   refine SR.y 7 G G (fun _ => ev_cmp (r := true) G G G (kbDT hc22)) ?_
   refine SR.y 8 G G (fun _ => ev_mv G G) ?_
   refine SR.y 9 G G (fun _ => ev_mv G G) ?_
   refine SR.y 10 G G (fun _ => ev_mv G G) ?_
   refine SR.y 11 G G (fun _ => ev_sub G G G (r := (i - 1)) G oO oO) ?_
   refine SR.y 12 G G (fun _ => ev_ix G underlying22 ty54 G G oO oO (fun _ _ => Fr.adr (i := (i - 1)) (Fr.lent (S := S) hR_23 4 G lO) oO oO)) ?_
   refine SR.y 13 G G (fun _ => ev_fa G fo54_0 G (r := ao A9 + ((i - 1)).toNat * 4) G) ?_
   refine SR.y 14 G G (fun _ => ev_ld1 G ty3 G (At.elem1 (At.d (Fr.el (i := (i - 1)) (Fr.lent (S := S) hR_23 4 G lO) oO oO)) 0 G)) ?_
   refine SR.y 15 G G (fun _ => ev_fa G fo54_0 G (r := 0) G) ?_
   refine SR.y 16 G G (fun _ => ev_ld1 G ty3 G (At.d (At.lent hR_23 0 G G))) ?_
   refine SR.y 17 G G (fun _ => ev_cmp G G G G) ?_
   refine SR.y 18 G G (fun _ => ev_pickt G G G G) ?_
   refine SR.y 19 G G (fun _ => ev_mv G G) ?_
   refine SR.y 20 G G (fun _ => ev_mv G G) ?_
   refine SR.y 21 G G (fun _ => ev_mv G G) ?_
   refine SR.y 22 G G (fun hb => have hp := bT bE hb; ev_sub G (lkg G hb) G (r := (i - 1)) G (by have _h := hp; omega) (by have _h := hp; omega)) ?_
   refine SR.y 23 G G (fun hb => have hp := bT bE hb; ev_ix G underlying22 ty54 (lkg G hb) (lkg G hb) (by have _h := hp; omega) (by have _h := hp; omega) (fun _ _ => Fr.adr (i := (i - 1)) (Fr.lent (S := S) hR_23 4 G lO) (by have _h := hp; omega) (by have _h := hp; omega))) ?_
   refine SR.y 24 G G (fun hb => ev_fa G fo54_1 (lkg G hb) (r := ao A9 + ((i - 1)).toNat * 4 + 1) G) ?_
   refine SR.y 25 G G (fun hb => have hp := bT bE hb; ev_ld1 G ty3 (lkg G hb) (At.elem1 (At.d (Fr.el (i := (i - 1)) (Fr.lent (S := S) hR_23 4 G lO) (by have _h := hp; omega) (by have _h := hp; omega))) 1 G)) ?_
   refine SR.y 26 G G (fun _ => ev_fa G fo54_1 G (r := 1) G) ?_
   refine SR.y 27 G G (fun hb => ev_ld1 G ty3 (lkg G hb) (At.d (At.lent hR_23 0 G G))) ?_
   refine SR.y 28 G G (fun hb => ev_cmp G (lkg G hb) (lkg G hb) G) ?_
   refine SR.y 29 G G (fun _ => ev_and G G G G) ?_
   refine SR.z 30 G G (ev_pickf G G G G) ?_
   refine SR.fin kR hl_23 hx_23 hR_23 .n ?_
   refine SQ.go idQ ?_
   refine .condI G (bA bE bE) (fun h24 => ?_) (fun h24 => ?_)
   ·
    refine .exit idQ ?_
    refine .region (.p ((i + 1)) oO oO G G G G G (.m G G G ?_))
    exact SP.nil (SQ.roundb (X := Int × (List EG) × Value × (List Int)) (x := (i, E, u_E, F)) ⟨(i + 1), E, u_E, F⟩ (by (try dsimp only); exact ⟨oO, oO, (by rw [kp_skip oO (.inr ⟨hc22, h24.1, h24.2⟩)]; exact q_2), (by rw [kp_skip oO (.inr ⟨hc22, h24.1, h24.2⟩)]; exact q_3)⟩) dO (Sub.get (.c4 G G G G (.c4 G G G G (.c G .n)))) (kp (.c (.t .h) (.c (.t .h) (.c (.t .h) (.c (.t .h) (.c (.t .h) (.c (.t .h) .n))))))))
   refine .skipgo idQ (.seq ?_)
   have hkl := kp_len (X := X) (i := i) oO
   have hel : E.length = (kpA X i).length := by rw [q_2, List.length_map]
   refine SC.draw mo [rw_ eEG 72 (u_E) E, cel b17 [.slice (some ⟨b16, 0, none⟩) (((n + 1)).toNat) (((n + 1)).toNat), u_E] 106] [(15, fun w => At w b17 0 [.slice (some ⟨b16, 0, none⟩) (((n + 1)).toNat) (((n + 1)).toNat), u_E])] (.c (.t .h) (.c (.t .h) .n)) (fun w_ _ hw_ => (sc1 (At.whole 1 G w_ hw_) sc0)) (fun wf_25 hl_25 hx_25 hR_25 => ?_)
   refine SR.m 0 G G G G ?_
   refine SR.m 1 G G G G ?_
   refine SR.z 2 G G (ev_nil G G) ?_
   refine SR.z 3 G G (ev_fa G fo106_1 G (r := 1) G) ?_
   refine SR.z 4 G G (ev_ld1 G ty69 G (At.elem1 (v := u_E) (At.ofcs 0 G kR) 1 G)) ?_
   refine SR.z 5 G G (ev_fa G fo54_1 G (r := 1) G) ?_
   refine SR.z 6 G G (ev_ld1 G ty3 G (At.d (At.lent hR_25 0 G G))) ?_
   refine SR.z 7 G G (ev_ld1 G ty56 G (At.d (At.lent hR_25 3 G G))) ?_
   refine SR.z 8 G G (ev_lda (cs := [.int .i64 ((gt X i).fr), .int .i64 ((gt X i).to), .int .i64 ((gt X i).tm), .int .i64 ((gt X i).ds)]) G G (At.d (At.lent hR_25 0 G G)) ty54) ?_
   refine SR.o 9 G (.viafun G G (st_callk G G G G (hbmet d) G .n (wgt_ (gt X i) d _ _) ⟨ttw 1 G, ?_⟩))
   refine SR.z 10 G G (ev_any (v := .agg #[.int .i64 ((gt X i).to), .int .i64 (wgt d (gt X i))]) G kR (fun _ => by kernel_rfl)) ?_
   refine SR.o 11 G (st_lit eEG (e := 72) (l := [(EG.mk ((gt X i).to) (wgt d (gt X i)))]) G G G G kR G G kW (fun b26 => ⟨ttw 2 G, ?_⟩))
   refine SR.o 12 G (st_app (E := eEG) (m := [(EG.mk ((gt X i).to) (wgt d (gt X i)))]) G G G G underlying69 ai72 G G G (.t .h) rO (row_src 0 G) lO G (fun v27 => ⟨ttw 2 G, ?_⟩))
   refine SR.z 13 G G (ev_nil G G) ?_
   refine SR.z 14 G G (ev_fa G fo106_1 G (r := 1) G) ?_
   refine .know (row_len 0 G) (fun hv30 => ?_)
   obtain ⟨A28, c29, rfl, hv30_1, hv30_2⟩ := hv30
   unfold maxLen at hv30_2
   refine SR.o 15 G (st_store1 G G G ty69 G G G (.t2 .h) (.t .h) ⟨ttc (fun w_ hw_ => (tc2 kR tc0)), ?_⟩)
   refine SR.fin kR hl_25 hx_25 hR_25 (.c (.c (.c .n))) ?_
   refine SQ.go idQ ?_
   have hcf := q_3.c (gt X i).fr oO oO
   have hce := cEq_le (kpA X i) (gt X i).fr
   have hkl := kp_len (X := X) (i := i) oO
   have hfl := q_3.len
   refine SC.draw mo [rw_ eZ 3 (.slice (some ⟨b16, 0, none⟩) (((n + 1)).toNat) (((n + 1)).toNat)) F] [(11, fun w => At w (ab (some ⟨b16, 0, none⟩)) (ao (some ⟨b16, 0, none⟩) + ((((gt X i).fr) + 1)).toNat * eZ.sz) (eZ.enc (gt F (((gt X i).fr) + 1))))] (.c (.t4 .h) .n) (fun w_ _ hw_ => (sc1 (row_el (E := eZ) (l := F) (i := (((gt X i).fr) + 1)) 0 G oO lO w_ hw_) sc0)) (fun wf_31 hl_31 hx_31 hR_31 => ?_)
   refine SR.m 0 G G G G ?_
   refine SR.z 1 G G (ev_nil G G) ?_
   refine SR.z 2 G G (ev_fa G fo106_0 G (r := 0) G) ?_
   refine SR.z 3 G G (ev_ld1 G ty27 G (At.d (At.lent hR_31 0 G G))) ?_
   refine SR.z 4 G G (ev_fa G fo54_0 G (r := 0) G) ?_
   refine SR.z 5 G G (ev_ld1 G ty3 G (At.d (At.lent hR_31 3 G G))) ?_
   refine SR.z 6 G G (ev_add G G G (r := (((gt X i).fr) + 1)) G oO oO) ?_
   refine SR.z 7 G G (ev_ix G underlying27 ty3 G G oO oO (fun _ _ => G)) ?_
   refine SR.z 8 G G (ev_ld1 G ty3 G (At.elem1 (At.ofcs 0 G kR) 0 G)) ?_
   refine SR.z 9 G G (ev_add G G G (r := ((gt F (((gt X i).fr) + 1)) + 1)) G oO oO) ?_
   refine SR.z 10 G G (ev_ix G underlying27 ty3 G G oO oO (fun _ _ => G)) ?_
   refine SR.o 11 G (st_setel (E := eZ) (i := (((gt X i).fr) + 1)) (cs := [.int .i64 ((gt F (((gt X i).fr) + 1)) + 1)]) (off := 0) ((gt F (((gt X i).fr) + 1)) + 1) G G G ty3 G G G G G .h lO lO (Nat.le_of_ble_eq_true G) G ⟨ttc (fun w_ hw_ => (tc2 kR tc0)), ?_⟩)
   refine SR.fin kR hl_31 hx_31 hR_31 (.c .n) ?_
   refine SQ.go idQ ?_
   refine .region (.p ((i + 1)) oO oO G G G G G (.m G G G ?_))
   exact SP.nil (SQ.roundb (X := Int × (List EG) × Value × (List Int)) (x := (i, E, u_E, F)) ⟨(i + 1), (E ++ [(EG.mk ((gt X i).to) (wgt d (gt X i)))]), .slice A28 ((E ++ [(EG.mk ((gt X i).to) (wgt d (gt X i)))]).length) c29, (F.set ((((gt X i).fr) + 1)).toNat ((gt F (((gt X i).fr) + 1)) + 1))⟩ (by (try dsimp only); exact ⟨oO, oO, (by rw [kp_keep oO (fun h_ => h_.elim hc20 (fun q_ => h24 ⟨q_.2.1, q_.2.2⟩)), List.map_append, q_2]; rfl), (by rw [kp_keep oO (fun h_ => h_.elim hc20 (fun q_ => h24 ⟨q_.2.1, q_.2.2⟩))]; exact cnt_next q_3 oO)⟩) dO (Sub.get (.c4 G G G G (.c4 G G G G (.c G .n)))) (kp (.c (.t2 .h) (.c (.t .h) (.c .h (.c (.t2 .h) (.c (.t2 .h) (.c (.t2 .h) .n))))))))
  refine SC.draw mo [] [] .n (fun _ _ _ => sc0) (fun wf_32 hl_32 hx_32 hR_32 => ?_)
  refine SR.z 0 G G (ev_fa G fo54_0 G (r := 0) G) ?_
  refine SR.z 1 G G (ev_ld1 G ty3 G (At.d (At.lent hR_32 0 G G))) ?_
  refine SR.z 2 G G (ev_fa G fo54_1 G (r := 1) G) ?_
  refine SR.z 3 G G (ev_ld1 G ty3 G (At.d (At.lent hR_32 0 G G))) ?_
  refine SR.z 4 G G (ev_cmp (r := false) G G G (kbEF hc20)) ?_
  refine SR.m 5 G G G G ?_
  refine SR.y 6 G G (fun _ => ev_mv G G) ?_
  refine SR.y 7 G G (fun _ => ev_cmp (r := false) G G G (kbDF hc22)) ?_
  refine SR.y 8 G G (fun _ => ev_mv G G) ?_
  refine SR.gtake (v := undef) 9 G kR kR kR G (fun _ _ _ _ h => h) G G G G G (fun hb => by cases hb) ?_
  refine SR.gtake (v := undef) 10 G kR kR kR G (fun _ _ _ _ h => h) G G G G G (fun hb => by cases hb) ?_
  refine SR.gtake (v := undef) 11 G kR kR kR G (fun _ _ _ _ h => h) G G G G G (fun hb => by cases hb) ?_
  refine SR.gtake (v := undef) 12 G kR kR kR G (fun _ _ _ _ h => h) G G G G G (fun hb => by cases hb) ?_
  refine SR.gtake (v := undef) 13 G kR kR kR G (fun _ _ _ _ h => h) G G G G G (fun hb => by cases hb) ?_
  refine SR.gtake (v := undef) 14 G kR kR kR G (fun _ _ _ _ h => h) G G G G G (fun hb => by cases hb) ?_
  refine SR.gtake (v := undef) 15 G kR kR kR G (fun _ _ _ _ h => h) G G G G G (fun hb => by cases hb) ?_
  refine SR.gtake (v := undef) 16 G kR kR kR G (fun _ _ _ _ h => h) G G G G G (fun hb => by cases hb) ?_
  refine SR.gtake (v := undef) 17 G kR kR kR G (fun _ _ _ _ h => h) G G G G G (fun hb => by cases hb) ?_
  refine SR.y 18 G G (fun _ => ev_pickf G G G G) ?_
  refine SR.y 19 G G (fun _ => ev_mv G G) ?_
  refine SR.gtake (v := undef) 20 G kR kR kR G (fun _ _ _ _ h => h) G G G G G (fun hb => by cases hb) ?_
  refine SR.gtake (v := undef) 21 G kR kR kR G (fun _ _ _ _ h => h) G G G G G (fun hb => by cases hb) ?_
  refine SR.gtake (v := undef) 22 G kR kR kR G (fun _ _ _ _ h => h) G G G G G (fun hb => by cases hb) ?_
  refine SR.gtake (v := undef) 23 G kR kR kR G (fun _ _ _ _ h => h) G G G G G (fun hb => by cases hb) ?_
  refine SR.gtake (v := undef) 24 G kR kR kR G (fun _ _ _ _ h => h) G G G G G (fun hb => by cases hb) ?_
  refine SR.gtake (v := undef) 25 G kR kR kR G (fun _ _ _ _ h => h) G G G G G (fun hb => by cases hb) ?_
  refine SR.gtake (v := undef) 26 G kR kR kR G (fun _ _ _ _ h => h) G G G G G (fun hb => by cases hb) ?_
  refine SR.gtake (v := undef) 27 G kR kR kR G (fun _ _ _ _ h => h) G G G G G (fun hb => by cases hb) ?_
  refine SR.gtake (v := undef) 28 G kR kR kR G (fun _ _ _ _ h => h) G G G G G (fun hb => by cases hb) ?_
  refine SR.y 29 G G (fun _ => ev_pickf G G G G) ?_
  refine SR.z 30 G G (ev_pickf G G G G) ?_
  refine SR.fin kR hl_32 hx_32 hR_32 .n ?_
  refine SQ.go idQ ?_
  refine .cond_f G ?_
  refine .skipgo idQ (.seq ?_)
  have hkl := kp_len (X := X) (i := i) oO
  have hel : E.length = (kpA X i).length := by rw [q_2, List.length_map]
  refine SC.draw mo [rw_ eEG 72 (u_E) E, cel b17 [.slice (some ⟨b16, 0, none⟩) (((n + 1)).toNat) (((n + 1)).toNat), u_E] 106] [(15, fun w => At w b17 0 [.slice (some ⟨b16, 0, none⟩) (((n + 1)).toNat) (((n + 1)).toNat), u_E])] (.c (.t .h) (.c (.t .h) .n)) (fun w_ _ hw_ => (sc1 (At.whole 1 G w_ hw_) sc0)) (fun wf_33 hl_33 hx_33 hR_33 => ?_)
  refine SR.m 0 G G G G ?_
  refine SR.m 1 G G G G ?_
  refine SR.z 2 G G (ev_nil G G) ?_
  refine SR.z 3 G G (ev_fa G fo106_1 G (r := 1) G) ?_
  refine SR.z 4 G G (ev_ld1 G ty69 G (At.elem1 (v := u_E) (At.ofcs 0 G kR) 1 G)) ?_
  refine SR.z 5 G G (ev_fa G fo54_1 G (r := 1) G) ?_
  refine SR.z 6 G G (ev_ld1 G ty3 G (At.d (At.lent hR_33 0 G G))) ?_
  refine SR.z 7 G G (ev_ld1 G ty56 G (At.d (At.lent hR_33 3 G G))) ?_
  refine SR.z 8 G G (ev_lda (cs := [.int .i64 ((gt X i).fr), .int .i64 ((gt X i).to), .int .i64 ((gt X i).tm), .int .i64 ((gt X i).ds)]) G G (At.d (At.lent hR_33 0 G G)) ty54) ?_
  refine SR.o 9 G (.viafun G G (st_callk G G G G (hbmet d) G .n (wgt_ (gt X i) d _ _) ⟨ttw 1 G, ?_⟩))
  refine SR.z 10 G G (ev_any (v := .agg #[.int .i64 ((gt X i).to), .int .i64 (wgt d (gt X i))]) G kR (fun _ => by kernel_rfl)) ?_
  refine SR.o 11 G (st_lit eEG (e := 72) (l := [(EG.mk ((gt X i).to) (wgt d (gt X i)))]) G G G G kR G G kW (fun b34 => ⟨ttw 2 G, ?_⟩))
  refine SR.o 12 G (st_app (E := eEG) (m := [(EG.mk ((gt X i).to) (wgt d (gt X i)))]) G G G G underlying69 ai72 G G G (.t .h) rO (row_src 0 G) lO G (fun v35 => ⟨ttw 2 G, ?_⟩))
  refine SR.z 13 G G (ev_nil G G) ?_
  refine SR.z 14 G G (ev_fa G fo106_1 G (r := 1) G) ?_
  refine .know (row_len 0 G) (fun hv38 => ?_)
  obtain ⟨A36, c37, rfl, hv38_1, hv38_2⟩ := hv38
  unfold maxLen at hv38_2
  refine SR.o 15 G (st_store1 G G G ty69 G G G (.t2 .h) (.t .h) ⟨ttc (fun w_ hw_ => (tc2 kR tc0)), ?_⟩)
  refine SR.fin kR hl_33 hx_33 hR_33 (.c (.c (.c .n))) ?_
  refine SQ.go idQ ?_
  have hcf := q_3.c (gt X i).fr oO oO
  have hce := cEq_le (kpA X i) (gt X i).fr
  have hkl := kp_len (X := X) (i := i) oO
  have hfl := q_3.len
  refine SC.draw mo [rw_ eZ 3 (.slice (some ⟨b16, 0, none⟩) (((n + 1)).toNat) (((n + 1)).toNat)) F] [(11, fun w => At w (ab (some ⟨b16, 0, none⟩)) (ao (some ⟨b16, 0, none⟩) + ((((gt X i).fr) + 1)).toNat * eZ.sz) (eZ.enc (gt F (((gt X i).fr) + 1))))] (.c (.t4 .h) .n) (fun w_ _ hw_ => (sc1 (row_el (E := eZ) (l := F) (i := (((gt X i).fr) + 1)) 0 G oO lO w_ hw_) sc0)) (fun wf_39 hl_39 hx_39 hR_39 => ?_)
  refine SR.m 0 G G G G ?_
  refine SR.z 1 G G (ev_nil G G) ?_
  refine SR.z 2 G G (ev_fa G fo106_0 G (r := 0) G) ?_
  refine SR.z 3 G G (ev_ld1 G ty27 G (At.d (At.lent hR_39 0 G G))) ?_
  refine SR.z 4 G G (ev_fa G fo54_0 G (r := 0) G) ?_
  refine SR.z 5 G G (ev_ld1 G ty3 G (At.d (At.lent hR_39 3 G G))) ?_
  refine SR.z 6 G G (ev_add G G G (r := (((gt X i).fr) + 1)) G oO oO) ?_
  refine SR.z 7 G G (ev_ix G underlying27 ty3 G G oO oO (fun _ _ => G)) ?_
  refine SR.z 8 G G (ev_ld1 G ty3 G (At.elem1 (At.ofcs 0 G kR) 0 G)) ?_
  refine SR.z 9 G G (ev_add G G G (r := ((gt F (((gt X i).fr) + 1)) + 1)) G oO oO) ?_
  refine SR.z 10 G G (ev_ix G underlying27 ty3 G G oO oO (fun _ _ => G)) ?_
  refine SR.o 11 G (st_setel (E := eZ) (i := (((gt X i).fr) + 1)) (cs := [.int .i64 ((gt F (((gt X i).fr) + 1)) + 1)]) (off := 0) ((gt F (((gt X i).fr) + 1)) + 1) G G G ty3 G G G G G .h lO lO (Nat.le_of_ble_eq_true G) G ⟨ttc (fun w_ hw_ => (tc2 kR tc0)), ?_⟩)
  refine SR.fin kR hl_39 hx_39 hR_39 (.c .n) ?_
  refine SQ.go idQ ?_
  refine .region (.p ((i + 1)) oO oO G G G G G (.m G G G ?_))
  exact SP.nil (SQ.roundb (X := Int × (List EG) × Value × (List Int)) (x := (i, E, u_E, F)) ⟨(i + 1), (E ++ [(EG.mk ((gt X i).to) (wgt d (gt X i)))]), .slice A36 ((E ++ [(EG.mk ((gt X i).to) (wgt d (gt X i)))]).length) c37, (F.set ((((gt X i).fr) + 1)).toNat ((gt F (((gt X i).fr) + 1)) + 1))⟩ (by (try dsimp only); exact ⟨oO, oO, (by rw [kp_keep oO (fun h_ => h_.elim hc20 (fun q_ => hc22 q_.1)), List.map_append, q_2]; rfl), (by rw [kp_keep oO (fun h_ => h_.elim hc20 (fun q_ => hc22 q_.1))]; exact cnt_next q_3 oO)⟩) dO (Sub.get (.c4 G G G G (.c4 G G G G (.c G .n)))) (kp (.c (.t2 .h) (.c (.t .h) (.c .h (.c (.t2 .h) (.c (.t2 .h) (.c (.t2 .h) .n))))))))
 refine .exit idQ ?_
 refine .seq (.seq (.region (.f fo24_0 0 G G G G (.l ty3 5 G G G G G (.m G G G ?_)))))
 refine .go idQ (.block (.loop (X := Int × (List Int)) (fun ⟨j, Gf⟩ => 0 ≤ j ∧ j ≤ n ∧ PreI n Gf (kpA X l.length) j) (fun ⟨j, Gf⟩ => [(2, .pointer (some ⟨b1, 0, none⟩)), (3, .pointer (some ⟨b2, 0, none⟩)), (4, .pointer none), (5, .int .i64 0), (8, .slice A9 l.length c10), (9, .pointer (some ⟨b17, 0, none⟩)), (33, .slice A9 l.length c10), (34, .int .i64 (l.length : Int)), (35, .int .i64 i), (99, .int .i64 n), (100, .int .i64 j)]) (fun ⟨j, Gf⟩ => [rw_ eEG 72 (u_E) E, cel b17 [.slice (some ⟨b16, 0, none⟩) (((n + 1)).toNat) (((n + 1)).toNat), u_E] 106, rw_ eZ 3 (.slice (some ⟨b16, 0, none⟩) (((n + 1)).toNat) (((n + 1)).toNat)) Gf, rw_ eAR 54 (.slice A9 l.length c10) X, cel b2 [.func (.func (metF d)) #[] #[]] 56, cel b1 [.int .i64 n, .slice A l.length c] 24]) (fun _ => S) (fun _ => wf) (fun ⟨j, Gf⟩ => (n - j).toNat) (fun a_ w_ hs_ hw_ => ⟨⟨0, F⟩, (by (try dsimp only); exact ⟨oO, oO, (by have h_ := q_3; rw [show i = (l.length : Int) from by omega] at h_; exact pre_0 h_ (kp_fr hXo oO))⟩), hs_.mono (Sub.get (.c4 G G G G (.c4 G G G G (.c G (.c G (.c G .n)))))), hw_.keep (.d (.d (.d .n)))⟩) (fun ⟨j, Gf⟩ ⟨r_0, r_1, r_2⟩ => ?_)))
 try dsimp only
 refine .seq (.region (.e G G G G G (.go idQ (.seq (.condI G bD (fun h40 => ?_) (fun h40 => ?_))))))
 ·
  refine .skipgo idQ (.seq (.block (.seq (.region (.m G G G (.a G G G (.go idQ ?_)))))))
  have hgl := r_2.len
  have hg1 := r_2.hi (j + 1) oO oO
  have hg0 := r_2.lo j oO oO
  have hge := cEq_le (kpA X l.length) (j + 1 - 1)
  have hgt := cLt_le (kpA X l.length) j
  have hkl := kp_len (X := X) (i := l.length) oO
  refine SC.draw mo [rw_ eZ 3 (.slice (some ⟨b16, 0, none⟩) (((n + 1)).toNat) (((n + 1)).toNat)) Gf] [(17, fun w => At w (ab (some ⟨b16, 0, none⟩)) (ao (some ⟨b16, 0, none⟩) + ((j + 1)).toNat * eZ.sz) (eZ.enc (gt Gf (j + 1)))), (17, fun w => At w (ab (some ⟨b16, 0, none⟩)) (ao (some ⟨b16, 0, none⟩) + (j).toNat * eZ.sz) (eZ.enc (gt Gf j)))] (.c (.t2 .h) .n) (fun w_ _ hw_ => (sc1 (row_el (E := eZ) (l := Gf) (i := (j + 1)) 0 G oO lO w_ hw_) (sc1 (row_el (E := eZ) (l := Gf) (i := j) 0 G oO lO w_ hw_) sc0))) (fun wf_41 hl_41 hx_41 hR_41 => ?_)
  refine SR.m 0 G G G G ?_
  refine SR.z 1 G G (ev_nil G G) ?_
  refine SR.z 2 G G (ev_fa G fo106_0 G (r := 0) G) ?_
  refine SR.z 3 G G (ev_ld1 G ty27 G (At.d (At.lent hR_41 1 G G))) ?_
  refine SR.m 4 G G G G ?_
  refine SR.z 5 G G (ev_add G G G (r := (j + 1)) G oO oO) ?_
  refine SR.z 6 G G (ev_ix G underlying27 ty3 G G oO oO (fun _ _ => G)) ?_
  refine SR.z 7 G G (ev_ld1 G ty3 G (At.elem1 (At.ofcs 0 G kR) 0 G)) ?_
  refine SR.m 8 G G G G ?_
  refine SR.z 9 G G (ev_nil G G) ?_
  refine SR.z 10 G G (ev_fa G fo106_0 G (r := 0) G) ?_
  refine SR.z 11 G G (ev_ld1 G ty27 G (At.d (At.lent hR_41 1 G G))) ?_
  refine SR.m 12 G G G G ?_
  refine SR.z 13 G G (ev_ix G underlying27 ty3 G G oO oO (fun _ _ => G)) ?_
  refine SR.z 14 G G (ev_ld1 G ty3 G (At.elem1 (At.ofcs 1 G kR) 0 G)) ?_
  refine SR.z 15 G G (ev_add G G G (r := ((gt Gf (j + 1)) + (gt Gf j))) G oO oO) ?_
  refine SR.z 16 G G (ev_ix G underlying27 ty3 G G oO oO (fun _ _ => G)) ?_
  refine SR.o 17 G (st_setel (E := eZ) (i := (j + 1)) (cs := [.int .i64 ((gt Gf (j + 1)) + (gt Gf j))]) (off := 0) ((gt Gf (j + 1)) + (gt Gf j)) G G G ty3 G G G G G .h lO lO (Nat.le_of_ble_eq_true G) G ⟨ttc (fun w_ hw_ => (tc2 kR (tc2 kR tc0))), ?_⟩)
  refine SR.fin kR hl_41 hx_41 hR_41 (.c .n) ?_
  refine SQ.go idQ ?_
  refine .region (.p ((j + 1)) oO oO G G G G G (.m G G G ?_))
  exact SP.nil (SQ.roundb (X := Int × (List Int)) (x := (j, Gf)) ⟨(j + 1), (Gf.set ((j + 1)).toNat ((gt Gf (j + 1)) + (gt Gf j)))⟩ (by (try dsimp only); exact ⟨oO, oO, (pre_next r_2 oO oO)⟩) dO (Sub.get (.c4 G G G G (.c4 G G G G (.c G (.c G (.c G .n)))))) (kp (.c (.t .h) (.c (.t .h) (.d (.d .n))))))
 refine .exit idQ ?_
 refine .seq (.region (.m G G G (.a G G G (.a G G G ?_))))
 refine .go idQ (.ret idQ (ret2 results26 G G (.c (.t .h) (.c (.t .h) (.c .h .n))) ⟨b17, .slice (some ⟨b16, 0, none⟩) (((n + 1)).toNat) (((n + 1)).toNat), u_E, Gf, E, (graph_mk hR p14 p15 (by have h_ := r_2; rw [show j = n from by omega] at h_; exact h_) (by have h_ := q_2; rw [show i = (l.length : Int) from by omega] at h_; exact h_)), ⟨X, p14, p15, by have h_ := q_2; rw [show i = (l.length : Int) from by omega] at h_; exact h_⟩, G, G⟩))
theorem newbad_ (n : Int) (A : Option Addr) (c : Nat) (l : List AR) (d : Bool) (S : Nat → Prop) (wf : World) (hA : Fr eAR S wf A l) (hR : ¬ RoadOk n l) :
  TR0 prog 26 [.agg #[.int .i64 n, .slice A l.length c], .func (.func (metF d)) #[] #[]] [] S wf (fun v_ C_ => ∃ (e : Int), (e ≠ 0) ∧ v_ = .tuple #[.pointer none, .int .i64 e] ∧ C_ = []) := by
 have hla := hA.len
 refine TR.mk func26 G ntmps26 G G (fun w_ => ?_)
 refine .seq (.region (.cons (st_boxa G G G G G (fun b1 => (.cons (st_box1 G G G G G G (fun b2 => (.a G G G ?_))))))))
 refine .a rfl rfl rfl (.go idQ (.seq (.seq (.region (.v (ev_lda rfl rfl (At.whole 1 rfl) ty24) rfl (.cons (st_call00 rfl rfl rfl rfl hbd50 rfl .n (rdchk_ n A c l _ _ hA) (by intro v C h; obtain ⟨_, _, _, rfl, rfl⟩ := h; rfl) (fun v_q5 q5 => ?_))))))))
 obtain ⟨x3, e4, p6, rfl, -⟩ := q5
 have hbad : e4 ≠ 0 := p6.elim (fun h_ => absurd h_.2 hR) (fun h_ => h_.1)
 refine .m G G G (.x G G G G (.x G G G G (.a G G G ?_)))
 refine .a G G G (.go idQ (.seq (.region (.m G G G (.e G G G G G ?_)))))
 refine .go idQ (.condI G bNE (fun h7 => ?_) (fun h7 => ?_))
 ·
  refine .seq (.region (.m G G G (.a G G G (.a G G G ?_))))
  refine .go idQ (.ret idQ (ret2 results26 G G .n ⟨e4, hbad, G, G⟩))
 exfalso; omega
end Go.Proofs.Ytpjblnmophcdmaa.Sx
set_option maxRecDepth 20000
set_option maxHeartbeats 8000000
namespace Go.Proofs.Ytpjblnmophcdmaa.Sx.FL
open Go Go.SX Go.Proofs Go.Proofs.Try FA FB FC FD FE FF FG FH FI FJ FK
theorem hbd78 : hasBody prog 78 = true := by kernel_rfl
end Go.Proofs.Ytpjblnmophcdmaa.Sx.FL
namespace Go.Proofs.Ytpjblnmophcdmaa.Sx
open Go Go.SX Go.Proofs Go.Proofs.Try FA FB FC FD FE FF FG FH FI FJ FK FL
theorem sorted_ (b : Nat) (m : List (Int × Int)) (S : Nat → Prop) (wf : World) (hm : FzM S wf b m) (hn : (m.map Prod.fst).Nodup) (hl : (m.length : Int) ≤ 1000) :
  TR0 prog 70 [.map (some b)] [] S wf (fun v_ C_ => ∃ (u : Value), v_ = u ∧ C_ = [rw_ eZ 3 (u) (srtK m)]) := by
 refine TR.mk func70 G ntmps70 G G (fun w_ => ?_)
 refine .seq (.region (.a G G G (.go idQ (.seq (.region (.a G G G ?_))))))
 refine .go idQ (.seq (.seq (.region (.m G G G (.cons (st_rangeF hm G G G G underlying68 G (fun r1 => (.go idQ (.block ?_)))))))))
 refine SC.nilrow eZ 3 ?_
 refine .loop (X := (List (Int × Int)) × (Option (Int × Int)) × (List Int) × Value) (fun ⟨Lf, cu_Lf, X, u_X⟩ => (X ++ Lf.map Prod.fst).Perm (m.map Prod.fst) ∧ (Lf.map Prod.fst).Nodup) (fun ⟨Lf, cu_Lf, X, u_X⟩ => [(2, .slice none 0 0), (6, .pointer (some ⟨r1, 0, none⟩)), (3, u_X)]) (fun ⟨Lf, cu_Lf, X, u_X⟩ => [rw_ eZ 3 (u_X) X, itM r1 b wf m Lf cu_Lf]) (fun _ => S) (fun _ => wf) (fun ⟨Lf, cu_Lf, X, u_X⟩ => Lf.length) (fun a_ w_ hs_ hw_ => ⟨⟨m, none, ([] : List Int), .slice none 0 0⟩, (by (try dsimp only); exact ⟨(.refl _), hn⟩), hs_.mono (Sub.get (.c G (.c G (.c G .n)))), hw_.keep (.d .n)⟩) (fun ⟨Lf, cu_Lf, X, u_X⟩ ⟨q_0, q_1⟩ => ?_)
 try dsimp only
 have hxl := q_0.length_eq
 simp only [List.length_append, List.length_map] at hxl
 refine .seq (.region (.cons (st_nextF hm G G G G G (.t .h) (fun hz2 => ?_) (fun x3 v4 hl5 hm6 => ?_))))
 ·
  refine .x G G G G (.go idQ (.seq (.cond_f G (.exit idQ ?_))))
  refine .seq (.region (.m G G G (.know (row_len 1 G) (fun hv9 => ?_))))
  obtain ⟨A7, c8, rfl, hv9_1, hv9_2⟩ := hv9
  unfold maxLen at hv9_2
  refine .cons (st_call0 G G G G hbd78 G (.c (.t .h) .n) (sortZ_ A7 X.length c8 X _ _ lO lO) (fun v_q10 C_q10 q10 => ?_))
  obtain ⟨rfl, rfl⟩ := q10
  show SP _ _ _ _ _ _ ⟨_, _ :: _, _, _⟩
  refine .go idQ (.seq (.region (.m G G G (.a G G G (.go idQ ?_)))))
  exact .ret idQ (ret1 results70 G (.c .h .n) ⟨.slice A7 X.length c8, G, (by have h_ := q_0; rw [hz2, List.map_nil, List.append_nil] at h_; rw [srtL_of h_]; rfl)⟩)
 refine .x G G G G (.go idQ (.seq (.cond_t G (.skipgo idQ (.block (.seq (.region ?_)))))))
 refine .v (ev_entryF (x := x3) (v := v4) hm G G 0 G) G (.x G G G G (.a G G G (.go idQ (.region ?_))))
 refine .m G G G (.m G G G (.cons (st_lit eZ (e := 3) (l := [x3]) G G G G kR G G kW (fun b11 => (.cons (st_app (E := eZ) (m := [x3]) G G G G underlying27 ai3 G G G (.t2 .h) rO (row_src 0 G) lO G (fun v12 => ?_)))))))
 refine .a G G G ?_
 exact SP.nil (SQ.roundb (X := (List (Int × Int)) × (Option (Int × Int)) × (List Int) × Value) (x := (Lf, cu_Lf, X, u_X)) ⟨(Lf.filter (fun p => decide (p.1 ≠ x3))), (some (x3, v4)), (X ++ [x3]), v12⟩ (by (try dsimp only); exact ⟨(keys_step q_0 q_1 hl5), (rng_nd q_1)⟩) (mfilter_lt hl5) (Sub.get (.c G (.c G (.c G .n)))) (kp (.c .h (.c (.t .h) .n))))
end Go.Proofs.Ytpjblnmophcdmaa.Sx
set_option maxRecDepth 20000
set_option maxHeartbeats 8000000
namespace Go.Proofs.Ytpjblnmophcdmaa.Sx.FM
open Go Go.SX Go.Proofs Go.Proofs.Try FA FB FC FD FE FF FG FH FI FJ FK FL
theorem hbd32 : hasBody prog 32 = true := by kernel_rfl
theorem hbd33 : hasBody prog 33 = true := by kernel_rfl
theorem hbd61 : hasBody prog 61 = true := by kernel_rfl
theorem fo67_0 : fo prog 67 0 = some 0 := by kernel_rfl
theorem ty65 : ty prog 65 = some (false, 1) := by kernel_rfl
theorem fo67_3 : fo prog 67 3 = some 3 := by kernel_rfl
theorem ty64 : ty prog 64 = some (false, 1) := by kernel_rfl
theorem ty4 : ty prog 4 = some (false, 1) := by kernel_rfl
theorem fo67_2 : fo prog 67 2 = some 2 := by kernel_rfl
theorem ty41 : ty prog 41 = some (false, 1) := by kernel_rfl
theorem ty44 : ty prog 44 = some (true, 4) := by kernel_rfl
theorem fo44_2 : fo prog 44 2 = some 2 := by kernel_rfl
end Go.Proofs.Ytpjblnmophcdmaa.Sx.FM
namespace Go.Proofs.Ytpjblnmophcdmaa.Sx
open Go Go.SX Go.Proofs Go.Proofs.Try FA FB FC FD FE FF FG FH FI FJ FK FL FM
theorem arnd_ (n : Int) (wb : Nat) (oA : Option Addr) (on : Nat) (oc : Nat) (MO : List MB) (iA : Option Addr) (ik : Nat) (ic : Nat) (MI : List MB) (kA : Option Addr) (kn : Nat) (kc : Nat) (K : List LK) (gA : Option Addr) (gn : Nat) (gc : Nat) (g : List Bool) (fr : Int) (but : Int) (S : Nat → Prop) (wf : World) (hO : Fr eMB S wf oA MO) (hI : Fr eMB S wf iA MI) (hK : Fr eLK S wf kA K) (hg : Fr eB S wf gA g) (hMO : MPF S wf MO) (hMI : MPF S wf MI) (hG : GOK n (GS.mk (mmL MO) (mmL MI) K g)) (hls : MO.length = on ∧ MI.length = ik ∧ K.length = kn ∧ g.length = gn) (hfr : 0 ≤ fr ∧ fr < n) :
  TR0 prog 71 [.pointer (some ⟨wb, 0, none⟩), .int .i64 fr, .int .i64 but] [cel wb [.slice oA on oc, .slice iA ik ic, .slice kA kn kc, .slice gA gn gc] 67] S wf (fun v_ C_ => ∃ (b : Nat) (M : List (Int × Int)), (mo M = arR (GS.mk (mmL MO) (mmL MI) K g) fr but) ∧ v_ = .map (some b) ∧ C_ = [cel wb [.slice oA on oc, .slice iA ik ic, .slice kA kn kc, .slice gA gn gc] 67, mp keZ.f (.int .i64) b M]) := by
 have hGn := hG.n1
 have hGo : (MO.length : Int) = n := by rw [← mmL_len (l := MO)]; exact hG.lo
 have hGi : (MI.length : Int) = n := by rw [← mmL_len (l := MI)]; exact hG.li
 have hGg : (g.length : Int) = n := hG.lg
 have hKl := hK.len
 refine TR.mk func71 G ntmps71 G G (fun w_ => ?_)
 refine .seq (.region (.a G G G (.go idQ (.seq (.region (.cons (st_mkmap (α := Int) (β := Int) keZ.f (.int .i64) G G G G (fun b1 => ?_))))))))
 refine .a G G G (.go idQ (.seq (.region (.cons (st_call0 G G G G hbd32 G .n (qnew_ _ _) (fun v_q4 C_q4 q4 => ?_))))))
 obtain ⟨b2, pb3, rfl, rfl⟩ := q4
 show SP _ _ _ _ _ _ ⟨_, _ :: _ :: _, _, _⟩
 refine .a G G G (.go idQ (.seq ?_))
 refine SC.nilrow eEN 115 ?_
 refine .region (.m G G G (.m G G G (.cons (st_call0 G G G G hbd33 G (.c (.t .h) (.d .n)) (qput_ b2 none 0 0 ([] : List EN) pb3 [] fr 0 _ _ G oO QQ.nil) (fun v_q9 C_q9 q9 => ?_)))))
 obtain ⟨u5, r6, l27, m28, p10, p11, p12, rfl, rfl⟩ := q9
 show SP _ _ _ _ _ _ ⟨_, _ :: _ :: _ :: _, _, _⟩
 refine .go idQ (.seq (.block (.loop (X := (List EN) × Value × (List (Int × Int)) × (List (Int × Int))) (fun ⟨X, u_X, qm, M⟩ => ArI n (GS.mk (mmL MO) (mmL MI) K g) fr but X qm M ∧ True) (fun ⟨X, u_X, qm, M⟩ => [(0, .pointer (some ⟨wb, 0, none⟩)), (2, .int .i64 but), (6, .map none), (7, .map (some b1)), (8, .pointer (some ⟨b2, 0, none⟩))]) (fun ⟨X, u_X, qm, M⟩ => [cel b2 [u_X, .map (some pb3)] 113, rw_ eEN 115 (u_X) X, mp keZ.f (.int .i64) pb3 qm, mp keZ.f (.int .i64) b1 M, cel wb [.slice oA on oc, .slice iA ik ic, .slice kA kn kc, .slice gA gn gc] 67]) (fun _ => S) (fun _ => wf) (fun ⟨X, u_X, qm, M⟩ => (n - M.length).toNat) (fun a_ w_ hs_ hw_ => ⟨⟨l27, u5, m28, ([] : List (Int × Int))⟩, (by (try dsimp only); exact ⟨(ar_0 p10 p11 hfr), trivial⟩), hs_.mono (Sub.get (.c4 G G G G (.c G .n))), hw_.keep (.d (.d (.c .h .n)))⟩) (fun ⟨X, u_X, qm, M⟩ ⟨q_0, q_1⟩ => ?_))))
 try dsimp only
 have hal := q_0.len oO
 refine .seq (.seq (.region (.m G G G (.know (row_len 1 G) (fun hv15 => ?_)))))
 obtain ⟨A13, c14, rfl, hv15_1, hv15_2⟩ := hv15
 unfold maxLen at hv15_2
 refine .cons (st_callk G G G G hbd57 G (.d (.c .h .n)) (qlen_ b2 A13 X.length c14 X pb3 qm _ _ lO) ?_)
 refine .e G G G G G (.go idQ (.condI G bD (fun h16 => ?_) (fun h16 => ?_)))
 ·
  refine .skipgo idQ (.block (.seq (.region (.m G G G (.cons (st_call0 G G G G hbd61 G (.d (.c .h .n)) (qtake_ b2 A13 X.length c14 X pb3 qm _ _ lO lO lO q_0.qq) (fun v_q21 C_q21 q21 => ?_)))))))
  obtain ⟨x17, d18, l219, m220, p22, p23, p24, p25, rfl, rfl⟩ := q21
  show SP _ _ _ _ _ _ ⟨_, _ :: _ :: _ :: _, _, _⟩
  obtain ⟨hnp, hpr, hJ⟩ := arj_0 q_0 p22 p23 p24
  obtain ⟨p, hp_⟩ : ∃ p, p = x17 := ⟨_, rfl⟩
  subst hp_
  obtain ⟨d, hd_⟩ : ∃ d, d = d18 := ⟨_, rfl⟩
  subst hd_
  refine .m G G G (.x G G G G (.x G G G G (.x G G G G ?_)))
  refine .a G G G (.a G G G (.a G G G (.go idQ (.seq (.region ?_)))))
  refine .m G G G (.m G G G (.m G G G (.cons (st_mapSet keZ (u := undef) (x := p) (v := d) G G G underlying68 G G G (.t2 (.t .h)) ?_))))
  refine .go idQ (.seq (.region (.m G G G (.v (ev_nil G G) G (.f fo67_0 0 G G G G ?_)))))
  refine .l ty65 4 G G G G G (.m G G G (.v (ev_ix G underlying65 ty68 G G oO oO (fun _ _ => Fr.adr (i := p) hO oO oO)) G (.v (ev_ld1 G ty68 G (At.elem1 (At.w (Fr.el (i := p) hO oO oO)) 0 G)) G ?_)))
  refine .cons (st_rangeF (hMO p oO oO) G G G G underlying68 G (fun r26 => ?_))
  refine .go idQ (.block (.loop (X := (List (Int × Int)) × (Option (Int × Int)) × (List EN) × Value × (List (Int × Int))) (fun ⟨Lf, cu_Lf, Y, u_Y, ym⟩ => ArJ n (GS.mk (mmL MO) (mmL MI) K g) fr but p d (kq l219) Y ym (mset M p d) Lf ∧ True) (fun ⟨Lf, cu_Lf, Y, u_Y, ym⟩ => [(0, .pointer (some ⟨wb, 0, none⟩)), (2, .int .i64 but), (6, .map none), (7, .map (some b1)), (8, .pointer (some ⟨b2, 0, none⟩)), (10, .int .i64 d), (40, .pointer (some ⟨r26, 0, none⟩))]) (fun ⟨Lf, cu_Lf, Y, u_Y, ym⟩ => [itM r26 ((gt MO p).mb) wf ((gt MO p).mm) Lf cu_Lf, mp keZ.f (.int .i64) b1 (mset M p d), cel b2 [u_Y, .map (some pb3)] 113, rw_ eEN 115 (u_Y) Y, mp keZ.f (.int .i64) pb3 ym, cel wb [.slice oA on oc, .slice iA ik ic, .slice kA kn kc, .slice gA gn gc] 67]) (fun _ => S) (fun _ => wf) (fun ⟨Lf, cu_Lf, Y, u_Y, ym⟩ => Lf.length) (fun a_ w_ hs_ hw_ => ⟨⟨(gt MO p).mm, none, l219, .slice A13 (X.length - 1) c14, m220⟩, (by (try dsimp only); exact ⟨(by have h_ := hJ; simp only [gt_mmL] at h_; exact h_), trivial⟩), hs_.mono (Sub.get (.c4 G G G G (.c G (.c G (.c G .n))))), hw_.keep (.d (.d (.d .n)))⟩) (fun ⟨Lf, cu_Lf, Y, u_Y, ym⟩ ⟨r_0, r_1⟩ => ?_)))
  try dsimp only
  refine .seq (.region (.cons (st_nextF (hMO p oO oO) G G G G G .h (fun hz27 => ?_) (fun x28 v29 hl30 hm31 => ?_))))
  ·
   refine .x G G G G (.go idQ (.seq (.cond_f G (.exitq idQ (SQ.roundb (X := (List EN) × Value × (List (Int × Int)) × (List (Int × Int))) (x := (X, (.slice A13 X.length c14), qm, M)) ⟨Y, u_Y, ym, (mset M p d)⟩ (by (try dsimp only); exact ⟨(by have h_ := r_0; rw [hz27] at h_; exact arj_end h_ hG), trivial⟩) (by dsimp only; have h_ := mset_len (v := d) hnp; have h2_ := keys_le r_0.nd r_0.rg oO; omega) (Sub.get (.c4 G G G G (.c G .n))) (kp (.c (.t2 .h) (.c (.t2 .h) (.c (.t2 .h) (.c (.t .h) (.c (.t .h) .n)))))))))))
  refine .x G G G G (.go idQ (.seq (.cond_t G (.skipgo idQ (.block (.seq (.region ?_)))))))
  refine .v (ev_entryF (x := x28) (v := v29) (hMO p oO oO) G G 0 G) G (.x G G G G (.x G G G G (.a G G G ?_)))
  refine .a G G G (.go idQ (.seq ?_))
  have hxo := om_mb hG hm31
  have hlk := hG.lk v29 hxo.2.2.2.2.1 hxo.2.2.2.2.2
  have hlw : 0 ≤ (gt K v29).lw ∧ (gt K v29).lw ≤ 10000000000000000 := ⟨hlk.2.2.2.2.1, hlk.2.2.2.2.2⟩
  have hdd := r_0.dd
  have hml := r_0.ml
  have hmn := mset_len (v := d) hnp
  have hyb := arj_bd r_0 hG
  have hyl := kq_len r_0.qq.qi (fun x_ k_ hk_ => ⟨(hyb x_ k_ hk_).1, (hyb x_ k_ hk_).2.1⟩) oO
  refine .region (.m G G G (.m G G G (.v (ev_lkpok keZ (m := (mset M p d)) (x := x28) (z := 0) G underlying68 zv3 G G 1 G) G ?_)))
  refine .m G G G (.x G G G G (.x G G G G (.a G G G ?_)))
  refine .a G G G (.go idQ (.seq (.region (.m G G G (.v (ev_not G G) G ?_)))))
  refine .m G G G (.w (fun _ => ev_mv G G) G (.w (fun hb => ev_nil G (lkg G hb)) G (.w (fun hb => ev_fa G fo67_3 (lkg G hb) (r := 3) G) G ?_)))
  refine .w (fun hb => ev_ld1 G ty64 (lkg G hb) (At.own1 5 G G)) G (.w (fun _ => ev_mv G G) G (.w (fun hb => have hp := bT (bN bV) hb; ev_ix G underlying64 ty4 (lkg G hb) (lkg G hb) (by have _h := hp; omega) (by have _h := hp; omega) (fun _ _ => Fr.adr (i := x28) hg (by have _h := hp; omega) (by have _h := hp; omega))) G (.w (fun hb => have hp := bT (bN bV) hb; ev_ld1 G ty4 (lkg G hb) (At.elem1 (At.w (Fr.el (i := x28) hg (by have _h := hp; omega) (by have _h := hp; omega))) 0 G)) G ?_)))
  refine .w (fun hb => ev_not G (lkg G hb)) G (.v (ev_and G G G G) G (.m G G G (.w (fun _ => ev_mv G G) G ?_)))
  refine .w (fun _ => ev_mv G G) G (.w (fun hb => ev_cmp G (lkg G hb) (lkg G hb) G) G (.v (ev_and G G G G) G (.go idQ ?_)))
  refine .condI G (bA (bA (bN bV) (bN bV)) bNE) (fun h32 => ?_) (fun h32 => ?_)
  ·
   refine .region (.m G G G (.m G G G (.m G G G ?_)))
   refine .m G G G (.v (ev_nil G G) G (.f fo67_2 2 G G G G (.l ty41 5 G G G G G ?_)))
   refine .m G G G (.v (ev_ix G underlying41 ty44 G G oO oO (fun _ _ => Fr.adr (i := v29) hK oO oO)) G (.f fo44_2 (ao kA + (v29).toNat * 4 + 2) G G G G (.v (ev_ld1 G ty3 G (At.elem1 (At.w (Fr.el (i := v29) hK oO oO)) 2 G)) G ?_)))
   refine .p ((d + ((gt K v29).lw))) oO oO G G G G G (.know (row_len 3 G) (fun hv35 => ?_))
   obtain ⟨A33, c34, rfl, hv35_1, hv35_2⟩ := hv35
   unfold maxLen at hv35_2
   refine .cons (st_call0 G G G G hbd33 G (.c (.t2 .h) (.c (.t2 .h) (.c (.t2 .h) .n))) (qput_ b2 A33 Y.length c34 Y pb3 ym x28 (d + ((gt K v29).lw)) _ _ G lO r_0.qq) (fun v_q40 C_q40 q40 => ?_))
   obtain ⟨u36, r37, l238, m239, p41, p42, p43, rfl, rfl⟩ := q40
   show SP _ _ _ _ _ _ ⟨_, _ :: _ :: _ :: _, _, _⟩
   exact SP.nil (SQ.roundb (X := (List (Int × Int)) × (Option (Int × Int)) × (List EN) × Value × (List (Int × Int))) (x := (Lf, cu_Lf, Y, (.slice A33 Y.length c34), ym)) ⟨(Lf.filter (fun p => decide (p.1 ≠ x28))), (some (x28, v29)), l238, u36, m239⟩ (by (try dsimp only); exact ⟨(arj_yes r_0 hl30 (rc_yes hxo.1 h32) p41 (by rw [p42, wG_mb, hxo.2.1])), trivial⟩) (mfilter_lt hl30) (Sub.get (.c4 G G G G (.c G (.c G (.c G .n))))) (kp (.c (.t2 (.t .h)) (.c (.t2 (.t .h)) (.d (.d .n))))))
  exact .skip (SQ.roundb (X := (List (Int × Int)) × (Option (Int × Int)) × (List EN) × Value × (List (Int × Int))) (x := (Lf, cu_Lf, Y, u_Y, ym)) ⟨(Lf.filter (fun p => decide (p.1 ≠ x28))), (some (x28, v29)), Y, u_Y, ym⟩ (by (try dsimp only); exact ⟨(arj_no r_0 hl30 (rc_no h32)), trivial⟩) (mfilter_lt hl30) (Sub.get (.c4 G G G G (.c G (.c G (.c G .n))))) (kp (.d (.d (.d .n)))))
 refine .exit idQ ?_
 refine .seq (.region (.m G G G (.a G G G (.go idQ ?_))))
 exact .ret idQ (ret1 results71 G (.c (.t4 .h) (.c (.t2 (.t .h)) .n)) ⟨b1, M, (ar_end q_0 oO).symm, G, G⟩)
end Go.Proofs.Ytpjblnmophcdmaa.Sx
set_option maxRecDepth 20000
set_option maxHeartbeats 8000000
namespace Go.Proofs.Ytpjblnmophcdmaa.Sx.FN
open Go Go.SX Go.Proofs Go.Proofs.Try FA FB FC FD FE FF FG FH FI FJ FK FL FM
theorem fo67_1 : fo prog 67 1 = some 1 := by kernel_rfl
theorem hbd70 : hasBody prog 70 = true := by kernel_rfl
theorem hbd71 : hasBody prog 71 = true := by kernel_rfl
theorem ai44 : (prog.info? 44).map (fun i => (i.zero, i.size, i.bytes)) = some (some (.agg #[.int .i64 0, .int .i64 0, .int .i64 0, .int .i64 0]), 4, 32) := by kernel_rfl
theorem hbd60 : hasBody prog 60 = true := by kernel_rfl
end Go.Proofs.Ytpjblnmophcdmaa.Sx.FN
namespace Go.Proofs.Ytpjblnmophcdmaa.Sx
open Go Go.SX Go.Proofs Go.Proofs.Try FA FB FC FD FE FF FG FH FI FJ FK FL FM FN
theorem shct_ (n : Int) (wb : Nat) (oA : Option Addr) (on : Nat) (oc : Nat) (MO : List MB) (iA : Option Addr) (ik : Nat) (ic : Nat) (MI : List MB) (kA : Option Addr) (kn : Nat) (kc : Nat) (K : List LK) (gA : Option Addr) (gn : Nat) (gc : Nat) (g : List Bool) (p : Int) (S : Nat → Prop) (wf : World) (hO : Fr eMB S wf oA MO) (hI : Fr eMB S wf iA MI) (hK : Fr eLK S wf kA K) (hg : Fr eB S wf gA g) (hMO : MPF S wf MO) (hMI : MPF S wf MI) (hG : GOK n (GS.mk (mmL MO) (mmL MI) K g)) (hls : MO.length = on ∧ MI.length = ik ∧ K.length = kn ∧ g.length = gn) (hp : 0 ≤ p ∧ p < n) :
  TR0 prog 60 [.pointer (some ⟨wb, 0, none⟩), .int .i64 p] [cel wb [.slice oA on oc, .slice iA ik ic, .slice kA kn kc, .slice gA gn gc] 67] S wf (fun v_ C_ => ∃ (u : Value), v_ = u ∧ C_ = [cel wb [.slice oA on oc, .slice iA ik ic, .slice kA kn kc, .slice gA gn gc] 67, rw_ eLK 44 (u) (scG (GS.mk (mmL MO) (mmL MI) K g) p)]) := by
 have hGn := hG.n1
 have hGo : (MO.length : Int) = n := by rw [← mmL_len (l := MO)]; exact hG.lo
 have hGi : (MI.length : Int) = n := by rw [← mmL_len (l := MI)]; exact hG.li
 have hGg : (g.length : Int) = n := hG.lg
 have hKl := hK.len
 have hon := om_nd (p := p) hG
 have hin := im_nd (p := p) hG
 refine TR.mk func60 G ntmps60 G G (fun w_ => ?_)
 refine .seq (.region (.a G G G (.go idQ (.seq (.region (.a G G G ?_))))))
 refine .go idQ (.seq (.seq (.region (.m G G G (.v (ev_nil G G) G (.f fo67_1 1 G G G G ?_))))))
 refine .l ty65 0 G G G G G (.m G G G (.v (ev_ix G underlying65 ty68 G G oO oO (fun _ _ => Fr.adr (i := p) hI oO oO)) G (.v (ev_ld1 G ty68 G (At.elem1 (At.w (Fr.el (i := p) hI oO oO)) 0 G)) G ?_)))
 refine .cons (st_call0 G G G G hbd70 G .n (sorted_ ((gt MI p).mb) ((gt MI p).mm) _ _ (hMI p oO oO) hin.1 oO) (fun v_q2 C_q2 q2 => ?_))
 obtain ⟨u1, rfl, rfl⟩ := q2
 show SP _ _ _ _ _ _ ⟨_, _ :: _, _, _⟩
 refine .know (row_len 0 G) (fun hv5 => ?_)
 obtain ⟨A3, c4, rfl, hv5_1, hv5_2⟩ := hv5
 unfold maxLen at hv5_2
 refine .g underlying27 G G G (.m G G G (.go idQ (.block ?_)))
 refine SC.nilrow eLK 44 ?_
 refine .loop (X := Int × (List LK) × Value) (fun ⟨i, X, u_X⟩ => 0 ≤ i ∧ i ≤ ((srtK ((gt MI p).mm)).length : Int) ∧ X = ((srtK ((gt MI p).mm)).take i.toNat).flatMap (scF (GS.mk (mmL MO) (mmL MI) K g) p)) (fun ⟨i, X, u_X⟩ => [(0, .pointer (some ⟨wb, 0, none⟩)), (1, .int .i64 p), (4, .slice none 0 0), (21, .slice A3 ((srtK ((gt MI p).mm)).length) c4), (22, .int .i64 (((srtK ((gt MI p).mm)).length : Nat) : Int)), (23, .int .i64 i), (5, u_X)]) (fun ⟨i, X, u_X⟩ => [rw_ eLK 44 (u_X) X, rw_ eZ 3 (.slice A3 ((srtK ((gt MI p).mm)).length) c4) (srtK ((gt MI p).mm)), cel wb [.slice oA on oc, .slice iA ik ic, .slice kA kn kc, .slice gA gn gc] 67]) (fun _ => S) (fun _ => wf) (fun ⟨i, X, u_X⟩ => (((srtK ((gt MI p).mm)).length : Int) - i).toNat) (fun a_ w_ hs_ hw_ => ⟨⟨0, ([] : List LK), .slice none 0 0⟩, (by (try dsimp only); exact ⟨oO, oO, (by rfl)⟩), hs_.mono (Sub.get (.c4 G G G G (.c G (.c G (.c G .n))))), hw_.keep (.d (.c .h .n))⟩) (fun ⟨i, X, u_X⟩ ⟨q_0, q_1, q_2⟩ => ?_)
 try dsimp only
 refine .seq (.region (.e G G G G G (.go idQ (.seq (.condI G bD (fun h6 => ?_) (fun h6 => ?_))))))
 ·
  refine .skipgo idQ (.seq (.block (.seq (.region (.v (ev_ix G underlying27 ty3 G G oO oO (row_adr (i := i) 1 G oO lO)) G (.v (ev_ld1 G ty3 G (At.elem1 (row_el (E := eZ) (l := (srtK ((gt MI p).mm))) (i := i) 1 G oO lO) 0 G)) G (.a G G G ?_)))))))
  refine .go idQ (.seq (.seq ?_))
  obtain ⟨fr, hfr⟩ : ∃ x_, x_ = (gt (srtK ((gt MI p).mm)) i) := ⟨_, rfl⟩
  rw [← hfr]
  have hfo := im_srt hG hfr oO oO
  have hfl := hG.lk (mget (gt MI p).mm fr 0) hfo.2.2.2.1 hfo.2.2.2.2
  refine .region (.m G G G (.v (ev_nil G G) G (.f fo67_3 3 G G G G ?_)))
  refine .l ty64 2 G G G G G (.m G G G (.v (ev_ix G underlying64 ty4 G G oO oO (fun _ _ => Fr.adr (i := fr) hg oO oO)) G (.v (ev_ld1 G ty4 G (At.elem1 (At.w (Fr.el (i := fr) hg oO oO)) 0 G)) G ?_)))
  refine .go idQ (.condI G bV (fun h7 => ?_) (fun h7 => ?_))
  ·
   refine .exit idQ ?_
   refine .region (.p ((i + 1)) oO oO G G G G G (.m G G G ?_))
   exact SP.nil (SQ.roundb (X := Int × (List LK) × Value) (x := (i, X, u_X)) ⟨(i + 1), X, u_X⟩ (by (try dsimp only); exact ⟨oO, oO, (flat_next q_2 oO oO (by rw [← hfr, scF_go h7]; simp))⟩) dO (Sub.get (.c4 G G G G (.c G (.c G (.c G .n))))) (kp (.d (.c .h .n))))
  refine .skipgo idQ (.seq (.region (.m G G G (.m G G G (.m G G G ?_)))))
  refine .cons (st_call0 G G G G hbd71 G (.c (.t2 .h) .n) (arnd_ n wb oA on oc MO iA ik ic MI kA kn kc K gA gn gc g fr p _ _ hO hI hK hg hMO hMI hG hls oO) (fun v_q10 C_q10 q10 => ?_))
  obtain ⟨b8, M9, p11, rfl, rfl⟩ := q10
  show SP _ _ _ _ _ _ ⟨_, _ :: _ :: _, _, _⟩
  refine .a G G G (.go idQ (.seq (.region (.m G G G (.v (ev_nil G G) G ?_)))))
  refine .f fo67_0 0 G G G G (.l ty65 0 G G G G G (.m G G G (.v (ev_ix G underlying65 ty68 G G oO oO (fun _ _ => Fr.adr (i := p) hO oO oO)) G ?_)))
  refine .v (ev_ld1 G ty68 G (At.elem1 (At.w (Fr.el (i := p) hO oO oO)) 0 G)) G (.cons (st_call0 G G G G hbd70 G .n (sorted_ ((gt MO p).mb) ((gt MO p).mm) _ _ (hMO p oO oO) hon.1 oO) (fun v_q13 C_q13 q13 => ?_)))
  obtain ⟨u12, rfl, rfl⟩ := q13
  show SP _ _ _ _ _ _ ⟨_, _ :: _, _, _⟩
  refine .know (row_len 0 G) (fun hv16 => ?_)
  obtain ⟨A14, c15, rfl, hv16_1, hv16_2⟩ := hv16
  unfold maxLen at hv16_2
  refine .g underlying27 G G G (.m G G G (.go idQ (.block (.loop (X := Int × (List LK) × Value) (fun ⟨j, Y, u_Y⟩ => 0 ≤ j ∧ j ≤ ((srtK ((gt MO p).mm)).length : Int) ∧ Y = X ++ ((srtK ((gt MO p).mm)).take j.toNat).flatMap (scE (GS.mk (mmL MO) (mmL MI) K g) p fr)) (fun ⟨j, Y, u_Y⟩ => [(0, .pointer (some ⟨wb, 0, none⟩)), (1, .int .i64 p), (4, .slice none 0 0), (21, .slice A3 ((srtK ((gt MI p).mm)).length) c4), (22, .int .i64 (((srtK ((gt MI p).mm)).length : Nat) : Int)), (23, .int .i64 i), (7, .int .i64 fr), (8, .map (some b8)), (45, .slice A14 ((srtK ((gt MO p).mm)).length) c15), (46, .int .i64 (((srtK ((gt MO p).mm)).length : Nat) : Int)), (47, .int .i64 j), (5, u_Y)]) (fun ⟨j, Y, u_Y⟩ => [rw_ eZ 3 (.slice A14 ((srtK ((gt MO p).mm)).length) c15) (srtK ((gt MO p).mm)), cel wb [.slice oA on oc, .slice iA ik ic, .slice kA kn kc, .slice gA gn gc] 67, mp keZ.f (.int .i64) b8 M9, rw_ eLK 44 (u_Y) Y, rw_ eZ 3 (.slice A3 ((srtK ((gt MI p).mm)).length) c4) (srtK ((gt MI p).mm))]) (fun _ => S) (fun _ => wf) (fun ⟨j, Y, u_Y⟩ => (((srtK ((gt MO p).mm)).length : Int) - j).toNat) (fun a_ w_ hs_ hw_ => ⟨⟨0, X, u_X⟩, (by (try dsimp only); exact ⟨oO, oO, (by simp)⟩), hs_.mono (Sub.get (.c4 G G G G (.c4 G G G G (.c4 G G G G .n)))), hw_.keep (.d (.d (.c .h .n)))⟩) (fun ⟨j, Y, u_Y⟩ ⟨r_0, r_1, r_2⟩ => ?_)))))
  try dsimp only
  refine .seq (.region (.e G G G G G (.go idQ (.seq (.condI G bD (fun h17 => ?_) (fun h17 => ?_))))))
  ·
   refine .skipgo idQ (.seq (.block (.seq (.region (.v (ev_ix G underlying27 ty3 G G oO oO (row_adr (i := j) 0 G oO lO)) G (.v (ev_ld1 G ty3 G (At.elem1 (row_el (E := eZ) (l := (srtK ((gt MO p).mm))) (i := j) 0 G oO lO) 0 G)) G (.a G G G ?_)))))))
   refine .go idQ (.seq (.seq ?_))
   obtain ⟨to, hto⟩ : ∃ x_, x_ = (gt (srtK ((gt MO p).mm)) j) := ⟨_, rfl⟩
   rw [← hto]
   have hto2 := om_srt hG hto oO oO
   have htl := hG.lk (mget (gt MO p).mm to 0) hto2.2.2.2.1 hto2.2.2.2.2
   refine .region (.m G G G (.v (ev_nil G G) G (.f fo67_3 3 G G G G ?_)))
   refine .l ty64 1 G G G G G (.m G G G (.v (ev_ix G underlying64 ty4 G G oO oO (fun _ _ => Fr.adr (i := to) hg oO oO)) G (.v (ev_ld1 G ty4 G (At.elem1 (At.w (Fr.el (i := to) hg oO oO)) 0 G)) G ?_)))
   refine .m G G G (.w (fun _ => ev_mv G G) G (.w (fun _ => ev_mv G G) G (.w (fun hb => ev_cmp G (lkg G hb) (lkg G hb) G) G ?_)))
   refine .r G G G G G (.go idQ (.condI G (bO bV bE) (fun h18 => ?_) (fun h18 => ?_)))
   ·
    refine .exit idQ ?_
    refine .region (.p ((j + 1)) oO oO G G G G G (.m G G G ?_))
    exact SP.nil (SQ.roundb (X := Int × (List LK) × Value) (x := (j, Y, u_Y)) ⟨(j + 1), Y, u_Y⟩ (by (try dsimp only); exact ⟨oO, oO, (sc_next r_2 oO oO (by rw [← hto, scE_go h18]; simp))⟩) dO (Sub.get (.c4 G G G G (.c4 G G G G (.c4 G G G G .n)))) (kp (.d (.d (.c .h .n)))))
   refine .skipgo idQ (.seq ?_)
   have hfw : 0 ≤ (gt K (mget (gt MI p).mm fr 0)).lw ∧ (gt K (mget (gt MI p).mm fr 0)).lw ≤ 10000000000000000 := ⟨hfl.2.2.2.2.1, hfl.2.2.2.2.2⟩
   have htw : 0 ≤ (gt K (mget (gt MO p).mm to 0)).lw ∧ (gt K (mget (gt MO p).mm to 0)).lw ≤ 10000000000000000 := ⟨htl.2.2.2.2.1, htl.2.2.2.2.2⟩
   refine SC.draw mo [] [] .n (fun _ _ _ => sc0) (fun wf_19 hl_19 hx_19 hR_19 => ?_)
   refine SR.m 0 G G G G ?_
   refine SR.z 1 G G (ev_nil G G) ?_
   refine SR.z 2 G G (ev_fa G fo67_2 G (r := 2) G) ?_
   refine SR.z 3 G G (ev_ld1 G ty41 G (At.d (At.lent hR_19 1 G G))) ?_
   refine SR.m 4 G G G G ?_
   refine SR.z 5 G G (ev_nil G G) ?_
   refine SR.z 6 G G (ev_fa G fo67_1 G (r := 1) G) ?_
   refine SR.z 7 G G (ev_ld1 G ty65 G (At.d (At.lent hR_19 1 G G))) ?_
   refine SR.m 8 G G G G ?_
   refine SR.z 9 G G (ev_ix G underlying65 ty68 G G oO oO (fun _ _ => Fr.adr (i := p) (Fr.ext hI hx_19) oO oO)) ?_
   refine SR.z 10 G G (ev_ld1 G ty68 G (At.elem1 (At.d (Fr.el (i := p) (Fr.ext hI hx_19) oO oO)) 0 G)) ?_
   refine SR.m 11 G G G G ?_
   refine SR.z 12 G G (ev_lkpF keZ G G underlying68 zv3 G G (MapAt.d (FzM.at (((hMI).ext hx_19) p oO oO)))) ?_
   refine SR.z 13 G G (ev_ix G underlying41 ty44 G G oO oO (fun _ _ => Fr.adr (i := (mget ((gt MI p).mm) fr 0)) (Fr.ext hK hx_19) oO oO)) ?_
   refine SR.z 14 G G (ev_fa G fo44_2 G (r := ao kA + ((mget ((gt MI p).mm) fr 0)).toNat * 4 + 2) G) ?_
   refine SR.z 15 G G (ev_ld1 G ty3 G (At.elem1 (At.d (Fr.el (i := (mget ((gt MI p).mm) fr 0)) (Fr.ext hK hx_19) oO oO)) 2 G)) ?_
   refine SR.m 16 G G G G ?_
   refine SR.z 17 G G (ev_nil G G) ?_
   refine SR.z 18 G G (ev_fa G fo67_2 G (r := 2) G) ?_
   refine SR.z 19 G G (ev_ld1 G ty41 G (At.d (At.lent hR_19 1 G G))) ?_
   refine SR.m 20 G G G G ?_
   refine SR.z 21 G G (ev_nil G G) ?_
   refine SR.z 22 G G (ev_fa G fo67_0 G (r := 0) G) ?_
   refine SR.z 23 G G (ev_ld1 G ty65 G (At.d (At.lent hR_19 1 G G))) ?_
   refine SR.m 24 G G G G ?_
   refine SR.z 25 G G (ev_ix G underlying65 ty68 G G oO oO (fun _ _ => Fr.adr (i := p) (Fr.ext hO hx_19) oO oO)) ?_
   refine SR.z 26 G G (ev_ld1 G ty68 G (At.elem1 (At.d (Fr.el (i := p) (Fr.ext hO hx_19) oO oO)) 0 G)) ?_
   refine SR.m 27 G G G G ?_
   refine SR.z 28 G G (ev_lkpF keZ G G underlying68 zv3 G G (MapAt.d (FzM.at (((hMO).ext hx_19) p oO oO)))) ?_
   refine SR.z 29 G G (ev_ix G underlying41 ty44 G G oO oO (fun _ _ => Fr.adr (i := (mget ((gt MO p).mm) to 0)) (Fr.ext hK hx_19) oO oO)) ?_
   refine SR.z 30 G G (ev_fa G fo44_2 G (r := ao kA + ((mget ((gt MO p).mm) to 0)).toNat * 4 + 2) G) ?_
   refine SR.z 31 G G (ev_ld1 G ty3 G (At.elem1 (At.d (Fr.el (i := (mget ((gt MO p).mm) to 0)) (Fr.ext hK hx_19) oO oO)) 2 G)) ?_
   refine SR.z 32 G G (ev_add G G G (r := (((gt K (mget ((gt MI p).mm) fr 0)).lw) + ((gt K (mget ((gt MO p).mm) to 0)).lw))) G oO oO) ?_
   refine SR.z 33 G G (ev_as G G) ?_
   refine SR.fin kR hl_19 hx_19 hR_19 .n ?_
   refine SQ.go idQ ?_
   refine .seq (.region (.m G G G (.m G G G (.v (ev_lkpok keZ (m := M9) (x := to) (z := 0) G underlying68 zv3 G G 2 G) G ?_))))
   refine .m G G G (.x G G G G (.x G G G G (.a G G G ?_)))
   refine .a G G G (.go idQ (.seq (.region (.m G G G (.v (ev_not G G) G ?_)))))
   refine .m G G G (.w (fun _ => ev_mv G G) G (.w (fun _ => ev_mv G G) G (.w (fun hb => ev_cmp G (lkg G hb) (lkg G hb) G) G ?_)))
   refine .r G G G G G (.go idQ (.condI G (bO (bN bV) bD) (fun h20 => ?_) (fun h20 => ?_)))
   ·
    have hxl := scX_len (p := p) hG (i := i.toNat)
    rw [← q_2] at hxl
    have hyl := scY_len (p := p) hG (i := j.toNat) (fr := fr)
    have hyq := congrArg List.length r_2
    rw [List.length_append] at hyq
    refine .region (.m G G G (.m G G G (.m G G G ?_)))
    refine .m G G G (.m G G G (.v (ev_any (v := .agg #[.int .i64 fr, .int .i64 to, .int .i64 (((gt K (mget ((gt MI p).mm) fr 0)).lw) + ((gt K (mget ((gt MO p).mm) to 0)).lw)), .int .i64 p]) G kR (fun _ => by kernel_rfl)) G (.cons (st_lit eLK (e := 44) (l := [(LK.mk fr to (((gt K (mget ((gt MI p).mm) fr 0)).lw) + ((gt K (mget ((gt MO p).mm) to 0)).lw)) p)]) G G G G kR G G kW (fun b21 => ?_)))))
    refine .cons (st_app (E := eLK) (m := [(LK.mk fr to (((gt K (mget ((gt MI p).mm) fr 0)).lw) + ((gt K (mget ((gt MO p).mm) to 0)).lw)) p)]) G G G G underlying41 ai44 G G G (.t4 .h) rO (row_src 0 G) lO G (fun v22 => ?_))
    refine .a G G G (.go idQ (.region (.p ((j + 1)) oO oO G G G G G (.m G G G ?_))))
    exact SP.nil (SQ.roundb (X := Int × (List LK) × Value) (x := (j, Y, u_Y)) ⟨(j + 1), (Y ++ [(LK.mk fr to (((gt K (mget ((gt MI p).mm) fr 0)).lw) + ((gt K (mget ((gt MO p).mm) to 0)).lw)) p)]), v22⟩ (by (try dsimp only); exact ⟨oO, oO, (sc_next r_2 oO oO (by rw [← hto, scE_yes p11 h18 scD_mb h20]))⟩) dO (Sub.get (.c4 G G G G (.c4 G G G G (.c4 G G G G .n)))) (kp (.c (.t2 .h) (.c (.t2 .h) (.c (.t2 .h) (.c .h (.c (.t .h) .n)))))))
   refine .skipgo idQ (.region (.p ((j + 1)) oO oO G G G G G (.m G G G ?_)))
   exact SP.nil (SQ.roundb (X := Int × (List LK) × Value) (x := (j, Y, u_Y)) ⟨(j + 1), Y, u_Y⟩ (by (try dsimp only); exact ⟨oO, oO, (sc_next r_2 oO oO (by rw [← hto, scE_no p11 h18 scD_mb h20]; simp))⟩) dO (Sub.get (.c4 G G G G (.c4 G G G G (.c4 G G G G .n)))) (kp (.d (.d (.c .h .n)))))
  refine .exit idQ ?_
  refine .region (.p ((i + 1)) oO oO G G G G G (.m G G G ?_))
  exact SP.nil (SQ.roundb (X := Int × (List LK) × Value) (x := (i, X, u_X)) ⟨(i + 1), Y, u_Y⟩ (by (try dsimp only); exact ⟨oO, oO, (flat_next q_2 oO oO (by rw [← hfr, scF_do h7, r_2, List.take_of_length_le oO]; show _ = X ++ (srtK (gt (mmL MO) p)).flatMap _; rw [gt_mmL]))⟩) dO (Sub.get (.c4 G G G G (.c G (.c G (.c G .n))))) (kp (.c (.t2 (.t .h)) (.c (.t2 (.t .h)) (.c (.t .h) .n)))))
 refine .exit idQ ?_
 refine .seq (.region (.m G G G (.a G G G (.go idQ ?_))))
 exact .ret idQ (ret1 results60 G (.c (.t2 .h) (.c .h .n)) ⟨u_X, G, (by rw [q_2, List.take_of_length_le oO]; show _ = [_, rw_ eLK 44 _ ((srtK (gt (mmL MI) p)).flatMap _)]; rw [gt_mmL])⟩)
theorem price_ (n : Int) (wb : Nat) (oA : Option Addr) (on : Nat) (oc : Nat) (MO : List MB) (iA : Option Addr) (ik : Nat) (ic : Nat) (MI : List MB) (kA : Option Addr) (kn : Nat) (kc : Nat) (K : List LK) (gA : Option Addr) (gn : Nat) (gc : Nat) (g : List Bool) (p : Int) (S : Nat → Prop) (wf : World) (hO : Fr eMB S wf oA MO) (hI : Fr eMB S wf iA MI) (hK : Fr eLK S wf kA K) (hg : Fr eB S wf gA g) (hMO : MPF S wf MO) (hMI : MPF S wf MI) (hG : GOK n (GS.mk (mmL MO) (mmL MI) K g)) (hls : MO.length = on ∧ MI.length = ik ∧ K.length = kn ∧ g.length = gn) (hp : 0 ≤ p ∧ p < n) :
  TR0 prog 34 [.pointer (some ⟨wb, 0, none⟩), .int .i64 p] [cel wb [.slice oA on oc, .slice iA ik ic, .slice kA kn kc, .slice gA gn gc] 67] S wf (fun v_ C_ => v_ = .int .i64 (prG (GS.mk (mmL MO) (mmL MI) K g) p) ∧ C_ = [cel wb [.slice oA on oc, .slice iA ik ic, .slice kA kn kc, .slice gA gn gc] 67]) := by
 have hGn := hG.n1
 have hGo : (MO.length : Int) = n := by rw [← mmL_len (l := MO)]; exact hG.lo
 have hGi : (MI.length : Int) = n := by rw [← mmL_len (l := MI)]; exact hG.li
 have hGg : (g.length : Int) = n := hG.lg
 have hKl := hK.len
 have hon := om_nd (p := p) hG
 have hin := im_nd (p := p) hG
 have hsl := scG_len hG p
 have hno := nOf_le (gt MO p).mm g
 have hni := nOf_le (gt MI p).mm g
 refine TR.mk func34 G ntmps34 G G (fun w_ => ?_)
 refine .seq (.region (.a G G G (.go idQ (.seq (.region (.m G G G ?_))))))
 refine .m G G G (.cons (st_call0 G G G G hbd60 G (.c .h .n) (shct_ n wb oA on oc MO iA ik ic MI kA kn kc K gA gn gc g p _ _ hO hI hK hg hMO hMI hG hls oO) (fun v_q2 C_q2 q2 => ?_)))
 obtain ⟨u1, rfl, rfl⟩ := q2
 show SP _ _ _ _ _ _ ⟨_, _ :: _ :: _, _, _⟩
 refine .know (row_len 1 G) (fun hv5 => ?_)
 obtain ⟨A3, c4, rfl, hv5_1, hv5_2⟩ := hv5
 unfold maxLen at hv5_2
 refine .g underlying41 G G G (.v (ev_mul G G G (r := (2 * (((scG (GS.mk (mmL MO) (mmL MI) K g) p).length : Nat) : Int))) G oO oO) G (.a G G G (.go idQ (.seq (.seq (.region ?_))))))
 refine .m G G G (.v (ev_nil G G) G (.f fo67_0 0 G G G G (.l ty65 0 G G G G G ?_)))
 refine .m G G G (.v (ev_ix G underlying65 ty68 G G oO oO (fun _ _ => Fr.adr (i := p) hO oO oO)) G (.v (ev_ld1 G ty68 G (At.elem1 (At.w (Fr.el (i := p) hO oO oO)) 0 G)) G (.cons (st_rangeF (hMO p oO oO) G G G G underlying68 G (fun r6 => ?_)))))
 refine .go idQ (.block (.loop (X := Int × (List (Int × Int)) × (Option (Int × Int))) (fun ⟨c, Lf, cu_Lf⟩ => c = 2 * ((scG (GS.mk (mmL MO) (mmL MI) K g) p).length : Int) - (nOf (gt MO p).mm g - nOf Lf g) ∧ (Lf.map Prod.fst).Nodup ∧ (Lf.length : Int) ≤ 32) (fun ⟨c, Lf, cu_Lf⟩ => [(0, .pointer (some ⟨wb, 0, none⟩)), (1, .int .i64 p), (4, .int .i64 0), (20, .pointer (some ⟨r6, 0, none⟩)), (5, .int .i64 c)]) (fun ⟨c, Lf, cu_Lf⟩ => [itM r6 ((gt MO p).mb) wf ((gt MO p).mm) Lf cu_Lf, cel wb [.slice oA on oc, .slice iA ik ic, .slice kA kn kc, .slice gA gn gc] 67, rw_ eLK 44 (.slice A3 ((scG (GS.mk (mmL MO) (mmL MI) K g) p).length) c4) (scG (GS.mk (mmL MO) (mmL MI) K g) p)]) (fun _ => S) (fun _ => wf) (fun ⟨c, Lf, cu_Lf⟩ => Lf.length) (fun a_ w_ hs_ hw_ => ⟨⟨(2 * (((scG (GS.mk (mmL MO) (mmL MI) K g) p).length : Nat) : Int)), (gt MO p).mm, none⟩, (by (try dsimp only); exact ⟨oO, hon.1, oO⟩), hs_.mono (Sub.get (.c4 G G G G (.c G .n))), hw_.keep (.d (.c .h .n))⟩) (fun ⟨c, Lf, cu_Lf⟩ ⟨q_0, q_1, q_2⟩ => ?_)))
 try dsimp only
 have hnl := nOf_le Lf g
 have hnk : (Lf.length : Int) ≤ 32 ∨ True := .inr trivial
 refine .seq (.region (.cons (st_nextF (hMO p oO oO) G G G G G .h (fun hz7 => ?_) (fun x8 v9 hl10 hm11 => ?_))))
 ·
  refine .x G G G G (.go idQ (.seq (.cond_f G (.exit idQ ?_))))
  refine .seq (.seq (.region (.m G G G (.v (ev_nil G G) G (.f fo67_1 1 G G G G ?_)))))
  refine .l ty65 1 G G G G G (.m G G G (.v (ev_ix G underlying65 ty68 G G oO oO (fun _ _ => Fr.adr (i := p) hI oO oO)) G (.v (ev_ld1 G ty68 G (At.elem1 (At.w (Fr.el (i := p) hI oO oO)) 0 G)) G ?_)))
  refine .cons (st_rangeF (hMI p oO oO) G G G G underlying68 G (fun r12 => ?_))
  refine .go idQ (.block (.loop (X := Int × (List (Int × Int)) × (Option (Int × Int))) (fun ⟨c2, Lf2, cu_Lf2⟩ => c2 = (2 * ((scG (GS.mk (mmL MO) (mmL MI) K g) p).length : Int) - nOf (gt MO p).mm g) - (nOf (gt MI p).mm g - nOf Lf2 g) ∧ (Lf2.map Prod.fst).Nodup ∧ (Lf2.length : Int) ≤ 32) (fun ⟨c2, Lf2, cu_Lf2⟩ => [(0, .pointer (some ⟨wb, 0, none⟩)), (1, .int .i64 p), (4, .int .i64 0), (20, .pointer (some ⟨r6, 0, none⟩)), (42, .pointer (some ⟨r12, 0, none⟩)), (5, .int .i64 c2)]) (fun ⟨c2, Lf2, cu_Lf2⟩ => [itM r12 ((gt MI p).mb) wf ((gt MI p).mm) Lf2 cu_Lf2, itM r6 ((gt MO p).mb) wf ((gt MO p).mm) Lf cu_Lf, cel wb [.slice oA on oc, .slice iA ik ic, .slice kA kn kc, .slice gA gn gc] 67, rw_ eLK 44 (.slice A3 ((scG (GS.mk (mmL MO) (mmL MI) K g) p).length) c4) (scG (GS.mk (mmL MO) (mmL MI) K g) p)]) (fun _ => S) (fun _ => wf) (fun ⟨c2, Lf2, cu_Lf2⟩ => Lf2.length) (fun a_ w_ hs_ hw_ => ⟨⟨c, (gt MI p).mm, none⟩, (by (try dsimp only); exact ⟨(by rw [hz7] at q_0; have h_ : nOf [] g = 0 := G; omega), hin.1, oO⟩), hs_.mono (Sub.get (.c4 G G G G (.c G (.c G .n)))), hw_.keep (.d (.d .n))⟩) (fun ⟨c2, Lf2, cu_Lf2⟩ ⟨r_0, r_1, r_2⟩ => ?_)))
  try dsimp only
  have hnl2 := nOf_le Lf2 g
  refine .seq (.region (.cons (st_nextF (hMI p oO oO) G G G G G .h (fun hz13 => ?_) (fun x14 v15 hl16 hm17 => ?_))))
  ·
   refine .x G G G G (.go idQ (.seq (.cond_f G (.exit idQ ?_))))
   refine .seq (.region (.m G G G (.a G G G (.go idQ ?_))))
   exact .ret idQ (ret1 results34 G (.c (.t2 .h) .n) ⟨(congrArg (Value.int .i64) (by rw [pr_eq]; rw [hz13] at r_0; have h_ : nOf [] g = 0 := G; omega)), G⟩)
  refine .x G G G G (.go idQ (.seq (.cond_t G (.skipgo idQ (.block (.seq (.region ?_)))))))
  refine .v (ev_entryF (x := x14) (v := v15) (hMI p oO oO) G G 0 G) G (.x G G G G (.a G G G (.go idQ (.seq ?_))))
  have hxo := im_mb hG hm17
  refine .region (.m G G G (.v (ev_nil G G) G (.f fo67_3 3 G G G G ?_)))
  refine .l ty64 2 G G G G G (.m G G G (.v (ev_ix G underlying64 ty4 G G oO oO (fun _ _ => Fr.adr (i := x14) hg oO oO)) G (.v (ev_ld1 G ty4 G (At.elem1 (At.w (Fr.el (i := x14) hg oO oO)) 0 G)) G ?_)))
  refine .v (ev_not G G) G (.go idQ (.condI G (bN bV) (fun h18 => ?_) (fun h18 => ?_)))
  ·
   refine .region (.m G G G (.v (ev_sub G G G (r := (c2 - 1)) G oO oO) G (.a G G G ?_)))
   exact SP.nil (SQ.roundb (X := Int × (List (Int × Int)) × (Option (Int × Int))) (x := (c2, Lf2, cu_Lf2)) ⟨(c2 - 1), (Lf2.filter (fun p => decide (p.1 ≠ x14))), (some (x14, v15))⟩ (by (try dsimp only); exact ⟨((nOf_rng r_1 hl16 r_0).2 h18), (rng_nd r_1), (by have h_ := List.length_filter_le (fun p_ : Int × Int => decide (p_.1 ≠ x14)) Lf2; omega)⟩) (mfilter_lt hl16) (Sub.get (.c4 G G G G (.c G (.c G .n)))) (kp (.d (.d .n))))
  exact .skip (SQ.roundb (X := Int × (List (Int × Int)) × (Option (Int × Int))) (x := (c2, Lf2, cu_Lf2)) ⟨c2, (Lf2.filter (fun p => decide (p.1 ≠ x14))), (some (x14, v15))⟩ (by (try dsimp only); exact ⟨((nOf_rng r_1 hl16 r_0).1 (Classical.not_not.1 h18)), (rng_nd r_1), (by have h_ := List.length_filter_le (fun p_ : Int × Int => decide (p_.1 ≠ x14)) Lf2; omega)⟩) (mfilter_lt hl16) (Sub.get (.c4 G G G G (.c G (.c G .n)))) (kp (.d (.d .n))))
 refine .x G G G G (.go idQ (.seq (.cond_t G (.skipgo idQ (.block (.seq (.region ?_)))))))
 refine .v (ev_entryF (x := x8) (v := v9) (hMO p oO oO) G G 0 G) G (.x G G G G (.a G G G (.go idQ (.seq ?_))))
 have hxo := om_mb hG hm11
 refine .region (.m G G G (.v (ev_nil G G) G (.f fo67_3 3 G G G G ?_)))
 refine .l ty64 1 G G G G G (.m G G G (.v (ev_ix G underlying64 ty4 G G oO oO (fun _ _ => Fr.adr (i := x8) hg oO oO)) G (.v (ev_ld1 G ty4 G (At.elem1 (At.w (Fr.el (i := x8) hg oO oO)) 0 G)) G ?_)))
 refine .v (ev_not G G) G (.go idQ (.condI G (bN bV) (fun h19 => ?_) (fun h19 => ?_)))
 ·
  refine .region (.m G G G (.v (ev_sub G G G (r := (c - 1)) G oO oO) G (.a G G G ?_)))
  exact SP.nil (SQ.roundb (X := Int × (List (Int × Int)) × (Option (Int × Int))) (x := (c, Lf, cu_Lf)) ⟨(c - 1), (Lf.filter (fun p => decide (p.1 ≠ x8))), (some (x8, v9))⟩ (by (try dsimp only); exact ⟨((nOf_rng q_1 hl10 q_0).2 h19), (rng_nd q_1), (by have h_ := List.length_filter_le (fun p_ : Int × Int => decide (p_.1 ≠ x8)) Lf; omega)⟩) (mfilter_lt hl10) (Sub.get (.c4 G G G G (.c G .n))) (kp (.d (.c .h .n))))
 exact .skip (SQ.roundb (X := Int × (List (Int × Int)) × (Option (Int × Int))) (x := (c, Lf, cu_Lf)) ⟨c, (Lf.filter (fun p => decide (p.1 ≠ x8))), (some (x8, v9))⟩ (by (try dsimp only); exact ⟨((nOf_rng q_1 hl10 q_0).1 (Classical.not_not.1 h19)), (rng_nd q_1), (by have h_ := List.length_filter_le (fun p_ : Int × Int => decide (p_.1 ≠ x8)) Lf; omega)⟩) (mfilter_lt hl10) (Sub.get (.c4 G G G G (.c G .n))) (kp (.d (.c .h .n))))
end Go.Proofs.Ytpjblnmophcdmaa.Sx
set_option maxRecDepth 20000
set_option maxHeartbeats 8000000
namespace Go.Proofs.Ytpjblnmophcdmaa.Sx.FO
open Go Go.SX Go.Proofs Go.Proofs.Try FA FB FC FD FE FF FG FH FI FJ FK FL FM FN
theorem fo44_0 : fo prog 44 0 = some 0 := by kernel_rfl
theorem fo44_1 : fo prog 44 1 = some 1 := by kernel_rfl
end Go.Proofs.Ytpjblnmophcdmaa.Sx.FO
namespace Go.Proofs.Ytpjblnmophcdmaa.Sx
open Go Go.SX Go.Proofs Go.Proofs.Try FA FB FC FD FE FF FG FH FI FJ FK FL FM FN FO
theorem link_ (n : Int) (wb : Nat) (oA : Option Addr) (on : Nat) (oc : Nat) (MO : List MB) (iA : Option Addr) (ik : Nat) (ic : Nat) (MI : List MB) (kA : Option Addr) (kn : Nat) (kc : Nat) (K : List LK) (gA : Option Addr) (gn : Nat) (gc : Nat) (g : List Bool) (k : LK) (S : Nat → Prop) (wf : World) (hG : GOK n (GS.mk (mmL MO) (mmL MI) K g)) (hls : MO.length = on ∧ MI.length = ik ∧ K.length = kn) (hk : 0 ≤ k.lf ∧ k.lf < n ∧ 0 ≤ k.lt ∧ k.lt < n) (hkb : kn ≤ 100000) :
  TR0 prog 31 [.pointer (some ⟨wb, 0, none⟩), .agg #[.int .i64 k.lf, .int .i64 k.lt, .int .i64 k.lw, .int .i64 k.lm]] [cel wb [.slice oA on oc, .slice iA ik ic, .slice kA kn kc, .slice gA gn gc] 67, rw_ eMB 68 (.slice oA on oc) MO, rw_ eMB 68 (.slice iA ik ic) MI, rw_ eLK 44 (.slice kA kn kc) K, nestM MO, nestM MI] S wf (fun v_ C_ => ∃ (u : Value) (MO2 : List MB) (MI2 : List MB) (K2 : List LK), (GS.mk (mmL MO2) (mmL MI2) K2 g = linkG (GS.mk (mmL MO) (mmL MI) K g) k) ∧ (MO2.length = MO.length) ∧ (MI2.length = MI.length) ∧ v_ = .tuple #[] ∧ C_ = [cel wb [.slice oA on oc, .slice iA ik ic, u, .slice gA gn gc] 67, rw_ eMB 68 (.slice oA on oc) MO2, rw_ eMB 68 (.slice iA ik ic) MI2, rw_ eLK 44 (u) K2, nestM MO2, nestM MI2]) := by
 have hGn := hG.n1
 have hGo : (MO.length : Int) = n := by rw [← mmL_len (l := MO)]; exact hG.lo
 have hGi : (MI.length : Int) = n := by rw [← mmL_len (l := MI)]; exact hG.li
 have hGg : (g.length : Int) = n := hG.lg
 refine TR.mk func31 G ntmps31 G G (fun w_ => ?_)
 refine .seq (.region (.cons (st_boxa G G G G G (fun b1 => (.go idQ (.seq (.seq ?_)))))))
 refine SC.draw mo [] [] .n (fun _ _ _ => sc0) (fun wf_2 hl_2 hx_2 hR_2 => ?_)
 refine SR.m 0 G G G G ?_
 refine SR.z 1 G G (ev_nil G G) ?_
 refine SR.z 2 G G (ev_fa G fo67_0 G (r := 0) G) ?_
 refine SR.z 3 G G (ev_ld1 G ty65 G (At.d (At.lent hR_2 1 G G))) ?_
 refine SR.z 4 G G (ev_fa G fo44_0 G (r := 0) G) ?_
 refine SR.z 5 G G (ev_ld1 G ty3 G (At.d (At.lent hR_2 0 G G))) ?_
 refine SR.z 6 G G (ev_ix G underlying65 ty68 G G oO oO (fun _ _ => Fr.adr (i := k.lf) (Fr.lent (S := S) hR_2 2 G lO) oO oO)) ?_
 refine SR.z 7 G G (ev_ld1 G ty68 G (At.elem1 (At.d (Fr.el (i := k.lf) (Fr.lent (S := S) hR_2 2 G lO) oO oO)) 0 G)) ?_
 refine SR.z 8 G G (ev_fa G fo44_1 G (r := 1) G) ?_
 refine SR.z 9 G G (ev_ld1 G ty3 G (At.d (At.lent hR_2 0 G G))) ?_
 refine SR.z 10 G G (ev_lkpokF keZ G G underlying68 zv3 G G (MapAt.d (FzM.at ((MPF.lent (S := S) hR_2 5 G) k.lf oO oO)))) ?_
 refine SR.m 11 G G G G ?_
 refine SR.z 12 G G (ev_ext G G G) ?_
 refine SR.z 13 G G (ev_ext G G G) ?_
 refine SR.z 14 G G (ev_as G G) ?_
 refine SR.z 15 G G (ev_as G G) ?_
 refine SR.fin kR hl_2 hx_2 hR_2 .n ?_
 refine SQ.go idQ ?_
 refine .seq ?_
 rcases Bool.eq_false_or_eq_true (mhas (gt MO k.lf).mm k.lt) with hm | hm
 ·
  rw [hm]
  have hof := om_has hG hm
  refine SC.draw mo [] [] .n (fun _ _ _ => sc0) (fun wf_3 hl_3 hx_3 hR_3 => ?_)
  refine SR.m 0 G G G G ?_
  refine SR.m 1 G G G G ?_
  refine SR.y 2 G G (fun _ => ev_mv G G) ?_
  refine SR.y 3 G G (fun _ => ev_nil G G) ?_
  refine SR.y 4 G G (fun _ => ev_fa G fo67_2 G (r := 2) G) ?_
  refine SR.y 5 G G (fun _ => ev_ld1 G ty41 G (At.d (At.lent hR_3 1 G G))) ?_
  refine SR.y 6 G G (fun _ => ev_mv G G) ?_
  refine SR.y 7 G G (fun _ => ev_ix G underlying41 ty44 G G oO oO (fun _ _ => Fr.adr (i := (mget ((gt MO k.lf).mm) k.lt 0)) (Fr.lent (S := S) hR_3 4 G lO) oO oO)) ?_
  refine SR.y 8 G G (fun _ => ev_fa G fo44_2 G (r := ao kA + ((mget ((gt MO k.lf).mm) k.lt 0)).toNat * 4 + 2) G) ?_
  refine SR.y 9 G G (fun _ => ev_ld1 G ty3 G (At.elem1 (At.d (Fr.el (i := (mget ((gt MO k.lf).mm) k.lt 0)) (Fr.lent (S := S) hR_3 4 G lO) oO oO)) 2 G)) ?_
  refine SR.y 10 G G (fun _ => ev_fa G fo44_2 G (r := 2) G) ?_
  refine SR.y 11 G G (fun _ => ev_ld1 G ty3 G (At.d (At.lent hR_3 0 G G))) ?_
  refine SR.y 12 G G (fun _ => ev_cmp G G G G) ?_
  refine SR.z 13 G G (ev_pickt G G G G) ?_
  refine SR.fin kR hl_3 hx_3 hR_3 .n ?_
  refine SQ.go idQ ?_
  refine .condI G bD (fun h4 => ?_) (fun h4 => ?_)
  ·
   exact .ret idQ (ret0 results31 (.c (.t .h) (.c (.t .h) (.c (.t .h) (.c (.t .h) (.c (.t .h) (.c (.t .h) .n)))))) ⟨.slice kA kn kc, MO, MI, K, (link_same hm h4), G, G, G, G⟩)
  refine .skipgo idQ (.seq ?_)
  refine SC.draw mo [cel wb [.slice oA on oc, .slice iA ik ic, .slice kA kn kc, .slice gA gn gc] 67, rw_ eLK 44 (.slice kA kn kc) K] [(10, fun w => At w wb 0 [.slice oA on oc, .slice iA ik ic, .slice kA kn kc, .slice gA gn gc])] (.c (.t .h) (.c (.t2 (.t .h)) .n)) (fun w_ _ hw_ => (sc1 (At.whole 0 G w_ hw_) sc0)) (fun wf_5 hl_5 hx_5 hR_5 => ?_)
  refine SR.m 0 G G G G ?_
  refine SR.m 1 G G G G ?_
  refine SR.z 2 G G (ev_nil G G) ?_
  refine SR.z 3 G G (ev_fa G fo67_2 G (r := 2) G) ?_
  refine SR.z 4 G G (ev_ld1 G ty41 G (At.elem1 (v := .slice kA kn kc) (At.ofcs 0 G kR) 2 G)) ?_
  refine SR.z 5 G G (ev_lda (cs := [.int .i64 k.lf, .int .i64 k.lt, .int .i64 k.lw, .int .i64 k.lm]) G G (At.d (At.lent hR_5 0 G G)) ty44) ?_
  refine SR.o 6 G (st_lit eLK (e := 44) (l := [k]) G G G G kR G G kW (fun b6 => ⟨ttw 1 G, ?_⟩))
  refine SR.o 7 G (st_app (E := eLK) (m := [k]) G G G G underlying41 ai44 G G G (.t2 .h) rO (row_src 0 G) lO G (fun v7 => ⟨ttw 2 G, ?_⟩))
  refine SR.z 8 G G (ev_nil G G) ?_
  refine SR.z 9 G G (ev_fa G fo67_2 G (r := 2) G) ?_
  refine .know (row_len 0 G) (fun hv10 => ?_)
  obtain ⟨A8, c9, rfl, hv10_1, hv10_2⟩ := hv10
  unfold maxLen at hv10_2
  refine SR.o 10 G (st_store1 G G G ty41 G G G (.t2 .h) (.t2 .h) ⟨ttc (fun w_ hw_ => (tc2 kR tc0)), ?_⟩)
  refine SR.fin kR hl_5 hx_5 hR_5 (.c (.c (.c .n))) ?_
  refine SQ.go idQ ?_
  refine SC.outM k.lf oO oO (.t4 (.t2 .h)) ?_
  refine SC.outM k.lt oO oO (.t4 (.t4 .h)) ?_
  refine SC.draw mo [mp keZ.f (.int .i64) ((gt MI k.lt).mb) ((gt MI k.lt).mm), mp keZ.f (.int .i64) ((gt MO k.lf).mb) ((gt MO k.lf).mm)] [] (.c .h (.c (.t .h) .n)) (fun _ _ _ => sc0) (fun wf_11 hl_11 hx_11 hR_11 => ?_)
  refine SR.m 0 G G G G ?_
  refine SR.z 1 G G (ev_nil G G) ?_
  refine SR.z 2 G G (ev_fa G fo67_0 G (r := 0) G) ?_
  refine SR.z 3 G G (ev_ld1 G ty65 G (At.d (At.lent hR_11 2 G G))) ?_
  refine SR.z 4 G G (ev_fa G fo44_0 G (r := 0) G) ?_
  refine SR.z 5 G G (ev_ld1 G ty3 G (At.d (At.lent hR_11 5 G G))) ?_
  refine SR.z 6 G G (ev_ix G underlying65 ty68 G G oO oO (fun _ _ => Fr.adr (i := k.lf) (Fr.lent (S := S) hR_11 6 G lO) oO oO)) ?_
  refine SR.z 7 G G (ev_ld1 G ty68 G (At.elem1 (At.d (Fr.el (i := k.lf) (Fr.lent (S := S) hR_11 6 G lO) oO oO)) 0 G)) ?_
  refine SR.z 8 G G (ev_fa G fo44_1 G (r := 1) G) ?_
  refine SR.z 9 G G (ev_ld1 G ty3 G (At.d (At.lent hR_11 5 G G))) ?_
  refine SR.m 10 G G G G ?_
  refine SR.z 11 G G (ev_nil G G) ?_
  refine SR.z 12 G G (ev_fa G fo67_1 G (r := 1) G) ?_
  refine SR.z 13 G G (ev_ld1 G ty65 G (At.d (At.lent hR_11 2 G G))) ?_
  refine SR.z 14 G G (ev_fa G fo44_1 G (r := 1) G) ?_
  refine SR.z 15 G G (ev_ld1 G ty3 G (At.d (At.lent hR_11 5 G G))) ?_
  refine SR.z 16 G G (ev_ix G underlying65 ty68 G G oO oO (fun _ _ => Fr.adr (i := k.lt) (Fr.lent (S := S) hR_11 7 G lO) oO oO)) ?_
  refine SR.z 17 G G (ev_ld1 G ty68 G (At.elem1 (At.d (Fr.el (i := k.lt) (Fr.lent (S := S) hR_11 7 G lO) oO oO)) 0 G)) ?_
  refine SR.z 18 G G (ev_fa G fo44_0 G (r := 0) G) ?_
  refine SR.z 19 G G (ev_ld1 G ty3 G (At.d (At.lent hR_11 5 G G))) ?_
  refine SR.m 20 G G G G ?_
  refine SR.z 21 G G (ev_nil G G) ?_
  refine SR.z 22 G G (ev_fa G fo67_2 G (r := 2) G) ?_
  refine SR.z 23 G G (ev_ld1 G ty41 G (At.d (At.lent hR_11 2 G G))) ?_
  refine SR.z 24 G G (ev_len G underlying41 G) ?_
  refine SR.z 25 G G (ev_sub G G G (r := ((((K ++ [k]).length : Nat) : Int) - 1)) G oO oO) ?_
  refine SR.m 26 G G G G ?_
  refine SR.z 27 G G (ev_nil G G) ?_
  refine SR.z 28 G G (ev_fa G fo67_2 G (r := 2) G) ?_
  refine SR.z 29 G G (ev_ld1 G ty41 G (At.d (At.lent hR_11 2 G G))) ?_
  refine SR.z 30 G G (ev_len G underlying41 G) ?_
  refine SR.z 31 G G (ev_sub G G G (r := ((((K ++ [k]).length : Nat) : Int) - 1)) G oO oO) ?_
  refine SR.o 32 G (st_mapEntry keZ (x := k.lt) (z := 0) G G G G underlying68 zv3 G G (.t .h) (fun u12 n13 => ⟨tt0, ?_⟩))
  refine SR.z 33 G G (ev_ext G G G) ?_
  refine SR.o 34 G (st_entryStore keZ (u := undef) (x := k.lt) (v := ((((K ++ [k]).length : Nat) : Int) - 1)) G G G G G G .h ⟨tt0, ?_⟩)
  refine SR.o 35 G (st_mapEntry keZ (x := k.lf) (z := 0) G G G G underlying68 zv3 G G (.t .h) (fun u14 n15 => ⟨tt0, ?_⟩))
  refine SR.z 36 G G (ev_ext G G G) ?_
  refine SR.o 37 G (st_entryStore keZ (u := undef) (x := k.lf) (v := ((((K ++ [k]).length : Nat) : Int) - 1)) G G G G G G .h ⟨tt0, ?_⟩)
  refine SR.fin kR hl_11 hx_11 hR_11 (.c (.c .n)) ?_
  exact SQ.inM k.lf oO oO (.c (.t .h) (.c (.t2 .h) (.c (.t4 (.t2 .h)) .n))) <| SQ.inM k.lt oO oO (.c (.t2 .h) (.c (.t2 .h) (.c (.t4 (.t2 .h)) .n))) <| (end0 results31 (.c (.t4 .h) (.c (.t2 (.t .h)) (.c (.t .h) (.c (.t2 .h) (.c (.t .h) (.c .h .n)))))) ⟨.slice A8 ((K ++ [k]).length) c9, (MO.set (k.lf).toNat (MB.mk (gt MO k.lf).mb (mset (mins ((gt MO k.lf).mm) k.lt 0) k.lt ((((K ++ [k]).length : Nat) : Int) - 1)))), (MI.set (k.lt).toNat (MB.mk (gt MI k.lt).mb (mset (mins ((gt MI k.lt).mm) k.lf 0) k.lf ((((K ++ [k]).length : Nat) : Int) - 1)))), (K ++ [k]), (by rw [mset_mins, mset_mins]; exact link_new (fun h_ => h4 h_.2) (by rw [List.length_append, List.length_singleton]; omega)), (List.length_set ..), (List.length_set ..), G, G⟩)
 rw [hm]
 refine SC.draw mo [] [] .n (fun _ _ _ => sc0) (fun wf_16 hl_16 hx_16 hR_16 => ?_)
 refine SR.m 0 G G G G ?_
 refine SR.m 1 G G G G ?_
 refine SR.gtake (v := undef) 2 G kR kR kR G (fun _ _ _ _ h => h) G G G G G (fun hb => by cases hb) ?_
 refine SR.gtake (v := undef) 3 G kR kR kR G (fun _ _ _ _ h => h) G G G G G (fun hb => by cases hb) ?_
 refine SR.gtake (v := undef) 4 G kR kR kR G (fun _ _ _ _ h => h) G G G G G (fun hb => by cases hb) ?_
 refine SR.gtake (v := undef) 5 G kR kR kR G (fun _ _ _ _ h => h) G G G G G (fun hb => by cases hb) ?_
 refine SR.gtake (v := undef) 6 G kR kR kR G (fun _ _ _ _ h => h) G G G G G (fun hb => by cases hb) ?_
 refine SR.gtake (v := undef) 7 G kR kR kR G (fun _ _ _ _ h => h) G G G G G (fun hb => by cases hb) ?_
 refine SR.gtake (v := undef) 8 G kR kR kR G (fun _ _ _ _ h => h) G G G G G (fun hb => by cases hb) ?_
 refine SR.gtake (v := undef) 9 G kR kR kR G (fun _ _ _ _ h => h) G G G G G (fun hb => by cases hb) ?_
 refine SR.gtake (v := undef) 10 G kR kR kR G (fun _ _ _ _ h => h) G G G G G (fun hb => by cases hb) ?_
 refine SR.gtake (v := undef) 11 G kR kR kR G (fun _ _ _ _ h => h) G G G G G (fun hb => by cases hb) ?_
 refine SR.gtake (v := undef) 12 G kR kR kR G (fun _ _ _ _ h => h) G G G G G (fun hb => by cases hb) ?_
 refine SR.z 13 G G (ev_pickf G G G G) ?_
 refine SR.fin kR hl_16 hx_16 hR_16 .n ?_
 refine SQ.go idQ ?_
 refine .cond_f G ?_
 refine .skipgo idQ (.seq ?_)
 refine SC.draw mo [cel wb [.slice oA on oc, .slice iA ik ic, .slice kA kn kc, .slice gA gn gc] 67, rw_ eLK 44 (.slice kA kn kc) K] [(10, fun w => At w wb 0 [.slice oA on oc, .slice iA ik ic, .slice kA kn kc, .slice gA gn gc])] (.c (.t .h) (.c (.t2 (.t .h)) .n)) (fun w_ _ hw_ => (sc1 (At.whole 0 G w_ hw_) sc0)) (fun wf_17 hl_17 hx_17 hR_17 => ?_)
 refine SR.m 0 G G G G ?_
 refine SR.m 1 G G G G ?_
 refine SR.z 2 G G (ev_nil G G) ?_
 refine SR.z 3 G G (ev_fa G fo67_2 G (r := 2) G) ?_
 refine SR.z 4 G G (ev_ld1 G ty41 G (At.elem1 (v := .slice kA kn kc) (At.ofcs 0 G kR) 2 G)) ?_
 refine SR.z 5 G G (ev_lda (cs := [.int .i64 k.lf, .int .i64 k.lt, .int .i64 k.lw, .int .i64 k.lm]) G G (At.d (At.lent hR_17 0 G G)) ty44) ?_
 refine SR.o 6 G (st_lit eLK (e := 44) (l := [k]) G G G G kR G G kW (fun b18 => ⟨ttw 1 G, ?_⟩))
 refine SR.o 7 G (st_app (E := eLK) (m := [k]) G G G G underlying41 ai44 G G G (.t2 .h) rO (row_src 0 G) lO G (fun v19 => ⟨ttw 2 G, ?_⟩))
 refine SR.z 8 G G (ev_nil G G) ?_
 refine SR.z 9 G G (ev_fa G fo67_2 G (r := 2) G) ?_
 refine .know (row_len 0 G) (fun hv22 => ?_)
 obtain ⟨A20, c21, rfl, hv22_1, hv22_2⟩ := hv22
 unfold maxLen at hv22_2
 refine SR.o 10 G (st_store1 G G G ty41 G G G (.t2 .h) (.t2 .h) ⟨ttc (fun w_ hw_ => (tc2 kR tc0)), ?_⟩)
 refine SR.fin kR hl_17 hx_17 hR_17 (.c (.c (.c .n))) ?_
 refine SQ.go idQ ?_
 refine SC.outM k.lf oO oO (.t4 (.t2 .h)) ?_
 refine SC.outM k.lt oO oO (.t4 (.t4 .h)) ?_
 refine SC.draw mo [mp keZ.f (.int .i64) ((gt MI k.lt).mb) ((gt MI k.lt).mm), mp keZ.f (.int .i64) ((gt MO k.lf).mb) ((gt MO k.lf).mm)] [] (.c .h (.c (.t .h) .n)) (fun _ _ _ => sc0) (fun wf_23 hl_23 hx_23 hR_23 => ?_)
 refine SR.m 0 G G G G ?_
 refine SR.z 1 G G (ev_nil G G) ?_
 refine SR.z 2 G G (ev_fa G fo67_0 G (r := 0) G) ?_
 refine SR.z 3 G G (ev_ld1 G ty65 G (At.d (At.lent hR_23 2 G G))) ?_
 refine SR.z 4 G G (ev_fa G fo44_0 G (r := 0) G) ?_
 refine SR.z 5 G G (ev_ld1 G ty3 G (At.d (At.lent hR_23 5 G G))) ?_
 refine SR.z 6 G G (ev_ix G underlying65 ty68 G G oO oO (fun _ _ => Fr.adr (i := k.lf) (Fr.lent (S := S) hR_23 6 G lO) oO oO)) ?_
 refine SR.z 7 G G (ev_ld1 G ty68 G (At.elem1 (At.d (Fr.el (i := k.lf) (Fr.lent (S := S) hR_23 6 G lO) oO oO)) 0 G)) ?_
 refine SR.z 8 G G (ev_fa G fo44_1 G (r := 1) G) ?_
 refine SR.z 9 G G (ev_ld1 G ty3 G (At.d (At.lent hR_23 5 G G))) ?_
 refine SR.m 10 G G G G ?_
 refine SR.z 11 G G (ev_nil G G) ?_
 refine SR.z 12 G G (ev_fa G fo67_1 G (r := 1) G) ?_
 refine SR.z 13 G G (ev_ld1 G ty65 G (At.d (At.lent hR_23 2 G G))) ?_
 refine SR.z 14 G G (ev_fa G fo44_1 G (r := 1) G) ?_
 refine SR.z 15 G G (ev_ld1 G ty3 G (At.d (At.lent hR_23 5 G G))) ?_
 refine SR.z 16 G G (ev_ix G underlying65 ty68 G G oO oO (fun _ _ => Fr.adr (i := k.lt) (Fr.lent (S := S) hR_23 7 G lO) oO oO)) ?_
 refine SR.z 17 G G (ev_ld1 G ty68 G (At.elem1 (At.d (Fr.el (i := k.lt) (Fr.lent (S := S) hR_23 7 G lO) oO oO)) 0 G)) ?_
 refine SR.z 18 G G (ev_fa G fo44_0 G (r := 0) G) ?_
 refine SR.z 19 G G (ev_ld1 G ty3 G (At.d (At.lent hR_23 5 G G))) ?_
 refine SR.m 20 G G G G ?_
 refine SR.z 21 G G (ev_nil G G) ?_
 refine SR.z 22 G G (ev_fa G fo67_2 G (r := 2) G) ?_
 refine SR.z 23 G G (ev_ld1 G ty41 G (At.d (At.lent hR_23 2 G G))) ?_
 refine SR.z 24 G G (ev_len G underlying41 G) ?_
 refine SR.z 25 G G (ev_sub G G G (r := ((((K ++ [k]).length : Nat) : Int) - 1)) G oO oO) ?_
 refine SR.m 26 G G G G ?_
 refine SR.z 27 G G (ev_nil G G) ?_
 refine SR.z 28 G G (ev_fa G fo67_2 G (r := 2) G) ?_
 refine SR.z 29 G G (ev_ld1 G ty41 G (At.d (At.lent hR_23 2 G G))) ?_
 refine SR.z 30 G G (ev_len G underlying41 G) ?_
 refine SR.z 31 G G (ev_sub G G G (r := ((((K ++ [k]).length : Nat) : Int) - 1)) G oO oO) ?_
 refine SR.o 32 G (st_mapEntry keZ (x := k.lt) (z := 0) G G G G underlying68 zv3 G G (.t .h) (fun u24 n25 => ⟨tt0, ?_⟩))
 refine SR.z 33 G G (ev_ext G G G) ?_
 refine SR.o 34 G (st_entryStore keZ (u := undef) (x := k.lt) (v := ((((K ++ [k]).length : Nat) : Int) - 1)) G G G G G G .h ⟨tt0, ?_⟩)
 refine SR.o 35 G (st_mapEntry keZ (x := k.lf) (z := 0) G G G G underlying68 zv3 G G (.t .h) (fun u26 n27 => ⟨tt0, ?_⟩))
 refine SR.z 36 G G (ev_ext G G G) ?_
 refine SR.o 37 G (st_entryStore keZ (u := undef) (x := k.lf) (v := ((((K ++ [k]).length : Nat) : Int) - 1)) G G G G G G .h ⟨tt0, ?_⟩)
 refine SR.fin kR hl_23 hx_23 hR_23 (.c (.c .n)) ?_
 exact SQ.inM k.lf oO oO (.c (.t .h) (.c (.t2 .h) (.c (.t4 (.t2 .h)) .n))) <| SQ.inM k.lt oO oO (.c (.t2 .h) (.c (.t2 .h) (.c (.t4 (.t2 .h)) .n))) <| (end0 results31 (.c (.t4 .h) (.c (.t2 (.t .h)) (.c (.t .h) (.c (.t2 .h) (.c (.t .h) (.c .h .n)))))) ⟨.slice A20 ((K ++ [k]).length) c21, (MO.set (k.lf).toNat (MB.mk (gt MO k.lf).mb (mset (mins ((gt MO k.lf).mm) k.lt 0) k.lt ((((K ++ [k]).length : Nat) : Int) - 1)))), (MI.set (k.lt).toNat (MB.mk (gt MI k.lt).mb (mset (mins ((gt MI k.lt).mm) k.lf 0) k.lf ((((K ++ [k]).length : Nat) : Int) - 1)))), (K ++ [k]), (by rw [mset_mins, mset_mins]; exact link_new (fun h_ => by rw [hm] at h_; cases h_.1) (by rw [List.length_append, List.length_singleton]; omega)), (List.length_set ..), (List.length_set ..), G, G⟩)
end Go.Proofs.Ytpjblnmophcdmaa.Sx
set_option maxRecDepth 20000
set_option maxHeartbeats 8000000
namespace Go.Proofs.Ytpjblnmophcdmaa.Sx.FP
open Go Go.SX Go.Proofs Go.Proofs.Try FA FB FC FD FE FF FG FH FI FJ FK FL FM FN FO
theorem hbd34 : hasBody prog 34 = true := by kernel_rfl
theorem zf44 : (prog.info? 44).bind (fun i => i.zero.map Value.cells) = some (List.toArray [.int .i64 0, .int .i64 0, .int .i64 0, .int .i64 0]) := by kernel_rfl
theorem hbd31 : hasBody prog 31 = true := by kernel_rfl
end Go.Proofs.Ytpjblnmophcdmaa.Sx.FP
namespace Go.Proofs.Ytpjblnmophcdmaa.Sx
open Go Go.SX Go.Proofs Go.Proofs.Try FA FB FC FD FE FF FG FH FI FJ FK FL FM FN FO FP
theorem next_ (n : Int) (W : Int) (wb : Nat) (oA : Option Addr) (on : Nat) (oc : Nat) (MO : List MB) (iA : Option Addr) (ik : Nat) (ic : Nat) (MI : List MB) (kA : Option Addr) (kn : Nat) (kc : Nat) (K : List LK) (gA : Option Addr) (gn : Nat) (gc : Nat) (g : List Bool) (qb : Nat) (qA : Option Addr) (qn : Nat) (qc : Nat) (l : List EN) (pb : Nat) (m : List (Int × Int)) (S : Nat → Prop) (wf : World) (hG : GOK n (GS.mk (mmL MO) (mmL MI) K g)) (hls : MO.length = on ∧ MI.length = ik ∧ K.length = kn ∧ g.length = gn) (hW : WB (GS.mk (mmL MO) (mmL MI) K g) W) (hW2 : 0 ≤ W ∧ 2 * W ≤ 10000000000000000) (hkb : kn ≤ 50000) (hqn : l.length = qn) (hq0 : 0 < qn) (hqq : QQ l m) (hqd : ∀ x k, kq l x = some k → (0 ≤ x ∧ x < n) ∧ -10000 ≤ k ∧ k ≤ 10000) :
  TR0 prog 35 [.pointer (some ⟨wb, 0, none⟩), .pointer (some ⟨qb, 0, none⟩)] [cel wb [.slice oA on oc, .slice iA ik ic, .slice kA kn kc, .slice gA gn gc] 67, rw_ eMB 68 (.slice oA on oc) MO, rw_ eMB 68 (.slice iA ik ic) MI, rw_ eLK 44 (.slice kA kn kc) K, nestM MO, nestM MI, rw_ eB 4 (.slice gA gn gc) g, cel qb [.slice qA qn qc, .map (some pb)] 113, rw_ eEN 115 (.slice qA qn qc) l, mp keZ.f (.int .i64) pb m] S wf (fun v_ C_ => ∃ (u : Value) (MO2 : List MB) (MI2 : List MB) (K2 : List LK) (r : Int) (v : Value) (l2 : List EN) (m2 : List (Int × Int)), (NX (kq l) (GS.mk (mmL MO) (mmL MI) K g) r (kq l2) (GS.mk (mmL MO2) (mmL MI2) K2 (g.set r.toNat true))) ∧ (QQ l2 m2) ∧ (0 ≤ r ∧ r < n) ∧ v_ = .int .i64 r ∧ C_ = [cel wb [.slice oA on oc, .slice iA ik ic, u, .slice gA gn gc] 67, rw_ eMB 68 (.slice oA on oc) MO2, rw_ eMB 68 (.slice iA ik ic) MI2, rw_ eLK 44 (u) K2, nestM MO2, nestM MI2, rw_ eB 4 (.slice gA gn gc) (g.set (r).toNat true), cel qb [v, .map (some pb)] 113, rw_ eEN 115 (v) l2, mp keZ.f (.int .i64) pb m2]) := by
 have hGn := hG.n1
 have hGo : (MO.length : Int) = n := by rw [← mmL_len (l := MO)]; exact hG.lo
 have hGi : (MI.length : Int) = n := by rw [← mmL_len (l := MI)]; exact hG.li
 have hGg : (g.length : Int) = n := hG.lg
 refine TR.mk func35 G ntmps35 G G (fun w_ => ?_)
 refine .seq (.region (.a G G G (.go idQ (.block (.loop (X := (List EN) × Value × (List (Int × Int))) (fun ⟨Y, u_Y, ym⟩ => (∀ r f2 G2, NX (kq Y) (GS.mk (mmL MO) (mmL MI) K g) r f2 G2 → NX (kq l) (GS.mk (mmL MO) (mmL MI) K g) r f2 G2) ∧ QQ Y ym ∧ 0 < Y.length ∧ (∀ x k, kq Y x = some k → (0 ≤ x ∧ x < n) ∧ -10000 ≤ k ∧ k ≤ 10000)) (fun ⟨Y, u_Y, ym⟩ => [(0, .pointer (some ⟨wb, 0, none⟩)), (1, .pointer (some ⟨qb, 0, none⟩))]) (fun ⟨Y, u_Y, ym⟩ => [cel wb [.slice oA on oc, .slice iA ik ic, .slice kA kn kc, .slice gA gn gc] 67, rw_ eMB 68 (.slice oA on oc) MO, rw_ eMB 68 (.slice iA ik ic) MI, rw_ eLK 44 (.slice kA kn kc) K, nestM MO, nestM MI, rw_ eB 4 (.slice gA gn gc) g, cel qb [u_Y, .map (some pb)] 113, rw_ eEN 115 (u_Y) Y, mp keZ.f (.int .i64) pb ym]) (fun _ => S) (fun _ => wf) (fun ⟨Y, u_Y, ym⟩ => stl (GS.mk (mmL MO) (mmL MI) K g) (kq Y)) (fun a_ w_ hs_ hw_ => ⟨⟨l, .slice qA qn qc, m⟩, (by (try dsimp only); exact ⟨(fun _ _ _ h_ => h_), hqq, oO, hqd⟩), hs_.mono (Sub.get (.c G (.c G .n))), hw_.keep (.d (.d (.d (.d (.d .n)))))⟩) (fun ⟨Y, u_Y, ym⟩ ⟨q_0, q_1, q_2, q_3⟩ => ?_))))))
 try dsimp only
 have hyl := kq_len q_1.qi (fun x_ k_ hk_ => (q_3 x_ k_ hk_).1) oO
 refine .block (.seq (.region (.m G G G (.know (row_len 8 G) (fun hv3 => ?_)))))
 obtain ⟨A1, c2, rfl, hv3_1, hv3_2⟩ := hv3
 unfold maxLen at hv3_2
 refine .cons (st_call0 G G G G hbd61 G (.c (.t4 (.t2 (.t .h))) (.c (.t4 (.t2 (.t .h))) (.c (.t4 (.t2 (.t .h))) .n))) (qtake_ qb A1 Y.length c2 Y pb ym _ _ lO G lO q_1) (fun v_q8 C_q8 q8 => ?_))
 obtain ⟨x4, d5, l26, m27, p9, p10, p11, p12, rfl, rfl⟩ := q8
 show SP _ _ _ _ _ _ ⟨_, _ :: _ :: _ :: _, _, _⟩
 obtain ⟨p, hp_⟩ : ∃ p, p = x4 := ⟨_, rfl⟩
 subst hp_
 obtain ⟨key, hd_⟩ : ∃ d, d = d5 := ⟨_, rfl⟩
 subst hd_
 have hpr := q_3 p key p9.1
 refine .m G G G (.x G G G G (.x G G G G (.x G G G G ?_)))
 refine .a G G G (.a G G G (.a G G G (.go idQ (.seq (.seq (.region ?_))))))
 refine .m G G G (.m G G G (.cons (st_lendk G G G G hbd34 G (.c (.t2 (.t .h)) .n) (.c (.t2 (.t .h)) (.c (.t2 (.t .h)) (.c (.t2 (.t .h)) (.c (.t4 (.t .h)) (.c (.t2 (.t .h)) (.c (.t2 (.t .h)) .n)))))) (fun w_ hw => price_ n wb oA on oc MO iA ik ic MI kA kn kc K gA gn gc g p _ _ (Fr.lend hw 0 G lO) (Fr.lend hw 1 G lO) (Fr.lend hw 2 G lO) (Fr.lend hw 3 G lO) (MPF.lend hw 4 G) (MPF.lend hw 5 G) hG oO oO) (.a G G G ?_))))
 refine .go idQ (.seq ?_)
 have hpb := pr_bd (p := p) hG
 refine .region (.m G G G (.m G G G (.e G G G G G ?_)))
 refine .m G G G (.w (fun _ => ev_mv G G) G (.cons (st_gcallk G G G G G G hbd57 (fun hb => (lkA1 (lkg G hb) lkA0)) (.d (.c .h .n)) (fun hb => have hp := bT bD hb; qlen_ qb A1 (Y.length - 1) c2 l26 pb m27 _ _ p12) (.w (fun hb => ev_cmp G (lkg G hb) G G) G ?_))))
 refine .v (ev_and G G G G) G (.go idQ (.condI G (bA bD bD) (fun h13 => ?_) (fun h13 => ?_)))
 ·
  refine .seq (.region (.m G G G (.m G G G (.m G G G ?_))))
  refine .cons (st_call0 G G G G hbd33 G (.d (.c .h .n)) (qput_ qb A1 (Y.length - 1) c2 l26 pb m27 p (prG (GS.mk (mmL MO) (mmL MI) K g) p) _ _ p12 lO p11) (fun v_q18 C_q18 q18 => ?_))
  obtain ⟨u14, r15, l216, m217, p19, p20, p21, rfl, rfl⟩ := q18
  show SP _ _ _ _ _ _ ⟨_, _ :: _ :: _ :: _, _, _⟩
  refine .go idQ (.exitq idQ (SQ.roundb (X := (List EN) × Value × (List (Int × Int))) (x := (Y, (.slice A1 Y.length c2), ym)) ⟨l216, u14, m217⟩ (by (try dsimp only); exact ⟨(fun r_ f_ g_ h_ => q_0 r_ f_ g_ (.again p9 h13.1 (by obtain ⟨x_, k_, hx_⟩ := kq_some p11.qi oO; exact ⟨x_, by rw [← p10, hx_]; simp⟩) (by rw [p20, p10] at h_; exact h_))), p19, (nx_pos p19.qi p20), (nx_dom q_3 p10 p20 hpr.1 hpb)⟩) (stl_lt p9 oO h13.1 (by rw [p20, p10])) (Sub.get (.c rfl (.c rfl .n))) (kp (.c (.t2 (.t .h)) (.c (.t2 (.t .h)) (.c (.t2 (.t .h)) (.c (.t2 (.t .h)) (.c (.t2 (.t .h)) (.c (.t2 (.t .h)) (.c (.t2 (.t .h)) (.d (.c .h .n))))))))))))
 refine .skipgo idQ (.seq (.seq (.region (.m G G G (.m G G G (.cons (st_lend0 G G G G hbd60 G (.c (.t2 (.t .h)) .n) (.c (.t2 (.t .h)) (.c (.t2 (.t .h)) (.c (.t2 (.t .h)) (.c (.t4 (.t .h)) (.c (.t2 (.t .h)) (.c (.t2 (.t .h)) .n)))))) (fun w_ hw => shct_ n wb oA on oc MO iA ik ic MI kA kn kc K gA gn gc g p _ _ (Fr.lend hw 0 G lO) (Fr.lend hw 1 G lO) (Fr.lend hw 2 G lO) (Fr.lend hw 3 G lO) (MPF.lend hw 4 G) (MPF.lend hw 5 G) hG oO oO) (fun v_q23 C_q23 q23 => ?_))))))))
 obtain ⟨u22, rfl, rfl⟩ := q23
 show SP _ _ _ _ _ _ ⟨_, _ :: _ :: _ :: _ :: _ :: _ :: _ :: _ :: _, _, _⟩
 refine .know (row_len 1 G) (fun hv26 => ?_)
 obtain ⟨A24, c25, rfl, hv26_1, hv26_2⟩ := hv26
 unfold maxLen at hv26_2
 refine .g underlying41 G G G (.m G G G (.go idQ (.block (.loop (X := Int × (List LK) × Value × (List MB) × (List MB)) (fun ⟨i, KK, u_KK, M1, M2⟩ => 0 ≤ i ∧ i ≤ ((scG (GS.mk (mmL MO) (mmL MI) K g) p).length : Int) ∧ GS.mk (mmL M1) (mmL M2) KK g = linksG (GS.mk (mmL MO) (mmL MI) K g) ((scG (GS.mk (mmL MO) (mmL MI) K g) p).take i.toNat) ∧ M1.length = on ∧ M2.length = ik) (fun ⟨i, KK, u_KK, M1, M2⟩ => [(0, .pointer (some ⟨wb, 0, none⟩)), (1, .pointer (some ⟨qb, 0, none⟩)), (5, .int .i64 p), (34, .slice A24 ((scG (GS.mk (mmL MO) (mmL MI) K g) p).length) c25), (35, .int .i64 (((scG (GS.mk (mmL MO) (mmL MI) K g) p).length : Nat) : Int)), (36, .int .i64 i)]) (fun ⟨i, KK, u_KK, M1, M2⟩ => [cel wb [.slice oA on oc, .slice iA ik ic, u_KK, .slice gA gn gc] 67, rw_ eLK 44 (.slice A24 ((scG (GS.mk (mmL MO) (mmL MI) K g) p).length) c25) (scG (GS.mk (mmL MO) (mmL MI) K g) p), rw_ eMB 68 (.slice oA on oc) M1, rw_ eMB 68 (.slice iA ik ic) M2, rw_ eLK 44 (u_KK) KK, rw_ eB 4 (.slice gA gn gc) g, nestM M1, nestM M2, cel qb [.slice A1 (Y.length - 1) c2, .map (some pb)] 113, rw_ eEN 115 (.slice A1 (Y.length - 1) c2) l26, mp keZ.f (.int .i64) pb m27]) (fun _ => S) (fun _ => wf) (fun ⟨i, KK, u_KK, M1, M2⟩ => (((scG (GS.mk (mmL MO) (mmL MI) K g) p).length : Int) - i).toNat) (fun a_ w_ hs_ hw_ => ⟨⟨0, K, .slice kA kn kc, MO, MI⟩, (by (try dsimp only); exact ⟨oO, oO, (by rfl), oO, oO⟩), hs_.mono (Sub.get (.c4 G G G G (.c G (.c G .n)))), hw_.keep (.d (.d (.d (.d (.d (.c .h .n))))))⟩) (fun ⟨i, KK, u_KK, M1, M2⟩ ⟨r_0, r_1, r_2, r_3, r_4⟩ => ?_)))))
 try dsimp only
 have hsk := sc_kok hG hW hW2.1 (p := p)
 have hsl := scG_len hG p
 have hlo := links_ok (n := n) (W := 2 * W) (l := (scG (GS.mk (mmL MO) (mmL MI) K g) p).take i.toNat) hG (fun k_ hk_ => Int.le_trans (hW k_ hk_) oO) oO (fun k_ hk_ => hsk k_ (List.mem_of_mem_take hk_))
 have hGi := hlo.1
 rw [← r_2] at hGi
 have hkk := hlo.2.2.1
 rw [← r_2, List.length_take] at hkk
 have hkk2 : KK.length ≤ K.length + 1024 := by have h_ : KK.length ≤ K.length + min i.toNat ((scG (GS.mk (mmL MO) (mmL MI) K g) p).length) := hkk; omega
 refine .seq (.region (.e G G G G G (.go idQ (.seq (.condI G bD (fun h27 => ?_) (fun h27 => ?_))))))
 ·
  refine .skipgo idQ (.seq (.block (.seq (.region (.v (ev_ix G underlying41 ty44 G G oO oO (row_adr (i := i) 1 G oO lO)) G (.v (ev_lda G G (row_el (E := eLK) (l := (scG (GS.mk (mmL MO) (mmL MI) K g) p)) (i := i) 1 G oO lO) ty44) G (.cons (st_alloc G G G G zf44 (fun b28 => ?_)))))))))
  refine .cons (st_storea (l' := [.int .i64 ((gt (scG (GS.mk (mmL MO) (mmL MI) K g) p) i).lf), .int .i64 ((gt (scG (GS.mk (mmL MO) (mmL MI) K g) p) i).lt), .int .i64 ((gt (scG (GS.mk (mmL MO) (mmL MI) K g) p) i).lw), .int .i64 ((gt (scG (GS.mk (mmL MO) (mmL MI) K g) p) i).lm)]) G G G ty44 G G G .h G G ?_)
  refine .go idQ (.region (.m G G G (.d 0 ty44 G G G G (.know (row_len 5 G) (fun hv31 => ?_)))))
  obtain ⟨A29, c30, rfl, hv31_1, hv31_2⟩ := hv31
  unfold maxLen at hv31_2
  refine .cons (st_call0 G G G G hbd31 G (.c (.t .h) (.c (.t2 .h) (.c (.t2 .h) (.c (.t2 .h) (.c (.t2 (.t .h)) (.c (.t2 (.t .h)) .n)))))) (link_ n wb oA on oc M1 iA ik ic M2 A29 KK.length c30 KK gA gn gc g (gt (scG (GS.mk (mmL MO) (mmL MI) K g) p) i) _ _ hGi oO (hsk _ (gtM oO oO)).1 oO) (fun v_q36 C_q36 q36 => ?_))
  obtain ⟨u32, MO233, MI234, K235, p37, p38, p39, rfl, rfl⟩ := q36
  show SP _ _ _ _ _ _ ⟨_, _ :: _ :: _ :: _ :: _ :: _ :: _, _, _⟩
  refine .go idQ (.region (.p ((i + 1)) oO oO G G G G G (.m G G G ?_)))
  exact SP.nil (SQ.roundb (X := Int × (List LK) × Value × (List MB) × (List MB)) (x := (i, KK, (.slice A29 KK.length c30), M1, M2)) ⟨(i + 1), K235, u32, MO233, MI234⟩ (by (try dsimp only); exact ⟨oO, oO, (links_next r_2 oO oO p37), (p38.trans r_3), (p39.trans r_4)⟩) dO (Sub.get (.c4 G G G G (.c G (.c G .n)))) (kp (.c .h (.c (.t4 (.t2 .h)) (.d (.c .h (.c (.t2 (.t .h)) (.d (.c (.t .h) (.c (.t .h) (.c (.t .h) .n)))))))))))
 refine .exit idQ ?_
 refine .seq (.region (.m G G G (.v (ev_nil G G) G (.f fo67_3 3 G G G G ?_))))
 refine .l ty64 0 G G G G G (.m G G G (.v (ev_ix G underlying64 ty4 G G oO oO (row_adr (i := p) 5 G oO oO)) G (.cons (st_setel (E := eB) (i := p) (cs := [.bool true]) (off := 0) true G G G ty4 G G G G G (.t4 (.t .h)) lO lO (Nat.le_of_ble_eq_true G) G ?_))))
 refine .go idQ (.seq (.region (.m G G G (.a G G G (.go idQ ?_)))))
 exact .ret idQ (ret1 results35 rfl (.c (.t .h) (.c (.t2 .h) (.c (.t2 .h) (.c (.t2 .h) (.c (.t2 .h) (.c (.t2 .h) (.c .h (.c (.t .h) (.c (.t .h) (.c (.t .h) .n)))))))))) ⟨u_KK, M1, M2, KK, p, .slice A1 (Y.length - 1) c2, l26, m27, (q_0 _ _ _ (nx_take p9 (fun h_ => h13 ⟨h_.1, by obtain ⟨x_, hx_⟩ := h_.2; rw [← p10] at hx_; exact nx_some hx_ p12⟩) p10 (by rw [← List.take_of_length_le (l := (scG (GS.mk (mmL MO) (mmL MI) K g) p)) (i := i.toNat) oO, ← r_2]; rfl))), p11, hpr.1, rfl, rfl⟩)
end Go.Proofs.Ytpjblnmophcdmaa.Sx
