import Derived.Test.YtlefdinbbjiabaaProg
import Derived.Test.YtlefdinbbjiabaaS3
set_option linter.unusedVariables false
set_option linter.unusedSimpArgs false
set_option linter.unusedSectionVars false
set_option maxRecDepth 20000
set_option maxHeartbeats 1000000
namespace Go.Proofs.Ytlefdinbbjiabaa.Sx.FB
open Go Go.SX Go.Proofs Go.Proofs.Try FA FB
theorem fo24_0 : fo prog 24 0 = some 0 := by kernel_rfl
theorem fo24_1 : fo prog 24 1 = some 1 := by kernel_rfl
theorem ty22 : ty prog 22 = some (false, 1) := by kernel_rfl
theorem ty47 : ty prog 47 = some (true, 4) := by kernel_rfl
theorem zf47 : (prog.info? 47).bind (fun i => i.zero.map Value.cells) = some (List.toArray [.int .i64 0, .int .i64 0, .int .i64 0, .int .i64 0]) := by kernel_rfl
theorem fo47_0 : fo prog 47 0 = some 0 := by kernel_rfl
theorem hbd47 : hasBody prog 47 = true := by kernel_rfl
theorem fo47_1 : fo prog 47 1 = some 1 := by kernel_rfl
theorem zf24 : (prog.info? 24).bind (fun i => i.zero.map Value.cells) = some (List.toArray [.int .i64 0, .slice none 0 0]) := by kernel_rfl
theorem ai47 : (prog.info? 47).map (fun i => (i.zero, i.size, i.bytes)) = some (some (.agg #[.int .i64 0, .int .i64 0, .int .i64 0, .int .i64 0]), 4, 32) := by kernel_rfl
theorem ty24 : ty prog 24 = some (true, 2) := by kernel_rfl
theorem zf29 : (prog.info? 29).bind (fun i => i.zero.map Value.cells) = some (List.toArray [.int .i64 0, .slice none 0 0]) := by kernel_rfl
theorem ty29 : ty prog 29 = some (true, 2) := by kernel_rfl
theorem fo29_1 : fo prog 29 1 = some 1 := by kernel_rfl
theorem ty27 : ty prog 27 = some (false, 1) := by kernel_rfl
theorem ai3 : (prog.info? 3).map (fun i => (i.zero, i.size, i.bytes)) = some (some (.int .i64 0), 1, 8) := by kernel_rfl
theorem fo29_0 : fo prog 29 0 = some 0 := by kernel_rfl
theorem mo : prog.follows .mixedOrders = true := by kernel_rfl
end Go.Proofs.Ytlefdinbbjiabaa.Sx.FB
namespace Go.Proofs.Ytlefdinbbjiabaa.Sx
open Go Go.SX Go.Proofs Go.Proofs.Try FA FB
theorem rdchk_ (n : Int) (A : Option Addr) (c : Nat) (l : List AR) (S : Nat → Prop) (wf : World) (hA : Fr eAR S wf A l) :
  TR0 prog 35 [.agg #[.int .i64 n, .slice A l.length c]] [] S wf (fun v_ C_ => ∃ (x : Int) (e : Int), ((e = 0 ∧ RoadOk n l) ∨ (e ≠ 0 ∧ ¬ RoadOk n l)) ∧ v_ = .tuple #[.int .i64 x, .int .i64 e] ∧ C_ = []) := by
 have hla := hA.len
 refine TR.mk func35 G ntmps35 G G (fun w_ => ?_)
 refine .seq (.region (.cons (st_boxa G G G G G (fun b1 => (.a G G G (.a G G G ?_))))))
 refine .go idQ (.seq (.seq (.region (.f fo24_0 0 G G G G (.l ty3 0 G G G G G (.e G G G G G ?_))))))
 refine .m G G G (.w (fun _ => ev_fa G fo24_0 G (r := 0) G) G (.w (fun hb => ev_ld1 G ty3 (lkg G hb) (At.own1 0 G G)) G (.w (fun hb => ev_cmp G (lkg G hb) G G) G ?_)))
 refine .r G G G G G (.m G G G (.w (fun _ => ev_fa G fo24_1 G (r := 1) G) G (.w (fun hb => ev_ld1 G ty22 (lkg G hb) (At.own1 0 G G)) G ?_)))
 refine .w (fun hb => ev_len G underlying22 (lkg G hb)) G (.w (fun hb => ev_cmp G (lkg G hb) G G) G (.r G G G G G (.go idQ ?_)))
 refine .condI G (bO (bO bD bD) bD) (fun h2 => ?_) (fun h2 => ?_)
 ·
  refine .seq (.region (.a G G G (.a G G G (.go idQ ?_))))
  exact .ret idQ (ret2 results35 G G .n ⟨(-1), 2, (.inr ⟨by decide, fun hR => by have h1 := hR.pl; have h2 := hR.len; omega⟩), G, G⟩)
 refine .skipgo idQ (.seq (.region (.a G G G (.go idQ (.seq (.seq (.region (.f fo24_1 1 G G G G ?_))))))))
 refine .l ty22 0 G G G G G (.g underlying22 G G G (.m G G G (.go idQ (.block ?_))))
 refine .loop (X := Int) (fun i => 0 ≤ i ∧ i ≤ (l.length : Int) ∧ (∀ j : Int, 0 ≤ j → j < i → arcOk n (gt l j))) (fun i => [(1, .pointer (some ⟨b1, 0, none⟩)), (4, .func (.func 47) #[] #[]), (22, .slice A l.length c), (23, .int .i64 (l.length : Int)), (24, .int .i64 i)]) (fun i => [cel b1 [.int .i64 n, .slice A l.length c] 24]) (fun _ => S) (fun _ => wf) (fun i => ((l.length : Int) - i).toNat) (fun a_ w_ hs_ hw_ => ⟨0, (by (try dsimp only); exact ⟨oO, oO, (fun j j0 j1 => absurd j1 oO)⟩), hs_.mono (Sub.get (.c4 G G G G (.c G .n))), hw_.keep (.c .h .n)⟩) (fun i ⟨q_0, q_1, q_2⟩ => ?_)
 try dsimp only
 refine .seq (.region (.e G G G G G (.go idQ (.seq (.condI G bD (fun h3 => ?_) (fun h3 => ?_))))))
 ·
  refine .skipgo idQ (.seq (.block (.seq (.region (.m G G G (.v (ev_ix G underlying22 ty47 G G oO oO (fun _ _ => Fr.adr (i := i) hA oO oO)) G (.v (ev_lda G G (At.w (Fr.el (i := i) hA oO oO)) ty47) G ?_)))))))
  refine .cons (st_alloc G G G G zf47 (fun b4 => ?_))
  refine .a G G G (.cons (st_storea (l' := [.int .i64 ((gt l i).fr), .int .i64 ((gt l i).to), .int .i64 ((gt l i).tm), .int .i64 ((gt l i).ds)]) G G G ty47 G G G .h G G (.go idQ (.block (.seq (.region (.m G G G ?_)))))))
  refine .f fo47_0 0 G G G G (.l ty3 0 G G G G G (.f fo24_0 0 G G G G (.l ty3 1 G G G G G ?_)))
  refine .v (ev_sub G G G (r := (n - 1)) G oO oO) G (.cons (.viafun G G (st_callk G G G G hbd47 G .n (in_ ((gt l i).fr) (n - 1) _ _) (.v (ev_not G G) G (.m G G G ?_)))))
  refine .w (fun _ => ev_mv G G) G (.w (fun _ => ev_fa G fo47_1 G (r := 1) G) G (.w (fun hb => ev_ld1 G ty3 (lkg G hb) (At.own1 0 G G)) G (.w (fun _ => ev_fa G fo24_0 G (r := 0) G) G ?_)))
  refine .w (fun hb => ev_ld1 G ty3 (lkg G hb) (At.own1 1 G G)) G (.w (fun hb => have hp := bF (bN (bA bD bD)) hb; ev_sub G (lkg G hb) G (r := (n - 1)) G (by have _h := hp; omega) (by have _h := hp; omega)) G (.cons (st_gcallkf G G G G G G (fun hb => (lkg G hb)) hbd47 (fun hb => (lkA1 (lkg G hb) (lkA1 (lkg G hb) lkA0))) .n (fun hb => have hp := bF (bN (bA bD bD)) hb; in_ ((gt l i).to) (n - 1) _ _) (.w (fun hb => ev_not G (lkg G hb)) G ?_))))
  refine .r G G G G G (.a G G G (.go idQ (.condI G (bO (bN (bA bD bD)) (bN (bA bD bD))) (fun h5 => ?_) (fun h5 => ?_))))
  ·
   refine .seq (.region (.m G G G (.a G G G (.a G G G ?_))))
   refine .go idQ (.ret idQ (ret2 results35 G G .n ⟨i, 44, (.inr ⟨by decide, fun hR => by have h1 := hR.arc i oO oO; unfold arcOk at h1; omega⟩), G, G⟩))
  refine .seq (.region (.m G G G (.f fo47_2 2 G G G G (.l ty3 0 G G G G G ?_))))
  refine .cons (.viafun G G (st_callk G G G G hbd47 G .n (in_ ((gt l i).tm) 1000000 _ _) ?_))
  refine .v (ev_not G G) G (.m G G G (.w (fun _ => ev_mv G G) G (.w (fun _ => ev_fa G fo47_3 G (r := 3) G) G ?_)))
  refine .w (fun hb => ev_ld1 G ty3 (lkg G hb) (At.own1 0 G G)) G (.cons (st_gcallkf G G G G G G (fun hb => (lkg G hb)) hbd47 (fun hb => (lkA1 (lkg G hb) (lkA1 G lkA0))) .n (fun hb => have hp := bF (bN (bA bD bD)) hb; in_ ((gt l i).ds) 1000000 _ _) (.w (fun hb => ev_not G (lkg G hb)) G (.r G G G G G ?_))))
  refine .a G G G (.go idQ (.condI G (bO (bN (bA bD bD)) (bN (bA bD bD))) (fun h6 => ?_) (fun h6 => ?_)))
  ·
   refine .seq (.region (.m G G G (.a G G G (.a G G G ?_))))
   refine .go idQ (.ret idQ (ret2 results35 G G .n ⟨i, 2, (.inr ⟨by decide, fun hR => by have h1 := hR.arc i oO oO; unfold arcOk at h1; omega⟩), G, G⟩))
  refine .skipgo idQ (.region (.p ((i + 1)) oO oO G G G G G (.m G G G ?_)))
  exact SP.nil (SQ.roundb (X := Int) (x := (i)) (i + 1) (by (try dsimp only); exact ⟨oO, oO, (upN q_2 (by unfold arcOk; omega))⟩) (by show (_ : Nat) < _; omega) (Sub.get (.c4 G G G G (.c G .n))) (kp (.c (.t .h) .n)))
 refine .exit idQ ?_
 refine .seq (.region (.a G G G (.a G G G (.go idQ ?_))))
 exact .ret idQ (ret2 results35 G G .n ⟨(-1), 0, (.inl ⟨G, ⟨by omega, by omega, fun j j0 j1 => q_2 j j0 oO⟩⟩), G, G⟩)
theorem rdcop_ (n : Int) (A : Option Addr) (c : Nat) (l : List AR) (S : Nat → Prop) (wf : World) (hA : Fr eAR S wf A l) (hl : l.length ≤ 300) :
  TR0 prog 21 [.agg #[.int .i64 n, .slice A l.length c]] [] S wf (fun v_ C_ => ∃ (u : Value), v_ = .agg #[.int .i64 n, u] ∧ C_ = [rw_ eAR 47 (u) l]) := by
 have hla := hA.len
 refine TR.mk func21 G ntmps21 G G (fun w_ => ?_)
 refine .seq (.region (.cons (st_boxa G G G G G (fun b1 => (.cons (st_alloc G G G G zf24 (fun b2 => (.go idQ (.seq (.region ?_))))))))))
 refine .cons (st_lit eAR (e := 47) (l := []) G G G G kR G G kW (fun b3 => ?_))
 refine .f fo24_1 1 G G G G (.l ty22 2 G G G G G (.cons (st_app0 (E := eAR) (m := l) G G G G underlying22 ai47 G G G .h rO (Src.w (Fr.flat hA)) lO G (fun v4 => (.f fo24_1 1 G G G G ?_)))))
 refine .know (row_len 0 G) (fun hv7 => ?_)
 obtain ⟨A5, c6, rfl, hv7_1, hv7_2⟩ := hv7
 unfold maxLen at hv7_2
 refine .cons (st_store1 G G G ty22 G G G (.t2 .h) (.t .h) ?_)
 refine .go idQ (.seq (.region (.d 0 ty24 G G G G (.cons (st_storea (l' := [.int .i64 n, .slice A5 l.length c6]) G G G ty24 G G G (.t2 .h) G G (.go idQ ?_))))))
 exact .ret idQ (retv1 results21 (.c 0 G G ty24) (.c (.t2 .h) .n) ⟨.slice A5 l.length c6, G, G⟩)
theorem tab_ (n : Int) (A : Option Addr) (c : Nat) (l : List AR) (d : Bool) (S : Nat → Prop) (wf : World) (hA : Fr eAR S wf A l) (hR : RoadOk n l) :
  TR0 prog 22 [.agg #[.int .i64 n, .slice A l.length c], .bool d] [] S wf (fun v_ C_ => ∃ (u : Value), v_ = .agg #[.int .i64 n, u] ∧ C_ = [rw_ eZ 3 (u) (tabF n d l)]) := by
 have hla := hA.len
 have h1 := hR.pl
 have h2 := hR.len
 have hsq := sq_le h1
 refine TR.mk func22 G ntmps22 G G (fun w_ => ?_)
 refine .seq (.region (.cons (st_boxa G G G G G (fun b1 => (.cons (st_alloc G G G G zf29 (fun b2 => (.go idQ (.seq (.region ?_))))))))))
 refine .f fo24_0 0 G G G G (.l ty3 1 G G G G G (.v (ev_any (v := .agg #[.int .i64 n, .slice none 0 0]) G kR (fun _ => by kernel_rfl)) G (.cons (st_alloc G G G G zf29 (fun b3 => ?_)))))
 refine .cons (st_storea (l' := [.int .i64 n, .slice none 0 0]) G G G ty29 G G G .h G G ?_)
 refine .go idQ (.seq (.seq (.region (.a G G G (.go idQ (.block ?_))))))
 refine SC.nilrow eZ 3 ?_
 refine .loop (X := Int × (List Int) × Value) (fun ⟨k, X, u_X⟩ => 0 ≤ k ∧ k ≤ (n * n) ∧ X = List.replicate k.toNat (-1 : Int)) (fun ⟨k, X, u_X⟩ => [(1, .bool d), (2, .pointer (some ⟨b1, 0, none⟩)), (4, .pointer (some ⟨b2, 0, none⟩)), (5, .pointer (some ⟨b3, 0, none⟩)), (6, .int .i64 k)]) (fun ⟨k, X, u_X⟩ => [rw_ eZ 3 (u_X) X, cel b3 [.int .i64 n, u_X] 29, cel b2 [.int .i64 0, .slice none 0 0] 29, cel b1 [.int .i64 n, .slice A l.length c] 24]) (fun _ => S) (fun _ => wf) (fun ⟨k, X, u_X⟩ => ((n * n) - k).toNat) (fun a_ w_ hs_ hw_ => ⟨⟨0, ([] : List Int), .slice none 0 0⟩, (by (try dsimp only); exact ⟨oO, oO, (by rfl)⟩), hs_.mono (Sub.get (.c4 G G G G (.c G .n))), hw_.keep (.d (.d .n))⟩) (fun ⟨k, X, u_X⟩ ⟨q_0, q_1, q_2⟩ => ?_)
 try dsimp only
 have hxl : X.length = k.toNat := by rw [q_2, List.length_replicate]
 refine .seq (.seq (.region (.m G G G (.f fo24_0 0 G G G G (.l ty3 3 G G G G G ?_)))))
 refine .f fo24_0 0 G G G G (.l ty3 3 G G G G G (.v (ev_mul G G G (r := (n * n)) G oO oO) G (.e G G G G G ?_)))
 refine .go idQ (.condI G bD (fun h4 => ?_) (fun h4 => ?_))
 ·
  refine .skipgo idQ (.seq (.block (.region (.f fo29_1 1 G G G G (.l ty27 1 G G G G G (.cons (st_lit eZ (e := 3) (l := [(-1)]) G G G G kR G G kW (fun b5 => ?_))))))))
  refine .cons (st_app (E := eZ) (m := [(-1)]) G G G G underlying27 ai3 G G G (.t .h) rO (row_src 0 G) lO G (fun v6 => ?_))
  refine .f fo29_1 1 G G G G (.know (row_len 0 G) (fun hv9 => ?_))
  obtain ⟨A7, c8, rfl, hv9_1, hv9_2⟩ := hv9
  unfold maxLen at hv9_2
  refine .cons (st_store1 G G G ty27 G G G (.t2 .h) (.t .h) ?_)
  refine .go idQ (.region (.m G G G (.p ((k + 1)) oO oO G G G G G (.a G G G ?_))))
  exact SP.nil (SQ.roundb (X := Int × (List Int) × Value) (x := (k, X, u_X)) ⟨(k + 1), (X ++ [(-1)]), .slice A7 ((X ++ [(-1)]).length) c8⟩ (by (try dsimp only); exact ⟨oO, oO, (by rw [q_2]; exact (rep_snoc q_0).symm)⟩) dO (Sub.get (.c4 G G G G (.c G .n))) (kp (.c (.t .h) (.c .h (.c (.t .h) (.c (.t .h) .n))))))
 refine .exit idQ ?_
 refine .seq (.seq (.know (row_len 0 G) (fun hv12 => ?_)))
 obtain ⟨A10, c11, rfl, hv12_1, hv12_2⟩ := hv12
 unfold maxLen at hv12_2
 obtain rfl : k = n * n := by omega
 refine .region (.a G G G (.go idQ (.block (.loop (X := Int × (List Int) × Value) (fun ⟨i, Y, u_Y⟩ => 0 ≤ i ∧ i ≤ (l.length : Int) ∧ Y = (l.take i.toNat).foldl (cellSt n d) (List.replicate (n * n).toNat (-1 : Int)) ∧ Y.length = (n * n).toNat) (fun ⟨i, Y, u_Y⟩ => [(1, .bool d), (2, .pointer (some ⟨b1, 0, none⟩)), (4, .pointer (some ⟨b2, 0, none⟩)), (5, .pointer (some ⟨b3, 0, none⟩)), (6, .int .i64 (n * n)), (7, .int .i64 i)]) (fun ⟨i, Y, u_Y⟩ => [rw_ eZ 3 (u_Y) Y, cel b3 [.int .i64 n, u_Y] 29, cel b2 [.int .i64 0, .slice none 0 0] 29, cel b1 [.int .i64 n, .slice A l.length c] 24]) (fun _ => S) (fun _ => wf) (fun ⟨i, Y, u_Y⟩ => ((l.length : Int) - i).toNat) (fun a_ w_ hs_ hw_ => ⟨⟨0, X, .slice A10 X.length c11⟩, (by (try dsimp only); exact ⟨oO, oO, (by assumption), oO⟩), hs_.mono (Sub.get (.c4 G G G G (.c G (.c G .n)))), hw_.keep (.d (.d .n))⟩) (fun ⟨i, Y, u_Y⟩ ⟨r_0, r_1, r_2, r_3⟩ => ?_)))))
 try dsimp only
 refine .seq (.seq (.region (.m G G G (.f fo24_1 1 G G G G (.l ty22 3 G G G G G ?_)))))
 refine .g underlying22 G G G (.e G G G G G (.go idQ (.condI G bD (fun h13 => ?_) (fun h13 => ?_))))
 ·
  refine .skipgo idQ (.seq (.block (.seq ?_)))
  have hai := hR.arc i oO oO
  unfold arcOk at hai
  have hix := idx_rng (n := n) (a := (gt l i).fr) (b := (gt l i).to) ⟨hai.1, hai.2.1⟩ ⟨hai.2.2.1, hai.2.2.2.1⟩
  refine .region (.f fo24_1 1 G G G G (.l ty22 3 G G G G G (.m G G G ?_)))
  refine .v (ev_ix G underlying22 ty47 G G oO oO (fun _ _ => Fr.adr (i := i) hA oO oO)) G (.v (ev_lda G G (At.w (Fr.el (i := i) hA oO oO)) ty47) G (.cons (st_alloc G G G G zf47 (fun b14 => (.cons (st_storea (l' := [.int .i64 ((gt l i).fr), .int .i64 ((gt l i).to), .int .i64 ((gt l i).tm), .int .i64 ((gt l i).ds)]) G G G ty47 G G G .h G G ?_))))))
  refine .go idQ (.seq (.region (.f fo47_2 2 G G G G (.l ty3 0 G G G G G (.a G G G ?_)))))
  refine .go idQ (.seq (.seq (.region (.m G G G (.go idQ (.condI G bV (fun h15 => ?_) (fun h15 => ?_)))))))
  ·
   refine .region (.f fo47_3 3 G G G G (.l ty3 0 G G G G G (.a G G G ?_)))
   refine .go idQ (.seq (.region (.f fo47_0 0 G G G G (.l ty3 0 G G G G G (.f fo24_0 0 G G G G ?_)))))
   refine .l ty3 4 G G G G G (.v (ev_mul G G G (r := (((gt l i).fr) * n)) G oO oO) G (.f fo47_1 1 G G G G (.l ty3 0 G G G G G ?_)))
   refine .v (ev_add G G G (r := ((((gt l i).fr) * n) + ((gt l i).to))) G oO oO) G (.a G G G (.go idQ (.seq (.region (.f fo47_0 0 G G G G ?_)))))
   refine .l ty3 0 G G G G G (.f fo47_1 1 G G G G (.l ty3 0 G G G G G (.e G G G G G ?_)))
   refine .m G G G (.w (fun _ => ev_fa G fo29_1 G (r := 1) G) G (.w (fun hb => ev_ld1 G ty27 (lkg G hb) (At.own1 2 G G)) G (.w (fun _ => ev_mv G G) G ?_)))
   refine .know (row_len 1 G) (fun hv18 => ?_)
   obtain ⟨A16, c17, rfl, hv18_1, hv18_2⟩ := hv18
   unfold maxLen at hv18_2
   refine .w (fun hb => have hp := bT bNE hb; ev_ix G underlying27 ty3 (lkg G hb) (lkg G hb) (by have _h := hp; omega) (by have _h := hp; omega) (row_adr (i := ((((gt l i).fr) * n) + ((gt l i).to))) 1 G (by have _h := hp; omega) (by have _h := hp; omega))) G (.w (fun hb => have hp := bT bNE hb; ev_ld1 G ty3 (lkg G hb) (At.elem1 (row_el (E := eZ) (l := Y) (i := ((((gt l i).fr) * n) + ((gt l i).to))) 1 G (by have _h := hp; omega) (by have _h := hp; omega)) 0 G)) G (.w (fun hb => ev_cmp G (lkg G hb) G G) G (.w (fun hb => ev_mv G (lkg G hb)) G ?_)))
   refine .cons (Ev.ggstep (b1 := (((gt l i).fr) != ((gt l i).to))) (b := (decide ((gt Y ((((gt l i).fr) * n) + ((gt l i).to))) < 0))) cb_tf (fun hb1 _ => ev_mv G G) G G G G G ?_)
   refine .cons (Ev.ggstep (b1 := (((gt l i).fr) != ((gt l i).to))) (b := (decide ((gt Y ((((gt l i).fr) * n) + ((gt l i).to))) < 0))) cb_tf (fun hb1 _ => ev_fa G fo29_1 G (r := 1) G) G G G G G ?_)
   refine .cons (Ev.ggstep (b1 := (((gt l i).fr) != ((gt l i).to))) (b := (decide ((gt Y ((((gt l i).fr) * n) + ((gt l i).to))) < 0))) cb_tf (fun hb1 hb => ev_ld1 G ty27 (lkg G hb) (At.own1 2 G G)) G G G G G ?_)
   refine .cons (Ev.ggstep (b1 := (((gt l i).fr) != ((gt l i).to))) (b := (decide ((gt Y ((((gt l i).fr) * n) + ((gt l i).to))) < 0))) cb_tf (fun hb1 _ => ev_mv G G) G G G G G ?_)
   refine .cons (Ev.ggstep (b1 := (((gt l i).fr) != ((gt l i).to))) (b := (decide ((gt Y ((((gt l i).fr) * n) + ((gt l i).to))) < 0))) cb_tf (fun hb1 hb => have hp := bT (bA bNE (bN bD)) hb; ev_ix G underlying27 ty3 (lkg G hb) (lkg G hb) (by have _h := hp; omega) (by have _h := hp; omega) (row_adr (i := ((((gt l i).fr) * n) + ((gt l i).to))) 1 G (by have _h := hp; omega) (by have _h := hp; omega))) G G G G G ?_)
   refine .cons (Ev.ggstep (b1 := (((gt l i).fr) != ((gt l i).to))) (b := (decide ((gt Y ((((gt l i).fr) * n) + ((gt l i).to))) < 0))) cb_tf (fun hb1 hb => have hp := bT (bA bNE (bN bD)) hb; ev_ld1 G ty3 (lkg G hb) (At.elem1 (row_el (E := eZ) (l := Y) (i := ((((gt l i).fr) * n) + ((gt l i).to))) 1 G (by have _h := hp; omega) (by have _h := hp; omega)) 0 G)) G G G G G ?_)
   refine .cons (Ev.ggstep (b1 := (((gt l i).fr) != ((gt l i).to))) (b := (decide ((gt Y ((((gt l i).fr) * n) + ((gt l i).to))) < 0))) cb_tf (fun hb1 hb => ev_cmp G (lkg G hb) (lkg G hb) G) G G G G G ?_)
   refine .w (fun hb => ev_or G (lkg G hb) G (lkgn G cb_tf hb)) G (.v (ev_and G G G G) G (.go idQ (.condI G (bA bNE (bO bD bD)) (fun h19 => ?_) (fun h19 => ?_))))
   ·
    refine .region (.f fo29_1 1 G G G G (.l ty27 2 G G G G G (.m G G G ?_)))
    refine .m G G G (.v (ev_ix G underlying27 ty3 G G oO oO (row_adr (i := ((((gt l i).fr) * n) + ((gt l i).to))) 1 G oO oO)) G (.cons (st_setel (E := eZ) (i := ((((gt l i).fr) * n) + ((gt l i).to))) (cs := [.int .i64 ((gt l i).ds)]) (off := 0) ((gt l i).ds) G G G ty3 G G G G G (.t .h) lO lO (Nat.le_of_ble_eq_true G) G (.go idQ (.region ?_)))))
    refine .m G G G (.p ((i + 1)) oO oO G G G G G (.a G G G ?_))
    exact SP.nil (SQ.roundb (X := Int × (List Int) × Value) (x := (i, Y, (.slice A16 Y.length c17))) ⟨(i + 1), (Y.set (((((gt l i).fr) * n) + ((gt l i).to))).toNat ((gt l i).ds)), .slice A16 Y.length c17⟩ (by (try dsimp only); exact ⟨oO, oO, (tab_yes r_2 oO oO (by unfold wgt; rw [if_pos h15]) h19), (by (try rw [List.length_set]); exact r_3)⟩) dO (Sub.get (.c4 G G G G (.c G (.c G .n)))) (kp (.c .h (.c (.t .h) (.c (.t .h) (.c (.t .h) .n))))))
   refine .skipgo idQ (.region (.m G G G (.p ((i + 1)) oO oO G G G G G (.a G G G ?_))))
   exact SP.nil (SQ.roundb (X := Int × (List Int) × Value) (x := (i, Y, (.slice A16 Y.length c17))) ⟨(i + 1), Y, .slice A16 Y.length c17⟩ (by (try dsimp only); exact ⟨oO, oO, (tab_no r_2 oO oO (by unfold wgt; rw [if_pos h15]) h19), (by (try rw [List.length_set]); exact r_3)⟩) dO (Sub.get (.c4 G G G G (.c G (.c G .n)))) (kp (.c (.t .h) (.c (.t .h) (.c (.t .h) (.c (.t .h) .n))))))
  refine .skipgo idQ (.seq (.region (.f fo47_0 0 G G G G (.l ty3 0 G G G G G (.f fo24_0 0 G G G G ?_)))))
  refine .l ty3 4 G G G G G (.v (ev_mul G G G (r := (((gt l i).fr) * n)) G oO oO) G (.f fo47_1 1 G G G G (.l ty3 0 G G G G G ?_)))
  refine .v (ev_add G G G (r := ((((gt l i).fr) * n) + ((gt l i).to))) G oO oO) G (.a G G G (.go idQ (.seq (.region (.f fo47_0 0 G G G G ?_)))))
  refine .l ty3 0 G G G G G (.f fo47_1 1 G G G G (.l ty3 0 G G G G G (.e G G G G G ?_)))
  refine .m G G G (.w (fun _ => ev_fa G fo29_1 G (r := 1) G) G (.w (fun hb => ev_ld1 G ty27 (lkg G hb) (At.own1 2 G G)) G (.w (fun _ => ev_mv G G) G ?_)))
  refine .know (row_len 1 G) (fun hv22 => ?_)
  obtain ⟨A20, c21, rfl, hv22_1, hv22_2⟩ := hv22
  unfold maxLen at hv22_2
  refine .w (fun hb => have hp := bT bNE hb; ev_ix G underlying27 ty3 (lkg G hb) (lkg G hb) (by have _h := hp; omega) (by have _h := hp; omega) (row_adr (i := ((((gt l i).fr) * n) + ((gt l i).to))) 1 G (by have _h := hp; omega) (by have _h := hp; omega))) G (.w (fun hb => have hp := bT bNE hb; ev_ld1 G ty3 (lkg G hb) (At.elem1 (row_el (E := eZ) (l := Y) (i := ((((gt l i).fr) * n) + ((gt l i).to))) 1 G (by have _h := hp; omega) (by have _h := hp; omega)) 0 G)) G (.w (fun hb => ev_cmp G (lkg G hb) G G) G (.w (fun hb => ev_mv G (lkg G hb)) G ?_)))
  refine .cons (Ev.ggstep (b1 := (((gt l i).fr) != ((gt l i).to))) (b := (decide ((gt Y ((((gt l i).fr) * n) + ((gt l i).to))) < 0))) cb_tf (fun hb1 _ => ev_mv G G) G G G G G ?_)
  refine .cons (Ev.ggstep (b1 := (((gt l i).fr) != ((gt l i).to))) (b := (decide ((gt Y ((((gt l i).fr) * n) + ((gt l i).to))) < 0))) cb_tf (fun hb1 _ => ev_fa G fo29_1 G (r := 1) G) G G G G G ?_)
  refine .cons (Ev.ggstep (b1 := (((gt l i).fr) != ((gt l i).to))) (b := (decide ((gt Y ((((gt l i).fr) * n) + ((gt l i).to))) < 0))) cb_tf (fun hb1 hb => ev_ld1 G ty27 (lkg G hb) (At.own1 2 G G)) G G G G G ?_)
  refine .cons (Ev.ggstep (b1 := (((gt l i).fr) != ((gt l i).to))) (b := (decide ((gt Y ((((gt l i).fr) * n) + ((gt l i).to))) < 0))) cb_tf (fun hb1 _ => ev_mv G G) G G G G G ?_)
  refine .cons (Ev.ggstep (b1 := (((gt l i).fr) != ((gt l i).to))) (b := (decide ((gt Y ((((gt l i).fr) * n) + ((gt l i).to))) < 0))) cb_tf (fun hb1 hb => have hp := bT (bA bNE (bN bD)) hb; ev_ix G underlying27 ty3 (lkg G hb) (lkg G hb) (by have _h := hp; omega) (by have _h := hp; omega) (row_adr (i := ((((gt l i).fr) * n) + ((gt l i).to))) 1 G (by have _h := hp; omega) (by have _h := hp; omega))) G G G G G ?_)
  refine .cons (Ev.ggstep (b1 := (((gt l i).fr) != ((gt l i).to))) (b := (decide ((gt Y ((((gt l i).fr) * n) + ((gt l i).to))) < 0))) cb_tf (fun hb1 hb => have hp := bT (bA bNE (bN bD)) hb; ev_ld1 G ty3 (lkg G hb) (At.elem1 (row_el (E := eZ) (l := Y) (i := ((((gt l i).fr) * n) + ((gt l i).to))) 1 G (by have _h := hp; omega) (by have _h := hp; omega)) 0 G)) G G G G G ?_)
  refine .cons (Ev.ggstep (b1 := (((gt l i).fr) != ((gt l i).to))) (b := (decide ((gt Y ((((gt l i).fr) * n) + ((gt l i).to))) < 0))) cb_tf (fun hb1 hb => ev_cmp G (lkg G hb) (lkg G hb) G) G G G G G ?_)
  refine .w (fun hb => ev_or G (lkg G hb) G (lkgn G cb_tf hb)) G (.v (ev_and G G G G) G (.go idQ (.condI G (bA bNE (bO bD bD)) (fun h23 => ?_) (fun h23 => ?_))))
  ·
   refine .region (.f fo29_1 1 G G G G (.l ty27 2 G G G G G (.m G G G ?_)))
   refine .m G G G (.v (ev_ix G underlying27 ty3 G G oO oO (row_adr (i := ((((gt l i).fr) * n) + ((gt l i).to))) 1 G oO oO)) G (.cons (st_setel (E := eZ) (i := ((((gt l i).fr) * n) + ((gt l i).to))) (cs := [.int .i64 ((gt l i).tm)]) (off := 0) ((gt l i).tm) G G G ty3 G G G G G (.t .h) lO lO (Nat.le_of_ble_eq_true G) G (.go idQ (.region ?_)))))
   refine .m G G G (.p ((i + 1)) oO oO G G G G G (.a G G G ?_))
   exact SP.nil (SQ.roundb (X := Int × (List Int) × Value) (x := (i, Y, (.slice A20 Y.length c21))) ⟨(i + 1), (Y.set (((((gt l i).fr) * n) + ((gt l i).to))).toNat ((gt l i).tm)), .slice A20 Y.length c21⟩ (by (try dsimp only); exact ⟨oO, oO, (tab_yes r_2 oO oO (by unfold wgt; rw [if_neg h15]) h23), (by (try rw [List.length_set]); exact r_3)⟩) dO (Sub.get (.c4 G G G G (.c G (.c G .n)))) (kp (.c .h (.c (.t .h) (.c (.t .h) (.c (.t .h) .n))))))
  refine .skipgo idQ (.region (.m G G G (.p ((i + 1)) oO oO G G G G G (.a G G G ?_))))
  exact SP.nil (SQ.roundb (X := Int × (List Int) × Value) (x := (i, Y, (.slice A20 Y.length c21))) ⟨(i + 1), Y, .slice A20 Y.length c21⟩ (by (try dsimp only); exact ⟨oO, oO, (tab_no r_2 oO oO (by unfold wgt; rw [if_neg h15]) h23), (by (try rw [List.length_set]); exact r_3)⟩) dO (Sub.get (.c4 G G G G (.c G (.c G .n)))) (kp (.c (.t .h) (.c (.t .h) (.c (.t .h) (.c (.t .h) .n))))))
 refine .exit idQ ?_
 refine .seq (.region (.d 1 ty29 G G G G (.know (row_len 0 G) (fun hv26 => ?_))))
 obtain ⟨A24, c25, rfl, hv26_1, hv26_2⟩ := hv26
 unfold maxLen at hv26_2
 refine .cons (st_storea (l' := [.int .i64 n, .slice A24 Y.length c25]) G G G ty29 G G G (.t2 .h) G G ?_)
 refine .go idQ (.ret idQ (retv1 results22 (.c 0 G G ty29) (.c (.t .h) .n) ⟨.slice A24 Y.length c25, G, (by rw [r_2, List.take_of_length_le oO]; rfl)⟩))
theorem least_ (n : Int) (A : Option Addr) (c : Nat) (l : List Int) (S : Nat → Prop) (wf : World) (hA : Fr eZ S wf A l) (h1 : 1 ≤ n ∧ n ≤ 32) (hl : (l.length : Int) = n * n) (hb : ∀ i : Int, -1 ≤ gt l i ∧ gt l i ≤ 1000000) :
  TR0 prog 23 [.agg #[.int .i64 n, .slice A l.length c]] [] S wf (fun v_ C_ => ∃ (u : Value) (W : List Int), (MF n W (fw (tf n l) n.toNat)) ∧ v_ = .agg #[.int .i64 n, u] ∧ C_ = [rw_ eZ 3 (u) W]) := by
 have hla := hA.len
 have hsq := sq_le h1
 have hlo : ∀ x y, -1 ≤ tf n l x y := fun x y => (hb _).1
 have hhi : ∀ x y, tf n l x y ≤ 1000000 := fun x y => (hb _).2
 refine TR.mk func23 G ntmps23 G G (fun w_ => ?_)
 refine .seq (.region (.cons (st_boxa G G G G G (fun b1 => (.cons (st_alloc G G G G zf29 (fun b2 => (.go idQ (.seq (.region ?_))))))))))
 refine .f fo29_0 0 G G G G (.l ty3 1 G G G G G (.a G G G (.go idQ (.seq (.region ?_)))))
 refine .m G G G (.cons (st_lit eZ (e := 3) (l := []) G G G G kR G G kW (fun b3 => (.f fo29_1 1 G G G G (.l ty27 2 G G G G G ?_)))))
 refine .cons (st_app0 (E := eZ) (m := l) G G G G underlying27 ai3 G G G .h rO (Src.w (Fr.flat hA)) lO G (fun v4 => ?_))
 refine .know (row_len 0 G) (fun hv7 => ?_)
 obtain ⟨A5, c6, rfl, hv7_1, hv7_2⟩ := hv7
 unfold maxLen at hv7_2
 refine .v (ev_any (v := .agg #[.int .i64 n, .slice A5 l.length c6]) G kR (fun _ => by kernel_rfl)) G (.cons (st_alloc G G G G zf29 (fun b8 => (.cons (st_storea (l' := [.int .i64 n, .slice A5 l.length c6]) G G G ty29 G G G .h G G (.go idQ (.seq (.seq (.region ?_)))))))))
 refine .a G G G (.go idQ (.block (.loop (X := Int × (List Int) × Value) (fun ⟨a, X, u_X⟩ => 0 ≤ a ∧ a ≤ n ∧ MF n X (dgf (tf n l) a)) (fun ⟨a, X, u_X⟩ => [(2, .pointer (some ⟨b2, 0, none⟩)), (3, .int .i64 n), (4, .pointer (some ⟨b8, 0, none⟩)), (5, .int .i64 a)]) (fun ⟨a, X, u_X⟩ => [cel b8 [.int .i64 n, u_X] 29, rw_ eZ 3 (u_X) X, cel b2 [.int .i64 0, .slice none 0 0] 29, cel b1 [.int .i64 n, .slice A l.length c] 29]) (fun _ => S) (fun _ => wf) (fun ⟨a, X, u_X⟩ => (n - a).toNat) (fun a_ w_ hs_ hw_ => ⟨⟨0, l, .slice A5 l.length c6⟩, (by (try dsimp only); exact ⟨oO, oO, (dg_0 hl)⟩), hs_.mono (Sub.get (.c4 G G G G .n)), hw_.keep (.d (.d .n))⟩) (fun ⟨a, X, u_X⟩ ⟨q_0, q_1, q_2⟩ => ?_))))
 try dsimp only
 have hxl := q_2.len
 refine .seq (.seq (.region (.m G G G (.m G G G (.e G G G G G ?_)))))
 refine .go idQ (.condI G bD (fun h9 => ?_) (fun h9 => ?_))
 ·
  refine .skipgo idQ (.seq (.block ?_))
  have hix := idx_rng (n := n) (a := a) (b := a) ⟨by omega, by omega⟩ ⟨by omega, by omega⟩
  refine .region (.f fo29_1 1 G G G G (.l ty27 0 G G G G G (.m G G G ?_)))
  refine .m G G G (.v (ev_mul G G G (r := (a * n)) G oO oO) G (.m G G G (.p (((a * n) + a)) oO oO G G G G G ?_)))
  refine .know (row_len 1 G) (fun hv12 => ?_)
  obtain ⟨A10, c11, rfl, hv12_1, hv12_2⟩ := hv12
  unfold maxLen at hv12_2
  refine .v (ev_ix G underlying27 ty3 G G oO oO (row_adr (i := ((a * n) + a)) 1 G oO oO)) G (.cons (st_setel (E := eZ) (i := ((a * n) + a)) (cs := [.int .i64 0]) (off := 0) 0 G G G ty3 G G G G G (.t .h) lO lO (Nat.le_of_ble_eq_true G) G (.go idQ (.region (.m G G G ?_)))))
  refine .p ((a + 1)) oO oO G G G G G (.a G G G ?_)
  exact SP.nil (SQ.roundb (X := Int × (List Int) × Value) (x := (a, X, (.slice A10 X.length c11))) ⟨(a + 1), (X.set (((a * n) + a)).toNat 0), .slice A10 X.length c11⟩ (by (try dsimp only); exact ⟨oO, oO, (dg_next q_2 ⟨by omega, by omega⟩)⟩) dO (Sub.get (.c4 G G G G .n)) (kp (.c (.t .h) (.d (.c .h .n)))))
 refine .exit idQ ?_
 refine .seq (.seq (.region (.a G G G (.go idQ (.block (.loop (X := Int × (List Int) × Value) (fun ⟨k, Y, u_Y⟩ => 0 ≤ k ∧ k ≤ n ∧ MF n Y (fw (tf n l) k.toNat)) (fun ⟨k, Y, u_Y⟩ => [(2, .pointer (some ⟨b2, 0, none⟩)), (3, .int .i64 n), (4, .pointer (some ⟨b8, 0, none⟩)), (5, .int .i64 a), (6, .int .i64 k)]) (fun ⟨k, Y, u_Y⟩ => [cel b8 [.int .i64 n, u_Y] 29, rw_ eZ 3 (u_Y) Y, cel b2 [.int .i64 0, .slice none 0 0] 29, cel b1 [.int .i64 n, .slice A l.length c] 29]) (fun _ => S) (fun _ => wf) (fun ⟨k, Y, u_Y⟩ => (n - k).toNat) (fun a_ w_ hs_ hw_ => ⟨⟨0, X, u_X⟩, (by (try dsimp only); exact ⟨oO, oO, (dg_end q_2 oO)⟩), hs_.mono (Sub.get (.c4 G G G G (.c G .n))), hw_.keep (.d (.d .n))⟩) (fun ⟨k, Y, u_Y⟩ ⟨r_0, r_1, r_2⟩ => ?_)))))))
 try dsimp only
 have hyl := r_2.len
 refine .seq (.seq (.region (.m G G G (.m G G G (.e G G G G G ?_)))))
 refine .go idQ (.condI G bD (fun h13 => ?_) (fun h13 => ?_))
 ·
  refine .skipgo idQ (.seq (.block (.seq (.region (.a G G G (.go idQ (.block (.loop (X := Int × (List Int) × Value) (fun ⟨i, Z, u_Z⟩ => 0 ≤ i ∧ i ≤ n ∧ MF n Z (stg (fw (tf n l) k.toNat) k i 0)) (fun ⟨i, Z, u_Z⟩ => [(2, .pointer (some ⟨b2, 0, none⟩)), (3, .int .i64 n), (4, .pointer (some ⟨b8, 0, none⟩)), (5, .int .i64 a), (6, .int .i64 k), (7, .int .i64 i)]) (fun ⟨i, Z, u_Z⟩ => [cel b8 [.int .i64 n, u_Z] 29, rw_ eZ 3 (u_Z) Z, cel b2 [.int .i64 0, .slice none 0 0] 29, cel b1 [.int .i64 n, .slice A l.length c] 29]) (fun _ => S) (fun _ => wf) (fun ⟨i, Z, u_Z⟩ => (n - i).toNat) (fun a_ w_ hs_ hw_ => ⟨⟨0, Y, u_Y⟩, (by (try dsimp only); exact ⟨oO, oO, (stg_0 r_2)⟩), hs_.mono (Sub.get (.c4 G G G G (.c G (.c G .n)))), hw_.keep (.d (.d .n))⟩) (fun ⟨i, Z, u_Z⟩ ⟨s_0, s_1, s_2⟩ => ?_)))))))))
  try dsimp only
  have hzl := s_2.len
  refine .seq (.seq (.region (.m G G G (.m G G G (.e G G G G G ?_)))))
  refine .go idQ (.condI G bD (fun h14 => ?_) (fun h14 => ?_))
  ·
   refine .skipgo idQ (.seq (.block (.seq (.region (.a G G G (.go idQ (.block (.loop (X := Int × (List Int) × Value) (fun ⟨j, V, u_V⟩ => 0 ≤ j ∧ j ≤ n ∧ MF n V (stg (fw (tf n l) k.toNat) k i j)) (fun ⟨j, V, u_V⟩ => [(2, .pointer (some ⟨b2, 0, none⟩)), (3, .int .i64 n), (4, .pointer (some ⟨b8, 0, none⟩)), (5, .int .i64 a), (6, .int .i64 k), (7, .int .i64 i), (8, .int .i64 j)]) (fun ⟨j, V, u_V⟩ => [cel b8 [.int .i64 n, u_V] 29, rw_ eZ 3 (u_V) V, cel b2 [.int .i64 0, .slice none 0 0] 29, cel b1 [.int .i64 n, .slice A l.length c] 29]) (fun _ => S) (fun _ => wf) (fun ⟨j, V, u_V⟩ => (n - j).toNat) (fun a_ w_ hs_ hw_ => ⟨⟨0, Z, u_Z⟩, (by (try dsimp only); exact ⟨oO, oO, (by assumption)⟩), hs_.mono (Sub.get (.c4 G G G G (.c G (.c G (.c G .n))))), hw_.keep (.d (.d .n))⟩) (fun ⟨j, V, u_V⟩ ⟨u_0, u_1, u_2⟩ => ?_)))))))))
   try dsimp only
   have hvl := u_2.len
   refine .seq (.seq ?_)
   have hfb := fw_bd (k := k) hlo hhi h1.2 oO oO
   refine .region (.m G G G (.m G G G (.e G G G G G ?_)))
   refine .go idQ (.condI G bD (fun h15 => ?_) (fun h15 => ?_))
   ·
    refine .skipgo idQ (.seq (.block (.seq ?_)))
    have hi1 := idx_rng (n := n) (a := i) (b := k) ⟨by omega, by omega⟩ ⟨by omega, by omega⟩
    have hi2 := idx_rng (n := n) (a := k) (b := j) ⟨by omega, by omega⟩ ⟨by omega, by omega⟩
    have hi3 := idx_rng (n := n) (a := i) (b := j) ⟨by omega, by omega⟩ ⟨by omega, by omega⟩
    have hga := stg_a u_2 hfb ⟨by omega, by omega⟩ ⟨by omega, by omega⟩
    have hgb := stg_b u_2 hfb ⟨by omega, by omega⟩ ⟨by omega, by omega⟩
    have hba := hfb.hi i k
    have hbb := hfb.hi k j
    have hbc := hfb.lo i k
    have hbd := hfb.lo k j
    refine .know (row_len 1 G) (fun hv18 => ?_)
    obtain ⟨A16, c17, rfl, hv18_1, hv18_2⟩ := hv18
    unfold maxLen at hv18_2
    refine SC.draw mo [] [] .n (fun _ _ _ => sc0) (fun wf_19 hl_19 hx_19 hR_19 => ?_)
    refine SR.z 0 G G (ev_fa G fo29_1 G (r := 1) G) ?_
    refine SR.z 1 G G (ev_ld1 G ty27 G (At.d (At.lent hR_19 0 G G))) ?_
    refine SR.m 2 G G G G ?_
    refine SR.m 3 G G G G ?_
    refine SR.z 4 G G (ev_mul G G G (r := (i * n)) G oO oO) ?_
    refine SR.m 5 G G G G ?_
    refine SR.z 6 G G (ev_add G G G (r := ((i * n) + k)) G oO oO) ?_
    refine SR.z 7 G G (ev_ix G underlying27 ty3 G G oO oO (fun _ _ => Fr.adr (i := ((i * n) + k)) (Fr.lent (S := S) hR_19 1 G lO) oO oO)) ?_
    refine SR.z 8 G G (ev_ld1 G ty3 G (At.elem1 (At.d (Fr.el (i := ((i * n) + k)) (Fr.lent (S := S) hR_19 1 G lO) oO oO)) 0 G)) ?_
    refine SR.z 9 G G (ev_fa G fo29_1 G (r := 1) G) ?_
    refine SR.z 10 G G (ev_ld1 G ty27 G (At.d (At.lent hR_19 0 G G))) ?_
    refine SR.m 11 G G G G ?_
    refine SR.m 12 G G G G ?_
    refine SR.z 13 G G (ev_mul G G G (r := (k * n)) G oO oO) ?_
    refine SR.m 14 G G G G ?_
    refine SR.z 15 G G (ev_add G G G (r := ((k * n) + j)) G oO oO) ?_
    refine SR.z 16 G G (ev_ix G underlying27 ty3 G G oO oO (fun _ _ => Fr.adr (i := ((k * n) + j)) (Fr.lent (S := S) hR_19 1 G lO) oO oO)) ?_
    refine SR.z 17 G G (ev_ld1 G ty3 G (At.elem1 (At.d (Fr.el (i := ((k * n) + j)) (Fr.lent (S := S) hR_19 1 G lO) oO oO)) 0 G)) ?_
    refine SR.z 18 G G (ev_fa G fo29_1 G (r := 1) G) ?_
    refine SR.z 19 G G (ev_ld1 G ty27 G (At.d (At.lent hR_19 0 G G))) ?_
    refine SR.m 20 G G G G ?_
    refine SR.m 21 G G G G ?_
    refine SR.z 22 G G (ev_mul G G G (r := (i * n)) G oO oO) ?_
    refine SR.m 23 G G G G ?_
    refine SR.z 24 G G (ev_add G G G (r := ((i * n) + j)) G oO oO) ?_
    refine SR.z 25 G G (ev_ix G underlying27 ty3 G G oO oO (fun _ _ => Fr.adr (i := ((i * n) + j)) (Fr.lent (S := S) hR_19 1 G lO) oO oO)) ?_
    refine SR.z 26 G G (ev_ld1 G ty3 G (At.elem1 (At.d (Fr.el (i := ((i * n) + j)) (Fr.lent (S := S) hR_19 1 G lO) oO oO)) 0 G)) ?_
    refine SR.z 27 G G (ev_as G G) ?_
    refine SR.z 28 G G (ev_as G G) ?_
    refine SR.z 29 G G (ev_as G G) ?_
    refine SR.fin kR hl_19 hx_19 hR_19 .n ?_
    refine SQ.go idQ ?_
    refine .seq (.region (.m G G G (.e G G G G G (.m G G G ?_))))
    refine .w (fun _ => ev_mv G G) G (.w (fun hb => ev_cmp G (lkg G hb) G G) G (.v (ev_and G G G G) G (.m G G G ?_)))
    refine .w (fun _ => ev_mv G G) G (.w (fun hb => ev_cmp G (lkg G hb) G G) G (.w (fun hb => ev_mv G (lkg G hb)) G (.cons (Ev.ggstep (b1 := ((decide ((gt V ((i * n) + k)) ≥ 0)) && (decide ((gt V ((k * n) + j)) ≥ 0)))) (b := (decide ((gt V ((i * n) + j)) < 0))) cb_tf (fun hb1 _ => ev_mv G G) G G G G G ?_))))
    refine .cons (Ev.ggstep (b1 := ((decide ((gt V ((i * n) + k)) ≥ 0)) && (decide ((gt V ((k * n) + j)) ≥ 0)))) (b := (decide ((gt V ((i * n) + j)) < 0))) cb_tf (fun hb1 _ => ev_mv G G) G G G G G ?_)
    refine .cons (Ev.ggstep (b1 := ((decide ((gt V ((i * n) + k)) ≥ 0)) && (decide ((gt V ((k * n) + j)) ≥ 0)))) (b := (decide ((gt V ((i * n) + j)) < 0))) cb_tf (fun hb1 hb => have hp := bT (bA (bA bD bD) (bN bD)) hb; ev_add G (lkg G hb) (lkg G hb) (r := ((gt V ((i * n) + k)) + (gt V ((k * n) + j)))) G (by have _h := hp; omega) (by have _h := hp; omega)) G G G G G ?_)
    refine .cons (Ev.ggstep (b1 := ((decide ((gt V ((i * n) + k)) ≥ 0)) && (decide ((gt V ((k * n) + j)) ≥ 0)))) (b := (decide ((gt V ((i * n) + j)) < 0))) cb_tf (fun hb1 _ => ev_mv G G) G G G G G ?_)
    refine .cons (Ev.ggstep (b1 := ((decide ((gt V ((i * n) + k)) ≥ 0)) && (decide ((gt V ((k * n) + j)) ≥ 0)))) (b := (decide ((gt V ((i * n) + j)) < 0))) cb_tf (fun hb1 hb => ev_cmp G (lkg G hb) (lkg G hb) G) G G G G G ?_)
    refine .w (fun hb => ev_or G (lkg G hb) G (lkgn G cb_tf hb)) G (.v (ev_and G G G G) G (.go idQ (.condI G (bA (bA bD bD) (bO bD bD)) (fun h20 => ?_) (fun h20 => ?_))))
    ·
     refine .region (.f fo29_1 1 G G G G (.l ty27 0 G G G G G (.m G G G ?_)))
     refine .m G G G (.v (ev_mul G G G (r := (i * n)) G oO oO) G (.m G G G (.p (((i * n) + j)) oO oO G G G G G ?_)))
     refine .m G G G (.m G G G (.v (ev_add G G G (r := ((gt V ((i * n) + k)) + (gt V ((k * n) + j)))) G oO oO) G (.v (ev_ix G underlying27 ty3 G G oO oO (row_adr (i := ((i * n) + j)) 1 G oO oO)) G ?_)))
     refine .cons (st_setel (E := eZ) (i := ((i * n) + j)) (cs := [.int .i64 ((gt V ((i * n) + k)) + (gt V ((k * n) + j)))]) (off := 0) ((gt V ((i * n) + k)) + (gt V ((k * n) + j))) G G G ty3 G G G G G (.t .h) lO lO (Nat.le_of_ble_eq_true G) G ?_)
     refine .go idQ (.region (.m G G G (.p ((j + 1)) oO oO G G G G G (.a G G G ?_))))
     exact SP.nil (SQ.roundb (X := Int × (List Int) × Value) (x := (j, V, (.slice A16 V.length c17))) ⟨(j + 1), (V.set (((i * n) + j)).toNat ((gt V ((i * n) + k)) + (gt V ((k * n) + j)))), .slice A16 V.length c17⟩ (by (try dsimp only); exact ⟨oO, oO, (stg_yes u_2 hfb ⟨by omega, by omega⟩ ⟨by omega, by omega⟩ ⟨by omega, by omega⟩ h20)⟩) dO (Sub.get (.c4 G G G G (.c G (.c G (.c G .n))))) (kp (.c (.t .h) (.d (.c .h .n)))))
    refine .skipgo idQ (.region (.m G G G (.p ((j + 1)) oO oO G G G G G (.a G G G ?_))))
    exact SP.nil (SQ.roundb (X := Int × (List Int) × Value) (x := (j, V, (.slice A16 V.length c17))) ⟨(j + 1), V, .slice A16 V.length c17⟩ (by (try dsimp only); exact ⟨oO, oO, (stg_no u_2 hfb ⟨by omega, by omega⟩ ⟨by omega, by omega⟩ ⟨by omega, by omega⟩ h20)⟩) dO (Sub.get (.c4 G G G G (.c G (.c G (.c G .n))))) (kp (.d (.d .n))))
   refine .exit idQ ?_
   refine .region (.m G G G (.p ((i + 1)) oO oO G G G G G (.a G G G ?_)))
   exact SP.nil (SQ.roundb (X := Int × (List Int) × Value) (x := (i, Z, u_Z)) ⟨(i + 1), V, u_V⟩ (by (try dsimp only); exact ⟨oO, oO, (stg_row u_2 oO)⟩) dO (Sub.get (.c4 G G G G (.c G (.c G .n)))) (kp (.d (.d .n))))
  refine .exit idQ ?_
  refine .region (.m G G G (.p ((k + 1)) oO oO G G G G G (.a G G G ?_)))
  exact SP.nil (SQ.roundb (X := Int × (List Int) × Value) (x := (k, Y, u_Y)) ⟨(k + 1), Z, u_Z⟩ (by (try dsimp only); exact ⟨oO, oO, (fw_next s_2 oO oO)⟩) dO (Sub.get (.c4 G G G G (.c G .n))) (kp (.d (.d .n))))
 refine .exit idQ ?_
 refine .seq (.region (.d 0 ty29 G G G G (.know (row_len 1 G) (fun hv23 => ?_))))
 obtain ⟨A21, c22, rfl, hv23_1, hv23_2⟩ := hv23
 unfold maxLen at hv23_2
 refine .cons (st_storea (l' := [.int .i64 n, .slice A21 Y.length c22]) G G G ty29 G G G (.t2 .h) G G ?_)
 refine .go idQ (.ret idQ (retv1 results23 (.c 0 G G ty29) (.c (.t2 .h) .n) ⟨.slice A21 Y.length c22, Y, (by rw [show n = k from by omega]; rw [show n = k from by omega] at r_2; exact r_2), G, G⟩))
end Go.Proofs.Ytlefdinbbjiabaa.Sx
set_option maxRecDepth 20000
set_option maxHeartbeats 1000000
namespace Go.Proofs.Ytlefdinbbjiabaa.Sx.FC
open Go Go.SX Go.Proofs Go.Proofs.Try FA FB
theorem ai64 : (prog.info? 64).map (fun i => (i.zero, i.size, i.bytes)) = some (some (.agg #[.int .i64 0, .int .i64 0]), 2, 16) := by kernel_rfl
theorem ai37 : (prog.info? 37).map (fun i => (i.zero, i.size, i.bytes)) = some (some (.agg #[.int .i64 0, .int .i64 0, .int .i64 0, .int .i64 0]), 4, 32) := by kernel_rfl
theorem fo83_0 : fo prog 83 0 = some 0 := by kernel_rfl
theorem fo83_1 : fo prog 83 1 = some 1 := by kernel_rfl
theorem ty61 : ty prog 61 = some (false, 1) := by kernel_rfl
theorem hbd24 : hasBody prog 24 = true := by kernel_rfl
theorem ty64 : ty prog 64 = some (true, 2) := by kernel_rfl
theorem hbd41 : hasBody prog 41 = true := by kernel_rfl
end Go.Proofs.Ytlefdinbbjiabaa.Sx.FC
namespace Go.Proofs.Ytlefdinbbjiabaa.Sx
open Go Go.SX Go.Proofs Go.Proofs.Try FA FB FC
theorem cloneE (A : Option Addr) (n : Nat) (c : Nat) (l : List EG) (S : Nat → Prop) (wf : World) (hA : Fr eEG S wf A l) (hn : l.length = n) (hl : l.length ≤ 1000000) :
  TR0 prog 41 [.slice A n c] [] S wf (fun v_ C_ => ∃ (v : Value), v_ = v ∧ C_ = [rw_ eEG 64 (v) l]) := by
 refine TR.mk func41 G ntmps41 G G (fun w_ => ?_)
 refine .seq (.region (.a G G G (.go idQ (.seq (.seq (.region (.m G G G ?_)))))))
 refine .v (ev_nils G underlying61 G G (by rfl)) G (.go idQ (.condI G bV (fun h1 => ?_) (fun h1 => ?_)))
 ·
  refine .seq (.region (.a G G G (.go idQ ?_)))
  refine SC.nilrow eEG 64 ?_
  exact .ret idQ (ret1 results41 G (.c .h .n) ⟨.slice none 0 0, G, (by rw [clone_nil hA (by assumption)])⟩)
 refine .skipgo idQ (.seq (.region (.cons (st_lit eEG (e := 64) (l := []) G G G G kR G G kW (fun b2 => (.m G G G (.cons (st_app0 (E := eEG) (m := l) G G G G underlying61 ai64 G G G .h rO (Src.w (Fr.flat hA)) lO G (fun v3 => ?_)))))))))
 refine .a G G G (.go idQ (.ret idQ (ret1 results41 G (.c .h .n) ⟨v3, G, G⟩)))
theorem cloneA (A : Option Addr) (n : Nat) (c : Nat) (l : List AR) (S : Nat → Prop) (wf : World) (hA : Fr eAR S wf A l) (hn : l.length = n) (hl : l.length ≤ 1000000) :
  TR0 prog 36 [.slice A n c] [] S wf (fun v_ C_ => ∃ (v : Value), v_ = v ∧ C_ = [rw_ eAR 47 (v) l]) := by
 refine TR.mk func36 G ntmps36 G G (fun w_ => ?_)
 refine .seq (.region (.a G G G (.go idQ (.seq (.seq (.region (.m G G G ?_)))))))
 refine .v (ev_nils G underlying22 G G (by rfl)) G (.go idQ (.condI G bV (fun h1 => ?_) (fun h1 => ?_)))
 ·
  refine .seq (.region (.a G G G (.go idQ ?_)))
  refine SC.nilrow eAR 47 ?_
  exact .ret idQ (ret1 results36 G (.c .h .n) ⟨.slice none 0 0, G, (by rw [clone_nil hA (by assumption)])⟩)
 refine .skipgo idQ (.seq (.region (.cons (st_lit eAR (e := 47) (l := []) G G G G kR G G kW (fun b2 => (.m G G G (.cons (st_app0 (E := eAR) (m := l) G G G G underlying22 ai47 G G G .h rO (Src.w (Fr.flat hA)) lO G (fun v3 => ?_)))))))))
 refine .a G G G (.go idQ (.ret idQ (ret1 results36 G (.c .h .n) ⟨v3, G, G⟩)))
theorem cloneL (A : Option Addr) (n : Nat) (c : Nat) (l : List LK) (S : Nat → Prop) (wf : World) (hA : Fr eLK S wf A l) (hn : l.length = n) (hl : l.length ≤ 1000000) :
  TR0 prog 31 [.slice A n c] [] S wf (fun v_ C_ => ∃ (v : Value), v_ = v ∧ C_ = [rw_ eLK 37 (v) l]) := by
 refine TR.mk func31 G ntmps31 G G (fun w_ => ?_)
 refine .seq (.region (.a G G G (.go idQ (.seq (.seq (.region (.m G G G ?_)))))))
 refine .v (ev_nils G underlying34 G G (by rfl)) G (.go idQ (.condI G bV (fun h1 => ?_) (fun h1 => ?_)))
 ·
  refine .seq (.region (.a G G G (.go idQ ?_)))
  refine SC.nilrow eLK 37 ?_
  exact .ret idQ (ret1 results31 G (.c .h .n) ⟨.slice none 0 0, G, (by rw [clone_nil hA (by assumption)])⟩)
 refine .skipgo idQ (.seq (.region (.cons (st_lit eLK (e := 37) (l := []) G G G G kR G G kW (fun b2 => (.m G G G (.cons (st_app0 (E := eLK) (m := l) G G G G underlying34 ai37 G G G .h rO (Src.w (Fr.flat hA)) lO G (fun v3 => ?_)))))))))
 refine .a G G G (.go idQ (.ret idQ (ret1 results31 G (.c .h .n) ⟨v3, G, G⟩)))
theorem gpl_ (b : Nat) (fA : Option Addr) (fc : Nat) (fi : List Int) (eA : Option Addr) (ec : Nat) (ed : List EG) (S : Nat → Prop) (wf : World) (hF : Fr eZ S wf fA fi) (hE : Fr eEG S wf eA ed) :
  TR0 prog 24 [.pointer (some ⟨b, 0, none⟩)] [cel b [.slice fA fi.length fc, .slice eA ed.length ec] 83] S wf (fun v_ C_ => v_ = .int .i64 ((fi.length : Int) - 1) ∧ C_ = [cel b [.slice fA fi.length fc, .slice eA ed.length ec] 83]) := by
 have hfl := hF.len
 have hel := hE.len
 refine TR.mk func24 G ntmps24 G G (fun w_ => ?_)
 refine .seq (.region (.a G G G (.go idQ (.seq (.seq (.region (.m G G G ?_)))))))
 refine .v (ev_bin G G G (r := .bool false) (fun _ => by kernel_rfl)) G (.go idQ (.cond_f G (.skipgo idQ (.seq (.region ?_)))))
 refine .m G G G (.v (ev_nil G G) G (.f fo83_0 0 G G G G (.l ty27 0 G G G G G ?_)))
 refine .g underlying27 G G G (.v (ev_sub G G G (r := ((fi.length : Int) - 1)) G oO oO) G (.a G G G (.go idQ ?_)))
 exact .ret idQ (ret1 results24 G (.c .h .n) ⟨G, G⟩)
theorem glen_ (b : Nat) (fA : Option Addr) (fc : Nat) (fi : List Int) (eA : Option Addr) (ec : Nat) (ed : List EG) (S : Nat → Prop) (wf : World) (hF : Fr eZ S wf fA fi) (hE : Fr eEG S wf eA ed) :
  TR0 prog 33 [.pointer (some ⟨b, 0, none⟩)] [cel b [.slice fA fi.length fc, .slice eA ed.length ec] 83] S wf (fun v_ C_ => v_ = .int .i64 (ed.length : Int) ∧ C_ = [cel b [.slice fA fi.length fc, .slice eA ed.length ec] 83]) := by
 have hfl := hF.len
 have hel := hE.len
 refine TR.mk func33 G ntmps33 G G (fun w_ => ?_)
 refine .seq (.region (.a G G G (.go idQ (.seq (.seq (.region (.m G G G ?_)))))))
 refine .v (ev_bin G G G (r := .bool false) (fun _ => by kernel_rfl)) G (.go idQ (.cond_f G (.skipgo idQ (.seq (.region ?_)))))
 refine .m G G G (.v (ev_nil G G) G (.f fo83_1 1 G G G G (.l ty61 0 G G G G G ?_)))
 refine .g underlying61 G G G (.a G G G (.go idQ (.ret idQ (ret1 results33 G (.c .h .n) ⟨G, G⟩))))
theorem gout_ (b : Nat) (fA : Option Addr) (fc : Nat) (fi : List Int) (eA : Option Addr) (ec : Nat) (ed : List EG) (p : Int) (S : Nat → Prop) (wf : World) (hF : Fr eZ S wf fA fi) (hE : Fr eEG S wf eA ed) (hp : 0 ≤ p ∧ p + 1 < (fi.length : Int)) (hr : 0 ≤ gt fi p ∧ gt fi p ≤ gt fi (p + 1) ∧ gt fi (p + 1) ≤ (ed.length : Int)) (hm : ed.length ≤ 1000 ∧ ed.length ≤ ec) :
  TR0 prog 25 [.pointer (some ⟨b, 0, none⟩), .int .i64 p] [cel b [.slice fA fi.length fc, .slice eA ed.length ec] 83] S wf (fun v_ C_ => ∃ (u : Value), v_ = u ∧ C_ = [cel b [.slice fA fi.length fc, .slice eA ed.length ec] 83, rw_ eEG 64 (u) (outL fi ed p)]) := by
 have hfl := hF.len
 have hel := hE.len
 refine TR.mk func25 G ntmps25 G G (fun w_ => ?_)
 refine .seq (.region (.a G G G (.go idQ (.seq (.seq (.region (.m G G G ?_)))))))
 refine .e G G G G G (.m G G G (.w (fun _ => ev_mv G G) G (.w (fun _ => ev_mv G G) G ?_)))
 refine .cons (st_gcallk G G G G G G hbd24 (fun hb => (lkA1 (lkg G hb) lkA0)) (.c .h .n) (fun hb => have hp := bF bD hb; gpl_ b fA fc fi eA ec ed _ _ hF hE) ?_)
 refine .w (fun hb => ev_cmp G (lkg G hb) (lkg G hb) G) G (.r G G G G G (.go idQ (.condI G (bO bD bD) (fun h1 => ?_) (fun h1 => ?_))))
 ·
  exfalso; omega
 refine .skipgo idQ (.seq ?_)
 refine SC.draw mo [] [] .n (fun _ _ _ => sc0) (fun wf_2 hl_2 hx_2 hR_2 => ?_)
 refine SR.m 0 G G G G ?_
 refine SR.z 1 G G (ev_nil G G) ?_
 refine SR.z 2 G G (ev_fa G fo83_1 G (r := 1) G) ?_
 refine SR.z 3 G G (ev_ld1 G ty61 G (At.d (At.lent hR_2 0 G G))) ?_
 refine SR.m 4 G G G G ?_
 refine SR.z 5 G G (ev_nil G G) ?_
 refine SR.z 6 G G (ev_fa G fo83_0 G (r := 0) G) ?_
 refine SR.z 7 G G (ev_ld1 G ty27 G (At.d (At.lent hR_2 0 G G))) ?_
 refine SR.m 8 G G G G ?_
 refine SR.z 9 G G (ev_ix G underlying27 ty3 G G oO oO (fun _ _ => Fr.adr (i := p) (Fr.ext hF hx_2) oO oO)) ?_
 refine SR.z 10 G G (ev_ld1 G ty3 G (At.elem1 (At.d (Fr.el (i := p) (Fr.ext hF hx_2) oO oO)) 0 G)) ?_
 refine SR.m 11 G G G G ?_
 refine SR.z 12 G G (ev_nil G G) ?_
 refine SR.z 13 G G (ev_fa G fo83_0 G (r := 0) G) ?_
 refine SR.z 14 G G (ev_ld1 G ty27 G (At.d (At.lent hR_2 0 G G))) ?_
 refine SR.m 15 G G G G ?_
 refine SR.z 16 G G (ev_add G G G (r := (p + 1)) G oO oO) ?_
 refine SR.z 17 G G (ev_ix G underlying27 ty3 G G oO oO (fun _ _ => Fr.adr (i := (p + 1)) (Fr.ext hF hx_2) oO oO)) ?_
 refine SR.z 18 G G (ev_ld1 G ty3 G (At.elem1 (At.d (Fr.el (i := (p + 1)) (Fr.ext hF hx_2) oO oO)) 0 G)) ?_
 refine SR.z 19 G G (ev_slc G underlying61 ty64 G (.s G oO) (.s G oO) oO oO) ?_
 refine SR.o 20 G (st_call0 G G G G hbd41 G .n (cloneE (cutA eA ec ((gt fi p)).toNat 2) ((((gt fi (p + 1))).toNat) - ((gt fi p)).toNat) (ec - ((gt fi p)).toNat) ((ed.take ((gt fi (p + 1))).toNat).drop ((gt fi p)).toNat) _ _ (Fr.view (Fr.ext hE hx_2) ((gt fi p)).toNat ((gt fi (p + 1))).toNat 2 G oO) lO lO) (fun v_q4 C_q4 q4 => ⟨tt0, ?_⟩))
 obtain ⟨v3, rfl, rfl⟩ := q4
 show SR _ _ _ _ _ _ _ _ _ ⟨_, _ :: _, _, _⟩
 refine SR.z 21 G G (ev_as G G) ?_
 refine SR.fin kR hl_2 hx_2 hR_2 (.c .n) ?_
 refine SQ.go idQ ?_
 exact .ret idQ (ret1 results25 G (.c (.t .h) (.c .h .n)) ⟨v_q4, G, G⟩)
end Go.Proofs.Ytlefdinbbjiabaa.Sx
set_option maxRecDepth 20000
set_option maxHeartbeats 1000000
namespace Go.Proofs.Ytlefdinbbjiabaa.Sx.FD
open Go Go.SX Go.Proofs Go.Proofs.Try FA FB FC
theorem hbd40 : hasBody prog 40 = true := by kernel_rfl
theorem ty49 : ty prog 49 = some (false, 1) := by kernel_rfl
theorem hbd18 : hasBody prog 18 = true := by kernel_rfl
theorem hbd39 : hasBody prog 39 = true := by kernel_rfl
theorem hbd19 : hasBody prog 19 = true := by kernel_rfl
end Go.Proofs.Ytlefdinbbjiabaa.Sx.FD
namespace Go.Proofs.Ytlefdinbbjiabaa.Sx
open Go Go.SX Go.Proofs Go.Proofs.Try FA FB FC FD
theorem new1_Time (a : AR) (b : AR) (m : Nat) (S : Nat → Prop) (wf : World) :
  TR0 prog 38 [.agg #[.int .i64 a.fr, .int .i64 a.to, .int .i64 a.tm, .int .i64 a.ds], .agg #[.int .i64 b.fr, .int .i64 b.to, .int .i64 b.tm, .int .i64 b.ds], .pointer (some ⟨m, 0, none⟩)] [cel m [.func (.func 18) #[] #[]] 49] S wf (fun v_ C_ => ∃ (r : Int), (r = orF [cmpI a.fr b.fr, cmpI a.to b.to, cmpI (wgt false a) (wgt false b)]) ∧ v_ = .int .i64 r ∧ C_ = [cel m [.func (.func 18) #[] #[]] 49]) := by
 refine TR.mk func38 G ntmps38 G G (fun w_ => ?_)
 refine .seq (.region (.cons (st_boxa G G G G G (fun b1 => (.cons (st_boxa G G G G G (fun b2 => (.a G G G ?_))))))))
 refine .go idQ (.seq ?_)
 refine SC.draw mo [] [] .n (fun _ _ _ => sc0) (fun wf_3 hl_3 hx_3 hR_3 => ?_)
 refine SR.z 0 G G (ev_fa G fo47_0 G (r := 0) G) ?_
 refine SR.z 1 G G (ev_ld1 G ty3 G (At.d (At.lent hR_3 1 G G))) ?_
 refine SR.z 2 G G (ev_fa G fo47_0 G (r := 0) G) ?_
 refine SR.z 3 G G (ev_ld1 G ty3 G (At.d (At.lent hR_3 0 G G))) ?_
 refine SR.z 5 G G (ev_fa G fo47_1 G (r := 1) G) ?_
 refine SR.z 6 G G (ev_ld1 G ty3 G (At.d (At.lent hR_3 1 G G))) ?_
 refine SR.z 7 G G (ev_fa G fo47_1 G (r := 1) G) ?_
 refine SR.z 8 G G (ev_ld1 G ty3 G (At.d (At.lent hR_3 0 G G))) ?_
 refine SR.z 10 G G (ev_ld1 G ty49 G (At.d (At.lent hR_3 2 G G))) ?_
 refine SR.z 11 G G (ev_lda (cs := [.int .i64 a.fr, .int .i64 a.to, .int .i64 a.tm, .int .i64 a.ds]) G G (At.d (At.lent hR_3 1 G G)) ty47) ?_
 refine SR.z 13 G G (ev_ld1 G ty49 G (At.d (At.lent hR_3 2 G G))) ?_
 refine SR.z 14 G G (ev_lda (cs := [.int .i64 b.fr, .int .i64 b.to, .int .i64 b.tm, .int .i64 b.ds]) G G (At.d (At.lent hR_3 0 G G)) ty47) ?_
 refine SR.o 4 G (st_callk G G G G hbd40 G .n (cmp_ a.fr b.fr _ _) ⟨tt0, ?_⟩)
 refine SR.o 9 G (st_callk G G G G hbd40 G .n (cmp_ a.to b.to _ _) ⟨tt0, ?_⟩)
 refine SR.o 12 G (.viafun G G (st_callk G G G G hbd18 G .n (time_ a _ _) ⟨tt0, ?_⟩))
 refine SR.o 15 G (.viafun G G (st_callk G G G G hbd18 G .n (time_ b _ _) ⟨tt0, ?_⟩))
 refine SR.o 16 G (st_callk G G G G hbd40 G .n (cmp_ a.tm b.tm _ _) ⟨tt0, ?_⟩)
 refine SR.o 17 G (st_lit eZ (e := 3) (l := [(cmpI a.fr b.fr), (cmpI a.to b.to), (cmpI a.tm b.tm)]) G G G G kR G G kW (fun b4 => ⟨tt0, ?_⟩))
 refine SR.o 18 G (st_lend0 G G G G hbd39 G .n (.c .h .n) (fun w_ hw => or_ (some ⟨b4, 0, none⟩) 3 [(cmpI a.fr b.fr), (cmpI a.to b.to), (cmpI a.tm b.tm)] _ _ (Fr.lend hw 0 G lO)) (fun v_q6 C_q6 q6 => ⟨tt0, ?_⟩))
 obtain ⟨r5, p7, rfl, rfl⟩ := q6
 show SR _ _ _ _ _ _ _ _ _ ⟨_, _ :: _, _, _⟩
 refine SR.z 19 G G (ev_as G G) ?_
 refine SR.fin kR hl_3 hx_3 hR_3 (.c .n) ?_
 refine SQ.go idQ ?_
 exact .ret idQ (ret1 results38 G (.c (.t2 (.t .h)) .n) ⟨r5, p7, G, G⟩)
theorem new1_Dist (a : AR) (b : AR) (m : Nat) (S : Nat → Prop) (wf : World) :
  TR0 prog 38 [.agg #[.int .i64 a.fr, .int .i64 a.to, .int .i64 a.tm, .int .i64 a.ds], .agg #[.int .i64 b.fr, .int .i64 b.to, .int .i64 b.tm, .int .i64 b.ds], .pointer (some ⟨m, 0, none⟩)] [cel m [.func (.func 19) #[] #[]] 49] S wf (fun v_ C_ => ∃ (r : Int), (r = orF [cmpI a.fr b.fr, cmpI a.to b.to, cmpI (wgt true a) (wgt true b)]) ∧ v_ = .int .i64 r ∧ C_ = [cel m [.func (.func 19) #[] #[]] 49]) := by
 refine TR.mk func38 G ntmps38 G G (fun w_ => ?_)
 refine .seq (.region (.cons (st_boxa G G G G G (fun b1 => (.cons (st_boxa G G G G G (fun b2 => (.a G G G ?_))))))))
 refine .go idQ (.seq ?_)
 refine SC.draw mo [] [] .n (fun _ _ _ => sc0) (fun wf_3 hl_3 hx_3 hR_3 => ?_)
 refine SR.z 0 G G (ev_fa G fo47_0 G (r := 0) G) ?_
 refine SR.z 1 G G (ev_ld1 G ty3 G (At.d (At.lent hR_3 1 G G))) ?_
 refine SR.z 2 G G (ev_fa G fo47_0 G (r := 0) G) ?_
 refine SR.z 3 G G (ev_ld1 G ty3 G (At.d (At.lent hR_3 0 G G))) ?_
 refine SR.z 5 G G (ev_fa G fo47_1 G (r := 1) G) ?_
 refine SR.z 6 G G (ev_ld1 G ty3 G (At.d (At.lent hR_3 1 G G))) ?_
 refine SR.z 7 G G (ev_fa G fo47_1 G (r := 1) G) ?_
 refine SR.z 8 G G (ev_ld1 G ty3 G (At.d (At.lent hR_3 0 G G))) ?_
 refine SR.z 10 G G (ev_ld1 G ty49 G (At.d (At.lent hR_3 2 G G))) ?_
 refine SR.z 11 G G (ev_lda (cs := [.int .i64 a.fr, .int .i64 a.to, .int .i64 a.tm, .int .i64 a.ds]) G G (At.d (At.lent hR_3 1 G G)) ty47) ?_
 refine SR.z 13 G G (ev_ld1 G ty49 G (At.d (At.lent hR_3 2 G G))) ?_
 refine SR.z 14 G G (ev_lda (cs := [.int .i64 b.fr, .int .i64 b.to, .int .i64 b.tm, .int .i64 b.ds]) G G (At.d (At.lent hR_3 0 G G)) ty47) ?_
 refine SR.o 4 G (st_callk G G G G hbd40 G .n (cmp_ a.fr b.fr _ _) ⟨tt0, ?_⟩)
 refine SR.o 9 G (st_callk G G G G hbd40 G .n (cmp_ a.to b.to _ _) ⟨tt0, ?_⟩)
 refine SR.o 12 G (.viafun G G (st_callk G G G G hbd19 G .n (dist_ a _ _) ⟨tt0, ?_⟩))
 refine SR.o 15 G (.viafun G G (st_callk G G G G hbd19 G .n (dist_ b _ _) ⟨tt0, ?_⟩))
 refine SR.o 16 G (st_callk G G G G hbd40 G .n (cmp_ a.ds b.ds _ _) ⟨tt0, ?_⟩)
 refine SR.o 17 G (st_lit eZ (e := 3) (l := [(cmpI a.fr b.fr), (cmpI a.to b.to), (cmpI a.ds b.ds)]) G G G G kR G G kW (fun b4 => ⟨tt0, ?_⟩))
 refine SR.o 18 G (st_lend0 G G G G hbd39 G .n (.c .h .n) (fun w_ hw => or_ (some ⟨b4, 0, none⟩) 3 [(cmpI a.fr b.fr), (cmpI a.to b.to), (cmpI a.ds b.ds)] _ _ (Fr.lend hw 0 G lO)) (fun v_q6 C_q6 q6 => ⟨tt0, ?_⟩))
 obtain ⟨r5, p7, rfl, rfl⟩ := q6
 show SR _ _ _ _ _ _ _ _ _ ⟨_, _ :: _, _, _⟩
 refine SR.z 19 G G (ev_as G G) ?_
 refine SR.fin kR hl_3 hx_3 hR_3 (.c .n) ?_
 refine SQ.go idQ ?_
 exact .ret idQ (ret1 results38 G (.c (.t2 (.t .h)) .n) ⟨r5, p7, G, G⟩)
end Go.Proofs.Ytlefdinbbjiabaa.Sx
set_option maxRecDepth 20000
set_option maxHeartbeats 1000000
namespace Go.Proofs.Ytlefdinbbjiabaa.Sx.FE
open Go Go.SX Go.Proofs Go.Proofs.Try FA FB FC FD
theorem fo88_0 : fo prog 88 0 = some 0 := by kernel_rfl
theorem ty86 : ty prog 86 = some (false, 1) := by kernel_rfl
theorem ty92 : ty prog 92 = some (true, 2) := by kernel_rfl
theorem zf92 : (prog.info? 92).bind (fun i => i.zero.map Value.cells) = some (List.toArray [.int .i64 0, .int .i64 0]) := by kernel_rfl
theorem fo92_1 : fo prog 92 1 = some 1 := by kernel_rfl
theorem fo92_0 : fo prog 92 0 = some 0 := by kernel_rfl
theorem fo88_1 : fo prog 88 1 = some 1 := by kernel_rfl
theorem ty60 : ty prog 60 = some (false, 1) := by kernel_rfl
theorem zv3 : (prog.info? 3).bind (fun i => i.zero) = some (.int .i64 0) := by kernel_rfl
theorem ai92 : (prog.info? 92).map (fun i => (i.zero, i.size, i.bytes)) = some (some (.agg #[.int .i64 0, .int .i64 0]), 2, 16) := by kernel_rfl
end Go.Proofs.Ytlefdinbbjiabaa.Sx.FE
namespace Go.Proofs.Ytlefdinbbjiabaa.Sx
open Go Go.SX Go.Proofs Go.Proofs.Try FA FB FC FD FE
def keZ : KE prog 3 Int := KE.int underlying3
theorem qnew_ (S : Nat → Prop) (wf : World) :
  TR0 prog 27 [] [] S wf (fun v_ C_ => ∃ (b : Nat) (pb : Nat), v_ = .pointer (some ⟨b, 0, none⟩) ∧ C_ = [cel b [.slice none 0 0, .map (some pb)] 90, mp keZ.f (.int .i64) pb []]) := by
 refine TR.mk func27 G ntmps27 G G (fun w_ => ?_)
 refine .seq (.region (.a G G G (.go idQ (.seq (.region (.cons (st_mkmap (α := Int) (β := Int) keZ.f (.int .i64) G G G G (fun b1 => ?_))))))))
 refine .v (ev_any (v := .agg #[.slice none 0 0, .map (some b1)]) G kR (fun _ => by kernel_rfl)) G (.v (ev_any (v := .agg #[.slice none 0 0, .map (some b1)]) G kR (fun _ => by kernel_rfl)) G (.cons (st_boxa G G G G G (fun b2 => (.a G G G ?_)))))
 refine .go idQ (.ret idQ (ret1 results27 G (.d .n) ⟨b2, b1, G, G⟩))
theorem olen_ (b : Nat) (A : Option Addr) (n : Nat) (c : Nat) (l : List EN) (pb : Nat) (m : List (Int × Int)) (S : Nat → Prop) (wf : World) (hn : l.length = n) :
  TR0 prog 50 [.pointer (some ⟨b, 0, none⟩)] [cel b [.slice A n c, .map (some pb)] 90, rw_ eEN 92 (.slice A n c) l, mp keZ.f (.int .i64) pb m] S wf (fun v_ C_ => v_ = .int .i64 (n : Int) ∧ C_ = [cel b [.slice A n c, .map (some pb)] 90, rw_ eEN 92 (.slice A n c) l, mp keZ.f (.int .i64) pb m]) := by
 refine TR.mk func50 G ntmps50 G G (fun w_ => ?_)
 refine .seq (.region (.a G G G (.go idQ (.seq (.region (.m G G G ?_))))))
 refine .v (ev_nil G G) G (.f fo88_0 0 G G G G (.l ty86 0 G G G G G (.g underlying86 G G G ?_)))
 refine .a G G G (.go idQ (.ret idQ (ret1 results50 G (.d (.c .h .n)) ⟨G, G⟩)))
theorem oless_ (b : Nat) (A : Option Addr) (n : Nat) (c : Nat) (l : List EN) (pb : Nat) (m : List (Int × Int)) (i : Int) (j : Int) (S : Nat → Prop) (wf : World) (hi : 0 ≤ i ∧ i < (n : Int)) (hj : 0 ≤ j ∧ j < (n : Int)) (hn : l.length = n) (hb : n ≤ 5000) :
  TR0 prog 96 [.pointer (some ⟨b, 0, none⟩), .int .i64 i, .int .i64 j] [cel b [.slice A n c, .map (some pb)] 90, rw_ eEN 92 (.slice A n c) l, mp keZ.f (.int .i64) pb m] S wf (fun v_ C_ => v_ = .bool (lessE (gt l i) (gt l j)) ∧ C_ = [cel b [.slice A n c, .map (some pb)] 90, rw_ eEN 92 (.slice A n c) l, mp keZ.f (.int .i64) pb m]) := by
 refine TR.mk func96 G ntmps96 G G (fun w_ => ?_)
 refine .seq (.region (.a G G G (.go idQ (.seq ?_))))
 refine SC.draw mo [] [] .n (fun _ _ _ => sc0) (fun wf_1 hl_1 hx_1 hR_1 => ?_)
 refine SR.m 0 G G G G ?_
 refine SR.z 1 G G (ev_nil G G) ?_
 refine SR.z 2 G G (ev_fa G fo88_0 G (r := 0) G) ?_
 refine SR.z 3 G G (ev_ld1 G ty86 G (At.d (At.lent hR_1 0 G G))) ?_
 refine SR.m 4 G G G G ?_
 refine SR.z 5 G G (ev_ix G underlying86 ty92 G G oO oO (fun _ _ => Fr.adr (i := i) (Fr.lent (S := S) hR_1 1 G lO) oO oO)) ?_
 refine SR.z 6 G G (ev_lda G G (At.d (Fr.el (i := i) (Fr.lent (S := S) hR_1 1 G lO) oO oO)) ty92) ?_
 refine SR.m 7 G G G G ?_
 refine SR.z 8 G G (ev_nil G G) ?_
 refine SR.z 9 G G (ev_fa G fo88_0 G (r := 0) G) ?_
 refine SR.z 10 G G (ev_ld1 G ty86 G (At.d (At.lent hR_1 0 G G))) ?_
 refine SR.m 11 G G G G ?_
 refine SR.z 12 G G (ev_ix G underlying86 ty92 G G oO oO (fun _ _ => Fr.adr (i := j) (Fr.lent (S := S) hR_1 1 G lO) oO oO)) ?_
 refine SR.z 13 G G (ev_lda G G (At.d (Fr.el (i := j) (Fr.lent (S := S) hR_1 1 G lO) oO oO)) ty92) ?_
 refine SR.two (i := 14) (j := 15) kR ⟨_, G, ?_⟩ ⟨_, G, ?_⟩
 ·
  refine st_alloc G G G G zf92 (fun b2 => ⟨tt0, ?_⟩)
  refine SR.o 15 G (st_alloc G G G G zf92 (fun b3 => ⟨tt0, ?_⟩))
  refine SR.o 16 G (st_storea (l' := [.int .i64 ((gt l i).ei), .int .i64 ((gt l i).ek)]) G G G ty92 G G G (.t .h) G G ⟨tt0, ?_⟩)
  refine SR.o 17 G (st_storea (l' := [.int .i64 ((gt l j).ei), .int .i64 ((gt l j).ek)]) G G G ty92 G G G (.t .h) G G ⟨tt0, ?_⟩)
  refine SR.fin kR hl_1 hx_1 hR_1 (.c (.c .n)) ?_
  refine SQ.go idQ ?_
  refine .seq (.region (.f fo92_1 1 G G G G (.l ty3 1 G G G G G (.f fo92_1 1 G G G G ?_))))
  refine .l ty3 0 G G G G G (.e G G G G G (.m G G G (.w (fun _ => ev_fa G fo92_1 G (r := 1) G) G ?_)))
  refine .w (fun hb => ev_ld1 G ty3 (lkg G hb) (At.own1 1 G G)) G (.w (fun _ => ev_fa G fo92_1 G (r := 1) G) G (.w (fun hb => ev_ld1 G ty3 (lkg G hb) (At.own1 0 G G)) G (.w (fun hb => ev_cmp G (lkg G hb) (lkg G hb) G) G ?_)))
  refine .w (fun hb => ev_mv G (lkg G hb)) G (.cons (Ev.ggstep (b1 := (decide (((gt l i).ek) < ((gt l j).ek)))) (b := (((gt l i).ek) == ((gt l j).ek))) cb_ft (fun hb1 _ => ev_fa G fo92_0 G (r := 0) G) G G G G G (.cons (Ev.ggstep (b1 := (decide (((gt l i).ek) < ((gt l j).ek)))) (b := (((gt l i).ek) == ((gt l j).ek))) cb_ft (fun hb1 hb => ev_ld1 G ty3 (lkg G hb) (At.own1 1 G G)) G G G G G (.cons (Ev.ggstep (b1 := (decide (((gt l i).ek) < ((gt l j).ek)))) (b := (((gt l i).ek) == ((gt l j).ek))) cb_ft (fun hb1 _ => ev_fa G fo92_0 G (r := 0) G) G G G G G ?_))))))
  refine .cons (Ev.ggstep (b1 := (decide (((gt l i).ek) < ((gt l j).ek)))) (b := (((gt l i).ek) == ((gt l j).ek))) cb_ft (fun hb1 hb => ev_ld1 G ty3 (lkg G hb) (At.own1 0 G G)) G G G G G ?_)
  refine .cons (Ev.ggstep (b1 := (decide (((gt l i).ek) < ((gt l j).ek)))) (b := (((gt l i).ek) == ((gt l j).ek))) cb_ft (fun hb1 hb => ev_cmp G (lkg G hb) (lkg G hb) G) G G G G G ?_)
  refine .w (fun hb => ev_and G (lkg G hb) (lkgn G cb_ft hb) G) G (.r G G G G G (.a G G G (.go idQ ?_)))
  exact .ret idQ (ret1 results96 G (.c (.t2 .h) (.c (.t2 .h) (.c (.t2 .h) .n))) ⟨G, G⟩)
 refine st_alloc G G G G zf92 (fun b4 => ⟨tt0, ?_⟩)
 refine SR.o 14 G (st_alloc G G G G zf92 (fun b5 => ⟨tt0, ?_⟩))
 refine SR.o 16 G (st_storea (l' := [.int .i64 ((gt l i).ei), .int .i64 ((gt l i).ek)]) G G G ty92 G G G .h G G ⟨tt0, ?_⟩)
 refine SR.o 17 G (st_storea (l' := [.int .i64 ((gt l j).ei), .int .i64 ((gt l j).ek)]) G G G ty92 G G G (.t .h) G G ⟨tt0, ?_⟩)
 refine SR.fin kR hl_1 hx_1 hR_1 (.c (.c .n)) ?_
 refine SQ.go idQ ?_
 refine .seq (.region (.f fo92_1 1 G G G G (.l ty3 1 G G G G G (.f fo92_1 1 G G G G ?_))))
 refine .l ty3 0 G G G G G (.e G G G G G (.m G G G (.w (fun _ => ev_fa G fo92_1 G (r := 1) G) G ?_)))
 refine .w (fun hb => ev_ld1 G ty3 (lkg G hb) (At.own1 1 G G)) G (.w (fun _ => ev_fa G fo92_1 G (r := 1) G) G (.w (fun hb => ev_ld1 G ty3 (lkg G hb) (At.own1 0 G G)) G (.w (fun hb => ev_cmp G (lkg G hb) (lkg G hb) G) G ?_)))
 refine .w (fun hb => ev_mv G (lkg G hb)) G (.cons (Ev.ggstep (b1 := (decide (((gt l i).ek) < ((gt l j).ek)))) (b := (((gt l i).ek) == ((gt l j).ek))) cb_ft (fun hb1 _ => ev_fa G fo92_0 G (r := 0) G) G G G G G (.cons (Ev.ggstep (b1 := (decide (((gt l i).ek) < ((gt l j).ek)))) (b := (((gt l i).ek) == ((gt l j).ek))) cb_ft (fun hb1 hb => ev_ld1 G ty3 (lkg G hb) (At.own1 1 G G)) G G G G G (.cons (Ev.ggstep (b1 := (decide (((gt l i).ek) < ((gt l j).ek)))) (b := (((gt l i).ek) == ((gt l j).ek))) cb_ft (fun hb1 _ => ev_fa G fo92_0 G (r := 0) G) G G G G G ?_))))))
 refine .cons (Ev.ggstep (b1 := (decide (((gt l i).ek) < ((gt l j).ek)))) (b := (((gt l i).ek) == ((gt l j).ek))) cb_ft (fun hb1 hb => ev_ld1 G ty3 (lkg G hb) (At.own1 0 G G)) G G G G G ?_)
 refine .cons (Ev.ggstep (b1 := (decide (((gt l i).ek) < ((gt l j).ek)))) (b := (((gt l i).ek) == ((gt l j).ek))) cb_ft (fun hb1 hb => ev_cmp G (lkg G hb) (lkg G hb) G) G G G G G ?_)
 refine .w (fun hb => ev_and G (lkg G hb) (lkgn G cb_ft hb) G) G (.r G G G G G (.a G G G (.go idQ ?_)))
 exact .ret idQ (ret1 results96 G (.c (.t2 .h) (.c (.t2 .h) (.c (.t2 .h) .n))) ⟨G, G⟩)
theorem oswap_ (b : Nat) (A : Option Addr) (n : Nat) (c : Nat) (l : List EN) (pb : Nat) (m : List (Int × Int)) (i : Int) (j : Int) (S : Nat → Prop) (wf : World) (hi : 0 ≤ i ∧ i < (n : Int)) (hj : 0 ≤ j ∧ j < (n : Int)) (hn : l.length = n) (hb : n ≤ 5000) (hq : QI l m) :
  TR0 prog 99 [.pointer (some ⟨b, 0, none⟩), .int .i64 i, .int .i64 j] [cel b [.slice A n c, .map (some pb)] 90, rw_ eEN 92 (.slice A n c) l, mp keZ.f (.int .i64) pb m] S wf (fun v_ C_ => ∃ (m2 : List (Int × Int)), (QI (swF l i j) m2) ∧ v_ = .tuple #[] ∧ C_ = [cel b [.slice A n c, .map (some pb)] 90, rw_ eEN 92 (.slice A n c) (swF l i j), mp keZ.f (.int .i64) pb m2]) := by
 have hs1 : (l.set i.toNat (gt l j)).length = l.length := by simp
 have hs2 : ((l.set i.toNat (gt l j)).set j.toNat (gt l i)).length = l.length := by simp
 refine TR.mk func99 G ntmps99 G G (fun w_ => ?_)
 refine .seq ?_
 refine SC.draw mo [rw_ eEN 92 (.slice A n c) l] [(25, fun w => At w (ab A) (ao A + (j).toNat * eEN.sz) (eEN.enc (gt l j))), (25, fun w => At w (ab A) (ao A + (i).toNat * eEN.sz) (eEN.enc (gt l i)))] (.c (.t .h) .n) (fun w_ _ hw_ => (sc1 (row_el (E := eEN) (l := l) (i := j) 0 G oO lO w_ hw_) (sc1 (row_el (E := eEN) (l := l) (i := i) 0 G oO lO w_ hw_) sc0))) (fun wf_1 hl_1 hx_1 hR_1 => ?_)
 refine SR.m 0 G G G G ?_
 refine SR.z 1 G G (ev_nil G G) ?_
 refine SR.z 2 G G (ev_fa G fo88_0 G (r := 0) G) ?_
 refine SR.z 3 G G (ev_ld1 G ty86 G (At.d (At.lent hR_1 0 G G))) ?_
 refine SR.m 4 G G G G ?_
 refine SR.m 5 G G G G ?_
 refine SR.z 6 G G (ev_nil G G) ?_
 refine SR.z 7 G G (ev_fa G fo88_0 G (r := 0) G) ?_
 refine SR.z 8 G G (ev_ld1 G ty86 G (At.d (At.lent hR_1 0 G G))) ?_
 refine SR.m 9 G G G G ?_
 refine SR.m 10 G G G G ?_
 refine SR.z 11 G G (ev_nil G G) ?_
 refine SR.z 12 G G (ev_fa G fo88_0 G (r := 0) G) ?_
 refine SR.z 13 G G (ev_ld1 G ty86 G (At.d (At.lent hR_1 0 G G))) ?_
 refine SR.m 14 G G G G ?_
 refine SR.m 17 G G G G ?_
 refine SR.z 18 G G (ev_nil G G) ?_
 refine SR.z 19 G G (ev_fa G fo88_0 G (r := 0) G) ?_
 refine SR.z 20 G G (ev_ld1 G ty86 G (At.d (At.lent hR_1 0 G G))) ?_
 refine SR.m 21 G G G G ?_
 refine SR.two (i := 15) (j := 22) kR ⟨_, G, ?_⟩ ⟨_, G, ?_⟩
 ·
  refine Ev.step (ev_ix G underlying86 ty92 G G oO oO (row_adr (i := j) 0 G oO oO)) G G G ⟨ttc (fun w_ hw_ => (tc1 (row_el (i := j) 0 G oO oO w_ hw_) (tc1 (row_el (i := i) 0 G oO oO w_ hw_) tc0))), ?_⟩
  refine SR.z 16 G G (ev_lda G G ((At.ofcs 0 G kR)) ty92) ?_
  refine SR.o 22 G (Ev.step (ev_ix G underlying86 ty92 G G oO oO (row_adr (i := i) 0 G oO oO)) G G G ⟨ttc (fun w_ hw_ => (tc1 (row_el (i := j) 0 G oO oO w_ hw_) (tc1 (row_el (i := i) 0 G oO oO w_ hw_) tc0))), ?_⟩)
  refine SR.z 23 G G (ev_lda G G ((At.ofcs 1 G kR)) ty92) ?_
  refine SR.o 24 G (Ev.step (ev_ix G underlying86 ty92 G G oO oO (row_adr (i := i) 0 G oO oO)) G G G ⟨ttc (fun w_ hw_ => (tc1 (row_el (i := j) 0 G oO oO w_ hw_) (tc1 (row_el (i := i) 0 G oO oO w_ hw_) tc0))), ?_⟩)
  refine SR.o 25 G (st_setel (E := eEN) (i := i) (cs := [.int .i64 ((gt l j).ei), .int .i64 ((gt l j).ek)]) (off := 0) (gt l j) G G G ty92 G G G G G .h lO lO (Nat.le_of_ble_eq_true G) G ⟨ttc (fun w_ hw_ => (tc2 kR (tc2 kR tc0))), ?_⟩)
  refine SR.o 26 G (Ev.step (ev_ix G underlying86 ty92 G G oO oO (row_adr (i := j) 0 G oO lO)) G G G ⟨ttc (fun w_ hw_ => (tc2 kR (tc2 kR tc0))), ?_⟩)
  refine SR.o 27 G (st_setel (E := eEN) (i := j) (cs := [.int .i64 ((gt l i).ei), .int .i64 ((gt l i).ek)]) (off := 0) (gt l i) G G G ty92 G G G G G .h lO lO (Nat.le_of_ble_eq_true G) G ⟨ttc (fun w_ hw_ => (tc2 kR (tc2 kR tc0))), ?_⟩)
  refine SR.fin kR hl_1 hx_1 hR_1 (.c .n) ?_
  refine SQ.go idQ ?_
  refine SC.draw mo [mp keZ.f (.int .i64) pb m] [] (.c (.t2 .h) .n) (fun _ _ _ => sc0) (fun wf_2 hl_2 hx_2 hR_2 => ?_)
  refine SR.m 0 G G G G ?_
  refine SR.z 1 G G (ev_nil G G) ?_
  refine SR.z 2 G G (ev_fa G fo88_1 G (r := 1) G) ?_
  refine SR.z 3 G G (ev_ld1 G ty60 G (At.d (At.lent hR_2 1 G G))) ?_
  refine SR.m 4 G G G G ?_
  refine SR.z 5 G G (ev_nil G G) ?_
  refine SR.z 6 G G (ev_fa G fo88_0 G (r := 0) G) ?_
  refine SR.z 7 G G (ev_ld1 G ty86 G (At.d (At.lent hR_2 1 G G))) ?_
  refine SR.m 8 G G G G ?_
  refine SR.z 9 G G (ev_ix G underlying86 ty92 G G oO oO (fun _ _ => Fr.adr (i := i) (Fr.lent (S := S) hR_2 0 G lO) oO oO)) ?_
  refine SR.z 10 G G (ev_fa G fo92_0 G (r := ao A + (i).toNat * 2) G) ?_
  refine SR.z 11 G G (ev_ld1 G ty3 G (At.elem1 (At.d (Fr.el (i := i) (Fr.lent (S := S) hR_2 0 G lO) oO oO)) 0 G)) ?_
  refine SR.m 12 G G G G ?_
  refine SR.z 13 G G (ev_nil G G) ?_
  refine SR.z 14 G G (ev_fa G fo88_1 G (r := 1) G) ?_
  refine SR.z 15 G G (ev_ld1 G ty60 G (At.d (At.lent hR_2 1 G G))) ?_
  refine SR.m 16 G G G G ?_
  refine SR.z 17 G G (ev_nil G G) ?_
  refine SR.z 18 G G (ev_fa G fo88_0 G (r := 0) G) ?_
  refine SR.z 19 G G (ev_ld1 G ty86 G (At.d (At.lent hR_2 1 G G))) ?_
  refine SR.m 20 G G G G ?_
  refine SR.z 21 G G (ev_ix G underlying86 ty92 G G oO oO (fun _ _ => Fr.adr (i := j) (Fr.lent (S := S) hR_2 0 G lO) oO oO)) ?_
  refine SR.z 22 G G (ev_fa G fo92_0 G (r := ao A + (j).toNat * 2) G) ?_
  refine SR.z 23 G G (ev_ld1 G ty3 G (At.elem1 (At.d (Fr.el (i := j) (Fr.lent (S := S) hR_2 0 G lO) oO oO)) 0 G)) ?_
  refine SR.m 24 G G G G ?_
  refine SR.m 25 G G G G ?_
  refine SR.o 26 G (st_mapEntry keZ (x := (gt ((l.set (i).toNat (gt l j)).set (j).toNat (gt l i)) i).ei) (z := 0) G G G G underlying60 zv3 G G .h (fun u3 n4 => ⟨tt0, ?_⟩))
  refine SR.z 27 G G (ev_ext G G G) ?_
  refine SR.o 28 G (st_entryStore keZ (u := undef) (x := (gt ((l.set (i).toNat (gt l j)).set (j).toNat (gt l i)) i).ei) (v := i) G G G G G G .h ⟨tt0, ?_⟩)
  refine SR.o 29 G (st_mapEntry keZ (x := (gt ((l.set (i).toNat (gt l j)).set (j).toNat (gt l i)) j).ei) (z := 0) G G G G underlying60 zv3 G G .h (fun u5 n6 => ⟨tt0, ?_⟩))
  refine SR.z 30 G G (ev_ext G G G) ?_
  refine SR.o 31 G (st_entryStore keZ (u := undef) (x := (gt ((l.set (i).toNat (gt l j)).set (j).toNat (gt l i)) j).ei) (v := j) G G G G G G .h ⟨tt0, ?_⟩)
  refine SR.fin kR hl_2 hx_2 hR_2 (.c .n) ?_
  exact end0 results99 (.c (.t2 .h) (.c (.t .h) (.c .h .n))) ⟨(mset (mins (mset (mins m ((gt ((l.set (i).toNat (gt l j)).set (j).toNat (gt l i)) i).ei) 0) ((gt ((l.set (i).toNat (gt l j)).set (j).toNat (gt l i)) i).ei) i) ((gt ((l.set (i).toNat (gt l j)).set (j).toNat (gt l i)) j).ei) 0) ((gt ((l.set (i).toNat (gt l j)).set (j).toNat (gt l i)) j).ei) j), (by have h_ := qi_swap hq (i := i) (j := j) oO oO; unfold swF at h_ ⊢; simpa only [mset_mins] using h_), G, G⟩
 refine Ev.step (ev_ix G underlying86 ty92 G G oO oO (row_adr (i := i) 0 G oO oO)) G G G ⟨ttc (fun w_ hw_ => (tc1 (row_el (i := j) 0 G oO oO w_ hw_) (tc1 (row_el (i := i) 0 G oO oO w_ hw_) tc0))), ?_⟩
 refine SR.z 23 G G (ev_lda G G ((At.ofcs 1 G kR)) ty92) ?_
 refine SR.o 15 G (Ev.step (ev_ix G underlying86 ty92 G G oO oO (row_adr (i := j) 0 G oO oO)) G G G ⟨ttc (fun w_ hw_ => (tc1 (row_el (i := j) 0 G oO oO w_ hw_) (tc1 (row_el (i := i) 0 G oO oO w_ hw_) tc0))), ?_⟩)
 refine SR.z 16 G G (ev_lda G G ((At.ofcs 0 G kR)) ty92) ?_
 refine SR.o 24 G (Ev.step (ev_ix G underlying86 ty92 G G oO oO (row_adr (i := i) 0 G oO oO)) G G G ⟨ttc (fun w_ hw_ => (tc1 (row_el (i := j) 0 G oO oO w_ hw_) (tc1 (row_el (i := i) 0 G oO oO w_ hw_) tc0))), ?_⟩)
 refine SR.o 25 G (st_setel (E := eEN) (i := i) (cs := [.int .i64 ((gt l j).ei), .int .i64 ((gt l j).ek)]) (off := 0) (gt l j) G G G ty92 G G G G G .h lO lO (Nat.le_of_ble_eq_true G) G ⟨ttc (fun w_ hw_ => (tc2 kR (tc2 kR tc0))), ?_⟩)
 refine SR.o 26 G (Ev.step (ev_ix G underlying86 ty92 G G oO oO (row_adr (i := j) 0 G oO lO)) G G G ⟨ttc (fun w_ hw_ => (tc2 kR (tc2 kR tc0))), ?_⟩)
 refine SR.o 27 G (st_setel (E := eEN) (i := j) (cs := [.int .i64 ((gt l i).ei), .int .i64 ((gt l i).ek)]) (off := 0) (gt l i) G G G ty92 G G G G G .h lO lO (Nat.le_of_ble_eq_true G) G ⟨ttc (fun w_ hw_ => (tc2 kR (tc2 kR tc0))), ?_⟩)
 refine SR.fin kR hl_1 hx_1 hR_1 (.c .n) ?_
 refine SQ.go idQ ?_
 refine SC.draw mo [mp keZ.f (.int .i64) pb m] [] (.c (.t2 .h) .n) (fun _ _ _ => sc0) (fun wf_7 hl_7 hx_7 hR_7 => ?_)
 refine SR.m 0 G G G G ?_
 refine SR.z 1 G G (ev_nil G G) ?_
 refine SR.z 2 G G (ev_fa G fo88_1 G (r := 1) G) ?_
 refine SR.z 3 G G (ev_ld1 G ty60 G (At.d (At.lent hR_7 1 G G))) ?_
 refine SR.m 4 G G G G ?_
 refine SR.z 5 G G (ev_nil G G) ?_
 refine SR.z 6 G G (ev_fa G fo88_0 G (r := 0) G) ?_
 refine SR.z 7 G G (ev_ld1 G ty86 G (At.d (At.lent hR_7 1 G G))) ?_
 refine SR.m 8 G G G G ?_
 refine SR.z 9 G G (ev_ix G underlying86 ty92 G G oO oO (fun _ _ => Fr.adr (i := i) (Fr.lent (S := S) hR_7 0 G lO) oO oO)) ?_
 refine SR.z 10 G G (ev_fa G fo92_0 G (r := ao A + (i).toNat * 2) G) ?_
 refine SR.z 11 G G (ev_ld1 G ty3 G (At.elem1 (At.d (Fr.el (i := i) (Fr.lent (S := S) hR_7 0 G lO) oO oO)) 0 G)) ?_
 refine SR.m 12 G G G G ?_
 refine SR.z 13 G G (ev_nil G G) ?_
 refine SR.z 14 G G (ev_fa G fo88_1 G (r := 1) G) ?_
 refine SR.z 15 G G (ev_ld1 G ty60 G (At.d (At.lent hR_7 1 G G))) ?_
 refine SR.m 16 G G G G ?_
 refine SR.z 17 G G (ev_nil G G) ?_
 refine SR.z 18 G G (ev_fa G fo88_0 G (r := 0) G) ?_
 refine SR.z 19 G G (ev_ld1 G ty86 G (At.d (At.lent hR_7 1 G G))) ?_
 refine SR.m 20 G G G G ?_
 refine SR.z 21 G G (ev_ix G underlying86 ty92 G G oO oO (fun _ _ => Fr.adr (i := j) (Fr.lent (S := S) hR_7 0 G lO) oO oO)) ?_
 refine SR.z 22 G G (ev_fa G fo92_0 G (r := ao A + (j).toNat * 2) G) ?_
 refine SR.z 23 G G (ev_ld1 G ty3 G (At.elem1 (At.d (Fr.el (i := j) (Fr.lent (S := S) hR_7 0 G lO) oO oO)) 0 G)) ?_
 refine SR.m 24 G G G G ?_
 refine SR.m 25 G G G G ?_
 refine SR.o 26 G (st_mapEntry keZ (x := (gt ((l.set (i).toNat (gt l j)).set (j).toNat (gt l i)) i).ei) (z := 0) G G G G underlying60 zv3 G G .h (fun u8 n9 => ⟨tt0, ?_⟩))
 refine SR.z 27 G G (ev_ext G G G) ?_
 refine SR.o 28 G (st_entryStore keZ (u := undef) (x := (gt ((l.set (i).toNat (gt l j)).set (j).toNat (gt l i)) i).ei) (v := i) G G G G G G .h ⟨tt0, ?_⟩)
 refine SR.o 29 G (st_mapEntry keZ (x := (gt ((l.set (i).toNat (gt l j)).set (j).toNat (gt l i)) j).ei) (z := 0) G G G G underlying60 zv3 G G .h (fun u10 n11 => ⟨tt0, ?_⟩))
 refine SR.z 30 G G (ev_ext G G G) ?_
 refine SR.o 31 G (st_entryStore keZ (u := undef) (x := (gt ((l.set (i).toNat (gt l j)).set (j).toNat (gt l i)) j).ei) (v := j) G G G G G G .h ⟨tt0, ?_⟩)
 refine SR.fin kR hl_7 hx_7 hR_7 (.c .n) ?_
 exact end0 results99 (.c (.t2 .h) (.c (.t .h) (.c .h .n))) ⟨(mset (mins (mset (mins m ((gt ((l.set (i).toNat (gt l j)).set (j).toNat (gt l i)) i).ei) 0) ((gt ((l.set (i).toNat (gt l j)).set (j).toNat (gt l i)) i).ei) i) ((gt ((l.set (i).toNat (gt l j)).set (j).toNat (gt l i)) j).ei) 0) ((gt ((l.set (i).toNat (gt l j)).set (j).toNat (gt l i)) j).ei) j), (by have h_ := qi_swap hq (i := i) (j := j) oO oO; unfold swF at h_ ⊢; simpa only [mset_mins] using h_), G, G⟩
theorem opush_ (b : Nat) (A : Option Addr) (n : Nat) (c : Nat) (l : List EN) (pb : Nat) (m : List (Int × Int)) (e : EN) (S : Nat → Prop) (wf : World) (hn : l.length = n) (hb : n ≤ 5000) (hq : QI l m) (he : mhas m e.ei = false) :
  TR0 prog 98 [.pointer (some ⟨b, 0, none⟩), .iface 92 (.agg #[.int .i64 e.ei, .int .i64 e.ek])] [cel b [.slice A n c, .map (some pb)] 90, rw_ eEN 92 (.slice A n c) l, mp keZ.f (.int .i64) pb m] S wf (fun v_ C_ => ∃ (u : Value) (m2 : List (Int × Int)), (QI (l ++ [e]) m2) ∧ v_ = .tuple #[] ∧ C_ = [cel b [u, .map (some pb)] 90, rw_ eEN 92 (u) (l ++ [e]), mp keZ.f (.int .i64) pb m2]) := by
 refine TR.mk func98 G ntmps98 G G (fun w_ => ?_)
 refine .seq (.region (.m G G G (.v (ev_any (v := .agg #[.int .i64 e.ei, .int .i64 e.ek]) G kR (fun _ => by kernel_rfl)) G (.cons (st_alloc G G G G zf92 (fun b1 => ?_))))))
 refine .cons (st_storea (l' := [.int .i64 e.ei, .int .i64 e.ek]) G G G ty92 G G G .h G G ?_)
 refine .go idQ (.seq ?_)
 refine SC.draw mo [mp keZ.f (.int .i64) pb m] [] (.c (.t2 (.t .h)) .n) (fun _ _ _ => sc0) (fun wf_2 hl_2 hx_2 hR_2 => ?_)
 refine SR.m 0 G G G G ?_
 refine SR.z 1 G G (ev_nil G G) ?_
 refine SR.z 2 G G (ev_fa G fo88_1 G (r := 1) G) ?_
 refine SR.z 3 G G (ev_ld1 G ty60 G (At.d (At.lent hR_2 1 G G))) ?_
 refine SR.z 4 G G (ev_fa G fo92_0 G (r := 0) G) ?_
 refine SR.z 5 G G (ev_ld1 G ty3 G (At.d (At.lent hR_2 0 G G))) ?_
 refine SR.m 6 G G G G ?_
 refine SR.z 7 G G (ev_nil G G) ?_
 refine SR.z 8 G G (ev_fa G fo88_0 G (r := 0) G) ?_
 refine SR.z 9 G G (ev_ld1 G ty86 G (At.d (At.lent hR_2 1 G G))) ?_
 refine SR.z 10 G G (ev_len G underlying86 G) ?_
 refine SR.o 11 G (st_mapSet keZ (u := undef) (x := e.ei) (v := (n : Int)) G G G underlying60 G G G .h ⟨tt0, ?_⟩)
 refine SR.fin kR hl_2 hx_2 hR_2 (.c .n) ?_
 refine SQ.go idQ ?_
 refine SC.draw mo [cel b [.slice A n c, .map (some pb)] 90, rw_ eEN 92 (.slice A n c) l] [(10, fun w => At w b 0 [.slice A n c, .map (some pb)])] (.c (.t2 .h) (.c (.t2 .h) .n)) (fun w_ _ hw_ => (sc1 (At.whole 0 G w_ hw_) sc0)) (fun wf_3 hl_3 hx_3 hR_3 => ?_)
 refine SR.m 0 G G G G ?_
 refine SR.m 1 G G G G ?_
 refine SR.z 2 G G (ev_nil G G) ?_
 refine SR.z 3 G G (ev_fa G fo88_0 G (r := 0) G) ?_
 refine SR.z 4 G G (ev_ld1 G ty86 G (At.elem1 (v := .slice A n c) (At.ofcs 0 G kR) 0 G)) ?_
 refine SR.z 5 G G (ev_lda (cs := [.int .i64 e.ei, .int .i64 e.ek]) G G (At.d (At.lent hR_3 1 G G)) ty92) ?_
 refine SR.o 6 G (st_lit eEN (e := 92) (l := [e]) G G G G kR G G kW (fun b4 => ⟨ttw 1 G, ?_⟩))
 refine SR.o 7 G (st_app (E := eEN) (m := [e]) G G G G underlying86 ai92 G G G (.t2 .h) rO (row_src 0 G) lO G (fun v5 => ⟨ttw 2 G, ?_⟩))
 refine SR.z 8 G G (ev_nil G G) ?_
 refine SR.z 9 G G (ev_fa G fo88_0 G (r := 0) G) ?_
 refine .know (row_len 0 G) (fun hv8 => ?_)
 obtain ⟨A6, c7, rfl, hv8_1, hv8_2⟩ := hv8
 unfold maxLen at hv8_2
 refine SR.o 10 G (st_store1 G G G ty86 G G G (.t2 .h) .h ⟨ttc (fun w_ hw_ => (tc2 kR tc0)), ?_⟩)
 refine SR.fin kR hl_3 hx_3 hR_3 (.c (.c (.c .n))) ?_
 exact end0 results98 (.d (.c (.t .h) .n)) ⟨.slice A6 ((l ++ [e]).length) c7, (mset m e.ei (n : Int)), (by have h_ := qi_push hq he; rw [hn] at h_; exact h_), G, G⟩
theorem opop_ (b : Nat) (A : Option Addr) (n : Nat) (c : Nat) (l : List EN) (pb : Nat) (m : List (Int × Int)) (S : Nat → Prop) (wf : World) (h0 : 0 < n) (hn : l.length = n) (hb : n ≤ 5000) (hq : QI l m) :
  TR0 prog 97 [.pointer (some ⟨b, 0, none⟩)] [cel b [.slice A n c, .map (some pb)] 90, rw_ eEN 92 (.slice A n c) l, mp keZ.f (.int .i64) pb m] S wf (fun v_ C_ => ∃ (m2 : List (Int × Int)), (QI (l.take (n - 1)) m2) ∧ v_ = .iface 92 (.agg #[.int .i64 ((gt l ((n - 1 : Nat) : Int)).ei), .int .i64 ((gt l ((n - 1 : Nat) : Int)).ek)]) ∧ C_ = [cel b [.slice A (n - 1) c, .map (some pb)] 90, rw_ eEN 92 (.slice A (n - 1) c) (l.take (n - 1)), mp keZ.f (.int .i64) pb m2]) := by
 refine TR.mk func97 G ntmps97 G G (fun w_ => ?_)
 refine .seq (.region (.a G G G (.go idQ (.seq ?_))))
 refine SC.draw mo [] [] .n (fun _ _ _ => sc0) (fun wf_1 hl_1 hx_1 hR_1 => ?_)
 refine SR.m 0 G G G G ?_
 refine SR.z 1 G G (ev_nil G G) ?_
 refine SR.z 2 G G (ev_fa G fo88_0 G (r := 0) G) ?_
 refine SR.z 3 G G (ev_ld1 G ty86 G (At.d (At.lent hR_1 0 G G))) ?_
 refine SR.m 4 G G G G ?_
 refine SR.z 5 G G (ev_nil G G) ?_
 refine SR.z 6 G G (ev_fa G fo88_0 G (r := 0) G) ?_
 refine SR.z 7 G G (ev_ld1 G ty86 G (At.d (At.lent hR_1 0 G G))) ?_
 refine SR.z 8 G G (ev_len G underlying86 G) ?_
 refine SR.z 9 G G (ev_sub G G G (r := ((n : Int) - 1)) G oO oO) ?_
 refine SR.z 10 G G (ev_ix G underlying86 ty92 G G oO oO (fun _ _ => Fr.adr (i := ((n : Int) - 1)) (Fr.lent (S := S) hR_1 1 G lO) oO oO)) ?_
 refine SR.z 11 G G (ev_lda G G (At.d (Fr.el (i := ((n : Int) - 1)) (Fr.lent (S := S) hR_1 1 G lO) oO oO)) ty92) ?_
 refine SR.o 12 G (st_alloc G G G G zf92 (fun b2 => ⟨tt0, ?_⟩))
 refine SR.o 13 G (st_storea (l' := [.int .i64 ((gt l ((n : Int) - 1)).ei), .int .i64 ((gt l ((n : Int) - 1)).ek)]) G G G ty92 G G G .h G G ⟨tt0, ?_⟩)
 refine SR.fin kR hl_1 hx_1 hR_1 (.c .n) ?_
 refine SQ.go idQ ?_
 refine .seq (.know (row_len 2 G) (fun hv_ => ?_))
 obtain ⟨_, _, hv1, hv2, hv3⟩ := hv_
 injection hv1 with _ _ hv4; subst hv4
 refine SC.draw mo [cel b [.slice A n c, .map (some pb)] 90] [(14, fun w => At w b 0 [.slice A n c, .map (some pb)])] (.c (.t .h) .n) (fun w_ _ hw_ => (sc1 (At.whole 0 G w_ hw_) sc0)) (fun wf_3 hl_3 hx_3 hR_3 => ?_)
 refine SR.m 0 G G G G ?_
 refine SR.m 1 G G G G ?_
 refine SR.z 2 G G (ev_nil G G) ?_
 refine SR.z 3 G G (ev_fa G fo88_0 G (r := 0) G) ?_
 refine SR.z 4 G G (ev_ld1 G ty86 G (At.elem1 (v := .slice A n c) (At.ofcs 0 G kR) 0 G)) ?_
 refine SR.m 5 G G G G ?_
 refine SR.z 6 G G (ev_nil G G) ?_
 refine SR.z 7 G G (ev_fa G fo88_0 G (r := 0) G) ?_
 refine SR.z 8 G G (ev_ld1 G ty86 G (At.elem1 (v := .slice A n c) (At.ofcs 0 G kR) 0 G)) ?_
 refine SR.z 9 G G (ev_len G underlying86 G) ?_
 refine SR.z 10 G G (ev_sub G G G (r := ((n : Int) - 1)) G oO oO) ?_
 refine SR.z 11 G G (ev_slca G underlying86 ty92 G (.s G oO) oO) ?_
 refine SR.z 12 G G (ev_nil G G) ?_
 refine SR.z 13 G G (ev_fa G fo88_0 G (r := 0) G) ?_
 refine SR.o 14 G (st_store1 G G G ty86 G G G .h .h ⟨ttc (fun w_ hw_ => (tc2 kR tc0)), ?_⟩)
 refine SR.fin kR hl_3 hx_3 hR_3 (.c .n) ?_
 refine SQ.go idQ ?_
 refine .seq ?_
 rw [show ((n : Int) - 1).toNat = n - 1 from by omega]
 rw [show ((n : Int) - 1) = ((n - 1 : Nat) : Int) from by omega]
 refine SC.cutrow (n - 1) (.t2 .h) oO ?_
 refine SC.draw mo [mp keZ.f (.int .i64) pb m] [] (.c (.t2 (.t .h)) .n) (fun _ _ _ => sc0) (fun wf_4 hl_4 hx_4 hR_4 => ?_)
 refine SR.m 0 G G G G ?_
 refine SR.z 1 G G (ev_nil G G) ?_
 refine SR.z 2 G G (ev_fa G fo88_1 G (r := 1) G) ?_
 refine SR.z 3 G G (ev_ld1 G ty60 G (At.d (At.lent hR_4 1 G G))) ?_
 refine SR.z 4 G G (ev_fa G fo92_0 G (r := 0) G) ?_
 refine SR.z 5 G G (ev_ld1 G ty3 G (At.d (At.lent hR_4 2 G G))) ?_
 refine SR.o 6 G (st_mapDel keZ (x := (gt l ((n - 1 : Nat) : Int)).ei) G G G G underlying60 G G .h ⟨tt0, ?_⟩)
 refine SR.fin kR hl_4 hx_4 hR_4 (.c .n) ?_
 refine SQ.go idQ ?_
 refine .seq (.region (.d 3 ty92 G G G G (.v (ev_any (v := .iface 92 (.agg #[.int .i64 ((gt l ((n - 1 : Nat) : Int)).ei), .int .i64 ((gt l ((n - 1 : Nat) : Int)).ek)])) G kR (fun _ => by kernel_rfl)) G (.a G G G ?_))))
 refine .go idQ (.ret idQ (ret1 results97 G (.c (.t2 .h) (.c (.t .h) (.c .h .n))) ⟨(mdel m ((gt l ((n - 1 : Nat) : Int)).ei)), (qi_pop hq oO), G, G⟩))
end Go.Proofs.Ytlefdinbbjiabaa.Sx
set_option maxRecDepth 20000
set_option maxHeartbeats 1000000
namespace Go.Proofs.Ytlefdinbbjiabaa.Sx.FF
open Go Go.SX Go.Proofs Go.Proofs.Try FA FB FC FD FE
theorem hbd96 : hasBody prog 96 = true := by kernel_rfl
theorem hbd99 : hasBody prog 99 = true := by kernel_rfl
theorem hbd98 : hasBody prog 98 = true := by kernel_rfl
theorem hbd50 : hasBody prog 50 = true := by kernel_rfl
theorem hbd51 : hasBody prog 51 = true := by kernel_rfl
theorem hbd52 : hasBody prog 52 = true := by kernel_rfl
theorem hbd97 : hasBody prog 97 = true := by kernel_rfl
theorem mth94_Less (b : Nat) (w : World) : (method (prog.types.size + Made.depth) 94 (.pointer (some ⟨b, 0, none⟩)) "Less").run prog w = .ok (96, .pointer (some ⟨b, 0, none⟩)) w := by kernel_rfl
theorem mth94_Swap (b : Nat) (w : World) : (method (prog.types.size + Made.depth) 94 (.pointer (some ⟨b, 0, none⟩)) "Swap").run prog w = .ok (99, .pointer (some ⟨b, 0, none⟩)) w := by kernel_rfl
theorem mth94_Push (b : Nat) (w : World) : (method (prog.types.size + Made.depth) 94 (.pointer (some ⟨b, 0, none⟩)) "Push").run prog w = .ok (98, .pointer (some ⟨b, 0, none⟩)) w := by kernel_rfl
theorem mth94_Len (b : Nat) (w : World) : (method (prog.types.size + Made.depth) 94 (.pointer (some ⟨b, 0, none⟩)) "Len").run prog w = .ok (50, .pointer (some ⟨b, 0, none⟩)) w := by kernel_rfl
theorem mth94_Pop (b : Nat) (w : World) : (method (prog.types.size + Made.depth) 94 (.pointer (some ⟨b, 0, none⟩)) "Pop").run prog w = .ok (97, .pointer (some ⟨b, 0, none⟩)) w := by kernel_rfl
end Go.Proofs.Ytlefdinbbjiabaa.Sx.FF
namespace Go.Proofs.Ytlefdinbbjiabaa.Sx
open Go Go.SX Go.Proofs Go.Proofs.Try FA FB FC FD FE FF
theorem hup_ (b : Nat) (A : Option Addr) (n : Nat) (c : Nat) (l : List EN) (pb : Nat) (m : List (Int × Int)) (j : Int) (S : Nat → Prop) (wf : World) (hj : 0 ≤ j ∧ j < (n : Int)) (hn : l.length = n) (hb : n ≤ 5000) (hq : QI l m) (hu : UpI l n j) :
  TR0 prog 51 [.iface 94 (.pointer (some ⟨b, 0, none⟩)), .int .i64 j] [cel b [.slice A n c, .map (some pb)] 90, rw_ eEN 92 (.slice A n c) l, mp keZ.f (.int .i64) pb m] S wf (fun v_ C_ => ∃ (l2 : List EN) (m2 : List (Int × Int)), (l2.Perm l) ∧ (QI l2 m2) ∧ (Hp l2 n) ∧ v_ = .tuple #[] ∧ C_ = [cel b [.slice A n c, .map (some pb)] 90, rw_ eEN 92 (.slice A n c) l2, mp keZ.f (.int .i64) pb m2]) := by
 refine TR.mk func51 G ntmps51 G G (fun w_ => ?_)
 refine .block (.loop (X := Int × (List EN) × (List (Int × Int))) (fun ⟨x, X, M⟩ => X.Perm l ∧ QI X M ∧ X.length = n ∧ UpI X n x ∧ 0 ≤ x ∧ x < n) (fun ⟨x, X, M⟩ => [(0, .iface 94 (.pointer (some ⟨b, 0, none⟩))), (1, .int .i64 x)]) (fun ⟨x, X, M⟩ => [cel b [.slice A n c, .map (some pb)] 90, rw_ eEN 92 (.slice A n c) X, mp keZ.f (.int .i64) pb M]) (fun _ => S) (fun _ => wf) (fun ⟨x, X, M⟩ => x.toNat) (fun a_ w_ hs_ hw_ => ⟨⟨j, l, m⟩, (by (try dsimp only); exact ⟨(List.Perm.refl _), hq, oO, hu, oO, oO⟩), hs_.mono (Sub.get (.c G (.c G .n))), hw_.keep (.d (.c .h .n))⟩) (fun ⟨x, X, M⟩ ⟨q_0, q_1, q_2, q_3, q_4, q_5⟩ => ?_))
 try dsimp only
 refine .block (.seq (.region (.m G G G (.v (ev_sub G G G (r := (x - 1)) G oO oO) G (.v (ev_quo G G G oO) G ?_)))))
 refine .a G G G (.go idQ (.seq (.seq ?_)))
 generalize hi_ : IntKind.i64.wrap (Int.tdiv (x - 1) 2) = p
 have hpar := par_eq hi_ oO oO
 refine .region (.m G G G (.m G G G (.e G G G G G ?_)))
 refine .m G G G (.w (fun _ => ev_mv G G) G (.w (fun _ => ev_mv G G) G (.w (fun _ => ev_mv G G) G ?_)))
 refine .cons (st_gcallki G G G G G G (fun hb => (lkg G hb)) (mth94_Less b) hbd96 (fun hb => (lkA1 G (lkA1 (lkg G hb) (lkA1 (lkg G hb) lkA0)))) (.d (.c .h .n)) (fun hb => have hp := bF bE hb; oless_ b A n c X pb M x p _ _ oO oO lO oO) ?_)
 refine .w (fun hb => ev_not G (lkg G hb)) G (.r G G G G G (.go idQ (.condI G (bO bE (bN less_iff)) (fun h1 => ?_) (fun h1 => ?_))))
 ·
  exact .exitq idQ (end0 results51 (.d (.c .h .n)) ⟨X, M, q_0, q_1, (by rcases hpar with ⟨h1_, h2_⟩ | ⟨h1_, h2_, h3_, h4_⟩; exact (by rw [h1_] at q_3; exact up_root q_3); rcases h1 with h5_ | h5_; exact absurd h5_ oO; rw [h2_] at h5_; exact up_end q_3 h5_), rfl, rfl⟩)
 refine .skipgo idQ (.seq (.region (.m G G G (.m G G G (.m G G G ?_)))))
 refine .cons (.viainv (args' := #[.const (.pointer (some ⟨b, 0, none⟩)), .tmp 19, .tmp 20]) G G (mth94_Swap b) G hbd99 (st_call0 G G G G hbd99 G (.d (.c .h .n)) (oswap_ b A n c X pb M p x _ _ oO oO lO oO oO) (fun v_q3 C_q3 q3 => ?_)))
 obtain ⟨m22, p4, rfl, rfl⟩ := q3
 show SP _ _ _ _ _ _ ⟨_, _ :: _ :: _ :: _, _, _⟩
 refine .go idQ (.region (.m G G G (.a G G G ?_)))
 exact SP.nil (SQ.roundb (X := Int × (List EN) × (List (Int × Int))) (x := (x, X, M)) ⟨p, (swF X p x), m22⟩ (by (try dsimp only); exact ⟨((swF_perm oO oO).trans q_0), p4, (by rw [swF_len]; exact q_2), (by rcases hpar with ⟨h1_, h2_⟩ | ⟨h1_, h2_, h3_, h4_⟩; exact absurd (.inl oO) h1; rw [h2_]; exact up_step q_3 oO h1_ oO (by rw [← h2_]; exact Classical.byContradiction fun h_ => h1 (.inr h_))), oO, oO⟩) (by dsimp only; rcases hpar with ⟨h1_, h2_⟩ | ⟨h1_, h2_, h3_, h4_⟩; exact absurd (.inl oO) h1; omega) (Sub.get (.c rfl (.c rfl .n))) (kp (.d (.c .h .n))))
theorem hdown_ (b : Nat) (A : Option Addr) (n : Nat) (c : Nat) (l : List EN) (pb : Nat) (m : List (Int × Int)) (k : Int) (S : Nat → Prop) (wf : World) (hk : 0 ≤ k ∧ k < (n : Int)) (hn : l.length = n) (hb : n ≤ 5000) (hq : QI l m) (hu : DnI l k 0) :
  TR0 prog 52 [.iface 94 (.pointer (some ⟨b, 0, none⟩)), .int .i64 0, .int .i64 k] [cel b [.slice A n c, .map (some pb)] 90, rw_ eEN 92 (.slice A n c) l, mp keZ.f (.int .i64) pb m] S wf (fun v_ C_ => ∃ (r : Bool) (l2 : List EN) (m2 : List (Int × Int)), (l2.Perm l) ∧ (QI l2 m2) ∧ (Hp l2 k) ∧ (gt l2 k = gt l k) ∧ v_ = .bool r ∧ C_ = [cel b [.slice A n c, .map (some pb)] 90, rw_ eEN 92 (.slice A n c) l2, mp keZ.f (.int .i64) pb m2]) := by
 refine TR.mk func52 G ntmps52 G G (fun w_ => ?_)
 refine .seq (.region (.a G G G (.go idQ (.seq (.region (.m G G G ?_))))))
 refine .a G G G (.go idQ (.seq (.block (.loop (X := Int × (List EN) × (List (Int × Int))) (fun ⟨x, X, M⟩ => X.Perm l ∧ QI X M ∧ X.length = n ∧ DnI X k x ∧ gt X k = gt l k ∧ 0 ≤ x ∧ x ≤ k) (fun ⟨x, X, M⟩ => [(0, .iface 94 (.pointer (some ⟨b, 0, none⟩))), (1, .int .i64 0), (2, .int .i64 k), (6, .bool false), (7, .int .i64 x)]) (fun ⟨x, X, M⟩ => [cel b [.slice A n c, .map (some pb)] 90, rw_ eEN 92 (.slice A n c) X, mp keZ.f (.int .i64) pb M]) (fun _ => S) (fun _ => wf) (fun ⟨x, X, M⟩ => (k - x).toNat) (fun a_ w_ hs_ hw_ => ⟨⟨0, l, m⟩, (by (try dsimp only); exact ⟨(List.Perm.refl _), hq, oO, hu, G, oO, oO⟩), hs_.mono (Sub.get (.c4 G G G G (.c G .n))), hw_.keep (.d (.c .h .n))⟩) (fun ⟨x, X, M⟩ ⟨q_0, q_1, q_2, q_3, q_4, q_5, q_6⟩ => ?_)))))
 try dsimp only
 refine .block (.seq (.region (.m G G G (.v (ev_mul G G G (r := (2 * x)) G oO oO) G (.p (((2 * x) + 1)) oO oO G G G G G ?_)))))
 refine .a G G G (.go idQ (.seq (.seq (.region (.m G G G (.m G G G ?_))))))
 refine .e G G G G G (.m G G G (.w (fun _ => ev_mv G G) G (.w (fun hb => ev_cmp G (lkg G hb) G G) G ?_)))
 refine .r G G G G G (.go idQ (.condI G (bO bD bD) (fun h1 => ?_) (fun h1 => ?_)))
 ·
  refine .exit idQ ?_
  refine .seq (.region (.m G G G (.m G G G (.e G G G G G ?_))))
  refine .a G G G (.go idQ (.ret idQ (ret1 results52 G (.d (.c .h .n)) ⟨decide (x > 0), X, M, q_0, q_1, (dn_leaf q_3 oO), q_4, G, G⟩)))
 refine .skipgo idQ (.seq (.region (.m G G G (.a G G G (.go idQ (.seq (.seq (.region ?_))))))))
 refine .m G G G (.p ((((2 * x) + 1) + 1)) oO oO G G G G G (.a G G G (.go idQ (.seq (.region ?_)))))
 refine .m G G G (.m G G G (.e G G G G G (.m G G G ?_)))
 refine .w (fun _ => ev_mv G G) G (.w (fun _ => ev_mv G G) G (.w (fun _ => ev_mv G G) G (.cons (st_gcallki G G G G G G (fun hb => (lkg G hb)) (mth94_Less b) hbd96 (fun hb => (lkA1 G (lkA1 (lkg G hb) (lkA1 (lkg G hb) lkA0)))) (.d (.c .h .n)) (fun hb => have hp := bT bD hb; oless_ b A n c X pb M (((2 * x) + 1) + 1) ((2 * x) + 1) _ _ oO oO lO oO) ?_))))
 refine .v (ev_and G G G G) G (.go idQ (.condI G (bA bD less_iff) (fun h2 => ?_) (fun h2 => ?_)))
 ·
  refine .region (.m G G G (.a G G G (.go idQ (.seq (.seq (.region ?_))))))
  refine .m G G G (.m G G G (.m G G G (.cons (.viainv (args' := #[.const (.pointer (some ⟨b, 0, none⟩)), .tmp 36, .tmp 37]) G G (mth94_Less b) G hbd96 (st_callk G G G G hbd96 G (.d (.c .h .n)) (oless_ b A n c X pb M (((2 * x) + 1) + 1) x _ _ oO oO lO oO) ?_)))))
  refine .v (ev_not G G) G (.go idQ (.condI G (bN less_iff) (fun h3 => ?_) (fun h3 => ?_)))
  ·
   refine .exit idQ ?_
   refine .seq (.region (.m G G G (.m G G G (.e G G G G G ?_))))
   refine .a G G G (.go idQ (.ret idQ (ret1 results52 G (.d (.c .h .n)) ⟨decide (x > 0), X, M, q_0, q_1, (dn_end q_3 (j := (((2 * x) + 1) + 1)) h3 (dn_oth2 h2.2)), q_4, G, G⟩)))
  refine .skipgo idQ (.seq (.region (.m G G G (.m G G G (.m G G G ?_)))))
  refine .cons (.viainv (args' := #[.const (.pointer (some ⟨b, 0, none⟩)), .tmp 41, .tmp 42]) G G (mth94_Swap b) G hbd99 (st_call0 G G G G hbd99 G (.d (.c .h .n)) (oswap_ b A n c X pb M x (((2 * x) + 1) + 1) _ _ oO oO lO oO oO) (fun v_q5 C_q5 q5 => ?_)))
  obtain ⟨m24, p6, rfl, rfl⟩ := q5
  show SP _ _ _ _ _ _ ⟨_, _ :: _ :: _ :: _, _, _⟩
  refine .go idQ (.region (.m G G G (.a G G G ?_)))
  exact SP.nil (SQ.roundb (X := Int × (List EN) × (List (Int × Int))) (x := (x, X, M)) ⟨(((2 * x) + 1) + 1), (swF X x (((2 * x) + 1) + 1)), m24⟩ (by (try dsimp only); exact ⟨((swF_perm oO oO).trans q_0), p6, (by rw [swF_len]; exact q_2), (dn_step q_3 oO oO oO oO oO (Classical.byContradiction fun h_ => h3 h_) (dn_oth2 h2.2)), (by rw [gt_swF oO oO oO, if_neg oO, if_neg oO]; exact q_4), oO, oO⟩) dO (Sub.get (.c4 G G G G (.c G .n))) (kp (.d (.c .h .n))))
 refine .skipgo idQ (.seq (.seq (.region (.m G G G (.m G G G (.m G G G ?_))))))
 refine .cons (.viainv (args' := #[.const (.pointer (some ⟨b, 0, none⟩)), .tmp 36, .tmp 37]) G G (mth94_Less b) G hbd96 (st_callk G G G G hbd96 G (.d (.c .h .n)) (oless_ b A n c X pb M ((2 * x) + 1) x _ _ oO oO lO oO) ?_))
 refine .v (ev_not G G) G (.go idQ (.condI G (bN less_iff) (fun h7 => ?_) (fun h7 => ?_)))
 ·
  refine .exit idQ ?_
  refine .seq (.region (.m G G G (.m G G G (.e G G G G G ?_))))
  refine .a G G G (.go idQ (.ret idQ (ret1 results52 G (.d (.c .h .n)) ⟨decide (x > 0), X, M, q_0, q_1, (dn_end q_3 (j := ((2 * x) + 1)) h7 (dn_oth1 h2)), q_4, G, G⟩)))
 refine .skipgo idQ (.seq (.region (.m G G G (.m G G G (.m G G G ?_)))))
 refine .cons (.viainv (args' := #[.const (.pointer (some ⟨b, 0, none⟩)), .tmp 41, .tmp 42]) G G (mth94_Swap b) G hbd99 (st_call0 G G G G hbd99 G (.d (.c .h .n)) (oswap_ b A n c X pb M x ((2 * x) + 1) _ _ oO oO lO oO oO) (fun v_q9 C_q9 q9 => ?_)))
 obtain ⟨m28, p10, rfl, rfl⟩ := q9
 show SP _ _ _ _ _ _ ⟨_, _ :: _ :: _ :: _, _, _⟩
 refine .go idQ (.region (.m G G G (.a G G G ?_)))
 exact SP.nil (SQ.roundb (X := Int × (List EN) × (List (Int × Int))) (x := (x, X, M)) ⟨((2 * x) + 1), (swF X x ((2 * x) + 1)), m28⟩ (by (try dsimp only); exact ⟨((swF_perm oO oO).trans q_0), p10, (by rw [swF_len]; exact q_2), (dn_step q_3 oO oO oO oO oO (Classical.byContradiction fun h_ => h7 h_) (dn_oth1 h2)), (by rw [gt_swF oO oO oO, if_neg oO, if_neg oO]; exact q_4), oO, oO⟩) dO (Sub.get (.c4 G G G G (.c G .n))) (kp (.d (.c .h .n))))
theorem hdownf_ (b : Nat) (A : Option Addr) (n : Nat) (c : Nat) (l : List EN) (pb : Nat) (m : List (Int × Int)) (i : Int) (S : Nat → Prop) (wf : World) (hi : 0 ≤ i ∧ i < (n : Int)) (hn : l.length = n) (hb : n ≤ 5000) (hch : ∀ k : Int, 0 < k → k < n → (k - 1) / 2 = i → ¬ ltE (gt l k) (gt l i)) :
  TR0 prog 52 [.iface 94 (.pointer (some ⟨b, 0, none⟩)), .int .i64 i, .int .i64 (n : Int)] [cel b [.slice A n c, .map (some pb)] 90, rw_ eEN 92 (.slice A n c) l, mp keZ.f (.int .i64) pb m] S wf (fun v_ C_ => v_ = .bool false ∧ C_ = [cel b [.slice A n c, .map (some pb)] 90, rw_ eEN 92 (.slice A n c) l, mp keZ.f (.int .i64) pb m]) := by
 refine TR.mk func52 G ntmps52 G G (fun w_ => ?_)
 refine .seq (.region (.a G G G (.go idQ (.seq (.region (.m G G G ?_))))))
 refine .a G G G (.go idQ (.seq (.block (.loop (X := Int) (fun x => i = x ∧ 0 ≤ x) (fun x => [(0, .iface 94 (.pointer (some ⟨b, 0, none⟩))), (1, .int .i64 i), (2, .int .i64 (n : Int)), (6, .bool false), (7, .int .i64 x)]) (fun x => [cel b [.slice A n c, .map (some pb)] 90, rw_ eEN 92 (.slice A n c) l, mp keZ.f (.int .i64) pb m]) (fun _ => S) (fun _ => wf) (fun x => 0) (fun a_ w_ hs_ hw_ => ⟨i, (by (try dsimp only); exact ⟨G, oO⟩), hs_.mono (Sub.get (.c4 G G G G (.c G .n))), hw_.keep (.d (.c .h .n))⟩) (fun x ⟨q_0, q_1⟩ => ?_)))))
 try dsimp only
 refine .block (.seq (.region (.m G G G (.v (ev_mul G G G (r := (2 * x)) G oO oO) G (.p (((2 * x) + 1)) oO oO G G G G G ?_)))))
 refine .a G G G (.go idQ (.seq (.seq (.region (.m G G G (.m G G G ?_))))))
 refine .e G G G G G (.m G G G (.w (fun _ => ev_mv G G) G (.w (fun hb => ev_cmp G (lkg G hb) G G) G ?_)))
 refine .r G G G G G (.go idQ (.condI G (bO bD bD) (fun h1 => ?_) (fun h1 => ?_)))
 ·
  refine .exit idQ ?_
  refine .seq (.region (.m G G G (.m G G G (.e G G G G G ?_))))
  refine .a G G G (.go idQ (.ret idQ (ret1 results52 G (.d (.c .h .n)) ⟨(congrArg Value.bool (decide_eq_false oO)), G⟩)))
 refine .skipgo idQ (.seq (.region (.m G G G (.a G G G (.go idQ (.seq (.seq (.region ?_))))))))
 refine .m G G G (.p ((((2 * x) + 1) + 1)) oO oO G G G G G (.a G G G (.go idQ (.seq (.region ?_)))))
 refine .m G G G (.m G G G (.e G G G G G (.m G G G ?_)))
 refine .w (fun _ => ev_mv G G) G (.w (fun _ => ev_mv G G) G (.w (fun _ => ev_mv G G) G (.cons (st_gcallki G G G G G G (fun hb => (lkg G hb)) (mth94_Less b) hbd96 (fun hb => (lkA1 G (lkA1 (lkg G hb) (lkA1 (lkg G hb) lkA0)))) (.d (.c .h .n)) (fun hb => have hp := bT bD hb; oless_ b A n c l pb m (((2 * x) + 1) + 1) ((2 * x) + 1) _ _ oO oO lO oO) ?_))))
 refine .v (ev_and G G G G) G (.go idQ (.condI G (bA bD less_iff) (fun h2 => ?_) (fun h2 => ?_)))
 ·
  refine .region (.m G G G (.a G G G (.go idQ (.seq (.seq (.region ?_))))))
  refine .m G G G (.m G G G (.m G G G (.cons (.viainv (args' := #[.const (.pointer (some ⟨b, 0, none⟩)), .tmp 36, .tmp 37]) G G (mth94_Less b) G hbd96 (st_callk G G G G hbd96 G (.d (.c .h .n)) (oless_ b A n c l pb m (((2 * x) + 1) + 1) x _ _ oO oO lO oO) ?_)))))
  refine .v (ev_not G G) G (.go idQ (.condI G (bN less_iff) (fun h3 => ?_) (fun h3 => ?_)))
  ·
   refine .exit idQ ?_
   refine .seq (.region (.m G G G (.m G G G (.e G G G G G ?_))))
   refine .a G G G (.go idQ (.ret idQ (ret1 results52 G (.d (.c .h .n)) ⟨(congrArg Value.bool (decide_eq_false oO)), G⟩)))
  refine .skipgo idQ (.seq ?_)
  subst q_0
  exact absurd (hch (((2 * i) + 1) + 1) oO oO oO) h3
 refine .skipgo idQ (.seq (.seq (.region (.m G G G (.m G G G (.m G G G ?_))))))
 refine .cons (.viainv (args' := #[.const (.pointer (some ⟨b, 0, none⟩)), .tmp 36, .tmp 37]) G G (mth94_Less b) G hbd96 (st_callk G G G G hbd96 G (.d (.c .h .n)) (oless_ b A n c l pb m ((2 * x) + 1) x _ _ oO oO lO oO) ?_))
 refine .v (ev_not G G) G (.go idQ (.condI G (bN less_iff) (fun h4 => ?_) (fun h4 => ?_)))
 ·
  refine .exit idQ ?_
  refine .seq (.region (.m G G G (.m G G G (.e G G G G G ?_))))
  refine .a G G G (.go idQ (.ret idQ (ret1 results52 G (.d (.c .h .n)) ⟨(congrArg Value.bool (decide_eq_false oO)), G⟩)))
 refine .skipgo idQ (.seq ?_)
 subst q_0
 exact absurd (hch ((2 * i) + 1) oO oO oO) h4
theorem hpush_ (b : Nat) (A : Option Addr) (n : Nat) (c : Nat) (l : List EN) (pb : Nat) (m : List (Int × Int)) (e : EN) (S : Nat → Prop) (wf : World) (hn : l.length = n) (hb : n ≤ 4200) (hq : QI l m) (he : mhas m e.ei = false) (hp : Hp l n) :
  TR0 prog 43 [.iface 94 (.pointer (some ⟨b, 0, none⟩)), .iface 92 (.agg #[.int .i64 e.ei, .int .i64 e.ek])] [cel b [.slice A n c, .map (some pb)] 90, rw_ eEN 92 (.slice A n c) l, mp keZ.f (.int .i64) pb m] S wf (fun v_ C_ => ∃ (u : Value) (l2 : List EN) (m2 : List (Int × Int)), (l2.Perm (l ++ [e])) ∧ (QI l2 m2) ∧ (Hp l2 (n + 1 : Nat)) ∧ v_ = .tuple #[] ∧ C_ = [cel b [u, .map (some pb)] 90, rw_ eEN 92 (u) l2, mp keZ.f (.int .i64) pb m2]) := by
 refine TR.mk func43 G ntmps43 G G (fun w_ => ?_)
 refine .seq (.region (.m G G G (.m G G G (.cons (.viainv (args' := #[.const (.pointer (some ⟨b, 0, none⟩)), .tmp 5]) G G (mth94_Push b) G hbd98 (st_call0 G G G G hbd98 G (.d (.c .h .n)) (opush_ b A n c l pb m e _ _ lO oO oO oO) (fun v_q3 C_q3 q3 => ?_)))))))
 obtain ⟨u1, m22, p4, rfl, rfl⟩ := q3
 show SP _ _ _ _ _ _ ⟨_, _ :: _ :: _ :: _, _, _⟩
 refine .go idQ (.region (.m G G G (.m G G G (.know (row_len 1 G) (fun hv7 => ?_)))))
 obtain ⟨A5, c6, rfl, hv7_1, hv7_2⟩ := hv7
 unfold maxLen at hv7_2
 refine .cons (.viainv (args' := #[.const (.pointer (some ⟨b, 0, none⟩))]) G G (mth94_Len b) G hbd50 (st_callk G G G G hbd50 G (.d (.c .h .n)) (olen_ b A5 ((l ++ [e]).length) c6 (l ++ [e]) pb m22 _ _ G) ?_))
 refine .v (ev_sub rfl rfl rfl (r := ((((l ++ [e]).length) : Int) - 1)) rfl oO oO) rfl (.cons (st_call0 rfl rfl rfl rfl hbd51 rfl (.d (.c .h .n)) (hup_ b A5 ((l ++ [e]).length) c6 (l ++ [e]) pb m22 ((((l ++ [e]).length) : Int) - 1) _ _ (by have h_ : (l ++ [e]).length = l.length + 1 := List.length_append; omega) rfl (by have h_ : (l ++ [e]).length = l.length + 1 := List.length_append; omega) p4 (by subst hn; have h_ := up_push (e := e) hp; rw [List.length_append, List.length_singleton]; rw [show (((l.length + 1 : Nat) : Int) - 1) = l.length from by omega]; exact h_)) (fun v_q10 C_q10 q10 => ?_)))
 obtain ⟨l28, m29, p11, p12, p13, rfl, rfl⟩ := q10
 show SP _ _ _ _ _ _ ⟨_, _ :: _ :: _ :: _, _, _⟩
 exact SP.nil (end0 results43 (.d (.c .h .n)) ⟨.slice A5 ((l ++ [e]).length) c6, l28, m29, p11, p12, (by have h_ := p13; rw [List.length_append, List.length_singleton, hn] at h_; exact h_), G, G⟩)
theorem hfix_ (b : Nat) (A : Option Addr) (n : Nat) (c : Nat) (l : List EN) (pb : Nat) (m : List (Int × Int)) (i : Int) (S : Nat → Prop) (wf : World) (hi : 0 ≤ i ∧ i < (n : Int)) (hn : l.length = n) (hb : n ≤ 5000) (hq : QI l m) (hch : ∀ k : Int, 0 < k → k < n → (k - 1) / 2 = i → ¬ ltE (gt l k) (gt l i)) (hu : UpI l n i) :
  TR0 prog 44 [.iface 94 (.pointer (some ⟨b, 0, none⟩)), .int .i64 i] [cel b [.slice A n c, .map (some pb)] 90, rw_ eEN 92 (.slice A n c) l, mp keZ.f (.int .i64) pb m] S wf (fun v_ C_ => ∃ (l2 : List EN) (m2 : List (Int × Int)), (l2.Perm l) ∧ (QI l2 m2) ∧ (Hp l2 n) ∧ v_ = .tuple #[] ∧ C_ = [cel b [.slice A n c, .map (some pb)] 90, rw_ eEN 92 (.slice A n c) l2, mp keZ.f (.int .i64) pb m2]) := by
 refine TR.mk func44 G ntmps44 G G (fun w_ => ?_)
 refine .seq (.region (.m G G G (.m G G G (.m G G G ?_))))
 refine .cons (.viainv (args' := #[.const (.pointer (some ⟨b, 0, none⟩))]) G G (mth94_Len b) G hbd50 (st_callk G G G G hbd50 G (.d (.c .h .n)) (olen_ b A n c l pb m _ _ lO) ?_))
 refine .cons (st_callk G G G G hbd52 G (.d (.c .h .n)) (hdownf_ b A n c l pb m i _ _ oO lO oO hch) ?_)
 refine .v (ev_not G G) G (.go idQ (.cond_t G (.region ?_)))
 refine .m G G G (.m G G G (.cons (st_call0 G G G G hbd51 G (.d (.c .h .n)) (hup_ b A n c l pb m i _ _ oO lO oO hq hu) (fun v_q3 C_q3 q3 => ?_))))
 obtain ⟨l21, m22, p4, p5, p6, rfl, rfl⟩ := q3
 show SP _ _ _ _ _ _ ⟨_, _ :: _ :: _ :: _, _, _⟩
 exact SP.nil (end0 results44 (.d (.c .h .n)) ⟨l21, m22, p4, p5, p6, G, G⟩)
theorem hpop_ (b : Nat) (A : Option Addr) (n : Nat) (c : Nat) (l : List EN) (pb : Nat) (m : List (Int × Int)) (S : Nat → Prop) (wf : World) (h0 : 0 < n) (hn : l.length = n) (hb : n ≤ 5000) (hq : QI l m) (hp : Hp l n) :
  TR0 prog 55 [.iface 94 (.pointer (some ⟨b, 0, none⟩))] [cel b [.slice A n c, .map (some pb)] 90, rw_ eEN 92 (.slice A n c) l, mp keZ.f (.int .i64) pb m] S wf (fun v_ C_ => ∃ (l2 : List EN) (m2 : List (Int × Int)), ((gt l 0 :: l2).Perm l) ∧ (QI l2 m2) ∧ (Hp l2 (n - 1 : Nat)) ∧ (l2.length = n - 1) ∧ v_ = .iface 92 (.agg #[.int .i64 ((gt l 0).ei), .int .i64 ((gt l 0).ek)]) ∧ C_ = [cel b [.slice A (n - 1) c, .map (some pb)] 90, rw_ eEN 92 (.slice A (n - 1) c) l2, mp keZ.f (.int .i64) pb m2]) := by
 refine TR.mk func55 G ntmps55 G G (fun w_ => ?_)
 refine .seq (.region (.a G G G (.go idQ (.seq (.region (.m G G G ?_))))))
 refine .cons (.viainv (args' := #[.const (.pointer (some ⟨b, 0, none⟩))]) G G (mth94_Len b) G hbd50 (st_callk G G G G hbd50 G (.d (.c .h .n)) (olen_ b A n c l pb m _ _ lO) ?_))
 refine .v (ev_sub G G G (r := ((n : Int) - 1)) G oO oO) G (.a G G G (.go idQ (.seq (.region (.m G G G ?_)))))
 refine .m G G G (.cons (.viainv (args' := #[.const (.pointer (some ⟨b, 0, none⟩)), .const (.int .i64 0), .tmp 8]) G G (mth94_Swap b) G hbd99 (st_call0 G G G G hbd99 G (.d (.c .h .n)) (oswap_ b A n c l pb m 0 ((n : Int) - 1) _ _ oO oO lO oO hq) (fun v_q2 C_q2 q2 => ?_))))
 obtain ⟨m21, p3, rfl, rfl⟩ := q2
 show SP _ _ _ _ _ _ ⟨_, _ :: _ :: _ :: _, _, _⟩
 refine .go idQ (.seq (.region (.m G G G (.m G G G (.cons (st_call0 G G G G hbd52 G (.d (.c .h .n)) (hdown_ b A n c (swF l 0 ((n : Int) - 1)) pb m21 ((n : Int) - 1) _ _ oO (by rw [swF_len]; exact hn) oO p3 (dn_start (by rw [show ((n : Int) - 1 + 1) = n from by omega]; exact hp) oO oO)) (fun v_q7 C_q7 q7 => ?_)))))))
 obtain ⟨r4, l25, m26, p8, p9, p10, p11, rfl, rfl⟩ := q7
 show SP _ _ _ _ _ _ ⟨_, _ :: _ :: _ :: _, _, _⟩
 refine .go idQ (.seq (.region (.m G G G (.cons (.viainv (args' := #[.const (.pointer (some ⟨b, 0, none⟩))]) G G (mth94_Pop b) G hbd97 (st_call0 G G G G hbd97 G (.d (.c .h .n)) (opop_ b A n c l25 pb m26 _ _ oO (by rw [p8.length_eq, swF_len]; exact hn) oO p9) (fun v_q13 C_q13 q13 => ?_)))))))
 obtain ⟨m212, p14, rfl, rfl⟩ := q13
 show SP _ _ _ _ _ _ ⟨_, _ :: _ :: _ :: _, _, _⟩
 refine .a G G G (.go idQ (.ret idQ (ret1 results55 G (.d (.c .h .n)) ⟨(l25.take (n - 1)), m212, (pop_perm hn h0 p8 p11).1, p14, (hp_take p10 oO), (by rw [List.length_take, p8.length_eq, swF_len, hn]; omega), (by rw [(pop_perm hn h0 p8 p11).2]), G⟩)))
end Go.Proofs.Ytlefdinbbjiabaa.Sx
set_option maxRecDepth 20000
set_option maxHeartbeats 1000000
namespace Go.Proofs.Ytlefdinbbjiabaa.Sx.FG
open Go Go.SX Go.Proofs Go.Proofs.Try FA FB FC FD FE FF
theorem fo90_0 : fo prog 90 0 = some 0 := by kernel_rfl
theorem hbd44 : hasBody prog 44 = true := by kernel_rfl
theorem hbd42 : hasBody prog 42 = true := by kernel_rfl
theorem hbd43 : hasBody prog 43 = true := by kernel_rfl
theorem hbd55 : hasBody prog 55 = true := by kernel_rfl
end Go.Proofs.Ytlefdinbbjiabaa.Sx.FG
namespace Go.Proofs.Ytlefdinbbjiabaa.Sx
open Go Go.SX Go.Proofs Go.Proofs.Try FA FB FC FD FE FF FG
theorem qlen_ (b : Nat) (A : Option Addr) (n : Nat) (c : Nat) (l : List EN) (pb : Nat) (m : List (Int × Int)) (S : Nat → Prop) (wf : World) (hn : l.length = n) :
  TR0 prog 42 [.pointer (some ⟨b, 0, none⟩)] [cel b [.slice A n c, .map (some pb)] 90, rw_ eEN 92 (.slice A n c) l, mp keZ.f (.int .i64) pb m] S wf (fun v_ C_ => v_ = .int .i64 (n : Int) ∧ C_ = [cel b [.slice A n c, .map (some pb)] 90, rw_ eEN 92 (.slice A n c) l, mp keZ.f (.int .i64) pb m]) := by
 refine TR.mk func42 G ntmps42 G G (fun w_ => ?_)
 refine .seq (.region (.a G G G (.go idQ (.seq (.seq (.region (.m G G G ?_)))))))
 refine .v (ev_bin G G G (r := .bool false) (fun _ => by kernel_rfl)) G (.go idQ (.cond_f G (.skipgo idQ (.seq (.region ?_)))))
 refine .m G G G (.v (ev_nil G G) G (.f fo90_0 0 G G G G (.cons (st_callk G G G G hbd50 G (.d (.c .h .n)) (olen_ b A n c l pb m _ _ lO) ?_))))
 refine .a G G G (.go idQ (.ret idQ (ret1 results42 G (.d (.c .h .n)) ⟨G, G⟩)))
theorem qput_ (b : Nat) (A : Option Addr) (n : Nat) (c : Nat) (l : List EN) (pb : Nat) (m : List (Int × Int)) (x : Int) (d : Int) (S : Nat → Prop) (wf : World) (hn : l.length = n) (hb : n < 4096) (hq : QQ l m) :
  TR0 prog 28 [.pointer (some ⟨b, 0, none⟩), .int .i64 x, .int .i64 d] [cel b [.slice A n c, .map (some pb)] 90, rw_ eEN 92 (.slice A n c) l, mp keZ.f (.int .i64) pb m] S wf (fun v_ C_ => ∃ (u : Value) (r : Bool) (l2 : List EN) (m2 : List (Int × Int)), (QQ l2 m2) ∧ (kq l2 = putK (kq l) x d) ∧ (r = decide (∀ k0, kq l x = some k0 → d < k0)) ∧ v_ = .bool r ∧ C_ = [cel b [u, .map (some pb)] 90, rw_ eEN 92 (u) l2, mp keZ.f (.int .i64) pb m2]) := by
 refine TR.mk func28 G ntmps28 G G (fun w_ => ?_)
 refine .seq (.region (.a G G G (.go idQ (.seq (.seq (.region (.m G G G ?_)))))))
 refine .v (ev_bin G G G (r := .bool false) (fun _ => by kernel_rfl)) G (.go idQ (.cond_f G (.skipgo idQ (.seq (.region ?_)))))
 refine .m G G G (.v (ev_nil G G) G (.f fo90_0 0 G G G G (.f fo88_1 1 G G G G ?_)))
 refine .l ty60 0 G G G G G (.m G G G (.v (ev_lkpok keZ (m := m) (x := x) (z := 0) G underlying60 zv3 G G 2 G) G (.m G G G ?_)))
 refine .x G G G G (.x G G G G (.a G G G (.a G G G ?_)))
 refine .go idQ (.seq (.block (.seq (.seq ?_))))
 rcases Bool.eq_false_or_eq_true (mhas m x) with hm | hm
 ·
  rw [hm]
  have hof := hq.qi.of x hm
  refine .region (.m G G G (.v (ev_not G G) G (.m G G G ?_)))
  refine .cons (.off G G G G G G ?_)
  refine .cons (.off G G G G G G ?_)
  refine .cons (.off G G G G G G ?_)
  refine .v (ev_pickf G G G G) G (.a G G G (.go idQ (.cond_f G ?_)))
  refine .region (.m G G G (.m G G G (.cons (.on G G G (Ev.step (ev_mv G G) G G G ?_)))))
  refine .cons (.on G G G (Ev.step (ev_mv G G) G G G ?_))
  refine .cons (.on G G G (Ev.step (ev_nil G G) G G G ?_))
  refine .cons (.on G G G (Ev.step (ev_fa G fo90_0 G (r := 0) G) G G G ?_))
  refine .cons (.on G G G (Ev.step (ev_fa G fo88_0 G (r := 0) G) G G G ?_))
  refine .cons (.on G G G (Ev.step (ev_ld1 G ty86 G (At.own1 0 G G)) G G G ?_))
  refine .cons (.on G G G (Ev.step (ev_mv G G) G G G ?_))
  refine .cons (.on G G G (Ev.step (ev_ix G underlying86 ty92 G G oO oO (row_adr (i := (mget m x 0)) 1 G oO oO)) G G G ?_))
  refine .cons (.on G G G (Ev.step (ev_fa G fo92_1 G (r := ao A + ((mget m x 0)).toNat * 2 + 1) G) G G G ?_))
  refine .cons (.on G G G (Ev.step (ev_ld1 G ty3 G (At.elem1 (row_el (E := eEN) (l := l) (i := (mget m x 0)) 1 G oO oO) 1 G)) G G G ?_))
  refine .cons (.on G G G (Ev.step (ev_cmp G G G G) G G G ?_))
  refine .v (ev_pickt G G G G) G (.a G G G (.go idQ (.condI G bD (fun h1 => ?_) (fun h1 => ?_))))
  ·
   refine .seq (.region (.a G G G (.go idQ (.ret idQ (ret1 results28 G (.d (.c .h .n)) ⟨.slice A n c, false, l, m, hq, (put_same (hq.qi.kat hm) oO).symm, (decide_eq_false (fun h_ => by have := h_ _ (hq.qi.kat hm); omega)).symm, G, G⟩)))))
  refine .seq (.region (.m G G G (.v (ev_not G G) G (.a G G G ?_))))
  refine .go idQ (.cond_f G (.skipgo idQ (.seq (.region (.m G G G ?_)))))
  refine .v (ev_nil G G) G (.f fo90_0 0 G G G G (.f fo88_0 0 G G G G (.l ty86 0 G G G G G ?_)))
  refine .m G G G (.m G G G (.v (ev_ix G underlying86 ty92 G G oO oO (row_adr (i := (mget m x 0)) 1 G oO oO)) G (.f fo92_1 (ao A + ((mget m x 0)).toNat * 2 + 1) G G G G ?_)))
  refine .cons (st_setel2 (E := eEN) (i := (mget m x 0)) (cs := [.int .i64 d]) (off := 1) (l2 := (l.set ((mget m x 0)).toNat (EN.mk ((gt l (mget m x 0)).ei) d))) (EN.mk ((gt l (mget m x 0)).ei) d) G G G ty3 G G G G G (.t .h) lO lO (Nat.le_of_ble_eq_true G) G G ?_)
  refine .go idQ (.seq ?_)
  have hs1 : (l.set (mget m x 0).toNat (EN.mk (gt l (mget m x 0)).ei d)).length = l.length := by simp
  refine .region (.m G G G (.v (ev_nil G G) G (.f fo90_0 0 G G G G ?_)))
  refine .v (ev_any (v := .iface 94 (.pointer (some ⟨b, 0, none⟩))) G kR (fun _ => by kernel_rfl)) G (.m G G G (.cons (st_call0 G G G G hbd44 G (.c (.t .h) (.d .n)) (hfix_ b A n c (l.set ((mget m x 0)).toNat (EN.mk ((gt l (mget m x 0)).ei) d)) pb m (mget m x 0) _ _ oO (by rw [hs1]; exact hn) oO (qi_key hq.qi oO G) (by have h2_ := up_key (l := l) (i := mget m x 0) (e := EN.mk (gt l (mget m x 0)).ei d) (by rw [hn]; have h_ := hq.hp; rw [hn] at h_; exact h_) oO (.inl (by show d < _; omega)); rw [hn] at h2_; exact h2_.2) (by have h2_ := up_key (l := l) (i := mget m x 0) (e := EN.mk (gt l (mget m x 0)).ei d) (by rw [hn]; have h_ := hq.hp; rw [hn] at h_; exact h_) oO (.inl (by show d < _; omega)); rw [hn] at h2_; exact h2_.1)) (fun v_q4 C_q4 q4 => ?_))))
  obtain ⟨l22, m23, p5, p6, p7, rfl, rfl⟩ := q4
  show SP _ _ _ _ _ _ ⟨_, _ :: _ :: _ :: _, _, _⟩
  refine .go idQ (.seq (.region (.a G G G (.go idQ (.ret idQ (ret1 results28 G (.d (.c .h .n)) ⟨.slice A n c, true, l22, m23, ⟨p6, by rw [p5.length_eq, hs1, hn]; exact p7⟩, (put_low hq.qi p6 hm oO p5), (decide_eq_true (fun k0 h_ => by rw [hq.qi.kat hm] at h_; injection h_ with h_; omega)).symm, G, G⟩))))))
 rw [hm]
 refine .region (.m G G G (.v (ev_not G G) G (.m G G G ?_)))
 refine .cons (.on G G G (Ev.step (ev_mv G G) G G G ?_))
 refine .cons (.on G G G (st_callk G G G G hbd42 G (.d (.c .h .n)) (qlen_ b A n c l pb m _ _ lO) ?_))
 refine .cons (.on G G G (Ev.step (ev_cmp G G G G) G G G ?_))
 refine .v (ev_pickt G G G G) G (.a G G G (.go idQ (.condI G bD (fun h8 => ?_) (fun h8 => ?_))))
 ·
  exfalso; omega
 refine .region (.m G G G (.m G G G (.cons (.off G G G G G G ?_))))
 refine .cons (.off G G G G G G ?_)
 refine .cons (.off G G G G G G ?_)
 refine .cons (.off G G G G G G ?_)
 refine .cons (.off G G G G G G ?_)
 refine .cons (.off G G G G G G ?_)
 refine .cons (.off G G G G G G ?_)
 refine .cons (.off G G G G G G ?_)
 refine .cons (.off G G G G G G ?_)
 refine .cons (.off G G G G G G ?_)
 refine .cons (.off G G G G G G ?_)
 refine .v (ev_pickf G G G G) G (.a G G G (.go idQ (.cond_f G ?_)))
 refine .seq (.region (.m G G G (.v (ev_not G G) G (.a G G G ?_))))
 refine .go idQ (.cond_t G (.seq (.region (.m G G G ?_))))
 refine .v (ev_nil G G) G (.f fo90_0 0 G G G G (.v (ev_any (v := .iface 94 (.pointer (some ⟨b, 0, none⟩))) G kR (fun _ => by kernel_rfl)) G (.m G G G ?_)))
 refine .m G G G (.v (ev_any (v := .agg #[.int .i64 x, .int .i64 d]) G kR (fun _ => by kernel_rfl)) G (.v (ev_any (v := .iface 92 (.agg #[.int .i64 x, .int .i64 d])) G kR (fun _ => by kernel_rfl)) G (.cons (st_call0 G G G G hbd43 G (.d (.c .h .n)) (hpush_ b A n c l pb m (EN.mk x d) _ _ lO oO hq.qi hm (by have h_ := hq.hp; rw [hn] at h_; exact h_)) (fun v_q12 C_q12 q12 => ?_)))))
 obtain ⟨u9, l210, m211, p13, p14, p15, rfl, rfl⟩ := q12
 show SP _ _ _ _ _ _ ⟨_, _ :: _ :: _ :: _, _, _⟩
 refine .go idQ (.seq (.region (.a G G G (.go idQ (.ret idQ (ret1 results28 G (.d (.c .h .n)) ⟨u9, true, l210, m211, ⟨p14, by rw [p13.length_eq]; simpa [hn] using p15⟩, (put_new hq.qi p14 hm p13), (decide_eq_true (fun k0 h_ => by have h1_ := hq.qi.has (x := x); rw [hm, h_] at h1_; cases h1_)).symm, G, G⟩))))))
theorem qtake_ (b : Nat) (A : Option Addr) (n : Nat) (c : Nat) (l : List EN) (pb : Nat) (m : List (Int × Int)) (S : Nat → Prop) (wf : World) (h0 : 0 < n) (hn : l.length = n) (hb : n ≤ 4096) (hq : QQ l m) :
  TR0 prog 46 [.pointer (some ⟨b, 0, none⟩)] [cel b [.slice A n c, .map (some pb)] 90, rw_ eEN 92 (.slice A n c) l, mp keZ.f (.int .i64) pb m] S wf (fun v_ C_ => ∃ (x : Int) (d : Int) (l2 : List EN) (m2 : List (Int × Int)), (leastK (kq l) x d) ∧ (kq l2 = delK (kq l) x) ∧ (QQ l2 m2) ∧ (l2.length = n - 1) ∧ v_ = .tuple #[.int .i64 x, .int .i64 d, .bool true] ∧ C_ = [cel b [.slice A (n - 1) c, .map (some pb)] 90, rw_ eEN 92 (.slice A (n - 1) c) l2, mp keZ.f (.int .i64) pb m2]) := by
 refine TR.mk func46 G ntmps46 G G (fun w_ => ?_)
 refine .seq (.region (.a G G G (.a G G G (.a G G G ?_))))
 refine .go idQ (.seq (.seq (.region (.m G G G (.cons (st_callk G G G G hbd42 G (.d (.c .h .n)) (qlen_ b A n c l pb m _ _ lO) (.e G G G G G ?_)))))))
 refine .go idQ (.condI G bE (fun h1 => ?_) (fun h1 => ?_))
 ·
  exfalso; omega
 refine .skipgo idQ (.seq (.region (.m G G G (.v (ev_nil G G) G (.f fo90_0 0 G G G G ?_)))))
 refine .v (ev_any (v := .iface 94 (.pointer (some ⟨b, 0, none⟩))) G kR (fun _ => by kernel_rfl)) G (.cons (st_call0 G G G G hbd55 G (.d (.c .h .n)) (hpop_ b A n c l pb m _ _ oO lO oO hq.qi (by have h_ := hq.hp; rw [hn] at h_; exact h_)) (fun v_q4 C_q4 q4 => ?_)))
 obtain ⟨l22, m23, p5, p6, p7, p8, rfl, rfl⟩ := q4
 show SP _ _ _ _ _ _ ⟨_, _ :: _ :: _ :: _, _, _⟩
 refine .v (ev_any (v := .agg #[.int .i64 ((gt l 0).ei), .int .i64 ((gt l 0).ek)]) G kR (fun _ => by kernel_rfl)) G (.cons (st_alloc G G G G zf92 (fun b9 => (.cons (st_storea (l' := [.int .i64 ((gt l 0).ei), .int .i64 ((gt l 0).ek)]) G G G ty92 G G G .h G G (.go idQ (.seq ?_)))))))
 refine SC.draw mo [] [] .n (fun _ _ _ => sc0) (fun wf_10 hl_10 hx_10 hR_10 => ?_)
 refine SR.z 0 G G (ev_fa G fo92_0 G (r := 0) G) ?_
 refine SR.z 1 G G (ev_ld1 G ty3 G (At.d (At.lent hR_10 0 G G))) ?_
 refine SR.z 2 G G (ev_fa G fo92_1 G (r := 1) G) ?_
 refine SR.z 3 G G (ev_ld1 G ty3 G (At.d (At.lent hR_10 0 G G))) ?_
 refine SR.z 4 G G (ev_as G G) ?_
 refine SR.z 5 G G (ev_as G G) ?_
 refine SR.z 6 G G (ev_as G G) ?_
 refine SR.fin kR hl_10 hx_10 hR_10 .n ?_
 refine SQ.go idQ ?_
 exact .ret idQ (ret3 results46 G G G (.c (.t .h) (.c (.t .h) (.c (.t .h) .n))) ⟨(gt l 0).ei, (gt l 0).ek, l22, m23, (least_root hq oO), (take_kq hq.qi p6 p5), ⟨p6, by rw [p8]; exact p7⟩, p8, G, G⟩)
end Go.Proofs.Ytlefdinbbjiabaa.Sx
set_option maxRecDepth 20000
set_option maxHeartbeats 1000000
namespace Go.Proofs.Ytlefdinbbjiabaa.Sx.FH
open Go Go.SX Go.Proofs Go.Proofs.Try FA FB FC FD FE FF FG
theorem hbd38 : hasBody prog 38 = true := by kernel_rfl
theorem hbd62 : hasBody prog 62 = true := by kernel_rfl
end Go.Proofs.Ytlefdinbbjiabaa.Sx.FH
namespace Go.Proofs.Ytlefdinbbjiabaa.Sx
open Go Go.SX Go.Proofs Go.Proofs.Try FA FB FC FD FE FF FG FH
def metF (d : Bool) : Nat := if d then 19 else 18
theorem hbmet (d : Bool) : hasBody prog (metF d) = true := by cases d <;> kernel_rfl
theorem wgt_ (a : AR) (d : Bool) (S : Nat → Prop) (wf : World) :
  TR0 prog (metF d) [.agg #[.int .i64 a.fr, .int .i64 a.to, .int .i64 a.tm, .int .i64 a.ds]] [] S wf (fun v_ C_ => v_ = .int .i64 (wgt d a) ∧ C_ = []) := by
 cases d
 · exact time_ a S wf
 · exact dist_ a S wf
theorem new1_ (a : AR) (b : AR) (d : Bool) (mb : Nat) (S : Nat → Prop) (wf : World) :
  TR0 prog 38 [.agg #[.int .i64 a.fr, .int .i64 a.to, .int .i64 a.tm, .int .i64 a.ds], .agg #[.int .i64 b.fr, .int .i64 b.to, .int .i64 b.tm, .int .i64 b.ds], .pointer (some ⟨mb, 0, none⟩)] [cel mb [.func (.func (metF d)) #[] #[]] 49] S wf (fun v_ C_ => v_ = .int .i64 (cmpA d a b) ∧ C_ = [cel mb [.func (.func (metF d)) #[] #[]] 49]) := by
 cases d
 · exact TR0.mono (new1_Time a b mb S wf) (fun v C h => by obtain ⟨r, h1, h2, h3⟩ := h; subst h1; exact ⟨h2, h3⟩)
 · exact TR0.mono (new1_Dist a b mb S wf) (fun v C h => by obtain ⟨r, h1, h2, h3⟩ := h; subst h1; exact ⟨h2, h3⟩)
theorem insA_ (A : Option Addr) (n : Nat) (c : Nat) (l : List AR) (a : Int) (b : Int) (d : Bool) (mb : Nat) (S : Nat → Prop) (wf : World) (hn : l.length = n) (hb : n ≤ 1000) (hr : 0 ≤ a ∧ a ≤ b ∧ b ≤ (n : Int)) :
  TR0 prog 56 [.slice A n c, .int .i64 a, .int .i64 b, .func (.func 38) #[] #[.pointer (some ⟨mb, 0, none⟩)]] [rw_ eAR 47 (.slice A n c) l, cel mb [.func (.func (metF d)) #[] #[]] 49] S wf (fun v_ C_ => ∃ (l2 : List AR), (SegP a b l l2) ∧ (Srd (ltA d) l2 a b) ∧ v_ = .tuple #[] ∧ C_ = [rw_ eAR 47 (.slice A n c) l2, cel mb [.func (.func (metF d)) #[] #[]] 49]) := by
 refine TR.mk func56 G ntmps56 G G (fun w_ => ?_)
 refine .seq (.region (.m G G G (.p ((a + 1)) oO oO G G G G G (.a G G G ?_))))
 refine .go idQ (.block (.loop (X := Int × (List AR)) (fun ⟨i, X⟩ => a + 1 ≤ i ∧ i ≤ b + 1 ∧ X.length = n ∧ SegP a b l X ∧ Srd (ltA d) X a i) (fun ⟨i, X⟩ => [(0, .slice A n c), (1, .int .i64 a), (2, .int .i64 b), (3, .func (.func 38) #[] #[.pointer (some ⟨mb, 0, none⟩)]), (8, .int .i64 i)]) (fun ⟨i, X⟩ => [rw_ eAR 47 (.slice A n c) X, cel mb [.func (.func (metF d)) #[] #[]] 49]) (fun _ => S) (fun _ => wf) (fun ⟨i, X⟩ => (b + 1 - i).toNat) (fun a_ w_ hs_ hw_ => ⟨⟨(a + 1), l⟩, (by (try dsimp only); exact ⟨oO, oO, hn, SegP.rfl', (Srd.one (ltA_wo d) oO)⟩), hs_.mono (Sub.get (.c4 G G G G (.c G .n))), hw_.keep (.d .n)⟩) (fun ⟨i, X⟩ ⟨q_0, q_1, q_2, q_3, q_4⟩ => ?_)))
 try dsimp only
 refine .seq (.seq (.region (.m G G G (.m G G G (.e G G G G G ?_)))))
 refine .go idQ (.condI G bD (fun h1 => ?_) (fun h1 => ?_))
 ·
  refine .skipgo idQ (.seq (.block (.seq (.region (.m G G G (.a G G G (.go idQ (.block ?_))))))))
  refine .loop (X := Int × (List AR)) (fun ⟨j, Y⟩ => Y.length = n ∧ SegP a b l Y ∧ InsI (ltA d) Y a i j ∧ a ≤ j ∧ j ≤ i) (fun ⟨j, Y⟩ => [(0, .slice A n c), (1, .int .i64 a), (2, .int .i64 b), (3, .func (.func 38) #[] #[.pointer (some ⟨mb, 0, none⟩)]), (8, .int .i64 i), (9, .int .i64 j)]) (fun ⟨j, Y⟩ => [rw_ eAR 47 (.slice A n c) Y, cel mb [.func (.func (metF d)) #[] #[]] 49]) (fun _ => S) (fun _ => wf) (fun ⟨j, Y⟩ => j.toNat) (fun a_ w_ hs_ hw_ => ⟨⟨i, X⟩, (by (try dsimp only); exact ⟨q_2, q_3, (inz_start q_4), oO, oO⟩), hs_.mono (Sub.get (.c4 G G G G (.c G (.c G .n)))), hw_.keep (.d .n)⟩) (fun ⟨j, Y⟩ ⟨r_0, r_1, r_2, r_3, r_4⟩ => ?_)
  try dsimp only
  refine .seq (.seq (.know (row_form 0 G oO) (fun hv4 => ?_)))
  obtain ⟨g2, c3, hv4, hv4_1, hv4_2⟩ := hv4
  injection hv4 with eA _ _; subst eA
  by_cases hc5 : j > a
  ·
   refine SC.draw mo [cel mb [.func (.func (metF d)) #[] #[]] 49] [] (.c (.t .h) .n) (fun _ _ _ => sc0) (fun wf_6 hl_6 hx_6 hR_6 => ?_)
   refine SR.m 0 G G G G ?_
   refine SR.m 1 G G G G ?_
   refine SR.z 2 G G (ev_cmp (r := true) G G G (kbDT hc5)) ?_
   refine SR.m 3 G G G G ?_
   refine SR.y 4 G G (fun _ => ev_mv G G) ?_
   refine SR.y 5 G G (fun _ => ev_mv G G) ?_
   refine SR.y 6 G G (fun _ => ev_mv G G) ?_
   refine SR.y 7 G G (fun _ => ev_ix G underlying22 ty47 G G oO oO (fun _ _ => Fr.adr (i := j) (Fr.lent (S := S) hR_6 0 G lO) oO oO)) ?_
   refine SR.y 8 G G (fun _ => ev_lda G G (At.d (Fr.el (i := j) (Fr.lent (S := S) hR_6 0 G lO) oO oO)) ty47) ?_
   refine SR.y 9 G G (fun _ => ev_mv G G) ?_
   refine SR.y 10 G G (fun _ => ev_mv G G) ?_
   refine SR.y 11 G G (fun _ => ev_sub G G G (r := (j - 1)) G oO oO) ?_
   refine SR.y 12 G G (fun _ => ev_ix G underlying22 ty47 G G oO oO (fun _ _ => Fr.adr (i := (j - 1)) (Fr.lent (S := S) hR_6 0 G lO) oO oO)) ?_
   refine SR.y 13 G G (fun _ => ev_lda G G (At.d (Fr.el (i := (j - 1)) (Fr.lent (S := S) hR_6 0 G lO) oO oO)) ty47) ?_
   refine SR.o 14 G (.on G G G (.viacap (args' := #[.tmp 26, .tmp 31, .const (.pointer (some ⟨mb, 0, none⟩))]) G G (by simp) hbd38 (st_callk G G G G hbd38 G (.c .h .n) (new1_ (gt Y j) (gt Y (j - 1)) d mb _ _) ⟨tt0, ?_⟩)))
   refine SR.y 15 G G (fun _ => ev_cmp G G G G) ?_
   refine SR.z 16 G G (ev_pickt G G G G) ?_
   refine SR.fin kR hl_6 hx_6 hR_6 (.c .n) ?_
   refine SQ.go idQ ?_
   refine .condI G bD (fun h7 => ?_) (fun h7 => ?_)
   ·
    refine .skipgo idQ (.seq (.block ?_))
    refine SC.draw mo [rw_ eAR 47 (.slice (some ⟨g2, 0, none⟩) n c) Y] [(15, fun w => At w (ab (some ⟨g2, 0, none⟩)) (ao (some ⟨g2, 0, none⟩) + ((j - 1)).toNat * eAR.sz) (eAR.enc (gt Y (j - 1)))), (15, fun w => At w (ab (some ⟨g2, 0, none⟩)) (ao (some ⟨g2, 0, none⟩) + (j).toNat * eAR.sz) (eAR.enc (gt Y j)))] (.c (.t .h) .n) (fun w_ _ hw_ => (sc1 (row_el (E := eAR) (l := Y) (i := (j - 1)) 0 G oO lO w_ hw_) (sc1 (row_el (E := eAR) (l := Y) (i := j) 0 G oO lO w_ hw_) sc0))) (fun wf_8 hl_8 hx_8 hR_8 => ?_)
    refine SR.m 0 G G G G ?_
    refine SR.m 1 G G G G ?_
    refine SR.m 2 G G G G ?_
    refine SR.m 3 G G G G ?_
    refine SR.z 4 G G (ev_sub G G G (r := (j - 1)) G oO oO) ?_
    refine SR.m 5 G G G G ?_
    refine SR.m 6 G G G G ?_
    refine SR.z 7 G G (ev_sub G G G (r := (j - 1)) G oO oO) ?_
    refine SR.z 8 G G (ev_ix G underlying22 ty47 G G oO oO (fun _ _ => G)) ?_
    refine SR.z 9 G G (ev_lda G G ((At.ofcs 0 G kR)) ty47) ?_
    refine SR.m 10 G G G G ?_
    refine SR.m 11 G G G G ?_
    refine SR.z 12 G G (ev_ix G underlying22 ty47 G G oO oO (fun _ _ => G)) ?_
    refine SR.z 13 G G (ev_lda G G ((At.ofcs 1 G kR)) ty47) ?_
    refine SR.z 14 G G (ev_ix G underlying22 ty47 G G oO oO (fun _ _ => G)) ?_
    refine SR.o 15 G (st_setel (E := eAR) (i := j) (cs := [.int .i64 ((gt Y (j - 1)).fr), .int .i64 ((gt Y (j - 1)).to), .int .i64 ((gt Y (j - 1)).tm), .int .i64 ((gt Y (j - 1)).ds)]) (off := 0) (gt Y (j - 1)) G G G ty47 G G G G G .h lO lO (Nat.le_of_ble_eq_true G) G ⟨ttc (fun w_ hw_ => (tc2 kR (tc2 kR tc0))), ?_⟩)
    refine SR.z 16 G G (ev_ix G underlying22 ty47 G G oO oO (fun _ _ => G)) ?_
    refine SR.o 17 G (st_setel (E := eAR) (i := (j - 1)) (cs := [.int .i64 ((gt Y j).fr), .int .i64 ((gt Y j).to), .int .i64 ((gt Y j).tm), .int .i64 ((gt Y j).ds)]) (off := 0) (gt Y j) G G G ty47 G G G G G .h lO lO (Nat.le_of_ble_eq_true G) G ⟨ttc (fun w_ hw_ => (tc2 kR (tc2 kR tc0))), ?_⟩)
    refine SR.fin kR hl_8 hx_8 hR_8 (.c .n) ?_
    refine SQ.go idQ ?_
    refine .region (.m G G G (.v (ev_sub G G G (r := (j - 1)) G oO oO) G (.a G G G ?_)))
    exact SP.nil (SQ.roundb (X := Int × (List AR)) (x := (j, Y)) ⟨(j - 1), ((Y.set (j).toNat (gt Y (j - 1))).set ((j - 1)).toNat (gt Y j))⟩ (by (try dsimp only); exact ⟨(by (try simp only [List.length_set]); omega), (r_1.trans (SegP.swap oO oO oO oO)), (inz_step (ltA_wo d) r_2 oO oO oO oO (cmpA_lt.1 h7)), oO, oO⟩) dO (Sub.get (.c4 G G G G (.c G (.c G .n)))) (kp (.d .n)))
   refine .exit idQ ?_
   refine .region (.m G G G (.p ((i + 1)) oO oO G G G G G (.a G G G ?_)))
   exact SP.nil (SQ.roundb (X := Int × (List AR)) (x := (i, X)) ⟨(i + 1), Y⟩ (by (try dsimp only); exact ⟨oO, oO, r_0, r_1, (inz_end (ltA_wo d) r_2 (.inr (fun h_ => h7 (cmpA_lt.2 h_))))⟩) dO (Sub.get (.c4 G G G G (.c G .n))) (kp (.c (.t .h) (.c .h .n))))
  refine SC.draw mo [] [] .n (fun _ _ _ => sc0) (fun wf_9 hl_9 hx_9 hR_9 => ?_)
  refine SR.m 0 G G G G ?_
  refine SR.m 1 G G G G ?_
  refine SR.z 2 G G (ev_cmp (r := false) G G G (kbDF hc5)) ?_
  refine SR.m 3 G G G G ?_
  refine SR.gtake (v := undef) 4 G kR kR kR G (fun _ _ _ _ h => h) G G G G G (fun hb => by cases hb) ?_
  refine SR.gtake (v := undef) 5 G kR kR kR G (fun _ _ _ _ h => h) G G G G G (fun hb => by cases hb) ?_
  refine SR.gtake (v := undef) 6 G kR kR kR G (fun _ _ _ _ h => h) G G G G G (fun hb => by cases hb) ?_
  refine SR.gtake (v := undef) 7 G kR kR kR G (fun _ _ _ _ h => h) G G G G G (fun hb => by cases hb) ?_
  refine SR.gtake (v := undef) 8 G kR kR kR G (fun _ _ _ _ h => h) G G G G G (fun hb => by cases hb) ?_
  refine SR.gtake (v := undef) 9 G kR kR kR G (fun _ _ _ _ h => h) G G G G G (fun hb => by cases hb) ?_
  refine SR.gtake (v := undef) 10 G kR kR kR G (fun _ _ _ _ h => h) G G G G G (fun hb => by cases hb) ?_
  refine SR.gtake (v := undef) 11 G kR kR kR G (fun _ _ _ _ h => h) G G G G G (fun hb => by cases hb) ?_
  refine SR.gtake (v := undef) 12 G kR kR kR G (fun _ _ _ _ h => h) G G G G G (fun hb => by cases hb) ?_
  refine SR.gtake (v := undef) 13 G kR kR kR G (fun _ _ _ _ h => h) G G G G G (fun hb => by cases hb) ?_
  refine SR.gtake (v := undef) 14 G kR kR kR G (fun _ _ _ _ h => h) G G G G G (fun hb => by cases hb) ?_
  refine SR.gtake (v := undef) 15 G kR kR kR G (fun _ _ _ _ h => h) G G G G G (fun hb => by cases hb) ?_
  refine SR.z 16 G G (ev_pickf G G G G) ?_
  refine SR.fin kR hl_9 hx_9 hR_9 .n ?_
  refine SQ.go idQ ?_
  refine .cond_f G ?_
  refine .exit idQ ?_
  refine .region (.m G G G (.p ((i + 1)) oO oO G G G G G (.a G G G ?_)))
  exact SP.nil (SQ.roundb (X := Int × (List AR)) (x := (i, X)) ⟨(i + 1), Y⟩ (by (try dsimp only); exact ⟨oO, oO, r_0, r_1, (inz_end (ltA_wo d) r_2 (.inl oO))⟩) dO (Sub.get (.c4 G G G G (.c G .n))) (kp (.d .n)))
 exact .exitq idQ (end0 results56 (.d .n) ⟨X, q_3, (q_4.sub oO oO), G, G⟩)
theorem swrA_ (A : Option Addr) (n : Nat) (c : Nat) (l : List AR) (a : Int) (b : Int) (k : Int) (mb : Nat) (S : Nat → Prop) (wf : World) (hn : l.length = n) (hb : n ≤ 1000) (hr : 0 ≤ a ∧ 0 ≤ k ∧ a + k ≤ b ∧ b + k ≤ (n : Int)) :
  TR0 prog 62 [.slice A n c, .int .i64 a, .int .i64 b, .int .i64 k, .func (.func 38) #[] #[.pointer (some ⟨mb, 0, none⟩)]] [rw_ eAR 47 (.slice A n c) l] S wf (fun v_ C_ => ∃ (l2 : List AR), (SwR l l2 a b k) ∧ (SegP a (b + k) l l2) ∧ v_ = .tuple #[] ∧ C_ = [rw_ eAR 47 (.slice A n c) l2]) := by
 refine TR.mk func62 G ntmps62 G G (fun w_ => ?_)
 refine .seq (.region (.a G G G (.go idQ (.block (.loop (X := Int × (List AR)) (fun ⟨i, X⟩ => 0 ≤ i ∧ i ≤ k ∧ X.length = n ∧ SwR l X a b i ∧ SegP a (b + k) l X) (fun ⟨i, X⟩ => [(0, .slice A n c), (1, .int .i64 a), (2, .int .i64 b), (3, .int .i64 k), (10, .int .i64 i)]) (fun ⟨i, X⟩ => [rw_ eAR 47 (.slice A n c) X]) (fun _ => S) (fun _ => wf) (fun ⟨i, X⟩ => (k - i).toNat) (fun a_ w_ hs_ hw_ => ⟨⟨0, l⟩, (by (try dsimp only); exact ⟨oO, oO, hn, swr_0, SegP.rfl'⟩), hs_.mono (Sub.get (.c4 G G G G (.c G .n))), hw_.keep (.c .h .n)⟩) (fun ⟨i, X⟩ ⟨q_0, q_1, q_2, q_3, q_4⟩ => ?_))))))
 try dsimp only
 refine .seq (.seq (.region (.m G G G (.m G G G (.e G G G G G ?_)))))
 refine .go idQ (.condI G bD (fun h1 => ?_) (fun h1 => ?_))
 ·
  refine .skipgo idQ (.seq (.block (.know (row_form 0 G oO) (fun hv4 => ?_))))
  obtain ⟨g2, c3, hv4, hv4_1, hv4_2⟩ := hv4
  injection hv4 with eA _ _; subst eA
  refine SC.draw mo [rw_ eAR 47 (.slice (some ⟨g2, 0, none⟩) n c) X] [(21, fun w => At w (ab (some ⟨g2, 0, none⟩)) (ao (some ⟨g2, 0, none⟩) + ((b + i)).toNat * eAR.sz) (eAR.enc (gt X (b + i)))), (21, fun w => At w (ab (some ⟨g2, 0, none⟩)) (ao (some ⟨g2, 0, none⟩) + ((a + i)).toNat * eAR.sz) (eAR.enc (gt X (a + i))))] (.c .h .n) (fun w_ _ hw_ => (sc1 (row_el (E := eAR) (l := X) (i := (b + i)) 0 G oO lO w_ hw_) (sc1 (row_el (E := eAR) (l := X) (i := (a + i)) 0 G oO lO w_ hw_) sc0))) (fun wf_5 hl_5 hx_5 hR_5 => ?_)
  refine SR.m 0 G G G G ?_
  refine SR.m 1 G G G G ?_
  refine SR.m 2 G G G G ?_
  refine SR.z 3 G G (ev_add G G G (r := (a + i)) G oO oO) ?_
  refine SR.m 4 G G G G ?_
  refine SR.m 5 G G G G ?_
  refine SR.m 6 G G G G ?_
  refine SR.z 7 G G (ev_add G G G (r := (b + i)) G oO oO) ?_
  refine SR.m 8 G G G G ?_
  refine SR.m 9 G G G G ?_
  refine SR.m 10 G G G G ?_
  refine SR.z 11 G G (ev_add G G G (r := (b + i)) G oO oO) ?_
  refine SR.z 12 G G (ev_ix G underlying22 ty47 G G oO oO (fun _ _ => G)) ?_
  refine SR.z 13 G G (ev_lda G G ((At.ofcs 0 G kR)) ty47) ?_
  refine SR.m 14 G G G G ?_
  refine SR.m 15 G G G G ?_
  refine SR.m 16 G G G G ?_
  refine SR.z 17 G G (ev_add G G G (r := (a + i)) G oO oO) ?_
  refine SR.z 18 G G (ev_ix G underlying22 ty47 G G oO oO (fun _ _ => G)) ?_
  refine SR.z 19 G G (ev_lda G G ((At.ofcs 1 G kR)) ty47) ?_
  refine SR.z 20 G G (ev_ix G underlying22 ty47 G G oO oO (fun _ _ => G)) ?_
  refine SR.o 21 G (st_setel (E := eAR) (i := (a + i)) (cs := [.int .i64 ((gt X (b + i)).fr), .int .i64 ((gt X (b + i)).to), .int .i64 ((gt X (b + i)).tm), .int .i64 ((gt X (b + i)).ds)]) (off := 0) (gt X (b + i)) G G G ty47 G G G G G .h lO lO (Nat.le_of_ble_eq_true G) G ⟨ttc (fun w_ hw_ => (tc2 kR (tc2 kR tc0))), ?_⟩)
  refine SR.z 22 G G (ev_ix G underlying22 ty47 G G oO oO (fun _ _ => G)) ?_
  refine SR.o 23 G (st_setel (E := eAR) (i := (b + i)) (cs := [.int .i64 ((gt X (a + i)).fr), .int .i64 ((gt X (a + i)).to), .int .i64 ((gt X (a + i)).tm), .int .i64 ((gt X (a + i)).ds)]) (off := 0) (gt X (a + i)) G G G ty47 G G G G G .h lO lO (Nat.le_of_ble_eq_true G) G ⟨ttc (fun w_ hw_ => (tc2 kR (tc2 kR tc0))), ?_⟩)
  refine SR.fin kR hl_5 hx_5 hR_5 (.c .n) ?_
  refine SQ.go idQ ?_
  refine .region (.m G G G (.p ((i + 1)) oO oO G G G G G (.a G G G ?_)))
  exact SP.nil (SQ.roundb (X := Int × (List AR)) (x := (i, X)) ⟨(i + 1), ((X.set ((a + i)).toNat (gt X (b + i))).set ((b + i)).toNat (gt X (a + i)))⟩ (by (try dsimp only); exact ⟨oO, oO, (by (try simp only [List.length_set]); omega), (swr_next q_3 oO oO oO oO oO), (q_4.trans (SegP.swap oO oO oO oO))⟩) dO (Sub.get (.c4 G G G G (.c G .n))) (kp (.c .h .n)))
 exact .exitq idQ (end0 results62 (.c .h .n) ⟨X, (by rw [show k = i from by omega]; exact q_3), q_4, G, G⟩)
theorem rotA_ (A : Option Addr) (n : Nat) (c : Nat) (l : List AR) (a : Int) (m : Int) (b : Int) (mb : Nat) (S : Nat → Prop) (wf : World) (hn : l.length = n) (hb : n ≤ 1000) (hr : 0 ≤ a ∧ a < m ∧ m < b ∧ b ≤ (n : Int)) :
  TR0 prog 59 [.slice A n c, .int .i64 a, .int .i64 m, .int .i64 b, .func (.func 38) #[] #[.pointer (some ⟨mb, 0, none⟩)]] [rw_ eAR 47 (.slice A n c) l] S wf (fun v_ C_ => ∃ (l2 : List AR), (SegP a b l l2) ∧ (∀ q : Int, a ≤ q → q < b → gt l2 q = RotT l a m b q) ∧ v_ = .tuple #[] ∧ C_ = [rw_ eAR 47 (.slice A n c) l2]) := by
 refine TR.mk func59 G ntmps59 G G (fun w_ => ?_)
 refine .seq (.region (.m G G G (.m G G G (.v (ev_sub G G G (r := (m - a)) G oO oO) G ?_))))
 refine .a G G G (.go idQ (.seq (.region (.m G G G (.m G G G ?_)))))
 refine .v (ev_sub G G G (r := (b - m)) G oO oO) G (.a G G G (.go idQ (.seq (.block (.loop (X := Int × Int × (List AR)) (fun ⟨i, j, X⟩ => X.length = n ∧ SegP a b l X ∧ RotI l X a m b i j ∧ 1 ≤ i ∧ i ≤ m - a ∧ 1 ≤ j ∧ j ≤ b - m) (fun ⟨i, j, X⟩ => [(0, .slice A n c), (2, .int .i64 m), (4, .func (.func 38) #[] #[.pointer (some ⟨mb, 0, none⟩)]), (10, .int .i64 i), (11, .int .i64 j)]) (fun ⟨i, j, X⟩ => [rw_ eAR 47 (.slice A n c) X]) (fun _ => S) (fun _ => wf) (fun ⟨i, j, X⟩ => (i + j).toNat) (fun a_ w_ hs_ hw_ => ⟨⟨(m - a), (b - m), l⟩, (by (try dsimp only); exact ⟨hn, SegP.rfl', (rot_0 oO oO), oO, oO, oO, oO⟩), hs_.mono (Sub.get (.c4 G G G G (.c G .n))), hw_.keep (.c .h .n)⟩) (fun ⟨i, j, X⟩ ⟨q_0, q_1, q_2, q_3, q_4, q_5, q_6⟩ => ?_))))))
 try dsimp only
 refine .seq (.seq (.region (.m G G G (.m G G G (.e G G G G G ?_)))))
 refine .go idQ (.condI G bNE (fun h1 => ?_) (fun h1 => ?_))
 ·
  refine .skipgo idQ (.block (.seq (.region (.m G G G (.m G G G (.e G G G G G ?_))))))
  refine .go idQ (.condI G bD (fun h2 => ?_) (fun h2 => ?_))
  ·
   refine .seq (.region (.m G G G (.m G G G (.m G G G ?_))))
   refine .v (ev_sub G G G (r := (m - i)) G oO oO) G (.m G G G (.m G G G (.m G G G ?_)))
   refine .cons (st_call0 G G G G hbd62 G (.c .h .n) (swrA_ A n c X (m - i) m j mb _ _ lO oO oO) (fun v_q4 C_q4 q4 => ?_))
   obtain ⟨l23, p5, p6, rfl, rfl⟩ := q4
   show SP _ _ _ _ _ _ ⟨_, _ :: _, _, _⟩
   refine .go idQ (.region (.m G G G (.m G G G (.v (ev_sub G G G (r := (i - j)) G oO oO) G ?_))))
   refine .a G G G ?_
   exact SP.nil (SQ.roundb (X := Int × Int × (List AR)) (x := (i, j, X)) ⟨(i - j), j, l23⟩ (by (try dsimp only); exact ⟨(p6.len.trans q_0), (q_1.trans (p6.mono oO oO oO)), (rot_gt q_2 oO p5 oO), oO, oO, oO, oO⟩) dO (Sub.get (.c4 G G G G (.c G .n))) (kp (.c .h .n)))
  refine .seq (.region (.m G G G (.m G G G (.m G G G ?_))))
  refine .v (ev_sub G G G (r := (m - i)) G oO oO) G (.m G G G (.m G G G (.p ((m + j)) oO oO G G G G G ?_)))
  refine .m G G G (.v (ev_sub G G G (r := ((m + j) - i)) G oO oO) G (.m G G G (.m G G G ?_)))
  refine .cons (st_call0 G G G G hbd62 G (.c .h .n) (swrA_ A n c X (m - i) ((m + j) - i) i mb _ _ lO oO oO) (fun v_q8 C_q8 q8 => ?_))
  obtain ⟨l27, p9, p10, rfl, rfl⟩ := q8
  show SP _ _ _ _ _ _ ⟨_, _ :: _, _, _⟩
  refine .go idQ (.region (.m G G G (.m G G G (.v (ev_sub G G G (r := (j - i)) G oO oO) G ?_))))
  refine .a G G G ?_
  exact SP.nil (SQ.roundb (X := Int × Int × (List AR)) (x := (i, j, X)) ⟨i, (j - i), l27⟩ (by (try dsimp only); exact ⟨(p10.len.trans q_0), (q_1.trans (p10.mono oO oO oO)), (rot_lt q_2 oO p9 oO), oO, oO, oO, oO⟩) dO (Sub.get (.c4 G G G G (.c G .n))) (kp (.c .h .n)))
 refine .exit idQ ?_
 refine .region (.m G G G (.m G G G (.m G G G ?_)))
 refine .v (ev_sub G G G (r := (m - i)) G oO oO) G (.m G G G (.m G G G (.m G G G ?_)))
 refine .cons (st_call0 G G G G hbd62 G (.c .h .n) (swrA_ A n c X (m - i) m i mb _ _ lO oO oO) (fun v_q12 C_q12 q12 => ?_))
 obtain ⟨l211, p13, p14, rfl, rfl⟩ := q12
 show SP _ _ _ _ _ _ ⟨_, _ :: _, _, _⟩
 exact SP.nil (end0 results59 (.c .h .n) ⟨l211, (q_1.trans (p14.mono oO oO oO)), (rot_end q_2 oO p13 oO), G, G⟩)
end Go.Proofs.Ytlefdinbbjiabaa.Sx
set_option maxRecDepth 20000
set_option maxHeartbeats 1000000
namespace Go.Proofs.Ytlefdinbbjiabaa.Sx.FI
open Go Go.SX Go.Proofs Go.Proofs.Try FA FB FC FD FE FF FG FH
theorem hbd57 : hasBody prog 57 = true := by kernel_rfl
theorem hbd59 : hasBody prog 59 = true := by kernel_rfl
end Go.Proofs.Ytlefdinbbjiabaa.Sx.FI
namespace Go.Proofs.Ytlefdinbbjiabaa.Sx
open Go Go.SX Go.Proofs Go.Proofs.Try FA FB FC FD FE FF FG FH FI
theorem symA_ : ∀ (f : Nat) (A : Option Addr) (n : Nat) (c : Nat) (l : List AR) (a : Int) (m : Int) (b : Int) (d : Bool) (mb : Nat) (S : Nat → Prop) (wf : World) (hn : l.length = n) (hb : n ≤ 1000) (hr : 0 ≤ a ∧ a < m ∧ m < b ∧ b ≤ (n : Int)) (hf : b - a < (f : Int)) (hA : Srd (ltA d) l a m) (hB : Srd (ltA d) l m b),
  TR0 prog 57 [.slice A n c, .int .i64 a, .int .i64 m, .int .i64 b, .func (.func 38) #[] #[.pointer (some ⟨mb, 0, none⟩)]] [rw_ eAR 47 (.slice A n c) l, cel mb [.func (.func (metF d)) #[] #[]] 49] S wf (fun v_ C_ => ∃ (l2 : List AR), (SegP a b l l2) ∧ (Srd (ltA d) l2 a b) ∧ v_ = .tuple #[] ∧ C_ = [rw_ eAR 47 (.slice A n c) l2, cel mb [.func (.func (metF d)) #[] #[]] 49]) := by
 refine nat_ind ?_ (fun f ih => ?_)
 · intro A n c l a m b d mb S wf hn hb hr hf hA hB; exfalso; omega
 intro A n c l a m b d mb S wf hn hb hr hf hA hB
 refine TR.mk func57 G ntmps57 G G (fun w_ => ?_)
 refine .seq (.seq (.region (.m G G G (.m G G G (.v (ev_sub G G G (r := (m - a)) G oO oO) G ?_)))))
 refine .e G G G G G (.go idQ (.condI G bE (fun h1 => ?_) (fun h1 => ?_)))
 ·
  refine .seq (.region (.m G G G (.a G G G (.go idQ (.seq (.region ?_))))))
  refine .m G G G (.a G G G (.go idQ (.seq (.block (.loop (X := Int × Int) (fun ⟨i, j⟩ => m ≤ i ∧ i ≤ j ∧ j ≤ b ∧ (∀ q : Int, m ≤ q → q < i → ltA d (gt l q) (gt l a)) ∧ (∀ q : Int, j ≤ q → q < b → ¬ ltA d (gt l q) (gt l a))) (fun ⟨i, j⟩ => [(0, .slice A n c), (1, .int .i64 a), (2, .int .i64 m), (3, .int .i64 b), (4, .func (.func 38) #[] #[.pointer (some ⟨mb, 0, none⟩)]), (10, .int .i64 i), (11, .int .i64 j)]) (fun ⟨i, j⟩ => [rw_ eAR 47 (.slice A n c) l, cel mb [.func (.func (metF d)) #[] #[]] 49]) (fun _ => S) (fun _ => wf) (fun ⟨i, j⟩ => (j - i).toNat) (fun a_ w_ hs_ hw_ => ⟨⟨m, b⟩, (by (try dsimp only); exact ⟨oO, oO, oO, (fun q q0 q1 => absurd q1 oO), (fun q q0 q1 => absurd q1 oO)⟩), hs_.mono (Sub.get (.c4 G G G G (.c G (.c G (.c G .n))))), hw_.keep (.d .n)⟩) (fun ⟨i, j⟩ ⟨q_0, q_1, q_2, q_3, q_4⟩ => ?_))))))
  try dsimp only
  refine .seq (.seq (.region (.m G G G (.m G G G (.e G G G G G ?_)))))
  refine .go idQ (.condI G bD (fun h2 => ?_) (fun h2 => ?_))
  ·
   refine .skipgo idQ (.block (.seq ?_))
   have hfd := half_of (h := Int.fdiv (i + j) 2) (x := i + j) rfl oO
   refine .region (.m G G G (.m G G G (.p ((i + j)) oO oO G G G G G ?_)))
   refine .v (ev_cv G underlying3 underlying112 G (wrap_u64_in oO oO)) G (.v (ev_shr (r := (Int.fdiv (i + j) 2)) G G G (by decide) G) G (.v (ev_cv G underlying112 underlying3 G (wrap_in oO oO)) G (.a G G G ?_)))
   refine .go idQ (.seq ?_)
   obtain ⟨h, hh_⟩ : ∃ h_, h_ = Int.fdiv (i + j) 2 := ⟨_, rfl⟩
   rw [← hh_]
   have hhm := half_of hh_ oO
   refine SC.draw mo [cel mb [.func (.func (metF d)) #[] #[]] 49] [] (.c (.t .h) .n) (fun _ _ _ => sc0) (fun wf_3 hl_3 hx_3 hR_3 => ?_)
   refine SR.m 0 G G G G ?_
   refine SR.m 1 G G G G ?_
   refine SR.m 2 G G G G ?_
   refine SR.z 3 G G (ev_ix G underlying22 ty47 G G oO oO (fun _ _ => Fr.adr (i := h) (Fr.lent (S := S) hR_3 0 G lO) oO oO)) ?_
   refine SR.z 4 G G (ev_lda G G (At.d (Fr.el (i := h) (Fr.lent (S := S) hR_3 0 G lO) oO oO)) ty47) ?_
   refine SR.m 5 G G G G ?_
   refine SR.m 6 G G G G ?_
   refine SR.z 7 G G (ev_ix G underlying22 ty47 G G oO oO (fun _ _ => Fr.adr (i := a) (Fr.lent (S := S) hR_3 0 G lO) oO oO)) ?_
   refine SR.z 8 G G (ev_lda G G (At.d (Fr.el (i := a) (Fr.lent (S := S) hR_3 0 G lO) oO oO)) ty47) ?_
   refine SR.o 9 G (.viacap (args' := #[.tmp 44, .tmp 48, .const (.pointer (some ⟨mb, 0, none⟩))]) G G (by simp) hbd38 (st_callk G G G G hbd38 G (.c .h .n) (new1_ (gt l h) (gt l a) d mb _ _) ⟨tt0, ?_⟩))
   refine SR.z 10 G G (ev_cmp G G G G) ?_
   refine SR.fin kR hl_3 hx_3 hR_3 (.c .n) ?_
   refine SQ.go idQ ?_
   refine .condI G bD (fun h4 => ?_) (fun h4 => ?_)
   ·
    refine .region (.m G G G (.p ((h + 1)) oO oO G G G G G (.a G G G ?_)))
    exact SP.nil (SQ.roundb (X := Int × Int) (x := (i, j)) ⟨(h + 1), j⟩ (by (try dsimp only); exact ⟨oO, oO, oO, (bs_lo (ltA_wo d) hB oO oO (cmpA_lt.1 h4)), q_4⟩) dO (Sub.get (.c4 G G G G (.c G (.c G (.c G .n))))) (kp (.c (.t .h) (.c .h .n))))
   refine .region (.m G G G (.a G G G ?_))
   exact SP.nil (SQ.roundb (X := Int × Int) (x := (i, j)) ⟨i, h⟩ (by (try dsimp only); exact ⟨oO, oO, oO, q_3, (bs_hi (ltA_wo d) hB oO oO (fun h_ => h4 (cmpA_lt.2 h_)))⟩) dO (Sub.get (.c4 G G G G (.c G (.c G (.c G .n))))) (kp (.c (.t .h) (.c .h .n))))
  refine .exit idQ ?_
  refine .seq (.seq (.region (.m G G G (.a G G G (.go idQ (.block ?_))))))
  refine .loop (X := Int × (List AR)) (fun ⟨k, X⟩ => a ≤ k ∧ k ≤ i - 1 ∧ UpR l X a k ∧ SegP a b l X ∧ X.length = n) (fun ⟨k, X⟩ => [(0, .slice A n c), (1, .int .i64 a), (2, .int .i64 m), (3, .int .i64 b), (4, .func (.func 38) #[] #[.pointer (some ⟨mb, 0, none⟩)]), (10, .int .i64 i), (11, .int .i64 j), (13, .int .i64 k)]) (fun ⟨k, X⟩ => [rw_ eAR 47 (.slice A n c) X, cel mb [.func (.func (metF d)) #[] #[]] 49]) (fun _ => S) (fun _ => wf) (fun ⟨k, X⟩ => (i - 1 - k).toNat) (fun a_ w_ hs_ hw_ => ⟨⟨a, l⟩, (by (try dsimp only); exact ⟨oO, oO, upr_0, SegP.rfl', hn⟩), hs_.mono (Sub.get (.c4 G G G G (.c4 G G G G .n))), hw_.keep (.d .n)⟩) (fun ⟨k, X⟩ ⟨r_0, r_1, r_2, r_3, r_4⟩ => ?_)
  try dsimp only
  refine .seq (.seq (.region (.m G G G (.m G G G (.v (ev_sub G G G (r := (i - 1)) G oO oO) G ?_)))))
  refine .e G G G G G (.go idQ (.condI G bD (fun h5 => ?_) (fun h5 => ?_)))
  ·
   refine .skipgo idQ (.seq (.block (.know (row_form 0 G oO) (fun hv8 => ?_))))
   obtain ⟨g6, c7, hv8, hv8_1, hv8_2⟩ := hv8
   injection hv8 with eA _ _; subst eA
   refine SC.draw mo [rw_ eAR 47 (.slice (some ⟨g6, 0, none⟩) n c) X] [(15, fun w => At w (ab (some ⟨g6, 0, none⟩)) (ao (some ⟨g6, 0, none⟩) + ((k + 1)).toNat * eAR.sz) (eAR.enc (gt X (k + 1)))), (15, fun w => At w (ab (some ⟨g6, 0, none⟩)) (ao (some ⟨g6, 0, none⟩) + (k).toNat * eAR.sz) (eAR.enc (gt X k)))] (.c .h .n) (fun w_ _ hw_ => (sc1 (row_el (E := eAR) (l := X) (i := (k + 1)) 0 G oO lO w_ hw_) (sc1 (row_el (E := eAR) (l := X) (i := k) 0 G oO lO w_ hw_) sc0))) (fun wf_9 hl_9 hx_9 hR_9 => ?_)
   refine SR.m 0 G G G G ?_
   refine SR.m 1 G G G G ?_
   refine SR.m 2 G G G G ?_
   refine SR.m 3 G G G G ?_
   refine SR.z 4 G G (ev_add G G G (r := (k + 1)) G oO oO) ?_
   refine SR.m 5 G G G G ?_
   refine SR.m 6 G G G G ?_
   refine SR.z 7 G G (ev_add G G G (r := (k + 1)) G oO oO) ?_
   refine SR.z 8 G G (ev_ix G underlying22 ty47 G G oO oO (fun _ _ => G)) ?_
   refine SR.z 9 G G (ev_lda G G ((At.ofcs 0 G kR)) ty47) ?_
   refine SR.m 10 G G G G ?_
   refine SR.m 11 G G G G ?_
   refine SR.z 12 G G (ev_ix G underlying22 ty47 G G oO oO (fun _ _ => G)) ?_
   refine SR.z 13 G G (ev_lda G G ((At.ofcs 1 G kR)) ty47) ?_
   refine SR.z 14 G G (ev_ix G underlying22 ty47 G G oO oO (fun _ _ => G)) ?_
   refine SR.o 15 G (st_setel (E := eAR) (i := k) (cs := [.int .i64 ((gt X (k + 1)).fr), .int .i64 ((gt X (k + 1)).to), .int .i64 ((gt X (k + 1)).tm), .int .i64 ((gt X (k + 1)).ds)]) (off := 0) (gt X (k + 1)) G G G ty47 G G G G G .h lO lO (Nat.le_of_ble_eq_true G) G ⟨ttc (fun w_ hw_ => (tc2 kR (tc2 kR tc0))), ?_⟩)
   refine SR.z 16 G G (ev_ix G underlying22 ty47 G G oO oO (fun _ _ => G)) ?_
   refine SR.o 17 G (st_setel (E := eAR) (i := (k + 1)) (cs := [.int .i64 ((gt X k).fr), .int .i64 ((gt X k).to), .int .i64 ((gt X k).tm), .int .i64 ((gt X k).ds)]) (off := 0) (gt X k) G G G ty47 G G G G G .h lO lO (Nat.le_of_ble_eq_true G) G ⟨ttc (fun w_ hw_ => (tc2 kR (tc2 kR tc0))), ?_⟩)
   refine SR.fin kR hl_9 hx_9 hR_9 (.c .n) ?_
   refine SQ.go idQ ?_
   refine .region (.m G G G (.p ((k + 1)) oO oO G G G G G (.a G G G ?_)))
   exact SP.nil (SQ.roundb (X := Int × (List AR)) (x := (k, X)) ⟨(k + 1), ((X.set (k).toNat (gt X (k + 1))).set ((k + 1)).toNat (gt X k))⟩ (by (try dsimp only); exact ⟨oO, oO, (upr_next r_2 oO oO oO oO), (r_3.trans (SegP.swap oO oO oO oO)), (by (try simp only [List.length_set]); omega)⟩) dO (Sub.get (.c4 G G G G (.c4 G G G G .n))) (kp (.d .n)))
  refine .exit idQ ?_
  exact .ret idQ (ret0 results57 (.d .n) ⟨X, r_3, (one_up (ltA_wo d) oO oO hB oO q_3 (fun q q0 q1 => q_4 q oO q1) (by rw [show i - 1 = k from by omega]; exact r_2)), G, G⟩)
 refine .skipgo idQ (.seq (.seq (.region (.m G G G (.m G G G (.v (ev_sub G G G (r := (b - m)) G oO oO) G ?_))))))
 refine .e G G G G G (.go idQ (.condI G bE (fun h10 => ?_) (fun h10 => ?_)))
 ·
  refine .seq (.region (.m G G G (.a G G G (.go idQ (.seq (.region ?_))))))
  refine .m G G G (.a G G G (.go idQ (.seq (.block (.loop (X := Int × Int) (fun ⟨i, j⟩ => a ≤ i ∧ i ≤ j ∧ j ≤ m ∧ (∀ q : Int, a ≤ q → q < i → ¬ ltA d (gt l m) (gt l q)) ∧ (∀ q : Int, j ≤ q → q < m → ltA d (gt l m) (gt l q))) (fun ⟨i, j⟩ => [(0, .slice A n c), (1, .int .i64 a), (2, .int .i64 m), (3, .int .i64 b), (4, .func (.func 38) #[] #[.pointer (some ⟨mb, 0, none⟩)]), (14, .int .i64 i), (15, .int .i64 j)]) (fun ⟨i, j⟩ => [rw_ eAR 47 (.slice A n c) l, cel mb [.func (.func (metF d)) #[] #[]] 49]) (fun _ => S) (fun _ => wf) (fun ⟨i, j⟩ => (j - i).toNat) (fun a_ w_ hs_ hw_ => ⟨⟨a, m⟩, (by (try dsimp only); exact ⟨oO, oO, oO, (fun q q0 q1 => absurd q1 oO), (fun q q0 q1 => absurd q1 oO)⟩), hs_.mono (Sub.get (.c4 G G G G (.c G (.c G (.c G .n))))), hw_.keep (.d .n)⟩) (fun ⟨i, j⟩ ⟨q_0, q_1, q_2, q_3, q_4⟩ => ?_))))))
  try dsimp only
  refine .seq (.seq (.region (.m G G G (.m G G G (.e G G G G G ?_)))))
  refine .go idQ (.condI G bD (fun h11 => ?_) (fun h11 => ?_))
  ·
   refine .skipgo idQ (.block (.seq ?_))
   have hfd := half_of (h := Int.fdiv (i + j) 2) (x := i + j) rfl oO
   refine .region (.m G G G (.m G G G (.p ((i + j)) oO oO G G G G G ?_)))
   refine .v (ev_cv G underlying3 underlying112 G (wrap_u64_in oO oO)) G (.v (ev_shr (r := (Int.fdiv (i + j) 2)) G G G (by decide) G) G (.v (ev_cv G underlying112 underlying3 G (wrap_in oO oO)) G (.a G G G ?_)))
   refine .go idQ (.seq ?_)
   obtain ⟨h, hh_⟩ : ∃ h_, h_ = Int.fdiv (i + j) 2 := ⟨_, rfl⟩
   rw [← hh_]
   have hhm := half_of hh_ oO
   refine SC.draw mo [cel mb [.func (.func (metF d)) #[] #[]] 49] [] (.c (.t .h) .n) (fun _ _ _ => sc0) (fun wf_12 hl_12 hx_12 hR_12 => ?_)
   refine SR.m 0 G G G G ?_
   refine SR.m 1 G G G G ?_
   refine SR.m 2 G G G G ?_
   refine SR.z 3 G G (ev_ix G underlying22 ty47 G G oO oO (fun _ _ => Fr.adr (i := m) (Fr.lent (S := S) hR_12 0 G lO) oO oO)) ?_
   refine SR.z 4 G G (ev_lda G G (At.d (Fr.el (i := m) (Fr.lent (S := S) hR_12 0 G lO) oO oO)) ty47) ?_
   refine SR.m 5 G G G G ?_
   refine SR.m 6 G G G G ?_
   refine SR.z 7 G G (ev_ix G underlying22 ty47 G G oO oO (fun _ _ => Fr.adr (i := h) (Fr.lent (S := S) hR_12 0 G lO) oO oO)) ?_
   refine SR.z 8 G G (ev_lda G G (At.d (Fr.el (i := h) (Fr.lent (S := S) hR_12 0 G lO) oO oO)) ty47) ?_
   refine SR.o 9 G (.viacap (args' := #[.tmp 96, .tmp 100, .const (.pointer (some ⟨mb, 0, none⟩))]) G G (by simp) hbd38 (st_callk G G G G hbd38 G (.c .h .n) (new1_ (gt l m) (gt l h) d mb _ _) ⟨tt0, ?_⟩))
   refine SR.z 10 G G (ev_cmp G G G G) ?_
   refine SR.z 11 G G (ev_not G G) ?_
   refine SR.fin kR hl_12 hx_12 hR_12 (.c .n) ?_
   refine SQ.go idQ ?_
   refine .condI G (bN bD) (fun h13 => ?_) (fun h13 => ?_)
   ·
    refine .region (.m G G G (.p ((h + 1)) oO oO G G G G G (.a G G G ?_)))
    exact SP.nil (SQ.roundb (X := Int × Int) (x := (i, j)) ⟨(h + 1), j⟩ (by (try dsimp only); exact ⟨oO, oO, oO, (bs_lo' (ltA_wo d) hA oO oO (fun h_ => h13 (cmpA_lt.2 h_))), q_4⟩) dO (Sub.get (.c4 G G G G (.c G (.c G (.c G .n))))) (kp (.c (.t .h) (.c .h .n))))
   refine .region (.m G G G (.a G G G ?_))
   exact SP.nil (SQ.roundb (X := Int × Int) (x := (i, j)) ⟨i, h⟩ (by (try dsimp only); exact ⟨oO, oO, oO, q_3, (bs_hi' (ltA_wo d) hA oO oO (cmpA_lt.1 (Classical.not_not.1 h13)))⟩) dO (Sub.get (.c4 G G G G (.c G (.c G (.c G .n))))) (kp (.c (.t .h) (.c .h .n))))
  refine .exit idQ ?_
  refine .seq (.seq (.region (.m G G G (.a G G G (.go idQ (.block ?_))))))
  refine .loop (X := Int × (List AR)) (fun ⟨k, X⟩ => i ≤ k ∧ k ≤ m ∧ DnR l X m k ∧ SegP a b l X ∧ X.length = n) (fun ⟨k, X⟩ => [(0, .slice A n c), (1, .int .i64 a), (2, .int .i64 m), (3, .int .i64 b), (4, .func (.func 38) #[] #[.pointer (some ⟨mb, 0, none⟩)]), (14, .int .i64 i), (15, .int .i64 j), (17, .int .i64 k)]) (fun ⟨k, X⟩ => [rw_ eAR 47 (.slice A n c) X, cel mb [.func (.func (metF d)) #[] #[]] 49]) (fun _ => S) (fun _ => wf) (fun ⟨k, X⟩ => (k - i).toNat) (fun a_ w_ hs_ hw_ => ⟨⟨m, l⟩, (by (try dsimp only); exact ⟨oO, oO, dnr_0, SegP.rfl', hn⟩), hs_.mono (Sub.get (.c4 G G G G (.c4 G G G G .n))), hw_.keep (.d .n)⟩) (fun ⟨k, X⟩ ⟨r_0, r_1, r_2, r_3, r_4⟩ => ?_)
  try dsimp only
  refine .seq (.seq (.region (.m G G G (.m G G G (.e G G G G G ?_)))))
  refine .go idQ (.condI G bD (fun h14 => ?_) (fun h14 => ?_))
  ·
   refine .skipgo idQ (.seq (.block (.know (row_form 0 G oO) (fun hv17 => ?_))))
   obtain ⟨g15, c16, hv17, hv17_1, hv17_2⟩ := hv17
   injection hv17 with eA _ _; subst eA
   refine SC.draw mo [rw_ eAR 47 (.slice (some ⟨g15, 0, none⟩) n c) X] [(15, fun w => At w (ab (some ⟨g15, 0, none⟩)) (ao (some ⟨g15, 0, none⟩) + ((k - 1)).toNat * eAR.sz) (eAR.enc (gt X (k - 1)))), (15, fun w => At w (ab (some ⟨g15, 0, none⟩)) (ao (some ⟨g15, 0, none⟩) + (k).toNat * eAR.sz) (eAR.enc (gt X k)))] (.c .h .n) (fun w_ _ hw_ => (sc1 (row_el (E := eAR) (l := X) (i := (k - 1)) 0 G oO lO w_ hw_) (sc1 (row_el (E := eAR) (l := X) (i := k) 0 G oO lO w_ hw_) sc0))) (fun wf_18 hl_18 hx_18 hR_18 => ?_)
   refine SR.m 0 G G G G ?_
   refine SR.m 1 G G G G ?_
   refine SR.m 2 G G G G ?_
   refine SR.m 3 G G G G ?_
   refine SR.z 4 G G (ev_sub G G G (r := (k - 1)) G oO oO) ?_
   refine SR.m 5 G G G G ?_
   refine SR.m 6 G G G G ?_
   refine SR.z 7 G G (ev_sub G G G (r := (k - 1)) G oO oO) ?_
   refine SR.z 8 G G (ev_ix G underlying22 ty47 G G oO oO (fun _ _ => G)) ?_
   refine SR.z 9 G G (ev_lda G G ((At.ofcs 0 G kR)) ty47) ?_
   refine SR.m 10 G G G G ?_
   refine SR.m 11 G G G G ?_
   refine SR.z 12 G G (ev_ix G underlying22 ty47 G G oO oO (fun _ _ => G)) ?_
   refine SR.z 13 G G (ev_lda G G ((At.ofcs 1 G kR)) ty47) ?_
   refine SR.z 14 G G (ev_ix G underlying22 ty47 G G oO oO (fun _ _ => G)) ?_
   refine SR.o 15 G (st_setel (E := eAR) (i := k) (cs := [.int .i64 ((gt X (k - 1)).fr), .int .i64 ((gt X (k - 1)).to), .int .i64 ((gt X (k - 1)).tm), .int .i64 ((gt X (k - 1)).ds)]) (off := 0) (gt X (k - 1)) G G G ty47 G G G G G .h lO lO (Nat.le_of_ble_eq_true G) G ⟨ttc (fun w_ hw_ => (tc2 kR (tc2 kR tc0))), ?_⟩)
   refine SR.z 16 G G (ev_ix G underlying22 ty47 G G oO oO (fun _ _ => G)) ?_
   refine SR.o 17 G (st_setel (E := eAR) (i := (k - 1)) (cs := [.int .i64 ((gt X k).fr), .int .i64 ((gt X k).to), .int .i64 ((gt X k).tm), .int .i64 ((gt X k).ds)]) (off := 0) (gt X k) G G G ty47 G G G G G .h lO lO (Nat.le_of_ble_eq_true G) G ⟨ttc (fun w_ hw_ => (tc2 kR (tc2 kR tc0))), ?_⟩)
   refine SR.fin kR hl_18 hx_18 hR_18 (.c .n) ?_
   refine SQ.go idQ ?_
   refine .region (.m G G G (.v (ev_sub G G G (r := (k - 1)) G oO oO) G (.a G G G ?_)))
   exact SP.nil (SQ.roundb (X := Int × (List AR)) (x := (k, X)) ⟨(k - 1), ((X.set (k).toNat (gt X (k - 1))).set ((k - 1)).toNat (gt X k))⟩ (by (try dsimp only); exact ⟨oO, oO, (dnr_next r_2 oO oO oO oO), (r_3.trans (SegP.swap oO oO oO oO)), (by (try simp only [List.length_set]); omega)⟩) dO (Sub.get (.c4 G G G G (.c4 G G G G .n))) (kp (.d .n)))
  refine .exit idQ ?_
  exact .ret idQ (ret0 results57 (.d .n) ⟨X, r_3, (one_dn (ltA_wo d) oO oO hA oO q_3 (fun q q0 q1 => q_4 q oO q1) (by rw [show i = k from by omega]; exact r_2)), G, G⟩)
 refine .skipgo idQ (.seq ?_)
 have hfd := half_of (h := Int.fdiv (a + b) 2) (x := a + b) rfl oO
 refine .region (.m G G G (.m G G G (.p ((a + b)) oO oO G G G G G ?_)))
 refine .v (ev_cv G underlying3 underlying112 G (wrap_u64_in oO oO)) G (.v (ev_shr (r := (Int.fdiv (a + b) 2)) G G G (by decide) G) G (.v (ev_cv G underlying112 underlying3 G (wrap_in oO oO)) G (.a G G G ?_)))
 refine .go idQ (.seq ?_)
 obtain ⟨z0, hz0_⟩ : ∃ h_, h_ = Int.fdiv (a + b) 2 := ⟨_, rfl⟩
 rw [← hz0_]
 have hz0m := half_of hz0_ oO
 refine .region (.m G G G (.m G G G (.p ((z0 + m)) oO oO G G G G G ?_)))
 refine .a G G G (.go idQ (.seq (.region (.a G G G (.a G G G ?_)))))
 refine .go idQ ?_
 refine SC.seqx (X := Int × Int × Int) (fun ⟨z, lo, hi⟩ => (2 * z ≤ a + b ∧ a + b ≤ 2 * z + 1) ∧ ((m > z ∧ lo = z + m - b ∧ hi = z) ∨ (m ≤ z ∧ lo = a ∧ hi = m))) (fun ⟨z, lo, hi⟩ => ([(0, .slice A n c), (1, .int .i64 a), (2, .int .i64 m), (3, .int .i64 b), (4, .func (.func 38) #[] #[.pointer (some ⟨mb, 0, none⟩)]), (18, .int .i64 z), (19, .int .i64 (z + m)), (20, .int .i64 lo), (21, .int .i64 hi)], [rw_ eAR 47 (.slice A n c) l, cel mb [.func (.func (metF d)) #[] #[]] 49])) S wf (fun ⟨z, lo, hi⟩ hk20 => ?_) (fun key19 => ?_)
 ·
  show SC _ _ _ _ _ ⟨[(0, .slice A n c), (1, .int .i64 a), (2, .int .i64 m), (3, .int .i64 b), (4, .func (.func 38) #[] #[.pointer (some ⟨mb, 0, none⟩)]), (18, .int .i64 z), (19, .int .i64 (z + m)), (20, .int .i64 lo), (21, .int .i64 hi)], [rw_ eAR 47 (.slice A n c) l, cel mb [.func (.func (metF d)) #[] #[]] 49], S, wf⟩
  obtain ⟨j_0, j_1⟩ := hk20
  refine .seq (.region (.m G G G (.v (ev_sub G G G (r := ((z + m) - 1)) G oO oO) G (.a G G G ?_))))
  refine .go idQ (.seq (.block (.loop (X := Int × Int) (fun ⟨s, r⟩ => lo ≤ s ∧ s ≤ r ∧ r ≤ hi ∧ (∀ q : Int, lo ≤ q → q < s → ¬ ltA d (gt l (z + m - 1 - q)) (gt l q)) ∧ (∀ q : Int, r ≤ q → q < hi → ltA d (gt l (z + m - 1 - q)) (gt l q))) (fun ⟨s, r⟩ => [(0, .slice A n c), (1, .int .i64 a), (2, .int .i64 m), (3, .int .i64 b), (4, .func (.func 38) #[] #[.pointer (some ⟨mb, 0, none⟩)]), (18, .int .i64 z), (19, .int .i64 (z + m)), (22, .int .i64 ((z + m) - 1)), (20, .int .i64 s), (21, .int .i64 r)]) (fun ⟨s, r⟩ => [rw_ eAR 47 (.slice A n c) l, cel mb [.func (.func (metF d)) #[] #[]] 49]) (fun _ => S) (fun _ => wf) (fun ⟨s, r⟩ => (r - s).toNat) (fun a_ w_ hs_ hw_ => ⟨⟨lo, hi⟩, (by (try dsimp only); exact ⟨oO, oO, oO, (fun q q0 q1 => absurd q1 oO), (fun q q0 q1 => absurd q1 oO)⟩), hs_.mono (Sub.get (.c4 G G G G (.c4 G G G G (.c G (.c G .n))))), hw_.keep (.d .n)⟩) (fun ⟨s, r⟩ ⟨q_0, q_1, q_2, q_3, q_4⟩ => ?_))))
  try dsimp only
  refine .seq (.seq (.region (.m G G G (.m G G G (.e G G G G G ?_)))))
  refine .go idQ (.condI G bD (fun h21 => ?_) (fun h21 => ?_))
  ·
   refine .skipgo idQ (.block (.seq ?_))
   have hfd := half_of (h := Int.fdiv (s + r) 2) (x := s + r) rfl oO
   refine .region (.m G G G (.m G G G (.p ((s + r)) oO oO G G G G G ?_)))
   refine .v (ev_cv G underlying3 underlying112 G (wrap_u64_in oO oO)) G (.v (ev_shr (r := (Int.fdiv (s + r) 2)) G G G (by decide) G) G (.v (ev_cv G underlying112 underlying3 G (wrap_in oO oO)) G (.a G G G ?_)))
   refine .go idQ (.seq ?_)
   obtain ⟨h, hh_⟩ : ∃ h_, h_ = Int.fdiv (s + r) 2 := ⟨_, rfl⟩
   rw [← hh_]
   have hhm := half_of hh_ oO
   refine SC.draw mo [cel mb [.func (.func (metF d)) #[] #[]] 49] [] (.c (.t .h) .n) (fun _ _ _ => sc0) (fun wf_22 hl_22 hx_22 hR_22 => ?_)
   refine SR.m 0 G G G G ?_
   refine SR.m 1 G G G G ?_
   refine SR.m 2 G G G G ?_
   refine SR.m 3 G G G G ?_
   refine SR.z 4 G G (ev_sub G G G (r := (((z + m) - 1) - h)) G oO oO) ?_
   refine SR.z 5 G G (ev_ix G underlying22 ty47 G G oO oO (fun _ _ => Fr.adr (i := (((z + m) - 1) - h)) (Fr.lent (S := S) hR_22 0 G lO) oO oO)) ?_
   refine SR.z 6 G G (ev_lda G G (At.d (Fr.el (i := (((z + m) - 1) - h)) (Fr.lent (S := S) hR_22 0 G lO) oO oO)) ty47) ?_
   refine SR.m 7 G G G G ?_
   refine SR.m 8 G G G G ?_
   refine SR.z 9 G G (ev_ix G underlying22 ty47 G G oO oO (fun _ _ => Fr.adr (i := h) (Fr.lent (S := S) hR_22 0 G lO) oO oO)) ?_
   refine SR.z 10 G G (ev_lda G G (At.d (Fr.el (i := h) (Fr.lent (S := S) hR_22 0 G lO) oO oO)) ty47) ?_
   refine SR.o 11 G (.viacap (args' := #[.tmp 164, .tmp 168, .const (.pointer (some ⟨mb, 0, none⟩))]) G G (by simp) hbd38 (st_callk G G G G hbd38 G (.c .h .n) (new1_ (gt l (((z + m) - 1) - h)) (gt l h) d mb _ _) ⟨tt0, ?_⟩))
   refine SR.z 12 G G (ev_cmp G G G G) ?_
   refine SR.z 13 G G (ev_not G G) ?_
   refine SR.fin kR hl_22 hx_22 hR_22 (.c .n) ?_
   refine SQ.go idQ ?_
   refine .condI G (bN bD) (fun h23 => ?_) (fun h23 => ?_)
   ·
    refine .region (.m G G G (.p ((h + 1)) oO oO G G G G G (.a G G G ?_)))
    exact SP.nil (SQ.roundb (X := Int × Int) (x := (s, r)) ⟨(h + 1), r⟩ (by (try dsimp only); exact ⟨oO, oO, oO, (cut_lo (ltA_wo d) hA hB oO oO oO oO (fun h_ => h23 (cmpA_lt.2 h_))), q_4⟩) dO (Sub.get (.c4 G G G G (.c4 G G G G (.c G (.c G .n))))) (kp (.c (.t .h) (.c .h .n))))
   refine .region (.m G G G (.a G G G ?_))
   exact SP.nil (SQ.roundb (X := Int × Int) (x := (s, r)) ⟨s, h⟩ (by (try dsimp only); exact ⟨oO, oO, oO, q_3, (cut_hi (ltA_wo d) hA hB oO oO oO oO (cmpA_lt.1 (Classical.not_not.1 h23)))⟩) dO (Sub.get (.c4 G G G G (.c4 G G G G (.c G (.c G .n))))) (kp (.c (.t .h) (.c .h .n))))
  refine .exit idQ ?_
  refine .seq (.region (.m G G G (.m G G G (.v (ev_sub G G G (r := ((z + m) - s)) G oO oO) G ?_))))
  refine .a G G G (.go idQ ?_)
  refine SC.seqx (X := (List AR)) (fun X => X.length = n ∧ SegP a b l X ∧ HalfI (ltA d) X a b z s (z + m - s)) (fun X => ([(0, .slice A n c), (1, .int .i64 a), (2, .int .i64 m), (3, .int .i64 b), (4, .func (.func 38) #[] #[.pointer (some ⟨mb, 0, none⟩)]), (18, .int .i64 z), (19, .int .i64 (z + m)), (20, .int .i64 s), (24, .int .i64 ((z + m) - s))], [rw_ eAR 47 (.slice A n c) X, cel mb [.func (.func (metF d)) #[] #[]] 49])) S wf (fun X hk25 => ?_) (fun key24 => ?_)
  ·
   show SC _ _ _ _ _ ⟨[(0, .slice A n c), (1, .int .i64 a), (2, .int .i64 m), (3, .int .i64 b), (4, .func (.func 38) #[] #[.pointer (some ⟨mb, 0, none⟩)]), (18, .int .i64 z), (19, .int .i64 (z + m)), (20, .int .i64 s), (24, .int .i64 ((z + m) - s))], [rw_ eAR 47 (.slice A n c) X, cel mb [.func (.func (metF d)) #[] #[]] 49], S, wf⟩
   obtain ⟨x_0, x_1, x_2⟩ := hk25
   refine SC.seqx (X := (List AR)) (fun Y => Y.length = n ∧ SegP a b l Y ∧ LeftI (ltA d) Y a b z (z + m - s)) (fun Y => ([(0, .slice A n c), (1, .int .i64 a), (2, .int .i64 m), (3, .int .i64 b), (4, .func (.func 38) #[] #[.pointer (some ⟨mb, 0, none⟩)]), (18, .int .i64 z), (24, .int .i64 ((z + m) - s))], [rw_ eAR 47 (.slice A n c) Y, cel mb [.func (.func (metF d)) #[] #[]] 49])) S wf (fun Y hk27 => ?_) (fun key26 => ?_)
   ·
    show SC _ _ _ _ _ ⟨[(0, .slice A n c), (1, .int .i64 a), (2, .int .i64 m), (3, .int .i64 b), (4, .func (.func 38) #[] #[.pointer (some ⟨mb, 0, none⟩)]), (18, .int .i64 z), (24, .int .i64 ((z + m) - s))], [rw_ eAR 47 (.slice A n c) Y, cel mb [.func (.func (metF d)) #[] #[]] 49], S, wf⟩
    obtain ⟨y_0, y_1, y_2⟩ := hk27
    refine .seq (.region (.m G G G (.m G G G (.e G G G G G ?_))))
    refine .m G G G (.w (fun _ => ev_mv G G) G (.w (fun _ => ev_mv G G) G (.w (fun hb => ev_cmp G (lkg G hb) (lkg G hb) G) G ?_)))
    refine .v (ev_and G G G G) G (.go idQ (.condI G (bA bD bD) (fun h28 => ?_) (fun h28 => ?_)))
    ·
     refine .region (.m G G G (.m G G G (.m G G G ?_)))
     refine .m G G G (.m G G G (.cons (st_call0 G G G G hbd57 G (.d .n) (ih A n c Y z ((z + m) - s) b d mb _ _ lO oO oO oO y_2.p3 y_2.p4) (fun v_q30 C_q30 q30 => ?_))))
     obtain ⟨l229, p31, p32, rfl, rfl⟩ := q30
     show SP _ _ _ _ _ _ ⟨_, _ :: _ :: _, _, _⟩
     exact SP.nil (end0 results57 (.d .n) ⟨l229, (y_1.trans (p31.mono oO oO oO)), (right_do y_2 oO oO p31 p32), G, G⟩)
    exact .skipq idQ (end0 results57 (.d .n) ⟨Y, y_1, (right_no y_2 oO oO h28 oO), G, G⟩)
   refine .seq (.region (.m G G G (.m G G G (.e G G G G G ?_))))
   refine .m G G G (.w (fun _ => ev_mv G G) G (.w (fun _ => ev_mv G G) G (.w (fun hb => ev_cmp G (lkg G hb) (lkg G hb) G) G ?_)))
   refine .v (ev_and G G G G) G (.go idQ (.condI G (bA bD bD) (fun h33 => ?_) (fun h33 => ?_)))
   ·
    refine .region (.m G G G (.m G G G (.m G G G ?_)))
    refine .m G G G (.m G G G (.cons (st_call0 G G G G hbd57 G (.d .n) (ih A n c X a s z d mb _ _ lO oO oO oO x_2.p1 x_2.p2) (fun v_q35 C_q35 q35 => ?_))))
    obtain ⟨l234, p36, p37, rfl, rfl⟩ := q35
    show SP _ _ _ _ _ _ ⟨_, _ :: _ :: _, _, _⟩
    refine .go idQ ?_
    exact SC.weak (key26 l234 ⟨(p36.len.trans x_0), (x_1.trans (p36.mono oO oO oO)), (left_do x_2 oO oO p36 p37)⟩) (Sub.get (.c4 G G G G (.c G (.c G (.c G .n))))) (kp (.d .n))
   refine .skipgo idQ ?_
   exact SC.weak (key26 X ⟨x_0, x_1, (left_no x_2 h33 oO)⟩) (Sub.get (.c4 G G G G (.c G (.c G (.c G .n))))) (kp (.d .n))
  refine .seq ?_
  have hcut : CutI (ltA d) l a m b z s (z + m - s) := cut_mk (ltA_wo d) hA hB oO j_0 j_1 oO rfl q_3 (by rw [show s = r from by omega]; exact q_4)
  have hrg := hcut.rng
  refine .region (.m G G G (.m G G G (.e G G G G G ?_)))
  refine .m G G G (.w (fun _ => ev_mv G G) G (.w (fun _ => ev_mv G G) G (.w (fun hb => ev_cmp G (lkg G hb) (lkg G hb) G) G ?_)))
  refine .v (ev_and G G G G) G (.go idQ (.condI G (bA bD bD) (fun h38 => ?_) (fun h38 => ?_)))
  ·
   refine .region (.m G G G (.m G G G (.m G G G ?_)))
   refine .m G G G (.m G G G (.cons (st_call0 G G G G hbd59 G (.c .h .n) (rotA_ A n c l s m ((z + m) - s) mb _ _ lO oO oO) (fun v_q40 C_q40 q40 => ?_))))
   obtain ⟨l239, p41, p42, rfl, rfl⟩ := q40
   show SP _ _ _ _ _ _ ⟨_, _ :: _, _, _⟩
   refine .go idQ ?_
   exact SC.weak (key24 l239 ⟨(p41.len.trans hn), (p41.mono oO oO oO), (half_rot (ltA_wo d) hA hB oO hcut p41 p42)⟩) (Sub.get (.c4 G G G G (.c4 G G G G (.c G .n)))) (kp (.d .n))
  refine .skipgo idQ ?_
  exact SC.weak (key24 l ⟨hn, SegP.rfl', (half_no (ltA_wo d) hA hB oO hcut h38)⟩) (Sub.get (.c4 G G G G (.c4 G G G G (.c G .n)))) (kp (.d .n))
 refine .seq (.region (.m G G G (.m G G G (.e G G G G G ?_))))
 refine .go idQ (.condI G bD (fun h43 => ?_) (fun h43 => ?_))
 ·
  refine .seq (.region (.m G G G (.m G G G (.v (ev_sub G G G (r := ((z0 + m) - b)) G oO oO) G ?_))))
  refine .a G G G (.go idQ (.region (.m G G G (.a G G G ?_))))
  refine .go idQ ?_
  exact SC.weak (key19 ⟨z0, ((z0 + m) - b), z0⟩ ⟨oO, oO⟩) (Sub.get (.c4 G G G G (.c4 G G G G (.c G .n)))) (kp (.d .n))
 refine .seq (.region (.m G G G (.a G G G (.go idQ (.region ?_)))))
 refine .m G G G (.a G G G (.go idQ ?_))
 exact SC.weak (key19 ⟨z0, a, m⟩ ⟨oO, oO⟩) (Sub.get (.c4 G G G G (.c4 G G G G (.c G .n)))) (kp (.d .n))
end Go.Proofs.Ytlefdinbbjiabaa.Sx
set_option maxRecDepth 20000
set_option maxHeartbeats 1000000
namespace Go.Proofs.Ytlefdinbbjiabaa.Sx.FJ
open Go Go.SX Go.Proofs Go.Proofs.Try FA FB FC FD FE FF FG FH FI
theorem hbd56 : hasBody prog 56 = true := by kernel_rfl
theorem hbd48 : hasBody prog 48 = true := by kernel_rfl
end Go.Proofs.Ytlefdinbbjiabaa.Sx.FJ
namespace Go.Proofs.Ytlefdinbbjiabaa.Sx
open Go Go.SX Go.Proofs Go.Proofs.Try FA FB FC FD FE FF FG FH FI FJ
theorem stbA_ (A : Option Addr) (n : Nat) (c : Nat) (l : List AR) (d : Bool) (mb : Nat) (S : Nat → Prop) (wf : World) (hn : l.length = n) (hb : n ≤ 1000) :
  TR0 prog 48 [.slice A n c, .int .i64 (n : Int), .func (.func 38) #[] #[.pointer (some ⟨mb, 0, none⟩)]] [rw_ eAR 47 (.slice A n c) l, cel mb [.func (.func (metF d)) #[] #[]] 49] S wf (fun v_ C_ => ∃ (l2 : List AR), (l2.Perm l) ∧ (Srd (ltA d) l2 0 n) ∧ v_ = .tuple #[] ∧ C_ = [rw_ eAR 47 (.slice A n c) l2, cel mb [.func (.func (metF d)) #[] #[]] 49]) := by
 refine TR.mk func48 G ntmps48 G G (fun w_ => ?_)
 refine .seq (.region (.a G G G (.go idQ (.seq (.region (.m G G G ?_))))))
 refine .a G G G (.a G G G (.go idQ (.seq (.block (.loop (X := Int × Int × (List AR)) (fun ⟨a, b, X⟩ => b = a + 20 ∧ 0 ≤ a ∧ a ≤ n ∧ F1 (ltA d) X a ∧ X.Perm l ∧ X.length = n) (fun ⟨a, b, X⟩ => [(0, .slice A n c), (1, .int .i64 (n : Int)), (2, .func (.func 38) #[] #[.pointer (some ⟨mb, 0, none⟩)]), (6, .int .i64 20), (7, .int .i64 a), (8, .int .i64 b)]) (fun ⟨a, b, X⟩ => [rw_ eAR 47 (.slice A n c) X, cel mb [.func (.func (metF d)) #[] #[]] 49]) (fun _ => S) (fun _ => wf) (fun ⟨a, b, X⟩ => ((n : Int) - a).toNat) (fun a_ w_ hs_ hw_ => ⟨⟨0, 20, l⟩, (by (try dsimp only); exact ⟨oO, oO, oO, f1_0, (.refl _), hn⟩), hs_.mono (Sub.get (.c4 G G G G (.c G (.c G .n)))), hw_.keep (.d .n)⟩) (fun ⟨a, b, X⟩ ⟨q_0, q_1, q_2, q_3, q_4, q_5⟩ => ?_))))))
 try dsimp only
 refine .seq (.seq (.region (.m G G G (.m G G G (.e G G G G G ?_)))))
 refine .go idQ (.condI G bD (fun h1 => ?_) (fun h1 => ?_))
 ·
  refine .skipgo idQ (.block (.seq (.region (.m G G G (.m G G G (.m G G G ?_))))))
  refine .m G G G (.cons (st_call0 G G G G hbd56 G (.d .n) (insA_ A n c X a b d mb _ _ lO oO oO) (fun v_q3 C_q3 q3 => ?_)))
  obtain ⟨l22, p4, p5, rfl, rfl⟩ := q3
  show SP _ _ _ _ _ _ ⟨_, _ :: _ :: _, _, _⟩
  refine .go idQ (.seq (.region (.m G G G (.a G G G (.go idQ (.region ?_))))))
  refine .m G G G (.m G G G (.p ((b + 20)) oO oO G G G G G (.a G G G ?_)))
  exact SP.nil (SQ.roundb (X := Int × Int × (List AR)) (x := (a, b, X)) ⟨b, (b + 20), l22⟩ (by (try dsimp only); exact ⟨oO, oO, oO, (f1_next q_3 p4 q_0 p5), (p4.pm.trans q_4), (p4.len.trans q_5)⟩) dO (Sub.get (.c4 G G G G (.c G (.c G .n)))) (kp (.d .n)))
 refine .exit idQ ?_
 refine .seq (.region (.m G G G (.m G G G (.m G G G ?_))))
 refine .m G G G (.cons (st_call0 G G G G hbd56 G (.d .n) (insA_ A n c X a (n : Int) d mb _ _ lO oO oO) (fun v_q7 C_q7 q7 => ?_)))
 obtain ⟨l26, p8, p9, rfl, rfl⟩ := q7
 show SP _ _ _ _ _ _ ⟨_, _ :: _ :: _, _, _⟩
 refine .go idQ (.block (.loop (X := Int × (List AR)) (fun ⟨bs, Y⟩ => 20 ≤ bs ∧ bs ≤ 2000 ∧ BS (ltA d) Y n bs ∧ Y.Perm l ∧ Y.length = n) (fun ⟨bs, Y⟩ => [(0, .slice A n c), (1, .int .i64 (n : Int)), (2, .func (.func 38) #[] #[.pointer (some ⟨mb, 0, none⟩)]), (6, .int .i64 bs)]) (fun ⟨bs, Y⟩ => [rw_ eAR 47 (.slice A n c) Y, cel mb [.func (.func (metF d)) #[] #[]] 49]) (fun _ => S) (fun _ => wf) (fun ⟨bs, Y⟩ => (2000 - bs).toNat) (fun a_ w_ hs_ hw_ => ⟨⟨20, l26⟩, (by (try dsimp only); exact ⟨oO, oO, (f1_end (n := n) (ltA_wo d) q_3 oO p8 p9), (p8.pm.trans q_4), (p8.len.trans q_5)⟩), hs_.mono (Sub.get (.c4 G G G G .n)), hw_.keep (.d .n)⟩) (fun ⟨bs, Y⟩ ⟨r_0, r_1, r_2, r_3, r_4⟩ => ?_)))
 try dsimp only
 refine .seq (.seq (.region (.m G G G (.m G G G (.e G G G G G ?_)))))
 refine .go idQ (.condI G bD (fun h10 => ?_) (fun h10 => ?_))
 ·
  refine .skipgo idQ (.block (.seq (.region (.m G G G (.v (ev_mul G G G (r := (2 * bs)) G oO oO) G (.a G G G ?_))))))
  refine .a G G G (.go idQ (.seq (.block (.loop (X := Int × Int × (List AR)) (fun ⟨a2, b2, Z⟩ => b2 = a2 + 2 * bs ∧ a2 ≤ n ∧ Lv (ltA d) Z n bs a2 ∧ Z.Perm l ∧ Z.length = n) (fun ⟨a2, b2, Z⟩ => [(0, .slice A n c), (1, .int .i64 (n : Int)), (2, .func (.func 38) #[] #[.pointer (some ⟨mb, 0, none⟩)]), (6, .int .i64 bs), (7, .int .i64 a2), (8, .int .i64 b2)]) (fun ⟨a2, b2, Z⟩ => [rw_ eAR 47 (.slice A n c) Z, cel mb [.func (.func (metF d)) #[] #[]] 49]) (fun _ => S) (fun _ => wf) (fun ⟨a2, b2, Z⟩ => ((n : Int) - a2).toNat) (fun a_ w_ hs_ hw_ => ⟨⟨0, (2 * bs), Y⟩, (by (try dsimp only); exact ⟨oO, oO, (lv_0 r_2 oO), r_3, r_4⟩), hs_.mono (Sub.get (.c4 G G G G (.c G (.c G .n)))), hw_.keep (.d .n)⟩) (fun ⟨a2, b2, Z⟩ ⟨s_0, s_1, s_2, s_3, s_4⟩ => ?_)))))
  try dsimp only
  refine .seq (.seq (.region (.m G G G (.m G G G (.e G G G G G ?_)))))
  refine .go idQ (.condI G bD (fun h11 => ?_) (fun h11 => ?_))
  ·
   refine .skipgo idQ (.block (.seq ?_))
   have hlu := lv_use s_2 oO
   refine .region (.m G G G (.m G G G (.m G G G ?_)))
   refine .m G G G (.p ((a2 + bs)) oO oO G G G G G (.m G G G (.m G G G ?_)))
   refine .cons (st_call0 G G G G hbd57 G (.d .n) (symA_ (n + 1) A n c Z a2 (a2 + bs) b2 d mb _ _ lO oO oO oO (by have h_ := hlu.2.1; rw [Int.min_eq_left oO] at h_; exact h_) (by have h_ := hlu.2.2; rw [Int.min_eq_left oO] at h_; rw [show b2 = a2 + 2 * bs from by omega]; exact h_)) (fun v_q13 C_q13 q13 => ?_))
   obtain ⟨l212, p14, p15, rfl, rfl⟩ := q13
   show SP _ _ _ _ _ _ ⟨_, _ :: _ :: _, _, _⟩
   refine .go idQ (.seq (.region (.m G G G (.a G G G (.go idQ (.region ?_))))))
   refine .m G G G (.m G G G (.v (ev_mul G G G (r := (2 * bs)) G oO oO) G (.p ((b2 + (2 * bs))) oO oO G G G G G ?_)))
   refine .a G G G ?_
   exact SP.nil (SQ.roundb (X := Int × Int × (List AR)) (x := (a2, b2, Z)) ⟨b2, (b2 + (2 * bs)), l212⟩ (by (try dsimp only); exact ⟨oO, oO, (lv_next s_2 oO s_0 p14 p15), (p14.pm.trans s_3), (p14.len.trans s_4)⟩) dO (Sub.get (.c4 G G G G (.c G (.c G .n)))) (kp (.d .n)))
  refine .exit idQ ?_
  refine .seq (.seq (.region (.m G G G (.m G G G (.p ((a2 + bs)) oO oO G G G G G ?_)))))
  refine .a G G G (.go idQ (.seq ?_))
  have hlw := lv_use s_2 oO
  refine .region (.m G G G (.m G G G (.e G G G G G ?_)))
  refine .go idQ (.condI G bD (fun h16 => ?_) (fun h16 => ?_))
  ·
   refine .region (.m G G G (.m G G G (.m G G G ?_)))
   refine .m G G G (.m G G G (.cons (st_call0 G G G G hbd57 G (.d .n) (symA_ (n + 1) A n c Z a2 (a2 + bs) (n : Int) d mb _ _ lO oO oO oO (by have h_ := hlw.2.1; rw [Int.min_eq_left oO] at h_; exact h_) (by have h_ := hlw.2.2; rw [Int.min_eq_right oO] at h_; exact h_)) (fun v_q18 C_q18 q18 => ?_))))
   obtain ⟨l217, p19, p20, rfl, rfl⟩ := q18
   show SP _ _ _ _ _ _ ⟨_, _ :: _ :: _, _, _⟩
   refine .go idQ (.region (.m G G G (.v (ev_mul G G G (r := (bs * 2)) G oO oO) G (.a G G G ?_))))
   exact SP.nil (SQ.roundb (X := Int × (List AR)) (x := (bs, Y)) ⟨(bs * 2), l217⟩ (by (try dsimp only); exact ⟨oO, oO, (lv_end (ltA_wo d) s_2 oO oO p19 p20), (p19.pm.trans s_3), (p19.len.trans s_4)⟩) dO (Sub.get (.c4 G G G G .n)) (kp (.d .n)))
  refine .skipgo idQ (.region (.m G G G (.v (ev_mul G G G (r := (bs * 2)) G oO oO) G (.a G G G ?_))))
  exact SP.nil (SQ.roundb (X := Int × (List AR)) (x := (bs, Y)) ⟨(bs * 2), Z⟩ (by (try dsimp only); exact ⟨oO, oO, (lv_end (ltA_wo d) s_2 oO oO SegP.rfl' (lv_end0 s_2 oO oO)), s_3, s_4⟩) dO (Sub.get (.c4 G G G G .n)) (kp (.d .n)))
 exact .exitq idQ (end0 results48 (.d .n) ⟨Y, r_3, (bs_all r_2 oO), G, G⟩)
theorem srtA_ (A : Option Addr) (n : Nat) (c : Nat) (l : List AR) (d : Bool) (mb : Nat) (S : Nat → Prop) (wf : World) (hn : l.length = n) (hb : n ≤ 1000) :
  TR0 prog 37 [.slice A n c, .func (.func 38) #[] #[.pointer (some ⟨mb, 0, none⟩)]] [rw_ eAR 47 (.slice A n c) l, cel mb [.func (.func (metF d)) #[] #[]] 49] S wf (fun v_ C_ => ∃ (l2 : List AR), (l2.Perm l) ∧ (Srd (ltA d) l2 0 n) ∧ v_ = .tuple #[] ∧ C_ = [rw_ eAR 47 (.slice A n c) l2, cel mb [.func (.func (metF d)) #[] #[]] 49]) := by
 refine TR.mk func37 G ntmps37 G G (fun w_ => ?_)
 refine .region (.m G G G (.m G G G (.g underlying22 G G G ?_)))
 refine .m G G G (.cons (st_call0 G G G G hbd48 G (.d .n) (stbA_ A n c l d mb _ _ lO oO) (fun v_q2 C_q2 q2 => ?_)))
 obtain ⟨l21, p3, p4, rfl, rfl⟩ := q2
 show SP _ _ _ _ _ _ ⟨_, _ :: _ :: _, _, _⟩
 exact SP.nil (end0 results37 (.d .n) ⟨l21, p3, p4, G, G⟩)
end Go.Proofs.Ytlefdinbbjiabaa.Sx
