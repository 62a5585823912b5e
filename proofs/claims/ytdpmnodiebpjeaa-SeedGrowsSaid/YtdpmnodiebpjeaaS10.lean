import Derived.Test.YtdpmnodiebpjeaaProg
import Derived.Test.YtdpmnodiebpjeaaS9
set_option linter.unusedVariables false
set_option linter.unusedSimpArgs false
set_option linter.unusedSectionVars false
set_option maxRecDepth 20000
set_option maxHeartbeats 1000000
namespace Go.Proofs.Ytdpmnodiebpjeaa.Sx.FW
open Go Go.SX Go.Proofs
theorem zf62 : (Try.prog.info? 62).bind (fun i => i.zero.map Value.cells) = some (List.toArray [.int .i64 0, .int .i64 0]) := by kernel_rfl
theorem ty62 : ty Try.prog 62 = some (true, 2) := by kernel_rfl
theorem fo35_0 : fo Try.prog 35 0 = some 0 := by kernel_rfl
theorem ty33 : ty Try.prog 33 = some (false, 1) := by kernel_rfl
theorem ty29 : ty Try.prog 29 = some (true, 8) := by kernel_rfl
theorem ty43 : ty Try.prog 43 = some (true, 2) := by kernel_rfl
theorem fo43_0 : fo Try.prog 43 0 = some 0 := by kernel_rfl
theorem ty3 : ty Try.prog 3 = some (false, 1) := by kernel_rfl
theorem fo43_1 : fo Try.prog 43 1 = some 1 := by kernel_rfl
theorem ty41 : ty Try.prog 41 = some (false, 1) := by kernel_rfl
theorem hbd28 : hasBody Try.prog 28 = true := by kernel_rfl
theorem zf89 : (Try.prog.info? 89).bind (fun i => i.zero.map Value.cells) = some (List.toArray [.int .i64 0, .slice none 0 0, .int .i64 0, .int .i64 0, .int .i64 0, .int .i64 0, .int .i64 0]) := by kernel_rfl
theorem ty89 : ty Try.prog 89 = some (true, 7) := by kernel_rfl
theorem mo : Try.prog.follows .mixedOrders = true := by kernel_rfl
theorem fo62_1 : fo Try.prog 62 1 = some 1 := by kernel_rfl
theorem fo89_6 : fo Try.prog 89 6 = some 6 := by kernel_rfl
theorem ty46 : ty Try.prog 46 = some (true, 2) := by kernel_rfl
theorem zf46 : (Try.prog.info? 46).bind (fun i => i.zero.map Value.cells) = some (List.toArray [.int .i64 0, .int .i64 0]) := by kernel_rfl
theorem hbd37 : hasBody Try.prog 37 = true := by kernel_rfl
theorem zf54 : (Try.prog.info? 54).bind (fun i => i.zero.map Value.cells) = some (List.toArray [.bool false, .int .i64 0]) := by kernel_rfl
theorem ty54 : ty Try.prog 54 = some (true, 2) := by kernel_rfl
theorem fo46_0 : fo Try.prog 46 0 = some 0 := by kernel_rfl
theorem ty44 : ty Try.prog 44 = some (false, 1) := by kernel_rfl
theorem hbd23 : hasBody Try.prog 23 = true := by kernel_rfl
theorem fo62_0 : fo Try.prog 62 0 = some 0 := by kernel_rfl
end Go.Proofs.Ytdpmnodiebpjeaa.Sx.FW
namespace Go.Proofs.Ytdpmnodiebpjeaa.Sx
open Go Go.SX Go.Proofs FW
theorem rscore_ (p : PB) (A : Option Addr) (c : Nat) (l : List RT) (S : Nat → Prop) (wf : World) (hA : Fr eRT S wf A l) (hPB : PBF S wf p) (hRT : RTF S wf l) (hL : LawP p) (hls : l.length ≤ 15) (hvs : ∀ i : Int, (gt l i).vis.length ≤ 50) (hS : SolI p (l.map rc)) :
  TR0 Try.prog 22 [.agg #[.int .i64 p.dims, .int .i64 p.tn, .slice p.ptA p.time.length p.ptc, .int .i64 p.dn, .slice p.pdA p.dist.length p.pdc, .slice p.pvA p.vehs.length p.pvc, .slice p.pjA p.jobs.length p.pjc, .slice p.psA p.ships.length p.psc], .agg #[.slice A l.length c]] [] S wf (fun v_ C_ => ∃ (va : Int) (ca : Int), (va = (valR p (l.map rc))) ∧ (ca = (cstR p (l.map rc))) ∧ (0 ≤ va ∧ va ≤ 100000) ∧ (-100000000000000000 ≤ ca ∧ ca ≤ 100000000000000000) ∧ v_ = .tuple #[.agg #[.int .i64 va, .int .i64 ca], .int .i64 0] ∧ C_ = []) := by
 have hla := hA.len
 have hlv := hPB.2.2.1.1.len
 refine TR.mk Try.func22 rfl Try.ntmps22 rfl rfl (fun w_ => ?_)
 refine .seq (.region (.cons (st_boxa rfl rfl rfl rfl rfl (fun b1 => .cons (st_boxa rfl rfl rfl rfl rfl (fun b2 => .cons (st_alloc rfl rfl rfl rfl zf62 (fun b3 => .a rfl rfl rfl ?_))))))))
 refine .go idQ (.seq (.region (.v (ev_any (v := .agg #[.int .i64 0, .int .i64 0]) rfl (by kernel_rfl) (fun _ => by kernel_rfl)) rfl (.cons (st_alloc rfl rfl rfl rfl zf62 (fun b4 => .cons (st_storea (l' := [.int .i64 0, .int .i64 0]) rfl rfl rfl ty62 rfl rfl rfl .h rfl rfl ?_)))))))
 refine .go idQ (.seq (.seq (.region (.a rfl rfl rfl (.go idQ (.block ?_))))))
 refine .loop (X := Int × Int × Int) (fun ⟨i, va0, ca0⟩ => 0 ≤ i ∧ i ≤ (l.length : Int) ∧ va0 = valR p ((l.take i.toNat).map rc) ∧ ca0 = cstR p ((l.take i.toNat).map rc) ∧ (0 ≤ va0 ∧ va0 ≤ 5000 * i) ∧ (-(4100000000000000 * i) ≤ ca0 ∧ ca0 ≤ 4100000000000000 * i)) (fun ⟨i, va0, ca0⟩ => [(2, .pointer (some ⟨b1, 0, none⟩)), (3, .pointer (some ⟨b2, 0, none⟩)), (4, .pointer (some ⟨b3, 0, none⟩)), (6, .pointer (some ⟨b4, 0, none⟩)), (7, .int .i64 i)]) (fun ⟨i, va0, ca0⟩ => [cel b4 [.int .i64 va0, .int .i64 ca0] 62, cel b3 [.int .i64 0, .int .i64 0] 62, cel b2 [.slice A l.length c] 35, cel b1 [.int .i64 p.dims, .int .i64 p.tn, .slice p.ptA p.time.length p.ptc, .int .i64 p.dn, .slice p.pdA p.dist.length p.pdc, .slice p.pvA p.vehs.length p.pvc, .slice p.pjA p.jobs.length p.pjc, .slice p.psA p.ships.length p.psc] 29]) (fun _ => S) (fun _ => wf) (fun ⟨i, va0, ca0⟩ => ((l.length : Int) - i).toNat) (fun a_ w_ hs_ hw_ => ⟨⟨0, 0, 0⟩, (by (try dsimp only); exact ⟨(by omega), (by omega), rfl, rfl, (by omega), (by omega)⟩), hs_.mono (Sub.get (.c4 rfl rfl rfl rfl (.c rfl .n))), hw_.keep (.c .h (.c .h (.c .h (.c .h .n))))⟩) (fun ⟨i, va0, ca0⟩ ⟨q_0, q_1, q_2, q_3, q_4, q_5⟩ => ?_)
 show SC _ _ _ _ _ ⟨[(2, .pointer (some ⟨b1, 0, none⟩)), (3, .pointer (some ⟨b2, 0, none⟩)), (4, .pointer (some ⟨b3, 0, none⟩)), (6, .pointer (some ⟨b4, 0, none⟩)), (7, .int .i64 i)], [cel b4 [.int .i64 va0, .int .i64 ca0] 62, cel b3 [.int .i64 0, .int .i64 0] 62, cel b2 [.slice A l.length c] 35, cel b1 [.int .i64 p.dims, .int .i64 p.tn, .slice p.ptA p.time.length p.ptc, .int .i64 p.dn, .slice p.pdA p.dist.length p.pdc, .slice p.pvA p.vehs.length p.pvc, .slice p.pjA p.jobs.length p.pjc, .slice p.psA p.ships.length p.psc] 29], S, wf⟩
 refine .seq (.seq (.region (.m rfl rfl rfl (.v (ev_fa rfl fo35_0 rfl (r := 0) rfl) rfl (.v (ev_ld1 rfl ty33 rfl (At.own1 2 rfl rfl)) rfl ?_)))))
 refine .v (ev_len rfl Try.underlying33 rfl) rfl (.v (ev_cmp rfl rfl rfl rfl) rfl (.go idQ (.condI rfl bD (fun h5 => ?_) (fun h5 => ?_))))
 ·
  refine .skipgo idQ (.seq (.block (.seq ?_)))
  obtain ⟨hv1, hv2, hv3, hv4⟩ := sol_at hS (i := i) (by omega) (by omega)
  have hvi := hvs i
  have hfc := fit_cost5 hL (k := (gt l i).veh) (l := (gt l i).vis) (by omega)
  refine SC.draw mo [] [] .n (fun _ _ _ => sc0) (fun wf_6 hl_6 hx_6 hR_6 => ?_)
  refine SR.cutx (X := Nat × Int × (Option Addr) × Nat × Nat) (fun (yb7, yv8, ys9, ys10, ys11) => ([(2, .pointer (some ⟨b1, 0, none⟩)), (3, .pointer (some ⟨b2, 0, none⟩)), (4, .pointer (some ⟨b3, 0, none⟩)), (6, .pointer (some ⟨b4, 0, none⟩)), (7, .int .i64 i), (21, .bool (decide (i < (l.length : Int)))), (8, .pointer (some ⟨yb7, 0, none⟩)), (9, .int .i64 ((fitV p ((gt l i).veh) ((gt l i).vis)).e))], [cel yb7 [.int .i64 yv8, .slice ys9 ys10 ys11, .int .i64 ((fitV p ((gt l i).veh) ((gt l i).vis)).time), .int .i64 ((fitV p ((gt l i).veh) ((gt l i).vis)).dist), .int .i64 ((fitV p ((gt l i).veh) ((gt l i).vis)).wait), .int .i64 ((fitV p ((gt l i).veh) ((gt l i).vis)).serv), .int .i64 ((fitV p ((gt l i).veh) ((gt l i).vis)).cost)] 89, cel b4 [.int .i64 va0, .int .i64 ca0] 62, cel b3 [.int .i64 0, .int .i64 0] 62, cel b2 [.slice A l.length c] 35, cel b1 [.int .i64 p.dims, .int .i64 p.tn, .slice p.ptA p.time.length p.ptc, .int .i64 p.dn, .slice p.pdA p.dist.length p.pdc, .slice p.pvA p.vehs.length p.pvc, .slice p.pjA p.jobs.length p.pjc, .slice p.psA p.ships.length p.psc] 29])) S wf (fun ⟨yb7, yv8, ys9, ys10, ys11⟩ => ?_) (fun key12 => ?_)
  ·
   try dsimp only
   refine SQ.go idQ (.seq (.seq (.region (.m rfl rfl rfl (.v (ev_cmp rfl rfl rfl rfl) rfl ?_)))))
   refine .go idQ (.condI rfl bNE (fun h13 => ?_) (fun h13 => ?_))
   ·
    exfalso; omega
   refine .skipgo idQ (.seq (.region (.v (ev_fa rfl fo62_1 rfl (r := 1) rfl) rfl (.v (ev_ld1 rfl ty3 rfl (At.own1 1 rfl rfl)) rfl (.v (ev_fa rfl fo89_6 rfl (r := 6) rfl) rfl ?_)))))
   refine .v (ev_ld1 rfl ty3 rfl (At.own1 0 rfl rfl)) rfl (.v (ev_add rfl rfl rfl (r := (ca0 + ((fitV p ((gt l i).veh) ((gt l i).vis)).cost))) rfl (by omega) (by omega)) rfl (.v (ev_fa rfl fo62_1 rfl (r := 1) rfl) rfl (.cons (st_store1 rfl rfl rfl ty3 rfl rfl rfl (.t .h) (.t .h) (.go idQ (.seq ?_))))))
   refine .region (.a rfl rfl rfl (.go idQ (.block ?_)))
   refine .loop (X := Int × Int) (fun ⟨j, va2⟩ => 0 ≤ j ∧ j ≤ ((gt l i).vis.length : Int) ∧ va2 = va0 + isum (valV p) ((gt l i).vis.take j.toNat) ∧ (0 ≤ va2 ∧ va2 ≤ 5000 * i + 100 * j)) (fun ⟨j, va2⟩ => [(2, .pointer (some ⟨b1, 0, none⟩)), (3, .pointer (some ⟨b2, 0, none⟩)), (4, .pointer (some ⟨b3, 0, none⟩)), (6, .pointer (some ⟨b4, 0, none⟩)), (7, .int .i64 i), (10, .int .i64 j)]) (fun ⟨j, va2⟩ => [cel b4 [.int .i64 va2, .int .i64 (ca0 + ((fitV p ((gt l i).veh) ((gt l i).vis)).cost))] 62, cel yb7 [.int .i64 yv8, .slice ys9 ys10 ys11, .int .i64 ((fitV p ((gt l i).veh) ((gt l i).vis)).time), .int .i64 ((fitV p ((gt l i).veh) ((gt l i).vis)).dist), .int .i64 ((fitV p ((gt l i).veh) ((gt l i).vis)).wait), .int .i64 ((fitV p ((gt l i).veh) ((gt l i).vis)).serv), .int .i64 ((fitV p ((gt l i).veh) ((gt l i).vis)).cost)] 89, cel b3 [.int .i64 0, .int .i64 0] 62, cel b2 [.slice A l.length c] 35, cel b1 [.int .i64 p.dims, .int .i64 p.tn, .slice p.ptA p.time.length p.ptc, .int .i64 p.dn, .slice p.pdA p.dist.length p.pdc, .slice p.pvA p.vehs.length p.pvc, .slice p.pjA p.jobs.length p.pjc, .slice p.psA p.ships.length p.psc] 29]) (fun _ => S) (fun _ => wf) (fun ⟨j, va2⟩ => (((gt l i).vis.length : Int) - j).toNat) (fun a_ w_ hs_ hw_ => ⟨⟨0, va0⟩, (by (try dsimp only); exact ⟨(by omega), (by omega), (by simp [isum]), (by omega)⟩), hs_.mono (Sub.get (.c4 rfl rfl rfl rfl (.c rfl (.c rfl .n)))), hw_.keep (.c .h (.c .h (.c .h (.c .h (.c .h .n)))))⟩) (fun ⟨j, va2⟩ ⟨r_0, r_1, r_2, r_3⟩ => ?_)
   show SC _ _ _ _ _ ⟨[(2, .pointer (some ⟨b1, 0, none⟩)), (3, .pointer (some ⟨b2, 0, none⟩)), (4, .pointer (some ⟨b3, 0, none⟩)), (6, .pointer (some ⟨b4, 0, none⟩)), (7, .int .i64 i), (10, .int .i64 j)], [cel b4 [.int .i64 va2, .int .i64 (ca0 + ((fitV p ((gt l i).veh) ((gt l i).vis)).cost))] 62, cel yb7 [.int .i64 yv8, .slice ys9 ys10 ys11, .int .i64 ((fitV p ((gt l i).veh) ((gt l i).vis)).time), .int .i64 ((fitV p ((gt l i).veh) ((gt l i).vis)).dist), .int .i64 ((fitV p ((gt l i).veh) ((gt l i).vis)).wait), .int .i64 ((fitV p ((gt l i).veh) ((gt l i).vis)).serv), .int .i64 ((fitV p ((gt l i).veh) ((gt l i).vis)).cost)] 89, cel b3 [.int .i64 0, .int .i64 0] 62, cel b2 [.slice A l.length c] 35, cel b1 [.int .i64 p.dims, .int .i64 p.tn, .slice p.ptA p.time.length p.ptc, .int .i64 p.dn, .slice p.pdA p.dist.length p.pdc, .slice p.pvA p.vehs.length p.pvc, .slice p.pjA p.jobs.length p.pjc, .slice p.psA p.ships.length p.psc] 29], S, wf⟩
   refine .seq (.seq (.region (.m rfl rfl rfl (.v (ev_fa rfl fo35_0 rfl (r := 0) rfl) rfl (.v (ev_ld1 rfl ty33 rfl (At.own1 3 rfl rfl)) rfl ?_)))))
   refine .m rfl rfl rfl (.v (ev_ix rfl Try.underlying33 ty43 rfl rfl (by omega) (by omega) (fun _ _ => Fr.adr (i := i) hA (by omega) (by omega))) rfl (.v (ev_fa rfl fo43_1 rfl (r := ao A + (i).toNat * 2 + 1) rfl) rfl (.v (ev_ld1 rfl ty41 rfl (At.elem1 (At.w (Fr.el (i := i) hA (by omega) (by omega))) 1 rfl)) rfl (.v (ev_len rfl Try.underlying41 rfl) rfl (.v (ev_cmp rfl rfl rfl rfl) rfl ?_)))))
   refine .go idQ (.condI rfl bD (fun h14 => ?_) (fun h14 => ?_))
   ·
    refine .skipgo idQ (.seq (.block (.seq (.region (.v (ev_fa rfl fo35_0 rfl (r := 0) rfl) rfl ?_)))))
    refine .v (ev_ld1 rfl ty33 rfl (At.own1 3 rfl rfl)) rfl (.m rfl rfl rfl (.v (ev_ix rfl Try.underlying33 ty43 rfl rfl (by omega) (by omega) (fun _ _ => Fr.adr (i := i) hA (by omega) (by omega))) rfl (.v (ev_fa rfl fo43_1 rfl (r := ao A + (i).toNat * 2 + 1) rfl) rfl (.v (ev_ld1 rfl ty41 rfl (At.elem1 (At.w (Fr.el (i := i) hA (by omega) (by omega))) 1 rfl)) rfl (.m rfl rfl rfl ?_)))))
    refine .v (ev_ix rfl Try.underlying41 ty46 rfl rfl (by omega) (by omega) (fun _ _ => Fr.adr (i := j) (hRT i) (by omega) (by omega))) rfl (.v (ev_lda rfl rfl (At.w (Fr.el (i := j) (hRT i) (by omega) (by omega))) ty46) rfl (.cons (st_alloc rfl rfl rfl rfl zf46 (fun b15 => .cons (st_storea (l' := [.int .i64 ((gt ((gt l i).vis) j).kind), .int .i64 ((gt ((gt l i).vis) j).item)]) rfl rfl rfl ty46 rfl rfl rfl .h rfl rfl (.go idQ (.seq ?_)))))))
    refine .region (.v (ev_lda rfl rfl (At.whole 0 rfl) ty46) rfl (.cons (st_callk rfl rfl rfl rfl hbd37 rfl .n (rof_ (gt ((gt l i).vis) j) _ _) (.m rfl rfl rfl (.v (ev_ext rfl rfl rfl) rfl (.v (ev_ext rfl rfl rfl) rfl ?_))))))
    refine .cons (st_alloc rfl rfl rfl rfl zf54 (fun b16 => .cons (st_storea (l' := [.bool ((taskV (gt ((gt l i).vis) j)).ship), .int .i64 ((taskV (gt ((gt l i).vis) j)).item)]) rfl rfl rfl ty54 rfl rfl rfl .h rfl rfl (.a rfl rfl rfl (.go idQ (.seq (.region ?_)))))))
    refine .v (ev_fa rfl fo46_0 rfl (r := 0) rfl) rfl (.v (ev_ld1 rfl ty44 rfl (At.own1 1 rfl rfl)) rfl (.v (ev_cmp rfl rfl rfl rfl) rfl (.go idQ (.condI rfl bNE (fun h17 => ?_) (fun h17 => ?_)))))
    ·
     refine .seq (.region (.v (ev_lda rfl rfl (At.whole 6 rfl) ty29) rfl (.v (ev_lda rfl rfl (At.whole 0 rfl) ty54) rfl (.cons (st_callk rfl rfl rfl rfl hbd23 rfl .n (facts_ p (taskV (gt ((gt l i).vis) j)) _ _ hPB) (.m rfl rfl rfl ?_))))))
     refine .v (ev_ext rfl rfl rfl) rfl (.v (ev_ext rfl rfl rfl) rfl (.a rfl rfl rfl (.a rfl rfl rfl (.go idQ ?_))))
     have hpr := prio_rng hL (taskV (gt (gt l i).vis j))
     refine .region (.v (ev_fa rfl fo62_0 rfl (r := 0) rfl) rfl (.v (ev_ld1 rfl ty3 rfl (At.own1 2 rfl rfl)) rfl (.m rfl rfl rfl (.v (ev_add rfl rfl rfl (r := (va2 + (prioF p (taskV (gt ((gt l i).vis) j))))) rfl (by omega) (by omega)) rfl (.v (ev_fa rfl fo62_0 rfl (r := 0) rfl) rfl ?_)))))
     refine .cons (st_store1 rfl rfl rfl ty3 rfl rfl rfl (.t (.t .h)) .h (.go idQ (.region (.m rfl rfl rfl (.v (ev_add rfl rfl rfl (r := (j + 1)) rfl (by omega) (by omega)) rfl (.a rfl rfl rfl ?_))))))
     exact SP.nil (SQ.roundb (X := Int × Int) (x := (j, va2)) ⟨(j + 1), (va2 + (prioF p (taskV (gt ((gt l i).vis) j))))⟩ (by (try dsimp only); exact ⟨(by omega), (by omega), (by rw [val_in (by omega) (by omega), valV_ok (by assumption)]; omega), (by omega)⟩) (by dsimp only; omega) (Sub.get (.c4 rfl rfl rfl rfl (.c rfl (.c rfl .n)))) (fun w hw => hw.keep (.c .h (.c (.t (.t .h)) (.c (.t (.t .h)) (.c (.t (.t .h)) (.c (.t (.t .h)) .n)))))))
    exact .skipgo idQ (.region (.m rfl rfl rfl (.v (ev_add rfl rfl rfl (r := (j + 1)) rfl (by omega) (by omega)) rfl (.a rfl rfl rfl (SP.nil (SQ.roundb (X := Int × Int) (x := (j, va2)) ⟨(j + 1), va2⟩ (by (try dsimp only); exact ⟨(by omega), (by omega), (by rw [val_in (by omega) (by omega), valV_no (by assumption)]; omega), (by omega)⟩) (by dsimp only; omega) (Sub.get (.c4 rfl rfl rfl rfl (.c rfl (.c rfl .n)))) (fun w hw => hw.keep (.c (.t (.t .h)) (.c (.t (.t .h)) (.c (.t (.t .h)) (.c (.t (.t .h)) (.c (.t (.t .h)) .n))))))))))))
   exact .exit idQ (.region (.m rfl rfl rfl (.v (ev_add rfl rfl rfl (r := (i + 1)) rfl (by omega) (by omega)) rfl (.a rfl rfl rfl (SP.nil (SQ.roundb (X := Int × Int × Int) (x := (i, va0, ca0)) ⟨(i + 1), va2, (ca0 + ((fitV p ((gt l i).veh) ((gt l i).vis)).cost))⟩ (by (try dsimp only); exact ⟨(by omega), (by omega), (by rw [val_take (by omega) (by omega), ← q_2, show (gt l i).vis = (gt l i).vis.take j.toNat from (List.take_of_length_le (by omega)).symm]; omega), (by rw [cst_take (by omega) (by omega)]; omega), (by omega), (by omega)⟩) (by dsimp only; omega) (Sub.get (.c4 rfl rfl rfl rfl (.c rfl .n))) (fun w hw => hw.keep (.c .h (.c (.t .h) (.c (.t .h) (.c (.t .h) .n)))))))))))
  refine SR.join (X := Nat × Int × (Option Addr) × Nat × Nat) (fun (zb18, zv19, zs20, zs21, zs22) => ([(2, .pointer (some ⟨b1, 0, none⟩)), (3, .pointer (some ⟨b2, 0, none⟩)), (4, .pointer (some ⟨b3, 0, none⟩)), (6, .pointer (some ⟨b4, 0, none⟩)), (7, .int .i64 i), (21, .bool (decide (i < (l.length : Int)))), (39, .agg #[.int .i64 zv19, .slice zs20 zs21 zs22, .int .i64 ((fitV p ((gt l i).veh) ((gt l i).vis)).time), .int .i64 ((fitV p ((gt l i).veh) ((gt l i).vis)).dist), .int .i64 ((fitV p ((gt l i).veh) ((gt l i).vis)).wait), .int .i64 ((fitV p ((gt l i).veh) ((gt l i).vis)).serv), .int .i64 ((fitV p ((gt l i).veh) ((gt l i).vis)).cost)]), (40, .int .i64 ((fitV p ((gt l i).veh) ((gt l i).vis)).e)), (8, .pointer (some ⟨zb18, 0, none⟩))], [cel zb18 [.int .i64 0, .slice none 0 0, .int .i64 0, .int .i64 0, .int .i64 0, .int .i64 0, .int .i64 0] 89])) 2 #[true, true, true, true, true, true, true, true, true, true, true, true, true, true, true, true, true, true, false, false] (fun ⟨zb18, zv19, zs20, zs21, zs22⟩ => ?_) (fun key23 => ?_)
  ·
   show SR _ _ _ _ _ _ _ _ _ ⟨[(2, .pointer (some ⟨b1, 0, none⟩)), (3, .pointer (some ⟨b2, 0, none⟩)), (4, .pointer (some ⟨b3, 0, none⟩)), (6, .pointer (some ⟨b4, 0, none⟩)), (7, .int .i64 i), (21, .bool (decide (i < (l.length : Int)))), (39, .agg #[.int .i64 zv19, .slice zs20 zs21 zs22, .int .i64 ((fitV p ((gt l i).veh) ((gt l i).vis)).time), .int .i64 ((fitV p ((gt l i).veh) ((gt l i).vis)).dist), .int .i64 ((fitV p ((gt l i).veh) ((gt l i).vis)).wait), .int .i64 ((fitV p ((gt l i).veh) ((gt l i).vis)).serv), .int .i64 ((fitV p ((gt l i).veh) ((gt l i).vis)).cost)]), (40, .int .i64 ((fitV p ((gt l i).veh) ((gt l i).vis)).e)), (8, .pointer (some ⟨zb18, 0, none⟩))], [cel zb18 [.int .i64 0, .slice none 0 0, .int .i64 0, .int .i64 0, .int .i64 0, .int .i64 0, .int .i64 0] 89], _, _⟩
   exact SR.o 18 rfl (st_storea (l' := [.int .i64 zv19, .slice zs20 zs21 zs22, .int .i64 ((fitV p ((gt l i).veh) ((gt l i).vis)).time), .int .i64 ((fitV p ((gt l i).veh) ((gt l i).vis)).dist), .int .i64 ((fitV p ((gt l i).veh) ((gt l i).vis)).wait), .int .i64 ((fitV p ((gt l i).veh) ((gt l i).vis)).serv), .int .i64 ((fitV p ((gt l i).veh) ((gt l i).vis)).cost)]) rfl rfl rfl ty89 rfl rfl rfl .h rfl rfl ⟨tt0, (SR.z 19 rfl rfl (ev_as rfl rfl) (SR.fin (by kernel_rfl) hl_6 hx_6 hR_6 (.c .n) (SQ.weak (key12 (zb18, zv19, zs20, zs21, zs22)) (Sub.get (.c4 rfl rfl rfl rfl (.c4 rfl rfl rfl rfl .n))) (fun w hw => hw.keep (.c .h (.c .h (.c .h (.c .h (.c .h .n)))))))))⟩)
  refine SR.z 0 rfl rfl (ev_lda (cs := [.int .i64 p.dims, .int .i64 p.tn, .slice p.ptA p.time.length p.ptc, .int .i64 p.dn, .slice p.pdA p.dist.length p.pdc, .slice p.pvA p.vehs.length p.pvc, .slice p.pjA p.jobs.length p.pjc, .slice p.psA p.ships.length p.psc]) rfl rfl (At.d (At.lent hR_6 3 rfl rfl)) ty29) (SR.z 1 rfl rfl (ev_fa rfl fo35_0 rfl (r := 0) rfl) (SR.z 2 rfl rfl (ev_ld1 rfl ty33 rfl (At.d (At.lent hR_6 2 rfl rfl))) (SR.m 3 rfl rfl rfl rfl (SR.z 4 rfl rfl (ev_ix rfl Try.underlying33 ty43 rfl rfl (by omega) (by omega) (fun _ _ => Fr.adr (i := i) (Fr.ext hA hx_6) (by omega) (by omega))) (SR.z 5 rfl rfl (ev_fa rfl fo43_0 rfl (r := ao A + (i).toNat * 2) rfl) ?_)))))
  refine SR.z 6 rfl rfl (ev_ld1 rfl ty3 rfl (At.elem1 (At.d (Fr.el (i := i) (Fr.ext hA hx_6) (by omega) (by omega))) 0 rfl)) (SR.z 7 rfl rfl (ev_fa rfl fo35_0 rfl (r := 0) rfl) (SR.z 8 rfl rfl (ev_ld1 rfl ty33 rfl (At.d (At.lent hR_6 2 rfl rfl))) (SR.m 9 rfl rfl rfl rfl (SR.z 10 rfl rfl (ev_ix rfl Try.underlying33 ty43 rfl rfl (by omega) (by omega) (fun _ _ => Fr.adr (i := i) (Fr.ext hA hx_6) (by omega) (by omega))) (SR.z 11 rfl rfl (ev_fa rfl fo43_1 rfl (r := ao A + (i).toNat * 2 + 1) rfl) ?_)))))
  refine SR.z 12 rfl rfl (ev_ld1 rfl ty41 rfl (At.elem1 (At.d (Fr.el (i := i) (Fr.ext hA hx_6) (by omega) (by omega))) 1 rfl)) ?_
  refine SR.two (i := 13) (j := 17) (by kernel_rfl) ⟨_, rfl, ?_⟩ ⟨_, rfl, ?_⟩
  ·
   refine st_call00 rfl rfl rfl rfl hbd28 rfl .n (rfit_ p ((gt l i).veh) ((gt l i).rA) ((gt l i).rc) ((gt l i).vis) _ _ (((hRT).ext hx_6) i) ((hPB).ext hx_6) (by omega) (by first | omega | simp only [LL] <;> omega | simp <;> omega)) (by intro v C h; obtain ⟨_, _, _, _, rfl, rfl⟩ := h; rfl) (fun v_q28 q28 => ⟨tt0, ?_⟩)
   obtain ⟨vh24, sA25, sn26, sc27, rfl, -⟩ := q28
   exact SR.m 14 rfl rfl rfl rfl (SR.z 15 rfl rfl (ev_ext rfl rfl rfl) (SR.z 16 rfl rfl (ev_ext rfl rfl rfl) (SR.o 17 rfl (st_alloc rfl rfl rfl rfl zf89 (fun b29 => ⟨tt0, (SR.weakj (key23 (b29, vh24, sA25, sn26, sc27)) (by kernel_rfl) (Sub.get (.c4 rfl rfl rfl rfl (.c4 rfl rfl rfl rfl (.c rfl .n)))) (fun w hw => hw.keep (.c .h .n)))⟩)))))
  refine st_alloc rfl rfl rfl rfl zf89 (fun b30 => ⟨tt0, (SR.o 13 rfl (st_call00 rfl rfl rfl rfl hbd28 rfl .n (rfit_ p ((gt l i).veh) ((gt l i).rA) ((gt l i).rc) ((gt l i).vis) _ _ (((hRT).ext hx_6) i) ((hPB).ext hx_6) (by omega) (by first | omega | simp only [LL] <;> omega | simp <;> omega)) (by intro v C h; obtain ⟨_, _, _, _, rfl, rfl⟩ := h; rfl) (fun v_q35 q35 => ⟨tt0, ?_⟩)))⟩)
  obtain ⟨vh31, sA32, sn33, sc34, rfl, -⟩ := q35
  exact SR.m 14 rfl rfl rfl rfl (SR.z 15 rfl rfl (ev_ext rfl rfl rfl) (SR.z 16 rfl rfl (ev_ext rfl rfl rfl) (SR.weakj (key23 (b30, vh31, sA32, sn33, sc34)) (by kernel_rfl) (Sub.get (.c4 rfl rfl rfl rfl (.c4 rfl rfl rfl rfl (.c rfl .n)))) (fun w hw => hw.keep (.c .h .n)))))
 refine .exit idQ (.seq (.region (.v (ev_lda rfl rfl (At.whole 0 rfl) ty62) rfl (.cons (st_storea (l' := [.int .i64 va0, .int .i64 ca0]) rfl rfl rfl ty62 rfl rfl rfl (.t .h) rfl rfl (.a rfl rfl rfl ?_))))))
 exact .go idQ (.ret idQ (retv2 Try.results22 (.c 0 rfl rfl ty62) (.t rfl) .n ⟨va0, ca0, (by rw [q_2, List.take_of_length_le (by omega)]), (by rw [q_3, List.take_of_length_le (by omega)]), (by omega), (by omega), rfl, rfl⟩))
end Go.Proofs.Ytdpmnodiebpjeaa.Sx
set_option maxRecDepth 20000
set_option maxHeartbeats 1000000
namespace Go.Proofs.Ytdpmnodiebpjeaa.Sx.FX
open Go Go.SX Go.Proofs
theorem hbd7 : hasBody Try.prog 7 = true := by kernel_rfl
theorem ty29 : ty Try.prog 29 = some (true, 8) := by kernel_rfl
theorem hbd8 : hasBody Try.prog 8 = true := by kernel_rfl
theorem zf35 : (Try.prog.info? 35).bind (fun i => i.zero.map Value.cells) = some (List.toArray [.slice none 0 0]) := by kernel_rfl
theorem ty35 : ty Try.prog 35 = some (true, 1) := by kernel_rfl
theorem hbd20 : hasBody Try.prog 20 = true := by kernel_rfl
theorem ty54 : ty Try.prog 54 = some (true, 2) := by kernel_rfl
theorem zf54 : (Try.prog.info? 54).bind (fun i => i.zero.map Value.cells) = some (List.toArray [.bool false, .int .i64 0]) := by kernel_rfl
theorem hbd11 : hasBody Try.prog 11 = true := by kernel_rfl
theorem hbd21 : hasBody Try.prog 21 = true := by kernel_rfl
theorem mo : Try.prog.follows .mixedOrders = true := by kernel_rfl
theorem fo35_0 : fo Try.prog 35 0 = some 0 := by kernel_rfl
theorem ty33 : ty Try.prog 33 = some (false, 1) := by kernel_rfl
theorem hbd22 : hasBody Try.prog 22 = true := by kernel_rfl
theorem zf62 : (Try.prog.info? 62).bind (fun i => i.zero.map Value.cells) = some (List.toArray [.int .i64 0, .int .i64 0]) := by kernel_rfl
theorem ty62 : ty Try.prog 62 = some (true, 2) := by kernel_rfl
theorem hbd23 : hasBody Try.prog 23 = true := by kernel_rfl
theorem hbd13 : hasBody Try.prog 13 = true := by kernel_rfl
theorem fo62_1 : fo Try.prog 62 1 = some 1 := by kernel_rfl
theorem ty3 : ty Try.prog 3 = some (false, 1) := by kernel_rfl
theorem fo62_0 : fo Try.prog 62 0 = some 0 := by kernel_rfl
theorem eqIn54 (d : Nat) (x0 y0 : Bool) (x1 y1 : Int) (w : World) : (Op.equalIn (d + 3) 54 (.agg #[(.bool x0), (.int .i64 x1)]) (.agg #[(.bool y0), (.int .i64 y1)])).run Try.prog w = .ok ((x0 == y0) && (x1 == y1)) w := by
 rw [run_equalIn_struct w (d + 2) 54 _ _ (by kernel_rfl) (by kernel_rfl)]
 have hf : (Try.prog.fieldsOf 54).toList = [{ name := "Ship", type := 4, offset := 0, embedded := false, tag := "", pkgPath := "", byteOffset := 0 }, { name := "Item", type := 3, offset := 1, embedded := false, tag := "", pkgPath := "", byteOffset := 8 }] := by kernel_rfl
 rw [hf]
 have h4 : ∀ (x y : Bool) (w : World), (Op.equalIn (d + 2) 4 (.bool x) (.bool y)).run Try.prog w = .ok (x == y) w := fun x y w => by
  simp [Op.equalIn, run_underlying Try.underlying4]
 have h3 : ∀ (x y : Int) (w : World), (Op.equalIn (d + 2) 3 (.int .i64 x) (.int .i64 y)).run Try.prog w = .ok (x == y) w := fun x y w => by
  simp [Op.equalIn, run_underlying Try.underlying3]
 have p0 : ∀ (x0 : Bool) (x1 : Int) (w : World), (part 4 #[(.bool x0), (.int .i64 x1)] 0).run Try.prog w = .ok (.bool x0) w := fun _ _ _ => by kernel_rfl
 have p1 : ∀ (x0 : Bool) (x1 : Int) (w : World), (part 3 #[(.bool x0), (.int .i64 x1)] 1).run Try.prog w = .ok (.int .i64 x1) w := fun _ _ _ => by kernel_rfl
 simp only [Op.eqFields, Sem.run_bind, h4, h3, p0, p1, Result.andThen_ok, Sem.run_ite, ne_eq]
 cases g0 : (x0 == y0) <;> cases g1 : (x1 == y1) <;> simp [g0, g1]
theorem ev54_neq (x y : Operand) (x0 y0 : Bool) (x1 y1 : Int) (w : World) : (do eqGuard .neq 54 x y (.agg #[(.bool x0), (.int .i64 x1)]) (.agg #[(.bool y0), (.int .i64 y1)]); binOp .neq 54 (.agg #[(.bool x0), (.int .i64 x1)]) (.agg #[(.bool y0), (.int .i64 y1)]) : Sem Value).run Try.prog w = .ok (.bool (!((x0 == y0) && (x1 == y1)))) w := by
 have h1 : (Op.equal 54 (.agg #[(.bool x0), (.int .i64 x1)]) (.agg #[(.bool y0), (.int .i64 y1)])).run Try.prog w = .ok ((x0 == y0) && (x1 == y1)) w := eqIn54 9997 x0 y0 x1 y1 w
 have h2 : (eqGuard .neq 54 x y (.agg #[(.bool x0), (.int .i64 x1)]) (.agg #[(.bool y0), (.int .i64 y1)])).run Try.prog w = .ok () w := by kernel_rfl
 simp only [Sem.run_bind, h2, Result.andThen_ok, binOp, h1]
 rfl
end Go.Proofs.Ytdpmnodiebpjeaa.Sx.FX
namespace Go.Proofs.Ytdpmnodiebpjeaa.Sx
open Go Go.SX Go.Proofs FX
theorem seedGrows_ (p : PB) (t : TK) (S : Nat → Prop) (wf : World) (hPB : PBF S wf p) (hU : SkU p) :
  TR0 Try.prog 6 [.agg #[.int .i64 p.dims, .int .i64 p.tn, .slice p.ptA p.time.length p.ptc, .int .i64 p.dn, .slice p.pdA p.dist.length p.pdc, .slice p.pvA p.vehs.length p.pvc, .slice p.pjA p.jobs.length p.pjc, .slice p.psA p.ships.length p.psc], .agg #[.bool t.ship, .int .i64 t.item]] [] S wf (fun v_ C_ => v_ = .bool true ∧ C_ = []) := by
 refine TR.mk Try.func6 rfl Try.ntmps6 rfl rfl (fun w_ => ?_)
 refine .seq (.region (.cons (st_boxa rfl rfl rfl rfl rfl (fun b1 => .cons (st_boxa rfl rfl rfl rfl rfl (fun b2 => .a rfl rfl rfl (.go idQ ?_)))))))
 refine .seq (.seq (.region (.cons (st_callk rfl rfl rfl rfl hbd7 rfl .n (awake15_ _ _) (.v (ev_not rfl rfl) rfl (.go idQ ?_))))))
 refine .cond_f rfl (.skipgo idQ (.seq (.seq (.region (.v (ev_lda rfl rfl (At.whole 1 rfl) ty29) rfl ?_)))))
 refine .cons (st_call00 rfl rfl rfl rfl hbd8 rfl .n (small_ p _ _ hPB hU) (by intro v C h; obtain ⟨_, _, rfl, rfl⟩ := h; rfl) (fun v_q4 q4 => ?_))
 obtain ⟨b3, p5, rfl, -⟩ := q4
 refine .v (ev_not rfl rfl) rfl (.go idQ (.condI rfl (bN bV) (fun h6 => ?_) (fun h6 => ?_)))
 ·
  exact .seq (.region (.a rfl rfl rfl (.go idQ (.ret idQ (ret1 Try.results6 rfl .n ⟨rfl, rfl⟩)))))
 refine .skipgo idQ (.seq ?_)
 have hLp := p5 (by first | assumption | exact Classical.not_not.1 (by assumption))
 have htl := taskL_len hLp.1
 have hnj := hLp.1.nj
 refine .region (.v (ev_any (v := .agg #[.slice none 0 0]) rfl (by kernel_rfl) (fun _ => by kernel_rfl)) rfl (.cons (st_alloc rfl rfl rfl rfl zf35 (fun b7 => .cons (st_storea (l' := [.slice none 0 0]) rfl rfl rfl ty35 rfl rfl rfl .h rfl rfl (.go idQ (.seq ?_)))))))
 refine .seq (.region (.v (ev_lda rfl rfl (At.whole 2 rfl) ty29) rfl (.cons (st_call0 rfl rfl rfl rfl hbd20 rfl .n (rtasks_ p _ _ hPB hLp.1) (fun v_q9 C_q9 q9 => ?_)))))
 obtain ⟨u8, rfl, rfl⟩ := q9
 show SP _ _ _ _ _ _ ⟨_, _ :: _, _, _⟩
 refine .know (row_len 0 rfl) (fun hv12 => ?_)
 obtain ⟨A10, c11, rfl, hv12_1, hv12_2⟩ := hv12
 unfold maxLen at hv12_2
 refine .v (ev_len rfl Try.underlying57 rfl) rfl (.m rfl rfl rfl (.go idQ (.block ?_)))
 refine SC.nilrow eRT 43 ?_
 refine SC.nestR0 46 ?_
 refine .loop (X := Int × (List RT) × Value) (fun ⟨i, G, u_G⟩ => 0 ≤ i ∧ i ≤ (((taskL p).length : Nat) : Int) ∧ GInv p t ((taskL p).take i.toNat) (G.map rc) ∧ RBd (2 * i) (G.map rc) ∧ (G.length : Int) ≤ i) (fun ⟨i, G, u_G⟩ => [(2, .pointer (some ⟨b1, 0, none⟩)), (3, .pointer (some ⟨b2, 0, none⟩)), (4, .bool false), (5, .pointer (some ⟨b7, 0, none⟩)), (29, .slice A10 ((taskL p).length) c11), (30, .int .i64 (((taskL p).length : Nat) : Int)), (31, .int .i64 i)]) (fun ⟨i, G, u_G⟩ => [nestR 46 G, rw_ eRT 43 (u_G) G, rw_ eTK 54 (.slice A10 ((taskL p).length) c11) (taskL p), cel b7 [u_G] 35, cel b2 [.bool t.ship, .int .i64 t.item] 54, cel b1 [.int .i64 p.dims, .int .i64 p.tn, .slice p.ptA p.time.length p.ptc, .int .i64 p.dn, .slice p.pdA p.dist.length p.pdc, .slice p.pvA p.vehs.length p.pvc, .slice p.pjA p.jobs.length p.pjc, .slice p.psA p.ships.length p.psc] 29]) (fun _ => S) (fun _ => wf) (fun ⟨i, G, u_G⟩ => ((((taskL p).length : Nat) : Int) - i).toNat) (fun a_ w_ hs_ hw_ => ⟨⟨0, ([] : List RT), .slice none 0 0⟩, (by exact ⟨(by omega), (by omega), g_init, (fun r hr => by cases hr), (by simp)⟩), hs_.mono (Sub.get (.c4 rfl rfl rfl rfl (.c rfl (.c rfl (.c rfl .n))))), hw_.keep (.c .h (.c .h (.c .h (.c .h (.c .h (.c .h .n))))))⟩) (fun ⟨i, G, u_G⟩ ⟨q_0, q_1, q_2, q_3, q_4⟩ => ?_)
 show SC _ _ _ _ _ ⟨[(2, .pointer (some ⟨b1, 0, none⟩)), (3, .pointer (some ⟨b2, 0, none⟩)), (4, .bool false), (5, .pointer (some ⟨b7, 0, none⟩)), (29, .slice A10 ((taskL p).length) c11), (30, .int .i64 (((taskL p).length : Nat) : Int)), (31, .int .i64 i)], [nestR 46 G, rw_ eRT 43 (u_G) G, rw_ eTK 54 (.slice A10 ((taskL p).length) c11) (taskL p), cel b7 [u_G] 35, cel b2 [.bool t.ship, .int .i64 t.item] 54, cel b1 [.int .i64 p.dims, .int .i64 p.tn, .slice p.ptA p.time.length p.ptc, .int .i64 p.dn, .slice p.pdA p.dist.length p.pdc, .slice p.pvA p.vehs.length p.pvc, .slice p.pjA p.jobs.length p.pjc, .slice p.psA p.ships.length p.psc] 29], S, wf⟩
 refine .seq (.region (.v (ev_cmp rfl rfl rfl rfl) rfl (.go idQ (.seq (.condI rfl bD (fun h13 => ?_) (fun h13 => ?_))))))
 ·
  refine .skipgo idQ (.seq (.block (.seq (.region (.v (ev_ix rfl Try.underlying57 ty54 rfl rfl (by omega) (by omega) (row_adr (i := i) 2 rfl (by omega) (by first | omega | simp only [LL] <;> omega | simp <;> omega))) rfl ?_)))))
  refine .v (ev_lda rfl rfl (row_el (E := eTK) (l := (taskL p)) (i := i) 2 rfl (by omega) (by first | omega | simp only [LL] <;> omega | simp <;> omega)) ty54) rfl (.cons (st_alloc rfl rfl rfl rfl zf54 (fun b14 => .cons (st_storea (l' := [.bool ((gt (taskL p) i).ship), .int .i64 ((gt (taskL p) i).item)]) rfl rfl rfl ty54 rfl rfl rfl .h rfl rfl (.go idQ (.seq (.region ?_)))))))
  refine .v (ev_lda rfl rfl (At.whole 0 rfl) ty54) rfl (.v (ev_lda rfl rfl (At.whole 5 rfl) ty54) rfl (.v (ev_bin rfl rfl rfl (r := .bool (!((((gt (taskL p) i).ship) == t.ship) && (((gt (taskL p) i).item) == t.item)))) (ev54_neq _ _ _ _ _ _)) rfl (.go idQ (.condI rfl (bN (bA bV bE)) (fun h15 => ?_) (fun h15 => ?_)))))
  ·
   refine .seq ?_
   refine .know (row_len 2 rfl) (fun hv18 => ?_)
   obtain ⟨A16, c17, rfl, hv18_1, hv18_2⟩ := hv18
   unfold maxLen at hv18_2
   refine SC.draw mo [] [] .n (fun _ _ _ => sc0) (fun wf_19 hl_19 hx_19 hR_19 => ?_)
   refine SR.z 0 rfl rfl (ev_lda (cs := [.int .i64 p.dims, .int .i64 p.tn, .slice p.ptA p.time.length p.ptc, .int .i64 p.dn, .slice p.pdA p.dist.length p.pdc, .slice p.pvA p.vehs.length p.pvc, .slice p.pjA p.jobs.length p.pjc, .slice p.psA p.ships.length p.psc]) rfl rfl (At.d (At.lent hR_19 6 rfl rfl)) ty29) (SR.z 2 rfl rfl (ev_lda (cs := [.slice A16 G.length c17]) rfl rfl (At.d (At.lent hR_19 4 rfl rfl)) ty35) (SR.z 3 rfl rfl (ev_lda (cs := [.bool ((gt (taskL p) i).ship), .int .i64 ((gt (taskL p) i).item)]) rfl rfl (At.d (At.lent hR_19 0 rfl rfl)) ty54) ?_))
   refine SR.two (i := 1) (j := 9) (by kernel_rfl) ⟨_, rfl, ?_⟩ ⟨_, rfl, ?_⟩
   ·
    refine st_call rfl rfl rfl rfl hbd11 rfl .n (copied_ p _ _ ((hPB).ext hx_19) hLp.1) (fun v_q21 C_q21 S_q21 wf_q21 q21 hx_q21 => ⟨(ttx hx_q21), ?_⟩)
    obtain ⟨⟨q20, p22, p23, rfl⟩, rfl⟩ := q21
    show SR _ _ _ _ _ _ _ _ _ ⟨_, [], _, _⟩
    have hE24L : LawP q20 := law_era p23 hLp.1
    have hE24 := fun s_ t_ => ins_e2 p23 (s := s_) (t := t_)
    refine SR.two (i := 4) (j := 9) (by kernel_rfl) ⟨_, rfl, ?_⟩ ⟨_, rfl, ?_⟩
    ·
     refine st_call0 rfl rfl rfl rfl hbd21 rfl .n (sinsert_ q20 A16 c17 G (gt (taskL p) i) _ _ (Fr.ext (Fr.lent (S := S) hR_19 2 rfl (by first | omega | simp only [LL] <;> omega | simp <;> omega)) hx_q21) p22 (((RTF.lent (S := S) hR_19 1 rfl)).ext hx_q21) hE24L (by first | omega | simp only [LL] <;> omega | simp <;> omega) (fun i_ => by have := RBd_gt q_3 (by omega) i_; omega)) (fun v_q27 C_q27 q27 => ⟨(ttx hx_q21), ?_⟩)
     obtain ⟨u25, R26, p28, rfl, rfl⟩ := q27
     show SR _ _ _ _ _ _ _ _ _ ⟨_, _ :: _ :: _, _, _⟩
     refine .know (row_len 0 rfl) (fun hv31 => ?_)
     obtain ⟨A29, c30, rfl, hv31_1, hv31_2⟩ := hv31
     unfold maxLen at hv31_2
     have hI32 := p28
     rw [hE24] at hI32
     refine SR.m 5 rfl rfl rfl rfl (SR.z 6 rfl rfl (ev_ext rfl rfl rfl) (SR.z 7 rfl rfl (ev_ext rfl rfl rfl) (SR.z 8 rfl rfl (ev_ext rfl rfl rfl) (SR.o 9 rfl (st_alloc rfl rfl rfl rfl zf35 (fun b33 => ⟨(ttx hx_q21), (SR.o 10 rfl (st_storea (l' := [.slice A29 R26.length c30]) rfl rfl rfl ty35 rfl rfl rfl .h rfl rfl ⟨(ttx hx_q21), ?_⟩))⟩))))))
     refine SR.z 11 rfl rfl (ev_as rfl rfl) (SR.z 12 rfl rfl (ev_as rfl rfl) (SR.thaw hx_q21 (SR.fin (by kernel_rfl) hl_19 hx_19 hR_19 (.c (.c (.c .n))) (SQ.go idQ (.seq ?_)))))
     refine .region (.m rfl rfl rfl (.go idQ (.condI rfl bV (fun h34 => ?_) (fun h34 => ?_))))
     ·
      refine .region (.v (ev_lda rfl rfl (At.whole 0 rfl) ty35) rfl (.cons (st_storea (l' := [.slice A29 R26.length c30]) rfl rfl rfl ty35 rfl rfl rfl (.t (.t (.t (.t (.t (.t (.t .h))))))) rfl rfl (.go idQ (.region (.v (ev_add rfl rfl rfl (r := (i + 1)) rfl (by omega) (by omega)) rfl ?_))))))
      exact .m rfl rfl rfl (SP.nil (SQ.roundb (X := Int × (List RT) × Value) (x := (i, G, (.slice A16 G.length c17))) ⟨(i + 1), R26, .slice A29 R26.length c30⟩ (by exact ⟨(by omega), (by omega), (by rw [hI32, take_gt (by omega) (by omega)]; exact g_put q_2 (tk_ne h15) (taskL_no (by omega) (by omega)) (by first | exact h34 | (rw [← hE24]; exact h34))), (by rw [hI32]; exact RBd_mono (ins_bd q_3 (by omega)).1 (by omega)), (by have h_ := (ins_bd (p := p) (t := gt (taskL p) i) q_3 (by omega)).2; have h2_ := congrArg List.length hI32; rw [List.length_map] at h2_; rw [List.length_map] at h_; omega)⟩) (by dsimp only; omega) (Sub.get (.c4 rfl rfl rfl rfl (.c rfl (.c rfl (.c rfl .n))))) (fun w hw => hw.keep (.c (.t (.t (.t .h))) (.c (.t (.t .h)) (.c (.t (.t (.t (.t (.t .h))))) (.c .h (.c (.t (.t (.t (.t .h)))) (.c (.t (.t (.t (.t .h)))) .n)))))))))
     exact .skipgo idQ (.region (.v (ev_add rfl rfl rfl (r := (i + 1)) rfl (by omega) (by omega)) rfl (.m rfl rfl rfl (SP.nil (SQ.roundb (X := Int × (List RT) × Value) (x := (i, G, (.slice A16 G.length c17))) ⟨(i + 1), G, .slice A16 G.length c17⟩ (by exact ⟨(by omega), (by omega), (by rw [take_gt (by omega) (by omega)]; exact g_skip q_2), (RBd_mono q_3 (by omega)), (by omega)⟩) (by dsimp only; omega) (Sub.get (.c4 rfl rfl rfl rfl (.c rfl (.c rfl (.c rfl .n))))) (fun w hw => hw.keep (.c (.t (.t (.t (.t .h)))) (.c (.t (.t (.t (.t .h)))) (.c (.t (.t (.t (.t .h)))) (.c (.t (.t (.t (.t .h)))) (.c (.t (.t (.t (.t .h)))) (.c (.t (.t (.t (.t .h)))) .n))))))))))))
    refine st_alloc rfl rfl rfl rfl zf35 (fun b35 => ⟨(ttx hx_q21), (SR.o 4 rfl (st_call0 rfl rfl rfl rfl hbd21 rfl .n (sinsert_ q20 A16 c17 G (gt (taskL p) i) _ _ (Fr.ext (Fr.lent (S := S) hR_19 2 rfl (by first | omega | simp only [LL] <;> omega | simp <;> omega)) hx_q21) p22 (((RTF.lent (S := S) hR_19 1 rfl)).ext hx_q21) hE24L (by first | omega | simp only [LL] <;> omega | simp <;> omega) (fun i_ => by have := RBd_gt q_3 (by omega) i_; omega)) (fun v_q38 C_q38 q38 => ⟨(ttx hx_q21), ?_⟩)))⟩)
    obtain ⟨u36, R37, p39, rfl, rfl⟩ := q38
    show SR _ _ _ _ _ _ _ _ _ ⟨_, _ :: _ :: _, _, _⟩
    refine .know (row_len 0 rfl) (fun hv42 => ?_)
    obtain ⟨A40, c41, rfl, hv42_1, hv42_2⟩ := hv42
    unfold maxLen at hv42_2
    have hI43 := p39
    rw [hE24] at hI43
    refine SR.m 5 rfl rfl rfl rfl (SR.z 6 rfl rfl (ev_ext rfl rfl rfl) (SR.z 7 rfl rfl (ev_ext rfl rfl rfl) (SR.z 8 rfl rfl (ev_ext rfl rfl rfl) (SR.o 10 rfl (st_storea (l' := [.slice A40 R37.length c41]) rfl rfl rfl ty35 rfl rfl rfl (.t (.t .h)) rfl rfl ⟨(ttx hx_q21), (SR.z 11 rfl rfl (ev_as rfl rfl) ?_)⟩)))))
    refine SR.z 12 rfl rfl (ev_as rfl rfl) (SR.thaw hx_q21 (SR.fin (by kernel_rfl) hl_19 hx_19 hR_19 (.c (.c (.c .n))) (SQ.go idQ (.seq (.region ?_)))))
    refine .m rfl rfl rfl (.go idQ (.condI rfl bV (fun h44 => ?_) (fun h44 => ?_)))
    ·
     refine .region (.v (ev_lda rfl rfl (At.whole 0 rfl) ty35) rfl (.cons (st_storea (l' := [.slice A40 R37.length c41]) rfl rfl rfl ty35 rfl rfl rfl (.t (.t (.t (.t (.t (.t (.t .h))))))) rfl rfl (.go idQ (.region (.v (ev_add rfl rfl rfl (r := (i + 1)) rfl (by omega) (by omega)) rfl ?_))))))
     exact .m rfl rfl rfl (SP.nil (SQ.roundb (X := Int × (List RT) × Value) (x := (i, G, (.slice A16 G.length c17))) ⟨(i + 1), R37, .slice A40 R37.length c41⟩ (by exact ⟨(by omega), (by omega), (by rw [hI43, take_gt (by omega) (by omega)]; exact g_put q_2 (tk_ne h15) (taskL_no (by omega) (by omega)) (by first | exact h44 | (rw [← hE24]; exact h44))), (by rw [hI43]; exact RBd_mono (ins_bd q_3 (by omega)).1 (by omega)), (by have h_ := (ins_bd (p := p) (t := gt (taskL p) i) q_3 (by omega)).2; have h2_ := congrArg List.length hI43; rw [List.length_map] at h2_; rw [List.length_map] at h_; omega)⟩) (by dsimp only; omega) (Sub.get (.c4 rfl rfl rfl rfl (.c rfl (.c rfl (.c rfl .n))))) (fun w hw => hw.keep (.c (.t (.t (.t .h))) (.c (.t (.t .h)) (.c (.t (.t (.t (.t (.t .h))))) (.c .h (.c (.t (.t (.t (.t .h)))) (.c (.t (.t (.t (.t .h)))) .n)))))))))
    exact .skipgo idQ (.region (.v (ev_add rfl rfl rfl (r := (i + 1)) rfl (by omega) (by omega)) rfl (.m rfl rfl rfl (SP.nil (SQ.roundb (X := Int × (List RT) × Value) (x := (i, G, (.slice A16 G.length c17))) ⟨(i + 1), G, .slice A16 G.length c17⟩ (by exact ⟨(by omega), (by omega), (by rw [take_gt (by omega) (by omega)]; exact g_skip q_2), (RBd_mono q_3 (by omega)), (by omega)⟩) (by dsimp only; omega) (Sub.get (.c4 rfl rfl rfl rfl (.c rfl (.c rfl (.c rfl .n))))) (fun w hw => hw.keep (.c (.t (.t (.t (.t .h)))) (.c (.t (.t (.t (.t .h)))) (.c (.t (.t (.t (.t .h)))) (.c (.t (.t (.t (.t .h)))) (.c (.t (.t (.t (.t .h)))) (.c (.t (.t (.t (.t .h)))) .n))))))))))))
   refine st_alloc rfl rfl rfl rfl zf35 (fun b45 => ⟨tt0, (SR.o 1 rfl (st_call rfl rfl rfl rfl hbd11 rfl .n (copied_ p _ _ ((hPB).ext hx_19) hLp.1) (fun v_q47 C_q47 S_q47 wf_q47 q47 hx_q47 => ⟨(ttx hx_q47), ?_⟩)))⟩)
   obtain ⟨⟨q46, p48, p49, rfl⟩, rfl⟩ := q47
   show SR _ _ _ _ _ _ _ _ _ ⟨_, [cel b45 [.slice none 0 0] 35], _, _⟩
   have hE50L : LawP q46 := law_era p49 hLp.1
   have hE50 := fun s_ t_ => ins_e2 p49 (s := s_) (t := t_)
   refine SR.o 4 rfl (st_call0 rfl rfl rfl rfl hbd21 rfl .n (sinsert_ q46 A16 c17 G (gt (taskL p) i) _ _ (Fr.ext (Fr.lent (S := S) hR_19 2 rfl (by first | omega | simp only [LL] <;> omega | simp <;> omega)) hx_q47) p48 (((RTF.lent (S := S) hR_19 1 rfl)).ext hx_q47) hE50L (by first | omega | simp only [LL] <;> omega | simp <;> omega) (fun i_ => by have := RBd_gt q_3 (by omega) i_; omega)) (fun v_q53 C_q53 q53 => ⟨(ttx hx_q47), ?_⟩))
   obtain ⟨u51, R52, p54, rfl, rfl⟩ := q53
   show SR _ _ _ _ _ _ _ _ _ ⟨_, _ :: _ :: _, _, _⟩
   refine .know (row_len 0 rfl) (fun hv57 => ?_)
   obtain ⟨A55, c56, rfl, hv57_1, hv57_2⟩ := hv57
   unfold maxLen at hv57_2
   have hI58 := p54
   rw [hE50] at hI58
   refine SR.m 5 rfl rfl rfl rfl (SR.z 6 rfl rfl (ev_ext rfl rfl rfl) (SR.z 7 rfl rfl (ev_ext rfl rfl rfl) (SR.z 8 rfl rfl (ev_ext rfl rfl rfl) (SR.o 10 rfl (st_storea (l' := [.slice A55 R52.length c56]) rfl rfl rfl ty35 rfl rfl rfl (.t (.t .h)) rfl rfl ⟨(ttx hx_q47), (SR.z 11 rfl rfl (ev_as rfl rfl) ?_)⟩)))))
   refine SR.z 12 rfl rfl (ev_as rfl rfl) (SR.thaw hx_q47 (SR.fin (by kernel_rfl) hl_19 hx_19 hR_19 (.c (.c (.c .n))) (SQ.go idQ (.seq (.region ?_)))))
   refine .m rfl rfl rfl (.go idQ (.condI rfl bV (fun h59 => ?_) (fun h59 => ?_)))
   ·
    refine .region (.v (ev_lda rfl rfl (At.whole 0 rfl) ty35) rfl (.cons (st_storea (l' := [.slice A55 R52.length c56]) rfl rfl rfl ty35 rfl rfl rfl (.t (.t (.t (.t (.t (.t (.t .h))))))) rfl rfl (.go idQ (.region (.v (ev_add rfl rfl rfl (r := (i + 1)) rfl (by omega) (by omega)) rfl ?_))))))
    exact .m rfl rfl rfl (SP.nil (SQ.roundb (X := Int × (List RT) × Value) (x := (i, G, (.slice A16 G.length c17))) ⟨(i + 1), R52, .slice A55 R52.length c56⟩ (by exact ⟨(by omega), (by omega), (by rw [hI58, take_gt (by omega) (by omega)]; exact g_put q_2 (tk_ne h15) (taskL_no (by omega) (by omega)) (by first | exact h59 | (rw [← hE50]; exact h59))), (by rw [hI58]; exact RBd_mono (ins_bd q_3 (by omega)).1 (by omega)), (by have h_ := (ins_bd (p := p) (t := gt (taskL p) i) q_3 (by omega)).2; have h2_ := congrArg List.length hI58; rw [List.length_map] at h2_; rw [List.length_map] at h_; omega)⟩) (by dsimp only; omega) (Sub.get (.c4 rfl rfl rfl rfl (.c rfl (.c rfl (.c rfl .n))))) (fun w hw => hw.keep (.c (.t (.t (.t .h))) (.c (.t (.t .h)) (.c (.t (.t (.t (.t (.t .h))))) (.c .h (.c (.t (.t (.t (.t .h)))) (.c (.t (.t (.t (.t .h)))) .n)))))))))
   exact .skipgo idQ (.region (.v (ev_add rfl rfl rfl (r := (i + 1)) rfl (by omega) (by omega)) rfl (.m rfl rfl rfl (SP.nil (SQ.roundb (X := Int × (List RT) × Value) (x := (i, G, (.slice A16 G.length c17))) ⟨(i + 1), G, .slice A16 G.length c17⟩ (by exact ⟨(by omega), (by omega), (by rw [take_gt (by omega) (by omega)]; exact g_skip q_2), (RBd_mono q_3 (by omega)), (by omega)⟩) (by dsimp only; omega) (Sub.get (.c4 rfl rfl rfl rfl (.c rfl (.c rfl (.c rfl .n))))) (fun w hw => hw.keep (.c (.t (.t (.t (.t .h)))) (.c (.t (.t (.t (.t .h)))) (.c (.t (.t (.t (.t .h)))) (.c (.t (.t (.t (.t .h)))) (.c (.t (.t (.t (.t .h)))) (.c (.t (.t (.t (.t .h)))) .n))))))))))))
  exact .skipgo idQ (.region (.v (ev_add rfl rfl rfl (r := (i + 1)) rfl (by omega) (by omega)) rfl (.m rfl rfl rfl (SP.nil (SQ.roundb (X := Int × (List RT) × Value) (x := (i, G, u_G)) ⟨(i + 1), G, u_G⟩ (by exact ⟨(by omega), (by omega), (by rw [take_gt (by omega) (by omega)]; exact g_skip q_2), (RBd_mono q_3 (by omega)), (by omega)⟩) (by dsimp only; omega) (Sub.get (.c4 rfl rfl rfl rfl (.c rfl (.c rfl (.c rfl .n))))) (fun w hw => hw.keep (.c (.t .h) (.c (.t .h) (.c (.t .h) (.c (.t .h) (.c (.t .h) (.c (.t .h) .n))))))))))))
 refine .exit idQ (.seq ?_)
 refine .know (row_len 1 rfl) (fun hv62 => ?_)
 obtain ⟨A60, c61, rfl, hv62_1, hv62_2⟩ := hv62
 unfold maxLen at hv62_2
 refine SC.draw mo [] [] .n (fun _ _ _ => sc0) (fun wf_63 hl_63 hx_63 hR_63 => ?_)
 refine SR.z 0 rfl rfl (ev_lda (cs := [.int .i64 p.dims, .int .i64 p.tn, .slice p.ptA p.time.length p.ptc, .int .i64 p.dn, .slice p.pdA p.dist.length p.pdc, .slice p.pvA p.vehs.length p.pvc, .slice p.pjA p.jobs.length p.pjc, .slice p.psA p.ships.length p.psc]) rfl rfl (At.d (At.lent hR_63 5 rfl rfl)) ty29) (SR.z 2 rfl rfl (ev_lda (cs := [.slice A60 G.length c61]) rfl rfl (At.d (At.lent hR_63 3 rfl rfl)) ty35) (SR.z 3 rfl rfl (ev_lda (cs := [.bool t.ship, .int .i64 t.item]) rfl rfl (At.d (At.lent hR_63 4 rfl rfl)) ty54) ?_))
 refine SR.two (i := 1) (j := 9) (by kernel_rfl) ⟨_, rfl, ?_⟩ ⟨_, rfl, ?_⟩
 ·
  refine st_call rfl rfl rfl rfl hbd11 rfl .n (copied_ p _ _ ((hPB).ext hx_63) hLp.1) (fun v_q65 C_q65 S_q65 wf_q65 q65 hx_q65 => ⟨(ttx hx_q65), ?_⟩)
  obtain ⟨⟨q64, p66, p67, rfl⟩, rfl⟩ := q65
  show SR _ _ _ _ _ _ _ _ _ ⟨_, [], _, _⟩
  have hE68L : LawP q64 := law_era p67 hLp.1
  have hE68 := fun s_ t_ => ins_e2 p67 (s := s_) (t := t_)
  refine SR.two (i := 4) (j := 9) (by kernel_rfl) ⟨_, rfl, ?_⟩ ⟨_, rfl, ?_⟩
  ·
   refine st_call0 rfl rfl rfl rfl hbd21 rfl .n (sinsert_ q64 A60 c61 G t _ _ (Fr.ext (Fr.lent (S := S) hR_63 1 rfl (by first | omega | simp only [LL] <;> omega | simp <;> omega)) hx_q65) p66 (((RTF.lent (S := S) hR_63 0 rfl)).ext hx_q65) hE68L (by first | omega | simp only [LL] <;> omega | simp <;> omega) (fun i_ => by have := RBd_gt q_3 (by omega) i_; omega)) (fun v_q71 C_q71 q71 => ⟨(ttx hx_q65), ?_⟩)
   obtain ⟨u69, R70, p72, rfl, rfl⟩ := q71
   show SR _ _ _ _ _ _ _ _ _ ⟨_, _ :: _ :: _, _, _⟩
   refine .know (row_len 0 rfl) (fun hv75 => ?_)
   obtain ⟨A73, c74, rfl, hv75_1, hv75_2⟩ := hv75
   unfold maxLen at hv75_2
   have hI76 := p72
   rw [hE68] at hI76
   refine SR.m 5 rfl rfl rfl rfl (SR.z 6 rfl rfl (ev_ext rfl rfl rfl) (SR.z 7 rfl rfl (ev_ext rfl rfl rfl) (SR.z 8 rfl rfl (ev_ext rfl rfl rfl) (SR.o 9 rfl (st_alloc rfl rfl rfl rfl zf35 (fun b77 => ⟨(ttx hx_q65), (SR.o 10 rfl (st_storea (l' := [.slice A73 R70.length c74]) rfl rfl rfl ty35 rfl rfl rfl .h rfl rfl ⟨(ttx hx_q65), ?_⟩))⟩))))))
   refine SR.z 11 rfl rfl (ev_as rfl rfl) (SR.z 12 rfl rfl (ev_as rfl rfl) (SR.thaw hx_q65 (SR.fin (by kernel_rfl) hl_63 hx_63 hR_63 (.c (.c (.c .n))) (SQ.go idQ (.seq ?_)))))
   refine .seq (.region (.m rfl rfl rfl (.v (ev_not rfl rfl) rfl (.go idQ (.condI rfl (bN bV) (fun h78 => ?_) (fun h78 => ?_))))))
   ·
    refine .seq (.region (.m rfl rfl rfl (.v (ev_cmp rfl rfl rfl rfl) rfl (.m rfl rfl rfl (.w (fun _ => ev_fa rfl fo35_0 rfl (r := 0) rfl) rfl ?_)))))
    refine .w (fun hb => ev_ld1 rfl ty33 (lkg rfl hb) (At.own1 0 rfl rfl)) rfl (.w (fun hb => ev_len rfl Try.underlying33 (lkg rfl hb)) rfl (.w (fun hb => ev_cmp rfl (lkg rfl hb) rfl rfl) rfl (.v (ev_and rfl rfl rfl rfl) rfl (.a rfl rfl rfl (.go idQ ?_)))))
    exact .ret idQ (ret1 Try.results6 rfl .n ⟨(congrArg Value.bool (by have hnf := ins_nf (p := p) (s := G.map rc) (t := t) (by rw [← hE68]; exact h78); have hl_ : R70.length = 0 := (by have h_ := congrArg List.length hI76; rw [hnf.2, List.length_map] at h_; exact h_); rw [hE68, hnf.1, hl_]; rfl)), rfl⟩)
   refine .skipgo idQ (.seq ?_)
   have hfd : (insF p (G.map rc) t).found = true := by rw [← hE68]; first | assumption | exact Classical.not_not.1 h78
   obtain ⟨hS1, hS2, hN2, hC2, hV2⟩ := g_end q_2 hfd
   rw [← hI76] at hS2 hN2 hC2 hV2
   have hB1 : ∀ i_ : Int, (gt G i_).vis.length ≤ 50 := fun i_ => by have := RBd_gt q_3 (by omega) i_; omega
   have hB2 : ∀ i_ : Int, (gt R70 i_).vis.length ≤ 50 := fun i_ => by have h_ := RBd_gt (b := 2 * i + 2) (l := R70) (by rw [hI76]; exact (ins_bd q_3 (by omega)).1) (by omega) i_; omega
   have hL2 : R70.length ≤ G.length + 1 := by have h_ := (ins_bd (p := p) (t := t) q_3 (by omega)).2; have h2_ := congrArg List.length hI76; rw [List.length_map] at h2_; rw [List.length_map] at h_; omega
   refine .region (.v (ev_lda rfl rfl (At.whole 8 rfl) ty29) rfl (.v (ev_lda rfl rfl (At.whole 6 rfl) ty35) rfl (.cons (st_lend0 rfl rfl rfl rfl hbd22 rfl .n (.c (.t (.t (.t (.t .h)))) (.c (.t (.t (.t .h))) .n)) (fun w_ hw => rscore_ p A60 c61 G _ _ (Fr.lend hw 0 rfl (by first | omega | simp only [LL] <;> omega | simp <;> omega)) ((hPB).ext hw.lendx) (RTF.lend hw 1 rfl) hLp.1 (by first | omega | simp only [LL] <;> omega | simp <;> omega) hB1 hS1) (fun v_q81 C_q81 q81 => ?_)))))
   obtain ⟨va79, ca80, p82, p83, p84, p85, rfl, rfl⟩ := q81
   show SP _ _ _ _ _ _ ⟨_, _ :: _ :: _, _, _⟩
   refine .m rfl rfl rfl (.v (ev_ext rfl rfl rfl) rfl (.v (ev_ext rfl rfl rfl) rfl (.cons (st_alloc rfl rfl rfl rfl zf62 (fun b86 => .cons (st_storea (l' := [.int .i64 va79, .int .i64 ca80]) rfl rfl rfl ty62 rfl rfl rfl .h rfl rfl (.a rfl rfl rfl ?_)))))))
   refine .go idQ (.seq (.region (.v (ev_lda rfl rfl (At.whole 9 rfl) ty29) rfl (.v (ev_lda rfl rfl (At.whole 3 rfl) ty35) rfl (.cons (st_lend0 rfl rfl rfl rfl hbd22 rfl .n (.c (.t (.t (.t (.t .h)))) (.c (.t (.t (.t (.t .h)))) .n)) (fun w_ hw => rscore_ p A73 c74 R70 _ _ (Fr.lend hw 0 rfl (by first | omega | simp only [LL] <;> omega | simp <;> omega)) ((hPB).ext hw.lendx) (RTF.lend hw 1 rfl) hLp.1 (by first | omega | simp only [LL] <;> omega | simp <;> omega) hB2 hS2) (fun v_q89 C_q89 q89 => ?_)))))))
   obtain ⟨va87, ca88, p90, p91, p92, p93, rfl, rfl⟩ := q89
   show SP _ _ _ _ _ _ ⟨_, _ :: _ :: _, _, _⟩
   refine .m rfl rfl rfl (.v (ev_ext rfl rfl rfl) rfl (.v (ev_ext rfl rfl rfl) rfl (.cons (st_alloc rfl rfl rfl rfl zf62 (fun b94 => .cons (st_storea (l' := [.int .i64 va87, .int .i64 ca88]) rfl rfl rfl ty62 rfl rfl rfl .h rfl rfl (.a rfl rfl rfl ?_)))))))
   refine .go idQ (.seq (.region (.v (ev_lda rfl rfl (At.whole 10 rfl) ty29) rfl (.v (ev_lda rfl rfl (At.whole 9 rfl) ty54) rfl (.cons (st_callk rfl rfl rfl rfl hbd23 rfl .n (facts_ p t _ _ hPB) ?_))))))
   refine .m rfl rfl rfl (.v (ev_ext rfl rfl rfl) rfl (.v (ev_ext rfl rfl rfl) rfl (.a rfl rfl rfl (.a rfl rfl rfl (.go idQ ?_)))))
   refine .seq (.region (.v (ev_lda rfl rfl (At.whole 10 rfl) ty29) rfl (.v (ev_lda rfl rfl (At.whole 6 rfl) ty35) rfl (.cons (st_lendk rfl rfl rfl rfl hbd13 rfl .n (.c (.t .h) (.c (.t .h) .n)) (fun w_ hw => rcheck15_ p A73 c74 R70 _ _ (Fr.lend hw 0 rfl (by first | omega | simp only [LL] <;> omega | simp <;> omega)) ((hPB).ext hw.lendx) (RTF.lend hw 1 rfl) hLp.1 (by first | omega | simp only [LL] <;> omega | simp <;> omega) (by first | omega | simp only [LL] <;> omega | simp <;> omega) hB2 hS2 hN2) (.m rfl rfl rfl ?_))))))
   refine .v (ev_ext rfl rfl rfl) rfl (.v (ev_ext rfl rfl rfl) rfl (.a rfl rfl rfl (.a rfl rfl rfl (.go idQ (.seq ?_)))))
   have hsv1 := p82
   have hsc1 := p83
   have hsv2 := p90
   have hsc2 := p91
   have hpt := prio_rng hLp.1 t
   have hbq := congrArg IS.best (hE68 (G.map rc) t)
   refine .region (.m rfl rfl rfl (.v (ev_cmp (r := true) rfl rfl rfl rfl) rfl (.m rfl rfl rfl (.cons (.on rfl rfl rfl (Ev.step (ev_mv rfl rfl) rfl rfl rfl (.cons (.on rfl rfl rfl (Ev.step (ev_cmp (r := true) rfl rfl rfl rfl) rfl rfl rfl ?_)))))))))
   refine .v (ev_pickt rfl rfl rfl rfl) rfl (.m rfl rfl rfl (.cons (.on rfl rfl rfl (Ev.step (ev_mv rfl rfl) rfl rfl rfl (.cons (.on rfl rfl rfl (Ev.step (ev_cmp (r := true) rfl rfl rfl rfl) rfl rfl rfl (.v (ev_pickt rfl rfl rfl rfl) rfl (.m rfl rfl rfl ?_)))))))))
   refine .cons (.on rfl rfl rfl (Ev.step (ev_fa rfl fo62_1 rfl (r := 1) rfl) rfl rfl rfl (.cons (.on rfl rfl rfl (Ev.step (ev_ld1 rfl ty3 rfl (At.own1 0 rfl rfl)) rfl rfl rfl (.cons (.on rfl rfl rfl (Ev.step (ev_fa rfl fo62_1 rfl (r := 1) rfl) rfl rfl rfl (.cons (.on rfl rfl rfl (Ev.step (ev_ld1 rfl ty3 rfl (At.own1 3 rfl rfl)) rfl rfl rfl (.cons (.on rfl rfl rfl (Ev.step (ev_mv rfl rfl) rfl rfl rfl (.cons (.on rfl rfl rfl (Ev.step (ev_add rfl rfl rfl (r := (ca80 + ((insF q64 (G.map rc) t).best))) rfl (by omega) (by omega)) rfl rfl rfl ?_)))))))))))))))))
   refine .cons (.on rfl rfl rfl (Ev.step (ev_cmp rfl rfl rfl rfl) rfl rfl rfl (.v (ev_pickt rfl rfl rfl rfl) rfl (.m rfl rfl rfl (.w (fun _ => ev_fa rfl fo62_0 rfl (r := 0) rfl) rfl (.w (fun hb => ev_ld1 rfl ty3 (lkg rfl hb) (At.own1 0 rfl rfl)) rfl (.w (fun _ => ev_fa rfl fo62_0 rfl (r := 0) rfl) rfl ?_)))))))
   refine .w (fun hb => ev_ld1 rfl ty3 (lkg rfl hb) (At.own1 3 rfl rfl)) rfl (.w (fun _ => ev_mv rfl rfl) rfl (.w (fun hb => have hp := bT bE hb; ev_add rfl (lkg rfl hb) (lkg rfl hb) (r := (va79 + (prioF p t))) rfl (by have _h := hp; omega) (by have _h := hp; omega)) rfl (.w (fun hb => ev_cmp rfl (lkg rfl hb) (lkg rfl hb) rfl) rfl (.v (ev_and rfl rfl rfl rfl) rfl (.a rfl rfl rfl ?_)))))
   exact .go idQ (.ret idQ (ret1 Try.results6 rfl .n ⟨(congrArg Value.bool (by simp only [Bool.and_eq_true, beq_iff_eq, true_and, and_true]; (try (and_intros <;> omega)))), rfl⟩))
  refine st_alloc rfl rfl rfl rfl zf35 (fun b95 => ⟨(ttx hx_q65), (SR.o 4 rfl (st_call0 rfl rfl rfl rfl hbd21 rfl .n (sinsert_ q64 A60 c61 G t _ _ (Fr.ext (Fr.lent (S := S) hR_63 1 rfl (by first | omega | simp only [LL] <;> omega | simp <;> omega)) hx_q65) p66 (((RTF.lent (S := S) hR_63 0 rfl)).ext hx_q65) hE68L (by first | omega | simp only [LL] <;> omega | simp <;> omega) (fun i_ => by have := RBd_gt q_3 (by omega) i_; omega)) (fun v_q98 C_q98 q98 => ⟨(ttx hx_q65), ?_⟩)))⟩)
  obtain ⟨u96, R97, p99, rfl, rfl⟩ := q98
  show SR _ _ _ _ _ _ _ _ _ ⟨_, _ :: _ :: _, _, _⟩
  refine .know (row_len 0 rfl) (fun hv102 => ?_)
  obtain ⟨A100, c101, rfl, hv102_1, hv102_2⟩ := hv102
  unfold maxLen at hv102_2
  have hI103 := p99
  rw [hE68] at hI103
  refine SR.m 5 rfl rfl rfl rfl (SR.z 6 rfl rfl (ev_ext rfl rfl rfl) (SR.z 7 rfl rfl (ev_ext rfl rfl rfl) (SR.z 8 rfl rfl (ev_ext rfl rfl rfl) (SR.o 10 rfl (st_storea (l' := [.slice A100 R97.length c101]) rfl rfl rfl ty35 rfl rfl rfl (.t (.t .h)) rfl rfl ⟨(ttx hx_q65), (SR.z 11 rfl rfl (ev_as rfl rfl) ?_)⟩)))))
  refine SR.z 12 rfl rfl (ev_as rfl rfl) (SR.thaw hx_q65 (SR.fin (by kernel_rfl) hl_63 hx_63 hR_63 (.c (.c (.c .n))) (SQ.go idQ (.seq (.seq ?_)))))
  refine .region (.m rfl rfl rfl (.v (ev_not rfl rfl) rfl (.go idQ (.condI rfl (bN bV) (fun h104 => ?_) (fun h104 => ?_)))))
  ·
   refine .seq (.region (.m rfl rfl rfl (.v (ev_cmp rfl rfl rfl rfl) rfl (.m rfl rfl rfl (.w (fun _ => ev_fa rfl fo35_0 rfl (r := 0) rfl) rfl ?_)))))
   refine .w (fun hb => ev_ld1 rfl ty33 (lkg rfl hb) (At.own1 0 rfl rfl)) rfl (.w (fun hb => ev_len rfl Try.underlying33 (lkg rfl hb)) rfl (.w (fun hb => ev_cmp rfl (lkg rfl hb) rfl rfl) rfl (.v (ev_and rfl rfl rfl rfl) rfl (.a rfl rfl rfl (.go idQ ?_)))))
   exact .ret idQ (ret1 Try.results6 rfl .n ⟨(congrArg Value.bool (by have hnf := ins_nf (p := p) (s := G.map rc) (t := t) (by rw [← hE68]; exact h104); have hl_ : R97.length = 0 := (by have h_ := congrArg List.length hI103; rw [hnf.2, List.length_map] at h_; exact h_); rw [hE68, hnf.1, hl_]; rfl)), rfl⟩)
  refine .skipgo idQ (.seq ?_)
  have hfd : (insF p (G.map rc) t).found = true := by rw [← hE68]; first | assumption | exact Classical.not_not.1 h104
  obtain ⟨hS1, hS2, hN2, hC2, hV2⟩ := g_end q_2 hfd
  rw [← hI103] at hS2 hN2 hC2 hV2
  have hB1 : ∀ i_ : Int, (gt G i_).vis.length ≤ 50 := fun i_ => by have := RBd_gt q_3 (by omega) i_; omega
  have hB2 : ∀ i_ : Int, (gt R97 i_).vis.length ≤ 50 := fun i_ => by have h_ := RBd_gt (b := 2 * i + 2) (l := R97) (by rw [hI103]; exact (ins_bd q_3 (by omega)).1) (by omega) i_; omega
  have hL2 : R97.length ≤ G.length + 1 := by have h_ := (ins_bd (p := p) (t := t) q_3 (by omega)).2; have h2_ := congrArg List.length hI103; rw [List.length_map] at h2_; rw [List.length_map] at h_; omega
  refine .region (.v (ev_lda rfl rfl (At.whole 8 rfl) ty29) rfl (.v (ev_lda rfl rfl (At.whole 6 rfl) ty35) rfl (.cons (st_lend0 rfl rfl rfl rfl hbd22 rfl .n (.c (.t (.t (.t (.t .h)))) (.c (.t (.t (.t .h))) .n)) (fun w_ hw => rscore_ p A60 c61 G _ _ (Fr.lend hw 0 rfl (by first | omega | simp only [LL] <;> omega | simp <;> omega)) ((hPB).ext hw.lendx) (RTF.lend hw 1 rfl) hLp.1 (by first | omega | simp only [LL] <;> omega | simp <;> omega) hB1 hS1) (fun v_q107 C_q107 q107 => ?_)))))
  obtain ⟨va105, ca106, p108, p109, p110, p111, rfl, rfl⟩ := q107
  show SP _ _ _ _ _ _ ⟨_, _ :: _ :: _, _, _⟩
  refine .m rfl rfl rfl (.v (ev_ext rfl rfl rfl) rfl (.v (ev_ext rfl rfl rfl) rfl (.cons (st_alloc rfl rfl rfl rfl zf62 (fun b112 => .cons (st_storea (l' := [.int .i64 va105, .int .i64 ca106]) rfl rfl rfl ty62 rfl rfl rfl .h rfl rfl (.a rfl rfl rfl ?_)))))))
  refine .go idQ (.seq (.region (.v (ev_lda rfl rfl (At.whole 9 rfl) ty29) rfl (.v (ev_lda rfl rfl (At.whole 3 rfl) ty35) rfl (.cons (st_lend0 rfl rfl rfl rfl hbd22 rfl .n (.c (.t (.t (.t (.t .h)))) (.c (.t (.t (.t (.t .h)))) .n)) (fun w_ hw => rscore_ p A100 c101 R97 _ _ (Fr.lend hw 0 rfl (by first | omega | simp only [LL] <;> omega | simp <;> omega)) ((hPB).ext hw.lendx) (RTF.lend hw 1 rfl) hLp.1 (by first | omega | simp only [LL] <;> omega | simp <;> omega) hB2 hS2) (fun v_q115 C_q115 q115 => ?_)))))))
  obtain ⟨va113, ca114, p116, p117, p118, p119, rfl, rfl⟩ := q115
  show SP _ _ _ _ _ _ ⟨_, _ :: _ :: _, _, _⟩
  refine .m rfl rfl rfl (.v (ev_ext rfl rfl rfl) rfl (.v (ev_ext rfl rfl rfl) rfl (.cons (st_alloc rfl rfl rfl rfl zf62 (fun b120 => .cons (st_storea (l' := [.int .i64 va113, .int .i64 ca114]) rfl rfl rfl ty62 rfl rfl rfl .h rfl rfl (.a rfl rfl rfl ?_)))))))
  refine .go idQ (.seq (.region (.v (ev_lda rfl rfl (At.whole 10 rfl) ty29) rfl (.v (ev_lda rfl rfl (At.whole 9 rfl) ty54) rfl (.cons (st_callk rfl rfl rfl rfl hbd23 rfl .n (facts_ p t _ _ hPB) ?_))))))
  refine .m rfl rfl rfl (.v (ev_ext rfl rfl rfl) rfl (.v (ev_ext rfl rfl rfl) rfl (.a rfl rfl rfl (.a rfl rfl rfl (.go idQ ?_)))))
  refine .seq (.region (.v (ev_lda rfl rfl (At.whole 10 rfl) ty29) rfl (.v (ev_lda rfl rfl (At.whole 6 rfl) ty35) rfl (.cons (st_lendk rfl rfl rfl rfl hbd13 rfl .n (.c (.t .h) (.c (.t .h) .n)) (fun w_ hw => rcheck15_ p A100 c101 R97 _ _ (Fr.lend hw 0 rfl (by first | omega | simp only [LL] <;> omega | simp <;> omega)) ((hPB).ext hw.lendx) (RTF.lend hw 1 rfl) hLp.1 (by first | omega | simp only [LL] <;> omega | simp <;> omega) (by first | omega | simp only [LL] <;> omega | simp <;> omega) hB2 hS2 hN2) (.m rfl rfl rfl ?_))))))
  refine .v (ev_ext rfl rfl rfl) rfl (.v (ev_ext rfl rfl rfl) rfl (.a rfl rfl rfl (.a rfl rfl rfl (.go idQ (.seq ?_)))))
  have hsv1 := p108
  have hsc1 := p109
  have hsv2 := p116
  have hsc2 := p117
  have hpt := prio_rng hLp.1 t
  have hbq := congrArg IS.best (hE68 (G.map rc) t)
  refine .region (.m rfl rfl rfl (.v (ev_cmp (r := true) rfl rfl rfl rfl) rfl (.m rfl rfl rfl (.cons (.on rfl rfl rfl (Ev.step (ev_mv rfl rfl) rfl rfl rfl (.cons (.on rfl rfl rfl (Ev.step (ev_cmp (r := true) rfl rfl rfl rfl) rfl rfl rfl ?_)))))))))
  refine .v (ev_pickt rfl rfl rfl rfl) rfl (.m rfl rfl rfl (.cons (.on rfl rfl rfl (Ev.step (ev_mv rfl rfl) rfl rfl rfl (.cons (.on rfl rfl rfl (Ev.step (ev_cmp (r := true) rfl rfl rfl rfl) rfl rfl rfl (.v (ev_pickt rfl rfl rfl rfl) rfl (.m rfl rfl rfl ?_)))))))))
  refine .cons (.on rfl rfl rfl (Ev.step (ev_fa rfl fo62_1 rfl (r := 1) rfl) rfl rfl rfl (.cons (.on rfl rfl rfl (Ev.step (ev_ld1 rfl ty3 rfl (At.own1 0 rfl rfl)) rfl rfl rfl (.cons (.on rfl rfl rfl (Ev.step (ev_fa rfl fo62_1 rfl (r := 1) rfl) rfl rfl rfl (.cons (.on rfl rfl rfl (Ev.step (ev_ld1 rfl ty3 rfl (At.own1 3 rfl rfl)) rfl rfl rfl (.cons (.on rfl rfl rfl (Ev.step (ev_mv rfl rfl) rfl rfl rfl (.cons (.on rfl rfl rfl (Ev.step (ev_add rfl rfl rfl (r := (ca106 + ((insF q64 (G.map rc) t).best))) rfl (by omega) (by omega)) rfl rfl rfl ?_)))))))))))))))))
  refine .cons (.on rfl rfl rfl (Ev.step (ev_cmp rfl rfl rfl rfl) rfl rfl rfl (.v (ev_pickt rfl rfl rfl rfl) rfl (.m rfl rfl rfl (.w (fun _ => ev_fa rfl fo62_0 rfl (r := 0) rfl) rfl (.w (fun hb => ev_ld1 rfl ty3 (lkg rfl hb) (At.own1 0 rfl rfl)) rfl (.w (fun _ => ev_fa rfl fo62_0 rfl (r := 0) rfl) rfl ?_)))))))
  refine .w (fun hb => ev_ld1 rfl ty3 (lkg rfl hb) (At.own1 3 rfl rfl)) rfl (.w (fun _ => ev_mv rfl rfl) rfl (.w (fun hb => have hp := bT bE hb; ev_add rfl (lkg rfl hb) (lkg rfl hb) (r := (va105 + (prioF p t))) rfl (by have _h := hp; omega) (by have _h := hp; omega)) rfl (.w (fun hb => ev_cmp rfl (lkg rfl hb) (lkg rfl hb) rfl) rfl (.v (ev_and rfl rfl rfl rfl) rfl (.a rfl rfl rfl ?_)))))
  exact .go idQ (.ret idQ (ret1 Try.results6 rfl .n ⟨(congrArg Value.bool (by simp only [Bool.and_eq_true, beq_iff_eq, true_and, and_true]; (try (and_intros <;> omega)))), rfl⟩))
 refine st_alloc rfl rfl rfl rfl zf35 (fun b121 => ⟨tt0, (SR.o 1 rfl (st_call rfl rfl rfl rfl hbd11 rfl .n (copied_ p _ _ ((hPB).ext hx_63) hLp.1) (fun v_q123 C_q123 S_q123 wf_q123 q123 hx_q123 => ⟨(ttx hx_q123), ?_⟩)))⟩)
 obtain ⟨⟨q122, p124, p125, rfl⟩, rfl⟩ := q123
 show SR _ _ _ _ _ _ _ _ _ ⟨_, [cel b121 [.slice none 0 0] 35], _, _⟩
 have hE126L : LawP q122 := law_era p125 hLp.1
 have hE126 := fun s_ t_ => ins_e2 p125 (s := s_) (t := t_)
 refine SR.o 4 rfl (st_call0 rfl rfl rfl rfl hbd21 rfl .n (sinsert_ q122 A60 c61 G t _ _ (Fr.ext (Fr.lent (S := S) hR_63 1 rfl (by first | omega | simp only [LL] <;> omega | simp <;> omega)) hx_q123) p124 (((RTF.lent (S := S) hR_63 0 rfl)).ext hx_q123) hE126L (by first | omega | simp only [LL] <;> omega | simp <;> omega) (fun i_ => by have := RBd_gt q_3 (by omega) i_; omega)) (fun v_q129 C_q129 q129 => ⟨(ttx hx_q123), ?_⟩))
 obtain ⟨u127, R128, p130, rfl, rfl⟩ := q129
 show SR _ _ _ _ _ _ _ _ _ ⟨_, _ :: _ :: _, _, _⟩
 refine .know (row_len 0 rfl) (fun hv133 => ?_)
 obtain ⟨A131, c132, rfl, hv133_1, hv133_2⟩ := hv133
 unfold maxLen at hv133_2
 have hI134 := p130
 rw [hE126] at hI134
 refine SR.m 5 rfl rfl rfl rfl (SR.z 6 rfl rfl (ev_ext rfl rfl rfl) (SR.z 7 rfl rfl (ev_ext rfl rfl rfl) (SR.z 8 rfl rfl (ev_ext rfl rfl rfl) (SR.o 10 rfl (st_storea (l' := [.slice A131 R128.length c132]) rfl rfl rfl ty35 rfl rfl rfl (.t (.t .h)) rfl rfl ⟨(ttx hx_q123), (SR.z 11 rfl rfl (ev_as rfl rfl) ?_)⟩)))))
 refine SR.z 12 rfl rfl (ev_as rfl rfl) (SR.thaw hx_q123 (SR.fin (by kernel_rfl) hl_63 hx_63 hR_63 (.c (.c (.c .n))) (SQ.go idQ (.seq (.seq ?_)))))
 refine .region (.m rfl rfl rfl (.v (ev_not rfl rfl) rfl (.go idQ (.condI rfl (bN bV) (fun h135 => ?_) (fun h135 => ?_)))))
 ·
  refine .seq (.region (.m rfl rfl rfl (.v (ev_cmp rfl rfl rfl rfl) rfl (.m rfl rfl rfl (.w (fun _ => ev_fa rfl fo35_0 rfl (r := 0) rfl) rfl ?_)))))
  refine .w (fun hb => ev_ld1 rfl ty33 (lkg rfl hb) (At.own1 0 rfl rfl)) rfl (.w (fun hb => ev_len rfl Try.underlying33 (lkg rfl hb)) rfl (.w (fun hb => ev_cmp rfl (lkg rfl hb) rfl rfl) rfl (.v (ev_and rfl rfl rfl rfl) rfl (.a rfl rfl rfl (.go idQ ?_)))))
  exact .ret idQ (ret1 Try.results6 rfl .n ⟨(congrArg Value.bool (by have hnf := ins_nf (p := p) (s := G.map rc) (t := t) (by rw [← hE126]; exact h135); have hl_ : R128.length = 0 := (by have h_ := congrArg List.length hI134; rw [hnf.2, List.length_map] at h_; exact h_); rw [hE126, hnf.1, hl_]; rfl)), rfl⟩)
 refine .skipgo idQ (.seq ?_)
 have hfd : (insF p (G.map rc) t).found = true := by rw [← hE126]; first | assumption | exact Classical.not_not.1 h135
 obtain ⟨hS1, hS2, hN2, hC2, hV2⟩ := g_end q_2 hfd
 rw [← hI134] at hS2 hN2 hC2 hV2
 have hB1 : ∀ i_ : Int, (gt G i_).vis.length ≤ 50 := fun i_ => by have := RBd_gt q_3 (by omega) i_; omega
 have hB2 : ∀ i_ : Int, (gt R128 i_).vis.length ≤ 50 := fun i_ => by have h_ := RBd_gt (b := 2 * i + 2) (l := R128) (by rw [hI134]; exact (ins_bd q_3 (by omega)).1) (by omega) i_; omega
 have hL2 : R128.length ≤ G.length + 1 := by have h_ := (ins_bd (p := p) (t := t) q_3 (by omega)).2; have h2_ := congrArg List.length hI134; rw [List.length_map] at h2_; rw [List.length_map] at h_; omega
 refine .region (.v (ev_lda rfl rfl (At.whole 8 rfl) ty29) rfl (.v (ev_lda rfl rfl (At.whole 6 rfl) ty35) rfl (.cons (st_lend0 rfl rfl rfl rfl hbd22 rfl .n (.c (.t (.t (.t (.t .h)))) (.c (.t (.t (.t .h))) .n)) (fun w_ hw => rscore_ p A60 c61 G _ _ (Fr.lend hw 0 rfl (by first | omega | simp only [LL] <;> omega | simp <;> omega)) ((hPB).ext hw.lendx) (RTF.lend hw 1 rfl) hLp.1 (by first | omega | simp only [LL] <;> omega | simp <;> omega) hB1 hS1) (fun v_q138 C_q138 q138 => ?_)))))
 obtain ⟨va136, ca137, p139, p140, p141, p142, rfl, rfl⟩ := q138
 show SP _ _ _ _ _ _ ⟨_, _ :: _ :: _, _, _⟩
 refine .m rfl rfl rfl (.v (ev_ext rfl rfl rfl) rfl (.v (ev_ext rfl rfl rfl) rfl (.cons (st_alloc rfl rfl rfl rfl zf62 (fun b143 => .cons (st_storea (l' := [.int .i64 va136, .int .i64 ca137]) rfl rfl rfl ty62 rfl rfl rfl .h rfl rfl (.a rfl rfl rfl ?_)))))))
 refine .go idQ (.seq (.region (.v (ev_lda rfl rfl (At.whole 9 rfl) ty29) rfl (.v (ev_lda rfl rfl (At.whole 3 rfl) ty35) rfl (.cons (st_lend0 rfl rfl rfl rfl hbd22 rfl .n (.c (.t (.t (.t (.t .h)))) (.c (.t (.t (.t (.t .h)))) .n)) (fun w_ hw => rscore_ p A131 c132 R128 _ _ (Fr.lend hw 0 rfl (by first | omega | simp only [LL] <;> omega | simp <;> omega)) ((hPB).ext hw.lendx) (RTF.lend hw 1 rfl) hLp.1 (by first | omega | simp only [LL] <;> omega | simp <;> omega) hB2 hS2) (fun v_q146 C_q146 q146 => ?_)))))))
 obtain ⟨va144, ca145, p147, p148, p149, p150, rfl, rfl⟩ := q146
 show SP _ _ _ _ _ _ ⟨_, _ :: _ :: _, _, _⟩
 refine .m rfl rfl rfl (.v (ev_ext rfl rfl rfl) rfl (.v (ev_ext rfl rfl rfl) rfl (.cons (st_alloc rfl rfl rfl rfl zf62 (fun b151 => .cons (st_storea (l' := [.int .i64 va144, .int .i64 ca145]) rfl rfl rfl ty62 rfl rfl rfl .h rfl rfl (.a rfl rfl rfl ?_)))))))
 refine .go idQ (.seq (.region (.v (ev_lda rfl rfl (At.whole 10 rfl) ty29) rfl (.v (ev_lda rfl rfl (At.whole 9 rfl) ty54) rfl (.cons (st_callk rfl rfl rfl rfl hbd23 rfl .n (facts_ p t _ _ hPB) ?_))))))
 refine .m rfl rfl rfl (.v (ev_ext rfl rfl rfl) rfl (.v (ev_ext rfl rfl rfl) rfl (.a rfl rfl rfl (.a rfl rfl rfl (.go idQ ?_)))))
 refine .seq (.region (.v (ev_lda rfl rfl (At.whole 10 rfl) ty29) rfl (.v (ev_lda rfl rfl (At.whole 6 rfl) ty35) rfl (.cons (st_lendk rfl rfl rfl rfl hbd13 rfl .n (.c (.t .h) (.c (.t .h) .n)) (fun w_ hw => rcheck15_ p A131 c132 R128 _ _ (Fr.lend hw 0 rfl (by first | omega | simp only [LL] <;> omega | simp <;> omega)) ((hPB).ext hw.lendx) (RTF.lend hw 1 rfl) hLp.1 (by first | omega | simp only [LL] <;> omega | simp <;> omega) (by first | omega | simp only [LL] <;> omega | simp <;> omega) hB2 hS2 hN2) (.m rfl rfl rfl ?_))))))
 refine .v (ev_ext rfl rfl rfl) rfl (.v (ev_ext rfl rfl rfl) rfl (.a rfl rfl rfl (.a rfl rfl rfl (.go idQ (.seq ?_)))))
 have hsv1 := p139
 have hsc1 := p140
 have hsv2 := p147
 have hsc2 := p148
 have hpt := prio_rng hLp.1 t
 have hbq := congrArg IS.best (hE126 (G.map rc) t)
 refine .region (.m rfl rfl rfl (.v (ev_cmp (r := true) rfl rfl rfl rfl) rfl (.m rfl rfl rfl (.cons (.on rfl rfl rfl (Ev.step (ev_mv rfl rfl) rfl rfl rfl (.cons (.on rfl rfl rfl (Ev.step (ev_cmp (r := true) rfl rfl rfl rfl) rfl rfl rfl ?_)))))))))
 refine .v (ev_pickt rfl rfl rfl rfl) rfl (.m rfl rfl rfl (.cons (.on rfl rfl rfl (Ev.step (ev_mv rfl rfl) rfl rfl rfl (.cons (.on rfl rfl rfl (Ev.step (ev_cmp (r := true) rfl rfl rfl rfl) rfl rfl rfl (.v (ev_pickt rfl rfl rfl rfl) rfl (.m rfl rfl rfl ?_)))))))))
 refine .cons (.on rfl rfl rfl (Ev.step (ev_fa rfl fo62_1 rfl (r := 1) rfl) rfl rfl rfl (.cons (.on rfl rfl rfl (Ev.step (ev_ld1 rfl ty3 rfl (At.own1 0 rfl rfl)) rfl rfl rfl (.cons (.on rfl rfl rfl (Ev.step (ev_fa rfl fo62_1 rfl (r := 1) rfl) rfl rfl rfl (.cons (.on rfl rfl rfl (Ev.step (ev_ld1 rfl ty3 rfl (At.own1 3 rfl rfl)) rfl rfl rfl (.cons (.on rfl rfl rfl (Ev.step (ev_mv rfl rfl) rfl rfl rfl (.cons (.on rfl rfl rfl (Ev.step (ev_add rfl rfl rfl (r := (ca137 + ((insF q122 (G.map rc) t).best))) rfl (by omega) (by omega)) rfl rfl rfl ?_)))))))))))))))))
 refine .cons (.on rfl rfl rfl (Ev.step (ev_cmp rfl rfl rfl rfl) rfl rfl rfl (.v (ev_pickt rfl rfl rfl rfl) rfl (.m rfl rfl rfl (.w (fun _ => ev_fa rfl fo62_0 rfl (r := 0) rfl) rfl (.w (fun hb => ev_ld1 rfl ty3 (lkg rfl hb) (At.own1 0 rfl rfl)) rfl (.w (fun _ => ev_fa rfl fo62_0 rfl (r := 0) rfl) rfl ?_)))))))
 refine .w (fun hb => ev_ld1 rfl ty3 (lkg rfl hb) (At.own1 3 rfl rfl)) rfl (.w (fun _ => ev_mv rfl rfl) rfl (.w (fun hb => have hp := bT bE hb; ev_add rfl (lkg rfl hb) (lkg rfl hb) (r := (va136 + (prioF p t))) rfl (by have _h := hp; omega) (by have _h := hp; omega)) rfl (.w (fun hb => ev_cmp rfl (lkg rfl hb) (lkg rfl hb) rfl) rfl (.v (ev_and rfl rfl rfl rfl) rfl (.a rfl rfl rfl ?_)))))
 exact .go idQ (.ret idQ (ret1 Try.results6 rfl .n ⟨(congrArg Value.bool (by simp only [Bool.and_eq_true, beq_iff_eq, true_and, and_true]; (try (and_intros <;> omega)))), rfl⟩))
end Go.Proofs.Ytdpmnodiebpjeaa.Sx
namespace Go.SX
open Go Go.RowKit
def TellsW (P : Program) (w : World) (e : TypeId) {α : Type} (E : Enc α) (good : α → Prop) : Prop :=
  ∀ {H : Type} (enc : TypeId × Value → H) (base : Nat) (spare : Nat → Bool) (held : Bool) (n : Nat) (cs : List Value) (y : DataW H × List MemPlace), DataW.trod enc P w base spare held n e cs = some y → (∀ b ∈ y.1.weights P e, b ≤ reachBytes) → ∃ a, cs = E.enc a ∧ good a
section
variable {H : Type} {enc : TypeId × Value → H} {P : Program} {w : World} {base : Nat} {spare : Nat → Bool} {held : Bool}
theorem weightsAll_mem {e : TypeId} {d : DataW H} {b : Nat} : ∀ {l : List (DataW H)}, d ∈ l → b ∈ d.weights P e → b ∈ DataW.weightsAll P e l
  | [], h, _ => by cases h
  | x :: r, h, hb => by
    unfold DataW.weightsAll
    rcases List.mem_cons.1 h with rfl | h
    · exact List.mem_append_left _ hb
    · exact List.mem_append_right _ (weightsAll_mem h hb)
theorem rows_w {α : Type} [Inhabited α] {E : Enc α} {good : α → Prop} {t e : TypeId} {fuel : Nat} {cs : List Value} {x : DataW H × List MemPlace} (ht : P.underlying t = some (.slice e)) (he : P.cellsOf e = E.sz) (hT : TellsW P w e E good) (hbo : 1 ≤ P.bytesOf e)
    (h : DataW.trod enc P w base spare held fuel t cs = some x) (hw : ∀ b ∈ x.1.weights P t, b ≤ reachBytes) :
    ∃ A l cap, cs = [.slice A l.length cap] ∧ Fr E (fun b => b < w.heap.size) w A l ∧ ∀ y ∈ l, good y := by
  rcases DataW.trod_slice ht h with h0 | ⟨a, len, cap, elems, rest, n, hx1, rfl, rfl, hb, hl, hm, hlen, hel, hsp, hns⟩
  · exact ⟨none, [], 0, h0.1, Fr.nil _ _ _ _, by simp⟩
  have hw2 : ∀ b ∈ DataW.weights P t (.slice (elems.map (·.1)) (rest.map (·.1))), b ≤ reachBytes := hw
  have each : ∀ i, i < len → ∃ x : α, good x ∧ w.cells? base (a.add (i * E.sz)) E.sz = some (E.enc x) := by
    intro i hi
    have h1 := hel i hi
    have h2 : elems[i]? = some (elems[i]'(by omega)) := List.getElem?_eq_getElem (by omega)
    rw [h2, he, Option.bind_eq_some_iff] at h1
    obtain ⟨cs', h3, h4⟩ := h1
    obtain ⟨x, rfl, hg⟩ := hT enc base spare held n cs' _ h4 (fun b hb => hw2 b (by
      unfold DataW.weights
      rw [ht]
      exact List.mem_cons_of_mem _ (List.mem_append_left _ (weightsAll_mem (List.mem_map_of_mem (List.getElem_mem (by omega))) hb))))
    exact ⟨x, hg, h3⟩
  let f : Nat → α := fun i => if hi : i < len then (each i hi).choose else default
  have hf : ∀ i (hi : i < len), f i = (each i hi).choose := fun i hi => dif_pos hi
  have hbig : len ≤ 140737488355328 := by
    have h1 := hw2 ((elems.map (·.1)).length + (rest.map (·.1)).length |>.mul (P.bytesOf e)) (by unfold DataW.weights; rw [ht]; exact List.mem_cons_self ..)
    have h11 : elems.length * 1 ≤ ((elems.map (·.1)).length + (rest.map (·.1)).length) * P.bytesOf e := Nat.mul_le_mul (by simp) hbo
    have h12 : reachBytes < 2 ^ 47 := reachBytes_lt
    have h13 : ((elems.map (·.1)).length + (rest.map (·.1)).length) * P.bytesOf e ≤ reachBytes := h1
    omega
  have hgood : ∀ x ∈ (List.range len).map f, good x := by
    intro x hx
    obtain ⟨i, hi, rfl⟩ := List.mem_map.1 hx
    have hlt : i < len := by simpa using hi
    rw [hf i hlt]
    exact (each i hlt).choose_spec.1
  refine ⟨some a, (List.range len).map f, cap, by simp, ⟨by simpa using hbig, ?_⟩, hgood⟩
  rcases Nat.eq_zero_or_pos len with h0 | h0
  · subst h0; exact .inl (by simp)
  have hat : ∀ i, i < len → ∀ j u, (E.enc (f i))[j]? = some u → w.cell? (a.add (i * E.sz + j)) = some u := by
    intro i hi j u hj
    obtain ⟨_, h1, h2⟩ := World.cells?_some (each i hi).choose_spec.2
    rw [← hf i hi] at h1 h2
    have hjs : j < E.sz := by have := (List.getElem?_eq_some_iff.1 hj).1; omega
    rw [← add_zero_add, h2 j hjs, hj]
  have hpos := E.pos
  have hspot : a.spot = none := by
    have h1 : (E.enc (f 0)).length = E.sz := E.len _
    have h2 := hat 0 h0 0 ((E.enc (f 0))[0]'(by omega)) (List.getElem?_eq_getElem (by omega))
    have h3 := World.cell?_spot h2
    simpa [Addr.add] using h3
  obtain ⟨b, off, spot⟩ := a
  simp only at hspot
  subst hspot
  have hall : ∀ i x, ((List.range len).map f)[i]? = some x → At w b (off + i * E.sz) (E.enc x) := fun i x hx j u hu => by
    simp only [List.getElem?_map, Option.map_eq_some_iff] at hx
    obtain ⟨i', hi', rfl⟩ := hx
    have hi2 := List.getElem?_eq_some_iff.1 hi'
    obtain ⟨hlt, heq⟩ := hi2
    simp at heq hlt
    subst heq
    have := hat i hlt j u hu
    rw [show off + i * E.sz + j = off + (i * E.sz + j) from by omega]
    have e1 : (⟨b, off, none⟩ : Addr).add (i * E.sz + j) = ⟨b, off + (i * E.sz + j), none⟩ := by
      unfold Addr.add
      split
      · rename_i h0; rw [h0]; rfl
      · rfl
    rwa [e1] at this
  refine .inr ⟨b, off, rfl, ?_, hall⟩
  have hx := hall 0 (f 0) (by simp [h0])
  have hl1 := E.len (f 0)
  have := hx 0 ((E.enc (f 0))[0]'(by omega)) (List.getElem?_eq_getElem (by omega))
  unfold World.cell? at this
  cases hb1 : w.heap[b]? with
  | none => simp only [hb1] at this; cases this
  | some o => exact lt_of_some hb1
theorem struct_w {t : TypeId} {fuel : Nat} {cs : List Value} {x : DataW H × List MemPlace} {fs : Array Field} (ht : P.underlying t = some (.struct fs)) (h : DataW.trod enc P w base spare held fuel t cs = some x) (hw : ∀ b ∈ x.1.weights P t, b ≤ reachBytes) :
    ∃ n, cs.length = P.cellsOf t ∧ ∀ (i : Nat) (f : Field), fs[i]? = some f → ∃ y : DataW H × List MemPlace, DataW.trod enc P w base spare held n f.type ((cs.drop f.offset).take (P.cellsOf f.type)) = some y ∧ ∀ b ∈ y.1.weights P f.type, b ≤ reachBytes := by
  obtain ⟨xs, n, _, rfl, hl, hx, hf⟩ := DataW.trod_struct ht h
  refine ⟨n, hl, fun i f hi => ?_⟩
  have h1 := hf i f hi
  have hlt : i < fs.size := (Array.getElem?_eq_some_iff.1 hi).1
  rw [List.getElem?_eq_getElem (by omega)] at h1
  refine ⟨xs[i]'(by omega), h1, fun b hb => hw b ?_⟩
  show b ∈ DataW.weights P t (.agg (xs.map (·.1)))
  unfold DataW.weights
  rw [ht]
  exact DataW.weights_mem_each (j := i) (d := (xs[i]'(by omega)).1) (by simp [hi]) (by simp [List.getElem?_eq_getElem (show i < xs.length by omega)]) b hb
theorem int_w {e : TypeId} (he : P.underlying e = some (.int .i64)) : TellsW P w e eZ (fun _ => True) := fun enc base spare held n cs y hy _ => by
  obtain ⟨m, rfl, _, _⟩ := DataW.trod_int he hy
  exact ⟨m, rfl, trivial⟩
end
end Go.SX
set_option maxRecDepth 20000
namespace Go.Proofs.Ytdpmnodiebpjeaa.Sx
open Go Go.SX Go.Proofs
theorem cO3 : Try.prog.cellsOf 3 = 1 := by kernel_rfl
theorem cO4 : Try.prog.cellsOf 4 = 1 := by kernel_rfl
theorem cO22 : Try.prog.cellsOf 22 = 1 := by kernel_rfl
theorem cO24 : Try.prog.cellsOf 24 = 2 := by kernel_rfl
theorem cO25 : Try.prog.cellsOf 25 = 1 := by kernel_rfl
theorem cO26 : Try.prog.cellsOf 26 = 1 := by kernel_rfl
theorem cO27 : Try.prog.cellsOf 27 = 1 := by kernel_rfl
theorem cO29 : Try.prog.cellsOf 29 = 8 := by kernel_rfl
theorem cO54 : Try.prog.cellsOf 54 = 2 := by kernel_rfl
theorem cO65 : Try.prog.cellsOf 65 = 1 := by kernel_rfl
theorem cO72 : Try.prog.cellsOf 72 = 2 := by kernel_rfl
theorem cO73 : Try.prog.cellsOf 73 = 1 := by kernel_rfl
theorem cO75 : Try.prog.cellsOf 75 = 11 := by kernel_rfl
theorem cO76 : Try.prog.cellsOf 76 = 1 := by kernel_rfl
theorem cO78 : Try.prog.cellsOf 78 = 2 := by kernel_rfl
theorem cO81 : Try.prog.cellsOf 81 = 3 := by kernel_rfl
theorem cO83 : Try.prog.cellsOf 83 = 7 := by kernel_rfl
theorem cO86 : Try.prog.cellsOf 86 = 9 := by kernel_rfl
theorem wf_u64 {n : Int} (h : (Lit.int .u64 n).wf = true) : 0 ≤ n := by simp [Lit.wf, IntKind.min, IntKind.max, IntKind.signed, IntKind.bits] at h; omega
def eSO : Enc SO where
 sz := 5 - 2
 enc x := [.int .i64 x.pl, .int .i64 x.srv, .slice x.soA x.sws.length x.soc]
 len _ := rfl
 one x u hu := by simp at hu; rcases hu with rfl | rfl | rfl <;> rfl
 pos := by decide
structure MX where
 n : Int
 l : List Int
 A : Option Addr
 c : Nat
def eMX : Enc MX where
 sz := 2
 enc x := [.int .i64 x.n, .slice x.A x.l.length x.c]
 len _ := rfl
 one x u hu := by simp at hu; rcases hu with rfl | rfl <;> rfl
 pos := by decide
def ePB : Enc PB where
 sz := 8
 enc p := [.int .i64 p.dims, .int .i64 p.tn, .slice p.ptA p.time.length p.ptc, .int .i64 p.dn, .slice p.pdA p.dist.length p.pdc, .slice p.pvA p.vehs.length p.pvc, .slice p.pjA p.jobs.length p.pjc, .slice p.psA p.ships.length p.psc]
 len _ := rfl
 one x u hu := by simp at hu; rcases hu with rfl | rfl | rfl | rfl | rfl | rfl | rfl | rfl <;> rfl
 pos := by decide
section
variable {w : World}
abbrev HS (w : World) : Nat → Prop := fun b => b < w.heap.size
theorem tw72 : TellsW Try.prog w 72 eWN (fun _ => True) := by
 intro H enc base spare held n cs y h hw
 obtain ⟨k, hl, hf⟩ := struct_w Try.underlying72 h hw
 rw [cO72] at hl
 match cs, hl with
 | [v0, v1], _ =>
  obtain ⟨y0, h0, w0⟩ := hf 0 _ rfl
  replace h0 : DataW.trod enc Try.prog w base spare held k 3 (([v0, v1].drop 0).take (Try.prog.cellsOf 3)) = some y0 := h0
  rw [cO3] at h0
  replace h0 : DataW.trod enc Try.prog w base spare held k 3 [v0] = some y0 := h0
  obtain ⟨y1, h1, w1⟩ := hf 1 _ rfl
  replace h1 : DataW.trod enc Try.prog w base spare held k 3 (([v0, v1].drop 1).take (Try.prog.cellsOf 3)) = some y1 := h1
  rw [cO3] at h1
  replace h1 : DataW.trod enc Try.prog w base spare held k 3 [v1] = some y1 := h1
  obtain ⟨m0, e0, _, wf0⟩ := DataW.trod_int Try.underlying3 h0
  simp only [List.cons.injEq, and_true] at e0
  subst e0
  obtain ⟨m1, e1, _, wf1⟩ := DataW.trod_int Try.underlying3 h1
  simp only [List.cons.injEq, and_true] at e1
  subst e1
  exact ⟨⟨m0, m1⟩, rfl, trivial⟩
theorem tw78 : TellsW Try.prog w 78 eBK (fun b => BKF (HS w) w b) := by
 intro H enc base spare held n cs y h hw
 obtain ⟨k, hl, hf⟩ := struct_w Try.underlying78 h hw
 rw [cO78] at hl
 match cs, hl with
 | [v0, v1], _ =>
  obtain ⟨y0, h0, w0⟩ := hf 0 _ rfl
  replace h0 : DataW.trod enc Try.prog w base spare held k 76 (([v0, v1].drop 0).take (Try.prog.cellsOf 76)) = some y0 := h0
  rw [cO76] at h0
  replace h0 : DataW.trod enc Try.prog w base spare held k 76 [v0] = some y0 := h0
  obtain ⟨y1, h1, w1⟩ := hf 1 _ rfl
  replace h1 : DataW.trod enc Try.prog w base spare held k 3 (([v0, v1].drop 1).take (Try.prog.cellsOf 3)) = some y1 := h1
  rw [cO3] at h1
  replace h1 : DataW.trod enc Try.prog w base spare held k 3 [v1] = some y1 := h1
  obtain ⟨m1, e1, _, wf1⟩ := DataW.trod_int Try.underlying3 h1
  simp only [List.cons.injEq, and_true] at e1
  subst e1
  obtain ⟨AW, lW, cW, elW, frW, gdW⟩ := rows_w (E := eWN) Try.underlying76 cO72 tw72 (by decide +kernel) h0 w0
  simp only [List.cons.injEq, and_true] at elW
  subst elW
  exact ⟨⟨lW, m1, AW, cW⟩, rfl, frW⟩
theorem tw75 : TellsW Try.prog w 75 eVH (fun v => VHF (HS w) w v ∧ 0 ≤ v.vsk) := by
 intro H enc base spare held n cs y h hw
 obtain ⟨k, hl, hf⟩ := struct_w Try.underlying75 h hw
 rw [cO75] at hl
 match cs, hl with
 | [v0, v1, v2, v3, v4, v5, v6, v7, v8, v9, v10], _ =>
  obtain ⟨y0, h0, w0⟩ := hf 0 _ rfl
  replace h0 : DataW.trod enc Try.prog w base spare held k 3 (([v0, v1, v2, v3, v4, v5, v6, v7, v8, v9, v10].drop 0).take (Try.prog.cellsOf 3)) = some y0 := h0
  rw [cO3] at h0
  replace h0 : DataW.trod enc Try.prog w base spare held k 3 [v0] = some y0 := h0
  obtain ⟨y1, h1, w1⟩ := hf 1 _ rfl
  replace h1 : DataW.trod enc Try.prog w base spare held k 3 (([v0, v1, v2, v3, v4, v5, v6, v7, v8, v9, v10].drop 1).take (Try.prog.cellsOf 3)) = some y1 := h1
  rw [cO3] at h1
  replace h1 : DataW.trod enc Try.prog w base spare held k 3 [v1] = some y1 := h1
  obtain ⟨y2, h2, w2⟩ := hf 2 _ rfl
  replace h2 : DataW.trod enc Try.prog w base spare held k 22 (([v0, v1, v2, v3, v4, v5, v6, v7, v8, v9, v10].drop 2).take (Try.prog.cellsOf 22)) = some y2 := h2
  rw [cO22] at h2
  replace h2 : DataW.trod enc Try.prog w base spare held k 22 [v2] = some y2 := h2
  obtain ⟨y3, h3, w3⟩ := hf 3 _ rfl
  replace h3 : DataW.trod enc Try.prog w base spare held k 65 (([v0, v1, v2, v3, v4, v5, v6, v7, v8, v9, v10].drop 3).take (Try.prog.cellsOf 65)) = some y3 := h3
  rw [cO65] at h3
  replace h3 : DataW.trod enc Try.prog w base spare held k 65 [v3] = some y3 := h3
  obtain ⟨y4, h4, w4⟩ := hf 4 _ rfl
  replace h4 : DataW.trod enc Try.prog w base spare held k 72 (([v0, v1, v2, v3, v4, v5, v6, v7, v8, v9, v10].drop 4).take (Try.prog.cellsOf 72)) = some y4 := h4
  rw [cO72] at h4
  replace h4 : DataW.trod enc Try.prog w base spare held k 72 [v4, v5] = some y4 := h4
  obtain ⟨y5, h5, w5⟩ := hf 5 _ rfl
  replace h5 : DataW.trod enc Try.prog w base spare held k 3 (([v0, v1, v2, v3, v4, v5, v6, v7, v8, v9, v10].drop 6).take (Try.prog.cellsOf 3)) = some y5 := h5
  rw [cO3] at h5
  replace h5 : DataW.trod enc Try.prog w base spare held k 3 [v6] = some y5 := h5
  obtain ⟨y6, h6, w6⟩ := hf 6 _ rfl
  replace h6 : DataW.trod enc Try.prog w base spare held k 3 (([v0, v1, v2, v3, v4, v5, v6, v7, v8, v9, v10].drop 7).take (Try.prog.cellsOf 3)) = some y6 := h6
  rw [cO3] at h6
  replace h6 : DataW.trod enc Try.prog w base spare held k 3 [v7] = some y6 := h6
  obtain ⟨y7, h7, w7⟩ := hf 7 _ rfl
  replace h7 : DataW.trod enc Try.prog w base spare held k 3 (([v0, v1, v2, v3, v4, v5, v6, v7, v8, v9, v10].drop 8).take (Try.prog.cellsOf 3)) = some y7 := h7
  rw [cO3] at h7
  replace h7 : DataW.trod enc Try.prog w base spare held k 3 [v8] = some y7 := h7
  obtain ⟨y8, h8, w8⟩ := hf 8 _ rfl
  replace h8 : DataW.trod enc Try.prog w base spare held k 3 (([v0, v1, v2, v3, v4, v5, v6, v7, v8, v9, v10].drop 9).take (Try.prog.cellsOf 3)) = some y8 := h8
  rw [cO3] at h8
  replace h8 : DataW.trod enc Try.prog w base spare held k 3 [v9] = some y8 := h8
  obtain ⟨y9, h9, w9⟩ := hf 9 _ rfl
  replace h9 : DataW.trod enc Try.prog w base spare held k 73 (([v0, v1, v2, v3, v4, v5, v6, v7, v8, v9, v10].drop 10).take (Try.prog.cellsOf 73)) = some y9 := h9
  rw [cO73] at h9
  replace h9 : DataW.trod enc Try.prog w base spare held k 73 [v10] = some y9 := h9
  obtain ⟨m0, e0, _, wf0⟩ := DataW.trod_int Try.underlying3 h0
  simp only [List.cons.injEq, and_true] at e0
  subst e0
  obtain ⟨m1, e1, _, wf1⟩ := DataW.trod_int Try.underlying3 h1
  simp only [List.cons.injEq, and_true] at e1
  subst e1
  obtain ⟨m3, e3, _, wf3⟩ := DataW.trod_int Try.underlying65 h3
  simp only [List.cons.injEq, and_true] at e3
  subst e3
  obtain ⟨m5, e5, _, wf5⟩ := DataW.trod_int Try.underlying3 h5
  simp only [List.cons.injEq, and_true] at e5
  subst e5
  obtain ⟨m6, e6, _, wf6⟩ := DataW.trod_int Try.underlying3 h6
  simp only [List.cons.injEq, and_true] at e6
  subst e6
  obtain ⟨m7, e7, _, wf7⟩ := DataW.trod_int Try.underlying3 h7
  simp only [List.cons.injEq, and_true] at e7
  subst e7
  obtain ⟨m8, e8, _, wf8⟩ := DataW.trod_int Try.underlying3 h8
  simp only [List.cons.injEq, and_true] at e8
  subst e8
  obtain ⟨aS, eaS, gaS⟩ := tw72 enc base spare held k _ _ h4 w4
  simp only [eWN, List.cons.injEq, and_true] at eaS
  obtain ⟨rfl, rfl⟩ := eaS
  obtain ⟨AC, lC, cC, elC, frC, gdC⟩ := rows_w (E := eZ) Try.underlying22 cO3 (int_w Try.underlying3) (by decide +kernel) h2 w2
  simp only [List.cons.injEq, and_true] at elC
  subst elC
  obtain ⟨AB, lB, cB, elB, frB, gdB⟩ := rows_w (E := eBK) Try.underlying73 cO78 tw78 (by decide +kernel) h9 w9
  simp only [List.cons.injEq, and_true] at elB
  subst elB
  exact ⟨⟨m0, m1, lC, m3, aS.lo, aS.hi, m5, m6, m7, m8, lB, AC, cC, AB, cB⟩, rfl, ⟨frC, frB, gt_all (Φ := BKF (HS w) w) gdB (Fr.nil _ _ _ _)⟩, wf_u64 wf3⟩
theorem tw81 : TellsW Try.prog w 81 eSO (fun s => SOF (HS w) w s) := by
 intro H enc base spare held n cs y h hw
 obtain ⟨k, hl, hf⟩ := struct_w Try.underlying81 h hw
 rw [cO81] at hl
 match cs, hl with
 | [v0, v1, v2], _ =>
  obtain ⟨y0, h0, w0⟩ := hf 0 _ rfl
  replace h0 : DataW.trod enc Try.prog w base spare held k 3 (([v0, v1, v2].drop 0).take (Try.prog.cellsOf 3)) = some y0 := h0
  rw [cO3] at h0
  replace h0 : DataW.trod enc Try.prog w base spare held k 3 [v0] = some y0 := h0
  obtain ⟨y1, h1, w1⟩ := hf 1 _ rfl
  replace h1 : DataW.trod enc Try.prog w base spare held k 3 (([v0, v1, v2].drop 1).take (Try.prog.cellsOf 3)) = some y1 := h1
  rw [cO3] at h1
  replace h1 : DataW.trod enc Try.prog w base spare held k 3 [v1] = some y1 := h1
  obtain ⟨y2, h2, w2⟩ := hf 2 _ rfl
  replace h2 : DataW.trod enc Try.prog w base spare held k 76 (([v0, v1, v2].drop 2).take (Try.prog.cellsOf 76)) = some y2 := h2
  rw [cO76] at h2
  replace h2 : DataW.trod enc Try.prog w base spare held k 76 [v2] = some y2 := h2
  obtain ⟨m0, e0, _, wf0⟩ := DataW.trod_int Try.underlying3 h0
  simp only [List.cons.injEq, and_true] at e0
  subst e0
  obtain ⟨m1, e1, _, wf1⟩ := DataW.trod_int Try.underlying3 h1
  simp only [List.cons.injEq, and_true] at e1
  subst e1
  obtain ⟨AW, lW, cW, elW, frW, gdW⟩ := rows_w (E := eWN) Try.underlying76 cO72 tw72 (by decide +kernel) h2 w2
  simp only [List.cons.injEq, and_true] at elW
  subst elW
  exact ⟨⟨m0, m1, lW, AW, cW⟩, rfl, frW⟩
theorem tw83 : TellsW Try.prog w 83 eJB (fun v => JBF (HS w) w v ∧ 0 ≤ v.jsk) := by
 intro H enc base spare held n cs y h hw
 obtain ⟨k, hl, hf⟩ := struct_w Try.underlying83 h hw
 rw [cO83] at hl
 match cs, hl with
 | [v0, v1, v2, v3, v4, v5, v6], _ =>
  obtain ⟨y0, h0, w0⟩ := hf 0 _ rfl
  replace h0 : DataW.trod enc Try.prog w base spare held k 81 (([v0, v1, v2, v3, v4, v5, v6].drop 0).take (Try.prog.cellsOf 81)) = some y0 := h0
  rw [cO81] at h0
  replace h0 : DataW.trod enc Try.prog w base spare held k 81 [v0, v1, v2] = some y0 := h0
  obtain ⟨y1, h1, w1⟩ := hf 1 _ rfl
  replace h1 : DataW.trod enc Try.prog w base spare held k 22 (([v0, v1, v2, v3, v4, v5, v6].drop 3).take (Try.prog.cellsOf 22)) = some y1 := h1
  rw [cO22] at h1
  replace h1 : DataW.trod enc Try.prog w base spare held k 22 [v3] = some y1 := h1
  obtain ⟨y2, h2, w2⟩ := hf 2 _ rfl
  replace h2 : DataW.trod enc Try.prog w base spare held k 22 (([v0, v1, v2, v3, v4, v5, v6].drop 4).take (Try.prog.cellsOf 22)) = some y2 := h2
  rw [cO22] at h2
  replace h2 : DataW.trod enc Try.prog w base spare held k 22 [v4] = some y2 := h2
  obtain ⟨y3, h3, w3⟩ := hf 3 _ rfl
  replace h3 : DataW.trod enc Try.prog w base spare held k 65 (([v0, v1, v2, v3, v4, v5, v6].drop 5).take (Try.prog.cellsOf 65)) = some y3 := h3
  rw [cO65] at h3
  replace h3 : DataW.trod enc Try.prog w base spare held k 65 [v5] = some y3 := h3
  obtain ⟨y4, h4, w4⟩ := hf 4 _ rfl
  replace h4 : DataW.trod enc Try.prog w base spare held k 3 (([v0, v1, v2, v3, v4, v5, v6].drop 6).take (Try.prog.cellsOf 3)) = some y4 := h4
  rw [cO3] at h4
  replace h4 : DataW.trod enc Try.prog w base spare held k 3 [v6] = some y4 := h4
  obtain ⟨m3, e3, _, wf3⟩ := DataW.trod_int Try.underlying65 h3
  simp only [List.cons.injEq, and_true] at e3
  subst e3
  obtain ⟨m4, e4, _, wf4⟩ := DataW.trod_int Try.underlying3 h4
  simp only [List.cons.injEq, and_true] at e4
  subst e4
  obtain ⟨aS, eaS, gaS⟩ := tw81 enc base spare held k _ _ h0 w0
  simp only [eSO, List.cons.injEq, and_true] at eaS
  obtain ⟨rfl, rfl, rfl⟩ := eaS
  obtain ⟨AD, lD, cD, elD, frD, gdD⟩ := rows_w (E := eZ) Try.underlying22 cO3 (int_w Try.underlying3) (by decide +kernel) h1 w1
  simp only [List.cons.injEq, and_true] at elD
  subst elD
  obtain ⟨AK, lK, cK, elK, frK, gdK⟩ := rows_w (E := eZ) Try.underlying22 cO3 (int_w Try.underlying3) (by decide +kernel) h2 w2
  simp only [List.cons.injEq, and_true] at elK
  subst elK
  exact ⟨⟨aS, lD, lK, m3, m4, AD, cD, AK, cK⟩, rfl, ⟨frD, frK, gaS⟩, wf_u64 wf3⟩
theorem tw86 : TellsW Try.prog w 86 eSH (fun v => SHF (HS w) w v ∧ 0 ≤ v.ssk) := by
 intro H enc base spare held n cs y h hw
 obtain ⟨k, hl, hf⟩ := struct_w Try.underlying86 h hw
 rw [cO86] at hl
 match cs, hl with
 | [v0, v1, v2, v3, v4, v5, v6, v7, v8], _ =>
  obtain ⟨y0, h0, w0⟩ := hf 0 _ rfl
  replace h0 : DataW.trod enc Try.prog w base spare held k 81 (([v0, v1, v2, v3, v4, v5, v6, v7, v8].drop 0).take (Try.prog.cellsOf 81)) = some y0 := h0
  rw [cO81] at h0
  replace h0 : DataW.trod enc Try.prog w base spare held k 81 [v0, v1, v2] = some y0 := h0
  obtain ⟨y1, h1, w1⟩ := hf 1 _ rfl
  replace h1 : DataW.trod enc Try.prog w base spare held k 81 (([v0, v1, v2, v3, v4, v5, v6, v7, v8].drop 3).take (Try.prog.cellsOf 81)) = some y1 := h1
  rw [cO81] at h1
  replace h1 : DataW.trod enc Try.prog w base spare held k 81 [v3, v4, v5] = some y1 := h1
  obtain ⟨y2, h2, w2⟩ := hf 2 _ rfl
  replace h2 : DataW.trod enc Try.prog w base spare held k 22 (([v0, v1, v2, v3, v4, v5, v6, v7, v8].drop 6).take (Try.prog.cellsOf 22)) = some y2 := h2
  rw [cO22] at h2
  replace h2 : DataW.trod enc Try.prog w base spare held k 22 [v6] = some y2 := h2
  obtain ⟨y3, h3, w3⟩ := hf 3 _ rfl
  replace h3 : DataW.trod enc Try.prog w base spare held k 65 (([v0, v1, v2, v3, v4, v5, v6, v7, v8].drop 7).take (Try.prog.cellsOf 65)) = some y3 := h3
  rw [cO65] at h3
  replace h3 : DataW.trod enc Try.prog w base spare held k 65 [v7] = some y3 := h3
  obtain ⟨y4, h4, w4⟩ := hf 4 _ rfl
  replace h4 : DataW.trod enc Try.prog w base spare held k 3 (([v0, v1, v2, v3, v4, v5, v6, v7, v8].drop 8).take (Try.prog.cellsOf 3)) = some y4 := h4
  rw [cO3] at h4
  replace h4 : DataW.trod enc Try.prog w base spare held k 3 [v8] = some y4 := h4
  obtain ⟨m3, e3, _, wf3⟩ := DataW.trod_int Try.underlying65 h3
  simp only [List.cons.injEq, and_true] at e3
  subst e3
  obtain ⟨m4, e4, _, wf4⟩ := DataW.trod_int Try.underlying3 h4
  simp only [List.cons.injEq, and_true] at e4
  subst e4
  obtain ⟨aP, eaP, gaP⟩ := tw81 enc base spare held k _ _ h0 w0
  simp only [eSO, List.cons.injEq, and_true] at eaP
  obtain ⟨rfl, rfl, rfl⟩ := eaP
  obtain ⟨aD, eaD, gaD⟩ := tw81 enc base spare held k _ _ h1 w1
  simp only [eSO, List.cons.injEq, and_true] at eaD
  obtain ⟨rfl, rfl, rfl⟩ := eaD
  obtain ⟨AM, lM, cM, elM, frM, gdM⟩ := rows_w (E := eZ) Try.underlying22 cO3 (int_w Try.underlying3) (by decide +kernel) h2 w2
  simp only [List.cons.injEq, and_true] at elM
  subst elM
  exact ⟨⟨aP, aD, lM, m3, m4, AM, cM⟩, rfl, ⟨frM, gaP, gaD⟩, wf_u64 wf3⟩
theorem tw24 : TellsW Try.prog w 24 eMX (fun v => Fr eZ (HS w) w v.A v.l) := by
 intro H enc base spare held n cs y h hw
 obtain ⟨k, hl, hf⟩ := struct_w Try.underlying24 h hw
 rw [cO24] at hl
 match cs, hl with
 | [v0, v1], _ =>
  obtain ⟨y0, h0, w0⟩ := hf 0 _ rfl
  replace h0 : DataW.trod enc Try.prog w base spare held k 3 (([v0, v1].drop 0).take (Try.prog.cellsOf 3)) = some y0 := h0
  rw [cO3] at h0
  replace h0 : DataW.trod enc Try.prog w base spare held k 3 [v0] = some y0 := h0
  obtain ⟨y1, h1, w1⟩ := hf 1 _ rfl
  replace h1 : DataW.trod enc Try.prog w base spare held k 22 (([v0, v1].drop 1).take (Try.prog.cellsOf 22)) = some y1 := h1
  rw [cO22] at h1
  replace h1 : DataW.trod enc Try.prog w base spare held k 22 [v1] = some y1 := h1
  obtain ⟨m0, e0, _, wf0⟩ := DataW.trod_int Try.underlying3 h0
  simp only [List.cons.injEq, and_true] at e0
  subst e0
  obtain ⟨AC, lC, cC, elC, frC, gdC⟩ := rows_w (E := eZ) Try.underlying22 cO3 (int_w Try.underlying3) (by decide +kernel) h1 w1
  simp only [List.cons.injEq, and_true] at elC
  subst elC
  exact ⟨⟨m0, lC, AC, cC⟩, rfl, frC⟩
theorem tw29 : TellsW Try.prog w 29 ePB (fun p => PBF (HS w) w p ∧ SkU p) := by
 intro H enc base spare held n cs y h hw
 obtain ⟨k, hl, hf⟩ := struct_w Try.underlying29 h hw
 rw [cO29] at hl
 match cs, hl with
 | [v0, v1, v2, v3, v4, v5, v6, v7], _ =>
  obtain ⟨y0, h0, w0⟩ := hf 0 _ rfl
  replace h0 : DataW.trod enc Try.prog w base spare held k 3 (([v0, v1, v2, v3, v4, v5, v6, v7].drop 0).take (Try.prog.cellsOf 3)) = some y0 := h0
  rw [cO3] at h0
  replace h0 : DataW.trod enc Try.prog w base spare held k 3 [v0] = some y0 := h0
  obtain ⟨y1, h1, w1⟩ := hf 1 _ rfl
  replace h1 : DataW.trod enc Try.prog w base spare held k 24 (([v0, v1, v2, v3, v4, v5, v6, v7].drop 1).take (Try.prog.cellsOf 24)) = some y1 := h1
  rw [cO24] at h1
  replace h1 : DataW.trod enc Try.prog w base spare held k 24 [v1, v2] = some y1 := h1
  obtain ⟨y2, h2, w2⟩ := hf 2 _ rfl
  replace h2 : DataW.trod enc Try.prog w base spare held k 24 (([v0, v1, v2, v3, v4, v5, v6, v7].drop 3).take (Try.prog.cellsOf 24)) = some y2 := h2
  rw [cO24] at h2
  replace h2 : DataW.trod enc Try.prog w base spare held k 24 [v3, v4] = some y2 := h2
  obtain ⟨y3, h3, w3⟩ := hf 3 _ rfl
  replace h3 : DataW.trod enc Try.prog w base spare held k 25 (([v0, v1, v2, v3, v4, v5, v6, v7].drop 5).take (Try.prog.cellsOf 25)) = some y3 := h3
  rw [cO25] at h3
  replace h3 : DataW.trod enc Try.prog w base spare held k 25 [v5] = some y3 := h3
  obtain ⟨y4, h4, w4⟩ := hf 4 _ rfl
  replace h4 : DataW.trod enc Try.prog w base spare held k 26 (([v0, v1, v2, v3, v4, v5, v6, v7].drop 6).take (Try.prog.cellsOf 26)) = some y4 := h4
  rw [cO26] at h4
  replace h4 : DataW.trod enc Try.prog w base spare held k 26 [v6] = some y4 := h4
  obtain ⟨y5, h5, w5⟩ := hf 5 _ rfl
  replace h5 : DataW.trod enc Try.prog w base spare held k 27 (([v0, v1, v2, v3, v4, v5, v6, v7].drop 7).take (Try.prog.cellsOf 27)) = some y5 := h5
  rw [cO27] at h5
  replace h5 : DataW.trod enc Try.prog w base spare held k 27 [v7] = some y5 := h5
  obtain ⟨m0, e0, _, wf0⟩ := DataW.trod_int Try.underlying3 h0
  simp only [List.cons.injEq, and_true] at e0
  subst e0
  obtain ⟨aT, eaT, gaT⟩ := tw24 enc base spare held k _ _ h1 w1
  simp only [eMX, List.cons.injEq, and_true] at eaT
  obtain ⟨rfl, rfl⟩ := eaT
  obtain ⟨aD, eaD, gaD⟩ := tw24 enc base spare held k _ _ h2 w2
  simp only [eMX, List.cons.injEq, and_true] at eaD
  obtain ⟨rfl, rfl⟩ := eaD
  obtain ⟨AV, lV, cV, elV, frV, gdV⟩ := rows_w (E := eVH) Try.underlying25 cO75 tw75 (by decide +kernel) h3 w3
  simp only [List.cons.injEq, and_true] at elV
  subst elV
  obtain ⟨AJ, lJ, cJ, elJ, frJ, gdJ⟩ := rows_w (E := eJB) Try.underlying26 cO83 tw83 (by decide +kernel) h4 w4
  simp only [List.cons.injEq, and_true] at elJ
  subst elJ
  obtain ⟨AZ, lZ, cZ, elZ, frZ, gdZ⟩ := rows_w (E := eSH) Try.underlying27 cO86 tw86 (by decide +kernel) h5 w5
  simp only [List.cons.injEq, and_true] at elZ
  subst elZ
  exact ⟨⟨m0, aT.n, aT.l, aD.n, aD.l, lV, lJ, lZ, aT.A, aT.c, aD.A, aD.c, AV, cV, AJ, cJ, AZ, cZ⟩, rfl, ⟨gaT, gaD, ⟨frV, gt_all (Φ := VHF (HS w) w) (fun x hx => (gdV x hx).1) VHF.dflt⟩, ⟨frJ, gt_all (Φ := JBF (HS w) w) (fun x hx => (gdJ x hx).1) JBF.dflt⟩, ⟨frZ, gt_all (Φ := SHF (HS w) w) (fun x hx => (gdZ x hx).1) SHF.dflt⟩⟩, ⟨gt_all (Φ := fun v : VH => 0 ≤ v.vsk) (fun x hx => (gdV x hx).2) (Int.le_refl _), gt_all (Φ := fun v : JB => 0 ≤ v.jsk) (fun x hx => (gdJ x hx).2) (Int.le_refl _), gt_all (Φ := fun v : SH => 0 ≤ v.ssk) (fun x hx => (gdZ x hx).2) (Int.le_refl _)⟩⟩
theorem tw54 : TellsW Try.prog w 54 eTK (fun _ => True) := by
 intro H enc base spare held n cs y h hw
 obtain ⟨k, hl, hf⟩ := struct_w Try.underlying54 h hw
 rw [cO54] at hl
 match cs, hl with
 | [v0, v1], _ =>
  obtain ⟨y0, h0, w0⟩ := hf 0 _ rfl
  replace h0 : DataW.trod enc Try.prog w base spare held k 4 (([v0, v1].drop 0).take (Try.prog.cellsOf 4)) = some y0 := h0
  rw [cO4] at h0
  replace h0 : DataW.trod enc Try.prog w base spare held k 4 [v0] = some y0 := h0
  obtain ⟨y1, h1, w1⟩ := hf 1 _ rfl
  replace h1 : DataW.trod enc Try.prog w base spare held k 3 (([v0, v1].drop 1).take (Try.prog.cellsOf 3)) = some y1 := h1
  rw [cO3] at h1
  replace h1 : DataW.trod enc Try.prog w base spare held k 3 [v1] = some y1 := h1
  obtain ⟨m0, e0, _⟩ := DataW.trod_bool Try.underlying4 h0
  simp only [List.cons.injEq, and_true] at e0
  subst e0
  obtain ⟨m1, e1, _, wf1⟩ := DataW.trod_int Try.underlying3 h1
  simp only [List.cons.injEq, and_true] at e1
  subst e1
  exact ⟨⟨m0, m1⟩, rfl, trivial⟩
end
end Go.Proofs.Ytdpmnodiebpjeaa.Sx
