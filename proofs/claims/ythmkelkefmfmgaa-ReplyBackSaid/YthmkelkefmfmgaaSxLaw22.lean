/- An answer's tree, read back, is the answer. -/
import Derived.Test.YthmkelkefmfmgaaSxAgain
set_option linter.unusedVariables false
set_option linter.unusedSimpArgs false
namespace Go.SX
open Go Go.RowKit
/-- The list B stands in T from place k on. -/
def Loc (T : List TN) (k : Int) (B : List TN) : Prop := ∃ A C, T = A ++ (B ++ C) ∧ (A.length : Int) = k
theorem Loc.gt {T B : List TN} {k j : Int} (h : Loc T k B) (h0 : 0 ≤ j) (h1 : j < (B.length : Int)) : gt T (k + j) = gt B j := by
  obtain ⟨A, C, rfl, rfl⟩ := h
  unfold SX.gt
  have e : ((A.length : Int) + j).toNat = A.length + j.toNat := by omega
  rw [e, List.getD_eq_getElem?_getD, List.getD_eq_getElem?_getD, List.getElem?_append_right (by omega), show A.length + j.toNat - A.length = j.toNat from by omega, List.getElem?_append_left (by omega)]
theorem Loc.l {T B C : List TN} {k : Int} (h : Loc T k (B ++ C)) : Loc T k B := by
  obtain ⟨A, D, rfl, e⟩ := h
  exact ⟨A, C ++ D, by simp, e⟩
theorem Loc.r {T B C : List TN} {k m : Int} (h : Loc T k (B ++ C)) (hm : m = k + B.length) : Loc T m C := by
  obtain ⟨A, D, rfl, e⟩ := h
  exact ⟨A ++ B, D, by simp, by simp; omega⟩
theorem Loc.whole (T : List TN) : Loc T 0 T := ⟨[], [], by simp, rfl⟩
theorem Loc.trans {T B C : List TN} {k m n : Int} (h : Loc T k B) (h2 : Loc B m C) (hn : n = k + m) : Loc T n C := by
  obtain ⟨A, D, rfl, e⟩ := h
  obtain ⟨A2, D2, rfl, e2⟩ := h2
  exact ⟨A ++ A2, D2 ++ D, by simp, by simp; omega⟩
/-- Blocks one behind the other. -/
theorem blocks {α : Type} [Inhabited α] {k : Int} {F : Int → α → List TN} {g : Int → α → Int} {f : List α → List TN × List Int → List TN × List Int} (hn : ∀ x, f [] x = x)
    (hc : ∀ s r x, f (s :: r) x = f r (x.1 ++ F (k + x.1.length) s, x.2 ++ [g (k + x.1.length) s])) :
    ∀ (l : List α) (x : List TN × List Int), ∃ M K, f l x = (x.1 ++ M, x.2 ++ K) ∧ K.length = l.length ∧ ∀ j : Nat, j < l.length → ∃ a : Int, 0 ≤ a ∧ Loc M a (F (k + x.1.length + a) (gt l j)) ∧ gt K j = g (k + x.1.length + a) (gt l j)
  | [], x => ⟨[], [], by rw [hn]; simp, rfl, fun j hj => by simp at hj⟩
  | s :: r, x => by
    obtain ⟨M, K, e, hl, h⟩ := blocks hn hc r (x.1 ++ F (k + x.1.length) s, x.2 ++ [g (k + x.1.length) s])
    refine ⟨F (k + x.1.length) s ++ M, [g (k + x.1.length) s] ++ K, ?_, by simp [hl], ?_⟩
    · rw [hc, e]; simp
    · intro j hj
      match j with
      | 0 =>
        refine ⟨0, by omega, ⟨[], M, ?_, rfl⟩, ?_⟩
        · simp [SX.gt]
        · simp [SX.gt]
      | j + 1 =>
        obtain ⟨a, ha, hL, hK⟩ := h j (by simpa using hj)
        have e2 : gt (s :: r) (((j + 1 : Nat) : Int)) = gt r (j : Int) := by simp [SX.gt]
        have e3 : gt ([g (k + x.1.length) s] ++ K) (((j + 1 : Nat) : Int)) = gt K (j : Int) := by simp [SX.gt]
        have e4 : k + ((x.1 ++ F (k + x.1.length) s).length : Int) + a = k + x.1.length + ((F (k + x.1.length) s).length + a) := by simp; omega
        rw [e4] at hL hK
        refine ⟨(F (k + x.1.length) s).length + a, by omega, ?_, by rw [e3, e2, hK]⟩
        rw [e2]
        obtain ⟨A, C, eM, eA⟩ := hL
        exact ⟨F (k + x.1.length) s ++ A, C, by rw [eM]; simp, by simp; omega⟩
theorem steps_at (k : Int) (l : List ST) : ∃ M K, stepsF k l ([], []) = (M, K) ∧ K.length = l.length ∧ ∀ j : Nat, j < l.length → ∃ a : Int, 0 ≤ a ∧ Loc M a (stepF (k + a) (gt l j)) ∧ gt K j = k + a + (gt l j).load.length + 9 := by
  obtain ⟨M, K, e, hl, h⟩ := blocks (k := k) (F := stepF) (g := fun k s => k + s.load.length + 9) (f := stepsF k) (fun _ => rfl) (fun _ _ _ => rfl) l ([], [])
  exact ⟨M, K, by simpa using e, hl, fun j hj => by simpa using h j hj⟩
theorem plans_at (k : Int) (l : List PV) : ∃ M K, plansF k l ([], []) = (M, K) ∧ K.length = l.length ∧ ∀ j : Nat, j < l.length → ∃ a : Int, 0 ≤ a ∧ Loc M a (planF (k + a) (gt l j)) ∧ gt K j = k + a + (planF (k + a) (gt l j)).length - 1 := by
  obtain ⟨M, K, e, hl, h⟩ := blocks (k := k) (F := planF) (g := fun k p => k + (planF k p).length - 1) (f := plansF k) (fun _ => rfl) (fun _ _ _ => rfl) l ([], [])
  exact ⟨M, K, by simpa using e, hl, fun j hj => by simpa using h j hj⟩
theorem tasks_at (k : Int) (l : List TK) : ∃ M K, tasksF k l ([], []) = (M, K) ∧ K.length = l.length ∧ ∀ j : Nat, j < l.length → ∃ a : Int, 0 ≤ a ∧ Loc M a (taskF (k + a) (gt l j)) ∧ gt K j = k + a + 2 := by
  obtain ⟨M, K, e, hl, h⟩ := blocks (k := k) (F := taskF) (g := fun k p => k + 2) (f := tasksF k) (fun _ => rfl) (fun _ _ _ => rfl) l ([], [])
  exact ⟨M, K, by simpa using e, hl, fun j hj => by simpa using h j hj⟩
theorem seqI_gt {k : Int} : ∀ {n : Nat} {j : Int}, 0 ≤ j → j < (n : Int) → gt (seqI k n) j = k + j
  | 0, j, h0, h1 => by omega
  | n + 1, j, h0, h1 => by
    unfold seqI
    by_cases h : j < (n : Int)
    · rw [← seqI_gt (k := k) h0 h]
      unfold SX.gt
      rw [List.getD_eq_getElem?_getD, List.getD_eq_getElem?_getD, List.getElem?_append_left (by rw [seqI_len]; omega)]
    · have e : j = n := by omega
      subst e
      unfold SX.gt
      rw [List.getD_eq_getElem?_getD, List.getElem?_append_right (by rw [seqI_len]; omega), seqI_len]
      simp
theorem at_v {l : List TV} {i : Int} {x : TN} (h : gt (vs l) i = x) : (gt l i).v = x := by rw [← vs_at]; exact h
theorem load_read {l : List TV} {a : Int} {load : List Int} (h : Loc (vs l) a (load.map numN)) : ∀ n : Nat, n ≤ load.length → (seqI a n).map (fun q => (gt l q).v.num) = load.take n
  | 0, _ => by simp [seqI]
  | n + 1, hn => by
    have h1 := load_read h n (by omega)
    have h2 : (gt l (a + n)).v = numN (gt load n) := at_v (by rw [h.gt (by omega) (by simp; omega), gt_map _ (by omega) (by omega)])
    have h3 : load.take (n + 1) = load.take n ++ [gt load n] := take_gt (i := (n : Int)) (by omega) (by omega)
    rw [seqI, List.map_append, h1, h3]
    simp [h2, numN]
theorem wordI_word {k : Int} (h : 1 ≤ k ∧ k ≤ 6) : wordI kindsL (wordK k) + 1 = k := by
  have : k = 1 ∨ k = 2 ∨ k = 3 ∨ k = 4 ∨ k = 5 ∨ k = 6 := by omega
  rcases this with rfl | rfl | rfl | rfl | rfl | rfl <;> decide +kernel
theorem step_read {l : List TV} {k : Int} {s : ST} (h : Loc (vs l) k (stepF k s)) (hk : 0 ≤ k) (hkd : 1 ≤ s.kind ∧ s.kind ≤ 6) (hld : s.load.length ≤ 10) : rdStep l (k + s.load.length + 9) = sv s ∧ stepOk l (k + s.load.length + 9) := by
  have hA : Loc (vs l) k [txtN (wordK s.kind), numN s.item, numN s.place, numN s.arr, numN s.wait, numN s.serv] := h.l.l
  have hN : Loc (vs l) (k + 6) (numsF (k + 6) s.load) := h.l.r (by simp)
  have hE : Loc (vs l) (k + 7 + s.load.length) [numN s.time, numN s.dist, objN stepNs [k, k + 1, k + 2, k + 3, k + 4, k + 5, k + 6 + s.load.length, k + 7 + s.load.length, k + 8 + s.load.length]] := h.r (by simp [numsF]; omega)
  have hM : Loc (vs l) (k + 6) (s.load.map numN) := hN.l
  have hL : Loc (vs l) (k + 6 + s.load.length) [lisN (seqI (k + 6) s.load.length)] := hN.r (by simp)
  have t0 : (gt l k).v = txtN (wordK s.kind) := at_v (by have := hA.gt (j := 0) (by omega) (by simp); simpa [SX.gt] using this)
  have t1 : (gt l (k + 1)).v = numN s.item := at_v (by have := hA.gt (j := 1) (by omega) (by simp); simpa [SX.gt] using this)
  have t2 : (gt l (k + 2)).v = numN s.place := at_v (by have := hA.gt (j := 2) (by omega) (by simp); simpa [SX.gt] using this)
  have t3 : (gt l (k + 3)).v = numN s.arr := at_v (by have := hA.gt (j := 3) (by omega) (by simp); simpa [SX.gt] using this)
  have t4 : (gt l (k + 4)).v = numN s.wait := at_v (by have := hA.gt (j := 4) (by omega) (by simp); simpa [SX.gt] using this)
  have t5 : (gt l (k + 5)).v = numN s.serv := at_v (by have := hA.gt (j := 5) (by omega) (by simp); simpa [SX.gt] using this)
  have t6 : (gt l (k + 6 + s.load.length)).v = lisN (seqI (k + 6) s.load.length) := at_v (by have := hL.gt (j := 0) (by omega) (by simp); simpa [SX.gt] using this)
  have t7 : (gt l (k + 7 + s.load.length)).v = numN s.time := at_v (by have := hE.gt (j := 0) (by omega) (by simp); simpa [SX.gt] using this)
  have t8 : (gt l (k + 8 + s.load.length)).v = numN s.dist := at_v (by have := hE.gt (j := 1) (by omega) (by simp); rw [show k + 8 + (s.load.length : Int) = k + 7 + s.load.length + 1 from by omega]; simpa [SX.gt] using this)
  have t9 : (gt l (k + s.load.length + 9)).v = objN stepNs [k, k + 1, k + 2, k + 3, k + 4, k + 5, k + 6 + s.load.length, k + 7 + s.load.length, k + 8 + s.load.length] := at_v (by have := hE.gt (j := 2) (by omega) (by simp); rw [show k + (s.load.length : Int) + 9 = k + 7 + s.load.length + 2 from by omega]; simpa [SX.gt] using this)
  have kk : ∀ j, kidT l (k + s.load.length + 9) j = gt [k, k + 1, k + 2, k + 3, k + 4, k + 5, k + 6 + (s.load.length : Int), k + 7 + s.load.length, k + 8 + s.load.length] j := fun j => by unfold kidT; rw [t9]; rfl
  have k6 : kidT l (k + s.load.length + 9) 6 = k + 6 + s.load.length := kk 6
  refine ⟨?_, ?_, ?_, ?_⟩
  · have hl : rdLoad l (k + 6 + s.load.length) = s.load := by
      unfold rdLoad ksT
      rw [t6]
      show (seqI (k + 6) s.load.length).map _ = _
      rw [load_read hM _ (Nat.le_refl _), List.take_length]
    have n1 : numT l (k + s.load.length + 9) 1 = s.item := by unfold numT; rw [show kidT l (k + s.load.length + 9) 1 = k + 1 from kk 1, t1]; rfl
    have n2 : numT l (k + s.load.length + 9) 2 = s.place := by unfold numT; rw [show kidT l (k + s.load.length + 9) 2 = k + 2 from kk 2, t2]; rfl
    have n3 : numT l (k + s.load.length + 9) 3 = s.arr := by unfold numT; rw [show kidT l (k + s.load.length + 9) 3 = k + 3 from kk 3, t3]; rfl
    have n4 : numT l (k + s.load.length + 9) 4 = s.wait := by unfold numT; rw [show kidT l (k + s.load.length + 9) 4 = k + 4 from kk 4, t4]; rfl
    have n5 : numT l (k + s.load.length + 9) 5 = s.serv := by unfold numT; rw [show kidT l (k + s.load.length + 9) 5 = k + 5 from kk 5, t5]; rfl
    have n7 : numT l (k + s.load.length + 9) 7 = s.time := by unfold numT; rw [show kidT l (k + s.load.length + 9) 7 = k + 7 + s.load.length from kk 7, t7]; rfl
    have n8 : numT l (k + s.load.length + 9) 8 = s.dist := by unfold numT; rw [show kidT l (k + s.load.length + 9) 8 = k + 8 + s.load.length from kk 8, t8]; rfl
    have n0 : wordI kindsL (gt l (kidT l (k + s.load.length + 9) 0)).v.text + 1 = s.kind := by
      rw [show kidT l (k + s.load.length + 9) 0 = k from kk 0, t0]; exact wordI_word hkd
    unfold rdStep sv
    rw [n0, n1, n2, n3, n4, n5, n7, n8, k6, hl]
  · intro j h0 h1
    have h2 : j = 0 ∨ j = 1 ∨ j = 2 ∨ j = 3 ∨ j = 4 ∨ j = 5 ∨ j = 6 ∨ j = 7 ∨ j = 8 := by omega
    refine ⟨h0, by rw [t9]; show j < 9; omega, ?_, ?_⟩
    · rw [kk]; rcases h2 with rfl | rfl | rfl | rfl | rfl | rfl | rfl | rfl | rfl <;> (simp [SX.gt]; try omega)
    · rw [kk]; rcases h2 with rfl | rfl | rfl | rfl | rfl | rfl | rfl | rfl | rfl <;> (simp [SX.gt]; try omega)
  · rw [k6]
    intro j h0 h1
    rw [t6] at h1
    have h1' : j < (s.load.length : Int) := by simpa [lisN, seqI_len] using h1
    have e : kidT l (k + 6 + s.load.length) j = k + 6 + j := by unfold kidT; rw [t6]; exact seqI_gt h0 h1'
    exact ⟨h0, by rw [t6]; exact h1, by rw [e]; omega, by rw [e]; omega⟩
  · rw [k6, t6]
    show (seqI _ _).length ≤ _
    rw [seqI_len]; omega
theorem plan_read {l : List TV} {k : Int} {p : PV} (h : Loc (vs l) k (planF k p)) (hk : 0 ≤ k) (hs : p.steps.length ≤ 60) (hS : ∀ s ∈ p.steps, (1 ≤ s.kind ∧ s.kind ≤ 6) ∧ s.load.length ≤ 10) :
    rdPlan l (k + (planF k p).length - 1) = pv p ∧ planOk l (k + (planF k p).length - 1) := by
  obtain ⟨M, K, e, hKl, hj⟩ := steps_at (k + 6) p.steps
  have hF : planF k p = [numN p.veh, numN p.cost, numN p.time, numN p.dist, numN p.wait, numN p.serv] ++ M ++ [lisN K, objN planNs [k, k + 1, k + 2, k + 3, k + 4, k + 5, k + 6 + M.length]] := by unfold planF; rw [e]
  have hq : k + (planF k p).length - 1 = k + 7 + M.length := by rw [hF]; simp; omega
  rw [hq]
  rw [hF] at h
  have hA : Loc (vs l) k [numN p.veh, numN p.cost, numN p.time, numN p.dist, numN p.wait, numN p.serv] := h.l.l
  have hM : Loc (vs l) (k + 6) M := h.l.r (by simp)
  have hE : Loc (vs l) (k + 6 + M.length) [lisN K, objN planNs [k, k + 1, k + 2, k + 3, k + 4, k + 5, k + 6 + M.length]] := h.r (by simp; omega)
  have t0 : (gt l k).v = numN p.veh := at_v (by have := hA.gt (j := 0) (by omega) (by simp); simpa [SX.gt] using this)
  have t1 : (gt l (k + 1)).v = numN p.cost := at_v (by have := hA.gt (j := 1) (by omega) (by simp); simpa [SX.gt] using this)
  have t2 : (gt l (k + 2)).v = numN p.time := at_v (by have := hA.gt (j := 2) (by omega) (by simp); simpa [SX.gt] using this)
  have t3 : (gt l (k + 3)).v = numN p.dist := at_v (by have := hA.gt (j := 3) (by omega) (by simp); simpa [SX.gt] using this)
  have t4 : (gt l (k + 4)).v = numN p.wait := at_v (by have := hA.gt (j := 4) (by omega) (by simp); simpa [SX.gt] using this)
  have t5 : (gt l (k + 5)).v = numN p.serv := at_v (by have := hA.gt (j := 5) (by omega) (by simp); simpa [SX.gt] using this)
  have t6 : (gt l (k + 6 + M.length)).v = lisN K := at_v (by have := hE.gt (j := 0) (by omega) (by simp); simpa [SX.gt] using this)
  have t7 : (gt l (k + 7 + M.length)).v = objN planNs [k, k + 1, k + 2, k + 3, k + 4, k + 5, k + 6 + M.length] := at_v (by have := hE.gt (j := 1) (by omega) (by simp); rw [show k + 7 + (M.length : Int) = k + 6 + M.length + 1 from by omega]; simpa [SX.gt] using this)
  have kk : ∀ j, kidT l (k + 7 + M.length) j = gt [k, k + 1, k + 2, k + 3, k + 4, k + 5, k + 6 + (M.length : Int)] j := fun j => by unfold kidT; rw [t7]; rfl
  have k6 : kidT l (k + 7 + M.length) 6 = k + 6 + M.length := kk 6
  have hM0 : ∀ j : Nat, j < p.steps.length → rdStep l (gt K j) = sv (gt p.steps j) ∧ stepOk l (gt K j) ∧ 0 ≤ gt K j ∧ gt K j < k + 6 + M.length := fun j hj1 => by
    obtain ⟨a, ha, hL, hK⟩ := hj j hj1
    have hm : gt p.steps (j : Int) ∈ p.steps := gt_mem (by omega) (by omega)
    have h1 := step_read (hM.trans hL rfl) (by omega) (hS _ hm).1 (hS _ hm).2
    rw [hK]
    refine ⟨h1.1, h1.2, by omega, ?_⟩
    obtain ⟨A, C, eM, eA⟩ := hL
    have h3 : M.length = A.length + ((stepF (k + 6 + a) (gt p.steps j)).length + C.length) := by rw [eM]; simp
    rw [stepF_len] at h3
    omega
  refine ⟨?_, ?_, ?_, ?_⟩
  · have hl : (ksT l (k + 6 + M.length)).map (rdStep l) = p.steps.map sv := by
      unfold ksT
      rw [t6]
      show K.map _ = _
      apply List.ext_getElem
      · simp [hKl]
      · intro j h1 h2
        have hj1 : j < p.steps.length := by simpa using h2
        have h3 := (hM0 j hj1).1
        have e1 : gt K (j : Int) = K[j]'(by omega) := by simp [SX.gt, List.getD_eq_getElem?_getD, show j < K.length by omega]
        have e2 : gt p.steps (j : Int) = p.steps[j] := by simp [SX.gt, List.getD_eq_getElem?_getD, hj1]
        rw [e1, e2] at h3
        simpa using h3
    have n0 : numT l (k + 7 + M.length) 0 = p.veh := by unfold numT; rw [show kidT l (k + 7 + M.length) 0 = k from kk 0, t0]; rfl
    have n1 : numT l (k + 7 + M.length) 1 = p.cost := by unfold numT; rw [show kidT l (k + 7 + M.length) 1 = k + 1 from kk 1, t1]; rfl
    have n2 : numT l (k + 7 + M.length) 2 = p.time := by unfold numT; rw [show kidT l (k + 7 + M.length) 2 = k + 2 from kk 2, t2]; rfl
    have n3 : numT l (k + 7 + M.length) 3 = p.dist := by unfold numT; rw [show kidT l (k + 7 + M.length) 3 = k + 3 from kk 3, t3]; rfl
    have n4 : numT l (k + 7 + M.length) 4 = p.wait := by unfold numT; rw [show kidT l (k + 7 + M.length) 4 = k + 4 from kk 4, t4]; rfl
    have n5 : numT l (k + 7 + M.length) 5 = p.serv := by unfold numT; rw [show kidT l (k + 7 + M.length) 5 = k + 5 from kk 5, t5]; rfl
    unfold rdPlan pv
    rw [n0, n1, n2, n3, n4, n5, k6, hl]
  · intro j h0 h1
    have h2 : j = 0 ∨ j = 1 ∨ j = 2 ∨ j = 3 ∨ j = 4 ∨ j = 5 ∨ j = 6 := by omega
    refine ⟨h0, by rw [t7]; show j < 7; omega, ?_, ?_⟩
    · rw [kk]; rcases h2 with rfl | rfl | rfl | rfl | rfl | rfl | rfl <;> (simp [SX.gt]; try omega)
    · rw [kk]; rcases h2 with rfl | rfl | rfl | rfl | rfl | rfl | rfl <;> (simp [SX.gt]; try omega)
  · rw [k6]
    refine ⟨fun j h0 h1 => ?_, by rw [t6]; show K.length ≤ _; omega⟩
    rw [t6] at h1
    have h1' : j < (K.length : Int) := h1
    have e : kidT l (k + 6 + M.length) j = gt K j := by unfold kidT; rw [t6]; rfl
    obtain ⟨n, rfl⟩ : ∃ n : Nat, j = n := ⟨j.toNat, by omega⟩
    have h3 := hM0 n (by omega)
    exact ⟨h0, by rw [t6]; exact h1, by rw [e]; exact h3.2.2.1, by rw [e]; exact h3.2.2.2⟩
  · rw [k6]
    intro j h0 h1
    rw [t6] at h1
    have h1' : j < (K.length : Int) := h1
    have e : kidT l (k + 6 + M.length) j = gt K j := by unfold kidT; rw [t6]; rfl
    obtain ⟨n, rfl⟩ : ∃ n : Nat, j = n := ⟨j.toNat, by omega⟩
    rw [e]; exact (hM0 n (by omega)).2.1
theorem task_read {l : List TV} {k : Int} {t : TK} (h : Loc (vs l) k (taskF k t)) (hk : 0 ≤ k) : rdTask l (k + 2) = t ∧ firstOk l (k + 2) 2 := by
  have t0 : (gt l k).v = txtN (wordT t.ship) := at_v (by have := h.gt (j := 0) (by omega) (by simp [taskF]); simpa [SX.gt, taskF] using this)
  have t1 : (gt l (k + 1)).v = numN t.item := at_v (by have := h.gt (j := 1) (by omega) (by simp [taskF]); simpa [SX.gt, taskF] using this)
  have t2 : (gt l (k + 2)).v = objN taskNs [k, k + 1] := at_v (by have := h.gt (j := 2) (by omega) (by simp [taskF]); simpa [SX.gt, taskF] using this)
  have kk : ∀ j, kidT l (k + 2) j = gt [k, k + 1] j := fun j => by unfold kidT; rw [t2]; rfl
  refine ⟨?_, ?_⟩
  · have n1 : numT l (k + 2) 1 = t.item := by unfold numT; rw [show kidT l (k + 2) 1 = k + 1 from kk 1, t1]; rfl
    have n0 : (gt l (kidT l (k + 2) 0)).v.text = wordT t.ship := by rw [show kidT l (k + 2) 0 = k from kk 0, t0]; rfl
    unfold rdTask
    rw [n0, n1]
    cases t with
    | mk b i => cases b <;> (simp [wordT]; try decide)
  · intro j h0 h1
    have h2 : j = 0 ∨ j = 1 := by omega
    refine ⟨h0, by rw [t2]; show j < 2; omega, ?_, ?_⟩
    · rw [kk]; rcases h2 with rfl | rfl <;> (simp [SX.gt]; try omega)
    · rw [kk]; rcases h2 with rfl | rfl <;> (simp [SX.gt]; try omega)
theorem getI {α : Type} [Inhabited α] {l : List α} {j : Nat} (h : j < l.length) : gt l (j : Int) = l[j] := by simp [SX.gt, List.getD_eq_getElem?_getD, h]
theorem whole_read {l : List TV} {op : Bool} {s : SU} {ps : List PV} {lf : List TK} (h : vs l = okT op s ps lf) (hps : ps.length ≤ 8) (hlf : lf.length ≤ 50) (hS : ∀ p ∈ ps, p.steps.length ≤ 60 ∧ ∀ t ∈ p.steps, (1 ≤ t.kind ∧ t.kind ≤ 6) ∧ t.load.length ≤ 10) :
    0 < l.length ∧ wholeOk l ((l.length : Int) - 1) ∧ ((gt l (kidT l ((l.length : Int) - 1) 1)).v.truth = op ∧ numT l (kidT l ((l.length : Int) - 1) 2) 0 = s.routes ∧ numT l (kidT l ((l.length : Int) - 1) 2) 1 = s.value ∧ numT l (kidT l ((l.length : Int) - 1) 2) 2 = s.cost ∧ numT l (kidT l ((l.length : Int) - 1) 2) 3 = s.time ∧ numT l (kidT l ((l.length : Int) - 1) 2) 4 = s.dist ∧ numT l (kidT l ((l.length : Int) - 1) 2) 5 = s.wait ∧ numT l (kidT l ((l.length : Int) - 1) 2) 6 = s.serv ∧ numT l (kidT l ((l.length : Int) - 1) 2) 7 = s.left) ∧
    (ksT l (kidT l ((l.length : Int) - 1) 3)).map (rdPlan l) = ps.map pv ∧ (ksT l (kidT l ((l.length : Int) - 1) 4)).map (rdTask l) = lf := by
  obtain ⟨M, K, e, hKl, hj⟩ := plans_at 11 ps
  obtain ⟨M2, K2, e2, hKl2, hj2⟩ := tasks_at (12 + M.length) lf
  have hF : vs l = [txtN ⟨#[111, 107]⟩, truN op] ++ sumsF 2 s ++ M ++ [lisN K] ++ M2 ++ [lisN K2] ++ [objN wholeNs [0, 1, 10, 11 + M.length, 12 + M.length + M2.length]] := by
    rw [h]; unfold okT okK okP; rw [e]; simp only []; rw [e2]
  have hlen : (l.length : Int) - 1 = 13 + M.length + M2.length := by rw [← vs_len, hF]; simp [sumsF]; omega
  have hpos : 0 < l.length := by have : (0 : Int) ≤ 13 + M.length + M2.length := by omega
                                 omega
  rw [hlen]
  have h0 : Loc (vs l) 0 (vs l) := Loc.whole _
  have h1 : Loc (vs l) 0 ([txtN ⟨#[111, 107]⟩, truN op] ++ sumsF 2 s ++ M ++ [lisN K] ++ M2 ++ [lisN K2] ++ [objN wholeNs [0, 1, 10, 11 + M.length, 12 + M.length + M2.length]]) := by rw [← hF]; exact h0
  have hA : Loc (vs l) 0 [txtN ⟨#[111, 107]⟩, truN op] := h1.l.l.l.l.l.l
  have hB : Loc (vs l) 2 [numN s.routes, numN s.value, numN s.cost, numN s.time, numN s.dist, numN s.wait, numN s.serv, numN s.left, objN sumNs [2, 2 + 1, 2 + 2, 2 + 3, 2 + 4, 2 + 5, 2 + 6, 2 + 7]] := h1.l.l.l.l.l.r (by simp)
  have hM : Loc (vs l) 11 M := h1.l.l.l.l.r (by simp [sumsF])
  have hK : Loc (vs l) (11 + M.length) [lisN K] := h1.l.l.l.r (by simp [sumsF]; omega)
  have hM2 : Loc (vs l) (12 + M.length) M2 := h1.l.l.r (by simp [sumsF]; omega)
  have hK2 : Loc (vs l) (12 + M.length + M2.length) [lisN K2] := h1.l.r (by simp [sumsF]; omega)
  have hO : Loc (vs l) (13 + M.length + M2.length) [objN wholeNs [0, 1, 10, 11 + M.length, 12 + M.length + M2.length]] := h1.r (by simp [sumsF]; omega)
  have w0 : (gt l 0).v = txtN ⟨#[111, 107]⟩ := at_v (by have := hA.gt (j := 0) (by omega) (by simp); simpa [SX.gt] using this)
  have w1 : (gt l 1).v = truN op := at_v (by have := hA.gt (j := 1) (by omega) (by simp); simpa [SX.gt] using this)
  have u0 : (gt l 2).v = numN s.routes := at_v (by have := hB.gt (j := 0) (by omega) (by simp); simpa [SX.gt] using this)
  have u1 : (gt l 3).v = numN s.value := at_v (by have := hB.gt (j := 1) (by omega) (by simp); simpa [SX.gt] using this)
  have u2 : (gt l 4).v = numN s.cost := at_v (by have := hB.gt (j := 2) (by omega) (by simp); simpa [SX.gt] using this)
  have u3 : (gt l 5).v = numN s.time := at_v (by have := hB.gt (j := 3) (by omega) (by simp); simpa [SX.gt] using this)
  have u4 : (gt l 6).v = numN s.dist := at_v (by have := hB.gt (j := 4) (by omega) (by simp); simpa [SX.gt] using this)
  have u5 : (gt l 7).v = numN s.wait := at_v (by have := hB.gt (j := 5) (by omega) (by simp); simpa [SX.gt] using this)
  have u6 : (gt l 8).v = numN s.serv := at_v (by have := hB.gt (j := 6) (by omega) (by simp); simpa [SX.gt] using this)
  have u7 : (gt l 9).v = numN s.left := at_v (by have := hB.gt (j := 7) (by omega) (by simp); simpa [SX.gt] using this)
  have u8 : (gt l 10).v = objN sumNs [2, 2 + 1, 2 + 2, 2 + 3, 2 + 4, 2 + 5, 2 + 6, 2 + 7] := at_v (by have := hB.gt (j := 8) (by omega) (by simp); simpa [SX.gt] using this)
  have w3 : (gt l (11 + M.length)).v = lisN K := at_v (by have := hK.gt (j := 0) (by omega) (by simp); simpa [SX.gt] using this)
  have w4 : (gt l (12 + M.length + M2.length)).v = lisN K2 := at_v (by have := hK2.gt (j := 0) (by omega) (by simp); simpa [SX.gt] using this)
  have w5 : (gt l (13 + M.length + M2.length)).v = objN wholeNs [0, 1, 10, 11 + M.length, 12 + M.length + M2.length] := at_v (by have := hO.gt (j := 0) (by omega) (by simp); simpa [SX.gt] using this)
  have kk : ∀ j, kidT l (13 + M.length + M2.length) j = gt [0, 1, 10, 11 + (M.length : Int), 12 + (M.length : Int) + M2.length] j := fun j => by unfold kidT; rw [w5]; rfl
  have q0 : kidT l (13 + M.length + M2.length) 0 = 0 := kk 0
  have q1 : kidT l (13 + M.length + M2.length) 1 = 1 := kk 1
  have q2 : kidT l (13 + M.length + M2.length) 2 = 10 := kk 2
  have q3 : kidT l (13 + M.length + M2.length) 3 = 11 + M.length := kk 3
  have q4 : kidT l (13 + M.length + M2.length) 4 = 12 + M.length + M2.length := kk 4
  have ks : ∀ j, kidT l 10 j = gt [2, 2 + 1, 2 + 2, 2 + 3, 2 + 4, 2 + 5, 2 + 6, 2 + 7] j := fun j => by unfold kidT; rw [u8]; rfl
  have hP : ∀ j : Nat, j < ps.length → rdPlan l (gt K j) = pv (gt ps j) ∧ planOk l (gt K j) ∧ 0 ≤ gt K j ∧ gt K j < 11 + M.length := fun j hj1 => by
    obtain ⟨a, ha, hL, hKj⟩ := hj j hj1
    have hm : gt ps (j : Int) ∈ ps := gt_mem (by omega) (by omega)
    have h3 := plan_read (hM.trans hL rfl) (by omega) (hS _ hm).1 (hS _ hm).2
    rw [hKj]
    obtain ⟨A, C, eM, eA⟩ := hL
    have h4 : M.length = A.length + ((planF (11 + a) (gt ps j)).length + C.length) := by rw [eM]; simp
    have h5 : 8 ≤ (planF (11 + a) (gt ps j)).length := by unfold planF; simp
    exact ⟨h3.1, h3.2, by omega, by omega⟩
  have hT : ∀ j : Nat, j < lf.length → rdTask l (gt K2 j) = gt lf j ∧ firstOk l (gt K2 j) 2 ∧ 0 ≤ gt K2 j ∧ gt K2 j < 12 + M.length + M2.length := fun j hj1 => by
    obtain ⟨a, ha, hL, hKj⟩ := hj2 j hj1
    have h3 := task_read (hM2.trans hL rfl) (by omega)
    rw [hKj]
    obtain ⟨A, C, eM, eA⟩ := hL
    have h4 : M2.length = A.length + ((taskF (12 + M.length + a) (gt lf j)).length + C.length) := by rw [eM]; simp
    have h5 : (taskF (12 + M.length + a) (gt lf j)).length = 3 := rfl
    exact ⟨h3.1, h3.2, by omega, by omega⟩
  have k3e : ∀ j, kidT l (11 + M.length) j = gt K j := fun j => by unfold kidT; rw [w3]; rfl
  have k4e : ∀ j, kidT l (12 + M.length + M2.length) j = gt K2 j := fun j => by unfold kidT; rw [w4]; rfl
  refine ⟨hpos, ⟨?_, ?_, ?_, ⟨?_, ?_⟩, ?_, ?_⟩, ⟨?_, ?_, ?_, ?_, ?_, ?_, ?_, ?_, ?_⟩, ?_, ?_⟩
  · intro j h0 h1
    have h2 : j = 0 ∨ j = 1 ∨ j = 2 ∨ j = 3 ∨ j = 4 := by omega
    refine ⟨h0, by rw [w5]; show j < 5; omega, ?_, ?_⟩
    · rw [kk]; rcases h2 with rfl | rfl | rfl | rfl | rfl <;> (simp [SX.gt]; try omega)
    · rw [kk]; rcases h2 with rfl | rfl | rfl | rfl | rfl <;> (simp [SX.gt]; try omega)
  · rw [q0, w0]; rfl
  · rw [q2]
    intro j h0 h1
    have h2 : j = 0 ∨ j = 1 ∨ j = 2 ∨ j = 3 ∨ j = 4 ∨ j = 5 ∨ j = 6 ∨ j = 7 := by omega
    refine ⟨h0, by rw [u8]; show j < 8; omega, ?_, ?_⟩
    · rw [ks]; rcases h2 with rfl | rfl | rfl | rfl | rfl | rfl | rfl | rfl <;> decide
    · rw [ks]; rcases h2 with rfl | rfl | rfl | rfl | rfl | rfl | rfl | rfl <;> decide
  · rw [q3]
    refine ⟨fun j h0 h1 => ?_, by rw [w3]; show K.length ≤ _; omega⟩
    rw [w3] at h1
    have h1' : j < (K.length : Int) := h1
    obtain ⟨n, rfl⟩ : ∃ n : Nat, j = n := ⟨j.toNat, by omega⟩
    have h3 := hP n (by omega)
    exact ⟨h0, by rw [w3]; exact h1, by rw [k3e]; exact h3.2.2.1, by rw [k3e]; exact h3.2.2.2⟩
  · rw [q3]
    intro j h0 h1
    rw [w3] at h1
    have h1' : j < (K.length : Int) := h1
    obtain ⟨n, rfl⟩ : ∃ n : Nat, j = n := ⟨j.toNat, by omega⟩
    rw [k3e]; exact (hP n (by omega)).2.1
  · rw [q4]
    refine ⟨fun j h0 h1 => ?_, by rw [w4]; show K2.length ≤ _; omega⟩
    rw [w4] at h1
    have h1' : j < (K2.length : Int) := h1
    obtain ⟨n, rfl⟩ : ∃ n : Nat, j = n := ⟨j.toNat, by omega⟩
    have h3 := hT n (by omega)
    exact ⟨h0, by rw [w4]; exact h1, by rw [k4e]; exact h3.2.2.1, by rw [k4e]; exact h3.2.2.2⟩
  · rw [q4]
    intro j h0 h1
    rw [w4] at h1
    have h1' : j < (K2.length : Int) := h1
    obtain ⟨n, rfl⟩ : ∃ n : Nat, j = n := ⟨j.toNat, by omega⟩
    rw [k4e]; exact (hT n (by omega)).2.1
  · rw [q1, w1]; rfl
  · unfold numT; rw [q2, show kidT l 10 0 = 2 from ks 0, u0]; rfl
  · unfold numT; rw [q2, show kidT l 10 1 = 3 from ks 1, u1]; rfl
  · unfold numT; rw [q2, show kidT l 10 2 = 4 from ks 2, u2]; rfl
  · unfold numT; rw [q2, show kidT l 10 3 = 5 from ks 3, u3]; rfl
  · unfold numT; rw [q2, show kidT l 10 4 = 6 from ks 4, u4]; rfl
  · unfold numT; rw [q2, show kidT l 10 5 = 7 from ks 5, u5]; rfl
  · unfold numT; rw [q2, show kidT l 10 6 = 8 from ks 6, u6]; rfl
  · unfold numT; rw [q2, show kidT l 10 7 = 9 from ks 7, u7]; rfl
  · rw [q3]
    unfold ksT
    rw [w3]
    show K.map _ = _
    apply List.ext_getElem
    · simp [hKl]
    · intro j h1 h2
      have hj1 : j < ps.length := by simpa using h2
      have h3 := (hP j hj1).1
      rw [getI (by omega), getI hj1] at h3
      simpa using h3
  · rw [q4]
    unfold ksT
    rw [w4]
    show K2.map _ = _
    apply List.ext_getElem
    · simp [hKl2]
    · intro j h1 h2
      have h3 := (hT j h2).1
      rw [getI (by omega), getI h2] at h3
      simpa using h3
theorem fault_read {l : List TV} {cd at_ : Int} {path : ByteArray} (h : vs l = faultT cd at_ path) : l.length = 5 ∧ firstOk l ((l.length : Int) - 1) 4 ∧ (gt l (kidT l ((l.length : Int) - 1) 0)).v.text = ⟨#[101, 114, 114, 111, 114]⟩ ∧
    numT l ((l.length : Int) - 1) 1 = cd ∧ numT l ((l.length : Int) - 1) 2 = at_ ∧ (gt l (kidT l ((l.length : Int) - 1) 3)).v.text = path := by
  have hlen : l.length = 5 := by rw [← vs_len, h]; rfl
  have hI : (l.length : Int) - 1 = 4 := by omega
  rw [hI]
  have g0 : (gt l 0).v = txtN sError := at_v (by rw [h]; rfl)
  have g1 : (gt l 1).v = numN cd := at_v (by rw [h]; rfl)
  have g2 : (gt l 2).v = numN at_ := at_v (by rw [h]; rfl)
  have g3 : (gt l 3).v = txtN path := at_v (by rw [h]; rfl)
  have g4 : (gt l 4).v = objN [sStatus, sCode, sAt, sPath] [0, 1, 2, 3] := at_v (by rw [h]; rfl)
  have kk : ∀ j, kidT l 4 j = gt [0, 1, 2, 3] j := fun j => by unfold kidT; rw [g4]; rfl
  refine ⟨hlen, ?_, ?_, ?_, ?_, ?_⟩
  · intro j h0 h1
    have h2 : j = 0 ∨ j = 1 ∨ j = 2 ∨ j = 3 := by omega
    refine ⟨h0, by rw [g4]; show j < 4; omega, ?_, ?_⟩
    · rw [kk]; rcases h2 with rfl | rfl | rfl | rfl <;> decide
    · rw [kk]; rcases h2 with rfl | rfl | rfl | rfl <;> decide
  · rw [show kidT l 4 0 = 0 from kk 0, g0]; rfl
  · unfold numT; rw [show kidT l 4 1 = 1 from kk 1, g1]; rfl
  · unfold numT; rw [show kidT l 4 2 = 2 from kk 2, g2]; rfl
  · rw [show kidT l 4 3 = 3 from kk 3, g3]; rfl
end Go.SX
