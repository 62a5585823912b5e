/- Bytes and texts. -/
import Derived.Test.YthmkelkefmfmgaaSxFun
import Derived.Lib.ConvBytes
import Derived.Laws.BytesArg
import Derived.Laws.IdiomStrings
import Derived.Lib.AppendStr
import Derived.Laws.OwnMore
set_option linter.unusedVariables false
set_option linter.unusedSimpArgs false
set_option linter.unusedSectionVars false
namespace Go.SX
open Go Go.RowKit Go.Lib
/-- Bytes, as whole numbers. -/
def eY : Enc Int := eI .u8
/-- A text's bytes. -/
def bs (s : ByteArray) : List Int := s.data.toList.map (fun b => (b.toNat : Int))
theorem bs_len (s : ByteArray) : (bs s).length = s.size := by unfold bs; rw [List.length_map, Array.length_toList]; rfl
/-- The text of some bytes. -/
def mkS (l : List Int) : ByteArray := strOfNums l
theorem mkS_size (l : List Int) : (mkS l).size = l.length := strOfNums_size l
def isB (x : Int) : Prop := 0 ≤ x ∧ x < 256
theorem bs_range (s : ByteArray) : ∀ x ∈ bs s, isB x := by
  intro x hx
  obtain ⟨b, _, rfl⟩ := List.mem_map.1 hx
  have := b.toNat_lt
  exact ⟨by omega, by omega⟩
theorem gt_range {l : List Int} (h : ∀ x ∈ l, isB x) (i : Int) : isB (gt l i) := by
  unfold gt
  rw [List.getD_eq_getElem?_getD]
  cases hq : l[i.toNat]? with
  | none => exact ⟨by decide, by decide⟩
  | some x => exact h x (List.mem_of_getElem? hq)
theorem mkS_bs (s : ByteArray) : mkS (bs s) = s := by
  have h : (mkS (bs s)).data.toList = s.data.toList := by
    rw [show mkS (bs s) = strOfNums (bs s) from rfl, strOfNums_data, bs, List.map_map]
    conv => rhs; rw [← List.map_id s.data.toList]
    refine List.map_congr_left fun b _ => ?_
    simp
  rcases s with ⟨d⟩
  generalize mkS (bs ⟨d⟩) = t at h
  rcases t with ⟨d'⟩
  simp at h
  rw [h]
theorem bs_mkS {l : List Int} (h : ∀ x ∈ l, isB x) : bs (mkS l) = l := by
  unfold bs
  rw [show mkS l = strOfNums l from rfl, strOfNums_data, List.map_map]
  conv => rhs; rw [← List.map_id l]
  refine List.map_congr_left fun x hx => ?_
  obtain ⟨h1, h2⟩ := h x hx
  simp only [Function.comp, id]
  rw [UInt8.toNat_ofNat']
  omega
theorem strCells_bs (s : ByteArray) : strCells s = flat eY (bs s) := by
  unfold strCells bs flat eY eI Enc.scalar
  simp [List.flatMap_map, ← List.map_eq_flatMap]
theorem bs_append (s t : ByteArray) : bs (s ++ t) = bs s ++ bs t := by
  unfold bs
  simp

/-! ### A row that is only read -/
def ro_ {α : Type} (E : Enc α) (e : Nat) (v : Value) (l : List α) : Res where
  foot := v.ownBlock.toList
  holds w := ∃ g cap, v = .slice (some ⟨g, 0, none⟩) l.length cap ∧ l.length ≤ cap ∧ cap ≤ maxLen ∧ g < w.heap.size ∧ At w g 0 (flat E l)
  stable w w' h := by
    rintro ⟨g, cap, rfl, h1, h2, h3, h4⟩
    have hb := h g (by simp [Value.ownBlock])
    refine ⟨g, cap, rfl, h1, h2, ?_, fun j u hu => ?_⟩
    · have : w.heap[g]? = some w.heap[g] := Array.getElem?_eq_getElem h3
      rw [this] at hb
      exact lt_of_some hb
    · rw [← h4 j u hu]
      exact World.cell?_of_block hb
  lt w h b hb := by
    obtain ⟨g, cap, rfl, h1, h2, h3, h4⟩ := h
    simp [Value.ownBlock] at hb
    omega
section
variable {V : Env} {P : Program} {Q : Exit → Act → World → Prop} {ops : Array Oper} {N : Nat} {o : Oper} {rest : List Oper} {L : List (Nat × Value)} {H R : List Res} {S : Nat → Prop} {wf : World} {K : St → Prop} {st : St} {C : World → Prop}
theorem At.sub {w : World} {b off : Nat} {cs : List Value} (h : At w b off cs) (k n : Nat) : At w b (off + k) ((cs.drop k).take n) := by
  intro j u hu
  rw [List.getElem?_take] at hu
  split at hu
  · rw [List.getElem?_drop] at hu
    have := h (k + j) u hu
    rw [Nat.add_assoc]; exact this
  · cases hu
theorem Fr.of_ro {α : Type} {E : Enc α} {e n c : Nat} {A : Option Addr} {l : List α} {w : World} (h : (ro_ E e (.slice A n c) l).holds w) (hS : ∀ b ∈ (ro_ E e (.slice A n c) l).foot, S b) (hl : l.length ≤ 140737488355328) : Fr E S w A l := by
  obtain ⟨g, cap, hv, h1, h2, h3, h4⟩ := h
  injection hv with hA _ _
  subst hA
  refine ⟨hl, .inr ⟨g, 0, rfl, hS g (by simp [ro_, Value.ownBlock]), fun i x hx j u hu => ?_⟩⟩
  have := h4 (i * E.sz + j) u (flat_get E l i x hx j u hu)
  rw [Nat.zero_add] at this ⊢
  exact this
theorem Fr.lento {α : Type} {E : Enc α} {e n c : Nat} {A : Option Addr} {l : List α} {wf1 : World} (hR : ∀ r ∈ R, r.holds wf1) (i : Nat) (hi : R[i]? = some (ro_ E e (.slice A n c) l)) (hl : l.length ≤ 140737488355328) : Fr E (fun b => S b ∨ b ∈ feet R) wf1 A l :=
  Fr.of_ro (hR _ (List.mem_of_getElem? hi)) (fun b hb => .inr (feet_of i hi hb)) hl
theorem Fr.lendo {α : Type} {E : Enc α} {e n c : Nat} {A : Option Addr} {l : List α} {C0 R1 : List Res} {w : World} (hw : WW V S wf (C0 ++ (R1 ++ R)) w) (i : Nat) (hi : R1[i]? = some (ro_ E e (.slice A n c) l)) (hl : l.length ≤ 140737488355328) : Fr E (fun b => S b ∨ b ∈ feet R1) w A l :=
  Fr.of_ro (hw.has _ (List.mem_append_right _ (List.mem_append_left _ (List.mem_of_getElem? hi)))) (fun b hb => .inr (feet_of i hi hb)) hl
theorem ro_adr {α : Type} {E : Enc α} {e n c : Nat} {A : Option Addr} {l : List α} (k : Nat) (hk : H[k]? = some (ro_ E e (.slice A n c) l)) {i : Int} (h0 : 0 ≤ i) (h1 : i < (l.length : Int)) : ∀ w, WW V S wf H w → A = some ⟨ab A, ao A, none⟩ := fun w hw => by
  obtain ⟨g, cap, hv, _⟩ := hw.has _ (List.mem_of_getElem? hk)
  injection hv with hA _ _
  subst hA; rfl
theorem ro_el {α : Type} [Inhabited α] {E : Enc α} {e n c : Nat} {A : Option Addr} {l : List α} (k : Nat) (hk : H[k]? = some (ro_ E e (.slice A n c) l)) {i : Int} (h0 : 0 ≤ i) (h1 : i < (l.length : Int)) : ∀ w, WW V S wf H w → At w (ab A) (ao A + i.toNat * E.sz) (E.enc (gt l i)) := fun w hw => by
  obtain ⟨g, cap, hv, _, _, _, h4⟩ := hw.has _ (List.mem_of_getElem? hk)
  injection hv with hA _ _
  subst hA
  intro j u hu
  have := h4 (i.toNat * E.sz + j) u (flat_get E l _ _ (gt_at h0 h1) j u hu)
  show w.cell? ⟨g, 0 + i.toNat * E.sz + j, none⟩ = some u
  rw [Nat.add_assoc]; exact this
theorem ro_src {α : Type} {E : Enc α} {e n c : Nat} {A : Option Addr} {l : List α} (k : Nat) (hk : H[k]? = some (ro_ E e (.slice A n c) l)) : ∀ w, WW V S wf H w → Src w A (flat E l) := fun w hw => by
  obtain ⟨g, cap, hv, _, _, _, h4⟩ := hw.has _ (List.mem_of_getElem? hk)
  injection hv with hA _ _
  subst hA
  exact .inr ⟨g, 0, rfl, h4⟩

/-- The bytes of a text, laid anew. -/
theorem st_s2b {s t e : TypeId} {x : Operand} {z : ByteArray} {d : Nat} (ho : o.op = .convert s t x) (hg : o.guard = none) (hd : o.dst = some d) (hdN : Nat.blt d N = true) (hs : P.underlying s = some .string) (ht : P.underlying t = some (.slice e)) (he : P.underlying e = some (.int .u8)) (hx : lk L x = some (.string z)) (hl : z.size ≤ 140737488355328)
    (k : ∀ b c, z.size ≤ c → c ≤ maxLen → K ⟨(d, .slice (some ⟨b, 0, none⟩) z.size c) :: L, ro_ eY e (.slice (some ⟨b, 0, none⟩) z.size c) (bs z) :: H, S, wf⟩) : OpStep V P Q ops N o ⟨L, H, S, wf⟩ K :=
  .act hg hd hdN (by simp [ho, noSel]) (by simp [ho, Op.operands, known_of hx]) fun w hw => by
    have hge := grownCap_ge w z.size 0 e
    have hcm : grownCap w z.size 0 e ≤ maxLen := grownCap_le_maxLen w z.size 0 e (by simp only [maxLen]; omega)
    have hr := run_bytes_of_string (P := P) w s t e z hs ht he
    generalize hC : bytesRow z (grownCap w z.size 0 e) = Cs at hr
    refine ⟨_, _, _, by simp only [execOp, ho, ev_of hx, Sem.run_bind, hr]; rfl, ?_, k w.heap.size _ hge hcm⟩
    have hw' := hw.drew
    refine WW.change (C := []) (R := H) (C' := [ro_ eY e (.slice (some ⟨w.heap.size, 0, none⟩) z.size (grownCap w z.size 0 e)) (bs z)]) (w := w.drew) hw' (fun b hb _ => Below.heap_alloc w.drew _ b hb) (by simp) ?_ (by simp [ro_, Value.ownBlock]) (fun b hb => .inr ?_) rfl rfl rfl
    · intro r hr
      simp only [List.mem_singleton] at hr
      subst hr
      have hat : (w.drew.alloc (.cells Cs e (Cs.size, Cs.size + 1))).heap[w.heap.size]? = some (.cells Cs e (Cs.size, Cs.size + 1)) := heap_alloc_new w.drew _
      refine ⟨w.heap.size, _, by rw [bs_len], by rw [bs_len]; exact hge, hcm, lt_of_some hat, At.of_blk hat fun j u hu => ?_⟩
      have hj : j < z.data.size := by
        have := (List.getElem?_eq_some_iff.1 hu).1
        rw [flat_length, bs_len] at this
        have h1 : j < z.size * 1 := this
        rw [Nat.mul_one] at h1
        exact h1
      rw [Nat.zero_add, ← hC, bytesRow_at z _ j hj]
      rw [← strCells_bs] at hu
      simp [strCells, List.getElem?_map] at hu
      obtain ⟨a, ha, rfl⟩ := hu
      rw [Array.getElem?_eq_getElem hj] at ha
      injection ha with ha
      rw [ha]
    · simp [ro_, Value.ownBlock] at hb
      show w.heap.size ≤ b
      omega
/-- The text of some bytes. -/
theorem ev_b2s {s t e : TypeId} {x : Operand} {A : Option Addr} {n c : Nat} {l : List Int} (ho : o.op = .convert s t x) (hs : P.underlying s = some (.slice e)) (he : P.underlying e = some (.int .u8)) (ht : P.underlying t = some .string) (hx : lk L x = some (.slice A n c)) (hn : l.length = n)
    (hm : ∀ w, C w → Src w A (flat eY l)) : Ev P C L o (.string (mkS l)) :=
  ⟨by simp [ho, noSel], by simp [ho, Op.operands, known_of hx], fun w hw => by
    rcases hm w hw with hnil | ⟨b, off, rfl, hat⟩
    · have hl : l = [] := by
        have := congrArg List.length hnil
        rw [flat_length] at this
        simp [eY, eI, Enc.scalar] at this
        exact this
      subst hl
      simp at hn
      subst hn
      cases A with
      | none =>
        have := run_convert_bytes_nil (P := P) w s e hs he 0 c t ht
        simp only [execOp, ho, ev_of hx, Sem.run_bind, this]
        rfl
      | some a =>
        have h1 : (loadCells a 0).run P w = .ok (([] : List Int).map (Value.int .u8)).toArray w := run_loadCells_list (P := P) w a [] (fun j v hj => by simp at hj)
        have h2 := run_bytesToString (P := P) w a 0 c [] h1
        have h3 := run_convert_bytes_string (P := P) w s t e (some a) 0 c hs he ht
        simp only [execOp, ho, ev_of hx, Sem.run_bind, h3, h2]
        rfl
    · have hr := run_convert_bytes_arg (P := P) w s e hs he b off n c l hn (fun i hi => by
        have h1 : (flat eY l)[i]? = some (.int .u8 (l.getD i 0)) := by
          have := flat_get eY l i (l.getD i 0) (by rw [List.getD_eq_getElem?_getD, List.getElem?_eq_getElem (by omega)]; simp) 0 (.int .u8 (l.getD i 0)) rfl
          simpa [eY, eI, Enc.scalar] using this
        exact hat i _ h1) t ht
      simp only [execOp, ho, ev_of hx, Sem.run_bind, hr]
      rfl⟩

/-- append of a text's bytes. -/
theorem st_apps {t u e : TypeId} {x y : Operand} {v : Value} {l : List Int} {s : ByteArray} {d : Nat} (ho : o.op = .call { callee := .builtin .append, args := #[x, y], argTypes := #[t, u] }) (hg : o.guard = none) (hd : o.dst = some d) (hdN : Nat.blt d N = true)
    (ht : P.underlying t = some (.slice e)) (hu : P.underlying u = some .string) (hi : (P.info? e).map (fun i => (i.zero, i.size, i.bytes)) = some (some (.int .u8 0), 1, 1))
    (hx : lk L x = some v) (hy : lk L y = some (.string s)) (hp : Pick H (rw_ eY e v l) R) (hb : l.length + s.size ≤ 140737488355328)
    (k : ∀ v', K ⟨(d, v') :: L, rw_ eY e v' (l ++ bs s) :: R, S, wf⟩) : OpStep V P Q ops N o ⟨L, H, S, wf⟩ K :=
  .act hg hd hdN (by simp [ho, noSel]) (by simp [ho, Op.operands, Call.operands, known_of hx, known_of hy]) fun w hw => by
    have h63 : l.length + s.size ≤ maxLen := by simp only [maxLen]; omega
    obtain ⟨i, hi, hq⟩ := Option.map_eq_some_iff.1 hi
    simp only [Prod.mk.injEq] at hq
    have hw' := hw.perm hp.perm
    have hown : w.ownsRow 0 e 1 v l.length (flat eY l) := hw'.has _ (List.mem_cons_self ..)
    obtain ⟨v', w', hr, h1, h2, h4⟩ := run_append_own_string (P := P) w 0 t u o.type e i ht hu hi hq.1 hq.2.1 hq.2.2 v l.length (flat eY l) hown s h63 hb (Nat.zero_le _)
    refine ⟨v', w', _, by simp only [execOp, ho, resolve, invoke, builtin, Sem.run_bind, Sem.run_pure, Result.andThen_ok, List.map_toArray, List.map_cons, List.map_nil, ev_of hx, ev_of hy, hr], ?_, k v'⟩
    have hblk : v'.ownBlock = v.ownBlock ∨ ∀ g, v'.ownBlock = some g → w.heap.size ≤ g := by
      have hh := rw_holds.1 (hw'.has _ (List.mem_cons_self ..))
      rcases hh with ⟨rfl, _⟩ | ⟨g, cap, cur, rfl, g2, g3, g4, g5, g6⟩
      · by_cases h0 : s.size = 0
        · rw [h4.2 ⟨rfl, h0⟩]; exact .inl rfl
        · have hr' := run_append_nil_string (P := P) w t u o.type e i (.int .u8 0) ht hu hi hq.1 s (by omega) (by omega) (by rw [hq.2.2]; omega)
          rw [hr] at hr'
          injection hr' with e1 _
          rw [e1]
          refine .inr fun g hg => ?_
          simp [Value.ownBlock] at hg
          omega
      · have g5' : cur.size = cap := by simpa [eY, eI, Enc.scalar] using g5
        by_cases hroom : l.length + s.size ≤ cap
        · have hr' := run_append_room_string (P := P) w t u o.type e i ht hu hi hq.2.1 g l.length cap cur g2 s hroom (by omega)
          rw [hr] at hr'
          injection hr' with e1 _
          rw [e1]; exact .inl rfl
        · have hr' := run_append_grow_string (P := P) w t u o.type e i (.int .u8 0) ht hu hi hq.1 ⟨g, 0, none⟩ l.length cap (flat eY l) (by rw [hq.2.1, flat_length]; simp [eY, eI, Enc.scalar]) (hown.cells (g := g) rfl) s (by omega) (by omega) (by rw [hq.2.2]; exact growslice_fits (by omega) (by omega))
          rw [hr] at hr'
          injection hr' with e1 _
          rw [e1]
          refine .inr fun g' hg => ?_
          simp [Value.ownBlock] at hg
          omega
    refine WW.change (C := [rw_ eY e v l]) (R := R) (C' := [rw_ eY e v' (l ++ bs s)]) hw' (fun b' hb' hn' => h2.block b' hb' (fun e => hn' ?_)) h2.size ?_ ?_ ?_ h2.os h2.tape h2.output
    · simp [rw_, row, ← e]
    · intro r hr
      simp only [List.mem_singleton] at hr
      subst hr
      show w'.ownsRow 0 e 1 v' (l ++ bs s).length (flat eY (l ++ bs s))
      rw [List.length_append, bs_len, flat_append, ← strCells_bs]
      exact h1
    · simp [rw_, row]
      cases v'.ownBlock <;> simp
    · intro b' hb'
      simp [rw_, row] at hb' ⊢
      rcases hblk with h4 | h4
      · exact .inl (by rw [← h4]; exact hb')
      · exact .inr (h4 b' hb')

/-! ### Bits -/
def bnd (k : IntKind) (x y : Int) : Int := k.wrap (BitVec.ofInt k.bits x &&& BitVec.ofInt k.bits y).toNat
def bor (k : IntKind) (x y : Int) : Int := k.wrap (BitVec.ofInt k.bits x ||| BitVec.ofInt k.bits y).toNat
theorem ev_band {t t' : TypeId} {x y : Operand} {k : IntKind} {a b : Int} (ho : o.op = .binOp .and t x y t') (hx : lk L x = some (.int k a)) (hy : lk L y = some (.int k b)) : Ev P C L o (.int k (bnd k a b)) :=
  ev_bin ho hx hy (fun w => by simp [eqGuard, binOp, Op.intBits, bnd, pure])
theorem ev_bor {t t' : TypeId} {x y : Operand} {k : IntKind} {a b : Int} (ho : o.op = .binOp .or t x y t') (hx : lk L x = some (.int k a)) (hy : lk L y = some (.int k b)) : Ev P C L o (.int k (bor k a b)) :=
  ev_bin ho hx hy (fun w => by simp [eqGuard, binOp, Op.intBits, bor, pure])
theorem ev_shr {t t' : TypeId} {x y : Operand} {k k' : IntKind} {a r : Int} {n : Int} (ho : o.op = .binOp .shr t x y t') (hx : lk L x = some (.int k a)) (hy : lk L y = some (.int k' n)) (h0 : 0 ≤ n) (hr : a.fdiv (2 ^ (min n.toNat k.bits)) = r) : Ev P C L o (.int k r) :=
  ev_bin ho hx hy (fun w => by subst hr; simp [eqGuard, binOp, Op.shift, pure, show ¬ n < 0 by omega])
theorem ev_shl {t t' : TypeId} {x y : Operand} {k k' : IntKind} {a r : Int} {n : Int} (ho : o.op = .binOp .shl t x y t') (hx : lk L x = some (.int k a)) (hy : lk L y = some (.int k' n)) (h0 : 0 ≤ n) (hr : k.wrap (a * 2 ^ (min n.toNat k.bits)) = r) : Ev P C L o (.int k r) :=
  ev_bin ho hx hy (fun w => by subst hr; simp [eqGuard, binOp, Op.shift, pure, show ¬ n < 0 by omega])

/-! ### A row of zeros -/
theorem made_ints (q : IntKind) : ∀ n, (madeCells (Value.int q 0).cells n).toList = flat (eI q) (List.replicate n 0) := by
  intro n
  have h1 : (madeCells (Value.int q 0).cells n).toList = List.replicate n (.int q 0) := by
    have hc : (Value.int q 0).cells = #[.int q 0] := rfl
    unfold madeCells
    rw [hc, Array.toList_map, Array.toList_range]
    refine List.ext_getElem (by simp) fun i h1 h2 => ?_
    simp [Nat.mod_one]
  rw [h1]
  clear h1
  induction n with
  | zero => rfl
  | succ n ih => rw [List.replicate_succ, List.replicate_succ, flat_cons, ih]; rfl
theorem st_mkints {t e : TypeId} {x y : Operand} {q kk : IntKind} {n : Nat} {a : Int} {bytes : Nat} {d : Nat} (ho : o.op = .makeSlice t x y) (hg : o.guard = none) (hd : o.dst = some d) (hdN : Nat.blt d N = true) (ht : P.underlying t = some (.slice e)) (hi : (P.info? e).map (fun i => (i.zero, i.size, i.bytes)) = some (some (.int q 0), 1, bytes))
    (hx : lk L x = some (.int kk a)) (hy : lk L y = some (.int kk a)) (ha : a = (n : Int)) (hb : n * bytes ≤ 1073741824) (hb1 : Nat.ble 1 bytes = true)
    (k : ∀ b, K ⟨(d, .slice (some ⟨b, 0, none⟩) n n) :: L, rw_ (eI q) e (.slice (some ⟨b, 0, none⟩) n n) (List.replicate n 0) :: H, S, wf⟩) : OpStep V P Q ops N o ⟨L, H, S, wf⟩ K := by
  subst ha
  have hb1 := Nat.le_of_ble_eq_true hb1
  have hn : n ≤ 1073741824 := Nat.le_trans (by have := Nat.mul_le_mul_left n hb1; omega) hb
  refine .act hg hd hdN (by simp [ho, noSel]) (by simp [ho, Op.operands, known_of hx, known_of hy]) fun w hw => ?_
  obtain ⟨i, hi, hq⟩ := Option.map_eq_some_iff.1 hi
  simp only [Prod.mk.injEq] at hq
  have hbb : ((i.bytes : Nat) : Int) * (n : Int) ≤ 281474976710656 := by
    rw [hq.2.2, ← Int.natCast_mul, Nat.mul_comm]; omega
  have hr := run_make (P := P) w t e i (.int q 0) ht hi hq.1 kk kk n n (by omega) (Int.le_refl _) hbb (by omega)
  simp only [Int.toNat_natCast, hq.2.1, Nat.mul_one] at hr
  refine ⟨_, _, _, by simp only [execOp, ho, ev_of hx, ev_of hy, Sem.run_bind, hr]; rfl, ?_, k w.heap.size⟩
  refine WW.change (C := []) (R := H) (C' := [rw_ (eI q) e (.slice (some ⟨w.heap.size, 0, none⟩) n n) (List.replicate n 0)]) hw (fun b hb _ => Below.heap_alloc w _ b hb) (by simp) ?_ (by simp [rw_, row, Value.ownBlock]) (fun b hb => .inr ?_) rfl rfl rfl
  · intro r hr
    simp only [List.mem_singleton] at hr
    subst hr
    refine rw_holds.2 (.inr ⟨w.heap.size, n, _, by rw [List.length_replicate], heap_alloc_new w _, by simp, by simp only [maxLen]; omega, by rw [size_madeCells]; simp [eI, Enc.scalar], ?_⟩)
    rw [made_ints, List.take_of_length_le (by rw [flat_length]; exact Nat.le_refl _)]
  · simp [rw_, row, Value.ownBlock] at hb
    omega
end
end Go.SX
namespace Go.SX
open Go Go.RowKit Go.Lib
section
variable {V : Env} {P : Program} {Q : Exit → Act → World → Prop} {ops : Array Oper} {N : Nat} {o : Oper} {rest : List Oper} {L : List (Nat × Value)} {H R : List Res} {S : Nat → Prop} {wf : World} {K : St → Prop} {st : St} {C : World → Prop}
theorem Src.d {A : Option Addr} {cs : List Value} {X : World → Prop} (h : ∀ w, Fz S wf w → Src w A cs) : ∀ w, (Fz S wf w ∧ X w) → Src w A cs := fun w hw => h w hw.1
theorem rng_take {l : List Int} (h : ∀ x ∈ l, isB x) (n : Nat) : ∀ x ∈ l.take n, isB x := fun x hx => h x (List.mem_of_mem_take hx)
theorem rng_drop {l : List Int} (h : ∀ x ∈ l, isB x) (n : Nat) : ∀ x ∈ l.drop n, isB x := fun x hx => h x (List.mem_of_mem_drop hx)
theorem wrap_b_i64 {x : Int} (h : isB x) : IntKind.i64.wrap x = x := wrap_in (by have := h.1; omega) (by have := h.2; omega)
theorem wrap_b_i32 {x : Int} (h : isB x) : IntKind.i32.wrap x = x := by
  obtain ⟨h1, h2⟩ := h
  simp only [IntKind.wrap, IntKind.bits, IntKind.signed, Bool.true_and]
  split <;> simp at * <;> omega
theorem wrap_b_u64 {x : Int} (h : isB x) : IntKind.u64.wrap x = x := by
  obtain ⟨h1, h2⟩ := h
  simp only [IntKind.wrap, IntKind.bits, IntKind.signed, Bool.false_and]
  simp
  omega
theorem ev_ixs {t : TypeId} {x y : Operand} {s : ByteArray} {k : IntKind} {i : Int} (ho : o.op = .index t x y) (hu : P.underlying t = some .string) (hx : lk L x = some (.string s)) (hy : lk L y = some (.int k i)) (h0 : 0 ≤ i) (h1 : i < ((bs s).length : Int)) : Ev P C L o (.int .u8 (gt (bs s) i)) :=
  ⟨by simp [ho, noSel], by simp [ho, Op.operands, known_of hx, known_of hy], fun w _ => by
    have hi : i.toNat < s.size := by rw [bs_len] at h1; omega
    have hg : gt (bs s) i = (s.data[i.toNat].toNat : Int) := by
      have h2 : i.toNat < s.data.toList.length := by rw [Array.length_toList]; exact hi
      unfold gt bs
      rw [List.getD_eq_getElem?_getD, List.getElem?_map, List.getElem?_eq_getElem h2]
      rfl
    have hs : s[i.toNat]? = some s.data[i.toNat] := by
      rw [getElem?_pos s i.toNat hi]; rfl
    simp [execOp, ho, ev_of hx, ev_of hy, Instr.index, asIntOf, run_underlying hu, h0, hs, hg]⟩
theorem wrap_small {k : IntKind} {n : Int} (h0 : 0 ≤ n) (h1 : n < 128) : k.wrap n = n := by
  cases k <;> simp only [IntKind.wrap, IntKind.bits, IntKind.signed, Bool.true_and, Bool.false_and] <;> (try split) <;> simp at * <;> omega
theorem ev_quon {t t' : TypeId} {x y : Operand} {k : IntKind} {a b : Int} (ho : o.op = .binOp .quo t x y t') (hx : lk L x = some (.int k a)) (hy : lk L y = some (.int k b)) (h0 : 0 ≤ a) (hb : 0 < b) (hw : k.wrap (a / b) = a / b) : Ev P C L o (.int k (a / b)) := by
  have h := ev_quo (P := P) (C := C) ho hx hy (by omega)
  rw [Int.tdiv_eq_ediv_of_nonneg h0, hw] at h
  exact h
theorem ev_remn {t t' : TypeId} {x y : Operand} {k : IntKind} {a b : Int} (ho : o.op = .binOp .rem t x y t') (hx : lk L x = some (.int k a)) (hy : lk L y = some (.int k b)) (h0 : 0 ≤ a) (hb : 0 < b) : Ev P C L o (.int k (a % b)) := by
  have h := ev_rem (P := P) (C := C) ho hx hy (by omega)
  rw [Int.tmod_eq_emod_of_nonneg h0] at h
  exact h
end
end Go.SX
namespace Go.SX
open Go Go.RowKit Go.Lib
section
variable {V : Env} {P : Program} {Q : Exit → Act → World → Prop} {ops : Array Oper} {N : Nat} {o : Oper} {rest : List Oper} {L : List (Nat × Value)} {H R : List Res} {S : Nat → Prop} {wf : World} {K : St → Prop} {st : St} {C : World → Prop}
/-- A part of an owned row, to be read. -/
theorem srcv {α : Type} {E : Enc α} {r : Res} {A : Option Addr} {l : List α} (k : Nat) (hk : H[k]? = some r) (hF : ∀ w, r.holds w → Fr E (fun b => b ∈ r.foot) w A l) : ∀ w, WW V S wf H w → Src w A (flat E l) := fun w hw => by
  have hr := hw.has r (List.mem_of_getElem? hk)
  exact Fr.flat (hF w hr) w (fun b hb => ⟨r.lt w hr b hb, rfl⟩)
/-- The round's end within a block. -/
theorem SQ.roundb {V : Env} {N : Nat} {st : St} {X : Type} {I : X → Prop} {Lf : X → List (Nat × Value)} {Hf : X → List Res} {Sf : X → Nat → Prop} {Wf : X → World} {μ : X → Nat} {x : X} (y : X) (hi : I y) (hm : μ y < μ x)
    (hL : ∀ k v, lkp (Lf y) k = some v → lkp st.L k = some v) (hw : ∀ w, WW V st.S st.wf st.H w → WW V (Sf y) (Wf y) (Hf y) w) :
    SQ V (fun a w => ∃ y, (I y ∧ μ y < μ x) ∧ SL N (Lf y) a ∧ WW V (Sf y) (Wf y) (Hf y) w) N st :=
  fun a w hs hw' => ⟨y, ⟨hi, hm⟩, hs.mono hL, hw w hw'⟩
end
end Go.SX
