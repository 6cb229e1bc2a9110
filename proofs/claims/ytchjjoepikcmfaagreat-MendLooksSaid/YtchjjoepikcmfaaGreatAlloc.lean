/- (*Arena).Alloc, walked. -/
import Derived.Test.YtchjjoepikcmfaaGreatLook
namespace Go.Proofs.YtchjjoepikcmfaaGreat.Tower
open Go Go.RowKit Go.Proofs.YtchjjoepikcmfaaGreatW.PrintWords Go.Proofs.YtchjjoepikcmfaaGreatW.PrintLast Go.Proofs.YtchjjoepikcmfaaGreatW.PrintMore Go.Proofs.YtchjjoepikcmfaaGreat.Own
set_option linter.unusedVariables false
set_option linter.unusedSimpArgs false

def sl0 : Sl := ⟨nd0, [], 0, false, 0, false⟩
def lv0 : Lv := ⟨.slice none 0 0, .slice none 0 0, .slice none 0 0, .slice none 0 0⟩
def u32w (n : Int) : Int := n % 4294967296
/-- The place for a new node. -/
def Ar.take (a : Ar) : Option (Nat × Ar) :=
  match a.free with
  | f :: fs => if 0 ≤ f ∧ f.toNat < a.slots.length then some (f.toNat, { a with free := fs }) else none
  | [] => some (a.slots.length, { a with slots := a.slots ++ [sl0] })
def slotOf (n : Nd) (c : Int) : Sl := ⟨n, n.ways, 0, false, c, true⟩
def Ar.put (a : Ar) (i : Nat) (n : Nd) (c : Int) : Ar := { a with slots := a.slots.set i (slotOf n c), used := wrap64 (a.used + 1) }
def Ar.alloc (a : Ar) (n : Nd) : Option ((Int × Bool) × Ar) :=
  if a.most ≤ a.used then some ((0, false), a)
  else match a.take with
    | none => none
    | some (i, a1) => match a1.slots[i]? with
      | none => none
      | some s => some ((refOf i (u32w (s.count + 1)), true), a1.put i n (u32w (s.count + 1)))

theorem exec_store {P : Program} {w : World} {a : Act} {o : Oper} {t : TypeId} {p x : Operand} {g o1 : Nat} {e : TypeId} {cur : Array Value} (u : Value) (seg : List Value) (ho : o.op = .store t p x) (hp : a.eval p = .pointer (some ⟨g, o1, none⟩)) (hx : a.eval x = u)
    (hh : w.heap[g]? = some (.cells cur e (0, 0))) (hu : u.cells.toList = seg) (ht : (P.info? t).map (·.size) = some seg.length) (hfit : o1 + seg.length ≤ cur.size) (h1 : ∀ q ∈ seg, q.oneCell' = true) : (execOp a.eval o).run P w = .ok .skip (w.setCells g o1 seg) := by
  simp [execOp, ho, hp, hx, run_store_run t u seg hh hu ht hfit h1]
theorem ArenaAt.block {ok : Nat → Prop} {pA g n cap : Nat} {fv : Value} {lv : Nat → Lv} {ρ : Nat → Nat} {a : Ar} {w : World} (h : ArenaAt ok pA (.slice (some ⟨g, 0, none⟩) n cap) fv lv ρ a w) : ∃ cur, w.heap[g]? = some (.cells cur 163 (0, 0)) ∧ a.slots.length * 10 ≤ cur.size := by
  obtain ⟨_, inner, ho, hr⟩ := h.rows
  rcases ho.2 with ⟨hv, _⟩ | ⟨g1, c1, cur, hv, hb, hh, hnc, hcm, hcs, ht⟩
  · cases hv
  · have hnl := (Kd.R_reads' h.rows).1
    injection hv with hv hn1 hc1
    injection hv with hv
    injection hv with hv _ _
    subst hv
    rw [rowsOf_length] at hnl hnc
    refine ⟨cur, hh, ?_⟩
    rw [hcs, show (Kd.raw 10).sz = 10 from rfl]
    exact Nat.mul_le_mul_right _ hnc
theorem moves_cells {ok ok1 : Nat → Prop} {w w1 : World} (h : Moves ok ok1 w w1) {g : Nat} (hg : ok g ∨ w.heap.size ≤ g) (o : Nat) (seg : List Value) : Moves ok ok1 w (w1.setCells g o seg) := by
  obtain ⟨s1, s2, s3, s4⟩ := setCells_same g seg o w1
  exact ⟨s1.trans h.os, s2.trans h.tape, s3.trans h.output, by rw [s4]; exact h.size, fun i hi hn => (setCells_far seg o i (fun e => by subst e; exact hg.elim hn (fun h2 => by omega))).trans (h.block i hi hn), h.fresh⟩
theorem SlF.nil {α : Type} (d : Kd α) (w : World) (ok : Nat → Prop) : SlF d w ok (.slice none 0 0) [] := ⟨none, 0, rfl, Nat.le_refl _, Kd.F_nil _ _ _⟩
/-- A place more. -/
theorem ArenaAt.pushed {ok : Nat → Prop} {pA : Nat} {sv fv v1 : Value} {lv : Nat → Lv} {ρ : Nat → Nat} {a : Ar} {W w1 : World} (h : ArenaAt ok pA sv fv lv ρ a W) (hg : W.grownBy w1 sv.ownBlock) (hat : v1.ownBlock = sv.ownBlock ∨ ∃ b, v1.ownBlock = some b ∧ W.heap.size ≤ b)
    (hr : (Kd.raw 10).R 163 w1 0 (fun k => (ok k ∧ ρ k = 1) ∨ W.heap.size ≤ k) v1 (rowsOf a.slots lv ++ [slotCells sl0 lv0])) :
    ArenaAt (fun k => ok k ∨ (W.heap.size ≤ k ∧ k < w1.heap.size)) pA v1 fv (fun j => if j = a.slots.length then lv0 else lv j) (fun k => if k < W.heap.size then ρ k else 1) { a with slots := a.slots ++ [sl0] } (w1.setCell ⟨pA, 0, none⟩ v1) := by
  have hpA := h.lt pA h.own
  have hs : (w1.setCell ⟨pA, 0, none⟩ v1).heap.size = w1.heap.size := by simp [World.setCell]
  have hne : ∀ r, r ≠ 1 → ∀ k, (ok k ∧ ρ k = r) → some k ≠ sv.ownBlock := fun r hr1 k hk e => by
    have := (h.rows.1 k e.symm).2
    rw [hk.2] at this
    exact hr1 this
  have hmove : ∀ r, r ≠ 1 → r ≠ 0 → ∀ k, (ok k ∧ ρ k = r) → k < W.heap.size → (w1.setCell ⟨pA, 0, none⟩ v1).heap[k]? = W.heap[k]? := fun r hr1 hr0 k hk hlt =>
    (Below.heap_setCell w1 ⟨pA, 0, none⟩ v1 k (fun e => hr0 (by rw [← hk.2, show k = pA from e, h.role]))).trans (hg.block k hlt (hne r hr1 k hk))
  have hup : ∀ r k, (ok k ∧ ρ k = r) → k < W.heap.size → ((ok k ∨ (W.heap.size ≤ k ∧ k < w1.heap.size)) ∧ (if k < W.heap.size then ρ k else 1) = r) := fun r k hk hlt => ⟨.inl hk.1, by rw [if_pos hlt]; exact hk.2⟩
  have hrows : rowsOf (a.slots ++ [sl0]) (fun j => if j = a.slots.length then lv0 else lv j) = rowsOf a.slots lv ++ [slotCells sl0 lv0] := by
    refine List.ext_getElem? fun j => ?_
    by_cases hj : j < a.slots.length
    · have hja : j < (a.slots ++ [sl0]).length := by simp; omega
      rw [List.getElem?_append_left (by rw [rowsOf_length]; exact hj)]
      have e1 : (a.slots ++ [sl0])[j]? = a.slots[j]? := List.getElem?_append_left hj
      have hjn : j ≠ a.slots.length := by omega
      simp [rowsOf, List.getElem?_zipIdx, e1, hj, hjn]
    · rw [List.getElem?_append_right (by rw [rowsOf_length]; omega), rowsOf_length]
      by_cases hj2 : j = a.slots.length
      · subst hj2
        simp [rowsOf, List.getElem?_zipIdx]
      · have e1 : (a.slots ++ [sl0])[j]? = none := List.getElem?_eq_none (by simp; omega)
        have e2 : ([slotCells sl0 lv0] : List (List Value))[j - a.slots.length]? = none := List.getElem?_eq_none (by simp; omega)
        rw [e2]
        simp [rowsOf, List.getElem?_zipIdx, e1]
  have hget : ∀ {i : Nat} {s : Sl}, (a.slots ++ [sl0])[i]? = some s → (i = a.slots.length ∧ s = sl0) ∨ (i < a.slots.length ∧ a.slots[i]? = some s) := fun {i s} h2 => by
    by_cases hi : i < a.slots.length
    · rw [List.getElem?_append_left hi] at h2
      exact .inr ⟨hi, h2⟩
    · rw [List.getElem?_append_right (by omega)] at h2
      by_cases hi2 : i = a.slots.length
      · subst hi2
        rw [Nat.sub_self] at h2
        injection h2 with h2
        exact .inl ⟨rfl, h2.symm⟩
      · rw [List.getElem?_eq_none (by simp; omega)] at h2
        cases h2
  exact {
    own := .inl h.own
    role := by rw [if_pos hpA]; exact h.role
    lt := fun k hk => by
      rw [hs]
      rcases hk with hk | hk
      · exact Nat.lt_of_lt_of_le (h.lt k hk) hg.size
      · exact hk.2
    box := by
      have h0 := blk_grown h.box hg (fun e => by have := (h.rows.1 pA e.symm).2; rw [h.role] at this; cases this)
      exact blk_set h0 0 v1
    rows := by
      rw [hrows]
      refine Kd.R_far (Kd.R_mono (Kd.R_bound hr) (fun k hk => ?_)) (fun k hk e => ?_) v1
      · have hlt := hk.2.2.1
        rcases hk.1 with h1 | h1
        · exact ⟨.inl h1.1, by rw [if_pos (h.lt k h1.1)]; exact h1.2⟩
        · exact ⟨.inr ⟨h1, hlt⟩, by rw [if_neg (by omega)]⟩
      · have := hk.2
        rw [show k = pA from e, if_pos hpA, h.role] at this
        cases this
    free := Kd.Q_mono (Kd.Q_step (Kd.Q_bound h.free) (fun k hk hlt => hmove 2 (by decide) (by decide) k hk.1 hlt)) (fun k hk => hup 2 k hk.1 (h.lt k hk.1.1))
    node := fun i s h2 => by
      rcases hget h2 with ⟨rfl, rfl⟩ | ⟨hi, h2⟩
      · rw [if_pos rfl]
        exact ⟨SlF.nil _ _ _, SlF.nil _ _ _, SlF.nil _ _ _⟩
      · rw [if_neg (by omega)]
        have hn := h.node i s h2
        exact ⟨(hn.1.step (hmove 3 (by decide) (by decide))).mono (fun k hk _ => hup 3 k hk (h.lt k hk.1)), (hn.2.1.step (hmove 3 (by decide) (by decide))).mono (fun k hk _ => hup 3 k hk (h.lt k hk.1)), (hn.2.2.step (hmove 3 (by decide) (by decide))).mono (fun k hk _ => hup 3 k hk (h.lt k hk.1))⟩
    ways := fun i s h2 => by
      rcases hget h2 with ⟨rfl, rfl⟩ | ⟨hi, h2⟩
      · rw [if_pos rfl]
        exact Kd.R_nil _ _ _ _ _
      · rw [if_neg (by omega)]
        exact Kd.R_mono (Kd.R_step (h.ways i s h2) (hmove _ (by omega) (by omega))) (fun k hk => hup _ k hk (h.lt k hk.1)) }
/-- The first of the free places is taken. -/
theorem ArenaAt.popped {ok : Nat → Prop} {pA n c : Nat} {A : Option Addr} {sv : Value} {lv : Nat → Lv} {ρ : Nat → Nat} {a : Ar} {w : World} {f : Int} {fs : List Int} (h : ArenaAt ok pA sv (.slice A n c) lv ρ a w) (hf : a.free = f :: fs) :
    ArenaAt ok pA sv (.slice (if c = 1 then A else A.map (·.add 1)) (n - 1) (c - 1)) lv ρ { a with free := fs } (w.setCell ⟨pA, 1, none⟩ (.slice (if c = 1 then A else A.map (·.add 1)) (n - 1) (c - 1))) where
  own := h.own
  role := h.role
  lt := fun k hk => by simpa [World.setCell] using h.lt k hk
  box := blk_set h.box 1 _
  rows := Kd.R_far h.rows (fun k hk e => by have := h.role; rw [← show k = pA from e, hk.2] at this; omega) _
  free := by
    have h1 := h.free
    rw [hf] at h1
    have h2 := Kd.Q_drop h1 (k := 1) (by simp)
    have h3 : (Kd.int .i64).Q 3 w 0 (fun k => ok k ∧ ρ k = 2) (.slice (if c = 1 then A else A.map (·.add 1)) (n - 1) (c - 1)) fs := by simpa [Kd.int, Kd.scalar] using h2
    exact Kd.Q_far h3 (fun k hk e => by have := h.role; rw [← show k = pA from e, hk.2] at this; omega) _
  node := fun i s hi => by
    have hn := h.node i s hi
    have hm : ∀ k, (ok k ∧ ρ k = 3) → k < w.heap.size → (w.setCell ⟨pA, 1, none⟩ (.slice (if c = 1 then A else A.map (·.add 1)) (n - 1) (c - 1))).heap[k]? = w.heap[k]? := fun k hk _ => Below.heap_setCell w ⟨pA, 1, none⟩ _ k (fun e => by have := h.role; rw [← show k = pA from e, hk.2] at this; omega)
    exact ⟨hn.1.step hm, hn.2.1.step hm, hn.2.2.step hm⟩
  ways := fun i s hi => Kd.R_far (h.ways i s hi) (fun k hk e => by have := h.role; rw [← show k = pA from e, hk.2] at this; omega) _
def TAlloc8 : Bool × List (List Nat × List Nat) := (true, [([], []), ([0], [0]), ([1], [1]), ([], []), ([3], [3]), ([4], [4]), ([5, 2], [5]), ([], []), ([7], [7]), ([8], [8]), ([9, 6], [9]), ([6, 10], [6, 10]), ([0, 1, 2, 3, 4, 5, 7, 8, 9], []), ([12, 2, 10, 0, 1, 2, 3, 4, 5, 7, 8, 9], [2, 12]), ([0, 1, 2, 3, 4, 5, 6, 7, 8, 9, 10, 11, 12, 13], []), ([14, 11, 13, 0, 1, 2, 3, 4, 5, 6, 7, 8, 9, 10, 11, 12, 13], [11, 14])])
def BAlloc8 : List Nat := [0, 1, 3, 0, 8, 24, 63, 0, 128, 384, 1023, 2047, 959, 6143, 16383, 32767]
theorem tabAlloc8 : rtab .any (opsOf Tryz.f68 8) = TAlloc8 := by kernel_rfl
theorem bitsAlloc8 : waitsOk TAlloc8.2 BAlloc8 = true := by kernel_rfl
def TAlloc10 : Bool × List (List Nat × List Nat) := (true, [([], []), ([], []), ([], []), ([2], [2]), ([3], [3]), ([4], [4]), ([], []), ([6], [6]), ([7], [7]), ([8], [8]), ([1, 5, 9], [1, 5, 9]), ([0, 0, 1, 2, 3, 4, 5, 6, 7, 8, 9, 10], [0]), ([11, 10, 5, 0, 1, 2, 3, 4, 5, 6, 7, 8, 9, 10], [10, 11])])
def BAlloc10 : List Nat := [0, 0, 0, 4, 12, 28, 0, 64, 192, 448, 1022, 2047, 4095]
theorem tabAlloc10 : rtab .any (opsOf Tryz.f68 10) = TAlloc10 := by kernel_rfl
theorem bitsAlloc10 : waitsOk TAlloc10.2 BAlloc10 = true := by kernel_rfl
def TAlloc5 : Bool × List (List Nat × List Nat) := (true, [([], []), ([], []), ([1], [1]), ([2], [2]), ([3], [3]), ([4], [4]), ([5], [5]), ([], []), ([7], [7]), ([8], [8]), ([9], [9]), ([10], [10]), ([6, 1, 2, 3, 4, 5, 6], [6]), ([0, 0, 1, 2, 3, 4, 5, 6, 7, 8, 9, 10, 11, 12], [0]), ([13, 0, 1, 2, 3, 4, 5, 6, 7, 8, 9, 10, 11, 12], [13]), ([14, 11, 12, 0, 1, 2, 3, 4, 5, 6, 7, 8, 9, 10, 11, 12], [11, 14])])
def BAlloc5 : List Nat := [0, 0, 2, 6, 14, 30, 62, 0, 128, 384, 896, 1920, 126, 8191, 16383, 32767]
theorem tabAlloc5 : rtab .any (opsOf Tryz.f68 5) = TAlloc5 := by kernel_rfl
theorem bitsAlloc5 : waitsOk TAlloc5.2 BAlloc5 = true := by kernel_rfl

theorem sl0_one : ∀ u ∈ slotCells sl0 lv0, u.oneCell' = true := by
  intro u hu
  simp only [slotCells, sl0, lv0, nd0, List.mem_cons, List.not_mem_nil, or_false] at hu
  rcases hu with rfl | rfl | rfl | rfl | rfl | rfl | rfl | rfl | rfl | rfl <;> rfl
theorem info_slot : (Tryz.prog.info? 163).map (fun i => (i.zero, i.size, i.bytes)) = some (some (.agg #[.bool false, .bool false, .slice none 0 0, .slice none 0 0, .slice none 0 0, .slice none 0 0, .int .i64 0, .bool false, .int .u32 0, .bool false]), 10, 128) := by kernel_rfl
/-- A node that is handed in: its rows are read in D. -/
def NdF (D : Nat → Prop) (n : Nd) (v : Value) (w : World) : Prop := ∃ Ap cp Ak ck Ay cy, v = .agg #[.bool n.inner, .bool n.tagged, .slice Ap n.pairs.length cp, .slice Ak n.keys.length ck, .slice Ay n.ways.length cy] ∧ n.pairs.length ≤ cp ∧ n.keys.length ≤ ck ∧ n.ways.length ≤ cy ∧ kPair.F w D Ap n.pairs.length n.pairs ∧ (Kd.int .i64).F w D Ak n.keys.length n.keys ∧ (Kd.int .i64).F w D Ay n.ways.length n.ways
structure AllocPost (ok : Nat → Prop) (pA : Nat) (r : Int) (b : Bool) (a1 : Ar) (w : World) (e : Ending) (w1 : World) : Prop where
  val : e = .returned (.tuple #[.int .i64 r, .bool b])
  out : ∃ ok1, IsArena ok1 pA a1 w1 ∧ Moves ok ok1 w w1

set_option maxHeartbeats 2000000 in
set_option maxRecDepth 100000 in
theorem alloc_full {ok : Nat → Prop} {pA : Nat} {a : Ar} (n : Nd) (v : Value) (w : World) (h : IsArena ok pA a w) (hn : NdF (fun k => ¬ ok k) n v w) (hx : a.most ≤ a.used) :
    Calls Tryz.prog 68 #[.pointer (some ⟨pA, 0, none⟩), v] w (AllocPost ok pA 0 false a w) := by
  obtain ⟨sv, fv, lv, ρ, h⟩ := h
  obtain ⟨Ap, cp, Ak, ck, Ay, cy, rfl, hcp, hck, hcy, hp, hk, hy⟩ := hn
  have h1 := h.step (w1 := w.alloc (.cells #[.bool n.inner, .bool n.tagged, .slice Ap n.pairs.length cp, .slice Ak n.keys.length ck, .slice Ay n.ways.length cy] 29)) (by simp) (fun k _ hlt => Below.heap_alloc _ _ _ hlt)
  have HI := Aside0.mk h1
  have HL := Aside0.mk h.lt
  have HB := Aside0.mk (blk_new w (.cells #[.bool n.inner, .bool n.tagged, .slice Ap n.pairs.length cp, .slice Ak n.keys.length ck, .slice Ay n.ways.length cy] 29))
  have HM := Aside0.mk ((Moves.refl ok w).alloc (.cells #[.bool n.inner, .bool n.tagged, .slice Ap n.pairs.length cp, .slice Ak n.keys.length ck, .slice Ay n.ways.length cy] 29))
  have HP := Aside0.mk (Kd.F_alloc (Kd.F_bound hp) (.cells #[.bool n.inner, .bool n.tagged, .slice Ap n.pairs.length cp, .slice Ak n.keys.length ck, .slice Ay n.ways.length cy] 29))
  have HK := Aside0.mk (Kd.F_alloc (Kd.F_bound hk) (.cells #[.bool n.inner, .bool n.tagged, .slice Ap n.pairs.length cp, .slice Ak n.keys.length ck, .slice Ay n.ways.length cy] 29))
  have HY := Aside0.mk (Kd.F_alloc (Kd.F_bound hy) (.cells #[.bool n.inner, .bool n.tagged, .slice Ap n.pairs.length cp, .slice Ak n.keys.length ck, .slice Ay n.ways.length cy] 29))
  have d1 : decide (a.used ≥ a.most) = true := decide_eq_true hx
  have d1' : decide (a.most ≤ a.used) = true := d1
  clear h h1 hp hk hy hx
  go_enter Tryz.func68, Tryz.ntmps68
  go_upto_region 1 with fail
  generalize w.alloc (.cells #[.bool n.inner, .bool n.tagged, .slice Ap n.pairs.length cp, .slice Ak n.keys.length ck, .slice Ay n.ways.length cy] 29) = w1 at HI HB HM HP HK HY ⊢
  have c2 : w1.cell? ⟨pA, 2, none⟩ = some (.int .i64 a.most) := (blk_cell HI.out.box 2).trans rfl
  have c3 : w1.cell? ⟨pA, 3, none⟩ = some (.int .i64 a.used) := (blk_cell HI.out.box 3).trans rfl
  go_quiet (fail)
  rename_i nq
  go_wp2_with fail
  go_ret2
  exact ⟨rfl, ok, ⟨_, _, _, _, HI.out.step (Nat.le_refl _) (fun _ _ _ => rfl)⟩, HM.out.drewN _⟩

set_option maxHeartbeats 2000000 in
set_option maxRecDepth 100000 in
theorem alloc_more {ok : Nat → Prop} {pA : Nat} {a : Ar} (n : Nd) (v : Value) (w : World) (h : IsArena ok pA a w) (hn : NdF (fun k => ¬ ok k) n v w) (hx : ¬ a.most ≤ a.used) (hf : a.free = []) (hl : a.slots.length < 999999) (hnp : n.pairs.length < 1000000) (hnk : n.keys.length < 1000000) (hny : n.ways.length < 1000000) (a7 : Ar) (ha7 : { a with slots := a.slots ++ [sl0] } = a7) (s7 : Sl) (hs7 : sl0 = s7) :
    Calls Tryz.prog 68 #[.pointer (some ⟨pA, 0, none⟩), v] w (AllocPost ok pA (refOf a.slots.length (u32w (s7.count + 1))) true (a7.put a.slots.length n (u32w (s7.count + 1))) w) := by
  obtain ⟨sv, fv, lv, ρ, h⟩ := h
  obtain ⟨Ap, cp, Ak, ck, Ay, cy, rfl, hcp, hck, hcy, hp, hk, hy⟩ := hn
  have h1 := h.step (w1 := w.alloc (.cells #[.bool n.inner, .bool n.tagged, .slice Ap n.pairs.length cp, .slice Ak n.keys.length ck, .slice Ay n.ways.length cy] 29)) (by simp) (fun k _ hlt => Below.heap_alloc _ _ _ hlt)
  have HI := Aside0.mk h1
  have HL := Aside0.mk h.lt
  have HB := Aside0.mk (blk_new w (.cells #[.bool n.inner, .bool n.tagged, .slice Ap n.pairs.length cp, .slice Ak n.keys.length ck, .slice Ay n.ways.length cy] 29))
  have HM := Aside0.mk ((Moves.refl ok w).alloc (.cells #[.bool n.inner, .bool n.tagged, .slice Ap n.pairs.length cp, .slice Ak n.keys.length ck, .slice Ay n.ways.length cy] 29))
  have HP := Aside0.mk (Kd.F_alloc (Kd.F_bound hp) (.cells #[.bool n.inner, .bool n.tagged, .slice Ap n.pairs.length cp, .slice Ak n.keys.length ck, .slice Ay n.ways.length cy] 29))
  have HK := Aside0.mk (Kd.F_alloc (Kd.F_bound hk) (.cells #[.bool n.inner, .bool n.tagged, .slice Ap n.pairs.length cp, .slice Ak n.keys.length ck, .slice Ay n.ways.length cy] 29))
  have HY := Aside0.mk (Kd.F_alloc (Kd.F_bound hy) (.cells #[.bool n.inner, .bool n.tagged, .slice Ap n.pairs.length cp, .slice Ak n.keys.length ck, .slice Ay n.ways.length cy] 29))
  have d1 : decide (a.used ≥ a.most) = false := decide_eq_false hx
  have d1' : decide (a.most ≤ a.used) = false := d1
  clear h h1 hp hk hy hx
  go_enter Tryz.func68, Tryz.ntmps68
  go_upto_region 1 with fail
  generalize w.alloc (.cells #[.bool n.inner, .bool n.tagged, .slice Ap n.pairs.length cp, .slice Ak n.keys.length ck, .slice Ay n.ways.length cy] 29) = w1 at HI HB HM HP HK HY ⊢
  have c2 : w1.cell? ⟨pA, 2, none⟩ = some (.int .i64 a.most) := (blk_cell HI.out.box 2).trans rfl
  have c3 : w1.cell? ⟨pA, 3, none⟩ = some (.int .i64 a.used) := (blk_cell HI.out.box 3).trans rfl
  go_quiet (fail)
  rename_i nq
  have HI2 := Aside0.mk (HI.out.step (w1 := w1.drewN nq) (Nat.le_refl _) (fun _ _ _ => rfl))
  have HB2 := Aside0.mk (blk_drewN HB.out nq)
  have HM2 := Aside0.mk (HM.out.drewN nq)
  have HP2 := Aside0.mk (Kd.F_drewN HP.out nq)
  have HK2 := Aside0.mk (Kd.F_drewN HK.out nq)
  have HY2 := Aside0.mk (Kd.F_drewN HY.out nq)
  clear HI HB HM HP HK HY c2 c3 d1 d1'
  generalize w1.drewN nq = w2 at HI2 HB2 HM2 HP2 HK2 HY2 ⊢
  obtain ⟨ad, cap, rfl⟩ := Kd.R_slice HI2.out.rows
  obtain ⟨Af, cf, rfl, hcf⟩ := Kd.Q_slice HI2.out.free
  rw [rowsOf_length] at HI2
  have c0 : w2.cell? ⟨pA, 0, none⟩ = some (.slice ad a.slots.length cap) := (blk_cell HI2.out.box 0).trans rfl
  have c1 : w2.cell? ⟨pA, 1, none⟩ = some (.slice Af 0 cf) := (blk_cell HI2.out.box 1).trans (by rw [hf]; rfl)
  have HF := Aside0.mk hf
  have HCF := Aside0.mk hcf
  clear hf hcf
  go_upto_region 6 with fail
  go_upto_region 7 with ((with_reducible refine gate_builtin (b := .append) (xs := #[.tmp 50, .tmp 52]) rfl ?_); at_builtin; refine Kd.R_append (Kd.raw 10) (w0 := w2) 0 rfl (.tmp 50) (.tmp 52) 113 163 _ 128 rfl Tryz.underlying113 info_slot rfl (by decide) (by decide) (.slice ad a.slots.length cap) (rowsOf a.slots lv) (slotCells sl0 lv0) (slotCells sl0 lv0) (fun k => (ok k ∧ ρ k = 1) ∨ w2.heap.size ≤ k) (fun _ => False) rfl rfl ⟨rfl, rfl, sl0_one⟩ (fun _ hk => hk.elim) (fun k hk => .inr hk) (Kd.R_mono HI2.out.rows (fun k hk => .inl hk)) (Below.refl _ _) (Nat.zero_le _) (by rw [rowsOf_length]; omega) ?_; intro v5 w5 ho hb5 hg hat; have m0_ := Aside0.mk ho; have m1_ := Aside0.mk hg; have m2_ := Aside0.mk hat; have hne : some pA ≠ (Value.slice ad a.slots.length cap).ownBlock := (fun e => by have := (HI2.out.rows.1 pA e.symm).2; rw [HI2.out.role] at this; cases this); have f0 : w5.frozen? ⟨pA, 0, none⟩ = false := blk_frozen (blk_grown HI2.out.box hg hne) 0; have c0 := (blk_cell (blk_grown HI2.out.box hg hne) 0).trans (rfl : _ = some (Value.slice ad a.slots.length cap)); obtain ⟨ad5, cap5, rfl⟩ := Kd.R_slice ho; clear ho hg hat hb5 hne)
  have hlen : (rowsOf a.slots lv ++ [slotCells sl0 lv0]).length = (rowsOf a.slots lv).length + 1 := by simp
  rw [hlen] at m0_ m2_
  have q0_ := Aside0.mk (HI2.out.pushed m1_.out m2_.out m0_.out)
  have q1_ : Aside0 (Moves ok (fun k => ok k ∨ (w2.heap.size ≤ k ∧ k < w5.heap.size)) w (w5.setCell ⟨pA, 0, none⟩ (.slice ad5 ((rowsOf a.slots lv).length + 1) cap5))) := ⟨((HM2.out.grown m1_.out (fun k hk => .inl (HI2.out.rows.1 k hk).1)).set (p := ⟨pA, 0, none⟩) (.inl HI2.out.own) _).owns (fun k hk => hk.elim .inl (fun h1 => .inr (by have := HM2.out.size; omega)))⟩
  have hnb : some w.heap.size ≠ (Value.slice ad a.slots.length cap).ownBlock := fun e => by have := HL.out _ (HI2.out.rows.1 _ e.symm).1; omega
  have hpb : w.heap.size ≠ pA := fun e => by have := HL.out pA HI2.out.own; omega
  have q2_ := Aside0.mk (blk_far (blk_grown HB2.out m1_.out hnb) (p := ⟨pA, 0, none⟩) hpb (.slice ad5 ((rowsOf a.slots lv).length + 1) cap5))
  have hdk : ∀ k, (¬ ok k ∧ k < w.heap.size) → some k ≠ (Value.slice ad a.slots.length cap).ownBlock := fun k hk e => hk.1 (HI2.out.rows.1 k e.symm).1
  have hdp : ∀ k, (¬ ok k ∧ k < w.heap.size) → k ≠ pA := fun k hk e => hk.1 (e ▸ HI2.out.own)
  have q3_ := Aside0.mk (Kd.F_far (Kd.F_grown HP2.out m1_.out hdk) (p := ⟨pA, 0, none⟩) hdp (.slice ad5 ((rowsOf a.slots lv).length + 1) cap5))
  have q4_ := Aside0.mk (Kd.F_far (Kd.F_grown HK2.out m1_.out hdk) (p := ⟨pA, 0, none⟩) hdp (.slice ad5 ((rowsOf a.slots lv).length + 1) cap5))
  have q5_ := Aside0.mk (Kd.F_far (Kd.F_grown HY2.out m1_.out hdk) (p := ⟨pA, 0, none⟩) hdp (.slice ad5 ((rowsOf a.slots lv).length + 1) cap5))
  have q6_ : Aside0 (¬ (ok w.heap.size ∨ (w2.heap.size ≤ w.heap.size ∧ w.heap.size < w5.heap.size))) := ⟨fun hh => hh.elim (fun h1 => by have := HL.out _ h1; omega) (fun h1 => by have := blk_lt HB2.out; omega)⟩
  have hi7 : Aside0 (a7.slots[a.slots.length]? = some s7) := ⟨by rw [← ha7, ← hs7]; simp⟩
  rw [ha7] at q0_
  have hl7 : Aside0 ((rowsOf a.slots lv).length = a.slots.length) := ⟨rowsOf_length _ _⟩
  clear HI2 HB2 HM2 HP2 HK2 HY2 m0_ m1_ m2_ hnb hpb hdk hdp c0 c1 f0 hlen
  rw [hl7.out] at q0_ q1_ q2_ q3_ q4_ q5_ ⊢
  generalize w5.setCell ⟨pA, 0, none⟩ (.slice ad5 (a.slots.length + 1) cap5) = w7 at q0_ q1_ q2_ q3_ q4_ q5_ ⊢
  generalize hok7 : (fun k => ok k ∨ (w2.heap.size ≤ k ∧ k < w5.heap.size)) = ok7 at q0_ q1_
  have q6_ : Aside0 (¬ ok7 w.heap.size) := ⟨by rw [← hok7]; exact q6_.out⟩
  generalize (fun j => if j = a.slots.length then lv0 else lv j) = lv7 at q0_
  generalize (fun k => if k < w2.heap.size then ρ k else 1) = ρ7 at q0_
  generalize Value.slice Af a.free.length cf = fv7 at q0_
  clear hok7
  obtain ⟨hn7, g, rfl, hg, hρ, hcc, hfz⟩ := q0_.out.cells hi7.out
  have HG := Aside0.mk hg
  have HR := Aside0.mk hρ
  have HN7 := Aside0.mk hn7
  have HIL := Aside0.mk (List.getElem?_eq_some_iff.1 hi7.out).1
  have hb : w.heap.size < w7.heap.size := blk_lt q2_.out
  have HBL := Aside0.mk hb
  have hL7 := Aside0.mk q0_.out.lt
  have c0 := (blk_cell q0_.out.box 0).trans (rfl : _ = some (Value.slice (some ⟨g, 0, none⟩) _ _))
  have b1 : (0 : Int) ≤ ((a.slots.length : Nat) : Int) := by omega
  have b2 : ((a.slots.length : Nat) : Int) < (((a.slots.length + 1) : Nat) : Int) := by omega
  clear hg hρ hn7 hcc hfz hb
  go_upto_region 8 with fail
  clear c0
  generalize hbb : w.heap.size = b at q2_ q6_ HBL ⊢
  have HBB := Aside0.mk hbb
  clear hbb
  refine start_ (n := 16) (S := fun w' => w'.cell? ⟨b, 2, none⟩ = some (.slice Ap n.pairs.length cp) ∧ w'.cell? ⟨b, 3, none⟩ = some (.slice Ak n.keys.length ck) ∧ w'.cell? ⟨b, 4, none⟩ = some (.slice Ay n.ways.length cy)) (ds := [13, 15]) #[false, false, false, false, false, false, false, false, false, false, false, false, false, false, false, false] (by kernel_rfl) rfl rfl ⟨(blk_cell q2_.out 2).trans rfl, (blk_cell q2_.out 3).trans rfl, (blk_cell q2_.out 4).trans rfl⟩ (fun hHeld => ?_); refine with_tabW tabAlloc8 bitsAlloc8 (fun HT_ HW_ => ?_)
  have q0_ := Aside0.mk (q0_.out.step (w1 := w7.drew) (Nat.le_refl _) (fun _ _ _ => rfl))
  have q1_ := Aside0.mk q1_.out.drew
  have q2_ := Aside0.mk (blk_drew q2_.out)
  have q3_ := Aside0.mk (Kd.F_drew q3_.out)
  have q4_ := Aside0.mk (Kd.F_drew q4_.out)
  have q5_ := Aside0.mk (Kd.F_drew q5_.out)
  have HBL : Aside0 (b < w7.drew.heap.size) := HBL
  have hL7 : Aside0 (∀ k, ok7 k → k < w7.drew.heap.size) := hL7
  generalize World.drew _ = w3 at q0_ q1_ q2_ q3_ q4_ q5_ HBL hL7 hHeld ⊢
  refine pure_ (i := 0) (N := (some 62)) (v := ?_) (a' := ?_) #[true, false, false, false, false, false, false, false, false, false, false, false, false, false, false, false] rfl rfl (any_of HT_.out (by kernel_rfl)) (fun _ _ _ h => h) (Or.inl ⟨by rfl, ?_⟩) ?_ ?_
  rotate_left
  · intro w'
    go_simp
    with_reducible rfl
  rotate_left
  · simp only [Act.put, List.setIfInBounds_toArray, List.set_cons_zero, List.set_cons_succ, i64_w, i32_w]
    rfl
  refine take_ (i := 1) (N := (some 63)) (v := ?_) (a' := ?_) #[true, true, false, false, false, false, false, false, false, false, false, false, false, false, false, false] rfl rfl (take_ofW HT_.out HW_.out (by kernel_rfl)) (fun _ _ _ h => h) (Or.inl ⟨by rfl, ?_⟩) hHeld ?_ ?_
  rotate_left
  · rintro w' ⟨s0, s1, s2⟩
    go_simp
    with_reducible rfl
  rotate_left
  · simp only [Act.put, List.setIfInBounds_toArray, List.set_cons_zero, List.set_cons_succ, i64_w, i32_w]
    rfl
  refine pure_ (i := 3) (N := (some 65)) (v := ?_) (a' := ?_) #[true, true, false, true, false, false, false, false, false, false, false, false, false, false, false, false] rfl rfl (any_of HT_.out (by kernel_rfl)) (fun _ _ _ h => h) (Or.inl ⟨by rfl, ?_⟩) ?_ ?_
  rotate_left
  · intro w'
    go_simp
    with_reducible rfl
  rotate_left
  · simp only [Act.put, List.setIfInBounds_toArray, List.set_cons_zero, List.set_cons_succ, i64_w, i32_w]
    rfl
  refine pure_ (i := 4) (N := (some 66)) (v := ?_) (a' := ?_) #[true, true, false, true, true, false, false, false, false, false, false, false, false, false, false, false] rfl rfl (any_of HT_.out (by kernel_rfl)) (fun _ _ _ h => h) (Or.inl ⟨by rfl, ?_⟩) ?_ ?_
  rotate_left
  · intro w'
    go_simp
    with_reducible rfl
  rotate_left
  · simp only [Act.put, List.setIfInBounds_toArray, List.set_cons_zero, List.set_cons_succ, i64_w, i32_w]
    rfl
  refine take_ (i := 5) (N := (some 67)) (v := ?_) (a' := ?_) #[true, true, false, true, true, true, false, false, false, false, false, false, false, false, false, false] rfl rfl (take_ofW HT_.out HW_.out (by kernel_rfl)) (fun _ _ _ h => h) (Or.inl ⟨by rfl, ?_⟩) hHeld ?_ ?_
  rotate_left
  · rintro w' ⟨s0, s1, s2⟩
    go_simp
    with_reducible rfl
  rotate_left
  · simp only [Act.put, List.setIfInBounds_toArray, List.set_cons_zero, List.set_cons_succ, i64_w, i32_w]
    rfl
  refine pure_ (i := 7) (N := (some 69)) (v := ?_) (a' := ?_) #[true, true, false, true, true, true, false, true, false, false, false, false, false, false, false, false] rfl rfl (any_of HT_.out (by kernel_rfl)) (fun _ _ _ h => h) (Or.inl ⟨by rfl, ?_⟩) ?_ ?_
  rotate_left
  · intro w'
    go_simp
    with_reducible rfl
  rotate_left
  · simp only [Act.put, List.setIfInBounds_toArray, List.set_cons_zero, List.set_cons_succ, i64_w, i32_w]
    rfl
  refine pure_ (i := 8) (N := (some 70)) (v := ?_) (a' := ?_) #[true, true, false, true, true, true, false, true, true, false, false, false, false, false, false, false] rfl rfl (any_of HT_.out (by kernel_rfl)) (fun _ _ _ h => h) (Or.inl ⟨by rfl, ?_⟩) ?_ ?_
  rotate_left
  · intro w'
    go_simp
    with_reducible rfl
  rotate_left
  · simp only [Act.put, List.setIfInBounds_toArray, List.set_cons_zero, List.set_cons_succ, i64_w, i32_w]
    rfl
  refine take_ (i := 9) (N := (some 71)) (v := ?_) (a' := ?_) #[true, true, false, true, true, true, false, true, true, true, false, false, false, false, false, false] rfl rfl (take_ofW HT_.out HW_.out (by kernel_rfl)) (fun _ _ _ h => h) (Or.inl ⟨by rfl, ?_⟩) hHeld ?_ ?_
  rotate_left
  · rintro w' ⟨s0, s1, s2⟩
    go_simp
    with_reducible rfl
  rotate_left
  · simp only [Act.put, List.setIfInBounds_toArray, List.set_cons_zero, List.set_cons_succ, i64_w, i32_w]
    rfl
  refine one_ (i := 2) (N := (some 64)) #[true, true, true, true, true, true, false, true, true, true, false, false, false, false, false, false] rfl rfl (one_of HT_.out (by kernel_rfl)) (by decide) (fun K_ hK => ?_)
  refine call_ 102 #[.slice Ap n.pairs.length cp] (by rfl) rfl ?hrun2 ?_
  (case hrun2 => first | (go_simp; done) | (go_simp; exact enters Tryz.func102 (by kernel_rfl) rfl _ _))
  refine (clone_pairs Ap n.pairs.length cp n.pairs _ (Kd.F_now q3_.out) hnp).mono ?_
  rintro e w4 ⟨v4, rfl, hR4, hB4⟩
  obtain ⟨A4, cc4, rfl⟩ := Kd.R_slice hR4
  have mr_ := Aside0.mk hR4
  have mb_ := Aside0.mk hB4
  have m2_ := Aside0.mk (blk_below q2_.out hB4)
  have m4_ := Aside0.mk (Kd.F_below q4_.out hB4)
  have m5_ := Aside0.mk (Kd.F_below q5_.out hB4)
  clear hR4 hB4
  refine ⟨_, rfl, ?_⟩
  refine hK.out _ _ ⟨(blk_cell m2_.out 2).trans rfl, (blk_cell m2_.out 3).trans rfl, (blk_cell m2_.out 4).trans rfl⟩ (fun hHeld => ?_)
  clear hK K_
  refine norm_ (a' := ?_) ?_ ?_
  rotate_left
  · show Act.put _ (some 64) _ = _
    simp only [Act.put, List.setIfInBounds_toArray, List.set_cons_zero, List.set_cons_succ, i64_w, i32_w]
    rfl
  refine pure_ (i := 12) (N := (some 74)) (v := ?_) (a' := ?_) #[true, true, true, true, true, true, false, true, true, true, false, false, true, false, false, false] rfl rfl (any_of HT_.out (by kernel_rfl)) (fun _ _ _ h => h) (Or.inl ⟨by rfl, ?_⟩) ?_ ?_
  rotate_left
  · intro w'
    go_simp
    with_reducible rfl
  rotate_left
  · simp only [Act.put, List.setIfInBounds_toArray, List.set_cons_zero, List.set_cons_succ, i64_w, i32_w]
    rfl
  refine one_ (i := 6) (N := (some 68)) #[true, true, true, true, true, true, true, true, true, true, false, false, true, false, false, false] rfl rfl (one_of HT_.out (by kernel_rfl)) (by decide) (fun K_ hK => ?_)
  refine call_ 103 #[.slice Ak n.keys.length ck] (by rfl) rfl ?hrun6 ?_
  (case hrun6 => first | (go_simp; done) | (go_simp; exact enters Tryz.func103 (by kernel_rfl) rfl _ _))
  refine (clone_keys Ak n.keys.length ck n.keys _ (Kd.F_now m4_.out) hnk).mono ?_
  rintro e w5 ⟨v5, rfl, hR5, hB5⟩
  obtain ⟨A5, cc5, rfl⟩ := Kd.R_slice hR5
  have jr_ := Aside0.mk hR5
  have jb_ := Aside0.mk hB5
  have j2_ := Aside0.mk (blk_below m2_.out hB5)
  have j5_ := Aside0.mk (Kd.F_below m5_.out hB5)
  clear hR5 hB5
  refine ⟨_, rfl, ?_⟩
  refine hK.out _ _ ⟨(blk_cell j2_.out 2).trans rfl, (blk_cell j2_.out 3).trans rfl, (blk_cell j2_.out 4).trans rfl⟩ (fun hHeld => ?_)
  clear hK K_
  refine norm_ (a' := ?_) ?_ ?_
  rotate_left
  · show Act.put _ (some 68) _ = _
    simp only [Act.put, List.setIfInBounds_toArray, List.set_cons_zero, List.set_cons_succ, i64_w, i32_w]
    rfl
  refine one_ (i := 10) (N := (some 72)) #[true, true, true, true, true, true, true, true, true, true, true, false, true, false, false, false] rfl rfl (one_of HT_.out (by kernel_rfl)) (by decide) (fun K_ hK => ?_)
  refine call_ 104 #[.slice Ay n.ways.length cy] (by rfl) rfl ?hrun10 ?_
  (case hrun10 => first | (go_simp; done) | (go_simp; exact enters Tryz.func104 (by kernel_rfl) rfl _ _))
  refine (clone_ways Ay n.ways.length cy n.ways _ (Kd.F_now j5_.out) hny).mono ?_
  rintro e w6 ⟨v6, rfl, hR6, hB6⟩
  obtain ⟨A6, cc6, rfl⟩ := Kd.R_slice hR6
  have ir_ := Aside0.mk hR6
  have ib_ := Aside0.mk hB6
  have i2_ := Aside0.mk (blk_below j2_.out hB6)
  clear hR6 hB6
  refine ⟨_, rfl, ?_⟩
  refine hK.out _ _ ⟨(blk_cell i2_.out 2).trans rfl, (blk_cell i2_.out 3).trans rfl, (blk_cell i2_.out 4).trans rfl⟩ (fun hHeld => ?_)
  clear hK K_
  refine norm_ (a' := ?_) ?_ ?_
  rotate_left
  · show Act.put _ (some 72) _ = _
    simp only [Act.put, List.setIfInBounds_toArray, List.set_cons_zero, List.set_cons_succ, i64_w, i32_w]
    rfl
  refine pure_ (i := 11) (N := (some 73)) (v := ?_) (a' := ?_) #[true, true, true, true, true, true, true, true, true, true, true, true, true, false, false, false] rfl rfl (any_of HT_.out (by kernel_rfl)) (fun _ _ _ h => h) (Or.inl ⟨by rfl, ?_⟩) ?_ ?_
  rotate_left
  · intro w'
    go_simp
    with_reducible rfl
  rotate_left
  · simp only [Act.put, List.setIfInBounds_toArray, List.set_cons_zero, List.set_cons_succ, i64_w, i32_w]
    rfl
  have z2 := blk_frozen i2_.out 2
  have z3 := blk_frozen i2_.out 3
  have z4 := blk_frozen i2_.out 4
  refine last_ (i := 13) (N := none) #[true, true, true, true, true, true, true, true, true, true, true, true, true, true, false, false] rfl rfl (one_of HT_.out (by kernel_rfl)) (by decide) (fun K_ hK => ?_)
  refine skip_ (w1 := ?_) (by rfl) rfl ?_ ?_
  rotate_left
  · go_simp
    rfl
  refine hK.out _ _ ?_
  clear hK K_
  refine pure_ (i := 14) (N := (some 75)) (v := ?_) (a' := ?_) #[true, true, true, true, true, true, true, true, true, true, true, true, true, true, true, false] rfl rfl (any_of HT_.out (by kernel_rfl)) (fun _ _ _ h => h) (Or.inl ⟨by rfl, ?_⟩) ?_ ?_
  rotate_left
  · intro w'
    go_simp
    with_reducible rfl
  rotate_left
  · simp only [Act.put, List.setIfInBounds_toArray, List.set_cons_zero, List.set_cons_succ, i64_w, i32_w]
    rfl
  refine last_ (i := 15) (N := none) #[true, true, true, true, true, true, true, true, true, true, true, true, true, true, true, true] rfl rfl (one_of HT_.out (by kernel_rfl)) (by decide) (fun K_ hK => ?_)
  refine skip_ (w1 := ?_) (by rfl) rfl ?_ ?_
  rotate_left
  · go_simp
    rfl
  refine hK.out _ _ ?_
  clear hK K_
  refine done_ (done_of HT_.out (by kernel_rfl)) ?_
  have B36 := below_then (below_then mb_.out mb_.out.size jb_.out) (below_then mb_.out mb_.out.size jb_.out).size ib_.out
  have hnb : ∀ k, ok7 k → k ≠ b := fun k hk e => q6_.out (e ▸ hk)
  have a6_ := q0_.out.step (w1 := w6) B36.size (fun k _ hlt => B36.block k hlt)
  have q0_ := Aside0.mk (a6_.step (w1 := ((w6.setCell ⟨b, 2, none⟩ (.slice A4 n.pairs.length cc4)).setCell ⟨b, 3, none⟩ (.slice A5 n.keys.length cc5)).setCell ⟨b, 4, none⟩ (.slice A6 n.ways.length cc6)) (by simp [World.setCell]) (fun k hk _ => (Below.heap_setCell _ ⟨b, 4, none⟩ _ k (hnb k hk)).trans ((Below.heap_setCell _ ⟨b, 3, none⟩ _ k (hnb k hk)).trans (Below.heap_setCell _ ⟨b, 2, none⟩ _ k (hnb k hk)))))
  have q2_ := Aside0.mk (blk_set (blk_set (blk_set i2_.out 2 (.slice A4 n.pairs.length cc4)) 3 (.slice A5 n.keys.length cc5)) 4 (.slice A6 n.ways.length cc6))
  have hbw : w.heap.size ≤ b := by rw [HBB.out]; exact Nat.le_refl _
  have q1_ := Aside0.mk ((((q1_.out.below B36).set (p := ⟨b, 2, none⟩) (.inr hbw) (.slice A4 n.pairs.length cc4)).set (p := ⟨b, 3, none⟩) (.inr hbw) (.slice A5 n.keys.length cc5)).set (p := ⟨b, 4, none⟩) (.inr hbw) (.slice A6 n.ways.length cc6))
  have hlt3 := HBL.out
  have hq : ∀ N, w3.heap.size ≤ N → ∀ q, N ≤ q → q ≠ b := fun N h1 q h2 => by omega
  have p4_ := Aside0.mk (Kd.R_far (Kd.R_far (Kd.R_far (Kd.R_below (Kd.R_below mr_.out jb_.out) ib_.out) (p := ⟨b, 2, none⟩) (hq _ (Nat.le_refl _)) (.slice A4 n.pairs.length cc4)) (p := ⟨b, 3, none⟩) (hq _ (Nat.le_refl _)) (.slice A5 n.keys.length cc5)) (p := ⟨b, 4, none⟩) (hq _ (Nat.le_refl _)) (.slice A6 n.ways.length cc6))
  have p5_ := Aside0.mk (Kd.R_far (Kd.R_far (Kd.R_far (Kd.R_below jr_.out ib_.out) (p := ⟨b, 2, none⟩) (hq _ mb_.out.size) (.slice A4 n.pairs.length cc4)) (p := ⟨b, 3, none⟩) (hq _ mb_.out.size) (.slice A5 n.keys.length cc5)) (p := ⟨b, 4, none⟩) (hq _ mb_.out.size) (.slice A6 n.ways.length cc6))
  have p6_ := Aside0.mk (Kd.R_far (Kd.R_far (Kd.R_far ir_.out (p := ⟨b, 2, none⟩) (hq _ (Nat.le_trans mb_.out.size jb_.out.size)) (.slice A4 n.pairs.length cc4)) (p := ⟨b, 3, none⟩) (hq _ (Nat.le_trans mb_.out.size jb_.out.size)) (.slice A5 n.keys.length cc5)) (p := ⟨b, 4, none⟩) (hq _ (Nat.le_trans mb_.out.size jb_.out.size)) (.slice A6 n.ways.length cc6))
  have hLT7 : Aside0 (∀ k, ok7 k → k < w3.heap.size) := ⟨fun k hk => by have := q0_.out.lt k hk; exact hL7.out k hk⟩
  have l4_ := Aside0.mk mb_.out.size
  have l5_ := Aside0.mk jb_.out.size
  have l6_ := Aside0.mk ib_.out.size
  have s6_ : Aside0 ((((w6.setCell ⟨b, 2, none⟩ (.slice A4 n.pairs.length cc4)).setCell ⟨b, 3, none⟩ (.slice A5 n.keys.length cc5)).setCell ⟨b, 4, none⟩ (.slice A6 n.ways.length cc6)).heap.size = w6.heap.size) := ⟨by simp [World.setCell]⟩
  clear hq hlt3 hbw hnb B36 a6_ hHeld z2 z3 z4
  generalize ((w6.setCell ⟨b, 2, none⟩ (.slice A4 n.pairs.length cc4)).setCell ⟨b, 3, none⟩ (.slice A5 n.keys.length cc5)).setCell ⟨b, 4, none⟩ (.slice A6 n.ways.length cc6) = w8 at q0_ q1_ q2_ p4_ p5_ p6_ s6_ ⊢
  obtain ⟨_, g', e', _, _, hcc, hfz⟩ := q0_.out.cells hi7.out
  injection e' with e'
  injection e' with e' _ _
  subst e'
  have c8 := hcc 8 _ rfl
  have z8 := hfz 8
  have HC := Aside0.mk hcc
  clear hcc hfz
  go_upto_region 10 with fail
  have hN8 := q0_.out.node _ _ hi7.out
  have hW8 := q0_.out.ways _ _ hi7.out
  have q0_ := Aside0.mk (q0_.out.seg hi7.out 8 [.int .u32 ((s7.count + 1) % 4294967296)] (by simp) { s7 with count := (s7.count + 1) % 4294967296 } lv7 (fun _ _ => rfl) rfl hN8 hW8)
  have hgb : b ≠ g := fun e => q6_.out (e ▸ HG.out)
  have q2_ := Aside0.mk (blk_far q2_.out (p := ⟨g, a.slots.length * 10 + 8, none⟩) hgb (.int .u32 ((s7.count + 1) % 4294967296)))
  have q1_ := Aside0.mk (q1_.out.set (p := ⟨g, a.slots.length * 10 + 8, none⟩) (q1_.out.fresh g HG.out) (.int .u32 ((s7.count + 1) % 4294967296)))
  have hq : ∀ N, w3.heap.size ≤ N → ∀ q, N ≤ q → q ≠ g := fun N h1 q h2 e => by have := hL7.out g HG.out; omega
  have p4_ := Aside0.mk (Kd.R_far p4_.out (p := ⟨g, a.slots.length * 10 + 8, none⟩) (hq _ (Nat.le_refl _)) (.int .u32 ((s7.count + 1) % 4294967296)))
  have p5_ := Aside0.mk (Kd.R_far p5_.out (p := ⟨g, a.slots.length * 10 + 8, none⟩) (hq _ l4_.out) (.int .u32 ((s7.count + 1) % 4294967296)))
  have p6_ := Aside0.mk (Kd.R_far p6_.out (p := ⟨g, a.slots.length * 10 + 8, none⟩) (hq _ (Nat.le_trans l4_.out l5_.out)) (.int .u32 ((s7.count + 1) % 4294967296)))
  have s6_ : Aside0 ((w8.setCell ⟨g, a.slots.length * 10 + 8, none⟩ (.int .u32 ((s7.count + 1) % 4294967296))).heap.size = w6.heap.size) := ⟨by rw [← s6_.out]; simp [World.setCell]⟩
  have q0_ : Aside0 (ArenaAt ok7 pA _ fv7 lv7 ρ7 _ (w8.setCell ⟨g, a.slots.length * 10 + 8, none⟩ (.int .u32 ((s7.count + 1) % 4294967296)))) := q0_
  clear hgb hN8 hW8 c8 z8 HC
  generalize w8.setCell ⟨g, a.slots.length * 10 + 8, none⟩ (.int .u32 ((s7.count + 1) % 4294967296)) = w9 at q0_ q1_ q2_ p4_ p5_ p6_ s6_ ⊢
  generalize hcn : (s7.count + 1) % 4294967296 = cn at q0_ ⊢
  have hi9 : Aside0 ((a7.slots.set a.slots.length { s7 with count := cn })[a.slots.length]? = some { s7 with count := cn }) := ⟨List.getElem?_set_self HIL.out⟩
  obtain ⟨_, g', e', _, _, hcc, hfz⟩ := q0_.out.cells hi9.out
  injection e' with e'
  injection e' with e' _ _
  subst e'
  have c8 := hcc 8 _ rfl
  have HC := Aside0.mk hcc
  clear hcc hfz hq
  refine start_ (n := 13) (S := fun w' => w'.cell? ⟨b, 0, none⟩ = some (.bool n.inner) ∧ w'.cell? ⟨b, 1, none⟩ = some (.bool n.tagged) ∧ w'.cell? ⟨b, 2, none⟩ = some (.slice A4 n.pairs.length cc4) ∧ w'.cell? ⟨b, 3, none⟩ = some (.slice A5 n.keys.length cc5) ∧ w'.cell? ⟨b, 4, none⟩ = some (.slice A6 n.ways.length cc6) ∧ w'.cell? ⟨g, a.slots.length * 10 + 8, none⟩ = some (.int .u32 cn)) (ds := [12]) #[false, false, false, false, false, false, false, false, false, false, false, false, false] (by kernel_rfl) rfl rfl ⟨(blk_cell q2_.out 0).trans rfl, (blk_cell q2_.out 1).trans rfl, (blk_cell q2_.out 2).trans rfl, (blk_cell q2_.out 3).trans rfl, (blk_cell q2_.out 4).trans rfl, c8⟩ (fun hHeld => ?_); refine with_tabW tabAlloc10 bitsAlloc10 (fun HT_ HW_ => ?_)
  have q0_ := Aside0.mk (q0_.out.step (w1 := w9.drew) (Nat.le_refl _) (fun _ _ _ => rfl))
  have q1_ := Aside0.mk q1_.out.drew
  have q2_ := Aside0.mk (blk_drew q2_.out)
  have p4_ := Aside0.mk (Kd.R_drew p4_.out)
  have p5_ := Aside0.mk (Kd.R_drew p5_.out)
  have p6_ := Aside0.mk (Kd.R_drew p6_.out)
  have s6_ : Aside0 (w9.drew.heap.size = w6.heap.size) := s6_
  have c8 : w9.drew.cell? _ = _ := c8
  clear HC
  generalize World.drew _ = w9 at q0_ q1_ q2_ p4_ p5_ p6_ s6_ c8 hHeld ⊢
  refine pure_ (i := 0) (N := (some 83)) (v := ?_) (a' := ?_) #[true, false, false, false, false, false, false, false, false, false, false, false, false] rfl rfl (any_of HT_.out (by kernel_rfl)) (fun _ _ _ h => h) (Or.inl ⟨by rfl, ?_⟩) ?_ ?_
  rotate_left
  · intro w'
    go_simp
    with_reducible rfl
  rotate_left
  · simp only [Act.put, List.setIfInBounds_toArray, List.set_cons_zero, List.set_cons_succ, i64_w, i32_w]
    rfl
  refine take_ (i := 1) (N := (some 84)) (v := ?_) (a' := ?_) #[true, true, false, false, false, false, false, false, false, false, false, false, false] rfl rfl (take_ofW HT_.out HW_.out (by kernel_rfl)) (fun _ _ _ h => h) (Or.inl ⟨by rfl, ?_⟩) hHeld ?_ ?_
  rotate_left
  · rintro w' ⟨s0, s1, s2, s3, s4, s5⟩
    go_simp
    with_reducible rfl
  rotate_left
  · simp only [Act.put, List.setIfInBounds_toArray, List.set_cons_zero, List.set_cons_succ, i64_w, i32_w]
    rfl
  refine pure_ (i := 2) (N := (some 85)) (v := ?_) (a' := ?_) #[true, true, true, false, false, false, false, false, false, false, false, false, false] rfl rfl (any_of HT_.out (by kernel_rfl)) (fun _ _ _ h => h) (Or.inl ⟨by rfl, ?_⟩) ?_ ?_
  rotate_left
  · intro w'
    go_simp
    with_reducible rfl
  rotate_left
  · simp only [Act.put, List.setIfInBounds_toArray, List.set_cons_zero, List.set_cons_succ, i64_w, i32_w]
    rfl
  refine pure_ (i := 3) (N := (some 86)) (v := ?_) (a' := ?_) #[true, true, true, true, false, false, false, false, false, false, false, false, false] rfl rfl (any_of HT_.out (by kernel_rfl)) (fun _ _ _ h => h) (Or.inl ⟨by rfl, ?_⟩) ?_ ?_
  rotate_left
  · intro w'
    go_simp
    with_reducible rfl
  rotate_left
  · simp only [Act.put, List.setIfInBounds_toArray, List.set_cons_zero, List.set_cons_succ, i64_w, i32_w]
    rfl
  refine take_ (i := 4) (N := (some 87)) (v := ?_) (a' := ?_) #[true, true, true, true, true, false, false, false, false, false, false, false, false] rfl rfl (take_ofW HT_.out HW_.out (by kernel_rfl)) (fun _ _ _ h => h) (Or.inl ⟨by rfl, ?_⟩) hHeld ?_ ?_
  rotate_left
  · rintro w' ⟨s0, s1, s2, s3, s4, s5⟩
    go_simp
    with_reducible rfl
  rotate_left
  · simp only [Act.put, List.setIfInBounds_toArray, List.set_cons_zero, List.set_cons_succ, i64_w, i32_w]
    rfl
  refine pure_ (i := 6) (N := (some 89)) (v := ?_) (a' := ?_) #[true, true, true, true, true, false, true, false, false, false, false, false, false] rfl rfl (any_of HT_.out (by kernel_rfl)) (fun _ _ _ h => h) (Or.inl ⟨by rfl, ?_⟩) ?_ ?_
  rotate_left
  · intro w'
    go_simp
    with_reducible rfl
  rotate_left
  · simp only [Act.put, List.setIfInBounds_toArray, List.set_cons_zero, List.set_cons_succ, i64_w, i32_w]
    rfl
  refine pure_ (i := 7) (N := (some 90)) (v := ?_) (a' := ?_) #[true, true, true, true, true, false, true, true, false, false, false, false, false] rfl rfl (any_of HT_.out (by kernel_rfl)) (fun _ _ _ h => h) (Or.inl ⟨by rfl, ?_⟩) ?_ ?_
  rotate_left
  · intro w'
    go_simp
    with_reducible rfl
  rotate_left
  · simp only [Act.put, List.setIfInBounds_toArray, List.set_cons_zero, List.set_cons_succ, i64_w, i32_w]
    rfl
  refine pure_ (i := 8) (N := (some 91)) (v := ?_) (a' := ?_) #[true, true, true, true, true, false, true, true, true, false, false, false, false] rfl rfl (any_of HT_.out (by kernel_rfl)) (fun _ _ _ h => h) (Or.inl ⟨by rfl, ?_⟩) ?_ ?_
  rotate_left
  · intro w'
    go_simp
    with_reducible rfl
  rotate_left
  · simp only [Act.put, List.setIfInBounds_toArray, List.set_cons_zero, List.set_cons_succ, i64_w, i32_w]
    rfl
  refine take_ (i := 9) (N := (some 92)) (v := ?_) (a' := ?_) #[true, true, true, true, true, false, true, true, true, true, false, false, false] rfl rfl (take_ofW HT_.out HW_.out (by kernel_rfl)) (fun _ _ _ h => h) (Or.inl ⟨by rfl, ?_⟩) hHeld ?_ ?_
  rotate_left
  · rintro w' ⟨s0, s1, s2, s3, s4, s5⟩
    go_simp
    with_reducible rfl
  rotate_left
  · simp only [Act.put, List.setIfInBounds_toArray, List.set_cons_zero, List.set_cons_succ, i64_w, i32_w]
    rfl
  refine one_ (i := 5) (N := (some 88)) #[true, true, true, true, true, true, true, true, true, true, false, false, false] rfl rfl (one_of HT_.out (by kernel_rfl)) (by decide) (fun K_ hK => ?_)
  refine call_ 104 #[.slice A6 n.ways.length cc6] (by rfl) rfl ?hrun5 ?_
  (case hrun5 => first | (go_simp; done) | (go_simp; exact enters Tryz.func104 (by kernel_rfl) rfl _ _))
  refine (clone_ways A6 n.ways.length cc6 n.ways _ (Kd.R_reads' p6_.out).2.2 hny).mono ?_
  rintro e wa ⟨va, rfl, hRa, hBa⟩
  obtain ⟨Aa, cca, rfl⟩ := Kd.R_slice hRa
  have ar_ := Aside0.mk hRa
  have ab_ := Aside0.mk hBa
  have a2_ := Aside0.mk (blk_below q2_.out hBa)
  have c8 := pw_cell_below hBa c8
  clear hRa hBa
  refine ⟨_, rfl, ?_⟩
  refine hK.out _ _ ⟨(blk_cell a2_.out 0).trans rfl, (blk_cell a2_.out 1).trans rfl, (blk_cell a2_.out 2).trans rfl, (blk_cell a2_.out 3).trans rfl, (blk_cell a2_.out 4).trans rfl, c8⟩ (fun hHeld => ?_)
  clear hK K_
  refine norm_ (a' := ?_) ?_ ?_
  rotate_left
  · show Act.put _ (some 88) _ = _
    simp only [Act.put, List.setIfInBounds_toArray, List.set_cons_zero, List.set_cons_succ, i64_w, i32_w]
    rfl
  refine pure_ (i := 10) (N := (some 93)) (v := ?_) (a' := ?_) #[true, true, true, true, true, true, true, true, true, true, true, false, false] rfl rfl (any_of HT_.out (by kernel_rfl)) (fun _ _ _ h => h) (Or.inl ⟨by rfl, ?_⟩) ?_ ?_
  rotate_left
  · intro w'
    go_simp
    with_reducible rfl
  rotate_left
  · simp only [Act.put, List.setIfInBounds_toArray, List.set_cons_zero, List.set_cons_succ, i64_w, i32_w]
    rfl
  refine pure_ (i := 11) (N := (some 94)) (v := ?_) (a' := ?_) #[true, true, true, true, true, true, true, true, true, true, true, true, false] rfl rfl (any_of HT_.out (by kernel_rfl)) (fun _ _ _ h => h) (Or.inl ⟨by rfl, ?_⟩) ?_ ?_
  rotate_left
  · intro w'
    go_simp
    with_reducible rfl
  rotate_left
  · simp only [Act.put, List.setIfInBounds_toArray, List.set_cons_zero, List.set_cons_succ, i64_w, i32_w]
    rfl
  refine last_ (i := 12) (N := none) #[true, true, true, true, true, true, true, true, true, true, true, true, true] rfl rfl (one_of HT_.out (by kernel_rfl)) (by decide) (fun K_ hK => ?_)
  have q0_ := Aside0.mk (q0_.out.step (w1 := wa) ab_.out.size (fun k _ hlt => ab_.out.block k hlt))
  have q1_ := Aside0.mk (q1_.out.below ab_.out)
  have u4_ := Aside0.mk (Kd.R_lt p4_.out)
  have u5_ := Aside0.mk (Kd.R_lt p5_.out)
  have u6_ := Aside0.mk (Kd.R_lt p6_.out)
  have p4_ := Aside0.mk (Kd.R_below p4_.out ab_.out)
  have p5_ := Aside0.mk (Kd.R_below p5_.out ab_.out)
  have p6_ := Aside0.mk (Kd.R_below p6_.out ab_.out)
  obtain ⟨cur, hcur, hcs⟩ := q0_.out.block
  have hfit : a.slots.length * 10 + 10 ≤ cur.size := by
    have h1 := HIL.out
    have h2 : (a7.slots.set a.slots.length { s7 with count := cn }).length = a7.slots.length := List.length_set
    rw [show ({ a7 with slots := a7.slots.set a.slots.length { s7 with count := cn } } : Ar).slots.length = a7.slots.length from h2] at hcs
    omega
  refine skip_ (w1 := wa.setCells g (a.slots.length * 10) [.bool n.inner, .bool n.tagged, .slice A4 n.pairs.length cc4, .slice A5 n.keys.length cc5, .slice A6 n.ways.length cc6, .slice Aa n.ways.length cca, .int .i64 0, .bool false, .int .u32 cn, .bool true]) (by rfl) rfl ?hst ?_
  (case hst => exact exec_store _ [.bool n.inner, .bool n.tagged, .slice A4 n.pairs.length cc4, .slice A5 n.keys.length cc5, .slice A6 n.ways.length cc6, .slice Aa n.ways.length cca, .int .i64 0, .bool false, .int .u32 cn, .bool true] rfl (by rfl) (by rfl) hcur rfl (by kernel_rfl) hfit (by intro u hu; simp only [List.mem_cons, List.not_mem_nil, or_false] at hu; rcases hu with rfl | rfl | rfl | rfl | rfl | rfl | rfl | rfl | rfl | rfl <;> rfl))
  refine hK.out _ _ ?_
  clear hK K_ hHeld c8 hcur hcs hfit
  refine done_ (done_of HT_.out (by kernel_rfl)) ?_
  clear HT_ HW_
  have t4_ := Kd.R_tight (by rfl) p4_.out
  have t5_ := Kd.R_tight (by rfl) p5_.out
  have t6_ := Kd.R_tight (by rfl) p6_.out
  have ta_ := Kd.R_tight (by rfl) ar_.out
  have b4_ : ∀ k, some k = (Value.slice A4 n.pairs.length cc4).ownBlock → w3.heap.size ≤ k ∧ k < w9.heap.size := fun k hk => ⟨Kd.R_base p4_.out k hk.symm, u4_.out k hk.symm⟩
  have b5_ : ∀ k, some k = (Value.slice A5 n.keys.length cc5).ownBlock → w3.heap.size ≤ k ∧ k < w9.heap.size := fun k hk => ⟨Nat.le_trans l4_.out (Kd.R_base p5_.out k hk.symm), u5_.out k hk.symm⟩
  have b6_ : ∀ k, some k = (Value.slice A6 n.ways.length cc6).ownBlock → w3.heap.size ≤ k ∧ k < w9.heap.size := fun k hk => ⟨Nat.le_trans l4_.out (Nat.le_trans l5_.out (Kd.R_base p6_.out k hk.symm)), u6_.out k hk.symm⟩
  have ba_ : ∀ k, some k = (Value.slice Aa n.ways.length cca).ownBlock → w9.heap.size ≤ k ∧ k < wa.heap.size := fun k hk => ⟨Kd.R_base ar_.out k hk.symm, Kd.R_lt ar_.out k hk.symm⟩
  have r4_ := (Kd.R_reads' p4_.out).2.1
  have r5_ := (Kd.R_reads' p5_.out).2.1
  have r6_ := (Kd.R_reads' p6_.out).2.1
  have hsz : w3.heap.size ≤ w9.heap.size := by have h1 := l4_.out; have h2 := l5_.out; have h3 := l6_.out; have h4 := s6_.out; omega
  have hL := hL7.out
  generalize hpv : Value.slice A4 n.pairs.length cc4 = pv at t4_ b4_
  generalize hkv : Value.slice A5 n.keys.length cc5 = kv at t5_ b5_
  generalize hyv : Value.slice A6 n.ways.length cc6 = yv at t6_ b6_
  generalize hwv : Value.slice Aa n.ways.length cca = wv at ta_ ba_
  have h11 := q0_.out.mono (ok1 := fun k => ok7 k ∨ some k = pv.ownBlock ∨ some k = kv.ownBlock ∨ some k = yv.ownBlock ∨ some k = wv.ownBlock) (ρ1 := fun k => if some k = wv.ownBlock then 4 + a.slots.length else if (some k = pv.ownBlock ∨ some k = kv.ownBlock ∨ some k = yv.ownBlock) then 3 else ρ7 k) (fun k hk => .inl hk) (fun k hk => by
    have hab := ab_.out.size
    rcases hk with hk | hk | hk | hk | hk
    · exact q0_.out.lt k hk
    · have := b4_ k hk; omega
    · have := b5_ k hk; omega
    · have := b6_ k hk; omega
    · have := ba_ k hk; omega) (fun k hk => by
    have h0 := hL k hk
    show (if some k = wv.ownBlock then 4 + a.slots.length else if (some k = pv.ownBlock ∨ some k = kv.ownBlock ∨ some k = yv.ownBlock) then 3 else ρ7 k) = ρ7 k
    rw [if_neg (fun e => by have := ba_ k e; omega), if_neg (fun e => e.elim (fun e => by have := b4_ k e; omega) (fun e => e.elim (fun e => by have := b5_ k e; omega) (fun e => by have := b6_ k e; omega)))])
  have h3_ : ∀ k, (some k = pv.ownBlock ∨ some k = kv.ownBlock ∨ some k = yv.ownBlock) → (ok7 k ∨ some k = pv.ownBlock ∨ some k = kv.ownBlock ∨ some k = yv.ownBlock ∨ some k = wv.ownBlock) ∧ (if some k = wv.ownBlock then 4 + a.slots.length else if (some k = pv.ownBlock ∨ some k = kv.ownBlock ∨ some k = yv.ownBlock) then 3 else ρ7 k) = 3 := fun k hk => by
    refine ⟨?_, ?_⟩
    · rcases hk with hk | hk | hk
      · exact .inr (.inl hk)
      · exact .inr (.inr (.inl hk))
      · exact .inr (.inr (.inr (.inl hk)))
    · rw [if_neg (fun e => by
        have h5 := ba_ k e
        rcases hk with hk | hk | hk
        · have := b4_ k hk; omega
        · have := b5_ k hk; omega
        · have := b6_ k hk; omega), if_pos hk]
  have h4_ : ∀ k, some k = wv.ownBlock → (ok7 k ∨ some k = pv.ownBlock ∨ some k = kv.ownBlock ∨ some k = yv.ownBlock ∨ some k = wv.ownBlock) ∧ (if some k = wv.ownBlock then 4 + a.slots.length else if (some k = pv.ownBlock ∨ some k = kv.ownBlock ∨ some k = yv.ownBlock) then 3 else ρ7 k) = 4 + a.slots.length := fun k hk => ⟨.inr (.inr (.inr (.inr hk))), if_pos hk⟩
  have h12 := h11.seg hi9.out 0 [.bool n.inner, .bool n.tagged, .slice A4 n.pairs.length cc4, .slice A5 n.keys.length cc5, .slice A6 n.ways.length cc6, .slice Aa n.ways.length cca, .int .i64 0, .bool false, .int .u32 cn, .bool true] (by simp) (slotOf n cn) (fun j => if j = a.slots.length then ⟨pv, kv, yv, wv⟩ else lv7 j) (fun j hj => if_neg hj) (by show slotCells (slotOf n cn) (if a.slots.length = a.slots.length then _ else _) = _; rw [if_pos rfl, ← hpv, ← hkv, ← hyv, ← hwv]; rfl)
    (by
      show NodeAt wa _ n (if a.slots.length = a.slots.length then _ else _)
      rw [if_pos rfl]
      subst hpv hkv hyv
      exact ⟨⟨A4, cc4, rfl, r4_, Kd.F_mono (Kd.R_F t4_) (fun k hk => h3_ k (.inl hk))⟩, ⟨A5, cc5, rfl, r5_, Kd.F_mono (Kd.R_F t5_) (fun k hk => h3_ k (.inr (.inl hk)))⟩, ⟨A6, cc6, rfl, r6_, Kd.F_mono (Kd.R_F t6_) (fun k hk => h3_ k (.inr (.inr hk)))⟩⟩)
    (by
      show (Kd.int .i64).R _ wa 0 _ (if a.slots.length = a.slots.length then _ else _ : Lv).w n.ways
      rw [if_pos rfl]
      exact Kd.R_lower (Kd.R_mono ta_ h4_) (Nat.zero_le _))
  obtain ⟨lvz, ρz, h12⟩ : ∃ lvz ρz, ArenaAt (fun k => ok7 k ∨ some k = pv.ownBlock ∨ some k = kv.ownBlock ∨ some k = yv.ownBlock ∨ some k = wv.ownBlock) pA (.slice (some ⟨g, 0, none⟩) (a.slots.length + 1) cap5) fv7 lvz ρz { a7 with slots := a7.slots.set a.slots.length (slotOf n cn) } (wa.setCells g (a.slots.length * 10) [.bool n.inner, .bool n.tagged, .slice A4 n.pairs.length cc4, .slice A5 n.keys.length cc5, .slice A6 n.ways.length cc6, .slice Aa n.ways.length cca, .int .i64 0, .bool false, .int .u32 cn, .bool true]) := by
    have h13 := h12
    rw [show ({ a7 with slots := a7.slots.set a.slots.length { s7 with count := cn } } : Ar).slots = a7.slots.set a.slots.length { s7 with count := cn } from rfl, List.set_set] at h13
    exact ⟨_, _, h13⟩
  have m12 : Moves ok (fun k => ok7 k ∨ some k = pv.ownBlock ∨ some k = kv.ownBlock ∨ some k = yv.ownBlock ∨ some k = wv.ownBlock) w (wa.setCells g (a.slots.length * 10) [.bool n.inner, .bool n.tagged, .slice A4 n.pairs.length cc4, .slice A5 n.keys.length cc5, .slice A6 n.ways.length cc6, .slice Aa n.ways.length cca, .int .i64 0, .bool false, .int .u32 cn, .bool true]) := (moves_cells q1_.out (q1_.out.fresh g HG.out) _ _).owns (fun k hk => by
    have hw3 : w.heap.size ≤ w3.heap.size := by have := HBB.out; have := HBL.out; omega
    rcases hk with hk | hk | hk | hk | hk
    · exact q1_.out.fresh k hk
    · have := b4_ k hk; exact .inr (by omega)
    · have := b5_ k hk; exact .inr (by omega)
    · have := b6_ k hk; exact .inr (by omega)
    · have := ba_ k hk; exact .inr (by omega))
  generalize hok : (fun k => ok7 k ∨ some k = pv.ownBlock ∨ some k = kv.ownBlock ∨ some k = yv.ownBlock ∨ some k = wv.ownBlock) = ok12 at h12 m12
  have q0_ := Aside0.mk h12
  have q1_ := Aside0.mk m12
  clear h12 m12 h11 h3_ h4_ t4_ t5_ t6_ ta_ b4_ b5_ b6_ ba_ hL hsz hok
  subst hpv hkv hyv hwv
  generalize wa.setCells g (a.slots.length * 10) [.bool n.inner, .bool n.tagged, .slice A4 n.pairs.length cc4, .slice A5 n.keys.length cc5, .slice A6 n.ways.length cc6, .slice Aa n.ways.length cca, .int .i64 0, .bool false, .int .u32 cn, .bool true] = wb at q0_ q1_ ⊢
  have c3 := (blk_cell q0_.out.box 3).trans (rfl : _ = some (Value.int .i64 a7.used))
  have z3 := blk_frozen q0_.out.box 3
  go_upto_region 12 with fail
  have q0_ := Aside0.mk (q0_.out.box_set 3 (.int .i64 (wrap64 (a7.used + 1))) (a7.put a.slots.length n cn) rfl rfl rfl)
  have q1_ : Aside0 (Moves ok ok12 w (wb.setCell ⟨pA, 3, none⟩ (.int .i64 (wrap64 (a7.used + 1))))) := ⟨q1_.out.set (p := ⟨pA, 3, none⟩) (q1_.out.fresh pA q0_.out.own) _⟩
  clear c3 z3
  generalize wb.setCell ⟨pA, 3, none⟩ (.int .i64 (wrap64 (a7.used + 1))) = wc at q0_ q1_ ⊢
  have hi12 : (a7.put a.slots.length n cn).slots[a.slots.length]? = some (slotOf n cn) := List.getElem?_set_self HIL.out
  obtain ⟨_, g', e', _, _, hcc, _⟩ := q0_.out.cells hi12
  injection e' with e'
  injection e' with e' _ _
  subst e'
  have c8 := hcc 8 _ (rfl : _ = some (Value.int .u32 cn))
  clear hcc hi12
  go_wp2_with (go_at_call 105; refine (ref_of _ cn _).mono ?_; rintro e w1 ⟨rfl, rfl⟩)
  go_ret2
  subst hcn
  exact ⟨rfl, ok12, ⟨_, _, _, _, q0_.out⟩, q1_.out⟩

theorem info_int : (Tryz.prog.info? 3).map (fun i => (i.zero, i.size, i.bytes)) = some (some (.int .i64 0), 1, 8) := by kernel_rfl
theorem cut1 (A : Option Addr) (n c : Nat) (W : World) : (Instr.slice 51 (.slice A (n + 1) c) (some (.int .i64 1)) none none).run Tryz.prog W = .ok (.slice (if c = 1 then A else A.map (·.add 1)) n (c - 1)) W := by
  have hel : (Tryz.prog).elem 51 = 3 := by kernel_rfl
  have hu : (Tryz.prog).underlying 51 = some (.slice ((Tryz.prog).elem 51)) := by rw [hel]; exact Tryz.underlying51
  have := run_slice_l W 51 A (n + 1) c hu .i64 1 (by omega) (by omega)
  obtain ⟨i0, hi, hz0, hz1, hz2⟩ := info_parts info_int
  rw [this, hel]
  simp [sizeOf, typeInfo, hi, hz1, sliced, Result.andThen]
set_option maxHeartbeats 2000000 in
set_option maxRecDepth 100000 in
theorem alloc_again {ok : Nat → Prop} {pA : Nat} {a : Ar} (n : Nd) (v : Value) (w : World) (h : IsArena ok pA a w) (hn : NdF (fun k => ¬ ok k) n v w) (hx : ¬ a.most ≤ a.used) (ix : Nat) (fs : List Int) (hf : a.free = (ix : Int) :: fs) (hl : a.slots.length < 999999) (hnp : n.pairs.length < 1000000) (hnk : n.keys.length < 1000000) (hny : n.ways.length < 1000000) (a7 : Ar) (ha7 : { a with free := fs } = a7) (s7 : Sl) (hs7 : a.slots[ix]? = some s7) :
    Calls Tryz.prog 68 #[.pointer (some ⟨pA, 0, none⟩), v] w (AllocPost ok pA (refOf ix (u32w (s7.count + 1))) true (a7.put ix n (u32w (s7.count + 1))) w) := by
  obtain ⟨sv, fv, lv, ρ, h⟩ := h
  obtain ⟨Ap, cp, Ak, ck, Ay, cy, rfl, hcp, hck, hcy, hp, hk, hy⟩ := hn
  have h1 := h.step (w1 := w.alloc (.cells #[.bool n.inner, .bool n.tagged, .slice Ap n.pairs.length cp, .slice Ak n.keys.length ck, .slice Ay n.ways.length cy] 29)) (by simp) (fun k _ hlt => Below.heap_alloc _ _ _ hlt)
  have HI := Aside0.mk h1
  have HL := Aside0.mk h.lt
  have HB := Aside0.mk (blk_new w (.cells #[.bool n.inner, .bool n.tagged, .slice Ap n.pairs.length cp, .slice Ak n.keys.length ck, .slice Ay n.ways.length cy] 29))
  have HM := Aside0.mk ((Moves.refl ok w).alloc (.cells #[.bool n.inner, .bool n.tagged, .slice Ap n.pairs.length cp, .slice Ak n.keys.length ck, .slice Ay n.ways.length cy] 29))
  have HP := Aside0.mk (Kd.F_alloc (Kd.F_bound hp) (.cells #[.bool n.inner, .bool n.tagged, .slice Ap n.pairs.length cp, .slice Ak n.keys.length ck, .slice Ay n.ways.length cy] 29))
  have HK := Aside0.mk (Kd.F_alloc (Kd.F_bound hk) (.cells #[.bool n.inner, .bool n.tagged, .slice Ap n.pairs.length cp, .slice Ak n.keys.length ck, .slice Ay n.ways.length cy] 29))
  have HY := Aside0.mk (Kd.F_alloc (Kd.F_bound hy) (.cells #[.bool n.inner, .bool n.tagged, .slice Ap n.pairs.length cp, .slice Ak n.keys.length ck, .slice Ay n.ways.length cy] 29))
  have d1 : decide (a.used ≥ a.most) = false := decide_eq_false hx
  have d1' : decide (a.most ≤ a.used) = false := d1
  clear h h1 hp hk hy hx
  go_enter Tryz.func68, Tryz.ntmps68
  go_upto_region 1 with fail
  generalize w.alloc (.cells #[.bool n.inner, .bool n.tagged, .slice Ap n.pairs.length cp, .slice Ak n.keys.length ck, .slice Ay n.ways.length cy] 29) = w1 at HI HB HM HP HK HY ⊢
  have c2 : w1.cell? ⟨pA, 2, none⟩ = some (.int .i64 a.most) := (blk_cell HI.out.box 2).trans rfl
  have c3 : w1.cell? ⟨pA, 3, none⟩ = some (.int .i64 a.used) := (blk_cell HI.out.box 3).trans rfl
  go_quiet (fail)
  rename_i nq
  have HI2 := Aside0.mk (HI.out.step (w1 := w1.drewN nq) (Nat.le_refl _) (fun _ _ _ => rfl))
  have HB2 := Aside0.mk (blk_drewN HB.out nq)
  have HM2 := Aside0.mk (HM.out.drewN nq)
  have HP2 := Aside0.mk (Kd.F_drewN HP.out nq)
  have HK2 := Aside0.mk (Kd.F_drewN HK.out nq)
  have HY2 := Aside0.mk (Kd.F_drewN HY.out nq)
  clear HI HB HM HP HK HY c2 c3 d1 d1'
  generalize w1.drewN nq = w2 at HI2 HB2 HM2 HP2 HK2 HY2 ⊢
  obtain ⟨ad, cap, rfl⟩ := Kd.R_slice HI2.out.rows
  rw [rowsOf_length] at HI2
  have hq := HI2.out.free
  rw [hf] at hq
  obtain ⟨gf, of, cf, rfl, _, _, _⟩ := Kd.Q_form hq (by simp)
  have cf0 : w2.cell? ⟨gf, of, none⟩ = some (.int .i64 (ix : Int)) := by
    have h1 := (Kd.Q_cell (0 : Int) hq 0 (by omega) (by simp)).1
    simpa [rdOf] using h1
  have hlen : ((ix : Int) :: fs).length = fs.length + 1 := List.length_cons
  rw [hlen] at HI2
  have c0 : w2.cell? ⟨pA, 0, none⟩ = some (.slice ad a.slots.length cap) := (blk_cell HI2.out.box 0).trans rfl
  have c1 : w2.cell? ⟨pA, 1, none⟩ = some (.slice (some ⟨gf, of, none⟩) (fs.length + 1) cf) := (blk_cell HI2.out.box 1).trans rfl
  have hcf : fs.length + 1 ≤ cf := by have := (Kd.Q_reads' hq).2.1; rw [hlen] at this; exact this
  have hcut : ∀ W : World, (Instr.slice 51 (.slice (some ⟨gf, of, none⟩) (fs.length + 1) cf) (some (.int .i64 1)) none none).run Tryz.prog W = .ok (.slice (if cf = 1 then some ⟨gf, of, none⟩ else (some (⟨gf, of, none⟩ : Addr)).map (·.add 1)) fs.length (cf - 1)) W := fun W => cut1 _ _ _ W
  have hf' := Aside0.mk hf
  have d0 : decide (((fs.length + 1 : Nat) : Int) > 0) = true := decide_eq_true (by omega)
  have d0' : decide (0 < fs.length + 1) = true := decide_eq_true (by omega)
  have e1 : (0 : Int) < ((fs.length + 1 : Nat) : Int) := by omega
  have e2 : (0 : Int) ≤ ((fs.length + 1 : Nat) : Int) := by omega
  clear hf hq hlen hcf
  go_upto_region 5 with fail
  refine start_ (n := 16) (S := fun w' => w'.cell? ⟨pA, 1, none⟩ = some (.slice (some ⟨gf, of, none⟩) (fs.length + 1) cf) ∧ w'.cell? ⟨gf, of, none⟩ = some (.int .i64 (ix : Int))) (ds := [15]) #[false, false, false, false, false, false, false, false, false, false, false, false, false, false, false, false] (by kernel_rfl) rfl rfl ⟨c1, cf0⟩ (fun hHeld => ?_); refine with_tabW tabAlloc5 bitsAlloc5 (fun HT_ HW_ => ?_)
  have HI2 := Aside0.mk (HI2.out.step (w1 := w2.drew) (Nat.le_refl _) (fun _ _ _ => rfl))
  have HB2 := Aside0.mk (blk_drew HB2.out)
  have HM2 := Aside0.mk HM2.out.drew
  have HP2 := Aside0.mk (Kd.F_drew HP2.out)
  have HK2 := Aside0.mk (Kd.F_drew HK2.out)
  have HY2 := Aside0.mk (Kd.F_drew HY2.out)
  generalize World.drew _ = w2 at HI2 HB2 HM2 HP2 HK2 HY2 hHeld ⊢
  refine pure_ (i := 0) (N := (some 32)) (v := ?_) (a' := ?_) #[true, false, false, false, false, false, false, false, false, false, false, false, false, false, false, false] rfl rfl (any_of HT_.out (by kernel_rfl)) (fun _ _ _ h => h) (Or.inl ⟨by rfl, ?_⟩) ?_ ?_
  rotate_left
  · intro w'
    go_simp
    with_reducible rfl
  rotate_left
  · simp only [Act.put, List.setIfInBounds_toArray, List.set_cons_zero, List.set_cons_succ, i64_w, i32_w]
    rfl
  refine pure_ (i := 1) (N := (some 33)) (v := ?_) (a' := ?_) #[true, true, false, false, false, false, false, false, false, false, false, false, false, false, false, false] rfl rfl (any_of HT_.out (by kernel_rfl)) (fun _ _ _ h => h) (Or.inl ⟨by rfl, ?_⟩) ?_ ?_
  rotate_left
  · intro w'
    go_simp
    with_reducible rfl
  rotate_left
  · simp only [Act.put, List.setIfInBounds_toArray, List.set_cons_zero, List.set_cons_succ, i64_w, i32_w]
    rfl
  refine pure_ (i := 2) (N := (some 34)) (v := ?_) (a' := ?_) #[true, true, true, false, false, false, false, false, false, false, false, false, false, false, false, false] rfl rfl (any_of HT_.out (by kernel_rfl)) (fun _ _ _ h => h) (Or.inl ⟨by rfl, ?_⟩) ?_ ?_
  rotate_left
  · intro w'
    go_simp
    with_reducible rfl
  rotate_left
  · simp only [Act.put, List.setIfInBounds_toArray, List.set_cons_zero, List.set_cons_succ, i64_w, i32_w]
    rfl
  refine pure_ (i := 3) (N := (some 35)) (v := ?_) (a' := ?_) #[true, true, true, true, false, false, false, false, false, false, false, false, false, false, false, false] rfl rfl (any_of HT_.out (by kernel_rfl)) (fun _ _ _ h => h) (Or.inl ⟨by rfl, ?_⟩) ?_ ?_
  rotate_left
  · intro w'
    go_simp
    with_reducible rfl
  rotate_left
  · simp only [Act.put, List.setIfInBounds_toArray, List.set_cons_zero, List.set_cons_succ, i64_w, i32_w]
    rfl
  refine take_ (i := 4) (N := (some 36)) (v := ?_) (a' := ?_) #[true, true, true, true, true, false, false, false, false, false, false, false, false, false, false, false] rfl rfl (take_ofW HT_.out HW_.out (by kernel_rfl)) (fun _ _ _ h => h) (Or.inl ⟨by rfl, ?_⟩) hHeld ?_ ?_
  rotate_left
  · rintro w' ⟨s0, s1⟩
    go_simp
    with_reducible rfl
  rotate_left
  · simp only [Act.put, List.setIfInBounds_toArray, List.set_cons_zero, List.set_cons_succ, i64_w, i32_w]
    rfl
  refine pure_ (i := 5) (N := (some 37)) (v := ?_) (a' := ?_) #[true, true, true, true, true, true, false, false, false, false, false, false, false, false, false, false] rfl rfl (any_of HT_.out (by kernel_rfl)) (fun _ _ _ h => h) (Or.inl ⟨by rfl, ?_⟩) ?_ ?_
  rotate_left
  · intro w'
    go_simp
    with_reducible rfl
  rotate_left
  · simp only [Act.put, List.setIfInBounds_toArray, List.set_cons_zero, List.set_cons_succ, i64_w, i32_w]
    rfl
  refine take_ (i := 6) (N := (some 38)) (v := ?_) (a' := ?_) #[true, true, true, true, true, true, true, false, false, false, false, false, false, false, false, false] rfl rfl (take_ofW HT_.out HW_.out (by kernel_rfl)) (fun _ _ _ h => h) (Or.inl ⟨by rfl, ?_⟩) hHeld ?_ ?_
  rotate_left
  · rintro w' ⟨s0, s1⟩
    go_simp
    with_reducible rfl
  rotate_left
  · simp only [Act.put, List.setIfInBounds_toArray, List.set_cons_zero, List.set_cons_succ, i64_w, i32_w]
    rfl
  refine pure_ (i := 7) (N := (some 39)) (v := ?_) (a' := ?_) #[true, true, true, true, true, true, true, true, false, false, false, false, false, false, false, false] rfl rfl (any_of HT_.out (by kernel_rfl)) (fun _ _ _ h => h) (Or.inl ⟨by rfl, ?_⟩) ?_ ?_
  rotate_left
  · intro w'
    go_simp
    with_reducible rfl
  rotate_left
  · simp only [Act.put, List.setIfInBounds_toArray, List.set_cons_zero, List.set_cons_succ, i64_w, i32_w]
    rfl
  refine pure_ (i := 8) (N := (some 40)) (v := ?_) (a' := ?_) #[true, true, true, true, true, true, true, true, true, false, false, false, false, false, false, false] rfl rfl (any_of HT_.out (by kernel_rfl)) (fun _ _ _ h => h) (Or.inl ⟨by rfl, ?_⟩) ?_ ?_
  rotate_left
  · intro w'
    go_simp
    with_reducible rfl
  rotate_left
  · simp only [Act.put, List.setIfInBounds_toArray, List.set_cons_zero, List.set_cons_succ, i64_w, i32_w]
    rfl
  refine pure_ (i := 9) (N := (some 41)) (v := ?_) (a' := ?_) #[true, true, true, true, true, true, true, true, true, true, false, false, false, false, false, false] rfl rfl (any_of HT_.out (by kernel_rfl)) (fun _ _ _ h => h) (Or.inl ⟨by rfl, ?_⟩) ?_ ?_
  rotate_left
  · intro w'
    go_simp
    with_reducible rfl
  rotate_left
  · simp only [Act.put, List.setIfInBounds_toArray, List.set_cons_zero, List.set_cons_succ, i64_w, i32_w]
    rfl
  refine take_ (i := 10) (N := (some 42)) (v := ?_) (a' := ?_) #[true, true, true, true, true, true, true, true, true, true, true, false, false, false, false, false] rfl rfl (take_ofW HT_.out HW_.out (by kernel_rfl)) (fun _ _ _ h => h) (Or.inl ⟨by rfl, ?_⟩) hHeld ?_ ?_
  rotate_left
  · rintro w' ⟨s0, s1⟩
    go_simp
    with_reducible rfl
  rotate_left
  · simp only [Act.put, List.setIfInBounds_toArray, List.set_cons_zero, List.set_cons_succ, i64_w, i32_w]
    rfl
  refine pure_ (i := 11) (N := (some 43)) (v := ?_) (a' := ?_) #[true, true, true, true, true, true, true, true, true, true, true, true, false, false, false, false] rfl rfl (any_of HT_.out (by kernel_rfl)) (fun _ _ _ h => h) (Or.inl ⟨by rfl, ?_⟩) ?_ ?_
  rotate_left
  · intro w'
    go_simp
    with_reducible rfl
  rotate_left
  · simp only [Act.put, List.setIfInBounds_toArray, List.set_cons_zero, List.set_cons_succ, i64_w, i32_w]
    rfl
  refine pure_ (i := 12) (N := (some 6)) (v := ?_) (a' := ?_) #[true, true, true, true, true, true, true, true, true, true, true, true, true, false, false, false] rfl rfl (any_of HT_.out (by kernel_rfl)) (fun _ _ _ h => h) (Or.inl ⟨by rfl, ?_⟩) ?_ ?_
  rotate_left
  · intro w'
    go_simp
    with_reducible rfl
  rotate_left
  · simp only [Act.put, List.setIfInBounds_toArray, List.set_cons_zero, List.set_cons_succ, i64_w, i32_w]
    rfl
  refine pure_ (i := 13) (N := (some 44)) (v := ?_) (a' := ?_) #[true, true, true, true, true, true, true, true, true, true, true, true, true, true, false, false] rfl rfl (any_of HT_.out (by kernel_rfl)) (fun _ _ _ h => h) (Or.inl ⟨by rfl, ?_⟩) ?_ ?_
  rotate_left
  · intro w'
    go_simp
    with_reducible rfl
  rotate_left
  · simp only [Act.put, List.setIfInBounds_toArray, List.set_cons_zero, List.set_cons_succ, i64_w, i32_w]
    rfl
  refine pure_ (i := 14) (N := (some 45)) (v := ?_) (a' := ?_) #[true, true, true, true, true, true, true, true, true, true, true, true, true, true, true, false] rfl rfl (any_of HT_.out (by kernel_rfl)) (fun _ _ _ h => h) (Or.inl ⟨by rfl, ?_⟩) ?_ ?_
  rotate_left
  · intro w'
    go_simp
    with_reducible rfl
  rotate_left
  · simp only [Act.put, List.setIfInBounds_toArray, List.set_cons_zero, List.set_cons_succ, i64_w, i32_w]
    rfl
  have z1 := blk_frozen HI2.out.box 1
  refine last_ (i := 15) (N := none) #[true, true, true, true, true, true, true, true, true, true, true, true, true, true, true, true] rfl rfl (one_of HT_.out (by kernel_rfl)) (by decide) (fun K_ hK => ?_)
  refine skip_ (w1 := ?_) (by rfl) rfl ?_ ?_
  rotate_left
  · go_simp
    rfl
  refine hK.out _ _ ?_
  clear hK K_
  refine done_ (done_of HT_.out (by kernel_rfl)) ?_
  have q0_ : Aside0 (ArenaAt ok pA (.slice ad a.slots.length cap) (.slice (if cf = 1 then some ⟨gf, of, none⟩ else some ⟨gf, of + 1, none⟩) fs.length (cf - 1)) lv ρ { a with free := fs } (w2.setCell ⟨pA, 1, none⟩ (.slice (if cf = 1 then some ⟨gf, of, none⟩ else some ⟨gf, of + 1, none⟩) fs.length (cf - 1)))) := ⟨HI2.out.popped hf'.out⟩
  have q1_ := Aside0.mk (HM2.out.set (p := ⟨pA, 1, none⟩) (.inl HI2.out.own) (.slice (if cf = 1 then some ⟨gf, of, none⟩ else some ⟨gf, of + 1, none⟩) fs.length (cf - 1)))
  have hpb : w.heap.size ≠ pA := fun e => by have := HL.out pA HI2.out.own; omega
  have q2_ := Aside0.mk (blk_far HB2.out (p := ⟨pA, 1, none⟩) hpb (.slice (if cf = 1 then some ⟨gf, of, none⟩ else some ⟨gf, of + 1, none⟩) fs.length (cf - 1)))
  have hdp : ∀ k, (¬ ok k ∧ k < w.heap.size) → k ≠ pA := fun k hk e => hk.1 (e ▸ HI2.out.own)
  have q3_ := Aside0.mk (Kd.F_far HP2.out (p := ⟨pA, 1, none⟩) hdp (.slice (if cf = 1 then some ⟨gf, of, none⟩ else some ⟨gf, of + 1, none⟩) fs.length (cf - 1)))
  have q4_ := Aside0.mk (Kd.F_far HK2.out (p := ⟨pA, 1, none⟩) hdp (.slice (if cf = 1 then some ⟨gf, of, none⟩ else some ⟨gf, of + 1, none⟩) fs.length (cf - 1)))
  have q5_ := Aside0.mk (Kd.F_far HY2.out (p := ⟨pA, 1, none⟩) hdp (.slice (if cf = 1 then some ⟨gf, of, none⟩ else some ⟨gf, of + 1, none⟩) fs.length (cf - 1)))
  have q6_ : Aside0 (¬ ok w.heap.size) := ⟨fun hh => by have := HL.out _ hh; omega⟩
  have hi7 : Aside0 (a7.slots[ix]? = some s7) := ⟨by rw [← ha7]; exact hs7⟩
  have hl7 : ix < a.slots.length := (List.getElem?_eq_some_iff.1 hs7).1
  rw [ha7] at q0_
  clear HI2 HB2 HM2 HP2 HK2 HY2 hpb hdp c0 c1 cf0 hHeld z1 d0 d0' e1 e2 hcut
  generalize (Value.slice (if cf = 1 then some ⟨gf, of, none⟩ else some ⟨gf, of + 1, none⟩) fs.length (cf - 1)) = fv7 at q0_ q1_ q2_ q3_ q4_ q5_ ⊢
  generalize w2.setCell ⟨pA, 1, none⟩ fv7 = w7 at q0_ q1_ q2_ q3_ q4_ q5_ ⊢
  obtain ⟨hn7, g, rfl, hg, hρ, hcc, hfz⟩ := q0_.out.cells hi7.out
  have HG := Aside0.mk hg
  have HR := Aside0.mk hρ
  have HN7 := Aside0.mk hn7
  have HIL := Aside0.mk (List.getElem?_eq_some_iff.1 hi7.out).1
  have hb : w.heap.size < w7.heap.size := blk_lt q2_.out
  have HBL := Aside0.mk hb
  have hL7 := Aside0.mk q0_.out.lt
  have c0 := (blk_cell q0_.out.box 0).trans (rfl : _ = some (Value.slice (some ⟨g, 0, none⟩) _ _))
  have b1 : (0 : Int) ≤ ((ix : Nat) : Int) := by omega
  have b2 : ((ix : Nat) : Int) < ((a.slots.length : Nat) : Int) := by omega
  clear hg hρ hn7 hcc hfz hb
  go_upto_region 8 with fail
  clear c0
  generalize hbb : w.heap.size = b at q2_ q6_ HBL ⊢
  have HBB := Aside0.mk hbb
  clear hbb
  refine start_ (n := 16) (S := fun w' => w'.cell? ⟨b, 2, none⟩ = some (.slice Ap n.pairs.length cp) ∧ w'.cell? ⟨b, 3, none⟩ = some (.slice Ak n.keys.length ck) ∧ w'.cell? ⟨b, 4, none⟩ = some (.slice Ay n.ways.length cy)) (ds := [13, 15]) #[false, false, false, false, false, false, false, false, false, false, false, false, false, false, false, false] (by kernel_rfl) rfl rfl ⟨(blk_cell q2_.out 2).trans rfl, (blk_cell q2_.out 3).trans rfl, (blk_cell q2_.out 4).trans rfl⟩ (fun hHeld => ?_); refine with_tabW tabAlloc8 bitsAlloc8 (fun HT_ HW_ => ?_)
  have q0_ := Aside0.mk (q0_.out.step (w1 := w7.drew) (Nat.le_refl _) (fun _ _ _ => rfl))
  have q1_ := Aside0.mk q1_.out.drew
  have q2_ := Aside0.mk (blk_drew q2_.out)
  have q3_ := Aside0.mk (Kd.F_drew q3_.out)
  have q4_ := Aside0.mk (Kd.F_drew q4_.out)
  have q5_ := Aside0.mk (Kd.F_drew q5_.out)
  have HBL : Aside0 (b < w7.drew.heap.size) := HBL
  have hL7 : Aside0 (∀ k, ok k → k < w7.drew.heap.size) := hL7
  generalize World.drew _ = w3 at q0_ q1_ q2_ q3_ q4_ q5_ HBL hL7 hHeld ⊢
  refine pure_ (i := 0) (N := (some 62)) (v := ?_) (a' := ?_) #[true, false, false, false, false, false, false, false, false, false, false, false, false, false, false, false] rfl rfl (any_of HT_.out (by kernel_rfl)) (fun _ _ _ h => h) (Or.inl ⟨by rfl, ?_⟩) ?_ ?_
  rotate_left
  · intro w'
    go_simp
    with_reducible rfl
  rotate_left
  · simp only [Act.put, List.setIfInBounds_toArray, List.set_cons_zero, List.set_cons_succ, i64_w, i32_w]
    rfl
  refine take_ (i := 1) (N := (some 63)) (v := ?_) (a' := ?_) #[true, true, false, false, false, false, false, false, false, false, false, false, false, false, false, false] rfl rfl (take_ofW HT_.out HW_.out (by kernel_rfl)) (fun _ _ _ h => h) (Or.inl ⟨by rfl, ?_⟩) hHeld ?_ ?_
  rotate_left
  · rintro w' ⟨s0, s1, s2⟩
    go_simp
    with_reducible rfl
  rotate_left
  · simp only [Act.put, List.setIfInBounds_toArray, List.set_cons_zero, List.set_cons_succ, i64_w, i32_w]
    rfl
  refine pure_ (i := 3) (N := (some 65)) (v := ?_) (a' := ?_) #[true, true, false, true, false, false, false, false, false, false, false, false, false, false, false, false] rfl rfl (any_of HT_.out (by kernel_rfl)) (fun _ _ _ h => h) (Or.inl ⟨by rfl, ?_⟩) ?_ ?_
  rotate_left
  · intro w'
    go_simp
    with_reducible rfl
  rotate_left
  · simp only [Act.put, List.setIfInBounds_toArray, List.set_cons_zero, List.set_cons_succ, i64_w, i32_w]
    rfl
  refine pure_ (i := 4) (N := (some 66)) (v := ?_) (a' := ?_) #[true, true, false, true, true, false, false, false, false, false, false, false, false, false, false, false] rfl rfl (any_of HT_.out (by kernel_rfl)) (fun _ _ _ h => h) (Or.inl ⟨by rfl, ?_⟩) ?_ ?_
  rotate_left
  · intro w'
    go_simp
    with_reducible rfl
  rotate_left
  · simp only [Act.put, List.setIfInBounds_toArray, List.set_cons_zero, List.set_cons_succ, i64_w, i32_w]
    rfl
  refine take_ (i := 5) (N := (some 67)) (v := ?_) (a' := ?_) #[true, true, false, true, true, true, false, false, false, false, false, false, false, false, false, false] rfl rfl (take_ofW HT_.out HW_.out (by kernel_rfl)) (fun _ _ _ h => h) (Or.inl ⟨by rfl, ?_⟩) hHeld ?_ ?_
  rotate_left
  · rintro w' ⟨s0, s1, s2⟩
    go_simp
    with_reducible rfl
  rotate_left
  · simp only [Act.put, List.setIfInBounds_toArray, List.set_cons_zero, List.set_cons_succ, i64_w, i32_w]
    rfl
  refine pure_ (i := 7) (N := (some 69)) (v := ?_) (a' := ?_) #[true, true, false, true, true, true, false, true, false, false, false, false, false, false, false, false] rfl rfl (any_of HT_.out (by kernel_rfl)) (fun _ _ _ h => h) (Or.inl ⟨by rfl, ?_⟩) ?_ ?_
  rotate_left
  · intro w'
    go_simp
    with_reducible rfl
  rotate_left
  · simp only [Act.put, List.setIfInBounds_toArray, List.set_cons_zero, List.set_cons_succ, i64_w, i32_w]
    rfl
  refine pure_ (i := 8) (N := (some 70)) (v := ?_) (a' := ?_) #[true, true, false, true, true, true, false, true, true, false, false, false, false, false, false, false] rfl rfl (any_of HT_.out (by kernel_rfl)) (fun _ _ _ h => h) (Or.inl ⟨by rfl, ?_⟩) ?_ ?_
  rotate_left
  · intro w'
    go_simp
    with_reducible rfl
  rotate_left
  · simp only [Act.put, List.setIfInBounds_toArray, List.set_cons_zero, List.set_cons_succ, i64_w, i32_w]
    rfl
  refine take_ (i := 9) (N := (some 71)) (v := ?_) (a' := ?_) #[true, true, false, true, true, true, false, true, true, true, false, false, false, false, false, false] rfl rfl (take_ofW HT_.out HW_.out (by kernel_rfl)) (fun _ _ _ h => h) (Or.inl ⟨by rfl, ?_⟩) hHeld ?_ ?_
  rotate_left
  · rintro w' ⟨s0, s1, s2⟩
    go_simp
    with_reducible rfl
  rotate_left
  · simp only [Act.put, List.setIfInBounds_toArray, List.set_cons_zero, List.set_cons_succ, i64_w, i32_w]
    rfl
  refine one_ (i := 2) (N := (some 64)) #[true, true, true, true, true, true, false, true, true, true, false, false, false, false, false, false] rfl rfl (one_of HT_.out (by kernel_rfl)) (by decide) (fun K_ hK => ?_)
  refine call_ 102 #[.slice Ap n.pairs.length cp] (by rfl) rfl ?hrun2 ?_
  (case hrun2 => first | (go_simp; done) | (go_simp; exact enters Tryz.func102 (by kernel_rfl) rfl _ _))
  refine (clone_pairs Ap n.pairs.length cp n.pairs _ (Kd.F_now q3_.out) hnp).mono ?_
  rintro e w4 ⟨v4, rfl, hR4, hB4⟩
  obtain ⟨A4, cc4, rfl⟩ := Kd.R_slice hR4
  have mr_ := Aside0.mk hR4
  have mb_ := Aside0.mk hB4
  have m2_ := Aside0.mk (blk_below q2_.out hB4)
  have m4_ := Aside0.mk (Kd.F_below q4_.out hB4)
  have m5_ := Aside0.mk (Kd.F_below q5_.out hB4)
  clear hR4 hB4
  refine ⟨_, rfl, ?_⟩
  refine hK.out _ _ ⟨(blk_cell m2_.out 2).trans rfl, (blk_cell m2_.out 3).trans rfl, (blk_cell m2_.out 4).trans rfl⟩ (fun hHeld => ?_)
  clear hK K_
  refine norm_ (a' := ?_) ?_ ?_
  rotate_left
  · show Act.put _ (some 64) _ = _
    simp only [Act.put, List.setIfInBounds_toArray, List.set_cons_zero, List.set_cons_succ, i64_w, i32_w]
    rfl
  refine pure_ (i := 12) (N := (some 74)) (v := ?_) (a' := ?_) #[true, true, true, true, true, true, false, true, true, true, false, false, true, false, false, false] rfl rfl (any_of HT_.out (by kernel_rfl)) (fun _ _ _ h => h) (Or.inl ⟨by rfl, ?_⟩) ?_ ?_
  rotate_left
  · intro w'
    go_simp
    with_reducible rfl
  rotate_left
  · simp only [Act.put, List.setIfInBounds_toArray, List.set_cons_zero, List.set_cons_succ, i64_w, i32_w]
    rfl
  refine one_ (i := 6) (N := (some 68)) #[true, true, true, true, true, true, true, true, true, true, false, false, true, false, false, false] rfl rfl (one_of HT_.out (by kernel_rfl)) (by decide) (fun K_ hK => ?_)
  refine call_ 103 #[.slice Ak n.keys.length ck] (by rfl) rfl ?hrun6 ?_
  (case hrun6 => first | (go_simp; done) | (go_simp; exact enters Tryz.func103 (by kernel_rfl) rfl _ _))
  refine (clone_keys Ak n.keys.length ck n.keys _ (Kd.F_now m4_.out) hnk).mono ?_
  rintro e w5 ⟨v5, rfl, hR5, hB5⟩
  obtain ⟨A5, cc5, rfl⟩ := Kd.R_slice hR5
  have jr_ := Aside0.mk hR5
  have jb_ := Aside0.mk hB5
  have j2_ := Aside0.mk (blk_below m2_.out hB5)
  have j5_ := Aside0.mk (Kd.F_below m5_.out hB5)
  clear hR5 hB5
  refine ⟨_, rfl, ?_⟩
  refine hK.out _ _ ⟨(blk_cell j2_.out 2).trans rfl, (blk_cell j2_.out 3).trans rfl, (blk_cell j2_.out 4).trans rfl⟩ (fun hHeld => ?_)
  clear hK K_
  refine norm_ (a' := ?_) ?_ ?_
  rotate_left
  · show Act.put _ (some 68) _ = _
    simp only [Act.put, List.setIfInBounds_toArray, List.set_cons_zero, List.set_cons_succ, i64_w, i32_w]
    rfl
  refine one_ (i := 10) (N := (some 72)) #[true, true, true, true, true, true, true, true, true, true, true, false, true, false, false, false] rfl rfl (one_of HT_.out (by kernel_rfl)) (by decide) (fun K_ hK => ?_)
  refine call_ 104 #[.slice Ay n.ways.length cy] (by rfl) rfl ?hrun10 ?_
  (case hrun10 => first | (go_simp; done) | (go_simp; exact enters Tryz.func104 (by kernel_rfl) rfl _ _))
  refine (clone_ways Ay n.ways.length cy n.ways _ (Kd.F_now j5_.out) hny).mono ?_
  rintro e w6 ⟨v6, rfl, hR6, hB6⟩
  obtain ⟨A6, cc6, rfl⟩ := Kd.R_slice hR6
  have ir_ := Aside0.mk hR6
  have ib_ := Aside0.mk hB6
  have i2_ := Aside0.mk (blk_below j2_.out hB6)
  clear hR6 hB6
  refine ⟨_, rfl, ?_⟩
  refine hK.out _ _ ⟨(blk_cell i2_.out 2).trans rfl, (blk_cell i2_.out 3).trans rfl, (blk_cell i2_.out 4).trans rfl⟩ (fun hHeld => ?_)
  clear hK K_
  refine norm_ (a' := ?_) ?_ ?_
  rotate_left
  · show Act.put _ (some 72) _ = _
    simp only [Act.put, List.setIfInBounds_toArray, List.set_cons_zero, List.set_cons_succ, i64_w, i32_w]
    rfl
  refine pure_ (i := 11) (N := (some 73)) (v := ?_) (a' := ?_) #[true, true, true, true, true, true, true, true, true, true, true, true, true, false, false, false] rfl rfl (any_of HT_.out (by kernel_rfl)) (fun _ _ _ h => h) (Or.inl ⟨by rfl, ?_⟩) ?_ ?_
  rotate_left
  · intro w'
    go_simp
    with_reducible rfl
  rotate_left
  · simp only [Act.put, List.setIfInBounds_toArray, List.set_cons_zero, List.set_cons_succ, i64_w, i32_w]
    rfl
  have z2 := blk_frozen i2_.out 2
  have z3 := blk_frozen i2_.out 3
  have z4 := blk_frozen i2_.out 4
  refine last_ (i := 13) (N := none) #[true, true, true, true, true, true, true, true, true, true, true, true, true, true, false, false] rfl rfl (one_of HT_.out (by kernel_rfl)) (by decide) (fun K_ hK => ?_)
  refine skip_ (w1 := ?_) (by rfl) rfl ?_ ?_
  rotate_left
  · go_simp
    rfl
  refine hK.out _ _ ?_
  clear hK K_
  refine pure_ (i := 14) (N := (some 75)) (v := ?_) (a' := ?_) #[true, true, true, true, true, true, true, true, true, true, true, true, true, true, true, false] rfl rfl (any_of HT_.out (by kernel_rfl)) (fun _ _ _ h => h) (Or.inl ⟨by rfl, ?_⟩) ?_ ?_
  rotate_left
  · intro w'
    go_simp
    with_reducible rfl
  rotate_left
  · simp only [Act.put, List.setIfInBounds_toArray, List.set_cons_zero, List.set_cons_succ, i64_w, i32_w]
    rfl
  refine last_ (i := 15) (N := none) #[true, true, true, true, true, true, true, true, true, true, true, true, true, true, true, true] rfl rfl (one_of HT_.out (by kernel_rfl)) (by decide) (fun K_ hK => ?_)
  refine skip_ (w1 := ?_) (by rfl) rfl ?_ ?_
  rotate_left
  · go_simp
    rfl
  refine hK.out _ _ ?_
  clear hK K_
  refine done_ (done_of HT_.out (by kernel_rfl)) ?_
  have B36 := below_then (below_then mb_.out mb_.out.size jb_.out) (below_then mb_.out mb_.out.size jb_.out).size ib_.out
  have hnb : ∀ k, ok k → k ≠ b := fun k hk e => q6_.out (e ▸ hk)
  have a6_ := q0_.out.step (w1 := w6) B36.size (fun k _ hlt => B36.block k hlt)
  have q0_ := Aside0.mk (a6_.step (w1 := ((w6.setCell ⟨b, 2, none⟩ (.slice A4 n.pairs.length cc4)).setCell ⟨b, 3, none⟩ (.slice A5 n.keys.length cc5)).setCell ⟨b, 4, none⟩ (.slice A6 n.ways.length cc6)) (by simp [World.setCell]) (fun k hk _ => (Below.heap_setCell _ ⟨b, 4, none⟩ _ k (hnb k hk)).trans ((Below.heap_setCell _ ⟨b, 3, none⟩ _ k (hnb k hk)).trans (Below.heap_setCell _ ⟨b, 2, none⟩ _ k (hnb k hk)))))
  have q2_ := Aside0.mk (blk_set (blk_set (blk_set i2_.out 2 (.slice A4 n.pairs.length cc4)) 3 (.slice A5 n.keys.length cc5)) 4 (.slice A6 n.ways.length cc6))
  have hbw : w.heap.size ≤ b := by rw [HBB.out]; exact Nat.le_refl _
  have q1_ := Aside0.mk ((((q1_.out.below B36).set (p := ⟨b, 2, none⟩) (.inr hbw) (.slice A4 n.pairs.length cc4)).set (p := ⟨b, 3, none⟩) (.inr hbw) (.slice A5 n.keys.length cc5)).set (p := ⟨b, 4, none⟩) (.inr hbw) (.slice A6 n.ways.length cc6))
  have hlt3 := HBL.out
  have hq : ∀ N, w3.heap.size ≤ N → ∀ q, N ≤ q → q ≠ b := fun N h1 q h2 => by omega
  have p4_ := Aside0.mk (Kd.R_far (Kd.R_far (Kd.R_far (Kd.R_below (Kd.R_below mr_.out jb_.out) ib_.out) (p := ⟨b, 2, none⟩) (hq _ (Nat.le_refl _)) (.slice A4 n.pairs.length cc4)) (p := ⟨b, 3, none⟩) (hq _ (Nat.le_refl _)) (.slice A5 n.keys.length cc5)) (p := ⟨b, 4, none⟩) (hq _ (Nat.le_refl _)) (.slice A6 n.ways.length cc6))
  have p5_ := Aside0.mk (Kd.R_far (Kd.R_far (Kd.R_far (Kd.R_below jr_.out ib_.out) (p := ⟨b, 2, none⟩) (hq _ mb_.out.size) (.slice A4 n.pairs.length cc4)) (p := ⟨b, 3, none⟩) (hq _ mb_.out.size) (.slice A5 n.keys.length cc5)) (p := ⟨b, 4, none⟩) (hq _ mb_.out.size) (.slice A6 n.ways.length cc6))
  have p6_ := Aside0.mk (Kd.R_far (Kd.R_far (Kd.R_far ir_.out (p := ⟨b, 2, none⟩) (hq _ (Nat.le_trans mb_.out.size jb_.out.size)) (.slice A4 n.pairs.length cc4)) (p := ⟨b, 3, none⟩) (hq _ (Nat.le_trans mb_.out.size jb_.out.size)) (.slice A5 n.keys.length cc5)) (p := ⟨b, 4, none⟩) (hq _ (Nat.le_trans mb_.out.size jb_.out.size)) (.slice A6 n.ways.length cc6))
  have hLT7 : Aside0 (∀ k, ok k → k < w3.heap.size) := ⟨fun k hk => by have := q0_.out.lt k hk; exact hL7.out k hk⟩
  have l4_ := Aside0.mk mb_.out.size
  have l5_ := Aside0.mk jb_.out.size
  have l6_ := Aside0.mk ib_.out.size
  have s6_ : Aside0 ((((w6.setCell ⟨b, 2, none⟩ (.slice A4 n.pairs.length cc4)).setCell ⟨b, 3, none⟩ (.slice A5 n.keys.length cc5)).setCell ⟨b, 4, none⟩ (.slice A6 n.ways.length cc6)).heap.size = w6.heap.size) := ⟨by simp [World.setCell]⟩
  clear hq hlt3 hbw hnb B36 a6_ hHeld z2 z3 z4
  generalize ((w6.setCell ⟨b, 2, none⟩ (.slice A4 n.pairs.length cc4)).setCell ⟨b, 3, none⟩ (.slice A5 n.keys.length cc5)).setCell ⟨b, 4, none⟩ (.slice A6 n.ways.length cc6) = w8 at q0_ q1_ q2_ p4_ p5_ p6_ s6_ ⊢
  obtain ⟨_, g', e', _, _, hcc, hfz⟩ := q0_.out.cells hi7.out
  injection e' with e'
  injection e' with e' _ _
  subst e'
  have c8 := hcc 8 _ rfl
  have z8 := hfz 8
  have HC := Aside0.mk hcc
  clear hcc hfz
  go_upto_region 10 with fail
  have hN8 := q0_.out.node _ _ hi7.out
  have hW8 := q0_.out.ways _ _ hi7.out
  have q0_ := Aside0.mk (q0_.out.seg hi7.out 8 [.int .u32 ((s7.count + 1) % 4294967296)] (by simp) { s7 with count := (s7.count + 1) % 4294967296 } lv (fun _ _ => rfl) rfl hN8 hW8)
  have hgb : b ≠ g := fun e => q6_.out (e ▸ HG.out)
  have q2_ := Aside0.mk (blk_far q2_.out (p := ⟨g, ix * 10 + 8, none⟩) hgb (.int .u32 ((s7.count + 1) % 4294967296)))
  have q1_ := Aside0.mk (q1_.out.set (p := ⟨g, ix * 10 + 8, none⟩) (q1_.out.fresh g HG.out) (.int .u32 ((s7.count + 1) % 4294967296)))
  have hq : ∀ N, w3.heap.size ≤ N → ∀ q, N ≤ q → q ≠ g := fun N h1 q h2 e => by have := hL7.out g HG.out; omega
  have p4_ := Aside0.mk (Kd.R_far p4_.out (p := ⟨g, ix * 10 + 8, none⟩) (hq _ (Nat.le_refl _)) (.int .u32 ((s7.count + 1) % 4294967296)))
  have p5_ := Aside0.mk (Kd.R_far p5_.out (p := ⟨g, ix * 10 + 8, none⟩) (hq _ l4_.out) (.int .u32 ((s7.count + 1) % 4294967296)))
  have p6_ := Aside0.mk (Kd.R_far p6_.out (p := ⟨g, ix * 10 + 8, none⟩) (hq _ (Nat.le_trans l4_.out l5_.out)) (.int .u32 ((s7.count + 1) % 4294967296)))
  have s6_ : Aside0 ((w8.setCell ⟨g, ix * 10 + 8, none⟩ (.int .u32 ((s7.count + 1) % 4294967296))).heap.size = w6.heap.size) := ⟨by rw [← s6_.out]; simp [World.setCell]⟩
  have q0_ : Aside0 (ArenaAt ok pA _ fv7 lv ρ _ (w8.setCell ⟨g, ix * 10 + 8, none⟩ (.int .u32 ((s7.count + 1) % 4294967296)))) := q0_
  clear hgb hN8 hW8 c8 z8 HC
  generalize w8.setCell ⟨g, ix * 10 + 8, none⟩ (.int .u32 ((s7.count + 1) % 4294967296)) = w9 at q0_ q1_ q2_ p4_ p5_ p6_ s6_ ⊢
  generalize hcn : (s7.count + 1) % 4294967296 = cn at q0_ ⊢
  have hi9 : Aside0 ((a7.slots.set ix { s7 with count := cn })[ix]? = some { s7 with count := cn }) := ⟨List.getElem?_set_self HIL.out⟩
  obtain ⟨_, g', e', _, _, hcc, hfz⟩ := q0_.out.cells hi9.out
  injection e' with e'
  injection e' with e' _ _
  subst e'
  have c8 := hcc 8 _ rfl
  have HC := Aside0.mk hcc
  clear hcc hfz hq
  refine start_ (n := 13) (S := fun w' => w'.cell? ⟨b, 0, none⟩ = some (.bool n.inner) ∧ w'.cell? ⟨b, 1, none⟩ = some (.bool n.tagged) ∧ w'.cell? ⟨b, 2, none⟩ = some (.slice A4 n.pairs.length cc4) ∧ w'.cell? ⟨b, 3, none⟩ = some (.slice A5 n.keys.length cc5) ∧ w'.cell? ⟨b, 4, none⟩ = some (.slice A6 n.ways.length cc6) ∧ w'.cell? ⟨g, ix * 10 + 8, none⟩ = some (.int .u32 cn)) (ds := [12]) #[false, false, false, false, false, false, false, false, false, false, false, false, false] (by kernel_rfl) rfl rfl ⟨(blk_cell q2_.out 0).trans rfl, (blk_cell q2_.out 1).trans rfl, (blk_cell q2_.out 2).trans rfl, (blk_cell q2_.out 3).trans rfl, (blk_cell q2_.out 4).trans rfl, c8⟩ (fun hHeld => ?_); refine with_tabW tabAlloc10 bitsAlloc10 (fun HT_ HW_ => ?_)
  have q0_ := Aside0.mk (q0_.out.step (w1 := w9.drew) (Nat.le_refl _) (fun _ _ _ => rfl))
  have q1_ := Aside0.mk q1_.out.drew
  have q2_ := Aside0.mk (blk_drew q2_.out)
  have p4_ := Aside0.mk (Kd.R_drew p4_.out)
  have p5_ := Aside0.mk (Kd.R_drew p5_.out)
  have p6_ := Aside0.mk (Kd.R_drew p6_.out)
  have s6_ : Aside0 (w9.drew.heap.size = w6.heap.size) := s6_
  have c8 : w9.drew.cell? _ = _ := c8
  clear HC
  generalize World.drew _ = w9 at q0_ q1_ q2_ p4_ p5_ p6_ s6_ c8 hHeld ⊢
  refine pure_ (i := 0) (N := (some 83)) (v := ?_) (a' := ?_) #[true, false, false, false, false, false, false, false, false, false, false, false, false] rfl rfl (any_of HT_.out (by kernel_rfl)) (fun _ _ _ h => h) (Or.inl ⟨by rfl, ?_⟩) ?_ ?_
  rotate_left
  · intro w'
    go_simp
    with_reducible rfl
  rotate_left
  · simp only [Act.put, List.setIfInBounds_toArray, List.set_cons_zero, List.set_cons_succ, i64_w, i32_w]
    rfl
  refine take_ (i := 1) (N := (some 84)) (v := ?_) (a' := ?_) #[true, true, false, false, false, false, false, false, false, false, false, false, false] rfl rfl (take_ofW HT_.out HW_.out (by kernel_rfl)) (fun _ _ _ h => h) (Or.inl ⟨by rfl, ?_⟩) hHeld ?_ ?_
  rotate_left
  · rintro w' ⟨s0, s1, s2, s3, s4, s5⟩
    go_simp
    with_reducible rfl
  rotate_left
  · simp only [Act.put, List.setIfInBounds_toArray, List.set_cons_zero, List.set_cons_succ, i64_w, i32_w]
    rfl
  refine pure_ (i := 2) (N := (some 85)) (v := ?_) (a' := ?_) #[true, true, true, false, false, false, false, false, false, false, false, false, false] rfl rfl (any_of HT_.out (by kernel_rfl)) (fun _ _ _ h => h) (Or.inl ⟨by rfl, ?_⟩) ?_ ?_
  rotate_left
  · intro w'
    go_simp
    with_reducible rfl
  rotate_left
  · simp only [Act.put, List.setIfInBounds_toArray, List.set_cons_zero, List.set_cons_succ, i64_w, i32_w]
    rfl
  refine pure_ (i := 3) (N := (some 86)) (v := ?_) (a' := ?_) #[true, true, true, true, false, false, false, false, false, false, false, false, false] rfl rfl (any_of HT_.out (by kernel_rfl)) (fun _ _ _ h => h) (Or.inl ⟨by rfl, ?_⟩) ?_ ?_
  rotate_left
  · intro w'
    go_simp
    with_reducible rfl
  rotate_left
  · simp only [Act.put, List.setIfInBounds_toArray, List.set_cons_zero, List.set_cons_succ, i64_w, i32_w]
    rfl
  refine take_ (i := 4) (N := (some 87)) (v := ?_) (a' := ?_) #[true, true, true, true, true, false, false, false, false, false, false, false, false] rfl rfl (take_ofW HT_.out HW_.out (by kernel_rfl)) (fun _ _ _ h => h) (Or.inl ⟨by rfl, ?_⟩) hHeld ?_ ?_
  rotate_left
  · rintro w' ⟨s0, s1, s2, s3, s4, s5⟩
    go_simp
    with_reducible rfl
  rotate_left
  · simp only [Act.put, List.setIfInBounds_toArray, List.set_cons_zero, List.set_cons_succ, i64_w, i32_w]
    rfl
  refine pure_ (i := 6) (N := (some 89)) (v := ?_) (a' := ?_) #[true, true, true, true, true, false, true, false, false, false, false, false, false] rfl rfl (any_of HT_.out (by kernel_rfl)) (fun _ _ _ h => h) (Or.inl ⟨by rfl, ?_⟩) ?_ ?_
  rotate_left
  · intro w'
    go_simp
    with_reducible rfl
  rotate_left
  · simp only [Act.put, List.setIfInBounds_toArray, List.set_cons_zero, List.set_cons_succ, i64_w, i32_w]
    rfl
  refine pure_ (i := 7) (N := (some 90)) (v := ?_) (a' := ?_) #[true, true, true, true, true, false, true, true, false, false, false, false, false] rfl rfl (any_of HT_.out (by kernel_rfl)) (fun _ _ _ h => h) (Or.inl ⟨by rfl, ?_⟩) ?_ ?_
  rotate_left
  · intro w'
    go_simp
    with_reducible rfl
  rotate_left
  · simp only [Act.put, List.setIfInBounds_toArray, List.set_cons_zero, List.set_cons_succ, i64_w, i32_w]
    rfl
  refine pure_ (i := 8) (N := (some 91)) (v := ?_) (a' := ?_) #[true, true, true, true, true, false, true, true, true, false, false, false, false] rfl rfl (any_of HT_.out (by kernel_rfl)) (fun _ _ _ h => h) (Or.inl ⟨by rfl, ?_⟩) ?_ ?_
  rotate_left
  · intro w'
    go_simp
    with_reducible rfl
  rotate_left
  · simp only [Act.put, List.setIfInBounds_toArray, List.set_cons_zero, List.set_cons_succ, i64_w, i32_w]
    rfl
  refine take_ (i := 9) (N := (some 92)) (v := ?_) (a' := ?_) #[true, true, true, true, true, false, true, true, true, true, false, false, false] rfl rfl (take_ofW HT_.out HW_.out (by kernel_rfl)) (fun _ _ _ h => h) (Or.inl ⟨by rfl, ?_⟩) hHeld ?_ ?_
  rotate_left
  · rintro w' ⟨s0, s1, s2, s3, s4, s5⟩
    go_simp
    with_reducible rfl
  rotate_left
  · simp only [Act.put, List.setIfInBounds_toArray, List.set_cons_zero, List.set_cons_succ, i64_w, i32_w]
    rfl
  refine one_ (i := 5) (N := (some 88)) #[true, true, true, true, true, true, true, true, true, true, false, false, false] rfl rfl (one_of HT_.out (by kernel_rfl)) (by decide) (fun K_ hK => ?_)
  refine call_ 104 #[.slice A6 n.ways.length cc6] (by rfl) rfl ?hrun5 ?_
  (case hrun5 => first | (go_simp; done) | (go_simp; exact enters Tryz.func104 (by kernel_rfl) rfl _ _))
  refine (clone_ways A6 n.ways.length cc6 n.ways _ (Kd.R_reads' p6_.out).2.2 hny).mono ?_
  rintro e wa ⟨va, rfl, hRa, hBa⟩
  obtain ⟨Aa, cca, rfl⟩ := Kd.R_slice hRa
  have ar_ := Aside0.mk hRa
  have ab_ := Aside0.mk hBa
  have a2_ := Aside0.mk (blk_below q2_.out hBa)
  have c8 := pw_cell_below hBa c8
  clear hRa hBa
  refine ⟨_, rfl, ?_⟩
  refine hK.out _ _ ⟨(blk_cell a2_.out 0).trans rfl, (blk_cell a2_.out 1).trans rfl, (blk_cell a2_.out 2).trans rfl, (blk_cell a2_.out 3).trans rfl, (blk_cell a2_.out 4).trans rfl, c8⟩ (fun hHeld => ?_)
  clear hK K_
  refine norm_ (a' := ?_) ?_ ?_
  rotate_left
  · show Act.put _ (some 88) _ = _
    simp only [Act.put, List.setIfInBounds_toArray, List.set_cons_zero, List.set_cons_succ, i64_w, i32_w]
    rfl
  refine pure_ (i := 10) (N := (some 93)) (v := ?_) (a' := ?_) #[true, true, true, true, true, true, true, true, true, true, true, false, false] rfl rfl (any_of HT_.out (by kernel_rfl)) (fun _ _ _ h => h) (Or.inl ⟨by rfl, ?_⟩) ?_ ?_
  rotate_left
  · intro w'
    go_simp
    with_reducible rfl
  rotate_left
  · simp only [Act.put, List.setIfInBounds_toArray, List.set_cons_zero, List.set_cons_succ, i64_w, i32_w]
    rfl
  refine pure_ (i := 11) (N := (some 94)) (v := ?_) (a' := ?_) #[true, true, true, true, true, true, true, true, true, true, true, true, false] rfl rfl (any_of HT_.out (by kernel_rfl)) (fun _ _ _ h => h) (Or.inl ⟨by rfl, ?_⟩) ?_ ?_
  rotate_left
  · intro w'
    go_simp
    with_reducible rfl
  rotate_left
  · simp only [Act.put, List.setIfInBounds_toArray, List.set_cons_zero, List.set_cons_succ, i64_w, i32_w]
    rfl
  refine last_ (i := 12) (N := none) #[true, true, true, true, true, true, true, true, true, true, true, true, true] rfl rfl (one_of HT_.out (by kernel_rfl)) (by decide) (fun K_ hK => ?_)
  have q0_ := Aside0.mk (q0_.out.step (w1 := wa) ab_.out.size (fun k _ hlt => ab_.out.block k hlt))
  have q1_ := Aside0.mk (q1_.out.below ab_.out)
  have u4_ := Aside0.mk (Kd.R_lt p4_.out)
  have u5_ := Aside0.mk (Kd.R_lt p5_.out)
  have u6_ := Aside0.mk (Kd.R_lt p6_.out)
  have p4_ := Aside0.mk (Kd.R_below p4_.out ab_.out)
  have p5_ := Aside0.mk (Kd.R_below p5_.out ab_.out)
  have p6_ := Aside0.mk (Kd.R_below p6_.out ab_.out)
  obtain ⟨cur, hcur, hcs⟩ := q0_.out.block
  have hfit : ix * 10 + 10 ≤ cur.size := by
    have h1 := HIL.out
    have h2 : (a7.slots.set ix { s7 with count := cn }).length = a7.slots.length := List.length_set
    rw [show ({ a7 with slots := a7.slots.set ix { s7 with count := cn } } : Ar).slots.length = a7.slots.length from h2] at hcs
    omega
  refine skip_ (w1 := wa.setCells g (ix * 10) [.bool n.inner, .bool n.tagged, .slice A4 n.pairs.length cc4, .slice A5 n.keys.length cc5, .slice A6 n.ways.length cc6, .slice Aa n.ways.length cca, .int .i64 0, .bool false, .int .u32 cn, .bool true]) (by rfl) rfl ?hst ?_
  (case hst => exact exec_store _ [.bool n.inner, .bool n.tagged, .slice A4 n.pairs.length cc4, .slice A5 n.keys.length cc5, .slice A6 n.ways.length cc6, .slice Aa n.ways.length cca, .int .i64 0, .bool false, .int .u32 cn, .bool true] rfl (by rfl) (by rfl) hcur rfl (by kernel_rfl) hfit (by intro u hu; simp only [List.mem_cons, List.not_mem_nil, or_false] at hu; rcases hu with rfl | rfl | rfl | rfl | rfl | rfl | rfl | rfl | rfl | rfl <;> rfl))
  refine hK.out _ _ ?_
  clear hK K_ hHeld c8 hcur hcs hfit
  refine done_ (done_of HT_.out (by kernel_rfl)) ?_
  clear HT_ HW_
  have t4_ := Kd.R_tight (by rfl) p4_.out
  have t5_ := Kd.R_tight (by rfl) p5_.out
  have t6_ := Kd.R_tight (by rfl) p6_.out
  have ta_ := Kd.R_tight (by rfl) ar_.out
  have b4_ : ∀ k, some k = (Value.slice A4 n.pairs.length cc4).ownBlock → w3.heap.size ≤ k ∧ k < w9.heap.size := fun k hk => ⟨Kd.R_base p4_.out k hk.symm, u4_.out k hk.symm⟩
  have b5_ : ∀ k, some k = (Value.slice A5 n.keys.length cc5).ownBlock → w3.heap.size ≤ k ∧ k < w9.heap.size := fun k hk => ⟨Nat.le_trans l4_.out (Kd.R_base p5_.out k hk.symm), u5_.out k hk.symm⟩
  have b6_ : ∀ k, some k = (Value.slice A6 n.ways.length cc6).ownBlock → w3.heap.size ≤ k ∧ k < w9.heap.size := fun k hk => ⟨Nat.le_trans l4_.out (Nat.le_trans l5_.out (Kd.R_base p6_.out k hk.symm)), u6_.out k hk.symm⟩
  have ba_ : ∀ k, some k = (Value.slice Aa n.ways.length cca).ownBlock → w9.heap.size ≤ k ∧ k < wa.heap.size := fun k hk => ⟨Kd.R_base ar_.out k hk.symm, Kd.R_lt ar_.out k hk.symm⟩
  have r4_ := (Kd.R_reads' p4_.out).2.1
  have r5_ := (Kd.R_reads' p5_.out).2.1
  have r6_ := (Kd.R_reads' p6_.out).2.1
  have hsz : w3.heap.size ≤ w9.heap.size := by have h1 := l4_.out; have h2 := l5_.out; have h3 := l6_.out; have h4 := s6_.out; omega
  have hL := hL7.out
  generalize hpv : Value.slice A4 n.pairs.length cc4 = pv at t4_ b4_
  generalize hkv : Value.slice A5 n.keys.length cc5 = kv at t5_ b5_
  generalize hyv : Value.slice A6 n.ways.length cc6 = yv at t6_ b6_
  generalize hwv : Value.slice Aa n.ways.length cca = wv at ta_ ba_
  have h11 := q0_.out.mono (ok1 := fun k => ok k ∨ some k = pv.ownBlock ∨ some k = kv.ownBlock ∨ some k = yv.ownBlock ∨ some k = wv.ownBlock) (ρ1 := fun k => if some k = wv.ownBlock then 4 + ix else if (some k = pv.ownBlock ∨ some k = kv.ownBlock ∨ some k = yv.ownBlock) then 3 else ρ k) (fun k hk => .inl hk) (fun k hk => by
    have hab := ab_.out.size
    rcases hk with hk | hk | hk | hk | hk
    · exact q0_.out.lt k hk
    · have := b4_ k hk; omega
    · have := b5_ k hk; omega
    · have := b6_ k hk; omega
    · have := ba_ k hk; omega) (fun k hk => by
    have h0 := hL k hk
    show (if some k = wv.ownBlock then 4 + ix else if (some k = pv.ownBlock ∨ some k = kv.ownBlock ∨ some k = yv.ownBlock) then 3 else ρ k) = ρ k
    rw [if_neg (fun e => by have := ba_ k e; omega), if_neg (fun e => e.elim (fun e => by have := b4_ k e; omega) (fun e => e.elim (fun e => by have := b5_ k e; omega) (fun e => by have := b6_ k e; omega)))])
  have h3_ : ∀ k, (some k = pv.ownBlock ∨ some k = kv.ownBlock ∨ some k = yv.ownBlock) → (ok k ∨ some k = pv.ownBlock ∨ some k = kv.ownBlock ∨ some k = yv.ownBlock ∨ some k = wv.ownBlock) ∧ (if some k = wv.ownBlock then 4 + ix else if (some k = pv.ownBlock ∨ some k = kv.ownBlock ∨ some k = yv.ownBlock) then 3 else ρ k) = 3 := fun k hk => by
    refine ⟨?_, ?_⟩
    · rcases hk with hk | hk | hk
      · exact .inr (.inl hk)
      · exact .inr (.inr (.inl hk))
      · exact .inr (.inr (.inr (.inl hk)))
    · rw [if_neg (fun e => by
        have h5 := ba_ k e
        rcases hk with hk | hk | hk
        · have := b4_ k hk; omega
        · have := b5_ k hk; omega
        · have := b6_ k hk; omega), if_pos hk]
  have h4_ : ∀ k, some k = wv.ownBlock → (ok k ∨ some k = pv.ownBlock ∨ some k = kv.ownBlock ∨ some k = yv.ownBlock ∨ some k = wv.ownBlock) ∧ (if some k = wv.ownBlock then 4 + ix else if (some k = pv.ownBlock ∨ some k = kv.ownBlock ∨ some k = yv.ownBlock) then 3 else ρ k) = 4 + ix := fun k hk => ⟨.inr (.inr (.inr (.inr hk))), if_pos hk⟩
  have h12 := h11.seg hi9.out 0 [.bool n.inner, .bool n.tagged, .slice A4 n.pairs.length cc4, .slice A5 n.keys.length cc5, .slice A6 n.ways.length cc6, .slice Aa n.ways.length cca, .int .i64 0, .bool false, .int .u32 cn, .bool true] (by simp) (slotOf n cn) (fun j => if j = ix then ⟨pv, kv, yv, wv⟩ else lv j) (fun j hj => if_neg hj) (by show slotCells (slotOf n cn) (if ix = ix then _ else _) = _; rw [if_pos rfl, ← hpv, ← hkv, ← hyv, ← hwv]; rfl)
    (by
      show NodeAt wa _ n (if ix = ix then _ else _)
      rw [if_pos rfl]
      subst hpv hkv hyv
      exact ⟨⟨A4, cc4, rfl, r4_, Kd.F_mono (Kd.R_F t4_) (fun k hk => h3_ k (.inl hk))⟩, ⟨A5, cc5, rfl, r5_, Kd.F_mono (Kd.R_F t5_) (fun k hk => h3_ k (.inr (.inl hk)))⟩, ⟨A6, cc6, rfl, r6_, Kd.F_mono (Kd.R_F t6_) (fun k hk => h3_ k (.inr (.inr hk)))⟩⟩)
    (by
      show (Kd.int .i64).R _ wa 0 _ (if ix = ix then _ else _ : Lv).w n.ways
      rw [if_pos rfl]
      exact Kd.R_lower (Kd.R_mono ta_ h4_) (Nat.zero_le _))
  obtain ⟨lvz, ρz, h12⟩ : ∃ lvz ρz, ArenaAt (fun k => ok k ∨ some k = pv.ownBlock ∨ some k = kv.ownBlock ∨ some k = yv.ownBlock ∨ some k = wv.ownBlock) pA (.slice (some ⟨g, 0, none⟩) a.slots.length cap) fv7 lvz ρz { a7 with slots := a7.slots.set ix (slotOf n cn) } (wa.setCells g (ix * 10) [.bool n.inner, .bool n.tagged, .slice A4 n.pairs.length cc4, .slice A5 n.keys.length cc5, .slice A6 n.ways.length cc6, .slice Aa n.ways.length cca, .int .i64 0, .bool false, .int .u32 cn, .bool true]) := by
    have h13 := h12
    rw [show ({ a7 with slots := a7.slots.set ix { s7 with count := cn } } : Ar).slots = a7.slots.set ix { s7 with count := cn } from rfl, List.set_set] at h13
    exact ⟨_, _, h13⟩
  have m12 : Moves ok (fun k => ok k ∨ some k = pv.ownBlock ∨ some k = kv.ownBlock ∨ some k = yv.ownBlock ∨ some k = wv.ownBlock) w (wa.setCells g (ix * 10) [.bool n.inner, .bool n.tagged, .slice A4 n.pairs.length cc4, .slice A5 n.keys.length cc5, .slice A6 n.ways.length cc6, .slice Aa n.ways.length cca, .int .i64 0, .bool false, .int .u32 cn, .bool true]) := (moves_cells q1_.out (q1_.out.fresh g HG.out) _ _).owns (fun k hk => by
    have hw3 : w.heap.size ≤ w3.heap.size := by have := HBB.out; have := HBL.out; omega
    rcases hk with hk | hk | hk | hk | hk
    · exact q1_.out.fresh k hk
    · have := b4_ k hk; exact .inr (by omega)
    · have := b5_ k hk; exact .inr (by omega)
    · have := b6_ k hk; exact .inr (by omega)
    · have := ba_ k hk; exact .inr (by omega))
  generalize hok : (fun k => ok k ∨ some k = pv.ownBlock ∨ some k = kv.ownBlock ∨ some k = yv.ownBlock ∨ some k = wv.ownBlock) = ok12 at h12 m12
  have q0_ := Aside0.mk h12
  have q1_ := Aside0.mk m12
  clear h12 m12 h11 h3_ h4_ t4_ t5_ t6_ ta_ b4_ b5_ b6_ ba_ hL hsz hok
  subst hpv hkv hyv hwv
  generalize wa.setCells g (ix * 10) [.bool n.inner, .bool n.tagged, .slice A4 n.pairs.length cc4, .slice A5 n.keys.length cc5, .slice A6 n.ways.length cc6, .slice Aa n.ways.length cca, .int .i64 0, .bool false, .int .u32 cn, .bool true] = wb at q0_ q1_ ⊢
  have c3 := (blk_cell q0_.out.box 3).trans (rfl : _ = some (Value.int .i64 a7.used))
  have z3 := blk_frozen q0_.out.box 3
  go_upto_region 12 with fail
  have q0_ := Aside0.mk (q0_.out.box_set 3 (.int .i64 (wrap64 (a7.used + 1))) (a7.put ix n cn) rfl rfl rfl)
  have q1_ : Aside0 (Moves ok ok12 w (wb.setCell ⟨pA, 3, none⟩ (.int .i64 (wrap64 (a7.used + 1))))) := ⟨q1_.out.set (p := ⟨pA, 3, none⟩) (q1_.out.fresh pA q0_.out.own) _⟩
  clear c3 z3
  generalize wb.setCell ⟨pA, 3, none⟩ (.int .i64 (wrap64 (a7.used + 1))) = wc at q0_ q1_ ⊢
  have hi12 : (a7.put ix n cn).slots[ix]? = some (slotOf n cn) := List.getElem?_set_self HIL.out
  obtain ⟨_, g', e', _, _, hcc, _⟩ := q0_.out.cells hi12
  injection e' with e'
  injection e' with e' _ _
  subst e'
  have c8 := hcc 8 _ (rfl : _ = some (Value.int .u32 cn))
  clear hcc hi12
  go_wp2_with (go_at_call 105; refine (ref_of _ cn _).mono ?_; rintro e w1 ⟨rfl, rfl⟩)
  go_ret2
  subst hcn
  exact ⟨rfl, ok12, ⟨_, _, _, _, q0_.out⟩, q1_.out⟩

/-- A node that is small. -/
structure Nd.Small (n : Nd) : Prop where
  pairs : n.pairs.length < 1000000
  keys : n.keys.length < 1000000
  ways : n.ways.length < 1000000
theorem alloc_calls {ok : Nat → Prop} {pA : Nat} {a a1 : Ar} {r : Int} {b : Bool} (n : Nd) (v : Value) (w : World) (h : IsArena ok pA a w) (hl : a.slots.length < 999999) (hn : NdF (fun k => ¬ ok k) n v w) (hs : n.Small) (hr : a.alloc n = some ((r, b), a1)) :
    Calls Tryz.prog 68 #[.pointer (some ⟨pA, 0, none⟩), v] w (AllocPost ok pA r b a1 w) := by
  unfold Ar.alloc at hr
  by_cases hx : a.most ≤ a.used
  · rw [if_pos hx] at hr
    injection hr with hr
    injection hr with h1 h2
    injection h1 with h1 h3
    subst h1 h2 h3
    exact alloc_full n v w h hn hx
  · rw [if_neg hx] at hr
    unfold Ar.take at hr
    cases hf : a.free with
    | nil =>
      rw [hf] at hr
      simp only at hr
      rw [show (a.slots ++ [sl0])[a.slots.length]? = some sl0 by simp] at hr
      injection hr with hr
      injection hr with h1 h2
      injection h1 with h1 h3
      subst h1 h2 h3
      exact alloc_more n v w h hn hx hf hl hs.pairs hs.keys hs.ways _ (by rw [hf]) sl0 rfl
    | cons f fs =>
      rw [hf] at hr
      simp only at hr
      by_cases hfi : 0 ≤ f ∧ f.toNat < a.slots.length
      · rw [if_pos hfi] at hr
        simp only at hr
        have hfx : f = (f.toNat : Int) := by omega
        cases hs7 : a.slots[f.toNat]? with
        | none => rw [hs7] at hr; cases hr
        | some s7 =>
          rw [hs7] at hr
          injection hr with hr
          injection hr with h1 h2
          injection h1 with h1 h3
          subst h1 h2 h3
          exact alloc_again n v w h hn hx f.toNat fs (by rw [hf, ← hfx]) hl hs.pairs hs.keys hs.ways _ rfl s7 hs7
      · rw [if_neg hfi] at hr
        cases hr
end Go.Proofs.YtchjjoepikcmfaaGreat.Tower
