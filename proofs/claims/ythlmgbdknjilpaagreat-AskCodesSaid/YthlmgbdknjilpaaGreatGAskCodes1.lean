/- (*Arena).Alloc, walked. What all share: the table of records, the epochs, the world; and how they are made. world.New, walked. Small functions: cmp.Less, slices.BinarySearch, Inner.Way, mend.Look, walked. (*Thread).Ask, walked. thread.New and what tells of a thread: Out, Done, Steps, walked. seek.Path, walked: its Lean twin over what is shared and the log. The closure of seek.Path, walked. seek.Path, walked. mend.Look, and mend.Path where nothing is wrong, walked. -/
import Derived.Test.YthlmgbdknjilpaaGreatGAskCodes0
import Derived.LoopTactic
import Derived.Deep.LoopGhost
namespace Go.Proofs.YthlmgbdknjilpaaGreat.Tower
open Go Go.RowKit Go.Proofs.YthlmgbdknjilpaaGreatW.PrintWords Go.Proofs.YthlmgbdknjilpaaGreatW.PrintLast Go.Proofs.YthlmgbdknjilpaaGreatW.PrintMore Go.Proofs.YthlmgbdknjilpaaGreat.Own
set_option linter.unusedVariables false
set_option linter.unusedSimpArgs false

def sl0 : Sl := ⟨nd0, [], 0, false, 0, false⟩
def lv0 : Lv := ⟨.slice none 0 0, .slice none 0 0, .slice none 0 0, .slice none 0 0⟩
def u32w (n : Int) : Int := n % 4294967296
/-- The place for a new node. -/
def Ar.take (a : Ar) : Option (Nat × Ar) :=
  match a.free with
  | f :: fs => if 0 ≤ f ∧ f.toNat < a.slots.length then some (f.toNat, { a with free := fs }) else none
  | [] => some (a.slots.length, { a with slots := a.slots ++ [sl0] })
def slotOf (n : Nd) (c : Int) : Sl := ⟨n, n.ways, 0, false, c, true⟩
def Ar.put (a : Ar) (i : Nat) (n : Nd) (c : Int) : Ar := { a with slots := a.slots.set i (slotOf n c), used := wrap64 (a.used + 1) }
def Ar.alloc (a : Ar) (n : Nd) : Option ((Int × Bool) × Ar) :=
  if a.most ≤ a.used then some ((0, false), a)
  else match a.take with
    | none => none
    | some (i, a1) => match a1.slots[i]? with
      | none => none
      | some s => some ((refOf i (u32w (s.count + 1)), true), a1.put i n (u32w (s.count + 1)))

theorem exec_store {P : Program} {w : World} {a : Act} {o : Oper} {t : TypeId} {p x : Operand} {g o1 : Nat} {e : TypeId} {cur : Array Value} (u : Value) (seg : List Value) (ho : o.op = .store t p x) (hp : a.eval p = .pointer (some ⟨g, o1, none⟩)) (hx : a.eval x = u)
    (hh : w.heap[g]? = some (.cells cur e (0, 0))) (hu : u.cells.toList = seg) (ht : (P.info? t).map (·.size) = some seg.length) (hfit : o1 + seg.length ≤ cur.size) (h1 : ∀ q ∈ seg, q.oneCell' = true) : (execOp a.eval o).run P w = .ok .skip (w.setCells g o1 seg) := by
  simp [execOp, ho, hp, hx, run_store_run t u seg hh hu ht hfit h1]
theorem ArenaAt.block {ok : Nat → Prop} {pA g n cap : Nat} {fv : Value} {lv : Nat → Lv} {ρ : Nat → Nat} {a : Ar} {w : World} (h : ArenaAt ok pA (.slice (some ⟨g, 0, none⟩) n cap) fv lv ρ a w) : ∃ cur, w.heap[g]? = some (.cells cur 149 (0, 0)) ∧ a.slots.length * 10 ≤ cur.size := by
  obtain ⟨_, inner, ho, hr⟩ := h.rows
  rcases ho.2 with ⟨hv, _⟩ | ⟨g1, c1, cur, hv, hb, hh, hnc, hcm, hcs, ht⟩
  · cases hv
  · have hnl := (Kd.R_reads' h.rows).1
    injection hv with hv hn1 hc1
    injection hv with hv
    injection hv with hv _ _
    subst hv
    rw [rowsOf_length] at hnl hnc
    refine ⟨cur, hh, ?_⟩
    rw [hcs, show (Kd.raw 10).sz = 10 from rfl]
    exact Nat.mul_le_mul_right _ hnc
theorem moves_cells {ok ok1 : Nat → Prop} {w w1 : World} (h : Moves ok ok1 w w1) {g : Nat} (hg : ok g ∨ w.heap.size ≤ g) (o : Nat) (seg : List Value) : Moves ok ok1 w (w1.setCells g o seg) := by
  obtain ⟨s1, s2, s3, s4⟩ := setCells_same g seg o w1
  exact ⟨s1.trans h.os, s2.trans h.tape, s3.trans h.output, by rw [s4]; exact h.size, fun i hi hn => (setCells_far seg o i (fun e => by subst e; exact hg.elim hn (fun h2 => by omega))).trans (h.block i hi hn), h.fresh⟩
theorem SlF.nil {α : Type} (d : Kd α) (w : World) (ok : Nat → Prop) : SlF d w ok (.slice none 0 0) [] := ⟨none, 0, rfl, Nat.le_refl _, Kd.F_nil _ _ _⟩
/-- A place more. -/
theorem ArenaAt.pushed {ok : Nat → Prop} {pA : Nat} {sv fv v1 : Value} {lv : Nat → Lv} {ρ : Nat → Nat} {a : Ar} {W w1 : World} (h : ArenaAt ok pA sv fv lv ρ a W) (hg : W.grownBy w1 sv.ownBlock) (hat : v1.ownBlock = sv.ownBlock ∨ ∃ b, v1.ownBlock = some b ∧ W.heap.size ≤ b)
    (hr : (Kd.raw 10).R 149 w1 0 (fun k => (ok k ∧ ρ k = 1) ∨ W.heap.size ≤ k) v1 (rowsOf a.slots lv ++ [slotCells sl0 lv0])) :
    ArenaAt (fun k => ok k ∨ (W.heap.size ≤ k ∧ k < w1.heap.size)) pA v1 fv (fun j => if j = a.slots.length then lv0 else lv j) (fun k => if k < W.heap.size then ρ k else 1) { a with slots := a.slots ++ [sl0] } (w1.setCell ⟨pA, 0, none⟩ v1) := by
  have hpA := h.lt pA h.own
  have hs : (w1.setCell ⟨pA, 0, none⟩ v1).heap.size = w1.heap.size := by simp [World.setCell]
  have hne : ∀ r, r ≠ 1 → ∀ k, (ok k ∧ ρ k = r) → some k ≠ sv.ownBlock := fun r hr1 k hk e => by
    have := (h.rows.1 k e.symm).2
    rw [hk.2] at this
    exact hr1 this
  have hmove : ∀ r, r ≠ 1 → r ≠ 0 → ∀ k, (ok k ∧ ρ k = r) → k < W.heap.size → (w1.setCell ⟨pA, 0, none⟩ v1).heap[k]? = W.heap[k]? := fun r hr1 hr0 k hk hlt =>
    (Below.heap_setCell w1 ⟨pA, 0, none⟩ v1 k (fun e => hr0 (by rw [← hk.2, show k = pA from e, h.role]))).trans (hg.block k hlt (hne r hr1 k hk))
  have hup : ∀ r k, (ok k ∧ ρ k = r) → k < W.heap.size → ((ok k ∨ (W.heap.size ≤ k ∧ k < w1.heap.size)) ∧ (if k < W.heap.size then ρ k else 1) = r) := fun r k hk hlt => ⟨.inl hk.1, by rw [if_pos hlt]; exact hk.2⟩
  have hrows : rowsOf (a.slots ++ [sl0]) (fun j => if j = a.slots.length then lv0 else lv j) = rowsOf a.slots lv ++ [slotCells sl0 lv0] := by
    refine List.ext_getElem? fun j => ?_
    by_cases hj : j < a.slots.length
    · have hja : j < (a.slots ++ [sl0]).length := by simp; omega
      rw [List.getElem?_append_left (by rw [rowsOf_length]; exact hj)]
      have e1 : (a.slots ++ [sl0])[j]? = a.slots[j]? := List.getElem?_append_left hj
      have hjn : j ≠ a.slots.length := by omega
      simp [rowsOf, List.getElem?_zipIdx, e1, hj, hjn]
    · rw [List.getElem?_append_right (by rw [rowsOf_length]; omega), rowsOf_length]
      by_cases hj2 : j = a.slots.length
      · subst hj2
        simp [rowsOf, List.getElem?_zipIdx]
      · have e1 : (a.slots ++ [sl0])[j]? = none := List.getElem?_eq_none (by simp; omega)
        have e2 : ([slotCells sl0 lv0] : List (List Value))[j - a.slots.length]? = none := List.getElem?_eq_none (by simp; omega)
        rw [e2]
        simp [rowsOf, List.getElem?_zipIdx, e1]
  have hget : ∀ {i : Nat} {s : Sl}, (a.slots ++ [sl0])[i]? = some s → (i = a.slots.length ∧ s = sl0) ∨ (i < a.slots.length ∧ a.slots[i]? = some s) := fun {i s} h2 => by
    by_cases hi : i < a.slots.length
    · rw [List.getElem?_append_left hi] at h2
      exact .inr ⟨hi, h2⟩
    · rw [List.getElem?_append_right (by omega)] at h2
      by_cases hi2 : i = a.slots.length
      · subst hi2
        rw [Nat.sub_self] at h2
        injection h2 with h2
        exact .inl ⟨rfl, h2.symm⟩
      · rw [List.getElem?_eq_none (by simp; omega)] at h2
        cases h2
  exact {
    own := .inl h.own
    role := by rw [if_pos hpA]; exact h.role
    lt := fun k hk => by
      rw [hs]
      rcases hk with hk | hk
      · exact Nat.lt_of_lt_of_le (h.lt k hk) hg.size
      · exact hk.2
    box := by
      have h0 := blk_grown h.box hg (fun e => by have := (h.rows.1 pA e.symm).2; rw [h.role] at this; cases this)
      exact blk_set h0 0 v1
    rows := by
      rw [hrows]
      refine Kd.R_far (Kd.R_mono (Kd.R_bound hr) (fun k hk => ?_)) (fun k hk e => ?_) v1
      · have hlt := hk.2.2.1
        rcases hk.1 with h1 | h1
        · exact ⟨.inl h1.1, by rw [if_pos (h.lt k h1.1)]; exact h1.2⟩
        · exact ⟨.inr ⟨h1, hlt⟩, by rw [if_neg (by omega)]⟩
      · have := hk.2
        rw [show k = pA from e, if_pos hpA, h.role] at this
        cases this
    free := Kd.Q_mono (Kd.Q_step (Kd.Q_bound h.free) (fun k hk hlt => hmove 2 (by decide) (by decide) k hk.1 hlt)) (fun k hk => hup 2 k hk.1 (h.lt k hk.1.1))
    node := fun i s h2 => by
      rcases hget h2 with ⟨rfl, rfl⟩ | ⟨hi, h2⟩
      · rw [if_pos rfl]
        exact ⟨SlF.nil _ _ _, SlF.nil _ _ _, SlF.nil _ _ _⟩
      · rw [if_neg (by omega)]
        have hn := h.node i s h2
        exact ⟨(hn.1.step (hmove 3 (by decide) (by decide))).mono (fun k hk _ => hup 3 k hk (h.lt k hk.1)), (hn.2.1.step (hmove 3 (by decide) (by decide))).mono (fun k hk _ => hup 3 k hk (h.lt k hk.1)), (hn.2.2.step (hmove 3 (by decide) (by decide))).mono (fun k hk _ => hup 3 k hk (h.lt k hk.1))⟩
    ways := fun i s h2 => by
      rcases hget h2 with ⟨rfl, rfl⟩ | ⟨hi, h2⟩
      · rw [if_pos rfl]
        exact Kd.R_nil _ _ _ _ _
      · rw [if_neg (by omega)]
        exact Kd.R_mono (Kd.R_step (h.ways i s h2) (hmove _ (by omega) (by omega))) (fun k hk => hup _ k hk (h.lt k hk.1)) }
/-- The first of the free places is taken. -/
theorem ArenaAt.popped {ok : Nat → Prop} {pA n c : Nat} {A : Option Addr} {sv : Value} {lv : Nat → Lv} {ρ : Nat → Nat} {a : Ar} {w : World} {f : Int} {fs : List Int} (h : ArenaAt ok pA sv (.slice A n c) lv ρ a w) (hf : a.free = f :: fs) :
    ArenaAt ok pA sv (.slice (if c = 1 then A else A.map (·.add 1)) (n - 1) (c - 1)) lv ρ { a with free := fs } (w.setCell ⟨pA, 1, none⟩ (.slice (if c = 1 then A else A.map (·.add 1)) (n - 1) (c - 1))) where
  own := h.own
  role := h.role
  lt := fun k hk => by simpa [World.setCell] using h.lt k hk
  box := blk_set h.box 1 _
  rows := Kd.R_far h.rows (fun k hk e => by have := h.role; rw [← show k = pA from e, hk.2] at this; omega) _
  free := by
    have h1 := h.free
    rw [hf] at h1
    have h2 := Kd.Q_drop h1 (k := 1) (by simp)
    have h3 : (Kd.int .i64).Q 3 w 0 (fun k => ok k ∧ ρ k = 2) (.slice (if c = 1 then A else A.map (·.add 1)) (n - 1) (c - 1)) fs := by simpa [Kd.int, Kd.scalar] using h2
    exact Kd.Q_far h3 (fun k hk e => by have := h.role; rw [← show k = pA from e, hk.2] at this; omega) _
  node := fun i s hi => by
    have hn := h.node i s hi
    have hm : ∀ k, (ok k ∧ ρ k = 3) → k < w.heap.size → (w.setCell ⟨pA, 1, none⟩ (.slice (if c = 1 then A else A.map (·.add 1)) (n - 1) (c - 1))).heap[k]? = w.heap[k]? := fun k hk _ => Below.heap_setCell w ⟨pA, 1, none⟩ _ k (fun e => by have := h.role; rw [← show k = pA from e, hk.2] at this; omega)
    exact ⟨hn.1.step hm, hn.2.1.step hm, hn.2.2.step hm⟩
  ways := fun i s hi => Kd.R_far (h.ways i s hi) (fun k hk e => by have := h.role; rw [← show k = pA from e, hk.2] at this; omega) _
def TAlloc8 : Bool × List (List Nat × List Nat) := (true, [([], []), ([0], [0]), ([1], [1]), ([], []), ([3], [3]), ([4], [4]), ([5, 2], [5]), ([], []), ([7], [7]), ([8], [8]), ([9, 6], [9]), ([6, 10], [6, 10]), ([0, 1, 2, 3, 4, 5, 7, 8, 9], []), ([12, 2, 10, 0, 1, 2, 3, 4, 5, 7, 8, 9], [2, 12]), ([0, 1, 2, 3, 4, 5, 6, 7, 8, 9, 10, 11, 12, 13], []), ([14, 11, 13, 0, 1, 2, 3, 4, 5, 6, 7, 8, 9, 10, 11, 12, 13], [11, 14])])
def BAlloc8 : List Nat := [0, 1, 3, 0, 8, 24, 63, 0, 128, 384, 1023, 2047, 959, 6143, 16383, 32767]
theorem tabAlloc8 : rtab .any (opsOf Tryz.f58 8) = TAlloc8 := by kernel_rfl
theorem bitsAlloc8 : waitsOk TAlloc8.2 BAlloc8 = true := by kernel_rfl
def TAlloc10 : Bool × List (List Nat × List Nat) := (true, [([], []), ([], []), ([], []), ([2], [2]), ([3], [3]), ([4], [4]), ([], []), ([6], [6]), ([7], [7]), ([8], [8]), ([1, 5, 9], [1, 5, 9]), ([0, 0, 1, 2, 3, 4, 5, 6, 7, 8, 9, 10], [0]), ([11, 10, 5, 0, 1, 2, 3, 4, 5, 6, 7, 8, 9, 10], [10, 11])])
def BAlloc10 : List Nat := [0, 0, 0, 4, 12, 28, 0, 64, 192, 448, 1022, 2047, 4095]
theorem tabAlloc10 : rtab .any (opsOf Tryz.f58 10) = TAlloc10 := by kernel_rfl
theorem bitsAlloc10 : waitsOk TAlloc10.2 BAlloc10 = true := by kernel_rfl
def TAlloc5 : Bool × List (List Nat × List Nat) := (true, [([], []), ([], []), ([1], [1]), ([2], [2]), ([3], [3]), ([4], [4]), ([5], [5]), ([], []), ([7], [7]), ([8], [8]), ([9], [9]), ([10], [10]), ([6, 1, 2, 3, 4, 5, 6], [6]), ([0, 0, 1, 2, 3, 4, 5, 6, 7, 8, 9, 10, 11, 12], [0]), ([13, 0, 1, 2, 3, 4, 5, 6, 7, 8, 9, 10, 11, 12], [13]), ([14, 11, 12, 0, 1, 2, 3, 4, 5, 6, 7, 8, 9, 10, 11, 12], [11, 14])])
def BAlloc5 : List Nat := [0, 0, 2, 6, 14, 30, 62, 0, 128, 384, 896, 1920, 126, 8191, 16383, 32767]
theorem tabAlloc5 : rtab .any (opsOf Tryz.f58 5) = TAlloc5 := by kernel_rfl
theorem bitsAlloc5 : waitsOk TAlloc5.2 BAlloc5 = true := by kernel_rfl

theorem sl0_one : ∀ u ∈ slotCells sl0 lv0, u.oneCell' = true := by
  intro u hu
  simp only [slotCells, sl0, lv0, nd0, List.mem_cons, List.not_mem_nil, or_false] at hu
  rcases hu with rfl | rfl | rfl | rfl | rfl | rfl | rfl | rfl | rfl | rfl <;> rfl
theorem info_slot : (Tryz.prog.info? 149).map (fun i => (i.zero, i.size, i.bytes)) = some (some (.agg #[.bool false, .bool false, .slice none 0 0, .slice none 0 0, .slice none 0 0, .slice none 0 0, .int .i64 0, .bool false, .int .u32 0, .bool false]), 10, 128) := by kernel_rfl
/-- A node that is handed in: its rows are read in D. -/
def NdF (D : Nat → Prop) (n : Nd) (v : Value) (w : World) : Prop := ∃ Ap cp Ak ck Ay cy, v = .agg #[.bool n.inner, .bool n.tagged, .slice Ap n.pairs.length cp, .slice Ak n.keys.length ck, .slice Ay n.ways.length cy] ∧ n.pairs.length ≤ cp ∧ n.keys.length ≤ ck ∧ n.ways.length ≤ cy ∧ kPair.F w D Ap n.pairs.length n.pairs ∧ (Kd.int .i64).F w D Ak n.keys.length n.keys ∧ (Kd.int .i64).F w D Ay n.ways.length n.ways
structure AllocPost (ok : Nat → Prop) (pA : Nat) (r : Int) (b : Bool) (a1 : Ar) (w : World) (e : Ending) (w1 : World) : Prop where
  val : e = .returned (.tuple #[.int .i64 r, .bool b])
  out : ∃ ok1, IsArena ok1 pA a1 w1 ∧ Moves ok ok1 w w1

set_option maxHeartbeats 2000000 in
set_option maxRecDepth 100000 in
theorem alloc_full {ok : Nat → Prop} {pA : Nat} {a : Ar} (n : Nd) (v : Value) (w : World) (h : IsArena ok pA a w) (hn : NdF (fun k => ¬ ok k) n v w) (hx : a.most ≤ a.used) :
    Calls Tryz.prog 58 #[.pointer (some ⟨pA, 0, none⟩), v] w (AllocPost ok pA 0 false a w) := by
  obtain ⟨sv, fv, lv, ρ, h⟩ := h
  obtain ⟨Ap, cp, Ak, ck, Ay, cy, rfl, hcp, hck, hcy, hp, hk, hy⟩ := hn
  have h1 := h.step (w1 := w.alloc (.cells #[.bool n.inner, .bool n.tagged, .slice Ap n.pairs.length cp, .slice Ak n.keys.length ck, .slice Ay n.ways.length cy] 119)) (by simp) (fun k _ hlt => Below.heap_alloc _ _ _ hlt)
  have HI := Aside0.mk h1
  have HL := Aside0.mk h.lt
  have HB := Aside0.mk (blk_new w (.cells #[.bool n.inner, .bool n.tagged, .slice Ap n.pairs.length cp, .slice Ak n.keys.length ck, .slice Ay n.ways.length cy] 119))
  have HM := Aside0.mk ((Moves.refl ok w).alloc (.cells #[.bool n.inner, .bool n.tagged, .slice Ap n.pairs.length cp, .slice Ak n.keys.length ck, .slice Ay n.ways.length cy] 119))
  have HP := Aside0.mk (Kd.F_alloc (Kd.F_bound hp) (.cells #[.bool n.inner, .bool n.tagged, .slice Ap n.pairs.length cp, .slice Ak n.keys.length ck, .slice Ay n.ways.length cy] 119))
  have HK := Aside0.mk (Kd.F_alloc (Kd.F_bound hk) (.cells #[.bool n.inner, .bool n.tagged, .slice Ap n.pairs.length cp, .slice Ak n.keys.length ck, .slice Ay n.ways.length cy] 119))
  have HY := Aside0.mk (Kd.F_alloc (Kd.F_bound hy) (.cells #[.bool n.inner, .bool n.tagged, .slice Ap n.pairs.length cp, .slice Ak n.keys.length ck, .slice Ay n.ways.length cy] 119))
  have d1 : decide (a.used ≥ a.most) = true := decide_eq_true hx
  have d1' : decide (a.most ≤ a.used) = true := d1
  clear h h1 hp hk hy hx
  go_enter Tryz.func58, Tryz.ntmps58
  go_upto_region 1 with fail
  generalize w.alloc (.cells #[.bool n.inner, .bool n.tagged, .slice Ap n.pairs.length cp, .slice Ak n.keys.length ck, .slice Ay n.ways.length cy] 119) = w1 at HI HB HM HP HK HY ⊢
  have c2 : w1.cell? ⟨pA, 2, none⟩ = some (.int .i64 a.most) := (blk_cell HI.out.box 2).trans rfl
  have c3 : w1.cell? ⟨pA, 3, none⟩ = some (.int .i64 a.used) := (blk_cell HI.out.box 3).trans rfl
  go_quiet (fail)
  rename_i nq
  go_wp2_with fail
  go_ret2
  exact ⟨rfl, ok, ⟨_, _, _, _, HI.out.step (Nat.le_refl _) (fun _ _ _ => rfl)⟩, HM.out.drewN _⟩

set_option maxHeartbeats 2000000 in
set_option maxRecDepth 100000 in
theorem alloc_more {ok : Nat → Prop} {pA : Nat} {a : Ar} (n : Nd) (v : Value) (w : World) (h : IsArena ok pA a w) (hn : NdF (fun k => ¬ ok k) n v w) (hx : ¬ a.most ≤ a.used) (hf : a.free = []) (hl : a.slots.length < 999999) (hnp : n.pairs.length < 1000000) (hnk : n.keys.length < 1000000) (hny : n.ways.length < 1000000) (a7 : Ar) (ha7 : { a with slots := a.slots ++ [sl0] } = a7) (s7 : Sl) (hs7 : sl0 = s7) :
    Calls Tryz.prog 58 #[.pointer (some ⟨pA, 0, none⟩), v] w (AllocPost ok pA (refOf a.slots.length (u32w (s7.count + 1))) true (a7.put a.slots.length n (u32w (s7.count + 1))) w) := by
  obtain ⟨sv, fv, lv, ρ, h⟩ := h
  obtain ⟨Ap, cp, Ak, ck, Ay, cy, rfl, hcp, hck, hcy, hp, hk, hy⟩ := hn
  have h1 := h.step (w1 := w.alloc (.cells #[.bool n.inner, .bool n.tagged, .slice Ap n.pairs.length cp, .slice Ak n.keys.length ck, .slice Ay n.ways.length cy] 119)) (by simp) (fun k _ hlt => Below.heap_alloc _ _ _ hlt)
  have HI := Aside0.mk h1
  have HL := Aside0.mk h.lt
  have HB := Aside0.mk (blk_new w (.cells #[.bool n.inner, .bool n.tagged, .slice Ap n.pairs.length cp, .slice Ak n.keys.length ck, .slice Ay n.ways.length cy] 119))
  have HM := Aside0.mk ((Moves.refl ok w).alloc (.cells #[.bool n.inner, .bool n.tagged, .slice Ap n.pairs.length cp, .slice Ak n.keys.length ck, .slice Ay n.ways.length cy] 119))
  have HP := Aside0.mk (Kd.F_alloc (Kd.F_bound hp) (.cells #[.bool n.inner, .bool n.tagged, .slice Ap n.pairs.length cp, .slice Ak n.keys.length ck, .slice Ay n.ways.length cy] 119))
  have HK := Aside0.mk (Kd.F_alloc (Kd.F_bound hk) (.cells #[.bool n.inner, .bool n.tagged, .slice Ap n.pairs.length cp, .slice Ak n.keys.length ck, .slice Ay n.ways.length cy] 119))
  have HY := Aside0.mk (Kd.F_alloc (Kd.F_bound hy) (.cells #[.bool n.inner, .bool n.tagged, .slice Ap n.pairs.length cp, .slice Ak n.keys.length ck, .slice Ay n.ways.length cy] 119))
  have d1 : decide (a.used ≥ a.most) = false := decide_eq_false hx
  have d1' : decide (a.most ≤ a.used) = false := d1
  clear h h1 hp hk hy hx
  go_enter Tryz.func58, Tryz.ntmps58
  go_upto_region 1 with fail
  generalize w.alloc (.cells #[.bool n.inner, .bool n.tagged, .slice Ap n.pairs.length cp, .slice Ak n.keys.length ck, .slice Ay n.ways.length cy] 119) = w1 at HI HB HM HP HK HY ⊢
  have c2 : w1.cell? ⟨pA, 2, none⟩ = some (.int .i64 a.most) := (blk_cell HI.out.box 2).trans rfl
  have c3 : w1.cell? ⟨pA, 3, none⟩ = some (.int .i64 a.used) := (blk_cell HI.out.box 3).trans rfl
  go_quiet (fail)
  rename_i nq
  have HI2 := Aside0.mk (HI.out.step (w1 := w1.drewN nq) (Nat.le_refl _) (fun _ _ _ => rfl))
  have HB2 := Aside0.mk (blk_drewN HB.out nq)
  have HM2 := Aside0.mk (HM.out.drewN nq)
  have HP2 := Aside0.mk (Kd.F_drewN HP.out nq)
  have HK2 := Aside0.mk (Kd.F_drewN HK.out nq)
  have HY2 := Aside0.mk (Kd.F_drewN HY.out nq)
  clear HI HB HM HP HK HY c2 c3 d1 d1'
  generalize w1.drewN nq = w2 at HI2 HB2 HM2 HP2 HK2 HY2 ⊢
  obtain ⟨ad, cap, rfl⟩ := Kd.R_slice HI2.out.rows
  obtain ⟨Af, cf, rfl, hcf⟩ := Kd.Q_slice HI2.out.free
  rw [rowsOf_length] at HI2
  have c0 : w2.cell? ⟨pA, 0, none⟩ = some (.slice ad a.slots.length cap) := (blk_cell HI2.out.box 0).trans rfl
  have c1 : w2.cell? ⟨pA, 1, none⟩ = some (.slice Af 0 cf) := (blk_cell HI2.out.box 1).trans (by rw [hf]; rfl)
  have HF := Aside0.mk hf
  have HCF := Aside0.mk hcf
  clear hf hcf
  go_upto_region 6 with fail
  go_upto_region 7 with ((with_reducible refine gate_builtin (b := .append) (xs := #[.tmp 50, .tmp 52]) rfl ?_); at_builtin; refine Kd.R_append (Kd.raw 10) (w0 := w2) 0 rfl (.tmp 50) (.tmp 52) 105 149 _ 128 rfl Tryz.underlying105 info_slot rfl (by decide) (by decide) (.slice ad a.slots.length cap) (rowsOf a.slots lv) (slotCells sl0 lv0) (slotCells sl0 lv0) (fun k => (ok k ∧ ρ k = 1) ∨ w2.heap.size ≤ k) (fun _ => False) rfl rfl ⟨rfl, rfl, sl0_one⟩ (fun _ hk => hk.elim) (fun k hk => .inr hk) (Kd.R_mono HI2.out.rows (fun k hk => .inl hk)) (Below.refl _ _) (Nat.zero_le _) (by rw [rowsOf_length]; omega) ?_; intro v5 w5 ho hb5 hg hat; have m0_ := Aside0.mk ho; have m1_ := Aside0.mk hg; have m2_ := Aside0.mk hat; have hne : some pA ≠ (Value.slice ad a.slots.length cap).ownBlock := (fun e => by have := (HI2.out.rows.1 pA e.symm).2; rw [HI2.out.role] at this; cases this); have f0 : w5.frozen? ⟨pA, 0, none⟩ = false := blk_frozen (blk_grown HI2.out.box hg hne) 0; have c0 := (blk_cell (blk_grown HI2.out.box hg hne) 0).trans (rfl : _ = some (Value.slice ad a.slots.length cap)); obtain ⟨ad5, cap5, rfl⟩ := Kd.R_slice ho; clear ho hg hat hb5 hne)
  have hlen : (rowsOf a.slots lv ++ [slotCells sl0 lv0]).length = (rowsOf a.slots lv).length + 1 := by simp
  rw [hlen] at m0_ m2_
  have q0_ := Aside0.mk (HI2.out.pushed m1_.out m2_.out m0_.out)
  have q1_ : Aside0 (Moves ok (fun k => ok k ∨ (w2.heap.size ≤ k ∧ k < w5.heap.size)) w (w5.setCell ⟨pA, 0, none⟩ (.slice ad5 ((rowsOf a.slots lv).length + 1) cap5))) := ⟨((HM2.out.grown m1_.out (fun k hk => .inl (HI2.out.rows.1 k hk).1)).set (p := ⟨pA, 0, none⟩) (.inl HI2.out.own) _).owns (fun k hk => hk.elim .inl (fun h1 => .inr (by have := HM2.out.size; omega)))⟩
  have hnb : some w.heap.size ≠ (Value.slice ad a.slots.length cap).ownBlock := fun e => by have := HL.out _ (HI2.out.rows.1 _ e.symm).1; omega
  have hpb : w.heap.size ≠ pA := fun e => by have := HL.out pA HI2.out.own; omega
  have q2_ := Aside0.mk (blk_far (blk_grown HB2.out m1_.out hnb) (p := ⟨pA, 0, none⟩) hpb (.slice ad5 ((rowsOf a.slots lv).length + 1) cap5))
  have hdk : ∀ k, (¬ ok k ∧ k < w.heap.size) → some k ≠ (Value.slice ad a.slots.length cap).ownBlock := fun k hk e => hk.1 (HI2.out.rows.1 k e.symm).1
  have hdp : ∀ k, (¬ ok k ∧ k < w.heap.size) → k ≠ pA := fun k hk e => hk.1 (e ▸ HI2.out.own)
  have q3_ := Aside0.mk (Kd.F_far (Kd.F_grown HP2.out m1_.out hdk) (p := ⟨pA, 0, none⟩) hdp (.slice ad5 ((rowsOf a.slots lv).length + 1) cap5))
  have q4_ := Aside0.mk (Kd.F_far (Kd.F_grown HK2.out m1_.out hdk) (p := ⟨pA, 0, none⟩) hdp (.slice ad5 ((rowsOf a.slots lv).length + 1) cap5))
  have q5_ := Aside0.mk (Kd.F_far (Kd.F_grown HY2.out m1_.out hdk) (p := ⟨pA, 0, none⟩) hdp (.slice ad5 ((rowsOf a.slots lv).length + 1) cap5))
  have q6_ : Aside0 (¬ (ok w.heap.size ∨ (w2.heap.size ≤ w.heap.size ∧ w.heap.size < w5.heap.size))) := ⟨fun hh => hh.elim (fun h1 => by have := HL.out _ h1; omega) (fun h1 => by have := blk_lt HB2.out; omega)⟩
  have hi7 : Aside0 (a7.slots[a.slots.length]? = some s7) := ⟨by rw [← ha7, ← hs7]; simp⟩
  rw [ha7] at q0_
  have hl7 : Aside0 ((rowsOf a.slots lv).length = a.slots.length) := ⟨rowsOf_length _ _⟩
  clear HI2 HB2 HM2 HP2 HK2 HY2 m0_ m1_ m2_ hnb hpb hdk hdp c0 c1 f0 hlen
  rw [hl7.out] at q0_ q1_ q2_ q3_ q4_ q5_ ⊢
  generalize w5.setCell ⟨pA, 0, none⟩ (.slice ad5 (a.slots.length + 1) cap5) = w7 at q0_ q1_ q2_ q3_ q4_ q5_ ⊢
  generalize hok7 : (fun k => ok k ∨ (w2.heap.size ≤ k ∧ k < w5.heap.size)) = ok7 at q0_ q1_
  have q6_ : Aside0 (¬ ok7 w.heap.size) := ⟨by rw [← hok7]; exact q6_.out⟩
  generalize (fun j => if j = a.slots.length then lv0 else lv j) = lv7 at q0_
  generalize (fun k => if k < w2.heap.size then ρ k else 1) = ρ7 at q0_
  generalize Value.slice Af a.free.length cf = fv7 at q0_
  clear hok7
  obtain ⟨hn7, g, rfl, hg, hρ, hcc, hfz⟩ := q0_.out.cells hi7.out
  have HG := Aside0.mk hg
  have HR := Aside0.mk hρ
  have HN7 := Aside0.mk hn7
  have HIL := Aside0.mk (List.getElem?_eq_some_iff.1 hi7.out).1
  have hb : w.heap.size < w7.heap.size := blk_lt q2_.out
  have HBL := Aside0.mk hb
  have hL7 := Aside0.mk q0_.out.lt
  have c0 := (blk_cell q0_.out.box 0).trans (rfl : _ = some (Value.slice (some ⟨g, 0, none⟩) _ _))
  have b1 : (0 : Int) ≤ ((a.slots.length : Nat) : Int) := by omega
  have b2 : ((a.slots.length : Nat) : Int) < (((a.slots.length + 1) : Nat) : Int) := by omega
  clear hg hρ hn7 hcc hfz hb
  go_upto_region 8 with fail
  clear c0
  generalize hbb : w.heap.size = b at q2_ q6_ HBL ⊢
  have HBB := Aside0.mk hbb
  clear hbb
  refine start_ (n := 16) (S := fun w' => w'.cell? ⟨b, 2, none⟩ = some (.slice Ap n.pairs.length cp) ∧ w'.cell? ⟨b, 3, none⟩ = some (.slice Ak n.keys.length ck) ∧ w'.cell? ⟨b, 4, none⟩ = some (.slice Ay n.ways.length cy)) (ds := [13, 15]) #[false, false, false, false, false, false, false, false, false, false, false, false, false, false, false, false] (by kernel_rfl) rfl rfl ⟨(blk_cell q2_.out 2).trans rfl, (blk_cell q2_.out 3).trans rfl, (blk_cell q2_.out 4).trans rfl⟩ (fun hHeld => ?_); refine with_tabW tabAlloc8 bitsAlloc8 (fun HT_ HW_ => ?_)
  have q0_ := Aside0.mk (q0_.out.step (w1 := w7.drew) (Nat.le_refl _) (fun _ _ _ => rfl))
  have q1_ := Aside0.mk q1_.out.drew
  have q2_ := Aside0.mk (blk_drew q2_.out)
  have q3_ := Aside0.mk (Kd.F_drew q3_.out)
  have q4_ := Aside0.mk (Kd.F_drew q4_.out)
  have q5_ := Aside0.mk (Kd.F_drew q5_.out)
  have HBL : Aside0 (b < w7.drew.heap.size) := HBL
  have hL7 : Aside0 (∀ k, ok7 k → k < w7.drew.heap.size) := hL7
  generalize World.drew _ = w3 at q0_ q1_ q2_ q3_ q4_ q5_ HBL hL7 hHeld ⊢
  refine pure_ (i := 0) (N := (some 62)) (v := ?_) (a' := ?_) #[true, false, false, false, false, false, false, false, false, false, false, false, false, false, false, false] rfl rfl (any_of HT_.out (by kernel_rfl)) (fun _ _ _ h => h) (Or.inl ⟨by rfl, ?_⟩) ?_ ?_
  rotate_left
  · intro w'
    go_simp
    with_reducible rfl
  rotate_left
  · simp only [Act.put, List.setIfInBounds_toArray, List.set_cons_zero, List.set_cons_succ, i64_w, i32_w]
    rfl
  refine take_ (i := 1) (N := (some 63)) (v := ?_) (a' := ?_) #[true, true, false, false, false, false, false, false, false, false, false, false, false, false, false, false] rfl rfl (take_ofW HT_.out HW_.out (by kernel_rfl)) (fun _ _ _ h => h) (Or.inl ⟨by rfl, ?_⟩) hHeld ?_ ?_
  rotate_left
  · rintro w' ⟨s0, s1, s2⟩
    go_simp
    with_reducible rfl
  rotate_left
  · simp only [Act.put, List.setIfInBounds_toArray, List.set_cons_zero, List.set_cons_succ, i64_w, i32_w]
    rfl
  refine pure_ (i := 3) (N := (some 65)) (v := ?_) (a' := ?_) #[true, true, false, true, false, false, false, false, false, false, false, false, false, false, false, false] rfl rfl (any_of HT_.out (by kernel_rfl)) (fun _ _ _ h => h) (Or.inl ⟨by rfl, ?_⟩) ?_ ?_
  rotate_left
  · intro w'
    go_simp
    with_reducible rfl
  rotate_left
  · simp only [Act.put, List.setIfInBounds_toArray, List.set_cons_zero, List.set_cons_succ, i64_w, i32_w]
    rfl
  refine pure_ (i := 4) (N := (some 66)) (v := ?_) (a' := ?_) #[true, true, false, true, true, false, false, false, false, false, false, false, false, false, false, false] rfl rfl (any_of HT_.out (by kernel_rfl)) (fun _ _ _ h => h) (Or.inl ⟨by rfl, ?_⟩) ?_ ?_
  rotate_left
  · intro w'
    go_simp
    with_reducible rfl
  rotate_left
  · simp only [Act.put, List.setIfInBounds_toArray, List.set_cons_zero, List.set_cons_succ, i64_w, i32_w]
    rfl
  refine take_ (i := 5) (N := (some 67)) (v := ?_) (a' := ?_) #[true, true, false, true, true, true, false, false, false, false, false, false, false, false, false, false] rfl rfl (take_ofW HT_.out HW_.out (by kernel_rfl)) (fun _ _ _ h => h) (Or.inl ⟨by rfl, ?_⟩) hHeld ?_ ?_
  rotate_left
  · rintro w' ⟨s0, s1, s2⟩
    go_simp
    with_reducible rfl
  rotate_left
  · simp only [Act.put, List.setIfInBounds_toArray, List.set_cons_zero, List.set_cons_succ, i64_w, i32_w]
    rfl
  refine pure_ (i := 7) (N := (some 69)) (v := ?_) (a' := ?_) #[true, true, false, true, true, true, false, true, false, false, false, false, false, false, false, false] rfl rfl (any_of HT_.out (by kernel_rfl)) (fun _ _ _ h => h) (Or.inl ⟨by rfl, ?_⟩) ?_ ?_
  rotate_left
  · intro w'
    go_simp
    with_reducible rfl
  rotate_left
  · simp only [Act.put, List.setIfInBounds_toArray, List.set_cons_zero, List.set_cons_succ, i64_w, i32_w]
    rfl
  refine pure_ (i := 8) (N := (some 70)) (v := ?_) (a' := ?_) #[true, true, false, true, true, true, false, true, true, false, false, false, false, false, false, false] rfl rfl (any_of HT_.out (by kernel_rfl)) (fun _ _ _ h => h) (Or.inl ⟨by rfl, ?_⟩) ?_ ?_
  rotate_left
  · intro w'
    go_simp
    with_reducible rfl
  rotate_left
  · simp only [Act.put, List.setIfInBounds_toArray, List.set_cons_zero, List.set_cons_succ, i64_w, i32_w]
    rfl
  refine take_ (i := 9) (N := (some 71)) (v := ?_) (a' := ?_) #[true, true, false, true, true, true, false, true, true, true, false, false, false, false, false, false] rfl rfl (take_ofW HT_.out HW_.out (by kernel_rfl)) (fun _ _ _ h => h) (Or.inl ⟨by rfl, ?_⟩) hHeld ?_ ?_
  rotate_left
  · rintro w' ⟨s0, s1, s2⟩
    go_simp
    with_reducible rfl
  rotate_left
  · simp only [Act.put, List.setIfInBounds_toArray, List.set_cons_zero, List.set_cons_succ, i64_w, i32_w]
    rfl
  refine one_ (i := 2) (N := (some 64)) #[true, true, true, true, true, true, false, true, true, true, false, false, false, false, false, false] rfl rfl (one_of HT_.out (by kernel_rfl)) (by decide) (fun K_ hK => ?_)
  refine call_ 85 #[.slice Ap n.pairs.length cp] (by rfl) rfl ?hrun2 ?_
  (case hrun2 => first | (go_simp; done) | (go_simp; exact enters Tryz.func85 (by kernel_rfl) rfl _ _))
  refine (clone_pairs Ap n.pairs.length cp n.pairs _ (Kd.F_now q3_.out) hnp).mono ?_
  rintro e w4 ⟨v4, rfl, hR4, hB4⟩
  obtain ⟨A4, cc4, rfl⟩ := Kd.R_slice hR4
  have mr_ := Aside0.mk hR4
  have mb_ := Aside0.mk hB4
  have m2_ := Aside0.mk (blk_below q2_.out hB4)
  have m4_ := Aside0.mk (Kd.F_below q4_.out hB4)
  have m5_ := Aside0.mk (Kd.F_below q5_.out hB4)
  clear hR4 hB4
  refine ⟨_, rfl, ?_⟩
  refine hK.out _ _ ⟨(blk_cell m2_.out 2).trans rfl, (blk_cell m2_.out 3).trans rfl, (blk_cell m2_.out 4).trans rfl⟩ (fun hHeld => ?_)
  clear hK K_
  refine norm_ (a' := ?_) ?_ ?_
  rotate_left
  · show Act.put _ (some 64) _ = _
    simp only [Act.put, List.setIfInBounds_toArray, List.set_cons_zero, List.set_cons_succ, i64_w, i32_w]
    rfl
  refine pure_ (i := 12) (N := (some 74)) (v := ?_) (a' := ?_) #[true, true, true, true, true, true, false, true, true, true, false, false, true, false, false, false] rfl rfl (any_of HT_.out (by kernel_rfl)) (fun _ _ _ h => h) (Or.inl ⟨by rfl, ?_⟩) ?_ ?_
  rotate_left
  · intro w'
    go_simp
    with_reducible rfl
  rotate_left
  · simp only [Act.put, List.setIfInBounds_toArray, List.set_cons_zero, List.set_cons_succ, i64_w, i32_w]
    rfl
  refine one_ (i := 6) (N := (some 68)) #[true, true, true, true, true, true, true, true, true, true, false, false, true, false, false, false] rfl rfl (one_of HT_.out (by kernel_rfl)) (by decide) (fun K_ hK => ?_)
  refine call_ 86 #[.slice Ak n.keys.length ck] (by rfl) rfl ?hrun6 ?_
  (case hrun6 => first | (go_simp; done) | (go_simp; exact enters Tryz.func86 (by kernel_rfl) rfl _ _))
  refine (clone_keys Ak n.keys.length ck n.keys _ (Kd.F_now m4_.out) hnk).mono ?_
  rintro e w5 ⟨v5, rfl, hR5, hB5⟩
  obtain ⟨A5, cc5, rfl⟩ := Kd.R_slice hR5
  have jr_ := Aside0.mk hR5
  have jb_ := Aside0.mk hB5
  have j2_ := Aside0.mk (blk_below m2_.out hB5)
  have j5_ := Aside0.mk (Kd.F_below m5_.out hB5)
  clear hR5 hB5
  refine ⟨_, rfl, ?_⟩
  refine hK.out _ _ ⟨(blk_cell j2_.out 2).trans rfl, (blk_cell j2_.out 3).trans rfl, (blk_cell j2_.out 4).trans rfl⟩ (fun hHeld => ?_)
  clear hK K_
  refine norm_ (a' := ?_) ?_ ?_
  rotate_left
  · show Act.put _ (some 68) _ = _
    simp only [Act.put, List.setIfInBounds_toArray, List.set_cons_zero, List.set_cons_succ, i64_w, i32_w]
    rfl
  refine one_ (i := 10) (N := (some 72)) #[true, true, true, true, true, true, true, true, true, true, true, false, true, false, false, false] rfl rfl (one_of HT_.out (by kernel_rfl)) (by decide) (fun K_ hK => ?_)
  refine call_ 87 #[.slice Ay n.ways.length cy] (by rfl) rfl ?hrun10 ?_
  (case hrun10 => first | (go_simp; done) | (go_simp; exact enters Tryz.func87 (by kernel_rfl) rfl _ _))
  refine (clone_ways Ay n.ways.length cy n.ways _ (Kd.F_now j5_.out) hny).mono ?_
  rintro e w6 ⟨v6, rfl, hR6, hB6⟩
  obtain ⟨A6, cc6, rfl⟩ := Kd.R_slice hR6
  have ir_ := Aside0.mk hR6
  have ib_ := Aside0.mk hB6
  have i2_ := Aside0.mk (blk_below j2_.out hB6)
  clear hR6 hB6
  refine ⟨_, rfl, ?_⟩
  refine hK.out _ _ ⟨(blk_cell i2_.out 2).trans rfl, (blk_cell i2_.out 3).trans rfl, (blk_cell i2_.out 4).trans rfl⟩ (fun hHeld => ?_)
  clear hK K_
  refine norm_ (a' := ?_) ?_ ?_
  rotate_left
  · show Act.put _ (some 72) _ = _
    simp only [Act.put, List.setIfInBounds_toArray, List.set_cons_zero, List.set_cons_succ, i64_w, i32_w]
    rfl
  refine pure_ (i := 11) (N := (some 73)) (v := ?_) (a' := ?_) #[true, true, true, true, true, true, true, true, true, true, true, true, true, false, false, false] rfl rfl (any_of HT_.out (by kernel_rfl)) (fun _ _ _ h => h) (Or.inl ⟨by rfl, ?_⟩) ?_ ?_
  rotate_left
  · intro w'
    go_simp
    with_reducible rfl
  rotate_left
  · simp only [Act.put, List.setIfInBounds_toArray, List.set_cons_zero, List.set_cons_succ, i64_w, i32_w]
    rfl
  have z2 := blk_frozen i2_.out 2
  have z3 := blk_frozen i2_.out 3
  have z4 := blk_frozen i2_.out 4
  refine last_ (i := 13) (N := none) #[true, true, true, true, true, true, true, true, true, true, true, true, true, true, false, false] rfl rfl (one_of HT_.out (by kernel_rfl)) (by decide) (fun K_ hK => ?_)
  refine skip_ (w1 := ?_) (by rfl) rfl ?_ ?_
  rotate_left
  · go_simp
    rfl
  refine hK.out _ _ ?_
  clear hK K_
  refine pure_ (i := 14) (N := (some 75)) (v := ?_) (a' := ?_) #[true, true, true, true, true, true, true, true, true, true, true, true, true, true, true, false] rfl rfl (any_of HT_.out (by kernel_rfl)) (fun _ _ _ h => h) (Or.inl ⟨by rfl, ?_⟩) ?_ ?_
  rotate_left
  · intro w'
    go_simp
    with_reducible rfl
  rotate_left
  · simp only [Act.put, List.setIfInBounds_toArray, List.set_cons_zero, List.set_cons_succ, i64_w, i32_w]
    rfl
  refine last_ (i := 15) (N := none) #[true, true, true, true, true, true, true, true, true, true, true, true, true, true, true, true] rfl rfl (one_of HT_.out (by kernel_rfl)) (by decide) (fun K_ hK => ?_)
  refine skip_ (w1 := ?_) (by rfl) rfl ?_ ?_
  rotate_left
  · go_simp
    rfl
  refine hK.out _ _ ?_
  clear hK K_
  refine done_ (done_of HT_.out (by kernel_rfl)) ?_
  have B36 := below_then (below_then mb_.out mb_.out.size jb_.out) (below_then mb_.out mb_.out.size jb_.out).size ib_.out
  have hnb : ∀ k, ok7 k → k ≠ b := fun k hk e => q6_.out (e ▸ hk)
  have a6_ := q0_.out.step (w1 := w6) B36.size (fun k _ hlt => B36.block k hlt)
  have q0_ := Aside0.mk (a6_.step (w1 := ((w6.setCell ⟨b, 2, none⟩ (.slice A4 n.pairs.length cc4)).setCell ⟨b, 3, none⟩ (.slice A5 n.keys.length cc5)).setCell ⟨b, 4, none⟩ (.slice A6 n.ways.length cc6)) (by simp [World.setCell]) (fun k hk _ => (Below.heap_setCell _ ⟨b, 4, none⟩ _ k (hnb k hk)).trans ((Below.heap_setCell _ ⟨b, 3, none⟩ _ k (hnb k hk)).trans (Below.heap_setCell _ ⟨b, 2, none⟩ _ k (hnb k hk)))))
  have q2_ := Aside0.mk (blk_set (blk_set (blk_set i2_.out 2 (.slice A4 n.pairs.length cc4)) 3 (.slice A5 n.keys.length cc5)) 4 (.slice A6 n.ways.length cc6))
  have hbw : w.heap.size ≤ b := by rw [HBB.out]; exact Nat.le_refl _
  have q1_ := Aside0.mk ((((q1_.out.below B36).set (p := ⟨b, 2, none⟩) (.inr hbw) (.slice A4 n.pairs.length cc4)).set (p := ⟨b, 3, none⟩) (.inr hbw) (.slice A5 n.keys.length cc5)).set (p := ⟨b, 4, none⟩) (.inr hbw) (.slice A6 n.ways.length cc6))
  have hlt3 := HBL.out
  have hq : ∀ N, w3.heap.size ≤ N → ∀ q, N ≤ q → q ≠ b := fun N h1 q h2 => by omega
  have p4_ := Aside0.mk (Kd.R_far (Kd.R_far (Kd.R_far (Kd.R_below (Kd.R_below mr_.out jb_.out) ib_.out) (p := ⟨b, 2, none⟩) (hq _ (Nat.le_refl _)) (.slice A4 n.pairs.length cc4)) (p := ⟨b, 3, none⟩) (hq _ (Nat.le_refl _)) (.slice A5 n.keys.length cc5)) (p := ⟨b, 4, none⟩) (hq _ (Nat.le_refl _)) (.slice A6 n.ways.length cc6))
  have p5_ := Aside0.mk (Kd.R_far (Kd.R_far (Kd.R_far (Kd.R_below jr_.out ib_.out) (p := ⟨b, 2, none⟩) (hq _ mb_.out.size) (.slice A4 n.pairs.length cc4)) (p := ⟨b, 3, none⟩) (hq _ mb_.out.size) (.slice A5 n.keys.length cc5)) (p := ⟨b, 4, none⟩) (hq _ mb_.out.size) (.slice A6 n.ways.length cc6))
  have p6_ := Aside0.mk (Kd.R_far (Kd.R_far (Kd.R_far ir_.out (p := ⟨b, 2, none⟩) (hq _ (Nat.le_trans mb_.out.size jb_.out.size)) (.slice A4 n.pairs.length cc4)) (p := ⟨b, 3, none⟩) (hq _ (Nat.le_trans mb_.out.size jb_.out.size)) (.slice A5 n.keys.length cc5)) (p := ⟨b, 4, none⟩) (hq _ (Nat.le_trans mb_.out.size jb_.out.size)) (.slice A6 n.ways.length cc6))
  have hLT7 : Aside0 (∀ k, ok7 k → k < w3.heap.size) := ⟨fun k hk => by have := q0_.out.lt k hk; exact hL7.out k hk⟩
  have l4_ := Aside0.mk mb_.out.size
  have l5_ := Aside0.mk jb_.out.size
  have l6_ := Aside0.mk ib_.out.size
  have s6_ : Aside0 ((((w6.setCell ⟨b, 2, none⟩ (.slice A4 n.pairs.length cc4)).setCell ⟨b, 3, none⟩ (.slice A5 n.keys.length cc5)).setCell ⟨b, 4, none⟩ (.slice A6 n.ways.length cc6)).heap.size = w6.heap.size) := ⟨by simp [World.setCell]⟩
  clear hq hlt3 hbw hnb B36 a6_ hHeld z2 z3 z4
  generalize ((w6.setCell ⟨b, 2, none⟩ (.slice A4 n.pairs.length cc4)).setCell ⟨b, 3, none⟩ (.slice A5 n.keys.length cc5)).setCell ⟨b, 4, none⟩ (.slice A6 n.ways.length cc6) = w8 at q0_ q1_ q2_ p4_ p5_ p6_ s6_ ⊢
  obtain ⟨_, g', e', _, _, hcc, hfz⟩ := q0_.out.cells hi7.out
  injection e' with e'
  injection e' with e' _ _
  subst e'
  have c8 := hcc 8 _ rfl
  have z8 := hfz 8
  have HC := Aside0.mk hcc
  clear hcc hfz
  go_upto_region 10 with fail
  have hN8 := q0_.out.node _ _ hi7.out
  have hW8 := q0_.out.ways _ _ hi7.out
  have q0_ := Aside0.mk (q0_.out.seg hi7.out 8 [.int .u32 ((s7.count + 1) % 4294967296)] (by simp) { s7 with count := (s7.count + 1) % 4294967296 } lv7 (fun _ _ => rfl) rfl hN8 hW8)
  have hgb : b ≠ g := fun e => q6_.out (e ▸ HG.out)
  have q2_ := Aside0.mk (blk_far q2_.out (p := ⟨g, a.slots.length * 10 + 8, none⟩) hgb (.int .u32 ((s7.count + 1) % 4294967296)))
  have q1_ := Aside0.mk (q1_.out.set (p := ⟨g, a.slots.length * 10 + 8, none⟩) (q1_.out.fresh g HG.out) (.int .u32 ((s7.count + 1) % 4294967296)))
  have hq : ∀ N, w3.heap.size ≤ N → ∀ q, N ≤ q → q ≠ g := fun N h1 q h2 e => by have := hL7.out g HG.out; omega
  have p4_ := Aside0.mk (Kd.R_far p4_.out (p := ⟨g, a.slots.length * 10 + 8, none⟩) (hq _ (Nat.le_refl _)) (.int .u32 ((s7.count + 1) % 4294967296)))
  have p5_ := Aside0.mk (Kd.R_far p5_.out (p := ⟨g, a.slots.length * 10 + 8, none⟩) (hq _ l4_.out) (.int .u32 ((s7.count + 1) % 4294967296)))
  have p6_ := Aside0.mk (Kd.R_far p6_.out (p := ⟨g, a.slots.length * 10 + 8, none⟩) (hq _ (Nat.le_trans l4_.out l5_.out)) (.int .u32 ((s7.count + 1) % 4294967296)))
  have s6_ : Aside0 ((w8.setCell ⟨g, a.slots.length * 10 + 8, none⟩ (.int .u32 ((s7.count + 1) % 4294967296))).heap.size = w6.heap.size) := ⟨by rw [← s6_.out]; simp [World.setCell]⟩
  have q0_ : Aside0 (ArenaAt ok7 pA _ fv7 lv7 ρ7 _ (w8.setCell ⟨g, a.slots.length * 10 + 8, none⟩ (.int .u32 ((s7.count + 1) % 4294967296)))) := q0_
  clear hgb hN8 hW8 c8 z8 HC
  generalize w8.setCell ⟨g, a.slots.length * 10 + 8, none⟩ (.int .u32 ((s7.count + 1) % 4294967296)) = w9 at q0_ q1_ q2_ p4_ p5_ p6_ s6_ ⊢
  generalize hcn : (s7.count + 1) % 4294967296 = cn at q0_ ⊢
  have hi9 : Aside0 ((a7.slots.set a.slots.length { s7 with count := cn })[a.slots.length]? = some { s7 with count := cn }) := ⟨List.getElem?_set_self HIL.out⟩
  obtain ⟨_, g', e', _, _, hcc, hfz⟩ := q0_.out.cells hi9.out
  injection e' with e'
  injection e' with e' _ _
  subst e'
  have c8 := hcc 8 _ rfl
  have HC := Aside0.mk hcc
  clear hcc hfz hq
  refine start_ (n := 13) (S := fun w' => w'.cell? ⟨b, 0, none⟩ = some (.bool n.inner) ∧ w'.cell? ⟨b, 1, none⟩ = some (.bool n.tagged) ∧ w'.cell? ⟨b, 2, none⟩ = some (.slice A4 n.pairs.length cc4) ∧ w'.cell? ⟨b, 3, none⟩ = some (.slice A5 n.keys.length cc5) ∧ w'.cell? ⟨b, 4, none⟩ = some (.slice A6 n.ways.length cc6) ∧ w'.cell? ⟨g, a.slots.length * 10 + 8, none⟩ = some (.int .u32 cn)) (ds := [12]) #[false, false, false, false, false, false, false, false, false, false, false, false, false] (by kernel_rfl) rfl rfl ⟨(blk_cell q2_.out 0).trans rfl, (blk_cell q2_.out 1).trans rfl, (blk_cell q2_.out 2).trans rfl, (blk_cell q2_.out 3).trans rfl, (blk_cell q2_.out 4).trans rfl, c8⟩ (fun hHeld => ?_); refine with_tabW tabAlloc10 bitsAlloc10 (fun HT_ HW_ => ?_)
  have q0_ := Aside0.mk (q0_.out.step (w1 := w9.drew) (Nat.le_refl _) (fun _ _ _ => rfl))
  have q1_ := Aside0.mk q1_.out.drew
  have q2_ := Aside0.mk (blk_drew q2_.out)
  have p4_ := Aside0.mk (Kd.R_drew p4_.out)
  have p5_ := Aside0.mk (Kd.R_drew p5_.out)
  have p6_ := Aside0.mk (Kd.R_drew p6_.out)
  have s6_ : Aside0 (w9.drew.heap.size = w6.heap.size) := s6_
  have c8 : w9.drew.cell? _ = _ := c8
  clear HC
  generalize World.drew _ = w9 at q0_ q1_ q2_ p4_ p5_ p6_ s6_ c8 hHeld ⊢
  refine pure_ (i := 0) (N := (some 83)) (v := ?_) (a' := ?_) #[true, false, false, false, false, false, false, false, false, false, false, false, false] rfl rfl (any_of HT_.out (by kernel_rfl)) (fun _ _ _ h => h) (Or.inl ⟨by rfl, ?_⟩) ?_ ?_
  rotate_left
  · intro w'
    go_simp
    with_reducible rfl
  rotate_left
  · simp only [Act.put, List.setIfInBounds_toArray, List.set_cons_zero, List.set_cons_succ, i64_w, i32_w]
    rfl
  refine take_ (i := 1) (N := (some 84)) (v := ?_) (a' := ?_) #[true, true, false, false, false, false, false, false, false, false, false, false, false] rfl rfl (take_ofW HT_.out HW_.out (by kernel_rfl)) (fun _ _ _ h => h) (Or.inl ⟨by rfl, ?_⟩) hHeld ?_ ?_
  rotate_left
  · rintro w' ⟨s0, s1, s2, s3, s4, s5⟩
    go_simp
    with_reducible rfl
  rotate_left
  · simp only [Act.put, List.setIfInBounds_toArray, List.set_cons_zero, List.set_cons_succ, i64_w, i32_w]
    rfl
  refine pure_ (i := 2) (N := (some 85)) (v := ?_) (a' := ?_) #[true, true, true, false, false, false, false, false, false, false, false, false, false] rfl rfl (any_of HT_.out (by kernel_rfl)) (fun _ _ _ h => h) (Or.inl ⟨by rfl, ?_⟩) ?_ ?_
  rotate_left
  · intro w'
    go_simp
    with_reducible rfl
  rotate_left
  · simp only [Act.put, List.setIfInBounds_toArray, List.set_cons_zero, List.set_cons_succ, i64_w, i32_w]
    rfl
  refine pure_ (i := 3) (N := (some 86)) (v := ?_) (a' := ?_) #[true, true, true, true, false, false, false, false, false, false, false, false, false] rfl rfl (any_of HT_.out (by kernel_rfl)) (fun _ _ _ h => h) (Or.inl ⟨by rfl, ?_⟩) ?_ ?_
  rotate_left
  · intro w'
    go_simp
    with_reducible rfl
  rotate_left
  · simp only [Act.put, List.setIfInBounds_toArray, List.set_cons_zero, List.set_cons_succ, i64_w, i32_w]
    rfl
  refine take_ (i := 4) (N := (some 87)) (v := ?_) (a' := ?_) #[true, true, true, true, true, false, false, false, false, false, false, false, false] rfl rfl (take_ofW HT_.out HW_.out (by kernel_rfl)) (fun _ _ _ h => h) (Or.inl ⟨by rfl, ?_⟩) hHeld ?_ ?_
  rotate_left
  · rintro w' ⟨s0, s1, s2, s3, s4, s5⟩
    go_simp
    with_reducible rfl
  rotate_left
  · simp only [Act.put, List.setIfInBounds_toArray, List.set_cons_zero, List.set_cons_succ, i64_w, i32_w]
    rfl
  refine pure_ (i := 6) (N := (some 89)) (v := ?_) (a' := ?_) #[true, true, true, true, true, false, true, false, false, false, false, false, false] rfl rfl (any_of HT_.out (by kernel_rfl)) (fun _ _ _ h => h) (Or.inl ⟨by rfl, ?_⟩) ?_ ?_
  rotate_left
  · intro w'
    go_simp
    with_reducible rfl
  rotate_left
  · simp only [Act.put, List.setIfInBounds_toArray, List.set_cons_zero, List.set_cons_succ, i64_w, i32_w]
    rfl
  refine pure_ (i := 7) (N := (some 90)) (v := ?_) (a' := ?_) #[true, true, true, true, true, false, true, true, false, false, false, false, false] rfl rfl (any_of HT_.out (by kernel_rfl)) (fun _ _ _ h => h) (Or.inl ⟨by rfl, ?_⟩) ?_ ?_
  rotate_left
  · intro w'
    go_simp
    with_reducible rfl
  rotate_left
  · simp only [Act.put, List.setIfInBounds_toArray, List.set_cons_zero, List.set_cons_succ, i64_w, i32_w]
    rfl
  refine pure_ (i := 8) (N := (some 91)) (v := ?_) (a' := ?_) #[true, true, true, true, true, false, true, true, true, false, false, false, false] rfl rfl (any_of HT_.out (by kernel_rfl)) (fun _ _ _ h => h) (Or.inl ⟨by rfl, ?_⟩) ?_ ?_
  rotate_left
  · intro w'
    go_simp
    with_reducible rfl
  rotate_left
  · simp only [Act.put, List.setIfInBounds_toArray, List.set_cons_zero, List.set_cons_succ, i64_w, i32_w]
    rfl
  refine take_ (i := 9) (N := (some 92)) (v := ?_) (a' := ?_) #[true, true, true, true, true, false, true, true, true, true, false, false, false] rfl rfl (take_ofW HT_.out HW_.out (by kernel_rfl)) (fun _ _ _ h => h) (Or.inl ⟨by rfl, ?_⟩) hHeld ?_ ?_
  rotate_left
  · rintro w' ⟨s0, s1, s2, s3, s4, s5⟩
    go_simp
    with_reducible rfl
  rotate_left
  · simp only [Act.put, List.setIfInBounds_toArray, List.set_cons_zero, List.set_cons_succ, i64_w, i32_w]
    rfl
  refine one_ (i := 5) (N := (some 88)) #[true, true, true, true, true, true, true, true, true, true, false, false, false] rfl rfl (one_of HT_.out (by kernel_rfl)) (by decide) (fun K_ hK => ?_)
  refine call_ 87 #[.slice A6 n.ways.length cc6] (by rfl) rfl ?hrun5 ?_
  (case hrun5 => first | (go_simp; done) | (go_simp; exact enters Tryz.func87 (by kernel_rfl) rfl _ _))
  refine (clone_ways A6 n.ways.length cc6 n.ways _ (Kd.R_reads' p6_.out).2.2 hny).mono ?_
  rintro e wa ⟨va, rfl, hRa, hBa⟩
  obtain ⟨Aa, cca, rfl⟩ := Kd.R_slice hRa
  have ar_ := Aside0.mk hRa
  have ab_ := Aside0.mk hBa
  have a2_ := Aside0.mk (blk_below q2_.out hBa)
  have c8 := pw_cell_below hBa c8
  clear hRa hBa
  refine ⟨_, rfl, ?_⟩
  refine hK.out _ _ ⟨(blk_cell a2_.out 0).trans rfl, (blk_cell a2_.out 1).trans rfl, (blk_cell a2_.out 2).trans rfl, (blk_cell a2_.out 3).trans rfl, (blk_cell a2_.out 4).trans rfl, c8⟩ (fun hHeld => ?_)
  clear hK K_
  refine norm_ (a' := ?_) ?_ ?_
  rotate_left
  · show Act.put _ (some 88) _ = _
    simp only [Act.put, List.setIfInBounds_toArray, List.set_cons_zero, List.set_cons_succ, i64_w, i32_w]
    rfl
  refine pure_ (i := 10) (N := (some 93)) (v := ?_) (a' := ?_) #[true, true, true, true, true, true, true, true, true, true, true, false, false] rfl rfl (any_of HT_.out (by kernel_rfl)) (fun _ _ _ h => h) (Or.inl ⟨by rfl, ?_⟩) ?_ ?_
  rotate_left
  · intro w'
    go_simp
    with_reducible rfl
  rotate_left
  · simp only [Act.put, List.setIfInBounds_toArray, List.set_cons_zero, List.set_cons_succ, i64_w, i32_w]
    rfl
  refine pure_ (i := 11) (N := (some 94)) (v := ?_) (a' := ?_) #[true, true, true, true, true, true, true, true, true, true, true, true, false] rfl rfl (any_of HT_.out (by kernel_rfl)) (fun _ _ _ h => h) (Or.inl ⟨by rfl, ?_⟩) ?_ ?_
  rotate_left
  · intro w'
    go_simp
    with_reducible rfl
  rotate_left
  · simp only [Act.put, List.setIfInBounds_toArray, List.set_cons_zero, List.set_cons_succ, i64_w, i32_w]
    rfl
  refine last_ (i := 12) (N := none) #[true, true, true, true, true, true, true, true, true, true, true, true, true] rfl rfl (one_of HT_.out (by kernel_rfl)) (by decide) (fun K_ hK => ?_)
  have q0_ := Aside0.mk (q0_.out.step (w1 := wa) ab_.out.size (fun k _ hlt => ab_.out.block k hlt))
  have q1_ := Aside0.mk (q1_.out.below ab_.out)
  have u4_ := Aside0.mk (Kd.R_lt p4_.out)
  have u5_ := Aside0.mk (Kd.R_lt p5_.out)
  have u6_ := Aside0.mk (Kd.R_lt p6_.out)
  have p4_ := Aside0.mk (Kd.R_below p4_.out ab_.out)
  have p5_ := Aside0.mk (Kd.R_below p5_.out ab_.out)
  have p6_ := Aside0.mk (Kd.R_below p6_.out ab_.out)
  obtain ⟨cur, hcur, hcs⟩ := q0_.out.block
  have hfit : a.slots.length * 10 + 10 ≤ cur.size := by
    have h1 := HIL.out
    have h2 : (a7.slots.set a.slots.length { s7 with count := cn }).length = a7.slots.length := List.length_set
    rw [show ({ a7 with slots := a7.slots.set a.slots.length { s7 with count := cn } } : Ar).slots.length = a7.slots.length from h2] at hcs
    omega
  refine skip_ (w1 := wa.setCells g (a.slots.length * 10) [.bool n.inner, .bool n.tagged, .slice A4 n.pairs.length cc4, .slice A5 n.keys.length cc5, .slice A6 n.ways.length cc6, .slice Aa n.ways.length cca, .int .i64 0, .bool false, .int .u32 cn, .bool true]) (by rfl) rfl ?hst ?_
  (case hst => exact exec_store _ [.bool n.inner, .bool n.tagged, .slice A4 n.pairs.length cc4, .slice A5 n.keys.length cc5, .slice A6 n.ways.length cc6, .slice Aa n.ways.length cca, .int .i64 0, .bool false, .int .u32 cn, .bool true] rfl (by rfl) (by rfl) hcur rfl (by kernel_rfl) hfit (by intro u hu; simp only [List.mem_cons, List.not_mem_nil, or_false] at hu; rcases hu with rfl | rfl | rfl | rfl | rfl | rfl | rfl | rfl | rfl | rfl <;> rfl))
  refine hK.out _ _ ?_
  clear hK K_ hHeld c8 hcur hcs hfit
  refine done_ (done_of HT_.out (by kernel_rfl)) ?_
  clear HT_ HW_
  have t4_ := Kd.R_tight (by rfl) p4_.out
  have t5_ := Kd.R_tight (by rfl) p5_.out
  have t6_ := Kd.R_tight (by rfl) p6_.out
  have ta_ := Kd.R_tight (by rfl) ar_.out
  have b4_ : ∀ k, some k = (Value.slice A4 n.pairs.length cc4).ownBlock → w3.heap.size ≤ k ∧ k < w9.heap.size := fun k hk => ⟨Kd.R_base p4_.out k hk.symm, u4_.out k hk.symm⟩
  have b5_ : ∀ k, some k = (Value.slice A5 n.keys.length cc5).ownBlock → w3.heap.size ≤ k ∧ k < w9.heap.size := fun k hk => ⟨Nat.le_trans l4_.out (Kd.R_base p5_.out k hk.symm), u5_.out k hk.symm⟩
  have b6_ : ∀ k, some k = (Value.slice A6 n.ways.length cc6).ownBlock → w3.heap.size ≤ k ∧ k < w9.heap.size := fun k hk => ⟨Nat.le_trans l4_.out (Nat.le_trans l5_.out (Kd.R_base p6_.out k hk.symm)), u6_.out k hk.symm⟩
  have ba_ : ∀ k, some k = (Value.slice Aa n.ways.length cca).ownBlock → w9.heap.size ≤ k ∧ k < wa.heap.size := fun k hk => ⟨Kd.R_base ar_.out k hk.symm, Kd.R_lt ar_.out k hk.symm⟩
  have r4_ := (Kd.R_reads' p4_.out).2.1
  have r5_ := (Kd.R_reads' p5_.out).2.1
  have r6_ := (Kd.R_reads' p6_.out).2.1
  have hsz : w3.heap.size ≤ w9.heap.size := by have h1 := l4_.out; have h2 := l5_.out; have h3 := l6_.out; have h4 := s6_.out; omega
  have hL := hL7.out
  generalize hpv : Value.slice A4 n.pairs.length cc4 = pv at t4_ b4_
  generalize hkv : Value.slice A5 n.keys.length cc5 = kv at t5_ b5_
  generalize hyv : Value.slice A6 n.ways.length cc6 = yv at t6_ b6_
  generalize hwv : Value.slice Aa n.ways.length cca = wv at ta_ ba_
  have h11 := q0_.out.mono (ok1 := fun k => ok7 k ∨ some k = pv.ownBlock ∨ some k = kv.ownBlock ∨ some k = yv.ownBlock ∨ some k = wv.ownBlock) (ρ1 := fun k => if some k = wv.ownBlock then 4 + a.slots.length else if (some k = pv.ownBlock ∨ some k = kv.ownBlock ∨ some k = yv.ownBlock) then 3 else ρ7 k) (fun k hk => .inl hk) (fun k hk => by
    have hab := ab_.out.size
    rcases hk with hk | hk | hk | hk | hk
    · exact q0_.out.lt k hk
    · have := b4_ k hk; omega
    · have := b5_ k hk; omega
    · have := b6_ k hk; omega
    · have := ba_ k hk; omega) (fun k hk => by
    have h0 := hL k hk
    show (if some k = wv.ownBlock then 4 + a.slots.length else if (some k = pv.ownBlock ∨ some k = kv.ownBlock ∨ some k = yv.ownBlock) then 3 else ρ7 k) = ρ7 k
    rw [if_neg (fun e => by have := ba_ k e; omega), if_neg (fun e => e.elim (fun e => by have := b4_ k e; omega) (fun e => e.elim (fun e => by have := b5_ k e; omega) (fun e => by have := b6_ k e; omega)))])
  have h3_ : ∀ k, (some k = pv.ownBlock ∨ some k = kv.ownBlock ∨ some k = yv.ownBlock) → (ok7 k ∨ some k = pv.ownBlock ∨ some k = kv.ownBlock ∨ some k = yv.ownBlock ∨ some k = wv.ownBlock) ∧ (if some k = wv.ownBlock then 4 + a.slots.length else if (some k = pv.ownBlock ∨ some k = kv.ownBlock ∨ some k = yv.ownBlock) then 3 else ρ7 k) = 3 := fun k hk => by
    refine ⟨?_, ?_⟩
    · rcases hk with hk | hk | hk
      · exact .inr (.inl hk)
      · exact .inr (.inr (.inl hk))
      · exact .inr (.inr (.inr (.inl hk)))
    · rw [if_neg (fun e => by
        have h5 := ba_ k e
        rcases hk with hk | hk | hk
        · have := b4_ k hk; omega
        · have := b5_ k hk; omega
        · have := b6_ k hk; omega), if_pos hk]
  have h4_ : ∀ k, some k = wv.ownBlock → (ok7 k ∨ some k = pv.ownBlock ∨ some k = kv.ownBlock ∨ some k = yv.ownBlock ∨ some k = wv.ownBlock) ∧ (if some k = wv.ownBlock then 4 + a.slots.length else if (some k = pv.ownBlock ∨ some k = kv.ownBlock ∨ some k = yv.ownBlock) then 3 else ρ7 k) = 4 + a.slots.length := fun k hk => ⟨.inr (.inr (.inr (.inr hk))), if_pos hk⟩
  have h12 := h11.seg hi9.out 0 [.bool n.inner, .bool n.tagged, .slice A4 n.pairs.length cc4, .slice A5 n.keys.length cc5, .slice A6 n.ways.length cc6, .slice Aa n.ways.length cca, .int .i64 0, .bool false, .int .u32 cn, .bool true] (by simp) (slotOf n cn) (fun j => if j = a.slots.length then ⟨pv, kv, yv, wv⟩ else lv7 j) (fun j hj => if_neg hj) (by show slotCells (slotOf n cn) (if a.slots.length = a.slots.length then _ else _) = _; rw [if_pos rfl, ← hpv, ← hkv, ← hyv, ← hwv]; rfl)
    (by
      show NodeAt wa _ n (if a.slots.length = a.slots.length then _ else _)
      rw [if_pos rfl]
      subst hpv hkv hyv
      exact ⟨⟨A4, cc4, rfl, r4_, Kd.F_mono (Kd.R_F t4_) (fun k hk => h3_ k (.inl hk))⟩, ⟨A5, cc5, rfl, r5_, Kd.F_mono (Kd.R_F t5_) (fun k hk => h3_ k (.inr (.inl hk)))⟩, ⟨A6, cc6, rfl, r6_, Kd.F_mono (Kd.R_F t6_) (fun k hk => h3_ k (.inr (.inr hk)))⟩⟩)
    (by
      show (Kd.int .i64).R _ wa 0 _ (if a.slots.length = a.slots.length then _ else _ : Lv).w n.ways
      rw [if_pos rfl]
      exact Kd.R_lower (Kd.R_mono ta_ h4_) (Nat.zero_le _))
  obtain ⟨lvz, ρz, h12⟩ : ∃ lvz ρz, ArenaAt (fun k => ok7 k ∨ some k = pv.ownBlock ∨ some k = kv.ownBlock ∨ some k = yv.ownBlock ∨ some k = wv.ownBlock) pA (.slice (some ⟨g, 0, none⟩) (a.slots.length + 1) cap5) fv7 lvz ρz { a7 with slots := a7.slots.set a.slots.length (slotOf n cn) } (wa.setCells g (a.slots.length * 10) [.bool n.inner, .bool n.tagged, .slice A4 n.pairs.length cc4, .slice A5 n.keys.length cc5, .slice A6 n.ways.length cc6, .slice Aa n.ways.length cca, .int .i64 0, .bool false, .int .u32 cn, .bool true]) := by
    have h13 := h12
    rw [show ({ a7 with slots := a7.slots.set a.slots.length { s7 with count := cn } } : Ar).slots = a7.slots.set a.slots.length { s7 with count := cn } from rfl, List.set_set] at h13
    exact ⟨_, _, h13⟩
  have m12 : Moves ok (fun k => ok7 k ∨ some k = pv.ownBlock ∨ some k = kv.ownBlock ∨ some k = yv.ownBlock ∨ some k = wv.ownBlock) w (wa.setCells g (a.slots.length * 10) [.bool n.inner, .bool n.tagged, .slice A4 n.pairs.length cc4, .slice A5 n.keys.length cc5, .slice A6 n.ways.length cc6, .slice Aa n.ways.length cca, .int .i64 0, .bool false, .int .u32 cn, .bool true]) := (moves_cells q1_.out (q1_.out.fresh g HG.out) _ _).owns (fun k hk => by
    have hw3 : w.heap.size ≤ w3.heap.size := by have := HBB.out; have := HBL.out; omega
    rcases hk with hk | hk | hk | hk | hk
    · exact q1_.out.fresh k hk
    · have := b4_ k hk; exact .inr (by omega)
    · have := b5_ k hk; exact .inr (by omega)
    · have := b6_ k hk; exact .inr (by omega)
    · have := ba_ k hk; exact .inr (by omega))
  generalize hok : (fun k => ok7 k ∨ some k = pv.ownBlock ∨ some k = kv.ownBlock ∨ some k = yv.ownBlock ∨ some k = wv.ownBlock) = ok12 at h12 m12
  have q0_ := Aside0.mk h12
  have q1_ := Aside0.mk m12
  clear h12 m12 h11 h3_ h4_ t4_ t5_ t6_ ta_ b4_ b5_ b6_ ba_ hL hsz hok
  subst hpv hkv hyv hwv
  generalize wa.setCells g (a.slots.length * 10) [.bool n.inner, .bool n.tagged, .slice A4 n.pairs.length cc4, .slice A5 n.keys.length cc5, .slice A6 n.ways.length cc6, .slice Aa n.ways.length cca, .int .i64 0, .bool false, .int .u32 cn, .bool true] = wb at q0_ q1_ ⊢
  have c3 := (blk_cell q0_.out.box 3).trans (rfl : _ = some (Value.int .i64 a7.used))
  have z3 := blk_frozen q0_.out.box 3
  go_upto_region 12 with fail
  have q0_ := Aside0.mk (q0_.out.box_set 3 (.int .i64 (wrap64 (a7.used + 1))) (a7.put a.slots.length n cn) rfl rfl rfl)
  have q1_ : Aside0 (Moves ok ok12 w (wb.setCell ⟨pA, 3, none⟩ (.int .i64 (wrap64 (a7.used + 1))))) := ⟨q1_.out.set (p := ⟨pA, 3, none⟩) (q1_.out.fresh pA q0_.out.own) _⟩
  clear c3 z3
  generalize wb.setCell ⟨pA, 3, none⟩ (.int .i64 (wrap64 (a7.used + 1))) = wc at q0_ q1_ ⊢
  have hi12 : (a7.put a.slots.length n cn).slots[a.slots.length]? = some (slotOf n cn) := List.getElem?_set_self HIL.out
  obtain ⟨_, g', e', _, _, hcc, _⟩ := q0_.out.cells hi12
  injection e' with e'
  injection e' with e' _ _
  subst e'
  have c8 := hcc 8 _ (rfl : _ = some (Value.int .u32 cn))
  clear hcc hi12
  go_wp2_with (go_at_call 88; refine (ref_of _ cn _).mono ?_; rintro e w1 ⟨rfl, rfl⟩)
  go_ret2
  subst hcn
  exact ⟨rfl, ok12, ⟨_, _, _, _, q0_.out⟩, q1_.out⟩

theorem info_int : (Tryz.prog.info? 3).map (fun i => (i.zero, i.size, i.bytes)) = some (some (.int .i64 0), 1, 8) := by kernel_rfl
theorem cut1 (A : Option Addr) (n c : Nat) (W : World) : (Instr.slice 106 (.slice A (n + 1) c) (some (.int .i64 1)) none none).run Tryz.prog W = .ok (.slice (if c = 1 then A else A.map (·.add 1)) n (c - 1)) W := by
  have hel : (Tryz.prog).elem 106 = 3 := by kernel_rfl
  have hu : (Tryz.prog).underlying 106 = some (.slice ((Tryz.prog).elem 106)) := by rw [hel]; exact Tryz.underlying106
  have := run_slice_l W 106 A (n + 1) c hu .i64 1 (by omega) (by omega)
  obtain ⟨i0, hi, hz0, hz1, hz2⟩ := info_parts info_int
  rw [this, hel]
  simp [sizeOf, typeInfo, hi, hz1, sliced, Result.andThen]
set_option maxHeartbeats 2000000 in
set_option maxRecDepth 100000 in
theorem alloc_again {ok : Nat → Prop} {pA : Nat} {a : Ar} (n : Nd) (v : Value) (w : World) (h : IsArena ok pA a w) (hn : NdF (fun k => ¬ ok k) n v w) (hx : ¬ a.most ≤ a.used) (ix : Nat) (fs : List Int) (hf : a.free = (ix : Int) :: fs) (hl : a.slots.length < 999999) (hnp : n.pairs.length < 1000000) (hnk : n.keys.length < 1000000) (hny : n.ways.length < 1000000) (a7 : Ar) (ha7 : { a with free := fs } = a7) (s7 : Sl) (hs7 : a.slots[ix]? = some s7) :
    Calls Tryz.prog 58 #[.pointer (some ⟨pA, 0, none⟩), v] w (AllocPost ok pA (refOf ix (u32w (s7.count + 1))) true (a7.put ix n (u32w (s7.count + 1))) w) := by
  obtain ⟨sv, fv, lv, ρ, h⟩ := h
  obtain ⟨Ap, cp, Ak, ck, Ay, cy, rfl, hcp, hck, hcy, hp, hk, hy⟩ := hn
  have h1 := h.step (w1 := w.alloc (.cells #[.bool n.inner, .bool n.tagged, .slice Ap n.pairs.length cp, .slice Ak n.keys.length ck, .slice Ay n.ways.length cy] 119)) (by simp) (fun k _ hlt => Below.heap_alloc _ _ _ hlt)
  have HI := Aside0.mk h1
  have HL := Aside0.mk h.lt
  have HB := Aside0.mk (blk_new w (.cells #[.bool n.inner, .bool n.tagged, .slice Ap n.pairs.length cp, .slice Ak n.keys.length ck, .slice Ay n.ways.length cy] 119))
  have HM := Aside0.mk ((Moves.refl ok w).alloc (.cells #[.bool n.inner, .bool n.tagged, .slice Ap n.pairs.length cp, .slice Ak n.keys.length ck, .slice Ay n.ways.length cy] 119))
  have HP := Aside0.mk (Kd.F_alloc (Kd.F_bound hp) (.cells #[.bool n.inner, .bool n.tagged, .slice Ap n.pairs.length cp, .slice Ak n.keys.length ck, .slice Ay n.ways.length cy] 119))
  have HK := Aside0.mk (Kd.F_alloc (Kd.F_bound hk) (.cells #[.bool n.inner, .bool n.tagged, .slice Ap n.pairs.length cp, .slice Ak n.keys.length ck, .slice Ay n.ways.length cy] 119))
  have HY := Aside0.mk (Kd.F_alloc (Kd.F_bound hy) (.cells #[.bool n.inner, .bool n.tagged, .slice Ap n.pairs.length cp, .slice Ak n.keys.length ck, .slice Ay n.ways.length cy] 119))
  have d1 : decide (a.used ≥ a.most) = false := decide_eq_false hx
  have d1' : decide (a.most ≤ a.used) = false := d1
  clear h h1 hp hk hy hx
  go_enter Tryz.func58, Tryz.ntmps58
  go_upto_region 1 with fail
  generalize w.alloc (.cells #[.bool n.inner, .bool n.tagged, .slice Ap n.pairs.length cp, .slice Ak n.keys.length ck, .slice Ay n.ways.length cy] 119) = w1 at HI HB HM HP HK HY ⊢
  have c2 : w1.cell? ⟨pA, 2, none⟩ = some (.int .i64 a.most) := (blk_cell HI.out.box 2).trans rfl
  have c3 : w1.cell? ⟨pA, 3, none⟩ = some (.int .i64 a.used) := (blk_cell HI.out.box 3).trans rfl
  go_quiet (fail)
  rename_i nq
  have HI2 := Aside0.mk (HI.out.step (w1 := w1.drewN nq) (Nat.le_refl _) (fun _ _ _ => rfl))
  have HB2 := Aside0.mk (blk_drewN HB.out nq)
  have HM2 := Aside0.mk (HM.out.drewN nq)
  have HP2 := Aside0.mk (Kd.F_drewN HP.out nq)
  have HK2 := Aside0.mk (Kd.F_drewN HK.out nq)
  have HY2 := Aside0.mk (Kd.F_drewN HY.out nq)
  clear HI HB HM HP HK HY c2 c3 d1 d1'
  generalize w1.drewN nq = w2 at HI2 HB2 HM2 HP2 HK2 HY2 ⊢
  obtain ⟨ad, cap, rfl⟩ := Kd.R_slice HI2.out.rows
  rw [rowsOf_length] at HI2
  have hq := HI2.out.free
  rw [hf] at hq
  obtain ⟨gf, of, cf, rfl, _, _, _⟩ := Kd.Q_form hq (by simp)
  have cf0 : w2.cell? ⟨gf, of, none⟩ = some (.int .i64 (ix : Int)) := by
    have h1 := (Kd.Q_cell (0 : Int) hq 0 (by omega) (by simp)).1
    simpa [rdOf] using h1
  have hlen : ((ix : Int) :: fs).length = fs.length + 1 := List.length_cons
  rw [hlen] at HI2
  have c0 : w2.cell? ⟨pA, 0, none⟩ = some (.slice ad a.slots.length cap) := (blk_cell HI2.out.box 0).trans rfl
  have c1 : w2.cell? ⟨pA, 1, none⟩ = some (.slice (some ⟨gf, of, none⟩) (fs.length + 1) cf) := (blk_cell HI2.out.box 1).trans rfl
  have hcf : fs.length + 1 ≤ cf := by have := (Kd.Q_reads' hq).2.1; rw [hlen] at this; exact this
  have hcut : ∀ W : World, (Instr.slice 106 (.slice (some ⟨gf, of, none⟩) (fs.length + 1) cf) (some (.int .i64 1)) none none).run Tryz.prog W = .ok (.slice (if cf = 1 then some ⟨gf, of, none⟩ else (some (⟨gf, of, none⟩ : Addr)).map (·.add 1)) fs.length (cf - 1)) W := fun W => cut1 _ _ _ W
  have hf' := Aside0.mk hf
  have d0 : decide (((fs.length + 1 : Nat) : Int) > 0) = true := decide_eq_true (by omega)
  have d0' : decide (0 < fs.length + 1) = true := decide_eq_true (by omega)
  have e1 : (0 : Int) < ((fs.length + 1 : Nat) : Int) := by omega
  have e2 : (0 : Int) ≤ ((fs.length + 1 : Nat) : Int) := by omega
  clear hf hq hlen hcf
  go_upto_region 5 with fail
  refine start_ (n := 16) (S := fun w' => w'.cell? ⟨pA, 1, none⟩ = some (.slice (some ⟨gf, of, none⟩) (fs.length + 1) cf) ∧ w'.cell? ⟨gf, of, none⟩ = some (.int .i64 (ix : Int))) (ds := [15]) #[false, false, false, false, false, false, false, false, false, false, false, false, false, false, false, false] (by kernel_rfl) rfl rfl ⟨c1, cf0⟩ (fun hHeld => ?_); refine with_tabW tabAlloc5 bitsAlloc5 (fun HT_ HW_ => ?_)
  have HI2 := Aside0.mk (HI2.out.step (w1 := w2.drew) (Nat.le_refl _) (fun _ _ _ => rfl))
  have HB2 := Aside0.mk (blk_drew HB2.out)
  have HM2 := Aside0.mk HM2.out.drew
  have HP2 := Aside0.mk (Kd.F_drew HP2.out)
  have HK2 := Aside0.mk (Kd.F_drew HK2.out)
  have HY2 := Aside0.mk (Kd.F_drew HY2.out)
  generalize World.drew _ = w2 at HI2 HB2 HM2 HP2 HK2 HY2 hHeld ⊢
  refine pure_ (i := 0) (N := (some 32)) (v := ?_) (a' := ?_) #[true, false, false, false, false, false, false, false, false, false, false, false, false, false, false, false] rfl rfl (any_of HT_.out (by kernel_rfl)) (fun _ _ _ h => h) (Or.inl ⟨by rfl, ?_⟩) ?_ ?_
  rotate_left
  · intro w'
    go_simp
    with_reducible rfl
  rotate_left
  · simp only [Act.put, List.setIfInBounds_toArray, List.set_cons_zero, List.set_cons_succ, i64_w, i32_w]
    rfl
  refine pure_ (i := 1) (N := (some 33)) (v := ?_) (a' := ?_) #[true, true, false, false, false, false, false, false, false, false, false, false, false, false, false, false] rfl rfl (any_of HT_.out (by kernel_rfl)) (fun _ _ _ h => h) (Or.inl ⟨by rfl, ?_⟩) ?_ ?_
  rotate_left
  · intro w'
    go_simp
    with_reducible rfl
  rotate_left
  · simp only [Act.put, List.setIfInBounds_toArray, List.set_cons_zero, List.set_cons_succ, i64_w, i32_w]
    rfl
  refine pure_ (i := 2) (N := (some 34)) (v := ?_) (a' := ?_) #[true, true, true, false, false, false, false, false, false, false, false, false, false, false, false, false] rfl rfl (any_of HT_.out (by kernel_rfl)) (fun _ _ _ h => h) (Or.inl ⟨by rfl, ?_⟩) ?_ ?_
  rotate_left
  · intro w'
    go_simp
    with_reducible rfl
  rotate_left
  · simp only [Act.put, List.setIfInBounds_toArray, List.set_cons_zero, List.set_cons_succ, i64_w, i32_w]
    rfl
  refine pure_ (i := 3) (N := (some 35)) (v := ?_) (a' := ?_) #[true, true, true, true, false, false, false, false, false, false, false, false, false, false, false, false] rfl rfl (any_of HT_.out (by kernel_rfl)) (fun _ _ _ h => h) (Or.inl ⟨by rfl, ?_⟩) ?_ ?_
  rotate_left
  · intro w'
    go_simp
    with_reducible rfl
  rotate_left
  · simp only [Act.put, List.setIfInBounds_toArray, List.set_cons_zero, List.set_cons_succ, i64_w, i32_w]
    rfl
  refine take_ (i := 4) (N := (some 36)) (v := ?_) (a' := ?_) #[true, true, true, true, true, false, false, false, false, false, false, false, false, false, false, false] rfl rfl (take_ofW HT_.out HW_.out (by kernel_rfl)) (fun _ _ _ h => h) (Or.inl ⟨by rfl, ?_⟩) hHeld ?_ ?_
  rotate_left
  · rintro w' ⟨s0, s1⟩
    go_simp
    with_reducible rfl
  rotate_left
  · simp only [Act.put, List.setIfInBounds_toArray, List.set_cons_zero, List.set_cons_succ, i64_w, i32_w]
    rfl
  refine pure_ (i := 5) (N := (some 37)) (v := ?_) (a' := ?_) #[true, true, true, true, true, true, false, false, false, false, false, false, false, false, false, false] rfl rfl (any_of HT_.out (by kernel_rfl)) (fun _ _ _ h => h) (Or.inl ⟨by rfl, ?_⟩) ?_ ?_
  rotate_left
  · intro w'
    go_simp
    with_reducible rfl
  rotate_left
  · simp only [Act.put, List.setIfInBounds_toArray, List.set_cons_zero, List.set_cons_succ, i64_w, i32_w]
    rfl
  refine take_ (i := 6) (N := (some 38)) (v := ?_) (a' := ?_) #[true, true, true, true, true, true, true, false, false, false, false, false, false, false, false, false] rfl rfl (take_ofW HT_.out HW_.out (by kernel_rfl)) (fun _ _ _ h => h) (Or.inl ⟨by rfl, ?_⟩) hHeld ?_ ?_
  rotate_left
  · rintro w' ⟨s0, s1⟩
    go_simp
    with_reducible rfl
  rotate_left
  · simp only [Act.put, List.setIfInBounds_toArray, List.set_cons_zero, List.set_cons_succ, i64_w, i32_w]
    rfl
  refine pure_ (i := 7) (N := (some 39)) (v := ?_) (a' := ?_) #[true, true, true, true, true, true, true, true, false, false, false, false, false, false, false, false] rfl rfl (any_of HT_.out (by kernel_rfl)) (fun _ _ _ h => h) (Or.inl ⟨by rfl, ?_⟩) ?_ ?_
  rotate_left
  · intro w'
    go_simp
    with_reducible rfl
  rotate_left
  · simp only [Act.put, List.setIfInBounds_toArray, List.set_cons_zero, List.set_cons_succ, i64_w, i32_w]
    rfl
  refine pure_ (i := 8) (N := (some 40)) (v := ?_) (a' := ?_) #[true, true, true, true, true, true, true, true, true, false, false, false, false, false, false, false] rfl rfl (any_of HT_.out (by kernel_rfl)) (fun _ _ _ h => h) (Or.inl ⟨by rfl, ?_⟩) ?_ ?_
  rotate_left
  · intro w'
    go_simp
    with_reducible rfl
  rotate_left
  · simp only [Act.put, List.setIfInBounds_toArray, List.set_cons_zero, List.set_cons_succ, i64_w, i32_w]
    rfl
  refine pure_ (i := 9) (N := (some 41)) (v := ?_) (a' := ?_) #[true, true, true, true, true, true, true, true, true, true, false, false, false, false, false, false] rfl rfl (any_of HT_.out (by kernel_rfl)) (fun _ _ _ h => h) (Or.inl ⟨by rfl, ?_⟩) ?_ ?_
  rotate_left
  · intro w'
    go_simp
    with_reducible rfl
  rotate_left
  · simp only [Act.put, List.setIfInBounds_toArray, List.set_cons_zero, List.set_cons_succ, i64_w, i32_w]
    rfl
  refine take_ (i := 10) (N := (some 42)) (v := ?_) (a' := ?_) #[true, true, true, true, true, true, true, true, true, true, true, false, false, false, false, false] rfl rfl (take_ofW HT_.out HW_.out (by kernel_rfl)) (fun _ _ _ h => h) (Or.inl ⟨by rfl, ?_⟩) hHeld ?_ ?_
  rotate_left
  · rintro w' ⟨s0, s1⟩
    go_simp
    with_reducible rfl
  rotate_left
  · simp only [Act.put, List.setIfInBounds_toArray, List.set_cons_zero, List.set_cons_succ, i64_w, i32_w]
    rfl
  refine pure_ (i := 11) (N := (some 43)) (v := ?_) (a' := ?_) #[true, true, true, true, true, true, true, true, true, true, true, true, false, false, false, false] rfl rfl (any_of HT_.out (by kernel_rfl)) (fun _ _ _ h => h) (Or.inl ⟨by rfl, ?_⟩) ?_ ?_
  rotate_left
  · intro w'
    go_simp
    with_reducible rfl
  rotate_left
  · simp only [Act.put, List.setIfInBounds_toArray, List.set_cons_zero, List.set_cons_succ, i64_w, i32_w]
    rfl
  refine pure_ (i := 12) (N := (some 6)) (v := ?_) (a' := ?_) #[true, true, true, true, true, true, true, true, true, true, true, true, true, false, false, false] rfl rfl (any_of HT_.out (by kernel_rfl)) (fun _ _ _ h => h) (Or.inl ⟨by rfl, ?_⟩) ?_ ?_
  rotate_left
  · intro w'
    go_simp
    with_reducible rfl
  rotate_left
  · simp only [Act.put, List.setIfInBounds_toArray, List.set_cons_zero, List.set_cons_succ, i64_w, i32_w]
    rfl
  refine pure_ (i := 13) (N := (some 44)) (v := ?_) (a' := ?_) #[true, true, true, true, true, true, true, true, true, true, true, true, true, true, false, false] rfl rfl (any_of HT_.out (by kernel_rfl)) (fun _ _ _ h => h) (Or.inl ⟨by rfl, ?_⟩) ?_ ?_
  rotate_left
  · intro w'
    go_simp
    with_reducible rfl
  rotate_left
  · simp only [Act.put, List.setIfInBounds_toArray, List.set_cons_zero, List.set_cons_succ, i64_w, i32_w]
    rfl
  refine pure_ (i := 14) (N := (some 45)) (v := ?_) (a' := ?_) #[true, true, true, true, true, true, true, true, true, true, true, true, true, true, true, false] rfl rfl (any_of HT_.out (by kernel_rfl)) (fun _ _ _ h => h) (Or.inl ⟨by rfl, ?_⟩) ?_ ?_
  rotate_left
  · intro w'
    go_simp
    with_reducible rfl
  rotate_left
  · simp only [Act.put, List.setIfInBounds_toArray, List.set_cons_zero, List.set_cons_succ, i64_w, i32_w]
    rfl
  have z1 := blk_frozen HI2.out.box 1
  refine last_ (i := 15) (N := none) #[true, true, true, true, true, true, true, true, true, true, true, true, true, true, true, true] rfl rfl (one_of HT_.out (by kernel_rfl)) (by decide) (fun K_ hK => ?_)
  refine skip_ (w1 := ?_) (by rfl) rfl ?_ ?_
  rotate_left
  · go_simp
    rfl
  refine hK.out _ _ ?_
  clear hK K_
  refine done_ (done_of HT_.out (by kernel_rfl)) ?_
  have q0_ : Aside0 (ArenaAt ok pA (.slice ad a.slots.length cap) (.slice (if cf = 1 then some ⟨gf, of, none⟩ else some ⟨gf, of + 1, none⟩) fs.length (cf - 1)) lv ρ { a with free := fs } (w2.setCell ⟨pA, 1, none⟩ (.slice (if cf = 1 then some ⟨gf, of, none⟩ else some ⟨gf, of + 1, none⟩) fs.length (cf - 1)))) := ⟨HI2.out.popped hf'.out⟩
  have q1_ := Aside0.mk (HM2.out.set (p := ⟨pA, 1, none⟩) (.inl HI2.out.own) (.slice (if cf = 1 then some ⟨gf, of, none⟩ else some ⟨gf, of + 1, none⟩) fs.length (cf - 1)))
  have hpb : w.heap.size ≠ pA := fun e => by have := HL.out pA HI2.out.own; omega
  have q2_ := Aside0.mk (blk_far HB2.out (p := ⟨pA, 1, none⟩) hpb (.slice (if cf = 1 then some ⟨gf, of, none⟩ else some ⟨gf, of + 1, none⟩) fs.length (cf - 1)))
  have hdp : ∀ k, (¬ ok k ∧ k < w.heap.size) → k ≠ pA := fun k hk e => hk.1 (e ▸ HI2.out.own)
  have q3_ := Aside0.mk (Kd.F_far HP2.out (p := ⟨pA, 1, none⟩) hdp (.slice (if cf = 1 then some ⟨gf, of, none⟩ else some ⟨gf, of + 1, none⟩) fs.length (cf - 1)))
  have q4_ := Aside0.mk (Kd.F_far HK2.out (p := ⟨pA, 1, none⟩) hdp (.slice (if cf = 1 then some ⟨gf, of, none⟩ else some ⟨gf, of + 1, none⟩) fs.length (cf - 1)))
  have q5_ := Aside0.mk (Kd.F_far HY2.out (p := ⟨pA, 1, none⟩) hdp (.slice (if cf = 1 then some ⟨gf, of, none⟩ else some ⟨gf, of + 1, none⟩) fs.length (cf - 1)))
  have q6_ : Aside0 (¬ ok w.heap.size) := ⟨fun hh => by have := HL.out _ hh; omega⟩
  have hi7 : Aside0 (a7.slots[ix]? = some s7) := ⟨by rw [← ha7]; exact hs7⟩
  have hl7 : ix < a.slots.length := (List.getElem?_eq_some_iff.1 hs7).1
  rw [ha7] at q0_
  clear HI2 HB2 HM2 HP2 HK2 HY2 hpb hdp c0 c1 cf0 hHeld z1 d0 d0' e1 e2 hcut
  generalize (Value.slice (if cf = 1 then some ⟨gf, of, none⟩ else some ⟨gf, of + 1, none⟩) fs.length (cf - 1)) = fv7 at q0_ q1_ q2_ q3_ q4_ q5_ ⊢
  generalize w2.setCell ⟨pA, 1, none⟩ fv7 = w7 at q0_ q1_ q2_ q3_ q4_ q5_ ⊢
  obtain ⟨hn7, g, rfl, hg, hρ, hcc, hfz⟩ := q0_.out.cells hi7.out
  have HG := Aside0.mk hg
  have HR := Aside0.mk hρ
  have HN7 := Aside0.mk hn7
  have HIL := Aside0.mk (List.getElem?_eq_some_iff.1 hi7.out).1
  have hb : w.heap.size < w7.heap.size := blk_lt q2_.out
  have HBL := Aside0.mk hb
  have hL7 := Aside0.mk q0_.out.lt
  have c0 := (blk_cell q0_.out.box 0).trans (rfl : _ = some (Value.slice (some ⟨g, 0, none⟩) _ _))
  have b1 : (0 : Int) ≤ ((ix : Nat) : Int) := by omega
  have b2 : ((ix : Nat) : Int) < ((a.slots.length : Nat) : Int) := by omega
  clear hg hρ hn7 hcc hfz hb
  go_upto_region 8 with fail
  clear c0
  generalize hbb : w.heap.size = b at q2_ q6_ HBL ⊢
  have HBB := Aside0.mk hbb
  clear hbb
  refine start_ (n := 16) (S := fun w' => w'.cell? ⟨b, 2, none⟩ = some (.slice Ap n.pairs.length cp) ∧ w'.cell? ⟨b, 3, none⟩ = some (.slice Ak n.keys.length ck) ∧ w'.cell? ⟨b, 4, none⟩ = some (.slice Ay n.ways.length cy)) (ds := [13, 15]) #[false, false, false, false, false, false, false, false, false, false, false, false, false, false, false, false] (by kernel_rfl) rfl rfl ⟨(blk_cell q2_.out 2).trans rfl, (blk_cell q2_.out 3).trans rfl, (blk_cell q2_.out 4).trans rfl⟩ (fun hHeld => ?_); refine with_tabW tabAlloc8 bitsAlloc8 (fun HT_ HW_ => ?_)
  have q0_ := Aside0.mk (q0_.out.step (w1 := w7.drew) (Nat.le_refl _) (fun _ _ _ => rfl))
  have q1_ := Aside0.mk q1_.out.drew
  have q2_ := Aside0.mk (blk_drew q2_.out)
  have q3_ := Aside0.mk (Kd.F_drew q3_.out)
  have q4_ := Aside0.mk (Kd.F_drew q4_.out)
  have q5_ := Aside0.mk (Kd.F_drew q5_.out)
  have HBL : Aside0 (b < w7.drew.heap.size) := HBL
  have hL7 : Aside0 (∀ k, ok k → k < w7.drew.heap.size) := hL7
  generalize World.drew _ = w3 at q0_ q1_ q2_ q3_ q4_ q5_ HBL hL7 hHeld ⊢
  refine pure_ (i := 0) (N := (some 62)) (v := ?_) (a' := ?_) #[true, false, false, false, false, false, false, false, false, false, false, false, false, false, false, false] rfl rfl (any_of HT_.out (by kernel_rfl)) (fun _ _ _ h => h) (Or.inl ⟨by rfl, ?_⟩) ?_ ?_
  rotate_left
  · intro w'
    go_simp
    with_reducible rfl
  rotate_left
  · simp only [Act.put, List.setIfInBounds_toArray, List.set_cons_zero, List.set_cons_succ, i64_w, i32_w]
    rfl
  refine take_ (i := 1) (N := (some 63)) (v := ?_) (a' := ?_) #[true, true, false, false, false, false, false, false, false, false, false, false, false, false, false, false] rfl rfl (take_ofW HT_.out HW_.out (by kernel_rfl)) (fun _ _ _ h => h) (Or.inl ⟨by rfl, ?_⟩) hHeld ?_ ?_
  rotate_left
  · rintro w' ⟨s0, s1, s2⟩
    go_simp
    with_reducible rfl
  rotate_left
  · simp only [Act.put, List.setIfInBounds_toArray, List.set_cons_zero, List.set_cons_succ, i64_w, i32_w]
    rfl
  refine pure_ (i := 3) (N := (some 65)) (v := ?_) (a' := ?_) #[true, true, false, true, false, false, false, false, false, false, false, false, false, false, false, false] rfl rfl (any_of HT_.out (by kernel_rfl)) (fun _ _ _ h => h) (Or.inl ⟨by rfl, ?_⟩) ?_ ?_
  rotate_left
  · intro w'
    go_simp
    with_reducible rfl
  rotate_left
  · simp only [Act.put, List.setIfInBounds_toArray, List.set_cons_zero, List.set_cons_succ, i64_w, i32_w]
    rfl
  refine pure_ (i := 4) (N := (some 66)) (v := ?_) (a' := ?_) #[true, true, false, true, true, false, false, false, false, false, false, false, false, false, false, false] rfl rfl (any_of HT_.out (by kernel_rfl)) (fun _ _ _ h => h) (Or.inl ⟨by rfl, ?_⟩) ?_ ?_
  rotate_left
  · intro w'
    go_simp
    with_reducible rfl
  rotate_left
  · simp only [Act.put, List.setIfInBounds_toArray, List.set_cons_zero, List.set_cons_succ, i64_w, i32_w]
    rfl
  refine take_ (i := 5) (N := (some 67)) (v := ?_) (a' := ?_) #[true, true, false, true, true, true, false, false, false, false, false, false, false, false, false, false] rfl rfl (take_ofW HT_.out HW_.out (by kernel_rfl)) (fun _ _ _ h => h) (Or.inl ⟨by rfl, ?_⟩) hHeld ?_ ?_
  rotate_left
  · rintro w' ⟨s0, s1, s2⟩
    go_simp
    with_reducible rfl
  rotate_left
  · simp only [Act.put, List.setIfInBounds_toArray, List.set_cons_zero, List.set_cons_succ, i64_w, i32_w]
    rfl
  refine pure_ (i := 7) (N := (some 69)) (v := ?_) (a' := ?_) #[true, true, false, true, true, true, false, true, false, false, false, false, false, false, false, false] rfl rfl (any_of HT_.out (by kernel_rfl)) (fun _ _ _ h => h) (Or.inl ⟨by rfl, ?_⟩) ?_ ?_
  rotate_left
  · intro w'
    go_simp
    with_reducible rfl
  rotate_left
  · simp only [Act.put, List.setIfInBounds_toArray, List.set_cons_zero, List.set_cons_succ, i64_w, i32_w]
    rfl
  refine pure_ (i := 8) (N := (some 70)) (v := ?_) (a' := ?_) #[true, true, false, true, true, true, false, true, true, false, false, false, false, false, false, false] rfl rfl (any_of HT_.out (by kernel_rfl)) (fun _ _ _ h => h) (Or.inl ⟨by rfl, ?_⟩) ?_ ?_
  rotate_left
  · intro w'
    go_simp
    with_reducible rfl
  rotate_left
  · simp only [Act.put, List.setIfInBounds_toArray, List.set_cons_zero, List.set_cons_succ, i64_w, i32_w]
    rfl
  refine take_ (i := 9) (N := (some 71)) (v := ?_) (a' := ?_) #[true, true, false, true, true, true, false, true, true, true, false, false, false, false, false, false] rfl rfl (take_ofW HT_.out HW_.out (by kernel_rfl)) (fun _ _ _ h => h) (Or.inl ⟨by rfl, ?_⟩) hHeld ?_ ?_
  rotate_left
  · rintro w' ⟨s0, s1, s2⟩
    go_simp
    with_reducible rfl
  rotate_left
  · simp only [Act.put, List.setIfInBounds_toArray, List.set_cons_zero, List.set_cons_succ, i64_w, i32_w]
    rfl
  refine one_ (i := 2) (N := (some 64)) #[true, true, true, true, true, true, false, true, true, true, false, false, false, false, false, false] rfl rfl (one_of HT_.out (by kernel_rfl)) (by decide) (fun K_ hK => ?_)
  refine call_ 85 #[.slice Ap n.pairs.length cp] (by rfl) rfl ?hrun2 ?_
  (case hrun2 => first | (go_simp; done) | (go_simp; exact enters Tryz.func85 (by kernel_rfl) rfl _ _))
  refine (clone_pairs Ap n.pairs.length cp n.pairs _ (Kd.F_now q3_.out) hnp).mono ?_
  rintro e w4 ⟨v4, rfl, hR4, hB4⟩
  obtain ⟨A4, cc4, rfl⟩ := Kd.R_slice hR4
  have mr_ := Aside0.mk hR4
  have mb_ := Aside0.mk hB4
  have m2_ := Aside0.mk (blk_below q2_.out hB4)
  have m4_ := Aside0.mk (Kd.F_below q4_.out hB4)
  have m5_ := Aside0.mk (Kd.F_below q5_.out hB4)
  clear hR4 hB4
  refine ⟨_, rfl, ?_⟩
  refine hK.out _ _ ⟨(blk_cell m2_.out 2).trans rfl, (blk_cell m2_.out 3).trans rfl, (blk_cell m2_.out 4).trans rfl⟩ (fun hHeld => ?_)
  clear hK K_
  refine norm_ (a' := ?_) ?_ ?_
  rotate_left
  · show Act.put _ (some 64) _ = _
    simp only [Act.put, List.setIfInBounds_toArray, List.set_cons_zero, List.set_cons_succ, i64_w, i32_w]
    rfl
  refine pure_ (i := 12) (N := (some 74)) (v := ?_) (a' := ?_) #[true, true, true, true, true, true, false, true, true, true, false, false, true, false, false, false] rfl rfl (any_of HT_.out (by kernel_rfl)) (fun _ _ _ h => h) (Or.inl ⟨by rfl, ?_⟩) ?_ ?_
  rotate_left
  · intro w'
    go_simp
    with_reducible rfl
  rotate_left
  · simp only [Act.put, List.setIfInBounds_toArray, List.set_cons_zero, List.set_cons_succ, i64_w, i32_w]
    rfl
  refine one_ (i := 6) (N := (some 68)) #[true, true, true, true, true, true, true, true, true, true, false, false, true, false, false, false] rfl rfl (one_of HT_.out (by kernel_rfl)) (by decide) (fun K_ hK => ?_)
  refine call_ 86 #[.slice Ak n.keys.length ck] (by rfl) rfl ?hrun6 ?_
  (case hrun6 => first | (go_simp; done) | (go_simp; exact enters Tryz.func86 (by kernel_rfl) rfl _ _))
  refine (clone_keys Ak n.keys.length ck n.keys _ (Kd.F_now m4_.out) hnk).mono ?_
  rintro e w5 ⟨v5, rfl, hR5, hB5⟩
  obtain ⟨A5, cc5, rfl⟩ := Kd.R_slice hR5
  have jr_ := Aside0.mk hR5
  have jb_ := Aside0.mk hB5
  have j2_ := Aside0.mk (blk_below m2_.out hB5)
  have j5_ := Aside0.mk (Kd.F_below m5_.out hB5)
  clear hR5 hB5
  refine ⟨_, rfl, ?_⟩
  refine hK.out _ _ ⟨(blk_cell j2_.out 2).trans rfl, (blk_cell j2_.out 3).trans rfl, (blk_cell j2_.out 4).trans rfl⟩ (fun hHeld => ?_)
  clear hK K_
  refine norm_ (a' := ?_) ?_ ?_
  rotate_left
  · show Act.put _ (some 68) _ = _
    simp only [Act.put, List.setIfInBounds_toArray, List.set_cons_zero, List.set_cons_succ, i64_w, i32_w]
    rfl
  refine one_ (i := 10) (N := (some 72)) #[true, true, true, true, true, true, true, true, true, true, true, false, true, false, false, false] rfl rfl (one_of HT_.out (by kernel_rfl)) (by decide) (fun K_ hK => ?_)
  refine call_ 87 #[.slice Ay n.ways.length cy] (by rfl) rfl ?hrun10 ?_
  (case hrun10 => first | (go_simp; done) | (go_simp; exact enters Tryz.func87 (by kernel_rfl) rfl _ _))
  refine (clone_ways Ay n.ways.length cy n.ways _ (Kd.F_now j5_.out) hny).mono ?_
  rintro e w6 ⟨v6, rfl, hR6, hB6⟩
  obtain ⟨A6, cc6, rfl⟩ := Kd.R_slice hR6
  have ir_ := Aside0.mk hR6
  have ib_ := Aside0.mk hB6
  have i2_ := Aside0.mk (blk_below j2_.out hB6)
  clear hR6 hB6
  refine ⟨_, rfl, ?_⟩
  refine hK.out _ _ ⟨(blk_cell i2_.out 2).trans rfl, (blk_cell i2_.out 3).trans rfl, (blk_cell i2_.out 4).trans rfl⟩ (fun hHeld => ?_)
  clear hK K_
  refine norm_ (a' := ?_) ?_ ?_
  rotate_left
  · show Act.put _ (some 72) _ = _
    simp only [Act.put, List.setIfInBounds_toArray, List.set_cons_zero, List.set_cons_succ, i64_w, i32_w]
    rfl
  refine pure_ (i := 11) (N := (some 73)) (v := ?_) (a' := ?_) #[true, true, true, true, true, true, true, true, true, true, true, true, true, false, false, false] rfl rfl (any_of HT_.out (by kernel_rfl)) (fun _ _ _ h => h) (Or.inl ⟨by rfl, ?_⟩) ?_ ?_
  rotate_left
  · intro w'
    go_simp
    with_reducible rfl
  rotate_left
  · simp only [Act.put, List.setIfInBounds_toArray, List.set_cons_zero, List.set_cons_succ, i64_w, i32_w]
    rfl
  have z2 := blk_frozen i2_.out 2
  have z3 := blk_frozen i2_.out 3
  have z4 := blk_frozen i2_.out 4
  refine last_ (i := 13) (N := none) #[true, true, true, true, true, true, true, true, true, true, true, true, true, true, false, false] rfl rfl (one_of HT_.out (by kernel_rfl)) (by decide) (fun K_ hK => ?_)
  refine skip_ (w1 := ?_) (by rfl) rfl ?_ ?_
  rotate_left
  · go_simp
    rfl
  refine hK.out _ _ ?_
  clear hK K_
  refine pure_ (i := 14) (N := (some 75)) (v := ?_) (a' := ?_) #[true, true, true, true, true, true, true, true, true, true, true, true, true, true, true, false] rfl rfl (any_of HT_.out (by kernel_rfl)) (fun _ _ _ h => h) (Or.inl ⟨by rfl, ?_⟩) ?_ ?_
  rotate_left
  · intro w'
    go_simp
    with_reducible rfl
  rotate_left
  · simp only [Act.put, List.setIfInBounds_toArray, List.set_cons_zero, List.set_cons_succ, i64_w, i32_w]
    rfl
  refine last_ (i := 15) (N := none) #[true, true, true, true, true, true, true, true, true, true, true, true, true, true, true, true] rfl rfl (one_of HT_.out (by kernel_rfl)) (by decide) (fun K_ hK => ?_)
  refine skip_ (w1 := ?_) (by rfl) rfl ?_ ?_
  rotate_left
  · go_simp
    rfl
  refine hK.out _ _ ?_
  clear hK K_
  refine done_ (done_of HT_.out (by kernel_rfl)) ?_
  have B36 := below_then (below_then mb_.out mb_.out.size jb_.out) (below_then mb_.out mb_.out.size jb_.out).size ib_.out
  have hnb : ∀ k, ok k → k ≠ b := fun k hk e => q6_.out (e ▸ hk)
  have a6_ := q0_.out.step (w1 := w6) B36.size (fun k _ hlt => B36.block k hlt)
  have q0_ := Aside0.mk (a6_.step (w1 := ((w6.setCell ⟨b, 2, none⟩ (.slice A4 n.pairs.length cc4)).setCell ⟨b, 3, none⟩ (.slice A5 n.keys.length cc5)).setCell ⟨b, 4, none⟩ (.slice A6 n.ways.length cc6)) (by simp [World.setCell]) (fun k hk _ => (Below.heap_setCell _ ⟨b, 4, none⟩ _ k (hnb k hk)).trans ((Below.heap_setCell _ ⟨b, 3, none⟩ _ k (hnb k hk)).trans (Below.heap_setCell _ ⟨b, 2, none⟩ _ k (hnb k hk)))))
  have q2_ := Aside0.mk (blk_set (blk_set (blk_set i2_.out 2 (.slice A4 n.pairs.length cc4)) 3 (.slice A5 n.keys.length cc5)) 4 (.slice A6 n.ways.length cc6))
  have hbw : w.heap.size ≤ b := by rw [HBB.out]; exact Nat.le_refl _
  have q1_ := Aside0.mk ((((q1_.out.below B36).set (p := ⟨b, 2, none⟩) (.inr hbw) (.slice A4 n.pairs.length cc4)).set (p := ⟨b, 3, none⟩) (.inr hbw) (.slice A5 n.keys.length cc5)).set (p := ⟨b, 4, none⟩) (.inr hbw) (.slice A6 n.ways.length cc6))
  have hlt3 := HBL.out
  have hq : ∀ N, w3.heap.size ≤ N → ∀ q, N ≤ q → q ≠ b := fun N h1 q h2 => by omega
  have p4_ := Aside0.mk (Kd.R_far (Kd.R_far (Kd.R_far (Kd.R_below (Kd.R_below mr_.out jb_.out) ib_.out) (p := ⟨b, 2, none⟩) (hq _ (Nat.le_refl _)) (.slice A4 n.pairs.length cc4)) (p := ⟨b, 3, none⟩) (hq _ (Nat.le_refl _)) (.slice A5 n.keys.length cc5)) (p := ⟨b, 4, none⟩) (hq _ (Nat.le_refl _)) (.slice A6 n.ways.length cc6))
  have p5_ := Aside0.mk (Kd.R_far (Kd.R_far (Kd.R_far (Kd.R_below jr_.out ib_.out) (p := ⟨b, 2, none⟩) (hq _ mb_.out.size) (.slice A4 n.pairs.length cc4)) (p := ⟨b, 3, none⟩) (hq _ mb_.out.size) (.slice A5 n.keys.length cc5)) (p := ⟨b, 4, none⟩) (hq _ mb_.out.size) (.slice A6 n.ways.length cc6))
  have p6_ := Aside0.mk (Kd.R_far (Kd.R_far (Kd.R_far ir_.out (p := ⟨b, 2, none⟩) (hq _ (Nat.le_trans mb_.out.size jb_.out.size)) (.slice A4 n.pairs.length cc4)) (p := ⟨b, 3, none⟩) (hq _ (Nat.le_trans mb_.out.size jb_.out.size)) (.slice A5 n.keys.length cc5)) (p := ⟨b, 4, none⟩) (hq _ (Nat.le_trans mb_.out.size jb_.out.size)) (.slice A6 n.ways.length cc6))
  have hLT7 : Aside0 (∀ k, ok k → k < w3.heap.size) := ⟨fun k hk => by have := q0_.out.lt k hk; exact hL7.out k hk⟩
  have l4_ := Aside0.mk mb_.out.size
  have l5_ := Aside0.mk jb_.out.size
  have l6_ := Aside0.mk ib_.out.size
  have s6_ : Aside0 ((((w6.setCell ⟨b, 2, none⟩ (.slice A4 n.pairs.length cc4)).setCell ⟨b, 3, none⟩ (.slice A5 n.keys.length cc5)).setCell ⟨b, 4, none⟩ (.slice A6 n.ways.length cc6)).heap.size = w6.heap.size) := ⟨by simp [World.setCell]⟩
  clear hq hlt3 hbw hnb B36 a6_ hHeld z2 z3 z4
  generalize ((w6.setCell ⟨b, 2, none⟩ (.slice A4 n.pairs.length cc4)).setCell ⟨b, 3, none⟩ (.slice A5 n.keys.length cc5)).setCell ⟨b, 4, none⟩ (.slice A6 n.ways.length cc6) = w8 at q0_ q1_ q2_ p4_ p5_ p6_ s6_ ⊢
  obtain ⟨_, g', e', _, _, hcc, hfz⟩ := q0_.out.cells hi7.out
  injection e' with e'
  injection e' with e' _ _
  subst e'
  have c8 := hcc 8 _ rfl
  have z8 := hfz 8
  have HC := Aside0.mk hcc
  clear hcc hfz
  go_upto_region 10 with fail
  have hN8 := q0_.out.node _ _ hi7.out
  have hW8 := q0_.out.ways _ _ hi7.out
  have q0_ := Aside0.mk (q0_.out.seg hi7.out 8 [.int .u32 ((s7.count + 1) % 4294967296)] (by simp) { s7 with count := (s7.count + 1) % 4294967296 } lv (fun _ _ => rfl) rfl hN8 hW8)
  have hgb : b ≠ g := fun e => q6_.out (e ▸ HG.out)
  have q2_ := Aside0.mk (blk_far q2_.out (p := ⟨g, ix * 10 + 8, none⟩) hgb (.int .u32 ((s7.count + 1) % 4294967296)))
  have q1_ := Aside0.mk (q1_.out.set (p := ⟨g, ix * 10 + 8, none⟩) (q1_.out.fresh g HG.out) (.int .u32 ((s7.count + 1) % 4294967296)))
  have hq : ∀ N, w3.heap.size ≤ N → ∀ q, N ≤ q → q ≠ g := fun N h1 q h2 e => by have := hL7.out g HG.out; omega
  have p4_ := Aside0.mk (Kd.R_far p4_.out (p := ⟨g, ix * 10 + 8, none⟩) (hq _ (Nat.le_refl _)) (.int .u32 ((s7.count + 1) % 4294967296)))
  have p5_ := Aside0.mk (Kd.R_far p5_.out (p := ⟨g, ix * 10 + 8, none⟩) (hq _ l4_.out) (.int .u32 ((s7.count + 1) % 4294967296)))
  have p6_ := Aside0.mk (Kd.R_far p6_.out (p := ⟨g, ix * 10 + 8, none⟩) (hq _ (Nat.le_trans l4_.out l5_.out)) (.int .u32 ((s7.count + 1) % 4294967296)))
  have s6_ : Aside0 ((w8.setCell ⟨g, ix * 10 + 8, none⟩ (.int .u32 ((s7.count + 1) % 4294967296))).heap.size = w6.heap.size) := ⟨by rw [← s6_.out]; simp [World.setCell]⟩
  have q0_ : Aside0 (ArenaAt ok pA _ fv7 lv ρ _ (w8.setCell ⟨g, ix * 10 + 8, none⟩ (.int .u32 ((s7.count + 1) % 4294967296)))) := q0_
  clear hgb hN8 hW8 c8 z8 HC
  generalize w8.setCell ⟨g, ix * 10 + 8, none⟩ (.int .u32 ((s7.count + 1) % 4294967296)) = w9 at q0_ q1_ q2_ p4_ p5_ p6_ s6_ ⊢
  generalize hcn : (s7.count + 1) % 4294967296 = cn at q0_ ⊢
  have hi9 : Aside0 ((a7.slots.set ix { s7 with count := cn })[ix]? = some { s7 with count := cn }) := ⟨List.getElem?_set_self HIL.out⟩
  obtain ⟨_, g', e', _, _, hcc, hfz⟩ := q0_.out.cells hi9.out
  injection e' with e'
  injection e' with e' _ _
  subst e'
  have c8 := hcc 8 _ rfl
  have HC := Aside0.mk hcc
  clear hcc hfz hq
  refine start_ (n := 13) (S := fun w' => w'.cell? ⟨b, 0, none⟩ = some (.bool n.inner) ∧ w'.cell? ⟨b, 1, none⟩ = some (.bool n.tagged) ∧ w'.cell? ⟨b, 2, none⟩ = some (.slice A4 n.pairs.length cc4) ∧ w'.cell? ⟨b, 3, none⟩ = some (.slice A5 n.keys.length cc5) ∧ w'.cell? ⟨b, 4, none⟩ = some (.slice A6 n.ways.length cc6) ∧ w'.cell? ⟨g, ix * 10 + 8, none⟩ = some (.int .u32 cn)) (ds := [12]) #[false, false, false, false, false, false, false, false, false, false, false, false, false] (by kernel_rfl) rfl rfl ⟨(blk_cell q2_.out 0).trans rfl, (blk_cell q2_.out 1).trans rfl, (blk_cell q2_.out 2).trans rfl, (blk_cell q2_.out 3).trans rfl, (blk_cell q2_.out 4).trans rfl, c8⟩ (fun hHeld => ?_); refine with_tabW tabAlloc10 bitsAlloc10 (fun HT_ HW_ => ?_)
  have q0_ := Aside0.mk (q0_.out.step (w1 := w9.drew) (Nat.le_refl _) (fun _ _ _ => rfl))
  have q1_ := Aside0.mk q1_.out.drew
  have q2_ := Aside0.mk (blk_drew q2_.out)
  have p4_ := Aside0.mk (Kd.R_drew p4_.out)
  have p5_ := Aside0.mk (Kd.R_drew p5_.out)
  have p6_ := Aside0.mk (Kd.R_drew p6_.out)
  have s6_ : Aside0 (w9.drew.heap.size = w6.heap.size) := s6_
  have c8 : w9.drew.cell? _ = _ := c8
  clear HC
  generalize World.drew _ = w9 at q0_ q1_ q2_ p4_ p5_ p6_ s6_ c8 hHeld ⊢
  refine pure_ (i := 0) (N := (some 83)) (v := ?_) (a' := ?_) #[true, false, false, false, false, false, false, false, false, false, false, false, false] rfl rfl (any_of HT_.out (by kernel_rfl)) (fun _ _ _ h => h) (Or.inl ⟨by rfl, ?_⟩) ?_ ?_
  rotate_left
  · intro w'
    go_simp
    with_reducible rfl
  rotate_left
  · simp only [Act.put, List.setIfInBounds_toArray, List.set_cons_zero, List.set_cons_succ, i64_w, i32_w]
    rfl
  refine take_ (i := 1) (N := (some 84)) (v := ?_) (a' := ?_) #[true, true, false, false, false, false, false, false, false, false, false, false, false] rfl rfl (take_ofW HT_.out HW_.out (by kernel_rfl)) (fun _ _ _ h => h) (Or.inl ⟨by rfl, ?_⟩) hHeld ?_ ?_
  rotate_left
  · rintro w' ⟨s0, s1, s2, s3, s4, s5⟩
    go_simp
    with_reducible rfl
  rotate_left
  · simp only [Act.put, List.setIfInBounds_toArray, List.set_cons_zero, List.set_cons_succ, i64_w, i32_w]
    rfl
  refine pure_ (i := 2) (N := (some 85)) (v := ?_) (a' := ?_) #[true, true, true, false, false, false, false, false, false, false, false, false, false] rfl rfl (any_of HT_.out (by kernel_rfl)) (fun _ _ _ h => h) (Or.inl ⟨by rfl, ?_⟩) ?_ ?_
  rotate_left
  · intro w'
    go_simp
    with_reducible rfl
  rotate_left
  · simp only [Act.put, List.setIfInBounds_toArray, List.set_cons_zero, List.set_cons_succ, i64_w, i32_w]
    rfl
  refine pure_ (i := 3) (N := (some 86)) (v := ?_) (a' := ?_) #[true, true, true, true, false, false, false, false, false, false, false, false, false] rfl rfl (any_of HT_.out (by kernel_rfl)) (fun _ _ _ h => h) (Or.inl ⟨by rfl, ?_⟩) ?_ ?_
  rotate_left
  · intro w'
    go_simp
    with_reducible rfl
  rotate_left
  · simp only [Act.put, List.setIfInBounds_toArray, List.set_cons_zero, List.set_cons_succ, i64_w, i32_w]
    rfl
  refine take_ (i := 4) (N := (some 87)) (v := ?_) (a' := ?_) #[true, true, true, true, true, false, false, false, false, false, false, false, false] rfl rfl (take_ofW HT_.out HW_.out (by kernel_rfl)) (fun _ _ _ h => h) (Or.inl ⟨by rfl, ?_⟩) hHeld ?_ ?_
  rotate_left
  · rintro w' ⟨s0, s1, s2, s3, s4, s5⟩
    go_simp
    with_reducible rfl
  rotate_left
  · simp only [Act.put, List.setIfInBounds_toArray, List.set_cons_zero, List.set_cons_succ, i64_w, i32_w]
    rfl
  refine pure_ (i := 6) (N := (some 89)) (v := ?_) (a' := ?_) #[true, true, true, true, true, false, true, false, false, false, false, false, false] rfl rfl (any_of HT_.out (by kernel_rfl)) (fun _ _ _ h => h) (Or.inl ⟨by rfl, ?_⟩) ?_ ?_
  rotate_left
  · intro w'
    go_simp
    with_reducible rfl
  rotate_left
  · simp only [Act.put, List.setIfInBounds_toArray, List.set_cons_zero, List.set_cons_succ, i64_w, i32_w]
    rfl
  refine pure_ (i := 7) (N := (some 90)) (v := ?_) (a' := ?_) #[true, true, true, true, true, false, true, true, false, false, false, false, false] rfl rfl (any_of HT_.out (by kernel_rfl)) (fun _ _ _ h => h) (Or.inl ⟨by rfl, ?_⟩) ?_ ?_
  rotate_left
  · intro w'
    go_simp
    with_reducible rfl
  rotate_left
  · simp only [Act.put, List.setIfInBounds_toArray, List.set_cons_zero, List.set_cons_succ, i64_w, i32_w]
    rfl
  refine pure_ (i := 8) (N := (some 91)) (v := ?_) (a' := ?_) #[true, true, true, true, true, false, true, true, true, false, false, false, false] rfl rfl (any_of HT_.out (by kernel_rfl)) (fun _ _ _ h => h) (Or.inl ⟨by rfl, ?_⟩) ?_ ?_
  rotate_left
  · intro w'
    go_simp
    with_reducible rfl
  rotate_left
  · simp only [Act.put, List.setIfInBounds_toArray, List.set_cons_zero, List.set_cons_succ, i64_w, i32_w]
    rfl
  refine take_ (i := 9) (N := (some 92)) (v := ?_) (a' := ?_) #[true, true, true, true, true, false, true, true, true, true, false, false, false] rfl rfl (take_ofW HT_.out HW_.out (by kernel_rfl)) (fun _ _ _ h => h) (Or.inl ⟨by rfl, ?_⟩) hHeld ?_ ?_
  rotate_left
  · rintro w' ⟨s0, s1, s2, s3, s4, s5⟩
    go_simp
    with_reducible rfl
  rotate_left
  · simp only [Act.put, List.setIfInBounds_toArray, List.set_cons_zero, List.set_cons_succ, i64_w, i32_w]
    rfl
  refine one_ (i := 5) (N := (some 88)) #[true, true, true, true, true, true, true, true, true, true, false, false, false] rfl rfl (one_of HT_.out (by kernel_rfl)) (by decide) (fun K_ hK => ?_)
  refine call_ 87 #[.slice A6 n.ways.length cc6] (by rfl) rfl ?hrun5 ?_
  (case hrun5 => first | (go_simp; done) | (go_simp; exact enters Tryz.func87 (by kernel_rfl) rfl _ _))
  refine (clone_ways A6 n.ways.length cc6 n.ways _ (Kd.R_reads' p6_.out).2.2 hny).mono ?_
  rintro e wa ⟨va, rfl, hRa, hBa⟩
  obtain ⟨Aa, cca, rfl⟩ := Kd.R_slice hRa
  have ar_ := Aside0.mk hRa
  have ab_ := Aside0.mk hBa
  have a2_ := Aside0.mk (blk_below q2_.out hBa)
  have c8 := pw_cell_below hBa c8
  clear hRa hBa
  refine ⟨_, rfl, ?_⟩
  refine hK.out _ _ ⟨(blk_cell a2_.out 0).trans rfl, (blk_cell a2_.out 1).trans rfl, (blk_cell a2_.out 2).trans rfl, (blk_cell a2_.out 3).trans rfl, (blk_cell a2_.out 4).trans rfl, c8⟩ (fun hHeld => ?_)
  clear hK K_
  refine norm_ (a' := ?_) ?_ ?_
  rotate_left
  · show Act.put _ (some 88) _ = _
    simp only [Act.put, List.setIfInBounds_toArray, List.set_cons_zero, List.set_cons_succ, i64_w, i32_w]
    rfl
  refine pure_ (i := 10) (N := (some 93)) (v := ?_) (a' := ?_) #[true, true, true, true, true, true, true, true, true, true, true, false, false] rfl rfl (any_of HT_.out (by kernel_rfl)) (fun _ _ _ h => h) (Or.inl ⟨by rfl, ?_⟩) ?_ ?_
  rotate_left
  · intro w'
    go_simp
    with_reducible rfl
  rotate_left
  · simp only [Act.put, List.setIfInBounds_toArray, List.set_cons_zero, List.set_cons_succ, i64_w, i32_w]
    rfl
  refine pure_ (i := 11) (N := (some 94)) (v := ?_) (a' := ?_) #[true, true, true, true, true, true, true, true, true, true, true, true, false] rfl rfl (any_of HT_.out (by kernel_rfl)) (fun _ _ _ h => h) (Or.inl ⟨by rfl, ?_⟩) ?_ ?_
  rotate_left
  · intro w'
    go_simp
    with_reducible rfl
  rotate_left
  · simp only [Act.put, List.setIfInBounds_toArray, List.set_cons_zero, List.set_cons_succ, i64_w, i32_w]
    rfl
  refine last_ (i := 12) (N := none) #[true, true, true, true, true, true, true, true, true, true, true, true, true] rfl rfl (one_of HT_.out (by kernel_rfl)) (by decide) (fun K_ hK => ?_)
  have q0_ := Aside0.mk (q0_.out.step (w1 := wa) ab_.out.size (fun k _ hlt => ab_.out.block k hlt))
  have q1_ := Aside0.mk (q1_.out.below ab_.out)
  have u4_ := Aside0.mk (Kd.R_lt p4_.out)
  have u5_ := Aside0.mk (Kd.R_lt p5_.out)
  have u6_ := Aside0.mk (Kd.R_lt p6_.out)
  have p4_ := Aside0.mk (Kd.R_below p4_.out ab_.out)
  have p5_ := Aside0.mk (Kd.R_below p5_.out ab_.out)
  have p6_ := Aside0.mk (Kd.R_below p6_.out ab_.out)
  obtain ⟨cur, hcur, hcs⟩ := q0_.out.block
  have hfit : ix * 10 + 10 ≤ cur.size := by
    have h1 := HIL.out
    have h2 : (a7.slots.set ix { s7 with count := cn }).length = a7.slots.length := List.length_set
    rw [show ({ a7 with slots := a7.slots.set ix { s7 with count := cn } } : Ar).slots.length = a7.slots.length from h2] at hcs
    omega
  refine skip_ (w1 := wa.setCells g (ix * 10) [.bool n.inner, .bool n.tagged, .slice A4 n.pairs.length cc4, .slice A5 n.keys.length cc5, .slice A6 n.ways.length cc6, .slice Aa n.ways.length cca, .int .i64 0, .bool false, .int .u32 cn, .bool true]) (by rfl) rfl ?hst ?_
  (case hst => exact exec_store _ [.bool n.inner, .bool n.tagged, .slice A4 n.pairs.length cc4, .slice A5 n.keys.length cc5, .slice A6 n.ways.length cc6, .slice Aa n.ways.length cca, .int .i64 0, .bool false, .int .u32 cn, .bool true] rfl (by rfl) (by rfl) hcur rfl (by kernel_rfl) hfit (by intro u hu; simp only [List.mem_cons, List.not_mem_nil, or_false] at hu; rcases hu with rfl | rfl | rfl | rfl | rfl | rfl | rfl | rfl | rfl | rfl <;> rfl))
  refine hK.out _ _ ?_
  clear hK K_ hHeld c8 hcur hcs hfit
  refine done_ (done_of HT_.out (by kernel_rfl)) ?_
  clear HT_ HW_
  have t4_ := Kd.R_tight (by rfl) p4_.out
  have t5_ := Kd.R_tight (by rfl) p5_.out
  have t6_ := Kd.R_tight (by rfl) p6_.out
  have ta_ := Kd.R_tight (by rfl) ar_.out
  have b4_ : ∀ k, some k = (Value.slice A4 n.pairs.length cc4).ownBlock → w3.heap.size ≤ k ∧ k < w9.heap.size := fun k hk => ⟨Kd.R_base p4_.out k hk.symm, u4_.out k hk.symm⟩
  have b5_ : ∀ k, some k = (Value.slice A5 n.keys.length cc5).ownBlock → w3.heap.size ≤ k ∧ k < w9.heap.size := fun k hk => ⟨Nat.le_trans l4_.out (Kd.R_base p5_.out k hk.symm), u5_.out k hk.symm⟩
  have b6_ : ∀ k, some k = (Value.slice A6 n.ways.length cc6).ownBlock → w3.heap.size ≤ k ∧ k < w9.heap.size := fun k hk => ⟨Nat.le_trans l4_.out (Nat.le_trans l5_.out (Kd.R_base p6_.out k hk.symm)), u6_.out k hk.symm⟩
  have ba_ : ∀ k, some k = (Value.slice Aa n.ways.length cca).ownBlock → w9.heap.size ≤ k ∧ k < wa.heap.size := fun k hk => ⟨Kd.R_base ar_.out k hk.symm, Kd.R_lt ar_.out k hk.symm⟩
  have r4_ := (Kd.R_reads' p4_.out).2.1
  have r5_ := (Kd.R_reads' p5_.out).2.1
  have r6_ := (Kd.R_reads' p6_.out).2.1
  have hsz : w3.heap.size ≤ w9.heap.size := by have h1 := l4_.out; have h2 := l5_.out; have h3 := l6_.out; have h4 := s6_.out; omega
  have hL := hL7.out
  generalize hpv : Value.slice A4 n.pairs.length cc4 = pv at t4_ b4_
  generalize hkv : Value.slice A5 n.keys.length cc5 = kv at t5_ b5_
  generalize hyv : Value.slice A6 n.ways.length cc6 = yv at t6_ b6_
  generalize hwv : Value.slice Aa n.ways.length cca = wv at ta_ ba_
  have h11 := q0_.out.mono (ok1 := fun k => ok k ∨ some k = pv.ownBlock ∨ some k = kv.ownBlock ∨ some k = yv.ownBlock ∨ some k = wv.ownBlock) (ρ1 := fun k => if some k = wv.ownBlock then 4 + ix else if (some k = pv.ownBlock ∨ some k = kv.ownBlock ∨ some k = yv.ownBlock) then 3 else ρ k) (fun k hk => .inl hk) (fun k hk => by
    have hab := ab_.out.size
    rcases hk with hk | hk | hk | hk | hk
    · exact q0_.out.lt k hk
    · have := b4_ k hk; omega
    · have := b5_ k hk; omega
    · have := b6_ k hk; omega
    · have := ba_ k hk; omega) (fun k hk => by
    have h0 := hL k hk
    show (if some k = wv.ownBlock then 4 + ix else if (some k = pv.ownBlock ∨ some k = kv.ownBlock ∨ some k = yv.ownBlock) then 3 else ρ k) = ρ k
    rw [if_neg (fun e => by have := ba_ k e; omega), if_neg (fun e => e.elim (fun e => by have := b4_ k e; omega) (fun e => e.elim (fun e => by have := b5_ k e; omega) (fun e => by have := b6_ k e; omega)))])
  have h3_ : ∀ k, (some k = pv.ownBlock ∨ some k = kv.ownBlock ∨ some k = yv.ownBlock) → (ok k ∨ some k = pv.ownBlock ∨ some k = kv.ownBlock ∨ some k = yv.ownBlock ∨ some k = wv.ownBlock) ∧ (if some k = wv.ownBlock then 4 + ix else if (some k = pv.ownBlock ∨ some k = kv.ownBlock ∨ some k = yv.ownBlock) then 3 else ρ k) = 3 := fun k hk => by
    refine ⟨?_, ?_⟩
    · rcases hk with hk | hk | hk
      · exact .inr (.inl hk)
      · exact .inr (.inr (.inl hk))
      · exact .inr (.inr (.inr (.inl hk)))
    · rw [if_neg (fun e => by
        have h5 := ba_ k e
        rcases hk with hk | hk | hk
        · have := b4_ k hk; omega
        · have := b5_ k hk; omega
        · have := b6_ k hk; omega), if_pos hk]
  have h4_ : ∀ k, some k = wv.ownBlock → (ok k ∨ some k = pv.ownBlock ∨ some k = kv.ownBlock ∨ some k = yv.ownBlock ∨ some k = wv.ownBlock) ∧ (if some k = wv.ownBlock then 4 + ix else if (some k = pv.ownBlock ∨ some k = kv.ownBlock ∨ some k = yv.ownBlock) then 3 else ρ k) = 4 + ix := fun k hk => ⟨.inr (.inr (.inr (.inr hk))), if_pos hk⟩
  have h12 := h11.seg hi9.out 0 [.bool n.inner, .bool n.tagged, .slice A4 n.pairs.length cc4, .slice A5 n.keys.length cc5, .slice A6 n.ways.length cc6, .slice Aa n.ways.length cca, .int .i64 0, .bool false, .int .u32 cn, .bool true] (by simp) (slotOf n cn) (fun j => if j = ix then ⟨pv, kv, yv, wv⟩ else lv j) (fun j hj => if_neg hj) (by show slotCells (slotOf n cn) (if ix = ix then _ else _) = _; rw [if_pos rfl, ← hpv, ← hkv, ← hyv, ← hwv]; rfl)
    (by
      show NodeAt wa _ n (if ix = ix then _ else _)
      rw [if_pos rfl]
      subst hpv hkv hyv
      exact ⟨⟨A4, cc4, rfl, r4_, Kd.F_mono (Kd.R_F t4_) (fun k hk => h3_ k (.inl hk))⟩, ⟨A5, cc5, rfl, r5_, Kd.F_mono (Kd.R_F t5_) (fun k hk => h3_ k (.inr (.inl hk)))⟩, ⟨A6, cc6, rfl, r6_, Kd.F_mono (Kd.R_F t6_) (fun k hk => h3_ k (.inr (.inr hk)))⟩⟩)
    (by
      show (Kd.int .i64).R _ wa 0 _ (if ix = ix then _ else _ : Lv).w n.ways
      rw [if_pos rfl]
      exact Kd.R_lower (Kd.R_mono ta_ h4_) (Nat.zero_le _))
  obtain ⟨lvz, ρz, h12⟩ : ∃ lvz ρz, ArenaAt (fun k => ok k ∨ some k = pv.ownBlock ∨ some k = kv.ownBlock ∨ some k = yv.ownBlock ∨ some k = wv.ownBlock) pA (.slice (some ⟨g, 0, none⟩) a.slots.length cap) fv7 lvz ρz { a7 with slots := a7.slots.set ix (slotOf n cn) } (wa.setCells g (ix * 10) [.bool n.inner, .bool n.tagged, .slice A4 n.pairs.length cc4, .slice A5 n.keys.length cc5, .slice A6 n.ways.length cc6, .slice Aa n.ways.length cca, .int .i64 0, .bool false, .int .u32 cn, .bool true]) := by
    have h13 := h12
    rw [show ({ a7 with slots := a7.slots.set ix { s7 with count := cn } } : Ar).slots = a7.slots.set ix { s7 with count := cn } from rfl, List.set_set] at h13
    exact ⟨_, _, h13⟩
  have m12 : Moves ok (fun k => ok k ∨ some k = pv.ownBlock ∨ some k = kv.ownBlock ∨ some k = yv.ownBlock ∨ some k = wv.ownBlock) w (wa.setCells g (ix * 10) [.bool n.inner, .bool n.tagged, .slice A4 n.pairs.length cc4, .slice A5 n.keys.length cc5, .slice A6 n.ways.length cc6, .slice Aa n.ways.length cca, .int .i64 0, .bool false, .int .u32 cn, .bool true]) := (moves_cells q1_.out (q1_.out.fresh g HG.out) _ _).owns (fun k hk => by
    have hw3 : w.heap.size ≤ w3.heap.size := by have := HBB.out; have := HBL.out; omega
    rcases hk with hk | hk | hk | hk | hk
    · exact q1_.out.fresh k hk
    · have := b4_ k hk; exact .inr (by omega)
    · have := b5_ k hk; exact .inr (by omega)
    · have := b6_ k hk; exact .inr (by omega)
    · have := ba_ k hk; exact .inr (by omega))
  generalize hok : (fun k => ok k ∨ some k = pv.ownBlock ∨ some k = kv.ownBlock ∨ some k = yv.ownBlock ∨ some k = wv.ownBlock) = ok12 at h12 m12
  have q0_ := Aside0.mk h12
  have q1_ := Aside0.mk m12
  clear h12 m12 h11 h3_ h4_ t4_ t5_ t6_ ta_ b4_ b5_ b6_ ba_ hL hsz hok
  subst hpv hkv hyv hwv
  generalize wa.setCells g (ix * 10) [.bool n.inner, .bool n.tagged, .slice A4 n.pairs.length cc4, .slice A5 n.keys.length cc5, .slice A6 n.ways.length cc6, .slice Aa n.ways.length cca, .int .i64 0, .bool false, .int .u32 cn, .bool true] = wb at q0_ q1_ ⊢
  have c3 := (blk_cell q0_.out.box 3).trans (rfl : _ = some (Value.int .i64 a7.used))
  have z3 := blk_frozen q0_.out.box 3
  go_upto_region 12 with fail
  have q0_ := Aside0.mk (q0_.out.box_set 3 (.int .i64 (wrap64 (a7.used + 1))) (a7.put ix n cn) rfl rfl rfl)
  have q1_ : Aside0 (Moves ok ok12 w (wb.setCell ⟨pA, 3, none⟩ (.int .i64 (wrap64 (a7.used + 1))))) := ⟨q1_.out.set (p := ⟨pA, 3, none⟩) (q1_.out.fresh pA q0_.out.own) _⟩
  clear c3 z3
  generalize wb.setCell ⟨pA, 3, none⟩ (.int .i64 (wrap64 (a7.used + 1))) = wc at q0_ q1_ ⊢
  have hi12 : (a7.put ix n cn).slots[ix]? = some (slotOf n cn) := List.getElem?_set_self HIL.out
  obtain ⟨_, g', e', _, _, hcc, _⟩ := q0_.out.cells hi12
  injection e' with e'
  injection e' with e' _ _
  subst e'
  have c8 := hcc 8 _ (rfl : _ = some (Value.int .u32 cn))
  clear hcc hi12
  go_wp2_with (go_at_call 88; refine (ref_of _ cn _).mono ?_; rintro e w1 ⟨rfl, rfl⟩)
  go_ret2
  subst hcn
  exact ⟨rfl, ok12, ⟨_, _, _, _, q0_.out⟩, q1_.out⟩

/-- A node that is small. -/
structure Nd.Small (n : Nd) : Prop where
  pairs : n.pairs.length < 1000000
  keys : n.keys.length < 1000000
  ways : n.ways.length < 1000000
theorem alloc_calls {ok : Nat → Prop} {pA : Nat} {a a1 : Ar} {r : Int} {b : Bool} (n : Nd) (v : Value) (w : World) (h : IsArena ok pA a w) (hl : a.slots.length < 999999) (hn : NdF (fun k => ¬ ok k) n v w) (hs : n.Small) (hr : a.alloc n = some ((r, b), a1)) :
    Calls Tryz.prog 58 #[.pointer (some ⟨pA, 0, none⟩), v] w (AllocPost ok pA r b a1 w) := by
  unfold Ar.alloc at hr
  by_cases hx : a.most ≤ a.used
  · rw [if_pos hx] at hr
    injection hr with hr
    injection hr with h1 h2
    injection h1 with h1 h3
    subst h1 h2 h3
    exact alloc_full n v w h hn hx
  · rw [if_neg hx] at hr
    unfold Ar.take at hr
    cases hf : a.free with
    | nil =>
      rw [hf] at hr
      simp only at hr
      rw [show (a.slots ++ [sl0])[a.slots.length]? = some sl0 by simp] at hr
      injection hr with hr
      injection hr with h1 h2
      injection h1 with h1 h3
      subst h1 h2 h3
      exact alloc_more n v w h hn hx hf hl hs.pairs hs.keys hs.ways _ (by rw [hf]) sl0 rfl
    | cons f fs =>
      rw [hf] at hr
      simp only at hr
      by_cases hfi : 0 ≤ f ∧ f.toNat < a.slots.length
      · rw [if_pos hfi] at hr
        simp only at hr
        have hfx : f = (f.toNat : Int) := by omega
        cases hs7 : a.slots[f.toNat]? with
        | none => rw [hs7] at hr; cases hr
        | some s7 =>
          rw [hs7] at hr
          injection hr with hr
          injection hr with h1 h2
          injection h1 with h1 h3
          subst h1 h2 h3
          exact alloc_again n v w h hn hx f.toNat fs (by rw [hf, ← hfx]) hl hs.pairs hs.keys hs.ways _ rfl s7 hs7
      · rw [if_neg hfi] at hr
        cases hr
end Go.Proofs.YthlmgbdknjilpaaGreat.Tower
namespace Go.Proofs.YthlmgbdknjilpaaGreat.Tower
open Go Go.RowKit Go.Proofs.YthlmgbdknjilpaaGreatW.PrintWords Go.Proofs.YthlmgbdknjilpaaGreatW.PrintLast Go.Proofs.YthlmgbdknjilpaaGreatW.PrintMore Go.Proofs.YthlmgbdknjilpaaGreat.Own
set_option linter.unusedVariables false
set_option linter.unusedSimpArgs false

/-- A record; its entry; the table. -/
structure Rc where
  nodes : List Int
  infos : List Int
  keep : Int
  way : Int
  old : Int
  new : Int
structure En where
  rc : Rc
  state : Int
  all : Bool
structure Tb where
  l : List En
  most : Int
/-- The epochs: the nodes that each thread let go, each with its epoch. -/
structure Ep where
  now : Int
  said : List Int
  limbo : List (List (Int × Int))

/-- The table in memory. ρ: 0 the box, 1 the row of pointers, 2 entries' boxes, 3 their rows. eb: where the entries lie; nv, iv: their rows. -/
structure TableAt (ok : Nat → Prop) (p : Nat) (v : Value) (eb : Nat → Nat) (nv iv : Nat → Value) (ρ : Nat → Nat) (t : Tb) (w : World) : Prop where
  own : ok p
  role : ρ p = 0
  lt : ∀ k, ok k → k < w.heap.size
  box : w.heap[p]? = some (.cells #[v, .int .i64 t.most] 156 (0, 0))
  row : (Kd.raw 1).R 220 w 0 (fun k => ok k ∧ ρ k = 1) v ((List.range t.l.length).map fun i => [.pointer (some ⟨eb i, 0, none⟩)])
  ent : ∀ (i : Nat) (e : En), t.l[i]? = some e → ok (eb i) ∧ ρ (eb i) = 2 ∧ (∀ j, j < i → eb j ≠ eb i) ∧ w.heap[eb i]? = some (.cells #[nv i, iv i, .int .i64 e.rc.keep, .int .i64 e.rc.way, .int .i64 e.rc.old, .int .i64 e.rc.new, .int .u8 e.state, .bool e.all] 222 (0, 0)) ∧
    SlF (Kd.int .i64) w (fun k => ok k ∧ ρ k = 3) (nv i) e.rc.nodes ∧ SlF (Kd.int .i64) w (fun k => ok k ∧ ρ k = 3) (iv i) e.rc.infos
def IsTable (ok : Nat → Prop) (p : Nat) (t : Tb) (w : World) : Prop := ∃ v eb nv iv ρ, TableAt ok p v eb nv iv ρ t w
theorem IsTable.step {ok : Nat → Prop} {p : Nat} {t : Tb} {w w1 : World} (h : IsTable ok p t w) (hs : w.heap.size ≤ w1.heap.size) (hm : ∀ k, ok k → k < w.heap.size → w1.heap[k]? = w.heap[k]?) : IsTable ok p t w1 := by
  obtain ⟨v, eb, nv, iv, ρ, h⟩ := h
  exact ⟨v, eb, nv, iv, ρ, {
    own := h.own, role := h.role, lt := fun k hk => Nat.lt_of_lt_of_le (h.lt k hk) hs
    box := (hm p h.own (h.lt p h.own)).trans h.box
    row := Kd.R_step h.row (fun k hk hlt => hm k hk.1 hlt)
    ent := fun i e hi => by
      obtain ⟨h1, h2, h3, h4, h5, h6⟩ := h.ent i e hi
      exact ⟨h1, h2, h3, (hm _ h1 (h.lt _ h1)).trans h4, h5.step (fun k hk hlt => hm k hk.1 hlt), h6.step (fun k hk hlt => hm k hk.1 hlt)⟩ }⟩
theorem IsTable.lt {ok : Nat → Prop} {p : Nat} {t : Tb} {w : World} (h : IsTable ok p t w) : ∀ k, ok k → k < w.heap.size := by
  obtain ⟨v, eb, nv, iv, ρ, h⟩ := h
  exact h.lt

/-- The epochs in memory. ρ: 0 the box, 1 what was said, 2 the row of rows, 3 + i: the row of thread i. -/
structure EpochAt (ok : Nat → Prop) (p : Nat) (sv lv : Value) (gv : Nat → Value) (ρ : Nat → Nat) (t : Ep) (w : World) : Prop where
  own : ok p
  role : ρ p = 0
  lt : ∀ k, ok k → k < w.heap.size
  len : t.limbo.length = t.said.length
  box : w.heap[p]? = some (.cells #[.int .i64 t.now, sv, lv] 93 (0, 0))
  said : (Kd.int .i64).R 2 w 0 (fun k => ok k ∧ ρ k = 1) sv t.said
  row : (Kd.raw 1).R 109 w 0 (fun k => ok k ∧ ρ k = 2) lv ((List.range t.limbo.length).map fun i => [gv i])
  limbo : ∀ (i : Nat) (l : List (Int × Int)), t.limbo[i]? = some l → kPair.Q 192 w 0 (fun k => ok k ∧ ρ k = 3 + i) (gv i) l
def IsEpochs (ok : Nat → Prop) (p : Nat) (t : Ep) (w : World) : Prop := ∃ sv lv gv ρ, EpochAt ok p sv lv gv ρ t w
theorem IsEpochs.step {ok : Nat → Prop} {p : Nat} {t : Ep} {w w1 : World} (h : IsEpochs ok p t w) (hs : w.heap.size ≤ w1.heap.size) (hm : ∀ k, ok k → k < w.heap.size → w1.heap[k]? = w.heap[k]?) : IsEpochs ok p t w1 := by
  obtain ⟨sv, lv, gv, ρ, h⟩ := h
  exact ⟨sv, lv, gv, ρ, {
    own := h.own, role := h.role, lt := fun k hk => Nat.lt_of_lt_of_le (h.lt k hk) hs, len := h.len
    box := (hm p h.own (h.lt p h.own)).trans h.box
    said := Kd.R_step h.said (fun k hk hlt => hm k hk.1 hlt)
    row := Kd.R_step h.row (fun k hk hlt => hm k hk.1 hlt)
    limbo := fun i l hi => Kd.Q_step (h.limbo i l hi) (fun k hk hlt => hm k hk.1 hlt) }⟩
theorem IsEpochs.lt {ok : Nat → Prop} {p : Nat} {t : Ep} {w : World} (h : IsEpochs ok p t w) : ∀ k, ok k → k < w.heap.size := by
  obtain ⟨sv, lv, gv, ρ, h⟩ := h
  exact h.lt
theorem IsArena.lt {ok : Nat → Prop} {p : Nat} {t : Ar} {w : World} (h : IsArena ok p t w) : ∀ k, ok k → k < w.heap.size := by
  obtain ⟨sv, lv, gv, ρ, h⟩ := h
  exact h.lt

def ar0 (most : Int) : Ar := ⟨[], [], most, 0, 0⟩
structure Made (okM : (Nat → Prop) → Nat → World → Prop) (w : World) (e : Ending) (w1 : World) : Prop where
  out : ∃ ok p, e = .returned (.pointer (some ⟨p, 0, none⟩)) ∧ okM ok p w1 ∧ (∀ k, ok k → w.heap.size ≤ k) ∧ Below w.heap.size w w1

set_option maxHeartbeats 2000000 in
set_option maxRecDepth 100000 in
theorem arena_new (n : Int) (w : World) (h0 : 0 ≤ n) (h1 : n ≤ 65536) :
    Calls Tryz.prog 55 #[.int .i64 n] w (Made (fun ok p w1 => IsArena ok p (ar0 n) w1) w) := by
  go_enter Tryz.func55, Tryz.ntmps55
  go_wp2_with fail
  go_ret
  refine ⟨fun k => k = w.heap.size, w.heap.size, rfl, ⟨.slice none 0 0, .slice none 0 0, fun _ => lv0, fun _ => 0, ?_⟩, fun k hk => by omega, below_alloc (Below.refl _ _) _⟩
  exact { own := rfl, role := rfl, lt := fun k hk => by simp [hk], box := blk_new w _, rows := Kd.R_nil _ _ _ _ _, free := Kd.Q_nil _ _ _ _ _, node := fun i s hi => by simp [ar0] at hi, ways := fun i s hi => by simp [ar0] at hi }
set_option maxHeartbeats 2000000 in
set_option maxRecDepth 100000 in
theorem record_new (n : Int) (w : World) (h0 : 0 ≤ n) (h1 : n ≤ 65536) :
    Calls Tryz.prog 56 #[.int .i64 n] w (Made (fun ok p w1 => IsTable ok p ⟨[], n⟩ w1) w) := by
  go_enter Tryz.func56, Tryz.ntmps56
  go_wp2_with fail
  go_ret
  refine ⟨fun k => k = w.heap.size, w.heap.size, rfl, ⟨.slice none 0 0, fun _ => 0, fun _ => .slice none 0 0, fun _ => .slice none 0 0, fun _ => 0, ?_⟩, fun k hk => by omega, below_alloc (Below.refl _ _) _⟩
  exact { own := rfl, role := rfl, lt := fun k hk => by simp [hk], box := blk_new w _, row := Kd.R_nil _ _ _ _ _, ent := fun i s hi => by simp at hi }
theorem info_gones : (Tryz.prog.info? 109).map (fun i => (i.zero, i.size, i.bytes)) = some (some (.slice none 0 0), 1, 24) := by kernel_rfl
structure EpLoop (w : World) (S b : Nat) (LV : Value) (n k : Nat) (wr : World) : Prop where
  out : ∃ sv, wr.heap[b]? = some (.cells #[.int .i64 0, sv, LV] 93 (0, 0)) ∧ (Kd.int .i64).R 2 wr 0 (fun q => S ≤ q) sv (List.replicate k (-1)) ∧
    (Kd.raw 1).R 109 wr 0 (fun q => some q = LV.ownBlock) LV (List.replicate n [.slice none 0 0]) ∧ Below w.heap.size w wr ∧ S ≤ wr.heap.size
set_option maxHeartbeats 2000000 in
set_option maxRecDepth 100000 in
theorem epoch_new (n : Nat) (w : World) (h1 : n ≤ 64) :
    Calls Tryz.prog 57 #[.int .i64 n] w (Made (fun ok p w1 => IsEpochs ok p ⟨0, List.replicate n (-1), List.replicate n []⟩ w1) w) := by
  have b1 : (0 : Int) ≤ (n : Int) := by omega
  have b2 : (n : Int) ≤ 64 := by omega
  go_enter Tryz.func57, Tryz.ntmps57
  go_upto_region 2 with fail
  go_upto_region 3 with ((with_reducible refine gate_ (.makeSlice 91 (.tmp 7) (.tmp 7)) rfl ?_); refine Kd.R_make (Kd.raw 1) (w0 := w) w.heap.size 109 rfl rfl 91 (.tmp 7) (.tmp 7) rfl (n : Int) rfl rfl Tryz.underlying91 (.slice none 0 0) 24 info_gones rfl (by decide) (by decide) [.slice none 0 0] (ok := fun k => w.heap.size ≤ k) (okp := fun _ => False) ⟨rfl, rfl, by simp [Value.cells, Value.oneCell']⟩ (fun _ hk => hk.elim) (Nat.le_refl _) b1 (by omega) (Below.refl _ _) (Nat.le_refl _) ?_; intro v5 w5 ho hb5 hg hat; obtain ⟨A5, c5, rfl⟩ := Kd.R_slice ho; have m0_ := Aside0.mk ho; have m1_ := Aside0.mk hb5; clear ho hb5 hg hat)
  have hrep : (List.replicate ((n : Int)).toNat ([.slice none 0 0] : List Value)).length = n := by simp
  have hn1 : ((n : Int)).toNat = n := by simp
  rw [hn1] at m0_
  rw [List.length_replicate] at m0_
  have hlb : ∀ q, some q = (Value.slice A5 n c5).ownBlock → w.heap.size ≤ q ∧ q < w5.heap.size := fun q hq => ⟨Kd.R_base m0_.out q hq.symm, Kd.R_lt m0_.out q hq.symm⟩
  have HLB := Aside0.mk hlb
  have HR0 : Aside0 (EpLoop w (w5.heap.size + 1) w5.heap.size (.slice A5 n c5) n 0 (w5.alloc (.cells #[.int .i64 0, .slice none 0 0, .slice A5 n c5] 93))) := ⟨⟨.slice none 0 0, blk_new w5 _, Kd.R_nil _ _ _ _ _, Kd.R_lower (Kd.R_alloc (Kd.R_tight rfl m0_.out) _) (Nat.zero_le _), below_then m1_.out m1_.out.size (below_alloc (Below.refl _ _) _), by simp⟩⟩
  have HS0 : Aside0 (w.heap.size ≤ w5.heap.size) := ⟨m1_.out.size⟩
  clear m0_ m1_ hrep hn1 hlb
  generalize hbb : w5.heap.size = b at HLB HR0 HS0 ⊢
  generalize w5.alloc (.cells #[.int .i64 0, .slice none 0 0, .slice A5 n c5] 93) = w6 at HR0 ⊢
  clear hbb
  go_wp2_with fail
  go_loopw [12] (fun i wr => ∃ k : Nat, k ≤ n ∧ i = .int .i64 k ∧ Aside0 (EpLoop w (b + 1) b (.slice A5 n c5) n k wr)) (fun i _ => n - (intOf i).toNat)
  case atStart => exact ⟨0, Nat.zero_le _, rfl, HR0⟩
  case round =>
    obtain ⟨k, hk, rfl, HE⟩ := hrel
    clear HR0
    by_cases hlt : k < n
    · obtain ⟨sv, hb, hs, hl, hB, hS⟩ := HE.out
      obtain ⟨As, cs, rfl⟩ := Kd.R_slice hs
      rw [List.length_replicate] at hb hs
      have c1 : wr.cell? ⟨b, 1, none⟩ = some (.slice As k cs) := (blk_cell hb 1).trans rfl
      have n0_ := Aside0.mk hb
      have n1_ := Aside0.mk hs
      have n2_ := Aside0.mk hl
      have n3_ := Aside0.mk hB
      have n4_ := Aside0.mk hS
      have hne : some b ≠ (Value.slice As k cs).ownBlock := fun e => by have := hs.1 b e.symm; omega
      have HNE := Aside0.mk hne
      have d1 : decide ((k : Int) < (n : Int)) = true := decide_eq_true (by omega)
      have d2 : decide (k < n) = true := decide_eq_true hlt
      clear hb hs hl hB hS HE hne
      go_upto_region 6 with ((with_reducible refine gate_builtin (b := .append) (xs := #[.tmp 18, .tmp 19]) rfl ?_); at_builtin; refine Kd.R_append (Kd.int .i64) (w0 := wr) 0 rfl (.tmp 18) (.tmp 19) 28 2 (.int .i64 0) 8 rfl Tryz.underlying28 info64 rfl (by decide) (by omega) (.slice As k cs) (List.replicate k (-1)) (-1) [.int .i64 (-1)] (fun q => b + 1 ≤ q) (fun _ => False) rfl (by first | (go_simp; done) | (go_simp; rfl)) rfl (fun _ hk => hk.elim) (fun q hq => Nat.le_trans n4_.out hq) n1_.out (Below.refl _ _) (Nat.zero_le _) (by simp; omega) ?_; intro v7 w7 ho hb7 hg hat; obtain ⟨A7, c7, rfl⟩ := Kd.R_slice ho; have m0_ := Aside0.mk ho; have m1_ := Aside0.mk hg; have m2_ := Aside0.mk (blk_grown n0_.out hg HNE.out); have f1 := blk_frozen m2_.out 1; have c1 := (blk_cell m2_.out 1).trans (rfl : _ = some (Value.slice As k cs)); clear ho hb7 hg hat)
      have hl7 : (List.replicate k (-1 : Int) ++ [-1]) = List.replicate (k + 1) (-1) := by rw [List.replicate_succ']
      have HR1 : Aside0 (EpLoop w (b + 1) b (.slice A5 n c5) n (k + 1) (w7.setCell ⟨b, 1, none⟩ (.slice A7 (k + 1) c7))) := by
        have h0 := m0_.out
        rw [hl7, List.length_replicate] at h0
        have hl5 : ∀ q, some q = (Value.slice A5 n c5).ownBlock → some q ≠ (Value.slice As k cs).ownBlock := fun q hq e => by
          have h1 := (HLB.out q hq).2
          have h2 := n1_.out.1 q e.symm
          omega
        refine ⟨⟨.slice A7 (k + 1) c7, blk_set m2_.out 1 _, Kd.R_far h0 (fun q hq e => by have : q = b := e; omega) _, Kd.R_far (Kd.R_grown n2_.out m1_.out hl5) (fun q hq e => by have h1 := (HLB.out q hq).2; have : q = b := e; omega) _, ?_, ?_⟩⟩
        · have h1 := n3_.out
          have hg := m1_.out
          have h2 : Below w.heap.size w w7 := pw_below_grown h1 _ h1.size hg (fun q e => by have := n1_.out.1 q e; have := HS0.out; omega)
          exact h2.setCell (show w.heap.size ≤ b from HS0.out) _
        · have h1 := n4_.out
          have h2 := m1_.out.size
          simp [World.setCell]
          omega
      clear n0_ n1_ n2_ n3_ n4_ m0_ m1_ m2_ HNE c1 f1 hl7
      generalize w7.setCell ⟨b, 1, none⟩ (.slice A7 (k + 1) c7) = w8 at HR1 ⊢
      go_wp2_with fail
      go_roundw
      case rel => exact ⟨k + 1, by omega, by go_num, HR1⟩
      case measure => simp [intOf]; omega
    · have hkn : k = n := by omega
      subst hkn
      have d1 : decide ((k : Int) < (k : Int)) = false := decide_eq_false (by omega)
      have d2 : decide (k < k) = false := decide_eq_false (by omega)
      go_wp2_with fail
      go_ret
      obtain ⟨sv, hb, hs, hl, hB, hS⟩ := HE.out
      have hbw := HS0.out
      have hlb := HLB.out
      generalize hLV : Value.slice A5 k c5 = LV at hb hl hlb
      refine ⟨fun q => q = b ∨ (b + 1 ≤ q ∧ q < wr.heap.size) ∨ some q = LV.ownBlock, b, rfl, ⟨sv, LV, fun _ => .slice none 0 0, fun q => if q = b then 0 else if some q = LV.ownBlock then 2 else 1, ?_⟩, fun q hq => ?_, hB⟩
      · have hne : ∀ q, some q = LV.ownBlock → q ≠ b := fun q hq e => by have := (hlb q hq).2; omega
        exact {
          own := .inl rfl
          role := if_pos rfl
          lt := fun q hq => by
            rcases hq with rfl | hq | hq
            · exact blk_lt hb
            · exact hq.2
            · have := (hlb q hq).2; omega
          len := by simp
          box := hb
          said := Kd.R_mono (Kd.R_bound hs) (fun q hq => ⟨.inr (.inl ⟨hq.1, hq.2.2.1⟩), by
            rw [if_neg (by have := hq.1; omega), if_neg (fun e => by have h1 := (hlb q e).2; have h2 := hq.1; omega)]⟩)
          row := by
            have hr : ((List.range (List.replicate k ([] : List (Int × Int))).length).map fun _ => [Value.slice none 0 0]) = List.replicate k [Value.slice none 0 0] := by simp [List.map_const']
            show (Kd.raw 1).R _ wr 0 _ LV ((List.range (List.replicate k ([] : List (Int × Int))).length).map fun _ => [Value.slice none 0 0])
            rw [hr]
            exact Kd.R_mono hl (fun q hq => ⟨.inr (.inr hq), by rw [if_neg (hne q hq), if_pos hq]⟩)
          limbo := fun i l hi => by
            have : l = [] := by
              have := List.mem_of_getElem? hi
              exact List.eq_of_mem_replicate this
            subst this
            exact Kd.Q_nil _ _ _ _ _ }
      · rcases hq with rfl | hq | hq
        · exact hbw
        · omega
        · exact (hlb q hq).1
end Go.Proofs.YthlmgbdknjilpaaGreat.Tower
namespace Go.Proofs.YthlmgbdknjilpaaGreat.Tower
open Go Go.RowKit Go.Proofs.YthlmgbdknjilpaaGreatW.PrintWords Go.Proofs.YthlmgbdknjilpaaGreatW.PrintLast Go.Proofs.YthlmgbdknjilpaaGreatW.PrintMore Go.Proofs.YthlmgbdknjilpaaGreat.Own
set_option linter.unusedVariables false
set_option linter.unusedSimpArgs false

/-- What all share. -/
structure Ws where
  ar : Ar
  tb : Tb
  ep : Ep
  a : Int
  b : Int
  entry : Int
/-- The world in memory. -/
structure WorldAt (ok okA okR okE : Nat → Prop) (p pA pR pE : Nat) (x : Ws) (w : World) : Prop where
  ok : ∀ k, ok k ↔ k = p ∨ okA k ∨ okR k ∨ okE k
  nA : ¬ okA p
  nR : ¬ okR p
  nE : ¬ okE p
  AR : ∀ k, okA k → ¬ okR k
  AE : ∀ k, okA k → ¬ okE k
  RE : ∀ k, okR k → ¬ okE k
  box : w.heap[p]? = some (.cells #[.pointer (some ⟨pA, 0, none⟩), .pointer (some ⟨pR, 0, none⟩), .pointer (some ⟨pE, 0, none⟩), .int .i64 x.a, .int .i64 x.b, .int .i64 x.entry] 57 (0, 0))
  ar : IsArena okA pA x.ar w
  tb : IsTable okR pR x.tb w
  ep : IsEpochs okE pE x.ep w
def IsWorld (p : Nat) (x : Ws) (ok : Nat → Prop) (w : World) : Prop := ∃ okA okR okE pA pR pE, WorldAt ok okA okR okE p pA pR pE x w
section
variable {ok okA okR okE : Nat → Prop} {p pA pR pE : Nat} {x : Ws} {w w1 : World}
theorem WorldAt.lt (h : WorldAt ok okA okR okE p pA pR pE x w) : ∀ k, ok k → k < w.heap.size := fun k hk => by
  rcases (h.ok k).1 hk with rfl | hk | hk | hk
  · exact blk_lt h.box
  · exact h.ar.lt k hk
  · exact h.tb.lt k hk
  · exact h.ep.lt k hk
theorem WorldAt.step (h : WorldAt ok okA okR okE p pA pR pE x w) (hs : w.heap.size ≤ w1.heap.size) (hm : ∀ k, ok k → k < w.heap.size → w1.heap[k]? = w.heap[k]?) : WorldAt ok okA okR okE p pA pR pE x w1 :=
  { h with
    box := (hm p ((h.ok p).2 (.inl rfl)) (blk_lt h.box)).trans h.box
    ar := h.ar.step hs (fun k hk => hm k ((h.ok k).2 (.inr (.inl hk))))
    tb := h.tb.step hs (fun k hk => hm k ((h.ok k).2 (.inr (.inr (.inl hk)))))
    ep := h.ep.step hs (fun k hk => hm k ((h.ok k).2 (.inr (.inr (.inr hk))))) }
/-- The arena turns. -/
theorem WorldAt.ar_moves (h : WorldAt ok okA okR okE p pA pR pE x w) {okA1 : Nat → Prop} {a1 : Ar} (ha : IsArena okA1 pA a1 w1) (hm : Moves okA okA1 w w1) :
    WorldAt (fun k => k = p ∨ okA1 k ∨ okR k ∨ okE k) okA1 okR okE p pA pR pE { x with ar := a1 } w1 ∧ Moves ok (fun k => k = p ∨ okA1 k ∨ okR k ∨ okE k) w w1 := by
  have hf : ∀ k, k < w.heap.size → ¬ okA k → ¬ okA1 k := fun k hk hn h1 => (hm.fresh k h1).elim hn (fun h2 => by omega)
  refine ⟨{
    ok := fun k => Iff.rfl
    nA := hf p (blk_lt h.box) h.nA
    nR := h.nR
    nE := h.nE
    AR := fun k h1 h2 => hf k (h.tb.lt k h2) (fun h3 => h.AR k h3 h2) h1
    AE := fun k h1 h2 => hf k (h.ep.lt k h2) (fun h3 => h.AE k h3 h2) h1
    RE := h.RE
    box := (hm.block p (blk_lt h.box) h.nA).trans h.box
    ar := ha
    tb := h.tb.step hm.size (fun k hk hlt => hm.block k hlt (fun h3 => h.AR k h3 hk))
    ep := h.ep.step hm.size (fun k hk hlt => hm.block k hlt (fun h3 => h.AE k h3 hk)) }, ?_⟩
  exact ⟨hm.os, hm.tape, hm.output, hm.size, fun k hk hn => hm.block k hk (fun h3 => hn ((h.ok k).2 (.inr (.inl h3)))), fun k hk => by
    rcases hk with rfl | hk | hk | hk
    · exact .inl ((h.ok _).2 (.inl rfl))
    · exact (hm.fresh k hk).imp (fun h3 => (h.ok k).2 (.inr (.inl h3))) id
    · exact .inl ((h.ok k).2 (.inr (.inr (.inl hk))))
    · exact .inl ((h.ok k).2 (.inr (.inr (.inr hk))))⟩
/-- The table turns. -/
theorem WorldAt.tb_moves (h : WorldAt ok okA okR okE p pA pR pE x w) {okR1 : Nat → Prop} {t1 : Tb} (ha : IsTable okR1 pR t1 w1) (hm : Moves okR okR1 w w1) :
    WorldAt (fun k => k = p ∨ okA k ∨ okR1 k ∨ okE k) okA okR1 okE p pA pR pE { x with tb := t1 } w1 ∧ Moves ok (fun k => k = p ∨ okA k ∨ okR1 k ∨ okE k) w w1 := by
  have hf : ∀ k, k < w.heap.size → ¬ okR k → ¬ okR1 k := fun k hk hn h1 => (hm.fresh k h1).elim hn (fun h2 => by omega)
  refine ⟨{
    ok := fun k => Iff.rfl
    nA := h.nA
    nR := hf p (blk_lt h.box) h.nR
    nE := h.nE
    AR := fun k h1 h2 => hf k (h.ar.lt k h1) (fun h3 => h.AR k h1 h3) h2
    AE := h.AE
    RE := fun k h1 h2 => hf k (h.ep.lt k h2) (fun h3 => h.RE k h3 h2) h1
    box := (hm.block p (blk_lt h.box) h.nR).trans h.box
    ar := h.ar.step hm.size (fun k hk hlt => hm.block k hlt (fun h3 => h.AR k hk h3))
    tb := ha
    ep := h.ep.step hm.size (fun k hk hlt => hm.block k hlt (fun h3 => h.RE k h3 hk)) }, ?_⟩
  exact ⟨hm.os, hm.tape, hm.output, hm.size, fun k hk hn => hm.block k hk (fun h3 => hn ((h.ok k).2 (.inr (.inr (.inl h3))))), fun k hk => by
    rcases hk with rfl | hk | hk | hk
    · exact .inl ((h.ok _).2 (.inl rfl))
    · exact .inl ((h.ok k).2 (.inr (.inl hk)))
    · exact (hm.fresh k hk).imp (fun h3 => (h.ok k).2 (.inr (.inr (.inl h3)))) id
    · exact .inl ((h.ok k).2 (.inr (.inr (.inr hk))))⟩
/-- The epochs turn. -/
theorem WorldAt.ep_moves (h : WorldAt ok okA okR okE p pA pR pE x w) {okE1 : Nat → Prop} {t1 : Ep} (ha : IsEpochs okE1 pE t1 w1) (hm : Moves okE okE1 w w1) :
    WorldAt (fun k => k = p ∨ okA k ∨ okR k ∨ okE1 k) okA okR okE1 p pA pR pE { x with ep := t1 } w1 ∧ Moves ok (fun k => k = p ∨ okA k ∨ okR k ∨ okE1 k) w w1 := by
  have hf : ∀ k, k < w.heap.size → ¬ okE k → ¬ okE1 k := fun k hk hn h1 => (hm.fresh k h1).elim hn (fun h2 => by omega)
  refine ⟨{
    ok := fun k => Iff.rfl
    nA := h.nA
    nR := h.nR
    nE := hf p (blk_lt h.box) h.nE
    AR := h.AR
    AE := fun k h1 h2 => hf k (h.ar.lt k h1) (fun h3 => h.AE k h1 h3) h2
    RE := fun k h1 h2 => hf k (h.tb.lt k h1) (fun h3 => h.RE k h1 h3) h2
    box := (hm.block p (blk_lt h.box) h.nE).trans h.box
    ar := h.ar.step hm.size (fun k hk hlt => hm.block k hlt (fun h3 => h.AE k hk h3))
    tb := h.tb.step hm.size (fun k hk hlt => hm.block k hlt (fun h3 => h.RE k hk h3))
    ep := ha }, ?_⟩
  exact ⟨hm.os, hm.tape, hm.output, hm.size, fun k hk hn => hm.block k hk (fun h3 => hn ((h.ok k).2 (.inr (.inr (.inr h3))))), fun k hk => by
    rcases hk with rfl | hk | hk | hk
    · exact .inl ((h.ok _).2 (.inl rfl))
    · exact .inl ((h.ok k).2 (.inr (.inl hk)))
    · exact .inl ((h.ok k).2 (.inr (.inr (.inl hk))))
    · exact (hm.fresh k hk).imp (fun h3 => (h.ok k).2 (.inr (.inr (.inr h3)))) id⟩
end
theorem worldShared (p : Nat) : Shared (fun (x : Ws) ok w => IsWorld p x ok w) where
  step := fun h hs hm => by
    obtain ⟨okA, okR, okE, pA, pR, pE, h⟩ := h
    exact ⟨okA, okR, okE, pA, pR, pE, h.step hs hm⟩
  lt := fun h => by
    obtain ⟨okA, okR, okE, pA, pR, pE, h⟩ := h
    exact h.lt

def ndE (r : Int) : Nd := ⟨true, false, [], [], [r]⟩
/-- A new world. -/
def ws0 (a b : Int) (threads : Nat) (nodes records : Int) : Option Ws :=
  match (ar0 nodes).alloc nd0 with
  | none => none
  | some ((r, _), a1) => match a1.alloc (ndE r) with
    | none => none
    | some ((e, _), a2) => some ⟨a2, ⟨[], records⟩, ⟨0, List.replicate threads (-1), List.replicate threads []⟩, a, b, e⟩
structure MadeWorld (x : Ws) (w : World) (e : Ending) (w1 : World) : Prop where
  out : ∃ ok p, e = .returned (.tuple #[.pointer (some ⟨p, 0, none⟩), .int .i64 0]) ∧ IsWorld p x ok w1 ∧ (∀ k, ok k → w.heap.size ≤ k) ∧ Below w.heap.size w w1

theorem NdF.nil (D : Nat → Prop) (w : World) : NdF D nd0 (.agg #[.bool false, .bool false, .slice none 0 0, .slice none 0 0, .slice none 0 0]) w := ⟨none, 0, none, 0, none, 0, rfl, Nat.le_refl _, Nat.le_refl _, Nat.le_refl _, Kd.F_nil _ _ _, Kd.F_nil _ _ _, Kd.F_nil _ _ _⟩
theorem moves_outer {ok ok1 : Nat → Prop} {w0 w w1 : World} (h : Moves ok ok1 w w1) (hb : Below w0.heap.size w0 w) (hn : ∀ k, ok k → w0.heap.size ≤ k) : Below w0.heap.size w0 w1 :=
  ⟨h.os.trans hb.os, h.tape.trans hb.tape, h.output.trans hb.output, Nat.le_trans hb.size h.size, fun k hk => (h.block k (Nat.lt_of_lt_of_le hk hb.size) (fun h1 => by have := hn k h1; omega)).trans (hb.block k hk)⟩

/-- A row of numbers written out. -/
theorem lit_R {k : IntKind} (e : Nat) (w : World) (base : Nat) (xs : List Int) (hb : base ≤ w.heap.size) (hl : xs.length < 1000000) : (Kd.int k).R e (w.alloc (.cells (xs.map fun n => Value.int k n).toArray e)) base (fun q => q = w.heap.size) (.slice (some ⟨w.heap.size, 0, none⟩) xs.length xs.length) xs := by
  refine Kd.R_of_own ?_ (fun q hq => ?_)
  · have := World.ownsRow_lit (base := base) (e := e) (size := 1) w (xs.map fun n => Value.int k n).toArray xs.length hb (by simp [maxLen]; omega) (by simp)
    simpa [encs] using this
  · have : w.heap.size = q := by simpa [Value.ownBlock] using hq
    omega
theorem lit_F {k : IntKind} (e : Nat) (w : World) (xs : List Int) (hl : xs.length < 1000000) : (Kd.int k).F (w.alloc (.cells (xs.map fun n => Value.int k n).toArray e)) (fun q => q = w.heap.size) (some ⟨w.heap.size, 0, none⟩) xs.length xs := Kd.R_F (lit_R e w 0 xs (Nat.zero_le _) hl)
theorem WorldAt.entry_set {ok okA okR okE : Nat → Prop} {p pA pR pE : Nat} {x : Ws} {w : World} (h : WorldAt ok okA okR okE p pA pR pE x w) (r : Int) : WorldAt ok okA okR okE p pA pR pE { x with entry := r } (w.setCell ⟨p, 5, none⟩ (.int .i64 r)) :=
  { h with
    box := blk_set h.box 5 _
    ar := h.ar.step (by simp [World.setCell]) (fun k hk _ => Below.heap_setCell w ⟨p, 5, none⟩ _ k (fun e => h.nA ((show k = p from e) ▸ hk)))
    tb := h.tb.step (by simp [World.setCell]) (fun k hk _ => Below.heap_setCell w ⟨p, 5, none⟩ _ k (fun e => h.nR ((show k = p from e) ▸ hk)))
    ep := h.ep.step (by simp [World.setCell]) (fun k hk _ => Below.heap_setCell w ⟨p, 5, none⟩ _ k (fun e => h.nE ((show k = p from e) ▸ hk))) }

set_option maxHeartbeats 4000000 in
set_option maxRecDepth 100000 in
theorem world_new (a b : Int) (threads : Nat) (nodes records : Int) (w : World) (ha : 2 ≤ a) (ha1 : a ≤ 32) (hb : 2 * a - 1 ≤ b) (hb1 : b ≤ 32) (ht : 1 ≤ threads) (ht1 : threads ≤ 64) (hn : 2 ≤ nodes) (hn1 : nodes ≤ 65536) (hr : 0 ≤ records) (hr1 : records ≤ 65536) (x : Ws) (hx : ws0 a b threads nodes records = some x) :
    Calls Tryz.prog 32 #[.int .i64 a, .int .i64 b, .int .i64 threads, .int .i64 nodes, .int .i64 records] w (MadeWorld x w) := by
  have d1 : decide (a < 2) = false := decide_eq_false (by omega)
  have d2 : decide (a > 32) = false := decide_eq_false (by omega)
  have d3 : decide (b < 2 * a - 1) = false := decide_eq_false (by omega)
  have d4 : decide (b > 32) = false := decide_eq_false (by omega)
  have d5 : decide ((threads : Int) < 1) = false := decide_eq_false (by omega)
  have d6 : decide ((threads : Int) > 64) = false := decide_eq_false (by omega)
  have d7 : decide (nodes < 2) = false := decide_eq_false (by omega)
  have d8 : decide (nodes > 65536) = false := decide_eq_false (by omega)
  have d9 : decide (records < 0) = false := decide_eq_false (by omega)
  have d10 : decide (records > 65536) = false := decide_eq_false (by omega)
  have e2 : decide (32 < a) = false := d2
  have e4 : decide (32 < b) = false := d4
  have e6 : decide (64 < (threads : Int)) = false := d6
  have e8 : decide (65536 < nodes) = false := d8
  have e10 : decide (65536 < records) = false := d10
  have HX := Aside0.mk hx
  clear hx
  go_enter Tryz.func32, Tryz.ntmps32
  go_upto_region 3 with fail
  clear d1 d2 d3 d4 d5 d6 d7 d8 d9 d10 e2 e4 e6 e8 e10
  go_upto_region 4 with (first
    | (go_at_call 55; refine (arena_new nodes _ (by omega) hn1).mono ?_; rintro e w1 ⟨okA, pA, rfl, hA, hAf, hAb⟩; have A0 := Aside0.mk hA; have A1 := Aside0.mk hAf; have A2 := Aside0.mk hAb; clear hA hAf hAb)
    | (go_at_call 56; refine (record_new records _ hr hr1).mono ?_; rintro e w2 ⟨okR, pR, rfl, hR, hRf, hRb⟩; have R0 := Aside0.mk hR; have R1 := Aside0.mk hRf; have R2 := Aside0.mk hRb; clear hR hRf hRb)
    | (go_at_call 57; refine (epoch_new threads _ ht1).mono ?_; rintro e w3 ⟨okE, pE, rfl, hE, hEf, hEb⟩; have E0 := Aside0.mk hE; have E1 := Aside0.mk hEf; have E2 := Aside0.mk hEb; clear hE hEf hEb))
  have hA3 : IsArena okA pA (ar0 nodes) w3 := (A0.out.step R2.out.size (fun k _ hlt => R2.out.block k hlt)).step E2.out.size (fun k _ hlt => E2.out.block k hlt)
  have hR3 : IsTable okR pR ⟨[], records⟩ w3 := R0.out.step E2.out.size (fun k _ hlt => E2.out.block k hlt)
  have hB3 : Below w.heap.size w w3 := below_then (below_then A2.out A2.out.size R2.out) (below_then A2.out A2.out.size R2.out).size E2.out
  have hAl : ∀ k, okA k → w.heap.size ≤ k ∧ k < w1.heap.size := fun k hk => ⟨A1.out k hk, A0.out.lt k hk⟩
  have hRl : ∀ k, okR k → w1.heap.size ≤ k ∧ k < w2.heap.size := fun k hk => ⟨R1.out k hk, R0.out.lt k hk⟩
  have hEl : ∀ k, okE k → w2.heap.size ≤ k ∧ k < w3.heap.size := fun k hk => ⟨E1.out k hk, E0.out.lt k hk⟩
  have s1 := A2.out.size
  have s2 := R2.out.size
  have s3 := E2.out.size
  have hW3 : ∀ o : Obj, Below w.heap.size w (w3.alloc o) := fun o => below_then hB3 hB3.size (below_alloc (Below.refl _ _) o)
  have W4 : Aside0 (WorldAt (fun k => k = w3.heap.size ∨ okA k ∨ okR k ∨ okE k) okA okR okE w3.heap.size pA pR pE ⟨ar0 nodes, ⟨[], records⟩, ⟨0, List.replicate threads (-1), List.replicate threads []⟩, a, b, 0⟩ (w3.alloc (.cells #[.pointer (some ⟨pA, 0, none⟩), .pointer (some ⟨pR, 0, none⟩), .pointer (some ⟨pE, 0, none⟩), .int .i64 a, .int .i64 b, .int .i64 0] 57))) := ⟨{
    ok := fun k => Iff.rfl
    nA := fun h => by have := hAl _ h; omega
    nR := fun h => by have := hRl _ h; omega
    nE := fun h => by have := hEl _ h; omega
    AR := fun k h1 h2 => by have := hAl k h1; have := hRl k h2; omega
    AE := fun k h1 h2 => by have := hAl k h1; have := hEl k h2; omega
    RE := fun k h1 h2 => by have := hRl k h1; have := hEl k h2; omega
    box := blk_new w3 _
    ar := hA3.step (by simp) (fun k _ hlt => Below.heap_alloc _ _ _ hlt)
    tb := hR3.step (by simp) (fun k _ hlt => Below.heap_alloc _ _ _ hlt)
    ep := E0.out.step (by simp) (fun k _ hlt => Below.heap_alloc _ _ _ hlt) }⟩
  have F4 : Aside0 (∀ k, (k = w3.heap.size ∨ okA k ∨ okR k ∨ okE k) → w.heap.size ≤ k) := ⟨fun k hk => by
    rcases hk with rfl | hk | hk | hk
    · omega
    · exact (hAl k hk).1
    · have := (hRl k hk).1; omega
    · have := (hEl k hk).1; omega⟩
  have B4 := Aside0.mk (hW3 (.cells #[.pointer (some ⟨pA, 0, none⟩), .pointer (some ⟨pR, 0, none⟩), .pointer (some ⟨pE, 0, none⟩), .int .i64 a, .int .i64 b, .int .i64 0] 57))
  clear hA3 hR3 hB3 hAl hRl hEl s1 s2 s3 hW3 A0 A1 A2 R0 R1 R2 E0 E1 E2
  generalize w3.alloc (.cells #[.pointer (some ⟨pA, 0, none⟩), .pointer (some ⟨pR, 0, none⟩), .pointer (some ⟨pE, 0, none⟩), .int .i64 a, .int .i64 b, .int .i64 0] 57) = w4 at W4 B4 ⊢
  generalize w3.heap.size = p at W4 F4 ⊢
  generalize hok4 : (fun k => k = p ∨ okA k ∨ okR k ∨ okE k) = ok4 at W4
  have F4 : Aside0 (∀ k, ok4 k → w.heap.size ≤ k) := ⟨by rw [← hok4]; exact F4.out⟩
  clear hok4
  have hx := HX.out
  unfold ws0 at hx
  cases h1 : (ar0 nodes).alloc nd0 with
  | none => rw [h1] at hx; cases hx
  | some q1 =>
    obtain ⟨⟨r, rb⟩, a1⟩ := q1
    rw [h1] at hx
    simp only at hx
    cases h2 : a1.alloc (ndE r) with
    | none => rw [h2] at hx; cases hx
    | some q2 =>
      obtain ⟨⟨en, eb⟩, a2⟩ := q2
      rw [h2] at hx
      simp only at hx
      injection hx with hx
      have H1 := Aside0.mk h1
      have H2 := Aside0.mk h2
      have HX2 := Aside0.mk hx
      clear hx h1 h2 HX
      have c0 := (blk_cell W4.out.box 0).trans (rfl : _ = some (Value.pointer (some ⟨pA, 0, none⟩)))
      go_upto_region 5 with (go_at_call 58; refine (alloc_calls nd0 _ _ W4.out.ar (by simp [ar0]) (NdF.nil _ _) ⟨by simp [nd0], by simp [nd0], by simp [nd0]⟩ H1.out).mono ?_; rintro e w5 ⟨rfl, okA1, hA5, hM5⟩; have A5 := Aside0.mk hA5; have M5 := Aside0.mk hM5; clear hA5 hM5)
      clear c0
      have W5 := Aside0.mk (W4.out.ar_moves A5.out M5.out).1
      have N5 := Aside0.mk (W4.out.ar_moves A5.out M5.out).2
      have B5 := Aside0.mk (moves_outer N5.out B4.out F4.out)
      have F5 : Aside0 (∀ k, (k = p ∨ okA1 k ∨ okR k ∨ okE k) → w.heap.size ≤ k) := ⟨fun k hk => (N5.out.fresh k hk).elim (F4.out k) (fun h => Nat.le_trans B4.out.size h)⟩
      clear A5 M5 N5 W4 B4 F4
      have c0 := (blk_cell W5.out.box 0).trans (rfl : _ = some (Value.pointer (some ⟨pA, 0, none⟩)))
      have W6 := Aside0.mk (W5.out.step (w1 := w5.alloc (.cells #[.int .i64 r] 55)) (by simp) (fun k _ hlt => Below.heap_alloc _ _ _ hlt))
      have B6 := Aside0.mk (below_then B5.out B5.out.size (below_alloc (Below.refl _ _) (.cells #[.int .i64 r] 55)))
      have FF := Aside0.mk (lit_F (k := .i64) 55 w5 [r] (by simp))
      have NN : Aside0 (¬ okA1 w5.heap.size) := ⟨fun h => by have := W5.out.ar.lt _ h; omega⟩
      have L5 : Aside0 (a1.slots.length < 999999) := ⟨by
        have := H1.out
        unfold Ar.alloc at this
        rw [if_neg (by show ¬ nodes ≤ 0; omega)] at this
        simp [Ar.take, ar0] at this
        obtain ⟨_, rfl⟩ := this
        simp [Ar.put]⟩
      go_upto_region 6 with (go_at_call 58; refine (alloc_calls (ndE r) _ _ W6.out.ar L5.out ⟨none, 0, none, 0, _, 1, rfl, Nat.le_refl _, Nat.le_refl _, Nat.le_refl _, Kd.F_nil _ _ _, Kd.F_nil _ _ _, Kd.F_mono FF.out (fun k hk h => NN.out (hk ▸ h))⟩ ⟨by simp [ndE], by simp [ndE], by simp [ndE]⟩ H2.out).mono ?_; rintro e w7 ⟨rfl, okA2, hA7, hM7⟩; have A7 := Aside0.mk hA7; have M7 := Aside0.mk hM7; have c0 := (blk_cell (W6.out.ar_moves hA7 hM7).1.box 0).trans (rfl : _ = some (Value.pointer (some ⟨pA, 0, none⟩))); have c5 := (blk_cell (W6.out.ar_moves hA7 hM7).1.box 5).trans (rfl : _ = some (Value.int .i64 0)); have z5 := blk_frozen (W6.out.ar_moves hA7 hM7).1.box 5; clear hA7 hM7)
      have W7 := Aside0.mk ((W6.out.ar_moves A7.out M7.out).1.entry_set en)
      have N7 := Aside0.mk (W6.out.ar_moves A7.out M7.out).2
      have B7 := Aside0.mk (moves_outer N7.out B6.out F5.out)
      have F7 : Aside0 (∀ k, (k = p ∨ okA2 k ∨ okR k ∨ okE k) → w.heap.size ≤ k) := ⟨fun k hk => (N7.out.fresh k hk).elim (F5.out k) (fun h => Nat.le_trans B6.out.size h)⟩
      have B8 : Aside0 (Below w.heap.size w (w7.setCell ⟨p, 5, none⟩ (.int .i64 en))) := ⟨B7.out.setCell (show w.heap.size ≤ p from F5.out p (.inl rfl)) _⟩
      clear A7 M7 N7 W6 B6 F5 B7 c0 c5 z5
      go_wp2_with fail
      go_ret2
      exact ⟨⟨_, p, rfl, by rw [← HX2.out]; exact ⟨_, _, _, _, _, _, W7.out⟩, F7.out, B8.out⟩⟩
end Go.Proofs.YthlmgbdknjilpaaGreat.Tower
namespace Go.Proofs.YthlmgbdknjilpaaGreat.Tower
open Go Go.RowKit Go.Proofs.YthlmgbdknjilpaaGreatW.PrintWords Go.Proofs.YthlmgbdknjilpaaGreatW.PrintLast Go.Proofs.YthlmgbdknjilpaaGreatW.PrintMore Go.Proofs.YthlmgbdknjilpaaGreat.Own
set_option linter.unusedVariables false
set_option linter.unusedSimpArgs false

set_option maxHeartbeats 2000000 in
theorem cmp_nan (a : Int) (w : World) : Calls Tryz.prog 180 #[.int .i64 a] w fun e w1 => e = .returned (.bool false) ∧ w1 = w := by
  have h : (a != a) = false := by simp
  have h2 : (a == a) = true := by simp
  go_enter Tryz.func180, Tryz.ntmps180
  go_wp2
  go_ret
  exact ⟨rfl, rfl⟩
set_option maxHeartbeats 2000000 in
theorem slices_nan (a : Int) (w : World) : Calls Tryz.prog 164 #[.int .i64 a] w fun e w1 => e = .returned (.bool false) ∧ w1 = w := by
  have h : (a != a) = false := by simp
  have h2 : (a == a) = true := by simp
  go_enter Tryz.func164, Tryz.ntmps164
  go_wp2
  go_ret
  exact ⟨rfl, rfl⟩
set_option maxHeartbeats 2000000 in
theorem cmp_less (a b : Int) (w : World) : Calls Tryz.prog 163 #[.int .i64 a, .int .i64 b] w fun e w1 => e = .returned (.bool (decide (a < b))) ∧ w1 = w := by
  cases hd : decide (a < b)
  all_goals
    go_enter Tryz.func163, Tryz.ntmps163
    go_wp2_with (go_at_call 180; refine (cmp_nan _ _).mono ?_; rintro e w1 ⟨rfl, rfl⟩)
    go_ret
    exact ⟨rfl, rfl⟩

/-- Where a key is, or would be, by halves. -/
def bsF (xs : List Int) (k : Int) : Nat → Nat → Nat → Nat
  | 0, i, _ => i
  | f + 1, i, j => if i < j then (if xs.getD ((i + j) / 2) 0 < k then bsF xs k f ((i + j) / 2 + 1) j else bsF xs k f i ((i + j) / 2)) else i
theorem bsF_more (xs : List Int) (k : Int) : ∀ (f g i j : Nat), j - i ≤ f → j - i ≤ g → bsF xs k f i j = bsF xs k g i j
  | 0, 0, _, _, _, _ => rfl
  | 0, g + 1, i, j, h, _ => by
    unfold bsF
    rw [if_neg (by omega)]
  | f + 1, 0, i, j, _, h => by
    unfold bsF
    rw [if_neg (by omega)]
  | f + 1, g + 1, i, j, h, h' => by
    unfold bsF
    by_cases hlt : i < j
    · rw [if_pos hlt, if_pos hlt]
      by_cases hk : xs.getD ((i + j) / 2) 0 < k
      · rw [if_pos hk, if_pos hk]
        exact bsF_more xs k f g _ _ (by omega) (by omega)
      · rw [if_neg hk, if_neg hk]
        exact bsF_more xs k f g _ _ (by omega) (by omega)
    · rw [if_neg hlt, if_neg hlt]
def bs (xs : List Int) (k : Int) (i j : Nat) : Nat := bsF xs k (j - i) i j
theorem bs_eq (xs : List Int) (k : Int) (i j : Nat) : bs xs k i j = if i < j then (if xs.getD ((i + j) / 2) 0 < k then bs xs k ((i + j) / 2 + 1) j else bs xs k i ((i + j) / 2)) else i := by
  by_cases hlt : i < j
  · rw [if_pos hlt]
    unfold bs
    rw [bsF_more xs k (j - i) (j - i - 1 + 1) i j (by omega) (by omega)]
    conv => lhs; unfold bsF
    rw [if_pos hlt]
    by_cases hk : xs.getD ((i + j) / 2) 0 < k
    · rw [if_pos hk, if_pos hk]
      exact bsF_more xs k _ _ _ _ (by omega) (by omega)
    · rw [if_neg hk, if_neg hk]
      exact bsF_more xs k _ _ _ _ (by omega) (by omega)
  · rw [if_neg hlt]
    unfold bs
    rw [show j - i = 0 by omega]
    rfl
theorem bsF_le (xs : List Int) (k : Int) : ∀ (f i j : Nat), i ≤ j → i ≤ bsF xs k f i j ∧ bsF xs k f i j ≤ j
  | 0, i, j, h => ⟨Nat.le_refl _, h⟩
  | f + 1, i, j, h => by
    unfold bsF
    by_cases hlt : i < j
    · rw [if_pos hlt]
      by_cases hk : xs.getD ((i + j) / 2) 0 < k
      · rw [if_pos hk]
        have := bsF_le xs k f ((i + j) / 2 + 1) j (by omega)
        omega
      · rw [if_neg hk]
        have := bsF_le xs k f i ((i + j) / 2) (by omega)
        omega
    · rw [if_neg hlt]
      omega
theorem bs_le (xs : List Int) (k : Int) (i j : Nat) (h : i ≤ j) : i ≤ bs xs k i j ∧ bs xs k i j ≤ j := bsF_le xs k _ i j h

def bfound (xs : List Int) (k : Int) : Bool := decide (bs xs k 0 xs.length < xs.length) && (xs.getD (bs xs k 0 xs.length) 0 == k)
set_option maxHeartbeats 2000000 in
set_option maxRecDepth 100000 in
theorem bsearch (A : Option Addr) (n c : Nat) (xs : List Int) (k : Int) (w : World) (hr : (Kd.int .i64).C w A n xs) (hl : n < 1000000) :
    Calls Tryz.prog 138 #[.slice A n c, .int .i64 k] w fun e w1 => e = .returned (.tuple #[.int .i64 (bs xs k 0 n : Nat), .bool (bfound xs k)]) ∧ ∃ m, w1 = w.drewN m := by
  go_enter Tryz.func138, Tryz.ntmps138
  go_wp2_with fail
  go_loop [7, 8] (fun i j => ∃ a b : Nat, a ≤ b ∧ b ≤ n ∧ i = .int .i64 a ∧ j = .int .i64 b ∧ Aside0 (bs xs k a b = bs xs k 0 n)) (fun i j => ((intOf j).toNat - (intOf i).toNat))
  case atStart => exact ⟨0, n, Nat.zero_le _, Nat.le_refl _, rfl, rfl, ⟨rfl⟩⟩
  case round =>
    obtain ⟨a, b, hab, hbn, rfl, rfl, HB⟩ := hrel
    by_cases hlt : a < b
    · have d1 : decide ((a : Int) < (b : Int)) = true := decide_eq_true (by omega)
      have d2 : decide (a < b) = true := decide_eq_true hlt
      go_upto_region 5 with fail
      obtain ⟨m, hm⟩ : ∃ m : Nat, m = (a + b) / 2 := ⟨_, rfl⟩
      have em : ((a : Int) + (b : Int)) / 2 = (m : Int) := by omega
      rw [em]
      have hma : a ≤ m := by omega
      have hmb : m < b := by omega
      have b0 : (0 : Int) ≤ (m : Int) := by omega
      have b1 : (m : Int) < (n : Int) := by omega
      cases A with
      | none => exact absurd hr.2.2 (fun h => by obtain ⟨ad, h2, _⟩ := h (by have := hr.1; omega); cases h2)
      | some ad =>
        have hc := Kd.foot_int hr (m : Int) b0 b1
        have e1 : rd xs (m : Int) = xs.getD m 0 := by simp [rd]
        rw [e1, Int.toNat_natCast] at hc
        have HM := Aside0.mk hm
        have HR := Aside0.mk hr
        have HLT := Aside0.mk hlt
        clear em hm hr hlt d1 d2 e1
        obtain ⟨x, hx⟩ : ∃ x, x = xs.getD m 0 := ⟨_, rfl⟩
        rw [← hx] at hc
        have HXX := Aside0.mk hx
        clear hx
        cases hd : decide (x < k) with
        | true =>
          have HD := Aside0.mk (of_decide_eq_true hd)
          go_wp2_with (go_at_call 163; refine (cmp_less _ _ _).mono ?_; rintro e w1 ⟨rfl, rfl⟩)
          go_round
          case rel =>
            refine ⟨m + 1, b, by omega, hbn, by go_num, rfl, ⟨?_⟩⟩
            rw [← HB.out]
            conv => rhs; rw [bs_eq]
            rw [if_pos HLT.out, ← HM.out, ← HXX.out, if_pos HD.out]
          case measure => simp [intOf]; omega
        | false =>
          have HD := Aside0.mk (of_decide_eq_false hd)
          go_wp2_with (go_at_call 163; refine (cmp_less _ _ _).mono ?_; rintro e w1 ⟨rfl, rfl⟩)
          go_round
          case rel =>
            refine ⟨a, m, by omega, by omega, rfl, rfl, ⟨?_⟩⟩
            rw [← HB.out]
            conv => rhs; rw [bs_eq]
            rw [if_pos HLT.out, ← HM.out, ← HXX.out, if_neg (by have := HD.out; omega)]
          case measure => simp [intOf]; omega
    · have d1 : decide ((a : Int) < (b : Int)) = false := decide_eq_false (by omega)
      have d2 : decide (a < b) = false := decide_eq_false hlt
      have hb := HB.out
      rw [bs_eq, if_neg hlt] at hb
      have hln := hr.1
      have HL := Aside0.mk hln
      by_cases han : a < n
      · have d3 : decide ((a : Int) < (n : Int)) = true := decide_eq_true (by omega)
        have d4 : decide (a < n) = true := decide_eq_true han
        have b0 : (0 : Int) ≤ (a : Int) := by omega
        have b1 : (a : Int) < (n : Int) := by omega
        cases A with
        | none => exact absurd hr.2.2 (fun h => by obtain ⟨ad, h2, _⟩ := h (by have := hr.1; omega); cases h2)
        | some ad =>
          have hc := Kd.foot_int hr (a : Int) b0 b1
          have e1 : rd xs (a : Int) = xs.getD a 0 := by simp [rd]
          rw [e1, Int.toNat_natCast] at hc
          have HBB := Aside0.mk hb
          have hfd : bfound xs k = (xs.getD a 0 == k) := by
            unfold bfound
            rw [hln, ← hb, decide_eq_true han]
            rfl
          have HF := Aside0.mk hfd
          clear hr e1 hb hln hfd HB hlt
          obtain ⟨x, hx⟩ : ∃ x, x = xs.getD a 0 := ⟨_, rfl⟩
          rw [← hx] at hc
          have HXX := Aside0.mk hx
          clear hx
          cases hd : x == k with
          | true =>
            go_wp2_with fail
            go_ret2
            refine ⟨?_, 0, rfl⟩
            rw [HF.out, ← HXX.out, hd, HBB.out]; rfl
          | false =>
            go_wp2_with (go_at_call 164; refine (slices_nan _ _).mono ?_; rintro e w1 ⟨rfl, rfl⟩)
            go_ret2
            refine ⟨?_, 0, rfl⟩
            rw [HF.out, ← HXX.out, hd, HBB.out]; rfl
      · have d3 : decide ((a : Int) < (n : Int)) = false := decide_eq_false (by omega)
        have d4 : decide (a < n) = false := decide_eq_false han
        have HBB := Aside0.mk hb
        have hfd : bfound xs k = false := by
          unfold bfound
          rw [hln, ← hb, decide_eq_false han]
          rfl
        have HF := Aside0.mk hfd
        clear hr hb hln hfd HB hlt
        go_wp2_with fail
        go_ret2
        refine ⟨?_, 0, rfl⟩
        rw [HF.out, HBB.out]; rfl

theorem ret_int {k : IntKind} {a b : Int} (h : a = b) : Ending.returned (.int k a) = .returned (.int k b) := by rw [h]
def wayOf (keys : List Int) (ways : Nat) (k : Int) : Int := min ((bs keys k 0 keys.length : Int) + if bfound keys k then 1 else 0) (max ((ways : Int) - 1) 0)
set_option maxHeartbeats 2000000 in
set_option maxRecDepth 100000 in
theorem inner_way (Ak Ay : Option Addr) (ck m cy : Nat) (keys : List Int) (k : Int) (w : World) (hr : (Kd.int .i64).C w Ak keys.length keys) (hl : keys.length < 1000000) (hm : m < 1000000) :
    Calls Tryz.prog 116 #[.agg #[.slice Ak keys.length ck, .slice Ay m cy], .int .i64 k] w fun e w1 => e = .returned (.int .i64 (wayOf keys m k)) ∧ Below w.heap.size w w1 := by
  have hrc := Kd.C_below hr (below_alloc (Below.refl w.heap.size w) (.cells #[.slice Ak keys.length ck, .slice Ay m cy] 117))
  have HR := Aside0.mk hrc
  have HB := Aside0.mk (below_alloc (Below.refl w.heap.size w) (.cells #[.slice Ak keys.length ck, .slice Ay m cy] 117))
  have hbx := blk_new w (.cells #[.slice Ak keys.length ck, .slice Ay m cy] 117)
  have hbl := bs_le keys k 0 keys.length (Nat.zero_le _)
  obtain ⟨q, hq⟩ : ∃ q, q = bs keys k 0 keys.length := ⟨_, rfl⟩
  rw [← hq] at hbl
  have HQ := Aside0.mk hq
  clear hr hrc hq
  go_enter Tryz.func116, Tryz.ntmps116
  go_upto_region 1 with fail
  generalize w.alloc (.cells #[.slice Ak keys.length ck, .slice Ay m cy] 117) = w1 at HR HB hbx ⊢
  generalize w.heap.size = b at hbx ⊢
  have c0 := (blk_cell hbx 0).trans (rfl : _ = some (Value.slice Ak keys.length ck))
  have c1 := (blk_cell hbx 1).trans (rfl : _ = some (Value.slice Ay m cy))
  clear hbx
  cases hf : bfound keys k
  all_goals
    have HF := Aside0.mk hf
    clear hf
    go_wp2_with (go_at_call 138; refine (bsearch Ak keys.length ck keys k _ HR.out hl).mono ?_; rintro e w2 ⟨rfl, nq, rfl⟩; rw [← HQ.out, HF.out])
    all_goals
      go_ret
      refine ⟨?_, pw_below_drewN HB.out nq⟩
      have hw : wayOf keys m k = min ((q : Int) + if bfound keys k then 1 else 0) (max ((m : Int) - 1) 0) := by rw [HQ.out]; rfl
      rw [HF.out] at hw
      rw [hw]
      refine ret_int ?_
      simp only [if_true, Bool.false_eq_true, if_false]
      first
        | omega
        | (split at * <;> omega)
end Go.Proofs.YthlmgbdknjilpaaGreat.Tower
namespace Go.Proofs.YthlmgbdknjilpaaGreat.Tower
open Go Go.RowKit Go.Proofs.YthlmgbdknjilpaaGreatW.PrintWords Go.Proofs.YthlmgbdknjilpaaGreatW.PrintLast Go.Proofs.YthlmgbdknjilpaaGreatW.PrintMore Go.Proofs.YthlmgbdknjilpaaGreat.Own
set_option linter.unusedVariables false
set_option linter.unusedSimpArgs false
attribute [local go_sem] eqlF1 eqlF2 eqlF3 panicW assertW

theorem enters {f : FuncId} {fn : Func} (hf : Tryz.prog.funcs[f]? = some fn) (hname : (fn.name == "runtime.NumGoroutine") = false) (hb : fn.body.isSome = true) (args : Array Value) (w : World) : (callFunc f args).run Tryz.prog w = .ok (.enter f args) w := enters_ hf hname hb args w

def b01 (b : Bool) : Int := if b then 1 else 0
def askT {X : Type} (f : X → Bool × X) : Pr X Bool := prBind (doT (fun x => (b01 (f x).1, (f x).2))) (fun n s => some (.ret (n == 1), s))

set_option maxHeartbeats 2000000 in
set_option maxRecDepth 100000 in
theorem ask1_calls (gf : FuncId) (cap : Array Value) (b : Nat) (r : Bool) (R : World → Prop) (w : World) (hb : w.heap[b]? = some (.cells #[.func (.func gf) #[] cap] 27 (0, 0)))
    (he : ∀ w1 : World, (callFunc gf cap).run Tryz.prog w1 = .ok (.enter gf cap) w1)
    (hc : Calls Tryz.prog gf cap w fun e w2 => e = .returned (.bool r) ∧ R w2) :
    Calls Tryz.prog 93 #[.pointer (some ⟨b, 0, none⟩)] w fun e w2 => e = .returned (.int .i64 (b01 r)) ∧ R w2 := by
  have HC := Aside0.mk hc
  have HE := Aside0.mk he
  have c0 : w.cell? ⟨b, 0, none⟩ = some (.func (.func gf) #[] cap) := (blk_cell hb 0).trans rfl
  clear hc he hb
  go_enter Tryz.func93, Tryz.ntmps93
  go_wp2_with fail
  rw [HE.out, Oper.upon_enter]
  refine HC.out.mono ?_
  rintro e w2 ⟨rfl, hr⟩
  have HR := Aside0.mk hr
  clear hr HC
  dsimp only
  cases r
  · go_wp2_with fail
    go_ret
    exact ⟨rfl, HR.out⟩
  · go_wp2_with fail
    go_ret
    exact ⟨rfl, HR.out⟩

theorem b01_eq (b : Bool) : (b01 b == 1) = b := by cases b <;> rfl

set_option maxHeartbeats 2000000 in
set_option maxRecDepth 100000 in
theorem ask_calls {X : Type} {Sh : X → (Nat → Prop) → World → Prop} (S : Shared Sh) (f : X → Bool × X) (tb : Nat) (work : Value) (ok : Nat → Prop) (s : TS X) (w : World) (gf : FuncId) (cap : Array Value) (h : IsRun Sh tb work ok s w)
    (he : ∀ w1 : World, (callFunc gf cap).run Tryz.prog w1 = .ok (.enter gf cap) w1)
    (hc : ∀ w1 okS, Moves ok ok w w1 → (∀ k, okS k → ok k) → Sh s.sh okS w1 → Calls Tryz.prog gf cap w1 fun e w2 => e = .returned (.bool (f s.sh).1) ∧ ∃ okS1, Sh (f s.sh).2 okS1 w2 ∧ Moves okS okS1 w1 w2)
    (res : Out Bool × TS X) (hr : askT f s = some res) :
    Calls Tryz.prog 67 #[.pointer (some ⟨tb, 0, none⟩), .func (.func gf) #[] cap] w (TPost Sh tb work VBool ok w res) := by
  unfold askT prBind at hr
  cases hd : doT (fun x => (b01 (f x).1, (f x).2)) s with
  | none => rw [hd] at hr; cases hr
  | some dres =>
    rw [hd] at hr
    have hmf : ∀ (fn : Fn) (first cap : Array Value) (w : World), (Instr.makeFunc fn first cap).run Tryz.prog w = .ok (.func fn first cap) w := fun _ _ _ _ => rfl
    have HI := Aside0.mk h
    have HC := Aside0.mk hc
    have HE := Aside0.mk he
    have HD := Aside0.mk hd
    have HRS := Aside0.mk hr
    have HB := Aside0.mk (blk_new w (.cells #[.func (.func gf) #[] cap] 27))
    have HI1 := Aside0.mk (h.below S (below_alloc (Below.refl _ _) (.cells #[.func (.func gf) #[] cap] 27)))
    have HM := Aside0.mk ((Moves.refl ok w).alloc (.cells #[.func (.func gf) #[] cap] 27))
    have HN : Aside0 (¬ ok w.heap.size) := ⟨fun hk => by have := h.lt S _ hk; omega⟩
    clear h hc he hd hr
    go_enter Tryz.func67, Tryz.ntmps67
    go_upto_region 1 with fail
    generalize w.alloc (.cells #[.func (.func gf) #[] cap] 27) = w1 at HB HI1 HM ⊢
    generalize w.heap.size = b at HB HN ⊢
    have c0 : w1.cell? ⟨b, 0, none⟩ = some (.func (.func gf) #[] cap) := (blk_cell HB.out 0).trans rfl
    go_wp2_with fail
    refine (do_calls S (fun x => (b01 (f x).1, (f x).2)) tb work ok s w1 93 #[.pointer (some ⟨b, 0, none⟩)] HI1.out (enters Tryz.func93 (by kernel_rfl) rfl _) (fun w2 okS hm hk hsh => ?hT) dres HD.out).mono ?_
    case hT =>
      refine (ask1_calls gf cap b (f s.sh).1 (fun w3 => ∃ okS1, Sh (f s.sh).2 okS1 w3 ∧ Moves okS okS1 w2 w3) w2 ((hm.block b (blk_lt HB.out) HN.out).trans HB.out) HE.out (HC.out w2 okS (HM.out.trans hm) hk hsh)).mono ?_
      rintro e w3 ⟨rfl, okS1, h1, h2⟩
      exact ⟨okS1, rfl, h1, h2⟩
    rintro e w2 ⟨ok1, hm, hrun, hres⟩
    have HM2 := Aside0.mk (HM.out.trans hm)
    have HI2 := Aside0.mk hrun
    clear hm hrun
    obtain ⟨o, t⟩ := dres
    cases o with
    | wait =>
      have hh := HRS.out
      injection hh with hh
      subst hh
      obtain rfl : e = .panicked waitP := hres
      exact ⟨rfl, ⟨⟨ok1, HM2.out, HI2.out, rfl⟩⟩⟩
    | ret n =>
      have hh := HRS.out
      injection hh with hh
      obtain ⟨v, rfl, rfl⟩ : ∃ v, e = .returned v ∧ v = .int .i64 n := hres
      have HH := Aside0.mk hh
      clear hh
      dsimp only
      go_wp2_with fail
      go_ret
      rw [← HH.out]
      exact ⟨⟨ok1, HM2.out, HI2.out, _, rfl, rfl⟩⟩
end Go.Proofs.YthlmgbdknjilpaaGreat.Tower
namespace Go.Proofs.YthlmgbdknjilpaaGreat.Tower
open Go Go.RowKit Go.Proofs.YthlmgbdknjilpaaGreatW.PrintWords Go.Proofs.YthlmgbdknjilpaaGreatW.PrintLast Go.Proofs.YthlmgbdknjilpaaGreatW.PrintMore Go.Proofs.YthlmgbdknjilpaaGreat.Own
set_option linter.unusedVariables false
set_option linter.unusedSimpArgs false

def th0 : Th := ⟨[], 0, false, false, false, []⟩
/-- A thread has been made: a block of its own. -/
structure MadeThread (work : Value) (w : World) (e : Ending) (w1 : World) : Prop where
  out : ∃ tb, e = .returned (.pointer (some ⟨tb, 0, none⟩)) ∧ w.heap.size ≤ tb ∧ IsThread (fun k => k = tb) tb work th0 w1 ∧ Below w.heap.size w w1

set_option maxHeartbeats 2000000 in
set_option maxRecDepth 100000 in
theorem new_calls (gf : FuncId) (cap : Array Value) (w : World) :
    Calls Tryz.prog 38 #[.func (.func gf) #[] cap] w (MadeThread (.func (.func gf) #[] cap) w) := by
  go_enter Tryz.func38, Tryz.ntmps38
  go_wp2_with fail
  go_ret
  refine ⟨⟨w.heap.size, rfl, Nat.le_refl _, ⟨.slice none 0 0, none, 0, rfl, ?_, blk_new w _, Kd.R_nil _ _ _ _ _, Nat.le_refl _, Kd.F_nil _ _ _⟩, below_alloc (Below.refl _ _) _⟩⟩
  intro k hk
  simp [hk]

set_option maxHeartbeats 2000000 in
set_option maxRecDepth 100000 in
theorem out_calls {ok : Nat → Prop} {tb : Nat} {work : Value} {th : Th} (w : World) (h : IsThread ok tb work th w) (hd : th.done = true) (hl : th.out.length < 1000000) :
    Calls Tryz.prog 16 #[.pointer (some ⟨tb, 0, none⟩)] w fun e w1 => ∃ v, e = .returned v ∧ (Kd.int .i64).R 2 w1 w.heap.size (fun k => w.heap.size ≤ k) v th.out ∧ Below w.heap.size w w1 := by
  obtain ⟨lv, A, c, h⟩ := h
  have c5 : w.cell? ⟨tb, 5, none⟩ = some (.bool true) := (blk_cell h.2.2.1 5).trans (by rw [← hd]; rfl)
  have hb2 := blk_alloc h.2.2.1 (.cells #[] 2)
  have c6 : (w.alloc (.cells #[] 2)).cell? ⟨tb, 6, none⟩ = some (.slice A th.out.length c) := (blk_cell hb2 6).trans rfl
  have HE := Aside0.mk (R_empty (Kd.int .i64) 2 w w.heap.size (Nat.le_refl _))
  have HB := Aside0.mk (below_alloc (Below.refl w.heap.size w) (.cells #[] 2))
  have HC := Aside0.mk (Kd.C_below (Kd.F_now h.2.2.2.2.2) (below_alloc (Below.refl _ _) (.cells #[] 2)))
  clear h hd hb2
  go_enter Tryz.func16, Tryz.ntmps16
  go_wp2_with (first | ((with_reducible refine gate_builtin (b := .append) (xs := #[.tmp 12, .tmp 16]) rfl ?_); at_builtin; refine Kd.R_append_rows (Kd.int .i64) (w0 := w) w.heap.size rfl (.tmp 12) (.tmp 16) 28 2 (.int .i64 0) 8 rfl Tryz.underlying28 info_keys rfl (by decide) (by omega) (.slice (some ⟨w.heap.size, 0, none⟩) 0 0) [] th.out A th.out.length c (fun k => w.heap.size ≤ k) (fun _ => False) rfl rfl HE.out HC.out (fun _ _ h => h) (fun _ hk => hk.elim) (fun k hk => by simp at hk; omega) HB.out (by simp) (by simp; omega) ?_; intro v5 w5 ho hb5 hg hat; have HO := Aside0.mk ho; have HB5 := Aside0.mk hb5; clear ho hb5 hg hat HE HB HC))
  go_ret
  exact ⟨_, rfl, HO.out, HB5.out⟩
end Go.Proofs.YthlmgbdknjilpaaGreat.Tower
namespace Go.Proofs.YthlmgbdknjilpaaGreat.Tower
open Go Go.RowKit Go.Proofs.YthlmgbdknjilpaaGreatW.PrintWords Go.Proofs.YthlmgbdknjilpaaGreatW.PrintLast Go.Proofs.YthlmgbdknjilpaaGreatW.PrintMore Go.Proofs.YthlmgbdknjilpaaGreat.Own
set_option linter.unusedVariables false
set_option linter.unusedSimpArgs false

/-- The arena as the program keeps it. -/
structure Ar.Good (a : Ar) : Prop where
  most : a.most ≤ 65536
  slots : (a.slots.length : Int) ≤ a.most
  used : a.used + a.free.length = a.slots.length
  cnt : ((a.slots.countP fun s => s.used : Nat) : Int) ≤ a.used
  small : ∀ (i : Nat) (s : Sl), a.slots[i]? = some s → s.node.Small ∧ s.ways.length < 1000000
theorem Ar.Good.fits {a : Ar} (h : a.Good) : a.Fits := ⟨by have := h.most; have := h.slots; omega, fun i s hi => by
  obtain ⟨h1, h2⟩ := h.small i s hi
  exact ⟨h1.pairs, h1.keys, h1.ways, h2⟩⟩
theorem Ar.Good.fault {a : Ar} (h : a.Good) : a.fault.Good := ⟨h.most, h.slots, h.used, h.cnt, h.small⟩
theorem Ar.Good.look {a : Ar} (h : a.Good) (r : Int) : (a.look r).2.Good := by
  unfold Ar.look
  split
  · exact h.fault
  · split <;> exact h
theorem Ar.Good.look_small {a : Ar} (h : a.Good) (r : Int) : (a.look r).1.Small := by
  unfold Ar.look
  split
  · exact ⟨by simp [nd0], by simp [nd0], by simp [nd0]⟩
  · split
    · exact ⟨by simp [nd0], by simp [nd0], by simp [nd0]⟩
    · rename_i s hs
      exact (h.small _ s hs).1
theorem Ar.Good.way {a : Ar} (h : a.Good) (r i : Int) : (a.way r i).2.Good := by
  unfold Ar.way
  split
  · exact h.fault
  · split <;> exact h

/-- Few threads, so that lengths are numbers. -/
structure Ep.Good (x : Ep) : Prop where
  few : x.said.length ≤ 64
/-- The table as the program keeps it. -/
structure Tb.Good (t : Tb) : Prop where
  most : t.most ≤ 65536
  len : (t.l.length : Int) ≤ t.most
  small : ∀ (i : Nat) (e : En), t.l[i]? = some e → e.rc.nodes.length < 1000000 ∧ e.rc.infos.length < 1000000
structure Ws.Good (x : Ws) : Prop where
  ar : x.ar.Good
  ep : x.ep.Good
  tb : x.tb.Good
/-- What threads share: the world, kept. -/
def shW (p : Nat) (x : Ws) (ok : Nat → Prop) (w : World) : Prop := IsWorld p x ok w ∧ x.Good
theorem shW_shared (p : Nat) : Shared (shW p) where
  step := fun h hs hm => ⟨(worldShared p).step h.1 hs hm, h.2⟩
  lt := fun h => (worldShared p).lt h.1

/-- What is shared turns, outside of a touch. -/
theorem IsRun.direct {X : Type} {Sh : X → (Nat → Prop) → World → Prop} {tb : Nat} {work : Value} {ok : Nat → Prop} {s : TS X} {w : World} (h : IsRun Sh tb work ok s w) :
    ∃ okS, (∀ k, okS k → ok k) ∧ Sh s.sh okS w ∧ ∀ x1 okS1 w1, Sh x1 okS1 w1 → Moves okS okS1 w w1 → ∃ ok1, IsRun Sh tb work ok1 { s with sh := x1 } w1 ∧ Moves ok ok1 w w1 ∧ ∀ k, ok1 k → ok k ∨ okS1 k := by
  obtain ⟨okT, okS, h1, h2, h3, h4⟩ := h.out
  refine ⟨okS, fun k hk => (h1 k).2 (.inr hk), h4, fun x1 okS1 w1 hs hm => ⟨fun k => okT k ∨ okS1 k, ⟨h.le, h.short, okT, okS1, fun _ => Iff.rfl, fun k hk hk1 => ?_, ?_, hs⟩, ?_, fun k hk => hk.imp (fun h5 => (h1 k).2 (.inl h5)) id⟩⟩
  · exact (hm.fresh k hk1).elim (h2 k hk) (fun h5 => by have := h3.lt k hk; omega)
  · exact h3.step hm.size (fun k hk hlt => hm.block k hlt (fun h5 => h2 k hk h5))
  · exact ⟨hm.os, hm.tape, hm.output, hm.size, fun k hk hn => hm.block k hk (fun h5 => hn ((h1 k).2 (.inr h5))), fun k hk => hk.elim (fun h5 => .inl ((h1 k).2 (.inl h5))) (fun h5 => (hm.fresh k h5).imp (fun h6 => (h1 k).2 (.inr h6)) id)⟩

/-- A node, a step, as cells. -/
abbrev kNd : Kd Nd := Kd.iso (Kd.pair Kd.bool (Kd.pair Kd.bool (Kd.pair (Kd.slice 31 kPair) (Kd.pair (Kd.slice 2 (Kd.int .i64)) (Kd.slice 55 (Kd.int .i64)))))) (fun n => (n.inner, n.tagged, n.pairs, n.keys, n.ways))
structure Stp where
  ref : Int
  node : Nd
  way : Int
abbrev kStp : Kd Stp := Kd.iso (Kd.pair (Kd.int .i64) (Kd.pair kNd (Kd.int .i64))) (fun s => (s.ref, s.node, s.way))
theorem kNd_M {w : World} {base : Nat} {ok : Nat → Prop} {n : Nd} {p k y : Value} (hp : kPair.R 31 w base ok p n.pairs) (hk : (Kd.int .i64).R 2 w base ok k n.keys) (hy : (Kd.int .i64).R 55 w base ok y n.ways) : kNd.M w base ok n [.bool n.inner, .bool n.tagged, p, k, y] :=
  ⟨[.bool n.inner], [.bool n.tagged, p, k, y], rfl, rfl, [.bool n.tagged], [p, k, y], rfl, rfl, [p], [k, y], rfl, ⟨p, rfl, hp⟩, [k], [y], rfl, ⟨k, rfl, hk⟩, ⟨y, rfl, hy⟩⟩
theorem kStp_M {w : World} {base : Nat} {ok : Nat → Prop} {s : Stp} {cs : List Value} (h : kNd.M w base ok s.node cs) : kStp.M w base ok s (.int .i64 s.ref :: (cs ++ [.int .i64 s.way])) :=
  ⟨[.int .i64 s.ref], cs ++ [.int .i64 s.way], rfl, rfl, cs, [.int .i64 s.way], rfl, h, rfl⟩

def lookT (r : Int) : Pr Ws Nd := fun s => some (.ret (s.sh.ar.look r).1, { s with sh := { s.sh with ar := (s.sh.ar.look r).2 } })
def wayT (r i : Int) : Pr Ws Int := doT (fun x => ((x.ar.way r i).1, { x with ar := (x.ar.way r i).2 }))
def stpWay (n : Nd) (key : Int) : Int := if n.inner then wayOf n.keys n.ways.length key else 0
def pathT (key : Int) : Nat → Int → List Stp → Pr Ws (List Stp)
  | 0, _, _ => fun _ => none
  | f + 1, r, acc => prBind (lookT r) fun n =>
    if n.inner = false then fun s => some (.ret (acc ++ [⟨r, n, stpWay n key⟩]), s)
    else prBind (wayT r (stpWay n key)) fun r1 => if r1 = 0 then fun s => some (.ret (acc ++ [⟨r, n, stpWay n key⟩]), s) else pathT key f r1 (acc ++ [⟨r, n, stpWay n key⟩])
end Go.Proofs.YthlmgbdknjilpaaGreat.Tower
namespace Go.Proofs.YthlmgbdknjilpaaGreat.Tower
open Go Go.RowKit Go.Proofs.YthlmgbdknjilpaaGreatW.PrintWords Go.Proofs.YthlmgbdknjilpaaGreatW.PrintLast Go.Proofs.YthlmgbdknjilpaaGreatW.PrintMore Go.Proofs.YthlmgbdknjilpaaGreat.Own
set_option linter.unusedVariables false
set_option linter.unusedSimpArgs false
def TPath1 : Bool × List (List Nat × List Nat) := (true, [([], []), ([0], [0]), ([1], [1]), ([2], [2]), ([3], [3]), ([], []), ([5], [5]), ([], []), ([4, 6, 7], [4, 6, 7]), ([8, 8, 0, 1, 2, 3, 4, 5, 6, 7, 8], [8])])
def BPath1 : List Nat := [0, 1, 3, 7, 15, 0, 32, 0, 255, 511]
theorem tabPath1 : rtab .any (opsOf Tryz.f117 1) = TPath1 := by kernel_rfl
theorem bitsPath1 : waitsOk TPath1.2 BPath1 = true := by kernel_rfl

set_option maxHeartbeats 2000000 in
set_option maxRecDepth 100000 in
theorem path1_calls (p : Nat) (x : Ws) (r i : Int) (w : World) (okS : Nat → Prop) (bt bs bi : Nat) (h : shW p x okS w)
    (ht : w.cell? ⟨bt, 1, none⟩ = some (.pointer (some ⟨p, 0, none⟩))) (hs : w.cell? ⟨bs, 0, none⟩ = some (.int .i64 r)) (hi : w.cell? ⟨bi, 0, none⟩ = some (.int .i64 i)) :
    Calls Tryz.prog 117 #[.pointer (some ⟨bt, 0, none⟩), .pointer (some ⟨bs, 0, none⟩), .pointer (some ⟨bi, 0, none⟩)] w fun e w2 => ∃ okS1, e = .returned (.int .i64 (x.ar.way r i).1) ∧ shW p { x with ar := (x.ar.way r i).2 } okS1 w2 ∧ Moves okS okS1 w w2 := by
  obtain ⟨⟨okA, okR, okE, pA, pR, pE, h⟩, hg⟩ := h
  have HW := Aside0.mk h
  have HG := Aside0.mk hg
  have hp := (blk_cell h.box 0).trans (rfl : _ = some (Value.pointer (some ⟨pA, 0, none⟩)))
  have HC := Aside0.mk (And.intro ht (And.intro hp (And.intro hs hi)))
  clear h hg ht hs hi hp
  go_enter Tryz.func117, Tryz.ntmps117
  go_upto_region 1 with fail
  refine start_ (n := 10) (S := fun w' => w'.cell? ⟨bt, 1, none⟩ = some (.pointer (some ⟨p, 0, none⟩)) ∧ w'.cell? ⟨p, 0, none⟩ = some (.pointer (some ⟨pA, 0, none⟩)) ∧ w'.cell? ⟨bs, 0, none⟩ = some (.int .i64 r) ∧ w'.cell? ⟨bi, 0, none⟩ = some (.int .i64 i)) (ds := [8]) #[false, false, false, false, false, false, false, false, false, false] (by kernel_rfl) rfl rfl HC.out (fun hHeld => ?_); refine with_tabW tabPath1 bitsPath1 (fun HT_ HW_ => ?_)
  have HW := Aside0.mk (HW.out.step (w1 := w.drew) (Nat.le_refl _) (fun _ _ _ => rfl))
  have HM := Aside0.mk ((Moves.refl okS w).drew)
  clear HC
  generalize World.drew _ = w1 at HW HM hHeld ⊢
  refine pure_ (i := 0) (N := (some 4)) (v := ?_) (a' := ?_) #[true, false, false, false, false, false, false, false, false, false] rfl rfl (any_of HT_.out (by kernel_rfl)) (fun _ _ _ h => h) (Or.inl ⟨by rfl, ?_⟩) ?_ ?_
  rotate_left
  · intro w'
    go_simp
    with_reducible rfl
  rotate_left
  · simp only [Act.put, List.setIfInBounds_toArray, List.set_cons_zero, List.set_cons_succ, i64_w, i32_w]
    rfl
  refine take_ (i := 1) (N := (some 5)) (v := ?_) (a' := ?_) #[true, true, false, false, false, false, false, false, false, false] rfl rfl (take_ofW HT_.out HW_.out (by kernel_rfl)) (fun _ _ _ h => h) (Or.inl ⟨by rfl, ?_⟩) hHeld ?_ ?_
  rotate_left
  · rintro w' ⟨s0, s1, s2, s3⟩
    go_simp
    with_reducible rfl
  rotate_left
  · simp only [Act.put, List.setIfInBounds_toArray, List.set_cons_zero, List.set_cons_succ, i64_w, i32_w]
    rfl
  refine pure_ (i := 2) (N := (some 6)) (v := ?_) (a' := ?_) #[true, true, true, false, false, false, false, false, false, false] rfl rfl (any_of HT_.out (by kernel_rfl)) (fun _ _ _ h => h) (Or.inl ⟨by rfl, ?_⟩) ?_ ?_
  rotate_left
  · intro w'
    go_simp
    with_reducible rfl
  rotate_left
  · simp only [Act.put, List.setIfInBounds_toArray, List.set_cons_zero, List.set_cons_succ, i64_w, i32_w]
    rfl
  refine pure_ (i := 3) (N := (some 7)) (v := ?_) (a' := ?_) #[true, true, true, true, false, false, false, false, false, false] rfl rfl (any_of HT_.out (by kernel_rfl)) (fun _ _ _ h => h) (Or.inl ⟨by rfl, ?_⟩) ?_ ?_
  rotate_left
  · intro w'
    go_simp
    with_reducible rfl
  rotate_left
  · simp only [Act.put, List.setIfInBounds_toArray, List.set_cons_zero, List.set_cons_succ, i64_w, i32_w]
    rfl
  refine take_ (i := 4) (N := (some 8)) (v := ?_) (a' := ?_) #[true, true, true, true, true, false, false, false, false, false] rfl rfl (take_ofW HT_.out HW_.out (by kernel_rfl)) (fun _ _ _ h => h) (Or.inl ⟨by rfl, ?_⟩) hHeld ?_ ?_
  rotate_left
  · rintro w' ⟨s0, s1, s2, s3⟩
    go_simp
    with_reducible rfl
  rotate_left
  · simp only [Act.put, List.setIfInBounds_toArray, List.set_cons_zero, List.set_cons_succ, i64_w, i32_w]
    rfl
  refine pure_ (i := 5) (N := (some 9)) (v := ?_) (a' := ?_) #[true, true, true, true, true, true, false, false, false, false] rfl rfl (any_of HT_.out (by kernel_rfl)) (fun _ _ _ h => h) (Or.inl ⟨by rfl, ?_⟩) ?_ ?_
  rotate_left
  · intro w'
    go_simp
    with_reducible rfl
  rotate_left
  · simp only [Act.put, List.setIfInBounds_toArray, List.set_cons_zero, List.set_cons_succ, i64_w, i32_w]
    rfl
  refine take_ (i := 6) (N := (some 10)) (v := ?_) (a' := ?_) #[true, true, true, true, true, true, true, false, false, false] rfl rfl (take_ofW HT_.out HW_.out (by kernel_rfl)) (fun _ _ _ h => h) (Or.inl ⟨by rfl, ?_⟩) hHeld ?_ ?_
  rotate_left
  · rintro w' ⟨s0, s1, s2, s3⟩
    go_simp
    with_reducible rfl
  rotate_left
  · simp only [Act.put, List.setIfInBounds_toArray, List.set_cons_zero, List.set_cons_succ, i64_w, i32_w]
    rfl
  refine take_ (i := 7) (N := (some 11)) (v := ?_) (a' := ?_) #[true, true, true, true, true, true, true, true, false, false] rfl rfl (take_ofW HT_.out HW_.out (by kernel_rfl)) (fun _ _ _ h => h) (Or.inl ⟨by rfl, ?_⟩) hHeld ?_ ?_
  rotate_left
  · rintro w' ⟨s0, s1, s2, s3⟩
    go_simp
    with_reducible rfl
  rotate_left
  · simp only [Act.put, List.setIfInBounds_toArray, List.set_cons_zero, List.set_cons_succ, i64_w, i32_w]
    rfl
  refine last_ (i := 8) (N := (some 12)) #[true, true, true, true, true, true, true, true, true, false] rfl rfl (one_of HT_.out (by kernel_rfl)) (by decide) (fun K_ hK => ?_)
  refine call_ 44 #[.pointer (some ⟨pA, 0, none⟩), .int .i64 r, .int .i64 i] (by rfl) rfl ?hrun8 ?_
  (case hrun8 => first | (go_simp; done) | (go_simp; exact enters Tryz.func44 (by kernel_rfl) rfl _ _))
  refine (way_calls r i _ HW.out.ar HG.out.ar.fits.slots).mono ?_
  rintro e w2 ⟨rfl, hA, hM⟩
  have A2 := Aside0.mk hA
  have M2 := Aside0.mk hM
  clear hA hM
  refine ⟨_, rfl, ?_⟩
  refine hK.out _ _ ?_
  clear hK K_
  refine norm_ (a' := ?_) ?_ ?_
  rotate_left
  · show Act.put _ (some 12) _ = _
    simp only [Act.put, List.setIfInBounds_toArray, List.set_cons_zero, List.set_cons_succ, i64_w, i32_w]
    rfl
  refine pure_ (i := 9) (N := (some 3)) (v := ?_) (a' := ?_) #[true, true, true, true, true, true, true, true, true, true] rfl rfl (any_of HT_.out (by kernel_rfl)) (fun _ _ _ h => h) (Or.inl ⟨by rfl, ?_⟩) ?_ ?_
  rotate_left
  · intro w'
    go_simp
    with_reducible rfl
  rotate_left
  · simp only [Act.put, List.setIfInBounds_toArray, List.set_cons_zero, List.set_cons_succ, i64_w, i32_w]
    rfl
  refine done_ (done_of HT_.out (by kernel_rfl)) ?_
  go_wp2_with fail
  go_ret
  exact ⟨_, rfl, ⟨⟨_, _, _, _, _, _, (HW.out.ar_moves A2.out M2.out).1⟩, ⟨HG.out.ar.way r i, HG.out.ep, HG.out.tb⟩⟩, HM.out.trans (HW.out.ar_moves A2.out M2.out).2⟩
end Go.Proofs.YthlmgbdknjilpaaGreat.Tower
namespace Go.Proofs.YthlmgbdknjilpaaGreat.Tower
open Go Go.RowKit Go.Proofs.YthlmgbdknjilpaaGreatW.PrintWords Go.Proofs.YthlmgbdknjilpaaGreatW.PrintLast Go.Proofs.YthlmgbdknjilpaaGreatW.PrintMore Go.Proofs.YthlmgbdknjilpaaGreat.Own
set_option linter.unusedVariables false
set_option linter.unusedSimpArgs false

def taskV (tb p : Nat) (me : Int) : Value := .agg #[.pointer (some ⟨tb, 0, none⟩), .pointer (some ⟨p, 0, none⟩), .int .i64 me]
def taskO (tb p : Nat) (me : Int) : Obj := .cells #[.pointer (some ⟨tb, 0, none⟩), .pointer (some ⟨p, 0, none⟩), .int .i64 me] 84 (0, 0)
theorem R_moves {α : Type} {d : Kd α} {e base : Nat} {ok ok1 : Nat → Prop} {v : Value} {xs : List α} {w w1 : World} (h : d.R e w base (fun k => ¬ ok k) v xs) (m : Moves ok ok1 w w1) : d.R e w1 base (fun k => ¬ ok1 k) v xs :=
  Kd.R_mono (Kd.R_step (Kd.R_bound h) (fun k hk hlt => m.block k hlt hk.1)) (fun k hk h1 => (m.fresh k h1).elim hk.1 (fun h2 => by have := hk.2.2.1; omega))
/-- The arena's node is looked at, outside of a touch. -/
theorem look_task {p tb : Nat} {work : Value} {ok : Nat → Prop} {s : TS Ws} {w : World} (h : IsRun (shW p) tb work ok s w) (r : Int) :
    ∃ pA, w.cell? ⟨p, 0, none⟩ = some (.pointer (some ⟨pA, 0, none⟩)) ∧ w.cell? ⟨p, 5, none⟩ = some (.int .i64 s.sh.entry) ∧ (s.sh.ar.look r).1.Small ∧ Calls Tryz.prog 81 #[.pointer (some ⟨pA, 0, none⟩), .int .i64 r] w fun e w1 => ∃ v ok1, e = .returned v ∧ NdNew w.heap.size (s.sh.ar.look r).1 v w1 ∧ IsRun (shW p) tb work ok1 { s with sh := { s.sh with ar := (s.sh.ar.look r).2 } } w1 ∧ Moves ok ok1 w w1 ∧ ∀ k, ok1 k → ok k := by
  obtain ⟨okS, hk, ⟨⟨okA, okR, okE, pA, pR, pE, hw⟩, hg⟩, hd⟩ := h.direct
  refine ⟨pA, (blk_cell hw.box 0).trans rfl, (blk_cell hw.box 5).trans rfl, hg.ar.look_small r, (look_calls r w hw.ar hg.ar.fits).mono ?_⟩
  rintro e w1 ⟨⟨v, rfl, hv⟩, ha, hm⟩
  obtain ⟨h1, h2⟩ := hw.ar_moves ha hm
  obtain ⟨ok1, h3, h4, h5⟩ := hd _ _ w1 ⟨⟨_, _, _, _, _, _, h1⟩, ⟨hg.ar.look r, hg.ep, hg.tb⟩⟩ h2
  exact ⟨v, ok1, rfl, hv, h3, h4, fun k hk1 => (h5 k hk1).elim id (fun h6 => hk k ((hw.ok k).2 h6))⟩
/-- The steps of a way, in new blocks. -/
def VStepsN (N : Nat) (l : List Stp) (ok : Nat → Prop) (v : Value) (w : World) : Prop := kStp.R 134 w N (fun k => ¬ ok k) v l
theorem TPost.imp {X α : Type} {Sh : X → (Nat → Prop) → World → Prop} {tb : Nat} {work : Value} {V V1 : α → (Nat → Prop) → Value → World → Prop} {ok : Nat → Prop} {w : World} {res : Out α × TS X} {e : Ending} {w1 : World} (h : TPost Sh tb work V ok w res e w1) (hv : ∀ a k v w, V a k v w → V1 a k v w) : TPost Sh tb work V1 ok w res e w1 := by
  obtain ⟨ok1, h1, h2, h3⟩ := h
  refine ⟨ok1, h1, h2, ?_⟩
  obtain ⟨o, t⟩ := res
  cases o with
  | ret a => obtain ⟨v, he, hv1⟩ := h3; exact ⟨v, he, hv _ _ _ _ hv1⟩
  | wait => exact h3
def VSteps (l : List Stp) (ok : Nat → Prop) (v : Value) (w : World) : Prop := kStp.R 134 w 0 (fun k => ¬ ok k) v l

theorem info_step : (Tryz.prog.info? 134).map (fun i => (i.zero, i.size, i.bytes)) = some (some (.agg #[.int .i64 0, .bool false, .bool false, .slice none 0 0, .slice none 0 0, .slice none 0 0, .int .i64 0]), 7, 96) := by kernel_rfl
structure PathAt (p tb : Nat) (work : Value) (me : Int) (bt : Nat) (key : Int) (ok : Nat → Prop) (w : World) (res : Out (List Stp) × TS Ws) (f : Nat) (v5 v6 : Value) (wr : World) : Prop where
  out : ∃ ok1 s1 acc r, v6 = .int .i64 r ∧ kStp.R 134 wr w.heap.size (fun k => ¬ ok1 k ∧ k ≠ bt) v5 acc ∧ IsRun (shW p) tb work ok1 s1 wr ∧ Moves ok ok1 w wr ∧ wr.heap[bt]? = some (taskO tb p me) ∧ ¬ ok1 bt ∧ acc.length + f < 900000 ∧ pathT key f r acc s1 = some res

set_option maxHeartbeats 4000000 in
set_option maxRecDepth 100000 in
theorem path_callsN (p tb : Nat) (work : Value) (me key : Int) (ok : Nat → Prop) (s : TS Ws) (w : World) (h : IsRun (shW p) tb work ok s w) (f : Nat) (hf : f < 900000) (res : Out (List Stp) × TS Ws) (hr : pathT key f s.sh.entry [] s = some res) :
    Calls Tryz.prog 98 #[taskV tb p me, .int .i64 key] w (TPost (shW p) tb work (VStepsN w.heap.size) ok w res) := by
  have h1 := h.below (shW_shared p) (below_alloc (Below.refl _ _) (taskO tb p me))
  have HN : ¬ ok w.heap.size := fun hk => by have := h.lt (shW_shared p) _ hk; omega
  obtain ⟨pA, c0, c5, _, _⟩ := look_task h1 0
  have HP : Aside0 (PathAt p tb work me w.heap.size key ok w res f (.slice none 0 0) (.int .i64 s.sh.entry) (w.alloc (taskO tb p me))) := ⟨⟨ok, s, [], _, rfl, Kd.R_nil _ _ _ _ _, h1, (Moves.refl ok w).alloc _, blk_new w _, HN, by simpa using hf, hr⟩⟩
  have hbt := (blk_cell (blk_new w (taskO tb p me)) 1).trans (rfl : _ = some (Value.pointer (some ⟨p, 0, none⟩)))
  unfold taskO at HP hbt c0 c5
  unfold taskV
  clear h h1 hr HN
  go_enter Tryz.func98, Tryz.ntmps98
  go_upto_region 2 with fail
  generalize w.alloc (.cells #[.pointer (some ⟨tb, 0, none⟩), .pointer (some ⟨p, 0, none⟩), .int .i64 me] 84) = w1 at HP hbt c0 c5 ⊢
  generalize hbb : w.heap.size = bt at HP hbt ⊢
  go_wp2_with fail
  clear c0 c5 hbt
  go_loopg [5, 6] f (fun g v5 v6 wr => Aside0 (PathAt p tb work me bt key ok w res g v5 v6 wr))
  case atStart => exact HP
  case round =>
    cases gk with
    | zero => obtain ⟨ok1, s1, acc, r, _, _, _, _, _, _, _, hr⟩ := hrel.out.out; cases hr
    | succ g =>
    obtain ⟨ok1, s1, acc, r, rfl, hR, hI, hM, hB, hN, hL, hr⟩ := hrel.out.out
    obtain ⟨pA, c0, _, hsm, hlook⟩ := look_task hI r
    have HL := Aside0.mk hlook
    have R0 := Aside0.mk hR
    have I0 := Aside0.mk hI
    have M0 := Aside0.mk hM
    have B0 := Aside0.mk hB
    have N0 := Aside0.mk hN
    have L0 := Aside0.mk hL
    have HR := Aside0.mk hr
    have cb := (blk_cell hB 1).trans (rfl : _ = some (Value.pointer (some ⟨p, 0, none⟩)))
    clear hR hI hM hB hN hL hr hrel hlook
    go_upto_region 4 with (go_at_call 81; refine HL.out.mono ?_; rintro e w2 ⟨v2, ok2, rfl, ⟨pv, kv, yv, rfl, hp, hk, hy⟩, hI2, hM2, hO2⟩; have O2 := Aside0.mk hO2; obtain ⟨Ap, cp, rfl⟩ := Kd.R_slice hp; obtain ⟨Ak, ck, rfl⟩ := Kd.R_slice hk; obtain ⟨Ay, cy, rfl⟩ := Kd.R_slice hy; have P2 := Aside0.mk hp; have K2 := Aside0.mk hk; have Y2 := Aside0.mk hy; have I2 := Aside0.mk hI2; have M2 := Aside0.mk hM2; clear hp hk hy hI2 hM2 hO2 HL)
    have HS := Aside0.mk hsm
    clear hsm c0 cb
    have hr1 := HR.out
    unfold pathT prBind lookT at hr1
    simp only at hr1
    generalize (s1.sh.ar.look r).1 = n at P2 K2 Y2 HS hr1 ⊢
    generalize ({ s1 with sh := { s1.sh with ar := (s1.sh.ar.look r).2 } } : TS Ws) = s2 at I2 hr1
    have HR1 := Aside0.mk hr1
    obtain ⟨A5, c5, rfl⟩ := Kd.R_slice R0.out
    have hlt1 : ∀ k, ok2 k → k < w2.heap.size := I2.out.lt (shW_shared p)
    have hb2 : w2.heap[bt]? = some (taskO tb p me) := (M2.out.block bt (blk_lt B0.out) N0.out).trans B0.out
    have N2 : Aside0 (¬ ok2 bt) := ⟨fun h => (M2.out.fresh bt h).elim N0.out (fun h2 => by have := blk_lt B0.out; omega)⟩
    have R2 : kStp.R 134 w2 w.heap.size (fun k => ¬ ok2 k ∧ k ≠ bt ∧ k ≠ w2.heap.size ∧ k < wr.heap.size) (.slice A5 acc.length c5) acc := Kd.R_mono (Kd.R_step (Kd.R_bound R0.out) (fun k hk hlt => M2.out.block k hlt hk.1.1)) (fun k hk => ⟨fun h => (M2.out.fresh k h).elim hk.1.1 (fun h2 => by have := hk.2.2.1; omega), hk.1.2, by have := hk.2.2.1; have := M2.out.size; omega, hk.2.2.1⟩)
    have hnd : ∀ k, wr.heap.size ≤ k ∧ k < w2.heap.size → (¬ ok2 k ∧ k ≠ bt ∧ k ≠ w2.heap.size) ∧ some k ≠ (Value.slice A5 acc.length c5).ownBlock := fun k hk => ⟨⟨fun h => by have := I0.out.lt (shW_shared p) k (O2.out k h); omega, fun e => by have := blk_lt B0.out; omega, by omega⟩, fun e => by have := Kd.R_lt R0.out k e.symm; omega⟩
    have R3 := Aside0.mk (Kd.R_alloc (Kd.R_mono R2 (fun k hk => ⟨hk.1, hk.2.1, hk.2.2.1⟩) : kStp.R 134 w2 w.heap.size (fun k => ¬ ok2 k ∧ k ≠ bt ∧ k ≠ w2.heap.size) (.slice A5 acc.length c5) acc) (.cells #[.int .i64 r, .bool n.inner, .bool n.tagged, .slice Ap n.pairs.length cp, .slice Ak n.keys.length ck, .slice Ay n.ways.length cy, .int .i64 0] 134))
    have P3 := Aside0.mk (Kd.R_alloc (Kd.R_lower (Kd.R_mono (Kd.R_bound P2.out) (fun k hk => hnd k ⟨hk.1, hk.2.2.1⟩)) M0.out.size) (.cells #[.int .i64 r, .bool n.inner, .bool n.tagged, .slice Ap n.pairs.length cp, .slice Ak n.keys.length ck, .slice Ay n.ways.length cy, .int .i64 0] 134))
    have K3 := Aside0.mk (Kd.R_alloc (Kd.R_lower (Kd.R_mono (Kd.R_bound K2.out) (fun k hk => hnd k ⟨hk.1, hk.2.2.1⟩)) M0.out.size) (.cells #[.int .i64 r, .bool n.inner, .bool n.tagged, .slice Ap n.pairs.length cp, .slice Ak n.keys.length ck, .slice Ay n.ways.length cy, .int .i64 0] 134))
    have Y3 := Aside0.mk (Kd.R_alloc (Kd.R_lower (Kd.R_mono (Kd.R_bound Y2.out) (fun k hk => hnd k ⟨hk.1, hk.2.2.1⟩)) M0.out.size) (.cells #[.int .i64 r, .bool n.inner, .bool n.tagged, .slice Ap n.pairs.length cp, .slice Ak n.keys.length ck, .slice Ay n.ways.length cy, .int .i64 0] 134))
    have I3 := Aside0.mk (I2.out.below (shW_shared p) (below_alloc (Below.refl _ _) (.cells #[.int .i64 r, .bool n.inner, .bool n.tagged, .slice Ap n.pairs.length cp, .slice Ak n.keys.length ck, .slice Ay n.ways.length cy, .int .i64 0] 134)))
    have M3 := Aside0.mk ((M0.out.trans M2.out).alloc (.cells #[.int .i64 r, .bool n.inner, .bool n.tagged, .slice Ap n.pairs.length cp, .slice Ak n.keys.length ck, .slice Ay n.ways.length cy, .int .i64 0] 134))
    have B3 := Aside0.mk (blk_alloc hb2 (.cells #[.int .i64 r, .bool n.inner, .bool n.tagged, .slice Ap n.pairs.length cp, .slice Ak n.keys.length ck, .slice Ay n.ways.length cy, .int .i64 0] 134))
    have S3 := Aside0.mk (blk_new w2 (.cells #[.int .i64 r, .bool n.inner, .bool n.tagged, .slice Ap n.pairs.length cp, .slice Ak n.keys.length ck, .slice Ay n.ways.length cy, .int .i64 0] 134))
    have hs7 : Aside0 (¬ ok2 w2.heap.size) := ⟨fun h => by have := I2.out.lt (shW_shared p) _ h; omega⟩
    have hne : Aside0 (bt ≠ w2.heap.size) := ⟨by have := blk_lt hb2; omega⟩
    have hsw : Aside0 (w.heap.size ≤ w2.heap.size) := ⟨(M0.out.trans M2.out).size⟩
    clear R2 hnd hlt1 hb2 R0 I0 M0 B0 N0 P2 K2 Y2 I2 M2 O2 hr1 HR
    generalize w2.alloc (.cells #[.int .i64 r, .bool n.inner, .bool n.tagged, .slice Ap n.pairs.length cp, .slice Ak n.keys.length ck, .slice Ay n.ways.length cy, .int .i64 0] 134) = w3 at R3 P3 K3 Y3 I3 M3 B3 S3 ⊢
    generalize w2.heap.size = b7 at R3 P3 K3 Y3 S3 hs7 hne hsw ⊢
    have k1 := (blk_cell S3.out 1).trans (rfl : _ = some (Value.bool n.inner))
    have HH := HR1.out
    clear HR1
    cases hin : n.inner with
    | false =>
      rw [hin] at k1
      rw [if_pos hin] at HH
      injection HH with HH
      have HRES := Aside0.mk HH
      have HIN := Aside0.mk hin
      clear HH
      have k0 := (blk_cell S3.out 0).trans (rfl : _ = some (Value.int .i64 r))
      have k2 := (blk_cell S3.out 2).trans (rfl : _ = some (Value.bool n.tagged))
      have k3 := (blk_cell S3.out 3).trans (rfl : _ = some (Value.slice Ap n.pairs.length cp))
      have k4 := (blk_cell S3.out 4).trans (rfl : _ = some (Value.slice Ak n.keys.length ck))
      have k5 := (blk_cell S3.out 5).trans (rfl : _ = some (Value.slice Ay n.ways.length cy))
      have k6 := (blk_cell S3.out 6).trans (rfl : _ = some (Value.int .i64 0))
      have E3 : Aside0 (kStp.M w3 w.heap.size (fun k => (¬ ok2 k ∧ k ≠ bt ∧ k ≠ b7) ∧ some k ≠ (Value.slice A5 acc.length c5).ownBlock) ⟨r, n, 0⟩ [.int .i64 r, .bool false, .bool n.tagged, .slice Ap n.pairs.length cp, .slice Ak n.keys.length ck, .slice Ay n.ways.length cy, .int .i64 0]) := ⟨by rw [← HIN.out]; exact kStp_M (s := ⟨r, n, 0⟩) (kNd_M P3.out K3.out Y3.out)⟩
      clear hin
      go_upto_region 7 with ((with_reducible refine gate_builtin (b := .append) (xs := #[.tmp 32, .tmp 34]) rfl ?_); at_builtin; refine Kd.R_append kStp (w0 := w3) w.heap.size rfl (.tmp 32) (.tmp 34) 172 134 _ 96 rfl Tryz.underlying172 info_step rfl (by decide) (by decide) (.slice A5 acc.length c5) acc ⟨r, n, 0⟩ _ (fun k => (¬ ok2 k ∧ k ≠ bt ∧ k ≠ b7)) (fun k => (¬ ok2 k ∧ k ≠ bt ∧ k ≠ b7) ∧ some k ≠ (Value.slice A5 acc.length c5).ownBlock) rfl rfl E3.out (fun _ hk => hk) (fun k hk => ⟨fun h => by have := I3.out.lt (shW_shared p) k h; omega, fun h => by have := blk_lt B3.out; omega, fun h => by have := blk_lt S3.out; omega⟩) R3.out (Below.refl _ _) M3.out.size (by have := L0.out; omega) ?_; intro v5 w5 ho hb5 hg hat; obtain ⟨A6, c6, rfl⟩ := Kd.R_slice ho; have m0_ := Aside0.mk ho; have m1_ := Aside0.mk hg; clear ho hb5 hg hat)
      have hob : ∀ k, ok2 k → some k ≠ (Value.slice A5 acc.length c5).ownBlock := fun k hk e => (R3.out.1 k e.symm).1 hk
      have I5 := Aside0.mk (I3.out.step (shW_shared p) m1_.out.size (fun k hk hlt => m1_.out.block k hlt (hob k hk)))
      have M5 := Aside0.mk (M3.out.grown m1_.out (fun k hk => .inr (Kd.R_base R3.out k hk)))
      have S5 := Aside0.mk (blk_grown S3.out m1_.out (fun e => (R3.out.1 b7 e.symm).2.2 rfl))
      clear k0 k1 k2 k3 k4 k5 k6 hob
      have k1 := (blk_cell S5.out 1).trans (rfl : _ = some (Value.bool n.inner))
      rw [HIN.out] at k1
      go_wp2_with fail
      go_ret
      rw [← HRES.out]
      have hw0 : stpWay n key = 0 := by simp [stpWay, HIN.out]
      rw [hw0]
      have hlen : (acc ++ [(⟨r, n, 0⟩ : Stp)]).length = acc.length + 1 := by simp
      have h0 := m0_.out
      rw [hlen] at h0
      exact ⟨⟨ok2, M5.out, I5.out, _, rfl, Kd.R_lower (Kd.R_mono h0 (fun k hk => hk.1)) (Nat.le_of_eq hbb.symm)⟩⟩
    | true =>
      rw [hin] at k1
      rw [if_neg (by rw [hin]; decide)] at HH
      have HIN := Aside0.mk hin
      have hwy : stpWay n key = wayOf n.keys n.ways.length key := by simp [stpWay, hin]
      rw [hwy] at HH
      have HRES := Aside0.mk HH
      clear HH hwy hin
      have k4 := (blk_cell S3.out 4).trans (rfl : _ = some (Value.slice Ak n.keys.length ck))
      have k5 := (blk_cell S3.out 5).trans (rfl : _ = some (Value.slice Ay n.ways.length cy))
      have hkc := Aside0.mk (Kd.R_reads' K3.out).2.2
      go_upto_region 6 with (go_at_call 116; refine (inner_way Ak Ay ck n.ways.length cy n.keys key _ hkc.out HS.out.keys HS.out.ways).mono ?_; rintro e w4 ⟨rfl, hb4⟩; have k6 := (blk_cell (blk_below S3.out hb4) 6).trans (rfl : _ = some (Value.int .i64 0)); have z6 := blk_frozen (blk_below S3.out hb4) 6; have X4 := Aside0.mk hb4; clear hb4)
      generalize hwyv : wayOf n.keys n.ways.length key = wy at HRES ⊢
      have hob7 : ∀ k, ok2 k → k ≠ b7 := fun k hk e => hs7.out (e ▸ hk)
      have R5 := Aside0.mk (Kd.R_far (Kd.R_below R3.out X4.out) (p := ⟨b7, 6, none⟩) (fun k hk => hk.2.2) (.int .i64 wy))
      have P5 := Aside0.mk (Kd.R_far (Kd.R_below P3.out X4.out) (p := ⟨b7, 6, none⟩) (fun k hk => hk.1.2.2) (.int .i64 wy))
      have K5 := Aside0.mk (Kd.R_far (Kd.R_below K3.out X4.out) (p := ⟨b7, 6, none⟩) (fun k hk => hk.1.2.2) (.int .i64 wy))
      have Y5 := Aside0.mk (Kd.R_far (Kd.R_below Y3.out X4.out) (p := ⟨b7, 6, none⟩) (fun k hk => hk.1.2.2) (.int .i64 wy))
      have I5 := Aside0.mk ((I3.out.below (shW_shared p) X4.out).far (shW_shared p) (p := ⟨b7, 6, none⟩) hs7.out (.int .i64 wy))
      have M5 := Aside0.mk ((M3.out.below X4.out).set (p := ⟨b7, 6, none⟩) (.inr hsw.out) (.int .i64 wy))
      have B5 := Aside0.mk (blk_far (blk_below B3.out X4.out) (p := ⟨b7, 6, none⟩) hne.out (.int .i64 wy))
      have S5 := Aside0.mk (blk_set (blk_below S3.out X4.out) 6 (.int .i64 wy))
      clear R3 P3 K3 Y3 I3 M3 B3 S3 k1 k4 k5 k6 z6 hkc hob7
      generalize w4.setCell ⟨b7, 6, none⟩ (.int .i64 wy) = w5 at R5 P5 K5 Y5 I5 M5 B5 S5 ⊢
      have k0 := (blk_cell S5.out 0).trans (rfl : _ = some (Value.int .i64 r))
      have k1 := (blk_cell S5.out 1).trans (rfl : _ = some (Value.bool n.inner))
      rw [HIN.out] at k1
      have k2 := (blk_cell S5.out 2).trans (rfl : _ = some (Value.bool n.tagged))
      have k3 := (blk_cell S5.out 3).trans (rfl : _ = some (Value.slice Ap n.pairs.length cp))
      have k4 := (blk_cell S5.out 4).trans (rfl : _ = some (Value.slice Ak n.keys.length ck))
      have k5 := (blk_cell S5.out 5).trans (rfl : _ = some (Value.slice Ay n.ways.length cy))
      have k6 := (blk_cell S5.out 6).trans (rfl : _ = some (Value.int .i64 wy))
      have E5 : Aside0 (kStp.M w5 w.heap.size (fun k => (¬ ok2 k ∧ k ≠ bt ∧ k ≠ b7) ∧ some k ≠ (Value.slice A5 acc.length c5).ownBlock) ⟨r, n, wy⟩ [.int .i64 r, .bool true, .bool n.tagged, .slice Ap n.pairs.length cp, .slice Ak n.keys.length ck, .slice Ay n.ways.length cy, .int .i64 wy]) := ⟨by rw [← HIN.out]; exact kStp_M (s := ⟨r, n, wy⟩) (kNd_M P5.out K5.out Y5.out)⟩
      go_upto_region 7 with ((with_reducible refine gate_builtin (b := .append) (xs := #[.tmp 32, .tmp 34]) rfl ?_); at_builtin; refine Kd.R_append kStp (w0 := w5) w.heap.size rfl (.tmp 32) (.tmp 34) 172 134 _ 96 rfl Tryz.underlying172 info_step rfl (by decide) (by decide) (.slice A5 acc.length c5) acc ⟨r, n, wy⟩ _ (fun k => (¬ ok2 k ∧ k ≠ bt ∧ k ≠ b7)) (fun k => (¬ ok2 k ∧ k ≠ bt ∧ k ≠ b7) ∧ some k ≠ (Value.slice A5 acc.length c5).ownBlock) rfl rfl E5.out (fun _ hk => hk) (fun k hk => ⟨fun h => by have := I5.out.lt (shW_shared p) k h; omega, fun h => by have := blk_lt B5.out; omega, fun h => by have := blk_lt S5.out; omega⟩) R5.out (Below.refl _ _) M5.out.size (by have := L0.out; omega) ?_; intro v5 w6 ho hb5 hg hat; obtain ⟨A6, c6, rfl⟩ := Kd.R_slice ho; have m0_ := Aside0.mk ho; have m1_ := Aside0.mk hg; clear ho hb5 hg hat)
      have hob : ∀ k, ok2 k → some k ≠ (Value.slice A5 acc.length c5).ownBlock := fun k hk e => (R5.out.1 k e.symm).1 hk
      have O6 := Aside0.mk m0_.out
      have I6 := Aside0.mk (I5.out.step (shW_shared p) m1_.out.size (fun k hk hlt => m1_.out.block k hlt (hob k hk)))
      have M6 := Aside0.mk (M5.out.grown m1_.out (fun k hk => .inr (Kd.R_base R5.out k hk)))
      have S6 := Aside0.mk (blk_grown S5.out m1_.out (fun e => (R5.out.1 b7 e.symm).2.2 rfl))
      have B6 := Aside0.mk (blk_grown B5.out m1_.out (fun e => (R5.out.1 bt e.symm).2.1 rfl))
      clear k0 k1 k2 k3 k4 k5 k6 hob R5 P5 K5 Y5 I5 M5 B5 S5 E5 m0_ m1_
      have k1 := (blk_cell S6.out 1).trans (rfl : _ = some (Value.bool n.inner))
      rw [HIN.out] at k1
      have k6 := (blk_cell S6.out 6).trans (rfl : _ = some (Value.int .i64 wy))
      go_upto_region 10 with fail
      have O8 := Aside0.mk (Kd.R_alloc (Kd.R_bound O6.out) (.cells #[.int .i64 wy] 3))
      have I8 := Aside0.mk (I6.out.below (shW_shared p) (below_alloc (Below.refl _ _) (.cells #[.int .i64 wy] 3)))
      have M8 := Aside0.mk (M6.out.alloc (.cells #[.int .i64 wy] 3))
      have S8 := Aside0.mk (blk_alloc S6.out (.cells #[.int .i64 wy] 3))
      have B8 := Aside0.mk (blk_alloc B6.out (.cells #[.int .i64 wy] 3))
      have W8 := Aside0.mk (blk_new w6 (.cells #[.int .i64 wy] 3))
      have N8 : Aside0 (¬ ok2 w6.heap.size) := ⟨fun h => by have := I6.out.lt (shW_shared p) _ h; omega⟩
      clear O6 I6 M6 S6 B6 k1 k6
      generalize w6.alloc (.cells #[.int .i64 wy] 3) = w8 at O8 I8 M8 S8 B8 W8 ⊢
      generalize w6.heap.size = b8 at O8 W8 N8 ⊢
      have c0 := (blk_cell B8.out 0).trans (rfl : _ = some (Value.pointer (some ⟨tb, 0, none⟩)))
      have hmf : ∀ (fn : Fn) (first cap : Array Value) (w : World), (Instr.makeFunc fn first cap).run Tryz.prog w = .ok (.func fn first cap) w := fun _ _ _ _ => rfl
      go_wp2_with fail
      have HH := HRES.out
      cases hd : wayT r wy s2 with
      | none => rw [hd] at HH; cases HH
      | some dres =>
        rw [hd] at HH
        have HRES2 := Aside0.mk HH
        have HD := Aside0.mk hd
        clear HH HRES hd
        refine (do_calls (shW_shared p) (fun x => ((x.ar.way r wy).1, { x with ar := (x.ar.way r wy).2 })) tb work ok2 s2 w8 117 #[.pointer (some ⟨bt, 0, none⟩), .pointer (some ⟨b7, 0, none⟩), .pointer (some ⟨b8, 0, none⟩)] I8.out (enters Tryz.func117 (by kernel_rfl) rfl _) (fun w9 okS hm hk hsh => ?hT) dres HD.out).mono ?_
        case hT =>
          have h1 := (blk_cell ((hm.block bt (blk_lt B8.out) N2.out).trans B8.out) 1).trans (rfl : _ = some (Value.pointer (some ⟨p, 0, none⟩)))
          have h2 := (blk_cell ((hm.block b7 (blk_lt S8.out) hs7.out).trans S8.out) 0).trans (rfl : _ = some (Value.int .i64 r))
          have h3 := (blk_cell ((hm.block b8 (blk_lt W8.out) N8.out).trans W8.out) 0).trans (rfl : _ = some (Value.int .i64 wy))
          exact path1_calls p s2.sh r wy w9 okS bt b7 b8 hsh h1 h2 h3
        rintro e w9 ⟨ok3, hm3, hi3, hres⟩
        have M9 := Aside0.mk (M8.out.trans hm3)
        have I9 := Aside0.mk hi3
        have O9 := Aside0.mk (Kd.R_mono (Kd.R_step (Kd.R_bound O8.out) (fun k hk hlt => hm3.block k hlt hk.1.1.1)) (fun k hk => (⟨fun h => (hm3.fresh k h).elim hk.1.1.1 (fun h2 => by have := hk.2.2.1; omega), hk.1.1.2.1⟩ : ¬ ok3 k ∧ k ≠ bt)))
        have B9 := Aside0.mk ((hm3.block bt (blk_lt B8.out) N2.out).trans B8.out)
        have N9 : Aside0 (¬ ok3 bt) := ⟨fun h => (hm3.fresh bt h).elim N2.out (fun h2 => by have := blk_lt B8.out; omega)⟩
        clear hm3 hi3 O8 I8 M8 S8 B8 W8 N8 c0
        obtain ⟨o, t9⟩ := dres
        cases o with
        | wait =>
          have hh := HRES2.out
          injection hh with hh
          subst hh
          obtain rfl : e = .panicked waitP := hres
          exact ⟨rfl, ⟨⟨ok3, M9.out, I9.out, rfl⟩⟩⟩
        | ret r1 =>
          obtain ⟨v, rfl, rfl⟩ : ∃ v, e = .returned v ∧ v = .int .i64 r1 := hres
          have hh := HRES2.out
          simp only at hh
          have HH := Aside0.mk hh
          clear hh HRES2
          dsimp only
          have hlen : (acc ++ [(⟨r, n, wy⟩ : Stp)]).length = acc.length + 1 := by simp
          rw [hlen] at O9
          by_cases hr0 : r1 = 0
          · subst hr0
            go_wp2_with fail
            go_ret
            have hh := HH.out
            simp only [if_true] at hh
            injection hh with hh
            rw [← hh]
            exact ⟨⟨ok3, M9.out, I9.out, _, rfl, Kd.R_lower (Kd.R_mono O9.out (fun k hk => hk.1)) (Nat.le_of_eq hbb.symm)⟩⟩
          · have hb : (r1 == 0) = false := by simpa using hr0
            have HR0 := Aside0.mk hr0
            clear hr0
            go_wp2_with fail
            go_roundg g
            case rel =>
              have hh := HH.out
              rw [if_neg HR0.out] at hh
              exact ⟨⟨ok3, t9, acc ++ [⟨r, n, wy⟩], r1, rfl, O9.out, I9.out, M9.out, B9.out, N9.out, by have := L0.out; rw [hlen]; omega, hh⟩⟩
            case measure => omega
theorem path_calls (p tb : Nat) (work : Value) (me key : Int) (ok : Nat → Prop) (s : TS Ws) (w : World) (h : IsRun (shW p) tb work ok s w) (f : Nat) (hf : f < 900000) (res : Out (List Stp) × TS Ws) (hr : pathT key f s.sh.entry [] s = some res) :
    Calls Tryz.prog 98 #[taskV tb p me, .int .i64 key] w (TPost (shW p) tb work VSteps ok w res) :=
  (path_callsN p tb work me key ok s w h f hf res hr).mono (fun _ _ hp => hp.imp (fun _ _ _ _ hv => Kd.R_lower hv (Nat.zero_le _)))
end Go.Proofs.YthlmgbdknjilpaaGreat.Tower
namespace Go.Proofs.YthlmgbdknjilpaaGreat.Tower
open Go Go.RowKit Go.Proofs.YthlmgbdknjilpaaGreatW.PrintWords Go.Proofs.YthlmgbdknjilpaaGreatW.PrintLast Go.Proofs.YthlmgbdknjilpaaGreatW.PrintMore Go.Proofs.YthlmgbdknjilpaaGreat.Own
set_option linter.unusedVariables false
set_option linter.unusedSimpArgs false

def sizeOfNd (n : Nd) : Nat := if n.inner then n.ways.length else n.pairs.length
def leastOf (a : Int) (n : Nd) (root : Bool) : Int := if root then (if n.inner then 2 else 0) else a
/-- What is wrong with a node: 0 nothing, 1 it is tagged, 2 it has too few entries. -/
def wrongOf (a : Int) (n : Nd) (root : Bool) : Int := if n.tagged then 1 else if (sizeOfNd n : Int) < leastOf a n root then 2 else 0

set_option maxHeartbeats 4000000 in
set_option maxRecDepth 100000 in
theorem mend_look (a : Int) (n : Nd) (root : Bool) (Ap Ak Ay : Option Addr) (cp ck cy : Nat) (w : World) (hb1 : n.pairs.length < 1000000) (hb2 : n.ways.length < 1000000) :
    Calls Tryz.prog 128 #[.int .i64 a, .agg #[.bool n.inner, .bool n.tagged, .slice Ap n.pairs.length cp, .slice Ak n.keys.length ck, .slice Ay n.ways.length cy], .bool root] w fun e w1 => e = .returned (.int .u8 (wrongOf a n root)) ∧ Below w.heap.size w w1 := by
  have HB := Aside0.mk (below_alloc (Below.refl w.heap.size w) (.cells #[.bool n.inner, .bool n.tagged, .slice Ap n.pairs.length cp, .slice Ak n.keys.length ck, .slice Ay n.ways.length cy] 119))
  cases hi : n.inner
  all_goals cases ht : n.tagged
  all_goals cases root
  all_goals
    rw [hi, ht] at HB
    have hw : ∀ rt, wrongOf a n rt = wrongOf a n rt := fun _ => rfl
    have HI := Aside0.mk hi
    have HT := Aside0.mk ht
    clear hi ht hw
    go_enter Tryz.func128, Tryz.ntmps128
    go_wp2_with fail
  all_goals
    go_ret
    refine ⟨ret_int ?_, HB.out⟩
    simp only [wrongOf, sizeOfNd, leastOf, HI.out, HT.out, if_true, Bool.false_eq_true, if_false] <;> first
      | rfl
      | (rw [if_pos (by omega)]; done)
      | (rw [if_neg (by omega)]; done)

def TMend6 : Bool × List (List Nat × List Nat) := (true, [([], []), ([], []), ([1], [1]), ([2], [2]), ([3], [3]), ([4], [4]), ([], []), ([], []), ([6, 7], [6, 7]), ([8], [8]), ([9], [9]), ([], []), ([11], [11]), ([5, 10, 12], [5, 10, 12]), ([0, 13, 0], [0]), ([13, 14, 0, 1, 2, 3, 4, 5, 6, 7, 8, 9, 10, 11, 12, 13, 14], [13])])
def BMend6 : List Nat := [0, 0, 2, 6, 14, 30, 0, 0, 192, 448, 960, 0, 2048, 8190, 16383, 32767]
theorem tabMend6 : rtab .any (opsOf Tryz.f107 6) = TMend6 := by kernel_rfl
theorem bitsMend6 : waitsOk TMend6.2 BMend6 = true := by kernel_rfl
/-- The first that is wrong on a way: where, and what (0: nothing). -/
def firstWrong (a : Int) : List Stp → Nat → Option (Nat × Int)
  | [], _ => none
  | s :: l, i => if wrongOf a s.node (i == 1) = 0 then firstWrong a l (i + 1) else some (i, wrongOf a s.node (i == 1))
/-- Nothing is wrong with those from 1 up to k. -/
def rightTo (a : Int) (l : List Stp) (k : Nat) : Prop := ∀ i s, 1 ≤ i → i < k → l[i]? = some s → wrongOf a s.node (i == 1) = 0

/-- The cells of a step. -/
theorem kStp_cells {w : World} {s : Stp} {c : List Value} (h : kStp.K w s c) : ∃ Ap cp Ak ck Ay cy, c = [.int .i64 s.ref, .bool s.node.inner, .bool s.node.tagged, .slice Ap s.node.pairs.length cp, .slice Ak s.node.keys.length ck, .slice Ay s.node.ways.length cy, .int .i64 s.way] := by
  obtain ⟨_, _, rfl, rfl, _, _, rfl, ⟨_, _, rfl, rfl, _, _, rfl, rfl, _, _, rfl, ⟨Ap, cp, rfl, _⟩, _, _, rfl, ⟨Ak, ck, rfl, _⟩, ⟨Ay, cy, rfl, _⟩⟩, rfl⟩ := h
  exact ⟨Ap, cp, Ak, ck, Ay, cy, rfl⟩
/-- In the midst of a look at a way. -/
structure MendAt (p tb : Nat) (work : Value) (me : Int) (bt : Nat) (ok : Nat → Prop) (w : World) (ok1 : Nat → Prop) (s1 : TS Ws) (l : List Stp) (v : Value) (wr : World) : Prop where
  run : IsRun (shW p) tb work ok1 s1 wr
  moves : Moves ok ok1 w wr
  box : wr.heap[bt]? = some (taskO tb p me)
  far : ¬ ok1 bt
  row : kStp.R 134 wr 0 (fun k => ¬ ok1 k) v l
theorem MendAt.below {p tb : Nat} {work : Value} {me : Int} {bt : Nat} {ok : Nat → Prop} {w : World} {ok1 : Nat → Prop} {s1 : TS Ws} {l : List Stp} {v : Value} {wr w2 : World} (h : MendAt p tb work me bt ok w ok1 s1 l v wr) (hb : Below wr.heap.size wr w2) : MendAt p tb work me bt ok w ok1 s1 l v w2 :=
  ⟨h.run.below (shW_shared p) hb, h.moves.below hb, blk_below h.box hb, h.far, Kd.R_below h.row hb⟩

set_option maxHeartbeats 4000000 in
set_option maxRecDepth 100000 in
/-- Where nothing is wrong on the way: it tells so. -/
theorem mend_right (p tb : Nat) (work : Value) (me key : Int) (ok : Nat → Prop) (s : TS Ws) (w : World) (h : IsRun (shW p) tb work ok s w) (f : Nat) (hf : f < 900000) (l : List Stp) (s1 : TS Ws) (hr : pathT key f s.sh.entry [] s = some (.ret l, s1)) (hl : l.length < 1000000) (hsm : ∀ (i : Nat) (q : Stp), l[i]? = some q → q.node.Small) (hw : rightTo s1.sh.a l l.length) :
    Calls Tryz.prog 107 #[taskV tb p me, .int .i64 key] w (TPost (shW p) tb work VBool ok w (.ret false, s1)) := by
  have h1 := h.below (shW_shared p) (below_alloc (Below.refl _ _) (taskO tb p me))
  have HN : Aside0 (¬ ok w.heap.size) := ⟨fun hk => by have := h.lt (shW_shared p) _ hk; omega⟩
  have HI := Aside0.mk h1
  have HM := Aside0.mk ((Moves.refl ok w).alloc (taskO tb p me))
  have HB := Aside0.mk (blk_new w (taskO tb p me))
  have HR := Aside0.mk hr
  have HW := Aside0.mk hw
  have HSM := Aside0.mk hsm
  have HLL := Aside0.mk hl
  unfold taskO at HI HM HB
  have HTV : taskV tb p me = .agg #[.pointer (some ⟨tb, 0, none⟩), .pointer (some ⟨p, 0, none⟩), .int .i64 me] := rfl
  rw [HTV]
  clear h h1 hr hw hsm hl HTV
  go_enter Tryz.func107, Tryz.ntmps107
  go_upto_region 1 with fail
  refine wp_loop_rounds 1 ?_
  rw [rounds_succ]
  generalize w.alloc (.cells #[.pointer (some ⟨tb, 0, none⟩), .pointer (some ⟨p, 0, none⟩), .int .i64 me] 84) = w1 at HI HM HB ⊢
  generalize hbb : w.heap.size = bt at HN HB ⊢
  have c0 := (blk_cell HB.out 0).trans (rfl : _ = some (Value.pointer (some ⟨tb, 0, none⟩)))
  have c1 := (blk_cell HB.out 1).trans (rfl : _ = some (Value.pointer (some ⟨p, 0, none⟩)))
  have c2 := (blk_cell HB.out 2).trans (rfl : _ = some (Value.int .i64 me))
  go_upto_region 2 with (go_at_call 98; refine (path_calls p tb work me key ok s _ HI.out f hf (.ret l, s1) HR.out).mono ?_; rintro e w2 ⟨ok1, hm, hi, v, rfl, hv⟩; obtain ⟨A, c, rfl⟩ := Kd.R_slice hv; have M2 := Aside0.mk (HM.out.trans hm); have I2 := Aside0.mk hi; have V2 := Aside0.mk hv; have B2 := Aside0.mk ((hm.block bt (blk_lt HB.out) HN.out).trans HB.out); have N2 : Aside0 (¬ ok1 bt) := ⟨fun h => (hm.fresh bt h).elim HN.out (fun h2 => by have := blk_lt HB.out; omega)⟩; clear hm hi hv)
  clear c0 c1 c2 HI HM HB HN
  have HE0 : Aside0 (MendAt p tb work me bt ok w ok1 s1 l (.slice A l.length c) w2) := ⟨⟨I2.out, M2.out, B2.out, N2.out, V2.out⟩⟩
  clear M2 I2 V2 B2 N2
  go_wp2_with fail
  go_loopw [6, 7, 8] (fun at_ what i wr => ∃ (k : Nat) (z : Int), 1 ≤ k ∧ i = .int .i64 k ∧ at_ = .int .i64 z ∧ what = .int .u8 0 ∧ (k = 1 ∨ k ≤ l.length) ∧ Aside0 (MendAt p tb work me bt ok w ok1 s1 l (.slice A l.length c) wr)) (fun _ _ i _ => l.length - (intOf i).toNat)
  case atStart => exact ⟨1, 0, Nat.le_refl _, rfl, rfl, rfl, .inl rfl, HE0⟩
  case round =>
    obtain ⟨k, z, hk1, rfl, rfl, rfl, hkl, HE⟩ := hrel
    clear HE0
    by_cases hlt : k < l.length
    · have d1 : decide ((k : Int) < (l.length : Int)) = true := decide_eq_true (by omega)
      have d2 : decide (k < l.length) = true := decide_eq_true hlt
      obtain ⟨q, hq⟩ : ∃ q, l[k]? = some q := ⟨l[k], List.getElem?_eq_getElem hlt⟩
      have HQ := Aside0.mk hq
      have HQS := Aside0.mk (HSM.out k q hq)
      have HQW : Aside0 (wrongOf s1.sh.a q.node ((k : Int) == 1) = 0) := ⟨by
        have := HW.out k q hk1 hlt hq
        have e : ((k : Int) == 1) = (k == 1) := by rw [Bool.eq_iff_iff]; simp; omega
        rw [e]; exact this⟩
      have hR := HE.out.row
      obtain ⟨g, rfl⟩ : ∃ g, A = some ⟨g, 0, none⟩ := by
        obtain ⟨g, cap, e1, _⟩ := Kd.R_form hR (by omega)
        injection e1 with e1 _ _
        exact ⟨g, e1⟩
      obtain ⟨cs, _, hM, hcc, _⟩ := Kd.R_elem hR q (k : Int) (by omega) (by omega)
      have hg : l.getD (k : Int).toNat q = q := by simp [List.getD_eq_getElem?_getD, hq]
      rw [hg] at hM
      obtain ⟨Ap, cp, Ak, ck, Ay, cy, rfl⟩ := kStp_cells (kStp.K_of_M hM)
      rw [show kStp.sz = 7 from rfl, Int.toNat_natCast] at hcc
      obtain ⟨_, hds, ⟨⟨_, _, _, _, _, _, hwa⟩, _⟩, _⟩ := HE.out.run.direct
      have HC := Aside0.mk (And.intro ((blk_cell HE.out.box 1).trans (rfl : _ = some (Value.pointer (some ⟨p, 0, none⟩)))) (And.intro ((blk_cell hwa.box 3).trans (rfl : _ = some (Value.int .i64 s1.sh.a))) (And.intro (hcc 1 _ rfl) (And.intro (hcc 2 _ rfl) (And.intro (hcc 3 _ rfl) (And.intro (hcc 4 _ rfl) (hcc 5 _ rfl)))))))
      have b0 : (0 : Int) ≤ (k : Int) := by omega
      have b1 : (k : Int) < (l.length : Int) := by omega
      clear hR hcc hM hwa hds hg hq
      go_upto_region 6 with fail
      refine start_ (n := 16) (S := fun w' => w'.cell? ⟨bt, 1, none⟩ = some (.pointer (some ⟨p, 0, none⟩)) ∧ w'.cell? ⟨p, 3, none⟩ = some (.int .i64 s1.sh.a) ∧ w'.cell? ⟨g, k * 7 + 1, none⟩ = some (.bool q.node.inner) ∧ w'.cell? ⟨g, k * 7 + 1 + 1, none⟩ = some (.bool q.node.tagged) ∧ w'.cell? ⟨g, k * 7 + 1 + 2, none⟩ = some (.slice Ap q.node.pairs.length cp) ∧ w'.cell? ⟨g, k * 7 + 1 + 3, none⟩ = some (.slice Ak q.node.keys.length ck) ∧ w'.cell? ⟨g, k * 7 + 1 + 4, none⟩ = some (.slice Ay q.node.ways.length cy)) (ds := [13]) #[false, false, false, false, false, false, false, false, false, false, false, false, false, false, false, false] (by kernel_rfl) rfl rfl HC.out (fun hHeld => ?_); refine with_tabW tabMend6 bitsMend6 (fun HT_ HW_ => ?_)
      have HE := Aside0.mk (HE.out.below (below_drew (Below.refl _ _)))
      clear HC
      generalize World.drew _ = w3 at HE hHeld ⊢
      refine pure_ (i := 0) (N := (some 25)) (v := ?_) (a' := ?_) #[true, false, false, false, false, false, false, false, false, false, false, false, false, false, false, false] rfl rfl (any_of HT_.out (by kernel_rfl)) (fun _ _ _ h => h) (Or.inl ⟨by rfl, ?_⟩) ?_ ?_
      rotate_left
      · intro w'
        go_simp
        with_reducible rfl
      rotate_left
      · simp only [Act.put, List.setIfInBounds_toArray, List.set_cons_zero, List.set_cons_succ, i64_w, i32_w]
        rfl
      refine pure_ (i := 1) (N := (some 26)) (v := ?_) (a' := ?_) #[true, true, false, false, false, false, false, false, false, false, false, false, false, false, false, false] rfl rfl (any_of HT_.out (by kernel_rfl)) (fun _ _ _ h => h) (Or.inl ⟨by rfl, ?_⟩) ?_ ?_
      rotate_left
      · intro w'
        go_simp
        with_reducible rfl
      rotate_left
      · simp only [Act.put, List.setIfInBounds_toArray, List.set_cons_zero, List.set_cons_succ, i64_w, i32_w]
        rfl
      refine take_ (i := 2) (N := (some 27)) (v := ?_) (a' := ?_) #[true, true, true, false, false, false, false, false, false, false, false, false, false, false, false, false] rfl rfl (take_ofW HT_.out HW_.out (by kernel_rfl)) (fun _ _ _ h => h) (Or.inl ⟨by rfl, ?_⟩) hHeld ?_ ?_
      rotate_left
      · rintro w' ⟨y0, y1, y2, y3, y4, y5, y6⟩
        go_simp
        with_reducible rfl
      rotate_left
      · simp only [Act.put, List.setIfInBounds_toArray, List.set_cons_zero, List.set_cons_succ, i64_w, i32_w]
        rfl
      refine pure_ (i := 3) (N := (some 28)) (v := ?_) (a' := ?_) #[true, true, true, true, false, false, false, false, false, false, false, false, false, false, false, false] rfl rfl (any_of HT_.out (by kernel_rfl)) (fun _ _ _ h => h) (Or.inl ⟨by rfl, ?_⟩) ?_ ?_
      rotate_left
      · intro w'
        go_simp
        with_reducible rfl
      rotate_left
      · simp only [Act.put, List.setIfInBounds_toArray, List.set_cons_zero, List.set_cons_succ, i64_w, i32_w]
        rfl
      refine pure_ (i := 4) (N := (some 29)) (v := ?_) (a' := ?_) #[true, true, true, true, true, false, false, false, false, false, false, false, false, false, false, false] rfl rfl (any_of HT_.out (by kernel_rfl)) (fun _ _ _ h => h) (Or.inl ⟨by rfl, ?_⟩) ?_ ?_
      rotate_left
      · intro w'
        go_simp
        with_reducible rfl
      rotate_left
      · simp only [Act.put, List.setIfInBounds_toArray, List.set_cons_zero, List.set_cons_succ, i64_w, i32_w]
        rfl
      refine take_ (i := 5) (N := (some 30)) (v := ?_) (a' := ?_) #[true, true, true, true, true, true, false, false, false, false, false, false, false, false, false, false] rfl rfl (take_ofW HT_.out HW_.out (by kernel_rfl)) (fun _ _ _ h => h) (Or.inl ⟨by rfl, ?_⟩) hHeld ?_ ?_
      rotate_left
      · rintro w' ⟨y0, y1, y2, y3, y4, y5, y6⟩
        go_simp
        with_reducible rfl
      rotate_left
      · simp only [Act.put, List.setIfInBounds_toArray, List.set_cons_zero, List.set_cons_succ, i64_w, i32_w]
        rfl
      refine pure_ (i := 6) (N := (some 31)) (v := ?_) (a' := ?_) #[true, true, true, true, true, true, true, false, false, false, false, false, false, false, false, false] rfl rfl (any_of HT_.out (by kernel_rfl)) (fun _ _ _ h => h) (Or.inl ⟨by rfl, ?_⟩) ?_ ?_
      rotate_left
      · intro w'
        go_simp
        with_reducible rfl
      rotate_left
      · simp only [Act.put, List.setIfInBounds_toArray, List.set_cons_zero, List.set_cons_succ, i64_w, i32_w]
        rfl
      refine pure_ (i := 7) (N := (some 32)) (v := ?_) (a' := ?_) #[true, true, true, true, true, true, true, true, false, false, false, false, false, false, false, false] rfl rfl (any_of HT_.out (by kernel_rfl)) (fun _ _ _ h => h) (Or.inl ⟨by rfl, ?_⟩) ?_ ?_
      rotate_left
      · intro w'
        go_simp
        with_reducible rfl
      rotate_left
      · simp only [Act.put, List.setIfInBounds_toArray, List.set_cons_zero, List.set_cons_succ, i64_w, i32_w]
        rfl
      refine pure_ (i := 8) (N := (some 33)) (v := ?_) (a' := ?_) #[true, true, true, true, true, true, true, true, true, false, false, false, false, false, false, false] rfl rfl (any_of HT_.out (by kernel_rfl)) (fun _ _ _ h => h) (Or.inl ⟨by rfl, ?_⟩) ?_ ?_
      rotate_left
      · intro w'
        go_simp
        with_reducible rfl
      rotate_left
      · simp only [Act.put, List.setIfInBounds_toArray, List.set_cons_zero, List.set_cons_succ, i64_w, i32_w]
        rfl
      refine pure_ (i := 9) (N := (some 34)) (v := ?_) (a' := ?_) #[true, true, true, true, true, true, true, true, true, true, false, false, false, false, false, false] rfl rfl (any_of HT_.out (by kernel_rfl)) (fun _ _ _ h => h) (Or.inl ⟨by rfl, ?_⟩) ?_ ?_
      rotate_left
      · intro w'
        go_simp
        with_reducible rfl
      rotate_left
      · simp only [Act.put, List.setIfInBounds_toArray, List.set_cons_zero, List.set_cons_succ, i64_w, i32_w]
        rfl
      refine take_ (i := 10) (N := (some 35)) (v := ?_) (a' := ?_) #[true, true, true, true, true, true, true, true, true, true, true, false, false, false, false, false] rfl rfl (take_ofW HT_.out HW_.out (by kernel_rfl)) (fun _ _ _ h => h) (Or.inl ⟨by rfl, ?_⟩) hHeld ?_ ?_
      rotate_left
      · rintro w' ⟨y0, y1, y2, y3, y4, y5, y6⟩
        go_simp
        with_reducible rfl
      rotate_left
      · simp only [Act.put, List.setIfInBounds_toArray, List.set_cons_zero, List.set_cons_succ, i64_w, i32_w]
        rfl
      refine pure_ (i := 11) (N := (some 36)) (v := ?_) (a' := ?_) #[true, true, true, true, true, true, true, true, true, true, true, true, false, false, false, false] rfl rfl (any_of HT_.out (by kernel_rfl)) (fun _ _ _ h => h) (Or.inl ⟨by rfl, ?_⟩) ?_ ?_
      rotate_left
      · intro w'
        go_simp
        with_reducible rfl
      rotate_left
      · simp only [Act.put, List.setIfInBounds_toArray, List.set_cons_zero, List.set_cons_succ, i64_w, i32_w]
        rfl
      refine pure_ (i := 12) (N := (some 37)) (v := ?_) (a' := ?_) #[true, true, true, true, true, true, true, true, true, true, true, true, true, false, false, false] rfl rfl (any_of HT_.out (by kernel_rfl)) (fun _ _ _ h => h) (Or.inl ⟨by rfl, ?_⟩) ?_ ?_
      rotate_left
      · intro w'
        go_simp
        with_reducible rfl
      rotate_left
      · simp only [Act.put, List.setIfInBounds_toArray, List.set_cons_zero, List.set_cons_succ, i64_w, i32_w]
        rfl
      refine last_ (i := 13) (N := (some 38)) #[true, true, true, true, true, true, true, true, true, true, true, true, true, true, false, false] rfl rfl (one_of HT_.out (by kernel_rfl)) (by decide) (fun K_ hK => ?_)
      refine call_ 128 #[.int .i64 s1.sh.a, .agg #[.bool q.node.inner, .bool q.node.tagged, .slice Ap q.node.pairs.length cp, .slice Ak q.node.keys.length ck, .slice Ay q.node.ways.length cy], .bool ((k : Int) == 1)] (by rfl) rfl ?hrun13 ?_
      (case hrun13 => first | (go_simp; done) | (go_simp; exact enters Tryz.func128 (by kernel_rfl) rfl _ _))
      refine (mend_look s1.sh.a q.node ((k : Int) == 1) Ap Ak Ay cp ck cy _ HQS.out.pairs HQS.out.ways).mono ?_
      rintro e w4 ⟨rfl, hb4⟩
      have HE4 := Aside0.mk (HE.out.below hb4)
      clear hb4
      refine ⟨_, rfl, ?_⟩
      refine hK.out _ _ ?_
      clear hK K_
      refine norm_ (a' := ?_) ?_ ?_
      rotate_left
      · show Act.put _ (some 38) _ = _
        simp only [Act.put, List.setIfInBounds_toArray, List.set_cons_zero, List.set_cons_succ, i64_w, i32_w]
        rfl
      refine pure_ (i := 14) (N := (some 6)) (v := ?_) (a' := ?_) #[true, true, true, true, true, true, true, true, true, true, true, true, true, true, true, false] rfl rfl (any_of HT_.out (by kernel_rfl)) (fun _ _ _ h => h) (Or.inl ⟨by rfl, ?_⟩) ?_ ?_
      rotate_left
      · intro w'
        go_simp
        with_reducible rfl
      rotate_left
      · simp only [Act.put, List.setIfInBounds_toArray, List.set_cons_zero, List.set_cons_succ, i64_w, i32_w]
        rfl
      refine pure_ (i := 15) (N := (some 7)) (v := ?_) (a' := ?_) #[true, true, true, true, true, true, true, true, true, true, true, true, true, true, true, true] rfl rfl (any_of HT_.out (by kernel_rfl)) (fun _ _ _ h => h) (Or.inl ⟨by rfl, ?_⟩) ?_ ?_
      rotate_left
      · intro w'
        go_simp
        with_reducible rfl
      rotate_left
      · simp only [Act.put, List.setIfInBounds_toArray, List.set_cons_zero, List.set_cons_succ, i64_w, i32_w]
        rfl
      refine done_ (done_of HT_.out (by kernel_rfl)) ?_
      rw [HQW.out]
      clear hHeld
      have HE := HE4
      clear HE4
      have hb5 : (k : Int) + 1 ≤ 9000000 := by have := HLL.out; omega
      go_wp2_with fail
      go_roundw
      case rel => exact ⟨k + 1, _, by omega, by go_num, rfl, rfl, .inr (by omega), HE⟩
      case measure => simp [intOf]; omega
    · have d1 : decide ((k : Int) < (l.length : Int)) = false := decide_eq_false (by omega)
      have d2 : decide (k < l.length) = false := decide_eq_false hlt
      go_wp2_with fail
      go_ret
      exact ⟨⟨ok1, HE.out.moves, HE.out.run, _, rfl, rfl⟩⟩

set_option maxHeartbeats 4000000 in
set_option maxRecDepth 100000 in
/-- Where the way waits: it waits. -/
theorem mend_wait (p tb : Nat) (work : Value) (me key : Int) (ok : Nat → Prop) (s : TS Ws) (w : World) (h : IsRun (shW p) tb work ok s w) (f : Nat) (hf : f < 900000) (s1 : TS Ws) (hr : pathT key f s.sh.entry [] s = some (.wait, s1)) :
    Calls Tryz.prog 107 #[taskV tb p me, .int .i64 key] w (TPost (shW p) tb work VBool ok w (.wait, s1)) := by
  have h1 := h.below (shW_shared p) (below_alloc (Below.refl _ _) (taskO tb p me))
  have HI := Aside0.mk h1
  have HM := Aside0.mk ((Moves.refl ok w).alloc (taskO tb p me))
  have HB := Aside0.mk (blk_new w (taskO tb p me))
  have HR := Aside0.mk hr
  unfold taskO at HI HM HB
  have HTV : taskV tb p me = .agg #[.pointer (some ⟨tb, 0, none⟩), .pointer (some ⟨p, 0, none⟩), .int .i64 me] := rfl
  rw [HTV]
  clear h h1 hr HTV
  go_enter Tryz.func107, Tryz.ntmps107
  go_upto_region 1 with fail
  refine wp_loop_rounds 1 ?_
  rw [rounds_succ]
  generalize w.alloc (.cells #[.pointer (some ⟨tb, 0, none⟩), .pointer (some ⟨p, 0, none⟩), .int .i64 me] 84) = w1 at HI HM HB ⊢
  generalize hbb : w.heap.size = bt at HB ⊢
  have c0 := (blk_cell HB.out 0).trans (rfl : _ = some (Value.pointer (some ⟨tb, 0, none⟩)))
  have c1 := (blk_cell HB.out 1).trans (rfl : _ = some (Value.pointer (some ⟨p, 0, none⟩)))
  have c2 := (blk_cell HB.out 2).trans (rfl : _ = some (Value.int .i64 me))
  go_wp2_with fail
  refine (path_calls p tb work me key ok s _ HI.out f hf (.wait, s1) HR.out).mono ?_
  rintro e w2 ⟨ok1, hm, hi, hres⟩
  obtain rfl : e = .panicked waitP := hres
  exact ⟨rfl, ⟨⟨ok1, HM.out.trans hm, hi, rfl⟩⟩⟩

/-- mend.Path, where nothing is to be fixed. -/
def mendT0 (key : Int) (f : Nat) : Pr Ws Bool := fun s => match pathT key f s.sh.entry [] s with
  | none => none
  | some (.wait, s1) => some (.wait, s1)
  | some (.ret l, s1) => if l.length < 1000000 ∧ (l.all fun q => decide (q.node.pairs.length < 1000000) && decide (q.node.keys.length < 1000000) && decide (q.node.ways.length < 1000000)) = true ∧ (firstWrong s1.sh.a (l.drop 1) 1).isNone = true then some (.ret false, s1) else none
theorem firstWrong_none {a : Int} : ∀ (l : List Stp) (i : Nat), (firstWrong a l i).isNone = true → ∀ (j : Nat) (s : Stp), l[j]? = some s → wrongOf a s.node (i + j == 1) = 0
  | [], _, _, _, _, h => by simp at h
  | q :: l, i, hn, j, s, h => by
    unfold firstWrong at hn
    by_cases hw : wrongOf a q.node (i == 1) = 0
    · rw [if_pos hw] at hn
      cases j with
      | zero =>
        simp at h
        subst h
        exact hw
      | succ j =>
        have := firstWrong_none l (i + 1) hn j s (by simpa using h)
        rw [show i + (j + 1) = i + 1 + j by omega]
        exact this
    · rw [if_neg hw] at hn
      cases hn
theorem mend0_calls (p tb : Nat) (work : Value) (me key : Int) (ok : Nat → Prop) (s : TS Ws) (w : World) (h : IsRun (shW p) tb work ok s w) (f : Nat) (hf : f < 900000) (res : Out Bool × TS Ws) (hr : mendT0 key f s = some res) :
    Calls Tryz.prog 107 #[taskV tb p me, .int .i64 key] w (TPost (shW p) tb work VBool ok w res) := by
  unfold mendT0 at hr
  cases hp : pathT key f s.sh.entry [] s with
  | none => rw [hp] at hr; cases hr
  | some r =>
    obtain ⟨o, s1⟩ := r
    rw [hp] at hr
    cases o with
    | wait =>
      injection hr with hr
      subst hr
      exact mend_wait p tb work me key ok s w h f hf s1 hp
    | ret l =>
      simp only at hr
      by_cases hc : l.length < 1000000 ∧ (l.all fun q => decide (q.node.pairs.length < 1000000) && decide (q.node.keys.length < 1000000) && decide (q.node.ways.length < 1000000)) = true ∧ (firstWrong s1.sh.a (l.drop 1) 1).isNone = true
      · rw [if_pos hc] at hr
        injection hr with hr
        subst hr
        refine mend_right p tb work me key ok s w h f hf l s1 hp hc.1 (fun i q hq => ?_) (fun i q h1 h2 hq => ?_)
        · have := List.all_eq_true.1 hc.2.1 q (List.mem_of_getElem? hq)
          simp only [Bool.and_eq_true, decide_eq_true_eq] at this
          exact ⟨this.1.1, this.1.2, this.2⟩
        · have := firstWrong_none _ _ hc.2.2 (i - 1) q (by rw [List.getElem?_drop, show 1 + (i - 1) = i by omega]; exact hq)
          rwa [show 1 + (i - 1) = i by omega] at this
      · rw [if_neg hc] at hr
        cases hr
end Go.Proofs.YthlmgbdknjilpaaGreat.Tower
