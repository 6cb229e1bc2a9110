/- Places and nodes in memory (package arena), and what its functions do to them. -/
import Derived.Test.YtchjjoepikcmfaaGreatClone
import Derived.Test.YtchjjoepikcmfaaGreatWQPut
import Derived.Test.YtchjjoepikcmfaaGreatWApart
namespace Go.Proofs.YtchjjoepikcmfaaGreat.Tower
open Go Go.RowKit Go.Proofs.YtchjjoepikcmfaaGreatW.PrintWords Go.Proofs.YtchjjoepikcmfaaGreatW.PrintLast Go.Proofs.YtchjjoepikcmfaaGreatW.PrintMore Go.Proofs.YtchjjoepikcmfaaGreat.Own
set_option linter.unusedVariables false
set_option linter.unusedSimpArgs false

/-- A node, as it was made. -/
structure Nd where
  inner : Bool
  tagged : Bool
  pairs : List (Int × Int)
  keys : List Int
  ways : List Int
/-- A place. -/
structure Sl where
  node : Nd
  ways : List Int
  info : Int
  mark : Bool
  count : Int
  used : Bool
structure Ar where
  slots : List Sl
  free : List Int
  most : Int
  used : Int
  faults : Int
/-- The slices of a place, as values. -/
structure Lv where
  p : Value
  k : Value
  n : Value
  w : Value

def slotCells (s : Sl) (l : Lv) : List Value := [.bool s.node.inner, .bool s.node.tagged, l.p, l.k, l.n, l.w, .int .i64 s.info, .bool s.mark, .int .u32 s.count, .bool s.used]
def rowsOf (ss : List Sl) (lv : Nat → Lv) : List (List Value) := ss.zipIdx.map fun q => slotCells q.1 (lv q.2)
theorem rowsOf_length (ss : List Sl) (lv : Nat → Lv) : (rowsOf ss lv).length = ss.length := by simp [rowsOf]
theorem rowsOf_get {ss : List Sl} {lv : Nat → Lv} {i : Nat} {s : Sl} (h : ss[i]? = some s) : (rowsOf ss lv)[i]? = some (slotCells s (lv i)) := by
  simp [rowsOf, List.getElem?_zipIdx, h]
theorem rowsOf_set {ss : List Sl} {lv lv1 : Nat → Lv} {i : Nat} {s : Sl} (hi : i < ss.length) (hl : ∀ j, j ≠ i → lv1 j = lv j) : rowsOf (ss.set i s) lv1 = (rowsOf ss lv).set i (slotCells s (lv1 i)) := by
  refine List.ext_getElem? fun j => ?_
  by_cases hj : i = j
  · subst hj
    simp [rowsOf, List.getElem?_zipIdx, hi]
  · simp only [rowsOf, List.getElem?_map, List.getElem?_zipIdx, List.getElem?_set, if_neg hj]
    cases hs : ss[j]? with
    | none => simp
    | some q => simp [hl j (fun e => hj e.symm)]

/-- A slice that is read, in blocks of ok. -/
def SlF {α : Type} (d : Kd α) (w : World) (ok : Nat → Prop) (v : Value) (xs : List α) : Prop := ∃ A c, v = .slice A xs.length c ∧ xs.length ≤ c ∧ d.F w ok A xs.length xs
theorem SlF.step {α : Type} {d : Kd α} {w w1 : World} {ok : Nat → Prop} {v : Value} {xs : List α} (h : SlF d w ok v xs) (hm : ∀ k, ok k → k < w.heap.size → w1.heap[k]? = w.heap[k]?) : SlF d w1 ok v xs := by
  obtain ⟨A, c, rfl, hc, hf⟩ := h
  exact ⟨A, c, rfl, hc, Kd.F_step hf hm⟩
theorem SlF.mono {α : Type} {d : Kd α} {w : World} {ok ok1 : Nat → Prop} {v : Value} {xs : List α} (h : SlF d w ok v xs) (hk : ∀ k, ok k → k < w.heap.size → ok1 k) : SlF d w ok1 v xs := by
  obtain ⟨A, c, rfl, hc, hf⟩ := h
  exact ⟨A, c, rfl, hc, Kd.F_mono (Kd.F_bound hf) (fun k h => hk k h.1 h.2)⟩

def NodeAt (w : World) (ok : Nat → Prop) (n : Nd) (l : Lv) : Prop := SlF kPair w ok l.p n.pairs ∧ SlF (Kd.int .i64) w ok l.k n.keys ∧ SlF (Kd.int .i64) w ok l.n n.ways

/-- The arena in memory. ρ: what a block is for (1: the row of places; 2: the row of free ones; 3: nodes' rows; 4 + i: the ways of place i). -/
structure ArenaAt (ok : Nat → Prop) (pA : Nat) (sv fv : Value) (lv : Nat → Lv) (ρ : Nat → Nat) (a : Ar) (w : World) : Prop where
  own : ok pA
  role : ρ pA = 0
  lt : ∀ k, ok k → k < w.heap.size
  box : w.heap[pA]? = some (.cells #[sv, fv, .int .i64 a.most, .int .i64 a.used, .int .i64 a.faults] 115 (0, 0))
  rows : (Kd.raw 10).R 163 w 0 (fun k => ok k ∧ ρ k = 1) sv (rowsOf a.slots lv)
  free : (Kd.int .i64).Q 3 w 0 (fun k => ok k ∧ ρ k = 2) fv a.free
  node : ∀ i s, a.slots[i]? = some s → NodeAt w (fun k => ok k ∧ ρ k = 3) s.node (lv i)
  ways : ∀ i s, a.slots[i]? = some s → (Kd.int .i64).R 64 w 0 (fun k => ok k ∧ ρ k = 4 + i) (lv i).w s.ways

section
variable {ok : Nat → Prop} {pA : Nat} {sv fv : Value} {lv : Nat → Lv} {ρ : Nat → Nat} {a : Ar} {w w1 : World}
theorem ArenaAt.step (h : ArenaAt ok pA sv fv lv ρ a w) (hs : w.heap.size ≤ w1.heap.size) (hm : ∀ k, ok k → k < w.heap.size → w1.heap[k]? = w.heap[k]?) : ArenaAt ok pA sv fv lv ρ a w1 where
  own := h.own
  role := h.role
  lt := fun k hk => Nat.lt_of_lt_of_le (h.lt k hk) hs
  box := (hm pA h.own (h.lt pA h.own)).trans h.box
  rows := Kd.R_step h.rows (fun k hk hlt => hm k hk.1 hlt)
  free := Kd.Q_step h.free (fun k hk hlt => hm k hk.1 hlt)
  node := fun i s hi => ⟨(h.node i s hi).1.step (fun k hk hlt => hm k hk.1 hlt), (h.node i s hi).2.1.step (fun k hk hlt => hm k hk.1 hlt), (h.node i s hi).2.2.step (fun k hk hlt => hm k hk.1 hlt)⟩
  ways := fun i s hi => Kd.R_step (h.ways i s hi) (fun k hk hlt => hm k hk.1 hlt)
/-- A store into the arena's own box. -/
theorem ArenaAt.box_set (h : ArenaAt ok pA sv fv lv ρ a w) (j : Nat) (u : Value) (a1 : Ar) (hs : a1.slots = a.slots) (hf : a1.free = a.free)
    (hc : (#[sv, fv, .int .i64 a.most, .int .i64 a.used, .int .i64 a.faults] : Array Value).setIfInBounds j u = #[sv, fv, .int .i64 a1.most, .int .i64 a1.used, .int .i64 a1.faults]) :
    ArenaAt ok pA sv fv lv ρ a1 (w.setCell ⟨pA, j, none⟩ u) where
  own := h.own
  role := h.role
  lt := fun k hk => by simpa [World.setCell] using h.lt k hk
  box := by rw [← hc]; exact blk_set h.box j u
  rows := by rw [hs]; exact Kd.R_far h.rows (fun k hk e => by have := h.role; rw [← show k = pA from e, hk.2] at this; omega) u
  free := by rw [hf]; exact Kd.Q_far h.free (fun k hk e => by have := h.role; rw [← show k = pA from e, hk.2] at this; omega) u
  node := fun i s hi => by
    rw [hs] at hi
    have hn := h.node i s hi
    have hm : ∀ k, (ok k ∧ ρ k = 3) → k < w.heap.size → (w.setCell ⟨pA, j, none⟩ u).heap[k]? = w.heap[k]? := fun k hk _ => Below.heap_setCell w ⟨pA, j, none⟩ u k (fun e => by have := h.role; rw [← show k = pA from e, hk.2] at this; omega)
    exact ⟨hn.1.step hm, hn.2.1.step hm, hn.2.2.step hm⟩
  ways := fun i s hi => by
    rw [hs] at hi
    exact Kd.R_far (h.ways i s hi) (fun k hk e => by have := h.role; rw [← show k = pA from e, hk.2] at this; omega) u
/-- The cells of a place. -/
theorem ArenaAt.cells {n cap : Nat} {ad : Option Addr} (h : ArenaAt ok pA (.slice ad n cap) fv lv ρ a w) {i : Nat} {s : Sl} (hi : a.slots[i]? = some s) :
    n = a.slots.length ∧ ∃ g, ad = some ⟨g, 0, none⟩ ∧ ok g ∧ ρ g = 1 ∧ (∀ j u, (slotCells s (lv i))[j]? = some u → w.cell? ⟨g, i * 10 + j, none⟩ = some u) ∧ ∀ j, w.frozen? ⟨g, i * 10 + j, none⟩ = false := by
  have hr := Kd.R_reads' h.rows
  have hn : n = a.slots.length := by rw [hr.1, rowsOf_length]
  have hil := (List.getElem?_eq_some_iff.1 hi).1
  refine ⟨hn, ?_⟩
  cases ad with
  | none =>
    obtain ⟨_, inner, ho, _⟩ := h.rows
    rcases ho.2 with ⟨hv, h0⟩ | ⟨g, c1, cur, hv, _⟩
    · rw [rowsOf_length] at h0; omega
    · cases hv
  | some ad =>
    obtain ⟨g, rfl⟩ := Kd.R_head h.rows
    obtain ⟨c, hcl, hM, hcc, hfz⟩ := Kd.R_elem h.rows [] (i : Int) (by omega) (by omega)
    have hg := h.rows.1 g (by simp [Value.ownBlock])
    have he : (rowsOf a.slots lv).getD (i : Int).toNat [] = slotCells s (lv i) := by simp [List.getD_eq_getElem?_getD, rowsOf_get hi]
    rw [he] at hM
    have hc : c = slotCells s (lv i) := hM.1
    subst hc
    exact ⟨g, rfl, hg.1, hg.2, fun j u hu => by simpa [Kd.raw] using hcc j u hu, fun j => by simpa [Kd.raw] using hfz j⟩
end
theorem ArenaAt.mono {ok ok1 : Nat → Prop} {pA : Nat} {sv fv : Value} {lv : Nat → Lv} {ρ ρ1 : Nat → Nat} {a : Ar} {w : World} (h : ArenaAt ok pA sv fv lv ρ a w) (hok : ∀ k, ok k → ok1 k) (hlt : ∀ k, ok1 k → k < w.heap.size) (hρ : ∀ k, ok k → ρ1 k = ρ k) : ArenaAt ok1 pA sv fv lv ρ1 a w where
  own := hok _ h.own
  role := (hρ _ h.own).trans h.role
  lt := hlt
  box := h.box
  rows := Kd.R_mono h.rows (fun k hk => ⟨hok k hk.1, (hρ k hk.1).trans hk.2⟩)
  free := Kd.Q_mono h.free (fun k hk => ⟨hok k hk.1, (hρ k hk.1).trans hk.2⟩)
  node := fun i s hi => ⟨(h.node i s hi).1.mono (fun k hk _ => ⟨hok k hk.1, (hρ k hk.1).trans hk.2⟩), (h.node i s hi).2.1.mono (fun k hk _ => ⟨hok k hk.1, (hρ k hk.1).trans hk.2⟩), (h.node i s hi).2.2.mono (fun k hk _ => ⟨hok k hk.1, (hρ k hk.1).trans hk.2⟩)⟩
  ways := fun i s hi => Kd.R_mono (h.ways i s hi) (fun k hk => ⟨hok k hk.1, (hρ k hk.1).trans hk.2⟩)
theorem slotCells_one {w : World} {ok : Nat → Prop} {s : Sl} {l : Lv} {base : Nat} {e : Nat} {ok1 : Nat → Prop} (hn : NodeAt w ok s.node l) (hw : (Kd.int .i64).R e w base ok1 l.w s.ways) : ∀ u ∈ slotCells s l, u.oneCell' = true := by
  obtain ⟨⟨Ap, cp, ep, _⟩, ⟨Ak, ck, ek, _⟩, ⟨Ay, cy, ey, _⟩⟩ := hn
  obtain ⟨Aw, cw, ew⟩ := Kd.R_slice hw
  intro u hu
  simp only [slotCells, ep, ek, ey, ew, List.mem_cons, List.not_mem_nil, or_false] at hu
  rcases hu with rfl | rfl | rfl | rfl | rfl | rfl | rfl | rfl | rfl | rfl <;> rfl
/-- A run of cells of a place is written. -/
theorem ArenaAt.seg {ok : Nat → Prop} {pA g n cap : Nat} {fv : Value} {lv : Nat → Lv} {ρ : Nat → Nat} {a : Ar} {w : World} (h : ArenaAt ok pA (.slice (some ⟨g, 0, none⟩) n cap) fv lv ρ a w) {i : Nat} {s : Sl} (hi : a.slots[i]? = some s)
    (j : Nat) (seg : List Value) (hj : j + seg.length ≤ 10) (s1 : Sl) (lv1 : Nat → Lv) (hl : ∀ k, k ≠ i → lv1 k = lv k)
    (hc : slotCells s1 (lv1 i) = (slotCells s (lv i)).take j ++ seg ++ (slotCells s (lv i)).drop (j + seg.length))
    (hn : NodeAt w (fun k => ok k ∧ ρ k = 3) s1.node (lv1 i)) (hw : (Kd.int .i64).R 64 w 0 (fun k => ok k ∧ ρ k = 4 + i) (lv1 i).w s1.ways) :
    ArenaAt ok pA (.slice (some ⟨g, 0, none⟩) n cap) fv lv1 ρ { a with slots := a.slots.set i s1 } (w.setCells g (i * 10 + j) seg) := by
  obtain ⟨hnl, g0, e0, hg, hρ, hcc, hfz⟩ := h.cells hi
  injection e0 with e0
  injection e0 with e0 _ _
  subst e0
  have hil := (List.getElem?_eq_some_iff.1 hi).1
  obtain ⟨_, _, _, hsz⟩ := setCells_same g seg (i * 10 + j) w
  have hfar : ∀ k, k ≠ g → (w.setCells g (i * 10 + j) seg).heap[k]? = w.heap[k]? := fun k hk => setCells_far seg _ k hk
  have hne : ∀ k, ρ k ≠ 1 → k ≠ g := fun k hk e => hk (e ▸ hρ)
  have hrow := (Kd.R_seg (okp := fun _ => False) h.rows (i : Int) (by omega) (by omega) (c := slotCells s (lv i)) (seg := seg) (j := j) (by simp [slotCells, Kd.raw]) (by simpa [Kd.raw] using hcc) (by simpa [Kd.raw] using hj) (x' := slotCells s1 (lv1 i)) (by exact ⟨hc.symm, by rw [← hc]; rfl, by rw [← hc]; exact slotCells_one hn hw⟩) (fun k hk => hk.elim)).1
  have hset : (rowsOf a.slots lv).set (i : Int).toNat (slotCells s1 (lv1 i)) = rowsOf (a.slots.set i s1) lv1 := by
    rw [rowsOf_set hil hl]
    simp
  rw [hset] at hrow
  have hrow' : (Kd.raw 10).R 163 (w.setCells g (i * 10 + j) seg) 0 (fun k => ok k ∧ ρ k = 1) (.slice (some ⟨g, 0, none⟩) n cap) (rowsOf (a.slots.set i s1) lv1) := by simpa [Kd.raw] using hrow
  have hmove : ∀ r, r ≠ 1 → ∀ k, (ok k ∧ ρ k = r) → k < w.heap.size → (w.setCells g (i * 10 + j) seg).heap[k]? = w.heap[k]? := fun r hr k hk _ => hfar k (hne k (by rw [hk.2]; exact hr))
  have hget : ∀ {i1 : Nat} {s2 : Sl}, (a.slots.set i s1)[i1]? = some s2 → (i1 = i ∧ s2 = s1) ∨ (i1 ≠ i ∧ a.slots[i1]? = some s2) := fun {i1 s2} h2 => by
    by_cases he : i = i1
    · subst he
      rw [List.getElem?_set_self hil] at h2
      injection h2 with h2
      exact .inl ⟨rfl, h2.symm⟩
    · rw [List.getElem?_set_ne he] at h2
      exact .inr ⟨fun e => he e.symm, h2⟩
  exact {
    own := h.own
    role := h.role
    lt := fun k hk => by rw [hsz]; exact h.lt k hk
    box := (hfar pA (hne pA (by rw [h.role]; decide))).trans h.box
    rows := hrow'
    free := Kd.Q_step h.free (hmove 2 (by decide))
    node := fun i1 s2 h2 => by
      rcases hget h2 with ⟨rfl, rfl⟩ | ⟨hi1, h2⟩
      · exact ⟨hn.1.step (hmove 3 (by decide)), hn.2.1.step (hmove 3 (by decide)), hn.2.2.step (hmove 3 (by decide))⟩
      · rw [hl i1 hi1]
        have hn := h.node i1 s2 h2
        exact ⟨hn.1.step (hmove 3 (by decide)), hn.2.1.step (hmove 3 (by decide)), hn.2.2.step (hmove 3 (by decide))⟩
    ways := fun i1 s2 h2 => by
      rcases hget h2 with ⟨rfl, rfl⟩ | ⟨hi1, h2⟩
      · exact Kd.R_step hw (hmove _ (by omega))
      · rw [hl i1 hi1]
        exact Kd.R_step (h.ways i1 s2 h2) (hmove _ (by omega)) }
def IsArena (ok : Nat → Prop) (pA : Nat) (a : Ar) (w : World) : Prop := ∃ sv fv lv ρ, ArenaAt ok pA sv fv lv ρ a w
end Go.Proofs.YtchjjoepikcmfaaGreat.Tower
