/- world.New, walked. -/
import Derived.Test.YtchjjoepikcmfaaGreatWorld
namespace Go.Proofs.YtchjjoepikcmfaaGreat.Tower
open Go Go.RowKit Go.Proofs.YtchjjoepikcmfaaGreatW.PrintWords Go.Proofs.YtchjjoepikcmfaaGreatW.PrintLast Go.Proofs.YtchjjoepikcmfaaGreatW.PrintMore Go.Proofs.YtchjjoepikcmfaaGreat.Own
set_option linter.unusedVariables false
set_option linter.unusedSimpArgs false

/-- What all share. -/
structure Ws where
  ar : Ar
  tb : Tb
  ep : Ep
  a : Int
  b : Int
  entry : Int
/-- The world in memory. -/
structure WorldAt (ok okA okR okE : Nat → Prop) (p pA pR pE : Nat) (x : Ws) (w : World) : Prop where
  ok : ∀ k, ok k ↔ k = p ∨ okA k ∨ okR k ∨ okE k
  nA : ¬ okA p
  nR : ¬ okR p
  nE : ¬ okE p
  AR : ∀ k, okA k → ¬ okR k
  AE : ∀ k, okA k → ¬ okE k
  RE : ∀ k, okR k → ¬ okE k
  box : w.heap[p]? = some (.cells #[.pointer (some ⟨pA, 0, none⟩), .pointer (some ⟨pR, 0, none⟩), .pointer (some ⟨pE, 0, none⟩), .int .i64 x.a, .int .i64 x.b, .int .i64 x.entry] 66 (0, 0))
  ar : IsArena okA pA x.ar w
  tb : IsTable okR pR x.tb w
  ep : IsEpochs okE pE x.ep w
def IsWorld (p : Nat) (x : Ws) (ok : Nat → Prop) (w : World) : Prop := ∃ okA okR okE pA pR pE, WorldAt ok okA okR okE p pA pR pE x w
section
variable {ok okA okR okE : Nat → Prop} {p pA pR pE : Nat} {x : Ws} {w w1 : World}
theorem WorldAt.lt (h : WorldAt ok okA okR okE p pA pR pE x w) : ∀ k, ok k → k < w.heap.size := fun k hk => by
  rcases (h.ok k).1 hk with rfl | hk | hk | hk
  · exact blk_lt h.box
  · exact h.ar.lt k hk
  · exact h.tb.lt k hk
  · exact h.ep.lt k hk
theorem WorldAt.step (h : WorldAt ok okA okR okE p pA pR pE x w) (hs : w.heap.size ≤ w1.heap.size) (hm : ∀ k, ok k → k < w.heap.size → w1.heap[k]? = w.heap[k]?) : WorldAt ok okA okR okE p pA pR pE x w1 :=
  { h with
    box := (hm p ((h.ok p).2 (.inl rfl)) (blk_lt h.box)).trans h.box
    ar := h.ar.step hs (fun k hk => hm k ((h.ok k).2 (.inr (.inl hk))))
    tb := h.tb.step hs (fun k hk => hm k ((h.ok k).2 (.inr (.inr (.inl hk)))))
    ep := h.ep.step hs (fun k hk => hm k ((h.ok k).2 (.inr (.inr (.inr hk))))) }
/-- The arena turns. -/
theorem WorldAt.ar_moves (h : WorldAt ok okA okR okE p pA pR pE x w) {okA1 : Nat → Prop} {a1 : Ar} (ha : IsArena okA1 pA a1 w1) (hm : Moves okA okA1 w w1) :
    WorldAt (fun k => k = p ∨ okA1 k ∨ okR k ∨ okE k) okA1 okR okE p pA pR pE { x with ar := a1 } w1 ∧ Moves ok (fun k => k = p ∨ okA1 k ∨ okR k ∨ okE k) w w1 := by
  have hf : ∀ k, k < w.heap.size → ¬ okA k → ¬ okA1 k := fun k hk hn h1 => (hm.fresh k h1).elim hn (fun h2 => by omega)
  refine ⟨{
    ok := fun k => Iff.rfl
    nA := hf p (blk_lt h.box) h.nA
    nR := h.nR
    nE := h.nE
    AR := fun k h1 h2 => hf k (h.tb.lt k h2) (fun h3 => h.AR k h3 h2) h1
    AE := fun k h1 h2 => hf k (h.ep.lt k h2) (fun h3 => h.AE k h3 h2) h1
    RE := h.RE
    box := (hm.block p (blk_lt h.box) h.nA).trans h.box
    ar := ha
    tb := h.tb.step hm.size (fun k hk hlt => hm.block k hlt (fun h3 => h.AR k h3 hk))
    ep := h.ep.step hm.size (fun k hk hlt => hm.block k hlt (fun h3 => h.AE k h3 hk)) }, ?_⟩
  exact ⟨hm.os, hm.tape, hm.output, hm.size, fun k hk hn => hm.block k hk (fun h3 => hn ((h.ok k).2 (.inr (.inl h3)))), fun k hk => by
    rcases hk with rfl | hk | hk | hk
    · exact .inl ((h.ok _).2 (.inl rfl))
    · exact (hm.fresh k hk).imp (fun h3 => (h.ok k).2 (.inr (.inl h3))) id
    · exact .inl ((h.ok k).2 (.inr (.inr (.inl hk))))
    · exact .inl ((h.ok k).2 (.inr (.inr (.inr hk))))⟩
/-- The table turns. -/
theorem WorldAt.tb_moves (h : WorldAt ok okA okR okE p pA pR pE x w) {okR1 : Nat → Prop} {t1 : Tb} (ha : IsTable okR1 pR t1 w1) (hm : Moves okR okR1 w w1) :
    WorldAt (fun k => k = p ∨ okA k ∨ okR1 k ∨ okE k) okA okR1 okE p pA pR pE { x with tb := t1 } w1 ∧ Moves ok (fun k => k = p ∨ okA k ∨ okR1 k ∨ okE k) w w1 := by
  have hf : ∀ k, k < w.heap.size → ¬ okR k → ¬ okR1 k := fun k hk hn h1 => (hm.fresh k h1).elim hn (fun h2 => by omega)
  refine ⟨{
    ok := fun k => Iff.rfl
    nA := h.nA
    nR := hf p (blk_lt h.box) h.nR
    nE := h.nE
    AR := fun k h1 h2 => hf k (h.ar.lt k h1) (fun h3 => h.AR k h1 h3) h2
    AE := h.AE
    RE := fun k h1 h2 => hf k (h.ep.lt k h2) (fun h3 => h.RE k h3 h2) h1
    box := (hm.block p (blk_lt h.box) h.nR).trans h.box
    ar := h.ar.step hm.size (fun k hk hlt => hm.block k hlt (fun h3 => h.AR k hk h3))
    tb := ha
    ep := h.ep.step hm.size (fun k hk hlt => hm.block k hlt (fun h3 => h.RE k h3 hk)) }, ?_⟩
  exact ⟨hm.os, hm.tape, hm.output, hm.size, fun k hk hn => hm.block k hk (fun h3 => hn ((h.ok k).2 (.inr (.inr (.inl h3))))), fun k hk => by
    rcases hk with rfl | hk | hk | hk
    · exact .inl ((h.ok _).2 (.inl rfl))
    · exact .inl ((h.ok k).2 (.inr (.inl hk)))
    · exact (hm.fresh k hk).imp (fun h3 => (h.ok k).2 (.inr (.inr (.inl h3)))) id
    · exact .inl ((h.ok k).2 (.inr (.inr (.inr hk))))⟩
/-- The epochs turn. -/
theorem WorldAt.ep_moves (h : WorldAt ok okA okR okE p pA pR pE x w) {okE1 : Nat → Prop} {t1 : Ep} (ha : IsEpochs okE1 pE t1 w1) (hm : Moves okE okE1 w w1) :
    WorldAt (fun k => k = p ∨ okA k ∨ okR k ∨ okE1 k) okA okR okE1 p pA pR pE { x with ep := t1 } w1 ∧ Moves ok (fun k => k = p ∨ okA k ∨ okR k ∨ okE1 k) w w1 := by
  have hf : ∀ k, k < w.heap.size → ¬ okE k → ¬ okE1 k := fun k hk hn h1 => (hm.fresh k h1).elim hn (fun h2 => by omega)
  refine ⟨{
    ok := fun k => Iff.rfl
    nA := h.nA
    nR := h.nR
    nE := hf p (blk_lt h.box) h.nE
    AR := h.AR
    AE := fun k h1 h2 => hf k (h.ar.lt k h1) (fun h3 => h.AE k h1 h3) h2
    RE := fun k h1 h2 => hf k (h.tb.lt k h1) (fun h3 => h.RE k h1 h3) h2
    box := (hm.block p (blk_lt h.box) h.nE).trans h.box
    ar := h.ar.step hm.size (fun k hk hlt => hm.block k hlt (fun h3 => h.AE k hk h3))
    tb := h.tb.step hm.size (fun k hk hlt => hm.block k hlt (fun h3 => h.RE k hk h3))
    ep := ha }, ?_⟩
  exact ⟨hm.os, hm.tape, hm.output, hm.size, fun k hk hn => hm.block k hk (fun h3 => hn ((h.ok k).2 (.inr (.inr (.inr h3))))), fun k hk => by
    rcases hk with rfl | hk | hk | hk
    · exact .inl ((h.ok _).2 (.inl rfl))
    · exact .inl ((h.ok k).2 (.inr (.inl hk)))
    · exact .inl ((h.ok k).2 (.inr (.inr (.inl hk))))
    · exact (hm.fresh k hk).imp (fun h3 => (h.ok k).2 (.inr (.inr (.inr h3)))) id⟩
end
theorem worldShared (p : Nat) : Shared (fun (x : Ws) ok w => IsWorld p x ok w) where
  step := fun h hs hm => by
    obtain ⟨okA, okR, okE, pA, pR, pE, h⟩ := h
    exact ⟨okA, okR, okE, pA, pR, pE, h.step hs hm⟩
  lt := fun h => by
    obtain ⟨okA, okR, okE, pA, pR, pE, h⟩ := h
    exact h.lt

def ndE (r : Int) : Nd := ⟨true, false, [], [], [r]⟩
/-- A new world. -/
def ws0 (a b : Int) (threads : Nat) (nodes records : Int) : Option Ws :=
  match (ar0 nodes).alloc nd0 with
  | none => none
  | some ((r, _), a1) => match a1.alloc (ndE r) with
    | none => none
    | some ((e, _), a2) => some ⟨a2, ⟨[], records⟩, ⟨0, List.replicate threads (-1), List.replicate threads []⟩, a, b, e⟩
structure MadeWorld (x : Ws) (w : World) (e : Ending) (w1 : World) : Prop where
  out : ∃ ok p, e = .returned (.tuple #[.pointer (some ⟨p, 0, none⟩), .int .i64 0]) ∧ IsWorld p x ok w1 ∧ (∀ k, ok k → w.heap.size ≤ k) ∧ Below w.heap.size w w1

theorem NdF.nil (D : Nat → Prop) (w : World) : NdF D nd0 (.agg #[.bool false, .bool false, .slice none 0 0, .slice none 0 0, .slice none 0 0]) w := ⟨none, 0, none, 0, none, 0, rfl, Nat.le_refl _, Nat.le_refl _, Nat.le_refl _, Kd.F_nil _ _ _, Kd.F_nil _ _ _, Kd.F_nil _ _ _⟩
theorem moves_outer {ok ok1 : Nat → Prop} {w0 w w1 : World} (h : Moves ok ok1 w w1) (hb : Below w0.heap.size w0 w) (hn : ∀ k, ok k → w0.heap.size ≤ k) : Below w0.heap.size w0 w1 :=
  ⟨h.os.trans hb.os, h.tape.trans hb.tape, h.output.trans hb.output, Nat.le_trans hb.size h.size, fun k hk => (h.block k (Nat.lt_of_lt_of_le hk hb.size) (fun h1 => by have := hn k h1; omega)).trans (hb.block k hk)⟩

/-- A row of numbers written out. -/
theorem lit_R {k : IntKind} (e : Nat) (w : World) (base : Nat) (xs : List Int) (hb : base ≤ w.heap.size) (hl : xs.length < 1000000) : (Kd.int k).R e (w.alloc (.cells (xs.map fun n => Value.int k n).toArray e)) base (fun q => q = w.heap.size) (.slice (some ⟨w.heap.size, 0, none⟩) xs.length xs.length) xs := by
  refine Kd.R_of_own ?_ (fun q hq => ?_)
  · have := World.ownsRow_lit (base := base) (e := e) (size := 1) w (xs.map fun n => Value.int k n).toArray xs.length hb (by simp [maxLen]; omega) (by simp)
    simpa [encs] using this
  · have : w.heap.size = q := by simpa [Value.ownBlock] using hq
    omega
theorem lit_F {k : IntKind} (e : Nat) (w : World) (xs : List Int) (hl : xs.length < 1000000) : (Kd.int k).F (w.alloc (.cells (xs.map fun n => Value.int k n).toArray e)) (fun q => q = w.heap.size) (some ⟨w.heap.size, 0, none⟩) xs.length xs := Kd.R_F (lit_R e w 0 xs (Nat.zero_le _) hl)
theorem WorldAt.entry_set {ok okA okR okE : Nat → Prop} {p pA pR pE : Nat} {x : Ws} {w : World} (h : WorldAt ok okA okR okE p pA pR pE x w) (r : Int) : WorldAt ok okA okR okE p pA pR pE { x with entry := r } (w.setCell ⟨p, 5, none⟩ (.int .i64 r)) :=
  { h with
    box := blk_set h.box 5 _
    ar := h.ar.step (by simp [World.setCell]) (fun k hk _ => Below.heap_setCell w ⟨p, 5, none⟩ _ k (fun e => h.nA ((show k = p from e) ▸ hk)))
    tb := h.tb.step (by simp [World.setCell]) (fun k hk _ => Below.heap_setCell w ⟨p, 5, none⟩ _ k (fun e => h.nR ((show k = p from e) ▸ hk)))
    ep := h.ep.step (by simp [World.setCell]) (fun k hk _ => Below.heap_setCell w ⟨p, 5, none⟩ _ k (fun e => h.nE ((show k = p from e) ▸ hk))) }

set_option maxHeartbeats 4000000 in
set_option maxRecDepth 100000 in
theorem world_new (a b : Int) (threads : Nat) (nodes records : Int) (w : World) (ha : 2 ≤ a) (ha1 : a ≤ 32) (hb : 2 * a - 1 ≤ b) (hb1 : b ≤ 32) (ht : 1 ≤ threads) (ht1 : threads ≤ 64) (hn : 2 ≤ nodes) (hn1 : nodes ≤ 65536) (hr : 0 ≤ records) (hr1 : records ≤ 65536) (x : Ws) (hx : ws0 a b threads nodes records = some x) :
    Calls Tryz.prog 49 #[.int .i64 a, .int .i64 b, .int .i64 threads, .int .i64 nodes, .int .i64 records] w (MadeWorld x w) := by
  have d1 : decide (a < 2) = false := decide_eq_false (by omega)
  have d2 : decide (a > 32) = false := decide_eq_false (by omega)
  have d3 : decide (b < 2 * a - 1) = false := decide_eq_false (by omega)
  have d4 : decide (b > 32) = false := decide_eq_false (by omega)
  have d5 : decide ((threads : Int) < 1) = false := decide_eq_false (by omega)
  have d6 : decide ((threads : Int) > 64) = false := decide_eq_false (by omega)
  have d7 : decide (nodes < 2) = false := decide_eq_false (by omega)
  have d8 : decide (nodes > 65536) = false := decide_eq_false (by omega)
  have d9 : decide (records < 0) = false := decide_eq_false (by omega)
  have d10 : decide (records > 65536) = false := decide_eq_false (by omega)
  have e2 : decide (32 < a) = false := d2
  have e4 : decide (32 < b) = false := d4
  have e6 : decide (64 < (threads : Int)) = false := d6
  have e8 : decide (65536 < nodes) = false := d8
  have e10 : decide (65536 < records) = false := d10
  have HX := Aside0.mk hx
  clear hx
  go_enter Tryz.func49, Tryz.ntmps49
  go_upto_region 3 with fail
  clear d1 d2 d3 d4 d5 d6 d7 d8 d9 d10 e2 e4 e6 e8 e10
  go_upto_region 4 with (first
    | (go_at_call 79; refine (arena_new nodes _ (by omega) hn1).mono ?_; rintro e w1 ⟨okA, pA, rfl, hA, hAf, hAb⟩; have A0 := Aside0.mk hA; have A1 := Aside0.mk hAf; have A2 := Aside0.mk hAb; clear hA hAf hAb)
    | (go_at_call 80; refine (record_new records _ hr hr1).mono ?_; rintro e w2 ⟨okR, pR, rfl, hR, hRf, hRb⟩; have R0 := Aside0.mk hR; have R1 := Aside0.mk hRf; have R2 := Aside0.mk hRb; clear hR hRf hRb)
    | (go_at_call 81; refine (epoch_new threads _ ht1).mono ?_; rintro e w3 ⟨okE, pE, rfl, hE, hEf, hEb⟩; have E0 := Aside0.mk hE; have E1 := Aside0.mk hEf; have E2 := Aside0.mk hEb; clear hE hEf hEb))
  have hA3 : IsArena okA pA (ar0 nodes) w3 := (A0.out.step R2.out.size (fun k _ hlt => R2.out.block k hlt)).step E2.out.size (fun k _ hlt => E2.out.block k hlt)
  have hR3 : IsTable okR pR ⟨[], records⟩ w3 := R0.out.step E2.out.size (fun k _ hlt => E2.out.block k hlt)
  have hB3 : Below w.heap.size w w3 := below_then (below_then A2.out A2.out.size R2.out) (below_then A2.out A2.out.size R2.out).size E2.out
  have hAl : ∀ k, okA k → w.heap.size ≤ k ∧ k < w1.heap.size := fun k hk => ⟨A1.out k hk, A0.out.lt k hk⟩
  have hRl : ∀ k, okR k → w1.heap.size ≤ k ∧ k < w2.heap.size := fun k hk => ⟨R1.out k hk, R0.out.lt k hk⟩
  have hEl : ∀ k, okE k → w2.heap.size ≤ k ∧ k < w3.heap.size := fun k hk => ⟨E1.out k hk, E0.out.lt k hk⟩
  have s1 := A2.out.size
  have s2 := R2.out.size
  have s3 := E2.out.size
  have hW3 : ∀ o : Obj, Below w.heap.size w (w3.alloc o) := fun o => below_then hB3 hB3.size (below_alloc (Below.refl _ _) o)
  have W4 : Aside0 (WorldAt (fun k => k = w3.heap.size ∨ okA k ∨ okR k ∨ okE k) okA okR okE w3.heap.size pA pR pE ⟨ar0 nodes, ⟨[], records⟩, ⟨0, List.replicate threads (-1), List.replicate threads []⟩, a, b, 0⟩ (w3.alloc (.cells #[.pointer (some ⟨pA, 0, none⟩), .pointer (some ⟨pR, 0, none⟩), .pointer (some ⟨pE, 0, none⟩), .int .i64 a, .int .i64 b, .int .i64 0] 66))) := ⟨{
    ok := fun k => Iff.rfl
    nA := fun h => by have := hAl _ h; omega
    nR := fun h => by have := hRl _ h; omega
    nE := fun h => by have := hEl _ h; omega
    AR := fun k h1 h2 => by have := hAl k h1; have := hRl k h2; omega
    AE := fun k h1 h2 => by have := hAl k h1; have := hEl k h2; omega
    RE := fun k h1 h2 => by have := hRl k h1; have := hEl k h2; omega
    box := blk_new w3 _
    ar := hA3.step (by simp) (fun k _ hlt => Below.heap_alloc _ _ _ hlt)
    tb := hR3.step (by simp) (fun k _ hlt => Below.heap_alloc _ _ _ hlt)
    ep := E0.out.step (by simp) (fun k _ hlt => Below.heap_alloc _ _ _ hlt) }⟩
  have F4 : Aside0 (∀ k, (k = w3.heap.size ∨ okA k ∨ okR k ∨ okE k) → w.heap.size ≤ k) := ⟨fun k hk => by
    rcases hk with rfl | hk | hk | hk
    · omega
    · exact (hAl k hk).1
    · have := (hRl k hk).1; omega
    · have := (hEl k hk).1; omega⟩
  have B4 := Aside0.mk (hW3 (.cells #[.pointer (some ⟨pA, 0, none⟩), .pointer (some ⟨pR, 0, none⟩), .pointer (some ⟨pE, 0, none⟩), .int .i64 a, .int .i64 b, .int .i64 0] 66))
  clear hA3 hR3 hB3 hAl hRl hEl s1 s2 s3 hW3 A0 A1 A2 R0 R1 R2 E0 E1 E2
  generalize w3.alloc (.cells #[.pointer (some ⟨pA, 0, none⟩), .pointer (some ⟨pR, 0, none⟩), .pointer (some ⟨pE, 0, none⟩), .int .i64 a, .int .i64 b, .int .i64 0] 66) = w4 at W4 B4 ⊢
  generalize w3.heap.size = p at W4 F4 ⊢
  generalize hok4 : (fun k => k = p ∨ okA k ∨ okR k ∨ okE k) = ok4 at W4
  have F4 : Aside0 (∀ k, ok4 k → w.heap.size ≤ k) := ⟨by rw [← hok4]; exact F4.out⟩
  clear hok4
  have hx := HX.out
  unfold ws0 at hx
  cases h1 : (ar0 nodes).alloc nd0 with
  | none => rw [h1] at hx; cases hx
  | some q1 =>
    obtain ⟨⟨r, rb⟩, a1⟩ := q1
    rw [h1] at hx
    simp only at hx
    cases h2 : a1.alloc (ndE r) with
    | none => rw [h2] at hx; cases hx
    | some q2 =>
      obtain ⟨⟨en, eb⟩, a2⟩ := q2
      rw [h2] at hx
      simp only at hx
      injection hx with hx
      have H1 := Aside0.mk h1
      have H2 := Aside0.mk h2
      have HX2 := Aside0.mk hx
      clear hx h1 h2 HX
      have c0 := (blk_cell W4.out.box 0).trans (rfl : _ = some (Value.pointer (some ⟨pA, 0, none⟩)))
      go_upto_region 5 with (go_at_call 68; refine (alloc_calls nd0 _ _ W4.out.ar (by simp [ar0]) (NdF.nil _ _) ⟨by simp [nd0], by simp [nd0], by simp [nd0]⟩ H1.out).mono ?_; rintro e w5 ⟨rfl, okA1, hA5, hM5⟩; have A5 := Aside0.mk hA5; have M5 := Aside0.mk hM5; clear hA5 hM5)
      clear c0
      have W5 := Aside0.mk (W4.out.ar_moves A5.out M5.out).1
      have N5 := Aside0.mk (W4.out.ar_moves A5.out M5.out).2
      have B5 := Aside0.mk (moves_outer N5.out B4.out F4.out)
      have F5 : Aside0 (∀ k, (k = p ∨ okA1 k ∨ okR k ∨ okE k) → w.heap.size ≤ k) := ⟨fun k hk => (N5.out.fresh k hk).elim (F4.out k) (fun h => Nat.le_trans B4.out.size h)⟩
      clear A5 M5 N5 W4 B4 F4
      have c0 := (blk_cell W5.out.box 0).trans (rfl : _ = some (Value.pointer (some ⟨pA, 0, none⟩)))
      have W6 := Aside0.mk (W5.out.step (w1 := w5.alloc (.cells #[.int .i64 r] 64)) (by simp) (fun k _ hlt => Below.heap_alloc _ _ _ hlt))
      have B6 := Aside0.mk (below_then B5.out B5.out.size (below_alloc (Below.refl _ _) (.cells #[.int .i64 r] 64)))
      have FF := Aside0.mk (lit_F (k := .i64) 64 w5 [r] (by simp))
      have NN : Aside0 (¬ okA1 w5.heap.size) := ⟨fun h => by have := W5.out.ar.lt _ h; omega⟩
      have L5 : Aside0 (a1.slots.length < 999999) := ⟨by
        have := H1.out
        unfold Ar.alloc at this
        rw [if_neg (by show ¬ nodes ≤ 0; omega)] at this
        simp [Ar.take, ar0] at this
        obtain ⟨_, rfl⟩ := this
        simp [Ar.put]⟩
      go_upto_region 6 with (go_at_call 68; refine (alloc_calls (ndE r) _ _ W6.out.ar L5.out ⟨none, 0, none, 0, _, 1, rfl, Nat.le_refl _, Nat.le_refl _, Nat.le_refl _, Kd.F_nil _ _ _, Kd.F_nil _ _ _, Kd.F_mono FF.out (fun k hk h => NN.out (hk ▸ h))⟩ ⟨by simp [ndE], by simp [ndE], by simp [ndE]⟩ H2.out).mono ?_; rintro e w7 ⟨rfl, okA2, hA7, hM7⟩; have A7 := Aside0.mk hA7; have M7 := Aside0.mk hM7; have c0 := (blk_cell (W6.out.ar_moves hA7 hM7).1.box 0).trans (rfl : _ = some (Value.pointer (some ⟨pA, 0, none⟩))); have c5 := (blk_cell (W6.out.ar_moves hA7 hM7).1.box 5).trans (rfl : _ = some (Value.int .i64 0)); have z5 := blk_frozen (W6.out.ar_moves hA7 hM7).1.box 5; clear hA7 hM7)
      have W7 := Aside0.mk ((W6.out.ar_moves A7.out M7.out).1.entry_set en)
      have N7 := Aside0.mk (W6.out.ar_moves A7.out M7.out).2
      have B7 := Aside0.mk (moves_outer N7.out B6.out F5.out)
      have F7 : Aside0 (∀ k, (k = p ∨ okA2 k ∨ okR k ∨ okE k) → w.heap.size ≤ k) := ⟨fun k hk => (N7.out.fresh k hk).elim (F5.out k) (fun h => Nat.le_trans B6.out.size h)⟩
      have B8 : Aside0 (Below w.heap.size w (w7.setCell ⟨p, 5, none⟩ (.int .i64 en))) := ⟨B7.out.setCell (show w.heap.size ≤ p from F5.out p (.inl rfl)) _⟩
      clear A7 M7 N7 W6 B6 F5 B7 c0 c5 z5
      go_wp2_with fail
      go_ret2
      exact ⟨⟨_, p, rfl, by rw [← HX2.out]; exact ⟨_, _, _, _, _, _, W7.out⟩, F7.out, B8.out⟩⟩
end Go.Proofs.YtchjjoepikcmfaaGreat.Tower
