/- Words and contracts that the claim stands on, part 3 of 7. -/
import Derived.Test.YthlmgbdknjilpaaGreatGAskKinds0
import Derived.Test.YthlmgbdknjilpaaGreatGAskKinds1
import Derived.Deep.LoopGhost
import Derived.OwnWalk
namespace Go.Proofs.YthlmgbdknjilpaaGreat.Tower
open Go Go.RowKit Go.Proofs.YthlmgbdknjilpaaGreatW.PrintWords Go.Proofs.YthlmgbdknjilpaaGreatW.PrintLast Go.Proofs.YthlmgbdknjilpaaGreatW.PrintMore Go.Proofs.YthlmgbdknjilpaaGreat.Own
set_option linter.unusedVariables false
set_option linter.unusedSimpArgs false
structure Ws where
  ar : Ar
  tb : Tb
  ep : Ep
  a : Int
  b : Int
  entry : Int
structure WorldAt (ok okA okR okE : Nat → Prop) (p pA pR pE : Nat) (x : Ws) (w : World) : Prop where
  ok : ∀ k, ok k ↔ k = p ∨ okA k ∨ okR k ∨ okE k
  nA : ¬ okA p
  nR : ¬ okR p
  nE : ¬ okE p
  AR : ∀ k, okA k → ¬ okR k
  AE : ∀ k, okA k → ¬ okE k
  RE : ∀ k, okR k → ¬ okE k
  box : w.heap[p]? = some (.cells #[.pointer (some ⟨pA, 0, none⟩), .pointer (some ⟨pR, 0, none⟩), .pointer (some ⟨pE, 0, none⟩), .int .i64 x.a, .int .i64 x.b, .int .i64 x.entry] 57 (0, 0))
  ar : IsArena okA pA x.ar w
  tb : IsTable okR pR x.tb w
  ep : IsEpochs okE pE x.ep w
def IsWorld (p : Nat) (x : Ws) (ok : Nat → Prop) (w : World) : Prop := ∃ okA okR okE pA pR pE, WorldAt ok okA okR okE p pA pR pE x w
section
variable {ok okA okR okE : Nat → Prop} {p pA pR pE : Nat} {x : Ws} {w w1 : World}
theorem WorldAt.lt (h : WorldAt ok okA okR okE p pA pR pE x w) : ∀ k, ok k → k < w.heap.size := fun k hk => by
  rcases (h.ok k).1 hk with rfl | hk | hk | hk
  · exact blk_lt h.box
  · exact h.ar.lt k hk
  · exact h.tb.lt k hk
  · exact h.ep.lt k hk
theorem WorldAt.step (h : WorldAt ok okA okR okE p pA pR pE x w) (hs : w.heap.size ≤ w1.heap.size) (hm : ∀ k, ok k → k < w.heap.size → w1.heap[k]? = w.heap[k]?) : WorldAt ok okA okR okE p pA pR pE x w1 :=
  { h with
    box := (hm p ((h.ok p).2 (.inl rfl)) (blk_lt h.box)).trans h.box
    ar := h.ar.step hs (fun k hk => hm k ((h.ok k).2 (.inr (.inl hk))))
    tb := h.tb.step hs (fun k hk => hm k ((h.ok k).2 (.inr (.inr (.inl hk)))))
    ep := h.ep.step hs (fun k hk => hm k ((h.ok k).2 (.inr (.inr (.inr hk))))) }
theorem WorldAt.ar_moves (h : WorldAt ok okA okR okE p pA pR pE x w) {okA1 : Nat → Prop} {a1 : Ar} (ha : IsArena okA1 pA a1 w1) (hm : Moves okA okA1 w w1) :
    WorldAt (fun k => k = p ∨ okA1 k ∨ okR k ∨ okE k) okA1 okR okE p pA pR pE { x with ar := a1 } w1 ∧ Moves ok (fun k => k = p ∨ okA1 k ∨ okR k ∨ okE k) w w1 := by
  have hf : ∀ k, k < w.heap.size → ¬ okA k → ¬ okA1 k := fun k hk hn h1 => (hm.fresh k h1).elim hn (fun h2 => by omega)
  refine ⟨{
    ok := fun k => Iff.rfl
    nA := hf p (blk_lt h.box) h.nA
    nR := h.nR
    nE := h.nE
    AR := fun k h1 h2 => hf k (h.tb.lt k h2) (fun h3 => h.AR k h3 h2) h1
    AE := fun k h1 h2 => hf k (h.ep.lt k h2) (fun h3 => h.AE k h3 h2) h1
    RE := h.RE
    box := (hm.block p (blk_lt h.box) h.nA).trans h.box
    ar := ha
    tb := h.tb.step hm.size (fun k hk hlt => hm.block k hlt (fun h3 => h.AR k h3 hk))
    ep := h.ep.step hm.size (fun k hk hlt => hm.block k hlt (fun h3 => h.AE k h3 hk)) }, ?_⟩
  exact ⟨hm.os, hm.tape, hm.output, hm.size, fun k hk hn => hm.block k hk (fun h3 => hn ((h.ok k).2 (.inr (.inl h3)))), fun k hk => by
    rcases hk with rfl | hk | hk | hk
    · exact .inl ((h.ok _).2 (.inl rfl))
    · exact (hm.fresh k hk).imp (fun h3 => (h.ok k).2 (.inr (.inl h3))) id
    · exact .inl ((h.ok k).2 (.inr (.inr (.inl hk))))
    · exact .inl ((h.ok k).2 (.inr (.inr (.inr hk))))⟩
theorem WorldAt.ep_moves (h : WorldAt ok okA okR okE p pA pR pE x w) {okE1 : Nat → Prop} {t1 : Ep} (ha : IsEpochs okE1 pE t1 w1) (hm : Moves okE okE1 w w1) :
    WorldAt (fun k => k = p ∨ okA k ∨ okR k ∨ okE1 k) okA okR okE1 p pA pR pE { x with ep := t1 } w1 ∧ Moves ok (fun k => k = p ∨ okA k ∨ okR k ∨ okE1 k) w w1 := by
  have hf : ∀ k, k < w.heap.size → ¬ okE k → ¬ okE1 k := fun k hk hn h1 => (hm.fresh k h1).elim hn (fun h2 => by omega)
  refine ⟨{
    ok := fun k => Iff.rfl
    nA := h.nA
    nR := h.nR
    nE := hf p (blk_lt h.box) h.nE
    AR := h.AR
    AE := fun k h1 h2 => hf k (h.ar.lt k h1) (fun h3 => h.AE k h1 h3) h2
    RE := fun k h1 h2 => hf k (h.tb.lt k h1) (fun h3 => h.RE k h1 h3) h2
    box := (hm.block p (blk_lt h.box) h.nE).trans h.box
    ar := h.ar.step hm.size (fun k hk hlt => hm.block k hlt (fun h3 => h.AE k hk h3))
    tb := h.tb.step hm.size (fun k hk hlt => hm.block k hlt (fun h3 => h.RE k hk h3))
    ep := ha }, ?_⟩
  exact ⟨hm.os, hm.tape, hm.output, hm.size, fun k hk hn => hm.block k hk (fun h3 => hn ((h.ok k).2 (.inr (.inr (.inr h3))))), fun k hk => by
    rcases hk with rfl | hk | hk | hk
    · exact .inl ((h.ok _).2 (.inl rfl))
    · exact .inl ((h.ok k).2 (.inr (.inl hk)))
    · exact .inl ((h.ok k).2 (.inr (.inr (.inl hk))))
    · exact (hm.fresh k hk).imp (fun h3 => (h.ok k).2 (.inr (.inr (.inr h3)))) id⟩
end
theorem worldShared (p : Nat) : Shared (fun (x : Ws) ok w => IsWorld p x ok w) where
  step := fun h hs hm => by
    obtain ⟨okA, okR, okE, pA, pR, pE, h⟩ := h
    exact ⟨okA, okR, okE, pA, pR, pE, h.step hs hm⟩
  lt := fun h => by
    obtain ⟨okA, okR, okE, pA, pR, pE, h⟩ := h
    exact h.lt
def ndE (r : Int) : Nd := ⟨true, false, [], [], [r]⟩
def ws0 (a b : Int) (threads : Nat) (nodes records : Int) : Option Ws :=
  match (ar0 nodes).alloc nd0 with
  | none => none
  | some ((r, _), a1) => match a1.alloc (ndE r) with
    | none => none
    | some ((e, _), a2) => some ⟨a2, ⟨[], records⟩, ⟨0, List.replicate threads (-1), List.replicate threads []⟩, a, b, e⟩
structure MadeWorld (x : Ws) (w : World) (e : Ending) (w1 : World) : Prop where
  out : ∃ ok p, e = .returned (.tuple #[.pointer (some ⟨p, 0, none⟩), .int .i64 0]) ∧ IsWorld p x ok w1 ∧ (∀ k, ok k → w.heap.size ≤ k) ∧ Below w.heap.size w w1
theorem NdF.nil (D : Nat → Prop) (w : World) : NdF D nd0 (.agg #[.bool false, .bool false, .slice none 0 0, .slice none 0 0, .slice none 0 0]) w := ⟨none, 0, none, 0, none, 0, rfl, Nat.le_refl _, Nat.le_refl _, Nat.le_refl _, Kd.F_nil _ _ _, Kd.F_nil _ _ _, Kd.F_nil _ _ _⟩
theorem moves_outer {ok ok1 : Nat → Prop} {w0 w w1 : World} (h : Moves ok ok1 w w1) (hb : Below w0.heap.size w0 w) (hn : ∀ k, ok k → w0.heap.size ≤ k) : Below w0.heap.size w0 w1 :=
  ⟨h.os.trans hb.os, h.tape.trans hb.tape, h.output.trans hb.output, Nat.le_trans hb.size h.size, fun k hk => (h.block k (Nat.lt_of_lt_of_le hk hb.size) (fun h1 => by have := hn k h1; omega)).trans (hb.block k hk)⟩
theorem lit_R {k : IntKind} (e : Nat) (w : World) (base : Nat) (xs : List Int) (hb : base ≤ w.heap.size) (hl : xs.length < 1000000) : (Kd.int k).R e (w.alloc (.cells (xs.map fun n => Value.int k n).toArray e)) base (fun q => q = w.heap.size) (.slice (some ⟨w.heap.size, 0, none⟩) xs.length xs.length) xs := by
  refine Kd.R_of_own ?_ (fun q hq => ?_)
  · have := World.ownsRow_lit (base := base) (e := e) (size := 1) w (xs.map fun n => Value.int k n).toArray xs.length hb (by simp [maxLen]; omega) (by simp)
    simpa [encs] using this
  · have : w.heap.size = q := by simpa [Value.ownBlock] using hq
    omega
theorem lit_F {k : IntKind} (e : Nat) (w : World) (xs : List Int) (hl : xs.length < 1000000) : (Kd.int k).F (w.alloc (.cells (xs.map fun n => Value.int k n).toArray e)) (fun q => q = w.heap.size) (some ⟨w.heap.size, 0, none⟩) xs.length xs := Kd.R_F (lit_R e w 0 xs (Nat.zero_le _) hl)
theorem WorldAt.entry_set {ok okA okR okE : Nat → Prop} {p pA pR pE : Nat} {x : Ws} {w : World} (h : WorldAt ok okA okR okE p pA pR pE x w) (r : Int) : WorldAt ok okA okR okE p pA pR pE { x with entry := r } (w.setCell ⟨p, 5, none⟩ (.int .i64 r)) :=
  { h with
    box := blk_set h.box 5 _
    ar := h.ar.step (by simp [World.setCell]) (fun k hk _ => Below.heap_setCell w ⟨p, 5, none⟩ _ k (fun e => h.nA ((show k = p from e) ▸ hk)))
    tb := h.tb.step (by simp [World.setCell]) (fun k hk _ => Below.heap_setCell w ⟨p, 5, none⟩ _ k (fun e => h.nR ((show k = p from e) ▸ hk)))
    ep := h.ep.step (by simp [World.setCell]) (fun k hk _ => Below.heap_setCell w ⟨p, 5, none⟩ _ k (fun e => h.nE ((show k = p from e) ▸ hk))) }
set_option maxHeartbeats 4000000 in
set_option maxRecDepth 100000 in
theorem world_new (a b : Int) (threads : Nat) (nodes records : Int) (w : World) (ha : 2 ≤ a) (ha1 : a ≤ 32) (hb : 2 * a - 1 ≤ b) (hb1 : b ≤ 32) (ht : 1 ≤ threads) (ht1 : threads ≤ 64) (hn : 2 ≤ nodes) (hn1 : nodes ≤ 65536) (hr : 0 ≤ records) (hr1 : records ≤ 65536) (x : Ws) (hx : ws0 a b threads nodes records = some x) :
    Calls Tryz.prog 32 #[.int .i64 a, .int .i64 b, .int .i64 threads, .int .i64 nodes, .int .i64 records] w (MadeWorld x w) := by
  have d1 : decide (a < 2) = false := decide_eq_false (by omega)
  have d2 : decide (a > 32) = false := decide_eq_false (by omega)
  have d3 : decide (b < 2 * a - 1) = false := decide_eq_false (by omega)
  have d4 : decide (b > 32) = false := decide_eq_false (by omega)
  have d5 : decide ((threads : Int) < 1) = false := decide_eq_false (by omega)
  have d6 : decide ((threads : Int) > 64) = false := decide_eq_false (by omega)
  have d7 : decide (nodes < 2) = false := decide_eq_false (by omega)
  have d8 : decide (nodes > 65536) = false := decide_eq_false (by omega)
  have d9 : decide (records < 0) = false := decide_eq_false (by omega)
  have d10 : decide (records > 65536) = false := decide_eq_false (by omega)
  have e2 : decide (32 < a) = false := d2
  have e4 : decide (32 < b) = false := d4
  have e6 : decide (64 < (threads : Int)) = false := d6
  have e8 : decide (65536 < nodes) = false := d8
  have e10 : decide (65536 < records) = false := d10
  have HX := Aside0.mk hx
  clear hx
  go_enter Tryz.func32, Tryz.ntmps32
  go_upto_region 3 with fail
  clear d1 d2 d3 d4 d5 d6 d7 d8 d9 d10 e2 e4 e6 e8 e10
  go_upto_region 4 with (first
    | (go_at_call 55; refine (arena_new nodes _ (by omega) hn1).mono ?_; rintro e w1 ⟨okA, pA, rfl, hA, hAf, hAb⟩; have A0 := Aside0.mk hA; have A1 := Aside0.mk hAf; have A2 := Aside0.mk hAb; clear hA hAf hAb)
    | (go_at_call 56; refine (record_new records _ hr hr1).mono ?_; rintro e w2 ⟨okR, pR, rfl, hR, hRf, hRb⟩; have R0 := Aside0.mk hR; have R1 := Aside0.mk hRf; have R2 := Aside0.mk hRb; clear hR hRf hRb)
    | (go_at_call 57; refine (epoch_new threads _ ht1).mono ?_; rintro e w3 ⟨okE, pE, rfl, hE, hEf, hEb⟩; have E0 := Aside0.mk hE; have E1 := Aside0.mk hEf; have E2 := Aside0.mk hEb; clear hE hEf hEb))
  have hA3 : IsArena okA pA (ar0 nodes) w3 := (A0.out.step R2.out.size (fun k _ hlt => R2.out.block k hlt)).step E2.out.size (fun k _ hlt => E2.out.block k hlt)
  have hR3 : IsTable okR pR ⟨[], records⟩ w3 := R0.out.step E2.out.size (fun k _ hlt => E2.out.block k hlt)
  have hB3 : Below w.heap.size w w3 := below_then (below_then A2.out A2.out.size R2.out) (below_then A2.out A2.out.size R2.out).size E2.out
  have hAl : ∀ k, okA k → w.heap.size ≤ k ∧ k < w1.heap.size := fun k hk => ⟨A1.out k hk, A0.out.lt k hk⟩
  have hRl : ∀ k, okR k → w1.heap.size ≤ k ∧ k < w2.heap.size := fun k hk => ⟨R1.out k hk, R0.out.lt k hk⟩
  have hEl : ∀ k, okE k → w2.heap.size ≤ k ∧ k < w3.heap.size := fun k hk => ⟨E1.out k hk, E0.out.lt k hk⟩
  have s1 := A2.out.size
  have s2 := R2.out.size
  have s3 := E2.out.size
  have hW3 : ∀ o : Obj, Below w.heap.size w (w3.alloc o) := fun o => below_then hB3 hB3.size (below_alloc (Below.refl _ _) o)
  have W4 : Aside0 (WorldAt (fun k => k = w3.heap.size ∨ okA k ∨ okR k ∨ okE k) okA okR okE w3.heap.size pA pR pE ⟨ar0 nodes, ⟨[], records⟩, ⟨0, List.replicate threads (-1), List.replicate threads []⟩, a, b, 0⟩ (w3.alloc (.cells #[.pointer (some ⟨pA, 0, none⟩), .pointer (some ⟨pR, 0, none⟩), .pointer (some ⟨pE, 0, none⟩), .int .i64 a, .int .i64 b, .int .i64 0] 57))) := ⟨{
    ok := fun k => Iff.rfl
    nA := fun h => by have := hAl _ h; omega
    nR := fun h => by have := hRl _ h; omega
    nE := fun h => by have := hEl _ h; omega
    AR := fun k h1 h2 => by have := hAl k h1; have := hRl k h2; omega
    AE := fun k h1 h2 => by have := hAl k h1; have := hEl k h2; omega
    RE := fun k h1 h2 => by have := hRl k h1; have := hEl k h2; omega
    box := blk_new w3 _
    ar := hA3.step (by simp) (fun k _ hlt => Below.heap_alloc _ _ _ hlt)
    tb := hR3.step (by simp) (fun k _ hlt => Below.heap_alloc _ _ _ hlt)
    ep := E0.out.step (by simp) (fun k _ hlt => Below.heap_alloc _ _ _ hlt) }⟩
  have F4 : Aside0 (∀ k, (k = w3.heap.size ∨ okA k ∨ okR k ∨ okE k) → w.heap.size ≤ k) := ⟨fun k hk => by
    rcases hk with rfl | hk | hk | hk
    · omega
    · exact (hAl k hk).1
    · have := (hRl k hk).1; omega
    · have := (hEl k hk).1; omega⟩
  have B4 := Aside0.mk (hW3 (.cells #[.pointer (some ⟨pA, 0, none⟩), .pointer (some ⟨pR, 0, none⟩), .pointer (some ⟨pE, 0, none⟩), .int .i64 a, .int .i64 b, .int .i64 0] 57))
  clear hA3 hR3 hB3 hAl hRl hEl s1 s2 s3 hW3 A0 A1 A2 R0 R1 R2 E0 E1 E2
  generalize w3.alloc (.cells #[.pointer (some ⟨pA, 0, none⟩), .pointer (some ⟨pR, 0, none⟩), .pointer (some ⟨pE, 0, none⟩), .int .i64 a, .int .i64 b, .int .i64 0] 57) = w4 at W4 B4 ⊢
  generalize w3.heap.size = p at W4 F4 ⊢
  generalize hok4 : (fun k => k = p ∨ okA k ∨ okR k ∨ okE k) = ok4 at W4
  have F4 : Aside0 (∀ k, ok4 k → w.heap.size ≤ k) := ⟨by rw [← hok4]; exact F4.out⟩
  clear hok4
  have hx := HX.out
  unfold ws0 at hx
  cases h1 : (ar0 nodes).alloc nd0 with
  | none => rw [h1] at hx; cases hx
  | some q1 =>
    obtain ⟨⟨r, rb⟩, a1⟩ := q1
    rw [h1] at hx
    simp only at hx
    cases h2 : a1.alloc (ndE r) with
    | none => rw [h2] at hx; cases hx
    | some q2 =>
      obtain ⟨⟨en, eb⟩, a2⟩ := q2
      rw [h2] at hx
      simp only at hx
      injection hx with hx
      have H1 := Aside0.mk h1
      have H2 := Aside0.mk h2
      have HX2 := Aside0.mk hx
      clear hx h1 h2 HX
      have c0 := (blk_cell W4.out.box 0).trans (rfl : _ = some (Value.pointer (some ⟨pA, 0, none⟩)))
      go_upto_region 5 with (go_at_call 58; refine (alloc_calls nd0 _ _ W4.out.ar (by simp [ar0]) (NdF.nil _ _) ⟨by simp [nd0], by simp [nd0], by simp [nd0]⟩ H1.out).mono ?_; rintro e w5 ⟨rfl, okA1, hA5, hM5⟩; have A5 := Aside0.mk hA5; have M5 := Aside0.mk hM5; clear hA5 hM5)
      clear c0
      have W5 := Aside0.mk (W4.out.ar_moves A5.out M5.out).1
      have N5 := Aside0.mk (W4.out.ar_moves A5.out M5.out).2
      have B5 := Aside0.mk (moves_outer N5.out B4.out F4.out)
      have F5 : Aside0 (∀ k, (k = p ∨ okA1 k ∨ okR k ∨ okE k) → w.heap.size ≤ k) := ⟨fun k hk => (N5.out.fresh k hk).elim (F4.out k) (fun h => Nat.le_trans B4.out.size h)⟩
      clear A5 M5 N5 W4 B4 F4
      have c0 := (blk_cell W5.out.box 0).trans (rfl : _ = some (Value.pointer (some ⟨pA, 0, none⟩)))
      have W6 := Aside0.mk (W5.out.step (w1 := w5.alloc (.cells #[.int .i64 r] 55)) (by simp) (fun k _ hlt => Below.heap_alloc _ _ _ hlt))
      have B6 := Aside0.mk (below_then B5.out B5.out.size (below_alloc (Below.refl _ _) (.cells #[.int .i64 r] 55)))
      have FF := Aside0.mk (lit_F (k := .i64) 55 w5 [r] (by simp))
      have NN : Aside0 (¬ okA1 w5.heap.size) := ⟨fun h => by have := W5.out.ar.lt _ h; omega⟩
      have L5 : Aside0 (a1.slots.length < 999999) := ⟨by
        have := H1.out
        unfold Ar.alloc at this
        rw [if_neg (by show ¬ nodes ≤ 0; omega)] at this
        simp [Ar.take, ar0] at this
        obtain ⟨_, rfl⟩ := this
        simp [Ar.put]⟩
      go_upto_region 6 with (go_at_call 58; refine (alloc_calls (ndE r) _ _ W6.out.ar L5.out ⟨none, 0, none, 0, _, 1, rfl, Nat.le_refl _, Nat.le_refl _, Nat.le_refl _, Kd.F_nil _ _ _, Kd.F_nil _ _ _, Kd.F_mono FF.out (fun k hk h => NN.out (hk ▸ h))⟩ ⟨by simp [ndE], by simp [ndE], by simp [ndE]⟩ H2.out).mono ?_; rintro e w7 ⟨rfl, okA2, hA7, hM7⟩; have A7 := Aside0.mk hA7; have M7 := Aside0.mk hM7; have c0 := (blk_cell (W6.out.ar_moves hA7 hM7).1.box 0).trans (rfl : _ = some (Value.pointer (some ⟨pA, 0, none⟩))); have c5 := (blk_cell (W6.out.ar_moves hA7 hM7).1.box 5).trans (rfl : _ = some (Value.int .i64 0)); have z5 := blk_frozen (W6.out.ar_moves hA7 hM7).1.box 5; clear hA7 hM7)
      have W7 := Aside0.mk ((W6.out.ar_moves A7.out M7.out).1.entry_set en)
      have N7 := Aside0.mk (W6.out.ar_moves A7.out M7.out).2
      have B7 := Aside0.mk (moves_outer N7.out B6.out F5.out)
      have F7 : Aside0 (∀ k, (k = p ∨ okA2 k ∨ okR k ∨ okE k) → w.heap.size ≤ k) := ⟨fun k hk => (N7.out.fresh k hk).elim (F5.out k) (fun h => Nat.le_trans B6.out.size h)⟩
      have B8 : Aside0 (Below w.heap.size w (w7.setCell ⟨p, 5, none⟩ (.int .i64 en))) := ⟨B7.out.setCell (show w.heap.size ≤ p from F5.out p (.inl rfl)) _⟩
      clear A7 M7 N7 W6 B6 F5 B7 c0 c5 z5
      go_wp2_with fail
      go_ret2
      exact ⟨⟨_, p, rfl, by rw [← HX2.out]; exact ⟨_, _, _, _, _, _, W7.out⟩, F7.out, B8.out⟩⟩
end Go.Proofs.YthlmgbdknjilpaaGreat.Tower
namespace Go.Proofs.YthlmgbdknjilpaaGreat.Tower
open Go Go.RowKit Go.Proofs.YthlmgbdknjilpaaGreatW.PrintWords Go.Proofs.YthlmgbdknjilpaaGreatW.PrintLast Go.Proofs.YthlmgbdknjilpaaGreatW.PrintMore Go.Proofs.YthlmgbdknjilpaaGreat.Own
set_option linter.unusedVariables false
set_option linter.unusedSimpArgs false
set_option maxHeartbeats 2000000 in
theorem cmp_nan (a : Int) (w : World) : Calls Tryz.prog 180 #[.int .i64 a] w fun e w1 => e = .returned (.bool false) ∧ w1 = w := by
  have h : (a != a) = false := by simp
  have h2 : (a == a) = true := by simp
  go_enter Tryz.func180, Tryz.ntmps180
  go_wp2
  go_ret
  exact ⟨rfl, rfl⟩
set_option maxHeartbeats 2000000 in
theorem slices_nan (a : Int) (w : World) : Calls Tryz.prog 164 #[.int .i64 a] w fun e w1 => e = .returned (.bool false) ∧ w1 = w := by
  have h : (a != a) = false := by simp
  have h2 : (a == a) = true := by simp
  go_enter Tryz.func164, Tryz.ntmps164
  go_wp2
  go_ret
  exact ⟨rfl, rfl⟩
set_option maxHeartbeats 2000000 in
theorem cmp_less (a b : Int) (w : World) : Calls Tryz.prog 163 #[.int .i64 a, .int .i64 b] w fun e w1 => e = .returned (.bool (decide (a < b))) ∧ w1 = w := by
  cases hd : decide (a < b)
  all_goals
    go_enter Tryz.func163, Tryz.ntmps163
    go_wp2_with (go_at_call 180; refine (cmp_nan _ _).mono ?_; rintro e w1 ⟨rfl, rfl⟩)
    go_ret
    exact ⟨rfl, rfl⟩
def bsF (xs : List Int) (k : Int) : Nat → Nat → Nat → Nat
  | 0, i, _ => i
  | f + 1, i, j => if i < j then (if xs.getD ((i + j) / 2) 0 < k then bsF xs k f ((i + j) / 2 + 1) j else bsF xs k f i ((i + j) / 2)) else i
theorem bsF_more (xs : List Int) (k : Int) : ∀ (f g i j : Nat), j - i ≤ f → j - i ≤ g → bsF xs k f i j = bsF xs k g i j
  | 0, 0, _, _, _, _ => rfl
  | 0, g + 1, i, j, h, _ => by
    unfold bsF
    rw [if_neg (by omega)]
  | f + 1, 0, i, j, _, h => by
    unfold bsF
    rw [if_neg (by omega)]
  | f + 1, g + 1, i, j, h, h' => by
    unfold bsF
    by_cases hlt : i < j
    · rw [if_pos hlt, if_pos hlt]
      by_cases hk : xs.getD ((i + j) / 2) 0 < k
      · rw [if_pos hk, if_pos hk]
        exact bsF_more xs k f g _ _ (by omega) (by omega)
      · rw [if_neg hk, if_neg hk]
        exact bsF_more xs k f g _ _ (by omega) (by omega)
    · rw [if_neg hlt, if_neg hlt]
def bs (xs : List Int) (k : Int) (i j : Nat) : Nat := bsF xs k (j - i) i j
theorem bs_eq (xs : List Int) (k : Int) (i j : Nat) : bs xs k i j = if i < j then (if xs.getD ((i + j) / 2) 0 < k then bs xs k ((i + j) / 2 + 1) j else bs xs k i ((i + j) / 2)) else i := by
  by_cases hlt : i < j
  · rw [if_pos hlt]
    unfold bs
    rw [bsF_more xs k (j - i) (j - i - 1 + 1) i j (by omega) (by omega)]
    conv => lhs; unfold bsF
    rw [if_pos hlt]
    by_cases hk : xs.getD ((i + j) / 2) 0 < k
    · rw [if_pos hk, if_pos hk]
      exact bsF_more xs k _ _ _ _ (by omega) (by omega)
    · rw [if_neg hk, if_neg hk]
      exact bsF_more xs k _ _ _ _ (by omega) (by omega)
  · rw [if_neg hlt]
    unfold bs
    rw [show j - i = 0 by omega]
    rfl
theorem bsF_le (xs : List Int) (k : Int) : ∀ (f i j : Nat), i ≤ j → i ≤ bsF xs k f i j ∧ bsF xs k f i j ≤ j
  | 0, i, j, h => ⟨Nat.le_refl _, h⟩
  | f + 1, i, j, h => by
    unfold bsF
    by_cases hlt : i < j
    · rw [if_pos hlt]
      by_cases hk : xs.getD ((i + j) / 2) 0 < k
      · rw [if_pos hk]
        have := bsF_le xs k f ((i + j) / 2 + 1) j (by omega)
        omega
      · rw [if_neg hk]
        have := bsF_le xs k f i ((i + j) / 2) (by omega)
        omega
    · rw [if_neg hlt]
      omega
theorem bs_le (xs : List Int) (k : Int) (i j : Nat) (h : i ≤ j) : i ≤ bs xs k i j ∧ bs xs k i j ≤ j := bsF_le xs k _ i j h
def bfound (xs : List Int) (k : Int) : Bool := decide (bs xs k 0 xs.length < xs.length) && (xs.getD (bs xs k 0 xs.length) 0 == k)
set_option maxHeartbeats 2000000 in
set_option maxRecDepth 100000 in
theorem bsearch (A : Option Addr) (n c : Nat) (xs : List Int) (k : Int) (w : World) (hr : (Kd.int .i64).C w A n xs) (hl : n < 1000000) :
    Calls Tryz.prog 138 #[.slice A n c, .int .i64 k] w fun e w1 => e = .returned (.tuple #[.int .i64 (bs xs k 0 n : Nat), .bool (bfound xs k)]) ∧ ∃ m, w1 = w.drewN m := by
  go_enter Tryz.func138, Tryz.ntmps138
  go_wp2_with fail
  go_loop [7, 8] (fun i j => ∃ a b : Nat, a ≤ b ∧ b ≤ n ∧ i = .int .i64 a ∧ j = .int .i64 b ∧ Aside0 (bs xs k a b = bs xs k 0 n)) (fun i j => ((intOf j).toNat - (intOf i).toNat))
  case atStart => exact ⟨0, n, Nat.zero_le _, Nat.le_refl _, rfl, rfl, ⟨rfl⟩⟩
  case round =>
    obtain ⟨a, b, hab, hbn, rfl, rfl, HB⟩ := hrel
    by_cases hlt : a < b
    · have d1 : decide ((a : Int) < (b : Int)) = true := decide_eq_true (by omega)
      have d2 : decide (a < b) = true := decide_eq_true hlt
      go_upto_region 5 with fail
      obtain ⟨m, hm⟩ : ∃ m : Nat, m = (a + b) / 2 := ⟨_, rfl⟩
      have em : ((a : Int) + (b : Int)) / 2 = (m : Int) := by omega
      rw [em]
      have hma : a ≤ m := by omega
      have hmb : m < b := by omega
      have b0 : (0 : Int) ≤ (m : Int) := by omega
      have b1 : (m : Int) < (n : Int) := by omega
      cases A with
      | none => exact absurd hr.2.2 (fun h => by obtain ⟨ad, h2, _⟩ := h (by have := hr.1; omega); cases h2)
      | some ad =>
        have hc := Kd.foot_int hr (m : Int) b0 b1
        have e1 : rd xs (m : Int) = xs.getD m 0 := by simp [rd]
        rw [e1, Int.toNat_natCast] at hc
        have HM := Aside0.mk hm
        have HR := Aside0.mk hr
        have HLT := Aside0.mk hlt
        clear em hm hr hlt d1 d2 e1
        obtain ⟨x, hx⟩ : ∃ x, x = xs.getD m 0 := ⟨_, rfl⟩
        rw [← hx] at hc
        have HXX := Aside0.mk hx
        clear hx
        cases hd : decide (x < k) with
        | true =>
          have HD := Aside0.mk (of_decide_eq_true hd)
          go_wp2_with (go_at_call 163; refine (cmp_less _ _ _).mono ?_; rintro e w1 ⟨rfl, rfl⟩)
          go_round
          case rel =>
            refine ⟨m + 1, b, by omega, hbn, by go_num, rfl, ⟨?_⟩⟩
            rw [← HB.out]
            conv => rhs; rw [bs_eq]
            rw [if_pos HLT.out, ← HM.out, ← HXX.out, if_pos HD.out]
          case measure => simp [intOf]; omega
        | false =>
          have HD := Aside0.mk (of_decide_eq_false hd)
          go_wp2_with (go_at_call 163; refine (cmp_less _ _ _).mono ?_; rintro e w1 ⟨rfl, rfl⟩)
          go_round
          case rel =>
            refine ⟨a, m, by omega, by omega, rfl, rfl, ⟨?_⟩⟩
            rw [← HB.out]
            conv => rhs; rw [bs_eq]
            rw [if_pos HLT.out, ← HM.out, ← HXX.out, if_neg (by have := HD.out; omega)]
          case measure => simp [intOf]; omega
    · have d1 : decide ((a : Int) < (b : Int)) = false := decide_eq_false (by omega)
      have d2 : decide (a < b) = false := decide_eq_false hlt
      have hb := HB.out
      rw [bs_eq, if_neg hlt] at hb
      have hln := hr.1
      have HL := Aside0.mk hln
      by_cases han : a < n
      · have d3 : decide ((a : Int) < (n : Int)) = true := decide_eq_true (by omega)
        have d4 : decide (a < n) = true := decide_eq_true han
        have b0 : (0 : Int) ≤ (a : Int) := by omega
        have b1 : (a : Int) < (n : Int) := by omega
        cases A with
        | none => exact absurd hr.2.2 (fun h => by obtain ⟨ad, h2, _⟩ := h (by have := hr.1; omega); cases h2)
        | some ad =>
          have hc := Kd.foot_int hr (a : Int) b0 b1
          have e1 : rd xs (a : Int) = xs.getD a 0 := by simp [rd]
          rw [e1, Int.toNat_natCast] at hc
          have HBB := Aside0.mk hb
          have hfd : bfound xs k = (xs.getD a 0 == k) := by
            unfold bfound
            rw [hln, ← hb, decide_eq_true han]
            rfl
          have HF := Aside0.mk hfd
          clear hr e1 hb hln hfd HB hlt
          obtain ⟨x, hx⟩ : ∃ x, x = xs.getD a 0 := ⟨_, rfl⟩
          rw [← hx] at hc
          have HXX := Aside0.mk hx
          clear hx
          cases hd : x == k with
          | true =>
            go_wp2_with fail
            go_ret2
            refine ⟨?_, 0, rfl⟩
            rw [HF.out, ← HXX.out, hd, HBB.out]; rfl
          | false =>
            go_wp2_with (go_at_call 164; refine (slices_nan _ _).mono ?_; rintro e w1 ⟨rfl, rfl⟩)
            go_ret2
            refine ⟨?_, 0, rfl⟩
            rw [HF.out, ← HXX.out, hd, HBB.out]; rfl
      · have d3 : decide ((a : Int) < (n : Int)) = false := decide_eq_false (by omega)
        have d4 : decide (a < n) = false := decide_eq_false han
        have HBB := Aside0.mk hb
        have hfd : bfound xs k = false := by
          unfold bfound
          rw [hln, ← hb, decide_eq_false han]
          rfl
        have HF := Aside0.mk hfd
        clear hr hb hln hfd HB hlt
        go_wp2_with fail
        go_ret2
        refine ⟨?_, 0, rfl⟩
        rw [HF.out, HBB.out]; rfl
theorem ret_int {k : IntKind} {a b : Int} (h : a = b) : Ending.returned (.int k a) = .returned (.int k b) := by rw [h]
def wayOf (keys : List Int) (ways : Nat) (k : Int) : Int := min ((bs keys k 0 keys.length : Int) + if bfound keys k then 1 else 0) (max ((ways : Int) - 1) 0)
set_option maxHeartbeats 2000000 in
set_option maxRecDepth 100000 in
theorem inner_way (Ak Ay : Option Addr) (ck m cy : Nat) (keys : List Int) (k : Int) (w : World) (hr : (Kd.int .i64).C w Ak keys.length keys) (hl : keys.length < 1000000) (hm : m < 1000000) :
    Calls Tryz.prog 116 #[.agg #[.slice Ak keys.length ck, .slice Ay m cy], .int .i64 k] w fun e w1 => e = .returned (.int .i64 (wayOf keys m k)) ∧ Below w.heap.size w w1 := by
  have hrc := Kd.C_below hr (below_alloc (Below.refl w.heap.size w) (.cells #[.slice Ak keys.length ck, .slice Ay m cy] 117))
  have HR := Aside0.mk hrc
  have HB := Aside0.mk (below_alloc (Below.refl w.heap.size w) (.cells #[.slice Ak keys.length ck, .slice Ay m cy] 117))
  have hbx := blk_new w (.cells #[.slice Ak keys.length ck, .slice Ay m cy] 117)
  have hbl := bs_le keys k 0 keys.length (Nat.zero_le _)
  obtain ⟨q, hq⟩ : ∃ q, q = bs keys k 0 keys.length := ⟨_, rfl⟩
  rw [← hq] at hbl
  have HQ := Aside0.mk hq
  clear hr hrc hq
  go_enter Tryz.func116, Tryz.ntmps116
  go_upto_region 1 with fail
  generalize w.alloc (.cells #[.slice Ak keys.length ck, .slice Ay m cy] 117) = w1 at HR HB hbx ⊢
  generalize w.heap.size = b at hbx ⊢
  have c0 := (blk_cell hbx 0).trans (rfl : _ = some (Value.slice Ak keys.length ck))
  have c1 := (blk_cell hbx 1).trans (rfl : _ = some (Value.slice Ay m cy))
  clear hbx
  cases hf : bfound keys k
  all_goals
    have HF := Aside0.mk hf
    clear hf
    go_wp2_with (go_at_call 138; refine (bsearch Ak keys.length ck keys k _ HR.out hl).mono ?_; rintro e w2 ⟨rfl, nq, rfl⟩; rw [← HQ.out, HF.out])
    all_goals
      go_ret
      refine ⟨?_, pw_below_drewN HB.out nq⟩
      have hw : wayOf keys m k = min ((q : Int) + if bfound keys k then 1 else 0) (max ((m : Int) - 1) 0) := by rw [HQ.out]; rfl
      rw [HF.out] at hw
      rw [hw]
      refine ret_int ?_
      simp only [if_true, Bool.false_eq_true, if_false]
      first
        | omega
        | (split at * <;> omega)
end Go.Proofs.YthlmgbdknjilpaaGreat.Tower
namespace Go.Proofs.YthlmgbdknjilpaaGreat.Tower
open Go Go.RowKit Go.Proofs.YthlmgbdknjilpaaGreatW.PrintWords Go.Proofs.YthlmgbdknjilpaaGreatW.PrintLast Go.Proofs.YthlmgbdknjilpaaGreatW.PrintMore Go.Proofs.YthlmgbdknjilpaaGreat.Own
set_option linter.unusedVariables false
set_option linter.unusedSimpArgs false
attribute [local go_sem] eqlF1 eqlF2 eqlF3 panicW assertW
theorem enters {f : FuncId} {fn : Func} (hf : Tryz.prog.funcs[f]? = some fn) (hname : (fn.name == "runtime.NumGoroutine") = false) (hb : fn.body.isSome = true) (args : Array Value) (w : World) : (callFunc f args).run Tryz.prog w = .ok (.enter f args) w := enters_ hf hname hb args w
def b01 (b : Bool) : Int := if b then 1 else 0
def askT {X : Type} (f : X → Bool × X) : Pr X Bool := prBind (doT (fun x => (b01 (f x).1, (f x).2))) (fun n s => some (.ret (n == 1), s))
set_option maxHeartbeats 2000000 in
set_option maxRecDepth 100000 in
theorem ask1_calls (gf : FuncId) (cap : Array Value) (b : Nat) (r : Bool) (R : World → Prop) (w : World) (hb : w.heap[b]? = some (.cells #[.func (.func gf) #[] cap] 27 (0, 0)))
    (he : ∀ w1 : World, (callFunc gf cap).run Tryz.prog w1 = .ok (.enter gf cap) w1)
    (hc : Calls Tryz.prog gf cap w fun e w2 => e = .returned (.bool r) ∧ R w2) :
    Calls Tryz.prog 93 #[.pointer (some ⟨b, 0, none⟩)] w fun e w2 => e = .returned (.int .i64 (b01 r)) ∧ R w2 := by
  have HC := Aside0.mk hc
  have HE := Aside0.mk he
  have c0 : w.cell? ⟨b, 0, none⟩ = some (.func (.func gf) #[] cap) := (blk_cell hb 0).trans rfl
  clear hc he hb
  go_enter Tryz.func93, Tryz.ntmps93
  go_wp2_with fail
  rw [HE.out, Oper.upon_enter]
  refine HC.out.mono ?_
  rintro e w2 ⟨rfl, hr⟩
  have HR := Aside0.mk hr
  clear hr HC
  dsimp only
  cases r
  · go_wp2_with fail
    go_ret
    exact ⟨rfl, HR.out⟩
  · go_wp2_with fail
    go_ret
    exact ⟨rfl, HR.out⟩
set_option maxHeartbeats 2000000 in
set_option maxRecDepth 100000 in
theorem ask_calls {X : Type} {Sh : X → (Nat → Prop) → World → Prop} (S : Shared Sh) (f : X → Bool × X) (tb : Nat) (work : Value) (ok : Nat → Prop) (s : TS X) (w : World) (gf : FuncId) (cap : Array Value) (h : IsRun Sh tb work ok s w)
    (he : ∀ w1 : World, (callFunc gf cap).run Tryz.prog w1 = .ok (.enter gf cap) w1)
    (hc : ∀ w1 okS, Moves ok ok w w1 → (∀ k, okS k → ok k) → Sh s.sh okS w1 → Calls Tryz.prog gf cap w1 fun e w2 => e = .returned (.bool (f s.sh).1) ∧ ∃ okS1, Sh (f s.sh).2 okS1 w2 ∧ Moves okS okS1 w1 w2)
    (res : Out Bool × TS X) (hr : askT f s = some res) :
    Calls Tryz.prog 67 #[.pointer (some ⟨tb, 0, none⟩), .func (.func gf) #[] cap] w (TPost Sh tb work VBool ok w res) := by
  unfold askT prBind at hr
  cases hd : doT (fun x => (b01 (f x).1, (f x).2)) s with
  | none => rw [hd] at hr; cases hr
  | some dres =>
    rw [hd] at hr
    have hmf : ∀ (fn : Fn) (first cap : Array Value) (w : World), (Instr.makeFunc fn first cap).run Tryz.prog w = .ok (.func fn first cap) w := fun _ _ _ _ => rfl
    have HI := Aside0.mk h
    have HC := Aside0.mk hc
    have HE := Aside0.mk he
    have HD := Aside0.mk hd
    have HRS := Aside0.mk hr
    have HB := Aside0.mk (blk_new w (.cells #[.func (.func gf) #[] cap] 27))
    have HI1 := Aside0.mk (h.below S (below_alloc (Below.refl _ _) (.cells #[.func (.func gf) #[] cap] 27)))
    have HM := Aside0.mk ((Moves.refl ok w).alloc (.cells #[.func (.func gf) #[] cap] 27))
    have HN : Aside0 (¬ ok w.heap.size) := ⟨fun hk => by have := h.lt S _ hk; omega⟩
    clear h hc he hd hr
    go_enter Tryz.func67, Tryz.ntmps67
    go_upto_region 1 with fail
    generalize w.alloc (.cells #[.func (.func gf) #[] cap] 27) = w1 at HB HI1 HM ⊢
    generalize w.heap.size = b at HB HN ⊢
    have c0 : w1.cell? ⟨b, 0, none⟩ = some (.func (.func gf) #[] cap) := (blk_cell HB.out 0).trans rfl
    go_wp2_with fail
    refine (do_calls S (fun x => (b01 (f x).1, (f x).2)) tb work ok s w1 93 #[.pointer (some ⟨b, 0, none⟩)] HI1.out (enters Tryz.func93 (by kernel_rfl) rfl _) (fun w2 okS hm hk hsh => ?hT) dres HD.out).mono ?_
    case hT =>
      refine (ask1_calls gf cap b (f s.sh).1 (fun w3 => ∃ okS1, Sh (f s.sh).2 okS1 w3 ∧ Moves okS okS1 w2 w3) w2 ((hm.block b (blk_lt HB.out) HN.out).trans HB.out) HE.out (HC.out w2 okS (HM.out.trans hm) hk hsh)).mono ?_
      rintro e w3 ⟨rfl, okS1, h1, h2⟩
      exact ⟨okS1, rfl, h1, h2⟩
    rintro e w2 ⟨ok1, hm, hrun, hres⟩
    have HM2 := Aside0.mk (HM.out.trans hm)
    have HI2 := Aside0.mk hrun
    clear hm hrun
    obtain ⟨o, t⟩ := dres
    cases o with
    | wait =>
      have hh := HRS.out
      injection hh with hh
      subst hh
      obtain rfl : e = .panicked waitP := hres
      exact ⟨rfl, ⟨⟨ok1, HM2.out, HI2.out, rfl⟩⟩⟩
    | ret n =>
      have hh := HRS.out
      injection hh with hh
      obtain ⟨v, rfl, rfl⟩ : ∃ v, e = .returned v ∧ v = .int .i64 n := hres
      have HH := Aside0.mk hh
      clear hh
      dsimp only
      go_wp2_with fail
      go_ret
      rw [← HH.out]
      exact ⟨⟨ok1, HM2.out, HI2.out, _, rfl, rfl⟩⟩
end Go.Proofs.YthlmgbdknjilpaaGreat.Tower
namespace Go.Proofs.YthlmgbdknjilpaaGreat.Tower
open Go Go.RowKit Go.Proofs.YthlmgbdknjilpaaGreatW.PrintWords Go.Proofs.YthlmgbdknjilpaaGreatW.PrintLast Go.Proofs.YthlmgbdknjilpaaGreatW.PrintMore Go.Proofs.YthlmgbdknjilpaaGreat.Own
set_option linter.unusedVariables false
set_option linter.unusedSimpArgs false
def th0 : Th := ⟨[], 0, false, false, false, []⟩
structure MadeThread (work : Value) (w : World) (e : Ending) (w1 : World) : Prop where
  out : ∃ tb, e = .returned (.pointer (some ⟨tb, 0, none⟩)) ∧ w.heap.size ≤ tb ∧ IsThread (fun k => k = tb) tb work th0 w1 ∧ Below w.heap.size w w1
set_option maxHeartbeats 2000000 in
set_option maxRecDepth 100000 in
theorem new_calls (gf : FuncId) (cap : Array Value) (w : World) :
    Calls Tryz.prog 38 #[.func (.func gf) #[] cap] w (MadeThread (.func (.func gf) #[] cap) w) := by
  go_enter Tryz.func38, Tryz.ntmps38
  go_wp2_with fail
  go_ret
  refine ⟨⟨w.heap.size, rfl, Nat.le_refl _, ⟨.slice none 0 0, none, 0, rfl, ?_, blk_new w _, Kd.R_nil _ _ _ _ _, Nat.le_refl _, Kd.F_nil _ _ _⟩, below_alloc (Below.refl _ _) _⟩⟩
  intro k hk
  simp [hk]
set_option maxHeartbeats 2000000 in
set_option maxRecDepth 100000 in
theorem out_calls {ok : Nat → Prop} {tb : Nat} {work : Value} {th : Th} (w : World) (h : IsThread ok tb work th w) (hd : th.done = true) (hl : th.out.length < 1000000) :
    Calls Tryz.prog 16 #[.pointer (some ⟨tb, 0, none⟩)] w fun e w1 => ∃ v, e = .returned v ∧ (Kd.int .i64).R 2 w1 w.heap.size (fun k => w.heap.size ≤ k) v th.out ∧ Below w.heap.size w w1 := by
  obtain ⟨lv, A, c, h⟩ := h
  have c5 : w.cell? ⟨tb, 5, none⟩ = some (.bool true) := (blk_cell h.2.2.1 5).trans (by rw [← hd]; rfl)
  have hb2 := blk_alloc h.2.2.1 (.cells #[] 2)
  have c6 : (w.alloc (.cells #[] 2)).cell? ⟨tb, 6, none⟩ = some (.slice A th.out.length c) := (blk_cell hb2 6).trans rfl
  have HE := Aside0.mk (R_empty (Kd.int .i64) 2 w w.heap.size (Nat.le_refl _))
  have HB := Aside0.mk (below_alloc (Below.refl w.heap.size w) (.cells #[] 2))
  have HC := Aside0.mk (Kd.C_below (Kd.F_now h.2.2.2.2.2) (below_alloc (Below.refl _ _) (.cells #[] 2)))
  clear h hd hb2
  go_enter Tryz.func16, Tryz.ntmps16
  go_wp2_with (first | ((with_reducible refine gate_builtin (b := .append) (xs := #[.tmp 12, .tmp 16]) rfl ?_); at_builtin; refine Kd.R_append_rows (Kd.int .i64) (w0 := w) w.heap.size rfl (.tmp 12) (.tmp 16) 28 2 (.int .i64 0) 8 rfl Tryz.underlying28 info_keys rfl (by decide) (by omega) (.slice (some ⟨w.heap.size, 0, none⟩) 0 0) [] th.out A th.out.length c (fun k => w.heap.size ≤ k) (fun _ => False) rfl rfl HE.out HC.out (fun _ _ h => h) (fun _ hk => hk.elim) (fun k hk => by simp at hk; omega) HB.out (by simp) (by simp; omega) ?_; intro v5 w5 ho hb5 hg hat; have HO := Aside0.mk ho; have HB5 := Aside0.mk hb5; clear ho hb5 hg hat HE HB HC))
  go_ret
  exact ⟨_, rfl, HO.out, HB5.out⟩
structure Ar.Good (a : Ar) : Prop where
  most : a.most ≤ 65536
  slots : (a.slots.length : Int) ≤ a.most
  used : a.used + a.free.length = a.slots.length
  cnt : ((a.slots.countP fun s => s.used : Nat) : Int) ≤ a.used
  small : ∀ (i : Nat) (s : Sl), a.slots[i]? = some s → s.node.Small ∧ s.ways.length < 1000000
theorem Ar.Good.fits {a : Ar} (h : a.Good) : a.Fits := ⟨by have := h.most; have := h.slots; omega, fun i s hi => by
  obtain ⟨h1, h2⟩ := h.small i s hi
  exact ⟨h1.pairs, h1.keys, h1.ways, h2⟩⟩
theorem Ar.Good.fault {a : Ar} (h : a.Good) : a.fault.Good := ⟨h.most, h.slots, h.used, h.cnt, h.small⟩
theorem Ar.Good.look {a : Ar} (h : a.Good) (r : Int) : (a.look r).2.Good := by
  unfold Ar.look
  split
  · exact h.fault
  · split <;> exact h
theorem Ar.Good.look_small {a : Ar} (h : a.Good) (r : Int) : (a.look r).1.Small := by
  unfold Ar.look
  split
  · exact ⟨by simp [nd0], by simp [nd0], by simp [nd0]⟩
  · split
    · exact ⟨by simp [nd0], by simp [nd0], by simp [nd0]⟩
    · rename_i s hs
      exact (h.small _ s hs).1
theorem Ar.Good.way {a : Ar} (h : a.Good) (r i : Int) : (a.way r i).2.Good := by
  unfold Ar.way
  split
  · exact h.fault
  · split <;> exact h
structure Ep.Good (x : Ep) : Prop where
  few : x.said.length ≤ 64
structure Tb.Good (t : Tb) : Prop where
  most : t.most ≤ 65536
  len : (t.l.length : Int) ≤ t.most
  small : ∀ (i : Nat) (e : En), t.l[i]? = some e → e.rc.nodes.length < 1000000 ∧ e.rc.infos.length < 1000000
structure Ws.Good (x : Ws) : Prop where
  ar : x.ar.Good
  ep : x.ep.Good
  tb : x.tb.Good
def shW (p : Nat) (x : Ws) (ok : Nat → Prop) (w : World) : Prop := IsWorld p x ok w ∧ x.Good
theorem shW_shared (p : Nat) : Shared (shW p) where
  step := fun h hs hm => ⟨(worldShared p).step h.1 hs hm, h.2⟩
  lt := fun h => (worldShared p).lt h.1
theorem IsRun.direct {X : Type} {Sh : X → (Nat → Prop) → World → Prop} {tb : Nat} {work : Value} {ok : Nat → Prop} {s : TS X} {w : World} (h : IsRun Sh tb work ok s w) :
    ∃ okS, (∀ k, okS k → ok k) ∧ Sh s.sh okS w ∧ ∀ x1 okS1 w1, Sh x1 okS1 w1 → Moves okS okS1 w w1 → ∃ ok1, IsRun Sh tb work ok1 { s with sh := x1 } w1 ∧ Moves ok ok1 w w1 ∧ ∀ k, ok1 k → ok k ∨ okS1 k := by
  obtain ⟨okT, okS, h1, h2, h3, h4⟩ := h.out
  refine ⟨okS, fun k hk => (h1 k).2 (.inr hk), h4, fun x1 okS1 w1 hs hm => ⟨fun k => okT k ∨ okS1 k, ⟨h.le, h.short, okT, okS1, fun _ => Iff.rfl, fun k hk hk1 => ?_, ?_, hs⟩, ?_, fun k hk => hk.imp (fun h5 => (h1 k).2 (.inl h5)) id⟩⟩
  · exact (hm.fresh k hk1).elim (h2 k hk) (fun h5 => by have := h3.lt k hk; omega)
  · exact h3.step hm.size (fun k hk hlt => hm.block k hlt (fun h5 => h2 k hk h5))
  · exact ⟨hm.os, hm.tape, hm.output, hm.size, fun k hk hn => hm.block k hk (fun h5 => hn ((h1 k).2 (.inr h5))), fun k hk => hk.elim (fun h5 => .inl ((h1 k).2 (.inl h5))) (fun h5 => (hm.fresh k h5).imp (fun h6 => (h1 k).2 (.inr h6)) id)⟩
abbrev kNd : Kd Nd := Kd.iso (Kd.pair Kd.bool (Kd.pair Kd.bool (Kd.pair (Kd.slice 31 kPair) (Kd.pair (Kd.slice 2 (Kd.int .i64)) (Kd.slice 55 (Kd.int .i64)))))) (fun n => (n.inner, n.tagged, n.pairs, n.keys, n.ways))
structure Stp where
  ref : Int
  node : Nd
  way : Int
abbrev kStp : Kd Stp := Kd.iso (Kd.pair (Kd.int .i64) (Kd.pair kNd (Kd.int .i64))) (fun s => (s.ref, s.node, s.way))
theorem kNd_M {w : World} {base : Nat} {ok : Nat → Prop} {n : Nd} {p k y : Value} (hp : kPair.R 31 w base ok p n.pairs) (hk : (Kd.int .i64).R 2 w base ok k n.keys) (hy : (Kd.int .i64).R 55 w base ok y n.ways) : kNd.M w base ok n [.bool n.inner, .bool n.tagged, p, k, y] :=
  ⟨[.bool n.inner], [.bool n.tagged, p, k, y], rfl, rfl, [.bool n.tagged], [p, k, y], rfl, rfl, [p], [k, y], rfl, ⟨p, rfl, hp⟩, [k], [y], rfl, ⟨k, rfl, hk⟩, ⟨y, rfl, hy⟩⟩
theorem kStp_M {w : World} {base : Nat} {ok : Nat → Prop} {s : Stp} {cs : List Value} (h : kNd.M w base ok s.node cs) : kStp.M w base ok s (.int .i64 s.ref :: (cs ++ [.int .i64 s.way])) :=
  ⟨[.int .i64 s.ref], cs ++ [.int .i64 s.way], rfl, rfl, cs, [.int .i64 s.way], rfl, h, rfl⟩
def lookT (r : Int) : Pr Ws Nd := fun s => some (.ret (s.sh.ar.look r).1, { s with sh := { s.sh with ar := (s.sh.ar.look r).2 } })
def wayT (r i : Int) : Pr Ws Int := doT (fun x => ((x.ar.way r i).1, { x with ar := (x.ar.way r i).2 }))
def stpWay (n : Nd) (key : Int) : Int := if n.inner then wayOf n.keys n.ways.length key else 0
def pathT (key : Int) : Nat → Int → List Stp → Pr Ws (List Stp)
  | 0, _, _ => fun _ => none
  | f + 1, r, acc => prBind (lookT r) fun n =>
    if n.inner = false then fun s => some (.ret (acc ++ [⟨r, n, stpWay n key⟩]), s)
    else prBind (wayT r (stpWay n key)) fun r1 => if r1 = 0 then fun s => some (.ret (acc ++ [⟨r, n, stpWay n key⟩]), s) else pathT key f r1 (acc ++ [⟨r, n, stpWay n key⟩])
def TPath1 : Bool × List (List Nat × List Nat) := (true, [([], []), ([0], [0]), ([1], [1]), ([2], [2]), ([3], [3]), ([], []), ([5], [5]), ([], []), ([4, 6, 7], [4, 6, 7]), ([8, 8, 0, 1, 2, 3, 4, 5, 6, 7, 8], [8])])
def BPath1 : List Nat := [0, 1, 3, 7, 15, 0, 32, 0, 255, 511]
theorem tabPath1 : rtab .any (opsOf Tryz.f117 1) = TPath1 := by kernel_rfl
theorem bitsPath1 : waitsOk TPath1.2 BPath1 = true := by kernel_rfl
set_option maxHeartbeats 2000000 in
set_option maxRecDepth 100000 in
theorem path1_calls (p : Nat) (x : Ws) (r i : Int) (w : World) (okS : Nat → Prop) (bt bs bi : Nat) (h : shW p x okS w)
    (ht : w.cell? ⟨bt, 1, none⟩ = some (.pointer (some ⟨p, 0, none⟩))) (hs : w.cell? ⟨bs, 0, none⟩ = some (.int .i64 r)) (hi : w.cell? ⟨bi, 0, none⟩ = some (.int .i64 i)) :
    Calls Tryz.prog 117 #[.pointer (some ⟨bt, 0, none⟩), .pointer (some ⟨bs, 0, none⟩), .pointer (some ⟨bi, 0, none⟩)] w fun e w2 => ∃ okS1, e = .returned (.int .i64 (x.ar.way r i).1) ∧ shW p { x with ar := (x.ar.way r i).2 } okS1 w2 ∧ Moves okS okS1 w w2 := by
  obtain ⟨⟨okA, okR, okE, pA, pR, pE, h⟩, hg⟩ := h
  have HW := Aside0.mk h
  have HG := Aside0.mk hg
  have hp := (blk_cell h.box 0).trans (rfl : _ = some (Value.pointer (some ⟨pA, 0, none⟩)))
  have HC := Aside0.mk (And.intro ht (And.intro hp (And.intro hs hi)))
  clear h hg ht hs hi hp
  go_enter Tryz.func117, Tryz.ntmps117
  go_upto_region 1 with fail
  refine start_ (n := 10) (S := fun w' => w'.cell? ⟨bt, 1, none⟩ = some (.pointer (some ⟨p, 0, none⟩)) ∧ w'.cell? ⟨p, 0, none⟩ = some (.pointer (some ⟨pA, 0, none⟩)) ∧ w'.cell? ⟨bs, 0, none⟩ = some (.int .i64 r) ∧ w'.cell? ⟨bi, 0, none⟩ = some (.int .i64 i)) (ds := [8]) #[N_,N_,N_,N_,N_,N_,N_,N_,N_,N_] (by kernel_rfl) rfl rfl HC.out (fun hHeld => ?_); refine with_tabW tabPath1 bitsPath1 (fun HT_ HW_ => ?_)
  have HW := Aside0.mk (HW.out.step (w1 := w.drew) (Nat.le_refl _) (fun _ _ _ => rfl))
  have HM := Aside0.mk ((Moves.refl okS w).drew)
  clear HC
  generalize World.drew _ = w1 at HW HM hHeld ⊢
  refine pure_ (i := 0) (N := (some 4)) (v := ?_) (a' := ?_) #[Y_,N_,N_,N_,N_,N_,N_,N_,N_,N_] rfl rfl (any_of HT_.out (by kernel_rfl)) (fun _ _ _ h => h) (Or.inl ⟨by rfl, ?_⟩) ?_ ?_
  rotate_left; · intro w'; go_simp; with_reducible rfl
  rotate_left; · simp only [Act.put, u1_, u2_, u3_, i64_w, i32_w]; rfl
  refine take_ (i := 1) (N := (some 5)) (v := ?_) (a' := ?_) #[Y_,Y_,N_,N_,N_,N_,N_,N_,N_,N_] rfl rfl (take_ofW HT_.out HW_.out (by kernel_rfl)) (fun _ _ _ h => h) (Or.inl ⟨by rfl, ?_⟩) hHeld ?_ ?_
  rotate_left; · rintro w' ⟨s0, s1, s2, s3⟩; go_simp; with_reducible rfl
  rotate_left; · simp only [Act.put, u1_, u2_, u3_, i64_w, i32_w]; rfl
  refine pure_ (i := 2) (N := (some 6)) (v := ?_) (a' := ?_) #[Y_,Y_,Y_,N_,N_,N_,N_,N_,N_,N_] rfl rfl (any_of HT_.out (by kernel_rfl)) (fun _ _ _ h => h) (Or.inl ⟨by rfl, ?_⟩) ?_ ?_
  rotate_left; · intro w'; go_simp; with_reducible rfl
  rotate_left; · simp only [Act.put, u1_, u2_, u3_, i64_w, i32_w]; rfl
  refine pure_ (i := 3) (N := (some 7)) (v := ?_) (a' := ?_) #[Y_,Y_,Y_,Y_,N_,N_,N_,N_,N_,N_] rfl rfl (any_of HT_.out (by kernel_rfl)) (fun _ _ _ h => h) (Or.inl ⟨by rfl, ?_⟩) ?_ ?_
  rotate_left; · intro w'; go_simp; with_reducible rfl
  rotate_left; · simp only [Act.put, u1_, u2_, u3_, i64_w, i32_w]; rfl
  refine take_ (i := 4) (N := (some 8)) (v := ?_) (a' := ?_) #[Y_,Y_,Y_,Y_,Y_,N_,N_,N_,N_,N_] rfl rfl (take_ofW HT_.out HW_.out (by kernel_rfl)) (fun _ _ _ h => h) (Or.inl ⟨by rfl, ?_⟩) hHeld ?_ ?_
  rotate_left; · rintro w' ⟨s0, s1, s2, s3⟩; go_simp; with_reducible rfl
  rotate_left; · simp only [Act.put, u1_, u2_, u3_, i64_w, i32_w]; rfl
  refine pure_ (i := 5) (N := (some 9)) (v := ?_) (a' := ?_) #[Y_,Y_,Y_,Y_,Y_,Y_,N_,N_,N_,N_] rfl rfl (any_of HT_.out (by kernel_rfl)) (fun _ _ _ h => h) (Or.inl ⟨by rfl, ?_⟩) ?_ ?_
  rotate_left; · intro w'; go_simp; with_reducible rfl
  rotate_left; · simp only [Act.put, u1_, u2_, u3_, i64_w, i32_w]; rfl
  refine take_ (i := 6) (N := (some 10)) (v := ?_) (a' := ?_) #[Y_,Y_,Y_,Y_,Y_,Y_,Y_,N_,N_,N_] rfl rfl (take_ofW HT_.out HW_.out (by kernel_rfl)) (fun _ _ _ h => h) (Or.inl ⟨by rfl, ?_⟩) hHeld ?_ ?_
  rotate_left; · rintro w' ⟨s0, s1, s2, s3⟩; go_simp; with_reducible rfl
  rotate_left; · simp only [Act.put, u1_, u2_, u3_, i64_w, i32_w]; rfl
  refine take_ (i := 7) (N := (some 11)) (v := ?_) (a' := ?_) #[Y_,Y_,Y_,Y_,Y_,Y_,Y_,Y_,N_,N_] rfl rfl (take_ofW HT_.out HW_.out (by kernel_rfl)) (fun _ _ _ h => h) (Or.inl ⟨by rfl, ?_⟩) hHeld ?_ ?_
  rotate_left; · rintro w' ⟨s0, s1, s2, s3⟩; go_simp; with_reducible rfl
  rotate_left; · simp only [Act.put, u1_, u2_, u3_, i64_w, i32_w]; rfl
  refine last_ (i := 8) (N := (some 12)) #[Y_,Y_,Y_,Y_,Y_,Y_,Y_,Y_,Y_,N_] rfl rfl (one_of HT_.out (by kernel_rfl)) (by decide) (fun K_ hK => ?_)
  refine call_ 44 #[.pointer (some ⟨pA, 0, none⟩), .int .i64 r, .int .i64 i] (by rfl) rfl ?hrun8 ?_
  (case hrun8 => first | (go_simp; done) | (go_simp; exact enters Tryz.func44 (by kernel_rfl) rfl _ _))
  refine (way_calls r i _ HW.out.ar HG.out.ar.fits.slots).mono ?_
  rintro e w2 ⟨rfl, hA, hM⟩
  have A2 := Aside0.mk hA
  have M2 := Aside0.mk hM
  clear hA hM
  refine ⟨_, rfl, ?_⟩
  refine hK.out _ _ ?_
  clear hK K_
  refine norm_ (a' := ?_) ?_ ?_
  rotate_left; · show Act.put _ (some 12) _ = _; simp only [Act.put, u1_, u2_, u3_, i64_w, i32_w]; rfl
  refine pure_ (i := 9) (N := (some 3)) (v := ?_) (a' := ?_) #[Y_,Y_,Y_,Y_,Y_,Y_,Y_,Y_,Y_,Y_] rfl rfl (any_of HT_.out (by kernel_rfl)) (fun _ _ _ h => h) (Or.inl ⟨by rfl, ?_⟩) ?_ ?_
  rotate_left; · intro w'; go_simp; with_reducible rfl
  rotate_left; · simp only [Act.put, u1_, u2_, u3_, i64_w, i32_w]; rfl
  refine done_ (done_of HT_.out (by kernel_rfl)) ?_
  go_wp2_with fail
  go_ret
  exact ⟨_, rfl, ⟨⟨_, _, _, _, _, _, (HW.out.ar_moves A2.out M2.out).1⟩, ⟨HG.out.ar.way r i, HG.out.ep, HG.out.tb⟩⟩, HM.out.trans (HW.out.ar_moves A2.out M2.out).2⟩
def taskV (tb p : Nat) (me : Int) : Value := .agg #[.pointer (some ⟨tb, 0, none⟩), .pointer (some ⟨p, 0, none⟩), .int .i64 me]
def taskO (tb p : Nat) (me : Int) : Obj := .cells #[.pointer (some ⟨tb, 0, none⟩), .pointer (some ⟨p, 0, none⟩), .int .i64 me] 84 (0, 0)
theorem look_task {p tb : Nat} {work : Value} {ok : Nat → Prop} {s : TS Ws} {w : World} (h : IsRun (shW p) tb work ok s w) (r : Int) :
    ∃ pA, w.cell? ⟨p, 0, none⟩ = some (.pointer (some ⟨pA, 0, none⟩)) ∧ w.cell? ⟨p, 5, none⟩ = some (.int .i64 s.sh.entry) ∧ (s.sh.ar.look r).1.Small ∧ Calls Tryz.prog 81 #[.pointer (some ⟨pA, 0, none⟩), .int .i64 r] w fun e w1 => ∃ v ok1, e = .returned v ∧ NdNew w.heap.size (s.sh.ar.look r).1 v w1 ∧ IsRun (shW p) tb work ok1 { s with sh := { s.sh with ar := (s.sh.ar.look r).2 } } w1 ∧ Moves ok ok1 w w1 ∧ ∀ k, ok1 k → ok k := by
  obtain ⟨okS, hk, ⟨⟨okA, okR, okE, pA, pR, pE, hw⟩, hg⟩, hd⟩ := h.direct
  refine ⟨pA, (blk_cell hw.box 0).trans rfl, (blk_cell hw.box 5).trans rfl, hg.ar.look_small r, (look_calls r w hw.ar hg.ar.fits).mono ?_⟩
  rintro e w1 ⟨⟨v, rfl, hv⟩, ha, hm⟩
  obtain ⟨h1, h2⟩ := hw.ar_moves ha hm
  obtain ⟨ok1, h3, h4, h5⟩ := hd _ _ w1 ⟨⟨_, _, _, _, _, _, h1⟩, ⟨hg.ar.look r, hg.ep, hg.tb⟩⟩ h2
  exact ⟨v, ok1, rfl, hv, h3, h4, fun k hk1 => (h5 k hk1).elim id (fun h6 => hk k ((hw.ok k).2 h6))⟩
def VStepsN (N : Nat) (l : List Stp) (ok : Nat → Prop) (v : Value) (w : World) : Prop := kStp.R 134 w N (fun k => ¬ ok k) v l
theorem TPost.imp {X α : Type} {Sh : X → (Nat → Prop) → World → Prop} {tb : Nat} {work : Value} {V V1 : α → (Nat → Prop) → Value → World → Prop} {ok : Nat → Prop} {w : World} {res : Out α × TS X} {e : Ending} {w1 : World} (h : TPost Sh tb work V ok w res e w1) (hv : ∀ a k v w, V a k v w → V1 a k v w) : TPost Sh tb work V1 ok w res e w1 := by
  obtain ⟨ok1, h1, h2, h3⟩ := h
  refine ⟨ok1, h1, h2, ?_⟩
  obtain ⟨o, t⟩ := res
  cases o with
  | ret a => obtain ⟨v, he, hv1⟩ := h3; exact ⟨v, he, hv _ _ _ _ hv1⟩
  | wait => exact h3
theorem info_step : (Tryz.prog.info? 134).map (fun i => (i.zero, i.size, i.bytes)) = some (some (.agg #[.int .i64 0, .bool false, .bool false, .slice none 0 0, .slice none 0 0, .slice none 0 0, .int .i64 0]), 7, 96) := by kernel_rfl
structure PathAt (p tb : Nat) (work : Value) (me : Int) (bt : Nat) (key : Int) (ok : Nat → Prop) (w : World) (res : Out (List Stp) × TS Ws) (f : Nat) (v5 v6 : Value) (wr : World) : Prop where
  out : ∃ ok1 s1 acc r, v6 = .int .i64 r ∧ kStp.R 134 wr w.heap.size (fun k => ¬ ok1 k ∧ k ≠ bt) v5 acc ∧ IsRun (shW p) tb work ok1 s1 wr ∧ Moves ok ok1 w wr ∧ wr.heap[bt]? = some (taskO tb p me) ∧ ¬ ok1 bt ∧ acc.length + f < 900000 ∧ pathT key f r acc s1 = some res
set_option maxHeartbeats 4000000 in
set_option maxRecDepth 100000 in
theorem path_callsN (p tb : Nat) (work : Value) (me key : Int) (ok : Nat → Prop) (s : TS Ws) (w : World) (h : IsRun (shW p) tb work ok s w) (f : Nat) (hf : f < 900000) (res : Out (List Stp) × TS Ws) (hr : pathT key f s.sh.entry [] s = some res) :
    Calls Tryz.prog 98 #[taskV tb p me, .int .i64 key] w (TPost (shW p) tb work (VStepsN w.heap.size) ok w res) := by
  have h1 := h.below (shW_shared p) (below_alloc (Below.refl _ _) (taskO tb p me))
  have HN : ¬ ok w.heap.size := fun hk => by have := h.lt (shW_shared p) _ hk; omega
  obtain ⟨pA, c0, c5, _, _⟩ := look_task h1 0
  have HP : Aside0 (PathAt p tb work me w.heap.size key ok w res f (.slice none 0 0) (.int .i64 s.sh.entry) (w.alloc (taskO tb p me))) := ⟨⟨ok, s, [], _, rfl, Kd.R_nil _ _ _ _ _, h1, (Moves.refl ok w).alloc _, blk_new w _, HN, by simpa using hf, hr⟩⟩
  have hbt := (blk_cell (blk_new w (taskO tb p me)) 1).trans (rfl : _ = some (Value.pointer (some ⟨p, 0, none⟩)))
  unfold taskO at HP hbt c0 c5
  unfold taskV
  clear h h1 hr HN
  go_enter Tryz.func98, Tryz.ntmps98
  go_upto_region 2 with fail
  generalize w.alloc (.cells #[.pointer (some ⟨tb, 0, none⟩), .pointer (some ⟨p, 0, none⟩), .int .i64 me] 84) = w1 at HP hbt c0 c5 ⊢
  generalize hbb : w.heap.size = bt at HP hbt ⊢
  go_wp2_with fail
  clear c0 c5 hbt
  go_loopg [5, 6] f (fun g v5 v6 wr => Aside0 (PathAt p tb work me bt key ok w res g v5 v6 wr))
  case atStart => exact HP
  case round =>
    cases gk with
    | zero => obtain ⟨ok1, s1, acc, r, _, _, _, _, _, _, _, hr⟩ := hrel.out.out; cases hr
    | succ g =>
    obtain ⟨ok1, s1, acc, r, rfl, hR, hI, hM, hB, hN, hL, hr⟩ := hrel.out.out
    obtain ⟨pA, c0, _, hsm, hlook⟩ := look_task hI r
    have HL := Aside0.mk hlook
    have R0 := Aside0.mk hR
    have I0 := Aside0.mk hI
    have M0 := Aside0.mk hM
    have B0 := Aside0.mk hB
    have N0 := Aside0.mk hN
    have L0 := Aside0.mk hL
    have HR := Aside0.mk hr
    have cb := (blk_cell hB 1).trans (rfl : _ = some (Value.pointer (some ⟨p, 0, none⟩)))
    clear hR hI hM hB hN hL hr hrel hlook
    go_upto_region 4 with (go_at_call 81; refine HL.out.mono ?_; rintro e w2 ⟨v2, ok2, rfl, ⟨pv, kv, yv, rfl, hp, hk, hy⟩, hI2, hM2, hO2⟩; have O2 := Aside0.mk hO2; obtain ⟨Ap, cp, rfl⟩ := Kd.R_slice hp; obtain ⟨Ak, ck, rfl⟩ := Kd.R_slice hk; obtain ⟨Ay, cy, rfl⟩ := Kd.R_slice hy; have P2 := Aside0.mk hp; have K2 := Aside0.mk hk; have Y2 := Aside0.mk hy; have I2 := Aside0.mk hI2; have M2 := Aside0.mk hM2; clear hp hk hy hI2 hM2 hO2 HL)
    have HS := Aside0.mk hsm
    clear hsm c0 cb
    have hr1 := HR.out
    unfold pathT prBind lookT at hr1
    simp only at hr1
    generalize (s1.sh.ar.look r).1 = n at P2 K2 Y2 HS hr1 ⊢
    generalize ({ s1 with sh := { s1.sh with ar := (s1.sh.ar.look r).2 } } : TS Ws) = s2 at I2 hr1
    have HR1 := Aside0.mk hr1
    obtain ⟨A5, c5, rfl⟩ := Kd.R_slice R0.out
    have hlt1 : ∀ k, ok2 k → k < w2.heap.size := I2.out.lt (shW_shared p)
    have hb2 : w2.heap[bt]? = some (taskO tb p me) := (M2.out.block bt (blk_lt B0.out) N0.out).trans B0.out
    have N2 : Aside0 (¬ ok2 bt) := ⟨fun h => (M2.out.fresh bt h).elim N0.out (fun h2 => by have := blk_lt B0.out; omega)⟩
    have R2 : kStp.R 134 w2 w.heap.size (fun k => ¬ ok2 k ∧ k ≠ bt ∧ k ≠ w2.heap.size ∧ k < wr.heap.size) (.slice A5 acc.length c5) acc := Kd.R_mono (Kd.R_step (Kd.R_bound R0.out) (fun k hk hlt => M2.out.block k hlt hk.1.1)) (fun k hk => ⟨fun h => (M2.out.fresh k h).elim hk.1.1 (fun h2 => by have := hk.2.2.1; omega), hk.1.2, by have := hk.2.2.1; have := M2.out.size; omega, hk.2.2.1⟩)
    have hnd : ∀ k, wr.heap.size ≤ k ∧ k < w2.heap.size → (¬ ok2 k ∧ k ≠ bt ∧ k ≠ w2.heap.size) ∧ some k ≠ (Value.slice A5 acc.length c5).ownBlock := fun k hk => ⟨⟨fun h => by have := I0.out.lt (shW_shared p) k (O2.out k h); omega, fun e => by have := blk_lt B0.out; omega, by omega⟩, fun e => by have := Kd.R_lt R0.out k e.symm; omega⟩
    have R3 := Aside0.mk (Kd.R_alloc (Kd.R_mono R2 (fun k hk => ⟨hk.1, hk.2.1, hk.2.2.1⟩) : kStp.R 134 w2 w.heap.size (fun k => ¬ ok2 k ∧ k ≠ bt ∧ k ≠ w2.heap.size) (.slice A5 acc.length c5) acc) (.cells #[.int .i64 r, .bool n.inner, .bool n.tagged, .slice Ap n.pairs.length cp, .slice Ak n.keys.length ck, .slice Ay n.ways.length cy, .int .i64 0] 134))
    have P3 := Aside0.mk (Kd.R_alloc (Kd.R_lower (Kd.R_mono (Kd.R_bound P2.out) (fun k hk => hnd k ⟨hk.1, hk.2.2.1⟩)) M0.out.size) (.cells #[.int .i64 r, .bool n.inner, .bool n.tagged, .slice Ap n.pairs.length cp, .slice Ak n.keys.length ck, .slice Ay n.ways.length cy, .int .i64 0] 134))
    have K3 := Aside0.mk (Kd.R_alloc (Kd.R_lower (Kd.R_mono (Kd.R_bound K2.out) (fun k hk => hnd k ⟨hk.1, hk.2.2.1⟩)) M0.out.size) (.cells #[.int .i64 r, .bool n.inner, .bool n.tagged, .slice Ap n.pairs.length cp, .slice Ak n.keys.length ck, .slice Ay n.ways.length cy, .int .i64 0] 134))
    have Y3 := Aside0.mk (Kd.R_alloc (Kd.R_lower (Kd.R_mono (Kd.R_bound Y2.out) (fun k hk => hnd k ⟨hk.1, hk.2.2.1⟩)) M0.out.size) (.cells #[.int .i64 r, .bool n.inner, .bool n.tagged, .slice Ap n.pairs.length cp, .slice Ak n.keys.length ck, .slice Ay n.ways.length cy, .int .i64 0] 134))
    have I3 := Aside0.mk (I2.out.below (shW_shared p) (below_alloc (Below.refl _ _) (.cells #[.int .i64 r, .bool n.inner, .bool n.tagged, .slice Ap n.pairs.length cp, .slice Ak n.keys.length ck, .slice Ay n.ways.length cy, .int .i64 0] 134)))
    have M3 := Aside0.mk ((M0.out.trans M2.out).alloc (.cells #[.int .i64 r, .bool n.inner, .bool n.tagged, .slice Ap n.pairs.length cp, .slice Ak n.keys.length ck, .slice Ay n.ways.length cy, .int .i64 0] 134))
    have B3 := Aside0.mk (blk_alloc hb2 (.cells #[.int .i64 r, .bool n.inner, .bool n.tagged, .slice Ap n.pairs.length cp, .slice Ak n.keys.length ck, .slice Ay n.ways.length cy, .int .i64 0] 134))
    have S3 := Aside0.mk (blk_new w2 (.cells #[.int .i64 r, .bool n.inner, .bool n.tagged, .slice Ap n.pairs.length cp, .slice Ak n.keys.length ck, .slice Ay n.ways.length cy, .int .i64 0] 134))
    have hs7 : Aside0 (¬ ok2 w2.heap.size) := ⟨fun h => by have := I2.out.lt (shW_shared p) _ h; omega⟩
    have hne : Aside0 (bt ≠ w2.heap.size) := ⟨by have := blk_lt hb2; omega⟩
    have hsw : Aside0 (w.heap.size ≤ w2.heap.size) := ⟨(M0.out.trans M2.out).size⟩
    clear R2 hnd hlt1 hb2 R0 I0 M0 B0 N0 P2 K2 Y2 I2 M2 O2 hr1 HR
    generalize w2.alloc (.cells #[.int .i64 r, .bool n.inner, .bool n.tagged, .slice Ap n.pairs.length cp, .slice Ak n.keys.length ck, .slice Ay n.ways.length cy, .int .i64 0] 134) = w3 at R3 P3 K3 Y3 I3 M3 B3 S3 ⊢
    generalize w2.heap.size = b7 at R3 P3 K3 Y3 S3 hs7 hne hsw ⊢
    have k1 := (blk_cell S3.out 1).trans (rfl : _ = some (Value.bool n.inner))
    have HH := HR1.out
    clear HR1
    cases hin : n.inner with
    | false =>
      rw [hin] at k1
      rw [if_pos hin] at HH
      injection HH with HH
      have HRES := Aside0.mk HH
      have HIN := Aside0.mk hin
      clear HH
      have k0 := (blk_cell S3.out 0).trans (rfl : _ = some (Value.int .i64 r))
      have k2 := (blk_cell S3.out 2).trans (rfl : _ = some (Value.bool n.tagged))
      have k3 := (blk_cell S3.out 3).trans (rfl : _ = some (Value.slice Ap n.pairs.length cp))
      have k4 := (blk_cell S3.out 4).trans (rfl : _ = some (Value.slice Ak n.keys.length ck))
      have k5 := (blk_cell S3.out 5).trans (rfl : _ = some (Value.slice Ay n.ways.length cy))
      have k6 := (blk_cell S3.out 6).trans (rfl : _ = some (Value.int .i64 0))
      have E3 : Aside0 (kStp.M w3 w.heap.size (fun k => (¬ ok2 k ∧ k ≠ bt ∧ k ≠ b7) ∧ some k ≠ (Value.slice A5 acc.length c5).ownBlock) ⟨r, n, 0⟩ [.int .i64 r, .bool false, .bool n.tagged, .slice Ap n.pairs.length cp, .slice Ak n.keys.length ck, .slice Ay n.ways.length cy, .int .i64 0]) := ⟨by rw [← HIN.out]; exact kStp_M (s := ⟨r, n, 0⟩) (kNd_M P3.out K3.out Y3.out)⟩
      clear hin
      go_upto_region 7 with ((with_reducible refine gate_builtin (b := .append) (xs := #[.tmp 32, .tmp 34]) rfl ?_); at_builtin; refine Kd.R_append kStp (w0 := w3) w.heap.size rfl (.tmp 32) (.tmp 34) 172 134 _ 96 rfl Tryz.underlying172 info_step rfl (by decide) (by decide) (.slice A5 acc.length c5) acc ⟨r, n, 0⟩ _ (fun k => (¬ ok2 k ∧ k ≠ bt ∧ k ≠ b7)) (fun k => (¬ ok2 k ∧ k ≠ bt ∧ k ≠ b7) ∧ some k ≠ (Value.slice A5 acc.length c5).ownBlock) rfl rfl E3.out (fun _ hk => hk) (fun k hk => ⟨fun h => by have := I3.out.lt (shW_shared p) k h; omega, fun h => by have := blk_lt B3.out; omega, fun h => by have := blk_lt S3.out; omega⟩) R3.out (Below.refl _ _) M3.out.size (by have := L0.out; omega) ?_; intro v5 w5 ho hb5 hg hat; obtain ⟨A6, c6, rfl⟩ := Kd.R_slice ho; have m0_ := Aside0.mk ho; have m1_ := Aside0.mk hg; clear ho hb5 hg hat)
      have hob : ∀ k, ok2 k → some k ≠ (Value.slice A5 acc.length c5).ownBlock := fun k hk e => (R3.out.1 k e.symm).1 hk
      have I5 := Aside0.mk (I3.out.step (shW_shared p) m1_.out.size (fun k hk hlt => m1_.out.block k hlt (hob k hk)))
      have M5 := Aside0.mk (M3.out.grown m1_.out (fun k hk => .inr (Kd.R_base R3.out k hk)))
      have S5 := Aside0.mk (blk_grown S3.out m1_.out (fun e => (R3.out.1 b7 e.symm).2.2 rfl))
      clear k0 k1 k2 k3 k4 k5 k6 hob
      have k1 := (blk_cell S5.out 1).trans (rfl : _ = some (Value.bool n.inner))
      rw [HIN.out] at k1
      go_wp2_with fail
      go_ret
      rw [← HRES.out]
      have hw0 : stpWay n key = 0 := by simp [stpWay, HIN.out]
      rw [hw0]
      have hlen : (acc ++ [(⟨r, n, 0⟩ : Stp)]).length = acc.length + 1 := by simp
      have h0 := m0_.out
      rw [hlen] at h0
      exact ⟨⟨ok2, M5.out, I5.out, _, rfl, Kd.R_lower (Kd.R_mono h0 (fun k hk => hk.1)) (Nat.le_of_eq hbb.symm)⟩⟩
    | true =>
      rw [hin] at k1
      rw [if_neg (by rw [hin]; decide)] at HH
      have HIN := Aside0.mk hin
      have hwy : stpWay n key = wayOf n.keys n.ways.length key := by simp [stpWay, hin]
      rw [hwy] at HH
      have HRES := Aside0.mk HH
      clear HH hwy hin
      have k4 := (blk_cell S3.out 4).trans (rfl : _ = some (Value.slice Ak n.keys.length ck))
      have k5 := (blk_cell S3.out 5).trans (rfl : _ = some (Value.slice Ay n.ways.length cy))
      have hkc := Aside0.mk (Kd.R_reads' K3.out).2.2
      go_upto_region 6 with (go_at_call 116; refine (inner_way Ak Ay ck n.ways.length cy n.keys key _ hkc.out HS.out.keys HS.out.ways).mono ?_; rintro e w4 ⟨rfl, hb4⟩; have k6 := (blk_cell (blk_below S3.out hb4) 6).trans (rfl : _ = some (Value.int .i64 0)); have z6 := blk_frozen (blk_below S3.out hb4) 6; have X4 := Aside0.mk hb4; clear hb4)
      generalize hwyv : wayOf n.keys n.ways.length key = wy at HRES ⊢
      have hob7 : ∀ k, ok2 k → k ≠ b7 := fun k hk e => hs7.out (e ▸ hk)
      have R5 := Aside0.mk (Kd.R_far (Kd.R_below R3.out X4.out) (p := ⟨b7, 6, none⟩) (fun k hk => hk.2.2) (.int .i64 wy))
      have P5 := Aside0.mk (Kd.R_far (Kd.R_below P3.out X4.out) (p := ⟨b7, 6, none⟩) (fun k hk => hk.1.2.2) (.int .i64 wy))
      have K5 := Aside0.mk (Kd.R_far (Kd.R_below K3.out X4.out) (p := ⟨b7, 6, none⟩) (fun k hk => hk.1.2.2) (.int .i64 wy))
      have Y5 := Aside0.mk (Kd.R_far (Kd.R_below Y3.out X4.out) (p := ⟨b7, 6, none⟩) (fun k hk => hk.1.2.2) (.int .i64 wy))
      have I5 := Aside0.mk ((I3.out.below (shW_shared p) X4.out).far (shW_shared p) (p := ⟨b7, 6, none⟩) hs7.out (.int .i64 wy))
      have M5 := Aside0.mk ((M3.out.below X4.out).set (p := ⟨b7, 6, none⟩) (.inr hsw.out) (.int .i64 wy))
      have B5 := Aside0.mk (blk_far (blk_below B3.out X4.out) (p := ⟨b7, 6, none⟩) hne.out (.int .i64 wy))
      have S5 := Aside0.mk (blk_set (blk_below S3.out X4.out) 6 (.int .i64 wy))
      clear R3 P3 K3 Y3 I3 M3 B3 S3 k1 k4 k5 k6 z6 hkc hob7
      generalize w4.setCell ⟨b7, 6, none⟩ (.int .i64 wy) = w5 at R5 P5 K5 Y5 I5 M5 B5 S5 ⊢
      have k0 := (blk_cell S5.out 0).trans (rfl : _ = some (Value.int .i64 r))
      have k1 := (blk_cell S5.out 1).trans (rfl : _ = some (Value.bool n.inner))
      rw [HIN.out] at k1
      have k2 := (blk_cell S5.out 2).trans (rfl : _ = some (Value.bool n.tagged))
      have k3 := (blk_cell S5.out 3).trans (rfl : _ = some (Value.slice Ap n.pairs.length cp))
      have k4 := (blk_cell S5.out 4).trans (rfl : _ = some (Value.slice Ak n.keys.length ck))
      have k5 := (blk_cell S5.out 5).trans (rfl : _ = some (Value.slice Ay n.ways.length cy))
      have k6 := (blk_cell S5.out 6).trans (rfl : _ = some (Value.int .i64 wy))
      have E5 : Aside0 (kStp.M w5 w.heap.size (fun k => (¬ ok2 k ∧ k ≠ bt ∧ k ≠ b7) ∧ some k ≠ (Value.slice A5 acc.length c5).ownBlock) ⟨r, n, wy⟩ [.int .i64 r, .bool true, .bool n.tagged, .slice Ap n.pairs.length cp, .slice Ak n.keys.length ck, .slice Ay n.ways.length cy, .int .i64 wy]) := ⟨by rw [← HIN.out]; exact kStp_M (s := ⟨r, n, wy⟩) (kNd_M P5.out K5.out Y5.out)⟩
      go_upto_region 7 with ((with_reducible refine gate_builtin (b := .append) (xs := #[.tmp 32, .tmp 34]) rfl ?_); at_builtin; refine Kd.R_append kStp (w0 := w5) w.heap.size rfl (.tmp 32) (.tmp 34) 172 134 _ 96 rfl Tryz.underlying172 info_step rfl (by decide) (by decide) (.slice A5 acc.length c5) acc ⟨r, n, wy⟩ _ (fun k => (¬ ok2 k ∧ k ≠ bt ∧ k ≠ b7)) (fun k => (¬ ok2 k ∧ k ≠ bt ∧ k ≠ b7) ∧ some k ≠ (Value.slice A5 acc.length c5).ownBlock) rfl rfl E5.out (fun _ hk => hk) (fun k hk => ⟨fun h => by have := I5.out.lt (shW_shared p) k h; omega, fun h => by have := blk_lt B5.out; omega, fun h => by have := blk_lt S5.out; omega⟩) R5.out (Below.refl _ _) M5.out.size (by have := L0.out; omega) ?_; intro v5 w6 ho hb5 hg hat; obtain ⟨A6, c6, rfl⟩ := Kd.R_slice ho; have m0_ := Aside0.mk ho; have m1_ := Aside0.mk hg; clear ho hb5 hg hat)
      have hob : ∀ k, ok2 k → some k ≠ (Value.slice A5 acc.length c5).ownBlock := fun k hk e => (R5.out.1 k e.symm).1 hk
      have O6 := Aside0.mk m0_.out
      have I6 := Aside0.mk (I5.out.step (shW_shared p) m1_.out.size (fun k hk hlt => m1_.out.block k hlt (hob k hk)))
      have M6 := Aside0.mk (M5.out.grown m1_.out (fun k hk => .inr (Kd.R_base R5.out k hk)))
      have S6 := Aside0.mk (blk_grown S5.out m1_.out (fun e => (R5.out.1 b7 e.symm).2.2 rfl))
      have B6 := Aside0.mk (blk_grown B5.out m1_.out (fun e => (R5.out.1 bt e.symm).2.1 rfl))
      clear k0 k1 k2 k3 k4 k5 k6 hob R5 P5 K5 Y5 I5 M5 B5 S5 E5 m0_ m1_
      have k1 := (blk_cell S6.out 1).trans (rfl : _ = some (Value.bool n.inner))
      rw [HIN.out] at k1
      have k6 := (blk_cell S6.out 6).trans (rfl : _ = some (Value.int .i64 wy))
      go_upto_region 10 with fail
      have O8 := Aside0.mk (Kd.R_alloc (Kd.R_bound O6.out) (.cells #[.int .i64 wy] 3))
      have I8 := Aside0.mk (I6.out.below (shW_shared p) (below_alloc (Below.refl _ _) (.cells #[.int .i64 wy] 3)))
      have M8 := Aside0.mk (M6.out.alloc (.cells #[.int .i64 wy] 3))
      have S8 := Aside0.mk (blk_alloc S6.out (.cells #[.int .i64 wy] 3))
      have B8 := Aside0.mk (blk_alloc B6.out (.cells #[.int .i64 wy] 3))
      have W8 := Aside0.mk (blk_new w6 (.cells #[.int .i64 wy] 3))
      have N8 : Aside0 (¬ ok2 w6.heap.size) := ⟨fun h => by have := I6.out.lt (shW_shared p) _ h; omega⟩
      clear O6 I6 M6 S6 B6 k1 k6
      generalize w6.alloc (.cells #[.int .i64 wy] 3) = w8 at O8 I8 M8 S8 B8 W8 ⊢
      generalize w6.heap.size = b8 at O8 W8 N8 ⊢
      have c0 := (blk_cell B8.out 0).trans (rfl : _ = some (Value.pointer (some ⟨tb, 0, none⟩)))
      have hmf : ∀ (fn : Fn) (first cap : Array Value) (w : World), (Instr.makeFunc fn first cap).run Tryz.prog w = .ok (.func fn first cap) w := fun _ _ _ _ => rfl
      go_wp2_with fail
      have HH := HRES.out
      cases hd : wayT r wy s2 with
      | none => rw [hd] at HH; cases HH
      | some dres =>
        rw [hd] at HH
        have HRES2 := Aside0.mk HH
        have HD := Aside0.mk hd
        clear HH HRES hd
        refine (do_calls (shW_shared p) (fun x => ((x.ar.way r wy).1, { x with ar := (x.ar.way r wy).2 })) tb work ok2 s2 w8 117 #[.pointer (some ⟨bt, 0, none⟩), .pointer (some ⟨b7, 0, none⟩), .pointer (some ⟨b8, 0, none⟩)] I8.out (enters Tryz.func117 (by kernel_rfl) rfl _) (fun w9 okS hm hk hsh => ?hT) dres HD.out).mono ?_
        case hT =>
          have h1 := (blk_cell ((hm.block bt (blk_lt B8.out) N2.out).trans B8.out) 1).trans (rfl : _ = some (Value.pointer (some ⟨p, 0, none⟩)))
          have h2 := (blk_cell ((hm.block b7 (blk_lt S8.out) hs7.out).trans S8.out) 0).trans (rfl : _ = some (Value.int .i64 r))
          have h3 := (blk_cell ((hm.block b8 (blk_lt W8.out) N8.out).trans W8.out) 0).trans (rfl : _ = some (Value.int .i64 wy))
          exact path1_calls p s2.sh r wy w9 okS bt b7 b8 hsh h1 h2 h3
        rintro e w9 ⟨ok3, hm3, hi3, hres⟩
        have M9 := Aside0.mk (M8.out.trans hm3)
        have I9 := Aside0.mk hi3
        have O9 := Aside0.mk (Kd.R_mono (Kd.R_step (Kd.R_bound O8.out) (fun k hk hlt => hm3.block k hlt hk.1.1.1)) (fun k hk => (⟨fun h => (hm3.fresh k h).elim hk.1.1.1 (fun h2 => by have := hk.2.2.1; omega), hk.1.1.2.1⟩ : ¬ ok3 k ∧ k ≠ bt)))
        have B9 := Aside0.mk ((hm3.block bt (blk_lt B8.out) N2.out).trans B8.out)
        have N9 : Aside0 (¬ ok3 bt) := ⟨fun h => (hm3.fresh bt h).elim N2.out (fun h2 => by have := blk_lt B8.out; omega)⟩
        clear hm3 hi3 O8 I8 M8 S8 B8 W8 N8 c0
        obtain ⟨o, t9⟩ := dres
        cases o with
        | wait =>
          have hh := HRES2.out
          injection hh with hh
          subst hh
          obtain rfl : e = .panicked waitP := hres
          exact ⟨rfl, ⟨⟨ok3, M9.out, I9.out, rfl⟩⟩⟩
        | ret r1 =>
          obtain ⟨v, rfl, rfl⟩ : ∃ v, e = .returned v ∧ v = .int .i64 r1 := hres
          have hh := HRES2.out
          simp only at hh
          have HH := Aside0.mk hh
          clear hh HRES2
          dsimp only
          have hlen : (acc ++ [(⟨r, n, wy⟩ : Stp)]).length = acc.length + 1 := by simp
          rw [hlen] at O9
          by_cases hr0 : r1 = 0
          · subst hr0
            go_wp2_with fail
            go_ret
            have hh := HH.out
            simp only [if_true] at hh
            injection hh with hh
            rw [← hh]
            exact ⟨⟨ok3, M9.out, I9.out, _, rfl, Kd.R_lower (Kd.R_mono O9.out (fun k hk => hk.1)) (Nat.le_of_eq hbb.symm)⟩⟩
          · have hb : (r1 == 0) = false := by simpa using hr0
            have HR0 := Aside0.mk hr0
            clear hr0
            go_wp2_with fail
            go_roundg g
            case rel =>
              have hh := HH.out
              rw [if_neg HR0.out] at hh
              exact ⟨⟨ok3, t9, acc ++ [⟨r, n, wy⟩], r1, rfl, O9.out, I9.out, M9.out, B9.out, N9.out, by have := L0.out; rw [hlen]; omega, hh⟩⟩
            case measure => omega
theorem kStp_cells {w : World} {s : Stp} {c : List Value} (h : kStp.K w s c) : ∃ Ap cp Ak ck Ay cy, c = [.int .i64 s.ref, .bool s.node.inner, .bool s.node.tagged, .slice Ap s.node.pairs.length cp, .slice Ak s.node.keys.length ck, .slice Ay s.node.ways.length cy, .int .i64 s.way] := by
  obtain ⟨_, _, rfl, rfl, _, _, rfl, ⟨_, _, rfl, rfl, _, _, rfl, rfl, _, _, rfl, ⟨Ap, cp, rfl, _⟩, _, _, rfl, ⟨Ak, ck, rfl, _⟩, ⟨Ay, cy, rfl, _⟩⟩, rfl⟩ := h
  exact ⟨Ap, cp, Ak, ck, Ay, cy, rfl⟩
structure MendAt (p tb : Nat) (work : Value) (me : Int) (bt : Nat) (ok : Nat → Prop) (w : World) (ok1 : Nat → Prop) (s1 : TS Ws) (l : List Stp) (v : Value) (wr : World) : Prop where
  run : IsRun (shW p) tb work ok1 s1 wr
  moves : Moves ok ok1 w wr
  box : wr.heap[bt]? = some (taskO tb p me)
  far : ¬ ok1 bt
  row : kStp.R 134 wr 0 (fun k => ¬ ok1 k) v l
theorem MendAt.below {p tb : Nat} {work : Value} {me : Int} {bt : Nat} {ok : Nat → Prop} {w : World} {ok1 : Nat → Prop} {s1 : TS Ws} {l : List Stp} {v : Value} {wr w2 : World} (h : MendAt p tb work me bt ok w ok1 s1 l v wr) (hb : Below wr.heap.size wr w2) : MendAt p tb work me bt ok w ok1 s1 l v w2 :=
  ⟨h.run.below (shW_shared p) hb, h.moves.below hb, blk_below h.box hb, h.far, Kd.R_below h.row hb⟩
end Go.Proofs.YthlmgbdknjilpaaGreat.Tower
namespace Go.Proofs.YthlmgbdknjilpaaGreat.Tower
open Go Go.RowKit Go.Proofs.YthlmgbdknjilpaaGreatW.PrintWords Go.Proofs.YthlmgbdknjilpaaGreatW.PrintLast Go.Proofs.YthlmgbdknjilpaaGreatW.PrintMore Go.Proofs.YthlmgbdknjilpaaGreat.Own
set_option linter.unusedVariables false
set_option linter.unusedSimpArgs false
structure Idle {X : Type} (Sh : X → (Nat → Prop) → World → Prop) (tb : Nat) (work : Value) (ok : Nat → Prop) (x : X) (th : Th) (w : World) : Prop where
  out : ∃ okT okS, (∀ k, ok k ↔ okT k ∨ okS k) ∧ (∀ k, okT k → ¬ okS k) ∧ IsThread okT tb work th w ∧ Sh x okS w
section
variable {X : Type} {Sh : X → (Nat → Prop) → World → Prop} {tb : Nat} {work : Value} {ok : Nat → Prop} {x : X} {th : Th} {w w1 : World}
theorem Idle.lt (S : Shared Sh) (h : Idle Sh tb work ok x th w) : ∀ k, ok k → k < w.heap.size := fun k hk => by
  obtain ⟨okT, okS, h1, h2, h3, h4⟩ := h.out
  rcases (h1 k).1 hk with hk | hk
  · exact h3.lt k hk
  · exact S.lt h4 k hk
theorem Idle.step (S : Shared Sh) (h : Idle Sh tb work ok x th w) (hs : w.heap.size ≤ w1.heap.size) (hm : ∀ k, ok k → k < w.heap.size → w1.heap[k]? = w.heap[k]?) : Idle Sh tb work ok x th w1 := by
  obtain ⟨okT, okS, h1, h2, h3, h4⟩ := h.out
  exact ⟨okT, okS, h1, h2, h3.step hs (fun k hk => hm k ((h1 k).2 (.inl hk))), S.step h4 hs (fun k hk => hm k ((h1 k).2 (.inr hk)))⟩
theorem Idle.below (S : Shared Sh) (h : Idle Sh tb work ok x th w) (hb : Below w.heap.size w w1) : Idle Sh tb work ok x th w1 := h.step S hb.size (fun k _ hlt => hb.block k hlt)
end
def VNums (N : Nat) (l : List Int) (ok : Nat → Prop) (v : Value) (w : World) : Prop := (Kd.int .i64).R 2 w N (fun k => ¬ ok k) v l
theorem moves_iff {ok ok1 okA okB : Nat → Prop} {w w1 : World} (h : Moves ok ok1 w w1) (hA : ∀ k, ok k ↔ okA k) (hB : ∀ k, ok1 k ↔ okB k) : Moves okA okB w w1 :=
  ⟨h.os, h.tape, h.output, h.size, fun k hk hn => h.block k hk (fun h1 => hn ((hA k).1 h1)), fun k hk => (h.fresh k ((hB k).2 hk)).imp (hA k).1 id⟩
def thOf (log : List Int) (at_ : Int) (spent : Bool) : Th := ⟨log, at_, spent, false, false, []⟩
structure StepPost {X : Type} (Sh : X → (Nat → Prop) → World → Prop) (tb : Nat) (work : Value) (ok : Nat → Prop) (res : Out (List Int) × TS X) (w : World) (e : Ending) (w1 : World) : Prop where
  out : ∃ ok1, Moves ok ok1 w w1 ∧ res.2.log.length < 1000000 ∧
    match res.1 with
    | .ret l => e = .returned (.bool true) ∧ Idle Sh tb work ok1 res.2.sh ⟨res.2.log, res.2.at_, res.2.spent, false, true, l⟩ w1
    | .wait => e = .returned (.bool false) ∧ Idle Sh tb work ok1 res.2.sh (thOf res.2.log res.2.at_ res.2.spent) w1
theorem step_task {X : Type} {Sh : X → (Nat → Prop) → World → Prop} (S : Shared Sh) (tb : Nat) (wf : FuncId) (wc : Array Value) (ok : Nat → Prop) (x : X) (log : List Int) (at_ : Int) (spent : Bool) (w : World) (Bx : (Nat → Prop) → World → Prop) (tw : Pr X (List Int))
    (h : Idle Sh tb (.func (.func wf) #[] wc) ok x (thOf log at_ spent) w) (hl : log.length < 1000000)
    (hBm : ∀ ok ok1 w w1, Bx ok w → Moves ok ok1 w w1 → Bx ok1 w1) (hB : Bx ok w)
    (he : ∀ w1 : World, (callFunc wf (#[.pointer (some ⟨tb, 0, none⟩)] ++ wc)).run Tryz.prog w1 = .ok (.enter wf (#[.pointer (some ⟨tb, 0, none⟩)] ++ wc)) w1)
    (hw : ∀ ok s w1 res, IsRun Sh tb (.func (.func wf) #[] wc) ok s w1 → Bx ok w1 → tw s = some res → Calls Tryz.prog wf (#[.pointer (some ⟨tb, 0, none⟩)] ++ wc) w1 (TPost Sh tb (.func (.func wf) #[] wc) (VNums w1.heap.size) ok w1 res))
    (res : Out (List Int) × TS X) (hr : tw ⟨x, log, 0, false⟩ = some res) :
    Calls Tryz.prog 27 #[.pointer (some ⟨tb, 0, none⟩)] w (StepPost Sh tb (.func (.func wf) #[] wc) ok res w) := by
  obtain ⟨okT, okS, h1, h2, h3, h4⟩ := h.out
  refine (step_runs okT okS tb wf wc (thOf log at_ spent) w (fun r t ok1 w1 => t = ⟨res.2.log, res.2.at_, res.2.spent, true, false, []⟩ ∧ Sh res.2.sh ok1 w1 ∧ res.2.log.length < 1000000 ∧ (match res.1 with | .ret l => r = some l | .wait => r = none)) h3 rfl h2 (S.lt h4) (fun r t ok1 w1 w2 hq hs hm => ⟨hq.1, S.step hq.2.1 hs hm, hq.2.2⟩) he (fun w1 hm ht => ?_)).mono ?_
  · have hmm : Moves ok ok w w1 := moves_same (ok1 := ok) (okB := ok) hm (fun k hk => (h1 k).2 (.inl hk))
    have hrun : IsRun Sh tb (.func (.func wf) #[] wc) ok ⟨x, log, 0, false⟩ w1 := ⟨Nat.zero_le _, hl, okT, okS, h1, h2, ht, S.step h4 hm.size (fun k hk hlt => hm.block k hlt (fun h5 => h2 k h5 hk))⟩
    refine (hw ok _ w1 res hrun (hBm _ _ _ _ hB hmm) hr).mono ?_
    rintro e w2 ⟨ok1, hm2, hr2, hres⟩
    obtain ⟨okT2, okS2, g1, g2, g3, g4⟩ := hr2.out
    refine ⟨⟨(match res.1 with | .ret l => some l | .wait => none), _, okT2, okS2, g3, g2, moves_iff hm2 h1 g1, ⟨rfl, g4, hr2.short, ?_⟩, S.lt g4, ?_⟩⟩
    · cases res.1 <;> rfl
    · cases hres1 : res.1 with
      | ret l =>
        rw [hres1] at hres
        obtain ⟨v, rfl, hv⟩ := hres
        exact .inr ⟨v, l, rfl, rfl, Kd.R_mono hv (fun k hk => ⟨fun h5 => hk ((g1 k).2 (.inl h5)), fun h5 => hk ((g1 k).2 (.inr h5))⟩)⟩
      | wait =>
        rw [hres1] at hres
        exact .inl ⟨rfl, hres⟩
  · rintro e w2 ⟨r, th2, okT3, okS3, rfl, ht, hd, hm, ⟨rfl, hs, hlg, hrr⟩, hb⟩
    refine ⟨⟨fun k => okT3 k ∨ okS3 k, moves_iff hm (fun k => (h1 k).symm) (fun _ => Iff.rfl), hlg, ?_⟩⟩
    cases hres1 : res.1 with
    | ret l =>
      rw [hres1] at hrr
      simp only at hrr
      subst hrr
      exact ⟨rfl, ⟨okT3, okS3, fun _ => Iff.rfl, hd, ht, hs⟩⟩
    | wait =>
      rw [hres1] at hrr
      simp only at hrr
      subst hrr
      exact ⟨rfl, ⟨okT3, okS3, fun _ => Iff.rfl, hd, ht, hs⟩⟩
def aloneT {X : Type} (tw : Pr X (List Int)) : Nat → X → List Int → Option (Option (List Int) × Nat × X × List Int)
  | 0, x, log => some (none, 0, x, log)
  | f + 1, x, log => match tw ⟨x, log, 0, false⟩ with
    | none => none
    | some (.ret l, s) => some (some l, f, s.sh, s.log)
    | some (.wait, s) => aloneT tw f s.sh s.log
structure AlonePost {X : Type} (Sh : X → (Nat → Prop) → World → Prop) (tb : Nat) (work : Value) (ok : Nat → Prop) (res : Option (List Int) × Nat × X × List Int) (w : World) (e : Ending) (w1 : World) : Prop where
  out : ∃ ok1, Moves ok ok1 w w1 ∧ res.2.2.2.length < 1000000 ∧ ∃ at_ spent,
    match res.1 with
    | some l => Idle Sh tb work ok1 res.2.2.1 ⟨res.2.2.2, at_, spent, false, true, l⟩ w1 ∧ ∃ v, e = .returned (.tuple #[v, .int .i64 (3000 - res.2.1 : Nat), .bool true]) ∧ (Kd.int .i64).R 2 w1 w.heap.size (fun k => ¬ ok1 k) v l
    | none => Idle Sh tb work ok1 res.2.2.1 (thOf res.2.2.2 at_ spent) w1 ∧ e = .returned (.tuple #[.slice none 0 0, .int .i64 3000, .bool false])
structure AloneAt {X : Type} (Sh : X → (Nat → Prop) → World → Prop) (tb : Nat) (work : Value) (ok : Nat → Prop) (tw : Pr X (List Int)) (res : Option (List Int) × Nat × X × List Int) (w : World) (Bx : (Nat → Prop) → World → Prop) (f : Nat) (wr : World) : Prop where
  out : ∃ ok1 x log at_ spent, Idle Sh tb work ok1 x (thOf log at_ spent) wr ∧ Moves ok ok1 w wr ∧ log.length < 1000000 ∧ Bx ok1 wr ∧ f ≤ 3000 ∧ aloneT tw f x log = some res
set_option maxHeartbeats 4000000 in
set_option maxRecDepth 100000 in
theorem alone_calls {X : Type} {Sh : X → (Nat → Prop) → World → Prop} (S : Shared Sh) (tb : Nat) (wf : FuncId) (wc : Array Value) (ok : Nat → Prop) (x : X) (log : List Int) (at_ : Int) (spent : Bool) (w : World) (Bx : (Nat → Prop) → World → Prop) (tw : Pr X (List Int))
    (h : Idle Sh tb (.func (.func wf) #[] wc) ok x (thOf log at_ spent) w) (hl : log.length < 1000000)
    (hBm : ∀ ok ok1 w w1, Bx ok w → Moves ok ok1 w w1 → Bx ok1 w1) (hB : Bx ok w)
    (he : ∀ w1 : World, (callFunc wf (#[.pointer (some ⟨tb, 0, none⟩)] ++ wc)).run Tryz.prog w1 = .ok (.enter wf (#[.pointer (some ⟨tb, 0, none⟩)] ++ wc)) w1)
    (hw : ∀ ok s w1 res, IsRun Sh tb (.func (.func wf) #[] wc) ok s w1 → Bx ok w1 → tw s = some res → Calls Tryz.prog wf (#[.pointer (some ⟨tb, 0, none⟩)] ++ wc) w1 (TPost Sh tb (.func (.func wf) #[] wc) (VNums w1.heap.size) ok w1 res))
    (hout : ∀ l f x log, aloneT tw 3000 x log = some (some l, f) → l.length < 1000000)
    (res : Option (List Int) × Nat × X × List Int) (hr : aloneT tw 3000 x log = some res) :
    Calls Tryz.prog 15 #[.pointer (some ⟨tb, 0, none⟩)] w (AlonePost Sh tb (.func (.func wf) #[] wc) ok res w) := by
  have HA : Aside0 (AloneAt Sh tb (.func (.func wf) #[] wc) ok tw res w Bx 3000 w) := ⟨⟨ok, x, log, at_, spent, h, Moves.refl _ _, hl, hB, Nat.le_refl _, hr⟩⟩
  have HBM := Aside0.mk hBm
  have HE := Aside0.mk he
  have HW := Aside0.mk hw
  have HO := Aside0.mk (hout · · x log)
  have HRR := Aside0.mk hr
  clear h hl hBm hB he hw hout hr
  go_enter Tryz.func15, Tryz.ntmps15
  go_wp2_with fail
  go_loopg [5] 3000 (fun g n wr => n = .int .i64 (3000 - g : Nat) ∧ Aside0 (AloneAt Sh tb (.func (.func wf) #[] wc) ok tw res w Bx g wr))
  case atStart => exact ⟨rfl, HA⟩
  case round =>
    clear HA
    obtain ⟨rfl, HA⟩ := hrel
    obtain ⟨ok1, x1, log1, at1, sp1, hI, hM, hlg, hbx, hf, hr⟩ := HA.out.out
    cases gk with
    | zero =>
      injection hr with hr
      subst hr
      have hI' := Aside0.mk hI
      have hM' := Aside0.mk hM
      have hL' := Aside0.mk hlg
      clear hI hM hlg hbx hf HA HRR HO
      go_wp2_with fail
      go_ret3
      exact ⟨⟨ok1, hM'.out, hL'.out, at1, sp1, hI'.out, rfl⟩⟩
    | succ g =>
      have e1 : (((3000 - (g + 1) : Nat)) : Int) < 3000 := by omega
      have d1 : decide ((((3000 - (g + 1) : Nat)) : Int) < 3000) = true := decide_eq_true e1
      obtain ⟨m, hm⟩ : ∃ m, m = 3000 - (g + 1) := ⟨_, rfl⟩
      rw [← hm] at d1 e1 ⊢
      have HM := Aside0.mk hm
      have em : m + 1 = 3000 - g := by omega
      have EM := Aside0.mk em
      unfold aloneT at hr
      cases hs : tw ⟨x1, log1, 0, false⟩ with
      | none => rw [hs] at hr; cases hr
      | some sres =>
        rw [hs] at hr
        have HR := Aside0.mk hr
        have HST := Aside0.mk (step_task S tb wf wc ok1 x1 log1 at1 sp1 wr Bx tw hI hlg HBM.out hbx HE.out HW.out sres hs)
        have M0 := Aside0.mk hM
        have BX := Aside0.mk hbx
        have FF := Aside0.mk hf
        clear hI hM hlg hbx hf HA hr hs hm em
        go_upto_region 4 with fail
        go_wp2_with fail
        refine HST.out.mono ?_
        rintro e w2 ⟨ok2, hm2, hl2, hp2⟩
        have M2 := Aside0.mk (M0.out.trans hm2)
        have BX2 := Aside0.mk (HBM.out _ _ _ _ BX.out hm2)
        have L2 := Aside0.mk hl2
        clear hm2 hl2 HST
        obtain ⟨o, s2⟩ := sres
        cases o with
        | wait =>
          obtain ⟨rfl, hi⟩ := hp2
          have I2 := Aside0.mk hi
          clear hi
          dsimp only
          go_wp2_with fail
          go_roundg g
          case rel => exact ⟨by rw [← EM.out]; go_num, ⟨⟨ok2, _, _, _, _, I2.out, M2.out, L2.out, BX2.out, by have := FF.out; omega, HR.out⟩⟩⟩
          case measure => omega
        | ret l =>
          obtain ⟨rfl, hi⟩ := hp2
          have hr := HR.out
          injection hr with hr
          subst hr
          have I2 := Aside0.mk hi
          have HLL : Aside0 (l.length < 1000000) := ⟨HO.out l _ HRR.out⟩
          obtain ⟨okT, okS, h1, h2, h3, h4⟩ := hi.out
          have HOUT := Aside0.mk (out_calls w2 h3 rfl HLL.out)
          clear hi h1 h2 h3 h4 HR HRR HO
          dsimp only
          go_wp2_with (go_at_call 16; refine HOUT.out.mono ?_; rintro e w3 ⟨v, rfl, hv, hb⟩; have V3 := Aside0.mk hv; have B3 := Aside0.mk hb; clear hv hb)
          go_ret3
          refine ⟨⟨ok2, M2.out.below B3.out, L2.out, _, _, I2.out.below S B3.out, v, ?_, ?_⟩⟩
          · have e3 : ((m : Int) + 1) = ((3000 - g : Nat) : Int) := by have := EM.out; omega
            rw [← e3]; rfl
          · exact Kd.R_lower (Kd.R_mono (Kd.R_bound V3.out) (fun k hk hk2 => by have := I2.out.lt S k hk2; have := hk.1; omega)) M2.out.size
end Go.Proofs.YthlmgbdknjilpaaGreat.Tower
namespace Go.Proofs.YthlmgbdknjilpaaGreat.Tower
open Go Go.RowKit Go.Proofs.YthlmgbdknjilpaaGreatW.PrintWords Go.Proofs.YthlmgbdknjilpaaGreatW.PrintLast Go.Proofs.YthlmgbdknjilpaaGreatW.PrintMore Go.Proofs.YthlmgbdknjilpaaGreat.Own
set_option linter.unusedVariables false
set_option linter.unusedSimpArgs false
attribute [local go_sem] eqlF1 eqlF2 eqlF3 panicW assertW
set_option maxHeartbeats 2000000 in
set_option maxRecDepth 100000 in

theorem do_doesM (okT okS : Nat → Prop) (tb : Nat) (work : Value) (th : Th) (w : World) (gf : FuncId) (rv : Value) (Post : Int → (Nat → Prop) → World → Prop) (h : IsThread okT tb work th w) (hin : th.in_ = true) (hat : th.at_ = (th.log.length : Int)) (hs : th.spent = false) (hl : th.log.length < 1000000)
    (hd : ∀ k, okT k → ¬ okS k)
    (hP : ∀ n ok1 w1 w2, Post n ok1 w1 → w1.heap.size ≤ w2.heap.size → (∀ k, ok1 k → k < w1.heap.size → w2.heap[k]? = w1.heap[k]?) → Post n ok1 w2)
    (hb : ∀ n ok1 w1, Post n ok1 w1 → ∀ k, ok1 k → k < w1.heap.size)
    (he : ∀ w1 : World, (callFunc gf #[rv]).run Tryz.prog w1 = .ok (.enter gf #[rv]) w1)
    (hc : ∀ w1, Moves okT okT w w1 → Calls Tryz.prog gf #[rv] w1 fun e w2 => ∃ n okS1, e = .returned (.int .i64 n) ∧ Post n okS1 w2 ∧ Moves okS okS1 w1 w2) :
    Calls Tryz.prog 61 #[.pointer (some ⟨tb, 0, none⟩), .func (.func gf) #[rv] #[]] w fun e w' => ∃ n okT1 okS1, e = .returned (.int .i64 n) ∧ IsThread okT1 tb work { log := th.log ++ [n], at_ := th.at_ + 1, spent := true, in_ := true, done := th.done, out := th.out } w' ∧ Post n okS1 w' ∧ (∀ k, okT1 k → ¬ okS1 k) ∧ Moves (fun k => okT k ∨ okS k) (fun k => okT1 k ∨ okS1 k) w w' := by
  obtain ⟨lv, A, c, h⟩ := h
  obtain ⟨H1, H2, hbx, hR, hcc, ho⟩ := id h
  obtain ⟨Al, cl, rfl⟩ := Kd.R_slice hR
  have HI := Aside0.mk h
  have HC := Aside0.mk hc
  have HE := Aside0.mk he
  have HD := Aside0.mk hd
  have HP := Aside0.mk hP
  have HBD := Aside0.mk hb
  have H0 := Aside0.mk H1
  have H2L := Aside0.mk H2
  have HT := Aside0.mk hat
  have HIN := Aside0.mk hin
  have HBX := Aside0.mk hbx
  have c1 : w.cell? ⟨tb, 1, none⟩ = some (.slice Al th.log.length cl) := (blk_cell hbx 1).trans rfl
  have c2 : w.cell? ⟨tb, 2, none⟩ = some (.int .i64 th.at_) := (blk_cell hbx 2).trans rfl
  have c3 : w.cell? ⟨tb, 3, none⟩ = some (.bool false) := (blk_cell hbx 3).trans (by rw [← hs]; rfl)
  have c4 : w.cell? ⟨tb, 4, none⟩ = some (.bool true) := (blk_cell hbx 4).trans (by rw [← hin]; rfl)
  have f3 := blk_frozen hbx 3
  have f4 := blk_frozen hbx 4
  have d1 : decide (th.at_ < (th.log.length : Int)) = false := decide_eq_false (by omega)
  clear h ho hcc H1 H2 hbx hR hin hs hat hd hP hb hc he
  go_enter Tryz.func61, Tryz.ntmps61
  go_wp2_with fail
  go_quiet (fail)
  rename_i nq
  go_wp2_with fail
  have HB1 := Aside0.mk (blk_set (blk_set (w := w.drewN nq) HBX.out 3 (.bool true)) 4 (.bool false))
  have HM1 := Aside0.mk ((((Moves.refl okT w).drewN nq).set (p := ⟨tb, 3, none⟩) (.inl H0.out) (.bool true)).set (p := ⟨tb, 4, none⟩) (.inl H0.out) (.bool false))
  have HI1 := Aside0.mk (((HI.out.drewN nq).spent_set true).in_set false)
  clear HI HBX c1 c2 c3 c4 f3 f4
  generalize ((w.drewN nq).setCell ⟨tb, 3, none⟩ (.bool true)).setCell ⟨tb, 4, none⟩ (.bool false) = w1 at HB1 HM1 HI1 ⊢
  rw [HE.out, Oper.upon_enter]
  refine (HC.out w1 HM1.out).mono ?_
  rintro e w2 ⟨n, okS1, rfl, hpost, hmv⟩
  dsimp only
  have htS : ¬ okS tb := HD.out tb H0.out
  have HB2 := Aside0.mk ((hmv.block tb (blk_lt HB1.out) htS).trans HB1.out)
  have HI2 := Aside0.mk (HI1.out.step hmv.size (fun k hk hlt => hmv.block k hlt (HD.out k hk)))
  have HM2 : Aside0 (Moves (fun k => okT k ∨ okS k) (fun k => okT k ∨ okS1 k) w w2) := ⟨((HM1.out.part (ok := fun k => okT k ∨ okS k) (okB := okS) (fun _ h => .inl h) (fun _ h => .inr h)).trans (hmv.part (okB := okT) (fun _ h => .inr h) (fun _ h => .inl h))).owns (fun k hk => hk.elim (fun h => .inl (.inl h)) (fun h => (hmv.fresh k h).elim (fun h => .inl (.inr h)) (fun h => .inr (Nat.le_trans HM1.out.size h))))⟩
  have HPO := Aside0.mk hpost
  have HD1 : Aside0 (∀ k, okT k → ¬ okS1 k) := ⟨fun k hk hk1 => (hmv.fresh k hk1).elim (HD.out k hk) (fun h => by have := H2L.out k hk; have := HM1.out.size; omega)⟩
  have HBL := Aside0.mk (HBD.out n okS1 w2 hpost)
  have f4 := blk_frozen HB2.out 4
  have c4 : w2.cell? ⟨tb, 4, none⟩ = some (.bool false) := (blk_cell HB2.out 4).trans rfl
  clear hmv hpost HB1 HM1 HI1
  go_upto_region 11 with fail
  have n0_ := Aside0.mk (HI2.out.in_set true)
  have n1_ := Aside0.mk (HM2.out.set (p := ⟨tb, 4, none⟩) (.inl (.inl H0.out)) (.bool true))
  have n2_ := Aside0.mk (HP.out n okS1 _ (w2.setCell ⟨tb, 4, none⟩ (.bool true)) HPO.out (by simp [World.setCell]) (fun k hk _ => Below.heap_setCell w2 ⟨tb, 4, none⟩ (.bool true) k (fun e => HD1.out k ((show k = tb from e) ▸ H0.out) hk)))
  have n3_ := Aside0.mk (blk_set HB2.out 4 (.bool true))
  have n4_ : Aside0 (∀ k, okS1 k → k < (w2.setCell ⟨tb, 4, none⟩ (.bool true)).heap.size) := ⟨fun k hk => by simpa [World.setCell] using HBL.out k hk⟩
  clear HI2 HM2 HPO HB2 HBL f4 c4
  generalize w2.setCell ⟨tb, 4, none⟩ (.bool true) = w3 at n0_ n1_ n2_ n3_ n4_ ⊢
  have c1 : w3.cell? ⟨tb, 1, none⟩ = some (.slice Al th.log.length cl) := (blk_cell n3_.out 1).trans rfl
  go_upto_region 12 with (first | ((with_reducible refine gate_builtin (b := .append) (xs := #[.tmp 68, .tmp 70]) rfl ?_); at_builtin; refine Kd.R_append (Kd.int .i64) (w0 := w3) 0 rfl (.tmp 68) (.tmp 70) 28 2 (.int .i64 0) 8 rfl Tryz.underlying28 info64 rfl (by decide) (by omega) (.slice Al th.log.length cl) th.log n [.int .i64 n] (fun k => (okT k ∧ k ≠ tb) ∨ w3.heap.size ≤ k) (fun _ => False) rfl (by first | (go_simp; done) | (go_simp; rfl)) ?aP (fun _ hk => hk.elim) ?aF ?aO ?aB ?aS ?aL ?_; (case aP => exact rfl); (case aF => exact fun k hk => .inr hk); (case aO => exact Kd.R_mono n0_.out.2.2.2.1 (fun k hk => .inl hk)); (case aB => exact Below.refl _ _); (case aS => exact Nat.zero_le _); (case aL => have := hl; omega); intro v5 w5 ho hb5 hg hat; obtain ⟨A5, cc5, rfl⟩ := Kd.R_slice ho; have m0_ := Aside0.mk ho; have m1_ := Aside0.mk hg; have m2_ := Aside0.mk hat; have f1 : w5.frozen? ⟨tb, 1, none⟩ = false := blk_frozen (blk_grown n3_.out hg (fun e => (n0_.out.2.2.2.1.1 tb e.symm).2 rfl)) 1; have c5 : w5.cell? ⟨tb, 1, none⟩ = some (.slice Al th.log.length cl) := (blk_cell (blk_grown n3_.out hg (fun e => (n0_.out.2.2.2.1.1 tb e.symm).2 rfl)) 1).trans rfl; clear ho hb5 hg hat))
  have n5_ := Aside0.mk (n0_.out.log_set (Nat.le_refl _) m1_.out m2_.out m0_.out)
  have n6_ : Aside0 (Moves (fun k => okT k ∨ okS k) (fun k => okT k ∨ okS1 k) w (w5.setCell ⟨tb, 1, none⟩ (.slice A5 (th.log ++ [n]).length cc5))) := ⟨(n1_.out.grown m1_.out (fun k hk => .inl (.inl (n0_.out.2.2.2.1.1 k hk).1))).set (p := ⟨tb, 1, none⟩) (.inl (.inl H0.out)) _⟩
  have n7_ := Aside0.mk (HP.out n okS1 w3 (w5.setCell ⟨tb, 1, none⟩ (.slice A5 (th.log ++ [n]).length cc5)) n2_.out (by simpa [World.setCell] using m1_.out.size) (fun k hk hlt => (Below.heap_setCell w5 ⟨tb, 1, none⟩ _ k (fun e => HD1.out k ((show k = tb from e) ▸ H0.out) hk)).trans (m1_.out.block k hlt (fun e => HD1.out k (n0_.out.2.2.2.1.1 k e.symm).1 hk))))
  have n8_ : Aside0 (∀ k, okS1 k → k < w3.heap.size) := n4_
  have el : (th.log ++ [n]).length = th.log.length + 1 := by simp
  rw [el] at n5_ n6_ n7_
  have n9_ : Aside0 (w3.heap.size ≤ (w5.setCell ⟨tb, 1, none⟩ (.slice A5 (th.log.length + 1) cc5)).heap.size) := ⟨by simpa [World.setCell] using m1_.out.size⟩
  have n10_ : Aside0 (w.heap.size ≤ w3.heap.size) := ⟨n1_.out.size⟩
  have n11_ : Aside0 ((w5.setCell ⟨tb, 1, none⟩ (.slice A5 (th.log.length + 1) cc5)).heap.size = w5.heap.size) := ⟨by simp [World.setCell]⟩
  clear n0_ n1_ n2_ n3_ n4_ m0_ m1_ m2_ el c1
  generalize w5.setCell ⟨tb, 1, none⟩ (.slice A5 (th.log.length + 1) cc5) = w6 at n5_ n6_ n7_ n9_ n11_ ⊢
  have c2 : w6.cell? ⟨tb, 2, none⟩ = some (.int .i64 th.at_) := (blk_cell n5_.out.2.2.1 2).trans rfl
  have f2 : w6.frozen? ⟨tb, 2, none⟩ = false := blk_frozen n5_.out.2.2.1 2
  have hw1 : wrap64 (th.at_ + 1) = th.at_ + 1 := by have := HT.out; unfold wrap64; omega
  go_wp2_with fail
  go_ret
  refine ⟨n, rfl, _, ⟨_, _, _, n5_.out.at_set (th.at_ + 1)⟩, okS1, ?_, ?_, ?_⟩
  · exact HP.out n okS1 w6 _ n7_.out (by simp [World.setCell]) (fun k hk _ => Below.heap_setCell w6 ⟨tb, 2, none⟩ _ k (fun e => HD1.out k ((show k = tb from e) ▸ H0.out) hk))
  · rintro k (hk | hk) hk1
    · exact HD1.out k hk hk1
    · have := n8_.out k hk1
      omega
  · refine (n6_.out.set (p := ⟨tb, 2, none⟩) (.inl (.inl H0.out)) _).owns ?_
    rintro k ((hk | hk) | hk)
    · exact .inl (.inl hk)
    · have := n10_.out
      exact .inr (by omega)
    · exact n6_.out.fresh k (.inr hk)
theorem do_callsM {X : Type} {Sh : X → (Nat → Prop) → World → Prop} (S : Shared Sh) (f : X → Int × X) (tb : Nat) (work : Value) (ok : Nat → Prop) (s : TS X) (w : World) (gf : FuncId) (rv : Value) (h : IsRun Sh tb work ok s w)
    (he : ∀ w1 : World, (callFunc gf #[rv]).run Tryz.prog w1 = .ok (.enter gf #[rv]) w1)
    (hc : ∀ w1 okS, Moves ok ok w w1 → (∀ k, okS k → ok k) → Sh s.sh okS w → Sh s.sh okS w1 → (∀ k, okS k → k < w.heap.size → w1.heap[k]? = w.heap[k]?) → Calls Tryz.prog gf #[rv] w1 fun e w2 => ∃ okS1, e = .returned (.int .i64 (f s.sh).1) ∧ Sh (f s.sh).2 okS1 w2 ∧ Moves okS okS1 w1 w2)
    (res : Out Int × TS X) (hr : doT f s = some res) :
    Calls Tryz.prog 61 #[.pointer (some ⟨tb, 0, none⟩), .func (.func gf) #[rv] #[]] w (TPost Sh tb work VInt ok w res) := by
  have hle := h.le
  have hsh := h.short
  obtain ⟨okT, okS, h1, h2, h3, h4⟩ := h.out
  unfold doT at hr
  by_cases ha : s.at_ < s.log.length
  · rw [if_pos ha] at hr
    injection hr with hr
    subst hr
    refine (do_told okT tb work _ w _ _ _ h3 rfl (by simp) (by simpa using ha) hsh _ rfl).mono ?_
    rintro e w1 ⟨rfl, ht, hm⟩
    refine ⟨⟨ok, moves_same (ok1 := ok) (okB := ok) hm (fun k hk => (h1 k).2 (.inl hk)), ⟨by show s.at_ + 1 ≤ s.log.length; omega, hsh, okT, okS, h1, h2, ?_, S.step h4 hm.size (fun k hk hlt => hm.block k hlt (fun h5 => h2 k h5 hk))⟩, _, rfl, ?_⟩⟩
    · simpa using ht
    · simp [VInt]
  · rw [if_neg ha] at hr
    have hat : s.at_ = s.log.length := by omega
    by_cases hs : s.spent = true
    · rw [if_pos hs] at hr
      injection hr with hr
      subst hr
      refine (do_waits okT tb work _ w _ _ _ h3 rfl (by show (s.log.length : Int) ≤ (s.at_ : Int); omega) hs).mono ?_
      rintro e w1 ⟨rfl, ht, hm⟩
      exact ⟨⟨ok, moves_same (ok1 := ok) (okB := ok) hm (fun k hk => (h1 k).2 (.inl hk)), ⟨hle, hsh, okT, okS, h1, h2, ht, S.step h4 hm.size (fun k hk hlt => hm.block k hlt (fun h5 => h2 k h5 hk))⟩, rfl⟩⟩
    · rw [if_neg hs] at hr
      by_cases hl : 999999 ≤ s.log.length
      · rw [if_pos hl] at hr
        cases hr
      rw [if_neg hl] at hr
      injection hr with hr
      subst hr
      have hlen : (s.log ++ [(f s.sh).1]).length < 1000000 := by simp; omega
      refine (do_doesM okT okS tb work _ w gf rv (fun n okS1 w1 => n = (f s.sh).1 ∧ Sh (f s.sh).2 okS1 w1) h3 rfl (by show (s.at_ : Int) = (s.log.length : Int); omega) (by simpa using hs) hsh h2
        (fun n ok1 w1 w2 hp hsz hm => ⟨hp.1, S.step hp.2 hsz hm⟩) (fun n ok1 w1 hp => S.lt hp.2) he
        (fun w1 hm => (hc w1 okS (moves_same (ok1 := ok) (okB := ok) hm (fun k hk => (h1 k).2 (.inl hk))) (fun k hk => (h1 k).2 (.inr hk)) h4 (S.step h4 hm.size (fun k hk hlt => hm.block k hlt (fun h5 => h2 k h5 hk))) (fun k hk hlt => hm.block k hlt (fun h5 => h2 k h5 hk))).mono (fun e w2 hh => by
          obtain ⟨okS1, rfl, hp, hmv⟩ := hh
          exact ⟨_, okS1, rfl, ⟨rfl, hp⟩, hmv⟩))).mono ?_
      rintro e w1 ⟨n, okT1, okS1, rfl, ht, ⟨rfl, hp⟩, hd, hm⟩
      refine ⟨⟨fun k => okT1 k ∨ okS1 k, ⟨hm.os, hm.tape, hm.output, hm.size, fun k hk hn => hm.block k hk (fun h5 => hn ((h1 k).2 h5)), fun k hk => (hm.fresh k hk).imp (h1 k).2 id⟩, ⟨by simp [hat], hlen, okT1, okS1, fun _ => Iff.rfl, hd, ?_, hp⟩, _, rfl, rfl⟩⟩
      simpa using ht
end Go.Proofs.YthlmgbdknjilpaaGreat.Tower
namespace Go.Proofs.YthlmgbdknjilpaaGreat.Tower
open Go Go.RowKit Go.Proofs.YthlmgbdknjilpaaGreatW.PrintWords Go.Proofs.YthlmgbdknjilpaaGreatW.PrintLast Go.Proofs.YthlmgbdknjilpaaGreatW.PrintMore Go.Proofs.YthlmgbdknjilpaaGreat.Own
set_option linter.unusedVariables false
set_option linter.unusedSimpArgs false
def Ep.has (x : Ep) (t : Int) : Bool := decide (0 ≤ t) && decide (t < x.said.length)
def Ep.swap (x : Ep) (old : Int) : Bool × Ep := if x.now = old then (true, { x with now := wrap64 (x.now + 1) }) else (false, x)
def Ep.say (x : Ep) (t n : Int) : Ep := if x.has t then { x with said := x.said.set t.toNat n } else x
def Ep.saidOf (x : Ep) (t : Int) : Int := if x.has t then x.said.getD t.toNat 0 else -1
section
variable {ok : Nat → Prop} {p : Nat} {sv lv : Value} {gv : Nat → Value} {ρ : Nat → Nat} {x : Ep} {w : World}
theorem EpochAt.now_set (h : EpochAt ok p sv lv gv ρ x w) (n : Int) : EpochAt ok p sv lv gv ρ { x with now := n } (w.setCell ⟨p, 0, none⟩ (.int .i64 n)) where
  own := h.own
  role := h.role
  lt := fun k hk => by simpa [World.setCell] using h.lt k hk
  len := h.len
  box := blk_set h.box 0 _
  said := Kd.R_far h.said (fun k hk e => by have := h.role; rw [← show k = p from e, hk.2] at this; omega) _
  row := Kd.R_far h.row (fun k hk e => by have := h.role; rw [← show k = p from e, hk.2] at this; omega) _
  limbo := fun i l hi => Kd.Q_far (h.limbo i l hi) (fun k hk e => by have := h.role; rw [← show k = p from e, hk.2] at this; omega) _
theorem EpochAt.said_set {g n cap : Nat} (h : EpochAt ok p (.slice (some ⟨g, 0, none⟩) n cap) lv gv ρ x w) (i : Nat) (hi : i < x.said.length) (v : Int) :
    EpochAt ok p (.slice (some ⟨g, 0, none⟩) n cap) lv gv ρ { x with said := x.said.set i v } (w.setCell ⟨g, i, none⟩ (.int .i64 v)) := by
  have hg := h.said.1 g (by simp [Value.ownBlock])
  have hne : ∀ r, r ≠ 1 → ∀ k, (ok k ∧ ρ k = r) → k ≠ g := fun r hr k hk e => by rw [e, hg.2] at hk; exact hr hk.2.symm
  have hn := (Kd.R_reads' h.said).1
  subst hn
  exact {
    own := h.own
    role := h.role
    lt := fun k hk => by simpa [World.setCell] using h.lt k hk
    len := by rw [h.len]; simp
    box := blk_far h.box (p := ⟨g, i, none⟩) (fun e => by have := hg.2; rw [← show p = g from e, h.role] at this; cases this) _
    said := by
      have h2 := (Kd.R_put h.said (i : Int) v).1
      rw [Int.toNat_natCast] at h2
      exact h2
    row := Kd.R_far h.row (hne 2 (by decide)) _
    limbo := fun j l hj => Kd.Q_far (h.limbo j l hj) (hne (3 + j) (by omega)) _ }
end
set_option maxHeartbeats 2000000 in
set_option maxRecDepth 100000 in
theorem ep_in {ok : Nat → Prop} {p : Nat} {x : Ep} (t : Int) (w : World) (h : IsEpochs ok p x w) (hg : x.Good) :
    Calls Tryz.prog 92 #[.pointer (some ⟨p, 0, none⟩), .int .i64 t] w fun e w1 => e = .returned (.bool (x.has t)) ∧ w1 = w := by
  obtain ⟨sv, lv, gv, ρ, h⟩ := h
  obtain ⟨A, c, rfl⟩ := Kd.R_slice h.said
  have c1 : w.cell? ⟨p, 1, none⟩ = some (.slice A x.said.length c) := (blk_cell h.box 1).trans rfl
  have hb := hg.few
  have hh : x.has t = (decide (0 ≤ t) && decide (t < x.said.length)) := rfl
  rw [hh]
  clear h hg hh
  by_cases h0 : 0 ≤ t
  · have d1 : decide (t ≥ 0) = true := decide_eq_true h0
    have d1' : decide (0 ≤ t) = true := d1
    by_cases h1 : t < (x.said.length : Int)
    · have d2 : decide (t < (x.said.length : Int)) = true := decide_eq_true h1
      rw [d1', d2]
      clear h0 h1
      go_enter Tryz.func92, Tryz.ntmps92
      go_wp2_with fail
      go_ret
      exact ⟨rfl, rfl⟩
    · have d2 : decide (t < (x.said.length : Int)) = false := decide_eq_false h1
      rw [d1', d2]
      clear h0 h1
      go_enter Tryz.func92, Tryz.ntmps92
      go_wp2_with fail
      go_ret
      exact ⟨rfl, rfl⟩
  · have d1 : decide (t ≥ 0) = false := decide_eq_false h0
    have d1' : decide (0 ≤ t) = false := d1
    rw [d1']
    clear h0
    go_enter Tryz.func92, Tryz.ntmps92
    go_wp2_with fail
    go_ret
    exact ⟨rfl, rfl⟩
set_option maxHeartbeats 2000000 in
set_option maxRecDepth 100000 in
theorem ep_now {ok : Nat → Prop} {p : Nat} {x : Ep} (w : World) (h : IsEpochs ok p x w) :
    Calls Tryz.prog 19 #[.pointer (some ⟨p, 0, none⟩)] w fun e w1 => e = .returned (.int .i64 x.now) ∧ w1 = w := by
  obtain ⟨sv, lv, gv, ρ, h⟩ := h
  have c1 : w.cell? ⟨p, 0, none⟩ = some (.int .i64 x.now) := (blk_cell h.box 0).trans rfl
  clear h
  go_enter Tryz.func19, Tryz.ntmps19
  go_wp2_with fail
  go_ret
  exact ⟨rfl, rfl⟩
set_option maxHeartbeats 2000000 in
set_option maxRecDepth 100000 in
theorem ep_len {ok : Nat → Prop} {p : Nat} {x : Ep} (w : World) (h : IsEpochs ok p x w) :
    Calls Tryz.prog 64 #[.pointer (some ⟨p, 0, none⟩)] w fun e w1 => e = .returned (.int .i64 x.said.length) ∧ w1 = w := by
  obtain ⟨sv, lv, gv, ρ, h⟩ := h
  obtain ⟨A, c, rfl⟩ := Kd.R_slice h.said
  have c1 : w.cell? ⟨p, 1, none⟩ = some (.slice A x.said.length c) := (blk_cell h.box 1).trans rfl
  clear h
  go_enter Tryz.func64, Tryz.ntmps64
  go_wp2_with fail
  go_ret
  exact ⟨rfl, rfl⟩
structure EpPost (ok : Nat → Prop) (p : Nat) (v : Value) (x1 : Ep) (w : World) (e : Ending) (w1 : World) : Prop where
  val : e = .returned v
  ep : IsEpochs ok p x1 w1
  moves : Moves ok ok w w1
set_option maxHeartbeats 2000000 in
set_option maxRecDepth 100000 in
theorem ep_swap {ok : Nat → Prop} {p : Nat} {x : Ep} (old : Int) (w : World) (h : IsEpochs ok p x w) :
    Calls Tryz.prog 69 #[.pointer (some ⟨p, 0, none⟩), .int .i64 old] w (EpPost ok p (.bool (x.swap old).1) (x.swap old).2 w) := by
  obtain ⟨sv, lv, gv, ρ, h⟩ := h
  have c1 : w.cell? ⟨p, 0, none⟩ = some (.int .i64 x.now) := (blk_cell h.box 0).trans rfl
  have f1 := blk_frozen h.box 0
  have HI := Aside0.mk h
  by_cases hn : x.now = old
  · have e1 : x.swap old = (true, { x with now := wrap64 (x.now + 1) }) := by simp [Ep.swap, hn]
    rw [e1]
    subst hn
    have hb : (x.now == x.now) = true := beq_self_eq_true _
    clear h e1
    go_enter Tryz.func69, Tryz.ntmps69
    go_wp2_with fail
    go_ret
    exact ⟨rfl, ⟨_, _, _, _, HI.out.now_set _⟩, (Moves.refl ok w).set (p := ⟨p, 0, none⟩) (.inl HI.out.own) _⟩
  · have e1 : x.swap old = (false, x) := by simp [Ep.swap, hn]
    rw [e1]
    have hb : (x.now == old) = false := by simpa using hn
    have hb2 : (x.now != old) = true := by simpa using hn
    clear h e1 hn
    go_enter Tryz.func69, Tryz.ntmps69
    go_wp2_with fail
    go_ret
    exact ⟨rfl, ⟨_, _, _, _, HI.out⟩, Moves.refl _ _⟩
set_option maxHeartbeats 2000000 in
set_option maxRecDepth 100000 in
theorem ep_said {ok : Nat → Prop} {p : Nat} {x : Ep} (t : Int) (w : World) (h : IsEpochs ok p x w) (hg : x.Good) :
    Calls Tryz.prog 66 #[.pointer (some ⟨p, 0, none⟩), .int .i64 t] w fun e w1 => e = .returned (.int .i64 (x.saidOf t)) ∧ w1 = w := by
  have HIN := Aside0.mk (ep_in t w h hg)
  obtain ⟨sv, lv, gv, ρ, h⟩ := h
  obtain ⟨A, c, rfl⟩ := Kd.R_slice h.said
  have c1 : w.cell? ⟨p, 1, none⟩ = some (.slice A x.said.length c) := (blk_cell h.box 1).trans rfl
  cases hh : x.has t with
  | true =>
    have e1 : x.saidOf t = x.said.getD t.toNat 0 := by simp [Ep.saidOf, hh]
    have hb : 0 ≤ t ∧ t < x.said.length := by simpa [Ep.has] using hh
    obtain ⟨b0, b1⟩ := hb
    obtain ⟨gl, rfl, _, hcl⟩ := int_elem h.said t b0 b1
    rw [e1]
    generalize x.said.getD t.toNat 0 = v at hcl ⊢
    have HH := Aside0.mk hh
    clear h hg e1 hh
    go_enter Tryz.func66, Tryz.ntmps66
    go_wp2_with (go_at_call 92; refine HIN.out.mono ?_; rintro e w1 ⟨rfl, rfl⟩; rw [HH.out])
    go_ret
    exact ⟨rfl, rfl⟩
  | false =>
    have e1 : x.saidOf t = -1 := by simp [Ep.saidOf, hh]
    rw [e1]
    have HH := Aside0.mk hh
    clear h hg e1 hh
    go_enter Tryz.func66, Tryz.ntmps66
    go_wp2_with (go_at_call 92; refine HIN.out.mono ?_; rintro e w1 ⟨rfl, rfl⟩; rw [HH.out])
    go_ret
    exact ⟨rfl, rfl⟩
set_option maxHeartbeats 2000000 in
set_option maxRecDepth 100000 in
theorem ep_say {ok : Nat → Prop} {p : Nat} {x : Ep} (t n : Int) (w : World) (h : IsEpochs ok p x w) (hg : x.Good) :
    Calls Tryz.prog 63 #[.pointer (some ⟨p, 0, none⟩), .int .i64 t, .int .i64 n] w (EpPost ok p (.tuple #[]) (x.say t n) w) := by
  have HIN := Aside0.mk (ep_in t w h hg)
  obtain ⟨sv, lv, gv, ρ, h⟩ := h
  obtain ⟨A, c, rfl⟩ := Kd.R_slice h.said
  have c1 : w.cell? ⟨p, 1, none⟩ = some (.slice A x.said.length c) := (blk_cell h.box 1).trans rfl
  have HI := Aside0.mk h
  cases hh : x.has t with
  | true =>
    have hb : 0 ≤ t ∧ t < x.said.length := by simpa [Ep.has] using hh
    obtain ⟨b0, b1⟩ := hb
    have e1 : x.say t n = { x with said := x.said.set t.toNat n } := by simp [Ep.say, hh]
    obtain ⟨gl, rfl, hgl, hcl⟩ := int_elem h.said t b0 b1
    rw [e1]
    have hfz := (Kd.R_cell (0 : Int) h.said t b0 b1).2
    have HH := Aside0.mk hh
    have HO := Aside0.mk hgl
    have HT : Aside0 (t.toNat < x.said.length) := ⟨by omega⟩
    clear h hg e1 hh hgl
    go_enter Tryz.func63, Tryz.ntmps63
    go_wp2_with (go_at_call 92; refine HIN.out.mono ?_; rintro e w1 ⟨rfl, rfl⟩; rw [HH.out])
    go_end0
    exact ⟨rfl, ⟨_, _, _, _, HI.out.said_set t.toNat HT.out n⟩, (Moves.refl ok _).set (p := ⟨gl, t.toNat, none⟩) (.inl HO.out.1) _⟩
  | false =>
    have e1 : x.say t n = x := by simp [Ep.say, hh]
    rw [e1]
    have HH := Aside0.mk hh
    clear h hg e1 hh
    go_enter Tryz.func63, Tryz.ntmps63
    go_wp2_with (go_at_call 92; refine HIN.out.mono ?_; rintro e w1 ⟨rfl, rfl⟩; rw [HH.out])
    go_end0
    exact ⟨rfl, ⟨_, _, _, _, HI.out⟩, Moves.refl _ _⟩
end Go.Proofs.YthlmgbdknjilpaaGreat.Tower
namespace Go.Proofs.YthlmgbdknjilpaaGreat.Tower
open Go Go.RowKit Go.Proofs.YthlmgbdknjilpaaGreatW.PrintWords Go.Proofs.YthlmgbdknjilpaaGreatW.PrintLast Go.Proofs.YthlmgbdknjilpaaGreatW.PrintMore Go.Proofs.YthlmgbdknjilpaaGreat.Own
set_option linter.unusedVariables false
set_option linter.unusedSimpArgs false
theorem Ep.Good.say {x : Ep} (h : x.Good) (t n : Int) : (x.say t n).Good := by
  unfold Ep.say
  split
  · exact ⟨by simpa using h.few⟩
  · exact h
theorem Ep.Good.swap {x : Ep} (h : x.Good) (n : Int) : (x.swap n).2.Good := by
  unfold Ep.swap
  split
  · exact ⟨h.few⟩
  · exact h
def TBeg1 : Bool × List (List Nat × List Nat) := (true, [([], []), ([0], [0]), ([1], [1]), ([2], [2]), ([3], [3]), ([], []), ([5], [5]), ([], []), ([4, 6, 7], [4, 6, 7])])
def BBeg1 : List Nat := [0, 1, 3, 7, 15, 0, 32, 0, 255]
theorem tabBeg1 : rtab .any (opsOf Tryz.f62 1) = TBeg1 := by kernel_rfl
theorem bitsBeg1 : waitsOk TBeg1.2 BBeg1 = true := by kernel_rfl
set_option maxHeartbeats 2000000 in
set_option maxRecDepth 100000 in
theorem begin1_calls (p : Nat) (x : Ws) (me now : Int) (w : World) (okS : Nat → Prop) (bt bn : Nat) (h : shW p x okS w) (g0 : w.cell? ⟨bt, 1, none⟩ = some (.pointer (some ⟨p, 0, none⟩))) (g2 : w.cell? ⟨bt, 2, none⟩ = some (.int .i64 me)) (g3 : w.cell? ⟨bn, 0, none⟩ = some (.int .i64 now)) :
    Calls Tryz.prog 62 #[.pointer (some ⟨bt, 0, none⟩), .pointer (some ⟨bn, 0, none⟩)] w fun e w2 => ∃ okS1, e = .returned (.int .i64 0) ∧ shW p { x with ep := x.ep.say me now } okS1 w2 ∧ Moves okS okS1 w w2 := by
  obtain ⟨⟨okA, okR, okE, pA, pR, pE, h⟩, hg⟩ := h
  have HW := Aside0.mk h
  have HG := Aside0.mk hg
  have hp := (blk_cell h.box 2).trans (rfl : _ = some (Value.pointer (some ⟨pE, 0, none⟩)))
  have HC := Aside0.mk (And.intro g0 (And.intro hp (And.intro g2 g3)))
  clear h hg hp g0 g2 g3
  go_enter Tryz.func62, Tryz.ntmps62
  go_upto_region 1 with fail
  refine start_ (n := 9) (S := fun w' => w'.cell? ⟨bt, 1, none⟩ = some (.pointer (some ⟨p, 0, none⟩)) ∧ w'.cell? ⟨p, 2, none⟩ = some (.pointer (some ⟨pE, 0, none⟩)) ∧ w'.cell? ⟨bt, 2, none⟩ = some (.int .i64 me) ∧ w'.cell? ⟨bn, 0, none⟩ = some (.int .i64 now)) (ds := [8]) #[N_,N_,N_,N_,N_,N_,N_,N_,N_] (by kernel_rfl) rfl rfl HC.out (fun hHeld => ?_); refine with_tabW tabBeg1 bitsBeg1 (fun HT_ HW_ => ?_)
  have HW := Aside0.mk (HW.out.step (w1 := w.drew) (Nat.le_refl _) (fun _ _ _ => rfl))
  have HM := Aside0.mk ((Moves.refl okS w).drew)
  clear HC
  generalize World.drew _ = w1 at HW HM hHeld ⊢
  refine pure_ (i := 0) (N := (some 3)) (v := ?_) (a' := ?_) #[Y_,N_,N_,N_,N_,N_,N_,N_,N_] rfl rfl (any_of HT_.out (by kernel_rfl)) (fun _ _ _ h => h) (Or.inl ⟨by rfl, ?_⟩) ?_ ?_
  rotate_left; · intro w'; go_simp; with_reducible rfl
  rotate_left; · simp only [Act.put, u1_, u2_, u3_, i64_w, i32_w]; rfl
  refine take_ (i := 1) (N := (some 4)) (v := ?_) (a' := ?_) #[Y_,Y_,N_,N_,N_,N_,N_,N_,N_] rfl rfl (take_ofW HT_.out HW_.out (by kernel_rfl)) (fun _ _ _ h => h) (Or.inl ⟨by rfl, ?_⟩) hHeld ?_ ?_
  rotate_left; · rintro w' ⟨s0, s1, s2, s3⟩; go_simp; with_reducible rfl
  rotate_left; · simp only [Act.put, u1_, u2_, u3_, i64_w, i32_w]; rfl
  refine pure_ (i := 2) (N := (some 5)) (v := ?_) (a' := ?_) #[Y_,Y_,Y_,N_,N_,N_,N_,N_,N_] rfl rfl (any_of HT_.out (by kernel_rfl)) (fun _ _ _ h => h) (Or.inl ⟨by rfl, ?_⟩) ?_ ?_
  rotate_left; · intro w'; go_simp; with_reducible rfl
  rotate_left; · simp only [Act.put, u1_, u2_, u3_, i64_w, i32_w]; rfl
  refine pure_ (i := 3) (N := (some 6)) (v := ?_) (a' := ?_) #[Y_,Y_,Y_,Y_,N_,N_,N_,N_,N_] rfl rfl (any_of HT_.out (by kernel_rfl)) (fun _ _ _ h => h) (Or.inl ⟨by rfl, ?_⟩) ?_ ?_
  rotate_left; · intro w'; go_simp; with_reducible rfl
  rotate_left; · simp only [Act.put, u1_, u2_, u3_, i64_w, i32_w]; rfl
  refine take_ (i := 4) (N := (some 7)) (v := ?_) (a' := ?_) #[Y_,Y_,Y_,Y_,Y_,N_,N_,N_,N_] rfl rfl (take_ofW HT_.out HW_.out (by kernel_rfl)) (fun _ _ _ h => h) (Or.inl ⟨by rfl, ?_⟩) hHeld ?_ ?_
  rotate_left; · rintro w' ⟨s0, s1, s2, s3⟩; go_simp; with_reducible rfl
  rotate_left; · simp only [Act.put, u1_, u2_, u3_, i64_w, i32_w]; rfl
  refine pure_ (i := 5) (N := (some 8)) (v := ?_) (a' := ?_) #[Y_,Y_,Y_,Y_,Y_,Y_,N_,N_,N_] rfl rfl (any_of HT_.out (by kernel_rfl)) (fun _ _ _ h => h) (Or.inl ⟨by rfl, ?_⟩) ?_ ?_
  rotate_left; · intro w'; go_simp; with_reducible rfl
  rotate_left; · simp only [Act.put, u1_, u2_, u3_, i64_w, i32_w]; rfl
  refine take_ (i := 6) (N := (some 9)) (v := ?_) (a' := ?_) #[Y_,Y_,Y_,Y_,Y_,Y_,Y_,N_,N_] rfl rfl (take_ofW HT_.out HW_.out (by kernel_rfl)) (fun _ _ _ h => h) (Or.inl ⟨by rfl, ?_⟩) hHeld ?_ ?_
  rotate_left; · rintro w' ⟨s0, s1, s2, s3⟩; go_simp; with_reducible rfl
  rotate_left; · simp only [Act.put, u1_, u2_, u3_, i64_w, i32_w]; rfl
  refine take_ (i := 7) (N := (some 10)) (v := ?_) (a' := ?_) #[Y_,Y_,Y_,Y_,Y_,Y_,Y_,Y_,N_] rfl rfl (take_ofW HT_.out HW_.out (by kernel_rfl)) (fun _ _ _ h => h) (Or.inl ⟨by rfl, ?_⟩) hHeld ?_ ?_
  rotate_left; · rintro w' ⟨s0, s1, s2, s3⟩; go_simp; with_reducible rfl
  rotate_left; · simp only [Act.put, u1_, u2_, u3_, i64_w, i32_w]; rfl
  refine last_ (i := 8) (N := (some 11)) #[Y_,Y_,Y_,Y_,Y_,Y_,Y_,Y_,Y_] rfl rfl (one_of HT_.out (by kernel_rfl)) (by decide) (fun K_ hK => ?_)
  refine call_ 63 #[.pointer (some ⟨pE, 0, none⟩), .int .i64 me, .int .i64 now] (by rfl) rfl ?hrun8 ?_
  (case hrun8 => first | (go_simp; done) | (go_simp; exact enters Tryz.func63 (by kernel_rfl) rfl _ _))
  refine (ep_say me now _ HW.out.ep HG.out.ep).mono ?_
  rintro e w2 ⟨rfl, hE, hM⟩
  have E2 := Aside0.mk hE
  have M2 := Aside0.mk hM
  clear hE hM
  refine ⟨_, rfl, ?_⟩
  refine hK.out _ _ ?_
  clear hK K_
  refine norm_ (a' := ?_) ?_ ?_
  rotate_left; · show Act.put _ (some 11) _ = _; simp only [Act.put, u1_, u2_, u3_, i64_w, i32_w]; rfl
  refine done_ (done_of HT_.out (by kernel_rfl)) ?_
  go_wp2_with fail
  go_ret
  exact ⟨_, rfl, ⟨⟨_, _, _, _, _, _, (HW.out.ep_moves E2.out M2.out).1⟩, ⟨HG.out.ar, HG.out.ep.say me now, HG.out.tb⟩⟩, HM.out.trans (HW.out.ep_moves E2.out M2.out).2⟩
def TBeg2 : Bool × List (List Nat × List Nat) := (true, [([], []), ([0], [0]), ([1], [1]), ([2], [2]), ([3], [3]), ([], []), ([4, 5], [4, 5]), ([6, 6, 0, 1, 2, 3, 4, 5, 6], [6])])
def BBeg2 : List Nat := [0, 1, 3, 7, 15, 0, 63, 127]
theorem tabBeg2 : rtab .any (opsOf Tryz.f65 1) = TBeg2 := by kernel_rfl
theorem bitsBeg2 : waitsOk TBeg2.2 BBeg2 = true := by kernel_rfl
set_option maxHeartbeats 2000000 in
set_option maxRecDepth 100000 in
theorem begin2_calls (p : Nat) (x : Ws) (k : Int) (w : World) (okS : Nat → Prop) (bt bk : Nat) (h : shW p x okS w) (g0 : w.cell? ⟨bt, 1, none⟩ = some (.pointer (some ⟨p, 0, none⟩))) (g2 : w.cell? ⟨bk, 0, none⟩ = some (.int .i64 k)) :
    Calls Tryz.prog 65 #[.pointer (some ⟨bt, 0, none⟩), .pointer (some ⟨bk, 0, none⟩)] w fun e w2 => ∃ okS1, e = .returned (.int .i64 (x.ep.saidOf k)) ∧ shW p x okS1 w2 ∧ Moves okS okS1 w w2 := by
  obtain ⟨⟨okA, okR, okE, pA, pR, pE, h⟩, hg⟩ := h
  have HW := Aside0.mk h
  have HG := Aside0.mk hg
  have hp := (blk_cell h.box 2).trans (rfl : _ = some (Value.pointer (some ⟨pE, 0, none⟩)))
  have HC := Aside0.mk (And.intro g0 (And.intro hp g2))
  clear h hg hp g0 g2
  go_enter Tryz.func65, Tryz.ntmps65
  go_upto_region 1 with fail
  refine start_ (n := 8) (S := fun w' => w'.cell? ⟨bt, 1, none⟩ = some (.pointer (some ⟨p, 0, none⟩)) ∧ w'.cell? ⟨p, 2, none⟩ = some (.pointer (some ⟨pE, 0, none⟩)) ∧ w'.cell? ⟨bk, 0, none⟩ = some (.int .i64 k)) (ds := [6]) #[N_,N_,N_,N_,N_,N_,N_,N_] (by kernel_rfl) rfl rfl HC.out (fun hHeld => ?_); refine with_tabW tabBeg2 bitsBeg2 (fun HT_ HW_ => ?_)
  have HW := Aside0.mk (HW.out.step (w1 := w.drew) (Nat.le_refl _) (fun _ _ _ => rfl))
  have HM := Aside0.mk ((Moves.refl okS w).drew)
  clear HC
  generalize World.drew _ = w1 at HW HM hHeld ⊢
  refine pure_ (i := 0) (N := (some 3)) (v := ?_) (a' := ?_) #[Y_,N_,N_,N_,N_,N_,N_,N_] rfl rfl (any_of HT_.out (by kernel_rfl)) (fun _ _ _ h => h) (Or.inl ⟨by rfl, ?_⟩) ?_ ?_
  rotate_left; · intro w'; go_simp; with_reducible rfl
  rotate_left; · simp only [Act.put, u1_, u2_, u3_, i64_w, i32_w]; rfl
  refine take_ (i := 1) (N := (some 4)) (v := ?_) (a' := ?_) #[Y_,Y_,N_,N_,N_,N_,N_,N_] rfl rfl (take_ofW HT_.out HW_.out (by kernel_rfl)) (fun _ _ _ h => h) (Or.inl ⟨by rfl, ?_⟩) hHeld ?_ ?_
  rotate_left; · rintro w' ⟨s0, s1, s2⟩; go_simp; with_reducible rfl
  rotate_left; · simp only [Act.put, u1_, u2_, u3_, i64_w, i32_w]; rfl
  refine pure_ (i := 2) (N := (some 5)) (v := ?_) (a' := ?_) #[Y_,Y_,Y_,N_,N_,N_,N_,N_] rfl rfl (any_of HT_.out (by kernel_rfl)) (fun _ _ _ h => h) (Or.inl ⟨by rfl, ?_⟩) ?_ ?_
  rotate_left; · intro w'; go_simp; with_reducible rfl
  rotate_left; · simp only [Act.put, u1_, u2_, u3_, i64_w, i32_w]; rfl
  refine pure_ (i := 3) (N := (some 6)) (v := ?_) (a' := ?_) #[Y_,Y_,Y_,Y_,N_,N_,N_,N_] rfl rfl (any_of HT_.out (by kernel_rfl)) (fun _ _ _ h => h) (Or.inl ⟨by rfl, ?_⟩) ?_ ?_
  rotate_left; · intro w'; go_simp; with_reducible rfl
  rotate_left; · simp only [Act.put, u1_, u2_, u3_, i64_w, i32_w]; rfl
  refine take_ (i := 4) (N := (some 7)) (v := ?_) (a' := ?_) #[Y_,Y_,Y_,Y_,Y_,N_,N_,N_] rfl rfl (take_ofW HT_.out HW_.out (by kernel_rfl)) (fun _ _ _ h => h) (Or.inl ⟨by rfl, ?_⟩) hHeld ?_ ?_
  rotate_left; · rintro w' ⟨s0, s1, s2⟩; go_simp; with_reducible rfl
  rotate_left; · simp only [Act.put, u1_, u2_, u3_, i64_w, i32_w]; rfl
  refine take_ (i := 5) (N := (some 8)) (v := ?_) (a' := ?_) #[Y_,Y_,Y_,Y_,Y_,Y_,N_,N_] rfl rfl (take_ofW HT_.out HW_.out (by kernel_rfl)) (fun _ _ _ h => h) (Or.inl ⟨by rfl, ?_⟩) hHeld ?_ ?_
  rotate_left; · rintro w' ⟨s0, s1, s2⟩; go_simp; with_reducible rfl
  rotate_left; · simp only [Act.put, u1_, u2_, u3_, i64_w, i32_w]; rfl
  refine last_ (i := 6) (N := (some 9)) #[Y_,Y_,Y_,Y_,Y_,Y_,Y_,N_] rfl rfl (one_of HT_.out (by kernel_rfl)) (by decide) (fun K_ hK => ?_)
  refine call_ 66 #[.pointer (some ⟨pE, 0, none⟩), .int .i64 k] (by rfl) rfl ?hrun6 ?_
  (case hrun6 => first | (go_simp; done) | (go_simp; exact enters Tryz.func66 (by kernel_rfl) rfl _ _))
  refine (ep_said k _ HW.out.ep HG.out.ep).mono ?_
  rintro e w2 ⟨rfl, rfl⟩
  refine ⟨_, rfl, ?_⟩
  refine hK.out _ _ ?_
  clear hK K_
  refine norm_ (a' := ?_) ?_ ?_
  rotate_left; · show Act.put _ (some 9) _ = _; simp only [Act.put, u1_, u2_, u3_, i64_w, i32_w]; rfl
  refine pure_ (i := 7) (N := (some 2)) (v := ?_) (a' := ?_) #[Y_,Y_,Y_,Y_,Y_,Y_,Y_,Y_] rfl rfl (any_of HT_.out (by kernel_rfl)) (fun _ _ _ h => h) (Or.inl ⟨by rfl, ?_⟩) ?_ ?_
  rotate_left; · intro w'; go_simp; with_reducible rfl
  rotate_left; · simp only [Act.put, u1_, u2_, u3_, i64_w, i32_w]; rfl
  refine done_ (done_of HT_.out (by kernel_rfl)) ?_
  go_wp2_with fail
  go_ret
  exact ⟨okS, rfl, ⟨⟨_, _, _, _, _, _, HW.out⟩, HG.out⟩, HM.out⟩
def TBeg3 : Bool × List (List Nat × List Nat) := (true, [([], []), ([0], [0]), ([1], [1]), ([2], [2]), ([3], [3]), ([], []), ([4, 5], [4, 5]), ([6, 6, 0, 1, 2, 3, 4, 5, 6], [6])])
def BBeg3 : List Nat := [0, 1, 3, 7, 15, 0, 63, 127]
theorem tabBeg3 : rtab .any (opsOf Tryz.f68 1) = TBeg3 := by kernel_rfl
theorem bitsBeg3 : waitsOk TBeg3.2 BBeg3 = true := by kernel_rfl
set_option maxHeartbeats 2000000 in
set_option maxRecDepth 100000 in
theorem begin3_calls (p : Nat) (x : Ws) (now : Int) (w : World) (okS : Nat → Prop) (bt bn : Nat) (h : shW p x okS w) (g0 : w.cell? ⟨bt, 1, none⟩ = some (.pointer (some ⟨p, 0, none⟩))) (g2 : w.cell? ⟨bn, 0, none⟩ = some (.int .i64 now)) :
    Calls Tryz.prog 68 #[.pointer (some ⟨bt, 0, none⟩), .pointer (some ⟨bn, 0, none⟩)] w fun e w2 => ∃ okS1, e = .returned (.bool (x.ep.swap now).1) ∧ shW p { x with ep := (x.ep.swap now).2 } okS1 w2 ∧ Moves okS okS1 w w2 := by
  obtain ⟨⟨okA, okR, okE, pA, pR, pE, h⟩, hg⟩ := h
  have HW := Aside0.mk h
  have HG := Aside0.mk hg
  have hp := (blk_cell h.box 2).trans (rfl : _ = some (Value.pointer (some ⟨pE, 0, none⟩)))
  have HC := Aside0.mk (And.intro g0 (And.intro hp g2))
  clear h hg hp g0 g2
  go_enter Tryz.func68, Tryz.ntmps68
  go_upto_region 1 with fail
  refine start_ (n := 8) (S := fun w' => w'.cell? ⟨bt, 1, none⟩ = some (.pointer (some ⟨p, 0, none⟩)) ∧ w'.cell? ⟨p, 2, none⟩ = some (.pointer (some ⟨pE, 0, none⟩)) ∧ w'.cell? ⟨bn, 0, none⟩ = some (.int .i64 now)) (ds := [6]) #[N_,N_,N_,N_,N_,N_,N_,N_] (by kernel_rfl) rfl rfl HC.out (fun hHeld => ?_); refine with_tabW tabBeg3 bitsBeg3 (fun HT_ HW_ => ?_)
  have HW := Aside0.mk (HW.out.step (w1 := w.drew) (Nat.le_refl _) (fun _ _ _ => rfl))
  have HM := Aside0.mk ((Moves.refl okS w).drew)
  clear HC
  generalize World.drew _ = w1 at HW HM hHeld ⊢
  refine pure_ (i := 0) (N := (some 3)) (v := ?_) (a' := ?_) #[Y_,N_,N_,N_,N_,N_,N_,N_] rfl rfl (any_of HT_.out (by kernel_rfl)) (fun _ _ _ h => h) (Or.inl ⟨by rfl, ?_⟩) ?_ ?_
  rotate_left; · intro w'; go_simp; with_reducible rfl
  rotate_left; · simp only [Act.put, u1_, u2_, u3_, i64_w, i32_w]; rfl
  refine take_ (i := 1) (N := (some 4)) (v := ?_) (a' := ?_) #[Y_,Y_,N_,N_,N_,N_,N_,N_] rfl rfl (take_ofW HT_.out HW_.out (by kernel_rfl)) (fun _ _ _ h => h) (Or.inl ⟨by rfl, ?_⟩) hHeld ?_ ?_
  rotate_left; · rintro w' ⟨s0, s1, s2⟩; go_simp; with_reducible rfl
  rotate_left; · simp only [Act.put, u1_, u2_, u3_, i64_w, i32_w]; rfl
  refine pure_ (i := 2) (N := (some 5)) (v := ?_) (a' := ?_) #[Y_,Y_,Y_,N_,N_,N_,N_,N_] rfl rfl (any_of HT_.out (by kernel_rfl)) (fun _ _ _ h => h) (Or.inl ⟨by rfl, ?_⟩) ?_ ?_
  rotate_left; · intro w'; go_simp; with_reducible rfl
  rotate_left; · simp only [Act.put, u1_, u2_, u3_, i64_w, i32_w]; rfl
  refine pure_ (i := 3) (N := (some 6)) (v := ?_) (a' := ?_) #[Y_,Y_,Y_,Y_,N_,N_,N_,N_] rfl rfl (any_of HT_.out (by kernel_rfl)) (fun _ _ _ h => h) (Or.inl ⟨by rfl, ?_⟩) ?_ ?_
  rotate_left; · intro w'; go_simp; with_reducible rfl
  rotate_left; · simp only [Act.put, u1_, u2_, u3_, i64_w, i32_w]; rfl
  refine take_ (i := 4) (N := (some 7)) (v := ?_) (a' := ?_) #[Y_,Y_,Y_,Y_,Y_,N_,N_,N_] rfl rfl (take_ofW HT_.out HW_.out (by kernel_rfl)) (fun _ _ _ h => h) (Or.inl ⟨by rfl, ?_⟩) hHeld ?_ ?_
  rotate_left; · rintro w' ⟨s0, s1, s2⟩; go_simp; with_reducible rfl
  rotate_left; · simp only [Act.put, u1_, u2_, u3_, i64_w, i32_w]; rfl
  refine take_ (i := 5) (N := (some 8)) (v := ?_) (a' := ?_) #[Y_,Y_,Y_,Y_,Y_,Y_,N_,N_] rfl rfl (take_ofW HT_.out HW_.out (by kernel_rfl)) (fun _ _ _ h => h) (Or.inl ⟨by rfl, ?_⟩) hHeld ?_ ?_
  rotate_left; · rintro w' ⟨s0, s1, s2⟩; go_simp; with_reducible rfl
  rotate_left; · simp only [Act.put, u1_, u2_, u3_, i64_w, i32_w]; rfl
  refine last_ (i := 6) (N := (some 9)) #[Y_,Y_,Y_,Y_,Y_,Y_,Y_,N_] rfl rfl (one_of HT_.out (by kernel_rfl)) (by decide) (fun K_ hK => ?_)
  refine call_ 69 #[.pointer (some ⟨pE, 0, none⟩), .int .i64 now] (by rfl) rfl ?hrun6 ?_
  (case hrun6 => first | (go_simp; done) | (go_simp; exact enters Tryz.func69 (by kernel_rfl) rfl _ _))
  refine (ep_swap now _ HW.out.ep).mono ?_
  rintro e w2 ⟨rfl, hE, hM⟩
  have E2 := Aside0.mk hE
  have M2 := Aside0.mk hM
  clear hE hM
  refine ⟨_, rfl, ?_⟩
  refine hK.out _ _ ?_
  clear hK K_
  refine norm_ (a' := ?_) ?_ ?_
  rotate_left; · show Act.put _ (some 9) _ = _; simp only [Act.put, u1_, u2_, u3_, i64_w, i32_w]; rfl
  refine pure_ (i := 7) (N := (some 2)) (v := ?_) (a' := ?_) #[Y_,Y_,Y_,Y_,Y_,Y_,Y_,Y_] rfl rfl (any_of HT_.out (by kernel_rfl)) (fun _ _ _ h => h) (Or.inl ⟨by rfl, ?_⟩) ?_ ?_
  rotate_left; · intro w'; go_simp; with_reducible rfl
  rotate_left; · simp only [Act.put, u1_, u2_, u3_, i64_w, i32_w]; rfl
  refine done_ (done_of HT_.out (by kernel_rfl)) ?_
  go_wp2_with fail
  go_ret
  exact ⟨_, rfl, ⟨⟨_, _, _, _, _, _, (HW.out.ep_moves E2.out M2.out).1⟩, ⟨HG.out.ar, HG.out.ep.swap now, HG.out.tb⟩⟩, HM.out.trans (HW.out.ep_moves E2.out M2.out).2⟩
def TEnd1 : Bool × List (List Nat × List Nat) := (true, [([], []), ([0], [0]), ([1], [1]), ([2], [2]), ([3], [3]), ([], []), ([5], [5]), ([4, 6], [4, 6])])
def BEnd1 : List Nat := [0, 1, 3, 7, 15, 0, 32, 127]
theorem tabEnd1 : rtab .any (opsOf Tryz.f80 1) = TEnd1 := by kernel_rfl
theorem bitsEnd1 : waitsOk TEnd1.2 BEnd1 = true := by kernel_rfl
set_option maxHeartbeats 2000000 in
set_option maxRecDepth 100000 in
theorem end1_calls (p : Nat) (x : Ws) (me : Int) (w : World) (okS : Nat → Prop) (bt : Nat) (h : shW p x okS w) (g0 : w.cell? ⟨bt, 1, none⟩ = some (.pointer (some ⟨p, 0, none⟩))) (g2 : w.cell? ⟨bt, 2, none⟩ = some (.int .i64 me)) :
    Calls Tryz.prog 80 #[.pointer (some ⟨bt, 0, none⟩)] w fun e w2 => ∃ okS1, e = .returned (.int .i64 0) ∧ shW p { x with ep := x.ep.say me (-1) } okS1 w2 ∧ Moves okS okS1 w w2 := by
  obtain ⟨⟨okA, okR, okE, pA, pR, pE, h⟩, hg⟩ := h
  have HW := Aside0.mk h
  have HG := Aside0.mk hg
  have hp := (blk_cell h.box 2).trans (rfl : _ = some (Value.pointer (some ⟨pE, 0, none⟩)))
  have HC := Aside0.mk (And.intro g0 (And.intro hp g2))
  clear h hg hp g0 g2
  go_enter Tryz.func80, Tryz.ntmps80
  go_upto_region 1 with fail
  refine start_ (n := 8) (S := fun w' => w'.cell? ⟨bt, 1, none⟩ = some (.pointer (some ⟨p, 0, none⟩)) ∧ w'.cell? ⟨p, 2, none⟩ = some (.pointer (some ⟨pE, 0, none⟩)) ∧ w'.cell? ⟨bt, 2, none⟩ = some (.int .i64 me)) (ds := [7]) #[N_,N_,N_,N_,N_,N_,N_,N_] (by kernel_rfl) rfl rfl HC.out (fun hHeld => ?_); refine with_tabW tabEnd1 bitsEnd1 (fun HT_ HW_ => ?_)
  have HW := Aside0.mk (HW.out.step (w1 := w.drew) (Nat.le_refl _) (fun _ _ _ => rfl))
  have HM := Aside0.mk ((Moves.refl okS w).drew)
  clear HC
  generalize World.drew _ = w1 at HW HM hHeld ⊢
  refine pure_ (i := 0) (N := (some 2)) (v := ?_) (a' := ?_) #[Y_,N_,N_,N_,N_,N_,N_,N_] rfl rfl (any_of HT_.out (by kernel_rfl)) (fun _ _ _ h => h) (Or.inl ⟨by rfl, ?_⟩) ?_ ?_
  rotate_left; · intro w'; go_simp; with_reducible rfl
  rotate_left; · simp only [Act.put, u1_, u2_, u3_, i64_w, i32_w]; rfl
  refine take_ (i := 1) (N := (some 3)) (v := ?_) (a' := ?_) #[Y_,Y_,N_,N_,N_,N_,N_,N_] rfl rfl (take_ofW HT_.out HW_.out (by kernel_rfl)) (fun _ _ _ h => h) (Or.inl ⟨by rfl, ?_⟩) hHeld ?_ ?_
  rotate_left; · rintro w' ⟨s0, s1, s2⟩; go_simp; with_reducible rfl
  rotate_left; · simp only [Act.put, u1_, u2_, u3_, i64_w, i32_w]; rfl
  refine pure_ (i := 2) (N := (some 4)) (v := ?_) (a' := ?_) #[Y_,Y_,Y_,N_,N_,N_,N_,N_] rfl rfl (any_of HT_.out (by kernel_rfl)) (fun _ _ _ h => h) (Or.inl ⟨by rfl, ?_⟩) ?_ ?_
  rotate_left; · intro w'; go_simp; with_reducible rfl
  rotate_left; · simp only [Act.put, u1_, u2_, u3_, i64_w, i32_w]; rfl
  refine pure_ (i := 3) (N := (some 5)) (v := ?_) (a' := ?_) #[Y_,Y_,Y_,Y_,N_,N_,N_,N_] rfl rfl (any_of HT_.out (by kernel_rfl)) (fun _ _ _ h => h) (Or.inl ⟨by rfl, ?_⟩) ?_ ?_
  rotate_left; · intro w'; go_simp; with_reducible rfl
  rotate_left; · simp only [Act.put, u1_, u2_, u3_, i64_w, i32_w]; rfl
  refine take_ (i := 4) (N := (some 6)) (v := ?_) (a' := ?_) #[Y_,Y_,Y_,Y_,Y_,N_,N_,N_] rfl rfl (take_ofW HT_.out HW_.out (by kernel_rfl)) (fun _ _ _ h => h) (Or.inl ⟨by rfl, ?_⟩) hHeld ?_ ?_
  rotate_left; · rintro w' ⟨s0, s1, s2⟩; go_simp; with_reducible rfl
  rotate_left; · simp only [Act.put, u1_, u2_, u3_, i64_w, i32_w]; rfl
  refine pure_ (i := 5) (N := (some 7)) (v := ?_) (a' := ?_) #[Y_,Y_,Y_,Y_,Y_,Y_,N_,N_] rfl rfl (any_of HT_.out (by kernel_rfl)) (fun _ _ _ h => h) (Or.inl ⟨by rfl, ?_⟩) ?_ ?_
  rotate_left; · intro w'; go_simp; with_reducible rfl
  rotate_left; · simp only [Act.put, u1_, u2_, u3_, i64_w, i32_w]; rfl
  refine take_ (i := 6) (N := (some 8)) (v := ?_) (a' := ?_) #[Y_,Y_,Y_,Y_,Y_,Y_,Y_,N_] rfl rfl (take_ofW HT_.out HW_.out (by kernel_rfl)) (fun _ _ _ h => h) (Or.inl ⟨by rfl, ?_⟩) hHeld ?_ ?_
  rotate_left; · rintro w' ⟨s0, s1, s2⟩; go_simp; with_reducible rfl
  rotate_left; · simp only [Act.put, u1_, u2_, u3_, i64_w, i32_w]; rfl
  refine last_ (i := 7) (N := (some 9)) #[Y_,Y_,Y_,Y_,Y_,Y_,Y_,Y_] rfl rfl (one_of HT_.out (by kernel_rfl)) (by decide) (fun K_ hK => ?_)
  refine call_ 63 #[.pointer (some ⟨pE, 0, none⟩), .int .i64 me, .int .i64 (-1)] (by rfl) rfl ?hrun7 ?_
  (case hrun7 => first | (go_simp; done) | (go_simp; exact enters Tryz.func63 (by kernel_rfl) rfl _ _))
  refine (ep_say me (-1) _ HW.out.ep HG.out.ep).mono ?_
  rintro e w2 ⟨rfl, hE, hM⟩
  have E2 := Aside0.mk hE
  have M2 := Aside0.mk hM
  clear hE hM
  refine ⟨_, rfl, ?_⟩
  refine hK.out _ _ ?_
  clear hK K_
  refine norm_ (a' := ?_) ?_ ?_
  rotate_left; · show Act.put _ (some 9) _ = _; simp only [Act.put, u1_, u2_, u3_, i64_w, i32_w]; rfl
  refine done_ (done_of HT_.out (by kernel_rfl)) ?_
  go_wp2_with fail
  go_ret
  exact ⟨_, rfl, ⟨⟨_, _, _, _, _, _, (HW.out.ep_moves E2.out M2.out).1⟩, ⟨HG.out.ar, HG.out.ep.say me (-1), HG.out.tb⟩⟩, HM.out.trans (HW.out.ep_moves E2.out M2.out).2⟩
end Go.Proofs.YthlmgbdknjilpaaGreat.Tower
namespace Go.Proofs.YthlmgbdknjilpaaGreat.Tower
open Go Go.RowKit Go.Proofs.YthlmgbdknjilpaaGreatW.PrintWords Go.Proofs.YthlmgbdknjilpaaGreatW.PrintLast Go.Proofs.YthlmgbdknjilpaaGreatW.PrintMore Go.Proofs.YthlmgbdknjilpaaGreat.Own
set_option linter.unusedVariables false
set_option linter.unusedSimpArgs false
section
variable {P : Program} {ops : Array Oper} {Q : Exit → Act → World → Prop} {md : Region.Mode} {S : World → Prop} {ds : List Nat}
theorem AllReadyL.consK {fuel : Nat} {listed : Array Bool} {a : Act} {w : World} {i : Nat} {o : Oper} {rs : List Nat} (ho : ops[i]? = some o)
    (h : ∀ K' : Act → World → Prop, Shut (∀ a' w', (i ∉ ds → S w → S w') → wpAnyLast P md ops Q S ds fuel (listed.setIfInBounds i true) a' w' → K' a' w') → if Region.wanted o (yielded ops a.tmps) = true then Oper.wp P o a w K' Q else K' (a.put o.dst undef) w)
    (hs : AllReadyL P md ops Q S ds fuel listed a w rs) : AllReadyL P md ops Q S ds fuel listed a w (i :: rs) := fun j hj => by
  rcases List.mem_cons.1 hj with rfl | hj
  · exact wpOp_step ho (fun K' hK => h K' (fun a w' hS hW => hK a w' ⟨hS, hW⟩))
  · exact hs j hj
theorem oneK_ {i : Nat} {N : Option Tmp} {oi : Oper} {fuel : Nat} {l : Array Bool} {a : Act} {w : World} (l' : Array Bool) (hi : ops[i]? = some oi) (hN : oi.dst = N) (hc : readyB md ops l l' i = true)
    (h : ∀ K : Act → World → Prop, Shut (∀ a' w', (i ∉ ds → S w → S w') → wpAnyLast P md ops Q S ds fuel l' a' w' → K a' w') → if Region.wanted oi (yielded ops a.tmps) = true then Oper.wp P oi a w K Q else K (a.put N undef) w) :
    wpAnyLast P md ops Q S ds (fuel + 1) l a w := by
  subst hN
  simp only [readyB, Bool.and_eq_true, beq_iff_eq] at hc
  obtain ⟨h1, h2⟩ := hc
  subst h2
  exact wpAnyLast_ready h1 (by simp) (AllReadyL.consK hi (fun K hK => h K hK) AllReadyL.nil)
theorem twoK_ {i j : Nat} {Ni Nj : Option Tmp} {oi oj : Oper} {fuel : Nat} {l : Array Bool} {a : Act} {w : World} (li lj : Array Bool) (hi : ops[i]? = some oi) (hj : ops[j]? = some oj) (hNi : oi.dst = Ni) (hNj : oj.dst = Nj)
    (hc : (Region.ready md ops l == [i, j] && l.setIfInBounds i true == li && l.setIfInBounds j true == lj) = true)
    (h1 : ∀ K : Act → World → Prop, Shut (∀ a' w', (i ∉ ds → S w → S w') → wpAnyLast P md ops Q S ds fuel li a' w' → K a' w') → if Region.wanted oi (yielded ops a.tmps) = true then Oper.wp P oi a w K Q else K (a.put Ni undef) w)
    (h2 : ∀ K : Act → World → Prop, Shut (∀ a' w', (j ∉ ds → S w → S w') → wpAnyLast P md ops Q S ds fuel lj a' w' → K a' w') → if Region.wanted oj (yielded ops a.tmps) = true then Oper.wp P oj a w K Q else K (a.put Nj undef) w) :
    wpAnyLast P md ops Q S ds (fuel + 1) l a w := by
  subst hNi
  subst hNj
  simp only [Bool.and_eq_true, beq_iff_eq] at hc
  obtain ⟨⟨h3, h4⟩, h5⟩ := hc
  subst h4
  subst h5
  exact wpAnyLast_ready h3 (by simp) (AllReadyL.consK hi (fun K hK => h1 K hK) (AllReadyL.consK hj (fun K hK => h2 K hK) AllReadyL.nil))
end
theorem prBind_some {X α β : Type} {m : Pr X α} {f : α → Pr X β} {s : TS X} {res : Out β × TS X} (h : prBind m f s = some res) : ∃ o t, m s = some (o, t) ∧ ((o = .wait ∧ res = (.wait, t)) ∨ ∃ a, o = .ret a ∧ f a t = some res) := by
  unfold prBind at h
  cases hm : m s with
  | none => rw [hm] at h; cases h
  | some r =>
    obtain ⟨o, t⟩ := r
    rw [hm] at h
    refine ⟨o, t, rfl, ?_⟩
    cases o with
    | wait => injection h with h; exact .inl ⟨rfl, h.symm⟩
    | ret a => exact .inr ⟨a, rfl, h⟩
end Go.Proofs.YthlmgbdknjilpaaGreat.Tower
namespace Go.Proofs.YthlmgbdknjilpaaGreat.Tower
open Go Go.RowKit Go.Proofs.YthlmgbdknjilpaaGreatW.PrintWords Go.Proofs.YthlmgbdknjilpaaGreatW.PrintLast Go.Proofs.YthlmgbdknjilpaaGreatW.PrintMore Go.Proofs.YthlmgbdknjilpaaGreat.Own
set_option linter.unusedVariables false
set_option linter.unusedSimpArgs false
structure TaskAt (p tb : Nat) (work : Value) (me : Int) (bt : Nat) (ok : Nat → Prop) (w : World) (okc : Nat → Prop) (s : TS Ws) (wc : World) : Prop where
  run : IsRun (shW p) tb work okc s wc
  moves : Moves ok okc w wc
  box : Mine okc wc bt (taskO tb p me)
section
variable {p tb : Nat} {work : Value} {me : Int} {bt : Nat} {ok okc ok2 : Nat → Prop} {w wc w2 : World} {s s2 : TS Ws}
theorem TaskAt.below (h : TaskAt p tb work me bt ok w okc s wc) (hb : Below wc.heap.size wc w2) : TaskAt p tb work me bt ok w okc s w2 := ⟨h.run.below (shW_shared p) hb, h.moves.below hb, ⟨blk_below h.box.1 hb, h.box.2⟩⟩
theorem TaskAt.alloc (h : TaskAt p tb work me bt ok w okc s wc) (o : Obj) : TaskAt p tb work me bt ok w okc s (wc.alloc o) := h.below (below_alloc (Below.refl _ _) o)
theorem TaskAt.drew (h : TaskAt p tb work me bt ok w okc s wc) : TaskAt p tb work me bt ok w okc s wc.drew := h.below (below_drew (Below.refl _ _))
theorem TaskAt.next (h : TaskAt p tb work me bt ok w okc s wc) (m : Moves okc ok2 wc w2) (r : IsRun (shW p) tb work ok2 s2 w2) : TaskAt p tb work me bt ok w ok2 s2 w2 := ⟨r, h.moves.trans m, h.box.moves m⟩
theorem TaskAt.set (h : TaskAt p tb work me bt ok w okc s wc) {q : Addr} (hn : ¬ okc q.block) (hw : w.heap.size ≤ q.block) (ht : q.block ≠ bt) (u : Value) : TaskAt p tb work me bt ok w okc s (wc.setCell q u) :=
  ⟨h.run.far (shW_shared p) hn u, h.moves.set (.inr hw) u, h.box.far ht u⟩
theorem TaskAt.lt (h : TaskAt p tb work me bt ok w okc s wc) : ∀ k, okc k → k < wc.heap.size := h.run.lt (shW_shared p)
theorem TaskAt.c0 (h : TaskAt p tb work me bt ok w okc s wc) : wc.cell? ⟨bt, 0, none⟩ = some (.pointer (some ⟨tb, 0, none⟩)) := (blk_cell h.box.1 0).trans rfl
theorem TaskAt.c1 (h : TaskAt p tb work me bt ok w okc s wc) : wc.cell? ⟨bt, 1, none⟩ = some (.pointer (some ⟨p, 0, none⟩)) := (blk_cell h.box.1 1).trans rfl
theorem TaskAt.c2 (h : TaskAt p tb work me bt ok w okc s wc) : wc.cell? ⟨bt, 2, none⟩ = some (.int .i64 me) := (blk_cell h.box.1 2).trans rfl
theorem TaskAt.enter (h : IsRun (shW p) tb work ok s w) : TaskAt p tb work me w.heap.size ok w ok s (w.alloc (taskO tb p me)) :=
  ⟨h.below (shW_shared p) (below_alloc (Below.refl _ _) _), (Moves.refl ok w).alloc _, ⟨blk_new w _, fun hk => by have := h.lt (shW_shared p) _ hk; omega⟩⟩
structure DoPost {α : Type} (V : α → Value) (p tb : Nat) (work : Value) (me : Int) (bt : Nat) (ok : Nat → Prop) (w : World) (okc : Nat → Prop) (o : Out α) (t : TS Ws) (wc : World) (e : Ending) (w1 : World) : Prop where
  out : ∃ ok1, Moves okc ok1 wc w1 ∧ TaskAt p tb work me bt ok w ok1 t w1 ∧ match o with
    | .ret a => e = .returned (V a)
    | .wait => e = .panicked waitP
theorem TaskAt.post {α : Type} {V : α → Value} {Vp : α → (Nat → Prop) → Value → World → Prop} (hv : ∀ a k v w, Vp a k v w → v = V a) (h : TaskAt p tb work me bt ok w okc s wc) {o : Out α} {t : TS Ws} {e : Ending} {w1 : World} (hp : TPost (shW p) tb work Vp okc wc (o, t) e w1) : DoPost V p tb work me bt ok w okc o t wc e w1 := by
  obtain ⟨ok1, hm, hi, hr⟩ := hp
  refine ⟨⟨ok1, hm, h.next hm hi, ?_⟩⟩
  cases o with
  | ret a => obtain ⟨v, rfl, hv1⟩ := hr; rw [hv _ _ _ _ hv1]
  | wait => exact hr
def intV (a : Int) : Value := .int .i64 a
def boolV (a : Bool) : Value := .bool a
theorem TaskAt.do_ (h : TaskAt p tb work me bt ok w okc s wc) (f : Ws → Int × Ws) (gf : FuncId) (cap : Array Value)
    (he : ∀ w1 : World, (callFunc gf cap).run Tryz.prog w1 = .ok (.enter gf cap) w1)
    (hc : ∀ w1 okS, Moves okc okc wc w1 → (∀ k, okS k → okc k) → shW p s.sh okS w1 → Calls Tryz.prog gf cap w1 fun e w2 => ∃ okS1, e = .returned (.int .i64 (f s.sh).1) ∧ shW p (f s.sh).2 okS1 w2 ∧ Moves okS okS1 w1 w2)
    {o : Out Int} {t : TS Ws} (hd : doT f s = some (o, t)) :
    Calls Tryz.prog 61 #[.pointer (some ⟨tb, 0, none⟩), .func (.func gf) #[] cap] wc (DoPost intV p tb work me bt ok w okc o t wc) :=
  (do_calls (shW_shared p) f tb work okc s wc gf cap h.run he hc (o, t) hd).mono (fun e w1 hp => h.post (fun _ _ _ _ hv => hv) hp)
theorem TaskAt.ask_ (h : TaskAt p tb work me bt ok w okc s wc) (f : Ws → Bool × Ws) (gf : FuncId) (cap : Array Value)
    (he : ∀ w1 : World, (callFunc gf cap).run Tryz.prog w1 = .ok (.enter gf cap) w1)
    (hc : ∀ w1 okS, Moves okc okc wc w1 → (∀ k, okS k → okc k) → shW p s.sh okS w1 → Calls Tryz.prog gf cap w1 fun e w2 => ∃ okS1, e = .returned (.bool (f s.sh).1) ∧ shW p (f s.sh).2 okS1 w2 ∧ Moves okS okS1 w1 w2)
    {o : Out Bool} {t : TS Ws} (hd : askT f s = some (o, t)) :
    Calls Tryz.prog 67 #[.pointer (some ⟨tb, 0, none⟩), .func (.func gf) #[] cap] wc (DoPost boolV p tb work me bt ok w okc o t wc) :=
  (ask_calls (shW_shared p) f tb work okc s wc gf cap h.run he (fun w1 okS a b c => (hc w1 okS a b c).mono (fun e w2 ⟨okS1, h1, h2, h3⟩ => ⟨h1, okS1, h2, h3⟩)) (o, t) hd).mono (fun e w1 hp => h.post (fun _ _ _ _ hv => hv) hp)
theorem TaskAt.pE (h : TaskAt p tb work me bt ok w okc s wc) : ∃ pE, wc.cell? ⟨p, 2, none⟩ = some (.pointer (some ⟨pE, 0, none⟩)) := by
  obtain ⟨_, _, ⟨⟨_, _, _, _, _, pE, hw⟩, _⟩, _⟩ := h.run.direct
  exact ⟨pE, (blk_cell hw.box 2).trans rfl⟩
def nowT : Pr Ws Int := doT (fun x => (x.ep.now, x))
theorem TaskAt.now_ (h : TaskAt p tb work me bt ok w okc s wc) {pE : Nat} (hp : wc.cell? ⟨p, 2, none⟩ = some (.pointer (some ⟨pE, 0, none⟩))) {o : Out Int} {t : TS Ws} (hd : nowT s = some (o, t)) :
    Calls Tryz.prog 61 #[.pointer (some ⟨tb, 0, none⟩), .func (.func 19) #[.pointer (some ⟨pE, 0, none⟩)] #[]] wc (DoPost intV p tb work me bt ok w okc o t wc) := by
  refine (do_callsM (shW_shared p) (fun x => (x.ep.now, x)) tb work okc s wc 19 (.pointer (some ⟨pE, 0, none⟩)) h.run (enters Tryz.func19 (by kernel_rfl) rfl _) (fun w1 okS hm hk hs hs1 hb => ?_) (o, t) hd).mono (fun e w1 hp => h.post (fun _ _ _ _ hv => hv) hp)
  obtain ⟨⟨okA, okR, okE, pA, pR, pE1, hw⟩, hg⟩ := hs
  have hpE : pE1 = pE := by
    have h1 := (blk_cell hw.box 2).symm.trans hp
    injection h1 with h1
    injection h1 with h1
    injection h1 with h1
    injection h1
  subst hpE
  have hE1 : IsEpochs okE pE1 s.sh.ep w1 := hw.ep.step hm.size (fun k hk2 hlt => hb k ((hw.ok k).2 (.inr (.inr (.inr hk2)))) hlt)
  refine (ep_now w1 hE1).mono ?_
  rintro e w2 ⟨rfl, rfl⟩
  exact ⟨okS, rfl, hs1, Moves.refl _ _⟩
end
end Go.Proofs.YthlmgbdknjilpaaGreat.Tower
namespace Go.Proofs.YthlmgbdknjilpaaGreat.Tower
open Go Go.RowKit Go.Proofs.YthlmgbdknjilpaaGreatW.PrintWords Go.Proofs.YthlmgbdknjilpaaGreatW.PrintLast Go.Proofs.YthlmgbdknjilpaaGreatW.PrintMore Go.Proofs.YthlmgbdknjilpaaGreat.Own
set_option linter.unusedVariables false
set_option linter.unusedSimpArgs false
def ripe (z now : Int) : Bool := !(decide (z > now) || decide (IntKind.u64.wrap (IntKind.u64.wrap now - IntKind.u64.wrap z) < 3))
def Ep.ready (x : Ep) (t now : Int) : Int × Ep :=
  if x.has t then match x.limbo.getD t.toNat [] with
    | [] => (0, x)
    | (r, z) :: l => if ripe z now then (r, { x with limbo := x.limbo.set t.toNat l }) else (0, x)
  else (0, x)
theorem EpochAt.step {ok : Nat → Prop} {p : Nat} {sv lv : Value} {gv : Nat → Value} {ρ : Nat → Nat} {t : Ep} {w w1 : World} (h : EpochAt ok p sv lv gv ρ t w) (hs : w.heap.size ≤ w1.heap.size) (hm : ∀ k, ok k → k < w.heap.size → w1.heap[k]? = w.heap[k]?) : EpochAt ok p sv lv gv ρ t w1 where
  own := h.own
  role := h.role
  lt := fun k hk => Nat.lt_of_lt_of_le (h.lt k hk) hs
  len := h.len
  box := (hm p h.own (h.lt p h.own)).trans h.box
  said := Kd.R_step h.said (fun k hk hlt => hm k hk.1 hlt)
  row := Kd.R_step h.row (fun k hk hlt => hm k hk.1 hlt)
  limbo := fun i l hi => Kd.Q_step (h.limbo i l hi) (fun k hk hlt => hm k hk.1 hlt)
theorem EpochAt.below {ok : Nat → Prop} {p : Nat} {sv lv : Value} {gv : Nat → Value} {ρ : Nat → Nat} {t : Ep} {w w1 : World} (h : EpochAt ok p sv lv gv ρ t w) (hb : Below w.heap.size w w1) : EpochAt ok p sv lv gv ρ t w1 := h.step hb.size (fun k _ hlt => hb.block k hlt)
theorem EpochAt.rowcell {ok : Nat → Prop} {p n c : Nat} {A : Option Addr} {sv : Value} {gv : Nat → Value} {ρ : Nat → Nat} {x : Ep} {w : World} (h : EpochAt ok p sv (.slice A n c) gv ρ x w) (i : Int) (h0 : 0 ≤ i) (h1 : i < x.limbo.length) :
    n = x.limbo.length ∧ ∃ g, A = some ⟨g, 0, none⟩ ∧ ok g ∧ ρ g = 2 ∧ w.cell? ⟨g, i.toNat, none⟩ = some (gv i.toNat) ∧ w.frozen? ⟨g, i.toNat, none⟩ = false := by
  have hr := (Kd.R_reads' h.row).1
  have hn : n = x.limbo.length := by rw [hr]; simp
  obtain ⟨g, cap, e1, _⟩ := Kd.R_form h.row (by simp; omega)
  injection e1 with e1 e2 _
  refine ⟨hn, g, e1, ?_⟩
  subst e1
  obtain ⟨cs, _, hM, hcc, hfz⟩ := Kd.R_elem h.row [] i h0 (by omega)
  have hg := h.row.1 g (by simp [Value.ownBlock])
  have hM' := hM.1
  rw [List.getD_eq_getElem?_getD, List.getElem?_map, List.getElem?_range (by omega)] at hM'
  simp only [Option.map_some, Option.getD_some] at hM'
  have e := hcc 0 (gv i.toNat) (by rw [hM']; rfl)
  have f := hfz 0
  rw [show (Kd.raw 1).sz = 1 from rfl, Nat.mul_one, Nat.add_zero] at e f
  exact ⟨hg.1, hg.2, by simpa using e, by simpa using f⟩
theorem EpochAt.turn {ok : Nat → Prop} {p g n c : Nat} {sv : Value} {gv : Nat → Value} {ρ : Nat → Nat} {x : Ep} {w : World} (h : EpochAt ok p sv (.slice (some ⟨g, 0, none⟩) n c) gv ρ x w) (i : Nat) (hi : i < x.limbo.length) (v1 : Value) (h1 : v1.oneCell' = true) (l1 : List (Int × Int)) (hq : kPair.Q 192 w 0 (fun k => ok k ∧ ρ k = 3 + i) v1 l1) :
    EpochAt ok p sv (.slice (some ⟨g, 0, none⟩) n c) (fun j => if j = i then v1 else gv j) ρ { x with limbo := x.limbo.set i l1 } (w.setCell ⟨g, i, none⟩ v1) := by
  obtain ⟨hn, g0, e0, hg, hρ, hcc, hfz⟩ := h.rowcell (i : Int) (by omega) (by omega)
  injection e0 with e0
  injection e0 with e0 _ _
  subst e0
  rw [Int.toNat_natCast] at hcc hfz
  have hne : ∀ r, r ≠ 2 → ∀ k, (ok k ∧ ρ k = r) → k ≠ g := fun r hr k hk e => by rw [e, hρ] at hk; exact hr hk.2.symm
  have hrow := (Kd.R_seg (okp := fun _ => False) h.row (i : Int) (by omega) (by omega) (c := [gv i]) (seg := [v1]) (j := 0) rfl (fun j u hu => by
    cases j with
    | zero => injection hu with hu; subst hu; simpa [Kd.raw] using hcc
    | succ j => simp at hu) (by simp [Kd.raw]) (x' := [v1]) ⟨rfl, rfl, fun u hu => by simp only [List.take_zero, List.nil_append, List.length_singleton, List.drop_succ_cons, List.drop_zero, List.append_nil, List.mem_cons, List.not_mem_nil, or_false] at hu; rw [hu]; exact h1⟩ (fun k hk => hk.elim)).1
  have hset : ((List.range x.limbo.length).map fun i => [gv i]).set (i : Int).toNat [v1] = (List.range (x.limbo.set i l1).length).map fun j => [if j = i then v1 else gv j] := by
    refine List.ext_getElem? fun j => ?_
    rw [Int.toNat_natCast, List.getElem?_set, List.length_set]
    by_cases hj : i = j
    · subst hj
      simp [hi]
    · rw [if_neg hj]
      simp only [List.getElem?_map]
      cases hs : (List.range x.limbo.length)[j]? with
      | none => rfl
      | some q =>
        have hq : q = j := by
          have := (List.getElem?_eq_some_iff.1 hs).2
          simpa using this.symm
        subst hq
        simp [show ¬ q = i from fun e => hj e.symm]
  rw [hset] at hrow
  have hrow' : (Kd.raw 1).R 109 (w.setCells g i [v1]) 0 (fun k => ok k ∧ ρ k = 2) (.slice (some ⟨g, 0, none⟩) n c) ((List.range (x.limbo.set i l1).length).map fun j => [if j = i then v1 else gv j]) := by simpa [Kd.raw] using hrow
  exact {
    own := h.own
    role := h.role
    lt := fun k hk => by simpa [World.setCell] using h.lt k hk
    len := by rw [List.length_set]; exact h.len
    box := blk_far h.box (p := ⟨g, i, none⟩) (fun e => by rw [← show p = g from e, h.role] at hρ; cases hρ) _
    said := Kd.R_far h.said (p := ⟨g, i, none⟩) (hne 1 (by decide)) _
    row := hrow'
    limbo := fun j l hj => by
      by_cases e : i = j
      · subst e
        rw [List.getElem?_set_self hi] at hj
        injection hj with hj
        subst hj
        rw [if_pos rfl]
        exact Kd.Q_far hq (p := ⟨g, i, none⟩) (hne (3 + i) (by omega)) _
      · rw [List.getElem?_set_ne e] at hj
        rw [if_neg (fun e1 => e e1.symm)]
        exact Kd.Q_far (h.limbo j l hj) (p := ⟨g, i, none⟩) (hne (3 + j) (by omega)) _ }
theorem kPair_cells {w : World} {base : Nat} {ok : Nat → Prop} {q : Int × Int} {c : List Value} (h : kPair.M w base ok q c) : c = [.int .i64 q.1, .int .i64 q.2] := by
  obtain ⟨_, _, rfl, rfl, rfl⟩ := kPair.K_of_M h
  rfl
theorem gone_cut (A : Option Addr) (n c : Nat) (W : World) : (Instr.slice 109 (.slice A (n + 1) c) (some (.int .i64 1)) none none).run Tryz.prog W = .ok (.slice (if c = 1 then A else A.map (·.add 2)) n (c - 1)) W := by
  have hel : (Tryz.prog).elem 109 = 192 := by kernel_rfl
  have hu : (Tryz.prog).underlying 109 = some (.slice ((Tryz.prog).elem 109)) := by rw [hel]; exact Tryz.underlying109
  have := run_slice_l W 109 A (n + 1) c hu .i64 1 (by omega) (by omega)
  obtain ⟨i0, hi, hz0, hz1, hz2⟩ := info_parts (show (Tryz.prog.info? 192).map (fun i => (i.zero, i.size, i.bytes)) = some (some (.agg #[.int .i64 0, .int .i64 0]), 2, 16) by kernel_rfl)
  rw [this, hel]
  simp [sizeOf, typeInfo, hi, hz1, sliced, Result.andThen]
def TReady6 : Bool × List (List Nat × List Nat) := (true, [([], []), ([0], [0]), ([1], [1]), ([2], [2]), ([], []), ([], []), ([5], [5]), ([6], [6]), ([7], [7]), ([], []), ([8, 9], [8, 9]), ([10], [10]), ([11], [11]), ([3, 4, 0, 1, 2, 3, 4, 5, 6, 7, 8, 9, 10, 11, 12], [3, 4]), ([13, 12, 0, 1, 2, 3, 4, 5, 6, 7, 8, 9, 10, 11, 12], [12, 13])])
def BReady6 : List Nat := [0, 1, 3, 7, 0, 0, 32, 96, 224, 0, 992, 2016, 4064, 8191, 16383]
theorem tabReady6 : rtab .any (opsOf Tryz.f94 6) = TReady6 := by kernel_rfl
theorem bitsReady6 : waitsOk TReady6.2 BReady6 = true := by kernel_rfl
set_option maxHeartbeats 2000000 in
set_option maxRecDepth 100000 in
theorem ready_out {ok : Nat → Prop} {p : Nat} {x : Ep} (t now : Int) (w : World) (h : IsEpochs ok p x w) (hg : x.Good) (hh : x.has t = false) :
    Calls Tryz.prog 94 #[.pointer (some ⟨p, 0, none⟩), .int .i64 t, .int .i64 now] w (EpPost ok p (.int .i64 (x.ready t now).1) (x.ready t now).2 w) := by
  have HIN := Aside0.mk (ep_in t w h hg)
  have e1 : x.ready t now = (0, x) := by simp [Ep.ready, hh]
  rw [e1]
  have HI := Aside0.mk h
  have HH := Aside0.mk hh
  clear h hg e1 hh
  go_enter Tryz.func94, Tryz.ntmps94
  go_wp2_with (go_at_call 92; refine HIN.out.mono ?_; rintro e w1 ⟨rfl, rfl⟩; rw [HH.out])
  go_ret
  exact ⟨rfl, HI.out, Moves.refl _ _⟩
set_option maxHeartbeats 2000000 in
set_option maxRecDepth 100000 in
theorem ready_none {ok : Nat → Prop} {p : Nat} {x : Ep} (t now : Int) (w : World) (h : IsEpochs ok p x w) (hg : x.Good) (hh : x.has t = true) (hl : x.limbo.getD t.toNat [] = []) :
    Calls Tryz.prog 94 #[.pointer (some ⟨p, 0, none⟩), .int .i64 t, .int .i64 now] w (EpPost ok p (.int .i64 (x.ready t now).1) (x.ready t now).2 w) := by
  have HIN := Aside0.mk (ep_in t w h hg)
  have e1 : x.ready t now = (0, x) := by simp only [Ep.ready, hh, hl, if_true]
  rw [e1]
  obtain ⟨b0, b1⟩ : 0 ≤ t ∧ t < x.said.length := by simpa [Ep.has] using hh
  have HI := Aside0.mk h
  obtain ⟨sv, lv, gv, ρ, h⟩ := h
  obtain ⟨A, cr, rfl⟩ := Kd.R_slice h.row
  have hn : ((List.range x.limbo.length).map fun i => [gv i]).length = x.limbo.length := by simp
  rw [hn] at h
  have b3 : t < x.limbo.length := by rw [h.len]; exact b1
  obtain ⟨_, g, rfl, hg1, hg2, d2, z2⟩ := h.rowcell t b0 b3
  obtain ⟨l, hll⟩ : ∃ l, x.limbo[t.toNat]? = some l := ⟨x.limbo[t.toNat]'(by omega), List.getElem?_eq_getElem (by omega)⟩
  have hl0 : l = [] := by rw [List.getD_eq_getElem?_getD, hll] at hl; exact hl
  subst hl0
  have hq := h.limbo _ _ hll
  obtain ⟨Al, cl, hv, _⟩ := Kd.Q_slice hq
  rw [hv] at d2
  have c2 : w.cell? ⟨p, 2, none⟩ = some (.slice (some ⟨g, 0, none⟩) x.limbo.length cr) := (blk_cell h.box 2).trans rfl
  have HH := Aside0.mk hh
  clear h hg e1 hh hl hll hq hv hg1 hg2 z2 hn
  go_enter Tryz.func94, Tryz.ntmps94
  go_wp2_with (go_at_call 92; refine HIN.out.mono ?_; rintro e w1 ⟨rfl, rfl⟩; rw [HH.out])
  go_ret
  exact ⟨rfl, HI.out, Moves.refl _ _⟩
set_option maxHeartbeats 2000000 in
set_option maxRecDepth 100000 in
theorem ready_past {ok : Nat → Prop} {p : Nat} {x : Ep} (t now : Int) (w : World) (h : IsEpochs ok p x w) (hg : x.Good) (hh : x.has t = true) (r z : Int) (l : List (Int × Int)) (hl : x.limbo.getD t.toNat [] = (r, z) :: l) (hr : z > now) :
    Calls Tryz.prog 94 #[.pointer (some ⟨p, 0, none⟩), .int .i64 t, .int .i64 now] w (EpPost ok p (.int .i64 (x.ready t now).1) (x.ready t now).2 w) := by
  have HIN := Aside0.mk (ep_in t w h hg)
  have e1 : x.ready t now = (0, x) := by simp only [Ep.ready, hh, hl, if_true]; rw [if_neg (by simp [ripe, hr])]
  rw [e1]
  obtain ⟨b0, b1⟩ : 0 ≤ t ∧ t < x.said.length := by simpa [Ep.has] using hh
  obtain ⟨sv, lv, gv, ρ, h⟩ := h
  obtain ⟨A, cr, rfl⟩ := Kd.R_slice h.row
  have hn : ((List.range x.limbo.length).map fun i => [gv i]).length = x.limbo.length := by simp
  rw [hn] at h
  have b3 : t < x.limbo.length := by rw [h.len]; exact b1
  obtain ⟨_, g, rfl, hg1, hg2, d2, z2⟩ := h.rowcell t b0 b3
  have hll : x.limbo[t.toNat]? = some ((r, z) :: l) := by
    have : x.limbo[t.toNat]? = some (x.limbo[t.toNat]'(by omega)) := List.getElem?_eq_getElem (by omega)
    rw [List.getD_eq_getElem?_getD, this] at hl
    rw [this]
    exact congrArg some hl
  have hq := h.limbo _ _ hll
  obtain ⟨gl, ol, cl, hv, _, hglt, _⟩ := Kd.Q_form hq (by simp)
  have hlen : ((r, z) :: l).length = l.length + 1 := List.length_cons
  have HV := Aside0.mk hv
  rw [hv, hlen] at d2
  rw [hv] at hq
  have HQ := Aside0.mk hq
  obtain ⟨cs, _, hM, hcc, _⟩ := Kd.Q_elem hq (0, 0) 0 (by omega) (by simp)
  have hcs := kPair_cells hM
  subst hcs
  have f0 : w.cell? ⟨gl, ol, none⟩ = some (.int .i64 r) := hcc 0 _ rfl
  have f1 : w.cell? ⟨gl, ol + 1, none⟩ = some (.int .i64 z) := hcc 1 _ rfl
  have HCL : Aside0 (l.length + 1 ≤ cl) := ⟨by have := (Kd.Q_reads' hq).2.1; rw [hlen] at this; exact this⟩
  have c2 : w.cell? ⟨p, 2, none⟩ = some (.slice (some ⟨g, 0, none⟩) x.limbo.length cr) := (blk_cell h.box 2).trans rfl
  have HH := Aside0.mk hh
  have HLL := Aside0.mk hll
  have HI := Aside0.mk h
  have HGL := Aside0.mk hglt
  have HG1 := Aside0.mk hg1
  have u0 : (l.length : Int) + 1 ≠ 0 := by omega
  have u1 : decide (((l.length + 1 : Nat) : Int) = 0) = false := decide_eq_false (by omega)
  have u2 : (((l.length + 1 : Nat) : Int) == 0) = false := by simp; omega
  have b4 : (0 : Int) < ((l.length + 1 : Nat) : Int) := by omega
  clear h hg e1 hh hl hll hq hv hg1 hg2 hn hM hcc hglt hlen
  go_enter Tryz.func94, Tryz.ntmps94
  have d1 : decide (z > now) = true := decide_eq_true hr
  have d1b : decide (now < z) = true := d1
  clear hr
  go_wp2_with (go_at_call 92; refine HIN.out.mono ?_; rintro e w1 ⟨rfl, rfl⟩; rw [HH.out])
  go_ret
  exact ⟨rfl, ⟨_, _, _, _, HI.out.below (below_alloc (Below.refl _ _) _)⟩, (Moves.refl _ _).alloc _⟩
set_option maxHeartbeats 2000000 in
set_option maxRecDepth 100000 in
theorem ready_soon {ok : Nat → Prop} {p : Nat} {x : Ep} (t now : Int) (w : World) (h : IsEpochs ok p x w) (hg : x.Good) (hh : x.has t = true) (r z : Int) (l : List (Int × Int)) (hl : x.limbo.getD t.toNat [] = (r, z) :: l) (hz : ¬ z > now) (hr : IntKind.u64.wrap (IntKind.u64.wrap now - IntKind.u64.wrap z) < 3) :
    Calls Tryz.prog 94 #[.pointer (some ⟨p, 0, none⟩), .int .i64 t, .int .i64 now] w (EpPost ok p (.int .i64 (x.ready t now).1) (x.ready t now).2 w) := by
  have HIN := Aside0.mk (ep_in t w h hg)
  have e1 : x.ready t now = (0, x) := by simp only [Ep.ready, hh, hl, if_true]; rw [if_neg (by simp [ripe, hr])]
  rw [e1]
  obtain ⟨b0, b1⟩ : 0 ≤ t ∧ t < x.said.length := by simpa [Ep.has] using hh
  obtain ⟨sv, lv, gv, ρ, h⟩ := h
  obtain ⟨A, cr, rfl⟩ := Kd.R_slice h.row
  have hn : ((List.range x.limbo.length).map fun i => [gv i]).length = x.limbo.length := by simp
  rw [hn] at h
  have b3 : t < x.limbo.length := by rw [h.len]; exact b1
  obtain ⟨_, g, rfl, hg1, hg2, d2, z2⟩ := h.rowcell t b0 b3
  have hll : x.limbo[t.toNat]? = some ((r, z) :: l) := by
    have : x.limbo[t.toNat]? = some (x.limbo[t.toNat]'(by omega)) := List.getElem?_eq_getElem (by omega)
    rw [List.getD_eq_getElem?_getD, this] at hl
    rw [this]
    exact congrArg some hl
  have hq := h.limbo _ _ hll
  obtain ⟨gl, ol, cl, hv, _, hglt, _⟩ := Kd.Q_form hq (by simp)
  have hlen : ((r, z) :: l).length = l.length + 1 := List.length_cons
  have HV := Aside0.mk hv
  rw [hv, hlen] at d2
  rw [hv] at hq
  have HQ := Aside0.mk hq
  obtain ⟨cs, _, hM, hcc, _⟩ := Kd.Q_elem hq (0, 0) 0 (by omega) (by simp)
  have hcs := kPair_cells hM
  subst hcs
  have f0 : w.cell? ⟨gl, ol, none⟩ = some (.int .i64 r) := hcc 0 _ rfl
  have f1 : w.cell? ⟨gl, ol + 1, none⟩ = some (.int .i64 z) := hcc 1 _ rfl
  have HCL : Aside0 (l.length + 1 ≤ cl) := ⟨by have := (Kd.Q_reads' hq).2.1; rw [hlen] at this; exact this⟩
  have c2 : w.cell? ⟨p, 2, none⟩ = some (.slice (some ⟨g, 0, none⟩) x.limbo.length cr) := (blk_cell h.box 2).trans rfl
  have HH := Aside0.mk hh
  have HLL := Aside0.mk hll
  have HI := Aside0.mk h
  have HGL := Aside0.mk hglt
  have HG1 := Aside0.mk hg1
  have u0 : (l.length : Int) + 1 ≠ 0 := by omega
  have u1 : decide (((l.length + 1 : Nat) : Int) = 0) = false := decide_eq_false (by omega)
  have u2 : (((l.length + 1 : Nat) : Int) == 0) = false := by simp; omega
  have b4 : (0 : Int) < ((l.length + 1 : Nat) : Int) := by omega
  clear h hg e1 hh hl hll hq hv hg1 hg2 hn hM hcc hglt hlen
  go_enter Tryz.func94, Tryz.ntmps94
  have d1 : decide (z > now) = false := decide_eq_false hz
  have d1b : decide (now < z) = false := d1
  have d3 : decide (IntKind.u64.wrap (IntKind.u64.wrap now - IntKind.u64.wrap z) < 3) = true := decide_eq_true hr
  clear hr hz
  go_wp2_with (go_at_call 92; refine HIN.out.mono ?_; rintro e w1 ⟨rfl, rfl⟩; rw [HH.out])
  go_ret
  exact ⟨rfl, ⟨_, _, _, _, HI.out.below (below_alloc (Below.refl _ _) _)⟩, (Moves.refl _ _).alloc _⟩
set_option maxHeartbeats 2000000 in
set_option maxRecDepth 100000 in
theorem ready_ripe {ok : Nat → Prop} {p : Nat} {x : Ep} (t now : Int) (w : World) (h : IsEpochs ok p x w) (hg : x.Good) (hh : x.has t = true) (r z : Int) (l : List (Int × Int)) (hl : x.limbo.getD t.toNat [] = (r, z) :: l) (hz : ¬ z > now) (hr : ¬ IntKind.u64.wrap (IntKind.u64.wrap now - IntKind.u64.wrap z) < 3) :
    Calls Tryz.prog 94 #[.pointer (some ⟨p, 0, none⟩), .int .i64 t, .int .i64 now] w (EpPost ok p (.int .i64 (x.ready t now).1) (x.ready t now).2 w) := by
  have HIN := Aside0.mk (ep_in t w h hg)
  have e1 : x.ready t now = (r, { x with limbo := x.limbo.set t.toNat l }) := by simp only [Ep.ready, hh, hl, if_true]; rw [if_pos (by simp [ripe]; omega)]
  rw [e1]
  obtain ⟨b0, b1⟩ : 0 ≤ t ∧ t < x.said.length := by simpa [Ep.has] using hh
  obtain ⟨sv, lv, gv, ρ, h⟩ := h
  obtain ⟨A, cr, rfl⟩ := Kd.R_slice h.row
  have hn : ((List.range x.limbo.length).map fun i => [gv i]).length = x.limbo.length := by simp
  rw [hn] at h
  have b3 : t < x.limbo.length := by rw [h.len]; exact b1
  obtain ⟨_, g, rfl, hg1, hg2, d2, z2⟩ := h.rowcell t b0 b3
  have hll : x.limbo[t.toNat]? = some ((r, z) :: l) := by
    have : x.limbo[t.toNat]? = some (x.limbo[t.toNat]'(by omega)) := List.getElem?_eq_getElem (by omega)
    rw [List.getD_eq_getElem?_getD, this] at hl
    rw [this]
    exact congrArg some hl
  have hq := h.limbo _ _ hll
  obtain ⟨gl, ol, cl, hv, _, hglt, _⟩ := Kd.Q_form hq (by simp)
  have hlen : ((r, z) :: l).length = l.length + 1 := List.length_cons
  have HV := Aside0.mk hv
  rw [hv, hlen] at d2
  rw [hv] at hq
  have HQ := Aside0.mk hq
  obtain ⟨cs, _, hM, hcc, _⟩ := Kd.Q_elem hq (0, 0) 0 (by omega) (by simp)
  have hcs := kPair_cells hM
  subst hcs
  have f0 : w.cell? ⟨gl, ol, none⟩ = some (.int .i64 r) := hcc 0 _ rfl
  have f1 : w.cell? ⟨gl, ol + 1, none⟩ = some (.int .i64 z) := hcc 1 _ rfl
  have HCL : Aside0 (l.length + 1 ≤ cl) := ⟨by have := (Kd.Q_reads' hq).2.1; rw [hlen] at this; exact this⟩
  have c2 : w.cell? ⟨p, 2, none⟩ = some (.slice (some ⟨g, 0, none⟩) x.limbo.length cr) := (blk_cell h.box 2).trans rfl
  have HH := Aside0.mk hh
  have HLL := Aside0.mk hll
  have HI := Aside0.mk h
  have HGL := Aside0.mk hglt
  have HG1 := Aside0.mk hg1
  have u0 : (l.length : Int) + 1 ≠ 0 := by omega
  have u1 : decide (((l.length + 1 : Nat) : Int) = 0) = false := decide_eq_false (by omega)
  have u2 : (((l.length + 1 : Nat) : Int) == 0) = false := by simp; omega
  have b4 : (0 : Int) < ((l.length + 1 : Nat) : Int) := by omega
  clear h hg e1 hh hl hll hq hv hg1 hg2 hn hM hcc hglt hlen
  go_enter Tryz.func94, Tryz.ntmps94
  have d1 : decide (z > now) = false := decide_eq_false hz
  have d1b : decide (now < z) = false := d1
  have d3 : decide (IntKind.u64.wrap (IntKind.u64.wrap now - IntKind.u64.wrap z) < 3) = false := decide_eq_false hr
  clear hz hr
  go_upto_region 6 with (go_at_call 92; refine HIN.out.mono ?_; rintro e w1 ⟨rfl, rfl⟩; rw [HH.out])
  have HI2 := Aside0.mk (HI.out.below (below_alloc (Below.refl _ _) (.cells #[.int .i64 r, .int .i64 z] 192)))
  have HM2 := Aside0.mk ((Moves.refl ok w1).alloc (.cells #[.int .i64 r, .int .i64 z] 192))
  have HB2 := Aside0.mk (blk_new w1 (.cells #[.int .i64 r, .int .i64 z] 192))
  have HQ2 := Aside0.mk (Kd.Q_alloc HQ.out (.cells #[.int .i64 r, .int .i64 z] 192))
  have HNB : Aside0 (w1.heap.size ≠ g) := ⟨fun e => by have := HI.out.lt g HG1.out; omega⟩
  have hcut : ∀ W : World, (Instr.slice 109 (.slice (some ⟨gl, ol, none⟩) (l.length + 1) cl) (some (.int .i64 1)) none none).run Tryz.prog W = .ok (.slice (if cl = 1 then some ⟨gl, ol, none⟩ else (some (⟨gl, ol, none⟩ : Addr)).map (·.add 2)) l.length (cl - 1)) W := fun W => gone_cut _ _ _ W
  clear HI f0 f1 c2 d2 z2
  obtain ⟨_, g', e', _, _, d2, _⟩ := HI2.out.rowcell t b0 b3
  injection e' with e'
  injection e' with e' _ _
  subst e'
  rw [HV.out, show ((r, z) :: l).length = l.length + 1 from rfl] at d2
  have c2 := (blk_cell HI2.out.box 2).trans (rfl : _ = some (Value.slice (some ⟨g, 0, none⟩) x.limbo.length cr))
  generalize hsz : w1.heap.size = b at HB2 HNB ⊢
  have HSZ := Aside0.mk hsz
  clear hsz
  generalize w1.alloc (.cells #[.int .i64 r, .int .i64 z] 192) = w2 at HI2 HM2 HB2 HQ2 c2 d2 ⊢
  refine start_ (n := 15) (S := fun w' => w'.cell? ⟨p, 2, none⟩ = some (.slice (some ⟨g, 0, none⟩) x.limbo.length cr) ∧ w'.cell? ⟨g, t.toNat, none⟩ = some (.slice (some ⟨gl, ol, none⟩) (l.length + 1) cl)) (ds := [14]) #[N_,N_,N_,N_,N_,N_,N_,N_,N_,N_,N_,N_,N_,N_,N_] (by kernel_rfl) rfl rfl ⟨c2, d2⟩ (fun hHeld => ?_); refine with_tabW tabReady6 bitsReady6 (fun HT_ HW_ => ?_)
  have HI2 := Aside0.mk (HI2.out.step (w1 := w2.drew) (Nat.le_refl _) (fun _ _ _ => rfl))
  have HM2 := Aside0.mk HM2.out.drew
  have HB2 := Aside0.mk (blk_drew HB2.out)
  have HQ2 := Aside0.mk (Kd.Q_drew HQ2.out)
  clear c2 d2
  generalize World.drew _ = w2 at HI2 HM2 HB2 HQ2 hHeld ⊢
  refine pure_ (i := 0) (N := (some 45)) (v := ?_) (a' := ?_) #[Y_,N_,N_,N_,N_,N_,N_,N_,N_,N_,N_,N_,N_,N_,N_] rfl rfl (any_of HT_.out (by kernel_rfl)) (fun _ _ _ h => h) (Or.inl ⟨by rfl, ?_⟩) ?_ ?_
  rotate_left; · intro w'; go_simp; with_reducible rfl
  rotate_left; · simp only [Act.put, u1_, u2_, u3_, i64_w, i32_w]; rfl
  refine pure_ (i := 1) (N := (some 46)) (v := ?_) (a' := ?_) #[Y_,Y_,N_,N_,N_,N_,N_,N_,N_,N_,N_,N_,N_,N_,N_] rfl rfl (any_of HT_.out (by kernel_rfl)) (fun _ _ _ h => h) (Or.inl ⟨by rfl, ?_⟩) ?_ ?_
  rotate_left; · intro w'; go_simp; with_reducible rfl
  rotate_left; · simp only [Act.put, u1_, u2_, u3_, i64_w, i32_w]; rfl
  refine pure_ (i := 2) (N := (some 47)) (v := ?_) (a' := ?_) #[Y_,Y_,Y_,N_,N_,N_,N_,N_,N_,N_,N_,N_,N_,N_,N_] rfl rfl (any_of HT_.out (by kernel_rfl)) (fun _ _ _ h => h) (Or.inl ⟨by rfl, ?_⟩) ?_ ?_
  rotate_left; · intro w'; go_simp; with_reducible rfl
  rotate_left; · simp only [Act.put, u1_, u2_, u3_, i64_w, i32_w]; rfl
  refine take_ (i := 3) (N := (some 48)) (v := ?_) (a' := ?_) #[Y_,Y_,Y_,Y_,N_,N_,N_,N_,N_,N_,N_,N_,N_,N_,N_] rfl rfl (take_ofW HT_.out HW_.out (by kernel_rfl)) (fun _ _ _ h => h) (Or.inl ⟨by rfl, ?_⟩) hHeld ?_ ?_
  rotate_left; · rintro w' ⟨s0, s1⟩; go_simp; with_reducible rfl
  rotate_left; · simp only [Act.put, u1_, u2_, u3_, i64_w, i32_w]; rfl
  refine pure_ (i := 4) (N := (some 49)) (v := ?_) (a' := ?_) #[Y_,Y_,Y_,Y_,Y_,N_,N_,N_,N_,N_,N_,N_,N_,N_,N_] rfl rfl (any_of HT_.out (by kernel_rfl)) (fun _ _ _ h => h) (Or.inl ⟨by rfl, ?_⟩) ?_ ?_
  rotate_left; · intro w'; go_simp; with_reducible rfl
  rotate_left; · simp only [Act.put, u1_, u2_, u3_, i64_w, i32_w]; rfl
  refine pure_ (i := 5) (N := (some 50)) (v := ?_) (a' := ?_) #[Y_,Y_,Y_,Y_,Y_,Y_,N_,N_,N_,N_,N_,N_,N_,N_,N_] rfl rfl (any_of HT_.out (by kernel_rfl)) (fun _ _ _ h => h) (Or.inl ⟨by rfl, ?_⟩) ?_ ?_
  rotate_left; · intro w'; go_simp; with_reducible rfl
  rotate_left; · simp only [Act.put, u1_, u2_, u3_, i64_w, i32_w]; rfl
  refine pure_ (i := 6) (N := (some 51)) (v := ?_) (a' := ?_) #[Y_,Y_,Y_,Y_,Y_,Y_,Y_,N_,N_,N_,N_,N_,N_,N_,N_] rfl rfl (any_of HT_.out (by kernel_rfl)) (fun _ _ _ h => h) (Or.inl ⟨by rfl, ?_⟩) ?_ ?_
  rotate_left; · intro w'; go_simp; with_reducible rfl
  rotate_left; · simp only [Act.put, u1_, u2_, u3_, i64_w, i32_w]; rfl
  refine pure_ (i := 7) (N := (some 52)) (v := ?_) (a' := ?_) #[Y_,Y_,Y_,Y_,Y_,Y_,Y_,Y_,N_,N_,N_,N_,N_,N_,N_] rfl rfl (any_of HT_.out (by kernel_rfl)) (fun _ _ _ h => h) (Or.inl ⟨by rfl, ?_⟩) ?_ ?_
  rotate_left; · intro w'; go_simp; with_reducible rfl
  rotate_left; · simp only [Act.put, u1_, u2_, u3_, i64_w, i32_w]; rfl
  refine take_ (i := 8) (N := (some 53)) (v := ?_) (a' := ?_) #[Y_,Y_,Y_,Y_,Y_,Y_,Y_,Y_,Y_,N_,N_,N_,N_,N_,N_] rfl rfl (take_ofW HT_.out HW_.out (by kernel_rfl)) (fun _ _ _ h => h) (Or.inl ⟨by rfl, ?_⟩) hHeld ?_ ?_
  rotate_left; · rintro w' ⟨s0, s1⟩; go_simp; with_reducible rfl
  rotate_left; · simp only [Act.put, u1_, u2_, u3_, i64_w, i32_w]; rfl
  refine pure_ (i := 9) (N := (some 54)) (v := ?_) (a' := ?_) #[Y_,Y_,Y_,Y_,Y_,Y_,Y_,Y_,Y_,Y_,N_,N_,N_,N_,N_] rfl rfl (any_of HT_.out (by kernel_rfl)) (fun _ _ _ h => h) (Or.inl ⟨by rfl, ?_⟩) ?_ ?_
  rotate_left; · intro w'; go_simp; with_reducible rfl
  rotate_left; · simp only [Act.put, u1_, u2_, u3_, i64_w, i32_w]; rfl
  refine pure_ (i := 10) (N := (some 55)) (v := ?_) (a' := ?_) #[Y_,Y_,Y_,Y_,Y_,Y_,Y_,Y_,Y_,Y_,Y_,N_,N_,N_,N_] rfl rfl (any_of HT_.out (by kernel_rfl)) (fun _ _ _ h => h) (Or.inl ⟨by rfl, ?_⟩) ?_ ?_
  rotate_left; · intro w'; go_simp; with_reducible rfl
  rotate_left; · simp only [Act.put, u1_, u2_, u3_, i64_w, i32_w]; rfl
  refine take_ (i := 11) (N := (some 56)) (v := ?_) (a' := ?_) #[Y_,Y_,Y_,Y_,Y_,Y_,Y_,Y_,Y_,Y_,Y_,Y_,N_,N_,N_] rfl rfl (take_ofW HT_.out HW_.out (by kernel_rfl)) (fun _ _ _ h => h) (Or.inl ⟨by rfl, ?_⟩) hHeld ?_ ?_
  rotate_left; · rintro w' ⟨s0, s1⟩; go_simp; with_reducible rfl
  rotate_left; · simp only [Act.put, u1_, u2_, u3_, i64_w, i32_w]; rfl
  refine pure_ (i := 12) (N := (some 57)) (v := ?_) (a' := ?_) #[Y_,Y_,Y_,Y_,Y_,Y_,Y_,Y_,Y_,Y_,Y_,Y_,Y_,N_,N_] rfl rfl (any_of HT_.out (by kernel_rfl)) (fun _ _ _ h => h) (Or.inl ⟨by rfl, ?_⟩) ?_ ?_
  rotate_left; · intro w'; go_simp; with_reducible rfl
  rotate_left; · simp only [Act.put, u1_, u2_, u3_, i64_w, i32_w]; rfl
  refine pure_ (i := 13) (N := (some 58)) (v := ?_) (a' := ?_) #[Y_,Y_,Y_,Y_,Y_,Y_,Y_,Y_,Y_,Y_,Y_,Y_,Y_,Y_,N_] rfl rfl (any_of HT_.out (by kernel_rfl)) (fun _ _ _ h => h) (Or.inl ⟨by rfl, ?_⟩) ?_ ?_
  rotate_left; · intro w'; go_simp; with_reducible rfl
  rotate_left; · simp only [Act.put, u1_, u2_, u3_, i64_w, i32_w]; rfl
  obtain ⟨_, g', e', _, _, _, z2⟩ := HI2.out.rowcell t b0 b3
  injection e' with e'
  injection e' with e' _ _
  subst e'
  refine last_ (i := 14) (N := none) #[Y_,Y_,Y_,Y_,Y_,Y_,Y_,Y_,Y_,Y_,Y_,Y_,Y_,Y_,Y_] rfl rfl (one_of HT_.out (by kernel_rfl)) (by decide) (fun K_ hK => ?_)
  refine skip_ (w1 := ?_) (by rfl) rfl ?_ ?_
  rotate_left
  · go_simp
    rfl
  refine hK.out _ _ ?_
  clear hK K_
  refine done_ (done_of HT_.out (by kernel_rfl)) ?_
  have hq := Kd.Q_drop HQ2.out (k := 1) (by simp)
  have hq' : kPair.Q 192 w2 0 (fun k => ok k ∧ ρ k = 3 + t.toNat) (.slice (if cl = 1 then some ⟨gl, ol, none⟩ else some ⟨gl, ol + 2, none⟩) l.length (cl - 1)) l := by simpa [Kd.pair, Kd.int, Kd.scalar, Addr.add] using hq
  have q0_ := Aside0.mk (HI2.out.turn t.toNat (by omega) (.slice (if cl = 1 then some ⟨gl, ol, none⟩ else some ⟨gl, ol + 2, none⟩) l.length (cl - 1)) rfl l hq')
  have q1_ := Aside0.mk (HM2.out.set (p := ⟨g, t.toNat, none⟩) (.inl HG1.out) (.slice (if cl = 1 then some ⟨gl, ol, none⟩ else some ⟨gl, ol + 2, none⟩) l.length (cl - 1)))
  have q2_ := Aside0.mk (blk_far HB2.out (p := ⟨g, t.toNat, none⟩) HNB.out (.slice (if cl = 1 then some ⟨gl, ol, none⟩ else some ⟨gl, ol + 2, none⟩) l.length (cl - 1)))
  clear hq hq' HI2 HM2 HB2 HQ2 hHeld z2 hcut HQ HV
  generalize (Value.slice (if cl = 1 then some ⟨gl, ol, none⟩ else some ⟨gl, ol + 2, none⟩) l.length (cl - 1)) = vl at q0_ q1_ q2_ ⊢
  generalize w2.setCell ⟨g, t.toNat, none⟩ vl = w3 at q0_ q1_ q2_ ⊢
  have f0 := (blk_cell q2_.out 0).trans (rfl : _ = some (Value.int .i64 r))
  go_wp2_with fail
  go_ret
  exact ⟨rfl, ⟨_, _, _, _, q0_.out⟩, q1_.out⟩
theorem ep_ready {ok : Nat → Prop} {p : Nat} {x : Ep} (t now : Int) (w : World) (h : IsEpochs ok p x w) (hg : x.Good) :
    Calls Tryz.prog 94 #[.pointer (some ⟨p, 0, none⟩), .int .i64 t, .int .i64 now] w (EpPost ok p (.int .i64 (x.ready t now).1) (x.ready t now).2 w) := by
  cases hh : x.has t with
  | false => exact ready_out t now w h hg hh
  | true =>
    cases hl : x.limbo.getD t.toNat [] with
    | nil => exact ready_none t now w h hg hh hl
    | cons q l =>
      obtain ⟨r, z⟩ := q
      by_cases hz : z > now
      · exact ready_past t now w h hg hh r z l hl hz
      · by_cases hr : IntKind.u64.wrap (IntKind.u64.wrap now - IntKind.u64.wrap z) < 3
        · exact ready_soon t now w h hg hh r z l hl hz hr
        · exact ready_ripe t now w h hg hh r z l hl hz hr
theorem Ep.Good.ready {x : Ep} (h : x.Good) (t now : Int) : (x.ready t now).2.Good := by
  unfold Ep.ready
  split
  · split
    · exact h
    · split
      · exact ⟨h.few⟩
      · exact h
  · exact h
def Ar.freed (a : Ar) (j : Nat) (s : Sl) (r : Int) : Ar := { a with slots := a.slots.set j { s with used := false }, free := a.free ++ [placeOf r], used := wrap64 (a.used - 1) }
def Ar.free_ (a : Ar) (r : Int) : Bool × Ar :=
  match a.idx r with
  | none => (false, a.fault)
  | some j => match a.slots[j]? with
    | none => (false, a)
    | some s => (true, a.freed j s r)
structure FreePost (ok : Nat → Prop) (pA : Nat) (v : Value) (a1 : Ar) (w : World) (e : Ending) (w1 : World) : Prop where
  val : e = .returned v
  out : ∃ ok1, IsArena ok1 pA a1 w1 ∧ Moves ok ok1 w w1
theorem ArenaAt.pushfree {ok : Nat → Prop} {pA : Nat} {sv fv v1 : Value} {lv : Nat → Lv} {ρ : Nat → Nat} {a : Ar} {W w1 : World} {q : Int} (h : ArenaAt ok pA sv fv lv ρ a W) (hg : W.grownBy w1 fv.ownBlock)
    (hr : (Kd.int .i64).Q 3 w1 0 (fun k => (ok k ∧ ρ k = 2) ∨ W.heap.size ≤ k) v1 (a.free ++ [q])) :
    ArenaAt (fun k => ok k ∨ (W.heap.size ≤ k ∧ k < w1.heap.size)) pA sv v1 lv (fun k => if k < W.heap.size then ρ k else 2) { a with free := a.free ++ [q] } (w1.setCell ⟨pA, 1, none⟩ v1) := by
  have hpA := h.lt pA h.own
  have hs : (w1.setCell ⟨pA, 1, none⟩ v1).heap.size = w1.heap.size := by simp [World.setCell]
  have hne : ∀ r, r ≠ 2 → ∀ k, (ok k ∧ ρ k = r) → some k ≠ fv.ownBlock := fun r hr1 k hk e => by
    have := (h.free.1 k e.symm).2
    rw [hk.2] at this
    exact hr1 this
  have hmove : ∀ r, r ≠ 2 → r ≠ 0 → ∀ k, (ok k ∧ ρ k = r) → k < W.heap.size → (w1.setCell ⟨pA, 1, none⟩ v1).heap[k]? = W.heap[k]? := fun r hr1 hr0 k hk hlt =>
    (Below.heap_setCell w1 ⟨pA, 1, none⟩ v1 k (fun e => hr0 (by rw [← hk.2, show k = pA from e, h.role]))).trans (hg.block k hlt (hne r hr1 k hk))
  have hup : ∀ r k, (ok k ∧ ρ k = r) → k < W.heap.size → ((ok k ∨ (W.heap.size ≤ k ∧ k < w1.heap.size)) ∧ (if k < W.heap.size then ρ k else 2) = r) := fun r k hk hlt => ⟨.inl hk.1, by rw [if_pos hlt]; exact hk.2⟩
  exact {
    own := .inl h.own
    role := by rw [if_pos hpA]; exact h.role
    lt := fun k hk => by
      rw [hs]
      rcases hk with hk | hk
      · exact Nat.lt_of_lt_of_le (h.lt k hk) hg.size
      · exact hk.2
    box := by
      have h0 := blk_grown h.box hg (fun e => by have := (h.free.1 pA e.symm).2; rw [h.role] at this; cases this)
      exact blk_set h0 1 v1
    free := by
      refine Kd.Q_far (Kd.Q_mono (Kd.Q_bound hr) (fun k hk => ?_)) (fun k hk e => ?_) v1
      · have hlt := hk.2.2.1
        rcases hk.1 with h1 | h1
        · exact ⟨.inl h1.1, by rw [if_pos (h.lt k h1.1)]; exact h1.2⟩
        · exact ⟨.inr ⟨h1, hlt⟩, by rw [if_neg (by omega)]⟩
      · have := hk.2
        rw [show k = pA from e, if_pos hpA, h.role] at this
        cases this
    rows := Kd.R_mono (Kd.R_step (Kd.R_bound h.rows) (fun k hk hlt => hmove 1 (by decide) (by decide) k hk.1 hlt)) (fun k hk => hup 1 k hk.1 (h.lt k hk.1.1))
    node := fun i s h2 => by
      have hn := h.node i s h2
      exact ⟨(hn.1.step (hmove 3 (by decide) (by decide))).mono (fun k hk _ => hup 3 k hk (h.lt k hk.1)), (hn.2.1.step (hmove 3 (by decide) (by decide))).mono (fun k hk _ => hup 3 k hk (h.lt k hk.1)), (hn.2.2.step (hmove 3 (by decide) (by decide))).mono (fun k hk _ => hup 3 k hk (h.lt k hk.1))⟩
    ways := fun i s h2 => Kd.R_mono (Kd.R_step (h.ways i s h2) (hmove _ (by omega) (by omega))) (fun k hk => hup _ k hk (h.lt k hk.1)) }
def TFree5 : Bool × List (List Nat × List Nat) := (true, [([], []), ([], []), ([1], [1]), ([2], [2]), ([3], [3]), ([], []), ([5], [5]), ([6], [6]), ([4, 7, 6], [4, 7]), ([0, 0, 1, 2, 3, 4, 5, 6, 7, 8], [0]), ([9, 0, 1, 2, 3, 4, 5, 6, 7, 8], [9]), ([10, 8, 8, 0, 1, 2, 3, 4, 5, 6, 7, 8], [8, 10])])
def BFree5 : List Nat := [0, 0, 2, 6, 14, 0, 32, 96, 254, 511, 1023, 2047]
theorem tabFree5 : rtab .any (opsOf Tryz.f91 5) = TFree5 := by kernel_rfl
theorem bitsFree5 : waitsOk TFree5.2 BFree5 = true := by kernel_rfl
set_option maxHeartbeats 2000000 in
set_option maxRecDepth 100000 in
theorem free_calls {ok : Nat → Prop} {pA : Nat} {a : Ar} (r : Int) (w : World) (h : IsArena ok pA a w) (hl : a.slots.length < 1000000) (hfl : a.free.length < 1000000) :
    Calls Tryz.prog 91 #[.pointer (some ⟨pA, 0, none⟩), .int .i64 r] w (FreePost ok pA (.bool (a.free_ r).1) (a.free_ r).2 w) := by
  obtain ⟨sv, fv, lv, ρ, h⟩ := h
  have HA := Aside0.mk (at_calls r w h hl)
  cases hx : a.idx r with
  | none =>
    have HF := Aside0.mk (fault_is h)
    have HX := Aside0.mk hx
    have e1 : a.free_ r = (false, a.fault) := by simp [Ar.free_, hx]
    rw [e1]
    clear h hx e1
    go_enter Tryz.func91, Tryz.ntmps91
    go_wp2_with (go_at_call 82; refine HA.out.mono ?_; rintro e w1 ⟨_, hm⟩; obtain ⟨rfl, rfl⟩ := hm HX.out; clear hm)
    go_ret
    exact ⟨rfl, ok, HF.out.1, HF.out.2⟩
  | some j =>
  obtain ⟨hp, s, hs, hu, hr⟩ := Ar.idx_some hx
  obtain ⟨ad, cap, rfl⟩ := Kd.R_slice h.rows
  obtain ⟨hn, g, rfl, hg, hρ, hcc, hfz⟩ := h.cells hs
  have HX := Aside0.mk hx
  have HI := Aside0.mk h
  have HS := Aside0.mk hs
  have c9 : w.cell? ⟨g, j * 10 + 9, none⟩ = some (.bool s.used) := hcc 9 _ rfl
  have z9 := hfz 9
  have e1 : a.free_ r = (true, a.freed j s r) := by simp [Ar.free_, hx, hs]
  rw [e1]
  have HG := Aside0.mk hg
  clear h hx hcc hfz hp hs hu hr e1 hg
  go_enter Tryz.func91, Tryz.ntmps91
  go_upto_region 5 with (go_at_call 82; refine HA.out.mono ?_; rintro e w1 ⟨hm, _⟩; obtain ⟨g1, n1, cap1, e1, rfl, rfl⟩ := hm j HX.out; injection e1 with e1 _ _; injection e1 with e1; injection e1 with e1 _ _; subst e1; clear hm)
  have hN9 := HI.out.node _ _ HS.out
  have hW9 := HI.out.ways _ _ HS.out
  have q0_ := Aside0.mk (HI.out.seg HS.out 9 [.bool false] (by simp) { s with used := false } lv (fun _ _ => rfl) rfl hN9 hW9)
  have q0_ : Aside0 (ArenaAt ok pA _ fv lv ρ _ (w1.setCell ⟨g, j * 10 + 9, none⟩ (.bool false))) := q0_
  have q1_ := Aside0.mk ((Moves.refl ok w1).set (p := ⟨g, j * 10 + 9, none⟩) (.inl HG.out) (.bool false))
  clear HI hN9 hW9 c9 z9
  generalize w1.setCell ⟨g, j * 10 + 9, none⟩ (.bool false) = w2 at q0_ q1_ ⊢
  obtain ⟨Af, cf, rfl, _⟩ := Kd.Q_slice q0_.out.free
  have c1 := (blk_cell q0_.out.box 1).trans (rfl : _ = some (Value.slice Af a.free.length cf))
  refine start_ (n := 12) (S := fun w' => w'.cell? ⟨pA, 1, none⟩ = some (.slice Af a.free.length cf)) (ds := [8, 11]) #[N_,N_,N_,N_,N_,N_,N_,N_,N_,N_,N_,N_] (by kernel_rfl) rfl rfl c1 (fun hHeld => ?_); refine with_tabW tabFree5 bitsFree5 (fun HT_ HW_ => ?_)
  have q0_ := Aside0.mk (q0_.out.step (w1 := w2.drew) (Nat.le_refl _) (fun _ _ _ => rfl))
  have q1_ := Aside0.mk q1_.out.drew
  clear c1
  generalize World.drew _ = w2 at q0_ q1_ hHeld ⊢
  refine pure_ (i := 0) (N := (some 14)) (v := ?_) (a' := ?_) #[Y_,N_,N_,N_,N_,N_,N_,N_,N_,N_,N_,N_] rfl rfl (any_of HT_.out (by kernel_rfl)) (fun _ _ _ h => h) (Or.inl ⟨by rfl, ?_⟩) ?_ ?_
  rotate_left; · intro w'; go_simp; with_reducible rfl
  rotate_left; · simp only [Act.put, u1_, u2_, u3_, i64_w, i32_w]; rfl
  refine pure_ (i := 1) (N := (some 15)) (v := ?_) (a' := ?_) #[Y_,Y_,N_,N_,N_,N_,N_,N_,N_,N_,N_,N_] rfl rfl (any_of HT_.out (by kernel_rfl)) (fun _ _ _ h => h) (Or.inl ⟨by rfl, ?_⟩) ?_ ?_
  rotate_left; · intro w'; go_simp; with_reducible rfl
  rotate_left; · simp only [Act.put, u1_, u2_, u3_, i64_w, i32_w]; rfl
  refine pure_ (i := 2) (N := (some 16)) (v := ?_) (a' := ?_) #[Y_,Y_,Y_,N_,N_,N_,N_,N_,N_,N_,N_,N_] rfl rfl (any_of HT_.out (by kernel_rfl)) (fun _ _ _ h => h) (Or.inl ⟨by rfl, ?_⟩) ?_ ?_
  rotate_left; · intro w'; go_simp; with_reducible rfl
  rotate_left; · simp only [Act.put, u1_, u2_, u3_, i64_w, i32_w]; rfl
  refine pure_ (i := 3) (N := (some 17)) (v := ?_) (a' := ?_) #[Y_,Y_,Y_,Y_,N_,N_,N_,N_,N_,N_,N_,N_] rfl rfl (any_of HT_.out (by kernel_rfl)) (fun _ _ _ h => h) (Or.inl ⟨by rfl, ?_⟩) ?_ ?_
  rotate_left; · intro w'; go_simp; with_reducible rfl
  rotate_left; · simp only [Act.put, u1_, u2_, u3_, i64_w, i32_w]; rfl
  refine take_ (i := 4) (N := (some 18)) (v := ?_) (a' := ?_) #[Y_,Y_,Y_,Y_,Y_,N_,N_,N_,N_,N_,N_,N_] rfl rfl (take_ofW HT_.out HW_.out (by kernel_rfl)) (fun _ _ _ h => h) (Or.inl ⟨by rfl, ?_⟩) hHeld ?_ ?_
  rotate_left; · rintro w' s0; go_simp; with_reducible rfl
  rotate_left; · simp only [Act.put, u1_, u2_, u3_, i64_w, i32_w]; rfl
  refine pure_ (i := 5) (N := (some 19)) (v := ?_) (a' := ?_) #[Y_,Y_,Y_,Y_,Y_,Y_,N_,N_,N_,N_,N_,N_] rfl rfl (any_of HT_.out (by kernel_rfl)) (fun _ _ _ h => h) (Or.inl ⟨by rfl, ?_⟩) ?_ ?_
  rotate_left; · intro w'; go_simp; with_reducible rfl
  rotate_left; · simp only [Act.put, u1_, u2_, u3_, i64_w, i32_w]; rfl
  refine one_ (i := 6) (N := (some 20)) #[Y_,Y_,Y_,Y_,Y_,Y_,Y_,N_,N_,N_,N_,N_] rfl rfl (one_of HT_.out (by kernel_rfl)) (by decide) (fun K_ hK => ?_)
  refine call_ 110 #[.int .i64 r] (by rfl) rfl ?hrun6 ?_
  (case hrun6 => first | (go_simp; done) | (go_simp; exact enters Tryz.func110 (by kernel_rfl) rfl _ _))
  refine (ref_place r _).mono ?_
  rintro e w2 ⟨rfl, rfl⟩
  refine ⟨_, rfl, ?_⟩
  refine hK.out _ _ hHeld (fun hHeld => ?_)
  clear hK K_
  refine norm_ (a' := ?_) ?_ ?_
  rotate_left; · show Act.put _ (some 20) _ = _; simp only [Act.put, u1_, u2_, u3_, i64_w, i32_w]; rfl
  refine one_ (i := 7) (N := (some 21)) #[Y_,Y_,Y_,Y_,Y_,Y_,Y_,Y_,N_,N_,N_,N_] rfl rfl (one_of HT_.out (by kernel_rfl)) (by decide) (fun K_ hK => ?_)
  refine value_ (v := .slice (some ⟨w2.heap.size, 0, none⟩) 1 1) (w1 := w2.alloc (.cells #[.int .i64 (placeOf r)] 3)) (by rfl) rfl ?hbs ?_
  (case hbs => go_simp)
  refine hK.out _ _ (pw_cell_below (below_alloc (Below.refl _ _) _) hHeld) (fun hHeld => ?_)
  clear hK K_
  refine norm_ (a' := ?_) ?_ ?_
  rotate_left; · show Act.put _ (some 21) _ = _; simp only [Act.put, u1_, u2_, u3_, i64_w, i32_w]; rfl
  refine last_ (i := 8) (N := (some 22)) #[Y_,Y_,Y_,Y_,Y_,Y_,Y_,Y_,Y_,N_,N_,N_] rfl rfl (one_of HT_.out (by kernel_rfl)) (by decide) (fun K_ hK => ?_)
  refine Kd.Q_append_step (Kd.int .i64) (w0 := w2) 0 (by rfl) (.tmp 18) (.tmp 21) 106 3 (.int .i64 0) 8 rfl Tryz.underlying106 info_int rfl (by decide) (by decide) (.slice Af a.free.length cf) a.free (placeOf r) [.int .i64 (placeOf r)] (fun k => (ok k ∧ ρ k = 2) ∨ w2.heap.size ≤ k) (fun _ => False) rfl rfl ?aP (fun _ hk => hk.elim) (fun k hk => .inr hk) (Kd.Q_mono q0_.out.free (fun k hk => .inl hk)) (Below.refl _ _) (Nat.zero_le _) (by omega) ?_
  (case aP => rfl)
  intro v5 w5 ho hb5 hg hat
  have hle : (a.free ++ [placeOf r]).length = a.free.length + 1 := by simp
  obtain ⟨A5, cc5, rfl, _⟩ := Kd.Q_slice ho
  rw [hle] at ho hat ⊢
  have hne : some pA ≠ (Value.slice Af a.free.length cf).ownBlock := (fun e => by have := (q0_.out.free.1 pA e.symm).2; rw [q0_.out.role] at this; cases this)
  have f0 : w5.frozen? ⟨pA, 1, none⟩ = false := blk_frozen (blk_grown q0_.out.box hg hne) 1
  have c0 := (blk_cell (blk_grown q0_.out.box hg hne) 1).trans (rfl : _ = some (Value.slice Af a.free.length cf))
  have m0_ := Aside0.mk ho
  have m1_ := Aside0.mk hg
  clear ho hg hat hb5 hne hle
  refine hK.out _ _ ?_
  clear hK K_
  refine norm_ (a' := ?_) ?_ ?_
  rotate_left; · show Act.put _ (some 22) _ = _; simp only [Act.put, u1_, u2_, u3_, i64_w, i32_w]; rfl
  refine pure_ (i := 9) (N := (some 23)) (v := ?_) (a' := ?_) #[Y_,Y_,Y_,Y_,Y_,Y_,Y_,Y_,Y_,Y_,N_,N_] rfl rfl (any_of HT_.out (by kernel_rfl)) (fun _ _ _ h => h) (Or.inl ⟨by rfl, ?_⟩) ?_ ?_
  rotate_left; · intro w'; go_simp; with_reducible rfl
  rotate_left; · simp only [Act.put, u1_, u2_, u3_, i64_w, i32_w]; rfl
  refine pure_ (i := 10) (N := (some 24)) (v := ?_) (a' := ?_) #[Y_,Y_,Y_,Y_,Y_,Y_,Y_,Y_,Y_,Y_,Y_,N_] rfl rfl (any_of HT_.out (by kernel_rfl)) (fun _ _ _ h => h) (Or.inl ⟨by rfl, ?_⟩) ?_ ?_
  rotate_left; · intro w'; go_simp; with_reducible rfl
  rotate_left; · simp only [Act.put, u1_, u2_, u3_, i64_w, i32_w]; rfl
  refine last_ (i := 11) (N := none) #[Y_,Y_,Y_,Y_,Y_,Y_,Y_,Y_,Y_,Y_,Y_,Y_] rfl rfl (one_of HT_.out (by kernel_rfl)) (by decide) (fun K_ hK => ?_)
  refine skip_ (w1 := ?_) (by rfl) rfl ?_ ?_
  rotate_left
  · go_simp
    rfl
  refine hK.out _ _ ?_
  clear hK K_
  refine done_ (done_of HT_.out (by kernel_rfl)) ?_
  have n0_ := Aside0.mk (q0_.out.pushfree m1_.out m0_.out)
  have n1_ : Aside0 (Moves ok (fun k => ok k ∨ (w2.heap.size ≤ k ∧ k < w5.heap.size)) w1 (w5.setCell ⟨pA, 1, none⟩ (.slice A5 (a.free.length + 1) cc5))) := ⟨((q1_.out.grown m1_.out (fun k hk => .inl (q0_.out.free.1 k hk).1)).set (p := ⟨pA, 1, none⟩) (.inl q0_.out.own) _).owns (fun k hk => hk.elim .inl (fun h1 => .inr (by have := q1_.out.size; omega)))⟩
  clear q0_ q1_ m0_ m1_ c0 f0
  generalize w5.setCell ⟨pA, 1, none⟩ (.slice A5 (a.free.length + 1) cc5) = w6 at n0_ n1_ ⊢
  generalize (fun k => ok k ∨ (w2.heap.size ≤ k ∧ k < w5.heap.size)) = ok6 at n0_ n1_
  generalize (fun k => if k < w2.heap.size then ρ k else 2) = ρ6 at n0_
  have c3 := (blk_cell n0_.out.box 3).trans (rfl : _ = some (Value.int .i64 a.used))
  have z3 := blk_frozen n0_.out.box 3
  go_wp2_with fail
  go_ret
  exact ⟨rfl, ok6, ⟨_, _, _, _, n0_.out.box_set 3 (.int .i64 (wrap64 (a.used - 1))) (a.freed j s r) rfl rfl rfl⟩, n1_.out.set (p := ⟨pA, 3, none⟩) (n1_.out.fresh pA n0_.out.own) _⟩
theorem Ar.Good.free_few {a : Ar} (h : a.Good) : a.free.length < 1000000 := by
  have h1 := h.used
  have h2 := h.cnt
  have h3 := h.slots
  have h4 := h.most
  omega
theorem Ar.Good.free_ {a : Ar} (h : a.Good) (r : Int) : (a.free_ r).2.Good := by
  unfold Ar.free_
  cases hx : a.idx r with
  | none => exact h.fault
  | some j =>
    obtain ⟨hp, s, hs, hu, hr⟩ := Ar.idx_some hx
    simp only [hs]
    have hj := (List.getElem?_eq_some_iff.1 hs).1
    have hjs := (List.getElem?_eq_some_iff.1 hs).2
    have h1 := h.used
    have h2 := h.cnt
    have h3 := h.slots
    have h4 := h.most
    have hpos : 0 < a.slots.countP fun s => s.used := List.countP_pos_iff.2 ⟨s, by rw [← hjs]; exact List.getElem_mem hj, hu⟩
    have hc : (a.slots.set j { s with used := false }).countP (fun s => s.used) = (a.slots.countP fun s => s.used) - 1 := by
      rw [List.countP_set hj]
      simp [hjs, hu]
    have hw : wrap64 (a.used - 1) = a.used - 1 := by unfold wrap64; omega
    refine ⟨h4, by show ((a.slots.set j _).length : Int) ≤ _; rw [List.length_set]; exact h3, ?_, ?_, fun i q hi => ?_⟩
    · show wrap64 (a.used - 1) + ((a.free ++ [placeOf r]).length : Int) = ((a.slots.set j _).length : Int)
      rw [List.length_set, hw, List.length_append, List.length_singleton]
      omega
    · show (((a.slots.set j _).countP fun s => s.used : Nat) : Int) ≤ wrap64 (a.used - 1)
      rw [hc, hw]
      omega
    · by_cases e : j = i
      · subst e
        have hi : (a.slots.set j { s with used := false })[j]? = some q := hi
        rw [List.getElem?_set_self hj] at hi
        injection hi with hi
        subst hi
        exact h.small j s hs
      · have hi : (a.slots.set j { s with used := false })[i]? = some q := hi
        rw [List.getElem?_set_ne e] at hi
        exact h.small i q hi
def Ws.one (x : Ws) (me now : Int) : Int × Ws :=
  if (x.ep.ready me now).1 = 0 then (0, { x with ep := (x.ep.ready me now).2 })
  else ((x.ep.ready me now).1, { x with ep := (x.ep.ready me now).2, ar := (x.ar.free_ (x.ep.ready me now).1).2 })
structure ShPost (p : Nat) (v : Value) (x1 : Ws) (okS : Nat → Prop) (w : World) (e : Ending) (w2 : World) : Prop where
  out : ∃ okS1, e = .returned v ∧ shW p x1 okS1 w2 ∧ Moves okS okS1 w w2
def TOne1 : Bool × List (List Nat × List Nat) := (true, [([], []), ([0], [0]), ([1], [1]), ([2], [2]), ([3], [3]), ([], []), ([5], [5]), ([], []), ([4, 6, 7], [4, 6, 7]), ([8, 8, 0, 1, 2, 3, 4, 5, 6, 7, 8], [8])])
def BOne1 : List Nat := [0, 1, 3, 7, 15, 0, 32, 0, 255, 511]
theorem tabOne1 : rtab .any (opsOf Tryz.f71 1) = TOne1 := by kernel_rfl
theorem bitsOne1 : waitsOk TOne1.2 BOne1 = true := by kernel_rfl
set_option maxHeartbeats 2000000 in
set_option maxRecDepth 100000 in
theorem one_calls (p tb : Nat) (x : Ws) (me now : Int) (w : World) (okS : Nat → Prop) (h : shW p x okS w) :
    Calls Tryz.prog 71 #[taskV tb p me, .int .i64 now] w (ShPost p (.int .i64 (x.one me now).1) (x.one me now).2 okS w) := by
  obtain ⟨⟨okA, okR, okE, pA, pR, pE, h⟩, hg⟩ := h
  have HG := Aside0.mk hg
  have HL := Aside0.mk (fun k (hk : okS k) => ((worldShared p).lt (x := x) ⟨_, _, _, _, _, _, h⟩ k hk))
  have HW := Aside0.mk (h.step (w1 := w.alloc (taskO tb p me)) (by simp) (fun k _ hlt => Below.heap_alloc _ _ _ hlt))
  have HM := Aside0.mk ((Moves.refl okS w).alloc (taskO tb p me))
  have HB := Aside0.mk (blk_new w (taskO tb p me))
  unfold taskO at HW HM HB
  have HTV : taskV tb p me = .agg #[.pointer (some ⟨tb, 0, none⟩), .pointer (some ⟨p, 0, none⟩), .int .i64 me] := rfl
  rw [HTV]
  generalize hone : x.one me now = res
  have HONE := Aside0.mk hone
  clear h hg HTV hone
  go_enter Tryz.func71, Tryz.ntmps71
  go_upto_region 1 with fail
  generalize hw1 : w.alloc (.cells #[.pointer (some ⟨tb, 0, none⟩), .pointer (some ⟨p, 0, none⟩), .int .i64 me] 84) = w1 at HW HM HB ⊢
  have HN : Aside0 (¬ okS w.heap.size) := ⟨fun hk => by have := HL.out _ hk; omega⟩
  generalize hbb : w.heap.size = b at HB HN ⊢
  have HBB := Aside0.mk hbb
  clear hw1 hbb
  have HC := Aside0.mk (And.intro ((blk_cell HB.out 1).trans (rfl : _ = some (Value.pointer (some ⟨p, 0, none⟩)))) (And.intro ((blk_cell HB.out 2).trans (rfl : _ = some (Value.int .i64 me))) ((blk_cell HW.out.box 2).trans (rfl : _ = some (Value.pointer (some ⟨pE, 0, none⟩))))))
  refine start_ (n := 10) (S := fun w' => w'.cell? ⟨b, 1, none⟩ = some (.pointer (some ⟨p, 0, none⟩)) ∧ w'.cell? ⟨b, 2, none⟩ = some (.int .i64 me) ∧ w'.cell? ⟨p, 2, none⟩ = some (.pointer (some ⟨pE, 0, none⟩))) (ds := [8]) #[N_,N_,N_,N_,N_,N_,N_,N_,N_,N_] (by kernel_rfl) rfl rfl HC.out (fun hHeld => ?_); refine with_tabW tabOne1 bitsOne1 (fun HT_ HW_ => ?_)
  have HW := Aside0.mk (HW.out.step (w1 := w1.drew) (Nat.le_refl _) (fun _ _ _ => rfl))
  have HM := Aside0.mk HM.out.drew
  have HB := Aside0.mk (blk_drew HB.out)
  clear HC
  generalize World.drew _ = w1 at HW HM HB hHeld ⊢
  refine pure_ (i := 0) (N := (some 6)) (v := ?_) (a' := ?_) #[Y_,N_,N_,N_,N_,N_,N_,N_,N_,N_] rfl rfl (any_of HT_.out (by kernel_rfl)) (fun _ _ _ h => h) (Or.inl ⟨by rfl, ?_⟩) ?_ ?_
  rotate_left; · intro w'; go_simp; with_reducible rfl
  rotate_left; · simp only [Act.put, u1_, u2_, u3_, i64_w, i32_w]; rfl
  refine take_ (i := 1) (N := (some 7)) (v := ?_) (a' := ?_) #[Y_,Y_,N_,N_,N_,N_,N_,N_,N_,N_] rfl rfl (take_ofW HT_.out HW_.out (by kernel_rfl)) (fun _ _ _ h => h) (Or.inl ⟨by rfl, ?_⟩) hHeld ?_ ?_
  rotate_left; · rintro w' ⟨s0, s1, s2⟩; go_simp; with_reducible rfl
  rotate_left; · simp only [Act.put, u1_, u2_, u3_, i64_w, i32_w]; rfl
  refine pure_ (i := 2) (N := (some 8)) (v := ?_) (a' := ?_) #[Y_,Y_,Y_,N_,N_,N_,N_,N_,N_,N_] rfl rfl (any_of HT_.out (by kernel_rfl)) (fun _ _ _ h => h) (Or.inl ⟨by rfl, ?_⟩) ?_ ?_
  rotate_left; · intro w'; go_simp; with_reducible rfl
  rotate_left; · simp only [Act.put, u1_, u2_, u3_, i64_w, i32_w]; rfl
  refine pure_ (i := 3) (N := (some 9)) (v := ?_) (a' := ?_) #[Y_,Y_,Y_,Y_,N_,N_,N_,N_,N_,N_] rfl rfl (any_of HT_.out (by kernel_rfl)) (fun _ _ _ h => h) (Or.inl ⟨by rfl, ?_⟩) ?_ ?_
  rotate_left; · intro w'; go_simp; with_reducible rfl
  rotate_left; · simp only [Act.put, u1_, u2_, u3_, i64_w, i32_w]; rfl
  refine take_ (i := 4) (N := (some 10)) (v := ?_) (a' := ?_) #[Y_,Y_,Y_,Y_,Y_,N_,N_,N_,N_,N_] rfl rfl (take_ofW HT_.out HW_.out (by kernel_rfl)) (fun _ _ _ h => h) (Or.inl ⟨by rfl, ?_⟩) hHeld ?_ ?_
  rotate_left; · rintro w' ⟨s0, s1, s2⟩; go_simp; with_reducible rfl
  rotate_left; · simp only [Act.put, u1_, u2_, u3_, i64_w, i32_w]; rfl
  refine pure_ (i := 5) (N := (some 11)) (v := ?_) (a' := ?_) #[Y_,Y_,Y_,Y_,Y_,Y_,N_,N_,N_,N_] rfl rfl (any_of HT_.out (by kernel_rfl)) (fun _ _ _ h => h) (Or.inl ⟨by rfl, ?_⟩) ?_ ?_
  rotate_left; · intro w'; go_simp; with_reducible rfl
  rotate_left; · simp only [Act.put, u1_, u2_, u3_, i64_w, i32_w]; rfl
  refine take_ (i := 6) (N := (some 12)) (v := ?_) (a' := ?_) #[Y_,Y_,Y_,Y_,Y_,Y_,Y_,N_,N_,N_] rfl rfl (take_ofW HT_.out HW_.out (by kernel_rfl)) (fun _ _ _ h => h) (Or.inl ⟨by rfl, ?_⟩) hHeld ?_ ?_
  rotate_left; · rintro w' ⟨s0, s1, s2⟩; go_simp; with_reducible rfl
  rotate_left; · simp only [Act.put, u1_, u2_, u3_, i64_w, i32_w]; rfl
  refine pure_ (i := 7) (N := (some 13)) (v := ?_) (a' := ?_) #[Y_,Y_,Y_,Y_,Y_,Y_,Y_,Y_,N_,N_] rfl rfl (any_of HT_.out (by kernel_rfl)) (fun _ _ _ h => h) (Or.inl ⟨by rfl, ?_⟩) ?_ ?_
  rotate_left; · intro w'; go_simp; with_reducible rfl
  rotate_left; · simp only [Act.put, u1_, u2_, u3_, i64_w, i32_w]; rfl
  refine last_ (i := 8) (N := (some 14)) #[Y_,Y_,Y_,Y_,Y_,Y_,Y_,Y_,Y_,N_] rfl rfl (one_of HT_.out (by kernel_rfl)) (by decide) (fun K_ hK => ?_)
  refine call_ 94 #[.pointer (some ⟨pE, 0, none⟩), .int .i64 me, .int .i64 now] (by rfl) rfl ?hrun8 ?_
  (case hrun8 => first | (go_simp; done) | (go_simp; exact enters Tryz.func94 (by kernel_rfl) rfl _ _))
  refine (ep_ready me now _ HW.out.ep HG.out.ep).mono ?_
  rintro e w2 ⟨rfl, hE, hM⟩
  have hWM := HW.out.ep_moves hE hM
  have W2 := Aside0.mk hWM.1
  have M2 := Aside0.mk (HM.out.trans hWM.2)
  have B2 := Aside0.mk ((hWM.2.block b (blk_lt HB.out) HN.out).trans HB.out)
  clear hE hM hWM HW HM HB
  refine ⟨_, rfl, ?_⟩
  refine hK.out _ _ ?_
  clear hK K_
  refine norm_ (a' := ?_) ?_ ?_
  rotate_left; · show Act.put _ (some 14) _ = _; simp only [Act.put, u1_, u2_, u3_, i64_w, i32_w]; rfl
  refine pure_ (i := 9) (N := (some 5)) (v := ?_) (a' := ?_) #[Y_,Y_,Y_,Y_,Y_,Y_,Y_,Y_,Y_,Y_] rfl rfl (any_of HT_.out (by kernel_rfl)) (fun _ _ _ h => h) (Or.inl ⟨by rfl, ?_⟩) ?_ ?_
  rotate_left; · intro w'; go_simp; with_reducible rfl
  rotate_left; · simp only [Act.put, u1_, u2_, u3_, i64_w, i32_w]; rfl
  refine done_ (done_of HT_.out (by kernel_rfl)) ?_
  have G2 : Aside0 (Ws.Good { x with ep := (x.ep.ready me now).2 }) := ⟨⟨HG.out.ar, HG.out.ep.ready me now, HG.out.tb⟩⟩
  have c1 := (blk_cell B2.out 1).trans (rfl : _ = some (Value.pointer (some ⟨p, 0, none⟩)))
  have c0 := (blk_cell W2.out.box 0).trans (rfl : _ = some (Value.pointer (some ⟨pA, 0, none⟩)))
  by_cases h0 : (x.ep.ready me now).1 = 0
  · have e1 : x.one me now = (0, { x with ep := (x.ep.ready me now).2 }) := if_pos h0
    have e2 := HONE.out.symm.trans e1
    subst e2
    have hb : ((x.ep.ready me now).1 == 0) = true := by simp [h0]
    have hb2 : ((x.ep.ready me now).1 != 0) = false := by simp [h0]
    have H0 := Aside0.mk h0
    clear h0 e1 HONE
    go_wp2_with fail
    go_ret
    exact ⟨_, by rw [H0.out]; rfl, ⟨⟨_, _, _, _, _, _, W2.out⟩, G2.out⟩, M2.out⟩
  · have e1 : x.one me now = ((x.ep.ready me now).1, { x with ep := (x.ep.ready me now).2, ar := (x.ar.free_ (x.ep.ready me now).1).2 }) := if_neg h0
    have e2 := HONE.out.symm.trans e1
    subst e2
    have hb : ((x.ep.ready me now).1 == 0) = false := by simp [h0]
    have hb2 : ((x.ep.ready me now).1 != 0) = true := by simp [h0]
    clear h0 e1 HONE
    go_wp2_with (go_at_call 91; refine (free_calls (x.ep.ready me now).1 _ W2.out.ar (by have h1 := G2.out.ar.slots; have h2 := G2.out.ar.most; have h3 : (x.ar.slots.length : Int) ≤ x.ar.most := h1; have h4 : x.ar.most ≤ 65536 := h2; show x.ar.slots.length < 1000000; omega) G2.out.ar.free_few).mono ?_; rintro e w3 ⟨rfl, okA3, hA3, hM3⟩; have W3 := Aside0.mk (W2.out.ar_moves hA3 hM3).1; have M3 := Aside0.mk (M2.out.trans (W2.out.ar_moves hA3 hM3).2); clear hA3 hM3)
    go_ret
    exact ⟨_, rfl, ⟨⟨_, _, _, _, _, _, W3.out⟩, ⟨HG.out.ar.free_ _, G2.out.ep, HG.out.tb⟩⟩, M3.out⟩
set_option maxHeartbeats 2000000 in
set_option maxRecDepth 100000 in
theorem begin4_calls (p tb : Nat) (x : Ws) (me now : Int) (w : World) (okS : Nat → Prop) (bt bn : Nat) (h : shW p x okS w) (hb : w.heap[bt]? = some (taskO tb p me)) (hn : w.cell? ⟨bn, 0, none⟩ = some (.int .i64 now)) :
    Calls Tryz.prog 70 #[.pointer (some ⟨bt, 0, none⟩), .pointer (some ⟨bn, 0, none⟩)] w (ShPost p (.int .i64 (x.one me now).1) (x.one me now).2 okS w) := by
  have H := Aside0.mk (one_calls p tb x me now w okS h)
  unfold taskV at H
  have c0 := (blk_cell hb 0).trans (rfl : _ = some (Value.pointer (some ⟨tb, 0, none⟩)))
  have c1 := (blk_cell hb 1).trans (rfl : _ = some (Value.pointer (some ⟨p, 0, none⟩)))
  have c2 := (blk_cell hb 2).trans (rfl : _ = some (Value.int .i64 me))
  clear h hb
  go_enter Tryz.func70, Tryz.ntmps70
  go_wp2_with (go_at_call 71; refine H.out.mono ?_; rintro e w2 ⟨okS1, rfl, h1, h2⟩; have H1 := Aside0.mk h1; have H2 := Aside0.mk h2; clear h1 h2)
  go_ret
  exact ⟨okS1, rfl, H1.out, H2.out⟩
end Go.Proofs.YthlmgbdknjilpaaGreat.Tower
namespace Go.Proofs.YthlmgbdknjilpaaGreat.Tower
open Go Go.RowKit Go.Proofs.YthlmgbdknjilpaaGreatW.PrintWords Go.Proofs.YthlmgbdknjilpaaGreatW.PrintLast Go.Proofs.YthlmgbdknjilpaaGreatW.PrintMore Go.Proofs.YthlmgbdknjilpaaGreat.Own
set_option linter.unusedVariables false
set_option linter.unusedSimpArgs false
def prRet {X α : Type} (a : α) : Pr X α := fun s => some (.ret a, s)
def sayT (me n : Int) : Pr Ws Int := doT (fun x => (0, { x with ep := x.ep.say me n }))
def saidT (k : Int) : Pr Ws Int := doT (fun x => (x.ep.saidOf k, x))
def swapT (n : Int) : Pr Ws Bool := askT (fun x => ((x.ep.swap n).1, { x with ep := (x.ep.swap n).2 }))
def oneT (me n : Int) : Pr Ws Int := doT (fun x => x.one me n)
def allT (n : Int) : Nat → Nat → Pr Ws Bool
  | 0, _ => prRet true
  | m + 1, k => prBind (saidT k) fun q => if q ≠ -1 ∧ q ≠ n then prRet false else allT n m (k + 1)
def freeT (me n : Int) : Nat → Pr Ws Unit
  | 0 => fun _ => none
  | f + 1 => prBind (oneT me n) fun r => if r = 0 then prRet () else freeT me n f
def beg3 (me : Int) (f : Nat) : Pr Ws Unit := prBind nowT fun n => freeT me n f
def beg2 (me n : Int) (f : Nat) (all : Bool) : Pr Ws Unit := if all then prBind (swapT n) fun _ => beg3 me f else beg3 me f
def beg1 (me n : Int) (f : Nat) : Pr Ws Unit := prBind (sayT me n) fun _ => prBind (fun s => allT n s.sh.ep.said.length 0 s) (beg2 me n f)
def beginT (me : Int) (f : Nat) : Pr Ws Unit := prBind nowT fun n => beg1 me n f
def endT (me : Int) : Pr Ws Unit := prBind (sayT me (-1)) fun _ => prRet ()
def boxI (n : Int) : Obj := .cells #[.int .i64 n] 2 (0, 0)
def boxK (n : Int) : Obj := .cells #[.int .i64 n] 3 (0, 0)
section
variable {p tb : Nat} {work : Value} {me : Int} {bt bn bk : Nat} {n : Int} {ok okc : Nat → Prop} {w wc : World} {s t : TS Ws}
theorem TaskAt.say_ (h : TaskAt p tb work me bt ok w okc s wc) (hn : Mine okc wc bn (boxI n)) {o : Out Int} (hd : sayT me n s = some (o, t)) :
    Calls Tryz.prog 61 #[.pointer (some ⟨tb, 0, none⟩), .func (.func 62) #[] #[.pointer (some ⟨bt, 0, none⟩), .pointer (some ⟨bn, 0, none⟩)]] wc (DoPost intV p tb work me bt ok w okc o t wc) :=
  h.do_ _ 62 _ (enters Tryz.func62 (by kernel_rfl) rfl _) (fun w1 okS hm hk hs => begin1_calls p s.sh me n w1 okS bt bn hs ((blk_cell (h.box.moves hm).1 1).trans rfl) ((blk_cell (h.box.moves hm).1 2).trans rfl) ((blk_cell (hn.moves hm).1 0).trans rfl)) hd
theorem TaskAt.said_ (h : TaskAt p tb work me bt ok w okc s wc) (hn : Mine okc wc bk (boxK n)) {o : Out Int} (hd : saidT n s = some (o, t)) :
    Calls Tryz.prog 61 #[.pointer (some ⟨tb, 0, none⟩), .func (.func 65) #[] #[.pointer (some ⟨bt, 0, none⟩), .pointer (some ⟨bk, 0, none⟩)]] wc (DoPost intV p tb work me bt ok w okc o t wc) :=
  h.do_ _ 65 _ (enters Tryz.func65 (by kernel_rfl) rfl _) (fun w1 okS hm hk hs => begin2_calls p s.sh n w1 okS bt bk hs ((blk_cell (h.box.moves hm).1 1).trans rfl) ((blk_cell (hn.moves hm).1 0).trans rfl)) hd
theorem TaskAt.swap_ (h : TaskAt p tb work me bt ok w okc s wc) (hn : Mine okc wc bn (boxI n)) {o : Out Bool} (hd : swapT n s = some (o, t)) :
    Calls Tryz.prog 67 #[.pointer (some ⟨tb, 0, none⟩), .func (.func 68) #[] #[.pointer (some ⟨bt, 0, none⟩), .pointer (some ⟨bn, 0, none⟩)]] wc (DoPost boolV p tb work me bt ok w okc o t wc) :=
  h.ask_ _ 68 _ (enters Tryz.func68 (by kernel_rfl) rfl _) (fun w1 okS hm hk hs => begin3_calls p s.sh n w1 okS bt bn hs ((blk_cell (h.box.moves hm).1 1).trans rfl) ((blk_cell (hn.moves hm).1 0).trans rfl)) hd
theorem TaskAt.one_ (h : TaskAt p tb work me bt ok w okc s wc) (hn : Mine okc wc bn (boxI n)) {o : Out Int} (hd : oneT me n s = some (o, t)) :
    Calls Tryz.prog 61 #[.pointer (some ⟨tb, 0, none⟩), .func (.func 70) #[] #[.pointer (some ⟨bt, 0, none⟩), .pointer (some ⟨bn, 0, none⟩)]] wc (DoPost intV p tb work me bt ok w okc o t wc) :=
  h.do_ _ 70 _ (enters Tryz.func70 (by kernel_rfl) rfl _) (fun w1 okS hm hk hs => (begin4_calls p tb s.sh me n w1 okS bt bn hs (h.box.moves hm).1 ((blk_cell (hn.moves hm).1 0).trans rfl)).mono (fun _ _ h => h.out)) hd
theorem TaskAt.hush_ (h : TaskAt p tb work me bt ok w okc s wc) {o : Out Int} (hd : sayT me (-1) s = some (o, t)) :
    Calls Tryz.prog 61 #[.pointer (some ⟨tb, 0, none⟩), .func (.func 80) #[] #[.pointer (some ⟨bt, 0, none⟩)]] wc (DoPost intV p tb work me bt ok w okc o t wc) :=
  h.do_ _ 80 _ (enters Tryz.func80 (by kernel_rfl) rfl _) (fun w1 okS hm hk hs => end1_calls p s.sh me w1 okS bt hs ((blk_cell (h.box.moves hm).1 1).trans rfl) ((blk_cell (h.box.moves hm).1 2).trans rfl)) hd
theorem TaskAt.len_ (h : TaskAt p tb work me bt ok w okc s wc) {pE : Nat} (hp : wc.cell? ⟨p, 2, none⟩ = some (.pointer (some ⟨pE, 0, none⟩))) :
    Calls Tryz.prog 64 #[.pointer (some ⟨pE, 0, none⟩)] wc fun e w1 => e = .returned (.int .i64 s.sh.ep.said.length) ∧ w1 = wc := by
  obtain ⟨_, _, ⟨⟨okA, okR, okE, pA, pR, pE1, hw⟩, hg⟩, _⟩ := h.run.direct
  have h1 := (blk_cell hw.box 2).symm.trans hp
  injection h1 with h1
  injection h1 with h1
  injection h1 with h1
  injection h1 with h1
  subst h1
  exact ep_len wc hw.ep
theorem TaskAt.few (h : TaskAt p tb work me bt ok w okc s wc) : s.sh.ep.said.length ≤ 64 := by
  obtain ⟨_, _, ⟨_, hg⟩, _⟩ := h.run.direct
  exact hg.ep.few
end
end Go.Proofs.YthlmgbdknjilpaaGreat.Tower
