/- Words and contracts that the claim stands on, part 3 of 5. -/
import Derived.Test.YtelmidpepojbdaaGreatProg
import Derived.Test.YtelmidpepojbdaaGreatGMendRight0
import Derived.Test.YtelmidpepojbdaaGreatGMendRight1
import Derived.Deep.LoopGhost
import Derived.OwnWalk
import Derived.Deep.Cut
import Derived.Deep.CutRange
import Derived.Deep.CutBlock
import Derived.Laws.StructEq
import Derived.Below
import Derived.Deep.Draws
import Derived.Deep.AppendLies
import Derived.Maps.AppendAt
import Derived.Laws.BytesArg
import Derived.Laws.MakeOwn
import Derived.Laws.OwnMore
import Derived.Deep.OwnRows
import Derived.Tactics
import Derived.Lib.ConvBytes
import Derived.Laws.Slices
import Derived.WalkKit
import Derived.KernelRfl
import Derived.RowKit3
import Derived.Deep.QuietTactic
import Derived.BigQuiet
import Derived.WideLaws
import Derived.Deep.DeepCutAuto
import Derived.Deep.RegionHeld3
import Derived.Laws.Rows
import Derived.Lib.AppendStr
import Derived.ArgAppend
import Derived.Laws.IdiomCopy
import Derived.OrdersHeld
import Derived.Laws.BitsLemmas
import Derived.RowKit
namespace Go.Proofs.YtelmidpepojbdaaGreat.Tower
open Go Go.RowKit Go.Proofs.YtelmidpepojbdaaGreatW.PrintWords Go.Proofs.YtelmidpepojbdaaGreatW.PrintLast Go.Proofs.YtelmidpepojbdaaGreatW.PrintMore Go.Proofs.YtelmidpepojbdaaGreat.Own
set_option linter.unusedVariables false
set_option linter.unusedSimpArgs false
structure Ws where
  ar : Ar
  tb : Tb
  ep : Ep
  a : Int
  b : Int
  entry : Int
structure WorldAt (ok okA okR okE : Nat → Prop) (p pA pR pE : Nat) (x : Ws) (w : World) : Prop where
  ok : ∀ k, ok k ↔ k = p ∨ okA k ∨ okR k ∨ okE k
  nA : ¬ okA p
  nR : ¬ okR p
  nE : ¬ okE p
  AR : ∀ k, okA k → ¬ okR k
  AE : ∀ k, okA k → ¬ okE k
  RE : ∀ k, okR k → ¬ okE k
  box : w.heap[p]? = some (.cells #[.pointer (some ⟨pA, 0, none⟩), .pointer (some ⟨pR, 0, none⟩), .pointer (some ⟨pE, 0, none⟩), .int .i64 x.a, .int .i64 x.b, .int .i64 x.entry] 47 (0, 0))
  ar : IsArena okA pA x.ar w
  tb : IsTable okR pR x.tb w
  ep : IsEpochs okE pE x.ep w
def IsWorld (p : Nat) (x : Ws) (ok : Nat → Prop) (w : World) : Prop := ∃ okA okR okE pA pR pE, WorldAt ok okA okR okE p pA pR pE x w
section
variable {ok okA okR okE : Nat → Prop} {p pA pR pE : Nat} {x : Ws} {w w1 : World}
theorem WorldAt.lt (h : WorldAt ok okA okR okE p pA pR pE x w) : ∀ k, ok k → k < w.heap.size := fun k hk => by
  rcases (h.ok k).1 hk with rfl | hk | hk | hk
  · exact blk_lt h.box
  · exact h.ar.lt k hk
  · exact h.tb.lt k hk
  · exact h.ep.lt k hk
theorem WorldAt.step (h : WorldAt ok okA okR okE p pA pR pE x w) (hs : w.heap.size ≤ w1.heap.size) (hm : ∀ k, ok k → k < w.heap.size → w1.heap[k]? = w.heap[k]?) : WorldAt ok okA okR okE p pA pR pE x w1 :=
  { h with
    box := (hm p ((h.ok p).2 (.inl rfl)) (blk_lt h.box)).trans h.box
    ar := h.ar.step hs (fun k hk => hm k ((h.ok k).2 (.inr (.inl hk))))
    tb := h.tb.step hs (fun k hk => hm k ((h.ok k).2 (.inr (.inr (.inl hk)))))
    ep := h.ep.step hs (fun k hk => hm k ((h.ok k).2 (.inr (.inr (.inr hk))))) }
theorem WorldAt.ar_moves (h : WorldAt ok okA okR okE p pA pR pE x w) {okA1 : Nat → Prop} {a1 : Ar} (ha : IsArena okA1 pA a1 w1) (hm : Moves okA okA1 w w1) :
    WorldAt (fun k => k = p ∨ okA1 k ∨ okR k ∨ okE k) okA1 okR okE p pA pR pE { x with ar := a1 } w1 ∧ Moves ok (fun k => k = p ∨ okA1 k ∨ okR k ∨ okE k) w w1 := by
  have hf : ∀ k, k < w.heap.size → ¬ okA k → ¬ okA1 k := fun k hk hn h1 => (hm.fresh k h1).elim hn (fun h2 => by omega)
  refine ⟨{
    ok := fun k => Iff.rfl
    nA := hf p (blk_lt h.box) h.nA
    nR := h.nR
    nE := h.nE
    AR := fun k h1 h2 => hf k (h.tb.lt k h2) (fun h3 => h.AR k h3 h2) h1
    AE := fun k h1 h2 => hf k (h.ep.lt k h2) (fun h3 => h.AE k h3 h2) h1
    RE := h.RE
    box := (hm.block p (blk_lt h.box) h.nA).trans h.box
    ar := ha
    tb := h.tb.step hm.size (fun k hk hlt => hm.block k hlt (fun h3 => h.AR k h3 hk))
    ep := h.ep.step hm.size (fun k hk hlt => hm.block k hlt (fun h3 => h.AE k h3 hk)) }, ?_⟩
  exact ⟨hm.os, hm.tape, hm.output, hm.size, fun k hk hn => hm.block k hk (fun h3 => hn ((h.ok k).2 (.inr (.inl h3)))), fun k hk => by
    rcases hk with rfl | hk | hk | hk
    · exact .inl ((h.ok _).2 (.inl rfl))
    · exact (hm.fresh k hk).imp (fun h3 => (h.ok k).2 (.inr (.inl h3))) id
    · exact .inl ((h.ok k).2 (.inr (.inr (.inl hk))))
    · exact .inl ((h.ok k).2 (.inr (.inr (.inr hk))))⟩
theorem WorldAt.ep_moves (h : WorldAt ok okA okR okE p pA pR pE x w) {okE1 : Nat → Prop} {t1 : Ep} (ha : IsEpochs okE1 pE t1 w1) (hm : Moves okE okE1 w w1) :
    WorldAt (fun k => k = p ∨ okA k ∨ okR k ∨ okE1 k) okA okR okE1 p pA pR pE { x with ep := t1 } w1 ∧ Moves ok (fun k => k = p ∨ okA k ∨ okR k ∨ okE1 k) w w1 := by
  have hf : ∀ k, k < w.heap.size → ¬ okE k → ¬ okE1 k := fun k hk hn h1 => (hm.fresh k h1).elim hn (fun h2 => by omega)
  refine ⟨{
    ok := fun k => Iff.rfl
    nA := h.nA
    nR := h.nR
    nE := hf p (blk_lt h.box) h.nE
    AR := h.AR
    AE := fun k h1 h2 => hf k (h.ar.lt k h1) (fun h3 => h.AE k h1 h3) h2
    RE := fun k h1 h2 => hf k (h.tb.lt k h1) (fun h3 => h.RE k h1 h3) h2
    box := (hm.block p (blk_lt h.box) h.nE).trans h.box
    ar := h.ar.step hm.size (fun k hk hlt => hm.block k hlt (fun h3 => h.AE k hk h3))
    tb := h.tb.step hm.size (fun k hk hlt => hm.block k hlt (fun h3 => h.RE k hk h3))
    ep := ha }, ?_⟩
  exact ⟨hm.os, hm.tape, hm.output, hm.size, fun k hk hn => hm.block k hk (fun h3 => hn ((h.ok k).2 (.inr (.inr (.inr h3))))), fun k hk => by
    rcases hk with rfl | hk | hk | hk
    · exact .inl ((h.ok _).2 (.inl rfl))
    · exact .inl ((h.ok k).2 (.inr (.inl hk)))
    · exact .inl ((h.ok k).2 (.inr (.inr (.inl hk))))
    · exact (hm.fresh k hk).imp (fun h3 => (h.ok k).2 (.inr (.inr (.inr h3)))) id⟩
end
theorem worldShared (p : Nat) : Shared (fun (x : Ws) ok w => IsWorld p x ok w) where
  step := fun h hs hm => by
    obtain ⟨okA, okR, okE, pA, pR, pE, h⟩ := h
    exact ⟨okA, okR, okE, pA, pR, pE, h.step hs hm⟩
  lt := fun h => by
    obtain ⟨okA, okR, okE, pA, pR, pE, h⟩ := h
    exact h.lt
def ndE (r : Int) : Nd := ⟨true, false, [], [], [r]⟩
def ws0 (a b : Int) (threads : Nat) (nodes records : Int) : Option Ws :=
  match (ar0 nodes).alloc nd0 with
  | none => none
  | some ((r, _), a1) => match a1.alloc (ndE r) with
    | none => none
    | some ((e, _), a2) => some ⟨a2, ⟨[], records⟩, ⟨0, List.replicate threads (-1), List.replicate threads []⟩, a, b, e⟩
structure MadeWorld (x : Ws) (w : World) (e : Ending) (w1 : World) : Prop where
  out : ∃ ok p, e = .returned (.tuple #[.pointer (some ⟨p, 0, none⟩), .int .i64 0]) ∧ IsWorld p x ok w1 ∧ (∀ k, ok k → w.heap.size ≤ k) ∧ Below w.heap.size w w1
theorem NdF.nil (D : Nat → Prop) (w : World) : NdF D nd0 (.agg #[.bool false, .bool false, .slice none 0 0, .slice none 0 0, .slice none 0 0]) w := ⟨none, 0, none, 0, none, 0, rfl, Nat.le_refl _, Nat.le_refl _, Nat.le_refl _, Kd.F_nil _ _ _, Kd.F_nil _ _ _, Kd.F_nil _ _ _⟩
theorem moves_outer {ok ok1 : Nat → Prop} {w0 w w1 : World} (h : Moves ok ok1 w w1) (hb : Below w0.heap.size w0 w) (hn : ∀ k, ok k → w0.heap.size ≤ k) : Below w0.heap.size w0 w1 :=
  ⟨h.os.trans hb.os, h.tape.trans hb.tape, h.output.trans hb.output, Nat.le_trans hb.size h.size, fun k hk => (h.block k (Nat.lt_of_lt_of_le hk hb.size) (fun h1 => by have := hn k h1; omega)).trans (hb.block k hk)⟩
theorem lit_R {k : IntKind} (e : Nat) (w : World) (base : Nat) (xs : List Int) (hb : base ≤ w.heap.size) (hl : xs.length < 1000000) : (Kd.int k).R e (w.alloc (.cells (xs.map fun n => Value.int k n).toArray e)) base (fun q => q = w.heap.size) (.slice (some ⟨w.heap.size, 0, none⟩) xs.length xs.length) xs := by
  refine Kd.R_of_own ?_ (fun q hq => ?_)
  · have := World.ownsRow_lit (base := base) (e := e) (size := 1) w (xs.map fun n => Value.int k n).toArray xs.length hb (by simp [maxLen]; omega) (by simp)
    simpa [encs] using this
  · have : w.heap.size = q := by simpa [Value.ownBlock] using hq
    omega
theorem lit_F {k : IntKind} (e : Nat) (w : World) (xs : List Int) (hl : xs.length < 1000000) : (Kd.int k).F (w.alloc (.cells (xs.map fun n => Value.int k n).toArray e)) (fun q => q = w.heap.size) (some ⟨w.heap.size, 0, none⟩) xs.length xs := Kd.R_F (lit_R e w 0 xs (Nat.zero_le _) hl)
theorem WorldAt.entry_set {ok okA okR okE : Nat → Prop} {p pA pR pE : Nat} {x : Ws} {w : World} (h : WorldAt ok okA okR okE p pA pR pE x w) (r : Int) : WorldAt ok okA okR okE p pA pR pE { x with entry := r } (w.setCell ⟨p, 5, none⟩ (.int .i64 r)) :=
  { h with
    box := blk_set h.box 5 _
    ar := h.ar.step (by simp [World.setCell]) (fun k hk _ => Below.heap_setCell w ⟨p, 5, none⟩ _ k (fun e => h.nA ((show k = p from e) ▸ hk)))
    tb := h.tb.step (by simp [World.setCell]) (fun k hk _ => Below.heap_setCell w ⟨p, 5, none⟩ _ k (fun e => h.nR ((show k = p from e) ▸ hk)))
    ep := h.ep.step (by simp [World.setCell]) (fun k hk _ => Below.heap_setCell w ⟨p, 5, none⟩ _ k (fun e => h.nE ((show k = p from e) ▸ hk))) }
set_option maxHeartbeats 4000000 in
set_option maxRecDepth 100000 in
theorem world_new (a b : Int) (threads : Nat) (nodes records : Int) (w : World) (ha : 2 ≤ a) (ha1 : a ≤ 32) (hb : 2 * a - 1 ≤ b) (hb1 : b ≤ 32) (ht : 1 ≤ threads) (ht1 : threads ≤ 64) (hn : 2 ≤ nodes) (hn1 : nodes ≤ 65536) (hr : 0 ≤ records) (hr1 : records ≤ 65536) (x : Ws) (hx : ws0 a b threads nodes records = some x) :
    Calls Tryz.prog 68 #[.int .i64 a, .int .i64 b, .int .i64 threads, .int .i64 nodes, .int .i64 records] w (MadeWorld x w) := by
  have d1 : decide (a < 2) = false := decide_eq_false (by omega)
  have d2 : decide (a > 32) = false := decide_eq_false (by omega)
  have d3 : decide (b < 2 * a - 1) = false := decide_eq_false (by omega)
  have d4 : decide (b > 32) = false := decide_eq_false (by omega)
  have d5 : decide ((threads : Int) < 1) = false := decide_eq_false (by omega)
  have d6 : decide ((threads : Int) > 64) = false := decide_eq_false (by omega)
  have d7 : decide (nodes < 2) = false := decide_eq_false (by omega)
  have d8 : decide (nodes > 65536) = false := decide_eq_false (by omega)
  have d9 : decide (records < 0) = false := decide_eq_false (by omega)
  have d10 : decide (records > 65536) = false := decide_eq_false (by omega)
  have e2 : decide (32 < a) = false := d2
  have e4 : decide (32 < b) = false := d4
  have e6 : decide (64 < (threads : Int)) = false := d6
  have e8 : decide (65536 < nodes) = false := d8
  have e10 : decide (65536 < records) = false := d10
  have HX := Aside0.mk hx
  clear hx
  go_enter Tryz.func68, Tryz.ntmps68
  go_upto_region 3 with fail
  clear d1 d2 d3 d4 d5 d6 d7 d8 d9 d10 e2 e4 e6 e8 e10
  go_upto_region 4 with (first
    | (go_at_call 106; refine (arena_new nodes _ (by omega) hn1).mono ?_; rintro e w1 ⟨okA, pA, rfl, hA, hAf, hAb⟩; have A0 := Aside0.mk hA; have A1 := Aside0.mk hAf; have A2 := Aside0.mk hAb; clear hA hAf hAb)
    | (go_at_call 107; refine (record_new records _ hr hr1).mono ?_; rintro e w2 ⟨okR, pR, rfl, hR, hRf, hRb⟩; have R0 := Aside0.mk hR; have R1 := Aside0.mk hRf; have R2 := Aside0.mk hRb; clear hR hRf hRb)
    | (go_at_call 108; refine (epoch_new threads _ ht1).mono ?_; rintro e w3 ⟨okE, pE, rfl, hE, hEf, hEb⟩; have E0 := Aside0.mk hE; have E1 := Aside0.mk hEf; have E2 := Aside0.mk hEb; clear hE hEf hEb))
  have hA3 : IsArena okA pA (ar0 nodes) w3 := (A0.out.step R2.out.size (fun k _ hlt => R2.out.block k hlt)).step E2.out.size (fun k _ hlt => E2.out.block k hlt)
  have hR3 : IsTable okR pR ⟨[], records⟩ w3 := R0.out.step E2.out.size (fun k _ hlt => E2.out.block k hlt)
  have hB3 : Below w.heap.size w w3 := below_then (below_then A2.out A2.out.size R2.out) (below_then A2.out A2.out.size R2.out).size E2.out
  have hAl : ∀ k, okA k → w.heap.size ≤ k ∧ k < w1.heap.size := fun k hk => ⟨A1.out k hk, A0.out.lt k hk⟩
  have hRl : ∀ k, okR k → w1.heap.size ≤ k ∧ k < w2.heap.size := fun k hk => ⟨R1.out k hk, R0.out.lt k hk⟩
  have hEl : ∀ k, okE k → w2.heap.size ≤ k ∧ k < w3.heap.size := fun k hk => ⟨E1.out k hk, E0.out.lt k hk⟩
  have s1 := A2.out.size
  have s2 := R2.out.size
  have s3 := E2.out.size
  have hW3 : ∀ o : Obj, Below w.heap.size w (w3.alloc o) := fun o => below_then hB3 hB3.size (below_alloc (Below.refl _ _) o)
  have W4 : Aside0 (WorldAt (fun k => k = w3.heap.size ∨ okA k ∨ okR k ∨ okE k) okA okR okE w3.heap.size pA pR pE ⟨ar0 nodes, ⟨[], records⟩, ⟨0, List.replicate threads (-1), List.replicate threads []⟩, a, b, 0⟩ (w3.alloc (.cells #[.pointer (some ⟨pA, 0, none⟩), .pointer (some ⟨pR, 0, none⟩), .pointer (some ⟨pE, 0, none⟩), .int .i64 a, .int .i64 b, .int .i64 0] 47))) := ⟨{
    ok := fun k => Iff.rfl
    nA := fun h => by have := hAl _ h; omega
    nR := fun h => by have := hRl _ h; omega
    nE := fun h => by have := hEl _ h; omega
    AR := fun k h1 h2 => by have := hAl k h1; have := hRl k h2; omega
    AE := fun k h1 h2 => by have := hAl k h1; have := hEl k h2; omega
    RE := fun k h1 h2 => by have := hRl k h1; have := hEl k h2; omega
    box := blk_new w3 _
    ar := hA3.step (by simp) (fun k _ hlt => Below.heap_alloc _ _ _ hlt)
    tb := hR3.step (by simp) (fun k _ hlt => Below.heap_alloc _ _ _ hlt)
    ep := E0.out.step (by simp) (fun k _ hlt => Below.heap_alloc _ _ _ hlt) }⟩
  have F4 : Aside0 (∀ k, (k = w3.heap.size ∨ okA k ∨ okR k ∨ okE k) → w.heap.size ≤ k) := ⟨fun k hk => by
    rcases hk with rfl | hk | hk | hk
    · omega
    · exact (hAl k hk).1
    · have := (hRl k hk).1; omega
    · have := (hEl k hk).1; omega⟩
  have B4 := Aside0.mk (hW3 (.cells #[.pointer (some ⟨pA, 0, none⟩), .pointer (some ⟨pR, 0, none⟩), .pointer (some ⟨pE, 0, none⟩), .int .i64 a, .int .i64 b, .int .i64 0] 47))
  clear hA3 hR3 hB3 hAl hRl hEl s1 s2 s3 hW3 A0 A1 A2 R0 R1 R2 E0 E1 E2
  generalize w3.alloc (.cells #[.pointer (some ⟨pA, 0, none⟩), .pointer (some ⟨pR, 0, none⟩), .pointer (some ⟨pE, 0, none⟩), .int .i64 a, .int .i64 b, .int .i64 0] 47) = w4 at W4 B4 ⊢
  generalize w3.heap.size = p at W4 F4 ⊢
  generalize hok4 : (fun k => k = p ∨ okA k ∨ okR k ∨ okE k) = ok4 at W4
  have F4 : Aside0 (∀ k, ok4 k → w.heap.size ≤ k) := ⟨by rw [← hok4]; exact F4.out⟩
  clear hok4
  have hx := HX.out
  unfold ws0 at hx
  cases h1 : (ar0 nodes).alloc nd0 with
  | none => rw [h1] at hx; cases hx
  | some q1 =>
    obtain ⟨⟨r, rb⟩, a1⟩ := q1
    rw [h1] at hx
    simp only at hx
    cases h2 : a1.alloc (ndE r) with
    | none => rw [h2] at hx; cases hx
    | some q2 =>
      obtain ⟨⟨en, eb⟩, a2⟩ := q2
      rw [h2] at hx
      simp only at hx
      injection hx with hx
      have H1 := Aside0.mk h1
      have H2 := Aside0.mk h2
      have HX2 := Aside0.mk hx
      clear hx h1 h2 HX
      have c0 := (blk_cell W4.out.box 0).trans (rfl : _ = some (Value.pointer (some ⟨pA, 0, none⟩)))
      go_upto_region 5 with (go_at_call 109; refine (alloc_calls nd0 _ _ W4.out.ar (by simp [ar0]) (NdF.nil _ _) ⟨by simp [nd0], by simp [nd0], by simp [nd0]⟩ H1.out).mono ?_; rintro e w5 ⟨rfl, okA1, hA5, hM5⟩; have A5 := Aside0.mk hA5; have M5 := Aside0.mk hM5; clear hA5 hM5)
      clear c0
      have W5 := Aside0.mk (W4.out.ar_moves A5.out M5.out).1
      have N5 := Aside0.mk (W4.out.ar_moves A5.out M5.out).2
      have B5 := Aside0.mk (moves_outer N5.out B4.out F4.out)
      have F5 : Aside0 (∀ k, (k = p ∨ okA1 k ∨ okR k ∨ okE k) → w.heap.size ≤ k) := ⟨fun k hk => (N5.out.fresh k hk).elim (F4.out k) (fun h => Nat.le_trans B4.out.size h)⟩
      clear A5 M5 N5 W4 B4 F4
      have c0 := (blk_cell W5.out.box 0).trans (rfl : _ = some (Value.pointer (some ⟨pA, 0, none⟩)))
      have W6 := Aside0.mk (W5.out.step (w1 := w5.alloc (.cells #[.int .i64 r] 45)) (by simp) (fun k _ hlt => Below.heap_alloc _ _ _ hlt))
      have B6 := Aside0.mk (below_then B5.out B5.out.size (below_alloc (Below.refl _ _) (.cells #[.int .i64 r] 45)))
      have FF := Aside0.mk (lit_F (k := .i64) 45 w5 [r] (by simp))
      have NN : Aside0 (¬ okA1 w5.heap.size) := ⟨fun h => by have := W5.out.ar.lt _ h; omega⟩
      have L5 : Aside0 (a1.slots.length < 999999) := ⟨by
        have := H1.out
        unfold Ar.alloc at this
        rw [if_neg (by show ¬ nodes ≤ 0; omega)] at this
        simp [Ar.take, ar0] at this
        obtain ⟨_, rfl⟩ := this
        simp [Ar.put]⟩
      go_upto_region 6 with (go_at_call 109; refine (alloc_calls (ndE r) _ _ W6.out.ar L5.out ⟨none, 0, none, 0, _, 1, rfl, Nat.le_refl _, Nat.le_refl _, Nat.le_refl _, Kd.F_nil _ _ _, Kd.F_nil _ _ _, Kd.F_mono FF.out (fun k hk h => NN.out (hk ▸ h))⟩ ⟨by simp [ndE], by simp [ndE], by simp [ndE]⟩ H2.out).mono ?_; rintro e w7 ⟨rfl, okA2, hA7, hM7⟩; have A7 := Aside0.mk hA7; have M7 := Aside0.mk hM7; have c0 := (blk_cell (W6.out.ar_moves hA7 hM7).1.box 0).trans (rfl : _ = some (Value.pointer (some ⟨pA, 0, none⟩))); have c5 := (blk_cell (W6.out.ar_moves hA7 hM7).1.box 5).trans (rfl : _ = some (Value.int .i64 0)); have z5 := blk_frozen (W6.out.ar_moves hA7 hM7).1.box 5; clear hA7 hM7)
      have W7 := Aside0.mk ((W6.out.ar_moves A7.out M7.out).1.entry_set en)
      have N7 := Aside0.mk (W6.out.ar_moves A7.out M7.out).2
      have B7 := Aside0.mk (moves_outer N7.out B6.out F5.out)
      have F7 : Aside0 (∀ k, (k = p ∨ okA2 k ∨ okR k ∨ okE k) → w.heap.size ≤ k) := ⟨fun k hk => (N7.out.fresh k hk).elim (F5.out k) (fun h => Nat.le_trans B6.out.size h)⟩
      have B8 : Aside0 (Below w.heap.size w (w7.setCell ⟨p, 5, none⟩ (.int .i64 en))) := ⟨B7.out.setCell (show w.heap.size ≤ p from F5.out p (.inl rfl)) _⟩
      clear A7 M7 N7 W6 B6 F5 B7 c0 c5 z5
      go_wp2_with fail
      go_ret2
      exact ⟨⟨_, p, rfl, by rw [← HX2.out]; exact ⟨_, _, _, _, _, _, W7.out⟩, F7.out, B8.out⟩⟩
end Go.Proofs.YtelmidpepojbdaaGreat.Tower
namespace Go.Proofs.YtelmidpepojbdaaGreat.Tower
open Go Go.RowKit Go.Proofs.YtelmidpepojbdaaGreatW.PrintWords Go.Proofs.YtelmidpepojbdaaGreatW.PrintLast Go.Proofs.YtelmidpepojbdaaGreatW.PrintMore Go.Proofs.YtelmidpepojbdaaGreat.Own
set_option linter.unusedVariables false
set_option linter.unusedSimpArgs false
set_option maxHeartbeats 2000000 in
theorem cmp_nan (a : Int) (w : World) : Calls Tryz.prog 252 #[.int .i64 a] w fun e w1 => e = .returned (.bool false) ∧ w1 = w := by
  have h : (a != a) = false := by simp
  have h2 : (a == a) = true := by simp
  go_enter Tryz.func252, Tryz.ntmps252
  go_wp2
  go_ret
  exact ⟨rfl, rfl⟩
set_option maxHeartbeats 2000000 in
theorem slices_nan (a : Int) (w : World) : Calls Tryz.prog 230 #[.int .i64 a] w fun e w1 => e = .returned (.bool false) ∧ w1 = w := by
  have h : (a != a) = false := by simp
  have h2 : (a == a) = true := by simp
  go_enter Tryz.func230, Tryz.ntmps230
  go_wp2
  go_ret
  exact ⟨rfl, rfl⟩
set_option maxHeartbeats 2000000 in
theorem cmp_less (a b : Int) (w : World) : Calls Tryz.prog 229 #[.int .i64 a, .int .i64 b] w fun e w1 => e = .returned (.bool (decide (a < b))) ∧ w1 = w := by
  cases hd : decide (a < b)
  all_goals
    go_enter Tryz.func229, Tryz.ntmps229
    go_wp2_with (go_at_call 252; refine (cmp_nan _ _).mono ?_; rintro e w1 ⟨rfl, rfl⟩)
    go_ret
    exact ⟨rfl, rfl⟩
def bsF (xs : List Int) (k : Int) : Nat → Nat → Nat → Nat
  | 0, i, _ => i
  | f + 1, i, j => if i < j then (if xs.getD ((i + j) / 2) 0 < k then bsF xs k f ((i + j) / 2 + 1) j else bsF xs k f i ((i + j) / 2)) else i
theorem bsF_more (xs : List Int) (k : Int) : ∀ (f g i j : Nat), j - i ≤ f → j - i ≤ g → bsF xs k f i j = bsF xs k g i j
  | 0, 0, _, _, _, _ => rfl
  | 0, g + 1, i, j, h, _ => by
    unfold bsF
    rw [if_neg (by omega)]
  | f + 1, 0, i, j, _, h => by
    unfold bsF
    rw [if_neg (by omega)]
  | f + 1, g + 1, i, j, h, h' => by
    unfold bsF
    by_cases hlt : i < j
    · rw [if_pos hlt, if_pos hlt]
      by_cases hk : xs.getD ((i + j) / 2) 0 < k
      · rw [if_pos hk, if_pos hk]
        exact bsF_more xs k f g _ _ (by omega) (by omega)
      · rw [if_neg hk, if_neg hk]
        exact bsF_more xs k f g _ _ (by omega) (by omega)
    · rw [if_neg hlt, if_neg hlt]
def bs (xs : List Int) (k : Int) (i j : Nat) : Nat := bsF xs k (j - i) i j
theorem bs_eq (xs : List Int) (k : Int) (i j : Nat) : bs xs k i j = if i < j then (if xs.getD ((i + j) / 2) 0 < k then bs xs k ((i + j) / 2 + 1) j else bs xs k i ((i + j) / 2)) else i := by
  by_cases hlt : i < j
  · rw [if_pos hlt]
    unfold bs
    rw [bsF_more xs k (j - i) (j - i - 1 + 1) i j (by omega) (by omega)]
    conv => lhs; unfold bsF
    rw [if_pos hlt]
    by_cases hk : xs.getD ((i + j) / 2) 0 < k
    · rw [if_pos hk, if_pos hk]
      exact bsF_more xs k _ _ _ _ (by omega) (by omega)
    · rw [if_neg hk, if_neg hk]
      exact bsF_more xs k _ _ _ _ (by omega) (by omega)
  · rw [if_neg hlt]
    unfold bs
    rw [show j - i = 0 by omega]
    rfl
theorem bsF_le (xs : List Int) (k : Int) : ∀ (f i j : Nat), i ≤ j → i ≤ bsF xs k f i j ∧ bsF xs k f i j ≤ j
  | 0, i, j, h => ⟨Nat.le_refl _, h⟩
  | f + 1, i, j, h => by
    unfold bsF
    by_cases hlt : i < j
    · rw [if_pos hlt]
      by_cases hk : xs.getD ((i + j) / 2) 0 < k
      · rw [if_pos hk]
        have := bsF_le xs k f ((i + j) / 2 + 1) j (by omega)
        omega
      · rw [if_neg hk]
        have := bsF_le xs k f i ((i + j) / 2) (by omega)
        omega
    · rw [if_neg hlt]
      omega
theorem bs_le (xs : List Int) (k : Int) (i j : Nat) (h : i ≤ j) : i ≤ bs xs k i j ∧ bs xs k i j ≤ j := bsF_le xs k _ i j h
def bfound (xs : List Int) (k : Int) : Bool := decide (bs xs k 0 xs.length < xs.length) && (xs.getD (bs xs k 0 xs.length) 0 == k)
set_option maxHeartbeats 2000000 in
set_option maxRecDepth 100000 in
theorem bsearch (A : Option Addr) (n c : Nat) (xs : List Int) (k : Int) (w : World) (hr : (Kd.int .i64).C w A n xs) (hl : n < 1000000) :
    Calls Tryz.prog 194 #[.slice A n c, .int .i64 k] w fun e w1 => e = .returned (.tuple #[.int .i64 (bs xs k 0 n : Nat), .bool (bfound xs k)]) ∧ ∃ m, w1 = w.drewN m := by
  go_enter Tryz.func194, Tryz.ntmps194
  go_wp2_with fail
  go_loop [7, 8] (fun i j => ∃ a b : Nat, a ≤ b ∧ b ≤ n ∧ i = .int .i64 a ∧ j = .int .i64 b ∧ Aside0 (bs xs k a b = bs xs k 0 n)) (fun i j => ((intOf j).toNat - (intOf i).toNat))
  case atStart => exact ⟨0, n, Nat.zero_le _, Nat.le_refl _, rfl, rfl, ⟨rfl⟩⟩
  case round =>
    obtain ⟨a, b, hab, hbn, rfl, rfl, HB⟩ := hrel
    by_cases hlt : a < b
    · have d1 : decide ((a : Int) < (b : Int)) = true := decide_eq_true (by omega)
      have d2 : decide (a < b) = true := decide_eq_true hlt
      go_upto_region 5 with fail
      obtain ⟨m, hm⟩ : ∃ m : Nat, m = (a + b) / 2 := ⟨_, rfl⟩
      have em : ((a : Int) + (b : Int)) / 2 = (m : Int) := by omega
      rw [em]
      have hma : a ≤ m := by omega
      have hmb : m < b := by omega
      have b0 : (0 : Int) ≤ (m : Int) := by omega
      have b1 : (m : Int) < (n : Int) := by omega
      cases A with
      | none => exact absurd hr.2.2 (fun h => by obtain ⟨ad, h2, _⟩ := h (by have := hr.1; omega); cases h2)
      | some ad =>
        have hc := Kd.foot_int hr (m : Int) b0 b1
        have e1 : rd xs (m : Int) = xs.getD m 0 := by simp [rd]
        rw [e1, Int.toNat_natCast] at hc
        have HM := Aside0.mk hm
        have HR := Aside0.mk hr
        have HLT := Aside0.mk hlt
        clear em hm hr hlt d1 d2 e1
        obtain ⟨x, hx⟩ : ∃ x, x = xs.getD m 0 := ⟨_, rfl⟩
        rw [← hx] at hc
        have HXX := Aside0.mk hx
        clear hx
        cases hd : decide (x < k) with
        | true =>
          have HD := Aside0.mk (of_decide_eq_true hd)
          go_wp2_with (go_at_call 229; refine (cmp_less _ _ _).mono ?_; rintro e w1 ⟨rfl, rfl⟩)
          go_round
          case rel =>
            refine ⟨m + 1, b, by omega, hbn, by go_num, rfl, ⟨?_⟩⟩
            rw [← HB.out]
            conv => rhs; rw [bs_eq]
            rw [if_pos HLT.out, ← HM.out, ← HXX.out, if_pos HD.out]
          case measure => simp [intOf]; omega
        | false =>
          have HD := Aside0.mk (of_decide_eq_false hd)
          go_wp2_with (go_at_call 229; refine (cmp_less _ _ _).mono ?_; rintro e w1 ⟨rfl, rfl⟩)
          go_round
          case rel =>
            refine ⟨a, m, by omega, by omega, rfl, rfl, ⟨?_⟩⟩
            rw [← HB.out]
            conv => rhs; rw [bs_eq]
            rw [if_pos HLT.out, ← HM.out, ← HXX.out, if_neg (by have := HD.out; omega)]
          case measure => simp [intOf]; omega
    · have d1 : decide ((a : Int) < (b : Int)) = false := decide_eq_false (by omega)
      have d2 : decide (a < b) = false := decide_eq_false hlt
      have hb := HB.out
      rw [bs_eq, if_neg hlt] at hb
      have hln := hr.1
      have HL := Aside0.mk hln
      by_cases han : a < n
      · have d3 : decide ((a : Int) < (n : Int)) = true := decide_eq_true (by omega)
        have d4 : decide (a < n) = true := decide_eq_true han
        have b0 : (0 : Int) ≤ (a : Int) := by omega
        have b1 : (a : Int) < (n : Int) := by omega
        cases A with
        | none => exact absurd hr.2.2 (fun h => by obtain ⟨ad, h2, _⟩ := h (by have := hr.1; omega); cases h2)
        | some ad =>
          have hc := Kd.foot_int hr (a : Int) b0 b1
          have e1 : rd xs (a : Int) = xs.getD a 0 := by simp [rd]
          rw [e1, Int.toNat_natCast] at hc
          have HBB := Aside0.mk hb
          have hfd : bfound xs k = (xs.getD a 0 == k) := by
            unfold bfound
            rw [hln, ← hb, decide_eq_true han]
            rfl
          have HF := Aside0.mk hfd
          clear hr e1 hb hln hfd HB hlt
          obtain ⟨x, hx⟩ : ∃ x, x = xs.getD a 0 := ⟨_, rfl⟩
          rw [← hx] at hc
          have HXX := Aside0.mk hx
          clear hx
          cases hd : x == k with
          | true =>
            go_wp2_with fail
            go_ret2
            refine ⟨?_, 0, rfl⟩
            rw [HF.out, ← HXX.out, hd, HBB.out]; rfl
          | false =>
            go_wp2_with (go_at_call 230; refine (slices_nan _ _).mono ?_; rintro e w1 ⟨rfl, rfl⟩)
            go_ret2
            refine ⟨?_, 0, rfl⟩
            rw [HF.out, ← HXX.out, hd, HBB.out]; rfl
      · have d3 : decide ((a : Int) < (n : Int)) = false := decide_eq_false (by omega)
        have d4 : decide (a < n) = false := decide_eq_false han
        have HBB := Aside0.mk hb
        have hfd : bfound xs k = false := by
          unfold bfound
          rw [hln, ← hb, decide_eq_false han]
          rfl
        have HF := Aside0.mk hfd
        clear hr hb hln hfd HB hlt
        go_wp2_with fail
        go_ret2
        refine ⟨?_, 0, rfl⟩
        rw [HF.out, HBB.out]; rfl
theorem ret_int {k : IntKind} {a b : Int} (h : a = b) : Ending.returned (.int k a) = .returned (.int k b) := by rw [h]
def wayOf (keys : List Int) (ways : Nat) (k : Int) : Int := min ((bs keys k 0 keys.length : Int) + if bfound keys k then 1 else 0) (max ((ways : Int) - 1) 0)
set_option maxHeartbeats 2000000 in
set_option maxRecDepth 100000 in
theorem inner_way (Ak Ay : Option Addr) (ck m cy : Nat) (keys : List Int) (k : Int) (w : World) (hr : (Kd.int .i64).C w Ak keys.length keys) (hl : keys.length < 1000000) (hm : m < 1000000) :
    Calls Tryz.prog 163 #[.agg #[.slice Ak keys.length ck, .slice Ay m cy], .int .i64 k] w fun e w1 => e = .returned (.int .i64 (wayOf keys m k)) ∧ Below w.heap.size w w1 := by
  have hrc := Kd.C_below hr (below_alloc (Below.refl w.heap.size w) (.cells #[.slice Ak keys.length ck, .slice Ay m cy] 114))
  have HR := Aside0.mk hrc
  have HB := Aside0.mk (below_alloc (Below.refl w.heap.size w) (.cells #[.slice Ak keys.length ck, .slice Ay m cy] 114))
  have hbx := blk_new w (.cells #[.slice Ak keys.length ck, .slice Ay m cy] 114)
  have hbl := bs_le keys k 0 keys.length (Nat.zero_le _)
  obtain ⟨q, hq⟩ : ∃ q, q = bs keys k 0 keys.length := ⟨_, rfl⟩
  rw [← hq] at hbl
  have HQ := Aside0.mk hq
  clear hr hrc hq
  go_enter Tryz.func163, Tryz.ntmps163
  go_upto_region 1 with fail
  generalize w.alloc (.cells #[.slice Ak keys.length ck, .slice Ay m cy] 114) = w1 at HR HB hbx ⊢
  generalize w.heap.size = b at hbx ⊢
  have c0 := (blk_cell hbx 0).trans (rfl : _ = some (Value.slice Ak keys.length ck))
  have c1 := (blk_cell hbx 1).trans (rfl : _ = some (Value.slice Ay m cy))
  clear hbx
  cases hf : bfound keys k
  all_goals
    have HF := Aside0.mk hf
    clear hf
    go_wp2_with (go_at_call 194; refine (bsearch Ak keys.length ck keys k _ HR.out hl).mono ?_; rintro e w2 ⟨rfl, nq, rfl⟩; rw [← HQ.out, HF.out])
    all_goals
      go_ret
      refine ⟨?_, pw_below_drewN HB.out nq⟩
      have hw : wayOf keys m k = min ((q : Int) + if bfound keys k then 1 else 0) (max ((m : Int) - 1) 0) := by rw [HQ.out]; rfl
      rw [HF.out] at hw
      rw [hw]
      refine ret_int ?_
      simp only [if_true, Bool.false_eq_true, if_false]
      first
        | omega
        | (split at * <;> omega)
end Go.Proofs.YtelmidpepojbdaaGreat.Tower
namespace Go.Proofs.YtelmidpepojbdaaGreat.Tower
open Go Go.RowKit Go.Proofs.YtelmidpepojbdaaGreatW.PrintWords Go.Proofs.YtelmidpepojbdaaGreatW.PrintLast Go.Proofs.YtelmidpepojbdaaGreatW.PrintMore Go.Proofs.YtelmidpepojbdaaGreat.Own
set_option linter.unusedVariables false
set_option linter.unusedSimpArgs false
attribute [local go_sem] eqlF1 eqlF2 eqlF3 panicW assertW
theorem enters {f : FuncId} {fn : Func} (hf : Tryz.prog.funcs[f]? = some fn) (hname : (fn.name == "runtime.NumGoroutine") = false) (hb : fn.body.isSome = true) (args : Array Value) (w : World) : (callFunc f args).run Tryz.prog w = .ok (.enter f args) w := enters_ hf hname hb args w
def b01 (b : Bool) : Int := if b then 1 else 0
end Go.Proofs.YtelmidpepojbdaaGreat.Tower
namespace Go.Proofs.YtelmidpepojbdaaGreat.Tower
open Go Go.RowKit Go.Proofs.YtelmidpepojbdaaGreatW.PrintWords Go.Proofs.YtelmidpepojbdaaGreatW.PrintLast Go.Proofs.YtelmidpepojbdaaGreatW.PrintMore Go.Proofs.YtelmidpepojbdaaGreat.Own
set_option linter.unusedVariables false
set_option linter.unusedSimpArgs false
def th0 : Th := ⟨[], 0, false, false, false, []⟩
structure MadeThread (work : Value) (w : World) (e : Ending) (w1 : World) : Prop where
  out : ∃ tb, e = .returned (.pointer (some ⟨tb, 0, none⟩)) ∧ w.heap.size ≤ tb ∧ IsThread (fun k => k = tb) tb work th0 w1 ∧ Below w.heap.size w w1
set_option maxHeartbeats 2000000 in
set_option maxRecDepth 100000 in
theorem new_calls (gf : FuncId) (cap : Array Value) (w : World) :
    Calls Tryz.prog 97 #[.func (.func gf) #[] cap] w (MadeThread (.func (.func gf) #[] cap) w) := by
  go_enter Tryz.func97, Tryz.ntmps97
  go_wp2_with fail
  go_ret
  refine ⟨⟨w.heap.size, rfl, Nat.le_refl _, ⟨.slice none 0 0, none, 0, rfl, ?_, blk_new w _, Kd.R_nil _ _ _ _ _, Nat.le_refl _, Kd.F_nil _ _ _⟩, below_alloc (Below.refl _ _) _⟩⟩
  intro k hk
  simp [hk]
set_option maxHeartbeats 2000000 in
set_option maxRecDepth 100000 in
theorem out_calls {ok : Nat → Prop} {tb : Nat} {work : Value} {th : Th} (w : World) (h : IsThread ok tb work th w) (hd : th.done = true) (hl : th.out.length < 1000000) :
    Calls Tryz.prog 66 #[.pointer (some ⟨tb, 0, none⟩)] w fun e w1 => ∃ v, e = .returned v ∧ (Kd.int .i64).R 2 w1 w.heap.size (fun k => w.heap.size ≤ k) v th.out ∧ Below w.heap.size w w1 := by
  obtain ⟨lv, A, c, h⟩ := h
  have c5 : w.cell? ⟨tb, 5, none⟩ = some (.bool true) := (blk_cell h.2.2.1 5).trans (by rw [← hd]; rfl)
  have hb2 := blk_alloc h.2.2.1 (.cells #[] 2)
  have c6 : (w.alloc (.cells #[] 2)).cell? ⟨tb, 6, none⟩ = some (.slice A th.out.length c) := (blk_cell hb2 6).trans rfl
  have HE := Aside0.mk (R_empty (Kd.int .i64) 2 w w.heap.size (Nat.le_refl _))
  have HB := Aside0.mk (below_alloc (Below.refl w.heap.size w) (.cells #[] 2))
  have HC := Aside0.mk (Kd.C_below (Kd.F_now h.2.2.2.2.2) (below_alloc (Below.refl _ _) (.cells #[] 2)))
  clear h hd hb2
  go_enter Tryz.func66, Tryz.ntmps66
  go_wp2_with (first | ((with_reducible refine gate_builtin (b := .append) (xs := #[.tmp 12, .tmp 16]) rfl ?_); at_builtin; refine Kd.R_append_rows (Kd.int .i64) (w0 := w) w.heap.size rfl (.tmp 12) (.tmp 16) 22 2 (.int .i64 0) 8 rfl Tryz.underlying22 info_keys rfl (by decide) (by omega) (.slice (some ⟨w.heap.size, 0, none⟩) 0 0) [] th.out A th.out.length c (fun k => w.heap.size ≤ k) (fun _ => False) rfl rfl HE.out HC.out (fun _ _ h => h) (fun _ hk => hk.elim) (fun k hk => by simp at hk; omega) HB.out (by simp) (by simp; omega) ?_; intro v5 w5 ho hb5 hg hat; have HO := Aside0.mk ho; have HB5 := Aside0.mk hb5; clear ho hb5 hg hat HE HB HC))
  go_ret
  exact ⟨_, rfl, HO.out, HB5.out⟩
structure Ar.Good (a : Ar) : Prop where
  most : a.most ≤ 65536
  slots : (a.slots.length : Int) ≤ a.most
  used : a.used + a.free.length = a.slots.length
  cnt : ((a.slots.countP fun s => s.used : Nat) : Int) ≤ a.used
  small : ∀ (i : Nat) (s : Sl), a.slots[i]? = some s → s.node.Small ∧ s.ways.length < 1000000
theorem Ar.Good.fits {a : Ar} (h : a.Good) : a.Fits := ⟨by have := h.most; have := h.slots; omega, fun i s hi => by
  obtain ⟨h1, h2⟩ := h.small i s hi
  exact ⟨h1.pairs, h1.keys, h1.ways, h2⟩⟩
theorem Ar.Good.fault {a : Ar} (h : a.Good) : a.fault.Good := ⟨h.most, h.slots, h.used, h.cnt, h.small⟩
theorem Ar.Good.look {a : Ar} (h : a.Good) (r : Int) : (a.look r).2.Good := by
  unfold Ar.look
  split
  · exact h.fault
  · split <;> exact h
theorem Ar.Good.look_small {a : Ar} (h : a.Good) (r : Int) : (a.look r).1.Small := by
  unfold Ar.look
  split
  · exact ⟨by simp [nd0], by simp [nd0], by simp [nd0]⟩
  · split
    · exact ⟨by simp [nd0], by simp [nd0], by simp [nd0]⟩
    · rename_i s hs
      exact (h.small _ s hs).1
theorem Ar.Good.way {a : Ar} (h : a.Good) (r i : Int) : (a.way r i).2.Good := by
  unfold Ar.way
  split
  · exact h.fault
  · split <;> exact h
structure Ep.Good (x : Ep) : Prop where
  few : x.said.length ≤ 64
structure Tb.Good (t : Tb) : Prop where
  most : t.most ≤ 65536
  len : (t.l.length : Int) ≤ t.most
  small : ∀ (i : Nat) (e : En), t.l[i]? = some e → e.rc.nodes.length < 1000000 ∧ e.rc.infos.length < 1000000
structure Ws.Good (x : Ws) : Prop where
  ar : x.ar.Good
  ep : x.ep.Good
  tb : x.tb.Good
def shW (p : Nat) (x : Ws) (ok : Nat → Prop) (w : World) : Prop := IsWorld p x ok w ∧ x.Good
theorem shW_shared (p : Nat) : Shared (shW p) where
  step := fun h hs hm => ⟨(worldShared p).step h.1 hs hm, h.2⟩
  lt := fun h => (worldShared p).lt h.1
theorem IsRun.direct {X : Type} {Sh : X → (Nat → Prop) → World → Prop} {tb : Nat} {work : Value} {ok : Nat → Prop} {s : TS X} {w : World} (h : IsRun Sh tb work ok s w) :
    ∃ okS, (∀ k, okS k → ok k) ∧ Sh s.sh okS w ∧ ∀ x1 okS1 w1, Sh x1 okS1 w1 → Moves okS okS1 w w1 → ∃ ok1, IsRun Sh tb work ok1 { s with sh := x1 } w1 ∧ Moves ok ok1 w w1 ∧ ∀ k, ok1 k → ok k ∨ okS1 k := by
  obtain ⟨okT, okS, h1, h2, h3, h4⟩ := h.out
  refine ⟨okS, fun k hk => (h1 k).2 (.inr hk), h4, fun x1 okS1 w1 hs hm => ⟨fun k => okT k ∨ okS1 k, ⟨h.le, h.short, okT, okS1, fun _ => Iff.rfl, fun k hk hk1 => ?_, ?_, hs⟩, ?_, fun k hk => hk.imp (fun h5 => (h1 k).2 (.inl h5)) id⟩⟩
  · exact (hm.fresh k hk1).elim (h2 k hk) (fun h5 => by have := h3.lt k hk; omega)
  · exact h3.step hm.size (fun k hk hlt => hm.block k hlt (fun h5 => h2 k hk h5))
  · exact ⟨hm.os, hm.tape, hm.output, hm.size, fun k hk hn => hm.block k hk (fun h5 => hn ((h1 k).2 (.inr h5))), fun k hk => hk.elim (fun h5 => .inl ((h1 k).2 (.inl h5))) (fun h5 => (hm.fresh k h5).imp (fun h6 => (h1 k).2 (.inr h6)) id)⟩
abbrev kNd : Kd Nd := Kd.iso (Kd.pair Kd.bool (Kd.pair Kd.bool (Kd.pair (Kd.slice 106 kPair) (Kd.pair (Kd.slice 2 (Kd.int .i64)) (Kd.slice 45 (Kd.int .i64)))))) (fun n => (n.inner, n.tagged, n.pairs, n.keys, n.ways))
structure Stp where
  ref : Int
  node : Nd
  way : Int
abbrev kStp : Kd Stp := Kd.iso (Kd.pair (Kd.int .i64) (Kd.pair kNd (Kd.int .i64))) (fun s => (s.ref, s.node, s.way))
theorem kNd_M {w : World} {base : Nat} {ok : Nat → Prop} {n : Nd} {p k y : Value} (hp : kPair.R 106 w base ok p n.pairs) (hk : (Kd.int .i64).R 2 w base ok k n.keys) (hy : (Kd.int .i64).R 45 w base ok y n.ways) : kNd.M w base ok n [.bool n.inner, .bool n.tagged, p, k, y] :=
  ⟨[.bool n.inner], [.bool n.tagged, p, k, y], rfl, rfl, [.bool n.tagged], [p, k, y], rfl, rfl, [p], [k, y], rfl, ⟨p, rfl, hp⟩, [k], [y], rfl, ⟨k, rfl, hk⟩, ⟨y, rfl, hy⟩⟩
theorem kStp_M {w : World} {base : Nat} {ok : Nat → Prop} {s : Stp} {cs : List Value} (h : kNd.M w base ok s.node cs) : kStp.M w base ok s (.int .i64 s.ref :: (cs ++ [.int .i64 s.way])) :=
  ⟨[.int .i64 s.ref], cs ++ [.int .i64 s.way], rfl, rfl, cs, [.int .i64 s.way], rfl, h, rfl⟩
def lookT (r : Int) : Pr Ws Nd := fun s => some (.ret (s.sh.ar.look r).1, { s with sh := { s.sh with ar := (s.sh.ar.look r).2 } })
def wayT (r i : Int) : Pr Ws Int := doT (fun x => ((x.ar.way r i).1, { x with ar := (x.ar.way r i).2 }))
def stpWay (n : Nd) (key : Int) : Int := if n.inner then wayOf n.keys n.ways.length key else 0
def pathT (key : Int) : Nat → Int → List Stp → Pr Ws (List Stp)
  | 0, _, _ => fun _ => none
  | f + 1, r, acc => prBind (lookT r) fun n =>
    if n.inner = false then fun s => some (.ret (acc ++ [⟨r, n, stpWay n key⟩]), s)
    else prBind (wayT r (stpWay n key)) fun r1 => if r1 = 0 then fun s => some (.ret (acc ++ [⟨r, n, stpWay n key⟩]), s) else pathT key f r1 (acc ++ [⟨r, n, stpWay n key⟩])
def TPath1 : Bool × List (List Nat × List Nat) := (true, [([], []), ([0], [0]), ([1], [1]), ([2], [2]), ([3], [3]), ([], []), ([5], [5]), ([], []), ([4, 6, 7], [4, 6, 7]), ([8, 8, 0, 1, 2, 3, 4, 5, 6, 7, 8], [8])])
def BPath1 : List Nat := [0, 1, 3, 7, 15, 0, 32, 0, 255, 511]
theorem tabPath1 : rtab .any (opsOf Tryz.f164 1) = TPath1 := by kernel_rfl
theorem bitsPath1 : waitsOk TPath1.2 BPath1 = true := by kernel_rfl
set_option maxHeartbeats 2000000 in
set_option maxRecDepth 100000 in
theorem path1_calls (p : Nat) (x : Ws) (r i : Int) (w : World) (okS : Nat → Prop) (bt bs bi : Nat) (h : shW p x okS w)
    (ht : w.cell? ⟨bt, 1, none⟩ = some (.pointer (some ⟨p, 0, none⟩))) (hs : w.cell? ⟨bs, 0, none⟩ = some (.int .i64 r)) (hi : w.cell? ⟨bi, 0, none⟩ = some (.int .i64 i)) :
    Calls Tryz.prog 164 #[.pointer (some ⟨bt, 0, none⟩), .pointer (some ⟨bs, 0, none⟩), .pointer (some ⟨bi, 0, none⟩)] w fun e w2 => ∃ okS1, e = .returned (.int .i64 (x.ar.way r i).1) ∧ shW p { x with ar := (x.ar.way r i).2 } okS1 w2 ∧ Moves okS okS1 w w2 := by
  obtain ⟨⟨okA, okR, okE, pA, pR, pE, h⟩, hg⟩ := h
  have HW := Aside0.mk h
  have HG := Aside0.mk hg
  have hp := (blk_cell h.box 0).trans (rfl : _ = some (Value.pointer (some ⟨pA, 0, none⟩)))
  have HC := Aside0.mk (And.intro ht (And.intro hp (And.intro hs hi)))
  clear h hg ht hs hi hp
  go_enter Tryz.func164, Tryz.ntmps164
  go_upto_region 1 with fail
  refine ordStart (n := 10) (S := fun w' => w'.cell? ⟨bt, 1, none⟩ = some (.pointer (some ⟨p, 0, none⟩)) ∧ w'.cell? ⟨p, 0, none⟩ = some (.pointer (some ⟨pA, 0, none⟩)) ∧ w'.cell? ⟨bs, 0, none⟩ = some (.int .i64 r) ∧ w'.cell? ⟨bi, 0, none⟩ = some (.int .i64 i)) (ds := [8]) (by kernel_rfl) rfl tabPath1 bitsPath1 HC.out (fun hHeld HT_ HW_ => ?_)
  have HW := Aside0.mk (HW.out.step (w1 := w.drew) (Nat.le_refl _) (fun _ _ _ => rfl))
  have HM := Aside0.mk ((Moves.refl okS w).drew)
  clear HC
  generalize World.drew _ = w1 at HW HM hHeld ⊢
  refine ord_ [(0, some 4), (1, some 5), (2, some 6), (3, some 7), (4, some 8), (5, some 9), (6, some 10), (7, some 11)] ?_
  (refine ordP (v := ?_) (a' := ?_) HT_ (by kernel_rfl) rfl rfl (fun _ _ _ h => h) (Or.inl ⟨by rfl, ?_⟩) ?_ ?_; rotate_left; (intro w'; go_simp; with_reducible rfl); rotate_left; (simp only [Act.put, p1_, p2_, p3_, i64_w, i32_w]; rfl))
  iterate 7 (refine ordT (v := ?_) (a' := ?_) HT_ HW_ (by kernel_rfl) rfl rfl (fun _ _ _ h => h) hHeld (Or.inl ⟨by rfl, ?_⟩) ?_ ?_; rotate_left; (rintro w' ⟨s0, s1, s2, s3⟩; go_simp; with_reducible rfl); rotate_left; (simp only [Act.put, p1_, p2_, p3_, i64_w, i32_w]; rfl))
  refine ordNil ?_
  refine ordLast (i := 8) (some 12) HT_ (by kernel_rfl) rfl rfl (by decide) (fun K_ hK => ?_)
  refine call_ 77 #[.pointer (some ⟨pA, 0, none⟩), .int .i64 r, .int .i64 i] (by rfl) rfl ?hrun8 ?_
  (case hrun8 => first | (go_simp; done) | (go_simp; exact enters Tryz.func77 (by kernel_rfl) rfl _ _))
  refine (way_calls r i _ HW.out.ar HG.out.ar.fits.slots).mono ?_
  rintro e w2 ⟨rfl, hA, hM⟩
  have A2 := Aside0.mk hA
  have M2 := Aside0.mk hM
  clear hA hM
  refine ⟨_, rfl, ?_⟩
  refine hK.out _ _ ?_
  clear hK K_
  refine norm_ (a' := ?_) ?_ ?_
  rotate_left; · show Act.put _ (some 12) _ = _; simp only [Act.put, p1_, p2_, p3_, i64_w, i32_w]; rfl
  refine ord_ [(9, some 3)] ?_
  (refine ordP (v := ?_) (a' := ?_) HT_ (by kernel_rfl) rfl rfl (fun _ _ _ h => h) (Or.inl ⟨by rfl, ?_⟩) ?_ ?_; rotate_left; (intro w'; go_simp; with_reducible rfl); rotate_left; (simp only [Act.put, p1_, p2_, p3_, i64_w, i32_w]; rfl))
  refine ordNil ?_
  refine done_ (done_of HT_.out (by kernel_rfl)) ?_
  go_wp2_with fail
  go_ret
  exact ⟨_, rfl, ⟨⟨_, _, _, _, _, _, (HW.out.ar_moves A2.out M2.out).1⟩, ⟨HG.out.ar.way r i, HG.out.ep, HG.out.tb⟩⟩, HM.out.trans (HW.out.ar_moves A2.out M2.out).2⟩
def taskV (tb p : Nat) (me : Int) : Value := .agg #[.pointer (some ⟨tb, 0, none⟩), .pointer (some ⟨p, 0, none⟩), .int .i64 me]
def taskO (tb p : Nat) (me : Int) : Obj := .cells #[.pointer (some ⟨tb, 0, none⟩), .pointer (some ⟨p, 0, none⟩), .int .i64 me] 122 (0, 0)
theorem look_task {p tb : Nat} {work : Value} {ok : Nat → Prop} {s : TS Ws} {w : World} (h : IsRun (shW p) tb work ok s w) (r : Int) :
    ∃ pA, w.cell? ⟨p, 0, none⟩ = some (.pointer (some ⟨pA, 0, none⟩)) ∧ w.cell? ⟨p, 5, none⟩ = some (.int .i64 s.sh.entry) ∧ (s.sh.ar.look r).1.Small ∧ Calls Tryz.prog 118 #[.pointer (some ⟨pA, 0, none⟩), .int .i64 r] w fun e w1 => ∃ v ok1, e = .returned v ∧ NdNew w.heap.size (s.sh.ar.look r).1 v w1 ∧ IsRun (shW p) tb work ok1 { s with sh := { s.sh with ar := (s.sh.ar.look r).2 } } w1 ∧ Moves ok ok1 w w1 ∧ ∀ k, ok1 k → ok k := by
  obtain ⟨okS, hk, ⟨⟨okA, okR, okE, pA, pR, pE, hw⟩, hg⟩, hd⟩ := h.direct
  refine ⟨pA, (blk_cell hw.box 0).trans rfl, (blk_cell hw.box 5).trans rfl, hg.ar.look_small r, (look_calls r w hw.ar hg.ar.fits).mono ?_⟩
  rintro e w1 ⟨⟨v, rfl, hv⟩, ha, hm⟩
  obtain ⟨h1, h2⟩ := hw.ar_moves ha hm
  obtain ⟨ok1, h3, h4, h5⟩ := hd _ _ w1 ⟨⟨_, _, _, _, _, _, h1⟩, ⟨hg.ar.look r, hg.ep, hg.tb⟩⟩ h2
  exact ⟨v, ok1, rfl, hv, h3, h4, fun k hk1 => (h5 k hk1).elim id (fun h6 => hk k ((hw.ok k).2 h6))⟩
def VStepsN (N : Nat) (l : List Stp) (ok : Nat → Prop) (v : Value) (w : World) : Prop := kStp.R 182 w N (fun k => ¬ ok k) v l
theorem TPost.imp {X α : Type} {Sh : X → (Nat → Prop) → World → Prop} {tb : Nat} {work : Value} {V V1 : α → (Nat → Prop) → Value → World → Prop} {ok : Nat → Prop} {w : World} {res : Out α × TS X} {e : Ending} {w1 : World} (h : TPost Sh tb work V ok w res e w1) (hv : ∀ a k v w, V a k v w → V1 a k v w) : TPost Sh tb work V1 ok w res e w1 := by
  obtain ⟨ok1, h1, h2, h3⟩ := h
  refine ⟨ok1, h1, h2, ?_⟩
  obtain ⟨o, t⟩ := res
  cases o with
  | ret a => obtain ⟨v, he, hv1⟩ := h3; exact ⟨v, he, hv _ _ _ _ hv1⟩
  | wait => exact h3
def VSteps (l : List Stp) (ok : Nat → Prop) (v : Value) (w : World) : Prop := kStp.R 182 w 0 (fun k => ¬ ok k) v l
theorem info_step : (Tryz.prog.info? 182).map (fun i => (i.zero, i.size, i.bytes)) = some (some (.agg #[.int .i64 0, .bool false, .bool false, .slice none 0 0, .slice none 0 0, .slice none 0 0, .int .i64 0]), 7, 96) := by kernel_rfl
structure PathAt (p tb : Nat) (work : Value) (me : Int) (bt : Nat) (key : Int) (ok : Nat → Prop) (w : World) (res : Out (List Stp) × TS Ws) (f : Nat) (v5 v6 : Value) (wr : World) : Prop where
  out : ∃ ok1 s1 acc r, v6 = .int .i64 r ∧ kStp.R 182 wr w.heap.size (fun k => ¬ ok1 k ∧ k ≠ bt) v5 acc ∧ IsRun (shW p) tb work ok1 s1 wr ∧ Moves ok ok1 w wr ∧ wr.heap[bt]? = some (taskO tb p me) ∧ ¬ ok1 bt ∧ acc.length + f < 900000 ∧ pathT key f r acc s1 = some res
set_option maxHeartbeats 4000000 in
set_option maxRecDepth 100000 in
theorem path_callsN (p tb : Nat) (work : Value) (me key : Int) (ok : Nat → Prop) (s : TS Ws) (w : World) (h : IsRun (shW p) tb work ok s w) (f : Nat) (hf : f < 900000) (res : Out (List Stp) × TS Ws) (hr : pathT key f s.sh.entry [] s = some res) :
    Calls Tryz.prog 114 #[taskV tb p me, .int .i64 key] w (TPost (shW p) tb work (VStepsN w.heap.size) ok w res) := by
  have h1 := h.below (shW_shared p) (below_alloc (Below.refl _ _) (taskO tb p me))
  have HN : ¬ ok w.heap.size := fun hk => by have := h.lt (shW_shared p) _ hk; omega
  obtain ⟨pA, c0, c5, _, _⟩ := look_task h1 0
  have HP : Aside0 (PathAt p tb work me w.heap.size key ok w res f (.slice none 0 0) (.int .i64 s.sh.entry) (w.alloc (taskO tb p me))) := ⟨⟨ok, s, [], _, rfl, Kd.R_nil _ _ _ _ _, h1, (Moves.refl ok w).alloc _, blk_new w _, HN, by simpa using hf, hr⟩⟩
  have hbt := (blk_cell (blk_new w (taskO tb p me)) 1).trans (rfl : _ = some (Value.pointer (some ⟨p, 0, none⟩)))
  unfold taskO at HP hbt c0 c5
  unfold taskV
  clear h h1 hr HN
  go_enter Tryz.func114, Tryz.ntmps114
  go_upto_region 2 with fail
  generalize w.alloc (.cells #[.pointer (some ⟨tb, 0, none⟩), .pointer (some ⟨p, 0, none⟩), .int .i64 me] 122) = w1 at HP hbt c0 c5 ⊢
  generalize hbb : w.heap.size = bt at HP hbt ⊢
  go_wp2_with fail
  clear c0 c5 hbt
  go_loopg [5, 6] f (fun g v5 v6 wr => Aside0 (PathAt p tb work me bt key ok w res g v5 v6 wr))
  case atStart => exact HP
  case round =>
    cases gk with
    | zero => obtain ⟨ok1, s1, acc, r, _, _, _, _, _, _, _, hr⟩ := hrel.out.out; cases hr
    | succ g =>
    obtain ⟨ok1, s1, acc, r, rfl, hR, hI, hM, hB, hN, hL, hr⟩ := hrel.out.out
    obtain ⟨pA, c0, _, hsm, hlook⟩ := look_task hI r
    have HL := Aside0.mk hlook
    have R0 := Aside0.mk hR
    have I0 := Aside0.mk hI
    have M0 := Aside0.mk hM
    have B0 := Aside0.mk hB
    have N0 := Aside0.mk hN
    have L0 := Aside0.mk hL
    have HR := Aside0.mk hr
    have cb := (blk_cell hB 1).trans (rfl : _ = some (Value.pointer (some ⟨p, 0, none⟩)))
    clear hR hI hM hB hN hL hr hrel hlook
    go_upto_region 4 with (go_at_call 118; refine HL.out.mono ?_; rintro e w2 ⟨v2, ok2, rfl, ⟨pv, kv, yv, rfl, hp, hk, hy⟩, hI2, hM2, hO2⟩; have O2 := Aside0.mk hO2; obtain ⟨Ap, cp, rfl⟩ := Kd.R_slice hp; obtain ⟨Ak, ck, rfl⟩ := Kd.R_slice hk; obtain ⟨Ay, cy, rfl⟩ := Kd.R_slice hy; have P2 := Aside0.mk hp; have K2 := Aside0.mk hk; have Y2 := Aside0.mk hy; have I2 := Aside0.mk hI2; have M2 := Aside0.mk hM2; clear hp hk hy hI2 hM2 hO2 HL)
    have HS := Aside0.mk hsm
    clear hsm c0 cb
    have hr1 := HR.out
    unfold pathT prBind lookT at hr1
    simp only at hr1
    generalize (s1.sh.ar.look r).1 = n at P2 K2 Y2 HS hr1 ⊢
    generalize ({ s1 with sh := { s1.sh with ar := (s1.sh.ar.look r).2 } } : TS Ws) = s2 at I2 hr1
    have HR1 := Aside0.mk hr1
    obtain ⟨A5, c5, rfl⟩ := Kd.R_slice R0.out
    have hlt1 : ∀ k, ok2 k → k < w2.heap.size := I2.out.lt (shW_shared p)
    have hb2 : w2.heap[bt]? = some (taskO tb p me) := (M2.out.block bt (blk_lt B0.out) N0.out).trans B0.out
    have N2 : Aside0 (¬ ok2 bt) := ⟨fun h => (M2.out.fresh bt h).elim N0.out (fun h2 => by have := blk_lt B0.out; omega)⟩
    have R2 : kStp.R 182 w2 w.heap.size (fun k => ¬ ok2 k ∧ k ≠ bt ∧ k ≠ w2.heap.size ∧ k < wr.heap.size) (.slice A5 acc.length c5) acc := Kd.R_mono (Kd.R_step (Kd.R_bound R0.out) (fun k hk hlt => M2.out.block k hlt hk.1.1)) (fun k hk => ⟨fun h => (M2.out.fresh k h).elim hk.1.1 (fun h2 => by have := hk.2.2.1; omega), hk.1.2, by have := hk.2.2.1; have := M2.out.size; omega, hk.2.2.1⟩)
    have hnd : ∀ k, wr.heap.size ≤ k ∧ k < w2.heap.size → (¬ ok2 k ∧ k ≠ bt ∧ k ≠ w2.heap.size) ∧ some k ≠ (Value.slice A5 acc.length c5).ownBlock := fun k hk => ⟨⟨fun h => by have := I0.out.lt (shW_shared p) k (O2.out k h); omega, fun e => by have := blk_lt B0.out; omega, by omega⟩, fun e => by have := Kd.R_lt R0.out k e.symm; omega⟩
    have R3 := Aside0.mk (Kd.R_alloc (Kd.R_mono R2 (fun k hk => ⟨hk.1, hk.2.1, hk.2.2.1⟩) : kStp.R 182 w2 w.heap.size (fun k => ¬ ok2 k ∧ k ≠ bt ∧ k ≠ w2.heap.size) (.slice A5 acc.length c5) acc) (.cells #[.int .i64 r, .bool n.inner, .bool n.tagged, .slice Ap n.pairs.length cp, .slice Ak n.keys.length ck, .slice Ay n.ways.length cy, .int .i64 0] 182))
    have P3 := Aside0.mk (Kd.R_alloc (Kd.R_lower (Kd.R_mono (Kd.R_bound P2.out) (fun k hk => hnd k ⟨hk.1, hk.2.2.1⟩)) M0.out.size) (.cells #[.int .i64 r, .bool n.inner, .bool n.tagged, .slice Ap n.pairs.length cp, .slice Ak n.keys.length ck, .slice Ay n.ways.length cy, .int .i64 0] 182))
    have K3 := Aside0.mk (Kd.R_alloc (Kd.R_lower (Kd.R_mono (Kd.R_bound K2.out) (fun k hk => hnd k ⟨hk.1, hk.2.2.1⟩)) M0.out.size) (.cells #[.int .i64 r, .bool n.inner, .bool n.tagged, .slice Ap n.pairs.length cp, .slice Ak n.keys.length ck, .slice Ay n.ways.length cy, .int .i64 0] 182))
    have Y3 := Aside0.mk (Kd.R_alloc (Kd.R_lower (Kd.R_mono (Kd.R_bound Y2.out) (fun k hk => hnd k ⟨hk.1, hk.2.2.1⟩)) M0.out.size) (.cells #[.int .i64 r, .bool n.inner, .bool n.tagged, .slice Ap n.pairs.length cp, .slice Ak n.keys.length ck, .slice Ay n.ways.length cy, .int .i64 0] 182))
    have I3 := Aside0.mk (I2.out.below (shW_shared p) (below_alloc (Below.refl _ _) (.cells #[.int .i64 r, .bool n.inner, .bool n.tagged, .slice Ap n.pairs.length cp, .slice Ak n.keys.length ck, .slice Ay n.ways.length cy, .int .i64 0] 182)))
    have M3 := Aside0.mk ((M0.out.trans M2.out).alloc (.cells #[.int .i64 r, .bool n.inner, .bool n.tagged, .slice Ap n.pairs.length cp, .slice Ak n.keys.length ck, .slice Ay n.ways.length cy, .int .i64 0] 182))
    have B3 := Aside0.mk (blk_alloc hb2 (.cells #[.int .i64 r, .bool n.inner, .bool n.tagged, .slice Ap n.pairs.length cp, .slice Ak n.keys.length ck, .slice Ay n.ways.length cy, .int .i64 0] 182))
    have S3 := Aside0.mk (blk_new w2 (.cells #[.int .i64 r, .bool n.inner, .bool n.tagged, .slice Ap n.pairs.length cp, .slice Ak n.keys.length ck, .slice Ay n.ways.length cy, .int .i64 0] 182))
    have hs7 : Aside0 (¬ ok2 w2.heap.size) := ⟨fun h => by have := I2.out.lt (shW_shared p) _ h; omega⟩
    have hne : Aside0 (bt ≠ w2.heap.size) := ⟨by have := blk_lt hb2; omega⟩
    have hsw : Aside0 (w.heap.size ≤ w2.heap.size) := ⟨(M0.out.trans M2.out).size⟩
    clear R2 hnd hlt1 hb2 R0 I0 M0 B0 N0 P2 K2 Y2 I2 M2 O2 hr1 HR
    generalize w2.alloc (.cells #[.int .i64 r, .bool n.inner, .bool n.tagged, .slice Ap n.pairs.length cp, .slice Ak n.keys.length ck, .slice Ay n.ways.length cy, .int .i64 0] 182) = w3 at R3 P3 K3 Y3 I3 M3 B3 S3 ⊢
    generalize w2.heap.size = b7 at R3 P3 K3 Y3 S3 hs7 hne hsw ⊢
    have k1 := (blk_cell S3.out 1).trans (rfl : _ = some (Value.bool n.inner))
    have HH := HR1.out
    clear HR1
    cases hin : n.inner with
    | false =>
      rw [hin] at k1
      rw [if_pos hin] at HH
      injection HH with HH
      have HRES := Aside0.mk HH
      have HIN := Aside0.mk hin
      clear HH
      have k0 := (blk_cell S3.out 0).trans (rfl : _ = some (Value.int .i64 r))
      have k2 := (blk_cell S3.out 2).trans (rfl : _ = some (Value.bool n.tagged))
      have k3 := (blk_cell S3.out 3).trans (rfl : _ = some (Value.slice Ap n.pairs.length cp))
      have k4 := (blk_cell S3.out 4).trans (rfl : _ = some (Value.slice Ak n.keys.length ck))
      have k5 := (blk_cell S3.out 5).trans (rfl : _ = some (Value.slice Ay n.ways.length cy))
      have k6 := (blk_cell S3.out 6).trans (rfl : _ = some (Value.int .i64 0))
      have E3 : Aside0 (kStp.M w3 w.heap.size (fun k => (¬ ok2 k ∧ k ≠ bt ∧ k ≠ b7) ∧ some k ≠ (Value.slice A5 acc.length c5).ownBlock) ⟨r, n, 0⟩ [.int .i64 r, .bool false, .bool n.tagged, .slice Ap n.pairs.length cp, .slice Ak n.keys.length ck, .slice Ay n.ways.length cy, .int .i64 0]) := ⟨by rw [← HIN.out]; exact kStp_M (s := ⟨r, n, 0⟩) (kNd_M P3.out K3.out Y3.out)⟩
      clear hin
      go_upto_region 7 with ((with_reducible refine gate_builtin (b := .append) (xs := #[.tmp 32, .tmp 34]) rfl ?_); at_builtin; refine Kd.R_append kStp (w0 := w3) w.heap.size rfl (.tmp 32) (.tmp 34) 179 182 _ 96 rfl Tryz.underlying179 info_step rfl (by decide) (by decide) (.slice A5 acc.length c5) acc ⟨r, n, 0⟩ _ (fun k => (¬ ok2 k ∧ k ≠ bt ∧ k ≠ b7)) (fun k => (¬ ok2 k ∧ k ≠ bt ∧ k ≠ b7) ∧ some k ≠ (Value.slice A5 acc.length c5).ownBlock) rfl rfl E3.out (fun _ hk => hk) (fun k hk => ⟨fun h => by have := I3.out.lt (shW_shared p) k h; omega, fun h => by have := blk_lt B3.out; omega, fun h => by have := blk_lt S3.out; omega⟩) R3.out (Below.refl _ _) M3.out.size (by have := L0.out; omega) ?_; intro v5 w5 ho hb5 hg hat; obtain ⟨A6, c6, rfl⟩ := Kd.R_slice ho; have m0_ := Aside0.mk ho; have m1_ := Aside0.mk hg; clear ho hb5 hg hat)
      have hob : ∀ k, ok2 k → some k ≠ (Value.slice A5 acc.length c5).ownBlock := fun k hk e => (R3.out.1 k e.symm).1 hk
      have I5 := Aside0.mk (I3.out.step (shW_shared p) m1_.out.size (fun k hk hlt => m1_.out.block k hlt (hob k hk)))
      have M5 := Aside0.mk (M3.out.grown m1_.out (fun k hk => .inr (Kd.R_base R3.out k hk)))
      have S5 := Aside0.mk (blk_grown S3.out m1_.out (fun e => (R3.out.1 b7 e.symm).2.2 rfl))
      clear k0 k1 k2 k3 k4 k5 k6 hob
      have k1 := (blk_cell S5.out 1).trans (rfl : _ = some (Value.bool n.inner))
      rw [HIN.out] at k1
      go_wp2_with fail
      go_ret
      rw [← HRES.out]
      have hw0 : stpWay n key = 0 := by simp [stpWay, HIN.out]
      rw [hw0]
      have hlen : (acc ++ [(⟨r, n, 0⟩ : Stp)]).length = acc.length + 1 := by simp
      have h0 := m0_.out
      rw [hlen] at h0
      exact ⟨⟨ok2, M5.out, I5.out, _, rfl, Kd.R_lower (Kd.R_mono h0 (fun k hk => hk.1)) (Nat.le_of_eq hbb.symm)⟩⟩
    | true =>
      rw [hin] at k1
      rw [if_neg (by rw [hin]; decide)] at HH
      have HIN := Aside0.mk hin
      have hwy : stpWay n key = wayOf n.keys n.ways.length key := by simp [stpWay, hin]
      rw [hwy] at HH
      have HRES := Aside0.mk HH
      clear HH hwy hin
      have k4 := (blk_cell S3.out 4).trans (rfl : _ = some (Value.slice Ak n.keys.length ck))
      have k5 := (blk_cell S3.out 5).trans (rfl : _ = some (Value.slice Ay n.ways.length cy))
      have hkc := Aside0.mk (Kd.R_reads' K3.out).2.2
      go_upto_region 6 with (go_at_call 163; refine (inner_way Ak Ay ck n.ways.length cy n.keys key _ hkc.out HS.out.keys HS.out.ways).mono ?_; rintro e w4 ⟨rfl, hb4⟩; have k6 := (blk_cell (blk_below S3.out hb4) 6).trans (rfl : _ = some (Value.int .i64 0)); have z6 := blk_frozen (blk_below S3.out hb4) 6; have X4 := Aside0.mk hb4; clear hb4)
      generalize hwyv : wayOf n.keys n.ways.length key = wy at HRES ⊢
      have hob7 : ∀ k, ok2 k → k ≠ b7 := fun k hk e => hs7.out (e ▸ hk)
      have R5 := Aside0.mk (Kd.R_far (Kd.R_below R3.out X4.out) (p := ⟨b7, 6, none⟩) (fun k hk => hk.2.2) (.int .i64 wy))
      have P5 := Aside0.mk (Kd.R_far (Kd.R_below P3.out X4.out) (p := ⟨b7, 6, none⟩) (fun k hk => hk.1.2.2) (.int .i64 wy))
      have K5 := Aside0.mk (Kd.R_far (Kd.R_below K3.out X4.out) (p := ⟨b7, 6, none⟩) (fun k hk => hk.1.2.2) (.int .i64 wy))
      have Y5 := Aside0.mk (Kd.R_far (Kd.R_below Y3.out X4.out) (p := ⟨b7, 6, none⟩) (fun k hk => hk.1.2.2) (.int .i64 wy))
      have I5 := Aside0.mk ((I3.out.below (shW_shared p) X4.out).far (shW_shared p) (p := ⟨b7, 6, none⟩) hs7.out (.int .i64 wy))
      have M5 := Aside0.mk ((M3.out.below X4.out).set (p := ⟨b7, 6, none⟩) (.inr hsw.out) (.int .i64 wy))
      have B5 := Aside0.mk (blk_far (blk_below B3.out X4.out) (p := ⟨b7, 6, none⟩) hne.out (.int .i64 wy))
      have S5 := Aside0.mk (blk_set (blk_below S3.out X4.out) 6 (.int .i64 wy))
      clear R3 P3 K3 Y3 I3 M3 B3 S3 k1 k4 k5 k6 z6 hkc hob7
      generalize w4.setCell ⟨b7, 6, none⟩ (.int .i64 wy) = w5 at R5 P5 K5 Y5 I5 M5 B5 S5 ⊢
      have k0 := (blk_cell S5.out 0).trans (rfl : _ = some (Value.int .i64 r))
      have k1 := (blk_cell S5.out 1).trans (rfl : _ = some (Value.bool n.inner))
      rw [HIN.out] at k1
      have k2 := (blk_cell S5.out 2).trans (rfl : _ = some (Value.bool n.tagged))
      have k3 := (blk_cell S5.out 3).trans (rfl : _ = some (Value.slice Ap n.pairs.length cp))
      have k4 := (blk_cell S5.out 4).trans (rfl : _ = some (Value.slice Ak n.keys.length ck))
      have k5 := (blk_cell S5.out 5).trans (rfl : _ = some (Value.slice Ay n.ways.length cy))
      have k6 := (blk_cell S5.out 6).trans (rfl : _ = some (Value.int .i64 wy))
      have E5 : Aside0 (kStp.M w5 w.heap.size (fun k => (¬ ok2 k ∧ k ≠ bt ∧ k ≠ b7) ∧ some k ≠ (Value.slice A5 acc.length c5).ownBlock) ⟨r, n, wy⟩ [.int .i64 r, .bool true, .bool n.tagged, .slice Ap n.pairs.length cp, .slice Ak n.keys.length ck, .slice Ay n.ways.length cy, .int .i64 wy]) := ⟨by rw [← HIN.out]; exact kStp_M (s := ⟨r, n, wy⟩) (kNd_M P5.out K5.out Y5.out)⟩
      go_upto_region 7 with ((with_reducible refine gate_builtin (b := .append) (xs := #[.tmp 32, .tmp 34]) rfl ?_); at_builtin; refine Kd.R_append kStp (w0 := w5) w.heap.size rfl (.tmp 32) (.tmp 34) 179 182 _ 96 rfl Tryz.underlying179 info_step rfl (by decide) (by decide) (.slice A5 acc.length c5) acc ⟨r, n, wy⟩ _ (fun k => (¬ ok2 k ∧ k ≠ bt ∧ k ≠ b7)) (fun k => (¬ ok2 k ∧ k ≠ bt ∧ k ≠ b7) ∧ some k ≠ (Value.slice A5 acc.length c5).ownBlock) rfl rfl E5.out (fun _ hk => hk) (fun k hk => ⟨fun h => by have := I5.out.lt (shW_shared p) k h; omega, fun h => by have := blk_lt B5.out; omega, fun h => by have := blk_lt S5.out; omega⟩) R5.out (Below.refl _ _) M5.out.size (by have := L0.out; omega) ?_; intro v5 w6 ho hb5 hg hat; obtain ⟨A6, c6, rfl⟩ := Kd.R_slice ho; have m0_ := Aside0.mk ho; have m1_ := Aside0.mk hg; clear ho hb5 hg hat)
      have hob : ∀ k, ok2 k → some k ≠ (Value.slice A5 acc.length c5).ownBlock := fun k hk e => (R5.out.1 k e.symm).1 hk
      have O6 := Aside0.mk m0_.out
      have I6 := Aside0.mk (I5.out.step (shW_shared p) m1_.out.size (fun k hk hlt => m1_.out.block k hlt (hob k hk)))
      have M6 := Aside0.mk (M5.out.grown m1_.out (fun k hk => .inr (Kd.R_base R5.out k hk)))
      have S6 := Aside0.mk (blk_grown S5.out m1_.out (fun e => (R5.out.1 b7 e.symm).2.2 rfl))
      have B6 := Aside0.mk (blk_grown B5.out m1_.out (fun e => (R5.out.1 bt e.symm).2.1 rfl))
      clear k0 k1 k2 k3 k4 k5 k6 hob R5 P5 K5 Y5 I5 M5 B5 S5 E5 m0_ m1_
      have k1 := (blk_cell S6.out 1).trans (rfl : _ = some (Value.bool n.inner))
      rw [HIN.out] at k1
      have k6 := (blk_cell S6.out 6).trans (rfl : _ = some (Value.int .i64 wy))
      go_upto_region 10 with fail
      have O8 := Aside0.mk (Kd.R_alloc (Kd.R_bound O6.out) (.cells #[.int .i64 wy] 3))
      have I8 := Aside0.mk (I6.out.below (shW_shared p) (below_alloc (Below.refl _ _) (.cells #[.int .i64 wy] 3)))
      have M8 := Aside0.mk (M6.out.alloc (.cells #[.int .i64 wy] 3))
      have S8 := Aside0.mk (blk_alloc S6.out (.cells #[.int .i64 wy] 3))
      have B8 := Aside0.mk (blk_alloc B6.out (.cells #[.int .i64 wy] 3))
      have W8 := Aside0.mk (blk_new w6 (.cells #[.int .i64 wy] 3))
      have N8 : Aside0 (¬ ok2 w6.heap.size) := ⟨fun h => by have := I6.out.lt (shW_shared p) _ h; omega⟩
      clear O6 I6 M6 S6 B6 k1 k6
      generalize w6.alloc (.cells #[.int .i64 wy] 3) = w8 at O8 I8 M8 S8 B8 W8 ⊢
      generalize w6.heap.size = b8 at O8 W8 N8 ⊢
      have c0 := (blk_cell B8.out 0).trans (rfl : _ = some (Value.pointer (some ⟨tb, 0, none⟩)))
      have hmf : ∀ (fn : Fn) (first cap : Array Value) (w : World), (Instr.makeFunc fn first cap).run Tryz.prog w = .ok (.func fn first cap) w := fun _ _ _ _ => rfl
      go_wp2_with fail
      have HH := HRES.out
      cases hd : wayT r wy s2 with
      | none => rw [hd] at HH; cases HH
      | some dres =>
        rw [hd] at HH
        have HRES2 := Aside0.mk HH
        have HD := Aside0.mk hd
        clear HH HRES hd
        refine (do_calls (shW_shared p) (fun x => ((x.ar.way r wy).1, { x with ar := (x.ar.way r wy).2 })) tb work ok2 s2 w8 164 #[.pointer (some ⟨bt, 0, none⟩), .pointer (some ⟨b7, 0, none⟩), .pointer (some ⟨b8, 0, none⟩)] I8.out (enters Tryz.func164 (by kernel_rfl) rfl _) (fun w9 okS hm hk hsh => ?hT) dres HD.out).mono ?_
        case hT =>
          have h1 := (blk_cell ((hm.block bt (blk_lt B8.out) N2.out).trans B8.out) 1).trans (rfl : _ = some (Value.pointer (some ⟨p, 0, none⟩)))
          have h2 := (blk_cell ((hm.block b7 (blk_lt S8.out) hs7.out).trans S8.out) 0).trans (rfl : _ = some (Value.int .i64 r))
          have h3 := (blk_cell ((hm.block b8 (blk_lt W8.out) N8.out).trans W8.out) 0).trans (rfl : _ = some (Value.int .i64 wy))
          exact path1_calls p s2.sh r wy w9 okS bt b7 b8 hsh h1 h2 h3
        rintro e w9 ⟨ok3, hm3, hi3, hres⟩
        have M9 := Aside0.mk (M8.out.trans hm3)
        have I9 := Aside0.mk hi3
        have O9 := Aside0.mk (Kd.R_mono (Kd.R_step (Kd.R_bound O8.out) (fun k hk hlt => hm3.block k hlt hk.1.1.1)) (fun k hk => (⟨fun h => (hm3.fresh k h).elim hk.1.1.1 (fun h2 => by have := hk.2.2.1; omega), hk.1.1.2.1⟩ : ¬ ok3 k ∧ k ≠ bt)))
        have B9 := Aside0.mk ((hm3.block bt (blk_lt B8.out) N2.out).trans B8.out)
        have N9 : Aside0 (¬ ok3 bt) := ⟨fun h => (hm3.fresh bt h).elim N2.out (fun h2 => by have := blk_lt B8.out; omega)⟩
        clear hm3 hi3 O8 I8 M8 S8 B8 W8 N8 c0
        obtain ⟨o, t9⟩ := dres
        cases o with
        | wait =>
          have hh := HRES2.out
          injection hh with hh
          subst hh
          obtain rfl : e = .panicked waitP := hres
          exact ⟨rfl, ⟨⟨ok3, M9.out, I9.out, rfl⟩⟩⟩
        | ret r1 =>
          obtain ⟨v, rfl, rfl⟩ : ∃ v, e = .returned v ∧ v = .int .i64 r1 := hres
          have hh := HRES2.out
          simp only at hh
          have HH := Aside0.mk hh
          clear hh HRES2
          dsimp only
          have hlen : (acc ++ [(⟨r, n, wy⟩ : Stp)]).length = acc.length + 1 := by simp
          rw [hlen] at O9
          by_cases hr0 : r1 = 0
          · subst hr0
            go_wp2_with fail
            go_ret
            have hh := HH.out
            simp only [if_true] at hh
            injection hh with hh
            rw [← hh]
            exact ⟨⟨ok3, M9.out, I9.out, _, rfl, Kd.R_lower (Kd.R_mono O9.out (fun k hk => hk.1)) (Nat.le_of_eq hbb.symm)⟩⟩
          · have hb : (r1 == 0) = false := by simpa using hr0
            have HR0 := Aside0.mk hr0
            clear hr0
            go_wp2_with fail
            go_roundg g
            case rel =>
              have hh := HH.out
              rw [if_neg HR0.out] at hh
              exact ⟨⟨ok3, t9, acc ++ [⟨r, n, wy⟩], r1, rfl, O9.out, I9.out, M9.out, B9.out, N9.out, by have := L0.out; rw [hlen]; omega, hh⟩⟩
            case measure => omega
theorem path_calls (p tb : Nat) (work : Value) (me key : Int) (ok : Nat → Prop) (s : TS Ws) (w : World) (h : IsRun (shW p) tb work ok s w) (f : Nat) (hf : f < 900000) (res : Out (List Stp) × TS Ws) (hr : pathT key f s.sh.entry [] s = some res) :
    Calls Tryz.prog 114 #[taskV tb p me, .int .i64 key] w (TPost (shW p) tb work VSteps ok w res) :=
  (path_callsN p tb work me key ok s w h f hf res hr).mono (fun _ _ hp => hp.imp (fun _ _ _ _ hv => Kd.R_lower hv (Nat.zero_le _)))
def sizeOfNd (n : Nd) : Nat := if n.inner then n.ways.length else n.pairs.length
def leastOf (a : Int) (n : Nd) (root : Bool) : Int := if root then (if n.inner then 2 else 0) else a
def wrongOf (a : Int) (n : Nd) (root : Bool) : Int := if n.tagged then 1 else if (sizeOfNd n : Int) < leastOf a n root then 2 else 0
set_option maxHeartbeats 4000000 in
set_option maxRecDepth 100000 in
theorem mend_look (a : Int) (n : Nd) (root : Bool) (Ap Ak Ay : Option Addr) (cp ck cy : Nat) (w : World) (hb1 : n.pairs.length < 1000000) (hb2 : n.ways.length < 1000000) :
    Calls Tryz.prog 69 #[.int .i64 a, .agg #[.bool n.inner, .bool n.tagged, .slice Ap n.pairs.length cp, .slice Ak n.keys.length ck, .slice Ay n.ways.length cy], .bool root] w fun e w1 => e = .returned (.int .u8 (wrongOf a n root)) ∧ Below w.heap.size w w1 := by
  have HB := Aside0.mk (below_alloc (Below.refl w.heap.size w) (.cells #[.bool n.inner, .bool n.tagged, .slice Ap n.pairs.length cp, .slice Ak n.keys.length ck, .slice Ay n.ways.length cy] 116))
  cases hi : n.inner
  all_goals cases ht : n.tagged
  all_goals cases root
  all_goals
    rw [hi, ht] at HB
    have hw : ∀ rt, wrongOf a n rt = wrongOf a n rt := fun _ => rfl
    have HI := Aside0.mk hi
    have HT := Aside0.mk ht
    clear hi ht hw
    go_enter Tryz.func69, Tryz.ntmps69
    go_wp2_with fail
  all_goals
    go_ret
    refine ⟨ret_int ?_, HB.out⟩
    simp only [wrongOf, sizeOfNd, leastOf, HI.out, HT.out, if_true, Bool.false_eq_true, if_false] <;> first
      | rfl
      | (rw [if_pos (by omega)]; done)
      | (rw [if_neg (by omega)]; done)
def TMend6 : Bool × List (List Nat × List Nat) := (true, [([], []), ([], []), ([1], [1]), ([2], [2]), ([3], [3]), ([4], [4]), ([], []), ([], []), ([6, 7], [6, 7]), ([8], [8]), ([9], [9]), ([], []), ([11], [11]), ([5, 10, 12], [5, 10, 12]), ([0, 13, 0], [0]), ([13, 14, 0, 1, 2, 3, 4, 5, 6, 7, 8, 9, 10, 11, 12, 13, 14], [13])])
def BMend6 : List Nat := [0, 0, 2, 6, 14, 30, 0, 0, 192, 448, 960, 0, 2048, 8190, 16383, 32767]
theorem tabMend6 : rtab .any (opsOf Tryz.f74 6) = TMend6 := by kernel_rfl
theorem bitsMend6 : waitsOk TMend6.2 BMend6 = true := by kernel_rfl
def firstWrong (a : Int) : List Stp → Nat → Option (Nat × Int)
  | [], _ => none
  | s :: l, i => if wrongOf a s.node (i == 1) = 0 then firstWrong a l (i + 1) else some (i, wrongOf a s.node (i == 1))
def rightTo (a : Int) (l : List Stp) (k : Nat) : Prop := ∀ i s, 1 ≤ i → i < k → l[i]? = some s → wrongOf a s.node (i == 1) = 0
theorem kStp_cells {w : World} {s : Stp} {c : List Value} (h : kStp.K w s c) : ∃ Ap cp Ak ck Ay cy, c = [.int .i64 s.ref, .bool s.node.inner, .bool s.node.tagged, .slice Ap s.node.pairs.length cp, .slice Ak s.node.keys.length ck, .slice Ay s.node.ways.length cy, .int .i64 s.way] := by
  obtain ⟨_, _, rfl, rfl, _, _, rfl, ⟨_, _, rfl, rfl, _, _, rfl, rfl, _, _, rfl, ⟨Ap, cp, rfl, _⟩, _, _, rfl, ⟨Ak, ck, rfl, _⟩, ⟨Ay, cy, rfl, _⟩⟩, rfl⟩ := h
  exact ⟨Ap, cp, Ak, ck, Ay, cy, rfl⟩
structure MendAt (p tb : Nat) (work : Value) (me : Int) (bt : Nat) (ok : Nat → Prop) (w : World) (ok1 : Nat → Prop) (s1 : TS Ws) (l : List Stp) (v : Value) (wr : World) : Prop where
  run : IsRun (shW p) tb work ok1 s1 wr
  moves : Moves ok ok1 w wr
  box : wr.heap[bt]? = some (taskO tb p me)
  far : ¬ ok1 bt
  row : kStp.R 182 wr 0 (fun k => ¬ ok1 k) v l
theorem MendAt.below {p tb : Nat} {work : Value} {me : Int} {bt : Nat} {ok : Nat → Prop} {w : World} {ok1 : Nat → Prop} {s1 : TS Ws} {l : List Stp} {v : Value} {wr w2 : World} (h : MendAt p tb work me bt ok w ok1 s1 l v wr) (hb : Below wr.heap.size wr w2) : MendAt p tb work me bt ok w ok1 s1 l v w2 :=
  ⟨h.run.below (shW_shared p) hb, h.moves.below hb, blk_below h.box hb, h.far, Kd.R_below h.row hb⟩
set_option maxHeartbeats 4000000 in
set_option maxRecDepth 100000 in

theorem mend_right (p tb : Nat) (work : Value) (me key : Int) (ok : Nat → Prop) (s : TS Ws) (w : World) (h : IsRun (shW p) tb work ok s w) (f : Nat) (hf : f < 900000) (l : List Stp) (s1 : TS Ws) (hr : pathT key f s.sh.entry [] s = some (.ret l, s1)) (hl : l.length < 1000000) (hsm : ∀ (i : Nat) (q : Stp), l[i]? = some q → q.node.Small) (hw : rightTo s1.sh.a l l.length) :
    Calls Tryz.prog 74 #[taskV tb p me, .int .i64 key] w (TPost (shW p) tb work VBool ok w (.ret false, s1)) := by
  have h1 := h.below (shW_shared p) (below_alloc (Below.refl _ _) (taskO tb p me))
  have HN : Aside0 (¬ ok w.heap.size) := ⟨fun hk => by have := h.lt (shW_shared p) _ hk; omega⟩
  have HI := Aside0.mk h1
  have HM := Aside0.mk ((Moves.refl ok w).alloc (taskO tb p me))
  have HB := Aside0.mk (blk_new w (taskO tb p me))
  have HR := Aside0.mk hr
  have HW := Aside0.mk hw
  have HSM := Aside0.mk hsm
  have HLL := Aside0.mk hl
  unfold taskO at HI HM HB
  have HTV : taskV tb p me = .agg #[.pointer (some ⟨tb, 0, none⟩), .pointer (some ⟨p, 0, none⟩), .int .i64 me] := rfl
  rw [HTV]
  clear h h1 hr hw hsm hl HTV
  go_enter Tryz.func74, Tryz.ntmps74
  go_upto_region 1 with fail
  refine wp_loop_rounds 1 ?_
  rw [rounds_succ]
  generalize w.alloc (.cells #[.pointer (some ⟨tb, 0, none⟩), .pointer (some ⟨p, 0, none⟩), .int .i64 me] 122) = w1 at HI HM HB ⊢
  generalize hbb : w.heap.size = bt at HN HB ⊢
  have c0 := (blk_cell HB.out 0).trans (rfl : _ = some (Value.pointer (some ⟨tb, 0, none⟩)))
  have c1 := (blk_cell HB.out 1).trans (rfl : _ = some (Value.pointer (some ⟨p, 0, none⟩)))
  have c2 := (blk_cell HB.out 2).trans (rfl : _ = some (Value.int .i64 me))
  go_upto_region 2 with (go_at_call 114; refine (path_calls p tb work me key ok s _ HI.out f hf (.ret l, s1) HR.out).mono ?_; rintro e w2 ⟨ok1, hm, hi, v, rfl, hv⟩; obtain ⟨A, c, rfl⟩ := Kd.R_slice hv; have M2 := Aside0.mk (HM.out.trans hm); have I2 := Aside0.mk hi; have V2 := Aside0.mk hv; have B2 := Aside0.mk ((hm.block bt (blk_lt HB.out) HN.out).trans HB.out); have N2 : Aside0 (¬ ok1 bt) := ⟨fun h => (hm.fresh bt h).elim HN.out (fun h2 => by have := blk_lt HB.out; omega)⟩; clear hm hi hv)
  clear c0 c1 c2 HI HM HB HN
  have HE0 : Aside0 (MendAt p tb work me bt ok w ok1 s1 l (.slice A l.length c) w2) := ⟨⟨I2.out, M2.out, B2.out, N2.out, V2.out⟩⟩
  clear M2 I2 V2 B2 N2
  go_wp2_with fail
  go_loopw [6, 7, 8] (fun at_ what i wr => ∃ (k : Nat) (z : Int), 1 ≤ k ∧ i = .int .i64 k ∧ at_ = .int .i64 z ∧ what = .int .u8 0 ∧ (k = 1 ∨ k ≤ l.length) ∧ Aside0 (MendAt p tb work me bt ok w ok1 s1 l (.slice A l.length c) wr)) (fun _ _ i _ => l.length - (intOf i).toNat)
  case atStart => exact ⟨1, 0, Nat.le_refl _, rfl, rfl, rfl, .inl rfl, HE0⟩
  case round =>
    obtain ⟨k, z, hk1, rfl, rfl, rfl, hkl, HE⟩ := hrel
    clear HE0
    by_cases hlt : k < l.length
    · have d1 : decide ((k : Int) < (l.length : Int)) = true := decide_eq_true (by omega)
      have d2 : decide (k < l.length) = true := decide_eq_true hlt
      obtain ⟨q, hq⟩ : ∃ q, l[k]? = some q := ⟨l[k], List.getElem?_eq_getElem hlt⟩
      have HQ := Aside0.mk hq
      have HQS := Aside0.mk (HSM.out k q hq)
      have HQW : Aside0 (wrongOf s1.sh.a q.node ((k : Int) == 1) = 0) := ⟨by
        have := HW.out k q hk1 hlt hq
        have e : ((k : Int) == 1) = (k == 1) := by rw [Bool.eq_iff_iff]; simp; omega
        rw [e]; exact this⟩
      have hR := HE.out.row
      obtain ⟨g, rfl⟩ : ∃ g, A = some ⟨g, 0, none⟩ := by
        obtain ⟨g, cap, e1, _⟩ := Kd.R_form hR (by omega)
        injection e1 with e1 _ _
        exact ⟨g, e1⟩
      obtain ⟨cs, _, hM, hcc, _⟩ := Kd.R_elem hR q (k : Int) (by omega) (by omega)
      have hg : l.getD (k : Int).toNat q = q := by simp [List.getD_eq_getElem?_getD, hq]
      rw [hg] at hM
      obtain ⟨Ap, cp, Ak, ck, Ay, cy, rfl⟩ := kStp_cells (kStp.K_of_M hM)
      rw [show kStp.sz = 7 from rfl, Int.toNat_natCast] at hcc
      obtain ⟨_, hds, ⟨⟨_, _, _, _, _, _, hwa⟩, _⟩, _⟩ := HE.out.run.direct
      have HC := Aside0.mk (And.intro ((blk_cell HE.out.box 1).trans (rfl : _ = some (Value.pointer (some ⟨p, 0, none⟩)))) (And.intro ((blk_cell hwa.box 3).trans (rfl : _ = some (Value.int .i64 s1.sh.a))) (And.intro (hcc 1 _ rfl) (And.intro (hcc 2 _ rfl) (And.intro (hcc 3 _ rfl) (And.intro (hcc 4 _ rfl) (hcc 5 _ rfl)))))))
      have b0 : (0 : Int) ≤ (k : Int) := by omega
      have b1 : (k : Int) < (l.length : Int) := by omega
      clear hR hcc hM hwa hds hg hq
      go_upto_region 6 with fail
      refine start_ (n := 16) (S := fun w' => w'.cell? ⟨bt, 1, none⟩ = some (.pointer (some ⟨p, 0, none⟩)) ∧ w'.cell? ⟨p, 3, none⟩ = some (.int .i64 s1.sh.a) ∧ w'.cell? ⟨g, k * 7 + 1, none⟩ = some (.bool q.node.inner) ∧ w'.cell? ⟨g, k * 7 + 1 + 1, none⟩ = some (.bool q.node.tagged) ∧ w'.cell? ⟨g, k * 7 + 1 + 2, none⟩ = some (.slice Ap q.node.pairs.length cp) ∧ w'.cell? ⟨g, k * 7 + 1 + 3, none⟩ = some (.slice Ak q.node.keys.length ck) ∧ w'.cell? ⟨g, k * 7 + 1 + 4, none⟩ = some (.slice Ay q.node.ways.length cy)) (ds := [13]) #[N_,N_,N_,N_,N_,N_,N_,N_,N_,N_,N_,N_,N_,N_,N_,N_] (by kernel_rfl) rfl rfl HC.out (fun hHeld => ?_); refine with_tabW tabMend6 bitsMend6 (fun HT_ HW_ => ?_)
      have HE := Aside0.mk (HE.out.below (below_drew (Below.refl _ _)))
      clear HC
      generalize World.drew _ = w3 at HE hHeld ⊢
      refine pure_ (i := 0) (N := (some 25)) (v := ?_) (a' := ?_) #[Y_,N_,N_,N_,N_,N_,N_,N_,N_,N_,N_,N_,N_,N_,N_,N_] rfl rfl (any_of HT_.out (by kernel_rfl)) (fun _ _ _ h => h) (Or.inl ⟨by rfl, ?_⟩) ?_ ?_
      rotate_left; · intro w'; go_simp; with_reducible rfl
      rotate_left; · simp only [Act.put, u1_, u2_, u3_, i64_w, i32_w]; rfl
      refine pure_ (i := 1) (N := (some 26)) (v := ?_) (a' := ?_) #[Y_,Y_,N_,N_,N_,N_,N_,N_,N_,N_,N_,N_,N_,N_,N_,N_] rfl rfl (any_of HT_.out (by kernel_rfl)) (fun _ _ _ h => h) (Or.inl ⟨by rfl, ?_⟩) ?_ ?_
      rotate_left; · intro w'; go_simp; with_reducible rfl
      rotate_left; · simp only [Act.put, u1_, u2_, u3_, i64_w, i32_w]; rfl
      refine take_ (i := 2) (N := (some 27)) (v := ?_) (a' := ?_) #[Y_,Y_,Y_,N_,N_,N_,N_,N_,N_,N_,N_,N_,N_,N_,N_,N_] rfl rfl (take_ofW HT_.out HW_.out (by kernel_rfl)) (fun _ _ _ h => h) (Or.inl ⟨by rfl, ?_⟩) hHeld ?_ ?_
      rotate_left; · rintro w' ⟨y0, y1, y2, y3, y4, y5, y6⟩; go_simp; with_reducible rfl
      rotate_left; · simp only [Act.put, u1_, u2_, u3_, i64_w, i32_w]; rfl
      refine pure_ (i := 3) (N := (some 28)) (v := ?_) (a' := ?_) #[Y_,Y_,Y_,Y_,N_,N_,N_,N_,N_,N_,N_,N_,N_,N_,N_,N_] rfl rfl (any_of HT_.out (by kernel_rfl)) (fun _ _ _ h => h) (Or.inl ⟨by rfl, ?_⟩) ?_ ?_
      rotate_left; · intro w'; go_simp; with_reducible rfl
      rotate_left; · simp only [Act.put, u1_, u2_, u3_, i64_w, i32_w]; rfl
      refine pure_ (i := 4) (N := (some 29)) (v := ?_) (a' := ?_) #[Y_,Y_,Y_,Y_,Y_,N_,N_,N_,N_,N_,N_,N_,N_,N_,N_,N_] rfl rfl (any_of HT_.out (by kernel_rfl)) (fun _ _ _ h => h) (Or.inl ⟨by rfl, ?_⟩) ?_ ?_
      rotate_left; · intro w'; go_simp; with_reducible rfl
      rotate_left; · simp only [Act.put, u1_, u2_, u3_, i64_w, i32_w]; rfl
      refine take_ (i := 5) (N := (some 30)) (v := ?_) (a' := ?_) #[Y_,Y_,Y_,Y_,Y_,Y_,N_,N_,N_,N_,N_,N_,N_,N_,N_,N_] rfl rfl (take_ofW HT_.out HW_.out (by kernel_rfl)) (fun _ _ _ h => h) (Or.inl ⟨by rfl, ?_⟩) hHeld ?_ ?_
      rotate_left; · rintro w' ⟨y0, y1, y2, y3, y4, y5, y6⟩; go_simp; with_reducible rfl
      rotate_left; · simp only [Act.put, u1_, u2_, u3_, i64_w, i32_w]; rfl
      refine pure_ (i := 6) (N := (some 31)) (v := ?_) (a' := ?_) #[Y_,Y_,Y_,Y_,Y_,Y_,Y_,N_,N_,N_,N_,N_,N_,N_,N_,N_] rfl rfl (any_of HT_.out (by kernel_rfl)) (fun _ _ _ h => h) (Or.inl ⟨by rfl, ?_⟩) ?_ ?_
      rotate_left; · intro w'; go_simp; with_reducible rfl
      rotate_left; · simp only [Act.put, u1_, u2_, u3_, i64_w, i32_w]; rfl
      refine pure_ (i := 7) (N := (some 32)) (v := ?_) (a' := ?_) #[Y_,Y_,Y_,Y_,Y_,Y_,Y_,Y_,N_,N_,N_,N_,N_,N_,N_,N_] rfl rfl (any_of HT_.out (by kernel_rfl)) (fun _ _ _ h => h) (Or.inl ⟨by rfl, ?_⟩) ?_ ?_
      rotate_left; · intro w'; go_simp; with_reducible rfl
      rotate_left; · simp only [Act.put, u1_, u2_, u3_, i64_w, i32_w]; rfl
      refine pure_ (i := 8) (N := (some 33)) (v := ?_) (a' := ?_) #[Y_,Y_,Y_,Y_,Y_,Y_,Y_,Y_,Y_,N_,N_,N_,N_,N_,N_,N_] rfl rfl (any_of HT_.out (by kernel_rfl)) (fun _ _ _ h => h) (Or.inl ⟨by rfl, ?_⟩) ?_ ?_
      rotate_left; · intro w'; go_simp; with_reducible rfl
      rotate_left; · simp only [Act.put, u1_, u2_, u3_, i64_w, i32_w]; rfl
      refine pure_ (i := 9) (N := (some 34)) (v := ?_) (a' := ?_) #[Y_,Y_,Y_,Y_,Y_,Y_,Y_,Y_,Y_,Y_,N_,N_,N_,N_,N_,N_] rfl rfl (any_of HT_.out (by kernel_rfl)) (fun _ _ _ h => h) (Or.inl ⟨by rfl, ?_⟩) ?_ ?_
      rotate_left; · intro w'; go_simp; with_reducible rfl
      rotate_left; · simp only [Act.put, u1_, u2_, u3_, i64_w, i32_w]; rfl
      refine take_ (i := 10) (N := (some 35)) (v := ?_) (a' := ?_) #[Y_,Y_,Y_,Y_,Y_,Y_,Y_,Y_,Y_,Y_,Y_,N_,N_,N_,N_,N_] rfl rfl (take_ofW HT_.out HW_.out (by kernel_rfl)) (fun _ _ _ h => h) (Or.inl ⟨by rfl, ?_⟩) hHeld ?_ ?_
      rotate_left; · rintro w' ⟨y0, y1, y2, y3, y4, y5, y6⟩; go_simp; with_reducible rfl
      rotate_left; · simp only [Act.put, u1_, u2_, u3_, i64_w, i32_w]; rfl
      refine pure_ (i := 11) (N := (some 36)) (v := ?_) (a' := ?_) #[Y_,Y_,Y_,Y_,Y_,Y_,Y_,Y_,Y_,Y_,Y_,Y_,N_,N_,N_,N_] rfl rfl (any_of HT_.out (by kernel_rfl)) (fun _ _ _ h => h) (Or.inl ⟨by rfl, ?_⟩) ?_ ?_
      rotate_left; · intro w'; go_simp; with_reducible rfl
      rotate_left; · simp only [Act.put, u1_, u2_, u3_, i64_w, i32_w]; rfl
      refine pure_ (i := 12) (N := (some 37)) (v := ?_) (a' := ?_) #[Y_,Y_,Y_,Y_,Y_,Y_,Y_,Y_,Y_,Y_,Y_,Y_,Y_,N_,N_,N_] rfl rfl (any_of HT_.out (by kernel_rfl)) (fun _ _ _ h => h) (Or.inl ⟨by rfl, ?_⟩) ?_ ?_
      rotate_left; · intro w'; go_simp; with_reducible rfl
      rotate_left; · simp only [Act.put, u1_, u2_, u3_, i64_w, i32_w]; rfl
      refine last_ (i := 13) (N := (some 38)) #[Y_,Y_,Y_,Y_,Y_,Y_,Y_,Y_,Y_,Y_,Y_,Y_,Y_,Y_,N_,N_] rfl rfl (one_of HT_.out (by kernel_rfl)) (by decide) (fun K_ hK => ?_)
      refine call_ 69 #[.int .i64 s1.sh.a, .agg #[.bool q.node.inner, .bool q.node.tagged, .slice Ap q.node.pairs.length cp, .slice Ak q.node.keys.length ck, .slice Ay q.node.ways.length cy], .bool ((k : Int) == 1)] (by rfl) rfl ?hrun13 ?_
      (case hrun13 => first | (go_simp; done) | (go_simp; exact enters Tryz.func69 (by kernel_rfl) rfl _ _))
      refine (mend_look s1.sh.a q.node ((k : Int) == 1) Ap Ak Ay cp ck cy _ HQS.out.pairs HQS.out.ways).mono ?_
      rintro e w4 ⟨rfl, hb4⟩
      have HE4 := Aside0.mk (HE.out.below hb4)
      clear hb4
      refine ⟨_, rfl, ?_⟩
      refine hK.out _ _ ?_
      clear hK K_
      refine norm_ (a' := ?_) ?_ ?_
      rotate_left; · show Act.put _ (some 38) _ = _; simp only [Act.put, u1_, u2_, u3_, i64_w, i32_w]; rfl
      refine pure_ (i := 14) (N := (some 6)) (v := ?_) (a' := ?_) #[Y_,Y_,Y_,Y_,Y_,Y_,Y_,Y_,Y_,Y_,Y_,Y_,Y_,Y_,Y_,N_] rfl rfl (any_of HT_.out (by kernel_rfl)) (fun _ _ _ h => h) (Or.inl ⟨by rfl, ?_⟩) ?_ ?_
      rotate_left; · intro w'; go_simp; with_reducible rfl
      rotate_left; · simp only [Act.put, u1_, u2_, u3_, i64_w, i32_w]; rfl
      refine pure_ (i := 15) (N := (some 7)) (v := ?_) (a' := ?_) #[Y_,Y_,Y_,Y_,Y_,Y_,Y_,Y_,Y_,Y_,Y_,Y_,Y_,Y_,Y_,Y_] rfl rfl (any_of HT_.out (by kernel_rfl)) (fun _ _ _ h => h) (Or.inl ⟨by rfl, ?_⟩) ?_ ?_
      rotate_left; · intro w'; go_simp; with_reducible rfl
      rotate_left; · simp only [Act.put, u1_, u2_, u3_, i64_w, i32_w]; rfl
      refine done_ (done_of HT_.out (by kernel_rfl)) ?_
      rw [HQW.out]
      clear hHeld
      have HE := HE4
      clear HE4
      have hb5 : (k : Int) + 1 ≤ 9000000 := by have := HLL.out; omega
      go_wp2_with fail
      go_roundw
      case rel => exact ⟨k + 1, _, by omega, by go_num, rfl, rfl, .inr (by omega), HE⟩
      case measure => simp [intOf]; omega
    · have d1 : decide ((k : Int) < (l.length : Int)) = false := decide_eq_false (by omega)
      have d2 : decide (k < l.length) = false := decide_eq_false hlt
      go_wp2_with fail
      go_ret
      exact ⟨⟨ok1, HE.out.moves, HE.out.run, _, rfl, rfl⟩⟩
set_option maxHeartbeats 4000000 in
set_option maxRecDepth 100000 in

theorem mend_wait (p tb : Nat) (work : Value) (me key : Int) (ok : Nat → Prop) (s : TS Ws) (w : World) (h : IsRun (shW p) tb work ok s w) (f : Nat) (hf : f < 900000) (s1 : TS Ws) (hr : pathT key f s.sh.entry [] s = some (.wait, s1)) :
    Calls Tryz.prog 74 #[taskV tb p me, .int .i64 key] w (TPost (shW p) tb work VBool ok w (.wait, s1)) := by
  have h1 := h.below (shW_shared p) (below_alloc (Below.refl _ _) (taskO tb p me))
  have HI := Aside0.mk h1
  have HM := Aside0.mk ((Moves.refl ok w).alloc (taskO tb p me))
  have HB := Aside0.mk (blk_new w (taskO tb p me))
  have HR := Aside0.mk hr
  unfold taskO at HI HM HB
  have HTV : taskV tb p me = .agg #[.pointer (some ⟨tb, 0, none⟩), .pointer (some ⟨p, 0, none⟩), .int .i64 me] := rfl
  rw [HTV]
  clear h h1 hr HTV
  go_enter Tryz.func74, Tryz.ntmps74
  go_upto_region 1 with fail
  refine wp_loop_rounds 1 ?_
  rw [rounds_succ]
  generalize w.alloc (.cells #[.pointer (some ⟨tb, 0, none⟩), .pointer (some ⟨p, 0, none⟩), .int .i64 me] 122) = w1 at HI HM HB ⊢
  generalize hbb : w.heap.size = bt at HB ⊢
  have c0 := (blk_cell HB.out 0).trans (rfl : _ = some (Value.pointer (some ⟨tb, 0, none⟩)))
  have c1 := (blk_cell HB.out 1).trans (rfl : _ = some (Value.pointer (some ⟨p, 0, none⟩)))
  have c2 := (blk_cell HB.out 2).trans (rfl : _ = some (Value.int .i64 me))
  go_wp2_with fail
  refine (path_calls p tb work me key ok s _ HI.out f hf (.wait, s1) HR.out).mono ?_
  rintro e w2 ⟨ok1, hm, hi, hres⟩
  obtain rfl : e = .panicked waitP := hres
  exact ⟨rfl, ⟨⟨ok1, HM.out.trans hm, hi, rfl⟩⟩⟩
def mendT0 (key : Int) (f : Nat) : Pr Ws Bool := fun s => match pathT key f s.sh.entry [] s with
  | none => none
  | some (.wait, s1) => some (.wait, s1)
  | some (.ret l, s1) => if l.length < 1000000 ∧ (l.all fun q => decide (q.node.pairs.length < 1000000) && decide (q.node.keys.length < 1000000) && decide (q.node.ways.length < 1000000)) = true ∧ (firstWrong s1.sh.a (l.drop 1) 1).isNone = true then some (.ret false, s1) else none
theorem firstWrong_none {a : Int} : ∀ (l : List Stp) (i : Nat), (firstWrong a l i).isNone = true → ∀ (j : Nat) (s : Stp), l[j]? = some s → wrongOf a s.node (i + j == 1) = 0
  | [], _, _, _, _, h => by simp at h
  | q :: l, i, hn, j, s, h => by
    unfold firstWrong at hn
    by_cases hw : wrongOf a q.node (i == 1) = 0
    · rw [if_pos hw] at hn
      cases j with
      | zero =>
        simp at h
        subst h
        exact hw
      | succ j =>
        have := firstWrong_none l (i + 1) hn j s (by simpa using h)
        rw [show i + (j + 1) = i + 1 + j by omega]
        exact this
    · rw [if_neg hw] at hn
      cases hn
theorem mend0_calls (p tb : Nat) (work : Value) (me key : Int) (ok : Nat → Prop) (s : TS Ws) (w : World) (h : IsRun (shW p) tb work ok s w) (f : Nat) (hf : f < 900000) (res : Out Bool × TS Ws) (hr : mendT0 key f s = some res) :
    Calls Tryz.prog 74 #[taskV tb p me, .int .i64 key] w (TPost (shW p) tb work VBool ok w res) := by
  unfold mendT0 at hr
  cases hp : pathT key f s.sh.entry [] s with
  | none => rw [hp] at hr; cases hr
  | some r =>
    obtain ⟨o, s1⟩ := r
    rw [hp] at hr
    cases o with
    | wait =>
      injection hr with hr
      subst hr
      exact mend_wait p tb work me key ok s w h f hf s1 hp
    | ret l =>
      simp only at hr
      by_cases hc : l.length < 1000000 ∧ (l.all fun q => decide (q.node.pairs.length < 1000000) && decide (q.node.keys.length < 1000000) && decide (q.node.ways.length < 1000000)) = true ∧ (firstWrong s1.sh.a (l.drop 1) 1).isNone = true
      · rw [if_pos hc] at hr
        injection hr with hr
        subst hr
        refine mend_right p tb work me key ok s w h f hf l s1 hp hc.1 (fun i q hq => ?_) (fun i q h1 h2 hq => ?_)
        · have := List.all_eq_true.1 hc.2.1 q (List.mem_of_getElem? hq)
          simp only [Bool.and_eq_true, decide_eq_true_eq] at this
          exact ⟨this.1.1, this.1.2, this.2⟩
        · have := firstWrong_none _ _ hc.2.2 (i - 1) q (by rw [List.getElem?_drop, show 1 + (i - 1) = i by omega]; exact hq)
          rwa [show 1 + (i - 1) = i by omega] at this
      · rw [if_neg hc] at hr
        cases hr
end Go.Proofs.YtelmidpepojbdaaGreat.Tower
namespace Go.Proofs.YtelmidpepojbdaaGreat.Tower
open Go Go.RowKit Go.Proofs.YtelmidpepojbdaaGreatW.PrintWords Go.Proofs.YtelmidpepojbdaaGreatW.PrintLast Go.Proofs.YtelmidpepojbdaaGreatW.PrintMore Go.Proofs.YtelmidpepojbdaaGreat.Own
set_option linter.unusedVariables false
set_option linter.unusedSimpArgs false
structure Idle {X : Type} (Sh : X → (Nat → Prop) → World → Prop) (tb : Nat) (work : Value) (ok : Nat → Prop) (x : X) (th : Th) (w : World) : Prop where
  out : ∃ okT okS, (∀ k, ok k ↔ okT k ∨ okS k) ∧ (∀ k, okT k → ¬ okS k) ∧ IsThread okT tb work th w ∧ Sh x okS w
section
variable {X : Type} {Sh : X → (Nat → Prop) → World → Prop} {tb : Nat} {work : Value} {ok : Nat → Prop} {x : X} {th : Th} {w w1 : World}
theorem Idle.lt (S : Shared Sh) (h : Idle Sh tb work ok x th w) : ∀ k, ok k → k < w.heap.size := fun k hk => by
  obtain ⟨okT, okS, h1, h2, h3, h4⟩ := h.out
  rcases (h1 k).1 hk with hk | hk
  · exact h3.lt k hk
  · exact S.lt h4 k hk
theorem Idle.step (S : Shared Sh) (h : Idle Sh tb work ok x th w) (hs : w.heap.size ≤ w1.heap.size) (hm : ∀ k, ok k → k < w.heap.size → w1.heap[k]? = w.heap[k]?) : Idle Sh tb work ok x th w1 := by
  obtain ⟨okT, okS, h1, h2, h3, h4⟩ := h.out
  exact ⟨okT, okS, h1, h2, h3.step hs (fun k hk => hm k ((h1 k).2 (.inl hk))), S.step h4 hs (fun k hk => hm k ((h1 k).2 (.inr hk)))⟩
theorem Idle.below (S : Shared Sh) (h : Idle Sh tb work ok x th w) (hb : Below w.heap.size w w1) : Idle Sh tb work ok x th w1 := h.step S hb.size (fun k _ hlt => hb.block k hlt)
end
def VNums (N : Nat) (l : List Int) (ok : Nat → Prop) (v : Value) (w : World) : Prop := (Kd.int .i64).R 2 w N (fun k => ¬ ok k) v l
theorem moves_iff {ok ok1 okA okB : Nat → Prop} {w w1 : World} (h : Moves ok ok1 w w1) (hA : ∀ k, ok k ↔ okA k) (hB : ∀ k, ok1 k ↔ okB k) : Moves okA okB w w1 :=
  ⟨h.os, h.tape, h.output, h.size, fun k hk hn => h.block k hk (fun h1 => hn ((hA k).1 h1)), fun k hk => (h.fresh k ((hB k).2 hk)).imp (hA k).1 id⟩
def thOf (log : List Int) (at_ : Int) (spent : Bool) : Th := ⟨log, at_, spent, false, false, []⟩
structure StepPost {X : Type} (Sh : X → (Nat → Prop) → World → Prop) (tb : Nat) (work : Value) (ok : Nat → Prop) (res : Out (List Int) × TS X) (w : World) (e : Ending) (w1 : World) : Prop where
  out : ∃ ok1, Moves ok ok1 w w1 ∧ res.2.log.length < 1000000 ∧
    match res.1 with
    | .ret l => e = .returned (.bool true) ∧ Idle Sh tb work ok1 res.2.sh ⟨res.2.log, res.2.at_, res.2.spent, false, true, l⟩ w1
    | .wait => e = .returned (.bool false) ∧ Idle Sh tb work ok1 res.2.sh (thOf res.2.log res.2.at_ res.2.spent) w1
theorem step_task {X : Type} {Sh : X → (Nat → Prop) → World → Prop} (S : Shared Sh) (tb : Nat) (wf : FuncId) (wc : Array Value) (ok : Nat → Prop) (x : X) (log : List Int) (at_ : Int) (spent : Bool) (w : World) (Bx : (Nat → Prop) → World → Prop) (tw : Pr X (List Int))
    (h : Idle Sh tb (.func (.func wf) #[] wc) ok x (thOf log at_ spent) w) (hl : log.length < 1000000)
    (hBm : ∀ ok ok1 w w1, Bx ok w → Moves ok ok1 w w1 → Bx ok1 w1) (hB : Bx ok w)
    (he : ∀ w1 : World, (callFunc wf (#[.pointer (some ⟨tb, 0, none⟩)] ++ wc)).run Tryz.prog w1 = .ok (.enter wf (#[.pointer (some ⟨tb, 0, none⟩)] ++ wc)) w1)
    (hw : ∀ ok s w1 res, IsRun Sh tb (.func (.func wf) #[] wc) ok s w1 → Bx ok w1 → tw s = some res → Calls Tryz.prog wf (#[.pointer (some ⟨tb, 0, none⟩)] ++ wc) w1 (TPost Sh tb (.func (.func wf) #[] wc) (VNums w1.heap.size) ok w1 res))
    (res : Out (List Int) × TS X) (hr : tw ⟨x, log, 0, false⟩ = some res) :
    Calls Tryz.prog 75 #[.pointer (some ⟨tb, 0, none⟩)] w (StepPost Sh tb (.func (.func wf) #[] wc) ok res w) := by
  obtain ⟨okT, okS, h1, h2, h3, h4⟩ := h.out
  refine (step_runs okT okS tb wf wc (thOf log at_ spent) w (fun r t ok1 w1 => t = ⟨res.2.log, res.2.at_, res.2.spent, true, false, []⟩ ∧ Sh res.2.sh ok1 w1 ∧ res.2.log.length < 1000000 ∧ (match res.1 with | .ret l => r = some l | .wait => r = none)) h3 rfl h2 (S.lt h4) (fun r t ok1 w1 w2 hq hs hm => ⟨hq.1, S.step hq.2.1 hs hm, hq.2.2⟩) he (fun w1 hm ht => ?_)).mono ?_
  · have hmm : Moves ok ok w w1 := moves_same (ok1 := ok) (okB := ok) hm (fun k hk => (h1 k).2 (.inl hk))
    have hrun : IsRun Sh tb (.func (.func wf) #[] wc) ok ⟨x, log, 0, false⟩ w1 := ⟨Nat.zero_le _, hl, okT, okS, h1, h2, ht, S.step h4 hm.size (fun k hk hlt => hm.block k hlt (fun h5 => h2 k h5 hk))⟩
    refine (hw ok _ w1 res hrun (hBm _ _ _ _ hB hmm) hr).mono ?_
    rintro e w2 ⟨ok1, hm2, hr2, hres⟩
    obtain ⟨okT2, okS2, g1, g2, g3, g4⟩ := hr2.out
    refine ⟨⟨(match res.1 with | .ret l => some l | .wait => none), _, okT2, okS2, g3, g2, moves_iff hm2 h1 g1, ⟨rfl, g4, hr2.short, ?_⟩, S.lt g4, ?_⟩⟩
    · cases res.1 <;> rfl
    · cases hres1 : res.1 with
      | ret l =>
        rw [hres1] at hres
        obtain ⟨v, rfl, hv⟩ := hres
        exact .inr ⟨v, l, rfl, rfl, Kd.R_mono hv (fun k hk => ⟨fun h5 => hk ((g1 k).2 (.inl h5)), fun h5 => hk ((g1 k).2 (.inr h5))⟩)⟩
      | wait =>
        rw [hres1] at hres
        exact .inl ⟨rfl, hres⟩
  · rintro e w2 ⟨r, th2, okT3, okS3, rfl, ht, hd, hm, ⟨rfl, hs, hlg, hrr⟩, hb⟩
    refine ⟨⟨fun k => okT3 k ∨ okS3 k, moves_iff hm (fun k => (h1 k).symm) (fun _ => Iff.rfl), hlg, ?_⟩⟩
    cases hres1 : res.1 with
    | ret l =>
      rw [hres1] at hrr
      simp only at hrr
      subst hrr
      exact ⟨rfl, ⟨okT3, okS3, fun _ => Iff.rfl, hd, ht, hs⟩⟩
    | wait =>
      rw [hres1] at hrr
      simp only at hrr
      subst hrr
      exact ⟨rfl, ⟨okT3, okS3, fun _ => Iff.rfl, hd, ht, hs⟩⟩
def aloneT {X : Type} (tw : Pr X (List Int)) : Nat → X → List Int → Option (Option (List Int) × Nat × X × List Int)
  | 0, x, log => some (none, 0, x, log)
  | f + 1, x, log => match tw ⟨x, log, 0, false⟩ with
    | none => none
    | some (.ret l, s) => some (some l, f, s.sh, s.log)
    | some (.wait, s) => aloneT tw f s.sh s.log
structure AlonePost {X : Type} (Sh : X → (Nat → Prop) → World → Prop) (tb : Nat) (work : Value) (ok : Nat → Prop) (res : Option (List Int) × Nat × X × List Int) (w : World) (e : Ending) (w1 : World) : Prop where
  out : ∃ ok1, Moves ok ok1 w w1 ∧ res.2.2.2.length < 1000000 ∧ ∃ at_ spent,
    match res.1 with
    | some l => Idle Sh tb work ok1 res.2.2.1 ⟨res.2.2.2, at_, spent, false, true, l⟩ w1 ∧ ∃ v, e = .returned (.tuple #[v, .int .i64 (3000 - res.2.1 : Nat), .bool true]) ∧ (Kd.int .i64).R 2 w1 w.heap.size (fun k => ¬ ok1 k) v l
    | none => Idle Sh tb work ok1 res.2.2.1 (thOf res.2.2.2 at_ spent) w1 ∧ e = .returned (.tuple #[.slice none 0 0, .int .i64 3000, .bool false])
structure AloneAt {X : Type} (Sh : X → (Nat → Prop) → World → Prop) (tb : Nat) (work : Value) (ok : Nat → Prop) (tw : Pr X (List Int)) (res : Option (List Int) × Nat × X × List Int) (w : World) (Bx : (Nat → Prop) → World → Prop) (f : Nat) (wr : World) : Prop where
  out : ∃ ok1 x log at_ spent, Idle Sh tb work ok1 x (thOf log at_ spent) wr ∧ Moves ok ok1 w wr ∧ log.length < 1000000 ∧ Bx ok1 wr ∧ f ≤ 3000 ∧ aloneT tw f x log = some res
set_option maxHeartbeats 4000000 in
set_option maxRecDepth 100000 in
theorem alone_calls {X : Type} {Sh : X → (Nat → Prop) → World → Prop} (S : Shared Sh) (tb : Nat) (wf : FuncId) (wc : Array Value) (ok : Nat → Prop) (x : X) (log : List Int) (at_ : Int) (spent : Bool) (w : World) (Bx : (Nat → Prop) → World → Prop) (tw : Pr X (List Int))
    (h : Idle Sh tb (.func (.func wf) #[] wc) ok x (thOf log at_ spent) w) (hl : log.length < 1000000)
    (hBm : ∀ ok ok1 w w1, Bx ok w → Moves ok ok1 w w1 → Bx ok1 w1) (hB : Bx ok w)
    (he : ∀ w1 : World, (callFunc wf (#[.pointer (some ⟨tb, 0, none⟩)] ++ wc)).run Tryz.prog w1 = .ok (.enter wf (#[.pointer (some ⟨tb, 0, none⟩)] ++ wc)) w1)
    (hw : ∀ ok s w1 res, IsRun Sh tb (.func (.func wf) #[] wc) ok s w1 → Bx ok w1 → tw s = some res → Calls Tryz.prog wf (#[.pointer (some ⟨tb, 0, none⟩)] ++ wc) w1 (TPost Sh tb (.func (.func wf) #[] wc) (VNums w1.heap.size) ok w1 res))
    (hout : ∀ l f x log, aloneT tw 3000 x log = some (some l, f) → l.length < 1000000)
    (res : Option (List Int) × Nat × X × List Int) (hr : aloneT tw 3000 x log = some res) :
    Calls Tryz.prog 19 #[.pointer (some ⟨tb, 0, none⟩)] w (AlonePost Sh tb (.func (.func wf) #[] wc) ok res w) := by
  have HA : Aside0 (AloneAt Sh tb (.func (.func wf) #[] wc) ok tw res w Bx 3000 w) := ⟨⟨ok, x, log, at_, spent, h, Moves.refl _ _, hl, hB, Nat.le_refl _, hr⟩⟩
  have HBM := Aside0.mk hBm
  have HE := Aside0.mk he
  have HW := Aside0.mk hw
  have HO := Aside0.mk (hout · · x log)
  have HRR := Aside0.mk hr
  clear h hl hBm hB he hw hout hr
  go_enter Tryz.func19, Tryz.ntmps19
  go_wp2_with fail
  go_loopg [5] 3000 (fun g n wr => n = .int .i64 (3000 - g : Nat) ∧ Aside0 (AloneAt Sh tb (.func (.func wf) #[] wc) ok tw res w Bx g wr))
  case atStart => exact ⟨rfl, HA⟩
  case round =>
    clear HA
    obtain ⟨rfl, HA⟩ := hrel
    obtain ⟨ok1, x1, log1, at1, sp1, hI, hM, hlg, hbx, hf, hr⟩ := HA.out.out
    cases gk with
    | zero =>
      injection hr with hr
      subst hr
      have hI' := Aside0.mk hI
      have hM' := Aside0.mk hM
      have hL' := Aside0.mk hlg
      clear hI hM hlg hbx hf HA HRR HO
      go_wp2_with fail
      go_ret3
      exact ⟨⟨ok1, hM'.out, hL'.out, at1, sp1, hI'.out, rfl⟩⟩
    | succ g =>
      have e1 : (((3000 - (g + 1) : Nat)) : Int) < 3000 := by omega
      have d1 : decide ((((3000 - (g + 1) : Nat)) : Int) < 3000) = true := decide_eq_true e1
      obtain ⟨m, hm⟩ : ∃ m, m = 3000 - (g + 1) := ⟨_, rfl⟩
      rw [← hm] at d1 e1 ⊢
      have HM := Aside0.mk hm
      have em : m + 1 = 3000 - g := by omega
      have EM := Aside0.mk em
      unfold aloneT at hr
      cases hs : tw ⟨x1, log1, 0, false⟩ with
      | none => rw [hs] at hr; cases hr
      | some sres =>
        rw [hs] at hr
        have HR := Aside0.mk hr
        have HST := Aside0.mk (step_task S tb wf wc ok1 x1 log1 at1 sp1 wr Bx tw hI hlg HBM.out hbx HE.out HW.out sres hs)
        have M0 := Aside0.mk hM
        have BX := Aside0.mk hbx
        have FF := Aside0.mk hf
        clear hI hM hlg hbx hf HA hr hs hm em
        go_upto_region 4 with fail
        go_wp2_with fail
        refine HST.out.mono ?_
        rintro e w2 ⟨ok2, hm2, hl2, hp2⟩
        have M2 := Aside0.mk (M0.out.trans hm2)
        have BX2 := Aside0.mk (HBM.out _ _ _ _ BX.out hm2)
        have L2 := Aside0.mk hl2
        clear hm2 hl2 HST
        obtain ⟨o, s2⟩ := sres
        cases o with
        | wait =>
          obtain ⟨rfl, hi⟩ := hp2
          have I2 := Aside0.mk hi
          clear hi
          dsimp only
          go_wp2_with fail
          go_roundg g
          case rel => exact ⟨by rw [← EM.out]; go_num, ⟨⟨ok2, _, _, _, _, I2.out, M2.out, L2.out, BX2.out, by have := FF.out; omega, HR.out⟩⟩⟩
          case measure => omega
        | ret l =>
          obtain ⟨rfl, hi⟩ := hp2
          have hr := HR.out
          injection hr with hr
          subst hr
          have I2 := Aside0.mk hi
          have HLL : Aside0 (l.length < 1000000) := ⟨HO.out l _ HRR.out⟩
          obtain ⟨okT, okS, h1, h2, h3, h4⟩ := hi.out
          have HOUT := Aside0.mk (out_calls w2 h3 rfl HLL.out)
          clear hi h1 h2 h3 h4 HR HRR HO
          dsimp only
          go_wp2_with (go_at_call 66; refine HOUT.out.mono ?_; rintro e w3 ⟨v, rfl, hv, hb⟩; have V3 := Aside0.mk hv; have B3 := Aside0.mk hb; clear hv hb)
          go_ret3
          refine ⟨⟨ok2, M2.out.below B3.out, L2.out, _, _, I2.out.below S B3.out, v, ?_, ?_⟩⟩
          · have e3 : ((m : Int) + 1) = ((3000 - g : Nat) : Int) := by have := EM.out; omega
            rw [← e3]; rfl
          · exact Kd.R_lower (Kd.R_mono (Kd.R_bound V3.out) (fun k hk hk2 => by have := I2.out.lt S k hk2; have := hk.1; omega)) M2.out.size
end Go.Proofs.YtelmidpepojbdaaGreat.Tower
namespace Go.Proofs.YtelmidpepojbdaaGreat.Tower
open Go Go.RowKit Go.Proofs.YtelmidpepojbdaaGreatW.PrintWords Go.Proofs.YtelmidpepojbdaaGreatW.PrintLast Go.Proofs.YtelmidpepojbdaaGreatW.PrintMore Go.Proofs.YtelmidpepojbdaaGreat.Own
set_option linter.unusedVariables false
set_option linter.unusedSimpArgs false
def cameOf (l : List Int) : Int := match l with
  | [n] => n
  | _ => -9
set_option maxHeartbeats 2000000 in
set_option maxRecDepth 100000 in
theorem came_calls {ok : Nat → Prop} {tb : Nat} {work : Value} {th : Th} (w : World) (h : IsThread ok tb work th w) (hd : th.done = true) (hl : th.out.length < 1000000) :
    Calls Tryz.prog 21 #[.pointer (some ⟨tb, 0, none⟩)] w fun e w1 => e = .returned (.int .i64 (cameOf th.out)) ∧ Below w.heap.size w w1 := by
  have HO := Aside0.mk (out_calls w h hd hl)
  clear h hd
  by_cases h1 : th.out.length = 1
  · obtain ⟨n, hn⟩ := List.length_eq_one_iff.1 h1
    have hc : cameOf th.out = n := by rw [hn]; rfl
    rw [hc]
    have HN := Aside0.mk hn
    clear hc hn h1 hl
    go_enter Tryz.func21, Tryz.ntmps21
    go_upto_region 2 with (go_at_call 66; refine HO.out.mono ?_; rintro e w2 ⟨v, rfl, hv, hb⟩; rw [HN.out] at hv; obtain ⟨A, c, rfl⟩ := Kd.R_slice hv; have V2 := Aside0.mk hv; have B2 := Aside0.mk hb; clear hv hb)
    obtain ⟨g, cap, e1, _⟩ := Kd.R_form V2.out (by simp)
    injection e1 with e1 _ _
    subst e1
    have c0 := (Kd.R_cell (0 : Int) V2.out 0 (by omega) (by simp)).1
    have c0 : w2.cell? ⟨g, 0, none⟩ = some (.int .i64 n) := by simpa [rdOf] using c0
    go_wp2_with fail
    go_ret
    exact ⟨rfl, B2.out⟩
  · have hc : cameOf th.out = -9 := by
      unfold cameOf
      split
      · rename_i n hn; rw [hn] at h1; simp at h1
      · rfl
    rw [hc]
    have hne : ((th.out.length : Int) == 1) = false := by
      have : ¬ ((th.out.length : Int) = 1) := by omega
      simpa using this
    have hne2 : ((th.out.length : Int) != 1) = true := by rw [bne, hne]; rfl
    clear hc h1 hl
    go_enter Tryz.func21, Tryz.ntmps21
    go_wp2_with (go_at_call 66; refine HO.out.mono ?_; rintro e w2 ⟨v, rfl, hv, hb⟩; obtain ⟨A, c, rfl⟩ := Kd.R_slice hv; have B2 := Aside0.mk hb; clear hv hb)
    go_ret
    exact ⟨rfl, B2.out⟩
structure StartBx (gf : FuncId) (cap : Array Value) (p : Nat) (me : Int) (bf bw bm : Nat) (ok : Nat → Prop) (w : World) : Prop where
  hf : Mine ok w bf (.cells #[.func (.func gf) #[] cap] 124 (0, 0))
  hw : Mine ok w bw (.cells #[.pointer (some ⟨p, 0, none⟩)] 32 (0, 0))
  hm : Mine ok w bm (.cells #[.int .i64 me] 3 (0, 0))
theorem StartBx.moves {gf : FuncId} {cap : Array Value} {p : Nat} {me : Int} {bf bw bm : Nat} {ok ok1 : Nat → Prop} {w w1 : World} (h : StartBx gf cap p me bf bw bm ok w) (m : Moves ok ok1 w w1) : StartBx gf cap p me bf bw bm ok1 w1 := ⟨h.hf.moves m, h.hw.moves m, h.hm.moves m⟩
def startWork (bf bw bm : Nat) : Value := .func (.func 113) #[] #[.pointer (some ⟨bf, 0, none⟩), .pointer (some ⟨bw, 0, none⟩), .pointer (some ⟨bm, 0, none⟩)]
structure Started (gf : FuncId) (cap : Array Value) (p : Nat) (me : Int) (w : World) (e : Ending) (w1 : World) : Prop where
  out : ∃ tb bf bw bm, e = .returned (.pointer (some ⟨tb, 0, none⟩)) ∧ w.heap.size ≤ tb ∧ w.heap.size ≤ bf ∧ w.heap.size ≤ bw ∧ w.heap.size ≤ bm ∧ tb ≠ bf ∧ tb ≠ bw ∧ tb ≠ bm ∧ IsThread (fun k => k = tb) tb (startWork bf bw bm) th0 w1 ∧
    StartBx gf cap p me bf bw bm (fun _ => False) w1 ∧ Below w.heap.size w w1
set_option maxHeartbeats 2000000 in
set_option maxRecDepth 100000 in
theorem start_calls (gf : FuncId) (cap : Array Value) (p : Nat) (me : Int) (w : World) :
    Calls Tryz.prog 72 #[.pointer (some ⟨p, 0, none⟩), .int .i64 me, .func (.func gf) #[] cap] w (Started gf cap p me w) := by
  have hmf : ∀ (fn : Fn) (first cap : Array Value) (w : World), (Instr.makeFunc fn first cap).run Tryz.prog w = .ok (.func fn first cap) w := fun _ _ _ _ => rfl
  go_enter Tryz.func72, Tryz.ntmps72
  go_upto_region 1 with fail
  have b1 := Aside0.mk (blk_alloc (blk_alloc (blk_new w (.cells #[.pointer (some ⟨p, 0, none⟩)] 32)) (.cells #[.int .i64 me] 3)) (.cells #[.func (.func gf) #[] cap] 124))
  have b2 := Aside0.mk (blk_alloc (blk_new (w.alloc (.cells #[.pointer (some ⟨p, 0, none⟩)] 32)) (.cells #[.int .i64 me] 3)) (.cells #[.func (.func gf) #[] cap] 124))
  have b3 := Aside0.mk (blk_new ((w.alloc (.cells #[.pointer (some ⟨p, 0, none⟩)] 32)).alloc (.cells #[.int .i64 me] 3)) (.cells #[.func (.func gf) #[] cap] 124))
  have bb := Aside0.mk (below_alloc (below_alloc (below_alloc (Below.refl w.heap.size w) (.cells #[.pointer (some ⟨p, 0, none⟩)] 32)) (.cells #[.int .i64 me] 3)) (.cells #[.func (.func gf) #[] cap] 124))
  have e1 : (w.alloc (.cells #[.pointer (some ⟨p, 0, none⟩)] 32)).heap.size = w.heap.size + 1 := by simp
  have e2 : ((w.alloc (.cells #[.pointer (some ⟨p, 0, none⟩)] 32)).alloc (.cells #[.int .i64 me] 3)).heap.size = w.heap.size + 1 + 1 := by simp
  rw [e1] at b2
  rw [e2] at b3
  clear e1 e2
  generalize ((w.alloc (.cells #[.pointer (some ⟨p, 0, none⟩)] 32)).alloc (.cells #[.int .i64 me] 3)).alloc (.cells #[.func (.func gf) #[] cap] 124) = w1 at b1 b2 b3 bb ⊢
  go_wp2_with (go_at_call 97; refine (new_calls 113 #[.pointer (some ⟨w.heap.size + 1 + 1, 0, none⟩), .pointer (some ⟨w.heap.size, 0, none⟩), .pointer (some ⟨w.heap.size + 1, 0, none⟩)] _).mono ?_; rintro e w2 ⟨tb, rfl, htb, hth, hbl⟩; have T0 := Aside0.mk htb; have T1 := Aside0.mk hth; have T2 := Aside0.mk hbl; clear htb hth hbl)
  go_ret
  have l1 := blk_lt b1.out
  have l2 := blk_lt b2.out
  have l3 := blk_lt b3.out
  have l4 := T0.out
  exact ⟨⟨tb, w.heap.size + 1 + 1, w.heap.size, w.heap.size + 1, rfl, by omega, by omega, by omega, by omega, by omega, by omega, by omega, T1.out, ⟨⟨blk_below b3.out T2.out, id⟩, ⟨blk_below b1.out T2.out, id⟩, ⟨blk_below b2.out T2.out, id⟩⟩, below_then bb.out bb.out.size T2.out⟩⟩
set_option maxHeartbeats 2000000 in
set_option maxRecDepth 100000 in

theorem start1_calls {Sh : Ws → (Nat → Prop) → World → Prop} (S : Shared Sh) (gf : FuncId) (cap : Array Value) (p : Nat) (me : Int) (tb bf bw bm : Nat) (ok : Nat → Prop) (s : TS Ws) (w : World) (work : Value) (res : Out (List Int) × TS Ws)
    (h : IsRun Sh tb work ok s w) (hb : StartBx gf cap p me bf bw bm ok w)
    (he : ∀ w1 : World, (callFunc gf (#[taskV tb p me] ++ cap)).run Tryz.prog w1 = .ok (.enter gf (#[taskV tb p me] ++ cap)) w1)
    (hc : Calls Tryz.prog gf (#[taskV tb p me] ++ cap) w (TPost Sh tb work (VNums w.heap.size) ok w res)) :
    Calls Tryz.prog 113 #[.pointer (some ⟨tb, 0, none⟩), .pointer (some ⟨bf, 0, none⟩), .pointer (some ⟨bw, 0, none⟩), .pointer (some ⟨bm, 0, none⟩)] w (TPost Sh tb work (VNums w.heap.size) ok w res) := by
  have c1 := (blk_cell hb.hf.1 0).trans (rfl : _ = some (Value.func (.func gf) #[] cap))
  have c2 := (blk_cell hb.hw.1 0).trans (rfl : _ = some (Value.pointer (some ⟨p, 0, none⟩)))
  have c3 := (blk_cell hb.hm.1 0).trans (rfl : _ = some (Value.int .i64 me))
  have HE := Aside0.mk he
  have HC := Aside0.mk hc
  clear h hb he hc
  unfold taskV at HE HC
  go_enter Tryz.func113, Tryz.ntmps113
  go_wp2_with fail
  rw [HE.out, Oper.upon_enter]
  refine HC.out.mono ?_
  rintro e w2 ⟨ok1, hm, hi, hres⟩
  have M := Aside0.mk hm
  have I := Aside0.mk hi
  clear hm hi HE HC
  obtain ⟨o, s2⟩ := res
  cases o with
  | wait =>
    obtain rfl : e = .panicked waitP := hres
    exact ⟨rfl, ⟨⟨ok1, M.out, I.out, rfl⟩⟩⟩
  | ret l =>
    obtain ⟨v, rfl, hv⟩ := hres
    have V := Aside0.mk hv
    clear hv
    dsimp only
    go_wp2_with fail
    go_ret
    exact ⟨⟨ok1, M.out, I.out, v, rfl, V.out⟩⟩
def menderT (key : Int) (f : Nat) : Pr Ws (List Int) := prBind (mendT0 key f) (fun b s => some (.ret [b01 b], s))
set_option maxHeartbeats 2000000 in
set_option maxRecDepth 100000 in
theorem mender1_calls (p tb : Nat) (work : Value) (me key : Int) (bk : Nat) (ok : Nat → Prop) (s : TS Ws) (w : World) (h : IsRun (shW p) tb work ok s w) (hk : Mine ok w bk (.cells #[.int .i64 key] 2 (0, 0))) (f : Nat) (hf : f < 900000) (res : Out (List Int) × TS Ws) (hr : menderT key f s = some res) :
    Calls Tryz.prog 73 #[taskV tb p me, .pointer (some ⟨bk, 0, none⟩)] w (TPost (shW p) tb work (VNums w.heap.size) ok w res) := by
  unfold menderT prBind at hr
  cases hd : mendT0 key f s with
  | none => rw [hd] at hr; cases hr
  | some dres =>
  rw [hd] at hr
  have h1 := h.below (shW_shared p) (below_alloc (Below.refl _ _) (taskO tb p me))
  have HI := Aside0.mk h1
  have HM := Aside0.mk ((Moves.refl ok w).alloc (taskO tb p me))
  have HB := Aside0.mk (blk_new w (taskO tb p me))
  have HK := Aside0.mk (blk_alloc hk.1 (taskO tb p me))
  have HR := Aside0.mk hr
  have HD := Aside0.mk hd
  unfold taskO at HI HM HB HK
  have HTV : taskV tb p me = .agg #[.pointer (some ⟨tb, 0, none⟩), .pointer (some ⟨p, 0, none⟩), .int .i64 me] := rfl
  rw [HTV]
  clear h h1 hr hk hd HTV
  go_enter Tryz.func73, Tryz.ntmps73
  go_upto_region 1 with fail
  have HSZ : Aside0 (w.heap.size ≤ (w.alloc (.cells #[.pointer (some ⟨tb, 0, none⟩), .pointer (some ⟨p, 0, none⟩), .int .i64 me] 122)).heap.size) := ⟨by simp⟩
  generalize w.alloc (.cells #[.pointer (some ⟨tb, 0, none⟩), .pointer (some ⟨p, 0, none⟩), .int .i64 me] 122) = w1 at HI HM HB HK HSZ ⊢
  generalize hbb : w.heap.size = bt at HB ⊢
  have c0 := (blk_cell HB.out 0).trans (rfl : _ = some (Value.pointer (some ⟨tb, 0, none⟩)))
  have c1 := (blk_cell HB.out 1).trans (rfl : _ = some (Value.pointer (some ⟨p, 0, none⟩)))
  have c2 := (blk_cell HB.out 2).trans (rfl : _ = some (Value.int .i64 me))
  have ck := (blk_cell HK.out 0).trans (rfl : _ = some (Value.int .i64 key))
  go_wp2_with fail
  refine (mend0_calls p tb work me key ok s _ HI.out f hf dres HD.out).mono ?_
  rintro e w2 ⟨ok1, hm, hi, hres⟩
  have M := Aside0.mk (HM.out.trans hm)
  have I := Aside0.mk hi
  clear hm hi c0 c1 c2 ck
  obtain ⟨o, s2⟩ := dres
  cases o with
  | wait =>
    have hr := HR.out
    injection hr with hr
    subst hr
    obtain rfl : e = .panicked waitP := hres
    exact ⟨rfl, ⟨⟨ok1, M.out, I.out, rfl⟩⟩⟩
  | ret b =>
    have hr := HR.out
    injection hr with hr
    subst hr
    obtain ⟨v, rfl, rfl⟩ : ∃ v, e = .returned v ∧ v = .bool b := hres
    have hsz : bt ≤ w2.heap.size := by rw [← hbb]; exact M.out.size
    have hn : ∀ k, k = w2.heap.size → ¬ ok1 k := fun k hk h => by have := I.out.lt (shW_shared p) k h; omega
    have HV := fun (q : Int) => Aside0.mk (Kd.R_mono (lit_R (k := .i64) 2 w2 bt [q] hsz (by simp)) hn)
    have HVV := Aside0.mk HV
    clear HV hn hsz
    dsimp only
    cases b
    · go_wp2_with fail
      go_ret
      exact ⟨⟨ok1, M.out.alloc _, I.out.below (shW_shared p) (below_alloc (Below.refl _ _) _), _, rfl, (HVV.out 0).out⟩⟩
    · go_wp2_with fail
      go_ret
      exact ⟨⟨ok1, M.out.alloc _, I.out.below (shW_shared p) (below_alloc (Below.refl _ _) _), _, rfl, (HVV.out 1).out⟩⟩
structure MenderMade (p : Nat) (me key : Int) (w : World) (e : Ending) (w1 : World) : Prop where
  out : ∃ tb bf bw bm bk, e = .returned (.pointer (some ⟨tb, 0, none⟩)) ∧ w.heap.size ≤ tb ∧ w.heap.size ≤ bf ∧ w.heap.size ≤ bw ∧ w.heap.size ≤ bm ∧ w.heap.size ≤ bk ∧ tb ≠ bf ∧ tb ≠ bw ∧ tb ≠ bm ∧ tb ≠ bk ∧ IsThread (fun k => k = tb) tb (startWork bf bw bm) th0 w1 ∧
    StartBx 73 #[.pointer (some ⟨bk, 0, none⟩)] p me bf bw bm (fun _ => False) w1 ∧ Mine (fun _ => False) w1 bk (.cells #[.int .i64 key] 2 (0, 0)) ∧ Below w.heap.size w w1
set_option maxHeartbeats 2000000 in
set_option maxRecDepth 100000 in
theorem mender_calls (p : Nat) (me key : Int) (w : World) :
    Calls Tryz.prog 18 #[.pointer (some ⟨p, 0, none⟩), .int .i64 me, .int .i64 key] w (MenderMade p me key w) := by
  have hmf : ∀ (fn : Fn) (first cap : Array Value) (w : World), (Instr.makeFunc fn first cap).run Tryz.prog w = .ok (.func fn first cap) w := fun _ _ _ _ => rfl
  have b1 := Aside0.mk (blk_new w (.cells #[.int .i64 key] 2))
  have bb := Aside0.mk (below_alloc (Below.refl w.heap.size w) (.cells #[.int .i64 key] 2))
  go_enter Tryz.func18, Tryz.ntmps18
  go_upto_region 1 with fail
  generalize w.alloc (.cells #[.int .i64 key] 2) = w1 at b1 bb ⊢
  go_wp2_with (go_at_call 72; refine (start_calls 73 #[.pointer (some ⟨w.heap.size, 0, none⟩)] p me _).mono ?_; rintro e w2 ⟨tb, bf, bw, bm, rfl, h1, h2, h3, h4, h5, h6, h7, h8, h9, h10⟩; have T := Aside0.mk h8; have S := Aside0.mk h9; have B := Aside0.mk h10; have L := Aside0.mk (And.intro h1 (And.intro h2 (And.intro h3 h4))); have N := Aside0.mk (And.intro h5 (And.intro h6 h7)); clear h1 h2 h3 h4 h5 h6 h7 h8 h9 h10)
  go_ret
  obtain ⟨h1, h2, h3, h4⟩ := L.out
  obtain ⟨h5, h6, h7⟩ := N.out
  have hb := blk_lt b1.out
  exact ⟨⟨tb, bf, bw, bm, w.heap.size, rfl, by omega, by omega, by omega, by omega, Nat.le_refl _, h5, h6, h7, by omega, T.out, S.out, ⟨blk_below b1.out B.out, id⟩, below_then bb.out bb.out.size B.out⟩⟩
def rRoot : Int := 1099511627777
def rEntry : Int := 1099511627778
def X14 : Ws := ⟨⟨[slotOf nd0 1, slotOf (ndE rRoot) 1], [], 9, 2, 0⟩, ⟨[], 9⟩, ⟨0, [-1], [[]]⟩, 2, 3, rEntry⟩
theorem x14_made : ws0 2 3 1 9 9 = some X14 := by kernel_rfl
theorem x14_runs : aloneT (menderT 5 9) 3000 X14 [] = some (some [0], 2999, X14, [rRoot]) := by kernel_rfl
theorem x14_good : X14.Good := ⟨⟨by decide, by decide, by decide, by decide, fun i s hi => by
  have hl : i < 2 := (List.getElem?_eq_some_iff.1 hi).1
  match i, hl with
  | 0, _ => simp [X14] at hi; subst hi; exact ⟨⟨by decide, by decide, by decide⟩, by decide⟩
  | 1, _ => simp [X14] at hi; subst hi; exact ⟨⟨by decide, by decide, by decide⟩, by decide⟩⟩, ⟨by decide⟩, ⟨by decide, by decide, fun i e hi => by simp [X14] at hi⟩⟩
theorem x14_wrong : wrongOf 2 nd0 false = 2 := by decide
theorem aloneT_ret {X : Type} (tw : Pr X (List Int)) : ∀ (f : Nat) (x : X) (log : List Int) (l : List Int) (q : Nat × X × List Int), aloneT tw f x log = some (some l, q) → ∃ s s1, tw s = some (.ret l, s1)
  | 0, x, log, l, q, h => by
    injection h with h
    cases h
  | f + 1, x, log, l, q, h => by
    unfold aloneT at h
    cases ht : tw ⟨x, log, 0, false⟩ with
    | none => rw [ht] at h; cases h
    | some r =>
      obtain ⟨o, s1⟩ := r
      rw [ht] at h
      cases o with
      | wait => exact aloneT_ret tw f _ _ l q h
      | ret l1 =>
        injection h with h
        injection h with h _
        injection h with h
        subst h
        exact ⟨_, _, ht⟩
theorem menderT_len {key : Int} {f : Nat} {s s1 : TS Ws} {l : List Int} (h : menderT key f s = some (.ret l, s1)) : l.length = 1 := by
  unfold menderT prBind at h
  cases hd : mendT0 key f s with
  | none => rw [hd] at h; cases h
  | some r =>
    obtain ⟨o, s2⟩ := r
    rw [hd] at h
    cases o with
    | wait => cases h
    | ret b =>
      injection h with h
      injection h with h _
      injection h with h
      subst h
      rfl
def MenderBx (p : Nat) (me key : Int) (bf bw bm bk : Nat) (ok : Nat → Prop) (w : World) : Prop :=
  StartBx 73 #[.pointer (some ⟨bk, 0, none⟩)] p me bf bw bm ok w ∧ Mine ok w bk (.cells #[.int .i64 key] 2 (0, 0))
theorem MenderBx.moves {p : Nat} {me key : Int} {bf bw bm bk : Nat} (ok ok1 : Nat → Prop) (w w1 : World) (h : MenderBx p me key bf bw bm bk ok w) (m : Moves ok ok1 w w1) : MenderBx p me key bf bw bm bk ok1 w1 := ⟨h.1.moves m, h.2.moves m⟩
theorem mender_alone (p tb : Nat) (me key : Int) (bf bw bm bk : Nat) (ok : Nat → Prop) (x : Ws) (log : List Int) (at_ : Int) (spent : Bool) (w : World) (f : Nat) (hf : f < 900000)
    (h : Idle (shW p) tb (startWork bf bw bm) ok x (thOf log at_ spent) w) (hl : log.length < 1000000) (hB : MenderBx p me key bf bw bm bk ok w)
    (res : Option (List Int) × Nat × Ws × List Int) (hr : aloneT (menderT key f) 3000 x log = some res) :
    Calls Tryz.prog 19 #[.pointer (some ⟨tb, 0, none⟩)] w (AlonePost (shW p) tb (startWork bf bw bm) ok res w) := by
  refine alone_calls (shW_shared p) tb 113 #[.pointer (some ⟨bf, 0, none⟩), .pointer (some ⟨bw, 0, none⟩), .pointer (some ⟨bm, 0, none⟩)] ok x log at_ spent w (MenderBx p me key bf bw bm bk) (menderT key f) h hl (MenderBx.moves) hB (enters Tryz.func113 (by kernel_rfl) rfl _) ?_ ?_ res hr
  · intro ok1 s w1 res1 hi hb hres
    exact start1_calls (shW_shared p) 73 #[.pointer (some ⟨bk, 0, none⟩)] p me tb bf bw bm ok1 s w1 _ res1 hi hb.1 (enters Tryz.func73 (by kernel_rfl) rfl _) (mender1_calls p tb _ me key bk ok1 s w1 hi hb.2 f hf res1 hres)
  · intro l q x1 log1 h1
    obtain ⟨s, s1, h2⟩ := aloneT_ret _ _ _ _ _ _ h1
    have := menderT_len h2
    omega
set_option maxHeartbeats 4000000 in
set_option maxRecDepth 100000 in
theorem awake14 (w : World) : Calls Tryz.prog 13 #[] w fun e w1 => e = .returned (.bool true) ∧ Below w.heap.size w w1 := by
  go_enter Tryz.func13, Tryz.ntmps13
  go_upto_region 2 with (go_at_call 68; refine (world_new 2 3 1 9 9 _ (by omega) (by omega) (by omega) (by omega) (by omega) (by omega) (by omega) (by omega) (by omega) (by omega) X14 x14_made).mono ?_; rintro e w1 ⟨ok1, p, rfl, hw1, hf1, hb1⟩; have W1 := Aside0.mk hw1; have F1 := Aside0.mk hf1; have B1 := Aside0.mk hb1; clear hw1 hf1 hb1)
  go_upto_region 5 with (go_at_call 18; refine (mender_calls p 0 5 _).mono ?_; rintro e w2 ⟨tb, bf, bw, bm, bk, rfl, h1, h2, h3, h4, h5, h6, h7, h8, h9, ht, hs, hk, hb⟩; have L2 := Aside0.mk (And.intro h1 (And.intro h2 (And.intro h3 (And.intro h4 h5)))); have N2 := Aside0.mk (And.intro h6 (And.intro h7 (And.intro h8 h9))); have T2 := Aside0.mk ht; have S2 := Aside0.mk hs; have K2 := Aside0.mk hk; have B2 := Aside0.mk hb; clear h1 h2 h3 h4 h5 h6 h7 h8 h9 ht hs hk hb)
  have hlt1 : ∀ k, ok1 k → k < w1.heap.size := (worldShared p).lt W1.out
  have hW2 : shW p X14 ok1 w2 := ⟨(worldShared p).step W1.out B2.out.size (fun k _ hlt => B2.out.block k hlt), x14_good⟩
  obtain ⟨l1, l2, l3, l4, l5⟩ := L2.out
  obtain ⟨n1, n2, n3, n4⟩ := N2.out
  have HID : Aside0 (Idle (shW p) tb (startWork bf bw bm) (fun k => k = tb ∨ ok1 k) X14 (thOf [] 0 false) w2) := ⟨⟨fun k => k = tb, ok1, fun _ => Iff.rfl, fun k hk h => by have := hlt1 k h; omega, T2.out, hW2⟩⟩
  have hno : ∀ b, w1.heap.size ≤ b → tb ≠ b → ¬ (b = tb ∨ ok1 b) := fun b hb hn h => h.elim (fun e => hn e.symm) (fun h1 => by have := hlt1 b h1; omega)
  have HBX : Aside0 (MenderBx p 0 5 bf bw bm bk (fun k => k = tb ∨ ok1 k) w2) := ⟨⟨⟨S2.out.hf.1, hno bf l2 n1⟩, ⟨S2.out.hw.1, hno bw l3 n2⟩, ⟨S2.out.hm.1, hno bm l4 n3⟩⟩, ⟨K2.out.1, hno bk l5 n4⟩⟩
  have HB2 := Aside0.mk (below_then B1.out B1.out.size B2.out)
  have HO2 : Aside0 (∀ k, (k = tb ∨ ok1 k) → w.heap.size ≤ k) := ⟨fun k hk => hk.elim (fun e => by have := B1.out.size; omega) (F1.out k)⟩
  clear hlt1 hW2 l1 l2 l3 l4 l5 n1 n2 n3 n4 hno W1 F1 B1 L2 N2 T2 S2 K2 B2
  go_wp2_with fail
  refine (mender_alone p tb 0 5 bf bw bm bk _ X14 [] 0 false _ 9 (by omega) HID.out (by simp) HBX.out _ x14_runs).mono ?_
  rintro e w3 ⟨ok3, hm3, _, at3, sp3, hi3, v, rfl, hv⟩
  have B3 := Aside0.mk (moves_outer hm3 HB2.out HO2.out)
  obtain ⟨okT, okS, _, _, ht3, _⟩ := hi3.out
  have hc0 := came_calls w3 ht3 rfl (by simp)
  rw [show cameOf [0] = 0 from rfl] at hc0
  have HC := Aside0.mk hc0
  clear hc0
  clear hi3 hm3 ht3 HID HBX HB2 HO2 hv
  rw [show (3000 - ((some [0], 2999, X14, [rRoot]) : Option (List Int) × Nat × Ws × List Int).snd.fst) = 1 from rfl]
  dsimp only
  go_wp2_with (first | (go_at_call 21; refine HC.out.mono ?_; rintro e w4 ⟨rfl, hb4⟩; have B4 := Aside0.mk (below_then B3.out B3.out.size hb4); clear hb4) | (go_at_call 69; refine (mend_look 2 nd0 false none none none 0 0 0 _ (by simp [nd0]) (by simp [nd0])).mono ?_; rintro e w5 ⟨rfl, hb5⟩; have B5 := Aside0.mk (below_then B4.out B4.out.size hb5); clear hb5; rw [x14_wrong]))
  go_ret
  exact ⟨rfl, B5.out⟩
end Go.Proofs.YtelmidpepojbdaaGreat.Tower
namespace Go.Proofs.YtelmidpepojbdaaGreat.Tower
open Go Go.RowKit Go.Proofs.YtelmidpepojbdaaGreatW.PrintWords Go.Proofs.YtelmidpepojbdaaGreatW.PrintLast Go.Proofs.YtelmidpepojbdaaGreatW.PrintMore Go.Proofs.YtelmidpepojbdaaGreat.Own
set_option linter.unusedVariables false
set_option linter.unusedSimpArgs false
def Ep.has (x : Ep) (t : Int) : Bool := decide (0 ≤ t) && decide (t < x.said.length)
section
variable {ok : Nat → Prop} {p : Nat} {sv lv : Value} {gv : Nat → Value} {ρ : Nat → Nat} {x : Ep} {w : World}
end
set_option maxHeartbeats 2000000 in
set_option maxRecDepth 100000 in
theorem ep_in {ok : Nat → Prop} {p : Nat} {x : Ep} (t : Int) (w : World) (h : IsEpochs ok p x w) (hg : x.Good) :
    Calls Tryz.prog 188 #[.pointer (some ⟨p, 0, none⟩), .int .i64 t] w fun e w1 => e = .returned (.bool (x.has t)) ∧ w1 = w := by
  obtain ⟨sv, lv, gv, ρ, h⟩ := h
  obtain ⟨A, c, rfl⟩ := Kd.R_slice h.said
  have c1 : w.cell? ⟨p, 1, none⟩ = some (.slice A x.said.length c) := (blk_cell h.box 1).trans rfl
  have hb := hg.few
  have hh : x.has t = (decide (0 ≤ t) && decide (t < x.said.length)) := rfl
  rw [hh]
  clear h hg hh
  by_cases h0 : 0 ≤ t
  · have d1 : decide (t ≥ 0) = true := decide_eq_true h0
    have d1' : decide (0 ≤ t) = true := d1
    by_cases h1 : t < (x.said.length : Int)
    · have d2 : decide (t < (x.said.length : Int)) = true := decide_eq_true h1
      rw [d1', d2]
      clear h0 h1
      go_enter Tryz.func188, Tryz.ntmps188
      go_wp2_with fail
      go_ret
      exact ⟨rfl, rfl⟩
    · have d2 : decide (t < (x.said.length : Int)) = false := decide_eq_false h1
      rw [d1', d2]
      clear h0 h1
      go_enter Tryz.func188, Tryz.ntmps188
      go_wp2_with fail
      go_ret
      exact ⟨rfl, rfl⟩
  · have d1 : decide (t ≥ 0) = false := decide_eq_false h0
    have d1' : decide (0 ≤ t) = false := d1
    rw [d1']
    clear h0
    go_enter Tryz.func188, Tryz.ntmps188
    go_wp2_with fail
    go_ret
    exact ⟨rfl, rfl⟩
structure EpPost (ok : Nat → Prop) (p : Nat) (v : Value) (x1 : Ep) (w : World) (e : Ending) (w1 : World) : Prop where
  val : e = .returned v
  ep : IsEpochs ok p x1 w1
  moves : Moves ok ok w w1
end Go.Proofs.YtelmidpepojbdaaGreat.Tower
namespace Go.Proofs.YtelmidpepojbdaaGreat.Tower
open Go Go.RowKit Go.Proofs.YtelmidpepojbdaaGreatW.PrintWords Go.Proofs.YtelmidpepojbdaaGreatW.PrintLast Go.Proofs.YtelmidpepojbdaaGreatW.PrintMore Go.Proofs.YtelmidpepojbdaaGreat.Own
set_option linter.unusedVariables false
set_option linter.unusedSimpArgs false
structure TaskAt (p tb : Nat) (work : Value) (me : Int) (bt : Nat) (ok : Nat → Prop) (w : World) (okc : Nat → Prop) (s : TS Ws) (wc : World) : Prop where
  run : IsRun (shW p) tb work okc s wc
  moves : Moves ok okc w wc
  box : Mine okc wc bt (taskO tb p me)
section
variable {p tb : Nat} {work : Value} {me : Int} {bt : Nat} {ok okc ok2 : Nat → Prop} {w wc w2 : World} {s s2 : TS Ws}
theorem TaskAt.below (h : TaskAt p tb work me bt ok w okc s wc) (hb : Below wc.heap.size wc w2) : TaskAt p tb work me bt ok w okc s w2 := ⟨h.run.below (shW_shared p) hb, h.moves.below hb, ⟨blk_below h.box.1 hb, h.box.2⟩⟩
theorem TaskAt.alloc (h : TaskAt p tb work me bt ok w okc s wc) (o : Obj) : TaskAt p tb work me bt ok w okc s (wc.alloc o) := h.below (below_alloc (Below.refl _ _) o)
theorem TaskAt.drew (h : TaskAt p tb work me bt ok w okc s wc) : TaskAt p tb work me bt ok w okc s wc.drew := h.below (below_drew (Below.refl _ _))
theorem TaskAt.next (h : TaskAt p tb work me bt ok w okc s wc) (m : Moves okc ok2 wc w2) (r : IsRun (shW p) tb work ok2 s2 w2) : TaskAt p tb work me bt ok w ok2 s2 w2 := ⟨r, h.moves.trans m, h.box.moves m⟩
theorem TaskAt.set (h : TaskAt p tb work me bt ok w okc s wc) {q : Addr} (hn : ¬ okc q.block) (hw : w.heap.size ≤ q.block) (ht : q.block ≠ bt) (u : Value) : TaskAt p tb work me bt ok w okc s (wc.setCell q u) :=
  ⟨h.run.far (shW_shared p) hn u, h.moves.set (.inr hw) u, h.box.far ht u⟩
theorem TaskAt.lt (h : TaskAt p tb work me bt ok w okc s wc) : ∀ k, okc k → k < wc.heap.size := h.run.lt (shW_shared p)
theorem TaskAt.c0 (h : TaskAt p tb work me bt ok w okc s wc) : wc.cell? ⟨bt, 0, none⟩ = some (.pointer (some ⟨tb, 0, none⟩)) := (blk_cell h.box.1 0).trans rfl
theorem TaskAt.c1 (h : TaskAt p tb work me bt ok w okc s wc) : wc.cell? ⟨bt, 1, none⟩ = some (.pointer (some ⟨p, 0, none⟩)) := (blk_cell h.box.1 1).trans rfl
theorem TaskAt.c2 (h : TaskAt p tb work me bt ok w okc s wc) : wc.cell? ⟨bt, 2, none⟩ = some (.int .i64 me) := (blk_cell h.box.1 2).trans rfl
theorem TaskAt.enter (h : IsRun (shW p) tb work ok s w) : TaskAt p tb work me w.heap.size ok w ok s (w.alloc (taskO tb p me)) :=
  ⟨h.below (shW_shared p) (below_alloc (Below.refl _ _) _), (Moves.refl ok w).alloc _, ⟨blk_new w _, fun hk => by have := h.lt (shW_shared p) _ hk; omega⟩⟩
structure DoPost {α : Type} (V : α → Value) (p tb : Nat) (work : Value) (me : Int) (bt : Nat) (ok : Nat → Prop) (w : World) (okc : Nat → Prop) (o : Out α) (t : TS Ws) (wc : World) (e : Ending) (w1 : World) : Prop where
  out : ∃ ok1, Moves okc ok1 wc w1 ∧ TaskAt p tb work me bt ok w ok1 t w1 ∧ match o with
    | .ret a => e = .returned (V a)
    | .wait => e = .panicked waitP
theorem TaskAt.post {α : Type} {V : α → Value} {Vp : α → (Nat → Prop) → Value → World → Prop} (hv : ∀ a k v w, Vp a k v w → v = V a) (h : TaskAt p tb work me bt ok w okc s wc) {o : Out α} {t : TS Ws} {e : Ending} {w1 : World} (hp : TPost (shW p) tb work Vp okc wc (o, t) e w1) : DoPost V p tb work me bt ok w okc o t wc e w1 := by
  obtain ⟨ok1, hm, hi, hr⟩ := hp
  refine ⟨⟨ok1, hm, h.next hm hi, ?_⟩⟩
  cases o with
  | ret a => obtain ⟨v, rfl, hv1⟩ := hr; rw [hv _ _ _ _ hv1]
  | wait => exact hr
def intV (a : Int) : Value := .int .i64 a
theorem TaskAt.do_ (h : TaskAt p tb work me bt ok w okc s wc) (f : Ws → Int × Ws) (gf : FuncId) (cap : Array Value)
    (he : ∀ w1 : World, (callFunc gf cap).run Tryz.prog w1 = .ok (.enter gf cap) w1)
    (hc : ∀ w1 okS, Moves okc okc wc w1 → (∀ k, okS k → okc k) → shW p s.sh okS w1 → Calls Tryz.prog gf cap w1 fun e w2 => ∃ okS1, e = .returned (.int .i64 (f s.sh).1) ∧ shW p (f s.sh).2 okS1 w2 ∧ Moves okS okS1 w1 w2)
    {o : Out Int} {t : TS Ws} (hd : doT f s = some (o, t)) :
    Calls Tryz.prog 141 #[.pointer (some ⟨tb, 0, none⟩), .func (.func gf) #[] cap] wc (DoPost intV p tb work me bt ok w okc o t wc) :=
  (do_calls (shW_shared p) f tb work okc s wc gf cap h.run he hc (o, t) hd).mono (fun e w1 hp => h.post (fun _ _ _ _ hv => hv) hp)
theorem TaskAt.pE (h : TaskAt p tb work me bt ok w okc s wc) : ∃ pE, wc.cell? ⟨p, 2, none⟩ = some (.pointer (some ⟨pE, 0, none⟩)) := by
  obtain ⟨_, _, ⟨⟨_, _, _, _, _, pE, hw⟩, _⟩, _⟩ := h.run.direct
  exact ⟨pE, (blk_cell hw.box 2).trans rfl⟩
end
end Go.Proofs.YtelmidpepojbdaaGreat.Tower
namespace Go.Proofs.YtelmidpepojbdaaGreat.Tower
open Go Go.RowKit Go.Proofs.YtelmidpepojbdaaGreatW.PrintWords Go.Proofs.YtelmidpepojbdaaGreatW.PrintLast Go.Proofs.YtelmidpepojbdaaGreatW.PrintMore Go.Proofs.YtelmidpepojbdaaGreat.Own
set_option linter.unusedVariables false
set_option linter.unusedSimpArgs false
def ripe (z now : Int) : Bool := !(decide (z > now) || decide (IntKind.u64.wrap (IntKind.u64.wrap now - IntKind.u64.wrap z) < 3))
def Ep.ready (x : Ep) (t now : Int) : Int × Ep :=
  if x.has t then match x.limbo.getD t.toNat [] with
    | [] => (0, x)
    | (r, z) :: l => if ripe z now then (r, { x with limbo := x.limbo.set t.toNat l }) else (0, x)
  else (0, x)
theorem EpochAt.step {ok : Nat → Prop} {p : Nat} {sv lv : Value} {gv : Nat → Value} {ρ : Nat → Nat} {t : Ep} {w w1 : World} (h : EpochAt ok p sv lv gv ρ t w) (hs : w.heap.size ≤ w1.heap.size) (hm : ∀ k, ok k → k < w.heap.size → w1.heap[k]? = w.heap[k]?) : EpochAt ok p sv lv gv ρ t w1 where
  own := h.own
  role := h.role
  lt := fun k hk => Nat.lt_of_lt_of_le (h.lt k hk) hs
  len := h.len
  box := (hm p h.own (h.lt p h.own)).trans h.box
  said := Kd.R_step h.said (fun k hk hlt => hm k hk.1 hlt)
  row := Kd.R_step h.row (fun k hk hlt => hm k hk.1 hlt)
  limbo := fun i l hi => Kd.Q_step (h.limbo i l hi) (fun k hk hlt => hm k hk.1 hlt)
theorem EpochAt.below {ok : Nat → Prop} {p : Nat} {sv lv : Value} {gv : Nat → Value} {ρ : Nat → Nat} {t : Ep} {w w1 : World} (h : EpochAt ok p sv lv gv ρ t w) (hb : Below w.heap.size w w1) : EpochAt ok p sv lv gv ρ t w1 := h.step hb.size (fun k _ hlt => hb.block k hlt)
theorem EpochAt.rowcell {ok : Nat → Prop} {p n c : Nat} {A : Option Addr} {sv : Value} {gv : Nat → Value} {ρ : Nat → Nat} {x : Ep} {w : World} (h : EpochAt ok p sv (.slice A n c) gv ρ x w) (i : Int) (h0 : 0 ≤ i) (h1 : i < x.limbo.length) :
    n = x.limbo.length ∧ ∃ g, A = some ⟨g, 0, none⟩ ∧ ok g ∧ ρ g = 2 ∧ w.cell? ⟨g, i.toNat, none⟩ = some (gv i.toNat) ∧ w.frozen? ⟨g, i.toNat, none⟩ = false := by
  have hr := (Kd.R_reads' h.row).1
  have hn : n = x.limbo.length := by rw [hr]; simp
  obtain ⟨g, cap, e1, _⟩ := Kd.R_form h.row (by simp; omega)
  injection e1 with e1 e2 _
  refine ⟨hn, g, e1, ?_⟩
  subst e1
  obtain ⟨cs, _, hM, hcc, hfz⟩ := Kd.R_elem h.row [] i h0 (by omega)
  have hg := h.row.1 g (by simp [Value.ownBlock])
  have hM' := hM.1
  rw [List.getD_eq_getElem?_getD, List.getElem?_map, List.getElem?_range (by omega)] at hM'
  simp only [Option.map_some, Option.getD_some] at hM'
  have e := hcc 0 (gv i.toNat) (by rw [hM']; rfl)
  have f := hfz 0
  rw [show (Kd.raw 1).sz = 1 from rfl, Nat.mul_one, Nat.add_zero] at e f
  exact ⟨hg.1, hg.2, by simpa using e, by simpa using f⟩
theorem EpochAt.turn {ok : Nat → Prop} {p g n c : Nat} {sv : Value} {gv : Nat → Value} {ρ : Nat → Nat} {x : Ep} {w : World} (h : EpochAt ok p sv (.slice (some ⟨g, 0, none⟩) n c) gv ρ x w) (i : Nat) (hi : i < x.limbo.length) (v1 : Value) (h1 : v1.oneCell' = true) (l1 : List (Int × Int)) (hq : kPair.Q 295 w 0 (fun k => ok k ∧ ρ k = 3 + i) v1 l1) :
    EpochAt ok p sv (.slice (some ⟨g, 0, none⟩) n c) (fun j => if j = i then v1 else gv j) ρ { x with limbo := x.limbo.set i l1 } (w.setCell ⟨g, i, none⟩ v1) := by
  obtain ⟨hn, g0, e0, hg, hρ, hcc, hfz⟩ := h.rowcell (i : Int) (by omega) (by omega)
  injection e0 with e0
  injection e0 with e0 _ _
  subst e0
  rw [Int.toNat_natCast] at hcc hfz
  have hne : ∀ r, r ≠ 2 → ∀ k, (ok k ∧ ρ k = r) → k ≠ g := fun r hr k hk e => by rw [e, hρ] at hk; exact hr hk.2.symm
  have hrow := (Kd.R_seg (okp := fun _ => False) h.row (i : Int) (by omega) (by omega) (c := [gv i]) (seg := [v1]) (j := 0) rfl (fun j u hu => by
    cases j with
    | zero => injection hu with hu; subst hu; simpa [Kd.raw] using hcc
    | succ j => simp at hu) (by simp [Kd.raw]) (x' := [v1]) ⟨rfl, rfl, fun u hu => by simp only [List.take_zero, List.nil_append, List.length_singleton, List.drop_succ_cons, List.drop_zero, List.append_nil, List.mem_cons, List.not_mem_nil, or_false] at hu; rw [hu]; exact h1⟩ (fun k hk => hk.elim)).1
  have hset : ((List.range x.limbo.length).map fun i => [gv i]).set (i : Int).toNat [v1] = (List.range (x.limbo.set i l1).length).map fun j => [if j = i then v1 else gv j] := by
    refine List.ext_getElem? fun j => ?_
    rw [Int.toNat_natCast, List.getElem?_set, List.length_set]
    by_cases hj : i = j
    · subst hj
      simp [hi]
    · rw [if_neg hj]
      simp only [List.getElem?_map]
      cases hs : (List.range x.limbo.length)[j]? with
      | none => rfl
      | some q =>
        have hq : q = j := by
          have := (List.getElem?_eq_some_iff.1 hs).2
          simpa using this.symm
        subst hq
        simp [show ¬ q = i from fun e => hj e.symm]
  rw [hset] at hrow
  have hrow' : (Kd.raw 1).R 153 (w.setCells g i [v1]) 0 (fun k => ok k ∧ ρ k = 2) (.slice (some ⟨g, 0, none⟩) n c) ((List.range (x.limbo.set i l1).length).map fun j => [if j = i then v1 else gv j]) := by simpa [Kd.raw] using hrow
  exact {
    own := h.own
    role := h.role
    lt := fun k hk => by simpa [World.setCell] using h.lt k hk
    len := by rw [List.length_set]; exact h.len
    box := blk_far h.box (p := ⟨g, i, none⟩) (fun e => by rw [← show p = g from e, h.role] at hρ; cases hρ) _
    said := Kd.R_far h.said (p := ⟨g, i, none⟩) (hne 1 (by decide)) _
    row := hrow'
    limbo := fun j l hj => by
      by_cases e : i = j
      · subst e
        rw [List.getElem?_set_self hi] at hj
        injection hj with hj
        subst hj
        rw [if_pos rfl]
        exact Kd.Q_far hq (p := ⟨g, i, none⟩) (hne (3 + i) (by omega)) _
      · rw [List.getElem?_set_ne e] at hj
        rw [if_neg (fun e1 => e e1.symm)]
        exact Kd.Q_far (h.limbo j l hj) (p := ⟨g, i, none⟩) (hne (3 + j) (by omega)) _ }
theorem kPair_cells {w : World} {base : Nat} {ok : Nat → Prop} {q : Int × Int} {c : List Value} (h : kPair.M w base ok q c) : c = [.int .i64 q.1, .int .i64 q.2] := by
  obtain ⟨_, _, rfl, rfl, rfl⟩ := kPair.K_of_M h
  rfl
theorem gone_cut (A : Option Addr) (n c : Nat) (W : World) : (Instr.slice 153 (.slice A (n + 1) c) (some (.int .i64 1)) none none).run Tryz.prog W = .ok (.slice (if c = 1 then A else A.map (·.add 2)) n (c - 1)) W := by
  have hel : (Tryz.prog).elem 153 = 295 := by kernel_rfl
  have hu : (Tryz.prog).underlying 153 = some (.slice ((Tryz.prog).elem 153)) := by rw [hel]; exact Tryz.underlying153
  have := run_slice_l W 153 A (n + 1) c hu .i64 1 (by omega) (by omega)
  obtain ⟨i0, hi, hz0, hz1, hz2⟩ := info_parts (show (Tryz.prog.info? 295).map (fun i => (i.zero, i.size, i.bytes)) = some (some (.agg #[.int .i64 0, .int .i64 0]), 2, 16) by kernel_rfl)
  rw [this, hel]
  simp [sizeOf, typeInfo, hi, hz1, sliced, Result.andThen]
def TReady6 : Bool × List (List Nat × List Nat) := (true, [([], []), ([0], [0]), ([1], [1]), ([2], [2]), ([], []), ([], []), ([5], [5]), ([6], [6]), ([7], [7]), ([], []), ([8, 9], [8, 9]), ([10], [10]), ([11], [11]), ([3, 4, 0, 1, 2, 3, 4, 5, 6, 7, 8, 9, 10, 11, 12], [3, 4]), ([13, 12, 0, 1, 2, 3, 4, 5, 6, 7, 8, 9, 10, 11, 12], [12, 13])])
def BReady6 : List Nat := [0, 1, 3, 7, 0, 0, 32, 96, 224, 0, 992, 2016, 4064, 8191, 16383]
theorem tabReady6 : rtab .any (opsOf Tryz.f190 6) = TReady6 := by kernel_rfl
theorem bitsReady6 : waitsOk TReady6.2 BReady6 = true := by kernel_rfl
set_option maxHeartbeats 2000000 in
set_option maxRecDepth 100000 in
theorem ready_out {ok : Nat → Prop} {p : Nat} {x : Ep} (t now : Int) (w : World) (h : IsEpochs ok p x w) (hg : x.Good) (hh : x.has t = false) :
    Calls Tryz.prog 190 #[.pointer (some ⟨p, 0, none⟩), .int .i64 t, .int .i64 now] w (EpPost ok p (.int .i64 (x.ready t now).1) (x.ready t now).2 w) := by
  have HIN := Aside0.mk (ep_in t w h hg)
  have e1 : x.ready t now = (0, x) := by simp [Ep.ready, hh]
  rw [e1]
  have HI := Aside0.mk h
  have HH := Aside0.mk hh
  clear h hg e1 hh
  go_enter Tryz.func190, Tryz.ntmps190
  go_wp2_with (go_at_call 188; refine HIN.out.mono ?_; rintro e w1 ⟨rfl, rfl⟩; rw [HH.out])
  go_ret
  exact ⟨rfl, HI.out, Moves.refl _ _⟩
set_option maxHeartbeats 2000000 in
set_option maxRecDepth 100000 in
theorem ready_none {ok : Nat → Prop} {p : Nat} {x : Ep} (t now : Int) (w : World) (h : IsEpochs ok p x w) (hg : x.Good) (hh : x.has t = true) (hl : x.limbo.getD t.toNat [] = []) :
    Calls Tryz.prog 190 #[.pointer (some ⟨p, 0, none⟩), .int .i64 t, .int .i64 now] w (EpPost ok p (.int .i64 (x.ready t now).1) (x.ready t now).2 w) := by
  have HIN := Aside0.mk (ep_in t w h hg)
  have e1 : x.ready t now = (0, x) := by simp only [Ep.ready, hh, hl, if_true]
  rw [e1]
  obtain ⟨b0, b1⟩ : 0 ≤ t ∧ t < x.said.length := by simpa [Ep.has] using hh
  have HI := Aside0.mk h
  obtain ⟨sv, lv, gv, ρ, h⟩ := h
  obtain ⟨A, cr, rfl⟩ := Kd.R_slice h.row
  have hn : ((List.range x.limbo.length).map fun i => [gv i]).length = x.limbo.length := by simp
  rw [hn] at h
  have b3 : t < x.limbo.length := by rw [h.len]; exact b1
  obtain ⟨_, g, rfl, hg1, hg2, d2, z2⟩ := h.rowcell t b0 b3
  obtain ⟨l, hll⟩ : ∃ l, x.limbo[t.toNat]? = some l := ⟨x.limbo[t.toNat]'(by omega), List.getElem?_eq_getElem (by omega)⟩
  have hl0 : l = [] := by rw [List.getD_eq_getElem?_getD, hll] at hl; exact hl
  subst hl0
  have hq := h.limbo _ _ hll
  obtain ⟨Al, cl, hv, _⟩ := Kd.Q_slice hq
  rw [hv] at d2
  have c2 : w.cell? ⟨p, 2, none⟩ = some (.slice (some ⟨g, 0, none⟩) x.limbo.length cr) := (blk_cell h.box 2).trans rfl
  have HH := Aside0.mk hh
  clear h hg e1 hh hl hll hq hv hg1 hg2 z2 hn
  go_enter Tryz.func190, Tryz.ntmps190
  go_wp2_with (go_at_call 188; refine HIN.out.mono ?_; rintro e w1 ⟨rfl, rfl⟩; rw [HH.out])
  go_ret
  exact ⟨rfl, HI.out, Moves.refl _ _⟩
set_option maxHeartbeats 2000000 in
set_option maxRecDepth 100000 in
theorem ready_past {ok : Nat → Prop} {p : Nat} {x : Ep} (t now : Int) (w : World) (h : IsEpochs ok p x w) (hg : x.Good) (hh : x.has t = true) (r z : Int) (l : List (Int × Int)) (hl : x.limbo.getD t.toNat [] = (r, z) :: l) (hr : z > now) :
    Calls Tryz.prog 190 #[.pointer (some ⟨p, 0, none⟩), .int .i64 t, .int .i64 now] w (EpPost ok p (.int .i64 (x.ready t now).1) (x.ready t now).2 w) := by
  have HIN := Aside0.mk (ep_in t w h hg)
  have e1 : x.ready t now = (0, x) := by simp only [Ep.ready, hh, hl, if_true]; rw [if_neg (by simp [ripe, hr])]
  rw [e1]
  obtain ⟨b0, b1⟩ : 0 ≤ t ∧ t < x.said.length := by simpa [Ep.has] using hh
  obtain ⟨sv, lv, gv, ρ, h⟩ := h
  obtain ⟨A, cr, rfl⟩ := Kd.R_slice h.row
  have hn : ((List.range x.limbo.length).map fun i => [gv i]).length = x.limbo.length := by simp
  rw [hn] at h
  have b3 : t < x.limbo.length := by rw [h.len]; exact b1
  obtain ⟨_, g, rfl, hg1, hg2, d2, z2⟩ := h.rowcell t b0 b3
  have hll : x.limbo[t.toNat]? = some ((r, z) :: l) := by
    have : x.limbo[t.toNat]? = some (x.limbo[t.toNat]'(by omega)) := List.getElem?_eq_getElem (by omega)
    rw [List.getD_eq_getElem?_getD, this] at hl
    rw [this]
    exact congrArg some hl
  have hq := h.limbo _ _ hll
  obtain ⟨gl, ol, cl, hv, _, hglt, _⟩ := Kd.Q_form hq (by simp)
  have hlen : ((r, z) :: l).length = l.length + 1 := List.length_cons
  have HV := Aside0.mk hv
  rw [hv, hlen] at d2
  rw [hv] at hq
  have HQ := Aside0.mk hq
  obtain ⟨cs, _, hM, hcc, _⟩ := Kd.Q_elem hq (0, 0) 0 (by omega) (by simp)
  have hcs := kPair_cells hM
  subst hcs
  have f0 : w.cell? ⟨gl, ol, none⟩ = some (.int .i64 r) := hcc 0 _ rfl
  have f1 : w.cell? ⟨gl, ol + 1, none⟩ = some (.int .i64 z) := hcc 1 _ rfl
  have HCL : Aside0 (l.length + 1 ≤ cl) := ⟨by have := (Kd.Q_reads' hq).2.1; rw [hlen] at this; exact this⟩
  have c2 : w.cell? ⟨p, 2, none⟩ = some (.slice (some ⟨g, 0, none⟩) x.limbo.length cr) := (blk_cell h.box 2).trans rfl
  have HH := Aside0.mk hh
  have HLL := Aside0.mk hll
  have HI := Aside0.mk h
  have HGL := Aside0.mk hglt
  have HG1 := Aside0.mk hg1
  have u0 : (l.length : Int) + 1 ≠ 0 := by omega
  have u1 : decide (((l.length + 1 : Nat) : Int) = 0) = false := decide_eq_false (by omega)
  have u2 : (((l.length + 1 : Nat) : Int) == 0) = false := by simp; omega
  have b4 : (0 : Int) < ((l.length + 1 : Nat) : Int) := by omega
  clear h hg e1 hh hl hll hq hv hg1 hg2 hn hM hcc hglt hlen
  go_enter Tryz.func190, Tryz.ntmps190
  have d1 : decide (z > now) = true := decide_eq_true hr
  have d1b : decide (now < z) = true := d1
  clear hr
  go_wp2_with (go_at_call 188; refine HIN.out.mono ?_; rintro e w1 ⟨rfl, rfl⟩; rw [HH.out])
  go_ret
  exact ⟨rfl, ⟨_, _, _, _, HI.out.below (below_alloc (Below.refl _ _) _)⟩, (Moves.refl _ _).alloc _⟩
set_option maxHeartbeats 2000000 in
set_option maxRecDepth 100000 in
theorem ready_soon {ok : Nat → Prop} {p : Nat} {x : Ep} (t now : Int) (w : World) (h : IsEpochs ok p x w) (hg : x.Good) (hh : x.has t = true) (r z : Int) (l : List (Int × Int)) (hl : x.limbo.getD t.toNat [] = (r, z) :: l) (hz : ¬ z > now) (hr : IntKind.u64.wrap (IntKind.u64.wrap now - IntKind.u64.wrap z) < 3) :
    Calls Tryz.prog 190 #[.pointer (some ⟨p, 0, none⟩), .int .i64 t, .int .i64 now] w (EpPost ok p (.int .i64 (x.ready t now).1) (x.ready t now).2 w) := by
  have HIN := Aside0.mk (ep_in t w h hg)
  have e1 : x.ready t now = (0, x) := by simp only [Ep.ready, hh, hl, if_true]; rw [if_neg (by simp [ripe, hr])]
  rw [e1]
  obtain ⟨b0, b1⟩ : 0 ≤ t ∧ t < x.said.length := by simpa [Ep.has] using hh
  obtain ⟨sv, lv, gv, ρ, h⟩ := h
  obtain ⟨A, cr, rfl⟩ := Kd.R_slice h.row
  have hn : ((List.range x.limbo.length).map fun i => [gv i]).length = x.limbo.length := by simp
  rw [hn] at h
  have b3 : t < x.limbo.length := by rw [h.len]; exact b1
  obtain ⟨_, g, rfl, hg1, hg2, d2, z2⟩ := h.rowcell t b0 b3
  have hll : x.limbo[t.toNat]? = some ((r, z) :: l) := by
    have : x.limbo[t.toNat]? = some (x.limbo[t.toNat]'(by omega)) := List.getElem?_eq_getElem (by omega)
    rw [List.getD_eq_getElem?_getD, this] at hl
    rw [this]
    exact congrArg some hl
  have hq := h.limbo _ _ hll
  obtain ⟨gl, ol, cl, hv, _, hglt, _⟩ := Kd.Q_form hq (by simp)
  have hlen : ((r, z) :: l).length = l.length + 1 := List.length_cons
  have HV := Aside0.mk hv
  rw [hv, hlen] at d2
  rw [hv] at hq
  have HQ := Aside0.mk hq
  obtain ⟨cs, _, hM, hcc, _⟩ := Kd.Q_elem hq (0, 0) 0 (by omega) (by simp)
  have hcs := kPair_cells hM
  subst hcs
  have f0 : w.cell? ⟨gl, ol, none⟩ = some (.int .i64 r) := hcc 0 _ rfl
  have f1 : w.cell? ⟨gl, ol + 1, none⟩ = some (.int .i64 z) := hcc 1 _ rfl
  have HCL : Aside0 (l.length + 1 ≤ cl) := ⟨by have := (Kd.Q_reads' hq).2.1; rw [hlen] at this; exact this⟩
  have c2 : w.cell? ⟨p, 2, none⟩ = some (.slice (some ⟨g, 0, none⟩) x.limbo.length cr) := (blk_cell h.box 2).trans rfl
  have HH := Aside0.mk hh
  have HLL := Aside0.mk hll
  have HI := Aside0.mk h
  have HGL := Aside0.mk hglt
  have HG1 := Aside0.mk hg1
  have u0 : (l.length : Int) + 1 ≠ 0 := by omega
  have u1 : decide (((l.length + 1 : Nat) : Int) = 0) = false := decide_eq_false (by omega)
  have u2 : (((l.length + 1 : Nat) : Int) == 0) = false := by simp; omega
  have b4 : (0 : Int) < ((l.length + 1 : Nat) : Int) := by omega
  clear h hg e1 hh hl hll hq hv hg1 hg2 hn hM hcc hglt hlen
  go_enter Tryz.func190, Tryz.ntmps190
  have d1 : decide (z > now) = false := decide_eq_false hz
  have d1b : decide (now < z) = false := d1
  have d3 : decide (IntKind.u64.wrap (IntKind.u64.wrap now - IntKind.u64.wrap z) < 3) = true := decide_eq_true hr
  clear hr hz
  go_wp2_with (go_at_call 188; refine HIN.out.mono ?_; rintro e w1 ⟨rfl, rfl⟩; rw [HH.out])
  go_ret
  exact ⟨rfl, ⟨_, _, _, _, HI.out.below (below_alloc (Below.refl _ _) _)⟩, (Moves.refl _ _).alloc _⟩
set_option maxHeartbeats 2000000 in
set_option maxRecDepth 100000 in
theorem ready_ripe {ok : Nat → Prop} {p : Nat} {x : Ep} (t now : Int) (w : World) (h : IsEpochs ok p x w) (hg : x.Good) (hh : x.has t = true) (r z : Int) (l : List (Int × Int)) (hl : x.limbo.getD t.toNat [] = (r, z) :: l) (hz : ¬ z > now) (hr : ¬ IntKind.u64.wrap (IntKind.u64.wrap now - IntKind.u64.wrap z) < 3) :
    Calls Tryz.prog 190 #[.pointer (some ⟨p, 0, none⟩), .int .i64 t, .int .i64 now] w (EpPost ok p (.int .i64 (x.ready t now).1) (x.ready t now).2 w) := by
  have HIN := Aside0.mk (ep_in t w h hg)
  have e1 : x.ready t now = (r, { x with limbo := x.limbo.set t.toNat l }) := by simp only [Ep.ready, hh, hl, if_true]; rw [if_pos (by simp [ripe]; omega)]
  rw [e1]
  obtain ⟨b0, b1⟩ : 0 ≤ t ∧ t < x.said.length := by simpa [Ep.has] using hh
  obtain ⟨sv, lv, gv, ρ, h⟩ := h
  obtain ⟨A, cr, rfl⟩ := Kd.R_slice h.row
  have hn : ((List.range x.limbo.length).map fun i => [gv i]).length = x.limbo.length := by simp
  rw [hn] at h
  have b3 : t < x.limbo.length := by rw [h.len]; exact b1
  obtain ⟨_, g, rfl, hg1, hg2, d2, z2⟩ := h.rowcell t b0 b3
  have hll : x.limbo[t.toNat]? = some ((r, z) :: l) := by
    have : x.limbo[t.toNat]? = some (x.limbo[t.toNat]'(by omega)) := List.getElem?_eq_getElem (by omega)
    rw [List.getD_eq_getElem?_getD, this] at hl
    rw [this]
    exact congrArg some hl
  have hq := h.limbo _ _ hll
  obtain ⟨gl, ol, cl, hv, _, hglt, _⟩ := Kd.Q_form hq (by simp)
  have hlen : ((r, z) :: l).length = l.length + 1 := List.length_cons
  have HV := Aside0.mk hv
  rw [hv, hlen] at d2
  rw [hv] at hq
  have HQ := Aside0.mk hq
  obtain ⟨cs, _, hM, hcc, _⟩ := Kd.Q_elem hq (0, 0) 0 (by omega) (by simp)
  have hcs := kPair_cells hM
  subst hcs
  have f0 : w.cell? ⟨gl, ol, none⟩ = some (.int .i64 r) := hcc 0 _ rfl
  have f1 : w.cell? ⟨gl, ol + 1, none⟩ = some (.int .i64 z) := hcc 1 _ rfl
  have HCL : Aside0 (l.length + 1 ≤ cl) := ⟨by have := (Kd.Q_reads' hq).2.1; rw [hlen] at this; exact this⟩
  have c2 : w.cell? ⟨p, 2, none⟩ = some (.slice (some ⟨g, 0, none⟩) x.limbo.length cr) := (blk_cell h.box 2).trans rfl
  have HH := Aside0.mk hh
  have HLL := Aside0.mk hll
  have HI := Aside0.mk h
  have HGL := Aside0.mk hglt
  have HG1 := Aside0.mk hg1
  have u0 : (l.length : Int) + 1 ≠ 0 := by omega
  have u1 : decide (((l.length + 1 : Nat) : Int) = 0) = false := decide_eq_false (by omega)
  have u2 : (((l.length + 1 : Nat) : Int) == 0) = false := by simp; omega
  have b4 : (0 : Int) < ((l.length + 1 : Nat) : Int) := by omega
  clear h hg e1 hh hl hll hq hv hg1 hg2 hn hM hcc hglt hlen
  go_enter Tryz.func190, Tryz.ntmps190
  have d1 : decide (z > now) = false := decide_eq_false hz
  have d1b : decide (now < z) = false := d1
  have d3 : decide (IntKind.u64.wrap (IntKind.u64.wrap now - IntKind.u64.wrap z) < 3) = false := decide_eq_false hr
  clear hz hr
  go_upto_region 6 with (go_at_call 188; refine HIN.out.mono ?_; rintro e w1 ⟨rfl, rfl⟩; rw [HH.out])
  have HI2 := Aside0.mk (HI.out.below (below_alloc (Below.refl _ _) (.cells #[.int .i64 r, .int .i64 z] 295)))
  have HM2 := Aside0.mk ((Moves.refl ok w1).alloc (.cells #[.int .i64 r, .int .i64 z] 295))
  have HB2 := Aside0.mk (blk_new w1 (.cells #[.int .i64 r, .int .i64 z] 295))
  have HQ2 := Aside0.mk (Kd.Q_alloc HQ.out (.cells #[.int .i64 r, .int .i64 z] 295))
  have HNB : Aside0 (w1.heap.size ≠ g) := ⟨fun e => by have := HI.out.lt g HG1.out; omega⟩
  have hcut : ∀ W : World, (Instr.slice 153 (.slice (some ⟨gl, ol, none⟩) (l.length + 1) cl) (some (.int .i64 1)) none none).run Tryz.prog W = .ok (.slice (if cl = 1 then some ⟨gl, ol, none⟩ else (some (⟨gl, ol, none⟩ : Addr)).map (·.add 2)) l.length (cl - 1)) W := fun W => gone_cut _ _ _ W
  clear HI f0 f1 c2 d2 z2
  obtain ⟨_, g', e', _, _, d2, _⟩ := HI2.out.rowcell t b0 b3
  injection e' with e'
  injection e' with e' _ _
  subst e'
  rw [HV.out, show ((r, z) :: l).length = l.length + 1 from rfl] at d2
  have c2 := (blk_cell HI2.out.box 2).trans (rfl : _ = some (Value.slice (some ⟨g, 0, none⟩) x.limbo.length cr))
  generalize hsz : w1.heap.size = b at HB2 HNB ⊢
  have HSZ := Aside0.mk hsz
  clear hsz
  generalize w1.alloc (.cells #[.int .i64 r, .int .i64 z] 295) = w2 at HI2 HM2 HB2 HQ2 c2 d2 ⊢
  refine ordStart (n := 15) (S := fun w' => w'.cell? ⟨p, 2, none⟩ = some (.slice (some ⟨g, 0, none⟩) x.limbo.length cr) ∧ w'.cell? ⟨g, t.toNat, none⟩ = some (.slice (some ⟨gl, ol, none⟩) (l.length + 1) cl)) (ds := [14]) (by kernel_rfl) rfl tabReady6 bitsReady6 ⟨c2, d2⟩ (fun hHeld HT_ HW_ => ?_)
  have HI2 := Aside0.mk (HI2.out.step (w1 := w2.drew) (Nat.le_refl _) (fun _ _ _ => rfl))
  have HM2 := Aside0.mk HM2.out.drew
  have HB2 := Aside0.mk (blk_drew HB2.out)
  have HQ2 := Aside0.mk (Kd.Q_drew HQ2.out)
  clear c2 d2
  generalize World.drew _ = w2 at HI2 HM2 HB2 HQ2 hHeld ⊢
  refine ord_ [(0, some 45), (1, some 46), (2, some 47), (3, some 48), (4, some 49), (5, some 50), (6, some 51), (7, some 52), (8, some 53), (9, some 54), (10, some 55), (11, some 56), (12, some 57), (13, some 58)] ?_
  iterate 3 (refine ordP (v := ?_) (a' := ?_) HT_ (by kernel_rfl) rfl rfl (fun _ _ _ h => h) (Or.inl ⟨by rfl, ?_⟩) ?_ ?_; rotate_left; (intro w'; go_simp; with_reducible rfl); rotate_left; (simp only [Act.put, p1_, p2_, p3_, i64_w, i32_w]; rfl))
  iterate 11 (refine ordT (v := ?_) (a' := ?_) HT_ HW_ (by kernel_rfl) rfl rfl (fun _ _ _ h => h) hHeld (Or.inl ⟨by rfl, ?_⟩) ?_ ?_; rotate_left; (rintro w' ⟨s0, s1⟩; go_simp; with_reducible rfl); rotate_left; (simp only [Act.put, p1_, p2_, p3_, i64_w, i32_w]; rfl))
  refine ordNil ?_
  obtain ⟨_, g', e', _, _, _, z2⟩ := HI2.out.rowcell t b0 b3
  injection e' with e'
  injection e' with e' _ _
  subst e'
  refine ordLast (i := 14) none HT_ (by kernel_rfl) rfl rfl (by decide) (fun K_ hK => ?_)
  refine skip_ (w1 := ?_) (by rfl) rfl ?_ ?_
  rotate_left; · go_simp; rfl
  refine hK.out _ _ ?_
  clear hK K_
  refine done_ (done_of HT_.out (by kernel_rfl)) ?_
  have hq := Kd.Q_drop HQ2.out (k := 1) (by simp)
  have hq' : kPair.Q 295 w2 0 (fun k => ok k ∧ ρ k = 3 + t.toNat) (.slice (if cl = 1 then some ⟨gl, ol, none⟩ else some ⟨gl, ol + 2, none⟩) l.length (cl - 1)) l := by simpa [Kd.pair, Kd.int, Kd.scalar, Addr.add] using hq
  have q0_ := Aside0.mk (HI2.out.turn t.toNat (by omega) (.slice (if cl = 1 then some ⟨gl, ol, none⟩ else some ⟨gl, ol + 2, none⟩) l.length (cl - 1)) rfl l hq')
  have q1_ := Aside0.mk (HM2.out.set (p := ⟨g, t.toNat, none⟩) (.inl HG1.out) (.slice (if cl = 1 then some ⟨gl, ol, none⟩ else some ⟨gl, ol + 2, none⟩) l.length (cl - 1)))
  have q2_ := Aside0.mk (blk_far HB2.out (p := ⟨g, t.toNat, none⟩) HNB.out (.slice (if cl = 1 then some ⟨gl, ol, none⟩ else some ⟨gl, ol + 2, none⟩) l.length (cl - 1)))
  clear hq hq' HI2 HM2 HB2 HQ2 hHeld z2 hcut HQ HV
  generalize (Value.slice (if cl = 1 then some ⟨gl, ol, none⟩ else some ⟨gl, ol + 2, none⟩) l.length (cl - 1)) = vl at q0_ q1_ q2_ ⊢
  generalize w2.setCell ⟨g, t.toNat, none⟩ vl = w3 at q0_ q1_ q2_ ⊢
  have f0 := (blk_cell q2_.out 0).trans (rfl : _ = some (Value.int .i64 r))
  go_wp2_with fail
  go_ret
  exact ⟨rfl, ⟨_, _, _, _, q0_.out⟩, q1_.out⟩
theorem ep_ready {ok : Nat → Prop} {p : Nat} {x : Ep} (t now : Int) (w : World) (h : IsEpochs ok p x w) (hg : x.Good) :
    Calls Tryz.prog 190 #[.pointer (some ⟨p, 0, none⟩), .int .i64 t, .int .i64 now] w (EpPost ok p (.int .i64 (x.ready t now).1) (x.ready t now).2 w) := by
  cases hh : x.has t with
  | false => exact ready_out t now w h hg hh
  | true =>
    cases hl : x.limbo.getD t.toNat [] with
    | nil => exact ready_none t now w h hg hh hl
    | cons q l =>
      obtain ⟨r, z⟩ := q
      by_cases hz : z > now
      · exact ready_past t now w h hg hh r z l hl hz
      · by_cases hr : IntKind.u64.wrap (IntKind.u64.wrap now - IntKind.u64.wrap z) < 3
        · exact ready_soon t now w h hg hh r z l hl hz hr
        · exact ready_ripe t now w h hg hh r z l hl hz hr
theorem Ep.Good.ready {x : Ep} (h : x.Good) (t now : Int) : (x.ready t now).2.Good := by
  unfold Ep.ready
  split
  · split
    · exact h
    · split
      · exact ⟨h.few⟩
      · exact h
  · exact h
def Ar.freed (a : Ar) (j : Nat) (s : Sl) (r : Int) : Ar := { a with slots := a.slots.set j { s with used := false }, free := a.free ++ [placeOf r], used := wrap64 (a.used - 1) }
def Ar.free_ (a : Ar) (r : Int) : Bool × Ar :=
  match a.idx r with
  | none => (false, a.fault)
  | some j => match a.slots[j]? with
    | none => (false, a)
    | some s => (true, a.freed j s r)
structure FreePost (ok : Nat → Prop) (pA : Nat) (v : Value) (a1 : Ar) (w : World) (e : Ending) (w1 : World) : Prop where
  val : e = .returned v
  out : ∃ ok1, IsArena ok1 pA a1 w1 ∧ Moves ok ok1 w w1
theorem ArenaAt.pushfree {ok : Nat → Prop} {pA : Nat} {sv fv v1 : Value} {lv : Nat → Lv} {ρ : Nat → Nat} {a : Ar} {W w1 : World} {q : Int} (h : ArenaAt ok pA sv fv lv ρ a W) (hg : W.grownBy w1 fv.ownBlock)
    (hr : (Kd.int .i64).Q 3 w1 0 (fun k => (ok k ∧ ρ k = 2) ∨ W.heap.size ≤ k) v1 (a.free ++ [q])) :
    ArenaAt (fun k => ok k ∨ (W.heap.size ≤ k ∧ k < w1.heap.size)) pA sv v1 lv (fun k => if k < W.heap.size then ρ k else 2) { a with free := a.free ++ [q] } (w1.setCell ⟨pA, 1, none⟩ v1) := by
  have hpA := h.lt pA h.own
  have hs : (w1.setCell ⟨pA, 1, none⟩ v1).heap.size = w1.heap.size := by simp [World.setCell]
  have hne : ∀ r, r ≠ 2 → ∀ k, (ok k ∧ ρ k = r) → some k ≠ fv.ownBlock := fun r hr1 k hk e => by
    have := (h.free.1 k e.symm).2
    rw [hk.2] at this
    exact hr1 this
  have hmove : ∀ r, r ≠ 2 → r ≠ 0 → ∀ k, (ok k ∧ ρ k = r) → k < W.heap.size → (w1.setCell ⟨pA, 1, none⟩ v1).heap[k]? = W.heap[k]? := fun r hr1 hr0 k hk hlt =>
    (Below.heap_setCell w1 ⟨pA, 1, none⟩ v1 k (fun e => hr0 (by rw [← hk.2, show k = pA from e, h.role]))).trans (hg.block k hlt (hne r hr1 k hk))
  have hup : ∀ r k, (ok k ∧ ρ k = r) → k < W.heap.size → ((ok k ∨ (W.heap.size ≤ k ∧ k < w1.heap.size)) ∧ (if k < W.heap.size then ρ k else 2) = r) := fun r k hk hlt => ⟨.inl hk.1, by rw [if_pos hlt]; exact hk.2⟩
  exact {
    own := .inl h.own
    role := by rw [if_pos hpA]; exact h.role
    lt := fun k hk => by
      rw [hs]
      rcases hk with hk | hk
      · exact Nat.lt_of_lt_of_le (h.lt k hk) hg.size
      · exact hk.2
    box := by
      have h0 := blk_grown h.box hg (fun e => by have := (h.free.1 pA e.symm).2; rw [h.role] at this; cases this)
      exact blk_set h0 1 v1
    free := by
      refine Kd.Q_far (Kd.Q_mono (Kd.Q_bound hr) (fun k hk => ?_)) (fun k hk e => ?_) v1
      · have hlt := hk.2.2.1
        rcases hk.1 with h1 | h1
        · exact ⟨.inl h1.1, by rw [if_pos (h.lt k h1.1)]; exact h1.2⟩
        · exact ⟨.inr ⟨h1, hlt⟩, by rw [if_neg (by omega)]⟩
      · have := hk.2
        rw [show k = pA from e, if_pos hpA, h.role] at this
        cases this
    rows := Kd.R_mono (Kd.R_step (Kd.R_bound h.rows) (fun k hk hlt => hmove 1 (by decide) (by decide) k hk.1 hlt)) (fun k hk => hup 1 k hk.1 (h.lt k hk.1.1))
    node := fun i s h2 => by
      have hn := h.node i s h2
      exact ⟨(hn.1.step (hmove 3 (by decide) (by decide))).mono (fun k hk _ => hup 3 k hk (h.lt k hk.1)), (hn.2.1.step (hmove 3 (by decide) (by decide))).mono (fun k hk _ => hup 3 k hk (h.lt k hk.1)), (hn.2.2.step (hmove 3 (by decide) (by decide))).mono (fun k hk _ => hup 3 k hk (h.lt k hk.1))⟩
    ways := fun i s h2 => Kd.R_mono (Kd.R_step (h.ways i s h2) (hmove _ (by omega) (by omega))) (fun k hk => hup _ k hk (h.lt k hk.1)) }
def TFree5 : Bool × List (List Nat × List Nat) := (true, [([], []), ([], []), ([1], [1]), ([2], [2]), ([3], [3]), ([], []), ([5], [5]), ([6], [6]), ([4, 7, 6], [4, 7]), ([0, 0, 1, 2, 3, 4, 5, 6, 7, 8], [0]), ([9, 0, 1, 2, 3, 4, 5, 6, 7, 8], [9]), ([10, 8, 8, 0, 1, 2, 3, 4, 5, 6, 7, 8], [8, 10])])
def BFree5 : List Nat := [0, 0, 2, 6, 14, 0, 32, 96, 254, 511, 1023, 2047]
theorem tabFree5 : rtab .any (opsOf Tryz.f112 5) = TFree5 := by kernel_rfl
theorem bitsFree5 : waitsOk TFree5.2 BFree5 = true := by kernel_rfl
set_option maxHeartbeats 2000000 in
set_option maxRecDepth 100000 in
theorem free_calls {ok : Nat → Prop} {pA : Nat} {a : Ar} (r : Int) (w : World) (h : IsArena ok pA a w) (hl : a.slots.length < 1000000) (hfl : a.free.length < 1000000) :
    Calls Tryz.prog 112 #[.pointer (some ⟨pA, 0, none⟩), .int .i64 r] w (FreePost ok pA (.bool (a.free_ r).1) (a.free_ r).2 w) := by
  obtain ⟨sv, fv, lv, ρ, h⟩ := h
  have HA := Aside0.mk (at_calls r w h hl)
  cases hx : a.idx r with
  | none =>
    have HF := Aside0.mk (fault_is h)
    have HX := Aside0.mk hx
    have e1 : a.free_ r = (false, a.fault) := by simp [Ar.free_, hx]
    rw [e1]
    clear h hx e1
    go_enter Tryz.func112, Tryz.ntmps112
    go_wp2_with (go_at_call 119; refine HA.out.mono ?_; rintro e w1 ⟨_, hm⟩; obtain ⟨rfl, rfl⟩ := hm HX.out; clear hm)
    go_ret
    exact ⟨rfl, ok, HF.out.1, HF.out.2⟩
  | some j =>
  obtain ⟨hp, s, hs, hu, hr⟩ := Ar.idx_some hx
  obtain ⟨ad, cap, rfl⟩ := Kd.R_slice h.rows
  obtain ⟨hn, g, rfl, hg, hρ, hcc, hfz⟩ := h.cells hs
  have HX := Aside0.mk hx
  have HI := Aside0.mk h
  have HS := Aside0.mk hs
  have c9 : w.cell? ⟨g, j * 10 + 9, none⟩ = some (.bool s.used) := hcc 9 _ rfl
  have z9 := hfz 9
  have e1 : a.free_ r = (true, a.freed j s r) := by simp [Ar.free_, hx, hs]
  rw [e1]
  have HG := Aside0.mk hg
  clear h hx hcc hfz hp hs hu hr e1 hg
  go_enter Tryz.func112, Tryz.ntmps112
  go_upto_region 5 with (go_at_call 119; refine HA.out.mono ?_; rintro e w1 ⟨hm, _⟩; obtain ⟨g1, n1, cap1, e1, rfl, rfl⟩ := hm j HX.out; injection e1 with e1 _ _; injection e1 with e1; injection e1 with e1 _ _; subst e1; clear hm)
  have hN9 := HI.out.node _ _ HS.out
  have hW9 := HI.out.ways _ _ HS.out
  have q0_ := Aside0.mk (HI.out.seg HS.out 9 [.bool false] (by simp) { s with used := false } lv (fun _ _ => rfl) rfl hN9 hW9)
  have q0_ : Aside0 (ArenaAt ok pA _ fv lv ρ _ (w1.setCell ⟨g, j * 10 + 9, none⟩ (.bool false))) := q0_
  have q1_ := Aside0.mk ((Moves.refl ok w1).set (p := ⟨g, j * 10 + 9, none⟩) (.inl HG.out) (.bool false))
  clear HI hN9 hW9 c9 z9
  generalize w1.setCell ⟨g, j * 10 + 9, none⟩ (.bool false) = w2 at q0_ q1_ ⊢
  obtain ⟨Af, cf, rfl, _⟩ := Kd.Q_slice q0_.out.free
  have c1 := (blk_cell q0_.out.box 1).trans (rfl : _ = some (Value.slice Af a.free.length cf))
  refine ordStart (n := 12) (S := fun w' => w'.cell? ⟨pA, 1, none⟩ = some (.slice Af a.free.length cf)) (ds := [8, 11]) (by kernel_rfl) rfl tabFree5 bitsFree5 c1 (fun hHeld HT_ HW_ => ?_)
  have q0_ := Aside0.mk (q0_.out.step (w1 := w2.drew) (Nat.le_refl _) (fun _ _ _ => rfl))
  have q1_ := Aside0.mk q1_.out.drew
  clear c1
  generalize World.drew _ = w2 at q0_ q1_ hHeld ⊢
  refine ord_ [(0, some 14), (1, some 15), (2, some 16), (3, some 17), (4, some 18), (5, some 19)] ?_
  iterate 4 (refine ordP (v := ?_) (a' := ?_) HT_ (by kernel_rfl) rfl rfl (fun _ _ _ h => h) (Or.inl ⟨by rfl, ?_⟩) ?_ ?_; rotate_left; (intro w'; go_simp; with_reducible rfl); rotate_left; (simp only [Act.put, p1_, p2_, p3_, i64_w, i32_w]; rfl))
  iterate 2 (refine ordT (v := ?_) (a' := ?_) HT_ HW_ (by kernel_rfl) rfl rfl (fun _ _ _ h => h) hHeld (Or.inl ⟨by rfl, ?_⟩) ?_ ?_; rotate_left; (rintro w' s0; go_simp; with_reducible rfl); rotate_left; (simp only [Act.put, p1_, p2_, p3_, i64_w, i32_w]; rfl))
  refine ordNil ?_
  refine ordOne (i := 6) (some 20) HT_ (by kernel_rfl) rfl rfl (by decide) (fun K_ hK => ?_)
  refine call_ 162 #[.int .i64 r] (by rfl) rfl ?hrun6 ?_
  (case hrun6 => first | (go_simp; done) | (go_simp; exact enters Tryz.func162 (by kernel_rfl) rfl _ _))
  refine (ref_place r _).mono ?_
  rintro e w2 ⟨rfl, rfl⟩
  refine ⟨_, rfl, ?_⟩
  refine hK.out _ _ hHeld (fun hHeld => ?_)
  clear hK K_
  refine norm_ (a' := ?_) ?_ ?_
  rotate_left; · show Act.put _ (some 20) _ = _; simp only [Act.put, p1_, p2_, p3_, i64_w, i32_w]; rfl
  refine ordOne (i := 7) (some 21) HT_ (by kernel_rfl) rfl rfl (by decide) (fun K_ hK => ?_)
  refine value_ (v := .slice (some ⟨w2.heap.size, 0, none⟩) 1 1) (w1 := w2.alloc (.cells #[.int .i64 (placeOf r)] 3)) (by rfl) rfl ?hbs ?_
  (case hbs => go_simp)
  refine hK.out _ _ (pw_cell_below (below_alloc (Below.refl _ _) _) hHeld) (fun hHeld => ?_)
  clear hK K_
  refine norm_ (a' := ?_) ?_ ?_
  rotate_left; · show Act.put _ (some 21) _ = _; simp only [Act.put, p1_, p2_, p3_, i64_w, i32_w]; rfl
  refine ordLast (i := 8) (some 22) HT_ (by kernel_rfl) rfl rfl (by decide) (fun K_ hK => ?_)
  refine Kd.Q_append_step (Kd.int .i64) (w0 := w2) 0 (by rfl) (.tmp 18) (.tmp 21) 117 3 (.int .i64 0) 8 rfl Tryz.underlying117 info_int rfl (by decide) (by decide) (.slice Af a.free.length cf) a.free (placeOf r) [.int .i64 (placeOf r)] (fun k => (ok k ∧ ρ k = 2) ∨ w2.heap.size ≤ k) (fun _ => False) rfl rfl ?aP (fun _ hk => hk.elim) (fun k hk => .inr hk) (Kd.Q_mono q0_.out.free (fun k hk => .inl hk)) (Below.refl _ _) (Nat.zero_le _) (by omega) ?_
  (case aP => rfl)
  intro v5 w5 ho hb5 hg hat
  have hle : (a.free ++ [placeOf r]).length = a.free.length + 1 := by simp
  obtain ⟨A5, cc5, rfl, _⟩ := Kd.Q_slice ho
  rw [hle] at ho hat ⊢
  have hne : some pA ≠ (Value.slice Af a.free.length cf).ownBlock := (fun e => by have := (q0_.out.free.1 pA e.symm).2; rw [q0_.out.role] at this; cases this)
  have f0 : w5.frozen? ⟨pA, 1, none⟩ = false := blk_frozen (blk_grown q0_.out.box hg hne) 1
  have c0 := (blk_cell (blk_grown q0_.out.box hg hne) 1).trans (rfl : _ = some (Value.slice Af a.free.length cf))
  have m0_ := Aside0.mk ho
  have m1_ := Aside0.mk hg
  clear ho hg hat hb5 hne hle
  refine hK.out _ _ ?_
  clear hK K_
  refine norm_ (a' := ?_) ?_ ?_
  rotate_left; · show Act.put _ (some 22) _ = _; simp only [Act.put, p1_, p2_, p3_, i64_w, i32_w]; rfl
  refine ord_ [(9, some 23), (10, some 24)] ?_
  iterate 2 (refine ordP (v := ?_) (a' := ?_) HT_ (by kernel_rfl) rfl rfl (fun _ _ _ h => h) (Or.inl ⟨by rfl, ?_⟩) ?_ ?_; rotate_left; (intro w'; go_simp; with_reducible rfl); rotate_left; (simp only [Act.put, p1_, p2_, p3_, i64_w, i32_w]; rfl))
  refine ordNil ?_
  refine ordLast (i := 11) none HT_ (by kernel_rfl) rfl rfl (by decide) (fun K_ hK => ?_)
  refine skip_ (w1 := ?_) (by rfl) rfl ?_ ?_
  rotate_left; · go_simp; rfl
  refine hK.out _ _ ?_
  clear hK K_
  refine done_ (done_of HT_.out (by kernel_rfl)) ?_
  have n0_ := Aside0.mk (q0_.out.pushfree m1_.out m0_.out)
  have n1_ : Aside0 (Moves ok (fun k => ok k ∨ (w2.heap.size ≤ k ∧ k < w5.heap.size)) w1 (w5.setCell ⟨pA, 1, none⟩ (.slice A5 (a.free.length + 1) cc5))) := ⟨((q1_.out.grown m1_.out (fun k hk => .inl (q0_.out.free.1 k hk).1)).set (p := ⟨pA, 1, none⟩) (.inl q0_.out.own) _).owns (fun k hk => hk.elim .inl (fun h1 => .inr (by have := q1_.out.size; omega)))⟩
  clear q0_ q1_ m0_ m1_ c0 f0
  generalize w5.setCell ⟨pA, 1, none⟩ (.slice A5 (a.free.length + 1) cc5) = w6 at n0_ n1_ ⊢
  generalize (fun k => ok k ∨ (w2.heap.size ≤ k ∧ k < w5.heap.size)) = ok6 at n0_ n1_
  generalize (fun k => if k < w2.heap.size then ρ k else 2) = ρ6 at n0_
  have c3 := (blk_cell n0_.out.box 3).trans (rfl : _ = some (Value.int .i64 a.used))
  have z3 := blk_frozen n0_.out.box 3
  go_wp2_with fail
  go_ret
  exact ⟨rfl, ok6, ⟨_, _, _, _, n0_.out.box_set 3 (.int .i64 (wrap64 (a.used - 1))) (a.freed j s r) rfl rfl rfl⟩, n1_.out.set (p := ⟨pA, 3, none⟩) (n1_.out.fresh pA n0_.out.own) _⟩
theorem Ar.Good.free_few {a : Ar} (h : a.Good) : a.free.length < 1000000 := by
  have h1 := h.used
  have h2 := h.cnt
  have h3 := h.slots
  have h4 := h.most
  omega
theorem Ar.Good.free_ {a : Ar} (h : a.Good) (r : Int) : (a.free_ r).2.Good := by
  unfold Ar.free_
  cases hx : a.idx r with
  | none => exact h.fault
  | some j =>
    obtain ⟨hp, s, hs, hu, hr⟩ := Ar.idx_some hx
    simp only [hs]
    have hj := (List.getElem?_eq_some_iff.1 hs).1
    have hjs := (List.getElem?_eq_some_iff.1 hs).2
    have h1 := h.used
    have h2 := h.cnt
    have h3 := h.slots
    have h4 := h.most
    have hpos : 0 < a.slots.countP fun s => s.used := List.countP_pos_iff.2 ⟨s, by rw [← hjs]; exact List.getElem_mem hj, hu⟩
    have hc : (a.slots.set j { s with used := false }).countP (fun s => s.used) = (a.slots.countP fun s => s.used) - 1 := by
      rw [List.countP_set hj]
      simp [hjs, hu]
    have hw : wrap64 (a.used - 1) = a.used - 1 := by unfold wrap64; omega
    refine ⟨h4, by show ((a.slots.set j _).length : Int) ≤ _; rw [List.length_set]; exact h3, ?_, ?_, fun i q hi => ?_⟩
    · show wrap64 (a.used - 1) + ((a.free ++ [placeOf r]).length : Int) = ((a.slots.set j _).length : Int)
      rw [List.length_set, hw, List.length_append, List.length_singleton]
      omega
    · show (((a.slots.set j _).countP fun s => s.used : Nat) : Int) ≤ wrap64 (a.used - 1)
      rw [hc, hw]
      omega
    · by_cases e : j = i
      · subst e
        have hi : (a.slots.set j { s with used := false })[j]? = some q := hi
        rw [List.getElem?_set_self hj] at hi
        injection hi with hi
        subst hi
        exact h.small j s hs
      · have hi : (a.slots.set j { s with used := false })[i]? = some q := hi
        rw [List.getElem?_set_ne e] at hi
        exact h.small i q hi
def Ws.one (x : Ws) (me now : Int) : Int × Ws :=
  if (x.ep.ready me now).1 = 0 then (0, { x with ep := (x.ep.ready me now).2 })
  else ((x.ep.ready me now).1, { x with ep := (x.ep.ready me now).2, ar := (x.ar.free_ (x.ep.ready me now).1).2 })
structure ShPost (p : Nat) (v : Value) (x1 : Ws) (okS : Nat → Prop) (w : World) (e : Ending) (w2 : World) : Prop where
  out : ∃ okS1, e = .returned v ∧ shW p x1 okS1 w2 ∧ Moves okS okS1 w w2
def TOne1 : Bool × List (List Nat × List Nat) := (true, [([], []), ([0], [0]), ([1], [1]), ([2], [2]), ([3], [3]), ([], []), ([5], [5]), ([], []), ([4, 6, 7], [4, 6, 7]), ([8, 8, 0, 1, 2, 3, 4, 5, 6, 7, 8], [8])])
def BOne1 : List Nat := [0, 1, 3, 7, 15, 0, 32, 0, 255, 511]
theorem tabOne1 : rtab .any (opsOf Tryz.f152 1) = TOne1 := by kernel_rfl
theorem bitsOne1 : waitsOk TOne1.2 BOne1 = true := by kernel_rfl
set_option maxHeartbeats 2000000 in
set_option maxRecDepth 100000 in
theorem one_calls (p tb : Nat) (x : Ws) (me now : Int) (w : World) (okS : Nat → Prop) (h : shW p x okS w) :
    Calls Tryz.prog 152 #[taskV tb p me, .int .i64 now] w (ShPost p (.int .i64 (x.one me now).1) (x.one me now).2 okS w) := by
  obtain ⟨⟨okA, okR, okE, pA, pR, pE, h⟩, hg⟩ := h
  have HG := Aside0.mk hg
  have HL := Aside0.mk (fun k (hk : okS k) => ((worldShared p).lt (x := x) ⟨_, _, _, _, _, _, h⟩ k hk))
  have HW := Aside0.mk (h.step (w1 := w.alloc (taskO tb p me)) (by simp) (fun k _ hlt => Below.heap_alloc _ _ _ hlt))
  have HM := Aside0.mk ((Moves.refl okS w).alloc (taskO tb p me))
  have HB := Aside0.mk (blk_new w (taskO tb p me))
  unfold taskO at HW HM HB
  have HTV : taskV tb p me = .agg #[.pointer (some ⟨tb, 0, none⟩), .pointer (some ⟨p, 0, none⟩), .int .i64 me] := rfl
  rw [HTV]
  generalize hone : x.one me now = res
  have HONE := Aside0.mk hone
  clear h hg HTV hone
  go_enter Tryz.func152, Tryz.ntmps152
  go_upto_region 1 with fail
  generalize hw1 : w.alloc (.cells #[.pointer (some ⟨tb, 0, none⟩), .pointer (some ⟨p, 0, none⟩), .int .i64 me] 122) = w1 at HW HM HB ⊢
  have HN : Aside0 (¬ okS w.heap.size) := ⟨fun hk => by have := HL.out _ hk; omega⟩
  generalize hbb : w.heap.size = b at HB HN ⊢
  have HBB := Aside0.mk hbb
  clear hw1 hbb
  have HC := Aside0.mk (And.intro ((blk_cell HB.out 1).trans (rfl : _ = some (Value.pointer (some ⟨p, 0, none⟩)))) (And.intro ((blk_cell HB.out 2).trans (rfl : _ = some (Value.int .i64 me))) ((blk_cell HW.out.box 2).trans (rfl : _ = some (Value.pointer (some ⟨pE, 0, none⟩))))))
  refine ordStart (n := 10) (S := fun w' => w'.cell? ⟨b, 1, none⟩ = some (.pointer (some ⟨p, 0, none⟩)) ∧ w'.cell? ⟨b, 2, none⟩ = some (.int .i64 me) ∧ w'.cell? ⟨p, 2, none⟩ = some (.pointer (some ⟨pE, 0, none⟩))) (ds := [8]) (by kernel_rfl) rfl tabOne1 bitsOne1 HC.out (fun hHeld HT_ HW_ => ?_)
  have HW := Aside0.mk (HW.out.step (w1 := w1.drew) (Nat.le_refl _) (fun _ _ _ => rfl))
  have HM := Aside0.mk HM.out.drew
  have HB := Aside0.mk (blk_drew HB.out)
  clear HC
  generalize World.drew _ = w1 at HW HM HB hHeld ⊢
  refine ord_ [(0, some 6), (1, some 7), (2, some 8), (3, some 9), (4, some 10), (5, some 11), (6, some 12), (7, some 13)] ?_
  (refine ordP (v := ?_) (a' := ?_) HT_ (by kernel_rfl) rfl rfl (fun _ _ _ h => h) (Or.inl ⟨by rfl, ?_⟩) ?_ ?_; rotate_left; (intro w'; go_simp; with_reducible rfl); rotate_left; (simp only [Act.put, p1_, p2_, p3_, i64_w, i32_w]; rfl))
  iterate 7 (refine ordT (v := ?_) (a' := ?_) HT_ HW_ (by kernel_rfl) rfl rfl (fun _ _ _ h => h) hHeld (Or.inl ⟨by rfl, ?_⟩) ?_ ?_; rotate_left; (rintro w' ⟨s0, s1, s2⟩; go_simp; with_reducible rfl); rotate_left; (simp only [Act.put, p1_, p2_, p3_, i64_w, i32_w]; rfl))
  refine ordNil ?_
  refine ordLast (i := 8) (some 14) HT_ (by kernel_rfl) rfl rfl (by decide) (fun K_ hK => ?_)
  refine call_ 190 #[.pointer (some ⟨pE, 0, none⟩), .int .i64 me, .int .i64 now] (by rfl) rfl ?hrun8 ?_
  (case hrun8 => first | (go_simp; done) | (go_simp; exact enters Tryz.func190 (by kernel_rfl) rfl _ _))
  refine (ep_ready me now _ HW.out.ep HG.out.ep).mono ?_
  rintro e w2 ⟨rfl, hE, hM⟩
  have hWM := HW.out.ep_moves hE hM
  have W2 := Aside0.mk hWM.1
  have M2 := Aside0.mk (HM.out.trans hWM.2)
  have B2 := Aside0.mk ((hWM.2.block b (blk_lt HB.out) HN.out).trans HB.out)
  clear hE hM hWM HW HM HB
  refine ⟨_, rfl, ?_⟩
  refine hK.out _ _ ?_
  clear hK K_
  refine norm_ (a' := ?_) ?_ ?_
  rotate_left; · show Act.put _ (some 14) _ = _; simp only [Act.put, p1_, p2_, p3_, i64_w, i32_w]; rfl
  refine ord_ [(9, some 5)] ?_
  (refine ordP (v := ?_) (a' := ?_) HT_ (by kernel_rfl) rfl rfl (fun _ _ _ h => h) (Or.inl ⟨by rfl, ?_⟩) ?_ ?_; rotate_left; (intro w'; go_simp; with_reducible rfl); rotate_left; (simp only [Act.put, p1_, p2_, p3_, i64_w, i32_w]; rfl))
  refine ordNil ?_
  refine done_ (done_of HT_.out (by kernel_rfl)) ?_
  have G2 : Aside0 (Ws.Good { x with ep := (x.ep.ready me now).2 }) := ⟨⟨HG.out.ar, HG.out.ep.ready me now, HG.out.tb⟩⟩
  have c1 := (blk_cell B2.out 1).trans (rfl : _ = some (Value.pointer (some ⟨p, 0, none⟩)))
  have c0 := (blk_cell W2.out.box 0).trans (rfl : _ = some (Value.pointer (some ⟨pA, 0, none⟩)))
  by_cases h0 : (x.ep.ready me now).1 = 0
  · have e1 : x.one me now = (0, { x with ep := (x.ep.ready me now).2 }) := if_pos h0
    have e2 := HONE.out.symm.trans e1
    subst e2
    have hb : ((x.ep.ready me now).1 == 0) = true := by simp [h0]
    have hb2 : ((x.ep.ready me now).1 != 0) = false := by simp [h0]
    have H0 := Aside0.mk h0
    clear h0 e1 HONE
    go_wp2_with fail
    go_ret
    exact ⟨_, by rw [H0.out]; rfl, ⟨⟨_, _, _, _, _, _, W2.out⟩, G2.out⟩, M2.out⟩
  · have e1 : x.one me now = ((x.ep.ready me now).1, { x with ep := (x.ep.ready me now).2, ar := (x.ar.free_ (x.ep.ready me now).1).2 }) := if_neg h0
    have e2 := HONE.out.symm.trans e1
    subst e2
    have hb : ((x.ep.ready me now).1 == 0) = false := by simp [h0]
    have hb2 : ((x.ep.ready me now).1 != 0) = true := by simp [h0]
    clear h0 e1 HONE
    go_wp2_with (go_at_call 112; refine (free_calls (x.ep.ready me now).1 _ W2.out.ar (by have h1 := G2.out.ar.slots; have h2 := G2.out.ar.most; have h3 : (x.ar.slots.length : Int) ≤ x.ar.most := h1; have h4 : x.ar.most ≤ 65536 := h2; show x.ar.slots.length < 1000000; omega) G2.out.ar.free_few).mono ?_; rintro e w3 ⟨rfl, okA3, hA3, hM3⟩; have W3 := Aside0.mk (W2.out.ar_moves hA3 hM3).1; have M3 := Aside0.mk (M2.out.trans (W2.out.ar_moves hA3 hM3).2); clear hA3 hM3)
    go_ret
    exact ⟨_, rfl, ⟨⟨_, _, _, _, _, _, W3.out⟩, ⟨HG.out.ar.free_ _, G2.out.ep, HG.out.tb⟩⟩, M3.out⟩
set_option maxHeartbeats 2000000 in
set_option maxRecDepth 100000 in
theorem begin4_calls (p tb : Nat) (x : Ws) (me now : Int) (w : World) (okS : Nat → Prop) (bt bn : Nat) (h : shW p x okS w) (hb : w.heap[bt]? = some (taskO tb p me)) (hn : w.cell? ⟨bn, 0, none⟩ = some (.int .i64 now)) :
    Calls Tryz.prog 151 #[.pointer (some ⟨bt, 0, none⟩), .pointer (some ⟨bn, 0, none⟩)] w (ShPost p (.int .i64 (x.one me now).1) (x.one me now).2 okS w) := by
  have H := Aside0.mk (one_calls p tb x me now w okS h)
  unfold taskV at H
  have c0 := (blk_cell hb 0).trans (rfl : _ = some (Value.pointer (some ⟨tb, 0, none⟩)))
  have c1 := (blk_cell hb 1).trans (rfl : _ = some (Value.pointer (some ⟨p, 0, none⟩)))
  have c2 := (blk_cell hb 2).trans (rfl : _ = some (Value.int .i64 me))
  clear h hb
  go_enter Tryz.func151, Tryz.ntmps151
  go_wp2_with (go_at_call 152; refine H.out.mono ?_; rintro e w2 ⟨okS1, rfl, h1, h2⟩; have H1 := Aside0.mk h1; have H2 := Aside0.mk h2; clear h1 h2)
  go_ret
  exact ⟨okS1, rfl, H1.out, H2.out⟩
end Go.Proofs.YtelmidpepojbdaaGreat.Tower
namespace Go.Proofs.YtelmidpepojbdaaGreat.Tower
open Go Go.RowKit Go.Proofs.YtelmidpepojbdaaGreatW.PrintWords Go.Proofs.YtelmidpepojbdaaGreatW.PrintLast Go.Proofs.YtelmidpepojbdaaGreatW.PrintMore Go.Proofs.YtelmidpepojbdaaGreat.Own
set_option linter.unusedVariables false
set_option linter.unusedSimpArgs false
def prRet {X α : Type} (a : α) : Pr X α := fun s => some (.ret a, s)
def oneT (me n : Int) : Pr Ws Int := doT (fun x => x.one me n)
def freeT (me n : Int) : Nat → Pr Ws Unit
  | 0 => fun _ => none
  | f + 1 => prBind (oneT me n) fun r => if r = 0 then prRet () else freeT me n f
def boxI (n : Int) : Obj := .cells #[.int .i64 n] 2 (0, 0)
section
variable {p tb : Nat} {work : Value} {me : Int} {bt bn bk : Nat} {n : Int} {ok okc : Nat → Prop} {w wc : World} {s t : TS Ws}
theorem TaskAt.one_ (h : TaskAt p tb work me bt ok w okc s wc) (hn : Mine okc wc bn (boxI n)) {o : Out Int} (hd : oneT me n s = some (o, t)) :
    Calls Tryz.prog 141 #[.pointer (some ⟨tb, 0, none⟩), .func (.func 151) #[] #[.pointer (some ⟨bt, 0, none⟩), .pointer (some ⟨bn, 0, none⟩)]] wc (DoPost intV p tb work me bt ok w okc o t wc) :=
  h.do_ _ 151 _ (enters Tryz.func151 (by kernel_rfl) rfl _) (fun w1 okS hm hk hs => (begin4_calls p tb s.sh me n w1 okS bt bn hs (h.box.moves hm).1 ((blk_cell (hn.moves hm).1 0).trans rfl)).mono (fun _ _ h => h.out)) hd
theorem TaskAt.few (h : TaskAt p tb work me bt ok w okc s wc) : s.sh.ep.said.length ≤ 64 := by
  obtain ⟨_, _, ⟨_, hg⟩, _⟩ := h.run.direct
  exact hg.ep.few
end
end Go.Proofs.YtelmidpepojbdaaGreat.Tower
namespace Go.Proofs.YtelmidpepojbdaaGreat.Tower
open Go Go.RowKit Go.Proofs.YtelmidpepojbdaaGreatW.PrintWords Go.Proofs.YtelmidpepojbdaaGreatW.PrintLast Go.Proofs.YtelmidpepojbdaaGreatW.PrintMore Go.Proofs.YtelmidpepojbdaaGreat.Own
set_option linter.unusedVariables false
set_option linter.unusedSimpArgs false
theorem TaskAt.cells {p tb : Nat} {work : Value} {me : Int} {bt : Nat} {ok okc : Nat → Prop} {w wc : World} {s : TS Ws} (h : TaskAt p tb work me bt ok w okc s wc) {g : Nat} (hn : ¬ okc g) (hw : w.heap.size ≤ g) (ht : g ≠ bt) (o : Nat) (seg : List Value) : TaskAt p tb work me bt ok w okc s (wc.setCells g o seg) :=
  ⟨h.run.step (shW_shared p) (by rw [(setCells_same g seg o wc).2.2.2]; exact Nat.le_refl _) (fun k hk _ => setCells_far seg o k (fun e => hn (e ▸ hk))), moves_cells h.moves (.inr hw) o seg, ⟨(setCells_far seg o bt (fun e => ht e.symm)).trans h.box.1, h.box.2⟩⟩
theorem setCells_all {w : World} {g : Nat} {cur : Array Value} {e : TypeId} {seg : List Value} (h : w.heap[g]? = some (.cells cur e (0, 0))) (hl : cur.size = seg.length) : (w.setCells g 0 seg).heap[g]? = some (.cells seg.toArray e (0, 0)) := by
  obtain ⟨cur', h3, h4, h5⟩ := setCells_row seg 0 w cur h (by omega)
  rw [h3]
  have : cur'.toList = seg := by
    rw [h5]
    simp only [List.take_zero, List.nil_append, Nat.zero_add]
    rw [List.drop_of_length_le (by rw [Array.length_toList]; omega), List.append_nil]
  rw [← this]
theorem Mine.cells {ok : Nat → Prop} {w : World} {g : Nat} {o : Obj} (h : Mine ok w g o) {g1 : Nat} (hn : g1 ≠ g) (o1 : Nat) (seg : List Value) : Mine ok (w.setCells g1 o1 seg) g o := ⟨(setCells_far seg o1 g (fun e => hn e.symm)).trans h.1, h.2⟩
theorem IsRun.good {p tb : Nat} {work : Value} {ok : Nat → Prop} {s : TS Ws} {w : World} (h : IsRun (shW p) tb work ok s w) : s.sh.Good := by
  obtain ⟨_, _, ⟨_, hg⟩, _⟩ := h.direct
  exact hg
end Go.Proofs.YtelmidpepojbdaaGreat.Tower
namespace Go.Proofs.YtelmidpepojbdaaGreatW.PrintWords
open Go.RowKit
section
variable {P : Program} {d : Nat} {xs ys : Array Value} {f : Field} {fs : List Field} {a b : Value} {r s : Bool} {w : World}
theorem eqf_last (hn : (f.name == "_") = false) (ha : (part f.type xs f.offset).run P w = .ok a w) (hb : (part f.type ys f.offset).run P w = .ok b w) (he : (Op.equalIn d f.type a b).run P w = .ok r w) : (Op.eqFields d xs ys [f]).run P w = .ok r w := by
  have hn' : f.name ≠ "_" := by simpa using hn
  simp only [Op.eqFields, if_pos hn', Sem.run_bind, ha, hb, he, Result.andThen_ok]
  cases r <;> simp
theorem eqf_cons (hn : (f.name == "_") = false) (ha : (part f.type xs f.offset).run P w = .ok a w) (hb : (part f.type ys f.offset).run P w = .ok b w) (he : (Op.equalIn d f.type a b).run P w = .ok r w) (hr : (Op.eqFields d xs ys fs).run P w = .ok s w) : (Op.eqFields d xs ys (f :: fs)).run P w = .ok (r && s) w := by
  have hn' : f.name ≠ "_" := by simpa using hn
  rw [Op.eqFields]
  simp only [if_pos hn', Sem.run_bind, ha, hb, he, Result.andThen_ok]
  cases r
  · simp
  · simpa using hr
theorem eqA_of {t : TypeId} {fs : Array Field} (hu : P.underlying t = some (.struct fs)) (hp : P.stoodInHeld t = false) (h : (Op.eqFields d xs ys fs.toList).run P w = .ok r w) : (Op.equalIn (d + 1) t (.agg xs) (.agg ys)).run P w = .ok r w := by
  have hf : P.fieldsOf t = fs := by simp [Program.fieldsOf, hu]
  rw [run_equalIn_struct (P := P) w d t xs ys (by rw [hf]; exact hu) hp, hf]
  exact h
end
end Go.Proofs.YtelmidpepojbdaaGreatW.PrintWords
namespace Go.Proofs.YtelmidpepojbdaaGreatW.PrintWords
theorem Reps.one {α : Type} {R : α → List Value → Prop} {ps : List α} {cs : List Value} {p : α} {v : Value} (hp : R p [v]) (h : Reps R 1 ps cs) : Reps R 1 (p :: ps) (v :: cs) := by
  refine ⟨by simp [h.1], fun j q hq => ?_⟩
  cases j with
  | zero =>
    simp only [List.getElem?_cons_zero, Option.some.injEq] at hq
    subst hq
    simpa using hp
  | succ j =>
    simp only [List.getElem?_cons_succ] at hq
    have h1 := h.2 j q hq
    simpa [Nat.mul_one] using h1
theorem Reps.front {α : Type} {R : α → List Value → Prop} {size : Nat} {ps : List α} {cs c all : List Value} {p : α} (hp : R p c) (hc : c.length = size) (h : Reps R size ps cs) (ha : c ++ cs = all) : Reps R size (p :: ps) all := by
  subst ha
  refine ⟨by rw [List.length_append, hc, h.1, List.length_cons, Nat.succ_mul, Nat.add_comm], fun j q hq => ?_⟩
  cases j with
  | zero =>
    simp only [List.getElem?_cons_zero, Option.some.injEq] at hq
    subst hq
    rw [Nat.zero_mul, List.drop_zero, List.take_append_of_le_length (by omega), List.take_of_length_le (by omega)]
    exact hp
  | succ j =>
    simp only [List.getElem?_cons_succ] at hq
    have h1 := h.2 j q hq
    rw [Nat.succ_mul, List.drop_append, List.drop_of_length_le (by rw [hc]; exact Nat.le_add_left _ _), List.nil_append, hc, Nat.add_sub_cancel]
    exact h1
theorem Reps.c2 {α : Type} {R : α → List Value → Prop} {ps : List α} {cs : List Value} {p : α} {va vb : Value} (hp : R p [va, vb]) (h : Reps R 2 ps cs) : Reps R 2 (p :: ps) (va :: vb :: cs) := Reps.front hp rfl h rfl
theorem Reps.c3 {α : Type} {R : α → List Value → Prop} {ps : List α} {cs : List Value} {p : α} {va vb vc : Value} (hp : R p [va, vb, vc]) (h : Reps R 3 ps cs) : Reps R 3 (p :: ps) (va :: vb :: vc :: cs) := Reps.front hp rfl h rfl
theorem Reps.c4 {α : Type} {R : α → List Value → Prop} {ps : List α} {cs : List Value} {p : α} {va vb vc vd : Value} (hp : R p [va, vb, vc, vd]) (h : Reps R 4 ps cs) : Reps R 4 (p :: ps) (va :: vb :: vc :: vd :: cs) := Reps.front hp rfl h rfl
theorem Reps.c5 {α : Type} {R : α → List Value → Prop} {ps : List α} {cs : List Value} {p : α} {va vb vc vd ve : Value} (hp : R p [va, vb, vc, vd, ve]) (h : Reps R 5 ps cs) : Reps R 5 (p :: ps) (va :: vb :: vc :: vd :: ve :: cs) := Reps.front hp rfl h rfl
theorem Reps.c6 {α : Type} {R : α → List Value → Prop} {ps : List α} {cs : List Value} {p : α} {va vb vc vd ve vf : Value} (hp : R p [va, vb, vc, vd, ve, vf]) (h : Reps R 6 ps cs) : Reps R 6 (p :: ps) (va :: vb :: vc :: vd :: ve :: vf :: cs) := Reps.front hp rfl h rfl
theorem Reps.c7 {α : Type} {R : α → List Value → Prop} {ps : List α} {cs : List Value} {p : α} {va vb vc vd ve vf vg : Value} (hp : R p [va, vb, vc, vd, ve, vf, vg]) (h : Reps R 7 ps cs) : Reps R 7 (p :: ps) (va :: vb :: vc :: vd :: ve :: vf :: vg :: cs) := Reps.front hp rfl h rfl
theorem Reps.c8 {α : Type} {R : α → List Value → Prop} {ps : List α} {cs : List Value} {p : α} {va vb vc vd ve vf vg vh : Value} (hp : R p [va, vb, vc, vd, ve, vf, vg, vh]) (h : Reps R 8 ps cs) : Reps R 8 (p :: ps) (va :: vb :: vc :: vd :: ve :: vf :: vg :: vh :: cs) := Reps.front hp rfl h rfl
theorem Reps.c9 {α : Type} {R : α → List Value → Prop} {ps : List α} {cs : List Value} {p : α} {va vb vc vd ve vf vg vh vi : Value} (hp : R p [va, vb, vc, vd, ve, vf, vg, vh, vi]) (h : Reps R 9 ps cs) : Reps R 9 (p :: ps) (va :: vb :: vc :: vd :: ve :: vf :: vg :: vh :: vi :: cs) := Reps.front hp rfl h rfl
theorem Reps.c10 {α : Type} {R : α → List Value → Prop} {ps : List α} {cs : List Value} {p : α} {va vb vc vd ve vf vg vh vi vj : Value} (hp : R p [va, vb, vc, vd, ve, vf, vg, vh, vi, vj]) (h : Reps R 10 ps cs) : Reps R 10 (p :: ps) (va :: vb :: vc :: vd :: ve :: vf :: vg :: vh :: vi :: vj :: cs) := Reps.front hp rfl h rfl
end Go.Proofs.YtelmidpepojbdaaGreatW.PrintWords
namespace Go.Proofs.YtelmidpepojbdaaGreatW.PrintLast
def up (b : Nat → Bool) (i : Nat) : Nat → Bool := fun j => if j = i then true else b j
section
variable {P : Program} {ops : Array Oper} {Q : Exit → Act → World → Prop} {md : Region.Mode} {T : Bool × List (List Nat × List Nat)} {B : List Nat} {O : List Nat} {b : Nat → Bool} {i j n : Nat}
theorem put_comm {a : Act} {s t : Tmp} {u v : Value} (h : s ≠ t) : (a.put (some s) u).put (some t) v = (a.put (some t) v).put (some s) u := by
  simp only [Act.put]
  rw [Array.setIfInBounds_comm _ _ h]
end
end Go.Proofs.YtelmidpepojbdaaGreatW.PrintLast
namespace Go.Proofs.YtelmidpepojbdaaGreatW.PrintWords
open Go.RowKit
theorem Kd.R_slice1 {α : Type} {d : Kd α} {e base : Nat} {ok : Nat → Prop} {w : World} {v : Value} {xs : List α} (h : d.R e w base ok v xs) (hn : 0 < xs.length) : ∃ (ad : Addr) (c : Nat), v = .slice (some ad) xs.length c := by
  obtain ⟨A, c, rfl⟩ := Kd.R_slice h
  have h2 := (Kd.R_reads' h).2.2
  obtain ⟨ad, he, _⟩ := h2.2.2 hn
  subst he
  exact ⟨ad, c, rfl⟩
end Go.Proofs.YtelmidpepojbdaaGreatW.PrintWords
namespace Go.Proofs.YtelmidpepojbdaaGreatW.PrintLast
section
variable {ops : Array Oper} {a : Act} {o og : Oper} {g : Nat} {t : Tmp} {u : Bool}
end
end Go.Proofs.YtelmidpepojbdaaGreatW.PrintLast
namespace Go.Proofs.YtelmidpepojbdaaGreatW.PrintWords
open Go.RowKit
section
variable {P : Program} {ops : Array Oper} {rest : List Oper} {o : Oper} {a : Act} {Q : Exit → Act → World → Prop} {W : World}
theorem gate_guard (hw : Region.wanted o (yielded ops a.tmps) = true) (h : wpList P ops Q ({ o with guard := none } :: rest) a W) : wpList P ops Q (o :: rest) a W := by
  have h1 : Region.wanted { o with guard := none } (yielded ops a.tmps) = true := rfl
  unfold wpList at h ⊢
  rw [if_pos h1] at h
  rw [if_pos hw]
  exact h
end
end Go.Proofs.YtelmidpepojbdaaGreatW.PrintWords
namespace Go.Proofs.YtelmidpepojbdaaGreat.PMendRight
open Go.RowKit Go.Proofs.YtelmidpepojbdaaGreatW.PrintWords Go.Proofs.YtelmidpepojbdaaGreatW.PrintLast Go.Proofs.YtelmidpepojbdaaGreatW.PrintMore
attribute [local go_sem] max2_int min2_int max_two min_two max_three min_three max_four min_four
set_option linter.unusedVariables false
set_option linter.unusedSimpArgs false
def errW : Option Int → Value
  | none => .nilIface
  | some c => .iface 0 (.int .i64 c)
theorem errW_none : errW none = .nilIface := rfl
theorem errW_some (c : Int) : errW (some c) = .iface 0 (.int .i64 c) := rfl
theorem info2 : (Tryz.prog.info? 2).map (fun i => (i.zero, i.size, i.bytes)) = some (some (.int .i64 0), 1, 8) := by kernel_rfl
theorem info3 : (Tryz.prog.info? 3).map (fun i => (i.zero, i.size, i.bytes)) = some (some (.int .i64 0), 1, 8) := by kernel_rfl
theorem info29 : (Tryz.prog.info? 29).map (fun i => (i.zero, i.size, i.bytes)) = some (some (.agg #[(.bool false), (.bool false), (.slice none 0 0), (.slice none 0 0), (.slice none 0 0)]), 5, 80) := by kernel_rfl
theorem info106 : (Tryz.prog.info? 106).map (fun i => (i.zero, i.size, i.bytes)) = some (some (.agg #[(.int .i64 0), (.int .i64 0)]), 2, 16) := by kernel_rfl
structure S106 where
  f0 : Int
  f1 : Int
def z106 : S106 := ⟨(0 : Int), (0 : Int)⟩
def k106 : Kd S106 := Kd.iso (Kd.pair (Kd.int .i64) (Kd.int .i64)) (fun x : S106 => (x.f0, x.f1))
theorem k106_open {w : World} {x : S106} {cs : List Value} (h : k106.K w x cs) : cs = [.int .i64 x.f0, .int .i64 x.f1] := by
  obtain ⟨_, _, rfl, rfl, rfl⟩ := h
  exact rfl
theorem k106_mkM (w : World) (base : Nat) (ok : Nat → Prop) (x : S106)  : k106.M w base ok x [.int .i64 x.f0, .int .i64 x.f1] := ⟨[.int .i64 x.f0], [.int .i64 x.f1], rfl, rfl, rfl⟩
def rd_T106 (xs : List S106) (i : Int) : S106 := xs.getD i.toNat z106
theorem at_T106 {w : World} {A : Option Addr} {n : Nat} {xs : List S106} (h : Kd.C k106 w A n xs) (i : Int) (h0 : 0 ≤ i) (h1 : i < n) : ∃ ad , A = some ad ∧ w.cell? (ad.add (i.toNat * 2)) = some (.int .i64 (rd_T106 xs i).f0) ∧ w.cell? ⟨(ad.add (i.toNat * 2)).block, (ad.add (i.toNat * 2)).off + 1, none⟩ = some (.int .i64 (rd_T106 xs i).f1) := by
  obtain ⟨ad, c, e, _, hK, hc0⟩ := Kd.C_get h z106 i h0 h1
  have hc : ∀ j u, c[j]? = some u → w.cell? (ad.add (i.toNat * 2 + j)) = some u := hc0
  obtain rfl := k106_open hK
  exact ⟨ad, e, hc 0 _ rfl, by rw [← add_field _ _ 1 (by omega)]; exact hc 1 _ rfl⟩
structure S114 where
  f0 : (List Int)
  f1 : (List Int)
def k114 : Kd S114 := Kd.iso (Kd.pair (Kd.slice 2 (Kd.int .i64)) (Kd.slice 45 (Kd.int .i64))) (fun x : S114 => (x.f0, x.f1))
structure S116 where
  f0 : Bool
  f1 : Bool
  f2 : (List S106)
  f3 : S114
def k116 : Kd S116 := Kd.iso (Kd.pair Kd.bool (Kd.pair Kd.bool (Kd.pair (Kd.slice 106 k106) k114))) (fun x : S116 => (x.f0, x.f1, x.f2, x.f3))
structure S190 where
  f0 : S116
  f1 : (List Int)
  f2 : Int
  f3 : Bool
  f4 : Int
  f5 : Bool
def k190 : Kd S190 := Kd.iso (Kd.pair k116 (Kd.pair (Kd.slice 45 (Kd.int .i64)) (Kd.pair (Kd.int .i64) (Kd.pair Kd.bool (Kd.pair (Kd.int .u32) Kd.bool))))) (fun x : S190 => (x.f0, x.f1, x.f2, x.f3, x.f4, x.f5))
structure S29 where
  f0 : Bool
  f1 : Bool
  f2 : (List S106)
  f3 : (List Int)
  f4 : (List S29)
def z29 : S29 := ⟨false, false, ([] : List S106), ([] : List Int), ([] : List S29)⟩
def F29 (d : Kd S29) : Kd S29 := Kd.iso (Kd.pair Kd.bool (Kd.pair Kd.bool (Kd.pair (Kd.slice 106 k106) (Kd.pair (Kd.slice 2 (Kd.int .i64)) (Kd.slice 29 d))))) (fun x : S29 => (x.f0, x.f1, x.f2, x.f3, x.f4))
theorem mono29 : Kd.Mono F29 := Kd.mono_iso _ (Kd.mono_pair (Kd.mono_const _) (Kd.mono_pair (Kd.mono_const _) (Kd.mono_pair (Kd.mono_const _) (Kd.mono_pair (Kd.mono_const _) (Kd.mono_slice 29 Kd.mono_id)))))
theorem sub29 : Kd.Sub F29 [2, 29, 106] := Kd.sub_iso _ (Kd.sub_pair (Kd.sub_const _ (by decide)) (Kd.sub_pair (Kd.sub_const _ (by decide)) (Kd.sub_pair (Kd.sub_const _ (by decide)) (Kd.sub_pair (Kd.sub_const _ (by decide)) (Kd.sub_slice 29 (by decide) Kd.sub_id)))))
theorem sz29 : ∀ n, (Kd.upto F29 5 [2, 29, 106] n).sz = 5 := Kd.upto_sz (fun _ => rfl)
def k29 : Kd S29 := Kd.fix F29 5 [2, 29, 106] sz29 (Kd.upto_E sub29)
theorem k29_open {w : World} {x : S29} {cs : List Value} (h : k29.K w x cs) : ∃ A2 c2 A3 c3 A4 c4, cs = [.bool x.f0, .bool x.f1, .slice A2 x.f2.length c2, .slice A3 x.f3.length c3, .slice A4 x.f4.length c4] ∧ x.f2.length ≤ c2 ∧ k106.C w A2 x.f2.length x.f2 ∧ x.f3.length ≤ c3 ∧ (Kd.int .i64).C w A3 x.f3.length x.f3 ∧ x.f4.length ≤ c4 ∧ k29.C w A4 x.f4.length x.f4 := by
  obtain ⟨n, h⟩ := h
  cases n with
  | zero => exact h.elim
  | succ n =>
    obtain ⟨_, _, rfl, rfl, ⟨_, _, rfl, rfl, ⟨_, _, rfl, ⟨A2, c2, rfl, l2, g2⟩, ⟨_, _, rfl, ⟨A3, c3, rfl, l3, g3⟩, ⟨A4, c4, rfl, l4, g4⟩⟩⟩⟩⟩ := h
    exact ⟨A2, c2, A3, c3, A4, c4, rfl, l2, g2, l3, g3, l4, Kd.fix_C g4⟩
theorem k29_mk (w : World) (x : S29) {A2 : Option Addr} {c2 : Nat} (l2 : x.f2.length ≤ c2) (g2 : k106.C w A2 x.f2.length x.f2) {A3 : Option Addr} {c3 : Nat} (l3 : x.f3.length ≤ c3) (g3 : (Kd.int .i64).C w A3 x.f3.length x.f3) {A4 : Option Addr} {c4 : Nat} (l4 : x.f4.length ≤ c4) (g4 : k29.C w A4 x.f4.length x.f4) : k29.K w x [.bool x.f0, .bool x.f1, .slice A2 x.f2.length c2, .slice A3 x.f3.length c3, .slice A4 x.f4.length c4] := by
  obtain ⟨n4, q4⟩ := Kd.fix_C_back mono29 g4
  have r4 := Kd.upto_C_le mono29 sz29 (show n4 ≤ n4 by omega) q4
  exact ⟨n4 + 1, ⟨[.bool x.f0], [.bool x.f1, .slice A2 x.f2.length c2, .slice A3 x.f3.length c3, .slice A4 x.f4.length c4], rfl, rfl, ⟨[.bool x.f1], [.slice A2 x.f2.length c2, .slice A3 x.f3.length c3, .slice A4 x.f4.length c4], rfl, rfl, ⟨[.slice A2 x.f2.length c2], [.slice A3 x.f3.length c3, .slice A4 x.f4.length c4], rfl, ⟨A2, c2, rfl, l2, g2⟩, ⟨[.slice A3 x.f3.length c3], [.slice A4 x.f4.length c4], rfl, ⟨A3, c3, rfl, l3, g3⟩, ⟨A4, c4, rfl, l4, r4⟩⟩⟩⟩⟩⟩
theorem k29_openF {W : World} {ok : Nat → Prop} {x : S29} {cs : List Value} (h : Kd.FK k29 W ok x cs) : ∃ A2 c2 A3 c3 A4 c4, cs = [.bool x.f0, .bool x.f1, .slice A2 x.f2.length c2, .slice A3 x.f3.length c3, .slice A4 x.f4.length c4] ∧ x.f2.length ≤ c2 ∧ Kd.F k106 W ok A2 x.f2.length x.f2 ∧ x.f3.length ≤ c3 ∧ Kd.F (Kd.int .i64) W ok A3 x.f3.length x.f3 ∧ x.f4.length ≤ c4 ∧ Kd.F k29 W ok A4 x.f4.length x.f4 := by
  obtain ⟨A2, c2, A3, c3, A4, c4, rfl, l2, _, l3, _, l4, _⟩ := k29_open (Kd.FK_now h)
  exact ⟨A2, c2, A3, c3, A4, c4, rfl, l2, (fun W' hW => by obtain ⟨A2_, c2_, A3_, c3_, A4_, c4_, he, l2_, g2_, l3_, g3_, l4_, g4_⟩ := k29_open (h W' hW); injection (Option.some.inj (show some (Value.slice A2 x.f2.length c2) = some (Value.slice A2_ x.f2.length c2_) from congrArg (fun l => l[2]?) he)) with ha_ _ _; rw [ha_]; exact g2_), l3, (fun W' hW => by obtain ⟨A2_, c2_, A3_, c3_, A4_, c4_, he, l2_, g2_, l3_, g3_, l4_, g4_⟩ := k29_open (h W' hW); injection (Option.some.inj (show some (Value.slice A3 x.f3.length c3) = some (Value.slice A3_ x.f3.length c3_) from congrArg (fun l => l[3]?) he)) with ha_ _ _; rw [ha_]; exact g3_), l4, (fun W' hW => by obtain ⟨A2_, c2_, A3_, c3_, A4_, c4_, he, l2_, g2_, l3_, g3_, l4_, g4_⟩ := k29_open (h W' hW); injection (Option.some.inj (show some (Value.slice A4 x.f4.length c4) = some (Value.slice A4_ x.f4.length c4_) from congrArg (fun l => l[4]?) he)) with ha_ _ _; rw [ha_]; exact g4_)⟩
theorem k29_mkF (W : World) (ok : Nat → Prop) (x : S29) {A2 : Option Addr} {c2 : Nat} (l2 : x.f2.length ≤ c2) (g2 : Kd.F k106 W ok A2 x.f2.length x.f2) {A3 : Option Addr} {c3 : Nat} (l3 : x.f3.length ≤ c3) (g3 : Kd.F (Kd.int .i64) W ok A3 x.f3.length x.f3) {A4 : Option Addr} {c4 : Nat} (l4 : x.f4.length ≤ c4) (g4 : Kd.F k29 W ok A4 x.f4.length x.f4) : Kd.FK k29 W ok x [.bool x.f0, .bool x.f1, .slice A2 x.f2.length c2, .slice A3 x.f3.length c3, .slice A4 x.f4.length c4] := fun W2 hW => k29_mk W2 x l2 (g2 W2 hW) l3 (g3 W2 hW) l4 (g4 W2 hW)
def rd_T29 (xs : List S29) (i : Int) : S29 := xs.getD i.toNat z29
theorem at_T29 {w : World} {A : Option Addr} {n : Nat} {xs : List S29} (h : Kd.C k29 w A n xs) (i : Int) (h0 : 0 ≤ i) (h1 : i < n) : ∃ ad A2 c2 A3 c3 A4 c4, A = some ad ∧ w.cell? (ad.add (i.toNat * 5)) = some (.bool (rd_T29 xs i).f0) ∧ w.cell? ⟨(ad.add (i.toNat * 5)).block, (ad.add (i.toNat * 5)).off + 1, none⟩ = some (.bool (rd_T29 xs i).f1) ∧ w.cell? ⟨(ad.add (i.toNat * 5)).block, (ad.add (i.toNat * 5)).off + 2, none⟩ = some (.slice A2 (rd_T29 xs i).f2.length c2) ∧ w.cell? ⟨(ad.add (i.toNat * 5)).block, (ad.add (i.toNat * 5)).off + 3, none⟩ = some (.slice A3 (rd_T29 xs i).f3.length c3) ∧ w.cell? ⟨(ad.add (i.toNat * 5)).block, (ad.add (i.toNat * 5)).off + 4, none⟩ = some (.slice A4 (rd_T29 xs i).f4.length c4) ∧ (rd_T29 xs i).f2.length ≤ c2 ∧ k106.C w A2 (rd_T29 xs i).f2.length (rd_T29 xs i).f2 ∧ (rd_T29 xs i).f3.length ≤ c3 ∧ (Kd.int .i64).C w A3 (rd_T29 xs i).f3.length (rd_T29 xs i).f3 ∧ (rd_T29 xs i).f4.length ≤ c4 ∧ k29.C w A4 (rd_T29 xs i).f4.length (rd_T29 xs i).f4 := by
  obtain ⟨ad, c, e, _, hK, hc0⟩ := Kd.C_get h z29 i h0 h1
  have hc : ∀ j u, c[j]? = some u → w.cell? (ad.add (i.toNat * 5 + j)) = some u := hc0
  obtain ⟨A2, c2, A3, c3, A4, c4, rfl, l2, g2, l3, g3, l4, g4⟩ := k29_open hK
  exact ⟨ad, A2, c2, A3, c3, A4, c4, e, hc 0 _ rfl, by rw [← add_field _ _ 1 (by omega)]; exact hc 1 _ rfl, by rw [← add_field _ _ 2 (by omega)]; exact hc 2 _ rfl, by rw [← add_field _ _ 3 (by omega)]; exact hc 3 _ rfl, by rw [← add_field _ _ 4 (by omega)]; exact hc 4 _ rfl, l2, g2, l3, g3, l4, g4⟩
end Go.Proofs.YtelmidpepojbdaaGreat.PMendRight
