/- What a call owns and what it leaves alone: 'Moves ok ok1 w w1': from w to w1 only blocks of ok, and new ones, turn; what is owned behind that is of ok, or new. -/
import Derived.Test.YtchjjoepikcmfaaGreatWShare
namespace Go.Proofs.YtchjjoepikcmfaaGreat.Own
open Go Go.RowKit Go.Proofs.YtchjjoepikcmfaaGreatW.PrintWords

structure Moves (ok ok1 : Nat → Prop) (w w1 : World) : Prop where
  os : w1.os = w.os
  tape : w1.tape = w.tape
  output : w1.output = w.output
  size : w.heap.size ≤ w1.heap.size
  block : ∀ k, k < w.heap.size → ¬ ok k → w1.heap[k]? = w.heap[k]?
  fresh : ∀ k, ok1 k → ok k ∨ w.heap.size ≤ k

section
variable {ok ok1 ok2 okA okB : Nat → Prop} {w w1 w2 w3 : World}

theorem Moves.refl (ok : Nat → Prop) (w : World) : Moves ok ok w w := ⟨rfl, rfl, rfl, Nat.le_refl _, fun _ _ _ => rfl, fun _ h => .inl h⟩
theorem Moves.trans (h : Moves ok ok1 w w1) (k : Moves ok1 ok2 w1 w2) : Moves ok ok2 w w2 where
  os := k.os.trans h.os
  tape := k.tape.trans h.tape
  output := k.output.trans h.output
  size := Nat.le_trans h.size k.size
  block := fun i hi hn => (k.block i (Nat.lt_of_lt_of_le hi h.size) (fun h1 => (h.fresh i h1).elim hn (fun h2 => by omega))).trans (h.block i hi hn)
  fresh := fun i h2 => by
    rcases k.fresh i h2 with h1 | h1
    · exact h.fresh i h1
    · exact .inr (Nat.le_trans h.size h1)
theorem Moves.below (h : Moves ok ok1 w w1) (b : Below w1.heap.size w1 w2) : Moves ok ok1 w w2 :=
  ⟨b.os.trans h.os, b.tape.trans h.tape, b.output.trans h.output, Nat.le_trans h.size b.size, fun i hi hn => (b.block i (Nat.lt_of_lt_of_le hi h.size)).trans (h.block i hi hn), h.fresh⟩
theorem Moves.of_below (ok : Nat → Prop) (b : Below w.heap.size w w1) : Moves ok ok w w1 := (Moves.refl ok w).below b
theorem Moves.alloc (h : Moves ok ok1 w w1) (o : Obj) : Moves ok ok1 w (w1.alloc o) := h.below (below_alloc (Below.refl _ _) o)
theorem Moves.drew (h : Moves ok ok1 w w1) : Moves ok ok1 w w1.drew := h.below (below_drew (Below.refl _ _))
theorem Moves.drewN (h : Moves ok ok1 w w1) (m : Nat) : Moves ok ok1 w (w1.drewN m) := h.below (pw_below_drewN (Below.refl _ _) m)
/-- A store into a block that is owned, or new. -/
theorem Moves.set (h : Moves ok ok1 w w1) {p : Addr} (hp : ok p.block ∨ w.heap.size ≤ p.block) (u : Value) : Moves ok ok1 w (w1.setCell p u) where
  os := h.os
  tape := h.tape
  output := h.output
  size := by simpa [World.setCell] using h.size
  block := fun i hi hn => (Below.heap_setCell w1 p u i (fun e => by subst e; exact hp.elim hn (fun h2 => by omega))).trans (h.block i hi hn)
  fresh := h.fresh
/-- A law that ends in 'grownBy'. -/
theorem Moves.grown (h : Moves ok ok1 w w1) {row : Option Nat} (hg : w1.grownBy w2 row) (hr : ∀ k, row = some k → ok k ∨ w.heap.size ≤ k) : Moves ok ok1 w w2 where
  os := hg.os.trans h.os
  tape := hg.tape.trans h.tape
  output := hg.output.trans h.output
  size := Nat.le_trans h.size hg.size
  block := fun i hi hn => (hg.block i (Nat.lt_of_lt_of_le hi h.size) (fun e => (hr i e.symm).elim hn (fun h2 => by omega))).trans (h.block i hi hn)
  fresh := h.fresh
/-- What is owned at the end. -/
theorem Moves.owns (h : Moves ok ok1 w w1) (hf : ∀ k, ok2 k → ok k ∨ w.heap.size ≤ k) : Moves ok ok2 w w1 := ⟨h.os, h.tape, h.output, h.size, h.block, hf⟩
/-- A part of what is owned moves: so does the whole. -/
theorem Moves.part (h : Moves okA ok1 w w1) (hp : ∀ k, okA k → ok k) (hb : ∀ k, okB k → ok k) : Moves ok (fun k => ok1 k ∨ okB k) w w1 where
  os := h.os
  tape := h.tape
  output := h.output
  size := h.size
  block := fun i hi hn => h.block i hi (fun h1 => hn (hp i h1))
  fresh := fun i h1 => by
    rcases h1 with h1 | h1
    · exact (h.fresh i h1).imp (hp i) id
    · exact .inl (hb i h1)
/-- Nothing is owned. -/
theorem Moves.outer (h : Moves ok ok1 w w1) (hn : ∀ k, ok k → w.heap.size ≤ k) : Below w.heap.size w w1 :=
  ⟨h.os, h.tape, h.output, h.size, fun k hk => h.block k hk (fun h1 => by have := hn k h1; omega)⟩

/-- A block that nobody owns holds this. -/
def Mine (ok : Nat → Prop) (w : World) (g : Nat) (o : Obj) : Prop := w.heap[g]? = some o ∧ ¬ ok g
theorem Mine.moves {g : Nat} {o : Obj} (h : Mine ok w g o) (m : Moves ok ok1 w w1) : Mine ok1 w1 g o :=
  ⟨(m.block g (blk_lt h.1) h.2).trans h.1, fun h1 => (m.fresh g h1).elim h.2 (fun h2 => by have := blk_lt h.1; omega)⟩
theorem Mine.alloc {g : Nat} {o : Obj} (h : Mine ok w g o) (o1 : Obj) : Mine ok (w.alloc o1) g o := h.moves ((Moves.refl ok w).alloc o1)
theorem Mine.new (hb : ∀ k, ok k → k < w.heap.size) (o : Obj) : Mine ok (w.alloc o) w.heap.size o := ⟨blk_new w o, fun h => by have := hb _ h; omega⟩
theorem Mine.far {g : Nat} {o : Obj} (h : Mine ok w g o) {p : Addr} (hp : p.block ≠ g) (u : Value) : Mine ok (w.setCell p u) g o := ⟨(Below.heap_setCell w p u g (fun e => hp e.symm)).trans h.1, h.2⟩
theorem Mine.set {g : Nat} {cs : Array Value} {t : TypeId} (h : Mine ok w g (.cells cs t (0, 0))) (j : Nat) (u : Value) : Mine ok (w.setCell ⟨g, j, none⟩ u) g (.cells (cs.setIfInBounds j u) t (0, 0)) := ⟨blk_set h.1 j u, h.2⟩
theorem Mine.lt {g : Nat} {o : Obj} (h : Mine ok w g o) : g < w.heap.size := blk_lt h.1

/-- Data that are read, in blocks that nobody owns. -/
theorem F_moves {α : Type} {d : Kd α} {A : Option Addr} {n : Nat} {xs : List α} (h : d.F w (fun k => ¬ ok k) A n xs) (m : Moves ok ok1 w w1) : d.F w1 (fun k => ¬ ok1 k) A n xs :=
  Kd.F_mono (Kd.F_step (Kd.F_bound h) (fun k hk hlt => m.block k hlt hk.1)) (fun k hk h1 => (m.fresh k h1).elim hk.1 (fun h2 => by have := hk.2; omega))
theorem FK_moves {α : Type} {d : Kd α} {x : α} {c : List Value} (h : d.FK w (fun k => ¬ ok k) x c) (m : Moves ok ok1 w w1) : d.FK w1 (fun k => ¬ ok1 k) x c :=
  Kd.FK_mono (Kd.FK_step (Kd.FK_bound h) (fun k hk hlt => m.block k hlt hk.1)) (fun k hk h1 => (m.fresh k h1).elim hk.1 (fun h2 => by have := hk.2; omega))
end
end Go.Proofs.YtchjjoepikcmfaaGreat.Own
