/- What a call owns and what it leaves alone: 'Moves ok ok1 w w1': from w to w1 only blocks of ok, and new ones, turn; what is owned behind that is of ok, or new. A thread in memory, and what its methods do to it. A thread's Step: its work goes on from its beginning, up to its next touch but one; the panic that ends it is recovered. A thread's run: its work goes on from its beginning up to its next touch but one. A thread's Step, walked. Operations in a thread, as Lean functions over what is shared, the log, and how far it is; and Do's contract in these words. slices.Clone, at pairs, keys and ways, walked. Places and nodes in memory (package arena), and what its functions do to them. A reference's place in the arena: ref.Of, Ref.Place, (*Arena).at, walked. (*Arena).Way, walked. (*Arena).Look, walked. -/
import Derived.Test.YthlmgbdknjilpaaGreatWShare
import Derived.Test.YthlmgbdknjilpaaGreatChecked
import Derived.Test.YthlmgbdknjilpaaGreatWLast
import Derived.Test.YthlmgbdknjilpaaGreatWMore
import Derived.Test.YthlmgbdknjilpaaGreatWTab
import Derived.Test.YthlmgbdknjilpaaGreatWQPut
import Derived.Test.YthlmgbdknjilpaaGreatWApart
import Derived.WalkKit
import Derived.ProofKit
import Derived.Below
import Derived.Deep.QuietTactic
import Derived.BigQuiet
import Derived.Recover
import Derived.Laws.Cover3
namespace Go.Proofs.YthlmgbdknjilpaaGreat.Own
open Go Go.RowKit Go.Proofs.YthlmgbdknjilpaaGreatW.PrintWords

structure Moves (ok ok1 : Nat → Prop) (w w1 : World) : Prop where
  os : w1.os = w.os
  tape : w1.tape = w.tape
  output : w1.output = w.output
  size : w.heap.size ≤ w1.heap.size
  block : ∀ k, k < w.heap.size → ¬ ok k → w1.heap[k]? = w.heap[k]?
  fresh : ∀ k, ok1 k → ok k ∨ w.heap.size ≤ k

section
variable {ok ok1 ok2 okA okB : Nat → Prop} {w w1 w2 w3 : World}

theorem Moves.refl (ok : Nat → Prop) (w : World) : Moves ok ok w w := ⟨rfl, rfl, rfl, Nat.le_refl _, fun _ _ _ => rfl, fun _ h => .inl h⟩
theorem Moves.trans (h : Moves ok ok1 w w1) (k : Moves ok1 ok2 w1 w2) : Moves ok ok2 w w2 where
  os := k.os.trans h.os
  tape := k.tape.trans h.tape
  output := k.output.trans h.output
  size := Nat.le_trans h.size k.size
  block := fun i hi hn => (k.block i (Nat.lt_of_lt_of_le hi h.size) (fun h1 => (h.fresh i h1).elim hn (fun h2 => by omega))).trans (h.block i hi hn)
  fresh := fun i h2 => by
    rcases k.fresh i h2 with h1 | h1
    · exact h.fresh i h1
    · exact .inr (Nat.le_trans h.size h1)
theorem Moves.below (h : Moves ok ok1 w w1) (b : Below w1.heap.size w1 w2) : Moves ok ok1 w w2 :=
  ⟨b.os.trans h.os, b.tape.trans h.tape, b.output.trans h.output, Nat.le_trans h.size b.size, fun i hi hn => (b.block i (Nat.lt_of_lt_of_le hi h.size)).trans (h.block i hi hn), h.fresh⟩
theorem Moves.of_below (ok : Nat → Prop) (b : Below w.heap.size w w1) : Moves ok ok w w1 := (Moves.refl ok w).below b
theorem Moves.alloc (h : Moves ok ok1 w w1) (o : Obj) : Moves ok ok1 w (w1.alloc o) := h.below (below_alloc (Below.refl _ _) o)
theorem Moves.drew (h : Moves ok ok1 w w1) : Moves ok ok1 w w1.drew := h.below (below_drew (Below.refl _ _))
theorem Moves.drewN (h : Moves ok ok1 w w1) (m : Nat) : Moves ok ok1 w (w1.drewN m) := h.below (pw_below_drewN (Below.refl _ _) m)
/-- A store into a block that is owned, or new. -/
theorem Moves.set (h : Moves ok ok1 w w1) {p : Addr} (hp : ok p.block ∨ w.heap.size ≤ p.block) (u : Value) : Moves ok ok1 w (w1.setCell p u) where
  os := h.os
  tape := h.tape
  output := h.output
  size := by simpa [World.setCell] using h.size
  block := fun i hi hn => (Below.heap_setCell w1 p u i (fun e => by subst e; exact hp.elim hn (fun h2 => by omega))).trans (h.block i hi hn)
  fresh := h.fresh
/-- A law that ends in 'grownBy'. -/
theorem Moves.grown (h : Moves ok ok1 w w1) {row : Option Nat} (hg : w1.grownBy w2 row) (hr : ∀ k, row = some k → ok k ∨ w.heap.size ≤ k) : Moves ok ok1 w w2 where
  os := hg.os.trans h.os
  tape := hg.tape.trans h.tape
  output := hg.output.trans h.output
  size := Nat.le_trans h.size hg.size
  block := fun i hi hn => (hg.block i (Nat.lt_of_lt_of_le hi h.size) (fun e => (hr i e.symm).elim hn (fun h2 => by omega))).trans (h.block i hi hn)
  fresh := h.fresh
/-- What is owned at the end. -/
theorem Moves.owns (h : Moves ok ok1 w w1) (hf : ∀ k, ok2 k → ok k ∨ w.heap.size ≤ k) : Moves ok ok2 w w1 := ⟨h.os, h.tape, h.output, h.size, h.block, hf⟩
/-- A part of what is owned moves: so does the whole. -/
theorem Moves.part (h : Moves okA ok1 w w1) (hp : ∀ k, okA k → ok k) (hb : ∀ k, okB k → ok k) : Moves ok (fun k => ok1 k ∨ okB k) w w1 where
  os := h.os
  tape := h.tape
  output := h.output
  size := h.size
  block := fun i hi hn => h.block i hi (fun h1 => hn (hp i h1))
  fresh := fun i h1 => by
    rcases h1 with h1 | h1
    · exact (h.fresh i h1).imp (hp i) id
    · exact .inl (hb i h1)
/-- Nothing is owned. -/
theorem Moves.outer (h : Moves ok ok1 w w1) (hn : ∀ k, ok k → w.heap.size ≤ k) : Below w.heap.size w w1 :=
  ⟨h.os, h.tape, h.output, h.size, fun k hk => h.block k hk (fun h1 => by have := hn k h1; omega)⟩

/-- A block that nobody owns holds this. -/
def Mine (ok : Nat → Prop) (w : World) (g : Nat) (o : Obj) : Prop := w.heap[g]? = some o ∧ ¬ ok g
theorem Mine.moves {g : Nat} {o : Obj} (h : Mine ok w g o) (m : Moves ok ok1 w w1) : Mine ok1 w1 g o :=
  ⟨(m.block g (blk_lt h.1) h.2).trans h.1, fun h1 => (m.fresh g h1).elim h.2 (fun h2 => by have := blk_lt h.1; omega)⟩
theorem Mine.alloc {g : Nat} {o : Obj} (h : Mine ok w g o) (o1 : Obj) : Mine ok (w.alloc o1) g o := h.moves ((Moves.refl ok w).alloc o1)
theorem Mine.new (hb : ∀ k, ok k → k < w.heap.size) (o : Obj) : Mine ok (w.alloc o) w.heap.size o := ⟨blk_new w o, fun h => by have := hb _ h; omega⟩
theorem Mine.far {g : Nat} {o : Obj} (h : Mine ok w g o) {p : Addr} (hp : p.block ≠ g) (u : Value) : Mine ok (w.setCell p u) g o := ⟨(Below.heap_setCell w p u g (fun e => hp e.symm)).trans h.1, h.2⟩
theorem Mine.set {g : Nat} {cs : Array Value} {t : TypeId} (h : Mine ok w g (.cells cs t (0, 0))) (j : Nat) (u : Value) : Mine ok (w.setCell ⟨g, j, none⟩ u) g (.cells (cs.setIfInBounds j u) t (0, 0)) := ⟨blk_set h.1 j u, h.2⟩
theorem Mine.lt {g : Nat} {o : Obj} (h : Mine ok w g o) : g < w.heap.size := blk_lt h.1

/-- Data that are read, in blocks that nobody owns. -/
theorem F_moves {α : Type} {d : Kd α} {A : Option Addr} {n : Nat} {xs : List α} (h : d.F w (fun k => ¬ ok k) A n xs) (m : Moves ok ok1 w w1) : d.F w1 (fun k => ¬ ok1 k) A n xs :=
  Kd.F_mono (Kd.F_step (Kd.F_bound h) (fun k hk hlt => m.block k hlt hk.1)) (fun k hk h1 => (m.fresh k h1).elim hk.1 (fun h2 => by have := hk.2; omega))
theorem FK_moves {α : Type} {d : Kd α} {x : α} {c : List Value} (h : d.FK w (fun k => ¬ ok k) x c) (m : Moves ok ok1 w w1) : d.FK w1 (fun k => ¬ ok1 k) x c :=
  Kd.FK_mono (Kd.FK_step (Kd.FK_bound h) (fun k hk hlt => m.block k hlt hk.1)) (fun k hk h1 => (m.fresh k h1).elim hk.1 (fun h2 => by have := hk.2; omega))
end
end Go.Proofs.YthlmgbdknjilpaaGreat.Own
namespace Go.Proofs.YthlmgbdknjilpaaGreat.Tower
open Go Go.RowKit Go.Proofs.YthlmgbdknjilpaaGreatW.PrintWords Go.Proofs.YthlmgbdknjilpaaGreatW.PrintLast Go.Proofs.YthlmgbdknjilpaaGreatW.PrintMore Go.Proofs.YthlmgbdknjilpaaGreat.Own
set_option linter.unusedVariables false
set_option linter.unusedSimpArgs false

structure Th where
  log : List Int
  at_ : Int
  spent : Bool
  in_ : Bool
  done : Bool
  out : List Int

def thCells (work lv ov : Value) (th : Th) : Array Value := #[work, lv, .int .i64 th.at_, .bool th.spent, .bool th.in_, .bool th.done, ov]

/-- A thread in memory: its box tb; lv: its log; A, c: what it came to. -/
def ThreadAt (ok : Nat → Prop) (tb : Nat) (work lv : Value) (A : Option Addr) (c : Nat) (th : Th) (w : World) : Prop :=
  ok tb ∧ (∀ k, ok k → k < w.heap.size) ∧ w.heap[tb]? = some (.cells (thCells work lv (.slice A th.out.length c) th) 88 (0, 0)) ∧
    (Kd.int .i64).R 2 w 0 (fun k => ok k ∧ k ≠ tb) lv th.log ∧ th.out.length ≤ c ∧ (Kd.int .i64).F w (fun k => ok k ∧ k ≠ tb ∧ some k ≠ lv.ownBlock) A th.out.length th.out
def IsThread (ok : Nat → Prop) (tb : Nat) (work : Value) (th : Th) (w : World) : Prop := ∃ lv A c, ThreadAt ok tb work lv A c th w

section
variable {ok : Nat → Prop} {tb : Nat} {work lv : Value} {A : Option Addr} {c : Nat} {th : Th} {w w1 : World}
theorem ThreadAt.step (h : ThreadAt ok tb work lv A c th w) (hs : w.heap.size ≤ w1.heap.size) (hm : ∀ k, ok k → k < w.heap.size → w1.heap[k]? = w.heap[k]?) : ThreadAt ok tb work lv A c th w1 := by
  obtain ⟨h1, h2, hb, hl, hc, ho⟩ := h
  exact ⟨h1, fun k hk => Nat.lt_of_lt_of_le (h2 k hk) hs, (hm tb h1 (h2 tb h1)).trans hb, Kd.R_step hl (fun k hk hlt => hm k hk.1 hlt), hc, Kd.F_step ho (fun k hk hlt => hm k hk.1 hlt)⟩
theorem ThreadAt.below (h : ThreadAt ok tb work lv A c th w) (hb : Below w.heap.size w w1) : ThreadAt ok tb work lv A c th w1 := h.step hb.size (fun k _ hlt => hb.block k hlt)
theorem ThreadAt.drewN (h : ThreadAt ok tb work lv A c th w) (m : Nat) : ThreadAt ok tb work lv A c th (w.drewN m) := h.step (Nat.le_refl _) (fun _ _ _ => rfl)
theorem ThreadAt.drew (h : ThreadAt ok tb work lv A c th w) : ThreadAt ok tb work lv A c th w.drew := h.step (Nat.le_refl _) (fun _ _ _ => rfl)
/-- A number of the thread's is set. -/
theorem ThreadAt.at_set (h : ThreadAt ok tb work lv A c th w) (n : Int) : ThreadAt ok tb work lv A c { th with at_ := n } (w.setCell ⟨tb, 2, none⟩ (.int .i64 n)) := by
  obtain ⟨h1, h2, hb, hl, hc, ho⟩ := h
  exact ⟨h1, fun k hk => by simpa [World.setCell] using h2 k hk, blk_set hb 2 _, Kd.R_far hl (fun k hk => hk.2) _, hc, Kd.F_far ho (fun k hk => hk.2.1) _⟩
theorem ThreadAt.spent_set (h : ThreadAt ok tb work lv A c th w) (b : Bool) : ThreadAt ok tb work lv A c { th with spent := b } (w.setCell ⟨tb, 3, none⟩ (.bool b)) := by
  obtain ⟨h1, h2, hb, hl, hc, ho⟩ := h
  exact ⟨h1, fun k hk => by simpa [World.setCell] using h2 k hk, blk_set hb 3 _, Kd.R_far hl (fun k hk => hk.2) _, hc, Kd.F_far ho (fun k hk => hk.2.1) _⟩
theorem ThreadAt.in_set (h : ThreadAt ok tb work lv A c th w) (b : Bool) : ThreadAt ok tb work lv A c { th with in_ := b } (w.setCell ⟨tb, 4, none⟩ (.bool b)) := by
  obtain ⟨h1, h2, hb, hl, hc, ho⟩ := h
  exact ⟨h1, fun k hk => by simpa [World.setCell] using h2 k hk, blk_set hb 4 _, Kd.R_far hl (fun k hk => hk.2) _, hc, Kd.F_far ho (fun k hk => hk.2.1) _⟩
theorem ThreadAt.done_set (h : ThreadAt ok tb work lv A c th w) (b : Bool) : ThreadAt ok tb work lv A c { th with done := b } (w.setCell ⟨tb, 5, none⟩ (.bool b)) := by
  obtain ⟨h1, h2, hb, hl, hc, ho⟩ := h
  exact ⟨h1, fun k hk => by simpa [World.setCell] using h2 k hk, blk_set hb 5 _, Kd.R_far hl (fun k hk => hk.2) _, hc, Kd.F_far ho (fun k hk => hk.2.1) _⟩
/-- The log has grown (v1: behind the append, in w1), and lies in the box. -/
theorem ThreadAt.log_set {v1 : Value} {n : Int} {N : Nat} (h : ThreadAt ok tb work lv A c th w) (hN : w.heap.size ≤ N) (hg : w.grownBy w1 lv.ownBlock) (hat : v1.ownBlock = lv.ownBlock ∨ ∃ b, v1.ownBlock = some b ∧ N ≤ b)
    (hr : (Kd.int .i64).R 2 w1 0 (fun k => (ok k ∧ k ≠ tb) ∨ N ≤ k) v1 (th.log ++ [n])) :
    ThreadAt (fun k => ok k ∨ (N ≤ k ∧ k < w1.heap.size)) tb work v1 A c { th with log := th.log ++ [n] } (w1.setCell ⟨tb, 1, none⟩ v1) := by
  obtain ⟨h1, h2, hb, hl, hc, ho⟩ := h
  have htb := h2 tb h1
  have hne : some tb ≠ lv.ownBlock := fun e => (hl.1 tb e.symm).2 rfl
  refine ⟨.inl h1, fun k hk => ?_, blk_set (blk_grown hb hg hne) 1 _, ?_, hc, ?_⟩
  · have hs : (w1.setCell ⟨tb, 1, none⟩ v1).heap.size = w1.heap.size := by simp [World.setCell]
    rw [hs]
    rcases hk with hk | hk
    · exact Nat.lt_of_lt_of_le (h2 k hk) hg.size
    · exact hk.2
  · refine Kd.R_far (Kd.R_mono (Kd.R_bound hr) (fun k hk => ?_)) (fun k hk => hk.2) _
    rcases hk.1 with h3 | h3
    · exact ⟨.inl h3.1, h3.2⟩
    · exact ⟨.inr ⟨h3, hk.2.2.1⟩, by omega⟩
  · refine Kd.F_far (Kd.F_mono (Kd.F_step (Kd.F_bound ho) (fun k hk hlt => hg.block k hlt hk.1.2.2)) (fun k hk => ⟨.inl hk.1.1, hk.1.2.1, ?_⟩)) (fun k hk => hk.2.1) _
    rcases hat with e | ⟨b, e, hle⟩
    · rw [e]; exact hk.1.2.2
    · rw [e]; intro he; injection he with he; have := hk.2; omega
/-- What it came to is set. -/
theorem ThreadAt.out_set {okv : Nat → Prop} {base : Nat} {Av : Option Addr} {cv : Nat} {l : List Int} (h : ThreadAt ok tb work lv A c th w) (hv : (Kd.int .i64).R 2 w base okv (.slice Av l.length cv) l) (hn : ∀ k, okv k → ¬ ok k) :
    ThreadAt (fun k => ok k ∨ some k = (Value.slice Av l.length cv).ownBlock) tb work lv Av cv { th with out := l } (w.setCell ⟨tb, 6, none⟩ (.slice Av l.length cv)) := by
  obtain ⟨h1, h2, hb, hl, hc, ho⟩ := h
  have ht := Kd.R_tight rfl hv
  refine ⟨.inl h1, fun k hk => ?_, blk_set hb 6 _, ?_, (Kd.R_reads' hv).2.1, ?_⟩
  · have hs : (w.setCell ⟨tb, 6, none⟩ (.slice Av l.length cv)).heap.size = w.heap.size := by simp [World.setCell]
    rw [hs]
    rcases hk with hk | hk
    · exact h2 k hk
    · exact Kd.R_lt hv k hk.symm
  · exact Kd.R_far (Kd.R_mono hl (fun k hk => ⟨.inl hk.1, hk.2⟩)) (fun k hk => hk.2) _
  · refine Kd.F_far (Kd.F_mono (Kd.R_F ht) (fun k hk => ⟨.inr hk, ?_, ?_⟩)) (fun k hk => hk.2.1) _
    · intro e
      exact hn k (hv.1 k hk.symm) (e ▸ h1)
    · intro e
      exact hn k (hv.1 k hk.symm) (hl.1 k e.symm).1
theorem IsThread.step (h : IsThread ok tb work th w) (hs : w.heap.size ≤ w1.heap.size) (hm : ∀ k, ok k → k < w.heap.size → w1.heap[k]? = w.heap[k]?) : IsThread ok tb work th w1 := by
  obtain ⟨lv, A, c, h⟩ := h
  exact ⟨lv, A, c, h.step hs hm⟩
end

/-- An element of a row of numbers of one's own. -/
theorem int_elem {k : IntKind} {e : Nat} {W : World} {base : Nat} {ok : Nat → Prop} {A : Option Addr} {n cap : Nat} {xs : List Int} (h : (Kd.int k).R e W base ok (.slice A n cap) xs) (i : Int) (h0 : 0 ≤ i) (h1 : i < n) :
    ∃ gl, A = some ⟨gl, 0, none⟩ ∧ ok gl ∧ W.cell? ⟨gl, i.toNat, none⟩ = some (.int k (xs.getD i.toNat 0)) := by
  cases A with
  | none =>
    have h2 := (Kd.R_reads' h).2.2
    have h3 := (Kd.R_reads' h).1
    obtain ⟨_, inner, ho, hr⟩ := h
    rcases ho.2 with ⟨hv, hn⟩ | ⟨g, cap', cur, hv, _⟩
    · omega
    · cases hv
  | some ad =>
    obtain ⟨gl, rfl⟩ := Kd.R_head h
    obtain ⟨c, hcl, hM, hcc⟩ := Kd.R_getA h 0 i h0 h1
    have hM' : c = [.int k (xs.getD i.toNat 0)] := hM
    refine ⟨gl, rfl, h.1 gl (by simp [Value.ownBlock]), ?_⟩
    have := hcc 0 (.int k (xs.getD i.toNat 0)) (by rw [hM']; rfl)
    rw [add_at, Nat.zero_add] at this
    simpa [Kd.int, Kd.scalar] using this

theorem run_equalIn_func_nil {P : Program} (d : Nat) (t : TypeId) {a b : Array TypeId} {c : Bool} (g : Fn) (fst cap : Array Value) (w : World) (h : P.underlying t = some (.func a b c)) : (Op.equalIn (d + 1) t (.func g fst cap) .nilFunc).run P w = .ok false w := by
  simp [Op.equalIn, run_underlying h]
theorem run_eql_func_nil {P : Program} (t : TypeId) {a b : Array TypeId} {c : Bool} (g : Fn) (fst cap : Array Value) (w : World) (h : P.underlying t = some (.func a b c)) : (binOp .eql t (.func g fst cap) .nilFunc).run P w = .ok (.bool false) w := by
  have := run_equalIn_func_nil (P := P) 9999 t g fst cap w h
  simp only [binOp]
  simp [Op.equal, Op.maxDepth, this]
theorem eqlF1 (g : Fn) (fst cap : Array Value) (w : World) : (binOp .eql 58 (.func g fst cap) .nilFunc).run Tryz.prog w = .ok (.bool false) w := run_eql_func_nil _ g fst cap w Tryz.underlying58
theorem eqlF2 (g : Fn) (fst cap : Array Value) (w : World) : (binOp .eql 86 (.func g fst cap) .nilFunc).run Tryz.prog w = .ok (.bool false) w := run_eql_func_nil _ g fst cap w Tryz.underlying86
theorem eqlF3 (g : Fn) (fst cap : Array Value) (w : World) : (binOp .eql 27 (.func g fst cap) .nilFunc).run Tryz.prog w = .ok (.bool false) w := run_eql_func_nil _ g fst cap w Tryz.underlying27
theorem notB (x : Bool) (w : World) : (Op.unary .not (.bool x)).run Tryz.prog w = .ok (.bool (!x)) w := rfl
theorem info64 : (Tryz.prog.info? 2).map (fun i => (i.zero, i.size, i.bytes)) = some (some (.int .i64 0), 1, 8) := by kernel_rfl
theorem panicW (w : World) : (Instr.panic (.iface 152 (.agg #[]))).run Tryz.prog w = .halt (.panic (.iface 152 (.agg #[]))) w := rfl
attribute [local go_sem] eqlF1 eqlF2 eqlF3 panicW

set_option maxHeartbeats 2000000 in
set_option maxRecDepth 100000 in
/-- Do, told again what it was. -/
theorem do_told (ok : Nat → Prop) (tb : Nat) (work : Value) (th : Th) (w : World) (g : Fn) (fst cap : Array Value) (h : IsThread ok tb work th w) (hin : th.in_ = true) (h0 : 0 ≤ th.at_) (hat : th.at_ < th.log.length) (hl : th.log.length < 1000000) (r : Int) (hr : th.log.getD th.at_.toNat 0 = r) :
    Calls Tryz.prog 61 #[.pointer (some ⟨tb, 0, none⟩), .func g fst cap] w fun e w' => e = .returned (.int .i64 r) ∧ IsThread ok tb work { th with at_ := th.at_ + 1 } w' ∧ Moves ok ok w w' := by
  obtain ⟨lv, A, c, h⟩ := h
  obtain ⟨H1, H2, hb, hR, hc, ho⟩ := id h
  obtain ⟨Al, cl, rfl⟩ := Kd.R_slice hR
  have HI := Aside0.mk h
  have HB := Aside0.mk hb
  have H0 := Aside0.mk H1
  have c1 : w.cell? ⟨tb, 1, none⟩ = some (.slice Al th.log.length cl) := (blk_cell hb 1).trans rfl
  have c2 : w.cell? ⟨tb, 2, none⟩ = some (.int .i64 th.at_) := (blk_cell hb 2).trans rfl
  have c4 : w.cell? ⟨tb, 4, none⟩ = some (.bool true) := (blk_cell hb 4).trans (by rw [← hin]; rfl)
  have f2 := blk_frozen hb 2
  have d1 : decide (th.at_ < (th.log.length : Int)) = true := decide_eq_true hat
  have hw1 : wrap64 (th.at_ + 1) = th.at_ + 1 := by unfold wrap64; omega
  have hw2 : wrap64 (th.at_ + 1 - 1) = th.at_ := by unfold wrap64; omega
  obtain ⟨gl, rfl, ⟨hgo, hne⟩, hcl⟩ := int_elem hR th.at_ h0 hat
  rw [hr] at hcl
  clear hr h ho hc H1 H2 HB
  go_enter Tryz.func61, Tryz.ntmps61
  go_wp2_with fail
  go_quiet (fail)
  rename_i nq
  have n0_ := Aside0.mk ((HI.out.drewN nq).at_set (th.at_ + 1))
  have n1_ := Aside0.mk (((Moves.refl ok w).drewN nq).set (p := ⟨tb, 2, none⟩) (.inl H0.out) (.int .i64 (th.at_ + 1)))
  clear HI
  go_upto_region 5 with fail
  have g1 := (cell_far (W := w.drewN nq) (a := ⟨gl, th.at_.toNat, none⟩) (p := ⟨tb, 2, none⟩) hne (.int .i64 (th.at_ + 1))).trans hcl
  have g2 := (blk_cell (blk_set (w := w.drewN nq) hb 2 (.int .i64 (th.at_ + 1))) 1).trans (rfl : _ = some (Value.slice (some ⟨gl, 0, none⟩) th.log.length cl))
  have g3 := (blk_cell (blk_set (w := w.drewN nq) hb 2 (.int .i64 (th.at_ + 1))) 2).trans (rfl : _ = some (Value.int .i64 (th.at_ + 1)))
  generalize (w.drewN nq).setCell ⟨tb, 2, none⟩ (.int .i64 (th.at_ + 1)) = W at n0_ n1_ g1 g2 g3 ⊢
  clear c1 c2 c4 f2 d1
  go_quiet (fail)
  go_wp2_with fail
  go_ret
  exact ⟨rfl, ⟨_, _, _, n0_.out.drewN _⟩, n1_.out.drewN _⟩

set_option maxHeartbeats 2000000 in
set_option maxRecDepth 100000 in
/-- Do, in a step that has done its touch: the panic that Step waits for. -/
theorem do_waits (ok : Nat → Prop) (tb : Nat) (work : Value) (th : Th) (w : World) (g : Fn) (fst cap : Array Value) (h : IsThread ok tb work th w) (hin : th.in_ = true) (hat : (th.log.length : Int) ≤ th.at_) (hs : th.spent = true) :
    Calls Tryz.prog 61 #[.pointer (some ⟨tb, 0, none⟩), .func g fst cap] w fun e w' => e = .panicked [⟨.iface 152 (.agg #[]), false, false⟩] ∧ IsThread ok tb work th w' ∧ Moves ok ok w w' := by
  obtain ⟨lv, A, c, h⟩ := h
  obtain ⟨H1, H2, hb, hR, hc, ho⟩ := id h
  obtain ⟨Al, cl, rfl⟩ := Kd.R_slice hR
  have HI := Aside0.mk h
  have c1 : w.cell? ⟨tb, 1, none⟩ = some (.slice Al th.log.length cl) := (blk_cell hb 1).trans rfl
  have c2 : w.cell? ⟨tb, 2, none⟩ = some (.int .i64 th.at_) := (blk_cell hb 2).trans rfl
  have c3 : w.cell? ⟨tb, 3, none⟩ = some (.bool true) := (blk_cell hb 3).trans (by rw [← hs]; rfl)
  have c4 : w.cell? ⟨tb, 4, none⟩ = some (.bool true) := (blk_cell hb 4).trans (by rw [← hin]; rfl)
  have d1 : decide (th.at_ < (th.log.length : Int)) = false := decide_eq_false (by omega)
  have HM := Aside0.mk (Moves.refl ok w)
  clear h ho hc H1 H2 hb hR hin hs hat
  go_enter Tryz.func61, Tryz.ntmps61
  go_wp2_with fail
  go_quiet (fail)
  go_wp2_with fail
  exact ⟨rfl, rfl, ⟨_, _, _, HI.out.drewN _⟩, HM.out.drewN _⟩

set_option maxHeartbeats 2000000 in
set_option maxRecDepth 100000 in
/-- Do, in a step that has not yet done its touch: it is done. -/
theorem do_does (okT okS : Nat → Prop) (tb : Nat) (work : Value) (th : Th) (w : World) (gf : FuncId) (cap : Array Value) (Post : Int → (Nat → Prop) → World → Prop) (h : IsThread okT tb work th w) (hin : th.in_ = true) (hat : th.at_ = (th.log.length : Int)) (hs : th.spent = false) (hl : th.log.length < 1000000)
    (hd : ∀ k, okT k → ¬ okS k)
    (hP : ∀ n ok1 w1 w2, Post n ok1 w1 → w1.heap.size ≤ w2.heap.size → (∀ k, ok1 k → k < w1.heap.size → w2.heap[k]? = w1.heap[k]?) → Post n ok1 w2)
    (hb : ∀ n ok1 w1, Post n ok1 w1 → ∀ k, ok1 k → k < w1.heap.size)
    (he : ∀ w1 : World, (callFunc gf cap).run Tryz.prog w1 = .ok (.enter gf cap) w1)
    (hc : ∀ w1, Moves okT okT w w1 → Calls Tryz.prog gf cap w1 fun e w2 => ∃ n okS1, e = .returned (.int .i64 n) ∧ Post n okS1 w2 ∧ Moves okS okS1 w1 w2) :
    Calls Tryz.prog 61 #[.pointer (some ⟨tb, 0, none⟩), .func (.func gf) #[] cap] w fun e w' => ∃ n okT1 okS1, e = .returned (.int .i64 n) ∧ IsThread okT1 tb work { log := th.log ++ [n], at_ := th.at_ + 1, spent := true, in_ := true, done := th.done, out := th.out } w' ∧ Post n okS1 w' ∧ (∀ k, okT1 k → ¬ okS1 k) ∧ Moves (fun k => okT k ∨ okS k) (fun k => okT1 k ∨ okS1 k) w w' := by
  obtain ⟨lv, A, c, h⟩ := h
  obtain ⟨H1, H2, hbx, hR, hcc, ho⟩ := id h
  obtain ⟨Al, cl, rfl⟩ := Kd.R_slice hR
  have HI := Aside0.mk h
  have HC := Aside0.mk hc
  have HE := Aside0.mk he
  have HD := Aside0.mk hd
  have HP := Aside0.mk hP
  have HBD := Aside0.mk hb
  have H0 := Aside0.mk H1
  have H2L := Aside0.mk H2
  have HT := Aside0.mk hat
  have HIN := Aside0.mk hin
  have HBX := Aside0.mk hbx
  have c1 : w.cell? ⟨tb, 1, none⟩ = some (.slice Al th.log.length cl) := (blk_cell hbx 1).trans rfl
  have c2 : w.cell? ⟨tb, 2, none⟩ = some (.int .i64 th.at_) := (blk_cell hbx 2).trans rfl
  have c3 : w.cell? ⟨tb, 3, none⟩ = some (.bool false) := (blk_cell hbx 3).trans (by rw [← hs]; rfl)
  have c4 : w.cell? ⟨tb, 4, none⟩ = some (.bool true) := (blk_cell hbx 4).trans (by rw [← hin]; rfl)
  have f3 := blk_frozen hbx 3
  have f4 := blk_frozen hbx 4
  have d1 : decide (th.at_ < (th.log.length : Int)) = false := decide_eq_false (by omega)
  clear h ho hcc H1 H2 hbx hR hin hs hat hd hP hb hc he
  go_enter Tryz.func61, Tryz.ntmps61
  go_wp2_with fail
  go_quiet (fail)
  rename_i nq
  go_wp2_with fail
  have HB1 := Aside0.mk (blk_set (blk_set (w := w.drewN nq) HBX.out 3 (.bool true)) 4 (.bool false))
  have HM1 := Aside0.mk ((((Moves.refl okT w).drewN nq).set (p := ⟨tb, 3, none⟩) (.inl H0.out) (.bool true)).set (p := ⟨tb, 4, none⟩) (.inl H0.out) (.bool false))
  have HI1 := Aside0.mk (((HI.out.drewN nq).spent_set true).in_set false)
  clear HI HBX c1 c2 c3 c4 f3 f4
  generalize ((w.drewN nq).setCell ⟨tb, 3, none⟩ (.bool true)).setCell ⟨tb, 4, none⟩ (.bool false) = w1 at HB1 HM1 HI1 ⊢
  rw [HE.out, Oper.upon_enter]
  refine (HC.out w1 HM1.out).mono ?_
  rintro e w2 ⟨n, okS1, rfl, hpost, hmv⟩
  dsimp only
  have htS : ¬ okS tb := HD.out tb H0.out
  have HB2 := Aside0.mk ((hmv.block tb (blk_lt HB1.out) htS).trans HB1.out)
  have HI2 := Aside0.mk (HI1.out.step hmv.size (fun k hk hlt => hmv.block k hlt (HD.out k hk)))
  have HM2 : Aside0 (Moves (fun k => okT k ∨ okS k) (fun k => okT k ∨ okS1 k) w w2) := ⟨((HM1.out.part (ok := fun k => okT k ∨ okS k) (okB := okS) (fun _ h => .inl h) (fun _ h => .inr h)).trans (hmv.part (okB := okT) (fun _ h => .inr h) (fun _ h => .inl h))).owns (fun k hk => hk.elim (fun h => .inl (.inl h)) (fun h => (hmv.fresh k h).elim (fun h => .inl (.inr h)) (fun h => .inr (Nat.le_trans HM1.out.size h))))⟩
  have HPO := Aside0.mk hpost
  have HD1 : Aside0 (∀ k, okT k → ¬ okS1 k) := ⟨fun k hk hk1 => (hmv.fresh k hk1).elim (HD.out k hk) (fun h => by have := H2L.out k hk; have := HM1.out.size; omega)⟩
  have HBL := Aside0.mk (HBD.out n okS1 w2 hpost)
  have f4 := blk_frozen HB2.out 4
  have c4 : w2.cell? ⟨tb, 4, none⟩ = some (.bool false) := (blk_cell HB2.out 4).trans rfl
  clear hmv hpost HB1 HM1 HI1
  go_upto_region 11 with fail
  have n0_ := Aside0.mk (HI2.out.in_set true)
  have n1_ := Aside0.mk (HM2.out.set (p := ⟨tb, 4, none⟩) (.inl (.inl H0.out)) (.bool true))
  have n2_ := Aside0.mk (HP.out n okS1 _ (w2.setCell ⟨tb, 4, none⟩ (.bool true)) HPO.out (by simp [World.setCell]) (fun k hk _ => Below.heap_setCell w2 ⟨tb, 4, none⟩ (.bool true) k (fun e => HD1.out k ((show k = tb from e) ▸ H0.out) hk)))
  have n3_ := Aside0.mk (blk_set HB2.out 4 (.bool true))
  have n4_ : Aside0 (∀ k, okS1 k → k < (w2.setCell ⟨tb, 4, none⟩ (.bool true)).heap.size) := ⟨fun k hk => by simpa [World.setCell] using HBL.out k hk⟩
  clear HI2 HM2 HPO HB2 HBL f4 c4
  generalize w2.setCell ⟨tb, 4, none⟩ (.bool true) = w3 at n0_ n1_ n2_ n3_ n4_ ⊢
  have c1 : w3.cell? ⟨tb, 1, none⟩ = some (.slice Al th.log.length cl) := (blk_cell n3_.out 1).trans rfl
  go_upto_region 12 with (first | ((with_reducible refine gate_builtin (b := .append) (xs := #[.tmp 68, .tmp 70]) rfl ?_); at_builtin; refine Kd.R_append (Kd.int .i64) (w0 := w3) 0 rfl (.tmp 68) (.tmp 70) 28 2 (.int .i64 0) 8 rfl Tryz.underlying28 info64 rfl (by decide) (by omega) (.slice Al th.log.length cl) th.log n [.int .i64 n] (fun k => (okT k ∧ k ≠ tb) ∨ w3.heap.size ≤ k) (fun _ => False) rfl (by first | (go_simp; done) | (go_simp; rfl)) ?aP (fun _ hk => hk.elim) ?aF ?aO ?aB ?aS ?aL ?_; (case aP => exact rfl); (case aF => exact fun k hk => .inr hk); (case aO => exact Kd.R_mono n0_.out.2.2.2.1 (fun k hk => .inl hk)); (case aB => exact Below.refl _ _); (case aS => exact Nat.zero_le _); (case aL => have := hl; omega); intro v5 w5 ho hb5 hg hat; obtain ⟨A5, cc5, rfl⟩ := Kd.R_slice ho; have m0_ := Aside0.mk ho; have m1_ := Aside0.mk hg; have m2_ := Aside0.mk hat; have f1 : w5.frozen? ⟨tb, 1, none⟩ = false := blk_frozen (blk_grown n3_.out hg (fun e => (n0_.out.2.2.2.1.1 tb e.symm).2 rfl)) 1; have c5 : w5.cell? ⟨tb, 1, none⟩ = some (.slice Al th.log.length cl) := (blk_cell (blk_grown n3_.out hg (fun e => (n0_.out.2.2.2.1.1 tb e.symm).2 rfl)) 1).trans rfl; clear ho hb5 hg hat))
  have n5_ := Aside0.mk (n0_.out.log_set (Nat.le_refl _) m1_.out m2_.out m0_.out)
  have n6_ : Aside0 (Moves (fun k => okT k ∨ okS k) (fun k => okT k ∨ okS1 k) w (w5.setCell ⟨tb, 1, none⟩ (.slice A5 (th.log ++ [n]).length cc5))) := ⟨(n1_.out.grown m1_.out (fun k hk => .inl (.inl (n0_.out.2.2.2.1.1 k hk).1))).set (p := ⟨tb, 1, none⟩) (.inl (.inl H0.out)) _⟩
  have n7_ := Aside0.mk (HP.out n okS1 w3 (w5.setCell ⟨tb, 1, none⟩ (.slice A5 (th.log ++ [n]).length cc5)) n2_.out (by simpa [World.setCell] using m1_.out.size) (fun k hk hlt => (Below.heap_setCell w5 ⟨tb, 1, none⟩ _ k (fun e => HD1.out k ((show k = tb from e) ▸ H0.out) hk)).trans (m1_.out.block k hlt (fun e => HD1.out k (n0_.out.2.2.2.1.1 k e.symm).1 hk))))
  have n8_ : Aside0 (∀ k, okS1 k → k < w3.heap.size) := n4_
  have el : (th.log ++ [n]).length = th.log.length + 1 := by simp
  rw [el] at n5_ n6_ n7_
  have n9_ : Aside0 (w3.heap.size ≤ (w5.setCell ⟨tb, 1, none⟩ (.slice A5 (th.log.length + 1) cc5)).heap.size) := ⟨by simpa [World.setCell] using m1_.out.size⟩
  have n10_ : Aside0 (w.heap.size ≤ w3.heap.size) := ⟨n1_.out.size⟩
  have n11_ : Aside0 ((w5.setCell ⟨tb, 1, none⟩ (.slice A5 (th.log.length + 1) cc5)).heap.size = w5.heap.size) := ⟨by simp [World.setCell]⟩
  clear n0_ n1_ n2_ n3_ n4_ m0_ m1_ m2_ el c1
  generalize w5.setCell ⟨tb, 1, none⟩ (.slice A5 (th.log.length + 1) cc5) = w6 at n5_ n6_ n7_ n9_ n11_ ⊢
  have c2 : w6.cell? ⟨tb, 2, none⟩ = some (.int .i64 th.at_) := (blk_cell n5_.out.2.2.1 2).trans rfl
  have f2 : w6.frozen? ⟨tb, 2, none⟩ = false := blk_frozen n5_.out.2.2.1 2
  have hw1 : wrap64 (th.at_ + 1) = th.at_ + 1 := by have := HT.out; unfold wrap64; omega
  go_wp2_with fail
  go_ret
  refine ⟨n, rfl, _, ⟨_, _, _, n5_.out.at_set (th.at_ + 1)⟩, okS1, ?_, ?_, ?_⟩
  · exact HP.out n okS1 w6 _ n7_.out (by simp [World.setCell]) (fun k hk _ => Below.heap_setCell w6 ⟨tb, 2, none⟩ _ k (fun e => HD1.out k ((show k = tb from e) ▸ H0.out) hk))
  · rintro k (hk | hk) hk1
    · exact HD1.out k hk hk1
    · have := n8_.out k hk1
      omega
  · refine (n6_.out.set (p := ⟨tb, 2, none⟩) (.inl (.inl H0.out)) _).owns ?_
    rintro k ((hk | hk) | hk)
    · exact .inl (.inl hk)
    · have := n10_.out
      exact .inr (by omega)
    · exact n6_.out.fresh k (.inr hk)
end Go.Proofs.YthlmgbdknjilpaaGreat.Tower
namespace Go.Proofs.YthlmgbdknjilpaaGreat.Tower
open Go Go.RowKit Go.Proofs.YthlmgbdknjilpaaGreatW.PrintWords Go.Proofs.YthlmgbdknjilpaaGreatW.PrintLast Go.Proofs.YthlmgbdknjilpaaGreatW.PrintMore Go.Proofs.YthlmgbdknjilpaaGreat.Own
set_option linter.unusedVariables false
set_option linter.unusedSimpArgs false
theorem assertW (w : World) : (Instr.typeAssert (.iface 152 (.agg #[])) 20 152 true).run Tryz.prog w = .ok (.tuple #[.agg #[], .bool true]) w := by kernel_rfl
attribute [local go_sem] eqlF1 eqlF2 eqlF3 panicW assertW

set_option maxHeartbeats 2000000 in
set_option maxRecDepth 100000 in
theorem catch_wait (tb b1 b2 : Nat) (x y : Bool) (cs : Array Value) (older : List PanicEntry) (w : World) (hb1 : w.heap[b1]? = some (.cells #[.pointer (some ⟨tb, 0, none⟩)] 45 (0, 0))) (hbt : w.heap[tb]? = some (.cells cs 88 (0, 0))) (h4 : cs[4]? = some (.bool x))
    (hb2 : w.heap[b2]? = some (.cells #[.bool y] 4 (0, 0))) (hne : b2 ≠ tb) :
    CallsD Tryz.prog 84 #[.pointer (some ⟨b1, 0, none⟩), .pointer (some ⟨b2, 0, none⟩)] (.panicking ({ v := .iface 152 (.agg #[]), recovered := false } :: older)) w fun e u' w' =>
      e = .returned (.tuple #[]) ∧ u' = .panicking ({ v := .iface 152 (.agg #[]), recovered := true } :: older) ∧ w' = ((w.setCell ⟨tb, 4, none⟩ (.bool false)).alloc (.cells #[] 152)).setCell ⟨b2, 0, none⟩ (.bool false) := by
  have h1 : w.cell? ⟨b1, 0, none⟩ = some (.pointer (some ⟨tb, 0, none⟩)) := (blk_cell hb1 0).trans rfl
  have h4 : w.cell? ⟨tb, 4, none⟩ = some (.bool x) := (blk_cell hbt 4).trans h4
  have f4 := blk_frozen hbt 4
  have hb2' := Aside0.mk (blk_alloc (blk_far hb2 (p := ⟨tb, 4, none⟩) hne (.bool false)) (.cells #[] 152))
  have c2 := (blk_cell hb2'.out 0).trans (rfl : _ = some (Value.bool y))
  have f2 := blk_frozen hb2'.out 0
  refine callsD_of_wpS Tryz.func84 rfl fun c₀ cs0 hu => ?_
  simp only [Tryz.ntmps84, List.size_toArray, List.length_cons, List.length_nil, Nat.reduceAdd, Nat.reduceSub, Array.replicate_succ, Array.replicate_zero, List.push_toArray, List.append_toArray, List.nil_append, List.cons_append]
  apply wpS_seq
  refine wpS_of_wp ?_
  go_wp2_with fail
  simp only [Exit.thenS]
  refine wpS_seq ?_
  generalize hK : Exit.thenS _ _ = K
  apply wpS_region
  simp [wpOpsS, go_sem, recoverD, hu]
  subst hK
  simp only [Exit.thenS]
  refine wpS_of_wp ?_
  go_wp2_with fail
  simp [bodyPostS, results, Tryz.results84]
set_option maxHeartbeats 2000000 in
set_option maxRecDepth 100000 in
theorem catch_idle (tb b1 b2 : Nat) (x y : Bool) (cs : Array Value) (w : World) (hb1 : w.heap[b1]? = some (.cells #[.pointer (some ⟨tb, 0, none⟩)] 45 (0, 0))) (hbt : w.heap[tb]? = some (.cells cs 88 (0, 0))) (h4 : cs[4]? = some (.bool x))
    (hb2 : w.heap[b2]? = some (.cells #[.bool y] 4 (0, 0))) (hne : b2 ≠ tb) :
    CallsD Tryz.prog 84 #[.pointer (some ⟨b1, 0, none⟩), .pointer (some ⟨b2, 0, none⟩)] .returning w fun e u' w' =>
      e = .returned (.tuple #[]) ∧ u' = .returning ∧ w' = w.setCell ⟨tb, 4, none⟩ (.bool false) := by
  have h1 : w.cell? ⟨b1, 0, none⟩ = some (.pointer (some ⟨tb, 0, none⟩)) := (blk_cell hb1 0).trans rfl
  have h4 : w.cell? ⟨tb, 4, none⟩ = some (.bool x) := (blk_cell hbt 4).trans h4
  have f4 := blk_frozen hbt 4
  have hb2' := Aside0.mk (blk_alloc (blk_far hb2 (p := ⟨tb, 4, none⟩) hne (.bool false)) (.cells #[] 152))
  have c2 := (blk_cell hb2'.out 0).trans (rfl : _ = some (Value.bool y))
  have f2 := blk_frozen hb2'.out 0
  refine callsD_of_wpS Tryz.func84 rfl fun c₀ cs0 hu => ?_
  simp only [Tryz.ntmps84, List.size_toArray, List.length_cons, List.length_nil, Nat.reduceAdd, Nat.reduceSub, Array.replicate_succ, Array.replicate_zero, List.push_toArray, List.append_toArray, List.nil_append, List.cons_append]
  apply wpS_seq
  refine wpS_of_wp ?_
  go_wp2_with fail
  simp only [Exit.thenS]
  refine wpS_seq ?_
  generalize hK : Exit.thenS _ _ = K
  apply wpS_region
  simp [wpOpsS, go_sem, recoverD, hu]
  subst hK
  simp only [Exit.thenS]
  refine wpS_of_wp ?_
  go_wp2_with fail
  simp [bodyPostS, results, Tryz.results84]
  cases c₀
  cases hu
  rfl

end Go.Proofs.YthlmgbdknjilpaaGreat.Tower
namespace Go.Proofs.YthlmgbdknjilpaaGreat.Tower
open Go Go.RowKit Go.Proofs.YthlmgbdknjilpaaGreatW.PrintWords Go.Proofs.YthlmgbdknjilpaaGreatW.PrintLast Go.Proofs.YthlmgbdknjilpaaGreatW.PrintMore Go.Proofs.YthlmgbdknjilpaaGreat.Own
set_option linter.unusedVariables false
set_option linter.unusedSimpArgs false
attribute [local go_sem] eqlF1 eqlF2 eqlF3 panicW assertW

/-- A call of a Go function that may panic, by its contract. -/
theorem callP_ {P : Program} {Q : Exit → Act → World → Prop} {ops : Array Oper} {w : World} {oi : Oper} {N : Option Tmp} {a : Act} {K : Act → World → Prop} (f : FuncId) (args : Array Value) (hw : Region.wanted oi (yielded ops a.tmps) = true) (hN : oi.dst = N) (hrun : (execOp a.eval oi).run P w = .ok (.enter f args) w)
    (h : Calls P f args w fun e w' => (∃ v, e = .returned v ∧ K (a.put N v) w') ∨ ∃ c, e = .panicked c ∧ Q (.panic c) a w') : if Region.wanted oi (yielded ops a.tmps) = true then Oper.wp P oi a w K Q else K (a.put N undef) w := by
  rw [if_pos hw]
  subst hN
  unfold Oper.wp
  rw [hrun, Oper.upon_enter]
  refine h.mono fun e w'' hh => ?_
  rcases hh with ⟨v, rfl, hk⟩ | ⟨c, rfl, hk⟩
  · exact hk
  · exact hk

theorem leaves_tmps {P : Program} {fn : Func} {tmps tmps' : Array Value} {R : Ending → World → Prop} (hr : results fn tmps = results fn tmps') : ∀ (ds : List Deferred) (u : FrameMode) (w : World), Leaves P fn tmps R ds u w → Leaves P fn tmps' R ds u w := by
  intro ds
  induction ds with
  | nil =>
    intro u w h
    cases u with
    | run => exact h.elim
    | returning =>
      obtain ⟨v, h1, h2⟩ := h
      exact ⟨v, hr ▸ h1, h2⟩
    | panicking c => exact h
  | cons d ds ih =>
    intro u w h
    obtain ⟨h1, fv, cap, f, args, h2, h3, h4⟩ := h
    refine ⟨h1, fv, cap, f, args, h2, h3, h4.mono (fun e u' w' h5 => ?_)⟩
    cases e with
    | returned v => exact ih _ _ h5
    | panicked c => exact ih _ _ h5
    | outgrown => exact h5
theorem results_same {fn : Func} {p : Tmp} {ty : TypeId} (hf : fn.results = #[.cell p ty]) {d : Tmp} (hd : d ≠ p) (tmps : Array Value) (v : Value) : results fn (tmps.setIfInBounds d v) = results fn tmps := by
  have h : (tmps.setIfInBounds d v)[p]?.getD undef = tmps[p]?.getD undef := by simp [Array.getElem?_setIfInBounds, hd]
  simp [results, hf, h]
theorem panicD {K : Act → World → Prop} {P : Program} {fn : Func} {R : Ending → World → Prop} {p : Tmp} {ty : TypeId} (hf : fn.results = #[.cell p ty]) (d : Option Tmp) (v : Value) (hd : d ≠ some p) : ∀ c a w, Exit.then K (bodyPostD P fn R) (.panic c) (a.put d v) w → Exit.then K (bodyPostD P fn R) (.panic c) a w := by
  intro c a w h
  cases d with
  | none => exact h
  | some d => exact leaves_tmps (results_same hf (fun e => hd (by rw [e])) a.tmps v) _ _ _ h

def waitP : List PanicEntry := [⟨.iface 152 (.agg #[]), false, false⟩]

/-- How a thread's work ends: with numbers (r), or in a touch that waits. Q: what holds of r, the thread, and what is shared (okS). -/
structure WorkPost (okT okS : Nat → Prop) (tb : Nat) (work : Value) (Q : Option (List Int) → Th → (Nat → Prop) → World → Prop) (w1 : World) (e : Ending) (w2 : World) : Prop where
  out : ∃ r th2 okT2 okS2, IsThread okT2 tb work th2 w2 ∧ (∀ k, okT2 k → ¬ okS2 k) ∧ Moves (fun k => okT k ∨ okS k) (fun k => okT2 k ∨ okS2 k) w1 w2 ∧ Q r th2 okS2 w2 ∧ (∀ k, okS2 k → k < w2.heap.size) ∧
    ((r = none ∧ e = .panicked waitP) ∨ ∃ v l, r = some l ∧ e = .returned v ∧ (Kd.int .i64).R 2 w2 w1.heap.size (fun k => ¬ okT2 k ∧ ¬ okS2 k) v l)

def endTh (r : Option (List Int)) (th : Th) : Th := { th with in_ := false, done := r.isSome || th.done, out := r.getD th.out }

structure RunPost (okT okS : Nat → Prop) (tb : Nat) (work : Value) (Q : Option (List Int) → Th → (Nat → Prop) → World → Prop) (w : World) (e : Ending) (w' : World) : Prop where
  out : ∃ r th2 okT3 okS3, e = .returned (.bool r.isSome) ∧ IsThread okT3 tb work (endTh r th2) w' ∧ (∀ k, okT3 k → ¬ okS3 k) ∧ Moves (fun k => okT k ∨ okS k) (fun k => okT3 k ∨ okS3 k) w w' ∧ Q r th2 okS3 w' ∧ (∀ k, okS3 k → k < w'.heap.size)

def TRun3 : Bool × List (List Nat × List Nat) := (true, [([], []), ([], []), ([1], [1]), ([2], [2]), ([3], [3]), ([], []), ([4, 5], [4, 5]), ([0, 0, 1, 2, 3, 4, 5, 6], [0]), ([7, 0, 1, 2, 3, 4, 5, 6], [7]), ([8, 6, 6, 0, 1, 2, 3, 4, 5, 6], [6, 8])])
def BRun3 : List Nat := [0, 0, 2, 6, 14, 0, 62, 127, 255, 511]
theorem tabRun3 : rtab .any (opsOf Tryz.f54 3) = TRun3 := by kernel_rfl
theorem bitsRun3 : waitsOk TRun3.2 BRun3 = true := by kernel_rfl

set_option maxHeartbeats 2000000 in
set_option maxRecDepth 100000 in
theorem run_calls (okT okS : Nat → Prop) (tb : Nat) (wf : FuncId) (wc : Array Value) (th : Th) (w : World) (Q : Option (List Int) → Th → (Nat → Prop) → World → Prop)
    (h : IsThread okT tb (.func (.func wf) #[] wc) th w) (hd : ∀ k, okT k → ¬ okS k) (hbs : ∀ k, okS k → k < w.heap.size)
    (hQ : ∀ r t ok1 w1 w2, Q r t ok1 w1 → w1.heap.size ≤ w2.heap.size → (∀ k, ok1 k → k < w1.heap.size → w2.heap[k]? = w1.heap[k]?) → Q r t ok1 w2)
    (he : ∀ w1 : World, (callFunc wf (#[.pointer (some ⟨tb, 0, none⟩)] ++ wc)).run Tryz.prog w1 = .ok (.enter wf (#[.pointer (some ⟨tb, 0, none⟩)] ++ wc)) w1)
    (hw : ∀ w1, Moves okT okT w w1 → IsThread okT tb (.func (.func wf) #[] wc) { th with in_ := true } w1 → Calls Tryz.prog wf (#[.pointer (some ⟨tb, 0, none⟩)] ++ wc) w1 (WorkPost okT okS tb (.func (.func wf) #[] wc) Q w1)) :
    Calls Tryz.prog 54 #[.pointer (some ⟨tb, 0, none⟩)] w (RunPost okT okS tb (.func (.func wf) #[] wc) Q w) := by
  obtain ⟨lv, A, c, h⟩ := h
  have hmf : ∀ (fn : Fn) (first cap : Array Value) (w : World), (Instr.makeFunc fn first cap).run Tryz.prog w = .ok (.func fn first cap) w := fun _ _ _ _ => rfl
  have HI := Aside0.mk h
  have HD := Aside0.mk hd
  have HQ := Aside0.mk hQ
  have HE := Aside0.mk he
  have HWK := Aside0.mk hw
  have hlt := Aside0.mk (h.2.1 tb h.1)
  have HBT := Aside0.mk h.2.1
  have HTB0 := Aside0.mk h.1
  have HBS0 := Aside0.mk hbs
  clear h hd hQ he hw hbs
  go_enter_defers Tryz.func54, Tryz.ntmps54
  go_upto_region 2 with fail
  have B1 := Aside0.mk (blk_alloc (blk_new w (.cells #[.pointer (some ⟨tb, 0, none⟩)] 45)) (.cells #[.bool false] 4))
  have B2 : Aside0 (((w.alloc (.cells #[.pointer (some ⟨tb, 0, none⟩)] 45)).alloc (.cells #[.bool false] 4)).heap[w.heap.size + 1]? = some (.cells #[.bool false] 4)) := ⟨by simpa using blk_new (w.alloc (.cells #[.pointer (some ⟨tb, 0, none⟩)] 45)) (.cells #[.bool false] 4)⟩
  have HI0 := Aside0.mk ((HI.out.below (below_alloc (Below.refl _ _) (.cells #[.pointer (some ⟨tb, 0, none⟩)] 45))).below (below_alloc (Below.refl _ _) (.cells #[.bool false] 4)))
  have M0 := Aside0.mk (((Moves.refl okT w).alloc (.cells #[.pointer (some ⟨tb, 0, none⟩)] 45)).alloc (.cells #[.bool false] 4))
  clear HI
  generalize (w.alloc (.cells #[.pointer (some ⟨tb, 0, none⟩)] 45)).alloc (.cells #[.bool false] 4) = w0 at B1 B2 HI0 M0 ⊢
  generalize hb1 : w.heap.size = b1 at B1 B2 hlt ⊢
  have HS := Aside0.mk hb1
  clear hb1
  have c1 : w0.cell? ⟨b1, 0, none⟩ = some (.pointer (some ⟨tb, 0, none⟩)) := (blk_cell B1.out 0).trans rfl
  have c4 : w0.cell? ⟨tb, 4, none⟩ = some (.bool th.in_) := (blk_cell HI0.out.2.2.1 4).trans rfl
  have f4 := blk_frozen HI0.out.2.2.1 4
  go_upto_region 3 with fail
  have HI1 := Aside0.mk (HI0.out.in_set true)
  have n1_ := Aside0.mk (blk_far B1.out (p := ⟨tb, 4, none⟩) (Nat.ne_of_gt hlt.out) (.bool true))
  have n2_ := Aside0.mk (blk_far B2.out (p := ⟨tb, 4, none⟩) (by have := hlt.out; show b1 + 1 ≠ tb; omega) (.bool true))
  have M1 := Aside0.mk (M0.out.set (p := ⟨tb, 4, none⟩) (.inl HI0.out.1) (.bool true))
  clear B1 B2 c1 c4 f4 HI0 M0
  have B1 := n1_
  have B2 := n2_
  clear n1_ n2_
  generalize w0.setCell ⟨tb, 4, none⟩ (.bool true) = w1 at HI1 B1 B2 M1 ⊢
  refine start_ (n := 10) (S := fun w' => w'.cell? ⟨b1, 0, none⟩ = some (.pointer (some ⟨tb, 0, none⟩)) ∧ w'.cell? ⟨tb, 0, none⟩ = some (.func (.func wf) #[] wc)) (ds := []) #[false, false, false, false, false, false, false, false, false, false] (by kernel_rfl) rfl rfl ⟨(blk_cell B1.out 0).trans rfl, (blk_cell HI1.out.2.2.1 0).trans rfl⟩ (fun hHeld => ?_); refine with_tabW tabRun3 bitsRun3 (fun HT_ HW_ => ?_)
  have n0_ := Aside0.mk HI1.out.drew
  have n1_ := Aside0.mk (blk_drew B1.out)
  have n2_ := Aside0.mk (blk_drew B2.out)
  have n3_ := Aside0.mk M1.out.drew
  clear HI1 B1 B2 M1
  have HI1 := n0_
  have B1 := n1_
  have B2 := n2_
  have M1 := n3_
  clear n0_ n1_ n2_ n3_
  generalize World.drew _ = w2 at HI1 B1 B2 M1 hHeld ⊢
  refine take_ (i := 0) (N := some 7) (v := ?_) (a' := ?_) #[true, false, false, false, false, false, false, false, false, false] rfl rfl (take_ofW HT_.out HW_.out (by kernel_rfl)) (panicD rfl _ _ (by decide)) (Or.inl ⟨by rfl, ?_⟩) hHeld ?_ ?_
  rotate_left
  · rintro w' ⟨s0, s1⟩
    go_simp
    with_reducible rfl
  rotate_left
  · simp only [Act.put, List.setIfInBounds_toArray, List.set_cons_zero, List.set_cons_succ, i64_w, i32_w]
    rfl
  refine take_ (i := 1) (N := some 8) (v := ?_) (a' := ?_) #[true, true, false, false, false, false, false, false, false, false] rfl rfl (take_ofW HT_.out HW_.out (by kernel_rfl)) (panicD rfl _ _ (by decide)) (Or.inl ⟨by rfl, ?_⟩) hHeld ?_ ?_
  rotate_left
  · rintro w' ⟨s0, s1⟩
    go_simp
    with_reducible rfl
  rotate_left
  · simp only [Act.put, List.setIfInBounds_toArray, List.set_cons_zero, List.set_cons_succ, i64_w, i32_w]
    rfl
  refine pure_ (i := 2) (N := some 9) (v := ?_) (a' := ?_) #[true, true, true, false, false, false, false, false, false, false] rfl rfl (any_of HT_.out (by kernel_rfl)) (panicD rfl _ _ (by decide)) (Or.inl ⟨by rfl, ?_⟩) ?_ ?_
  rotate_left
  · intro w'
    go_simp
    with_reducible rfl
  rotate_left
  · simp only [Act.put, List.setIfInBounds_toArray, List.set_cons_zero, List.set_cons_succ, i64_w, i32_w]
    rfl
  refine pure_ (i := 3) (N := some 10) (v := ?_) (a' := ?_) #[true, true, true, true, false, false, false, false, false, false] rfl rfl (any_of HT_.out (by kernel_rfl)) (panicD rfl _ _ (by decide)) (Or.inl ⟨by rfl, ?_⟩) ?_ ?_
  rotate_left
  · intro w'
    go_simp
    with_reducible rfl
  rotate_left
  · simp only [Act.put, List.setIfInBounds_toArray, List.set_cons_zero, List.set_cons_succ, i64_w, i32_w]
    rfl
  refine take_ (i := 4) (N := some 11) (v := ?_) (a' := ?_) #[true, true, true, true, true, false, false, false, false, false] rfl rfl (take_ofW HT_.out HW_.out (by kernel_rfl)) (panicD rfl _ _ (by decide)) (Or.inl ⟨by rfl, ?_⟩) hHeld ?_ ?_
  rotate_left
  · rintro w' ⟨s0, s1⟩
    go_simp
    with_reducible rfl
  rotate_left
  · simp only [Act.put, List.setIfInBounds_toArray, List.set_cons_zero, List.set_cons_succ, i64_w, i32_w]
    rfl
  refine take_ (i := 5) (N := some 12) (v := ?_) (a' := ?_) #[true, true, true, true, true, true, false, false, false, false] rfl rfl (take_ofW HT_.out HW_.out (by kernel_rfl)) (panicD rfl _ _ (by decide)) (Or.inl ⟨by rfl, ?_⟩) hHeld ?_ ?_
  rotate_left
  · rintro w' ⟨s0, s1⟩
    go_simp
    with_reducible rfl
  rotate_left
  · simp only [Act.put, List.setIfInBounds_toArray, List.set_cons_zero, List.set_cons_succ, i64_w, i32_w]
    rfl
  refine one_ (i := 6) (N := some 13) #[true, true, true, true, true, true, true, false, false, false] rfl rfl (one_of HT_.out (by kernel_rfl)) (by decide) (fun K_ hK => ?_)
  refine callP_ wf (#[.pointer (some ⟨tb, 0, none⟩)] ++ wc) (by rfl) rfl ?hrun ?_
  (case hrun => go_simp; exact HE.out _)
  refine (HWK.out w2 M1.out ⟨_, _, _, HI1.out⟩).mono ?_
  rintro e w3 ⟨r, th2, okT2, okS2, ⟨lv2, A2, c2, hT⟩, hdis, hM, hq, hbs, hr⟩
  have hnb1 : ¬ (okT b1 ∨ okS b1) := fun hh => by
    have e0 := HS.out
    rcases hh with hh | hh
    · have := HBT.out b1 hh; omega
    · have := HBS0.out b1 hh; omega
  have hnb2 : ¬ (okT (b1 + 1) ∨ okS (b1 + 1)) := fun hh => by
    have e0 := HS.out
    rcases hh with hh | hh
    · have := HBT.out (b1 + 1) hh; omega
    · have := HBS0.out (b1 + 1) hh; omega
  have hnc2 : ¬ (okT2 (b1 + 1) ∨ okS2 (b1 + 1)) := fun hh => by
    rcases hM.fresh _ hh with h1 | h1
    · exact hnb2 h1
    · have := blk_lt B2.out; omega
  have B1' := Aside0.mk ((hM.block b1 (blk_lt B1.out) hnb1).trans B1.out)
  have B2' := Aside0.mk ((hM.block (b1 + 1) (blk_lt B2.out) hnb2).trans B2.out)
  have HT3 := Aside0.mk hT
  have HM3 : Aside0 (Moves (fun k => okT k ∨ okS k) (fun k => okT2 k ∨ okS2 k) w w3) := ⟨((M1.out.part (ok := fun k => okT k ∨ okS k) (okB := okS) (fun _ h => .inl h) (fun _ h => .inr h)).trans hM)⟩
  have HQ3 := Aside0.mk hq
  have HDI := Aside0.mk hdis
  have HBS := Aside0.mk hbs
  have HTB : Aside0 (okT tb) := HTB0
  have HSZ : Aside0 (w.heap.size ≤ w2.heap.size) := ⟨M1.out.size⟩
  have hTtb : ¬ okS2 tb := fun hh => hdis tb hT.1 hh
  clear hT hM hq hdis hbs
  rcases hr with ⟨rfl, rfl⟩ | ⟨v, l, rfl, rfl, hv⟩
  · right
    refine ⟨_, rfl, ?_⟩
    refine leaves_cons (f := 84) (args := #[.pointer (some ⟨b1, 0, none⟩), .pointer (some ⟨b1 + 1, 0, none⟩)]) (by simp) (by simp [go_sem]) ?_
    refine (catch_wait tb b1 (b1 + 1) _ _ _ [] w3 B1'.out HT3.out.2.2.1 rfl B2'.out (by have := hlt.out; omega)).mono ?_
    rintro e u' w'' ⟨rfl, rfl, rfl⟩
    have hbf := blk_set (blk_alloc (blk_far B2'.out (p := ⟨tb, 4, none⟩) (by have := hlt.out; show b1 + 1 ≠ tb; omega) (.bool false)) (.cells #[] 152)) 0 (.bool false)
    have cb := (blk_cell hbf 0).trans (rfl : _ = some (Value.bool false))
    refine ⟨.bool false, ?_, ⟨none, th2, okT2, okS2, rfl, ⟨_, _, _, ((HT3.out.in_set false).below (below_alloc (Below.refl _ _) (.cells #[] 152))).step (by simp [World.setCell]) (fun k hk _ => Below.heap_setCell _ ⟨b1 + 1, 0, none⟩ (.bool false) k (fun e => hnc2 (.inl ((show k = b1 + 1 from e) ▸ hk))))⟩, HDI.out, ?_, ?_, ?_⟩⟩
    · simp [results, Tryz.results54, go_sem, cb]
    · exact ((HM3.out.set (p := ⟨tb, 4, none⟩) (.inl (.inl HTB.out)) (.bool false)).alloc (.cells #[] 152)).set (p := ⟨b1 + 1, 0, none⟩) (.inr (by have := HS.out; show w.heap.size ≤ b1 + 1; omega)) (.bool false)
    · refine HQ.out none th2 okS2 w3 _ HQ3.out (by simp [World.setCell]) (fun k hk hlt3 => ?_)
      refine (Below.heap_setCell _ ⟨b1 + 1, 0, none⟩ (.bool false) k (fun e => hnc2 (.inr ((show k = b1 + 1 from e) ▸ hk)))).trans ?_
      refine (Below.heap_alloc _ _ k (by simpa [World.setCell] using hlt3)).trans ?_
      exact Below.heap_setCell _ ⟨tb, 4, none⟩ (.bool false) k (fun e => hTtb ((show k = tb from e) ▸ hk))
    · intro k hk
      have := HBS.out k hk
      simp [World.setCell]
      omega
  · left
    refine ⟨v, rfl, ?_⟩
    obtain ⟨Av, cv, rfl⟩ := Kd.R_slice hv
    have HV := Aside0.mk hv
    clear hv
    have c6 : w3.cell? ⟨tb, 6, none⟩ = some (.slice A2 th2.out.length c2) := (blk_cell HT3.out.2.2.1 6).trans rfl
    have f6 := blk_frozen HT3.out.2.2.1 6
    refine hK.out _ _ ⟨(blk_cell B1'.out 0).trans rfl, (blk_cell HT3.out.2.2.1 0).trans rfl⟩ (fun hHeld => ?_)
    clear hK K_
    refine norm_ (a' := ?_) ?_ ?_
    rotate_left
    · show Act.put _ (some 13) _ = _
      simp only [Act.put, List.setIfInBounds_toArray, List.set_cons_zero, List.set_cons_succ, i64_w, i32_w]
      rfl
    refine pure_ (i := 7) (N := some 14) (v := ?_) (a' := ?_) #[true, true, true, true, true, true, true, true, false, false] rfl rfl (any_of HT_.out (by kernel_rfl)) (panicD rfl _ _ (by decide)) (Or.inl ⟨by rfl, ?_⟩) ?_ ?_
    rotate_left
    · intro w'
      go_simp
      with_reducible rfl
    rotate_left
    · simp only [Act.put, List.setIfInBounds_toArray, List.set_cons_zero, List.set_cons_succ, i64_w, i32_w]
      rfl
    refine pure_ (i := 8) (N := some 15) (v := ?_) (a' := ?_) #[true, true, true, true, true, true, true, true, true, false] rfl rfl (any_of HT_.out (by kernel_rfl)) (panicD rfl _ _ (by decide)) (Or.inl ⟨by rfl, ?_⟩) ?_ ?_
    rotate_left
    · intro w'
      go_simp
      with_reducible rfl
    rotate_left
    · simp only [Act.put, List.setIfInBounds_toArray, List.set_cons_zero, List.set_cons_succ, i64_w, i32_w]
      rfl
    refine one_ (i := 9) (N := none) #[true, true, true, true, true, true, true, true, true, true] rfl rfl (one_of HT_.out (by kernel_rfl)) (by decide) (fun K_ hK => ?_)
    refine skip_ (w1 := ?_) (by rfl) rfl ?_ ?_
    rotate_left
    · go_simp
      rfl
    refine hK.out _ _ ⟨(cell_far (p := ⟨tb, 6, none⟩) (Nat.ne_of_gt hlt.out) _).trans ((blk_cell B1'.out 0).trans rfl), (blk_cell (blk_set HT3.out.2.2.1 6 _) 0).trans rfl⟩ (fun hHeld => ?_)
    clear hK K_
    refine done_ (done_of HT_.out (by kernel_rfl)) ?_
    have HT4 := Aside0.mk (HT3.out.out_set HV.out (fun k hk => hk.1))
    have B1'' := Aside0.mk (blk_far B1'.out (p := ⟨tb, 6, none⟩) (Nat.ne_of_gt hlt.out) (.slice Av l.length cv))
    have B2'' := Aside0.mk (blk_far B2'.out (p := ⟨tb, 6, none⟩) (by have := hlt.out; show b1 + 1 ≠ tb; omega) (.slice Av l.length cv))
    have HM4 := Aside0.mk (HM3.out.set (p := ⟨tb, 6, none⟩) (.inl (.inl HTB.out)) (.slice Av l.length cv))
    have HQ4 := Aside0.mk (HQ.out (some l) th2 okS2 w3 _ HQ3.out (by simp [World.setCell]) (fun k hk _ => Below.heap_setCell w3 ⟨tb, 6, none⟩ (.slice Av l.length cv) k (fun e => hTtb ((show k = tb from e) ▸ hk))))
    have hV1 : Aside0 (∀ k, some k = (Value.slice Av l.length cv).ownBlock → w2.heap.size ≤ k ∧ ¬ okS2 k ∧ k < w3.heap.size) := ⟨fun k hk => ⟨Kd.R_base HV.out k hk.symm, (HV.out.1 k hk.symm).2, Kd.R_lt HV.out k hk.symm⟩⟩
    have hs4 : Aside0 ((w3.setCell ⟨tb, 6, none⟩ (.slice Av l.length cv)).heap.size = w3.heap.size) := ⟨by simp [World.setCell]⟩
    clear c6 f6 hHeld
    generalize w3.setCell ⟨tb, 6, none⟩ (.slice Av l.length cv) = w4 at HT4 B1'' B2'' HM4 HQ4 hs4 ⊢
    have c1 : w4.cell? ⟨b1, 0, none⟩ = some (.pointer (some ⟨tb, 0, none⟩)) := (blk_cell B1''.out 0).trans rfl
    have c5 : w4.cell? ⟨tb, 5, none⟩ = some (.bool th2.done) := (blk_cell HT4.out.2.2.1 5).trans rfl
    have f5 := blk_frozen HT4.out.2.2.1 5
    have B3 := Aside0.mk (blk_far B2''.out (p := ⟨tb, 5, none⟩) (by have := hlt.out; show b1 + 1 ≠ tb; omega) (.bool true))
    have c7 := (blk_cell B3.out 0).trans (rfl : _ = some (Value.bool false))
    have f7 := blk_frozen B3.out 0
    go_wp2_with fail
    have hnk : ∀ k, (okT2 k ∨ some k = (Value.slice Av l.length cv).ownBlock) → k ≠ b1 + 1 := fun k hk e => by
      rcases hk with hk | hk
      · exact hnc2 (.inl (e ▸ hk))
      · have := (hV1.out k hk).1
        have := blk_lt B2.out
        omega
    have HT5 := Aside0.mk ((HT4.out.done_set true).step (w1 := (w4.setCell ⟨tb, 5, none⟩ (.bool true)).setCell ⟨b1 + 1, 0, none⟩ (.bool true)) (by simp [World.setCell]) (fun k hk _ => Below.heap_setCell _ ⟨b1 + 1, 0, none⟩ (.bool true) k (fun e => hnk k hk e)))
    have B1_5 := blk_far (blk_far B1''.out (p := ⟨tb, 5, none⟩) (Nat.ne_of_gt hlt.out) (.bool true)) (p := ⟨b1 + 1, 0, none⟩) (by show b1 ≠ b1 + 1; omega) (.bool true)
    have B2_5 := blk_set B3.out 0 (.bool true)
    have HM5 := Aside0.mk ((HM4.out.set (p := ⟨tb, 5, none⟩) (.inl (.inl HTB.out)) (.bool true)).set (p := ⟨b1 + 1, 0, none⟩) (.inr (by have := HS.out; show w.heap.size ≤ b1 + 1; omega)) (.bool true))
    refine leaves_cons (f := 84) (args := #[.pointer (some ⟨b1, 0, none⟩), .pointer (some ⟨b1 + 1, 0, none⟩)]) (by simp) (by simp [go_sem]) ?_
    refine (catch_idle tb b1 (b1 + 1) _ _ _ _ B1_5 HT5.out.2.2.1 rfl B2_5 (by have := hlt.out; omega)).mono ?_
    rintro e u' w'' ⟨rfl, rfl, rfl⟩
    have cb := (blk_cell (blk_far B2_5 (p := ⟨tb, 4, none⟩) (by have := hlt.out; show b1 + 1 ≠ tb; omega) (.bool false)) 0).trans (rfl : _ = some (Value.bool true))
    refine ⟨.bool true, ?_, ⟨some l, th2, _, okS2, rfl, ⟨_, _, _, HT5.out.in_set false⟩, ?_, ?_, ?_, ?_⟩⟩
    · simp [results, Tryz.results54, go_sem, cb]
    · rintro k (hk | hk) hk2
      · exact HDI.out k hk hk2
      · exact (hV1.out k hk).2.1 hk2
    · refine (HM5.out.set (p := ⟨tb, 4, none⟩) (.inl (.inl HTB.out)) (.bool false)).owns ?_
      rintro k ((hk | hk) | hk)
      · exact HM3.out.fresh k (.inl hk)
      · have := (hV1.out k hk).1
        have := HSZ.out
        exact .inr (by omega)
      · exact HM3.out.fresh k (.inr hk)
    · refine HQ.out (some l) th2 okS2 w4 _ HQ4.out (by simp [World.setCell]) (fun k hk _ => ?_)
      refine (Below.heap_setCell _ ⟨tb, 4, none⟩ (.bool false) k (fun e => hTtb ((show k = tb from e) ▸ hk))).trans ?_
      refine (Below.heap_setCell _ ⟨b1 + 1, 0, none⟩ (.bool true) k (fun e => hnc2 (.inr ((show k = b1 + 1 from e) ▸ hk)))).trans ?_
      exact Below.heap_setCell _ ⟨tb, 5, none⟩ (.bool true) k (fun e => hTtb ((show k = tb from e) ▸ hk))
    · intro k hk
      have := HBS.out k hk
      have := hs4.out
      simp [World.setCell]
      omega

end Go.Proofs.YthlmgbdknjilpaaGreat.Tower
namespace Go.Proofs.YthlmgbdknjilpaaGreat.Tower
open Go Go.RowKit Go.Proofs.YthlmgbdknjilpaaGreatW.PrintWords Go.Proofs.YthlmgbdknjilpaaGreatW.PrintLast Go.Proofs.YthlmgbdknjilpaaGreatW.PrintMore Go.Proofs.YthlmgbdknjilpaaGreat.Own
set_option linter.unusedVariables false
set_option linter.unusedSimpArgs false
attribute [local go_sem] eqlF1 eqlF2 eqlF3 panicW assertW

set_option maxHeartbeats 2000000 in
set_option maxRecDepth 100000 in
/-- A Step behind the end: nothing. -/
theorem step_done (ok : Nat → Prop) (tb : Nat) (wf : FuncId) (wc : Array Value) (th : Th) (w : World) (h : IsThread ok tb (.func (.func wf) #[] wc) th w) (hd : th.done = true) :
    Calls Tryz.prog 27 #[.pointer (some ⟨tb, 0, none⟩)] w fun e w' => e = .returned (.bool true) ∧ w' = w := by
  obtain ⟨lv, A, c, h⟩ := h
  have c5 : w.cell? ⟨tb, 5, none⟩ = some (.bool true) := (blk_cell h.2.2.1 5).trans (by rw [← hd]; rfl)
  clear h hd
  go_enter Tryz.func27, Tryz.ntmps27
  go_wp2_with fail
  go_ret
  exact ⟨rfl, rfl⟩

set_option maxHeartbeats 2000000 in
set_option maxRecDepth 100000 in
/-- A Step: the work goes on from its beginning. -/
theorem step_runs (okT okS : Nat → Prop) (tb : Nat) (wf : FuncId) (wc : Array Value) (th : Th) (w : World) (Q : Option (List Int) → Th → (Nat → Prop) → World → Prop)
    (h : IsThread okT tb (.func (.func wf) #[] wc) th w) (hdn : th.done = false) (hd : ∀ k, okT k → ¬ okS k) (hbs : ∀ k, okS k → k < w.heap.size)
    (hQ : ∀ r t ok1 w1 w2, Q r t ok1 w1 → w1.heap.size ≤ w2.heap.size → (∀ k, ok1 k → k < w1.heap.size → w2.heap[k]? = w1.heap[k]?) → Q r t ok1 w2)
    (he : ∀ w1 : World, (callFunc wf (#[.pointer (some ⟨tb, 0, none⟩)] ++ wc)).run Tryz.prog w1 = .ok (.enter wf (#[.pointer (some ⟨tb, 0, none⟩)] ++ wc)) w1)
    (hw : ∀ w1, Moves okT okT w w1 → IsThread okT tb (.func (.func wf) #[] wc) { th with at_ := 0, spent := false, in_ := true } w1 → Calls Tryz.prog wf (#[.pointer (some ⟨tb, 0, none⟩)] ++ wc) w1 (WorkPost okT okS tb (.func (.func wf) #[] wc) Q w1)) :
    Calls Tryz.prog 27 #[.pointer (some ⟨tb, 0, none⟩)] w (RunPost okT okS tb (.func (.func wf) #[] wc) Q w) := by
  obtain ⟨lv, A, c, h⟩ := h
  have HI := Aside0.mk h
  have HD := Aside0.mk hd
  have HQ := Aside0.mk hQ
  have HE := Aside0.mk he
  have HWK := Aside0.mk hw
  have HBS := Aside0.mk hbs
  have c5 : w.cell? ⟨tb, 5, none⟩ = some (.bool false) := (blk_cell h.2.2.1 5).trans (by rw [← hdn]; rfl)
  have c0 : w.cell? ⟨tb, 0, none⟩ = some (.func (.func wf) #[] wc) := (blk_cell h.2.2.1 0).trans rfl
  have c2 : w.cell? ⟨tb, 2, none⟩ = some (.int .i64 th.at_) := (blk_cell h.2.2.1 2).trans rfl
  have c3 : w.cell? ⟨tb, 3, none⟩ = some (.bool th.spent) := (blk_cell h.2.2.1 3).trans rfl
  have f2 := blk_frozen h.2.2.1 2
  have f3 := blk_frozen h.2.2.1 3
  have HA := Aside0.mk ((h.at_set 0).spent_set false)
  have HM := Aside0.mk (((Moves.refl okT w).set (p := ⟨tb, 2, none⟩) (.inl h.1) (.int .i64 0)).set (p := ⟨tb, 3, none⟩) (.inl h.1) (.bool false))
  clear h hdn hd hbs hQ he hw
  go_enter Tryz.func27, Tryz.ntmps27
  go_upto_region 4 with fail
  generalize hW : (w.setCell ⟨tb, 2, none⟩ (.int .i64 0)).setCell ⟨tb, 3, none⟩ (.bool false) = w1 at HA HM ⊢
  have HSZ : Aside0 (w1.heap.size = w.heap.size) := ⟨by rw [← hW]; simp [World.setCell]⟩
  clear hW c5 c0 c2 c3 f2 f3
  go_wp2_with (go_at_call 54; refine (run_calls okT okS tb wf wc { th with at_ := 0, spent := false } _ Q ⟨_, _, _, HA.out⟩ HD.out (fun k hk => by rw [HSZ.out]; exact HBS.out k hk) HQ.out HE.out (fun w2 hm ht => HWK.out w2 (HM.out.trans hm) ht)).mono ?_; rintro e w2 ⟨r, th2, okT3, okS3, rfl, hrest⟩; have HR := Aside0.mk hrest; clear hrest)
  go_ret
  obtain ⟨h1, h2, h3, h4, h5⟩ := HR.out
  refine ⟨r, th2, okT3, okS3, rfl, h1, h2, ?_, h4, h5⟩
  exact (HM.out.part (ok := fun k => okT k ∨ okS k) (okB := okS) (fun _ h => .inl h) (fun _ h => .inr h)).trans h3
end Go.Proofs.YthlmgbdknjilpaaGreat.Tower
namespace Go.Proofs.YthlmgbdknjilpaaGreat.Tower
open Go Go.RowKit Go.Proofs.YthlmgbdknjilpaaGreatW.PrintWords Go.Proofs.YthlmgbdknjilpaaGreatW.PrintLast Go.Proofs.YthlmgbdknjilpaaGreatW.PrintMore Go.Proofs.YthlmgbdknjilpaaGreat.Own
set_option linter.unusedVariables false
set_option linter.unusedSimpArgs false
attribute [local go_sem] eqlF1 eqlF2 eqlF3 panicW assertW

/-- How an operation's part comes to its end: with a result, or in a touch that waits for the next Step. -/
inductive Out (α : Type) where
  | ret (a : α)
  | wait

/-- What an operation goes on with: what is shared; its log; how far it is in it; whether this Step's touch was done. -/
structure TS (X : Type) where
  sh : X
  log : List Int
  at_ : Nat
  spent : Bool

/-- none: beyond what is spoken of (too long a log, no end). -/
abbrev Pr (X α : Type) := TS X → Option (Out α × TS X)

def prBind {X α β : Type} (m : Pr X α) (f : α → Pr X β) : Pr X β := fun s =>
  match m s with
  | none => none
  | some (.ret a, t) => f a t
  | some (.wait, t) => some (.wait, t)

def doT {X : Type} (f : X → Int × X) : Pr X Int := fun s =>
  if s.at_ < s.log.length then some (.ret (s.log.getD s.at_ 0), { s with at_ := s.at_ + 1 })
  else if s.spent then some (.wait, s)
  else if 999999 ≤ s.log.length then none
  else some (.ret (f s.sh).1, { sh := (f s.sh).2, log := s.log ++ [(f s.sh).1], at_ := s.at_ + 1, spent := true })

/-- What is shared: it stays where its blocks stay, and lies in the heap. -/
structure Shared {X : Type} (Sh : X → (Nat → Prop) → World → Prop) : Prop where
  step : ∀ {x ok w w1}, Sh x ok w → w.heap.size ≤ w1.heap.size → (∀ k, ok k → k < w.heap.size → w1.heap[k]? = w.heap[k]?) → Sh x ok w1
  lt : ∀ {x ok w}, Sh x ok w → ∀ k, ok k → k < w.heap.size

/-- In the midst of a Step: the thread, and what is shared. -/
structure IsRun {X : Type} (Sh : X → (Nat → Prop) → World → Prop) (tb : Nat) (work : Value) (ok : Nat → Prop) (s : TS X) (w : World) : Prop where
  le : s.at_ ≤ s.log.length
  short : s.log.length < 1000000
  out : ∃ okT okS, (∀ k, ok k ↔ okT k ∨ okS k) ∧ (∀ k, okT k → ¬ okS k) ∧ IsThread okT tb work ⟨s.log, s.at_, s.spent, true, false, []⟩ w ∧ Sh s.sh okS w

section
variable {X : Type} {Sh : X → (Nat → Prop) → World → Prop} {tb : Nat} {work : Value} {ok : Nat → Prop} {s : TS X} {w w1 : World}
theorem IsThread.lt {ok : Nat → Prop} {th : Th} (h : IsThread ok tb work th w) : ∀ k, ok k → k < w.heap.size := by
  obtain ⟨lv, A, c, h⟩ := h
  exact h.2.1
theorem IsRun.lt (S : Shared Sh) (h : IsRun Sh tb work ok s w) : ∀ k, ok k → k < w.heap.size := fun k hk => by
  obtain ⟨okT, okS, h1, h2, h3, h4⟩ := h.out
  rcases (h1 k).1 hk with hk | hk
  · exact h3.lt k hk
  · exact S.lt h4 k hk
theorem IsRun.step (S : Shared Sh) (h : IsRun Sh tb work ok s w) (hs : w.heap.size ≤ w1.heap.size) (hm : ∀ k, ok k → k < w.heap.size → w1.heap[k]? = w.heap[k]?) : IsRun Sh tb work ok s w1 := by
  obtain ⟨okT, okS, h1, h2, h3, h4⟩ := h.out
  exact ⟨h.le, h.short, okT, okS, h1, h2, h3.step hs (fun k hk => hm k ((h1 k).2 (.inl hk))), S.step h4 hs (fun k hk => hm k ((h1 k).2 (.inr hk)))⟩
theorem IsRun.below (S : Shared Sh) (h : IsRun Sh tb work ok s w) (hb : Below w.heap.size w w1) : IsRun Sh tb work ok s w1 := h.step S hb.size (fun k _ hlt => hb.block k hlt)
theorem IsRun.far (S : Shared Sh) (h : IsRun Sh tb work ok s w) {p : Addr} (hp : ¬ ok p.block) (u : Value) : IsRun Sh tb work ok s (w.setCell p u) := h.step S (by simp [World.setCell]) (fun k hk _ => Below.heap_setCell w p u k (fun e => hp (e ▸ hk)))
end

/-- How a call of an operation's part ends, by what the Lean function says (res). V: how a result reads. -/
structure TPost {X α : Type} (Sh : X → (Nat → Prop) → World → Prop) (tb : Nat) (work : Value) (V : α → (Nat → Prop) → Value → World → Prop) (ok : Nat → Prop) (w : World) (res : Out α × TS X) (e : Ending) (w1 : World) : Prop where
  out : ∃ ok1, Moves ok ok1 w w1 ∧ IsRun Sh tb work ok1 res.2 w1 ∧
    match res.1 with
    | .ret a => ∃ v, e = .returned v ∧ V a ok1 v w1
    | .wait => e = .panicked waitP

def VInt (a : Int) (_ : Nat → Prop) (v : Value) (_ : World) : Prop := v = .int .i64 a
def VBool (a : Bool) (_ : Nat → Prop) (v : Value) (_ : World) : Prop := v = .bool a
def VUnit (_ : Unit) (_ : Nat → Prop) (v : Value) (_ : World) : Prop := v = .tuple #[]

theorem moves_same {ok ok1 : Nat → Prop} {w w1 : World} {okA okB : Nat → Prop} (h : Moves okA okA w w1) (hA : ∀ k, okA k → ok k) : Moves ok ok w w1 := ⟨h.os, h.tape, h.output, h.size, fun k hk hn => h.block k hk (fun h1 => hn (hA k h1)), fun k hk => .inl hk⟩

theorem do_calls {X : Type} {Sh : X → (Nat → Prop) → World → Prop} (S : Shared Sh) (f : X → Int × X) (tb : Nat) (work : Value) (ok : Nat → Prop) (s : TS X) (w : World) (gf : FuncId) (cap : Array Value) (h : IsRun Sh tb work ok s w)
    (he : ∀ w1 : World, (callFunc gf cap).run Tryz.prog w1 = .ok (.enter gf cap) w1)
    (hc : ∀ w1 okS, Moves ok ok w w1 → (∀ k, okS k → ok k) → Sh s.sh okS w1 → Calls Tryz.prog gf cap w1 fun e w2 => ∃ okS1, e = .returned (.int .i64 (f s.sh).1) ∧ Sh (f s.sh).2 okS1 w2 ∧ Moves okS okS1 w1 w2)
    (res : Out Int × TS X) (hr : doT f s = some res) :
    Calls Tryz.prog 61 #[.pointer (some ⟨tb, 0, none⟩), .func (.func gf) #[] cap] w (TPost Sh tb work VInt ok w res) := by
  have hle := h.le
  have hsh := h.short
  obtain ⟨okT, okS, h1, h2, h3, h4⟩ := h.out
  unfold doT at hr
  by_cases ha : s.at_ < s.log.length
  · rw [if_pos ha] at hr
    injection hr with hr
    subst hr
    refine (do_told okT tb work _ w _ _ _ h3 rfl (by simp) (by simpa using ha) hsh _ rfl).mono ?_
    rintro e w1 ⟨rfl, ht, hm⟩
    refine ⟨⟨ok, moves_same (ok1 := ok) (okB := ok) hm (fun k hk => (h1 k).2 (.inl hk)), ⟨by show s.at_ + 1 ≤ s.log.length; omega, hsh, okT, okS, h1, h2, ?_, S.step h4 hm.size (fun k hk hlt => hm.block k hlt (fun h5 => h2 k h5 hk))⟩, _, rfl, ?_⟩⟩
    · simpa using ht
    · simp [VInt]
  · rw [if_neg ha] at hr
    have hat : s.at_ = s.log.length := by omega
    by_cases hs : s.spent = true
    · rw [if_pos hs] at hr
      injection hr with hr
      subst hr
      refine (do_waits okT tb work _ w _ _ _ h3 rfl (by show (s.log.length : Int) ≤ (s.at_ : Int); omega) hs).mono ?_
      rintro e w1 ⟨rfl, ht, hm⟩
      exact ⟨⟨ok, moves_same (ok1 := ok) (okB := ok) hm (fun k hk => (h1 k).2 (.inl hk)), ⟨hle, hsh, okT, okS, h1, h2, ht, S.step h4 hm.size (fun k hk hlt => hm.block k hlt (fun h5 => h2 k h5 hk))⟩, rfl⟩⟩
    · rw [if_neg hs] at hr
      by_cases hl : 999999 ≤ s.log.length
      · rw [if_pos hl] at hr
        cases hr
      rw [if_neg hl] at hr
      injection hr with hr
      subst hr
      have hlen : (s.log ++ [(f s.sh).1]).length < 1000000 := by simp; omega
      refine (do_does okT okS tb work _ w gf cap (fun n okS1 w1 => n = (f s.sh).1 ∧ Sh (f s.sh).2 okS1 w1) h3 rfl (by show (s.at_ : Int) = (s.log.length : Int); omega) (by simpa using hs) hsh h2
        (fun n ok1 w1 w2 hp hsz hm => ⟨hp.1, S.step hp.2 hsz hm⟩) (fun n ok1 w1 hp => S.lt hp.2) he
        (fun w1 hm => (hc w1 okS (moves_same (ok1 := ok) (okB := ok) hm (fun k hk => (h1 k).2 (.inl hk))) (fun k hk => (h1 k).2 (.inr hk)) (S.step h4 hm.size (fun k hk hlt => hm.block k hlt (fun h5 => h2 k h5 hk)))).mono (fun e w2 hh => by
          obtain ⟨okS1, rfl, hp, hmv⟩ := hh
          exact ⟨_, okS1, rfl, ⟨rfl, hp⟩, hmv⟩))).mono ?_
      rintro e w1 ⟨n, okT1, okS1, rfl, ht, ⟨rfl, hp⟩, hd, hm⟩
      refine ⟨⟨fun k => okT1 k ∨ okS1 k, ⟨hm.os, hm.tape, hm.output, hm.size, fun k hk hn => hm.block k hk (fun h5 => hn ((h1 k).2 h5)), fun k hk => (hm.fresh k hk).imp (h1 k).2 id⟩, ⟨by simp [hat], hlen, okT1, okS1, fun _ => Iff.rfl, hd, ?_, hp⟩, _, rfl, rfl⟩⟩
      simpa using ht
end Go.Proofs.YthlmgbdknjilpaaGreat.Tower
namespace Go.Proofs.YthlmgbdknjilpaaGreat.Tower
open Go Go.RowKit Go.Proofs.YthlmgbdknjilpaaGreatW.PrintWords Go.Proofs.YthlmgbdknjilpaaGreatW.PrintLast Go.Proofs.YthlmgbdknjilpaaGreatW.PrintMore Go.Proofs.YthlmgbdknjilpaaGreat.Own
set_option linter.unusedVariables false
set_option linter.unusedSimpArgs false

theorem run_eql_slice_nil {P : Program} (t e : TypeId) (a : Option Addr) (l c : Nat) (w : World) (h : P.underlying t = some (.slice e)) : (binOp .eql t (.slice a l c) (.slice none 0 0)).run P w = .ok (.bool a.isNone) w := by
  simp only [binOp]
  simp [run_equal_slice_nil w t e a l c h]
abbrev kPair : Kd (Int × Int) := Kd.pair (Kd.int .i64) (Kd.int .i64)
theorem R_empty {α : Type} (d : Kd α) (e : Nat) (w : World) (base : Nat) (hb : base ≤ w.heap.size) : d.R e (w.alloc (.cells #[] e)) base (fun k => base ≤ k) (.slice (some ⟨w.heap.size, 0, none⟩) 0 0) [] := by
  refine ⟨fun k hk => ?_, [], ⟨by simp, .inr ⟨w.heap.size, 0, #[], rfl, hb, blk_new w _, Nat.le_refl _, by simp [maxLen], by simp, by simp⟩⟩, Reps.none _ _⟩
  have : w.heap.size = k := by simpa [Value.ownBlock] using hk
  omega

theorem info_pairs : (Tryz.prog.info? 31).map (fun i => (i.zero, i.size, i.bytes)) = some (some (.agg #[.int .i64 0, .int .i64 0]), 2, 16) := by kernel_rfl
theorem eqS_pairs (a : Option Addr) (l c : Nat) (w : World) : (binOp .eql 24 (.slice a l c) (.slice none 0 0)).run Tryz.prog w = .ok (.bool a.isNone) w := run_eql_slice_nil _ _ a l c w Tryz.underlying24
attribute [local go_sem] eqS_pairs

set_option maxHeartbeats 2000000 in
set_option maxRecDepth 100000 in
theorem clone_pairs (A : Option Addr) (n c : Nat) (xs : List (Int × Int)) (w : World) (hr : (kPair).C w A n xs) (hl : n < 1000000) :
    Calls Tryz.prog 85 #[.slice A n c] w fun e w' => ∃ v, e = .returned v ∧ (kPair).R 31 w' w.heap.size (fun k => w.heap.size ≤ k) v xs ∧ Below w.heap.size w w' := by
  have HR := Aside0.mk hr
  cases A with
  | none =>
    have hx : xs = [] := by
      have h1 := hr.1
      cases xs with
      | nil => rfl
      | cons p q =>
        obtain ⟨ad, h2, _⟩ := hr.2.2 (by rw [← h1]; simp)
        cases h2
    subst hx
    clear hr HR
    go_enter Tryz.func85, Tryz.ntmps85
    go_wp2_with fail
    go_ret
    exact ⟨_, rfl, Kd.R_nil _ _ _ _ _, Below.refl _ _⟩
  | some ad =>
    clear hr
    have HE := Aside0.mk (R_empty (kPair) 31 w w.heap.size (Nat.le_refl _))
    have HB := Aside0.mk (below_alloc (Below.refl w.heap.size w) (.cells #[] 31))
    have HC := Aside0.mk (Kd.C_below HR.out (below_alloc (Below.refl _ _) (.cells #[] 31)))
    go_enter Tryz.func85, Tryz.ntmps85
    go_wp2_with (first | ((with_reducible refine gate_builtin (b := .append) (xs := #[.tmp 5, .tmp 6]) rfl ?_); at_builtin; refine Kd.R_append_rows (kPair) (w0 := w) w.heap.size rfl (.tmp 5) (.tmp 6) 24 31 (.agg #[.int .i64 0, .int .i64 0]) 16 rfl Tryz.underlying24 info_pairs rfl (by decide) (by omega) (.slice (some ⟨w.heap.size, 0, none⟩) 0 0) [] xs (some ad) n c (fun k => w.heap.size ≤ k) (fun _ => False) rfl rfl HE.out HC.out (fun _ _ h => h) (fun _ hk => hk.elim) (fun k hk => by simp at hk; omega) HB.out (by simp) (by simp; omega) ?_; intro v5 w5 ho hb5 hg hat; have HO := Aside0.mk ho; have HB5 := Aside0.mk hb5; clear ho hb5 hg hat HE HB HC))

    go_ret
    exact ⟨_, rfl, HO.out, HB5.out⟩

theorem info_keys : (Tryz.prog.info? 2).map (fun i => (i.zero, i.size, i.bytes)) = some (some (.int .i64 0), 1, 8) := by kernel_rfl
theorem eqS_keys (a : Option Addr) (l c : Nat) (w : World) : (binOp .eql 28 (.slice a l c) (.slice none 0 0)).run Tryz.prog w = .ok (.bool a.isNone) w := run_eql_slice_nil _ _ a l c w Tryz.underlying28
attribute [local go_sem] eqS_keys

set_option maxHeartbeats 2000000 in
set_option maxRecDepth 100000 in
theorem clone_keys (A : Option Addr) (n c : Nat) (xs : List (Int)) (w : World) (hr : (Kd.int .i64).C w A n xs) (hl : n < 1000000) :
    Calls Tryz.prog 86 #[.slice A n c] w fun e w' => ∃ v, e = .returned v ∧ (Kd.int .i64).R 2 w' w.heap.size (fun k => w.heap.size ≤ k) v xs ∧ Below w.heap.size w w' := by
  have HR := Aside0.mk hr
  cases A with
  | none =>
    have hx : xs = [] := by
      have h1 := hr.1
      cases xs with
      | nil => rfl
      | cons p q =>
        obtain ⟨ad, h2, _⟩ := hr.2.2 (by rw [← h1]; simp)
        cases h2
    subst hx
    clear hr HR
    go_enter Tryz.func86, Tryz.ntmps86
    go_wp2_with fail
    go_ret
    exact ⟨_, rfl, Kd.R_nil _ _ _ _ _, Below.refl _ _⟩
  | some ad =>
    clear hr
    have HE := Aside0.mk (R_empty (Kd.int .i64) 2 w w.heap.size (Nat.le_refl _))
    have HB := Aside0.mk (below_alloc (Below.refl w.heap.size w) (.cells #[] 2))
    have HC := Aside0.mk (Kd.C_below HR.out (below_alloc (Below.refl _ _) (.cells #[] 2)))
    go_enter Tryz.func86, Tryz.ntmps86
    go_wp2_with (first | ((with_reducible refine gate_builtin (b := .append) (xs := #[.tmp 5, .tmp 6]) rfl ?_); at_builtin; refine Kd.R_append_rows (Kd.int .i64) (w0 := w) w.heap.size rfl (.tmp 5) (.tmp 6) 28 2 (.int .i64 0) 8 rfl Tryz.underlying28 info_keys rfl (by decide) (by omega) (.slice (some ⟨w.heap.size, 0, none⟩) 0 0) [] xs (some ad) n c (fun k => w.heap.size ≤ k) (fun _ => False) rfl rfl HE.out HC.out (fun _ _ h => h) (fun _ hk => hk.elim) (fun k hk => by simp at hk; omega) HB.out (by simp) (by simp; omega) ?_; intro v5 w5 ho hb5 hg hat; have HO := Aside0.mk ho; have HB5 := Aside0.mk hb5; clear ho hb5 hg hat HE HB HC))

    go_ret
    exact ⟨_, rfl, HO.out, HB5.out⟩

theorem info_ways : (Tryz.prog.info? 55).map (fun i => (i.zero, i.size, i.bytes)) = some (some (.int .i64 0), 1, 8) := by kernel_rfl
theorem eqS_ways (a : Option Addr) (l c : Nat) (w : World) : (binOp .eql 115 (.slice a l c) (.slice none 0 0)).run Tryz.prog w = .ok (.bool a.isNone) w := run_eql_slice_nil _ _ a l c w Tryz.underlying115
attribute [local go_sem] eqS_ways

set_option maxHeartbeats 2000000 in
set_option maxRecDepth 100000 in
theorem clone_ways (A : Option Addr) (n c : Nat) (xs : List (Int)) (w : World) (hr : (Kd.int .i64).C w A n xs) (hl : n < 1000000) :
    Calls Tryz.prog 87 #[.slice A n c] w fun e w' => ∃ v, e = .returned v ∧ (Kd.int .i64).R 55 w' w.heap.size (fun k => w.heap.size ≤ k) v xs ∧ Below w.heap.size w w' := by
  have HR := Aside0.mk hr
  cases A with
  | none =>
    have hx : xs = [] := by
      have h1 := hr.1
      cases xs with
      | nil => rfl
      | cons p q =>
        obtain ⟨ad, h2, _⟩ := hr.2.2 (by rw [← h1]; simp)
        cases h2
    subst hx
    clear hr HR
    go_enter Tryz.func87, Tryz.ntmps87
    go_wp2_with fail
    go_ret
    exact ⟨_, rfl, Kd.R_nil _ _ _ _ _, Below.refl _ _⟩
  | some ad =>
    clear hr
    have HE := Aside0.mk (R_empty (Kd.int .i64) 55 w w.heap.size (Nat.le_refl _))
    have HB := Aside0.mk (below_alloc (Below.refl w.heap.size w) (.cells #[] 55))
    have HC := Aside0.mk (Kd.C_below HR.out (below_alloc (Below.refl _ _) (.cells #[] 55)))
    go_enter Tryz.func87, Tryz.ntmps87
    go_wp2_with (first | ((with_reducible refine gate_builtin (b := .append) (xs := #[.tmp 5, .tmp 6]) rfl ?_); at_builtin; refine Kd.R_append_rows (Kd.int .i64) (w0 := w) w.heap.size rfl (.tmp 5) (.tmp 6) 115 55 (.int .i64 0) 8 rfl Tryz.underlying115 info_ways rfl (by decide) (by omega) (.slice (some ⟨w.heap.size, 0, none⟩) 0 0) [] xs (some ad) n c (fun k => w.heap.size ≤ k) (fun _ => False) rfl rfl HE.out HC.out (fun _ _ h => h) (fun _ hk => hk.elim) (fun k hk => by simp at hk; omega) HB.out (by simp) (by simp; omega) ?_; intro v5 w5 ho hb5 hg hat; have HO := Aside0.mk ho; have HB5 := Aside0.mk hb5; clear ho hb5 hg hat HE HB HC))

    go_ret
    exact ⟨_, rfl, HO.out, HB5.out⟩
end Go.Proofs.YthlmgbdknjilpaaGreat.Tower
namespace Go.Proofs.YthlmgbdknjilpaaGreat.Tower
open Go Go.RowKit Go.Proofs.YthlmgbdknjilpaaGreatW.PrintWords Go.Proofs.YthlmgbdknjilpaaGreatW.PrintLast Go.Proofs.YthlmgbdknjilpaaGreatW.PrintMore Go.Proofs.YthlmgbdknjilpaaGreat.Own
set_option linter.unusedVariables false
set_option linter.unusedSimpArgs false

/-- A node, as it was made. -/
structure Nd where
  inner : Bool
  tagged : Bool
  pairs : List (Int × Int)
  keys : List Int
  ways : List Int
/-- A place. -/
structure Sl where
  node : Nd
  ways : List Int
  info : Int
  mark : Bool
  count : Int
  used : Bool
structure Ar where
  slots : List Sl
  free : List Int
  most : Int
  used : Int
  faults : Int
/-- The slices of a place, as values. -/
structure Lv where
  p : Value
  k : Value
  n : Value
  w : Value

def slotCells (s : Sl) (l : Lv) : List Value := [.bool s.node.inner, .bool s.node.tagged, l.p, l.k, l.n, l.w, .int .i64 s.info, .bool s.mark, .int .u32 s.count, .bool s.used]
def rowsOf (ss : List Sl) (lv : Nat → Lv) : List (List Value) := ss.zipIdx.map fun q => slotCells q.1 (lv q.2)
theorem rowsOf_length (ss : List Sl) (lv : Nat → Lv) : (rowsOf ss lv).length = ss.length := by simp [rowsOf]
theorem rowsOf_get {ss : List Sl} {lv : Nat → Lv} {i : Nat} {s : Sl} (h : ss[i]? = some s) : (rowsOf ss lv)[i]? = some (slotCells s (lv i)) := by
  simp [rowsOf, List.getElem?_zipIdx, h]
theorem rowsOf_set {ss : List Sl} {lv lv1 : Nat → Lv} {i : Nat} {s : Sl} (hi : i < ss.length) (hl : ∀ j, j ≠ i → lv1 j = lv j) : rowsOf (ss.set i s) lv1 = (rowsOf ss lv).set i (slotCells s (lv1 i)) := by
  refine List.ext_getElem? fun j => ?_
  by_cases hj : i = j
  · subst hj
    simp [rowsOf, List.getElem?_zipIdx, hi]
  · simp only [rowsOf, List.getElem?_map, List.getElem?_zipIdx, List.getElem?_set, if_neg hj]
    cases hs : ss[j]? with
    | none => simp
    | some q => simp [hl j (fun e => hj e.symm)]

/-- A slice that is read, in blocks of ok. -/
def SlF {α : Type} (d : Kd α) (w : World) (ok : Nat → Prop) (v : Value) (xs : List α) : Prop := ∃ A c, v = .slice A xs.length c ∧ xs.length ≤ c ∧ d.F w ok A xs.length xs
theorem SlF.step {α : Type} {d : Kd α} {w w1 : World} {ok : Nat → Prop} {v : Value} {xs : List α} (h : SlF d w ok v xs) (hm : ∀ k, ok k → k < w.heap.size → w1.heap[k]? = w.heap[k]?) : SlF d w1 ok v xs := by
  obtain ⟨A, c, rfl, hc, hf⟩ := h
  exact ⟨A, c, rfl, hc, Kd.F_step hf hm⟩
theorem SlF.mono {α : Type} {d : Kd α} {w : World} {ok ok1 : Nat → Prop} {v : Value} {xs : List α} (h : SlF d w ok v xs) (hk : ∀ k, ok k → k < w.heap.size → ok1 k) : SlF d w ok1 v xs := by
  obtain ⟨A, c, rfl, hc, hf⟩ := h
  exact ⟨A, c, rfl, hc, Kd.F_mono (Kd.F_bound hf) (fun k h => hk k h.1 h.2)⟩

def NodeAt (w : World) (ok : Nat → Prop) (n : Nd) (l : Lv) : Prop := SlF kPair w ok l.p n.pairs ∧ SlF (Kd.int .i64) w ok l.k n.keys ∧ SlF (Kd.int .i64) w ok l.n n.ways

/-- The arena in memory. ρ: what a block is for (1: the row of places; 2: the row of free ones; 3: nodes' rows; 4 + i: the ways of place i). -/
structure ArenaAt (ok : Nat → Prop) (pA : Nat) (sv fv : Value) (lv : Nat → Lv) (ρ : Nat → Nat) (a : Ar) (w : World) : Prop where
  own : ok pA
  role : ρ pA = 0
  lt : ∀ k, ok k → k < w.heap.size
  box : w.heap[pA]? = some (.cells #[sv, fv, .int .i64 a.most, .int .i64 a.used, .int .i64 a.faults] 108 (0, 0))
  rows : (Kd.raw 10).R 149 w 0 (fun k => ok k ∧ ρ k = 1) sv (rowsOf a.slots lv)
  free : (Kd.int .i64).Q 3 w 0 (fun k => ok k ∧ ρ k = 2) fv a.free
  node : ∀ i s, a.slots[i]? = some s → NodeAt w (fun k => ok k ∧ ρ k = 3) s.node (lv i)
  ways : ∀ i s, a.slots[i]? = some s → (Kd.int .i64).R 55 w 0 (fun k => ok k ∧ ρ k = 4 + i) (lv i).w s.ways

section
variable {ok : Nat → Prop} {pA : Nat} {sv fv : Value} {lv : Nat → Lv} {ρ : Nat → Nat} {a : Ar} {w w1 : World}
theorem ArenaAt.step (h : ArenaAt ok pA sv fv lv ρ a w) (hs : w.heap.size ≤ w1.heap.size) (hm : ∀ k, ok k → k < w.heap.size → w1.heap[k]? = w.heap[k]?) : ArenaAt ok pA sv fv lv ρ a w1 where
  own := h.own
  role := h.role
  lt := fun k hk => Nat.lt_of_lt_of_le (h.lt k hk) hs
  box := (hm pA h.own (h.lt pA h.own)).trans h.box
  rows := Kd.R_step h.rows (fun k hk hlt => hm k hk.1 hlt)
  free := Kd.Q_step h.free (fun k hk hlt => hm k hk.1 hlt)
  node := fun i s hi => ⟨(h.node i s hi).1.step (fun k hk hlt => hm k hk.1 hlt), (h.node i s hi).2.1.step (fun k hk hlt => hm k hk.1 hlt), (h.node i s hi).2.2.step (fun k hk hlt => hm k hk.1 hlt)⟩
  ways := fun i s hi => Kd.R_step (h.ways i s hi) (fun k hk hlt => hm k hk.1 hlt)
/-- A store into the arena's own box. -/
theorem ArenaAt.box_set (h : ArenaAt ok pA sv fv lv ρ a w) (j : Nat) (u : Value) (a1 : Ar) (hs : a1.slots = a.slots) (hf : a1.free = a.free)
    (hc : (#[sv, fv, .int .i64 a.most, .int .i64 a.used, .int .i64 a.faults] : Array Value).setIfInBounds j u = #[sv, fv, .int .i64 a1.most, .int .i64 a1.used, .int .i64 a1.faults]) :
    ArenaAt ok pA sv fv lv ρ a1 (w.setCell ⟨pA, j, none⟩ u) where
  own := h.own
  role := h.role
  lt := fun k hk => by simpa [World.setCell] using h.lt k hk
  box := by rw [← hc]; exact blk_set h.box j u
  rows := by rw [hs]; exact Kd.R_far h.rows (fun k hk e => by have := h.role; rw [← show k = pA from e, hk.2] at this; omega) u
  free := by rw [hf]; exact Kd.Q_far h.free (fun k hk e => by have := h.role; rw [← show k = pA from e, hk.2] at this; omega) u
  node := fun i s hi => by
    rw [hs] at hi
    have hn := h.node i s hi
    have hm : ∀ k, (ok k ∧ ρ k = 3) → k < w.heap.size → (w.setCell ⟨pA, j, none⟩ u).heap[k]? = w.heap[k]? := fun k hk _ => Below.heap_setCell w ⟨pA, j, none⟩ u k (fun e => by have := h.role; rw [← show k = pA from e, hk.2] at this; omega)
    exact ⟨hn.1.step hm, hn.2.1.step hm, hn.2.2.step hm⟩
  ways := fun i s hi => by
    rw [hs] at hi
    exact Kd.R_far (h.ways i s hi) (fun k hk e => by have := h.role; rw [← show k = pA from e, hk.2] at this; omega) u
/-- The cells of a place. -/
theorem ArenaAt.cells {n cap : Nat} {ad : Option Addr} (h : ArenaAt ok pA (.slice ad n cap) fv lv ρ a w) {i : Nat} {s : Sl} (hi : a.slots[i]? = some s) :
    n = a.slots.length ∧ ∃ g, ad = some ⟨g, 0, none⟩ ∧ ok g ∧ ρ g = 1 ∧ (∀ j u, (slotCells s (lv i))[j]? = some u → w.cell? ⟨g, i * 10 + j, none⟩ = some u) ∧ ∀ j, w.frozen? ⟨g, i * 10 + j, none⟩ = false := by
  have hr := Kd.R_reads' h.rows
  have hn : n = a.slots.length := by rw [hr.1, rowsOf_length]
  have hil := (List.getElem?_eq_some_iff.1 hi).1
  refine ⟨hn, ?_⟩
  cases ad with
  | none =>
    obtain ⟨_, inner, ho, _⟩ := h.rows
    rcases ho.2 with ⟨hv, h0⟩ | ⟨g, c1, cur, hv, _⟩
    · rw [rowsOf_length] at h0; omega
    · cases hv
  | some ad =>
    obtain ⟨g, rfl⟩ := Kd.R_head h.rows
    obtain ⟨c, hcl, hM, hcc, hfz⟩ := Kd.R_elem h.rows [] (i : Int) (by omega) (by omega)
    have hg := h.rows.1 g (by simp [Value.ownBlock])
    have he : (rowsOf a.slots lv).getD (i : Int).toNat [] = slotCells s (lv i) := by simp [List.getD_eq_getElem?_getD, rowsOf_get hi]
    rw [he] at hM
    have hc : c = slotCells s (lv i) := hM.1
    subst hc
    exact ⟨g, rfl, hg.1, hg.2, fun j u hu => by simpa [Kd.raw] using hcc j u hu, fun j => by simpa [Kd.raw] using hfz j⟩
end
theorem ArenaAt.mono {ok ok1 : Nat → Prop} {pA : Nat} {sv fv : Value} {lv : Nat → Lv} {ρ ρ1 : Nat → Nat} {a : Ar} {w : World} (h : ArenaAt ok pA sv fv lv ρ a w) (hok : ∀ k, ok k → ok1 k) (hlt : ∀ k, ok1 k → k < w.heap.size) (hρ : ∀ k, ok k → ρ1 k = ρ k) : ArenaAt ok1 pA sv fv lv ρ1 a w where
  own := hok _ h.own
  role := (hρ _ h.own).trans h.role
  lt := hlt
  box := h.box
  rows := Kd.R_mono h.rows (fun k hk => ⟨hok k hk.1, (hρ k hk.1).trans hk.2⟩)
  free := Kd.Q_mono h.free (fun k hk => ⟨hok k hk.1, (hρ k hk.1).trans hk.2⟩)
  node := fun i s hi => ⟨(h.node i s hi).1.mono (fun k hk _ => ⟨hok k hk.1, (hρ k hk.1).trans hk.2⟩), (h.node i s hi).2.1.mono (fun k hk _ => ⟨hok k hk.1, (hρ k hk.1).trans hk.2⟩), (h.node i s hi).2.2.mono (fun k hk _ => ⟨hok k hk.1, (hρ k hk.1).trans hk.2⟩)⟩
  ways := fun i s hi => Kd.R_mono (h.ways i s hi) (fun k hk => ⟨hok k hk.1, (hρ k hk.1).trans hk.2⟩)
theorem slotCells_one {w : World} {ok : Nat → Prop} {s : Sl} {l : Lv} {base : Nat} {e : Nat} {ok1 : Nat → Prop} (hn : NodeAt w ok s.node l) (hw : (Kd.int .i64).R e w base ok1 l.w s.ways) : ∀ u ∈ slotCells s l, u.oneCell' = true := by
  obtain ⟨⟨Ap, cp, ep, _⟩, ⟨Ak, ck, ek, _⟩, ⟨Ay, cy, ey, _⟩⟩ := hn
  obtain ⟨Aw, cw, ew⟩ := Kd.R_slice hw
  intro u hu
  simp only [slotCells, ep, ek, ey, ew, List.mem_cons, List.not_mem_nil, or_false] at hu
  rcases hu with rfl | rfl | rfl | rfl | rfl | rfl | rfl | rfl | rfl | rfl <;> rfl
/-- A run of cells of a place is written. -/
theorem ArenaAt.seg {ok : Nat → Prop} {pA g n cap : Nat} {fv : Value} {lv : Nat → Lv} {ρ : Nat → Nat} {a : Ar} {w : World} (h : ArenaAt ok pA (.slice (some ⟨g, 0, none⟩) n cap) fv lv ρ a w) {i : Nat} {s : Sl} (hi : a.slots[i]? = some s)
    (j : Nat) (seg : List Value) (hj : j + seg.length ≤ 10) (s1 : Sl) (lv1 : Nat → Lv) (hl : ∀ k, k ≠ i → lv1 k = lv k)
    (hc : slotCells s1 (lv1 i) = (slotCells s (lv i)).take j ++ seg ++ (slotCells s (lv i)).drop (j + seg.length))
    (hn : NodeAt w (fun k => ok k ∧ ρ k = 3) s1.node (lv1 i)) (hw : (Kd.int .i64).R 55 w 0 (fun k => ok k ∧ ρ k = 4 + i) (lv1 i).w s1.ways) :
    ArenaAt ok pA (.slice (some ⟨g, 0, none⟩) n cap) fv lv1 ρ { a with slots := a.slots.set i s1 } (w.setCells g (i * 10 + j) seg) := by
  obtain ⟨hnl, g0, e0, hg, hρ, hcc, hfz⟩ := h.cells hi
  injection e0 with e0
  injection e0 with e0 _ _
  subst e0
  have hil := (List.getElem?_eq_some_iff.1 hi).1
  obtain ⟨_, _, _, hsz⟩ := setCells_same g seg (i * 10 + j) w
  have hfar : ∀ k, k ≠ g → (w.setCells g (i * 10 + j) seg).heap[k]? = w.heap[k]? := fun k hk => setCells_far seg _ k hk
  have hne : ∀ k, ρ k ≠ 1 → k ≠ g := fun k hk e => hk (e ▸ hρ)
  have hrow := (Kd.R_seg (okp := fun _ => False) h.rows (i : Int) (by omega) (by omega) (c := slotCells s (lv i)) (seg := seg) (j := j) (by simp [slotCells, Kd.raw]) (by simpa [Kd.raw] using hcc) (by simpa [Kd.raw] using hj) (x' := slotCells s1 (lv1 i)) (by exact ⟨hc.symm, by rw [← hc]; rfl, by rw [← hc]; exact slotCells_one hn hw⟩) (fun k hk => hk.elim)).1
  have hset : (rowsOf a.slots lv).set (i : Int).toNat (slotCells s1 (lv1 i)) = rowsOf (a.slots.set i s1) lv1 := by
    rw [rowsOf_set hil hl]
    simp
  rw [hset] at hrow
  have hrow' : (Kd.raw 10).R 149 (w.setCells g (i * 10 + j) seg) 0 (fun k => ok k ∧ ρ k = 1) (.slice (some ⟨g, 0, none⟩) n cap) (rowsOf (a.slots.set i s1) lv1) := by simpa [Kd.raw] using hrow
  have hmove : ∀ r, r ≠ 1 → ∀ k, (ok k ∧ ρ k = r) → k < w.heap.size → (w.setCells g (i * 10 + j) seg).heap[k]? = w.heap[k]? := fun r hr k hk _ => hfar k (hne k (by rw [hk.2]; exact hr))
  have hget : ∀ {i1 : Nat} {s2 : Sl}, (a.slots.set i s1)[i1]? = some s2 → (i1 = i ∧ s2 = s1) ∨ (i1 ≠ i ∧ a.slots[i1]? = some s2) := fun {i1 s2} h2 => by
    by_cases he : i = i1
    · subst he
      rw [List.getElem?_set_self hil] at h2
      injection h2 with h2
      exact .inl ⟨rfl, h2.symm⟩
    · rw [List.getElem?_set_ne he] at h2
      exact .inr ⟨fun e => he e.symm, h2⟩
  exact {
    own := h.own
    role := h.role
    lt := fun k hk => by rw [hsz]; exact h.lt k hk
    box := (hfar pA (hne pA (by rw [h.role]; decide))).trans h.box
    rows := hrow'
    free := Kd.Q_step h.free (hmove 2 (by decide))
    node := fun i1 s2 h2 => by
      rcases hget h2 with ⟨rfl, rfl⟩ | ⟨hi1, h2⟩
      · exact ⟨hn.1.step (hmove 3 (by decide)), hn.2.1.step (hmove 3 (by decide)), hn.2.2.step (hmove 3 (by decide))⟩
      · rw [hl i1 hi1]
        have hn := h.node i1 s2 h2
        exact ⟨hn.1.step (hmove 3 (by decide)), hn.2.1.step (hmove 3 (by decide)), hn.2.2.step (hmove 3 (by decide))⟩
    ways := fun i1 s2 h2 => by
      rcases hget h2 with ⟨rfl, rfl⟩ | ⟨hi1, h2⟩
      · exact Kd.R_step hw (hmove _ (by omega))
      · rw [hl i1 hi1]
        exact Kd.R_step (h.ways i1 s2 h2) (hmove _ (by omega)) }
def IsArena (ok : Nat → Prop) (pA : Nat) (a : Ar) (w : World) : Prop := ∃ sv fv lv ρ, ArenaAt ok pA sv fv lv ρ a w
end Go.Proofs.YthlmgbdknjilpaaGreat.Tower
namespace Go.Proofs.YthlmgbdknjilpaaGreat.Tower
open Go Go.RowKit Go.Proofs.YthlmgbdknjilpaaGreatW.PrintWords Go.Proofs.YthlmgbdknjilpaaGreatW.PrintLast Go.Proofs.YthlmgbdknjilpaaGreatW.PrintMore Go.Proofs.YthlmgbdknjilpaaGreat.Own
set_option linter.unusedVariables false
set_option linter.unusedSimpArgs false

def refOf (i c : Int) : Int := Go.bits .or .i64 (wrap64 ((wrap64 (Go.bits .and .u32 c 8388607)) * 1099511627776)) (Go.bits .and .i64 (wrap64 (i + 1)) 1099511627775)
def placeOf (r : Int) : Int := wrap64 (Go.bits .and .i64 r 1099511627775 - 1)

set_option maxHeartbeats 2000000 in
set_option maxRecDepth 100000 in
theorem ref_of (i c : Int) (w : World) : Calls Tryz.prog 88 #[.int .i64 i, .int .u32 c] w fun e w' => e = .returned (.int .i64 (refOf i c)) ∧ w' = w := by
  go_enter Tryz.func88, Tryz.ntmps88
  go_wp2
  go_ret
  exact ⟨rfl, rfl⟩
set_option maxHeartbeats 2000000 in
set_option maxRecDepth 100000 in
theorem ref_place (r : Int) (w : World) : Calls Tryz.prog 110 #[.int .i64 r] w fun e w' => e = .returned (.int .i64 (placeOf r)) ∧ w' = w := by
  go_enter Tryz.func110, Tryz.ntmps110
  go_wp2
  go_ret
  exact ⟨rfl, rfl⟩

set_option maxHeartbeats 2000000 in
set_option maxRecDepth 100000 in
theorem at_hit {ok : Nat → Prop} {pA g n cap : Nat} {fv : Value} {lv : Nat → Lv} {ρ : Nat → Nat} {a : Ar} (r : Int) (i : Nat) (s : Sl) (w : World) (h : ArenaAt ok pA (.slice (some ⟨g, 0, none⟩) n cap) fv lv ρ a w)
    (hi : a.slots[i]? = some s) (hp : placeOf r = (i : Int)) (hu : s.used = true) (hr : refOf i s.count = r) (hl : a.slots.length < 1000000) :
    Calls Tryz.prog 82 #[.pointer (some ⟨pA, 0, none⟩), .int .i64 r] w fun e w' => e = .returned (.pointer (some ⟨g, i * 10, none⟩)) ∧ w' = w := by
  obtain ⟨rfl, g0, e0, hg, hρ, hcc, hfz⟩ := h.cells hi
  injection e0 with e0
  injection e0 with e0 _ _
  subst e0
  have hil := (List.getElem?_eq_some_iff.1 hi).1
  have HP := Aside0.mk hp
  have HR := Aside0.mk hr
  have c0 : w.cell? ⟨pA, 0, none⟩ = some (.slice (some ⟨g, 0, none⟩) a.slots.length cap) := (blk_cell h.box 0).trans rfl
  have c8 : w.cell? ⟨g, i * 10 + 8, none⟩ = some (.int .u32 s.count) := hcc 8 _ rfl
  have c9 : w.cell? ⟨g, i * 10 + 9, none⟩ = some (.bool true) := hcc 9 _ (by rw [← hu]; rfl)
  have d1 : decide ((i : Int) ≥ 0) = true := decide_eq_true (by omega)
  have d1' : decide ((0 : Int) ≤ i) = true := decide_eq_true (by omega)
  have d2 : decide ((i : Int) < (a.slots.length : Int)) = true := decide_eq_true (by omega)
  have d2' : decide (i < a.slots.length) = true := decide_eq_true hil
  have b1 : (0 : Int) ≤ (i : Int) := by omega
  have b2 : (i : Int) < (a.slots.length : Int) := by omega
  have heq : (r == r) = true := beq_self_eq_true r
  clear h hcc hfz hp hr hu hi
  go_enter Tryz.func82, Tryz.ntmps82
  go_wp2_with (first | (go_at_call 110; refine (ref_place r _).mono ?_; rintro e w1 ⟨rfl, rfl⟩; rw [HP.out]) | (go_at_call 88; refine (ref_of i s.count _).mono ?_; rintro e w1 ⟨rfl, rfl⟩; rw [HR.out]))
  go_ret
  exact ⟨rfl, rfl⟩
set_option maxHeartbeats 2000000 in
set_option maxRecDepth 100000 in
theorem at_miss_neg {ok : Nat → Prop} {pA : Nat} {sv fv : Value} {lv : Nat → Lv} {ρ : Nat → Nat} {a : Ar} (r p : Int) (w : World) (h : ArenaAt ok pA sv fv lv ρ a w) (hp : placeOf r = p) (hn : p < 0) (hl : a.slots.length < 1000000) :
    Calls Tryz.prog 82 #[.pointer (some ⟨pA, 0, none⟩), .int .i64 r] w fun e w' => e = .returned (.pointer none) ∧ w' = w.setCell ⟨pA, 4, none⟩ (.int .i64 (wrap64 (a.faults + 1))) := by
  obtain ⟨ad, cap, rfl⟩ := Kd.R_slice h.rows
  rw [rowsOf_length] at h
  have HP := Aside0.mk hp
  have c0 : w.cell? ⟨pA, 0, none⟩ = some (.slice ad a.slots.length cap) := (blk_cell h.box 0).trans rfl
  have c4 : w.cell? ⟨pA, 4, none⟩ = some (.int .i64 a.faults) := (blk_cell h.box 4).trans rfl
  have f4 := blk_frozen h.box 4
  have d1 : decide (p ≥ 0) = false := decide_eq_false (by omega)
  have d1' : decide (0 ≤ p) = false := decide_eq_false (by omega)
  clear h hp
  go_enter Tryz.func82, Tryz.ntmps82
  go_wp2_with (first | (go_at_call 110; refine (ref_place r _).mono ?_; rintro e w1 ⟨rfl, rfl⟩; rw [HP.out]))
  go_ret
  exact ⟨rfl, rfl⟩
set_option maxHeartbeats 2000000 in
set_option maxRecDepth 100000 in
theorem at_miss_far {ok : Nat → Prop} {pA : Nat} {sv fv : Value} {lv : Nat → Lv} {ρ : Nat → Nat} {a : Ar} (r p : Int) (w : World) (h : ArenaAt ok pA sv fv lv ρ a w) (hp : placeOf r = p) (h0 : 0 ≤ p) (hn : (a.slots.length : Int) ≤ p) (hl : a.slots.length < 1000000) :
    Calls Tryz.prog 82 #[.pointer (some ⟨pA, 0, none⟩), .int .i64 r] w fun e w' => e = .returned (.pointer none) ∧ w' = w.setCell ⟨pA, 4, none⟩ (.int .i64 (wrap64 (a.faults + 1))) := by
  obtain ⟨ad, cap, rfl⟩ := Kd.R_slice h.rows
  rw [rowsOf_length] at h
  have HP := Aside0.mk hp
  have c0 : w.cell? ⟨pA, 0, none⟩ = some (.slice ad a.slots.length cap) := (blk_cell h.box 0).trans rfl
  have c4 : w.cell? ⟨pA, 4, none⟩ = some (.int .i64 a.faults) := (blk_cell h.box 4).trans rfl
  have f4 := blk_frozen h.box 4
  have d1 : decide (p ≥ 0) = true := decide_eq_true (by omega)
  have d1' : decide (0 ≤ p) = true := decide_eq_true (by omega)
  have d2 : decide (p < (a.slots.length : Int)) = false := decide_eq_false (by omega)
  clear h hp
  go_enter Tryz.func82, Tryz.ntmps82
  go_wp2_with (first | (go_at_call 110; refine (ref_place r _).mono ?_; rintro e w1 ⟨rfl, rfl⟩; rw [HP.out]))
  go_ret
  exact ⟨rfl, rfl⟩
set_option maxHeartbeats 2000000 in
set_option maxRecDepth 100000 in
theorem at_miss_free {ok : Nat → Prop} {pA : Nat} {sv fv : Value} {lv : Nat → Lv} {ρ : Nat → Nat} {a : Ar} (r : Int) (w : World) (h : ArenaAt ok pA sv fv lv ρ a w) (i : Nat) (s : Sl) (hp : placeOf r = (i : Int)) (hi : a.slots[i]? = some s) (hu : s.used = false) (hl : a.slots.length < 1000000) :
    Calls Tryz.prog 82 #[.pointer (some ⟨pA, 0, none⟩), .int .i64 r] w fun e w' => e = .returned (.pointer none) ∧ w' = w.setCell ⟨pA, 4, none⟩ (.int .i64 (wrap64 (a.faults + 1))) := by
  obtain ⟨ad, cap, rfl⟩ := Kd.R_slice h.rows
  rw [rowsOf_length] at h
  obtain ⟨_, g, rfl, hg, hρ, hcc, hfz⟩ := h.cells hi
  have hil := (List.getElem?_eq_some_iff.1 hi).1
  have HP := Aside0.mk hp
  have c0 : w.cell? ⟨pA, 0, none⟩ = some (.slice (some ⟨g, 0, none⟩) a.slots.length cap) := (blk_cell h.box 0).trans rfl
  have c4 : w.cell? ⟨pA, 4, none⟩ = some (.int .i64 a.faults) := (blk_cell h.box 4).trans rfl
  have f4 := blk_frozen h.box 4
  have c9 : w.cell? ⟨g, i * 10 + 9, none⟩ = some (.bool false) := hcc 9 _ (by rw [← hu]; rfl)
  have d1 : decide ((i : Int) ≥ 0) = true := decide_eq_true (by omega)
  have d1' : decide ((0 : Int) ≤ i) = true := decide_eq_true (by omega)
  have d2 : decide ((i : Int) < (a.slots.length : Int)) = true := decide_eq_true (by omega)
  have d2' : decide (i < a.slots.length) = true := decide_eq_true hil
  have b1 : (0 : Int) ≤ (i : Int) := by omega
  have b2 : (i : Int) < (a.slots.length : Int) := by omega
  clear h hp hcc hfz hi hu
  go_enter Tryz.func82, Tryz.ntmps82
  go_wp2_with (first | (go_at_call 110; refine (ref_place r _).mono ?_; rintro e w1 ⟨rfl, rfl⟩; rw [HP.out]))
  go_ret
  exact ⟨rfl, rfl⟩
set_option maxHeartbeats 2000000 in
set_option maxRecDepth 100000 in
theorem at_miss_old {ok : Nat → Prop} {pA : Nat} {sv fv : Value} {lv : Nat → Lv} {ρ : Nat → Nat} {a : Ar} (r : Int) (w : World) (h : ArenaAt ok pA sv fv lv ρ a w) (i : Nat) (s : Sl) (hp : placeOf r = (i : Int)) (hi : a.slots[i]? = some s) (hu : s.used = true) (r1 : Int) (hr : refOf i s.count = r1) (hne : r1 ≠ r) (hl : a.slots.length < 1000000) :
    Calls Tryz.prog 82 #[.pointer (some ⟨pA, 0, none⟩), .int .i64 r] w fun e w' => e = .returned (.pointer none) ∧ w' = w.setCell ⟨pA, 4, none⟩ (.int .i64 (wrap64 (a.faults + 1))) := by
  obtain ⟨ad, cap, rfl⟩ := Kd.R_slice h.rows
  rw [rowsOf_length] at h
  obtain ⟨_, g, rfl, hg, hρ, hcc, hfz⟩ := h.cells hi
  have hil := (List.getElem?_eq_some_iff.1 hi).1
  have HP := Aside0.mk hp
  have c0 : w.cell? ⟨pA, 0, none⟩ = some (.slice (some ⟨g, 0, none⟩) a.slots.length cap) := (blk_cell h.box 0).trans rfl
  have c4 : w.cell? ⟨pA, 4, none⟩ = some (.int .i64 a.faults) := (blk_cell h.box 4).trans rfl
  have f4 := blk_frozen h.box 4
  have c9 : w.cell? ⟨g, i * 10 + 9, none⟩ = some (.bool true) := hcc 9 _ (by rw [← hu]; rfl)
  have c8 : w.cell? ⟨g, i * 10 + 8, none⟩ = some (.int .u32 s.count) := hcc 8 _ rfl
  have HR := Aside0.mk hr
  have heq : (r1 == r) = false := beq_false_of_ne hne
  have d1 : decide ((i : Int) ≥ 0) = true := decide_eq_true (by omega)
  have d1' : decide ((0 : Int) ≤ i) = true := decide_eq_true (by omega)
  have d2 : decide ((i : Int) < (a.slots.length : Int)) = true := decide_eq_true (by omega)
  have d2' : decide (i < a.slots.length) = true := decide_eq_true hil
  have b1 : (0 : Int) ≤ (i : Int) := by omega
  have b2 : (i : Int) < (a.slots.length : Int) := by omega
  clear h hp hcc hfz hi hu hr hne
  go_enter Tryz.func82, Tryz.ntmps82
  go_wp2_with (first | (go_at_call 110; refine (ref_place r _).mono ?_; rintro e w1 ⟨rfl, rfl⟩; rw [HP.out]) | (go_at_call 88; refine (ref_of i s.count _).mono ?_; rintro e w1 ⟨rfl, rfl⟩; rw [HR.out]))
  go_ret
  exact ⟨rfl, rfl⟩

/-- The place of a reference, if it is that node's. -/
def Ar.idx (a : Ar) (r : Int) : Option Nat :=
  if placeOf r < 0 then none
  else match a.slots[(placeOf r).toNat]? with
    | none => none
    | some s => if s.used = true then (if refOf (placeOf r) s.count = r then some (placeOf r).toNat else none) else none
def Ar.fault (a : Ar) : Ar := { a with faults := wrap64 (a.faults + 1) }
theorem Ar.idx_some {a : Ar} {r : Int} {i : Nat} (h : a.idx r = some i) : placeOf r = (i : Int) ∧ ∃ s, a.slots[i]? = some s ∧ s.used = true ∧ refOf i s.count = r := by
  unfold Ar.idx at h
  by_cases hn : placeOf r < 0
  · rw [if_pos hn] at h; cases h
  · rw [if_neg hn] at h
    cases hs : a.slots[(placeOf r).toNat]? with
    | none => rw [hs] at h; cases h
    | some s =>
      rw [hs] at h
      simp only at h
      by_cases hu : s.used = true
      · rw [if_pos hu] at h
        by_cases hr : refOf (placeOf r) s.count = r
        · rw [if_pos hr] at h
          injection h with h
          have hp : placeOf r = (i : Int) := by omega
          rw [hp] at hr
          rw [h] at hs
          exact ⟨hp, s, hs, hu, hr⟩
        · rw [if_neg hr] at h; cases h
      · rw [if_neg hu] at h; cases h

/-- at: the place, or nil and a fault. -/
structure AtPost (sv : Value) (pA : Nat) (a : Ar) (r : Int) (w : World) (e : Ending) (w1 : World) : Prop where
  hit : ∀ i, a.idx r = some i → ∃ g n cap, sv = .slice (some ⟨g, 0, none⟩) n cap ∧ e = .returned (.pointer (some ⟨g, i * 10, none⟩)) ∧ w1 = w
  miss : a.idx r = none → e = .returned (.pointer none) ∧ w1 = w.setCell ⟨pA, 4, none⟩ (.int .i64 (wrap64 (a.faults + 1)))

theorem at_calls {ok : Nat → Prop} {pA : Nat} {sv fv : Value} {lv : Nat → Lv} {ρ : Nat → Nat} {a : Ar} (r : Int) (w : World) (h : ArenaAt ok pA sv fv lv ρ a w) (hl : a.slots.length < 1000000) :
    Calls Tryz.prog 82 #[.pointer (some ⟨pA, 0, none⟩), .int .i64 r] w (AtPost sv pA a r w) := by
  cases hx : a.idx r with
  | some i =>
    obtain ⟨hp, s, hs, hu, hr⟩ := Ar.idx_some hx
    obtain ⟨ad, cap, rfl⟩ := Kd.R_slice h.rows
    obtain ⟨hn, g, rfl, _⟩ := h.cells hs
    refine (at_hit r i s w h hs hp hu hr hl).mono ?_
    rintro e w1 ⟨rfl, rfl⟩
    exact ⟨fun j hj => by rw [hx] at hj; injection hj with hj; subst hj; exact ⟨g, _, cap, rfl, rfl, rfl⟩, fun hj => by rw [hx] at hj; cases hj⟩
  | none =>
    have fin : ∀ {e w1}, (e = .returned (.pointer none) ∧ w1 = w.setCell ⟨pA, 4, none⟩ (.int .i64 (wrap64 (a.faults + 1)))) → AtPost sv pA a r w e w1 := fun hh => ⟨fun j hj => (by rw [hx] at hj; cases hj), fun _ => hh⟩
    unfold Ar.idx at hx
    by_cases hn : placeOf r < 0
    · exact (at_miss_neg r _ w h rfl hn hl).mono (fun e w1 hh => fin hh)
    · rw [if_neg hn] at hx
      cases hs : a.slots[(placeOf r).toNat]? with
      | none =>
        refine (at_miss_far r _ w h rfl (by omega) ?_ hl).mono (fun e w1 hh => fin hh)
        have := List.getElem?_eq_none_iff.1 hs
        omega
      | some s =>
        rw [hs] at hx
        simp only at hx
        have hp : placeOf r = ((placeOf r).toNat : Int) := by omega
        by_cases hu : s.used = true
        · rw [if_pos hu] at hx
          by_cases hr : refOf (placeOf r) s.count = r
          · rw [if_pos hr] at hx; cases hx
          · refine (at_miss_old r w h (placeOf r).toNat s hp hs hu _ rfl ?_ hl).mono (fun e w1 hh => fin hh)
            rw [← hp]
            exact hr
        · exact (at_miss_free r w h (placeOf r).toNat s hp hs (by simpa using hu) hl).mono (fun e w1 hh => fin hh)
end Go.Proofs.YthlmgbdknjilpaaGreat.Tower
namespace Go.Proofs.YthlmgbdknjilpaaGreat.Tower
open Go Go.RowKit Go.Proofs.YthlmgbdknjilpaaGreatW.PrintWords Go.Proofs.YthlmgbdknjilpaaGreatW.PrintLast Go.Proofs.YthlmgbdknjilpaaGreatW.PrintMore Go.Proofs.YthlmgbdknjilpaaGreat.Own
set_option linter.unusedVariables false
set_option linter.unusedSimpArgs false

/-- What a function of the arena's leaves: a number, the arena. -/
structure APost (ok : Nat → Prop) (pA : Nat) (v : Value) (a1 : Ar) (w : World) (e : Ending) (w1 : World) : Prop where
  val : e = .returned v
  ar : IsArena ok pA a1 w1
  moves : Moves ok ok w w1
theorem fault_is {ok : Nat → Prop} {pA : Nat} {sv fv : Value} {lv : Nat → Lv} {ρ : Nat → Nat} {a : Ar} {w : World} (h : ArenaAt ok pA sv fv lv ρ a w) : IsArena ok pA a.fault (w.setCell ⟨pA, 4, none⟩ (.int .i64 (wrap64 (a.faults + 1)))) ∧ Moves ok ok w (w.setCell ⟨pA, 4, none⟩ (.int .i64 (wrap64 (a.faults + 1)))) :=
  ⟨⟨sv, fv, lv, ρ, h.box_set 4 _ a.fault rfl rfl rfl⟩, (Moves.refl ok w).set (p := ⟨pA, 4, none⟩) (.inl h.own) _⟩

def Ar.way (a : Ar) (r i : Int) : Int × Ar :=
  match a.idx r with
  | none => (0, a.fault)
  | some j => match a.slots[j]? with
    | none => (0, a)
    | some s => (if i < 0 then 0 else if (s.ways.length : Int) ≤ i then 0 else s.ways.getD i.toNat 0, a)

set_option maxHeartbeats 2000000 in
set_option maxRecDepth 100000 in
theorem way_calls {ok : Nat → Prop} {pA : Nat} {a : Ar} (r i : Int) (w : World) (h : IsArena ok pA a w) (hl : a.slots.length < 1000000) :
    Calls Tryz.prog 44 #[.pointer (some ⟨pA, 0, none⟩), .int .i64 r, .int .i64 i] w (APost ok pA (.int .i64 (a.way r i).1) (a.way r i).2 w) := by
  obtain ⟨sv, fv, lv, ρ, h⟩ := h
  have HA := Aside0.mk (at_calls r w h hl)
  cases hx : a.idx r with
  | none =>
    have HF := Aside0.mk (fault_is h)
    have HX := Aside0.mk hx
    have e1 : a.way r i = (0, a.fault) := by simp [Ar.way, hx]
    rw [e1]
    clear h hx e1
    go_enter Tryz.func44, Tryz.ntmps44
    go_wp2_with (go_at_call 82; refine HA.out.mono ?_; rintro e w1 ⟨_, hm⟩; obtain ⟨rfl, rfl⟩ := hm HX.out; clear hm)
    go_ret
    exact ⟨rfl, HF.out.1, HF.out.2⟩
  | some j =>
    obtain ⟨hp, s, hs, hu, hr⟩ := Ar.idx_some hx
    obtain ⟨ad, cap, rfl⟩ := Kd.R_slice h.rows
    obtain ⟨hn, g, rfl, hg, hρ, hcc, hfz⟩ := h.cells hs
    have HX := Aside0.mk hx
    have HI := Aside0.mk h
    have hR := h.ways j s hs
    obtain ⟨Aw, cw, ew⟩ := Kd.R_slice hR
    have c5 : w.cell? ⟨g, j * 10 + 5, none⟩ = some (.slice Aw s.ways.length cw) := hcc 5 _ (by rw [← ew]; rfl)
    have e1 : a.way r i = (if i < 0 then 0 else if (s.ways.length : Int) ≤ i then 0 else s.ways.getD i.toNat 0, a) := by simp [Ar.way, hx, hs]
    rw [e1]
    rw [ew] at hR
    by_cases h0 : i < 0
    · rw [if_pos h0]
      have d1 : decide (i < 0) = true := decide_eq_true h0
      clear h hx hcc hfz hp hs hu hr e1 ew hR h0
      go_enter Tryz.func44, Tryz.ntmps44
      go_wp2_with (go_at_call 82; refine HA.out.mono ?_; rintro e w1 ⟨hm, _⟩; obtain ⟨g1, n1, cap1, e1, rfl, rfl⟩ := hm j HX.out; injection e1 with e1 _ _; injection e1 with e1; injection e1 with e1 _ _; subst e1; clear hm)
      go_ret
      exact ⟨rfl, ⟨_, _, _, _, HI.out⟩, Moves.refl _ _⟩
    · rw [if_neg h0]
      have d1 : decide (i < 0) = false := decide_eq_false h0
      by_cases h1 : (s.ways.length : Int) ≤ i
      · rw [if_pos h1]
        have d2 : decide (i ≥ (s.ways.length : Int)) = true := decide_eq_true h1
        have d2' : decide ((s.ways.length : Int) ≤ i) = true := decide_eq_true h1
        clear h hx hcc hfz hp hs hu hr e1 ew hR h0 h1
        go_enter Tryz.func44, Tryz.ntmps44
        go_wp2_with (go_at_call 82; refine HA.out.mono ?_; rintro e w1 ⟨hm, _⟩; obtain ⟨g1, n1, cap1, e1, rfl, rfl⟩ := hm j HX.out; injection e1 with e1 _ _; injection e1 with e1; injection e1 with e1 _ _; subst e1; clear hm)
        go_ret
        exact ⟨rfl, ⟨_, _, _, _, HI.out⟩, Moves.refl _ _⟩
      · rw [if_neg h1]
        have d2 : decide (i ≥ (s.ways.length : Int)) = false := decide_eq_false h1
        have d2' : decide ((s.ways.length : Int) ≤ i) = false := decide_eq_false h1
        have b1 : 0 ≤ i := by omega
        have b2 : i < (s.ways.length : Int) := by omega
        obtain ⟨gl, rfl, _, hcl⟩ := int_elem hR i b1 b2
        generalize s.ways.getD i.toNat 0 = v at hcl ⊢
        clear h hx hcc hfz hp hs hu hr e1 ew hR h0 h1
        go_enter Tryz.func44, Tryz.ntmps44
        go_wp2_with (go_at_call 82; refine HA.out.mono ?_; rintro e w1 ⟨hm, _⟩; obtain ⟨g1, n1, cap1, e1, rfl, rfl⟩ := hm j HX.out; injection e1 with e1 _ _; injection e1 with e1; injection e1 with e1 _ _; subst e1; clear hm)
        go_ret
        exact ⟨rfl, ⟨_, _, _, _, HI.out⟩, Moves.refl _ _⟩
end Go.Proofs.YthlmgbdknjilpaaGreat.Tower
namespace Go.Proofs.YthlmgbdknjilpaaGreat.Tower
open Go Go.RowKit Go.Proofs.YthlmgbdknjilpaaGreatW.PrintWords Go.Proofs.YthlmgbdknjilpaaGreatW.PrintLast Go.Proofs.YthlmgbdknjilpaaGreatW.PrintMore Go.Proofs.YthlmgbdknjilpaaGreat.Own
set_option linter.unusedVariables false
set_option linter.unusedSimpArgs false

theorem IsArena.step {ok : Nat → Prop} {pA : Nat} {a : Ar} {w w1 : World} (h : IsArena ok pA a w) (hs : w.heap.size ≤ w1.heap.size) (hm : ∀ k, ok k → k < w.heap.size → w1.heap[k]? = w.heap[k]?) : IsArena ok pA a w1 := by
  obtain ⟨sv, fv, lv, ρ, h⟩ := h
  exact ⟨sv, fv, lv, ρ, h.step hs hm⟩
theorem results_c {P : Program} {fn : Func} {p : Tmp} {ty : TypeId} (h : fn.results = #[.cell p ty]) (tmps : Array Value) (w : World) (g : Nat) (t : TypeId) (cs : Array Value) (fr : Nat × Nat) (d : TypeDesc)
    (hp : tmps.getD p undef = .pointer (some ⟨g, 0, none⟩)) (hg : w.heap[g]? = some (.cells cs t fr))
    (hu : P.underlying ty = some d) (hd : (match d with | .struct _ | .array _ _ => true | _ => false) = true) (hi : (P.info? ty).map (·.size) = some cs.size) :
    (results fn tmps).run P w = .ok (.agg cs) w := by
  have hp' : tmps[p]?.getD undef = .pointer (some ⟨g, 0, none⟩) := by simpa using hp
  simp [results, h, hp', asAddr, run_loadVar_row w g t ty cs fr d hg hu hd hi]
/-- Five stores into a box. -/
def set5 (w : World) (b : Nat) (v0 v1 v2 v3 v4 : Value) : World := ((((w.setCell ⟨b, 0, none⟩ v0).setCell ⟨b, 1, none⟩ v1).setCell ⟨b, 2, none⟩ v2).setCell ⟨b, 3, none⟩ v3).setCell ⟨b, 4, none⟩ v4
theorem set5_far (w : World) (b : Nat) (v0 v1 v2 v3 v4 : Value) (k : Nat) (hk : k ≠ b) : (set5 w b v0 v1 v2 v3 v4).heap[k]? = w.heap[k]? :=
  (Below.heap_setCell _ ⟨b, 4, none⟩ v4 k hk).trans ((Below.heap_setCell _ ⟨b, 3, none⟩ v3 k hk).trans ((Below.heap_setCell _ ⟨b, 2, none⟩ v2 k hk).trans ((Below.heap_setCell _ ⟨b, 1, none⟩ v1 k hk).trans (Below.heap_setCell _ ⟨b, 0, none⟩ v0 k hk))))
theorem set5_size (w : World) (b : Nat) (v0 v1 v2 v3 v4 : Value) : (set5 w b v0 v1 v2 v3 v4).heap.size = w.heap.size := by simp [set5, World.setCell]
theorem set5_box {w : World} {b t : Nat} {u0 u1 u2 u3 u4 : Value} (h : w.heap[b]? = some (.cells #[u0, u1, u2, u3, u4] t (0, 0))) (v0 v1 v2 v3 v4 : Value) : (set5 w b v0 v1 v2 v3 v4).heap[b]? = some (.cells #[v0, v1, v2, v3, v4] t (0, 0)) :=
  blk_set (blk_set (blk_set (blk_set (blk_set h 0 v0) 1 v1) 2 v2) 3 v3) 4 v4
theorem set5_moves {ok ok1 : Nat → Prop} {w0 w : World} (h : Moves ok ok1 w0 w) {b : Nat} (hb : w0.heap.size ≤ b) (v0 v1 v2 v3 v4 : Value) : Moves ok ok1 w0 (set5 w b v0 v1 v2 v3 v4) :=
  ((((h.set (p := ⟨b, 0, none⟩) (.inr hb) v0).set (p := ⟨b, 1, none⟩) (.inr hb) v1).set (p := ⟨b, 2, none⟩) (.inr hb) v2).set (p := ⟨b, 3, none⟩) (.inr hb) v3).set (p := ⟨b, 4, none⟩) (.inr hb) v4

def nd0 : Nd := ⟨false, false, [], [], []⟩
def Ar.look (a : Ar) (r : Int) : Nd × Ar :=
  match a.idx r with
  | none => (nd0, a.fault)
  | some j => match a.slots[j]? with
    | none => (nd0, a)
    | some s => (s.node, a)

/-- A node that is handed back: its rows are new since N. -/
structure NdNew (N : Nat) (n : Nd) (v : Value) (w : World) : Prop where
  out : ∃ p k y, v = .agg #[.bool n.inner, .bool n.tagged, p, k, y] ∧ kPair.R 31 w N (fun q => N ≤ q) p n.pairs ∧ (Kd.int .i64).R 2 w N (fun q => N ≤ q) k n.keys ∧ (Kd.int .i64).R 55 w N (fun q => N ≤ q) y n.ways
structure LookPost (ok : Nat → Prop) (pA : Nat) (n : Nd) (a1 : Ar) (w : World) (e : Ending) (w1 : World) : Prop where
  val : ∃ v, e = .returned v ∧ NdNew w.heap.size n v w1
  ar : IsArena ok pA a1 w1
  moves : Moves ok ok w w1

def TLook5 : Bool × List (List Nat × List Nat) := (true, [([], []), ([0], [0]), ([1], [1]), ([], []), ([3], [3]), ([4], [4]), ([5, 2], [5]), ([], []), ([7], [7]), ([8], [8]), ([9, 6], [9]), ([6, 10], [6, 10]), ([0, 1, 2, 3, 4, 5, 7, 8, 9], []), ([12, 2, 10, 0, 1, 2, 3, 4, 5, 7, 8, 9], [2, 12]), ([0, 1, 2, 3, 4, 5, 6, 7, 8, 9, 10, 11, 12, 13], []), ([14, 11, 13, 0, 1, 2, 3, 4, 5, 6, 7, 8, 9, 10, 11, 12, 13], [11, 14])])
def BLook5 : List Nat := [0, 1, 3, 0, 8, 24, 63, 0, 128, 384, 1023, 2047, 959, 6143, 16383, 32767]
theorem tabLook5 : rtab .any (opsOf Tryz.f81 5) = TLook5 := by kernel_rfl
theorem bitsLook5 : waitsOk TLook5.2 BLook5 = true := by kernel_rfl
set_option maxHeartbeats 2000000 in
set_option maxRecDepth 100000 in
theorem look_miss {ok : Nat → Prop} {pA : Nat} {a : Ar} (r : Int) (w : World) (h : IsArena ok pA a w) (hl : a.slots.length < 1000000) (hx : a.idx r = none) :
    Calls Tryz.prog 81 #[.pointer (some ⟨pA, 0, none⟩), .int .i64 r] w (LookPost ok pA nd0 a.fault w) := by
  obtain ⟨sv, fv, lv, ρ, h⟩ := h
  have h1 := h.step (w1 := w.alloc (.cells #[.bool false, .bool false, .slice none 0 0, .slice none 0 0, .slice none 0 0] 119)) (by simp) (fun k _ hlt => Below.heap_alloc _ _ _ hlt)
  have HA := Aside0.mk (at_calls r _ h1 hl)
  have HF := Aside0.mk (fault_is h1)
  have HX := Aside0.mk hx
  have hB := Aside0.mk (blk_far (blk_new w (.cells #[.bool false, .bool false, .slice none 0 0, .slice none 0 0, .slice none 0 0] 119)) (p := ⟨pA, 4, none⟩) (Nat.ne_of_gt (h.lt pA h.own)) (.int .i64 (wrap64 (a.faults + 1))))
  have HM := Aside0.mk ((Moves.refl ok w).alloc (.cells #[.bool false, .bool false, .slice none 0 0, .slice none 0 0, .slice none 0 0] 119))
  have HN : Aside0 (¬ ok w.heap.size) := ⟨fun hk => by have := h.lt _ hk; omega⟩
  clear h hx h1
  go_enter Tryz.func81, Tryz.ntmps81
  go_upto_region 1 with fail
  generalize hW : w.alloc (.cells #[.bool false, .bool false, .slice none 0 0, .slice none 0 0, .slice none 0 0] 119) = w1 at HA HF hB HM ⊢
  go_upto_region 3 with (go_at_call 82; refine HA.out.mono ?_; rintro e w2 ⟨_, hm⟩; obtain ⟨rfl, rfl⟩ := hm HX.out; clear hm)
  have HSZ : Aside0 (w.heap.size ≤ w1.heap.size) := ⟨HM.out.size⟩
  have HM2 := Aside0.mk (HM.out.trans HF.out.2)
  have HI2 := Aside0.mk HF.out.1
  have k0 := (blk_cell hB.out 0).trans (rfl : _ = some (Value.bool false))
  have k1 := (blk_cell hB.out 1).trans (rfl : _ = some (Value.bool false))
  have k2 := (blk_cell hB.out 2).trans (rfl : _ = some (Value.slice none 0 0))
  have k3 := (blk_cell hB.out 3).trans (rfl : _ = some (Value.slice none 0 0))
  have k4 := (blk_cell hB.out 4).trans (rfl : _ = some (Value.slice none 0 0))
  have z0 := blk_frozen hB.out 0
  have z1 := blk_frozen hB.out 1
  have z2 := blk_frozen hB.out 2
  have z3 := blk_frozen hB.out 3
  have z4 := blk_frozen hB.out 4
  clear HF HM hW
  generalize w1.setCell ⟨pA, 4, none⟩ (.int .i64 (wrap64 (a.faults + 1))) = w2 at hB HM2 HI2 k0 k1 k2 k3 k4 z0 z1 z2 z3 z4 ⊢
  go_wp2_with fail
  show bodyPost _ _ _ _ _ (set5 w2 w.heap.size (.bool false) (.bool false) (.slice none 0 0) (.slice none 0 0) (.slice none 0 0))
  refine bodyPost_ret (results_c rfl _ _ w.heap.size 119 _ (0, 0) _ rfl (set5_box hB.out _ _ _ _ _) Tryz.underlying119 rfl (by kernel_rfl)) rfl ?_
  refine ⟨⟨_, rfl, ⟨_, _, _, rfl, Kd.R_nil _ _ _ _ _, Kd.R_nil _ _ _ _ _, Kd.R_nil _ _ _ _ _⟩⟩, HI2.out.step (by rw [set5_size]; exact Nat.le_refl _) (fun k hk _ => set5_far _ _ _ _ _ _ _ k (fun e => HN.out (e ▸ hk))), set5_moves HM2.out (Nat.le_refl _) _ _ _ _ _⟩

set_option maxHeartbeats 2000000 in
set_option maxRecDepth 100000 in
theorem look_hit {ok : Nat → Prop} {pA : Nat} {a : Ar} (r : Int) (j : Nat) (s : Sl) (w : World) (h : IsArena ok pA a w) (hl : a.slots.length < 1000000) (hx : a.idx r = some j) (hs : a.slots[j]? = some s)
    (hp : s.node.pairs.length < 1000000) (hk : s.node.keys.length < 1000000) (hy : s.node.ways.length < 1000000) :
    Calls Tryz.prog 81 #[.pointer (some ⟨pA, 0, none⟩), .int .i64 r] w (LookPost ok pA s.node a w) := by
  obtain ⟨sv, fv, lv, ρ, h⟩ := h
  have h1 := h.step (w1 := w.alloc (.cells #[.bool false, .bool false, .slice none 0 0, .slice none 0 0, .slice none 0 0] 119)) (by simp) (fun k _ hlt => Below.heap_alloc _ _ _ hlt)
  have HA := Aside0.mk (at_calls r _ h1 hl)
  have HX := Aside0.mk hx
  have HL := Aside0.mk h.lt
  have HI := Aside0.mk h1
  have hB := Aside0.mk (blk_new w (.cells #[.bool false, .bool false, .slice none 0 0, .slice none 0 0, .slice none 0 0] 119))
  have HM := Aside0.mk ((Moves.refl ok w).alloc (.cells #[.bool false, .bool false, .slice none 0 0, .slice none 0 0, .slice none 0 0] 119))
  have HN : Aside0 (¬ ok w.heap.size) := ⟨fun hk => by have := h.lt _ hk; omega⟩
  obtain ⟨⟨Ap, cp, ep, hcp, hfp⟩, ⟨Ak, ck, ek, hck, hfk⟩, ⟨Ay, cy, ey, hcy, hfy⟩⟩ := h1.node j s hs
  obtain ⟨ad, cap, rfl⟩ := Kd.R_slice h1.rows
  obtain ⟨hn, g, rfl, hg, hρ, hcc, hfz⟩ := h1.cells hs
  have q0 := hcc 0 _ rfl
  have q1 := hcc 1 _ rfl
  have q2 := hcc 2 _ rfl
  have q3 := hcc 3 _ rfl
  have q4 := hcc 4 _ rfl
  rw [ep] at q2
  rw [ek] at q3
  rw [ey] at q4
  rw [Nat.add_zero] at q0
  have HFp := Aside0.mk hfp
  have HFk := Aside0.mk hfk
  have HFy := Aside0.mk hfy
  clear h h1 hx hcc hfz hs hfp hfk hfy
  go_enter Tryz.func81, Tryz.ntmps81
  go_upto_region 1 with fail
  generalize w.alloc (.cells #[.bool false, .bool false, .slice none 0 0, .slice none 0 0, .slice none 0 0] 119) = w1 at HA HI hB HM HFp HFk HFy q0 q1 q2 q3 q4 ⊢
  go_upto_region 5 with (go_at_call 82; refine HA.out.mono ?_; rintro e w2 ⟨hm, _⟩; obtain ⟨g1, n1, cap1, e1, rfl, rfl⟩ := hm j HX.out; injection e1 with e1 _ _; injection e1 with e1; injection e1 with e1 _ _; subst e1; clear hm)
  have n0_ := Aside0.mk (HI.out.step (w1 := w2.alloc (.cells #[.bool s.node.inner, .bool s.node.tagged, .slice Ap s.node.pairs.length cp, .slice Ak s.node.keys.length ck, .slice Ay s.node.ways.length cy] 119)) (by simp) (fun k _ hlt => Below.heap_alloc _ _ _ hlt))
  have n1_ := Aside0.mk (blk_alloc hB.out (.cells #[.bool s.node.inner, .bool s.node.tagged, .slice Ap s.node.pairs.length cp, .slice Ak s.node.keys.length ck, .slice Ay s.node.ways.length cy] 119))
  have n2_ := Aside0.mk (HM.out.alloc (.cells #[.bool s.node.inner, .bool s.node.tagged, .slice Ap s.node.pairs.length cp, .slice Ak s.node.keys.length ck, .slice Ay s.node.ways.length cy] 119))
  have n3_ := Aside0.mk (Kd.F_alloc HFp.out (.cells #[.bool s.node.inner, .bool s.node.tagged, .slice Ap s.node.pairs.length cp, .slice Ak s.node.keys.length ck, .slice Ay s.node.ways.length cy] 119))
  have n4_ := Aside0.mk (Kd.F_alloc HFk.out (.cells #[.bool s.node.inner, .bool s.node.tagged, .slice Ap s.node.pairs.length cp, .slice Ak s.node.keys.length ck, .slice Ay s.node.ways.length cy] 119))
  have n5_ := Aside0.mk (Kd.F_alloc HFy.out (.cells #[.bool s.node.inner, .bool s.node.tagged, .slice Ap s.node.pairs.length cp, .slice Ak s.node.keys.length ck, .slice Ay s.node.ways.length cy] 119))
  have n6_ := Aside0.mk (blk_new w2 (.cells #[.bool s.node.inner, .bool s.node.tagged, .slice Ap s.node.pairs.length cp, .slice Ak s.node.keys.length ck, .slice Ay s.node.ways.length cy] 119))
  have hb6 : Aside0 (w.heap.size < w2.heap.size) := ⟨blk_lt hB.out⟩
  clear HI hB HM HFp HFk HFy q0 q1 q2 q3 q4 HA
  generalize w2.alloc (.cells #[.bool s.node.inner, .bool s.node.tagged, .slice Ap s.node.pairs.length cp, .slice Ak s.node.keys.length ck, .slice Ay s.node.ways.length cy] 119) = w3 at n0_ n1_ n2_ n3_ n4_ n5_ n6_ ⊢
  generalize w2.heap.size = b6 at n6_ hb6 ⊢
  refine start_ (n := 16) (S := fun w' => w'.cell? ⟨b6, 2, none⟩ = some (.slice Ap s.node.pairs.length cp) ∧ w'.cell? ⟨b6, 3, none⟩ = some (.slice Ak s.node.keys.length ck) ∧ w'.cell? ⟨b6, 4, none⟩ = some (.slice Ay s.node.ways.length cy)) (ds := [13, 15]) #[false, false, false, false, false, false, false, false, false, false, false, false, false, false, false, false] (by kernel_rfl) rfl rfl ⟨(blk_cell n6_.out 2).trans rfl, (blk_cell n6_.out 3).trans rfl, (blk_cell n6_.out 4).trans rfl⟩ (fun hHeld => ?_); refine with_tabW tabLook5 bitsLook5 (fun HT_ HW_ => ?_)
  have n0_ := Aside0.mk (n0_.out.step (w1 := w3.drew) (Nat.le_refl _) (fun _ _ _ => rfl))
  have n2_ := Aside0.mk n2_.out.drew
  have n3_ := Aside0.mk (Kd.F_drew n3_.out)
  have n4_ := Aside0.mk (Kd.F_drew n4_.out)
  have n5_ := Aside0.mk (Kd.F_drew n5_.out)
  have n1_ := Aside0.mk (blk_drew n1_.out)
  have n6_ := Aside0.mk (blk_drew n6_.out)
  generalize World.drew _ = w3 at n0_ n1_ n2_ n3_ n4_ n5_ n6_ hHeld ⊢
  refine pure_ (i := 0) (N := (some 17)) (v := ?_) (a' := ?_) #[true, false, false, false, false, false, false, false, false, false, false, false, false, false, false, false] rfl rfl (any_of HT_.out (by kernel_rfl)) (fun _ _ _ h => h) (Or.inl ⟨by rfl, ?_⟩) ?_ ?_
  rotate_left
  · intro w'
    go_simp
    with_reducible rfl
  rotate_left
  · simp only [Act.put, List.setIfInBounds_toArray, List.set_cons_zero, List.set_cons_succ, i64_w, i32_w]
    rfl
  refine take_ (i := 1) (N := (some 18)) (v := ?_) (a' := ?_) #[true, true, false, false, false, false, false, false, false, false, false, false, false, false, false, false] rfl rfl (take_ofW HT_.out HW_.out (by kernel_rfl)) (fun _ _ _ h => h) (Or.inl ⟨by rfl, ?_⟩) hHeld ?_ ?_
  rotate_left
  · rintro w' ⟨s0, s1, s2⟩
    go_simp
    with_reducible rfl
  rotate_left
  · simp only [Act.put, List.setIfInBounds_toArray, List.set_cons_zero, List.set_cons_succ, i64_w, i32_w]
    rfl
  refine pure_ (i := 3) (N := (some 20)) (v := ?_) (a' := ?_) #[true, true, false, true, false, false, false, false, false, false, false, false, false, false, false, false] rfl rfl (any_of HT_.out (by kernel_rfl)) (fun _ _ _ h => h) (Or.inl ⟨by rfl, ?_⟩) ?_ ?_
  rotate_left
  · intro w'
    go_simp
    with_reducible rfl
  rotate_left
  · simp only [Act.put, List.setIfInBounds_toArray, List.set_cons_zero, List.set_cons_succ, i64_w, i32_w]
    rfl
  refine pure_ (i := 4) (N := (some 21)) (v := ?_) (a' := ?_) #[true, true, false, true, true, false, false, false, false, false, false, false, false, false, false, false] rfl rfl (any_of HT_.out (by kernel_rfl)) (fun _ _ _ h => h) (Or.inl ⟨by rfl, ?_⟩) ?_ ?_
  rotate_left
  · intro w'
    go_simp
    with_reducible rfl
  rotate_left
  · simp only [Act.put, List.setIfInBounds_toArray, List.set_cons_zero, List.set_cons_succ, i64_w, i32_w]
    rfl
  refine take_ (i := 5) (N := (some 22)) (v := ?_) (a' := ?_) #[true, true, false, true, true, true, false, false, false, false, false, false, false, false, false, false] rfl rfl (take_ofW HT_.out HW_.out (by kernel_rfl)) (fun _ _ _ h => h) (Or.inl ⟨by rfl, ?_⟩) hHeld ?_ ?_
  rotate_left
  · rintro w' ⟨s0, s1, s2⟩
    go_simp
    with_reducible rfl
  rotate_left
  · simp only [Act.put, List.setIfInBounds_toArray, List.set_cons_zero, List.set_cons_succ, i64_w, i32_w]
    rfl
  refine pure_ (i := 7) (N := (some 24)) (v := ?_) (a' := ?_) #[true, true, false, true, true, true, false, true, false, false, false, false, false, false, false, false] rfl rfl (any_of HT_.out (by kernel_rfl)) (fun _ _ _ h => h) (Or.inl ⟨by rfl, ?_⟩) ?_ ?_
  rotate_left
  · intro w'
    go_simp
    with_reducible rfl
  rotate_left
  · simp only [Act.put, List.setIfInBounds_toArray, List.set_cons_zero, List.set_cons_succ, i64_w, i32_w]
    rfl
  refine pure_ (i := 8) (N := (some 25)) (v := ?_) (a' := ?_) #[true, true, false, true, true, true, false, true, true, false, false, false, false, false, false, false] rfl rfl (any_of HT_.out (by kernel_rfl)) (fun _ _ _ h => h) (Or.inl ⟨by rfl, ?_⟩) ?_ ?_
  rotate_left
  · intro w'
    go_simp
    with_reducible rfl
  rotate_left
  · simp only [Act.put, List.setIfInBounds_toArray, List.set_cons_zero, List.set_cons_succ, i64_w, i32_w]
    rfl
  refine take_ (i := 9) (N := (some 26)) (v := ?_) (a' := ?_) #[true, true, false, true, true, true, false, true, true, true, false, false, false, false, false, false] rfl rfl (take_ofW HT_.out HW_.out (by kernel_rfl)) (fun _ _ _ h => h) (Or.inl ⟨by rfl, ?_⟩) hHeld ?_ ?_
  rotate_left
  · rintro w' ⟨s0, s1, s2⟩
    go_simp
    with_reducible rfl
  rotate_left
  · simp only [Act.put, List.setIfInBounds_toArray, List.set_cons_zero, List.set_cons_succ, i64_w, i32_w]
    rfl
  refine one_ (i := 2) (N := (some 19)) #[true, true, true, true, true, true, false, true, true, true, false, false, false, false, false, false] rfl rfl (one_of HT_.out (by kernel_rfl)) (by decide) (fun K_ hK => ?_)
  refine call_ 85 #[.slice Ap s.node.pairs.length cp] (by rfl) rfl ?hrun2 ?_
  (case hrun2 => first | (go_simp; done) | (go_simp; exact enters Tryz.func85 (by kernel_rfl) rfl _ _))
  refine (clone_pairs Ap s.node.pairs.length cp s.node.pairs _ (Kd.F_now n3_.out) hp).mono ?_
  rintro e w4 ⟨v4, rfl, hR4, hB4⟩
  obtain ⟨A4, cc4, rfl⟩ := Kd.R_slice hR4
  have mr_ := Aside0.mk hR4
  have mb_ := Aside0.mk hB4
  have m6_ := Aside0.mk (blk_below n6_.out hB4)
  have m4_ := Aside0.mk (Kd.F_below n4_.out hB4)
  have m5_ := Aside0.mk (Kd.F_below n5_.out hB4)
  clear hR4 hB4
  refine ⟨_, rfl, ?_⟩
  refine hK.out _ _ ⟨(blk_cell m6_.out 2).trans rfl, (blk_cell m6_.out 3).trans rfl, (blk_cell m6_.out 4).trans rfl⟩ (fun hHeld => ?_)
  clear hK K_
  refine norm_ (a' := ?_) ?_ ?_
  rotate_left
  · show Act.put _ (some 19) _ = _
    simp only [Act.put, List.setIfInBounds_toArray, List.set_cons_zero, List.set_cons_succ, i64_w, i32_w]
    rfl
  refine pure_ (i := 12) (N := (some 29)) (v := ?_) (a' := ?_) #[true, true, true, true, true, true, false, true, true, true, false, false, true, false, false, false] rfl rfl (any_of HT_.out (by kernel_rfl)) (fun _ _ _ h => h) (Or.inl ⟨by rfl, ?_⟩) ?_ ?_
  rotate_left
  · intro w'
    go_simp
    with_reducible rfl
  rotate_left
  · simp only [Act.put, List.setIfInBounds_toArray, List.set_cons_zero, List.set_cons_succ, i64_w, i32_w]
    rfl
  refine one_ (i := 6) (N := (some 23)) #[true, true, true, true, true, true, true, true, true, true, false, false, true, false, false, false] rfl rfl (one_of HT_.out (by kernel_rfl)) (by decide) (fun K_ hK => ?_)
  refine call_ 86 #[.slice Ak s.node.keys.length ck] (by rfl) rfl ?hrun6 ?_
  (case hrun6 => first | (go_simp; done) | (go_simp; exact enters Tryz.func86 (by kernel_rfl) rfl _ _))
  refine (clone_keys Ak s.node.keys.length ck s.node.keys _ (Kd.F_now m4_.out) hk).mono ?_
  rintro e w5 ⟨v5, rfl, hR5, hB5⟩
  obtain ⟨A5, cc5, rfl⟩ := Kd.R_slice hR5
  have jr_ := Aside0.mk hR5
  have jb_ := Aside0.mk hB5
  have j6_ := Aside0.mk (blk_below m6_.out hB5)
  have j5_ := Aside0.mk (Kd.F_below m5_.out hB5)
  clear hR5 hB5
  refine ⟨_, rfl, ?_⟩
  refine hK.out _ _ ⟨(blk_cell j6_.out 2).trans rfl, (blk_cell j6_.out 3).trans rfl, (blk_cell j6_.out 4).trans rfl⟩ (fun hHeld => ?_)
  clear hK K_
  refine norm_ (a' := ?_) ?_ ?_
  rotate_left
  · show Act.put _ (some 23) _ = _
    simp only [Act.put, List.setIfInBounds_toArray, List.set_cons_zero, List.set_cons_succ, i64_w, i32_w]
    rfl
  refine one_ (i := 10) (N := (some 27)) #[true, true, true, true, true, true, true, true, true, true, true, false, true, false, false, false] rfl rfl (one_of HT_.out (by kernel_rfl)) (by decide) (fun K_ hK => ?_)
  refine call_ 87 #[.slice Ay s.node.ways.length cy] (by rfl) rfl ?hrun10 ?_
  (case hrun10 => first | (go_simp; done) | (go_simp; exact enters Tryz.func87 (by kernel_rfl) rfl _ _))
  refine (clone_ways Ay s.node.ways.length cy s.node.ways _ (Kd.F_now j5_.out) hy).mono ?_
  rintro e w6 ⟨v6, rfl, hR6, hB6⟩
  obtain ⟨A6, cc6, rfl⟩ := Kd.R_slice hR6
  have ir_ := Aside0.mk hR6
  have ib_ := Aside0.mk hB6
  have i6_ := Aside0.mk (blk_below j6_.out hB6)
  clear hR6 hB6
  refine ⟨_, rfl, ?_⟩
  refine hK.out _ _ ⟨(blk_cell i6_.out 2).trans rfl, (blk_cell i6_.out 3).trans rfl, (blk_cell i6_.out 4).trans rfl⟩ (fun hHeld => ?_)
  clear hK K_
  refine norm_ (a' := ?_) ?_ ?_
  rotate_left
  · show Act.put _ (some 27) _ = _
    simp only [Act.put, List.setIfInBounds_toArray, List.set_cons_zero, List.set_cons_succ, i64_w, i32_w]
    rfl
  refine pure_ (i := 11) (N := (some 28)) (v := ?_) (a' := ?_) #[true, true, true, true, true, true, true, true, true, true, true, true, true, false, false, false] rfl rfl (any_of HT_.out (by kernel_rfl)) (fun _ _ _ h => h) (Or.inl ⟨by rfl, ?_⟩) ?_ ?_
  rotate_left
  · intro w'
    go_simp
    with_reducible rfl
  rotate_left
  · simp only [Act.put, List.setIfInBounds_toArray, List.set_cons_zero, List.set_cons_succ, i64_w, i32_w]
    rfl
  have z2 := blk_frozen i6_.out 2
  have z3 := blk_frozen i6_.out 3
  have z4 := blk_frozen i6_.out 4
  refine last_ (i := 13) (N := none) #[true, true, true, true, true, true, true, true, true, true, true, true, true, true, false, false] rfl rfl (one_of HT_.out (by kernel_rfl)) (by decide) (fun K_ hK => ?_)
  refine skip_ (w1 := ?_) (by rfl) rfl ?_ ?_
  rotate_left
  · go_simp
    rfl
  refine hK.out _ _ ?_
  clear hK K_
  refine pure_ (i := 14) (N := (some 30)) (v := ?_) (a' := ?_) #[true, true, true, true, true, true, true, true, true, true, true, true, true, true, true, false] rfl rfl (any_of HT_.out (by kernel_rfl)) (fun _ _ _ h => h) (Or.inl ⟨by rfl, ?_⟩) ?_ ?_
  rotate_left
  · intro w'
    go_simp
    with_reducible rfl
  rotate_left
  · simp only [Act.put, List.setIfInBounds_toArray, List.set_cons_zero, List.set_cons_succ, i64_w, i32_w]
    rfl
  refine last_ (i := 15) (N := none) #[true, true, true, true, true, true, true, true, true, true, true, true, true, true, true, true] rfl rfl (one_of HT_.out (by kernel_rfl)) (by decide) (fun K_ hK => ?_)
  refine skip_ (w1 := ?_) (by rfl) rfl ?_ ?_
  rotate_left
  · go_simp
    rfl
  refine hK.out _ _ ?_
  clear hK K_
  refine done_ (done_of HT_.out (by kernel_rfl)) ?_
  have hOB : Aside0 (∀ k, ok k → k ≠ w.heap.size ∧ k ≠ b6) := ⟨fun k hk => by have := HL.out k hk; have := hb6.out; omega⟩
  have B36 := below_then (below_then mb_.out mb_.out.size jb_.out) (below_then mb_.out mb_.out.size jb_.out).size ib_.out
  have a6_ := n0_.out.step (w1 := w6) B36.size (fun k _ hlt => B36.block k hlt)
  have a7_ := Aside0.mk (a6_.step (w1 := ((w6.setCell ⟨b6, 2, none⟩ (.slice A4 s.node.pairs.length cc4)).setCell ⟨b6, 3, none⟩ (.slice A5 s.node.keys.length cc5)).setCell ⟨b6, 4, none⟩ (.slice A6 s.node.ways.length cc6)) (by simp [World.setCell]) (fun k hk _ => (Below.heap_setCell _ ⟨b6, 4, none⟩ _ k (hOB.out k hk).2).trans ((Below.heap_setCell _ ⟨b6, 3, none⟩ _ k (hOB.out k hk).2).trans (Below.heap_setCell _ ⟨b6, 2, none⟩ _ k (hOB.out k hk).2))))
  have x7_ := Aside0.mk (blk_set (blk_set (blk_set i6_.out 2 (.slice A4 s.node.pairs.length cc4)) 3 (.slice A5 s.node.keys.length cc5)) 4 (.slice A6 s.node.ways.length cc6))
  have hbn : w.heap.size ≠ b6 := by have := hb6.out; omega
  have y7_ := Aside0.mk (blk_far (blk_far (blk_far (blk_below n1_.out B36) (p := ⟨b6, 2, none⟩) hbn (.slice A4 s.node.pairs.length cc4)) (p := ⟨b6, 3, none⟩) hbn (.slice A5 s.node.keys.length cc5)) (p := ⟨b6, 4, none⟩) hbn (.slice A6 s.node.ways.length cc6))
  have hbw : w.heap.size ≤ b6 := by have := hb6.out; omega
  have m7_ := Aside0.mk ((((n2_.out.below B36).set (p := ⟨b6, 2, none⟩) (.inr hbw) (.slice A4 s.node.pairs.length cc4)).set (p := ⟨b6, 3, none⟩) (.inr hbw) (.slice A5 s.node.keys.length cc5)).set (p := ⟨b6, 4, none⟩) (.inr hbw) (.slice A6 s.node.ways.length cc6))
  have hlt3 : b6 < w3.heap.size := blk_lt n6_.out
  have hn3 : w.heap.size ≤ w3.heap.size := by omega
  have hq : ∀ N, w3.heap.size ≤ N → ∀ q, N ≤ q → q ≠ b6 := fun N h1 q h2 => by omega
  have p7_ := Aside0.mk (Kd.R_far (Kd.R_far (Kd.R_far (Kd.R_below (Kd.R_below mr_.out jb_.out) ib_.out) (p := ⟨b6, 2, none⟩) (hq _ (Nat.le_refl _)) (.slice A4 s.node.pairs.length cc4)) (p := ⟨b6, 3, none⟩) (hq _ (Nat.le_refl _)) (.slice A5 s.node.keys.length cc5)) (p := ⟨b6, 4, none⟩) (hq _ (Nat.le_refl _)) (.slice A6 s.node.ways.length cc6))
  have k7_ := Aside0.mk (Kd.R_far (Kd.R_far (Kd.R_far (Kd.R_below jr_.out ib_.out) (p := ⟨b6, 2, none⟩) (hq _ mb_.out.size) (.slice A4 s.node.pairs.length cc4)) (p := ⟨b6, 3, none⟩) (hq _ mb_.out.size) (.slice A5 s.node.keys.length cc5)) (p := ⟨b6, 4, none⟩) (hq _ mb_.out.size) (.slice A6 s.node.ways.length cc6))
  have v7_ := Aside0.mk (Kd.R_far (Kd.R_far (Kd.R_far ir_.out (p := ⟨b6, 2, none⟩) (hq _ (Nat.le_trans mb_.out.size jb_.out.size)) (.slice A4 s.node.pairs.length cc4)) (p := ⟨b6, 3, none⟩) (hq _ (Nat.le_trans mb_.out.size jb_.out.size)) (.slice A5 s.node.keys.length cc5)) (p := ⟨b6, 4, none⟩) (hq _ (Nat.le_trans mb_.out.size jb_.out.size)) (.slice A6 s.node.ways.length cc6))
  have hs4 : w.heap.size < w4.heap.size := Nat.lt_of_lt_of_le (Nat.lt_of_lt_of_le hb6.out (Nat.le_of_lt hlt3)) mb_.out.size
  have hs5 : w.heap.size < w5.heap.size := Nat.lt_of_lt_of_le hs4 jb_.out.size
  have hs3 : w.heap.size < w3.heap.size := by omega
  have g3 := Aside0.mk hs3
  have g4 := Aside0.mk hs4
  have g5 := Aside0.mk hs5
  clear hs3 hs4 hs5 hq hn3 hlt3 hbw hbn B36 a6_ hHeld z2 z3 z4
  generalize ((w6.setCell ⟨b6, 2, none⟩ (.slice A4 s.node.pairs.length cc4)).setCell ⟨b6, 3, none⟩ (.slice A5 s.node.keys.length cc5)).setCell ⟨b6, 4, none⟩ (.slice A6 s.node.ways.length cc6) = w7 at a7_ x7_ y7_ m7_ p7_ k7_ v7_ ⊢
  have k0 := (blk_cell x7_.out 0).trans (rfl : _ = some (Value.bool s.node.inner))
  have k1 := (blk_cell x7_.out 1).trans (rfl : _ = some (Value.bool s.node.tagged))
  have k2 := (blk_cell x7_.out 2).trans (rfl : _ = some (Value.slice A4 s.node.pairs.length cc4))
  have k3 := (blk_cell x7_.out 3).trans (rfl : _ = some (Value.slice A5 s.node.keys.length cc5))
  have k4 := (blk_cell x7_.out 4).trans (rfl : _ = some (Value.slice A6 s.node.ways.length cc6))
  have o0 := (blk_cell y7_.out 0).trans (rfl : _ = some (Value.bool false))
  have o1 := (blk_cell y7_.out 1).trans (rfl : _ = some (Value.bool false))
  have o2 := (blk_cell y7_.out 2).trans (rfl : _ = some (Value.slice none 0 0))
  have o3 := (blk_cell y7_.out 3).trans (rfl : _ = some (Value.slice none 0 0))
  have o4 := (blk_cell y7_.out 4).trans (rfl : _ = some (Value.slice none 0 0))
  have z0 := blk_frozen y7_.out 0
  have z1 := blk_frozen y7_.out 1
  have z2 := blk_frozen y7_.out 2
  have z3 := blk_frozen y7_.out 3
  have z4 := blk_frozen y7_.out 4
  go_wp2_with fail
  show bodyPost _ _ _ _ _ (set5 w7 w.heap.size (.bool s.node.inner) (.bool s.node.tagged) (.slice A4 s.node.pairs.length cc4) (.slice A5 s.node.keys.length cc5) (.slice A6 s.node.ways.length cc6))
  refine bodyPost_ret (results_c rfl _ _ w.heap.size 119 _ (0, 0) _ rfl (set5_box y7_.out _ _ _ _ _) Tryz.underlying119 rfl (by kernel_rfl)) rfl ?_
  refine ⟨⟨_, rfl, ⟨_, _, _, rfl, ?_, ?_, ?_⟩⟩, ⟨_, _, _, _, a7_.out.step (by rw [set5_size]; exact Nat.le_refl _) (fun k hk _ => set5_far _ _ _ _ _ _ _ k (hOB.out k hk).1)⟩, set5_moves m7_.out (Nat.le_refl _) _ _ _ _ _⟩
  · exact Kd.R_mono (Kd.R_lower (Kd.R_step p7_.out (fun k hk _ => set5_far _ _ _ _ _ _ _ k (by have := g3.out; omega))) (Nat.le_of_lt g3.out)) (fun q hq => Nat.le_trans (Nat.le_of_lt g3.out) hq)
  · exact Kd.R_mono (Kd.R_lower (Kd.R_step k7_.out (fun k hk _ => set5_far _ _ _ _ _ _ _ k (by have := g4.out; omega))) (Nat.le_of_lt g4.out)) (fun q hq => Nat.le_trans (Nat.le_of_lt g4.out) hq)
  · exact Kd.R_mono (Kd.R_lower (Kd.R_step v7_.out (fun k hk _ => set5_far _ _ _ _ _ _ _ k (by have := g5.out; omega))) (Nat.le_of_lt g5.out)) (fun q hq => Nat.le_trans (Nat.le_of_lt g5.out) hq)

/-- What is in the arena is small. -/
structure Ar.Fits (a : Ar) : Prop where
  slots : a.slots.length < 1000000
  node : ∀ (i : Nat) (s : Sl), a.slots[i]? = some s → s.node.pairs.length < 1000000 ∧ s.node.keys.length < 1000000 ∧ s.node.ways.length < 1000000 ∧ s.ways.length < 1000000
theorem look_calls {ok : Nat → Prop} {pA : Nat} {a : Ar} (r : Int) (w : World) (h : IsArena ok pA a w) (hf : a.Fits) :
    Calls Tryz.prog 81 #[.pointer (some ⟨pA, 0, none⟩), .int .i64 r] w (LookPost ok pA (a.look r).1 (a.look r).2 w) := by
  cases hx : a.idx r with
  | none =>
    have e1 : a.look r = (nd0, a.fault) := by simp [Ar.look, hx]
    rw [e1]
    exact look_miss r w h hf.slots hx
  | some j =>
    obtain ⟨hp, s, hs, hu, hr⟩ := Ar.idx_some hx
    have e1 : a.look r = (s.node, a) := by simp [Ar.look, hx, hs]
    rw [e1]
    obtain ⟨h1, h2, h3, _⟩ := hf.node j s hs
    exact look_hit r j s w h hf.slots hx hs h1 h2 h3
end Go.Proofs.YthlmgbdknjilpaaGreat.Tower
