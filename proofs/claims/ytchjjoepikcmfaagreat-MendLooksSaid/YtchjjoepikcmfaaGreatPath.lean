/- seek.Path, walked: its Lean twin over what is shared and the log. -/
import Derived.Test.YtchjjoepikcmfaaGreatSmall
import Derived.Test.YtchjjoepikcmfaaGreatNew
namespace Go.Proofs.YtchjjoepikcmfaaGreat.Tower
open Go Go.RowKit Go.Proofs.YtchjjoepikcmfaaGreatW.PrintWords Go.Proofs.YtchjjoepikcmfaaGreatW.PrintLast Go.Proofs.YtchjjoepikcmfaaGreatW.PrintMore Go.Proofs.YtchjjoepikcmfaaGreat.Own
set_option linter.unusedVariables false
set_option linter.unusedSimpArgs false

/-- The arena as the program keeps it. -/
structure Ar.Good (a : Ar) : Prop where
  most : a.most ≤ 65536
  slots : (a.slots.length : Int) ≤ a.most
  used : a.used + a.free.length = a.slots.length
  small : ∀ (i : Nat) (s : Sl), a.slots[i]? = some s → s.node.Small ∧ s.ways.length < 1000000
theorem Ar.Good.fits {a : Ar} (h : a.Good) : a.Fits := ⟨by have := h.most; have := h.slots; omega, fun i s hi => by
  obtain ⟨h1, h2⟩ := h.small i s hi
  exact ⟨h1.pairs, h1.keys, h1.ways, h2⟩⟩
theorem Ar.Good.fault {a : Ar} (h : a.Good) : a.fault.Good := ⟨h.most, h.slots, h.used, h.small⟩
theorem Ar.Good.look {a : Ar} (h : a.Good) (r : Int) : (a.look r).2.Good := by
  unfold Ar.look
  split
  · exact h.fault
  · split <;> exact h
theorem Ar.Good.look_small {a : Ar} (h : a.Good) (r : Int) : (a.look r).1.Small := by
  unfold Ar.look
  split
  · exact ⟨by simp [nd0], by simp [nd0], by simp [nd0]⟩
  · split
    · exact ⟨by simp [nd0], by simp [nd0], by simp [nd0]⟩
    · rename_i s hs
      exact (h.small _ s hs).1
theorem Ar.Good.way {a : Ar} (h : a.Good) (r i : Int) : (a.way r i).2.Good := by
  unfold Ar.way
  split
  · exact h.fault
  · split <;> exact h

/-- What threads share: the world, kept. -/
def shW (p : Nat) (x : Ws) (ok : Nat → Prop) (w : World) : Prop := IsWorld p x ok w ∧ x.ar.Good
theorem shW_shared (p : Nat) : Shared (shW p) where
  step := fun h hs hm => ⟨(worldShared p).step h.1 hs hm, h.2⟩
  lt := fun h => (worldShared p).lt h.1

/-- What is shared turns, outside of a touch. -/
theorem IsRun.direct {X : Type} {Sh : X → (Nat → Prop) → World → Prop} {tb : Nat} {work : Value} {ok : Nat → Prop} {s : TS X} {w : World} (h : IsRun Sh tb work ok s w) :
    ∃ okS, (∀ k, okS k → ok k) ∧ Sh s.sh okS w ∧ ∀ x1 okS1 w1, Sh x1 okS1 w1 → Moves okS okS1 w w1 → ∃ ok1, IsRun Sh tb work ok1 { s with sh := x1 } w1 ∧ Moves ok ok1 w w1 ∧ ∀ k, ok1 k → ok k ∨ okS1 k := by
  obtain ⟨okT, okS, h1, h2, h3, h4⟩ := h.out
  refine ⟨okS, fun k hk => (h1 k).2 (.inr hk), h4, fun x1 okS1 w1 hs hm => ⟨fun k => okT k ∨ okS1 k, ⟨h.le, h.short, okT, okS1, fun _ => Iff.rfl, fun k hk hk1 => ?_, ?_, hs⟩, ?_, fun k hk => hk.imp (fun h5 => (h1 k).2 (.inl h5)) id⟩⟩
  · exact (hm.fresh k hk1).elim (h2 k hk) (fun h5 => by have := h3.lt k hk; omega)
  · exact h3.step hm.size (fun k hk hlt => hm.block k hlt (fun h5 => h2 k hk h5))
  · exact ⟨hm.os, hm.tape, hm.output, hm.size, fun k hk hn => hm.block k hk (fun h5 => hn ((h1 k).2 (.inr h5))), fun k hk => hk.elim (fun h5 => .inl ((h1 k).2 (.inl h5))) (fun h5 => (hm.fresh k h5).imp (fun h6 => (h1 k).2 (.inr h6)) id)⟩

/-- A node, a step, as cells. -/
abbrev kNd : Kd Nd := Kd.iso (Kd.pair Kd.bool (Kd.pair Kd.bool (Kd.pair (Kd.slice 89 kPair) (Kd.pair (Kd.slice 2 (Kd.int .i64)) (Kd.slice 64 (Kd.int .i64)))))) (fun n => (n.inner, n.tagged, n.pairs, n.keys, n.ways))
structure Stp where
  ref : Int
  node : Nd
  way : Int
abbrev kStp : Kd Stp := Kd.iso (Kd.pair (Kd.int .i64) (Kd.pair kNd (Kd.int .i64))) (fun s => (s.ref, s.node, s.way))
theorem kNd_M {w : World} {base : Nat} {ok : Nat → Prop} {n : Nd} {p k y : Value} (hp : kPair.R 89 w base ok p n.pairs) (hk : (Kd.int .i64).R 2 w base ok k n.keys) (hy : (Kd.int .i64).R 64 w base ok y n.ways) : kNd.M w base ok n [.bool n.inner, .bool n.tagged, p, k, y] :=
  ⟨[.bool n.inner], [.bool n.tagged, p, k, y], rfl, rfl, [.bool n.tagged], [p, k, y], rfl, rfl, [p], [k, y], rfl, ⟨p, rfl, hp⟩, [k], [y], rfl, ⟨k, rfl, hk⟩, ⟨y, rfl, hy⟩⟩
theorem kStp_M {w : World} {base : Nat} {ok : Nat → Prop} {s : Stp} {cs : List Value} (h : kNd.M w base ok s.node cs) : kStp.M w base ok s (.int .i64 s.ref :: (cs ++ [.int .i64 s.way])) :=
  ⟨[.int .i64 s.ref], cs ++ [.int .i64 s.way], rfl, rfl, cs, [.int .i64 s.way], rfl, h, rfl⟩

def lookT (r : Int) : Pr Ws Nd := fun s => some (.ret (s.sh.ar.look r).1, { s with sh := { s.sh with ar := (s.sh.ar.look r).2 } })
def wayT (r i : Int) : Pr Ws Int := doT (fun x => ((x.ar.way r i).1, { x with ar := (x.ar.way r i).2 }))
def stpWay (n : Nd) (key : Int) : Int := if n.inner then wayOf n.keys n.ways.length key else 0
def pathT (key : Int) : Nat → Int → List Stp → Pr Ws (List Stp)
  | 0, _, _ => fun _ => none
  | f + 1, r, acc => prBind (lookT r) fun n =>
    if n.inner = false then fun s => some (.ret (acc ++ [⟨r, n, stpWay n key⟩]), s)
    else prBind (wayT r (stpWay n key)) fun r1 => if r1 = 0 then fun s => some (.ret (acc ++ [⟨r, n, stpWay n key⟩]), s) else pathT key f r1 (acc ++ [⟨r, n, stpWay n key⟩])
end Go.Proofs.YtchjjoepikcmfaaGreat.Tower
