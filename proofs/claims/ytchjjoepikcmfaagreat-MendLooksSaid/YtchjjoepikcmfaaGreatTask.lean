/- Operations in a thread, as Lean functions over what is shared, the log, and how far it is; and Do's contract in these words. -/
import Derived.Test.YtchjjoepikcmfaaGreatStep
namespace Go.Proofs.YtchjjoepikcmfaaGreat.Tower
open Go Go.RowKit Go.Proofs.YtchjjoepikcmfaaGreatW.PrintWords Go.Proofs.YtchjjoepikcmfaaGreatW.PrintLast Go.Proofs.YtchjjoepikcmfaaGreatW.PrintMore Go.Proofs.YtchjjoepikcmfaaGreat.Own
set_option linter.unusedVariables false
set_option linter.unusedSimpArgs false
attribute [local go_sem] eqlF1 eqlF2 eqlF3 panicW assertW

/-- How an operation's part comes to its end: with a result, or in a touch that waits for the next Step. -/
inductive Out (α : Type) where
  | ret (a : α)
  | wait

/-- What an operation goes on with: what is shared; its log; how far it is in it; whether this Step's touch was done. -/
structure TS (X : Type) where
  sh : X
  log : List Int
  at_ : Nat
  spent : Bool

/-- none: beyond what is spoken of (too long a log, no end). -/
abbrev Pr (X α : Type) := TS X → Option (Out α × TS X)

def prBind {X α β : Type} (m : Pr X α) (f : α → Pr X β) : Pr X β := fun s =>
  match m s with
  | none => none
  | some (.ret a, t) => f a t
  | some (.wait, t) => some (.wait, t)

def doT {X : Type} (f : X → Int × X) : Pr X Int := fun s =>
  if s.at_ < s.log.length then some (.ret (s.log.getD s.at_ 0), { s with at_ := s.at_ + 1 })
  else if s.spent then some (.wait, s)
  else if 999999 ≤ s.log.length then none
  else some (.ret (f s.sh).1, { sh := (f s.sh).2, log := s.log ++ [(f s.sh).1], at_ := s.at_ + 1, spent := true })

/-- What is shared: it stays where its blocks stay, and lies in the heap. -/
structure Shared {X : Type} (Sh : X → (Nat → Prop) → World → Prop) : Prop where
  step : ∀ {x ok w w1}, Sh x ok w → w.heap.size ≤ w1.heap.size → (∀ k, ok k → k < w.heap.size → w1.heap[k]? = w.heap[k]?) → Sh x ok w1
  lt : ∀ {x ok w}, Sh x ok w → ∀ k, ok k → k < w.heap.size

/-- In the midst of a Step: the thread, and what is shared. -/
structure IsRun {X : Type} (Sh : X → (Nat → Prop) → World → Prop) (tb : Nat) (work : Value) (ok : Nat → Prop) (s : TS X) (w : World) : Prop where
  le : s.at_ ≤ s.log.length
  short : s.log.length < 1000000
  out : ∃ okT okS, (∀ k, ok k ↔ okT k ∨ okS k) ∧ (∀ k, okT k → ¬ okS k) ∧ IsThread okT tb work ⟨s.log, s.at_, s.spent, true, false, []⟩ w ∧ Sh s.sh okS w

section
variable {X : Type} {Sh : X → (Nat → Prop) → World → Prop} {tb : Nat} {work : Value} {ok : Nat → Prop} {s : TS X} {w w1 : World}
theorem IsThread.lt {ok : Nat → Prop} {th : Th} (h : IsThread ok tb work th w) : ∀ k, ok k → k < w.heap.size := by
  obtain ⟨lv, A, c, h⟩ := h
  exact h.2.1
theorem IsRun.lt (S : Shared Sh) (h : IsRun Sh tb work ok s w) : ∀ k, ok k → k < w.heap.size := fun k hk => by
  obtain ⟨okT, okS, h1, h2, h3, h4⟩ := h.out
  rcases (h1 k).1 hk with hk | hk
  · exact h3.lt k hk
  · exact S.lt h4 k hk
theorem IsRun.step (S : Shared Sh) (h : IsRun Sh tb work ok s w) (hs : w.heap.size ≤ w1.heap.size) (hm : ∀ k, ok k → k < w.heap.size → w1.heap[k]? = w.heap[k]?) : IsRun Sh tb work ok s w1 := by
  obtain ⟨okT, okS, h1, h2, h3, h4⟩ := h.out
  exact ⟨h.le, h.short, okT, okS, h1, h2, h3.step hs (fun k hk => hm k ((h1 k).2 (.inl hk))), S.step h4 hs (fun k hk => hm k ((h1 k).2 (.inr hk)))⟩
theorem IsRun.below (S : Shared Sh) (h : IsRun Sh tb work ok s w) (hb : Below w.heap.size w w1) : IsRun Sh tb work ok s w1 := h.step S hb.size (fun k _ hlt => hb.block k hlt)
theorem IsRun.far (S : Shared Sh) (h : IsRun Sh tb work ok s w) {p : Addr} (hp : ¬ ok p.block) (u : Value) : IsRun Sh tb work ok s (w.setCell p u) := h.step S (by simp [World.setCell]) (fun k hk _ => Below.heap_setCell w p u k (fun e => hp (e ▸ hk)))
end

/-- How a call of an operation's part ends, by what the Lean function says (res). V: how a result reads. -/
structure TPost {X α : Type} (Sh : X → (Nat → Prop) → World → Prop) (tb : Nat) (work : Value) (V : α → (Nat → Prop) → Value → World → Prop) (ok : Nat → Prop) (w : World) (res : Out α × TS X) (e : Ending) (w1 : World) : Prop where
  out : ∃ ok1, Moves ok ok1 w w1 ∧ IsRun Sh tb work ok1 res.2 w1 ∧
    match res.1 with
    | .ret a => ∃ v, e = .returned v ∧ V a ok1 v w1
    | .wait => e = .panicked waitP

def VInt (a : Int) (_ : Nat → Prop) (v : Value) (_ : World) : Prop := v = .int .i64 a
def VBool (a : Bool) (_ : Nat → Prop) (v : Value) (_ : World) : Prop := v = .bool a
def VUnit (_ : Unit) (_ : Nat → Prop) (v : Value) (_ : World) : Prop := v = .tuple #[]

theorem moves_same {ok ok1 : Nat → Prop} {w w1 : World} {okA okB : Nat → Prop} (h : Moves okA okA w w1) (hA : ∀ k, okA k → ok k) : Moves ok ok w w1 := ⟨h.os, h.tape, h.output, h.size, fun k hk hn => h.block k hk (fun h1 => hn (hA k h1)), fun k hk => .inl hk⟩

theorem do_calls {X : Type} {Sh : X → (Nat → Prop) → World → Prop} (S : Shared Sh) (f : X → Int × X) (tb : Nat) (work : Value) (ok : Nat → Prop) (s : TS X) (w : World) (gf : FuncId) (cap : Array Value) (h : IsRun Sh tb work ok s w)
    (he : ∀ w1 : World, (callFunc gf cap).run Tryz.prog w1 = .ok (.enter gf cap) w1)
    (hc : ∀ w1 okS, Moves ok ok w w1 → (∀ k, okS k → ok k) → Sh s.sh okS w1 → Calls Tryz.prog gf cap w1 fun e w2 => ∃ okS1, e = .returned (.int .i64 (f s.sh).1) ∧ Sh (f s.sh).2 okS1 w2 ∧ Moves okS okS1 w1 w2)
    (res : Out Int × TS X) (hr : doT f s = some res) :
    Calls Tryz.prog 89 #[.pointer (some ⟨tb, 0, none⟩), .func (.func gf) #[] cap] w (TPost Sh tb work VInt ok w res) := by
  have hle := h.le
  have hsh := h.short
  obtain ⟨okT, okS, h1, h2, h3, h4⟩ := h.out
  unfold doT at hr
  by_cases ha : s.at_ < s.log.length
  · rw [if_pos ha] at hr
    injection hr with hr
    subst hr
    refine (do_told okT tb work _ w _ _ _ h3 rfl (by simp) (by simpa using ha) hsh _ rfl).mono ?_
    rintro e w1 ⟨rfl, ht, hm⟩
    refine ⟨⟨ok, moves_same (ok1 := ok) (okB := ok) hm (fun k hk => (h1 k).2 (.inl hk)), ⟨by show s.at_ + 1 ≤ s.log.length; omega, hsh, okT, okS, h1, h2, ?_, S.step h4 hm.size (fun k hk hlt => hm.block k hlt (fun h5 => h2 k h5 hk))⟩, _, rfl, ?_⟩⟩
    · simpa using ht
    · simp [VInt]
  · rw [if_neg ha] at hr
    have hat : s.at_ = s.log.length := by omega
    by_cases hs : s.spent = true
    · rw [if_pos hs] at hr
      injection hr with hr
      subst hr
      refine (do_waits okT tb work _ w _ _ _ h3 rfl (by show (s.log.length : Int) ≤ (s.at_ : Int); omega) hs).mono ?_
      rintro e w1 ⟨rfl, ht, hm⟩
      exact ⟨⟨ok, moves_same (ok1 := ok) (okB := ok) hm (fun k hk => (h1 k).2 (.inl hk)), ⟨hle, hsh, okT, okS, h1, h2, ht, S.step h4 hm.size (fun k hk hlt => hm.block k hlt (fun h5 => h2 k h5 hk))⟩, rfl⟩⟩
    · rw [if_neg hs] at hr
      by_cases hl : 999999 ≤ s.log.length
      · rw [if_pos hl] at hr
        cases hr
      rw [if_neg hl] at hr
      injection hr with hr
      subst hr
      have hlen : (s.log ++ [(f s.sh).1]).length < 1000000 := by simp; omega
      refine (do_does okT okS tb work _ w gf cap (fun n okS1 w1 => n = (f s.sh).1 ∧ Sh (f s.sh).2 okS1 w1) h3 rfl (by show (s.at_ : Int) = (s.log.length : Int); omega) (by simpa using hs) hsh h2
        (fun n ok1 w1 w2 hp hsz hm => ⟨hp.1, S.step hp.2 hsz hm⟩) (fun n ok1 w1 hp => S.lt hp.2) he
        (fun w1 hm => (hc w1 okS (moves_same (ok1 := ok) (okB := ok) hm (fun k hk => (h1 k).2 (.inl hk))) (fun k hk => (h1 k).2 (.inr hk)) (S.step h4 hm.size (fun k hk hlt => hm.block k hlt (fun h5 => h2 k h5 hk)))).mono (fun e w2 hh => by
          obtain ⟨okS1, rfl, hp, hmv⟩ := hh
          exact ⟨_, okS1, rfl, ⟨rfl, hp⟩, hmv⟩))).mono ?_
      rintro e w1 ⟨n, okT1, okS1, rfl, ht, ⟨rfl, hp⟩, hd, hm⟩
      refine ⟨⟨fun k => okT1 k ∨ okS1 k, ⟨hm.os, hm.tape, hm.output, hm.size, fun k hk hn => hm.block k hk (fun h5 => hn ((h1 k).2 h5)), fun k hk => (hm.fresh k hk).imp (h1 k).2 id⟩, ⟨by simp [hat], hlen, okT1, okS1, fun _ => Iff.rfl, hd, ?_, hp⟩, _, rfl, rfl⟩⟩
      simpa using ht
end Go.Proofs.YtchjjoepikcmfaaGreat.Tower
