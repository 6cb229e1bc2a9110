/- A Step of a task, and all Steps of one that goes on alone, by its Lean twin. -/
import Derived.Test.YtchjjoepikcmfaaGreatMend
import Derived.OwnWalk
namespace Go.Proofs.YtchjjoepikcmfaaGreat.Tower
open Go Go.RowKit Go.Proofs.YtchjjoepikcmfaaGreatW.PrintWords Go.Proofs.YtchjjoepikcmfaaGreatW.PrintLast Go.Proofs.YtchjjoepikcmfaaGreatW.PrintMore Go.Proofs.YtchjjoepikcmfaaGreat.Own
set_option linter.unusedVariables false
set_option linter.unusedSimpArgs false

/-- A thread at rest, and what is shared. -/
structure Idle {X : Type} (Sh : X → (Nat → Prop) → World → Prop) (tb : Nat) (work : Value) (ok : Nat → Prop) (x : X) (th : Th) (w : World) : Prop where
  out : ∃ okT okS, (∀ k, ok k ↔ okT k ∨ okS k) ∧ (∀ k, okT k → ¬ okS k) ∧ IsThread okT tb work th w ∧ Sh x okS w
section
variable {X : Type} {Sh : X → (Nat → Prop) → World → Prop} {tb : Nat} {work : Value} {ok : Nat → Prop} {x : X} {th : Th} {w w1 : World}
theorem Idle.lt (S : Shared Sh) (h : Idle Sh tb work ok x th w) : ∀ k, ok k → k < w.heap.size := fun k hk => by
  obtain ⟨okT, okS, h1, h2, h3, h4⟩ := h.out
  rcases (h1 k).1 hk with hk | hk
  · exact h3.lt k hk
  · exact S.lt h4 k hk
theorem Idle.step (S : Shared Sh) (h : Idle Sh tb work ok x th w) (hs : w.heap.size ≤ w1.heap.size) (hm : ∀ k, ok k → k < w.heap.size → w1.heap[k]? = w.heap[k]?) : Idle Sh tb work ok x th w1 := by
  obtain ⟨okT, okS, h1, h2, h3, h4⟩ := h.out
  exact ⟨okT, okS, h1, h2, h3.step hs (fun k hk => hm k ((h1 k).2 (.inl hk))), S.step h4 hs (fun k hk => hm k ((h1 k).2 (.inr hk)))⟩
theorem Idle.below (S : Shared Sh) (h : Idle Sh tb work ok x th w) (hb : Below w.heap.size w w1) : Idle Sh tb work ok x th w1 := h.step S hb.size (fun k _ hlt => hb.block k hlt)
end
def VNums (N : Nat) (l : List Int) (ok : Nat → Prop) (v : Value) (w : World) : Prop := (Kd.int .i64).R 2 w N (fun k => ¬ ok k) v l
theorem moves_iff {ok ok1 okA okB : Nat → Prop} {w w1 : World} (h : Moves ok ok1 w w1) (hA : ∀ k, ok k ↔ okA k) (hB : ∀ k, ok1 k ↔ okB k) : Moves okA okB w w1 :=
  ⟨h.os, h.tape, h.output, h.size, fun k hk hn => h.block k hk (fun h1 => hn ((hA k).1 h1)), fun k hk => (h.fresh k ((hB k).2 hk)).imp (hA k).1 id⟩

/-- A thread that has not come to its end. -/
def thOf (log : List Int) (at_ : Int) (spent : Bool) : Th := ⟨log, at_, spent, false, false, []⟩
/-- How a Step ends. -/
structure StepPost {X : Type} (Sh : X → (Nat → Prop) → World → Prop) (tb : Nat) (work : Value) (ok : Nat → Prop) (res : Out (List Int) × TS X) (w : World) (e : Ending) (w1 : World) : Prop where
  out : ∃ ok1, Moves ok ok1 w w1 ∧ res.2.log.length < 1000000 ∧
    match res.1 with
    | .ret l => e = .returned (.bool true) ∧ Idle Sh tb work ok1 res.2.sh ⟨res.2.log, res.2.at_, res.2.spent, false, true, l⟩ w1
    | .wait => e = .returned (.bool false) ∧ Idle Sh tb work ok1 res.2.sh (thOf res.2.log res.2.at_ res.2.spent) w1

theorem step_task {X : Type} {Sh : X → (Nat → Prop) → World → Prop} (S : Shared Sh) (tb : Nat) (wf : FuncId) (wc : Array Value) (ok : Nat → Prop) (x : X) (log : List Int) (at_ : Int) (spent : Bool) (w : World) (Bx : (Nat → Prop) → World → Prop) (tw : Pr X (List Int))
    (h : Idle Sh tb (.func (.func wf) #[] wc) ok x (thOf log at_ spent) w) (hl : log.length < 1000000)
    (hBm : ∀ ok ok1 w w1, Bx ok w → Moves ok ok1 w w1 → Bx ok1 w1) (hB : Bx ok w)
    (he : ∀ w1 : World, (callFunc wf (#[.pointer (some ⟨tb, 0, none⟩)] ++ wc)).run Tryz.prog w1 = .ok (.enter wf (#[.pointer (some ⟨tb, 0, none⟩)] ++ wc)) w1)
    (hw : ∀ ok s w1 res, IsRun Sh tb (.func (.func wf) #[] wc) ok s w1 → Bx ok w1 → tw s = some res → Calls Tryz.prog wf (#[.pointer (some ⟨tb, 0, none⟩)] ++ wc) w1 (TPost Sh tb (.func (.func wf) #[] wc) (VNums w1.heap.size) ok w1 res))
    (res : Out (List Int) × TS X) (hr : tw ⟨x, log, 0, false⟩ = some res) :
    Calls Tryz.prog 48 #[.pointer (some ⟨tb, 0, none⟩)] w (StepPost Sh tb (.func (.func wf) #[] wc) ok res w) := by
  obtain ⟨okT, okS, h1, h2, h3, h4⟩ := h.out
  refine (step_runs okT okS tb wf wc (thOf log at_ spent) w (fun r t ok1 w1 => t = ⟨res.2.log, res.2.at_, res.2.spent, true, false, []⟩ ∧ Sh res.2.sh ok1 w1 ∧ res.2.log.length < 1000000 ∧ (match res.1 with | .ret l => r = some l | .wait => r = none)) h3 rfl h2 (S.lt h4) (fun r t ok1 w1 w2 hq hs hm => ⟨hq.1, S.step hq.2.1 hs hm, hq.2.2⟩) he (fun w1 hm ht => ?_)).mono ?_
  · have hmm : Moves ok ok w w1 := moves_same (ok1 := ok) (okB := ok) hm (fun k hk => (h1 k).2 (.inl hk))
    have hrun : IsRun Sh tb (.func (.func wf) #[] wc) ok ⟨x, log, 0, false⟩ w1 := ⟨Nat.zero_le _, hl, okT, okS, h1, h2, ht, S.step h4 hm.size (fun k hk hlt => hm.block k hlt (fun h5 => h2 k h5 hk))⟩
    refine (hw ok _ w1 res hrun (hBm _ _ _ _ hB hmm) hr).mono ?_
    rintro e w2 ⟨ok1, hm2, hr2, hres⟩
    obtain ⟨okT2, okS2, g1, g2, g3, g4⟩ := hr2.out
    refine ⟨⟨(match res.1 with | .ret l => some l | .wait => none), _, okT2, okS2, g3, g2, moves_iff hm2 h1 g1, ⟨rfl, g4, hr2.short, ?_⟩, S.lt g4, ?_⟩⟩
    · cases res.1 <;> rfl
    · cases hres1 : res.1 with
      | ret l =>
        rw [hres1] at hres
        obtain ⟨v, rfl, hv⟩ := hres
        exact .inr ⟨v, l, rfl, rfl, Kd.R_mono hv (fun k hk => ⟨fun h5 => hk ((g1 k).2 (.inl h5)), fun h5 => hk ((g1 k).2 (.inr h5))⟩)⟩
      | wait =>
        rw [hres1] at hres
        exact .inl ⟨rfl, hres⟩
  · rintro e w2 ⟨r, th2, okT3, okS3, rfl, ht, hd, hm, ⟨rfl, hs, hlg, hrr⟩, hb⟩
    refine ⟨⟨fun k => okT3 k ∨ okS3 k, moves_iff hm (fun k => (h1 k).symm) (fun _ => Iff.rfl), hlg, ?_⟩⟩
    cases hres1 : res.1 with
    | ret l =>
      rw [hres1] at hrr
      simp only at hrr
      subst hrr
      exact ⟨rfl, ⟨okT3, okS3, fun _ => Iff.rfl, hd, ht, hs⟩⟩
    | wait =>
      rw [hres1] at hrr
      simp only at hrr
      subst hrr
      exact ⟨rfl, ⟨okT3, okS3, fun _ => Iff.rfl, hd, ht, hs⟩⟩

/-- A thread that goes on alone: f Steps at most. What it comes to (none: it has no end), how many Steps are left, what is shared, its log. -/
def aloneT {X : Type} (tw : Pr X (List Int)) : Nat → X → List Int → Option (Option (List Int) × Nat × X × List Int)
  | 0, x, log => some (none, 0, x, log)
  | f + 1, x, log => match tw ⟨x, log, 0, false⟩ with
    | none => none
    | some (.ret l, s) => some (some l, f, s.sh, s.log)
    | some (.wait, s) => aloneT tw f s.sh s.log

/-- How it ends. -/
structure AlonePost {X : Type} (Sh : X → (Nat → Prop) → World → Prop) (tb : Nat) (work : Value) (ok : Nat → Prop) (res : Option (List Int) × Nat × X × List Int) (w : World) (e : Ending) (w1 : World) : Prop where
  out : ∃ ok1, Moves ok ok1 w w1 ∧ res.2.2.2.length < 1000000 ∧ ∃ at_ spent,
    match res.1 with
    | some l => Idle Sh tb work ok1 res.2.2.1 ⟨res.2.2.2, at_, spent, false, true, l⟩ w1 ∧ ∃ v, e = .returned (.tuple #[v, .int .i64 (3000 - res.2.1 : Nat), .bool true]) ∧ (Kd.int .i64).R 2 w1 w.heap.size (fun k => ¬ ok1 k) v l
    | none => Idle Sh tb work ok1 res.2.2.1 (thOf res.2.2.2 at_ spent) w1 ∧ e = .returned (.tuple #[.slice none 0 0, .int .i64 3000, .bool false])

structure AloneAt {X : Type} (Sh : X → (Nat → Prop) → World → Prop) (tb : Nat) (work : Value) (ok : Nat → Prop) (tw : Pr X (List Int)) (res : Option (List Int) × Nat × X × List Int) (w : World) (Bx : (Nat → Prop) → World → Prop) (f : Nat) (wr : World) : Prop where
  out : ∃ ok1 x log at_ spent, Idle Sh tb work ok1 x (thOf log at_ spent) wr ∧ Moves ok ok1 w wr ∧ log.length < 1000000 ∧ Bx ok1 wr ∧ f ≤ 3000 ∧ aloneT tw f x log = some res

set_option maxHeartbeats 4000000 in
set_option maxRecDepth 100000 in
theorem alone_calls {X : Type} {Sh : X → (Nat → Prop) → World → Prop} (S : Shared Sh) (tb : Nat) (wf : FuncId) (wc : Array Value) (ok : Nat → Prop) (x : X) (log : List Int) (at_ : Int) (spent : Bool) (w : World) (Bx : (Nat → Prop) → World → Prop) (tw : Pr X (List Int))
    (h : Idle Sh tb (.func (.func wf) #[] wc) ok x (thOf log at_ spent) w) (hl : log.length < 1000000)
    (hBm : ∀ ok ok1 w w1, Bx ok w → Moves ok ok1 w w1 → Bx ok1 w1) (hB : Bx ok w)
    (he : ∀ w1 : World, (callFunc wf (#[.pointer (some ⟨tb, 0, none⟩)] ++ wc)).run Tryz.prog w1 = .ok (.enter wf (#[.pointer (some ⟨tb, 0, none⟩)] ++ wc)) w1)
    (hw : ∀ ok s w1 res, IsRun Sh tb (.func (.func wf) #[] wc) ok s w1 → Bx ok w1 → tw s = some res → Calls Tryz.prog wf (#[.pointer (some ⟨tb, 0, none⟩)] ++ wc) w1 (TPost Sh tb (.func (.func wf) #[] wc) (VNums w1.heap.size) ok w1 res))
    (hout : ∀ l f x log, aloneT tw 3000 x log = some (some l, f) → l.length < 1000000)
    (res : Option (List Int) × Nat × X × List Int) (hr : aloneT tw 3000 x log = some res) :
    Calls Tryz.prog 25 #[.pointer (some ⟨tb, 0, none⟩)] w (AlonePost Sh tb (.func (.func wf) #[] wc) ok res w) := by
  have HA : Aside0 (AloneAt Sh tb (.func (.func wf) #[] wc) ok tw res w Bx 3000 w) := ⟨⟨ok, x, log, at_, spent, h, Moves.refl _ _, hl, hB, Nat.le_refl _, hr⟩⟩
  have HBM := Aside0.mk hBm
  have HE := Aside0.mk he
  have HW := Aside0.mk hw
  have HO := Aside0.mk (hout · · x log)
  have HRR := Aside0.mk hr
  clear h hl hBm hB he hw hout hr
  go_enter Tryz.func25, Tryz.ntmps25
  go_wp2_with fail
  go_loopg [5] 3000 (fun g n wr => n = .int .i64 (3000 - g : Nat) ∧ Aside0 (AloneAt Sh tb (.func (.func wf) #[] wc) ok tw res w Bx g wr))
  case atStart => exact ⟨rfl, HA⟩
  case round =>
    clear HA
    obtain ⟨rfl, HA⟩ := hrel
    obtain ⟨ok1, x1, log1, at1, sp1, hI, hM, hlg, hbx, hf, hr⟩ := HA.out.out
    cases gk with
    | zero =>
      injection hr with hr
      subst hr
      have hI' := Aside0.mk hI
      have hM' := Aside0.mk hM
      have hL' := Aside0.mk hlg
      clear hI hM hlg hbx hf HA HRR HO
      go_wp2_with fail
      go_ret3
      exact ⟨⟨ok1, hM'.out, hL'.out, at1, sp1, hI'.out, rfl⟩⟩
    | succ g =>
      have e1 : (((3000 - (g + 1) : Nat)) : Int) < 3000 := by omega
      have d1 : decide ((((3000 - (g + 1) : Nat)) : Int) < 3000) = true := decide_eq_true e1
      obtain ⟨m, hm⟩ : ∃ m, m = 3000 - (g + 1) := ⟨_, rfl⟩
      rw [← hm] at d1 e1 ⊢
      have HM := Aside0.mk hm
      have em : m + 1 = 3000 - g := by omega
      have EM := Aside0.mk em
      unfold aloneT at hr
      cases hs : tw ⟨x1, log1, 0, false⟩ with
      | none => rw [hs] at hr; cases hr
      | some sres =>
        rw [hs] at hr
        have HR := Aside0.mk hr
        have HST := Aside0.mk (step_task S tb wf wc ok1 x1 log1 at1 sp1 wr Bx tw hI hlg HBM.out hbx HE.out HW.out sres hs)
        have M0 := Aside0.mk hM
        have BX := Aside0.mk hbx
        have FF := Aside0.mk hf
        clear hI hM hlg hbx hf HA hr hs hm em
        go_upto_region 4 with fail
        go_wp2_with fail
        refine HST.out.mono ?_
        rintro e w2 ⟨ok2, hm2, hl2, hp2⟩
        have M2 := Aside0.mk (M0.out.trans hm2)
        have BX2 := Aside0.mk (HBM.out _ _ _ _ BX.out hm2)
        have L2 := Aside0.mk hl2
        clear hm2 hl2 HST
        obtain ⟨o, s2⟩ := sres
        cases o with
        | wait =>
          obtain ⟨rfl, hi⟩ := hp2
          have I2 := Aside0.mk hi
          clear hi
          dsimp only
          go_wp2_with fail
          go_roundg g
          case rel => exact ⟨by rw [← EM.out]; go_num, ⟨⟨ok2, _, _, _, _, I2.out, M2.out, L2.out, BX2.out, by have := FF.out; omega, HR.out⟩⟩⟩
          case measure => omega
        | ret l =>
          obtain ⟨rfl, hi⟩ := hp2
          have hr := HR.out
          injection hr with hr
          subst hr
          have I2 := Aside0.mk hi
          have HLL : Aside0 (l.length < 1000000) := ⟨HO.out l _ HRR.out⟩
          obtain ⟨okT, okS, h1, h2, h3, h4⟩ := hi.out
          have HOUT := Aside0.mk (out_calls w2 h3 rfl HLL.out)
          clear hi h1 h2 h3 h4 HR HRR HO
          dsimp only
          go_wp2_with (go_at_call 60; refine HOUT.out.mono ?_; rintro e w3 ⟨v, rfl, hv, hb⟩; have V3 := Aside0.mk hv; have B3 := Aside0.mk hb; clear hv hb)
          go_ret3
          refine ⟨⟨ok2, M2.out.below B3.out, L2.out, _, _, I2.out.below S B3.out, v, ?_, ?_⟩⟩
          · have e3 : ((m : Int) + 1) = ((3000 - g : Nat) : Int) := by have := EM.out; omega
            rw [← e3]; rfl
          · exact Kd.R_lower (Kd.R_mono (Kd.R_bound V3.out) (fun k hk hk2 => by have := I2.out.lt S k hk2; have := hk.1; omega)) M2.out.size
end Go.Proofs.YtchjjoepikcmfaaGreat.Tower
