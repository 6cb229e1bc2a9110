/- A Step of a task, and all Steps of one that goes on alone, by its Lean twin. Do, with a method value for its touch. The epochs' functions, walked. The closures of Task.Begin and Task.End, walked. More steps for regions that draw their order. In the midst of a task's function: the task's box, the thread, what is shared; touches in these words. (*Epochs).Ready, walked. (*Arena).Free, walked. Task.one, and Task.Begin's last closure, walked. The touches of Task.Begin and Task.End, and their twins. Task.Begin, walked. Task.End, walked. seek.Leaf, walked. Leaf.find, Leaf.Get, walked. ask.do, asked for one key, walked. ask.Code, and the work of ask.New, walked. The work of a thread that ask.New made, walked. -/
import Derived.Test.YthlmgbdknjilpaaGreatPAskCodesx2
import Derived.Test.YthlmgbdknjilpaaGreatGAskCodes0
import Derived.Test.YthlmgbdknjilpaaGreatGAskCodes1
import Derived.OwnWalk
import Derived.Deep.Cut
import Derived.Deep.CutRange
import Derived.Deep.CutBlock
import Derived.Deep.LoopGhost
namespace Go.Proofs.YthlmgbdknjilpaaGreat.Tower
open Go Go.RowKit Go.Proofs.YthlmgbdknjilpaaGreatW.PrintWords Go.Proofs.YthlmgbdknjilpaaGreatW.PrintLast Go.Proofs.YthlmgbdknjilpaaGreatW.PrintMore Go.Proofs.YthlmgbdknjilpaaGreat.Own
set_option linter.unusedVariables false
set_option linter.unusedSimpArgs false

/-- A thread at rest, and what is shared. -/
structure Idle {X : Type} (Sh : X → (Nat → Prop) → World → Prop) (tb : Nat) (work : Value) (ok : Nat → Prop) (x : X) (th : Th) (w : World) : Prop where
  out : ∃ okT okS, (∀ k, ok k ↔ okT k ∨ okS k) ∧ (∀ k, okT k → ¬ okS k) ∧ IsThread okT tb work th w ∧ Sh x okS w
section
variable {X : Type} {Sh : X → (Nat → Prop) → World → Prop} {tb : Nat} {work : Value} {ok : Nat → Prop} {x : X} {th : Th} {w w1 : World}
theorem Idle.lt (S : Shared Sh) (h : Idle Sh tb work ok x th w) : ∀ k, ok k → k < w.heap.size := fun k hk => by
  obtain ⟨okT, okS, h1, h2, h3, h4⟩ := h.out
  rcases (h1 k).1 hk with hk | hk
  · exact h3.lt k hk
  · exact S.lt h4 k hk
theorem Idle.step (S : Shared Sh) (h : Idle Sh tb work ok x th w) (hs : w.heap.size ≤ w1.heap.size) (hm : ∀ k, ok k → k < w.heap.size → w1.heap[k]? = w.heap[k]?) : Idle Sh tb work ok x th w1 := by
  obtain ⟨okT, okS, h1, h2, h3, h4⟩ := h.out
  exact ⟨okT, okS, h1, h2, h3.step hs (fun k hk => hm k ((h1 k).2 (.inl hk))), S.step h4 hs (fun k hk => hm k ((h1 k).2 (.inr hk)))⟩
theorem Idle.below (S : Shared Sh) (h : Idle Sh tb work ok x th w) (hb : Below w.heap.size w w1) : Idle Sh tb work ok x th w1 := h.step S hb.size (fun k _ hlt => hb.block k hlt)
end
def VNums (N : Nat) (l : List Int) (ok : Nat → Prop) (v : Value) (w : World) : Prop := (Kd.int .i64).R 2 w N (fun k => ¬ ok k) v l
theorem moves_iff {ok ok1 okA okB : Nat → Prop} {w w1 : World} (h : Moves ok ok1 w w1) (hA : ∀ k, ok k ↔ okA k) (hB : ∀ k, ok1 k ↔ okB k) : Moves okA okB w w1 :=
  ⟨h.os, h.tape, h.output, h.size, fun k hk hn => h.block k hk (fun h1 => hn ((hA k).1 h1)), fun k hk => (h.fresh k ((hB k).2 hk)).imp (hA k).1 id⟩

/-- A thread that has not come to its end. -/
def thOf (log : List Int) (at_ : Int) (spent : Bool) : Th := ⟨log, at_, spent, false, false, []⟩
/-- How a Step ends. -/
structure StepPost {X : Type} (Sh : X → (Nat → Prop) → World → Prop) (tb : Nat) (work : Value) (ok : Nat → Prop) (res : Out (List Int) × TS X) (w : World) (e : Ending) (w1 : World) : Prop where
  out : ∃ ok1, Moves ok ok1 w w1 ∧ res.2.log.length < 1000000 ∧
    match res.1 with
    | .ret l => e = .returned (.bool true) ∧ Idle Sh tb work ok1 res.2.sh ⟨res.2.log, res.2.at_, res.2.spent, false, true, l⟩ w1
    | .wait => e = .returned (.bool false) ∧ Idle Sh tb work ok1 res.2.sh (thOf res.2.log res.2.at_ res.2.spent) w1

theorem step_task {X : Type} {Sh : X → (Nat → Prop) → World → Prop} (S : Shared Sh) (tb : Nat) (wf : FuncId) (wc : Array Value) (ok : Nat → Prop) (x : X) (log : List Int) (at_ : Int) (spent : Bool) (w : World) (Bx : (Nat → Prop) → World → Prop) (tw : Pr X (List Int))
    (h : Idle Sh tb (.func (.func wf) #[] wc) ok x (thOf log at_ spent) w) (hl : log.length < 1000000)
    (hBm : ∀ ok ok1 w w1, Bx ok w → Moves ok ok1 w w1 → Bx ok1 w1) (hB : Bx ok w)
    (he : ∀ w1 : World, (callFunc wf (#[.pointer (some ⟨tb, 0, none⟩)] ++ wc)).run Tryz.prog w1 = .ok (.enter wf (#[.pointer (some ⟨tb, 0, none⟩)] ++ wc)) w1)
    (hw : ∀ ok s w1 res, IsRun Sh tb (.func (.func wf) #[] wc) ok s w1 → Bx ok w1 → tw s = some res → Calls Tryz.prog wf (#[.pointer (some ⟨tb, 0, none⟩)] ++ wc) w1 (TPost Sh tb (.func (.func wf) #[] wc) (VNums w1.heap.size) ok w1 res))
    (res : Out (List Int) × TS X) (hr : tw ⟨x, log, 0, false⟩ = some res) :
    Calls Tryz.prog 27 #[.pointer (some ⟨tb, 0, none⟩)] w (StepPost Sh tb (.func (.func wf) #[] wc) ok res w) := by
  obtain ⟨okT, okS, h1, h2, h3, h4⟩ := h.out
  refine (step_runs okT okS tb wf wc (thOf log at_ spent) w (fun r t ok1 w1 => t = ⟨res.2.log, res.2.at_, res.2.spent, true, false, []⟩ ∧ Sh res.2.sh ok1 w1 ∧ res.2.log.length < 1000000 ∧ (match res.1 with | .ret l => r = some l | .wait => r = none)) h3 rfl h2 (S.lt h4) (fun r t ok1 w1 w2 hq hs hm => ⟨hq.1, S.step hq.2.1 hs hm, hq.2.2⟩) he (fun w1 hm ht => ?_)).mono ?_
  · have hmm : Moves ok ok w w1 := moves_same (ok1 := ok) (okB := ok) hm (fun k hk => (h1 k).2 (.inl hk))
    have hrun : IsRun Sh tb (.func (.func wf) #[] wc) ok ⟨x, log, 0, false⟩ w1 := ⟨Nat.zero_le _, hl, okT, okS, h1, h2, ht, S.step h4 hm.size (fun k hk hlt => hm.block k hlt (fun h5 => h2 k h5 hk))⟩
    refine (hw ok _ w1 res hrun (hBm _ _ _ _ hB hmm) hr).mono ?_
    rintro e w2 ⟨ok1, hm2, hr2, hres⟩
    obtain ⟨okT2, okS2, g1, g2, g3, g4⟩ := hr2.out
    refine ⟨⟨(match res.1 with | .ret l => some l | .wait => none), _, okT2, okS2, g3, g2, moves_iff hm2 h1 g1, ⟨rfl, g4, hr2.short, ?_⟩, S.lt g4, ?_⟩⟩
    · cases res.1 <;> rfl
    · cases hres1 : res.1 with
      | ret l =>
        rw [hres1] at hres
        obtain ⟨v, rfl, hv⟩ := hres
        exact .inr ⟨v, l, rfl, rfl, Kd.R_mono hv (fun k hk => ⟨fun h5 => hk ((g1 k).2 (.inl h5)), fun h5 => hk ((g1 k).2 (.inr h5))⟩)⟩
      | wait =>
        rw [hres1] at hres
        exact .inl ⟨rfl, hres⟩
  · rintro e w2 ⟨r, th2, okT3, okS3, rfl, ht, hd, hm, ⟨rfl, hs, hlg, hrr⟩, hb⟩
    refine ⟨⟨fun k => okT3 k ∨ okS3 k, moves_iff hm (fun k => (h1 k).symm) (fun _ => Iff.rfl), hlg, ?_⟩⟩
    cases hres1 : res.1 with
    | ret l =>
      rw [hres1] at hrr
      simp only at hrr
      subst hrr
      exact ⟨rfl, ⟨okT3, okS3, fun _ => Iff.rfl, hd, ht, hs⟩⟩
    | wait =>
      rw [hres1] at hrr
      simp only at hrr
      subst hrr
      exact ⟨rfl, ⟨okT3, okS3, fun _ => Iff.rfl, hd, ht, hs⟩⟩

/-- A thread that goes on alone: f Steps at most. What it comes to (none: it has no end), how many Steps are left, what is shared, its log. -/
def aloneT {X : Type} (tw : Pr X (List Int)) : Nat → X → List Int → Option (Option (List Int) × Nat × X × List Int)
  | 0, x, log => some (none, 0, x, log)
  | f + 1, x, log => match tw ⟨x, log, 0, false⟩ with
    | none => none
    | some (.ret l, s) => some (some l, f, s.sh, s.log)
    | some (.wait, s) => aloneT tw f s.sh s.log

/-- How it ends. -/
structure AlonePost {X : Type} (Sh : X → (Nat → Prop) → World → Prop) (tb : Nat) (work : Value) (ok : Nat → Prop) (res : Option (List Int) × Nat × X × List Int) (w : World) (e : Ending) (w1 : World) : Prop where
  out : ∃ ok1, Moves ok ok1 w w1 ∧ res.2.2.2.length < 1000000 ∧ ∃ at_ spent,
    match res.1 with
    | some l => Idle Sh tb work ok1 res.2.2.1 ⟨res.2.2.2, at_, spent, false, true, l⟩ w1 ∧ ∃ v, e = .returned (.tuple #[v, .int .i64 (3000 - res.2.1 : Nat), .bool true]) ∧ (Kd.int .i64).R 2 w1 w.heap.size (fun k => ¬ ok1 k) v l
    | none => Idle Sh tb work ok1 res.2.2.1 (thOf res.2.2.2 at_ spent) w1 ∧ e = .returned (.tuple #[.slice none 0 0, .int .i64 3000, .bool false])

structure AloneAt {X : Type} (Sh : X → (Nat → Prop) → World → Prop) (tb : Nat) (work : Value) (ok : Nat → Prop) (tw : Pr X (List Int)) (res : Option (List Int) × Nat × X × List Int) (w : World) (Bx : (Nat → Prop) → World → Prop) (f : Nat) (wr : World) : Prop where
  out : ∃ ok1 x log at_ spent, Idle Sh tb work ok1 x (thOf log at_ spent) wr ∧ Moves ok ok1 w wr ∧ log.length < 1000000 ∧ Bx ok1 wr ∧ f ≤ 3000 ∧ aloneT tw f x log = some res

set_option maxHeartbeats 4000000 in
set_option maxRecDepth 100000 in
theorem alone_calls {X : Type} {Sh : X → (Nat → Prop) → World → Prop} (S : Shared Sh) (tb : Nat) (wf : FuncId) (wc : Array Value) (ok : Nat → Prop) (x : X) (log : List Int) (at_ : Int) (spent : Bool) (w : World) (Bx : (Nat → Prop) → World → Prop) (tw : Pr X (List Int))
    (h : Idle Sh tb (.func (.func wf) #[] wc) ok x (thOf log at_ spent) w) (hl : log.length < 1000000)
    (hBm : ∀ ok ok1 w w1, Bx ok w → Moves ok ok1 w w1 → Bx ok1 w1) (hB : Bx ok w)
    (he : ∀ w1 : World, (callFunc wf (#[.pointer (some ⟨tb, 0, none⟩)] ++ wc)).run Tryz.prog w1 = .ok (.enter wf (#[.pointer (some ⟨tb, 0, none⟩)] ++ wc)) w1)
    (hw : ∀ ok s w1 res, IsRun Sh tb (.func (.func wf) #[] wc) ok s w1 → Bx ok w1 → tw s = some res → Calls Tryz.prog wf (#[.pointer (some ⟨tb, 0, none⟩)] ++ wc) w1 (TPost Sh tb (.func (.func wf) #[] wc) (VNums w1.heap.size) ok w1 res))
    (hout : ∀ l f x log, aloneT tw 3000 x log = some (some l, f) → l.length < 1000000)
    (res : Option (List Int) × Nat × X × List Int) (hr : aloneT tw 3000 x log = some res) :
    Calls Tryz.prog 15 #[.pointer (some ⟨tb, 0, none⟩)] w (AlonePost Sh tb (.func (.func wf) #[] wc) ok res w) := by
  have HA : Aside0 (AloneAt Sh tb (.func (.func wf) #[] wc) ok tw res w Bx 3000 w) := ⟨⟨ok, x, log, at_, spent, h, Moves.refl _ _, hl, hB, Nat.le_refl _, hr⟩⟩
  have HBM := Aside0.mk hBm
  have HE := Aside0.mk he
  have HW := Aside0.mk hw
  have HO := Aside0.mk (hout · · x log)
  have HRR := Aside0.mk hr
  clear h hl hBm hB he hw hout hr
  go_enter Tryz.func15, Tryz.ntmps15
  go_wp2_with fail
  go_loopg [5] 3000 (fun g n wr => n = .int .i64 (3000 - g : Nat) ∧ Aside0 (AloneAt Sh tb (.func (.func wf) #[] wc) ok tw res w Bx g wr))
  case atStart => exact ⟨rfl, HA⟩
  case round =>
    clear HA
    obtain ⟨rfl, HA⟩ := hrel
    obtain ⟨ok1, x1, log1, at1, sp1, hI, hM, hlg, hbx, hf, hr⟩ := HA.out.out
    cases gk with
    | zero =>
      injection hr with hr
      subst hr
      have hI' := Aside0.mk hI
      have hM' := Aside0.mk hM
      have hL' := Aside0.mk hlg
      clear hI hM hlg hbx hf HA HRR HO
      go_wp2_with fail
      go_ret3
      exact ⟨⟨ok1, hM'.out, hL'.out, at1, sp1, hI'.out, rfl⟩⟩
    | succ g =>
      have e1 : (((3000 - (g + 1) : Nat)) : Int) < 3000 := by omega
      have d1 : decide ((((3000 - (g + 1) : Nat)) : Int) < 3000) = true := decide_eq_true e1
      obtain ⟨m, hm⟩ : ∃ m, m = 3000 - (g + 1) := ⟨_, rfl⟩
      rw [← hm] at d1 e1 ⊢
      have HM := Aside0.mk hm
      have em : m + 1 = 3000 - g := by omega
      have EM := Aside0.mk em
      unfold aloneT at hr
      cases hs : tw ⟨x1, log1, 0, false⟩ with
      | none => rw [hs] at hr; cases hr
      | some sres =>
        rw [hs] at hr
        have HR := Aside0.mk hr
        have HST := Aside0.mk (step_task S tb wf wc ok1 x1 log1 at1 sp1 wr Bx tw hI hlg HBM.out hbx HE.out HW.out sres hs)
        have M0 := Aside0.mk hM
        have BX := Aside0.mk hbx
        have FF := Aside0.mk hf
        clear hI hM hlg hbx hf HA hr hs hm em
        go_upto_region 4 with fail
        go_wp2_with fail
        refine HST.out.mono ?_
        rintro e w2 ⟨ok2, hm2, hl2, hp2⟩
        have M2 := Aside0.mk (M0.out.trans hm2)
        have BX2 := Aside0.mk (HBM.out _ _ _ _ BX.out hm2)
        have L2 := Aside0.mk hl2
        clear hm2 hl2 HST
        obtain ⟨o, s2⟩ := sres
        cases o with
        | wait =>
          obtain ⟨rfl, hi⟩ := hp2
          have I2 := Aside0.mk hi
          clear hi
          dsimp only
          go_wp2_with fail
          go_roundg g
          case rel => exact ⟨by rw [← EM.out]; go_num, ⟨⟨ok2, _, _, _, _, I2.out, M2.out, L2.out, BX2.out, by have := FF.out; omega, HR.out⟩⟩⟩
          case measure => omega
        | ret l =>
          obtain ⟨rfl, hi⟩ := hp2
          have hr := HR.out
          injection hr with hr
          subst hr
          have I2 := Aside0.mk hi
          have HLL : Aside0 (l.length < 1000000) := ⟨HO.out l _ HRR.out⟩
          obtain ⟨okT, okS, h1, h2, h3, h4⟩ := hi.out
          have HOUT := Aside0.mk (out_calls w2 h3 rfl HLL.out)
          clear hi h1 h2 h3 h4 HR HRR HO
          dsimp only
          go_wp2_with (go_at_call 16; refine HOUT.out.mono ?_; rintro e w3 ⟨v, rfl, hv, hb⟩; have V3 := Aside0.mk hv; have B3 := Aside0.mk hb; clear hv hb)
          go_ret3
          refine ⟨⟨ok2, M2.out.below B3.out, L2.out, _, _, I2.out.below S B3.out, v, ?_, ?_⟩⟩
          · have e3 : ((m : Int) + 1) = ((3000 - g : Nat) : Int) := by have := EM.out; omega
            rw [← e3]; rfl
          · exact Kd.R_lower (Kd.R_mono (Kd.R_bound V3.out) (fun k hk hk2 => by have := I2.out.lt S k hk2; have := hk.1; omega)) M2.out.size
end Go.Proofs.YthlmgbdknjilpaaGreat.Tower
namespace Go.Proofs.YthlmgbdknjilpaaGreat.Tower
open Go Go.RowKit Go.Proofs.YthlmgbdknjilpaaGreatW.PrintWords Go.Proofs.YthlmgbdknjilpaaGreatW.PrintLast Go.Proofs.YthlmgbdknjilpaaGreatW.PrintMore Go.Proofs.YthlmgbdknjilpaaGreat.Own
set_option linter.unusedVariables false
set_option linter.unusedSimpArgs false
attribute [local go_sem] eqlF1 eqlF2 eqlF3 panicW assertW

set_option maxHeartbeats 2000000 in
set_option maxRecDepth 100000 in
/-- Do, in a step that has not yet done its touch: it is done. -/
theorem do_doesM (okT okS : Nat → Prop) (tb : Nat) (work : Value) (th : Th) (w : World) (gf : FuncId) (rv : Value) (Post : Int → (Nat → Prop) → World → Prop) (h : IsThread okT tb work th w) (hin : th.in_ = true) (hat : th.at_ = (th.log.length : Int)) (hs : th.spent = false) (hl : th.log.length < 1000000)
    (hd : ∀ k, okT k → ¬ okS k)
    (hP : ∀ n ok1 w1 w2, Post n ok1 w1 → w1.heap.size ≤ w2.heap.size → (∀ k, ok1 k → k < w1.heap.size → w2.heap[k]? = w1.heap[k]?) → Post n ok1 w2)
    (hb : ∀ n ok1 w1, Post n ok1 w1 → ∀ k, ok1 k → k < w1.heap.size)
    (he : ∀ w1 : World, (callFunc gf #[rv]).run Tryz.prog w1 = .ok (.enter gf #[rv]) w1)
    (hc : ∀ w1, Moves okT okT w w1 → Calls Tryz.prog gf #[rv] w1 fun e w2 => ∃ n okS1, e = .returned (.int .i64 n) ∧ Post n okS1 w2 ∧ Moves okS okS1 w1 w2) :
    Calls Tryz.prog 61 #[.pointer (some ⟨tb, 0, none⟩), .func (.func gf) #[rv] #[]] w fun e w' => ∃ n okT1 okS1, e = .returned (.int .i64 n) ∧ IsThread okT1 tb work { log := th.log ++ [n], at_ := th.at_ + 1, spent := true, in_ := true, done := th.done, out := th.out } w' ∧ Post n okS1 w' ∧ (∀ k, okT1 k → ¬ okS1 k) ∧ Moves (fun k => okT k ∨ okS k) (fun k => okT1 k ∨ okS1 k) w w' := by
  obtain ⟨lv, A, c, h⟩ := h
  obtain ⟨H1, H2, hbx, hR, hcc, ho⟩ := id h
  obtain ⟨Al, cl, rfl⟩ := Kd.R_slice hR
  have HI := Aside0.mk h
  have HC := Aside0.mk hc
  have HE := Aside0.mk he
  have HD := Aside0.mk hd
  have HP := Aside0.mk hP
  have HBD := Aside0.mk hb
  have H0 := Aside0.mk H1
  have H2L := Aside0.mk H2
  have HT := Aside0.mk hat
  have HIN := Aside0.mk hin
  have HBX := Aside0.mk hbx
  have c1 : w.cell? ⟨tb, 1, none⟩ = some (.slice Al th.log.length cl) := (blk_cell hbx 1).trans rfl
  have c2 : w.cell? ⟨tb, 2, none⟩ = some (.int .i64 th.at_) := (blk_cell hbx 2).trans rfl
  have c3 : w.cell? ⟨tb, 3, none⟩ = some (.bool false) := (blk_cell hbx 3).trans (by rw [← hs]; rfl)
  have c4 : w.cell? ⟨tb, 4, none⟩ = some (.bool true) := (blk_cell hbx 4).trans (by rw [← hin]; rfl)
  have f3 := blk_frozen hbx 3
  have f4 := blk_frozen hbx 4
  have d1 : decide (th.at_ < (th.log.length : Int)) = false := decide_eq_false (by omega)
  clear h ho hcc H1 H2 hbx hR hin hs hat hd hP hb hc he
  go_enter Tryz.func61, Tryz.ntmps61
  go_wp2_with fail
  go_quiet (fail)
  rename_i nq
  go_wp2_with fail
  have HB1 := Aside0.mk (blk_set (blk_set (w := w.drewN nq) HBX.out 3 (.bool true)) 4 (.bool false))
  have HM1 := Aside0.mk ((((Moves.refl okT w).drewN nq).set (p := ⟨tb, 3, none⟩) (.inl H0.out) (.bool true)).set (p := ⟨tb, 4, none⟩) (.inl H0.out) (.bool false))
  have HI1 := Aside0.mk (((HI.out.drewN nq).spent_set true).in_set false)
  clear HI HBX c1 c2 c3 c4 f3 f4
  generalize ((w.drewN nq).setCell ⟨tb, 3, none⟩ (.bool true)).setCell ⟨tb, 4, none⟩ (.bool false) = w1 at HB1 HM1 HI1 ⊢
  rw [HE.out, Oper.upon_enter]
  refine (HC.out w1 HM1.out).mono ?_
  rintro e w2 ⟨n, okS1, rfl, hpost, hmv⟩
  dsimp only
  have htS : ¬ okS tb := HD.out tb H0.out
  have HB2 := Aside0.mk ((hmv.block tb (blk_lt HB1.out) htS).trans HB1.out)
  have HI2 := Aside0.mk (HI1.out.step hmv.size (fun k hk hlt => hmv.block k hlt (HD.out k hk)))
  have HM2 : Aside0 (Moves (fun k => okT k ∨ okS k) (fun k => okT k ∨ okS1 k) w w2) := ⟨((HM1.out.part (ok := fun k => okT k ∨ okS k) (okB := okS) (fun _ h => .inl h) (fun _ h => .inr h)).trans (hmv.part (okB := okT) (fun _ h => .inr h) (fun _ h => .inl h))).owns (fun k hk => hk.elim (fun h => .inl (.inl h)) (fun h => (hmv.fresh k h).elim (fun h => .inl (.inr h)) (fun h => .inr (Nat.le_trans HM1.out.size h))))⟩
  have HPO := Aside0.mk hpost
  have HD1 : Aside0 (∀ k, okT k → ¬ okS1 k) := ⟨fun k hk hk1 => (hmv.fresh k hk1).elim (HD.out k hk) (fun h => by have := H2L.out k hk; have := HM1.out.size; omega)⟩
  have HBL := Aside0.mk (HBD.out n okS1 w2 hpost)
  have f4 := blk_frozen HB2.out 4
  have c4 : w2.cell? ⟨tb, 4, none⟩ = some (.bool false) := (blk_cell HB2.out 4).trans rfl
  clear hmv hpost HB1 HM1 HI1
  go_upto_region 11 with fail
  have n0_ := Aside0.mk (HI2.out.in_set true)
  have n1_ := Aside0.mk (HM2.out.set (p := ⟨tb, 4, none⟩) (.inl (.inl H0.out)) (.bool true))
  have n2_ := Aside0.mk (HP.out n okS1 _ (w2.setCell ⟨tb, 4, none⟩ (.bool true)) HPO.out (by simp [World.setCell]) (fun k hk _ => Below.heap_setCell w2 ⟨tb, 4, none⟩ (.bool true) k (fun e => HD1.out k ((show k = tb from e) ▸ H0.out) hk)))
  have n3_ := Aside0.mk (blk_set HB2.out 4 (.bool true))
  have n4_ : Aside0 (∀ k, okS1 k → k < (w2.setCell ⟨tb, 4, none⟩ (.bool true)).heap.size) := ⟨fun k hk => by simpa [World.setCell] using HBL.out k hk⟩
  clear HI2 HM2 HPO HB2 HBL f4 c4
  generalize w2.setCell ⟨tb, 4, none⟩ (.bool true) = w3 at n0_ n1_ n2_ n3_ n4_ ⊢
  have c1 : w3.cell? ⟨tb, 1, none⟩ = some (.slice Al th.log.length cl) := (blk_cell n3_.out 1).trans rfl
  go_upto_region 12 with (first | ((with_reducible refine gate_builtin (b := .append) (xs := #[.tmp 68, .tmp 70]) rfl ?_); at_builtin; refine Kd.R_append (Kd.int .i64) (w0 := w3) 0 rfl (.tmp 68) (.tmp 70) 28 2 (.int .i64 0) 8 rfl Tryz.underlying28 info64 rfl (by decide) (by omega) (.slice Al th.log.length cl) th.log n [.int .i64 n] (fun k => (okT k ∧ k ≠ tb) ∨ w3.heap.size ≤ k) (fun _ => False) rfl (by first | (go_simp; done) | (go_simp; rfl)) ?aP (fun _ hk => hk.elim) ?aF ?aO ?aB ?aS ?aL ?_; (case aP => exact rfl); (case aF => exact fun k hk => .inr hk); (case aO => exact Kd.R_mono n0_.out.2.2.2.1 (fun k hk => .inl hk)); (case aB => exact Below.refl _ _); (case aS => exact Nat.zero_le _); (case aL => have := hl; omega); intro v5 w5 ho hb5 hg hat; obtain ⟨A5, cc5, rfl⟩ := Kd.R_slice ho; have m0_ := Aside0.mk ho; have m1_ := Aside0.mk hg; have m2_ := Aside0.mk hat; have f1 : w5.frozen? ⟨tb, 1, none⟩ = false := blk_frozen (blk_grown n3_.out hg (fun e => (n0_.out.2.2.2.1.1 tb e.symm).2 rfl)) 1; have c5 : w5.cell? ⟨tb, 1, none⟩ = some (.slice Al th.log.length cl) := (blk_cell (blk_grown n3_.out hg (fun e => (n0_.out.2.2.2.1.1 tb e.symm).2 rfl)) 1).trans rfl; clear ho hb5 hg hat))
  have n5_ := Aside0.mk (n0_.out.log_set (Nat.le_refl _) m1_.out m2_.out m0_.out)
  have n6_ : Aside0 (Moves (fun k => okT k ∨ okS k) (fun k => okT k ∨ okS1 k) w (w5.setCell ⟨tb, 1, none⟩ (.slice A5 (th.log ++ [n]).length cc5))) := ⟨(n1_.out.grown m1_.out (fun k hk => .inl (.inl (n0_.out.2.2.2.1.1 k hk).1))).set (p := ⟨tb, 1, none⟩) (.inl (.inl H0.out)) _⟩
  have n7_ := Aside0.mk (HP.out n okS1 w3 (w5.setCell ⟨tb, 1, none⟩ (.slice A5 (th.log ++ [n]).length cc5)) n2_.out (by simpa [World.setCell] using m1_.out.size) (fun k hk hlt => (Below.heap_setCell w5 ⟨tb, 1, none⟩ _ k (fun e => HD1.out k ((show k = tb from e) ▸ H0.out) hk)).trans (m1_.out.block k hlt (fun e => HD1.out k (n0_.out.2.2.2.1.1 k e.symm).1 hk))))
  have n8_ : Aside0 (∀ k, okS1 k → k < w3.heap.size) := n4_
  have el : (th.log ++ [n]).length = th.log.length + 1 := by simp
  rw [el] at n5_ n6_ n7_
  have n9_ : Aside0 (w3.heap.size ≤ (w5.setCell ⟨tb, 1, none⟩ (.slice A5 (th.log.length + 1) cc5)).heap.size) := ⟨by simpa [World.setCell] using m1_.out.size⟩
  have n10_ : Aside0 (w.heap.size ≤ w3.heap.size) := ⟨n1_.out.size⟩
  have n11_ : Aside0 ((w5.setCell ⟨tb, 1, none⟩ (.slice A5 (th.log.length + 1) cc5)).heap.size = w5.heap.size) := ⟨by simp [World.setCell]⟩
  clear n0_ n1_ n2_ n3_ n4_ m0_ m1_ m2_ el c1
  generalize w5.setCell ⟨tb, 1, none⟩ (.slice A5 (th.log.length + 1) cc5) = w6 at n5_ n6_ n7_ n9_ n11_ ⊢
  have c2 : w6.cell? ⟨tb, 2, none⟩ = some (.int .i64 th.at_) := (blk_cell n5_.out.2.2.1 2).trans rfl
  have f2 : w6.frozen? ⟨tb, 2, none⟩ = false := blk_frozen n5_.out.2.2.1 2
  have hw1 : wrap64 (th.at_ + 1) = th.at_ + 1 := by have := HT.out; unfold wrap64; omega
  go_wp2_with fail
  go_ret
  refine ⟨n, rfl, _, ⟨_, _, _, n5_.out.at_set (th.at_ + 1)⟩, okS1, ?_, ?_, ?_⟩
  · exact HP.out n okS1 w6 _ n7_.out (by simp [World.setCell]) (fun k hk _ => Below.heap_setCell w6 ⟨tb, 2, none⟩ _ k (fun e => HD1.out k ((show k = tb from e) ▸ H0.out) hk))
  · rintro k (hk | hk) hk1
    · exact HD1.out k hk hk1
    · have := n8_.out k hk1
      omega
  · refine (n6_.out.set (p := ⟨tb, 2, none⟩) (.inl (.inl H0.out)) _).owns ?_
    rintro k ((hk | hk) | hk)
    · exact .inl (.inl hk)
    · have := n10_.out
      exact .inr (by omega)
    · exact n6_.out.fresh k (.inr hk)
theorem do_callsM {X : Type} {Sh : X → (Nat → Prop) → World → Prop} (S : Shared Sh) (f : X → Int × X) (tb : Nat) (work : Value) (ok : Nat → Prop) (s : TS X) (w : World) (gf : FuncId) (rv : Value) (h : IsRun Sh tb work ok s w)
    (he : ∀ w1 : World, (callFunc gf #[rv]).run Tryz.prog w1 = .ok (.enter gf #[rv]) w1)
    (hc : ∀ w1 okS, Moves ok ok w w1 → (∀ k, okS k → ok k) → Sh s.sh okS w → Sh s.sh okS w1 → (∀ k, okS k → k < w.heap.size → w1.heap[k]? = w.heap[k]?) → Calls Tryz.prog gf #[rv] w1 fun e w2 => ∃ okS1, e = .returned (.int .i64 (f s.sh).1) ∧ Sh (f s.sh).2 okS1 w2 ∧ Moves okS okS1 w1 w2)
    (res : Out Int × TS X) (hr : doT f s = some res) :
    Calls Tryz.prog 61 #[.pointer (some ⟨tb, 0, none⟩), .func (.func gf) #[rv] #[]] w (TPost Sh tb work VInt ok w res) := by
  have hle := h.le
  have hsh := h.short
  obtain ⟨okT, okS, h1, h2, h3, h4⟩ := h.out
  unfold doT at hr
  by_cases ha : s.at_ < s.log.length
  · rw [if_pos ha] at hr
    injection hr with hr
    subst hr
    refine (do_told okT tb work _ w _ _ _ h3 rfl (by simp) (by simpa using ha) hsh _ rfl).mono ?_
    rintro e w1 ⟨rfl, ht, hm⟩
    refine ⟨⟨ok, moves_same (ok1 := ok) (okB := ok) hm (fun k hk => (h1 k).2 (.inl hk)), ⟨by show s.at_ + 1 ≤ s.log.length; omega, hsh, okT, okS, h1, h2, ?_, S.step h4 hm.size (fun k hk hlt => hm.block k hlt (fun h5 => h2 k h5 hk))⟩, _, rfl, ?_⟩⟩
    · simpa using ht
    · simp [VInt]
  · rw [if_neg ha] at hr
    have hat : s.at_ = s.log.length := by omega
    by_cases hs : s.spent = true
    · rw [if_pos hs] at hr
      injection hr with hr
      subst hr
      refine (do_waits okT tb work _ w _ _ _ h3 rfl (by show (s.log.length : Int) ≤ (s.at_ : Int); omega) hs).mono ?_
      rintro e w1 ⟨rfl, ht, hm⟩
      exact ⟨⟨ok, moves_same (ok1 := ok) (okB := ok) hm (fun k hk => (h1 k).2 (.inl hk)), ⟨hle, hsh, okT, okS, h1, h2, ht, S.step h4 hm.size (fun k hk hlt => hm.block k hlt (fun h5 => h2 k h5 hk))⟩, rfl⟩⟩
    · rw [if_neg hs] at hr
      by_cases hl : 999999 ≤ s.log.length
      · rw [if_pos hl] at hr
        cases hr
      rw [if_neg hl] at hr
      injection hr with hr
      subst hr
      have hlen : (s.log ++ [(f s.sh).1]).length < 1000000 := by simp; omega
      refine (do_doesM okT okS tb work _ w gf rv (fun n okS1 w1 => n = (f s.sh).1 ∧ Sh (f s.sh).2 okS1 w1) h3 rfl (by show (s.at_ : Int) = (s.log.length : Int); omega) (by simpa using hs) hsh h2
        (fun n ok1 w1 w2 hp hsz hm => ⟨hp.1, S.step hp.2 hsz hm⟩) (fun n ok1 w1 hp => S.lt hp.2) he
        (fun w1 hm => (hc w1 okS (moves_same (ok1 := ok) (okB := ok) hm (fun k hk => (h1 k).2 (.inl hk))) (fun k hk => (h1 k).2 (.inr hk)) h4 (S.step h4 hm.size (fun k hk hlt => hm.block k hlt (fun h5 => h2 k h5 hk))) (fun k hk hlt => hm.block k hlt (fun h5 => h2 k h5 hk))).mono (fun e w2 hh => by
          obtain ⟨okS1, rfl, hp, hmv⟩ := hh
          exact ⟨_, okS1, rfl, ⟨rfl, hp⟩, hmv⟩))).mono ?_
      rintro e w1 ⟨n, okT1, okS1, rfl, ht, ⟨rfl, hp⟩, hd, hm⟩
      refine ⟨⟨fun k => okT1 k ∨ okS1 k, ⟨hm.os, hm.tape, hm.output, hm.size, fun k hk hn => hm.block k hk (fun h5 => hn ((h1 k).2 h5)), fun k hk => (hm.fresh k hk).imp (h1 k).2 id⟩, ⟨by simp [hat], hlen, okT1, okS1, fun _ => Iff.rfl, hd, ?_, hp⟩, _, rfl, rfl⟩⟩
      simpa using ht
end Go.Proofs.YthlmgbdknjilpaaGreat.Tower
namespace Go.Proofs.YthlmgbdknjilpaaGreat.Tower
open Go Go.RowKit Go.Proofs.YthlmgbdknjilpaaGreatW.PrintWords Go.Proofs.YthlmgbdknjilpaaGreatW.PrintLast Go.Proofs.YthlmgbdknjilpaaGreatW.PrintMore Go.Proofs.YthlmgbdknjilpaaGreat.Own
set_option linter.unusedVariables false
set_option linter.unusedSimpArgs false

def Ep.has (x : Ep) (t : Int) : Bool := decide (0 ≤ t) && decide (t < x.said.length)
def Ep.swap (x : Ep) (old : Int) : Bool × Ep := if x.now = old then (true, { x with now := wrap64 (x.now + 1) }) else (false, x)
def Ep.say (x : Ep) (t n : Int) : Ep := if x.has t then { x with said := x.said.set t.toNat n } else x
def Ep.saidOf (x : Ep) (t : Int) : Int := if x.has t then x.said.getD t.toNat 0 else -1
section
variable {ok : Nat → Prop} {p : Nat} {sv lv : Value} {gv : Nat → Value} {ρ : Nat → Nat} {x : Ep} {w : World}
theorem EpochAt.now_set (h : EpochAt ok p sv lv gv ρ x w) (n : Int) : EpochAt ok p sv lv gv ρ { x with now := n } (w.setCell ⟨p, 0, none⟩ (.int .i64 n)) where
  own := h.own
  role := h.role
  lt := fun k hk => by simpa [World.setCell] using h.lt k hk
  len := h.len
  box := blk_set h.box 0 _
  said := Kd.R_far h.said (fun k hk e => by have := h.role; rw [← show k = p from e, hk.2] at this; omega) _
  row := Kd.R_far h.row (fun k hk e => by have := h.role; rw [← show k = p from e, hk.2] at this; omega) _
  limbo := fun i l hi => Kd.Q_far (h.limbo i l hi) (fun k hk e => by have := h.role; rw [← show k = p from e, hk.2] at this; omega) _
theorem EpochAt.said_set {g n cap : Nat} (h : EpochAt ok p (.slice (some ⟨g, 0, none⟩) n cap) lv gv ρ x w) (i : Nat) (hi : i < x.said.length) (v : Int) :
    EpochAt ok p (.slice (some ⟨g, 0, none⟩) n cap) lv gv ρ { x with said := x.said.set i v } (w.setCell ⟨g, i, none⟩ (.int .i64 v)) := by
  have hg := h.said.1 g (by simp [Value.ownBlock])
  have hne : ∀ r, r ≠ 1 → ∀ k, (ok k ∧ ρ k = r) → k ≠ g := fun r hr k hk e => by rw [e, hg.2] at hk; exact hr hk.2.symm
  have hn := (Kd.R_reads' h.said).1
  subst hn
  exact {
    own := h.own
    role := h.role
    lt := fun k hk => by simpa [World.setCell] using h.lt k hk
    len := by rw [h.len]; simp
    box := blk_far h.box (p := ⟨g, i, none⟩) (fun e => by have := hg.2; rw [← show p = g from e, h.role] at this; cases this) _
    said := by
      have h2 := (Kd.R_put h.said (i : Int) v).1
      rw [Int.toNat_natCast] at h2
      exact h2
    row := Kd.R_far h.row (hne 2 (by decide)) _
    limbo := fun j l hj => Kd.Q_far (h.limbo j l hj) (hne (3 + j) (by omega)) _ }
end

set_option maxHeartbeats 2000000 in
set_option maxRecDepth 100000 in
theorem ep_in {ok : Nat → Prop} {p : Nat} {x : Ep} (t : Int) (w : World) (h : IsEpochs ok p x w) (hg : x.Good) :
    Calls Tryz.prog 92 #[.pointer (some ⟨p, 0, none⟩), .int .i64 t] w fun e w1 => e = .returned (.bool (x.has t)) ∧ w1 = w := by
  obtain ⟨sv, lv, gv, ρ, h⟩ := h
  obtain ⟨A, c, rfl⟩ := Kd.R_slice h.said
  have c1 : w.cell? ⟨p, 1, none⟩ = some (.slice A x.said.length c) := (blk_cell h.box 1).trans rfl
  have hb := hg.few
  have hh : x.has t = (decide (0 ≤ t) && decide (t < x.said.length)) := rfl
  rw [hh]
  clear h hg hh
  by_cases h0 : 0 ≤ t
  · have d1 : decide (t ≥ 0) = true := decide_eq_true h0
    have d1' : decide (0 ≤ t) = true := d1
    by_cases h1 : t < (x.said.length : Int)
    · have d2 : decide (t < (x.said.length : Int)) = true := decide_eq_true h1
      rw [d1', d2]
      clear h0 h1
      go_enter Tryz.func92, Tryz.ntmps92
      go_wp2_with fail
      go_ret
      exact ⟨rfl, rfl⟩
    · have d2 : decide (t < (x.said.length : Int)) = false := decide_eq_false h1
      rw [d1', d2]
      clear h0 h1
      go_enter Tryz.func92, Tryz.ntmps92
      go_wp2_with fail
      go_ret
      exact ⟨rfl, rfl⟩
  · have d1 : decide (t ≥ 0) = false := decide_eq_false h0
    have d1' : decide (0 ≤ t) = false := d1
    rw [d1']
    clear h0
    go_enter Tryz.func92, Tryz.ntmps92
    go_wp2_with fail
    go_ret
    exact ⟨rfl, rfl⟩
set_option maxHeartbeats 2000000 in
set_option maxRecDepth 100000 in
theorem ep_now {ok : Nat → Prop} {p : Nat} {x : Ep} (w : World) (h : IsEpochs ok p x w) :
    Calls Tryz.prog 19 #[.pointer (some ⟨p, 0, none⟩)] w fun e w1 => e = .returned (.int .i64 x.now) ∧ w1 = w := by
  obtain ⟨sv, lv, gv, ρ, h⟩ := h
  have c1 : w.cell? ⟨p, 0, none⟩ = some (.int .i64 x.now) := (blk_cell h.box 0).trans rfl
  clear h
  go_enter Tryz.func19, Tryz.ntmps19
  go_wp2_with fail
  go_ret
  exact ⟨rfl, rfl⟩
set_option maxHeartbeats 2000000 in
set_option maxRecDepth 100000 in
theorem ep_len {ok : Nat → Prop} {p : Nat} {x : Ep} (w : World) (h : IsEpochs ok p x w) :
    Calls Tryz.prog 64 #[.pointer (some ⟨p, 0, none⟩)] w fun e w1 => e = .returned (.int .i64 x.said.length) ∧ w1 = w := by
  obtain ⟨sv, lv, gv, ρ, h⟩ := h
  obtain ⟨A, c, rfl⟩ := Kd.R_slice h.said
  have c1 : w.cell? ⟨p, 1, none⟩ = some (.slice A x.said.length c) := (blk_cell h.box 1).trans rfl
  clear h
  go_enter Tryz.func64, Tryz.ntmps64
  go_wp2_with fail
  go_ret
  exact ⟨rfl, rfl⟩
structure EpPost (ok : Nat → Prop) (p : Nat) (v : Value) (x1 : Ep) (w : World) (e : Ending) (w1 : World) : Prop where
  val : e = .returned v
  ep : IsEpochs ok p x1 w1
  moves : Moves ok ok w w1
set_option maxHeartbeats 2000000 in
set_option maxRecDepth 100000 in
theorem ep_swap {ok : Nat → Prop} {p : Nat} {x : Ep} (old : Int) (w : World) (h : IsEpochs ok p x w) :
    Calls Tryz.prog 69 #[.pointer (some ⟨p, 0, none⟩), .int .i64 old] w (EpPost ok p (.bool (x.swap old).1) (x.swap old).2 w) := by
  obtain ⟨sv, lv, gv, ρ, h⟩ := h
  have c1 : w.cell? ⟨p, 0, none⟩ = some (.int .i64 x.now) := (blk_cell h.box 0).trans rfl
  have f1 := blk_frozen h.box 0
  have HI := Aside0.mk h
  by_cases hn : x.now = old
  · have e1 : x.swap old = (true, { x with now := wrap64 (x.now + 1) }) := by simp [Ep.swap, hn]
    rw [e1]
    subst hn
    have hb : (x.now == x.now) = true := beq_self_eq_true _
    clear h e1
    go_enter Tryz.func69, Tryz.ntmps69
    go_wp2_with fail
    go_ret
    exact ⟨rfl, ⟨_, _, _, _, HI.out.now_set _⟩, (Moves.refl ok w).set (p := ⟨p, 0, none⟩) (.inl HI.out.own) _⟩
  · have e1 : x.swap old = (false, x) := by simp [Ep.swap, hn]
    rw [e1]
    have hb : (x.now == old) = false := by simpa using hn
    have hb2 : (x.now != old) = true := by simpa using hn
    clear h e1 hn
    go_enter Tryz.func69, Tryz.ntmps69
    go_wp2_with fail
    go_ret
    exact ⟨rfl, ⟨_, _, _, _, HI.out⟩, Moves.refl _ _⟩
set_option maxHeartbeats 2000000 in
set_option maxRecDepth 100000 in
theorem ep_said {ok : Nat → Prop} {p : Nat} {x : Ep} (t : Int) (w : World) (h : IsEpochs ok p x w) (hg : x.Good) :
    Calls Tryz.prog 66 #[.pointer (some ⟨p, 0, none⟩), .int .i64 t] w fun e w1 => e = .returned (.int .i64 (x.saidOf t)) ∧ w1 = w := by
  have HIN := Aside0.mk (ep_in t w h hg)
  obtain ⟨sv, lv, gv, ρ, h⟩ := h
  obtain ⟨A, c, rfl⟩ := Kd.R_slice h.said
  have c1 : w.cell? ⟨p, 1, none⟩ = some (.slice A x.said.length c) := (blk_cell h.box 1).trans rfl
  cases hh : x.has t with
  | true =>
    have e1 : x.saidOf t = x.said.getD t.toNat 0 := by simp [Ep.saidOf, hh]
    have hb : 0 ≤ t ∧ t < x.said.length := by simpa [Ep.has] using hh
    obtain ⟨b0, b1⟩ := hb
    obtain ⟨gl, rfl, _, hcl⟩ := int_elem h.said t b0 b1
    rw [e1]
    generalize x.said.getD t.toNat 0 = v at hcl ⊢
    have HH := Aside0.mk hh
    clear h hg e1 hh
    go_enter Tryz.func66, Tryz.ntmps66
    go_wp2_with (go_at_call 92; refine HIN.out.mono ?_; rintro e w1 ⟨rfl, rfl⟩; rw [HH.out])
    go_ret
    exact ⟨rfl, rfl⟩
  | false =>
    have e1 : x.saidOf t = -1 := by simp [Ep.saidOf, hh]
    rw [e1]
    have HH := Aside0.mk hh
    clear h hg e1 hh
    go_enter Tryz.func66, Tryz.ntmps66
    go_wp2_with (go_at_call 92; refine HIN.out.mono ?_; rintro e w1 ⟨rfl, rfl⟩; rw [HH.out])
    go_ret
    exact ⟨rfl, rfl⟩
set_option maxHeartbeats 2000000 in
set_option maxRecDepth 100000 in
theorem ep_say {ok : Nat → Prop} {p : Nat} {x : Ep} (t n : Int) (w : World) (h : IsEpochs ok p x w) (hg : x.Good) :
    Calls Tryz.prog 63 #[.pointer (some ⟨p, 0, none⟩), .int .i64 t, .int .i64 n] w (EpPost ok p (.tuple #[]) (x.say t n) w) := by
  have HIN := Aside0.mk (ep_in t w h hg)
  obtain ⟨sv, lv, gv, ρ, h⟩ := h
  obtain ⟨A, c, rfl⟩ := Kd.R_slice h.said
  have c1 : w.cell? ⟨p, 1, none⟩ = some (.slice A x.said.length c) := (blk_cell h.box 1).trans rfl
  have HI := Aside0.mk h
  cases hh : x.has t with
  | true =>
    have hb : 0 ≤ t ∧ t < x.said.length := by simpa [Ep.has] using hh
    obtain ⟨b0, b1⟩ := hb
    have e1 : x.say t n = { x with said := x.said.set t.toNat n } := by simp [Ep.say, hh]
    obtain ⟨gl, rfl, hgl, hcl⟩ := int_elem h.said t b0 b1
    rw [e1]
    have hfz := (Kd.R_cell (0 : Int) h.said t b0 b1).2
    have HH := Aside0.mk hh
    have HO := Aside0.mk hgl
    have HT : Aside0 (t.toNat < x.said.length) := ⟨by omega⟩
    clear h hg e1 hh hgl
    go_enter Tryz.func63, Tryz.ntmps63
    go_wp2_with (go_at_call 92; refine HIN.out.mono ?_; rintro e w1 ⟨rfl, rfl⟩; rw [HH.out])
    go_end0
    exact ⟨rfl, ⟨_, _, _, _, HI.out.said_set t.toNat HT.out n⟩, (Moves.refl ok _).set (p := ⟨gl, t.toNat, none⟩) (.inl HO.out.1) _⟩
  | false =>
    have e1 : x.say t n = x := by simp [Ep.say, hh]
    rw [e1]
    have HH := Aside0.mk hh
    clear h hg e1 hh
    go_enter Tryz.func63, Tryz.ntmps63
    go_wp2_with (go_at_call 92; refine HIN.out.mono ?_; rintro e w1 ⟨rfl, rfl⟩; rw [HH.out])
    go_end0
    exact ⟨rfl, ⟨_, _, _, _, HI.out⟩, Moves.refl _ _⟩
end Go.Proofs.YthlmgbdknjilpaaGreat.Tower
namespace Go.Proofs.YthlmgbdknjilpaaGreat.Tower
open Go Go.RowKit Go.Proofs.YthlmgbdknjilpaaGreatW.PrintWords Go.Proofs.YthlmgbdknjilpaaGreatW.PrintLast Go.Proofs.YthlmgbdknjilpaaGreatW.PrintMore Go.Proofs.YthlmgbdknjilpaaGreat.Own
set_option linter.unusedVariables false
set_option linter.unusedSimpArgs false

theorem Ep.Good.say {x : Ep} (h : x.Good) (t n : Int) : (x.say t n).Good := by
  unfold Ep.say
  split
  · exact ⟨by simpa using h.few⟩
  · exact h
theorem Ep.Good.swap {x : Ep} (h : x.Good) (n : Int) : (x.swap n).2.Good := by
  unfold Ep.swap
  split
  · exact ⟨h.few⟩
  · exact h
def TBeg1 : Bool × List (List Nat × List Nat) := (true, [([], []), ([0], [0]), ([1], [1]), ([2], [2]), ([3], [3]), ([], []), ([5], [5]), ([], []), ([4, 6, 7], [4, 6, 7])])
def BBeg1 : List Nat := [0, 1, 3, 7, 15, 0, 32, 0, 255]
theorem tabBeg1 : rtab .any (opsOf Tryz.f62 1) = TBeg1 := by kernel_rfl
theorem bitsBeg1 : waitsOk TBeg1.2 BBeg1 = true := by kernel_rfl

set_option maxHeartbeats 2000000 in
set_option maxRecDepth 100000 in
theorem begin1_calls (p : Nat) (x : Ws) (me now : Int) (w : World) (okS : Nat → Prop) (bt bn : Nat) (h : shW p x okS w) (g0 : w.cell? ⟨bt, 1, none⟩ = some (.pointer (some ⟨p, 0, none⟩))) (g2 : w.cell? ⟨bt, 2, none⟩ = some (.int .i64 me)) (g3 : w.cell? ⟨bn, 0, none⟩ = some (.int .i64 now)) :
    Calls Tryz.prog 62 #[.pointer (some ⟨bt, 0, none⟩), .pointer (some ⟨bn, 0, none⟩)] w fun e w2 => ∃ okS1, e = .returned (.int .i64 0) ∧ shW p { x with ep := x.ep.say me now } okS1 w2 ∧ Moves okS okS1 w w2 := by
  obtain ⟨⟨okA, okR, okE, pA, pR, pE, h⟩, hg⟩ := h
  have HW := Aside0.mk h
  have HG := Aside0.mk hg
  have hp := (blk_cell h.box 2).trans (rfl : _ = some (Value.pointer (some ⟨pE, 0, none⟩)))
  have HC := Aside0.mk (And.intro g0 (And.intro hp (And.intro g2 g3)))
  clear h hg hp g0 g2 g3
  go_enter Tryz.func62, Tryz.ntmps62
  go_upto_region 1 with fail
  refine start_ (n := 9) (S := fun w' => w'.cell? ⟨bt, 1, none⟩ = some (.pointer (some ⟨p, 0, none⟩)) ∧ w'.cell? ⟨p, 2, none⟩ = some (.pointer (some ⟨pE, 0, none⟩)) ∧ w'.cell? ⟨bt, 2, none⟩ = some (.int .i64 me) ∧ w'.cell? ⟨bn, 0, none⟩ = some (.int .i64 now)) (ds := [8]) #[false, false, false, false, false, false, false, false, false] (by kernel_rfl) rfl rfl HC.out (fun hHeld => ?_); refine with_tabW tabBeg1 bitsBeg1 (fun HT_ HW_ => ?_)
  have HW := Aside0.mk (HW.out.step (w1 := w.drew) (Nat.le_refl _) (fun _ _ _ => rfl))
  have HM := Aside0.mk ((Moves.refl okS w).drew)
  clear HC
  generalize World.drew _ = w1 at HW HM hHeld ⊢
  refine pure_ (i := 0) (N := (some 3)) (v := ?_) (a' := ?_) #[true, false, false, false, false, false, false, false, false] rfl rfl (any_of HT_.out (by kernel_rfl)) (fun _ _ _ h => h) (Or.inl ⟨by rfl, ?_⟩) ?_ ?_
  rotate_left
  · intro w'
    go_simp
    with_reducible rfl
  rotate_left
  · simp only [Act.put, List.setIfInBounds_toArray, List.set_cons_zero, List.set_cons_succ, i64_w, i32_w]
    rfl
  refine take_ (i := 1) (N := (some 4)) (v := ?_) (a' := ?_) #[true, true, false, false, false, false, false, false, false] rfl rfl (take_ofW HT_.out HW_.out (by kernel_rfl)) (fun _ _ _ h => h) (Or.inl ⟨by rfl, ?_⟩) hHeld ?_ ?_
  rotate_left
  · rintro w' ⟨s0, s1, s2, s3⟩
    go_simp
    with_reducible rfl
  rotate_left
  · simp only [Act.put, List.setIfInBounds_toArray, List.set_cons_zero, List.set_cons_succ, i64_w, i32_w]
    rfl
  refine pure_ (i := 2) (N := (some 5)) (v := ?_) (a' := ?_) #[true, true, true, false, false, false, false, false, false] rfl rfl (any_of HT_.out (by kernel_rfl)) (fun _ _ _ h => h) (Or.inl ⟨by rfl, ?_⟩) ?_ ?_
  rotate_left
  · intro w'
    go_simp
    with_reducible rfl
  rotate_left
  · simp only [Act.put, List.setIfInBounds_toArray, List.set_cons_zero, List.set_cons_succ, i64_w, i32_w]
    rfl
  refine pure_ (i := 3) (N := (some 6)) (v := ?_) (a' := ?_) #[true, true, true, true, false, false, false, false, false] rfl rfl (any_of HT_.out (by kernel_rfl)) (fun _ _ _ h => h) (Or.inl ⟨by rfl, ?_⟩) ?_ ?_
  rotate_left
  · intro w'
    go_simp
    with_reducible rfl
  rotate_left
  · simp only [Act.put, List.setIfInBounds_toArray, List.set_cons_zero, List.set_cons_succ, i64_w, i32_w]
    rfl
  refine take_ (i := 4) (N := (some 7)) (v := ?_) (a' := ?_) #[true, true, true, true, true, false, false, false, false] rfl rfl (take_ofW HT_.out HW_.out (by kernel_rfl)) (fun _ _ _ h => h) (Or.inl ⟨by rfl, ?_⟩) hHeld ?_ ?_
  rotate_left
  · rintro w' ⟨s0, s1, s2, s3⟩
    go_simp
    with_reducible rfl
  rotate_left
  · simp only [Act.put, List.setIfInBounds_toArray, List.set_cons_zero, List.set_cons_succ, i64_w, i32_w]
    rfl
  refine pure_ (i := 5) (N := (some 8)) (v := ?_) (a' := ?_) #[true, true, true, true, true, true, false, false, false] rfl rfl (any_of HT_.out (by kernel_rfl)) (fun _ _ _ h => h) (Or.inl ⟨by rfl, ?_⟩) ?_ ?_
  rotate_left
  · intro w'
    go_simp
    with_reducible rfl
  rotate_left
  · simp only [Act.put, List.setIfInBounds_toArray, List.set_cons_zero, List.set_cons_succ, i64_w, i32_w]
    rfl
  refine take_ (i := 6) (N := (some 9)) (v := ?_) (a' := ?_) #[true, true, true, true, true, true, true, false, false] rfl rfl (take_ofW HT_.out HW_.out (by kernel_rfl)) (fun _ _ _ h => h) (Or.inl ⟨by rfl, ?_⟩) hHeld ?_ ?_
  rotate_left
  · rintro w' ⟨s0, s1, s2, s3⟩
    go_simp
    with_reducible rfl
  rotate_left
  · simp only [Act.put, List.setIfInBounds_toArray, List.set_cons_zero, List.set_cons_succ, i64_w, i32_w]
    rfl
  refine take_ (i := 7) (N := (some 10)) (v := ?_) (a' := ?_) #[true, true, true, true, true, true, true, true, false] rfl rfl (take_ofW HT_.out HW_.out (by kernel_rfl)) (fun _ _ _ h => h) (Or.inl ⟨by rfl, ?_⟩) hHeld ?_ ?_
  rotate_left
  · rintro w' ⟨s0, s1, s2, s3⟩
    go_simp
    with_reducible rfl
  rotate_left
  · simp only [Act.put, List.setIfInBounds_toArray, List.set_cons_zero, List.set_cons_succ, i64_w, i32_w]
    rfl
  refine last_ (i := 8) (N := (some 11)) #[true, true, true, true, true, true, true, true, true] rfl rfl (one_of HT_.out (by kernel_rfl)) (by decide) (fun K_ hK => ?_)
  refine call_ 63 #[.pointer (some ⟨pE, 0, none⟩), .int .i64 me, .int .i64 now] (by rfl) rfl ?hrun8 ?_
  (case hrun8 => first | (go_simp; done) | (go_simp; exact enters Tryz.func63 (by kernel_rfl) rfl _ _))
  refine (ep_say me now _ HW.out.ep HG.out.ep).mono ?_
  rintro e w2 ⟨rfl, hE, hM⟩
  have E2 := Aside0.mk hE
  have M2 := Aside0.mk hM
  clear hE hM
  refine ⟨_, rfl, ?_⟩
  refine hK.out _ _ ?_
  clear hK K_
  refine norm_ (a' := ?_) ?_ ?_
  rotate_left
  · show Act.put _ (some 11) _ = _
    simp only [Act.put, List.setIfInBounds_toArray, List.set_cons_zero, List.set_cons_succ, i64_w, i32_w]
    rfl
  refine done_ (done_of HT_.out (by kernel_rfl)) ?_
  go_wp2_with fail
  go_ret
  exact ⟨_, rfl, ⟨⟨_, _, _, _, _, _, (HW.out.ep_moves E2.out M2.out).1⟩, ⟨HG.out.ar, HG.out.ep.say me now, HG.out.tb⟩⟩, HM.out.trans (HW.out.ep_moves E2.out M2.out).2⟩
def TBeg2 : Bool × List (List Nat × List Nat) := (true, [([], []), ([0], [0]), ([1], [1]), ([2], [2]), ([3], [3]), ([], []), ([4, 5], [4, 5]), ([6, 6, 0, 1, 2, 3, 4, 5, 6], [6])])
def BBeg2 : List Nat := [0, 1, 3, 7, 15, 0, 63, 127]
theorem tabBeg2 : rtab .any (opsOf Tryz.f65 1) = TBeg2 := by kernel_rfl
theorem bitsBeg2 : waitsOk TBeg2.2 BBeg2 = true := by kernel_rfl

set_option maxHeartbeats 2000000 in
set_option maxRecDepth 100000 in
theorem begin2_calls (p : Nat) (x : Ws) (k : Int) (w : World) (okS : Nat → Prop) (bt bk : Nat) (h : shW p x okS w) (g0 : w.cell? ⟨bt, 1, none⟩ = some (.pointer (some ⟨p, 0, none⟩))) (g2 : w.cell? ⟨bk, 0, none⟩ = some (.int .i64 k)) :
    Calls Tryz.prog 65 #[.pointer (some ⟨bt, 0, none⟩), .pointer (some ⟨bk, 0, none⟩)] w fun e w2 => ∃ okS1, e = .returned (.int .i64 (x.ep.saidOf k)) ∧ shW p x okS1 w2 ∧ Moves okS okS1 w w2 := by
  obtain ⟨⟨okA, okR, okE, pA, pR, pE, h⟩, hg⟩ := h
  have HW := Aside0.mk h
  have HG := Aside0.mk hg
  have hp := (blk_cell h.box 2).trans (rfl : _ = some (Value.pointer (some ⟨pE, 0, none⟩)))
  have HC := Aside0.mk (And.intro g0 (And.intro hp g2))
  clear h hg hp g0 g2
  go_enter Tryz.func65, Tryz.ntmps65
  go_upto_region 1 with fail
  refine start_ (n := 8) (S := fun w' => w'.cell? ⟨bt, 1, none⟩ = some (.pointer (some ⟨p, 0, none⟩)) ∧ w'.cell? ⟨p, 2, none⟩ = some (.pointer (some ⟨pE, 0, none⟩)) ∧ w'.cell? ⟨bk, 0, none⟩ = some (.int .i64 k)) (ds := [6]) #[false, false, false, false, false, false, false, false] (by kernel_rfl) rfl rfl HC.out (fun hHeld => ?_); refine with_tabW tabBeg2 bitsBeg2 (fun HT_ HW_ => ?_)
  have HW := Aside0.mk (HW.out.step (w1 := w.drew) (Nat.le_refl _) (fun _ _ _ => rfl))
  have HM := Aside0.mk ((Moves.refl okS w).drew)
  clear HC
  generalize World.drew _ = w1 at HW HM hHeld ⊢
  refine pure_ (i := 0) (N := (some 3)) (v := ?_) (a' := ?_) #[true, false, false, false, false, false, false, false] rfl rfl (any_of HT_.out (by kernel_rfl)) (fun _ _ _ h => h) (Or.inl ⟨by rfl, ?_⟩) ?_ ?_
  rotate_left
  · intro w'
    go_simp
    with_reducible rfl
  rotate_left
  · simp only [Act.put, List.setIfInBounds_toArray, List.set_cons_zero, List.set_cons_succ, i64_w, i32_w]
    rfl
  refine take_ (i := 1) (N := (some 4)) (v := ?_) (a' := ?_) #[true, true, false, false, false, false, false, false] rfl rfl (take_ofW HT_.out HW_.out (by kernel_rfl)) (fun _ _ _ h => h) (Or.inl ⟨by rfl, ?_⟩) hHeld ?_ ?_
  rotate_left
  · rintro w' ⟨s0, s1, s2⟩
    go_simp
    with_reducible rfl
  rotate_left
  · simp only [Act.put, List.setIfInBounds_toArray, List.set_cons_zero, List.set_cons_succ, i64_w, i32_w]
    rfl
  refine pure_ (i := 2) (N := (some 5)) (v := ?_) (a' := ?_) #[true, true, true, false, false, false, false, false] rfl rfl (any_of HT_.out (by kernel_rfl)) (fun _ _ _ h => h) (Or.inl ⟨by rfl, ?_⟩) ?_ ?_
  rotate_left
  · intro w'
    go_simp
    with_reducible rfl
  rotate_left
  · simp only [Act.put, List.setIfInBounds_toArray, List.set_cons_zero, List.set_cons_succ, i64_w, i32_w]
    rfl
  refine pure_ (i := 3) (N := (some 6)) (v := ?_) (a' := ?_) #[true, true, true, true, false, false, false, false] rfl rfl (any_of HT_.out (by kernel_rfl)) (fun _ _ _ h => h) (Or.inl ⟨by rfl, ?_⟩) ?_ ?_
  rotate_left
  · intro w'
    go_simp
    with_reducible rfl
  rotate_left
  · simp only [Act.put, List.setIfInBounds_toArray, List.set_cons_zero, List.set_cons_succ, i64_w, i32_w]
    rfl
  refine take_ (i := 4) (N := (some 7)) (v := ?_) (a' := ?_) #[true, true, true, true, true, false, false, false] rfl rfl (take_ofW HT_.out HW_.out (by kernel_rfl)) (fun _ _ _ h => h) (Or.inl ⟨by rfl, ?_⟩) hHeld ?_ ?_
  rotate_left
  · rintro w' ⟨s0, s1, s2⟩
    go_simp
    with_reducible rfl
  rotate_left
  · simp only [Act.put, List.setIfInBounds_toArray, List.set_cons_zero, List.set_cons_succ, i64_w, i32_w]
    rfl
  refine take_ (i := 5) (N := (some 8)) (v := ?_) (a' := ?_) #[true, true, true, true, true, true, false, false] rfl rfl (take_ofW HT_.out HW_.out (by kernel_rfl)) (fun _ _ _ h => h) (Or.inl ⟨by rfl, ?_⟩) hHeld ?_ ?_
  rotate_left
  · rintro w' ⟨s0, s1, s2⟩
    go_simp
    with_reducible rfl
  rotate_left
  · simp only [Act.put, List.setIfInBounds_toArray, List.set_cons_zero, List.set_cons_succ, i64_w, i32_w]
    rfl
  refine last_ (i := 6) (N := (some 9)) #[true, true, true, true, true, true, true, false] rfl rfl (one_of HT_.out (by kernel_rfl)) (by decide) (fun K_ hK => ?_)
  refine call_ 66 #[.pointer (some ⟨pE, 0, none⟩), .int .i64 k] (by rfl) rfl ?hrun6 ?_
  (case hrun6 => first | (go_simp; done) | (go_simp; exact enters Tryz.func66 (by kernel_rfl) rfl _ _))
  refine (ep_said k _ HW.out.ep HG.out.ep).mono ?_
  rintro e w2 ⟨rfl, rfl⟩
  refine ⟨_, rfl, ?_⟩
  refine hK.out _ _ ?_
  clear hK K_
  refine norm_ (a' := ?_) ?_ ?_
  rotate_left
  · show Act.put _ (some 9) _ = _
    simp only [Act.put, List.setIfInBounds_toArray, List.set_cons_zero, List.set_cons_succ, i64_w, i32_w]
    rfl
  refine pure_ (i := 7) (N := (some 2)) (v := ?_) (a' := ?_) #[true, true, true, true, true, true, true, true] rfl rfl (any_of HT_.out (by kernel_rfl)) (fun _ _ _ h => h) (Or.inl ⟨by rfl, ?_⟩) ?_ ?_
  rotate_left
  · intro w'
    go_simp
    with_reducible rfl
  rotate_left
  · simp only [Act.put, List.setIfInBounds_toArray, List.set_cons_zero, List.set_cons_succ, i64_w, i32_w]
    rfl
  refine done_ (done_of HT_.out (by kernel_rfl)) ?_
  go_wp2_with fail
  go_ret
  exact ⟨okS, rfl, ⟨⟨_, _, _, _, _, _, HW.out⟩, HG.out⟩, HM.out⟩
def TBeg3 : Bool × List (List Nat × List Nat) := (true, [([], []), ([0], [0]), ([1], [1]), ([2], [2]), ([3], [3]), ([], []), ([4, 5], [4, 5]), ([6, 6, 0, 1, 2, 3, 4, 5, 6], [6])])
def BBeg3 : List Nat := [0, 1, 3, 7, 15, 0, 63, 127]
theorem tabBeg3 : rtab .any (opsOf Tryz.f68 1) = TBeg3 := by kernel_rfl
theorem bitsBeg3 : waitsOk TBeg3.2 BBeg3 = true := by kernel_rfl

set_option maxHeartbeats 2000000 in
set_option maxRecDepth 100000 in
theorem begin3_calls (p : Nat) (x : Ws) (now : Int) (w : World) (okS : Nat → Prop) (bt bn : Nat) (h : shW p x okS w) (g0 : w.cell? ⟨bt, 1, none⟩ = some (.pointer (some ⟨p, 0, none⟩))) (g2 : w.cell? ⟨bn, 0, none⟩ = some (.int .i64 now)) :
    Calls Tryz.prog 68 #[.pointer (some ⟨bt, 0, none⟩), .pointer (some ⟨bn, 0, none⟩)] w fun e w2 => ∃ okS1, e = .returned (.bool (x.ep.swap now).1) ∧ shW p { x with ep := (x.ep.swap now).2 } okS1 w2 ∧ Moves okS okS1 w w2 := by
  obtain ⟨⟨okA, okR, okE, pA, pR, pE, h⟩, hg⟩ := h
  have HW := Aside0.mk h
  have HG := Aside0.mk hg
  have hp := (blk_cell h.box 2).trans (rfl : _ = some (Value.pointer (some ⟨pE, 0, none⟩)))
  have HC := Aside0.mk (And.intro g0 (And.intro hp g2))
  clear h hg hp g0 g2
  go_enter Tryz.func68, Tryz.ntmps68
  go_upto_region 1 with fail
  refine start_ (n := 8) (S := fun w' => w'.cell? ⟨bt, 1, none⟩ = some (.pointer (some ⟨p, 0, none⟩)) ∧ w'.cell? ⟨p, 2, none⟩ = some (.pointer (some ⟨pE, 0, none⟩)) ∧ w'.cell? ⟨bn, 0, none⟩ = some (.int .i64 now)) (ds := [6]) #[false, false, false, false, false, false, false, false] (by kernel_rfl) rfl rfl HC.out (fun hHeld => ?_); refine with_tabW tabBeg3 bitsBeg3 (fun HT_ HW_ => ?_)
  have HW := Aside0.mk (HW.out.step (w1 := w.drew) (Nat.le_refl _) (fun _ _ _ => rfl))
  have HM := Aside0.mk ((Moves.refl okS w).drew)
  clear HC
  generalize World.drew _ = w1 at HW HM hHeld ⊢
  refine pure_ (i := 0) (N := (some 3)) (v := ?_) (a' := ?_) #[true, false, false, false, false, false, false, false] rfl rfl (any_of HT_.out (by kernel_rfl)) (fun _ _ _ h => h) (Or.inl ⟨by rfl, ?_⟩) ?_ ?_
  rotate_left
  · intro w'
    go_simp
    with_reducible rfl
  rotate_left
  · simp only [Act.put, List.setIfInBounds_toArray, List.set_cons_zero, List.set_cons_succ, i64_w, i32_w]
    rfl
  refine take_ (i := 1) (N := (some 4)) (v := ?_) (a' := ?_) #[true, true, false, false, false, false, false, false] rfl rfl (take_ofW HT_.out HW_.out (by kernel_rfl)) (fun _ _ _ h => h) (Or.inl ⟨by rfl, ?_⟩) hHeld ?_ ?_
  rotate_left
  · rintro w' ⟨s0, s1, s2⟩
    go_simp
    with_reducible rfl
  rotate_left
  · simp only [Act.put, List.setIfInBounds_toArray, List.set_cons_zero, List.set_cons_succ, i64_w, i32_w]
    rfl
  refine pure_ (i := 2) (N := (some 5)) (v := ?_) (a' := ?_) #[true, true, true, false, false, false, false, false] rfl rfl (any_of HT_.out (by kernel_rfl)) (fun _ _ _ h => h) (Or.inl ⟨by rfl, ?_⟩) ?_ ?_
  rotate_left
  · intro w'
    go_simp
    with_reducible rfl
  rotate_left
  · simp only [Act.put, List.setIfInBounds_toArray, List.set_cons_zero, List.set_cons_succ, i64_w, i32_w]
    rfl
  refine pure_ (i := 3) (N := (some 6)) (v := ?_) (a' := ?_) #[true, true, true, true, false, false, false, false] rfl rfl (any_of HT_.out (by kernel_rfl)) (fun _ _ _ h => h) (Or.inl ⟨by rfl, ?_⟩) ?_ ?_
  rotate_left
  · intro w'
    go_simp
    with_reducible rfl
  rotate_left
  · simp only [Act.put, List.setIfInBounds_toArray, List.set_cons_zero, List.set_cons_succ, i64_w, i32_w]
    rfl
  refine take_ (i := 4) (N := (some 7)) (v := ?_) (a' := ?_) #[true, true, true, true, true, false, false, false] rfl rfl (take_ofW HT_.out HW_.out (by kernel_rfl)) (fun _ _ _ h => h) (Or.inl ⟨by rfl, ?_⟩) hHeld ?_ ?_
  rotate_left
  · rintro w' ⟨s0, s1, s2⟩
    go_simp
    with_reducible rfl
  rotate_left
  · simp only [Act.put, List.setIfInBounds_toArray, List.set_cons_zero, List.set_cons_succ, i64_w, i32_w]
    rfl
  refine take_ (i := 5) (N := (some 8)) (v := ?_) (a' := ?_) #[true, true, true, true, true, true, false, false] rfl rfl (take_ofW HT_.out HW_.out (by kernel_rfl)) (fun _ _ _ h => h) (Or.inl ⟨by rfl, ?_⟩) hHeld ?_ ?_
  rotate_left
  · rintro w' ⟨s0, s1, s2⟩
    go_simp
    with_reducible rfl
  rotate_left
  · simp only [Act.put, List.setIfInBounds_toArray, List.set_cons_zero, List.set_cons_succ, i64_w, i32_w]
    rfl
  refine last_ (i := 6) (N := (some 9)) #[true, true, true, true, true, true, true, false] rfl rfl (one_of HT_.out (by kernel_rfl)) (by decide) (fun K_ hK => ?_)
  refine call_ 69 #[.pointer (some ⟨pE, 0, none⟩), .int .i64 now] (by rfl) rfl ?hrun6 ?_
  (case hrun6 => first | (go_simp; done) | (go_simp; exact enters Tryz.func69 (by kernel_rfl) rfl _ _))
  refine (ep_swap now _ HW.out.ep).mono ?_
  rintro e w2 ⟨rfl, hE, hM⟩
  have E2 := Aside0.mk hE
  have M2 := Aside0.mk hM
  clear hE hM
  refine ⟨_, rfl, ?_⟩
  refine hK.out _ _ ?_
  clear hK K_
  refine norm_ (a' := ?_) ?_ ?_
  rotate_left
  · show Act.put _ (some 9) _ = _
    simp only [Act.put, List.setIfInBounds_toArray, List.set_cons_zero, List.set_cons_succ, i64_w, i32_w]
    rfl
  refine pure_ (i := 7) (N := (some 2)) (v := ?_) (a' := ?_) #[true, true, true, true, true, true, true, true] rfl rfl (any_of HT_.out (by kernel_rfl)) (fun _ _ _ h => h) (Or.inl ⟨by rfl, ?_⟩) ?_ ?_
  rotate_left
  · intro w'
    go_simp
    with_reducible rfl
  rotate_left
  · simp only [Act.put, List.setIfInBounds_toArray, List.set_cons_zero, List.set_cons_succ, i64_w, i32_w]
    rfl
  refine done_ (done_of HT_.out (by kernel_rfl)) ?_
  go_wp2_with fail
  go_ret
  exact ⟨_, rfl, ⟨⟨_, _, _, _, _, _, (HW.out.ep_moves E2.out M2.out).1⟩, ⟨HG.out.ar, HG.out.ep.swap now, HG.out.tb⟩⟩, HM.out.trans (HW.out.ep_moves E2.out M2.out).2⟩
def TEnd1 : Bool × List (List Nat × List Nat) := (true, [([], []), ([0], [0]), ([1], [1]), ([2], [2]), ([3], [3]), ([], []), ([5], [5]), ([4, 6], [4, 6])])
def BEnd1 : List Nat := [0, 1, 3, 7, 15, 0, 32, 127]
theorem tabEnd1 : rtab .any (opsOf Tryz.f80 1) = TEnd1 := by kernel_rfl
theorem bitsEnd1 : waitsOk TEnd1.2 BEnd1 = true := by kernel_rfl

set_option maxHeartbeats 2000000 in
set_option maxRecDepth 100000 in
theorem end1_calls (p : Nat) (x : Ws) (me : Int) (w : World) (okS : Nat → Prop) (bt : Nat) (h : shW p x okS w) (g0 : w.cell? ⟨bt, 1, none⟩ = some (.pointer (some ⟨p, 0, none⟩))) (g2 : w.cell? ⟨bt, 2, none⟩ = some (.int .i64 me)) :
    Calls Tryz.prog 80 #[.pointer (some ⟨bt, 0, none⟩)] w fun e w2 => ∃ okS1, e = .returned (.int .i64 0) ∧ shW p { x with ep := x.ep.say me (-1) } okS1 w2 ∧ Moves okS okS1 w w2 := by
  obtain ⟨⟨okA, okR, okE, pA, pR, pE, h⟩, hg⟩ := h
  have HW := Aside0.mk h
  have HG := Aside0.mk hg
  have hp := (blk_cell h.box 2).trans (rfl : _ = some (Value.pointer (some ⟨pE, 0, none⟩)))
  have HC := Aside0.mk (And.intro g0 (And.intro hp g2))
  clear h hg hp g0 g2
  go_enter Tryz.func80, Tryz.ntmps80
  go_upto_region 1 with fail
  refine start_ (n := 8) (S := fun w' => w'.cell? ⟨bt, 1, none⟩ = some (.pointer (some ⟨p, 0, none⟩)) ∧ w'.cell? ⟨p, 2, none⟩ = some (.pointer (some ⟨pE, 0, none⟩)) ∧ w'.cell? ⟨bt, 2, none⟩ = some (.int .i64 me)) (ds := [7]) #[false, false, false, false, false, false, false, false] (by kernel_rfl) rfl rfl HC.out (fun hHeld => ?_); refine with_tabW tabEnd1 bitsEnd1 (fun HT_ HW_ => ?_)
  have HW := Aside0.mk (HW.out.step (w1 := w.drew) (Nat.le_refl _) (fun _ _ _ => rfl))
  have HM := Aside0.mk ((Moves.refl okS w).drew)
  clear HC
  generalize World.drew _ = w1 at HW HM hHeld ⊢
  refine pure_ (i := 0) (N := (some 2)) (v := ?_) (a' := ?_) #[true, false, false, false, false, false, false, false] rfl rfl (any_of HT_.out (by kernel_rfl)) (fun _ _ _ h => h) (Or.inl ⟨by rfl, ?_⟩) ?_ ?_
  rotate_left
  · intro w'
    go_simp
    with_reducible rfl
  rotate_left
  · simp only [Act.put, List.setIfInBounds_toArray, List.set_cons_zero, List.set_cons_succ, i64_w, i32_w]
    rfl
  refine take_ (i := 1) (N := (some 3)) (v := ?_) (a' := ?_) #[true, true, false, false, false, false, false, false] rfl rfl (take_ofW HT_.out HW_.out (by kernel_rfl)) (fun _ _ _ h => h) (Or.inl ⟨by rfl, ?_⟩) hHeld ?_ ?_
  rotate_left
  · rintro w' ⟨s0, s1, s2⟩
    go_simp
    with_reducible rfl
  rotate_left
  · simp only [Act.put, List.setIfInBounds_toArray, List.set_cons_zero, List.set_cons_succ, i64_w, i32_w]
    rfl
  refine pure_ (i := 2) (N := (some 4)) (v := ?_) (a' := ?_) #[true, true, true, false, false, false, false, false] rfl rfl (any_of HT_.out (by kernel_rfl)) (fun _ _ _ h => h) (Or.inl ⟨by rfl, ?_⟩) ?_ ?_
  rotate_left
  · intro w'
    go_simp
    with_reducible rfl
  rotate_left
  · simp only [Act.put, List.setIfInBounds_toArray, List.set_cons_zero, List.set_cons_succ, i64_w, i32_w]
    rfl
  refine pure_ (i := 3) (N := (some 5)) (v := ?_) (a' := ?_) #[true, true, true, true, false, false, false, false] rfl rfl (any_of HT_.out (by kernel_rfl)) (fun _ _ _ h => h) (Or.inl ⟨by rfl, ?_⟩) ?_ ?_
  rotate_left
  · intro w'
    go_simp
    with_reducible rfl
  rotate_left
  · simp only [Act.put, List.setIfInBounds_toArray, List.set_cons_zero, List.set_cons_succ, i64_w, i32_w]
    rfl
  refine take_ (i := 4) (N := (some 6)) (v := ?_) (a' := ?_) #[true, true, true, true, true, false, false, false] rfl rfl (take_ofW HT_.out HW_.out (by kernel_rfl)) (fun _ _ _ h => h) (Or.inl ⟨by rfl, ?_⟩) hHeld ?_ ?_
  rotate_left
  · rintro w' ⟨s0, s1, s2⟩
    go_simp
    with_reducible rfl
  rotate_left
  · simp only [Act.put, List.setIfInBounds_toArray, List.set_cons_zero, List.set_cons_succ, i64_w, i32_w]
    rfl
  refine pure_ (i := 5) (N := (some 7)) (v := ?_) (a' := ?_) #[true, true, true, true, true, true, false, false] rfl rfl (any_of HT_.out (by kernel_rfl)) (fun _ _ _ h => h) (Or.inl ⟨by rfl, ?_⟩) ?_ ?_
  rotate_left
  · intro w'
    go_simp
    with_reducible rfl
  rotate_left
  · simp only [Act.put, List.setIfInBounds_toArray, List.set_cons_zero, List.set_cons_succ, i64_w, i32_w]
    rfl
  refine take_ (i := 6) (N := (some 8)) (v := ?_) (a' := ?_) #[true, true, true, true, true, true, true, false] rfl rfl (take_ofW HT_.out HW_.out (by kernel_rfl)) (fun _ _ _ h => h) (Or.inl ⟨by rfl, ?_⟩) hHeld ?_ ?_
  rotate_left
  · rintro w' ⟨s0, s1, s2⟩
    go_simp
    with_reducible rfl
  rotate_left
  · simp only [Act.put, List.setIfInBounds_toArray, List.set_cons_zero, List.set_cons_succ, i64_w, i32_w]
    rfl
  refine last_ (i := 7) (N := (some 9)) #[true, true, true, true, true, true, true, true] rfl rfl (one_of HT_.out (by kernel_rfl)) (by decide) (fun K_ hK => ?_)
  refine call_ 63 #[.pointer (some ⟨pE, 0, none⟩), .int .i64 me, .int .i64 (-1)] (by rfl) rfl ?hrun7 ?_
  (case hrun7 => first | (go_simp; done) | (go_simp; exact enters Tryz.func63 (by kernel_rfl) rfl _ _))
  refine (ep_say me (-1) _ HW.out.ep HG.out.ep).mono ?_
  rintro e w2 ⟨rfl, hE, hM⟩
  have E2 := Aside0.mk hE
  have M2 := Aside0.mk hM
  clear hE hM
  refine ⟨_, rfl, ?_⟩
  refine hK.out _ _ ?_
  clear hK K_
  refine norm_ (a' := ?_) ?_ ?_
  rotate_left
  · show Act.put _ (some 9) _ = _
    simp only [Act.put, List.setIfInBounds_toArray, List.set_cons_zero, List.set_cons_succ, i64_w, i32_w]
    rfl
  refine done_ (done_of HT_.out (by kernel_rfl)) ?_
  go_wp2_with fail
  go_ret
  exact ⟨_, rfl, ⟨⟨_, _, _, _, _, _, (HW.out.ep_moves E2.out M2.out).1⟩, ⟨HG.out.ar, HG.out.ep.say me (-1), HG.out.tb⟩⟩, HM.out.trans (HW.out.ep_moves E2.out M2.out).2⟩
end Go.Proofs.YthlmgbdknjilpaaGreat.Tower
namespace Go.Proofs.YthlmgbdknjilpaaGreat.Tower
open Go Go.RowKit Go.Proofs.YthlmgbdknjilpaaGreatW.PrintWords Go.Proofs.YthlmgbdknjilpaaGreatW.PrintLast Go.Proofs.YthlmgbdknjilpaaGreatW.PrintMore Go.Proofs.YthlmgbdknjilpaaGreat.Own
set_option linter.unusedVariables false
set_option linter.unusedSimpArgs false
section
variable {P : Program} {ops : Array Oper} {Q : Exit → Act → World → Prop} {md : Region.Mode} {S : World → Prop} {ds : List Nat}
theorem AllReadyL.consK {fuel : Nat} {listed : Array Bool} {a : Act} {w : World} {i : Nat} {o : Oper} {rs : List Nat} (ho : ops[i]? = some o)
    (h : ∀ K' : Act → World → Prop, Shut (∀ a' w', (i ∉ ds → S w → S w') → wpAnyLast P md ops Q S ds fuel (listed.setIfInBounds i true) a' w' → K' a' w') → if Region.wanted o (yielded ops a.tmps) = true then Oper.wp P o a w K' Q else K' (a.put o.dst undef) w)
    (hs : AllReadyL P md ops Q S ds fuel listed a w rs) : AllReadyL P md ops Q S ds fuel listed a w (i :: rs) := fun j hj => by
  rcases List.mem_cons.1 hj with rfl | hj
  · exact wpOp_step ho (fun K' hK => h K' (fun a w' hS hW => hK a w' ⟨hS, hW⟩))
  · exact hs j hj
/-- One operation alone may come up: S is shown behind it out of S ahead of it. -/
theorem oneK_ {i : Nat} {N : Option Tmp} {oi : Oper} {fuel : Nat} {l : Array Bool} {a : Act} {w : World} (l' : Array Bool) (hi : ops[i]? = some oi) (hN : oi.dst = N) (hc : readyB md ops l l' i = true)
    (h : ∀ K : Act → World → Prop, Shut (∀ a' w', (i ∉ ds → S w → S w') → wpAnyLast P md ops Q S ds fuel l' a' w' → K a' w') → if Region.wanted oi (yielded ops a.tmps) = true then Oper.wp P oi a w K Q else K (a.put N undef) w) :
    wpAnyLast P md ops Q S ds (fuel + 1) l a w := by
  subst hN
  simp only [readyB, Bool.and_eq_true, beq_iff_eq] at hc
  obtain ⟨h1, h2⟩ := hc
  subst h2
  exact wpAnyLast_ready h1 (by simp) (AllReadyL.consK hi (fun K hK => h K hK) AllReadyL.nil)
/-- Two may come up. -/
theorem twoK_ {i j : Nat} {Ni Nj : Option Tmp} {oi oj : Oper} {fuel : Nat} {l : Array Bool} {a : Act} {w : World} (li lj : Array Bool) (hi : ops[i]? = some oi) (hj : ops[j]? = some oj) (hNi : oi.dst = Ni) (hNj : oj.dst = Nj)
    (hc : (Region.ready md ops l == [i, j] && l.setIfInBounds i true == li && l.setIfInBounds j true == lj) = true)
    (h1 : ∀ K : Act → World → Prop, Shut (∀ a' w', (i ∉ ds → S w → S w') → wpAnyLast P md ops Q S ds fuel li a' w' → K a' w') → if Region.wanted oi (yielded ops a.tmps) = true then Oper.wp P oi a w K Q else K (a.put Ni undef) w)
    (h2 : ∀ K : Act → World → Prop, Shut (∀ a' w', (j ∉ ds → S w → S w') → wpAnyLast P md ops Q S ds fuel lj a' w' → K a' w') → if Region.wanted oj (yielded ops a.tmps) = true then Oper.wp P oj a w K Q else K (a.put Nj undef) w) :
    wpAnyLast P md ops Q S ds (fuel + 1) l a w := by
  subst hNi
  subst hNj
  simp only [Bool.and_eq_true, beq_iff_eq] at hc
  obtain ⟨⟨h3, h4⟩, h5⟩ := hc
  subst h4
  subst h5
  exact wpAnyLast_ready h3 (by simp) (AllReadyL.consK hi (fun K hK => h1 K hK) (AllReadyL.consK hj (fun K hK => h2 K hK) AllReadyL.nil))
end
theorem prBind_some {X α β : Type} {m : Pr X α} {f : α → Pr X β} {s : TS X} {res : Out β × TS X} (h : prBind m f s = some res) : ∃ o t, m s = some (o, t) ∧ ((o = .wait ∧ res = (.wait, t)) ∨ ∃ a, o = .ret a ∧ f a t = some res) := by
  unfold prBind at h
  cases hm : m s with
  | none => rw [hm] at h; cases h
  | some r =>
    obtain ⟨o, t⟩ := r
    rw [hm] at h
    refine ⟨o, t, rfl, ?_⟩
    cases o with
    | wait => injection h with h; exact .inl ⟨rfl, h.symm⟩
    | ret a => exact .inr ⟨a, rfl, h⟩
end Go.Proofs.YthlmgbdknjilpaaGreat.Tower
namespace Go.Proofs.YthlmgbdknjilpaaGreat.Tower
open Go Go.RowKit Go.Proofs.YthlmgbdknjilpaaGreatW.PrintWords Go.Proofs.YthlmgbdknjilpaaGreatW.PrintLast Go.Proofs.YthlmgbdknjilpaaGreatW.PrintMore Go.Proofs.YthlmgbdknjilpaaGreat.Own
set_option linter.unusedVariables false
set_option linter.unusedSimpArgs false

structure TaskAt (p tb : Nat) (work : Value) (me : Int) (bt : Nat) (ok : Nat → Prop) (w : World) (okc : Nat → Prop) (s : TS Ws) (wc : World) : Prop where
  run : IsRun (shW p) tb work okc s wc
  moves : Moves ok okc w wc
  box : Mine okc wc bt (taskO tb p me)
section
variable {p tb : Nat} {work : Value} {me : Int} {bt : Nat} {ok okc ok2 : Nat → Prop} {w wc w2 : World} {s s2 : TS Ws}
theorem TaskAt.below (h : TaskAt p tb work me bt ok w okc s wc) (hb : Below wc.heap.size wc w2) : TaskAt p tb work me bt ok w okc s w2 := ⟨h.run.below (shW_shared p) hb, h.moves.below hb, ⟨blk_below h.box.1 hb, h.box.2⟩⟩
theorem TaskAt.alloc (h : TaskAt p tb work me bt ok w okc s wc) (o : Obj) : TaskAt p tb work me bt ok w okc s (wc.alloc o) := h.below (below_alloc (Below.refl _ _) o)
theorem TaskAt.drew (h : TaskAt p tb work me bt ok w okc s wc) : TaskAt p tb work me bt ok w okc s wc.drew := h.below (below_drew (Below.refl _ _))
theorem TaskAt.next (h : TaskAt p tb work me bt ok w okc s wc) (m : Moves okc ok2 wc w2) (r : IsRun (shW p) tb work ok2 s2 w2) : TaskAt p tb work me bt ok w ok2 s2 w2 := ⟨r, h.moves.trans m, h.box.moves m⟩
/-- A store into a box of one's own. -/
theorem TaskAt.set (h : TaskAt p tb work me bt ok w okc s wc) {q : Addr} (hn : ¬ okc q.block) (hw : w.heap.size ≤ q.block) (ht : q.block ≠ bt) (u : Value) : TaskAt p tb work me bt ok w okc s (wc.setCell q u) :=
  ⟨h.run.far (shW_shared p) hn u, h.moves.set (.inr hw) u, h.box.far ht u⟩
theorem TaskAt.lt (h : TaskAt p tb work me bt ok w okc s wc) : ∀ k, okc k → k < wc.heap.size := h.run.lt (shW_shared p)
theorem TaskAt.c0 (h : TaskAt p tb work me bt ok w okc s wc) : wc.cell? ⟨bt, 0, none⟩ = some (.pointer (some ⟨tb, 0, none⟩)) := (blk_cell h.box.1 0).trans rfl
theorem TaskAt.c1 (h : TaskAt p tb work me bt ok w okc s wc) : wc.cell? ⟨bt, 1, none⟩ = some (.pointer (some ⟨p, 0, none⟩)) := (blk_cell h.box.1 1).trans rfl
theorem TaskAt.c2 (h : TaskAt p tb work me bt ok w okc s wc) : wc.cell? ⟨bt, 2, none⟩ = some (.int .i64 me) := (blk_cell h.box.1 2).trans rfl
/-- The entry to a task's function. -/
theorem TaskAt.enter (h : IsRun (shW p) tb work ok s w) : TaskAt p tb work me w.heap.size ok w ok s (w.alloc (taskO tb p me)) :=
  ⟨h.below (shW_shared p) (below_alloc (Below.refl _ _) _), (Moves.refl ok w).alloc _, ⟨blk_new w _, fun hk => by have := h.lt (shW_shared p) _ hk; omega⟩⟩

/-- How a touch ends. -/
structure DoPost {α : Type} (V : α → Value) (p tb : Nat) (work : Value) (me : Int) (bt : Nat) (ok : Nat → Prop) (w : World) (okc : Nat → Prop) (o : Out α) (t : TS Ws) (wc : World) (e : Ending) (w1 : World) : Prop where
  out : ∃ ok1, Moves okc ok1 wc w1 ∧ TaskAt p tb work me bt ok w ok1 t w1 ∧ match o with
    | .ret a => e = .returned (V a)
    | .wait => e = .panicked waitP
theorem TaskAt.post {α : Type} {V : α → Value} {Vp : α → (Nat → Prop) → Value → World → Prop} (hv : ∀ a k v w, Vp a k v w → v = V a) (h : TaskAt p tb work me bt ok w okc s wc) {o : Out α} {t : TS Ws} {e : Ending} {w1 : World} (hp : TPost (shW p) tb work Vp okc wc (o, t) e w1) : DoPost V p tb work me bt ok w okc o t wc e w1 := by
  obtain ⟨ok1, hm, hi, hr⟩ := hp
  refine ⟨⟨ok1, hm, h.next hm hi, ?_⟩⟩
  cases o with
  | ret a => obtain ⟨v, rfl, hv1⟩ := hr; rw [hv _ _ _ _ hv1]
  | wait => exact hr
def intV (a : Int) : Value := .int .i64 a
def boolV (a : Bool) : Value := .bool a
theorem TaskAt.do_ (h : TaskAt p tb work me bt ok w okc s wc) (f : Ws → Int × Ws) (gf : FuncId) (cap : Array Value)
    (he : ∀ w1 : World, (callFunc gf cap).run Tryz.prog w1 = .ok (.enter gf cap) w1)
    (hc : ∀ w1 okS, Moves okc okc wc w1 → (∀ k, okS k → okc k) → shW p s.sh okS w1 → Calls Tryz.prog gf cap w1 fun e w2 => ∃ okS1, e = .returned (.int .i64 (f s.sh).1) ∧ shW p (f s.sh).2 okS1 w2 ∧ Moves okS okS1 w1 w2)
    {o : Out Int} {t : TS Ws} (hd : doT f s = some (o, t)) :
    Calls Tryz.prog 61 #[.pointer (some ⟨tb, 0, none⟩), .func (.func gf) #[] cap] wc (DoPost intV p tb work me bt ok w okc o t wc) :=
  (do_calls (shW_shared p) f tb work okc s wc gf cap h.run he hc (o, t) hd).mono (fun e w1 hp => h.post (fun _ _ _ _ hv => hv) hp)
theorem TaskAt.ask_ (h : TaskAt p tb work me bt ok w okc s wc) (f : Ws → Bool × Ws) (gf : FuncId) (cap : Array Value)
    (he : ∀ w1 : World, (callFunc gf cap).run Tryz.prog w1 = .ok (.enter gf cap) w1)
    (hc : ∀ w1 okS, Moves okc okc wc w1 → (∀ k, okS k → okc k) → shW p s.sh okS w1 → Calls Tryz.prog gf cap w1 fun e w2 => ∃ okS1, e = .returned (.bool (f s.sh).1) ∧ shW p (f s.sh).2 okS1 w2 ∧ Moves okS okS1 w1 w2)
    {o : Out Bool} {t : TS Ws} (hd : askT f s = some (o, t)) :
    Calls Tryz.prog 67 #[.pointer (some ⟨tb, 0, none⟩), .func (.func gf) #[] cap] wc (DoPost boolV p tb work me bt ok w okc o t wc) :=
  (ask_calls (shW_shared p) f tb work okc s wc gf cap h.run he (fun w1 okS a b c => (hc w1 okS a b c).mono (fun e w2 ⟨okS1, h1, h2, h3⟩ => ⟨h1, okS1, h2, h3⟩)) (o, t) hd).mono (fun e w1 hp => h.post (fun _ _ _ _ hv => hv) hp)
/-- The epochs' own box. -/
theorem TaskAt.pE (h : TaskAt p tb work me bt ok w okc s wc) : ∃ pE, wc.cell? ⟨p, 2, none⟩ = some (.pointer (some ⟨pE, 0, none⟩)) := by
  obtain ⟨_, _, ⟨⟨_, _, _, _, _, pE, hw⟩, _⟩, _⟩ := h.run.direct
  exact ⟨pE, (blk_cell hw.box 2).trans rfl⟩
def nowT : Pr Ws Int := doT (fun x => (x.ep.now, x))
/-- The touch 't.Do(t.Epochs.Now)'. -/
theorem TaskAt.now_ (h : TaskAt p tb work me bt ok w okc s wc) {pE : Nat} (hp : wc.cell? ⟨p, 2, none⟩ = some (.pointer (some ⟨pE, 0, none⟩))) {o : Out Int} {t : TS Ws} (hd : nowT s = some (o, t)) :
    Calls Tryz.prog 61 #[.pointer (some ⟨tb, 0, none⟩), .func (.func 19) #[.pointer (some ⟨pE, 0, none⟩)] #[]] wc (DoPost intV p tb work me bt ok w okc o t wc) := by
  refine (do_callsM (shW_shared p) (fun x => (x.ep.now, x)) tb work okc s wc 19 (.pointer (some ⟨pE, 0, none⟩)) h.run (enters Tryz.func19 (by kernel_rfl) rfl _) (fun w1 okS hm hk hs hs1 hb => ?_) (o, t) hd).mono (fun e w1 hp => h.post (fun _ _ _ _ hv => hv) hp)
  obtain ⟨⟨okA, okR, okE, pA, pR, pE1, hw⟩, hg⟩ := hs
  have hpE : pE1 = pE := by
    have h1 := (blk_cell hw.box 2).symm.trans hp
    injection h1 with h1
    injection h1 with h1
    injection h1 with h1
    injection h1
  subst hpE
  have hE1 : IsEpochs okE pE1 s.sh.ep w1 := hw.ep.step hm.size (fun k hk2 hlt => hb k ((hw.ok k).2 (.inr (.inr (.inr hk2)))) hlt)
  refine (ep_now w1 hE1).mono ?_
  rintro e w2 ⟨rfl, rfl⟩
  exact ⟨okS, rfl, hs1, Moves.refl _ _⟩
end
end Go.Proofs.YthlmgbdknjilpaaGreat.Tower
namespace Go.Proofs.YthlmgbdknjilpaaGreat.Tower
open Go Go.RowKit Go.Proofs.YthlmgbdknjilpaaGreatW.PrintWords Go.Proofs.YthlmgbdknjilpaaGreatW.PrintLast Go.Proofs.YthlmgbdknjilpaaGreatW.PrintMore Go.Proofs.YthlmgbdknjilpaaGreat.Own
set_option linter.unusedVariables false
set_option linter.unusedSimpArgs false

/-- May what went in an epoch be freed in another one? -/
def ripe (z now : Int) : Bool := !(decide (z > now) || decide (IntKind.u64.wrap (IntKind.u64.wrap now - IntKind.u64.wrap z) < 3))
def Ep.ready (x : Ep) (t now : Int) : Int × Ep :=
  if x.has t then match x.limbo.getD t.toNat [] with
    | [] => (0, x)
    | (r, z) :: l => if ripe z now then (r, { x with limbo := x.limbo.set t.toNat l }) else (0, x)
  else (0, x)
theorem EpochAt.step {ok : Nat → Prop} {p : Nat} {sv lv : Value} {gv : Nat → Value} {ρ : Nat → Nat} {t : Ep} {w w1 : World} (h : EpochAt ok p sv lv gv ρ t w) (hs : w.heap.size ≤ w1.heap.size) (hm : ∀ k, ok k → k < w.heap.size → w1.heap[k]? = w.heap[k]?) : EpochAt ok p sv lv gv ρ t w1 where
  own := h.own
  role := h.role
  lt := fun k hk => Nat.lt_of_lt_of_le (h.lt k hk) hs
  len := h.len
  box := (hm p h.own (h.lt p h.own)).trans h.box
  said := Kd.R_step h.said (fun k hk hlt => hm k hk.1 hlt)
  row := Kd.R_step h.row (fun k hk hlt => hm k hk.1 hlt)
  limbo := fun i l hi => Kd.Q_step (h.limbo i l hi) (fun k hk hlt => hm k hk.1 hlt)
theorem EpochAt.below {ok : Nat → Prop} {p : Nat} {sv lv : Value} {gv : Nat → Value} {ρ : Nat → Nat} {t : Ep} {w w1 : World} (h : EpochAt ok p sv lv gv ρ t w) (hb : Below w.heap.size w w1) : EpochAt ok p sv lv gv ρ t w1 := h.step hb.size (fun k _ hlt => hb.block k hlt)
/-- The slices of a thread's row. -/
theorem EpochAt.rowcell {ok : Nat → Prop} {p n c : Nat} {A : Option Addr} {sv : Value} {gv : Nat → Value} {ρ : Nat → Nat} {x : Ep} {w : World} (h : EpochAt ok p sv (.slice A n c) gv ρ x w) (i : Int) (h0 : 0 ≤ i) (h1 : i < x.limbo.length) :
    n = x.limbo.length ∧ ∃ g, A = some ⟨g, 0, none⟩ ∧ ok g ∧ ρ g = 2 ∧ w.cell? ⟨g, i.toNat, none⟩ = some (gv i.toNat) ∧ w.frozen? ⟨g, i.toNat, none⟩ = false := by
  have hr := (Kd.R_reads' h.row).1
  have hn : n = x.limbo.length := by rw [hr]; simp
  obtain ⟨g, cap, e1, _⟩ := Kd.R_form h.row (by simp; omega)
  injection e1 with e1 e2 _
  refine ⟨hn, g, e1, ?_⟩
  subst e1
  obtain ⟨cs, _, hM, hcc, hfz⟩ := Kd.R_elem h.row [] i h0 (by omega)
  have hg := h.row.1 g (by simp [Value.ownBlock])
  have hM' := hM.1
  rw [List.getD_eq_getElem?_getD, List.getElem?_map, List.getElem?_range (by omega)] at hM'
  simp only [Option.map_some, Option.getD_some] at hM'
  have e := hcc 0 (gv i.toNat) (by rw [hM']; rfl)
  have f := hfz 0
  rw [show (Kd.raw 1).sz = 1 from rfl, Nat.mul_one, Nat.add_zero] at e f
  exact ⟨hg.1, hg.2, by simpa using e, by simpa using f⟩
/-- A thread's row is another one. -/
theorem EpochAt.turn {ok : Nat → Prop} {p g n c : Nat} {sv : Value} {gv : Nat → Value} {ρ : Nat → Nat} {x : Ep} {w : World} (h : EpochAt ok p sv (.slice (some ⟨g, 0, none⟩) n c) gv ρ x w) (i : Nat) (hi : i < x.limbo.length) (v1 : Value) (h1 : v1.oneCell' = true) (l1 : List (Int × Int)) (hq : kPair.Q 192 w 0 (fun k => ok k ∧ ρ k = 3 + i) v1 l1) :
    EpochAt ok p sv (.slice (some ⟨g, 0, none⟩) n c) (fun j => if j = i then v1 else gv j) ρ { x with limbo := x.limbo.set i l1 } (w.setCell ⟨g, i, none⟩ v1) := by
  obtain ⟨hn, g0, e0, hg, hρ, hcc, hfz⟩ := h.rowcell (i : Int) (by omega) (by omega)
  injection e0 with e0
  injection e0 with e0 _ _
  subst e0
  rw [Int.toNat_natCast] at hcc hfz
  have hne : ∀ r, r ≠ 2 → ∀ k, (ok k ∧ ρ k = r) → k ≠ g := fun r hr k hk e => by rw [e, hρ] at hk; exact hr hk.2.symm
  have hrow := (Kd.R_seg (okp := fun _ => False) h.row (i : Int) (by omega) (by omega) (c := [gv i]) (seg := [v1]) (j := 0) rfl (fun j u hu => by
    cases j with
    | zero => injection hu with hu; subst hu; simpa [Kd.raw] using hcc
    | succ j => simp at hu) (by simp [Kd.raw]) (x' := [v1]) ⟨rfl, rfl, fun u hu => by simp only [List.take_zero, List.nil_append, List.length_singleton, List.drop_succ_cons, List.drop_zero, List.append_nil, List.mem_cons, List.not_mem_nil, or_false] at hu; rw [hu]; exact h1⟩ (fun k hk => hk.elim)).1
  have hset : ((List.range x.limbo.length).map fun i => [gv i]).set (i : Int).toNat [v1] = (List.range (x.limbo.set i l1).length).map fun j => [if j = i then v1 else gv j] := by
    refine List.ext_getElem? fun j => ?_
    rw [Int.toNat_natCast, List.getElem?_set, List.length_set]
    by_cases hj : i = j
    · subst hj
      simp [hi]
    · rw [if_neg hj]
      simp only [List.getElem?_map]
      cases hs : (List.range x.limbo.length)[j]? with
      | none => rfl
      | some q =>
        have hq : q = j := by
          have := (List.getElem?_eq_some_iff.1 hs).2
          simpa using this.symm
        subst hq
        simp [show ¬ q = i from fun e => hj e.symm]
  rw [hset] at hrow
  have hrow' : (Kd.raw 1).R 109 (w.setCells g i [v1]) 0 (fun k => ok k ∧ ρ k = 2) (.slice (some ⟨g, 0, none⟩) n c) ((List.range (x.limbo.set i l1).length).map fun j => [if j = i then v1 else gv j]) := by simpa [Kd.raw] using hrow
  exact {
    own := h.own
    role := h.role
    lt := fun k hk => by simpa [World.setCell] using h.lt k hk
    len := by rw [List.length_set]; exact h.len
    box := blk_far h.box (p := ⟨g, i, none⟩) (fun e => by rw [← show p = g from e, h.role] at hρ; cases hρ) _
    said := Kd.R_far h.said (p := ⟨g, i, none⟩) (hne 1 (by decide)) _
    row := hrow'
    limbo := fun j l hj => by
      by_cases e : i = j
      · subst e
        rw [List.getElem?_set_self hi] at hj
        injection hj with hj
        subst hj
        rw [if_pos rfl]
        exact Kd.Q_far hq (p := ⟨g, i, none⟩) (hne (3 + i) (by omega)) _
      · rw [List.getElem?_set_ne e] at hj
        rw [if_neg (fun e1 => e e1.symm)]
        exact Kd.Q_far (h.limbo j l hj) (p := ⟨g, i, none⟩) (hne (3 + j) (by omega)) _ }
theorem kPair_cells {w : World} {base : Nat} {ok : Nat → Prop} {q : Int × Int} {c : List Value} (h : kPair.M w base ok q c) : c = [.int .i64 q.1, .int .i64 q.2] := by
  obtain ⟨_, _, rfl, rfl, rfl⟩ := kPair.K_of_M h
  rfl
theorem gone_cut (A : Option Addr) (n c : Nat) (W : World) : (Instr.slice 109 (.slice A (n + 1) c) (some (.int .i64 1)) none none).run Tryz.prog W = .ok (.slice (if c = 1 then A else A.map (·.add 2)) n (c - 1)) W := by
  have hel : (Tryz.prog).elem 109 = 192 := by kernel_rfl
  have hu : (Tryz.prog).underlying 109 = some (.slice ((Tryz.prog).elem 109)) := by rw [hel]; exact Tryz.underlying109
  have := run_slice_l W 109 A (n + 1) c hu .i64 1 (by omega) (by omega)
  obtain ⟨i0, hi, hz0, hz1, hz2⟩ := info_parts (show (Tryz.prog.info? 192).map (fun i => (i.zero, i.size, i.bytes)) = some (some (.agg #[.int .i64 0, .int .i64 0]), 2, 16) by kernel_rfl)
  rw [this, hel]
  simp [sizeOf, typeInfo, hi, hz1, sliced, Result.andThen]
def TReady6 : Bool × List (List Nat × List Nat) := (true, [([], []), ([0], [0]), ([1], [1]), ([2], [2]), ([], []), ([], []), ([5], [5]), ([6], [6]), ([7], [7]), ([], []), ([8, 9], [8, 9]), ([10], [10]), ([11], [11]), ([3, 4, 0, 1, 2, 3, 4, 5, 6, 7, 8, 9, 10, 11, 12], [3, 4]), ([13, 12, 0, 1, 2, 3, 4, 5, 6, 7, 8, 9, 10, 11, 12], [12, 13])])
def BReady6 : List Nat := [0, 1, 3, 7, 0, 0, 32, 96, 224, 0, 992, 2016, 4064, 8191, 16383]
theorem tabReady6 : rtab .any (opsOf Tryz.f94 6) = TReady6 := by kernel_rfl
theorem bitsReady6 : waitsOk TReady6.2 BReady6 = true := by kernel_rfl
set_option maxHeartbeats 2000000 in
set_option maxRecDepth 100000 in
theorem ready_out {ok : Nat → Prop} {p : Nat} {x : Ep} (t now : Int) (w : World) (h : IsEpochs ok p x w) (hg : x.Good) (hh : x.has t = false) :
    Calls Tryz.prog 94 #[.pointer (some ⟨p, 0, none⟩), .int .i64 t, .int .i64 now] w (EpPost ok p (.int .i64 (x.ready t now).1) (x.ready t now).2 w) := by
  have HIN := Aside0.mk (ep_in t w h hg)
  have e1 : x.ready t now = (0, x) := by simp [Ep.ready, hh]
  rw [e1]
  have HI := Aside0.mk h
  have HH := Aside0.mk hh
  clear h hg e1 hh
  go_enter Tryz.func94, Tryz.ntmps94
  go_wp2_with (go_at_call 92; refine HIN.out.mono ?_; rintro e w1 ⟨rfl, rfl⟩; rw [HH.out])
  go_ret
  exact ⟨rfl, HI.out, Moves.refl _ _⟩
set_option maxHeartbeats 2000000 in
set_option maxRecDepth 100000 in
theorem ready_none {ok : Nat → Prop} {p : Nat} {x : Ep} (t now : Int) (w : World) (h : IsEpochs ok p x w) (hg : x.Good) (hh : x.has t = true) (hl : x.limbo.getD t.toNat [] = []) :
    Calls Tryz.prog 94 #[.pointer (some ⟨p, 0, none⟩), .int .i64 t, .int .i64 now] w (EpPost ok p (.int .i64 (x.ready t now).1) (x.ready t now).2 w) := by
  have HIN := Aside0.mk (ep_in t w h hg)
  have e1 : x.ready t now = (0, x) := by simp only [Ep.ready, hh, hl, if_true]
  rw [e1]
  obtain ⟨b0, b1⟩ : 0 ≤ t ∧ t < x.said.length := by simpa [Ep.has] using hh
  have HI := Aside0.mk h
  obtain ⟨sv, lv, gv, ρ, h⟩ := h
  obtain ⟨A, cr, rfl⟩ := Kd.R_slice h.row
  have hn : ((List.range x.limbo.length).map fun i => [gv i]).length = x.limbo.length := by simp
  rw [hn] at h
  have b3 : t < x.limbo.length := by rw [h.len]; exact b1
  obtain ⟨_, g, rfl, hg1, hg2, d2, z2⟩ := h.rowcell t b0 b3
  obtain ⟨l, hll⟩ : ∃ l, x.limbo[t.toNat]? = some l := ⟨x.limbo[t.toNat]'(by omega), List.getElem?_eq_getElem (by omega)⟩
  have hl0 : l = [] := by rw [List.getD_eq_getElem?_getD, hll] at hl; exact hl
  subst hl0
  have hq := h.limbo _ _ hll
  obtain ⟨Al, cl, hv, _⟩ := Kd.Q_slice hq
  rw [hv] at d2
  have c2 : w.cell? ⟨p, 2, none⟩ = some (.slice (some ⟨g, 0, none⟩) x.limbo.length cr) := (blk_cell h.box 2).trans rfl
  have HH := Aside0.mk hh
  clear h hg e1 hh hl hll hq hv hg1 hg2 z2 hn
  go_enter Tryz.func94, Tryz.ntmps94
  go_wp2_with (go_at_call 92; refine HIN.out.mono ?_; rintro e w1 ⟨rfl, rfl⟩; rw [HH.out])
  go_ret
  exact ⟨rfl, HI.out, Moves.refl _ _⟩
set_option maxHeartbeats 2000000 in
set_option maxRecDepth 100000 in
theorem ready_past {ok : Nat → Prop} {p : Nat} {x : Ep} (t now : Int) (w : World) (h : IsEpochs ok p x w) (hg : x.Good) (hh : x.has t = true) (r z : Int) (l : List (Int × Int)) (hl : x.limbo.getD t.toNat [] = (r, z) :: l) (hr : z > now) :
    Calls Tryz.prog 94 #[.pointer (some ⟨p, 0, none⟩), .int .i64 t, .int .i64 now] w (EpPost ok p (.int .i64 (x.ready t now).1) (x.ready t now).2 w) := by
  have HIN := Aside0.mk (ep_in t w h hg)
  have e1 : x.ready t now = (0, x) := by simp only [Ep.ready, hh, hl, if_true]; rw [if_neg (by simp [ripe, hr])]
  rw [e1]
  obtain ⟨b0, b1⟩ : 0 ≤ t ∧ t < x.said.length := by simpa [Ep.has] using hh
  obtain ⟨sv, lv, gv, ρ, h⟩ := h
  obtain ⟨A, cr, rfl⟩ := Kd.R_slice h.row
  have hn : ((List.range x.limbo.length).map fun i => [gv i]).length = x.limbo.length := by simp
  rw [hn] at h
  have b3 : t < x.limbo.length := by rw [h.len]; exact b1
  obtain ⟨_, g, rfl, hg1, hg2, d2, z2⟩ := h.rowcell t b0 b3
  have hll : x.limbo[t.toNat]? = some ((r, z) :: l) := by
    have : x.limbo[t.toNat]? = some (x.limbo[t.toNat]'(by omega)) := List.getElem?_eq_getElem (by omega)
    rw [List.getD_eq_getElem?_getD, this] at hl
    rw [this]
    exact congrArg some hl
  have hq := h.limbo _ _ hll
  obtain ⟨gl, ol, cl, hv, _, hglt, _⟩ := Kd.Q_form hq (by simp)
  have hlen : ((r, z) :: l).length = l.length + 1 := List.length_cons
  have HV := Aside0.mk hv
  rw [hv, hlen] at d2
  rw [hv] at hq
  have HQ := Aside0.mk hq
  obtain ⟨cs, _, hM, hcc, _⟩ := Kd.Q_elem hq (0, 0) 0 (by omega) (by simp)
  have hcs := kPair_cells hM
  subst hcs
  have f0 : w.cell? ⟨gl, ol, none⟩ = some (.int .i64 r) := hcc 0 _ rfl
  have f1 : w.cell? ⟨gl, ol + 1, none⟩ = some (.int .i64 z) := hcc 1 _ rfl
  have HCL : Aside0 (l.length + 1 ≤ cl) := ⟨by have := (Kd.Q_reads' hq).2.1; rw [hlen] at this; exact this⟩
  have c2 : w.cell? ⟨p, 2, none⟩ = some (.slice (some ⟨g, 0, none⟩) x.limbo.length cr) := (blk_cell h.box 2).trans rfl
  have HH := Aside0.mk hh
  have HLL := Aside0.mk hll
  have HI := Aside0.mk h
  have HGL := Aside0.mk hglt
  have HG1 := Aside0.mk hg1
  have u0 : (l.length : Int) + 1 ≠ 0 := by omega
  have u1 : decide (((l.length + 1 : Nat) : Int) = 0) = false := decide_eq_false (by omega)
  have u2 : (((l.length + 1 : Nat) : Int) == 0) = false := by simp; omega
  have b4 : (0 : Int) < ((l.length + 1 : Nat) : Int) := by omega
  clear h hg e1 hh hl hll hq hv hg1 hg2 hn hM hcc hglt hlen
  go_enter Tryz.func94, Tryz.ntmps94
  have d1 : decide (z > now) = true := decide_eq_true hr
  have d1b : decide (now < z) = true := d1
  clear hr
  go_wp2_with (go_at_call 92; refine HIN.out.mono ?_; rintro e w1 ⟨rfl, rfl⟩; rw [HH.out])
  go_ret
  exact ⟨rfl, ⟨_, _, _, _, HI.out.below (below_alloc (Below.refl _ _) _)⟩, (Moves.refl _ _).alloc _⟩
set_option maxHeartbeats 2000000 in
set_option maxRecDepth 100000 in
theorem ready_soon {ok : Nat → Prop} {p : Nat} {x : Ep} (t now : Int) (w : World) (h : IsEpochs ok p x w) (hg : x.Good) (hh : x.has t = true) (r z : Int) (l : List (Int × Int)) (hl : x.limbo.getD t.toNat [] = (r, z) :: l) (hz : ¬ z > now) (hr : IntKind.u64.wrap (IntKind.u64.wrap now - IntKind.u64.wrap z) < 3) :
    Calls Tryz.prog 94 #[.pointer (some ⟨p, 0, none⟩), .int .i64 t, .int .i64 now] w (EpPost ok p (.int .i64 (x.ready t now).1) (x.ready t now).2 w) := by
  have HIN := Aside0.mk (ep_in t w h hg)
  have e1 : x.ready t now = (0, x) := by simp only [Ep.ready, hh, hl, if_true]; rw [if_neg (by simp [ripe, hr])]
  rw [e1]
  obtain ⟨b0, b1⟩ : 0 ≤ t ∧ t < x.said.length := by simpa [Ep.has] using hh
  obtain ⟨sv, lv, gv, ρ, h⟩ := h
  obtain ⟨A, cr, rfl⟩ := Kd.R_slice h.row
  have hn : ((List.range x.limbo.length).map fun i => [gv i]).length = x.limbo.length := by simp
  rw [hn] at h
  have b3 : t < x.limbo.length := by rw [h.len]; exact b1
  obtain ⟨_, g, rfl, hg1, hg2, d2, z2⟩ := h.rowcell t b0 b3
  have hll : x.limbo[t.toNat]? = some ((r, z) :: l) := by
    have : x.limbo[t.toNat]? = some (x.limbo[t.toNat]'(by omega)) := List.getElem?_eq_getElem (by omega)
    rw [List.getD_eq_getElem?_getD, this] at hl
    rw [this]
    exact congrArg some hl
  have hq := h.limbo _ _ hll
  obtain ⟨gl, ol, cl, hv, _, hglt, _⟩ := Kd.Q_form hq (by simp)
  have hlen : ((r, z) :: l).length = l.length + 1 := List.length_cons
  have HV := Aside0.mk hv
  rw [hv, hlen] at d2
  rw [hv] at hq
  have HQ := Aside0.mk hq
  obtain ⟨cs, _, hM, hcc, _⟩ := Kd.Q_elem hq (0, 0) 0 (by omega) (by simp)
  have hcs := kPair_cells hM
  subst hcs
  have f0 : w.cell? ⟨gl, ol, none⟩ = some (.int .i64 r) := hcc 0 _ rfl
  have f1 : w.cell? ⟨gl, ol + 1, none⟩ = some (.int .i64 z) := hcc 1 _ rfl
  have HCL : Aside0 (l.length + 1 ≤ cl) := ⟨by have := (Kd.Q_reads' hq).2.1; rw [hlen] at this; exact this⟩
  have c2 : w.cell? ⟨p, 2, none⟩ = some (.slice (some ⟨g, 0, none⟩) x.limbo.length cr) := (blk_cell h.box 2).trans rfl
  have HH := Aside0.mk hh
  have HLL := Aside0.mk hll
  have HI := Aside0.mk h
  have HGL := Aside0.mk hglt
  have HG1 := Aside0.mk hg1
  have u0 : (l.length : Int) + 1 ≠ 0 := by omega
  have u1 : decide (((l.length + 1 : Nat) : Int) = 0) = false := decide_eq_false (by omega)
  have u2 : (((l.length + 1 : Nat) : Int) == 0) = false := by simp; omega
  have b4 : (0 : Int) < ((l.length + 1 : Nat) : Int) := by omega
  clear h hg e1 hh hl hll hq hv hg1 hg2 hn hM hcc hglt hlen
  go_enter Tryz.func94, Tryz.ntmps94
  have d1 : decide (z > now) = false := decide_eq_false hz
  have d1b : decide (now < z) = false := d1
  have d3 : decide (IntKind.u64.wrap (IntKind.u64.wrap now - IntKind.u64.wrap z) < 3) = true := decide_eq_true hr
  clear hr hz
  go_wp2_with (go_at_call 92; refine HIN.out.mono ?_; rintro e w1 ⟨rfl, rfl⟩; rw [HH.out])
  go_ret
  exact ⟨rfl, ⟨_, _, _, _, HI.out.below (below_alloc (Below.refl _ _) _)⟩, (Moves.refl _ _).alloc _⟩
set_option maxHeartbeats 2000000 in
set_option maxRecDepth 100000 in
theorem ready_ripe {ok : Nat → Prop} {p : Nat} {x : Ep} (t now : Int) (w : World) (h : IsEpochs ok p x w) (hg : x.Good) (hh : x.has t = true) (r z : Int) (l : List (Int × Int)) (hl : x.limbo.getD t.toNat [] = (r, z) :: l) (hz : ¬ z > now) (hr : ¬ IntKind.u64.wrap (IntKind.u64.wrap now - IntKind.u64.wrap z) < 3) :
    Calls Tryz.prog 94 #[.pointer (some ⟨p, 0, none⟩), .int .i64 t, .int .i64 now] w (EpPost ok p (.int .i64 (x.ready t now).1) (x.ready t now).2 w) := by
  have HIN := Aside0.mk (ep_in t w h hg)
  have e1 : x.ready t now = (r, { x with limbo := x.limbo.set t.toNat l }) := by simp only [Ep.ready, hh, hl, if_true]; rw [if_pos (by simp [ripe]; omega)]
  rw [e1]
  obtain ⟨b0, b1⟩ : 0 ≤ t ∧ t < x.said.length := by simpa [Ep.has] using hh
  obtain ⟨sv, lv, gv, ρ, h⟩ := h
  obtain ⟨A, cr, rfl⟩ := Kd.R_slice h.row
  have hn : ((List.range x.limbo.length).map fun i => [gv i]).length = x.limbo.length := by simp
  rw [hn] at h
  have b3 : t < x.limbo.length := by rw [h.len]; exact b1
  obtain ⟨_, g, rfl, hg1, hg2, d2, z2⟩ := h.rowcell t b0 b3
  have hll : x.limbo[t.toNat]? = some ((r, z) :: l) := by
    have : x.limbo[t.toNat]? = some (x.limbo[t.toNat]'(by omega)) := List.getElem?_eq_getElem (by omega)
    rw [List.getD_eq_getElem?_getD, this] at hl
    rw [this]
    exact congrArg some hl
  have hq := h.limbo _ _ hll
  obtain ⟨gl, ol, cl, hv, _, hglt, _⟩ := Kd.Q_form hq (by simp)
  have hlen : ((r, z) :: l).length = l.length + 1 := List.length_cons
  have HV := Aside0.mk hv
  rw [hv, hlen] at d2
  rw [hv] at hq
  have HQ := Aside0.mk hq
  obtain ⟨cs, _, hM, hcc, _⟩ := Kd.Q_elem hq (0, 0) 0 (by omega) (by simp)
  have hcs := kPair_cells hM
  subst hcs
  have f0 : w.cell? ⟨gl, ol, none⟩ = some (.int .i64 r) := hcc 0 _ rfl
  have f1 : w.cell? ⟨gl, ol + 1, none⟩ = some (.int .i64 z) := hcc 1 _ rfl
  have HCL : Aside0 (l.length + 1 ≤ cl) := ⟨by have := (Kd.Q_reads' hq).2.1; rw [hlen] at this; exact this⟩
  have c2 : w.cell? ⟨p, 2, none⟩ = some (.slice (some ⟨g, 0, none⟩) x.limbo.length cr) := (blk_cell h.box 2).trans rfl
  have HH := Aside0.mk hh
  have HLL := Aside0.mk hll
  have HI := Aside0.mk h
  have HGL := Aside0.mk hglt
  have HG1 := Aside0.mk hg1
  have u0 : (l.length : Int) + 1 ≠ 0 := by omega
  have u1 : decide (((l.length + 1 : Nat) : Int) = 0) = false := decide_eq_false (by omega)
  have u2 : (((l.length + 1 : Nat) : Int) == 0) = false := by simp; omega
  have b4 : (0 : Int) < ((l.length + 1 : Nat) : Int) := by omega
  clear h hg e1 hh hl hll hq hv hg1 hg2 hn hM hcc hglt hlen
  go_enter Tryz.func94, Tryz.ntmps94
  have d1 : decide (z > now) = false := decide_eq_false hz
  have d1b : decide (now < z) = false := d1
  have d3 : decide (IntKind.u64.wrap (IntKind.u64.wrap now - IntKind.u64.wrap z) < 3) = false := decide_eq_false hr
  clear hz hr
  go_upto_region 6 with (go_at_call 92; refine HIN.out.mono ?_; rintro e w1 ⟨rfl, rfl⟩; rw [HH.out])
  have HI2 := Aside0.mk (HI.out.below (below_alloc (Below.refl _ _) (.cells #[.int .i64 r, .int .i64 z] 192)))
  have HM2 := Aside0.mk ((Moves.refl ok w1).alloc (.cells #[.int .i64 r, .int .i64 z] 192))
  have HB2 := Aside0.mk (blk_new w1 (.cells #[.int .i64 r, .int .i64 z] 192))
  have HQ2 := Aside0.mk (Kd.Q_alloc HQ.out (.cells #[.int .i64 r, .int .i64 z] 192))
  have HNB : Aside0 (w1.heap.size ≠ g) := ⟨fun e => by have := HI.out.lt g HG1.out; omega⟩
  have hcut : ∀ W : World, (Instr.slice 109 (.slice (some ⟨gl, ol, none⟩) (l.length + 1) cl) (some (.int .i64 1)) none none).run Tryz.prog W = .ok (.slice (if cl = 1 then some ⟨gl, ol, none⟩ else (some (⟨gl, ol, none⟩ : Addr)).map (·.add 2)) l.length (cl - 1)) W := fun W => gone_cut _ _ _ W
  clear HI f0 f1 c2 d2 z2
  obtain ⟨_, g', e', _, _, d2, _⟩ := HI2.out.rowcell t b0 b3
  injection e' with e'
  injection e' with e' _ _
  subst e'
  rw [HV.out, show ((r, z) :: l).length = l.length + 1 from rfl] at d2
  have c2 := (blk_cell HI2.out.box 2).trans (rfl : _ = some (Value.slice (some ⟨g, 0, none⟩) x.limbo.length cr))
  generalize hsz : w1.heap.size = b at HB2 HNB ⊢
  have HSZ := Aside0.mk hsz
  clear hsz
  generalize w1.alloc (.cells #[.int .i64 r, .int .i64 z] 192) = w2 at HI2 HM2 HB2 HQ2 c2 d2 ⊢
  refine start_ (n := 15) (S := fun w' => w'.cell? ⟨p, 2, none⟩ = some (.slice (some ⟨g, 0, none⟩) x.limbo.length cr) ∧ w'.cell? ⟨g, t.toNat, none⟩ = some (.slice (some ⟨gl, ol, none⟩) (l.length + 1) cl)) (ds := [14]) #[false, false, false, false, false, false, false, false, false, false, false, false, false, false, false] (by kernel_rfl) rfl rfl ⟨c2, d2⟩ (fun hHeld => ?_); refine with_tabW tabReady6 bitsReady6 (fun HT_ HW_ => ?_)
  have HI2 := Aside0.mk (HI2.out.step (w1 := w2.drew) (Nat.le_refl _) (fun _ _ _ => rfl))
  have HM2 := Aside0.mk HM2.out.drew
  have HB2 := Aside0.mk (blk_drew HB2.out)
  have HQ2 := Aside0.mk (Kd.Q_drew HQ2.out)
  clear c2 d2
  generalize World.drew _ = w2 at HI2 HM2 HB2 HQ2 hHeld ⊢
  refine pure_ (i := 0) (N := (some 45)) (v := ?_) (a' := ?_) #[true, false, false, false, false, false, false, false, false, false, false, false, false, false, false] rfl rfl (any_of HT_.out (by kernel_rfl)) (fun _ _ _ h => h) (Or.inl ⟨by rfl, ?_⟩) ?_ ?_
  rotate_left
  · intro w'
    go_simp
    with_reducible rfl
  rotate_left
  · simp only [Act.put, List.setIfInBounds_toArray, List.set_cons_zero, List.set_cons_succ, i64_w, i32_w]
    rfl
  refine pure_ (i := 1) (N := (some 46)) (v := ?_) (a' := ?_) #[true, true, false, false, false, false, false, false, false, false, false, false, false, false, false] rfl rfl (any_of HT_.out (by kernel_rfl)) (fun _ _ _ h => h) (Or.inl ⟨by rfl, ?_⟩) ?_ ?_
  rotate_left
  · intro w'
    go_simp
    with_reducible rfl
  rotate_left
  · simp only [Act.put, List.setIfInBounds_toArray, List.set_cons_zero, List.set_cons_succ, i64_w, i32_w]
    rfl
  refine pure_ (i := 2) (N := (some 47)) (v := ?_) (a' := ?_) #[true, true, true, false, false, false, false, false, false, false, false, false, false, false, false] rfl rfl (any_of HT_.out (by kernel_rfl)) (fun _ _ _ h => h) (Or.inl ⟨by rfl, ?_⟩) ?_ ?_
  rotate_left
  · intro w'
    go_simp
    with_reducible rfl
  rotate_left
  · simp only [Act.put, List.setIfInBounds_toArray, List.set_cons_zero, List.set_cons_succ, i64_w, i32_w]
    rfl
  refine take_ (i := 3) (N := (some 48)) (v := ?_) (a' := ?_) #[true, true, true, true, false, false, false, false, false, false, false, false, false, false, false] rfl rfl (take_ofW HT_.out HW_.out (by kernel_rfl)) (fun _ _ _ h => h) (Or.inl ⟨by rfl, ?_⟩) hHeld ?_ ?_
  rotate_left
  · rintro w' ⟨s0, s1⟩
    go_simp
    with_reducible rfl
  rotate_left
  · simp only [Act.put, List.setIfInBounds_toArray, List.set_cons_zero, List.set_cons_succ, i64_w, i32_w]
    rfl
  refine pure_ (i := 4) (N := (some 49)) (v := ?_) (a' := ?_) #[true, true, true, true, true, false, false, false, false, false, false, false, false, false, false] rfl rfl (any_of HT_.out (by kernel_rfl)) (fun _ _ _ h => h) (Or.inl ⟨by rfl, ?_⟩) ?_ ?_
  rotate_left
  · intro w'
    go_simp
    with_reducible rfl
  rotate_left
  · simp only [Act.put, List.setIfInBounds_toArray, List.set_cons_zero, List.set_cons_succ, i64_w, i32_w]
    rfl
  refine pure_ (i := 5) (N := (some 50)) (v := ?_) (a' := ?_) #[true, true, true, true, true, true, false, false, false, false, false, false, false, false, false] rfl rfl (any_of HT_.out (by kernel_rfl)) (fun _ _ _ h => h) (Or.inl ⟨by rfl, ?_⟩) ?_ ?_
  rotate_left
  · intro w'
    go_simp
    with_reducible rfl
  rotate_left
  · simp only [Act.put, List.setIfInBounds_toArray, List.set_cons_zero, List.set_cons_succ, i64_w, i32_w]
    rfl
  refine pure_ (i := 6) (N := (some 51)) (v := ?_) (a' := ?_) #[true, true, true, true, true, true, true, false, false, false, false, false, false, false, false] rfl rfl (any_of HT_.out (by kernel_rfl)) (fun _ _ _ h => h) (Or.inl ⟨by rfl, ?_⟩) ?_ ?_
  rotate_left
  · intro w'
    go_simp
    with_reducible rfl
  rotate_left
  · simp only [Act.put, List.setIfInBounds_toArray, List.set_cons_zero, List.set_cons_succ, i64_w, i32_w]
    rfl
  refine pure_ (i := 7) (N := (some 52)) (v := ?_) (a' := ?_) #[true, true, true, true, true, true, true, true, false, false, false, false, false, false, false] rfl rfl (any_of HT_.out (by kernel_rfl)) (fun _ _ _ h => h) (Or.inl ⟨by rfl, ?_⟩) ?_ ?_
  rotate_left
  · intro w'
    go_simp
    with_reducible rfl
  rotate_left
  · simp only [Act.put, List.setIfInBounds_toArray, List.set_cons_zero, List.set_cons_succ, i64_w, i32_w]
    rfl
  refine take_ (i := 8) (N := (some 53)) (v := ?_) (a' := ?_) #[true, true, true, true, true, true, true, true, true, false, false, false, false, false, false] rfl rfl (take_ofW HT_.out HW_.out (by kernel_rfl)) (fun _ _ _ h => h) (Or.inl ⟨by rfl, ?_⟩) hHeld ?_ ?_
  rotate_left
  · rintro w' ⟨s0, s1⟩
    go_simp
    with_reducible rfl
  rotate_left
  · simp only [Act.put, List.setIfInBounds_toArray, List.set_cons_zero, List.set_cons_succ, i64_w, i32_w]
    rfl
  refine pure_ (i := 9) (N := (some 54)) (v := ?_) (a' := ?_) #[true, true, true, true, true, true, true, true, true, true, false, false, false, false, false] rfl rfl (any_of HT_.out (by kernel_rfl)) (fun _ _ _ h => h) (Or.inl ⟨by rfl, ?_⟩) ?_ ?_
  rotate_left
  · intro w'
    go_simp
    with_reducible rfl
  rotate_left
  · simp only [Act.put, List.setIfInBounds_toArray, List.set_cons_zero, List.set_cons_succ, i64_w, i32_w]
    rfl
  refine pure_ (i := 10) (N := (some 55)) (v := ?_) (a' := ?_) #[true, true, true, true, true, true, true, true, true, true, true, false, false, false, false] rfl rfl (any_of HT_.out (by kernel_rfl)) (fun _ _ _ h => h) (Or.inl ⟨by rfl, ?_⟩) ?_ ?_
  rotate_left
  · intro w'
    go_simp
    with_reducible rfl
  rotate_left
  · simp only [Act.put, List.setIfInBounds_toArray, List.set_cons_zero, List.set_cons_succ, i64_w, i32_w]
    rfl
  refine take_ (i := 11) (N := (some 56)) (v := ?_) (a' := ?_) #[true, true, true, true, true, true, true, true, true, true, true, true, false, false, false] rfl rfl (take_ofW HT_.out HW_.out (by kernel_rfl)) (fun _ _ _ h => h) (Or.inl ⟨by rfl, ?_⟩) hHeld ?_ ?_
  rotate_left
  · rintro w' ⟨s0, s1⟩
    go_simp
    with_reducible rfl
  rotate_left
  · simp only [Act.put, List.setIfInBounds_toArray, List.set_cons_zero, List.set_cons_succ, i64_w, i32_w]
    rfl
  refine pure_ (i := 12) (N := (some 57)) (v := ?_) (a' := ?_) #[true, true, true, true, true, true, true, true, true, true, true, true, true, false, false] rfl rfl (any_of HT_.out (by kernel_rfl)) (fun _ _ _ h => h) (Or.inl ⟨by rfl, ?_⟩) ?_ ?_
  rotate_left
  · intro w'
    go_simp
    with_reducible rfl
  rotate_left
  · simp only [Act.put, List.setIfInBounds_toArray, List.set_cons_zero, List.set_cons_succ, i64_w, i32_w]
    rfl
  refine pure_ (i := 13) (N := (some 58)) (v := ?_) (a' := ?_) #[true, true, true, true, true, true, true, true, true, true, true, true, true, true, false] rfl rfl (any_of HT_.out (by kernel_rfl)) (fun _ _ _ h => h) (Or.inl ⟨by rfl, ?_⟩) ?_ ?_
  rotate_left
  · intro w'
    go_simp
    with_reducible rfl
  rotate_left
  · simp only [Act.put, List.setIfInBounds_toArray, List.set_cons_zero, List.set_cons_succ, i64_w, i32_w]
    rfl
  obtain ⟨_, g', e', _, _, _, z2⟩ := HI2.out.rowcell t b0 b3
  injection e' with e'
  injection e' with e' _ _
  subst e'
  refine last_ (i := 14) (N := none) #[true, true, true, true, true, true, true, true, true, true, true, true, true, true, true] rfl rfl (one_of HT_.out (by kernel_rfl)) (by decide) (fun K_ hK => ?_)
  refine skip_ (w1 := ?_) (by rfl) rfl ?_ ?_
  rotate_left
  · go_simp
    rfl
  refine hK.out _ _ ?_
  clear hK K_
  refine done_ (done_of HT_.out (by kernel_rfl)) ?_
  have hq := Kd.Q_drop HQ2.out (k := 1) (by simp)
  have hq' : kPair.Q 192 w2 0 (fun k => ok k ∧ ρ k = 3 + t.toNat) (.slice (if cl = 1 then some ⟨gl, ol, none⟩ else some ⟨gl, ol + 2, none⟩) l.length (cl - 1)) l := by simpa [Kd.pair, Kd.int, Kd.scalar, Addr.add] using hq
  have q0_ := Aside0.mk (HI2.out.turn t.toNat (by omega) (.slice (if cl = 1 then some ⟨gl, ol, none⟩ else some ⟨gl, ol + 2, none⟩) l.length (cl - 1)) rfl l hq')
  have q1_ := Aside0.mk (HM2.out.set (p := ⟨g, t.toNat, none⟩) (.inl HG1.out) (.slice (if cl = 1 then some ⟨gl, ol, none⟩ else some ⟨gl, ol + 2, none⟩) l.length (cl - 1)))
  have q2_ := Aside0.mk (blk_far HB2.out (p := ⟨g, t.toNat, none⟩) HNB.out (.slice (if cl = 1 then some ⟨gl, ol, none⟩ else some ⟨gl, ol + 2, none⟩) l.length (cl - 1)))
  clear hq hq' HI2 HM2 HB2 HQ2 hHeld z2 hcut HQ HV
  generalize (Value.slice (if cl = 1 then some ⟨gl, ol, none⟩ else some ⟨gl, ol + 2, none⟩) l.length (cl - 1)) = vl at q0_ q1_ q2_ ⊢
  generalize w2.setCell ⟨g, t.toNat, none⟩ vl = w3 at q0_ q1_ q2_ ⊢
  have f0 := (blk_cell q2_.out 0).trans (rfl : _ = some (Value.int .i64 r))
  go_wp2_with fail
  go_ret
  exact ⟨rfl, ⟨_, _, _, _, q0_.out⟩, q1_.out⟩
theorem ep_ready {ok : Nat → Prop} {p : Nat} {x : Ep} (t now : Int) (w : World) (h : IsEpochs ok p x w) (hg : x.Good) :
    Calls Tryz.prog 94 #[.pointer (some ⟨p, 0, none⟩), .int .i64 t, .int .i64 now] w (EpPost ok p (.int .i64 (x.ready t now).1) (x.ready t now).2 w) := by
  cases hh : x.has t with
  | false => exact ready_out t now w h hg hh
  | true =>
    cases hl : x.limbo.getD t.toNat [] with
    | nil => exact ready_none t now w h hg hh hl
    | cons q l =>
      obtain ⟨r, z⟩ := q
      by_cases hz : z > now
      · exact ready_past t now w h hg hh r z l hl hz
      · by_cases hr : IntKind.u64.wrap (IntKind.u64.wrap now - IntKind.u64.wrap z) < 3
        · exact ready_soon t now w h hg hh r z l hl hz hr
        · exact ready_ripe t now w h hg hh r z l hl hz hr
theorem Ep.Good.ready {x : Ep} (h : x.Good) (t now : Int) : (x.ready t now).2.Good := by
  unfold Ep.ready
  split
  · split
    · exact h
    · split
      · exact ⟨h.few⟩
      · exact h
  · exact h
end Go.Proofs.YthlmgbdknjilpaaGreat.Tower
namespace Go.Proofs.YthlmgbdknjilpaaGreat.Tower
open Go Go.RowKit Go.Proofs.YthlmgbdknjilpaaGreatW.PrintWords Go.Proofs.YthlmgbdknjilpaaGreatW.PrintLast Go.Proofs.YthlmgbdknjilpaaGreatW.PrintMore Go.Proofs.YthlmgbdknjilpaaGreat.Own
set_option linter.unusedVariables false
set_option linter.unusedSimpArgs false

def Ar.freed (a : Ar) (j : Nat) (s : Sl) (r : Int) : Ar := { a with slots := a.slots.set j { s with used := false }, free := a.free ++ [placeOf r], used := wrap64 (a.used - 1) }
def Ar.free_ (a : Ar) (r : Int) : Bool × Ar :=
  match a.idx r with
  | none => (false, a.fault)
  | some j => match a.slots[j]? with
    | none => (false, a)
    | some s => (true, a.freed j s r)
structure FreePost (ok : Nat → Prop) (pA : Nat) (v : Value) (a1 : Ar) (w : World) (e : Ending) (w1 : World) : Prop where
  val : e = .returned v
  out : ∃ ok1, IsArena ok1 pA a1 w1 ∧ Moves ok ok1 w w1
/-- A free place more. -/
theorem ArenaAt.pushfree {ok : Nat → Prop} {pA : Nat} {sv fv v1 : Value} {lv : Nat → Lv} {ρ : Nat → Nat} {a : Ar} {W w1 : World} {q : Int} (h : ArenaAt ok pA sv fv lv ρ a W) (hg : W.grownBy w1 fv.ownBlock)
    (hr : (Kd.int .i64).Q 3 w1 0 (fun k => (ok k ∧ ρ k = 2) ∨ W.heap.size ≤ k) v1 (a.free ++ [q])) :
    ArenaAt (fun k => ok k ∨ (W.heap.size ≤ k ∧ k < w1.heap.size)) pA sv v1 lv (fun k => if k < W.heap.size then ρ k else 2) { a with free := a.free ++ [q] } (w1.setCell ⟨pA, 1, none⟩ v1) := by
  have hpA := h.lt pA h.own
  have hs : (w1.setCell ⟨pA, 1, none⟩ v1).heap.size = w1.heap.size := by simp [World.setCell]
  have hne : ∀ r, r ≠ 2 → ∀ k, (ok k ∧ ρ k = r) → some k ≠ fv.ownBlock := fun r hr1 k hk e => by
    have := (h.free.1 k e.symm).2
    rw [hk.2] at this
    exact hr1 this
  have hmove : ∀ r, r ≠ 2 → r ≠ 0 → ∀ k, (ok k ∧ ρ k = r) → k < W.heap.size → (w1.setCell ⟨pA, 1, none⟩ v1).heap[k]? = W.heap[k]? := fun r hr1 hr0 k hk hlt =>
    (Below.heap_setCell w1 ⟨pA, 1, none⟩ v1 k (fun e => hr0 (by rw [← hk.2, show k = pA from e, h.role]))).trans (hg.block k hlt (hne r hr1 k hk))
  have hup : ∀ r k, (ok k ∧ ρ k = r) → k < W.heap.size → ((ok k ∨ (W.heap.size ≤ k ∧ k < w1.heap.size)) ∧ (if k < W.heap.size then ρ k else 2) = r) := fun r k hk hlt => ⟨.inl hk.1, by rw [if_pos hlt]; exact hk.2⟩
  exact {
    own := .inl h.own
    role := by rw [if_pos hpA]; exact h.role
    lt := fun k hk => by
      rw [hs]
      rcases hk with hk | hk
      · exact Nat.lt_of_lt_of_le (h.lt k hk) hg.size
      · exact hk.2
    box := by
      have h0 := blk_grown h.box hg (fun e => by have := (h.free.1 pA e.symm).2; rw [h.role] at this; cases this)
      exact blk_set h0 1 v1
    free := by
      refine Kd.Q_far (Kd.Q_mono (Kd.Q_bound hr) (fun k hk => ?_)) (fun k hk e => ?_) v1
      · have hlt := hk.2.2.1
        rcases hk.1 with h1 | h1
        · exact ⟨.inl h1.1, by rw [if_pos (h.lt k h1.1)]; exact h1.2⟩
        · exact ⟨.inr ⟨h1, hlt⟩, by rw [if_neg (by omega)]⟩
      · have := hk.2
        rw [show k = pA from e, if_pos hpA, h.role] at this
        cases this
    rows := Kd.R_mono (Kd.R_step (Kd.R_bound h.rows) (fun k hk hlt => hmove 1 (by decide) (by decide) k hk.1 hlt)) (fun k hk => hup 1 k hk.1 (h.lt k hk.1.1))
    node := fun i s h2 => by
      have hn := h.node i s h2
      exact ⟨(hn.1.step (hmove 3 (by decide) (by decide))).mono (fun k hk _ => hup 3 k hk (h.lt k hk.1)), (hn.2.1.step (hmove 3 (by decide) (by decide))).mono (fun k hk _ => hup 3 k hk (h.lt k hk.1)), (hn.2.2.step (hmove 3 (by decide) (by decide))).mono (fun k hk _ => hup 3 k hk (h.lt k hk.1))⟩
    ways := fun i s h2 => Kd.R_mono (Kd.R_step (h.ways i s h2) (hmove _ (by omega) (by omega))) (fun k hk => hup _ k hk (h.lt k hk.1)) }
def TFree5 : Bool × List (List Nat × List Nat) := (true, [([], []), ([], []), ([1], [1]), ([2], [2]), ([3], [3]), ([], []), ([5], [5]), ([6], [6]), ([4, 7, 6], [4, 7]), ([0, 0, 1, 2, 3, 4, 5, 6, 7, 8], [0]), ([9, 0, 1, 2, 3, 4, 5, 6, 7, 8], [9]), ([10, 8, 8, 0, 1, 2, 3, 4, 5, 6, 7, 8], [8, 10])])
def BFree5 : List Nat := [0, 0, 2, 6, 14, 0, 32, 96, 254, 511, 1023, 2047]
theorem tabFree5 : rtab .any (opsOf Tryz.f91 5) = TFree5 := by kernel_rfl
theorem bitsFree5 : waitsOk TFree5.2 BFree5 = true := by kernel_rfl
set_option maxHeartbeats 2000000 in
set_option maxRecDepth 100000 in
theorem free_calls {ok : Nat → Prop} {pA : Nat} {a : Ar} (r : Int) (w : World) (h : IsArena ok pA a w) (hl : a.slots.length < 1000000) (hfl : a.free.length < 1000000) :
    Calls Tryz.prog 91 #[.pointer (some ⟨pA, 0, none⟩), .int .i64 r] w (FreePost ok pA (.bool (a.free_ r).1) (a.free_ r).2 w) := by
  obtain ⟨sv, fv, lv, ρ, h⟩ := h
  have HA := Aside0.mk (at_calls r w h hl)
  cases hx : a.idx r with
  | none =>
    have HF := Aside0.mk (fault_is h)
    have HX := Aside0.mk hx
    have e1 : a.free_ r = (false, a.fault) := by simp [Ar.free_, hx]
    rw [e1]
    clear h hx e1
    go_enter Tryz.func91, Tryz.ntmps91
    go_wp2_with (go_at_call 82; refine HA.out.mono ?_; rintro e w1 ⟨_, hm⟩; obtain ⟨rfl, rfl⟩ := hm HX.out; clear hm)
    go_ret
    exact ⟨rfl, ok, HF.out.1, HF.out.2⟩
  | some j =>
  obtain ⟨hp, s, hs, hu, hr⟩ := Ar.idx_some hx
  obtain ⟨ad, cap, rfl⟩ := Kd.R_slice h.rows
  obtain ⟨hn, g, rfl, hg, hρ, hcc, hfz⟩ := h.cells hs
  have HX := Aside0.mk hx
  have HI := Aside0.mk h
  have HS := Aside0.mk hs
  have c9 : w.cell? ⟨g, j * 10 + 9, none⟩ = some (.bool s.used) := hcc 9 _ rfl
  have z9 := hfz 9
  have e1 : a.free_ r = (true, a.freed j s r) := by simp [Ar.free_, hx, hs]
  rw [e1]
  have HG := Aside0.mk hg
  clear h hx hcc hfz hp hs hu hr e1 hg
  go_enter Tryz.func91, Tryz.ntmps91
  go_upto_region 5 with (go_at_call 82; refine HA.out.mono ?_; rintro e w1 ⟨hm, _⟩; obtain ⟨g1, n1, cap1, e1, rfl, rfl⟩ := hm j HX.out; injection e1 with e1 _ _; injection e1 with e1; injection e1 with e1 _ _; subst e1; clear hm)
  have hN9 := HI.out.node _ _ HS.out
  have hW9 := HI.out.ways _ _ HS.out
  have q0_ := Aside0.mk (HI.out.seg HS.out 9 [.bool false] (by simp) { s with used := false } lv (fun _ _ => rfl) rfl hN9 hW9)
  have q0_ : Aside0 (ArenaAt ok pA _ fv lv ρ _ (w1.setCell ⟨g, j * 10 + 9, none⟩ (.bool false))) := q0_
  have q1_ := Aside0.mk ((Moves.refl ok w1).set (p := ⟨g, j * 10 + 9, none⟩) (.inl HG.out) (.bool false))
  clear HI hN9 hW9 c9 z9
  generalize w1.setCell ⟨g, j * 10 + 9, none⟩ (.bool false) = w2 at q0_ q1_ ⊢
  obtain ⟨Af, cf, rfl, _⟩ := Kd.Q_slice q0_.out.free
  have c1 := (blk_cell q0_.out.box 1).trans (rfl : _ = some (Value.slice Af a.free.length cf))
  refine start_ (n := 12) (S := fun w' => w'.cell? ⟨pA, 1, none⟩ = some (.slice Af a.free.length cf)) (ds := [8, 11]) #[false, false, false, false, false, false, false, false, false, false, false, false] (by kernel_rfl) rfl rfl c1 (fun hHeld => ?_); refine with_tabW tabFree5 bitsFree5 (fun HT_ HW_ => ?_)
  have q0_ := Aside0.mk (q0_.out.step (w1 := w2.drew) (Nat.le_refl _) (fun _ _ _ => rfl))
  have q1_ := Aside0.mk q1_.out.drew
  clear c1
  generalize World.drew _ = w2 at q0_ q1_ hHeld ⊢
  refine pure_ (i := 0) (N := (some 14)) (v := ?_) (a' := ?_) #[true, false, false, false, false, false, false, false, false, false, false, false] rfl rfl (any_of HT_.out (by kernel_rfl)) (fun _ _ _ h => h) (Or.inl ⟨by rfl, ?_⟩) ?_ ?_
  rotate_left
  · intro w'
    go_simp
    with_reducible rfl
  rotate_left
  · simp only [Act.put, List.setIfInBounds_toArray, List.set_cons_zero, List.set_cons_succ, i64_w, i32_w]
    rfl
  refine pure_ (i := 1) (N := (some 15)) (v := ?_) (a' := ?_) #[true, true, false, false, false, false, false, false, false, false, false, false] rfl rfl (any_of HT_.out (by kernel_rfl)) (fun _ _ _ h => h) (Or.inl ⟨by rfl, ?_⟩) ?_ ?_
  rotate_left
  · intro w'
    go_simp
    with_reducible rfl
  rotate_left
  · simp only [Act.put, List.setIfInBounds_toArray, List.set_cons_zero, List.set_cons_succ, i64_w, i32_w]
    rfl
  refine pure_ (i := 2) (N := (some 16)) (v := ?_) (a' := ?_) #[true, true, true, false, false, false, false, false, false, false, false, false] rfl rfl (any_of HT_.out (by kernel_rfl)) (fun _ _ _ h => h) (Or.inl ⟨by rfl, ?_⟩) ?_ ?_
  rotate_left
  · intro w'
    go_simp
    with_reducible rfl
  rotate_left
  · simp only [Act.put, List.setIfInBounds_toArray, List.set_cons_zero, List.set_cons_succ, i64_w, i32_w]
    rfl
  refine pure_ (i := 3) (N := (some 17)) (v := ?_) (a' := ?_) #[true, true, true, true, false, false, false, false, false, false, false, false] rfl rfl (any_of HT_.out (by kernel_rfl)) (fun _ _ _ h => h) (Or.inl ⟨by rfl, ?_⟩) ?_ ?_
  rotate_left
  · intro w'
    go_simp
    with_reducible rfl
  rotate_left
  · simp only [Act.put, List.setIfInBounds_toArray, List.set_cons_zero, List.set_cons_succ, i64_w, i32_w]
    rfl
  refine take_ (i := 4) (N := (some 18)) (v := ?_) (a' := ?_) #[true, true, true, true, true, false, false, false, false, false, false, false] rfl rfl (take_ofW HT_.out HW_.out (by kernel_rfl)) (fun _ _ _ h => h) (Or.inl ⟨by rfl, ?_⟩) hHeld ?_ ?_
  rotate_left
  · rintro w' s0
    go_simp
    with_reducible rfl
  rotate_left
  · simp only [Act.put, List.setIfInBounds_toArray, List.set_cons_zero, List.set_cons_succ, i64_w, i32_w]
    rfl
  refine pure_ (i := 5) (N := (some 19)) (v := ?_) (a' := ?_) #[true, true, true, true, true, true, false, false, false, false, false, false] rfl rfl (any_of HT_.out (by kernel_rfl)) (fun _ _ _ h => h) (Or.inl ⟨by rfl, ?_⟩) ?_ ?_
  rotate_left
  · intro w'
    go_simp
    with_reducible rfl
  rotate_left
  · simp only [Act.put, List.setIfInBounds_toArray, List.set_cons_zero, List.set_cons_succ, i64_w, i32_w]
    rfl
  refine one_ (i := 6) (N := (some 20)) #[true, true, true, true, true, true, true, false, false, false, false, false] rfl rfl (one_of HT_.out (by kernel_rfl)) (by decide) (fun K_ hK => ?_)
  refine call_ 110 #[.int .i64 r] (by rfl) rfl ?hrun6 ?_
  (case hrun6 => first | (go_simp; done) | (go_simp; exact enters Tryz.func110 (by kernel_rfl) rfl _ _))
  refine (ref_place r _).mono ?_
  rintro e w2 ⟨rfl, rfl⟩
  refine ⟨_, rfl, ?_⟩
  refine hK.out _ _ hHeld (fun hHeld => ?_)
  clear hK K_
  refine norm_ (a' := ?_) ?_ ?_
  rotate_left
  · show Act.put _ (some 20) _ = _
    simp only [Act.put, List.setIfInBounds_toArray, List.set_cons_zero, List.set_cons_succ, i64_w, i32_w]
    rfl
  refine one_ (i := 7) (N := (some 21)) #[true, true, true, true, true, true, true, true, false, false, false, false] rfl rfl (one_of HT_.out (by kernel_rfl)) (by decide) (fun K_ hK => ?_)
  refine value_ (v := .slice (some ⟨w2.heap.size, 0, none⟩) 1 1) (w1 := w2.alloc (.cells #[.int .i64 (placeOf r)] 3)) (by rfl) rfl ?hbs ?_
  (case hbs => go_simp)
  refine hK.out _ _ (pw_cell_below (below_alloc (Below.refl _ _) _) hHeld) (fun hHeld => ?_)
  clear hK K_
  refine norm_ (a' := ?_) ?_ ?_
  rotate_left
  · show Act.put _ (some 21) _ = _
    simp only [Act.put, List.setIfInBounds_toArray, List.set_cons_zero, List.set_cons_succ, i64_w, i32_w]
    rfl
  refine last_ (i := 8) (N := (some 22)) #[true, true, true, true, true, true, true, true, true, false, false, false] rfl rfl (one_of HT_.out (by kernel_rfl)) (by decide) (fun K_ hK => ?_)
  refine Kd.Q_append_step (Kd.int .i64) (w0 := w2) 0 (by rfl) (.tmp 18) (.tmp 21) 106 3 (.int .i64 0) 8 rfl Tryz.underlying106 info_int rfl (by decide) (by decide) (.slice Af a.free.length cf) a.free (placeOf r) [.int .i64 (placeOf r)] (fun k => (ok k ∧ ρ k = 2) ∨ w2.heap.size ≤ k) (fun _ => False) rfl rfl ?aP (fun _ hk => hk.elim) (fun k hk => .inr hk) (Kd.Q_mono q0_.out.free (fun k hk => .inl hk)) (Below.refl _ _) (Nat.zero_le _) (by omega) ?_
  (case aP => rfl)
  intro v5 w5 ho hb5 hg hat
  have hle : (a.free ++ [placeOf r]).length = a.free.length + 1 := by simp
  obtain ⟨A5, cc5, rfl, _⟩ := Kd.Q_slice ho
  rw [hle] at ho hat ⊢
  have hne : some pA ≠ (Value.slice Af a.free.length cf).ownBlock := (fun e => by have := (q0_.out.free.1 pA e.symm).2; rw [q0_.out.role] at this; cases this)
  have f0 : w5.frozen? ⟨pA, 1, none⟩ = false := blk_frozen (blk_grown q0_.out.box hg hne) 1
  have c0 := (blk_cell (blk_grown q0_.out.box hg hne) 1).trans (rfl : _ = some (Value.slice Af a.free.length cf))
  have m0_ := Aside0.mk ho
  have m1_ := Aside0.mk hg
  clear ho hg hat hb5 hne hle
  refine hK.out _ _ ?_
  clear hK K_
  refine norm_ (a' := ?_) ?_ ?_
  rotate_left
  · show Act.put _ (some 22) _ = _
    simp only [Act.put, List.setIfInBounds_toArray, List.set_cons_zero, List.set_cons_succ, i64_w, i32_w]
    rfl
  refine pure_ (i := 9) (N := (some 23)) (v := ?_) (a' := ?_) #[true, true, true, true, true, true, true, true, true, true, false, false] rfl rfl (any_of HT_.out (by kernel_rfl)) (fun _ _ _ h => h) (Or.inl ⟨by rfl, ?_⟩) ?_ ?_
  rotate_left
  · intro w'
    go_simp
    with_reducible rfl
  rotate_left
  · simp only [Act.put, List.setIfInBounds_toArray, List.set_cons_zero, List.set_cons_succ, i64_w, i32_w]
    rfl
  refine pure_ (i := 10) (N := (some 24)) (v := ?_) (a' := ?_) #[true, true, true, true, true, true, true, true, true, true, true, false] rfl rfl (any_of HT_.out (by kernel_rfl)) (fun _ _ _ h => h) (Or.inl ⟨by rfl, ?_⟩) ?_ ?_
  rotate_left
  · intro w'
    go_simp
    with_reducible rfl
  rotate_left
  · simp only [Act.put, List.setIfInBounds_toArray, List.set_cons_zero, List.set_cons_succ, i64_w, i32_w]
    rfl
  refine last_ (i := 11) (N := none) #[true, true, true, true, true, true, true, true, true, true, true, true] rfl rfl (one_of HT_.out (by kernel_rfl)) (by decide) (fun K_ hK => ?_)
  refine skip_ (w1 := ?_) (by rfl) rfl ?_ ?_
  rotate_left
  · go_simp
    rfl
  refine hK.out _ _ ?_
  clear hK K_
  refine done_ (done_of HT_.out (by kernel_rfl)) ?_
  have n0_ := Aside0.mk (q0_.out.pushfree m1_.out m0_.out)
  have n1_ : Aside0 (Moves ok (fun k => ok k ∨ (w2.heap.size ≤ k ∧ k < w5.heap.size)) w1 (w5.setCell ⟨pA, 1, none⟩ (.slice A5 (a.free.length + 1) cc5))) := ⟨((q1_.out.grown m1_.out (fun k hk => .inl (q0_.out.free.1 k hk).1)).set (p := ⟨pA, 1, none⟩) (.inl q0_.out.own) _).owns (fun k hk => hk.elim .inl (fun h1 => .inr (by have := q1_.out.size; omega)))⟩
  clear q0_ q1_ m0_ m1_ c0 f0
  generalize w5.setCell ⟨pA, 1, none⟩ (.slice A5 (a.free.length + 1) cc5) = w6 at n0_ n1_ ⊢
  generalize (fun k => ok k ∨ (w2.heap.size ≤ k ∧ k < w5.heap.size)) = ok6 at n0_ n1_
  generalize (fun k => if k < w2.heap.size then ρ k else 2) = ρ6 at n0_
  have c3 := (blk_cell n0_.out.box 3).trans (rfl : _ = some (Value.int .i64 a.used))
  have z3 := blk_frozen n0_.out.box 3
  go_wp2_with fail
  go_ret
  exact ⟨rfl, ok6, ⟨_, _, _, _, n0_.out.box_set 3 (.int .i64 (wrap64 (a.used - 1))) (a.freed j s r) rfl rfl rfl⟩, n1_.out.set (p := ⟨pA, 3, none⟩) (n1_.out.fresh pA n0_.out.own) _⟩
theorem Ar.Good.free_few {a : Ar} (h : a.Good) : a.free.length < 1000000 := by
  have h1 := h.used
  have h2 := h.cnt
  have h3 := h.slots
  have h4 := h.most
  omega
theorem Ar.Good.free_ {a : Ar} (h : a.Good) (r : Int) : (a.free_ r).2.Good := by
  unfold Ar.free_
  cases hx : a.idx r with
  | none => exact h.fault
  | some j =>
    obtain ⟨hp, s, hs, hu, hr⟩ := Ar.idx_some hx
    simp only [hs]
    have hj := (List.getElem?_eq_some_iff.1 hs).1
    have hjs := (List.getElem?_eq_some_iff.1 hs).2
    have h1 := h.used
    have h2 := h.cnt
    have h3 := h.slots
    have h4 := h.most
    have hpos : 0 < a.slots.countP fun s => s.used := List.countP_pos_iff.2 ⟨s, by rw [← hjs]; exact List.getElem_mem hj, hu⟩
    have hc : (a.slots.set j { s with used := false }).countP (fun s => s.used) = (a.slots.countP fun s => s.used) - 1 := by
      rw [List.countP_set hj]
      simp [hjs, hu]
    have hw : wrap64 (a.used - 1) = a.used - 1 := by unfold wrap64; omega
    refine ⟨h4, by show ((a.slots.set j _).length : Int) ≤ _; rw [List.length_set]; exact h3, ?_, ?_, fun i q hi => ?_⟩
    · show wrap64 (a.used - 1) + ((a.free ++ [placeOf r]).length : Int) = ((a.slots.set j _).length : Int)
      rw [List.length_set, hw, List.length_append, List.length_singleton]
      omega
    · show (((a.slots.set j _).countP fun s => s.used : Nat) : Int) ≤ wrap64 (a.used - 1)
      rw [hc, hw]
      omega
    · by_cases e : j = i
      · subst e
        have hi : (a.slots.set j { s with used := false })[j]? = some q := hi
        rw [List.getElem?_set_self hj] at hi
        injection hi with hi
        subst hi
        exact h.small j s hs
      · have hi : (a.slots.set j { s with used := false })[i]? = some q := hi
        rw [List.getElem?_set_ne e] at hi
        exact h.small i q hi
end Go.Proofs.YthlmgbdknjilpaaGreat.Tower
namespace Go.Proofs.YthlmgbdknjilpaaGreat.Tower
open Go Go.RowKit Go.Proofs.YthlmgbdknjilpaaGreatW.PrintWords Go.Proofs.YthlmgbdknjilpaaGreatW.PrintLast Go.Proofs.YthlmgbdknjilpaaGreatW.PrintMore Go.Proofs.YthlmgbdknjilpaaGreat.Own
set_option linter.unusedVariables false
set_option linter.unusedSimpArgs false

/-- The first that a thread let go, if it may be freed, is. -/
def Ws.one (x : Ws) (me now : Int) : Int × Ws :=
  if (x.ep.ready me now).1 = 0 then (0, { x with ep := (x.ep.ready me now).2 })
  else ((x.ep.ready me now).1, { x with ep := (x.ep.ready me now).2, ar := (x.ar.free_ (x.ep.ready me now).1).2 })
/-- How what a touch does ends. -/
structure ShPost (p : Nat) (v : Value) (x1 : Ws) (okS : Nat → Prop) (w : World) (e : Ending) (w2 : World) : Prop where
  out : ∃ okS1, e = .returned v ∧ shW p x1 okS1 w2 ∧ Moves okS okS1 w w2
def TOne1 : Bool × List (List Nat × List Nat) := (true, [([], []), ([0], [0]), ([1], [1]), ([2], [2]), ([3], [3]), ([], []), ([5], [5]), ([], []), ([4, 6, 7], [4, 6, 7]), ([8, 8, 0, 1, 2, 3, 4, 5, 6, 7, 8], [8])])
def BOne1 : List Nat := [0, 1, 3, 7, 15, 0, 32, 0, 255, 511]
theorem tabOne1 : rtab .any (opsOf Tryz.f71 1) = TOne1 := by kernel_rfl
theorem bitsOne1 : waitsOk TOne1.2 BOne1 = true := by kernel_rfl
set_option maxHeartbeats 2000000 in
set_option maxRecDepth 100000 in
theorem one_calls (p tb : Nat) (x : Ws) (me now : Int) (w : World) (okS : Nat → Prop) (h : shW p x okS w) :
    Calls Tryz.prog 71 #[taskV tb p me, .int .i64 now] w (ShPost p (.int .i64 (x.one me now).1) (x.one me now).2 okS w) := by
  obtain ⟨⟨okA, okR, okE, pA, pR, pE, h⟩, hg⟩ := h
  have HG := Aside0.mk hg
  have HL := Aside0.mk (fun k (hk : okS k) => ((worldShared p).lt (x := x) ⟨_, _, _, _, _, _, h⟩ k hk))
  have HW := Aside0.mk (h.step (w1 := w.alloc (taskO tb p me)) (by simp) (fun k _ hlt => Below.heap_alloc _ _ _ hlt))
  have HM := Aside0.mk ((Moves.refl okS w).alloc (taskO tb p me))
  have HB := Aside0.mk (blk_new w (taskO tb p me))
  unfold taskO at HW HM HB
  have HTV : taskV tb p me = .agg #[.pointer (some ⟨tb, 0, none⟩), .pointer (some ⟨p, 0, none⟩), .int .i64 me] := rfl
  rw [HTV]
  generalize hone : x.one me now = res
  have HONE := Aside0.mk hone
  clear h hg HTV hone
  go_enter Tryz.func71, Tryz.ntmps71
  go_upto_region 1 with fail
  generalize hw1 : w.alloc (.cells #[.pointer (some ⟨tb, 0, none⟩), .pointer (some ⟨p, 0, none⟩), .int .i64 me] 84) = w1 at HW HM HB ⊢
  have HN : Aside0 (¬ okS w.heap.size) := ⟨fun hk => by have := HL.out _ hk; omega⟩
  generalize hbb : w.heap.size = b at HB HN ⊢
  have HBB := Aside0.mk hbb
  clear hw1 hbb
  have HC := Aside0.mk (And.intro ((blk_cell HB.out 1).trans (rfl : _ = some (Value.pointer (some ⟨p, 0, none⟩)))) (And.intro ((blk_cell HB.out 2).trans (rfl : _ = some (Value.int .i64 me))) ((blk_cell HW.out.box 2).trans (rfl : _ = some (Value.pointer (some ⟨pE, 0, none⟩))))))
  refine start_ (n := 10) (S := fun w' => w'.cell? ⟨b, 1, none⟩ = some (.pointer (some ⟨p, 0, none⟩)) ∧ w'.cell? ⟨b, 2, none⟩ = some (.int .i64 me) ∧ w'.cell? ⟨p, 2, none⟩ = some (.pointer (some ⟨pE, 0, none⟩))) (ds := [8]) #[false, false, false, false, false, false, false, false, false, false] (by kernel_rfl) rfl rfl HC.out (fun hHeld => ?_); refine with_tabW tabOne1 bitsOne1 (fun HT_ HW_ => ?_)
  have HW := Aside0.mk (HW.out.step (w1 := w1.drew) (Nat.le_refl _) (fun _ _ _ => rfl))
  have HM := Aside0.mk HM.out.drew
  have HB := Aside0.mk (blk_drew HB.out)
  clear HC
  generalize World.drew _ = w1 at HW HM HB hHeld ⊢
  refine pure_ (i := 0) (N := (some 6)) (v := ?_) (a' := ?_) #[true, false, false, false, false, false, false, false, false, false] rfl rfl (any_of HT_.out (by kernel_rfl)) (fun _ _ _ h => h) (Or.inl ⟨by rfl, ?_⟩) ?_ ?_
  rotate_left
  · intro w'
    go_simp
    with_reducible rfl
  rotate_left
  · simp only [Act.put, List.setIfInBounds_toArray, List.set_cons_zero, List.set_cons_succ, i64_w, i32_w]
    rfl
  refine take_ (i := 1) (N := (some 7)) (v := ?_) (a' := ?_) #[true, true, false, false, false, false, false, false, false, false] rfl rfl (take_ofW HT_.out HW_.out (by kernel_rfl)) (fun _ _ _ h => h) (Or.inl ⟨by rfl, ?_⟩) hHeld ?_ ?_
  rotate_left
  · rintro w' ⟨s0, s1, s2⟩
    go_simp
    with_reducible rfl
  rotate_left
  · simp only [Act.put, List.setIfInBounds_toArray, List.set_cons_zero, List.set_cons_succ, i64_w, i32_w]
    rfl
  refine pure_ (i := 2) (N := (some 8)) (v := ?_) (a' := ?_) #[true, true, true, false, false, false, false, false, false, false] rfl rfl (any_of HT_.out (by kernel_rfl)) (fun _ _ _ h => h) (Or.inl ⟨by rfl, ?_⟩) ?_ ?_
  rotate_left
  · intro w'
    go_simp
    with_reducible rfl
  rotate_left
  · simp only [Act.put, List.setIfInBounds_toArray, List.set_cons_zero, List.set_cons_succ, i64_w, i32_w]
    rfl
  refine pure_ (i := 3) (N := (some 9)) (v := ?_) (a' := ?_) #[true, true, true, true, false, false, false, false, false, false] rfl rfl (any_of HT_.out (by kernel_rfl)) (fun _ _ _ h => h) (Or.inl ⟨by rfl, ?_⟩) ?_ ?_
  rotate_left
  · intro w'
    go_simp
    with_reducible rfl
  rotate_left
  · simp only [Act.put, List.setIfInBounds_toArray, List.set_cons_zero, List.set_cons_succ, i64_w, i32_w]
    rfl
  refine take_ (i := 4) (N := (some 10)) (v := ?_) (a' := ?_) #[true, true, true, true, true, false, false, false, false, false] rfl rfl (take_ofW HT_.out HW_.out (by kernel_rfl)) (fun _ _ _ h => h) (Or.inl ⟨by rfl, ?_⟩) hHeld ?_ ?_
  rotate_left
  · rintro w' ⟨s0, s1, s2⟩
    go_simp
    with_reducible rfl
  rotate_left
  · simp only [Act.put, List.setIfInBounds_toArray, List.set_cons_zero, List.set_cons_succ, i64_w, i32_w]
    rfl
  refine pure_ (i := 5) (N := (some 11)) (v := ?_) (a' := ?_) #[true, true, true, true, true, true, false, false, false, false] rfl rfl (any_of HT_.out (by kernel_rfl)) (fun _ _ _ h => h) (Or.inl ⟨by rfl, ?_⟩) ?_ ?_
  rotate_left
  · intro w'
    go_simp
    with_reducible rfl
  rotate_left
  · simp only [Act.put, List.setIfInBounds_toArray, List.set_cons_zero, List.set_cons_succ, i64_w, i32_w]
    rfl
  refine take_ (i := 6) (N := (some 12)) (v := ?_) (a' := ?_) #[true, true, true, true, true, true, true, false, false, false] rfl rfl (take_ofW HT_.out HW_.out (by kernel_rfl)) (fun _ _ _ h => h) (Or.inl ⟨by rfl, ?_⟩) hHeld ?_ ?_
  rotate_left
  · rintro w' ⟨s0, s1, s2⟩
    go_simp
    with_reducible rfl
  rotate_left
  · simp only [Act.put, List.setIfInBounds_toArray, List.set_cons_zero, List.set_cons_succ, i64_w, i32_w]
    rfl
  refine pure_ (i := 7) (N := (some 13)) (v := ?_) (a' := ?_) #[true, true, true, true, true, true, true, true, false, false] rfl rfl (any_of HT_.out (by kernel_rfl)) (fun _ _ _ h => h) (Or.inl ⟨by rfl, ?_⟩) ?_ ?_
  rotate_left
  · intro w'
    go_simp
    with_reducible rfl
  rotate_left
  · simp only [Act.put, List.setIfInBounds_toArray, List.set_cons_zero, List.set_cons_succ, i64_w, i32_w]
    rfl
  refine last_ (i := 8) (N := (some 14)) #[true, true, true, true, true, true, true, true, true, false] rfl rfl (one_of HT_.out (by kernel_rfl)) (by decide) (fun K_ hK => ?_)
  refine call_ 94 #[.pointer (some ⟨pE, 0, none⟩), .int .i64 me, .int .i64 now] (by rfl) rfl ?hrun8 ?_
  (case hrun8 => first | (go_simp; done) | (go_simp; exact enters Tryz.func94 (by kernel_rfl) rfl _ _))
  refine (ep_ready me now _ HW.out.ep HG.out.ep).mono ?_
  rintro e w2 ⟨rfl, hE, hM⟩
  have hWM := HW.out.ep_moves hE hM
  have W2 := Aside0.mk hWM.1
  have M2 := Aside0.mk (HM.out.trans hWM.2)
  have B2 := Aside0.mk ((hWM.2.block b (blk_lt HB.out) HN.out).trans HB.out)
  clear hE hM hWM HW HM HB
  refine ⟨_, rfl, ?_⟩
  refine hK.out _ _ ?_
  clear hK K_
  refine norm_ (a' := ?_) ?_ ?_
  rotate_left
  · show Act.put _ (some 14) _ = _
    simp only [Act.put, List.setIfInBounds_toArray, List.set_cons_zero, List.set_cons_succ, i64_w, i32_w]
    rfl
  refine pure_ (i := 9) (N := (some 5)) (v := ?_) (a' := ?_) #[true, true, true, true, true, true, true, true, true, true] rfl rfl (any_of HT_.out (by kernel_rfl)) (fun _ _ _ h => h) (Or.inl ⟨by rfl, ?_⟩) ?_ ?_
  rotate_left
  · intro w'
    go_simp
    with_reducible rfl
  rotate_left
  · simp only [Act.put, List.setIfInBounds_toArray, List.set_cons_zero, List.set_cons_succ, i64_w, i32_w]
    rfl
  refine done_ (done_of HT_.out (by kernel_rfl)) ?_
  have G2 : Aside0 (Ws.Good { x with ep := (x.ep.ready me now).2 }) := ⟨⟨HG.out.ar, HG.out.ep.ready me now, HG.out.tb⟩⟩
  have c1 := (blk_cell B2.out 1).trans (rfl : _ = some (Value.pointer (some ⟨p, 0, none⟩)))
  have c0 := (blk_cell W2.out.box 0).trans (rfl : _ = some (Value.pointer (some ⟨pA, 0, none⟩)))
  by_cases h0 : (x.ep.ready me now).1 = 0
  · have e1 : x.one me now = (0, { x with ep := (x.ep.ready me now).2 }) := if_pos h0
    have e2 := HONE.out.symm.trans e1
    subst e2
    have hb : ((x.ep.ready me now).1 == 0) = true := by simp [h0]
    have hb2 : ((x.ep.ready me now).1 != 0) = false := by simp [h0]
    have H0 := Aside0.mk h0
    clear h0 e1 HONE
    go_wp2_with fail
    go_ret
    exact ⟨_, by rw [H0.out]; rfl, ⟨⟨_, _, _, _, _, _, W2.out⟩, G2.out⟩, M2.out⟩
  · have e1 : x.one me now = ((x.ep.ready me now).1, { x with ep := (x.ep.ready me now).2, ar := (x.ar.free_ (x.ep.ready me now).1).2 }) := if_neg h0
    have e2 := HONE.out.symm.trans e1
    subst e2
    have hb : ((x.ep.ready me now).1 == 0) = false := by simp [h0]
    have hb2 : ((x.ep.ready me now).1 != 0) = true := by simp [h0]
    clear h0 e1 HONE
    go_wp2_with (go_at_call 91; refine (free_calls (x.ep.ready me now).1 _ W2.out.ar (by have h1 := G2.out.ar.slots; have h2 := G2.out.ar.most; have h3 : (x.ar.slots.length : Int) ≤ x.ar.most := h1; have h4 : x.ar.most ≤ 65536 := h2; show x.ar.slots.length < 1000000; omega) G2.out.ar.free_few).mono ?_; rintro e w3 ⟨rfl, okA3, hA3, hM3⟩; have W3 := Aside0.mk (W2.out.ar_moves hA3 hM3).1; have M3 := Aside0.mk (M2.out.trans (W2.out.ar_moves hA3 hM3).2); clear hA3 hM3)
    go_ret
    exact ⟨_, rfl, ⟨⟨_, _, _, _, _, _, W3.out⟩, ⟨HG.out.ar.free_ _, G2.out.ep, HG.out.tb⟩⟩, M3.out⟩
set_option maxHeartbeats 2000000 in
set_option maxRecDepth 100000 in
theorem begin4_calls (p tb : Nat) (x : Ws) (me now : Int) (w : World) (okS : Nat → Prop) (bt bn : Nat) (h : shW p x okS w) (hb : w.heap[bt]? = some (taskO tb p me)) (hn : w.cell? ⟨bn, 0, none⟩ = some (.int .i64 now)) :
    Calls Tryz.prog 70 #[.pointer (some ⟨bt, 0, none⟩), .pointer (some ⟨bn, 0, none⟩)] w (ShPost p (.int .i64 (x.one me now).1) (x.one me now).2 okS w) := by
  have H := Aside0.mk (one_calls p tb x me now w okS h)
  unfold taskV at H
  have c0 := (blk_cell hb 0).trans (rfl : _ = some (Value.pointer (some ⟨tb, 0, none⟩)))
  have c1 := (blk_cell hb 1).trans (rfl : _ = some (Value.pointer (some ⟨p, 0, none⟩)))
  have c2 := (blk_cell hb 2).trans (rfl : _ = some (Value.int .i64 me))
  clear h hb
  go_enter Tryz.func70, Tryz.ntmps70
  go_wp2_with (go_at_call 71; refine H.out.mono ?_; rintro e w2 ⟨okS1, rfl, h1, h2⟩; have H1 := Aside0.mk h1; have H2 := Aside0.mk h2; clear h1 h2)
  go_ret
  exact ⟨okS1, rfl, H1.out, H2.out⟩
end Go.Proofs.YthlmgbdknjilpaaGreat.Tower
namespace Go.Proofs.YthlmgbdknjilpaaGreat.Tower
open Go Go.RowKit Go.Proofs.YthlmgbdknjilpaaGreatW.PrintWords Go.Proofs.YthlmgbdknjilpaaGreatW.PrintLast Go.Proofs.YthlmgbdknjilpaaGreatW.PrintMore Go.Proofs.YthlmgbdknjilpaaGreat.Own
set_option linter.unusedVariables false
set_option linter.unusedSimpArgs false

def prRet {X α : Type} (a : α) : Pr X α := fun s => some (.ret a, s)
def sayT (me n : Int) : Pr Ws Int := doT (fun x => (0, { x with ep := x.ep.say me n }))
def saidT (k : Int) : Pr Ws Int := doT (fun x => (x.ep.saidOf k, x))
def swapT (n : Int) : Pr Ws Bool := askT (fun x => ((x.ep.swap n).1, { x with ep := (x.ep.swap n).2 }))
def oneT (me n : Int) : Pr Ws Int := doT (fun x => x.one me n)
/-- Have all announced this epoch, or nothing? (m: how many are left; k: which) -/
def allT (n : Int) : Nat → Nat → Pr Ws Bool
  | 0, _ => prRet true
  | m + 1, k => prBind (saidT k) fun q => if q ≠ -1 ∧ q ≠ n then prRet false else allT n m (k + 1)
def freeT (me n : Int) : Nat → Pr Ws Unit
  | 0 => fun _ => none
  | f + 1 => prBind (oneT me n) fun r => if r = 0 then prRet () else freeT me n f
def beg3 (me : Int) (f : Nat) : Pr Ws Unit := prBind nowT fun n => freeT me n f
def beg2 (me n : Int) (f : Nat) (all : Bool) : Pr Ws Unit := if all then prBind (swapT n) fun _ => beg3 me f else beg3 me f
def beg1 (me n : Int) (f : Nat) : Pr Ws Unit := prBind (sayT me n) fun _ => prBind (fun s => allT n s.sh.ep.said.length 0 s) (beg2 me n f)
/-- Task.Begin. -/
def beginT (me : Int) (f : Nat) : Pr Ws Unit := prBind nowT fun n => beg1 me n f
/-- Task.End. -/
def endT (me : Int) : Pr Ws Unit := prBind (sayT me (-1)) fun _ => prRet ()

/-- A box with one number. -/
def boxI (n : Int) : Obj := .cells #[.int .i64 n] 2 (0, 0)
def boxK (n : Int) : Obj := .cells #[.int .i64 n] 3 (0, 0)
section
variable {p tb : Nat} {work : Value} {me : Int} {bt bn bk : Nat} {n : Int} {ok okc : Nat → Prop} {w wc : World} {s t : TS Ws}
theorem TaskAt.say_ (h : TaskAt p tb work me bt ok w okc s wc) (hn : Mine okc wc bn (boxI n)) {o : Out Int} (hd : sayT me n s = some (o, t)) :
    Calls Tryz.prog 61 #[.pointer (some ⟨tb, 0, none⟩), .func (.func 62) #[] #[.pointer (some ⟨bt, 0, none⟩), .pointer (some ⟨bn, 0, none⟩)]] wc (DoPost intV p tb work me bt ok w okc o t wc) :=
  h.do_ _ 62 _ (enters Tryz.func62 (by kernel_rfl) rfl _) (fun w1 okS hm hk hs => begin1_calls p s.sh me n w1 okS bt bn hs ((blk_cell (h.box.moves hm).1 1).trans rfl) ((blk_cell (h.box.moves hm).1 2).trans rfl) ((blk_cell (hn.moves hm).1 0).trans rfl)) hd
theorem TaskAt.said_ (h : TaskAt p tb work me bt ok w okc s wc) (hn : Mine okc wc bk (boxK n)) {o : Out Int} (hd : saidT n s = some (o, t)) :
    Calls Tryz.prog 61 #[.pointer (some ⟨tb, 0, none⟩), .func (.func 65) #[] #[.pointer (some ⟨bt, 0, none⟩), .pointer (some ⟨bk, 0, none⟩)]] wc (DoPost intV p tb work me bt ok w okc o t wc) :=
  h.do_ _ 65 _ (enters Tryz.func65 (by kernel_rfl) rfl _) (fun w1 okS hm hk hs => begin2_calls p s.sh n w1 okS bt bk hs ((blk_cell (h.box.moves hm).1 1).trans rfl) ((blk_cell (hn.moves hm).1 0).trans rfl)) hd
theorem TaskAt.swap_ (h : TaskAt p tb work me bt ok w okc s wc) (hn : Mine okc wc bn (boxI n)) {o : Out Bool} (hd : swapT n s = some (o, t)) :
    Calls Tryz.prog 67 #[.pointer (some ⟨tb, 0, none⟩), .func (.func 68) #[] #[.pointer (some ⟨bt, 0, none⟩), .pointer (some ⟨bn, 0, none⟩)]] wc (DoPost boolV p tb work me bt ok w okc o t wc) :=
  h.ask_ _ 68 _ (enters Tryz.func68 (by kernel_rfl) rfl _) (fun w1 okS hm hk hs => begin3_calls p s.sh n w1 okS bt bn hs ((blk_cell (h.box.moves hm).1 1).trans rfl) ((blk_cell (hn.moves hm).1 0).trans rfl)) hd
theorem TaskAt.one_ (h : TaskAt p tb work me bt ok w okc s wc) (hn : Mine okc wc bn (boxI n)) {o : Out Int} (hd : oneT me n s = some (o, t)) :
    Calls Tryz.prog 61 #[.pointer (some ⟨tb, 0, none⟩), .func (.func 70) #[] #[.pointer (some ⟨bt, 0, none⟩), .pointer (some ⟨bn, 0, none⟩)]] wc (DoPost intV p tb work me bt ok w okc o t wc) :=
  h.do_ _ 70 _ (enters Tryz.func70 (by kernel_rfl) rfl _) (fun w1 okS hm hk hs => (begin4_calls p tb s.sh me n w1 okS bt bn hs (h.box.moves hm).1 ((blk_cell (hn.moves hm).1 0).trans rfl)).mono (fun _ _ h => h.out)) hd
theorem TaskAt.hush_ (h : TaskAt p tb work me bt ok w okc s wc) {o : Out Int} (hd : sayT me (-1) s = some (o, t)) :
    Calls Tryz.prog 61 #[.pointer (some ⟨tb, 0, none⟩), .func (.func 80) #[] #[.pointer (some ⟨bt, 0, none⟩)]] wc (DoPost intV p tb work me bt ok w okc o t wc) :=
  h.do_ _ 80 _ (enters Tryz.func80 (by kernel_rfl) rfl _) (fun w1 okS hm hk hs => end1_calls p s.sh me w1 okS bt hs ((blk_cell (h.box.moves hm).1 1).trans rfl) ((blk_cell (h.box.moves hm).1 2).trans rfl)) hd
/-- How many threads there are, outside of a touch. -/
theorem TaskAt.len_ (h : TaskAt p tb work me bt ok w okc s wc) {pE : Nat} (hp : wc.cell? ⟨p, 2, none⟩ = some (.pointer (some ⟨pE, 0, none⟩))) :
    Calls Tryz.prog 64 #[.pointer (some ⟨pE, 0, none⟩)] wc fun e w1 => e = .returned (.int .i64 s.sh.ep.said.length) ∧ w1 = wc := by
  obtain ⟨_, _, ⟨⟨okA, okR, okE, pA, pR, pE1, hw⟩, hg⟩, _⟩ := h.run.direct
  have h1 := (blk_cell hw.box 2).symm.trans hp
  injection h1 with h1
  injection h1 with h1
  injection h1 with h1
  injection h1 with h1
  subst h1
  exact ep_len wc hw.ep
theorem TaskAt.few (h : TaskAt p tb work me bt ok w okc s wc) : s.sh.ep.said.length ≤ 64 := by
  obtain ⟨_, _, ⟨_, hg⟩, _⟩ := h.run.direct
  exact hg.ep.few
end
end Go.Proofs.YthlmgbdknjilpaaGreat.Tower
namespace Go.Proofs.YthlmgbdknjilpaaGreat.Tower
open Go Go.RowKit Go.Proofs.YthlmgbdknjilpaaGreatW.PrintWords Go.Proofs.YthlmgbdknjilpaaGreatW.PrintLast Go.Proofs.YthlmgbdknjilpaaGreatW.PrintMore Go.Proofs.YthlmgbdknjilpaaGreat.Own
set_option linter.unusedVariables false
set_option linter.unusedSimpArgs false

theorem prBind_assoc {X α β γ : Type} {m : Pr X α} {f : α → Pr X β} {g : β → Pr X γ} {s : TS X} {res : Out γ × TS X} (h : prBind (prBind m f) g s = some res) : prBind m (fun a => prBind (f a) g) s = some res := by
  unfold prBind at h ⊢
  cases hm : m s with
  | none => simp only [hm] at h; cases h
  | some r =>
    obtain ⟨o, t⟩ := r
    cases o with
    | wait => simp only [hm] at h ⊢; exact h
    | ret a => simp only [hm] at h ⊢; exact h
/-- In the midst of Task.Begin: the box of the epoch; what is still to be done. -/
structure BegAt (p tb : Nat) (work : Value) (me : Int) (bt : Nat) (ok : Nat → Prop) (w : World) (bn : Nat) (n : Int) (rest : Pr Ws Unit) (res : Out Unit × TS Ws) (wc : World) : Prop where
  out : ∃ okc s, TaskAt p tb work me bt ok w okc s wc ∧ Mine okc wc bn (boxI n) ∧ bn ≠ bt ∧ w.heap.size ≤ bn ∧ rest s = some res
def TBegin1 : Bool × List (List Nat × List Nat) := (true, [([], []), ([0], [0]), ([], []), ([2], [2]), ([3], [3]), ([4], [4]), ([5], [5]), ([6], [6]), ([1, 7], [1, 7]), ([], []), ([9, 8, 8, 0, 1, 2, 3, 4, 5, 6, 7, 8, 9], [8, 9])])
def BBegin1 : List Nat := [0, 1, 0, 4, 12, 28, 60, 124, 255, 0, 1023]
theorem tabBegin1 : rtab .any (opsOf Tryz.f40 1) = TBegin1 := by kernel_rfl
theorem bitsBegin1 : waitsOk TBegin1.2 BBegin1 = true := by kernel_rfl
def TBegin13 : Bool × List (List Nat × List Nat) := (true, [([], []), ([0], [0]), ([], []), ([2], [2]), ([3], [3]), ([4], [4]), ([5], [5]), ([6], [6]), ([1, 7], [1, 7]), ([8, 8, 0, 1, 2, 3, 4, 5, 6, 7, 8], [8])])
def BBegin13 : List Nat := [0, 1, 0, 4, 12, 28, 60, 124, 255, 511]
theorem tabBegin13 : rtab .any (opsOf Tryz.f40 13) = TBegin13 := by kernel_rfl
theorem bitsBegin13 : waitsOk TBegin13.2 BBegin13 = true := by kernel_rfl
set_option maxHeartbeats 4000000 in
set_option maxRecDepth 100000 in
theorem begin_calls (p tb : Nat) (work : Value) (me : Int) (ok : Nat → Prop) (s : TS Ws) (w : World) (f : Nat) (h : IsRun (shW p) tb work ok s w) (res : Out Unit × TS Ws) (hr : beginT me f s = some res) :
    Calls Tryz.prog 40 #[taskV tb p me] w (TPost (shW p) tb work VUnit ok w res) := by
  have HT := Aside0.mk (TaskAt.enter (me := me) h)
  have HR := Aside0.mk hr
  have HWT : Aside0 (w.heap.size < (w.alloc (taskO tb p me)).heap.size) := ⟨by simp⟩
  have HTV : taskV tb p me = .agg #[.pointer (some ⟨tb, 0, none⟩), .pointer (some ⟨p, 0, none⟩), .int .i64 me] := rfl
  rw [HTV]
  have HTO : taskO tb p me = .cells #[.pointer (some ⟨tb, 0, none⟩), .pointer (some ⟨p, 0, none⟩), .int .i64 me] 84 := rfl
  rw [HTO] at HT HWT
  clear h hr HTV HTO
  go_enter Tryz.func40, Tryz.ntmps40
  go_upto_region 1 with fail
  generalize w.alloc (.cells #[.pointer (some ⟨tb, 0, none⟩), .pointer (some ⟨p, 0, none⟩), .int .i64 me] 84) = w1 at HT HWT ⊢
  generalize hbb : w.heap.size = bt at HT HWT ⊢
  have HBT : Aside0 (w.heap.size ≤ bt) := ⟨by omega⟩
  clear hbb
  go_cut [2] from 6 (fun v2 wc => ∃ (bn : Nat) (n : Int), v2 = .pointer (some ⟨bn, 0, none⟩) ∧ Aside0 (BegAt p tb work me bt ok w bn n (beg1 me n f) res wc))
  case first =>
    obtain ⟨pE, hpE⟩ := HT.out.pE
    have HC := Aside0.mk (And.intro HT.out.c0 (And.intro HT.out.c1 hpE))
    clear hpE
    refine start_ (n := 11) (S := fun w' => w'.cell? ⟨bt, 0, none⟩ = some (.pointer (some ⟨tb, 0, none⟩)) ∧ w'.cell? ⟨bt, 1, none⟩ = some (.pointer (some ⟨p, 0, none⟩)) ∧ w'.cell? ⟨p, 2, none⟩ = some (.pointer (some ⟨pE, 0, none⟩))) (ds := [8, 10]) #[false, false, false, false, false, false, false, false, false, false, false] (by kernel_rfl) rfl rfl HC.out (fun hHeld => ?_); refine with_tabW tabBegin1 bitsBegin1 (fun HT_ HW_ => ?_)
    have HT := Aside0.mk HT.out.drew
    have HWT : Aside0 (bt < w1.drew.heap.size) := HWT
    clear HC
    generalize World.drew _ = w1 at HT HWT hHeld ⊢
    refine pure_ (i := 0) (N := (some 6)) (v := ?_) (a' := ?_) #[true, false, false, false, false, false, false, false, false, false, false] rfl rfl (any_of HT_.out (by kernel_rfl)) (fun _ _ _ h => h) (Or.inl ⟨by rfl, ?_⟩) ?_ ?_
    rotate_left
    · intro w'
      go_simp
      with_reducible rfl
    rotate_left
    · simp only [Act.put, List.setIfInBounds_toArray, List.set_cons_zero, List.set_cons_succ, i64_w, i32_w]
      rfl
    refine take_ (i := 1) (N := (some 7)) (v := ?_) (a' := ?_) #[true, true, false, false, false, false, false, false, false, false, false] rfl rfl (take_ofW HT_.out HW_.out (by kernel_rfl)) (fun _ _ _ h => h) (Or.inl ⟨by rfl, ?_⟩) hHeld ?_ ?_
    rotate_left
    · rintro w' ⟨s0, s1, s2⟩
      go_simp
      with_reducible rfl
    rotate_left
    · simp only [Act.put, List.setIfInBounds_toArray, List.set_cons_zero, List.set_cons_succ, i64_w, i32_w]
      rfl
    refine pure_ (i := 2) (N := (some 8)) (v := ?_) (a' := ?_) #[true, true, true, false, false, false, false, false, false, false, false] rfl rfl (any_of HT_.out (by kernel_rfl)) (fun _ _ _ h => h) (Or.inl ⟨by rfl, ?_⟩) ?_ ?_
    rotate_left
    · intro w'
      go_simp
      with_reducible rfl
    rotate_left
    · simp only [Act.put, List.setIfInBounds_toArray, List.set_cons_zero, List.set_cons_succ, i64_w, i32_w]
      rfl
    refine take_ (i := 3) (N := (some 9)) (v := ?_) (a' := ?_) #[true, true, true, true, false, false, false, false, false, false, false] rfl rfl (take_ofW HT_.out HW_.out (by kernel_rfl)) (fun _ _ _ h => h) (Or.inl ⟨by rfl, ?_⟩) hHeld ?_ ?_
    rotate_left
    · rintro w' ⟨s0, s1, s2⟩
      go_simp
      with_reducible rfl
    rotate_left
    · simp only [Act.put, List.setIfInBounds_toArray, List.set_cons_zero, List.set_cons_succ, i64_w, i32_w]
      rfl
    refine pure_ (i := 4) (N := (some 10)) (v := ?_) (a' := ?_) #[true, true, true, true, true, false, false, false, false, false, false] rfl rfl (any_of HT_.out (by kernel_rfl)) (fun _ _ _ h => h) (Or.inl ⟨by rfl, ?_⟩) ?_ ?_
    rotate_left
    · intro w'
      go_simp
      with_reducible rfl
    rotate_left
    · simp only [Act.put, List.setIfInBounds_toArray, List.set_cons_zero, List.set_cons_succ, i64_w, i32_w]
      rfl
    refine pure_ (i := 5) (N := (some 11)) (v := ?_) (a' := ?_) #[true, true, true, true, true, true, false, false, false, false, false] rfl rfl (any_of HT_.out (by kernel_rfl)) (fun _ _ _ h => h) (Or.inl ⟨by rfl, ?_⟩) ?_ ?_
    rotate_left
    · intro w'
      go_simp
      with_reducible rfl
    rotate_left
    · simp only [Act.put, List.setIfInBounds_toArray, List.set_cons_zero, List.set_cons_succ, i64_w, i32_w]
      rfl
    refine take_ (i := 6) (N := (some 12)) (v := ?_) (a' := ?_) #[true, true, true, true, true, true, true, false, false, false, false] rfl rfl (take_ofW HT_.out HW_.out (by kernel_rfl)) (fun _ _ _ h => h) (Or.inl ⟨by rfl, ?_⟩) hHeld ?_ ?_
    rotate_left
    · rintro w' ⟨s0, s1, s2⟩
      go_simp
      with_reducible rfl
    rotate_left
    · simp only [Act.put, List.setIfInBounds_toArray, List.set_cons_zero, List.set_cons_succ, i64_w, i32_w]
      rfl
    refine pure_ (i := 7) (N := (some 13)) (v := ?_) (a' := ?_) #[true, true, true, true, true, true, true, true, false, false, false] rfl rfl (any_of HT_.out (by kernel_rfl)) (fun _ _ _ h => h) (Or.inl ⟨by rfl, ?_⟩) ?_ ?_
    rotate_left
    · intro w'
      go_simp
      with_reducible rfl
    rotate_left
    · simp only [Act.put, List.setIfInBounds_toArray, List.set_cons_zero, List.set_cons_succ, i64_w, i32_w]
      rfl
    obtain ⟨o, t, hd, hcase⟩ := prBind_some HR.out
    refine twoK_ (i := 8) (j := 9) (Ni := some 14) (Nj := some 2) #[true, true, true, true, true, true, true, true, true, false, false] #[true, true, true, true, true, true, true, true, false, true, false] rfl rfl rfl rfl (by kernel_rfl) (fun K_ hK => ?_) (fun K_ hK => ?_)
    · refine callP_ 61 #[.pointer (some ⟨tb, 0, none⟩), .func (.func 19) #[.pointer (some ⟨pE, 0, none⟩)] #[]] (by rfl) rfl ?hr8 ?_
      (case hr8 => first | (go_simp; done) | (go_simp; exact enters Tryz.func61 (by kernel_rfl) rfl _ _))
      refine (HT.out.now_ hHeld.2.2 hd).mono ?_
      rintro e w2 ⟨⟨ok1, hm, hT, he⟩⟩
      rcases hcase with ⟨rfl, rfl⟩ | ⟨n, rfl, hr2⟩
      · obtain rfl : e = .panicked waitP := he
        exact .inr ⟨waitP, rfl, rfl, ⟨⟨ok1, hT.moves, hT.run, rfl⟩⟩⟩
      · obtain rfl : e = .returned (intV n) := he
        refine .inl ⟨.int .i64 n, rfl, ?_⟩
        refine hK.out _ _ (fun h => absurd (by decide) h) ?_
        clear hK K_
        refine norm_ (a' := ?_) ?_ ?_
        rotate_left
        · show Act.put _ (some 14) _ = _
          simp only [Act.put, List.setIfInBounds_toArray, List.set_cons_zero, List.set_cons_succ, i64_w, i32_w]
          rfl
        refine oneK_ (i := 9) (N := some 2) #[true, true, true, true, true, true, true, true, true, true, false] rfl rfl (by kernel_rfl) (fun K_ hK => ?_)
        refine value_ (v := .pointer (some ⟨w2.heap.size, 0, none⟩)) (w1 := w2.alloc (boxI 0)) (by rfl) rfl ?ha9 ?_
        (case ha9 => go_simp; first | done | rfl)
        refine hK.out _ _ (fun _ hS => ⟨pw_cell_below (below_alloc (Below.refl _ _) _) hS.1, pw_cell_below (below_alloc (Below.refl _ _) _) hS.2.1, pw_cell_below (below_alloc (Below.refl _ _) _) hS.2.2⟩) ?_
        clear hK K_
        refine norm_ (a' := ?_) ?_ ?_
        rotate_left
        · show Act.put _ (some 2) _ = _
          simp only [Act.put, List.setIfInBounds_toArray, List.set_cons_zero, List.set_cons_succ, i64_w, i32_w]
          rfl
        have HB := Aside0.mk (Mine.new hT.lt (boxI 0))
        have HT2 := Aside0.mk (hT.alloc (boxI 0))
        have HBN : Aside0 (w2.heap.size ≠ bt) := ⟨by have := hT.box.lt; omega⟩
        have HBW : Aside0 (w.heap.size ≤ w2.heap.size) := ⟨hT.moves.size⟩
        have HR2 := Aside0.mk hr2
        generalize w2.heap.size = bn at HB HBN HBW ⊢
        generalize w2.alloc (boxI 0) = w3 at HB HT2 ⊢
        generalize ok1 = okc at HB HT2
        clear hm hT hr2
        have k0 := (blk_cell HB.out.1 0).trans (rfl : _ = some (Value.int .i64 0))
        have z0 := blk_frozen HB.out.1 0
        refine last_ (i := 10) (N := none) #[true, true, true, true, true, true, true, true, true, true, true] rfl rfl (by kernel_rfl) (by decide) (fun K_ hK => ?_)
        refine skip_ (w1 := w3.setCell ⟨bn, 0, none⟩ (.int .i64 n)) (by rfl) rfl ?_ ?_
        · go_simp
        refine hK.out _ _ ?_
        clear hK K_
        refine done_ (by kernel_rfl) ?_
        go_wp2_with fail
        go_meet
        case rel =>
          exact ⟨bn, n, rfl, ⟨⟨okc, t, HT2.out.set HB.out.2 HBW.out HBN.out _, HB.out.set 0 _, HBN.out, HBW.out, HR2.out⟩⟩⟩
    · refine value_ (v := .pointer (some ⟨w1.heap.size, 0, none⟩)) (w1 := w1.alloc (boxI 0)) (by rfl) rfl ?hb9 ?_
      (case hb9 => go_simp; first | done | rfl)
      refine hK.out _ _ (fun _ hS => ⟨pw_cell_below (below_alloc (Below.refl _ _) _) hS.1, pw_cell_below (below_alloc (Below.refl _ _) _) hS.2.1, pw_cell_below (below_alloc (Below.refl _ _) _) hS.2.2⟩) ?_
      clear hK K_
      refine norm_ (a' := ?_) ?_ ?_
      rotate_left
      · show Act.put _ (some 2) _ = _
        simp only [Act.put, List.setIfInBounds_toArray, List.set_cons_zero, List.set_cons_succ, i64_w, i32_w]
        rfl
      have HBN : Aside0 (w1.heap.size ≠ bt) := ⟨by have := HT.out.box.lt; omega⟩
      have HBW : Aside0 (w.heap.size ≤ w1.heap.size) := ⟨HT.out.moves.size⟩
      have HB := Aside0.mk (Mine.new HT.out.lt (boxI 0))
      have HT := Aside0.mk (HT.out.alloc (boxI 0))
      have hHeld : (_ ∧ _ ∧ _) := ⟨pw_cell_below (below_alloc (Below.refl _ _) (boxI 0)) hHeld.1, pw_cell_below (below_alloc (Below.refl _ _) (boxI 0)) hHeld.2.1, pw_cell_below (below_alloc (Below.refl _ _) (boxI 0)) hHeld.2.2⟩
      generalize w1.heap.size = bn at HB HBN HBW ⊢
      generalize w1.alloc (boxI 0) = w1 at HB HT hHeld ⊢
      refine oneK_ (i := 8) (N := some 14) #[true, true, true, true, true, true, true, true, true, true, false] rfl rfl (by kernel_rfl) (fun K_ hK => ?_)
      refine callP_ 61 #[.pointer (some ⟨tb, 0, none⟩), .func (.func 19) #[.pointer (some ⟨pE, 0, none⟩)] #[]] (by rfl) rfl ?hr8b ?_
      (case hr8b => first | (go_simp; done) | (go_simp; exact enters Tryz.func61 (by kernel_rfl) rfl _ _))
      refine (HT.out.now_ hHeld.2.2 hd).mono ?_
      rintro e w2 ⟨⟨ok1, hm, hT, he⟩⟩
      rcases hcase with ⟨rfl, rfl⟩ | ⟨n, rfl, hr2⟩
      · obtain rfl : e = .panicked waitP := he
        exact .inr ⟨waitP, rfl, rfl, ⟨⟨ok1, hT.moves, hT.run, rfl⟩⟩⟩
      · obtain rfl : e = .returned (intV n) := he
        refine .inl ⟨.int .i64 n, rfl, ?_⟩
        refine hK.out _ _ (fun h => absurd (by decide) h) ?_
        clear hK K_
        refine norm_ (a' := ?_) ?_ ?_
        rotate_left
        · show Act.put _ (some 14) _ = _
          simp only [Act.put, List.setIfInBounds_toArray, List.set_cons_zero, List.set_cons_succ, i64_w, i32_w]
          rfl
        have HB := Aside0.mk (HB.out.moves hm)
        have HT2 := Aside0.mk hT
        have HR2 := Aside0.mk hr2
        generalize ok1 = okc at HB HT2
        generalize w2 = w3 at HB HT2 ⊢
        clear hm hT hr2
        have k0 := (blk_cell HB.out.1 0).trans (rfl : _ = some (Value.int .i64 0))
        have z0 := blk_frozen HB.out.1 0
        refine last_ (i := 10) (N := none) #[true, true, true, true, true, true, true, true, true, true, true] rfl rfl (by kernel_rfl) (by decide) (fun K_ hK => ?_)
        refine skip_ (w1 := w3.setCell ⟨bn, 0, none⟩ (.int .i64 n)) (by rfl) rfl ?_ ?_
        · go_simp
        refine hK.out _ _ ?_
        clear hK K_
        refine done_ (by kernel_rfl) ?_
        go_wp2_with fail
        go_meet
        case rel =>
          exact ⟨bn, n, rfl, ⟨⟨okc, t, HT2.out.set HB.out.2 HBW.out HBN.out _, HB.out.set 0 _, HBN.out, HBW.out, HR2.out⟩⟩⟩
  case rest =>
    obtain ⟨bn, n, rfl, HB⟩ := hcut
    obtain ⟨okc, s2, hT, hbn, hnt, hwn, hr⟩ := HB.out.out
    obtain ⟨o, t, hd, hcase⟩ := prBind_some hr
    have c0 := hT.c0
    have HT := Aside0.mk hT
    have HBN := Aside0.mk hbn
    have HNT := Aside0.mk hnt
    have HWN := Aside0.mk hwn
    have HD := Aside0.mk hd
    have HCS := Aside0.mk hcase
    clear HB hT hbn hnt hwn hr hd hcase
    go_upto_region 3 with (go_at_call 61; refine (HT.out.say_ HBN.out HD.out).mono ?_; rintro e w2 ⟨⟨ok1, hm, hT, he⟩⟩; rcases HCS.out with hw | hw; (obtain ⟨rfl, rfl⟩ := hw; obtain rfl : e = .panicked waitP := he; exact ⟨rfl, ⟨⟨ok1, hT.moves, hT.run, rfl⟩⟩⟩); obtain ⟨a0, rfl, hr2⟩ := hw; obtain rfl : e = .returned (.int .i64 a0) := he; have HT2 := Aside0.mk hT; have HR2 := Aside0.mk hr2; have HBN := Aside0.mk (HBN.out.moves hm); clear hm hT hr2)
    obtain ⟨pE, hpE⟩ := HT2.out.pE
    have c1 := HT2.out.c1
    have hfew := HT2.out.few
    generalize hL : t.sh.ep.said.length = L at hfew
    have HL := Aside0.mk hL
    have HR3 : Aside0 (prBind (allT n L 0) (beg2 me n f) t = some res) := ⟨by rw [← hL]; exact HR2.out⟩
    have HB := Aside0.mk (BegAt.mk ⟨_, _, HT2.out, HBN.out, HNT.out, HWN.out, HR3.out⟩)
    clear c0 HT HD HCS HR HR2 HR3 hL
    go_upto_block 0 with (go_at_call 64; refine (HT2.out.len_ hpE).mono ?_; rintro e w2 ⟨rfl, rfl⟩; rw [HL.out])
    clear HBN HT2 HL hpE c1
    go_cut [3] from 26 (fun v3 wc => ∃ b : Bool, v3 = .bool b ∧ Aside0 (BegAt p tb work me bt ok w bn n (beg2 me n f b) res wc))
    case first =>
      go_wp2_with fail
      go_loopg [3, 25] L (fun g v3 v25 wr => v3 = .bool true ∧ ∃ k : Nat, v25 = .int .i64 k ∧ k + g = L ∧ Aside0 (BegAt p tb work me bt ok w bn n (prBind (allT n g k) (beg2 me n f)) res wr))
      case atStart => exact ⟨rfl, 0, rfl, by omega, HB⟩
      case round =>
        obtain ⟨rfl, k, rfl, hkg, HQ⟩ := hrel
        clear HB
        cases gk with
        | zero =>
          have d1 : decide ((k : Int) < (L : Int)) = false := decide_eq_false (by omega)
          have d2 : decide (k < L) = false := decide_eq_false (by omega)
          go_wp2_with fail
          go_meet
          case rel => exact ⟨true, rfl, HQ⟩
        | succ g =>
          have d1 : decide ((k : Int) < (L : Int)) = true := decide_eq_true (by omega)
          have d2 : decide (k < L) = true := decide_eq_true (by omega)
          obtain ⟨okc, s3, hT, hbn, hnt, hwn, hr⟩ := HQ.out.out
          obtain ⟨o, t4, hd, hcase⟩ := prBind_some (prBind_assoc hr)
          have HT := Aside0.mk (hT.alloc (boxK (k : Int)))
          have HBN := Aside0.mk (hbn.alloc (boxK (k : Int)))
          have HBK := Aside0.mk (Mine.new hT.lt (boxK (k : Int)))
          have HD := Aside0.mk hd
          have HCS := Aside0.mk hcase
          clear hT hbn hnt hwn hr hd hcase HQ
          go_upto_region 7 with fail
          have HBX : boxK (k : Int) = .cells #[.int .i64 (k : Int)] 3 := rfl
          rw [HBX] at HT HBN HBK
          generalize wr.alloc (.cells #[.int .i64 (k : Int)] 3) = w3 at HT HBN HBK ⊢
          generalize wr.heap.size = bk at HBK ⊢
          have c0 := HT.out.c0
          have k0 := (blk_cell HBN.out.1 0).trans (rfl : _ = some (Value.int .i64 n))
          go_upto_region 8 with (go_at_call 61; refine (HT.out.said_ HBK.out HD.out).mono ?_; rintro e w2 ⟨⟨ok1, hm, hT, he⟩⟩; rcases HCS.out with hw | hw; (obtain ⟨rfl, rfl⟩ := hw; obtain rfl : e = .panicked waitP := he; exact ⟨rfl, ⟨⟨ok1, hT.moves, hT.run, rfl⟩⟩⟩); obtain ⟨a0, rfl, hr2⟩ := hw; obtain rfl : e = .returned (.int .i64 a0) := he; have HT2 := Aside0.mk hT; have HR2 := Aside0.mk hr2; have HBN := Aside0.mk (HBN.out.moves hm); clear hm hT hr2)
          clear k0
          have k0 := (blk_cell HBN.out.1 0).trans (rfl : _ = some (Value.int .i64 n))
          have hw1 : wrap64 ((k : Int) + 1) = ((k + 1 : Nat) : Int) := by unfold wrap64; omega
          by_cases ha : a0 = -1
          · have hb1 : (a0 == -1) = true := by simp [ha]
            have hb2 : (a0 != -1) = false := by simp [ha]
            have HR4 : Aside0 (prBind (allT n g (k + 1)) (beg2 me n f) t4 = some res) := ⟨by have h := HR2.out; rw [if_neg (by simp [ha])] at h; exact h⟩
            clear ha
            go_wp2_with fail
            go_roundg g
            case rel => exact ⟨rfl, k + 1, by first | rfl | (rw [hw1]), by omega, ⟨⟨_, _, HT2.out, HBN.out, HNT.out, HWN.out, HR4.out⟩⟩⟩
            case measure => omega
          · have hb1 : (a0 == -1) = false := by simpa using ha
            have hb2 : (a0 != -1) = true := by simpa using ha
            by_cases hn : a0 = n
            · have hb3 : (a0 == n) = true := by simp [hn]
              have hb4 : (a0 != n) = false := by simp [hn]
              have HR4 : Aside0 (prBind (allT n g (k + 1)) (beg2 me n f) t4 = some res) := ⟨by have h := HR2.out; rw [if_neg (by simp [hn])] at h; exact h⟩
              clear ha hn
              go_wp2_with fail
              go_roundg g
              case rel => exact ⟨rfl, k + 1, by first | rfl | (rw [hw1]), by omega, ⟨⟨_, _, HT2.out, HBN.out, HNT.out, HWN.out, HR4.out⟩⟩⟩
              case measure => omega
            · have hb3 : (a0 == n) = false := by simpa using hn
              have hb4 : (a0 != n) = true := by simpa using hn
              have HR4 : Aside0 (beg2 me n f false t4 = some res) := ⟨by have h := HR2.out; rw [if_pos ⟨ha, hn⟩] at h; exact h⟩
              clear ha hn
              go_wp2_with fail
              go_meet
              case rel => exact ⟨false, rfl, ⟨⟨_, _, HT2.out, HBN.out, HNT.out, HWN.out, HR4.out⟩⟩⟩
    case rest =>
    obtain ⟨b, rfl, HB2⟩ := hcut
    clear HB HNT HWN
    go_upto_if 40 with fail
    go_cut [] from 40 (fun wc => Aside0 (BegAt p tb work me bt ok w bn n (beg3 me f) res wc))
    case first =>
      cases b with
      | false =>
        go_wp2_with fail
        go_meet
        case rel => exact HB2
      | true =>
        obtain ⟨okc, s3, hT, hbn, hnt, hwn, hr⟩ := HB2.out.out
        obtain ⟨o, t4, hd, hcase⟩ := prBind_some hr
        have c0 := hT.c0
        have HT := Aside0.mk hT
        have HBN := Aside0.mk hbn
        have HNT := Aside0.mk hnt
        have HWN := Aside0.mk hwn
        have HD := Aside0.mk hd
        have HCS := Aside0.mk hcase
        clear hT hbn hnt hwn hr hd hcase HB2
        go_wp2_with (go_at_call 67; refine (HT.out.swap_ HBN.out HD.out).mono ?_; rintro e w2 ⟨⟨ok1, hm, hT, he⟩⟩; rcases HCS.out with hw | hw; (obtain ⟨rfl, rfl⟩ := hw; obtain rfl : e = .panicked waitP := he; exact ⟨rfl, ⟨⟨ok1, hT.moves, hT.run, rfl⟩⟩⟩); obtain ⟨a1, rfl, hr2⟩ := hw; obtain rfl : e = .returned (.bool a1) := he; have HT2 := Aside0.mk hT; have HR2 := Aside0.mk hr2; have HBN := Aside0.mk (HBN.out.moves hm); clear hm hT hr2)
        go_meet
        case rel => exact ⟨⟨_, _, HT2.out, HBN.out, HNT.out, HWN.out, HR2.out⟩⟩
    case rest =>
    obtain ⟨okc, s3, hT, hbn, hnt, hwn, hr⟩ := hcut.out.out
    obtain ⟨o, t, hd, hcase⟩ := prBind_some hr
    obtain ⟨pE2, hpE⟩ := hT.pE
    have HC := Aside0.mk (And.intro hT.c0 (And.intro hT.c1 hpE))
    have HT := Aside0.mk hT
    have HBN := Aside0.mk hbn
    have HNT := Aside0.mk hnt
    have HWN := Aside0.mk hwn
    clear hT hbn hnt hwn hr hpE hcut HB2
    go_upto_region 13 with fail
    refine start_ (n := 10) (S := fun w' => w'.cell? ⟨bt, 0, none⟩ = some (.pointer (some ⟨tb, 0, none⟩)) ∧ w'.cell? ⟨bt, 1, none⟩ = some (.pointer (some ⟨p, 0, none⟩)) ∧ w'.cell? ⟨p, 2, none⟩ = some (.pointer (some ⟨pE2, 0, none⟩))) (ds := [8, 9]) #[false, false, false, false, false, false, false, false, false, false] (by kernel_rfl) rfl rfl HC.out (fun hHeld => ?_); refine with_tabW tabBegin13 bitsBegin13 (fun HT_ HW_ => ?_)
    have HT := Aside0.mk HT.out.drew
    have HBN := Aside0.mk (HBN.out.moves ((Moves.refl _ _).drew))
    clear HC
    generalize World.drew _ = w1 at HT HBN hHeld ⊢
    refine pure_ (i := 0) (N := (some 45)) (v := ?_) (a' := ?_) #[true, false, false, false, false, false, false, false, false, false] rfl rfl (any_of HT_.out (by kernel_rfl)) (fun _ _ _ h => h) (Or.inl ⟨by rfl, ?_⟩) ?_ ?_
    rotate_left
    · intro w'
      go_simp
      with_reducible rfl
    rotate_left
    · simp only [Act.put, List.setIfInBounds_toArray, List.set_cons_zero, List.set_cons_succ, i64_w, i32_w]
      rfl
    refine take_ (i := 1) (N := (some 46)) (v := ?_) (a' := ?_) #[true, true, false, false, false, false, false, false, false, false] rfl rfl (take_ofW HT_.out HW_.out (by kernel_rfl)) (fun _ _ _ h => h) (Or.inl ⟨by rfl, ?_⟩) hHeld ?_ ?_
    rotate_left
    · rintro w' ⟨s0, s1, s2⟩
      go_simp
      with_reducible rfl
    rotate_left
    · simp only [Act.put, List.setIfInBounds_toArray, List.set_cons_zero, List.set_cons_succ, i64_w, i32_w]
      rfl
    refine pure_ (i := 2) (N := (some 47)) (v := ?_) (a' := ?_) #[true, true, true, false, false, false, false, false, false, false] rfl rfl (any_of HT_.out (by kernel_rfl)) (fun _ _ _ h => h) (Or.inl ⟨by rfl, ?_⟩) ?_ ?_
    rotate_left
    · intro w'
      go_simp
      with_reducible rfl
    rotate_left
    · simp only [Act.put, List.setIfInBounds_toArray, List.set_cons_zero, List.set_cons_succ, i64_w, i32_w]
      rfl
    refine take_ (i := 3) (N := (some 48)) (v := ?_) (a' := ?_) #[true, true, true, true, false, false, false, false, false, false] rfl rfl (take_ofW HT_.out HW_.out (by kernel_rfl)) (fun _ _ _ h => h) (Or.inl ⟨by rfl, ?_⟩) hHeld ?_ ?_
    rotate_left
    · rintro w' ⟨s0, s1, s2⟩
      go_simp
      with_reducible rfl
    rotate_left
    · simp only [Act.put, List.setIfInBounds_toArray, List.set_cons_zero, List.set_cons_succ, i64_w, i32_w]
      rfl
    refine pure_ (i := 4) (N := (some 49)) (v := ?_) (a' := ?_) #[true, true, true, true, true, false, false, false, false, false] rfl rfl (any_of HT_.out (by kernel_rfl)) (fun _ _ _ h => h) (Or.inl ⟨by rfl, ?_⟩) ?_ ?_
    rotate_left
    · intro w'
      go_simp
      with_reducible rfl
    rotate_left
    · simp only [Act.put, List.setIfInBounds_toArray, List.set_cons_zero, List.set_cons_succ, i64_w, i32_w]
      rfl
    refine pure_ (i := 5) (N := (some 50)) (v := ?_) (a' := ?_) #[true, true, true, true, true, true, false, false, false, false] rfl rfl (any_of HT_.out (by kernel_rfl)) (fun _ _ _ h => h) (Or.inl ⟨by rfl, ?_⟩) ?_ ?_
    rotate_left
    · intro w'
      go_simp
      with_reducible rfl
    rotate_left
    · simp only [Act.put, List.setIfInBounds_toArray, List.set_cons_zero, List.set_cons_succ, i64_w, i32_w]
      rfl
    refine take_ (i := 6) (N := (some 51)) (v := ?_) (a' := ?_) #[true, true, true, true, true, true, true, false, false, false] rfl rfl (take_ofW HT_.out HW_.out (by kernel_rfl)) (fun _ _ _ h => h) (Or.inl ⟨by rfl, ?_⟩) hHeld ?_ ?_
    rotate_left
    · rintro w' ⟨s0, s1, s2⟩
      go_simp
      with_reducible rfl
    rotate_left
    · simp only [Act.put, List.setIfInBounds_toArray, List.set_cons_zero, List.set_cons_succ, i64_w, i32_w]
      rfl
    refine pure_ (i := 7) (N := (some 52)) (v := ?_) (a' := ?_) #[true, true, true, true, true, true, true, true, false, false] rfl rfl (any_of HT_.out (by kernel_rfl)) (fun _ _ _ h => h) (Or.inl ⟨by rfl, ?_⟩) ?_ ?_
    rotate_left
    · intro w'
      go_simp
      with_reducible rfl
    rotate_left
    · simp only [Act.put, List.setIfInBounds_toArray, List.set_cons_zero, List.set_cons_succ, i64_w, i32_w]
      rfl
    refine last_ (i := 8) (N := some 53) #[true, true, true, true, true, true, true, true, true, false] rfl rfl (by kernel_rfl) (by decide) (fun K_ hK => ?_)
    refine callP_ 61 #[.pointer (some ⟨tb, 0, none⟩), .func (.func 19) #[.pointer (some ⟨pE2, 0, none⟩)] #[]] (by rfl) rfl ?hr13 ?_
    (case hr13 => first | (go_simp; done) | (go_simp; exact enters Tryz.func61 (by kernel_rfl) rfl _ _))
    refine (HT.out.now_ hHeld.2.2 hd).mono ?_
    rintro e w2 ⟨⟨ok1, hm, hT, he⟩⟩
    rcases hcase with ⟨rfl, rfl⟩ | ⟨n2, rfl, hr3⟩
    · obtain rfl : e = .panicked waitP := he
      exact .inr ⟨waitP, rfl, rfl, ⟨⟨ok1, hT.moves, hT.run, rfl⟩⟩⟩
    · obtain rfl : e = .returned (.int .i64 n2) := he
      refine .inl ⟨.int .i64 n2, rfl, ?_⟩
      refine hK.out _ _ ?_
      clear hK K_
      refine norm_ (a' := ?_) ?_ ?_
      rotate_left
      · show Act.put _ (some 53) _ = _
        simp only [Act.put, List.setIfInBounds_toArray, List.set_cons_zero, List.set_cons_succ, i64_w, i32_w]
        rfl
      have HT2 := Aside0.mk hT
      have HR2 := Aside0.mk hr3
      have HBN := Aside0.mk (HBN.out.moves hm)
      have k0 := (blk_cell HBN.out.1 0).trans (rfl : _ = some (Value.int .i64 n))
      have z0 := blk_frozen HBN.out.1 0
      clear hT hr3 hm
      refine last_ (i := 9) (N := none) #[true, true, true, true, true, true, true, true, true, true] rfl rfl (by kernel_rfl) (by decide) (fun K_ hK => ?_)
      refine skip_ (w1 := w2.setCell ⟨bn, 0, none⟩ (.int .i64 n2)) (by rfl) rfl ?_ ?_
      · go_simp
      refine hK.out _ _ ?_
      clear hK K_ k0 z0
      refine done_ (by kernel_rfl) ?_
      have HB3 : Aside0 (BegAt p tb work me bt ok w bn n2 (freeT me n2 f) res (w2.setCell ⟨bn, 0, none⟩ (.int .i64 n2))) := ⟨⟨_, _, HT2.out.set HBN.out.2 HWN.out HNT.out _, HBN.out.set 0 _, HNT.out, HWN.out, HR2.out⟩⟩
      clear HT2 HBN HR2 HT hd hHeld
      generalize w2.setCell ⟨bn, 0, none⟩ (.int .i64 n2) = w3 at HB3 ⊢
      go_wp2_with fail
      go_loopg [] f (fun g wr => Aside0 (BegAt p tb work me bt ok w bn n2 (freeT me n2 g) res wr))
      case atStart => exact HB3
      case round =>
        clear HB3
        obtain ⟨okc4, s4, hT, hbn, hnt, hwn, hr⟩ := hrel.out.out
        cases gk with
        | zero => cases hr
        | succ g =>
          obtain ⟨o, t5, hd, hcase⟩ := prBind_some hr
          have c0 := hT.c0
          have HT := Aside0.mk hT
          have HBN := Aside0.mk hbn
          have HD := Aside0.mk hd
          have HCS := Aside0.mk hcase
          clear hT hbn hnt hwn hr hd hcase hrel
          go_upto_if 58 with (go_at_call 61; refine (HT.out.one_ HBN.out HD.out).mono ?_; rintro e w2 ⟨⟨ok1, hm, hT, he⟩⟩; rcases HCS.out with hw | hw; (obtain ⟨rfl, rfl⟩ := hw; obtain rfl : e = .panicked waitP := he; exact ⟨rfl, ⟨⟨ok1, hT.moves, hT.run, rfl⟩⟩⟩); obtain ⟨a2, rfl, hr2⟩ := hw; obtain rfl : e = .returned (.int .i64 a2) := he; have HT2 := Aside0.mk hT; have HR2 := Aside0.mk hr2; have HBN := Aside0.mk (HBN.out.moves hm); clear hm hT hr2)
          by_cases ha : a2 = 0
          · have hb1 : (a2 == 0) = true := by simp [ha]
            have hb2 : (a2 != 0) = false := by simp [ha]
            have HR4 : Aside0 (prRet () t5 = some res) := ⟨by have h := HR2.out; rw [if_pos ha] at h; exact h⟩
            clear ha
            go_wp2_with fail
            go_end0
            obtain rfl : res = (.ret (), t5) := by have h := HR4.out; injection h with h; exact h.symm
            exact ⟨⟨_, HT2.out.moves, HT2.out.run, _, rfl, rfl⟩⟩
          · have hb1 : (a2 == 0) = false := by simpa using ha
            have hb2 : (a2 != 0) = true := by simpa using ha
            have HR4 : Aside0 (freeT me n2 g t5 = some res) := ⟨by have h := HR2.out; rw [if_neg ha] at h; exact h⟩
            clear ha
            go_wp2_with fail
            go_roundg g
            case rel => exact ⟨⟨_, _, HT2.out, HBN.out, HNT.out, HWN.out, HR4.out⟩⟩
            case measure => omega
end Go.Proofs.YthlmgbdknjilpaaGreat.Tower
namespace Go.Proofs.YthlmgbdknjilpaaGreat.Tower
open Go Go.RowKit Go.Proofs.YthlmgbdknjilpaaGreatW.PrintWords Go.Proofs.YthlmgbdknjilpaaGreatW.PrintLast Go.Proofs.YthlmgbdknjilpaaGreatW.PrintMore Go.Proofs.YthlmgbdknjilpaaGreat.Own
set_option linter.unusedVariables false
set_option linter.unusedSimpArgs false

set_option maxHeartbeats 4000000 in
set_option maxRecDepth 100000 in
theorem end_calls (p tb : Nat) (work : Value) (me : Int) (ok : Nat → Prop) (s : TS Ws) (w : World) (h : IsRun (shW p) tb work ok s w) (res : Out Unit × TS Ws) (hr : endT me s = some res) :
    Calls Tryz.prog 42 #[taskV tb p me] w (TPost (shW p) tb work VUnit ok w res) := by
  have HT := Aside0.mk (TaskAt.enter (me := me) h)
  obtain ⟨o, t, hd, hcase⟩ := prBind_some hr
  have HD := Aside0.mk hd
  have HCS := Aside0.mk hcase
  have HTV : taskV tb p me = .agg #[.pointer (some ⟨tb, 0, none⟩), .pointer (some ⟨p, 0, none⟩), .int .i64 me] := rfl
  rw [HTV]
  have HTO : taskO tb p me = .cells #[.pointer (some ⟨tb, 0, none⟩), .pointer (some ⟨p, 0, none⟩), .int .i64 me] 84 := rfl
  rw [HTO] at HT
  clear h hr HTV HTO hd hcase
  go_enter Tryz.func42, Tryz.ntmps42
  go_upto_region 1 with fail
  generalize w.alloc (.cells #[.pointer (some ⟨tb, 0, none⟩), .pointer (some ⟨p, 0, none⟩), .int .i64 me] 84) = w1 at HT ⊢
  generalize hbb : w.heap.size = bt at HT ⊢
  have c0 := HT.out.c0
  go_wp2_with (go_at_call 61; refine (HT.out.hush_ HD.out).mono ?_; rintro e w2 ⟨⟨ok1, hm, hT, he⟩⟩; rcases HCS.out with hw | hw; (obtain ⟨rfl, rfl⟩ := hw; obtain rfl : e = .panicked waitP := he; exact ⟨rfl, ⟨⟨ok1, hT.moves, hT.run, rfl⟩⟩⟩); obtain ⟨a0, rfl, hr2⟩ := hw; obtain rfl : e = .returned (.int .i64 a0) := he; have HT2 := Aside0.mk hT; have HR2 := Aside0.mk hr2; clear hm hT hr2)
  go_end0
  obtain rfl : res = (.ret (), t) := by have h := HR2.out; injection h with h; exact h.symm
  exact ⟨⟨_, HT2.out.moves, HT2.out.run, _, rfl, rfl⟩⟩
end Go.Proofs.YthlmgbdknjilpaaGreat.Tower
namespace Go.Proofs.YthlmgbdknjilpaaGreat.Tower
open Go Go.RowKit Go.Proofs.YthlmgbdknjilpaaGreatW.PrintWords Go.Proofs.YthlmgbdknjilpaaGreatW.PrintLast Go.Proofs.YthlmgbdknjilpaaGreatW.PrintMore Go.Proofs.YthlmgbdknjilpaaGreat.Own
set_option linter.unusedVariables false
set_option linter.unusedSimpArgs false

def stp0 : Stp := ⟨0, nd0, 0⟩
def VLeaf (q : Stp × Stp) (ok : Nat → Prop) (v : Value) (w : World) : Prop := ∃ cs ds, v = .tuple #[.agg cs.toArray, .agg ds.toArray] ∧ kStp.FK w (fun k => ¬ ok k) q.1 cs ∧ kStp.FK w (fun k => ¬ ok k) q.2 ds
/-- The leaf, and the node above it (none: no way of two nodes; not spoken of). -/
def leafT (key : Int) (f : Nat) : Pr Ws (Stp × Stp) := fun s => prBind (pathT key f s.sh.entry []) (fun l => if l.length < 2 then fun _ => none else prRet (l.getD (l.length - 2) stp0, l.getD (l.length - 1) stp0)) s
/-- A run of cells of a box of one's own is written. -/
theorem TaskAt.cells {p tb : Nat} {work : Value} {me : Int} {bt : Nat} {ok okc : Nat → Prop} {w wc : World} {s : TS Ws} (h : TaskAt p tb work me bt ok w okc s wc) {g : Nat} (hn : ¬ okc g) (hw : w.heap.size ≤ g) (ht : g ≠ bt) (o : Nat) (seg : List Value) : TaskAt p tb work me bt ok w okc s (wc.setCells g o seg) :=
  ⟨h.run.step (shW_shared p) (by rw [(setCells_same g seg o wc).2.2.2]; exact Nat.le_refl _) (fun k hk _ => setCells_far seg o k (fun e => hn (e ▸ hk))), moves_cells h.moves (.inr hw) o seg, ⟨(setCells_far seg o bt (fun e => ht e.symm)).trans h.box.1, h.box.2⟩⟩
theorem setCells_all {w : World} {g : Nat} {cur : Array Value} {e : TypeId} {seg : List Value} (h : w.heap[g]? = some (.cells cur e (0, 0))) (hl : cur.size = seg.length) : (w.setCells g 0 seg).heap[g]? = some (.cells seg.toArray e (0, 0)) := by
  obtain ⟨cur', h3, h4, h5⟩ := setCells_row seg 0 w cur h (by omega)
  rw [h3]
  have : cur'.toList = seg := by
    rw [h5]
    simp only [List.take_zero, List.nil_append, Nat.zero_add]
    rw [List.drop_of_length_le (by rw [Array.length_toList]; omega), List.append_nil]
  rw [← this]
theorem Mine.cells {ok : Nat → Prop} {w : World} {g : Nat} {o : Obj} (h : Mine ok w g o) {g1 : Nat} (hn : g1 ≠ g) (o1 : Nat) (seg : List Value) : Mine ok (w.setCells g1 o1 seg) g o := ⟨(setCells_far seg o1 g (fun e => hn e.symm)).trans h.1, h.2⟩
theorem results_cell_rows {P : Program} {fn : Func} {p q : Tmp} {ty tz : TypeId} (h : fn.results = #[.cell p ty, .cell q tz]) (tmps : Array Value) (w : World) (g1 : Nat) (t1 : TypeId) (cs1 : Array Value) (fr1 : Nat × Nat) (d1 : TypeDesc) (g2 : Nat) (t2 : TypeId) (cs2 : Array Value) (fr2 : Nat × Nat) (d2 : TypeDesc)
    (hp : tmps.getD p undef = .pointer (some ⟨g1, 0, none⟩)) (hg1 : w.heap[g1]? = some (.cells cs1 t1 fr1)) (hu1 : P.underlying ty = some d1) (hd1 : (match d1 with | .struct _ | .array _ _ => true | _ => false) = true) (hi1 : (P.info? ty).map (·.size) = some cs1.size)
    (hq : tmps.getD q undef = .pointer (some ⟨g2, 0, none⟩)) (hg2 : w.heap[g2]? = some (.cells cs2 t2 fr2)) (hu2 : P.underlying tz = some d2) (hd2 : (match d2 with | .struct _ | .array _ _ => true | _ => false) = true) (hi2 : (P.info? tz).map (·.size) = some cs2.size) :
    (results fn tmps).run P w = .ok (.tuple #[.agg cs1, .agg cs2]) w := by
  have hp' : tmps[p]?.getD undef = .pointer (some ⟨g1, 0, none⟩) := by simpa using hp
  have hq' : tmps[q]?.getD undef = .pointer (some ⟨g2, 0, none⟩) := by simpa using hq
  simp [results, h, hp', hq', asAddr, run_loadVar_row w g1 t1 ty cs1 fr1 d1 hg1 hu1 hd1 hi1, run_loadVar_row w g2 t2 tz cs2 fr2 d2 hg2 hu2 hd2 hi2]
def stpO : Obj := .cells #[.int .i64 0, .bool false, .bool false, .slice none 0 0, .slice none 0 0, .slice none 0 0, .int .i64 0] 134 (0, 0)
theorem stp0_FK (w : World) (ok : Nat → Prop) : kStp.FK w ok stp0 [.int .i64 0, .bool false, .bool false, .slice none 0 0, .slice none 0 0, .slice none 0 0, .int .i64 0] :=
  Kd.FK_of_M (base := 0) (kStp_M (s := stp0) (kNd_M (n := nd0) (Kd.R_nil _ _ _ _ _) (Kd.R_nil _ _ _ _ _) (Kd.R_nil _ _ _ _ _)))
def TLeaf4 : Bool × List (List Nat × List Nat) := (true, [([], []), ([], []), ([1], [1]), ([2], [2]), ([0, 3], [0, 3]), ([4], [4]), ([], []), ([], []), ([7], [7]), ([8], [8]), ([6, 9], [6, 9]), ([10], [10]), ([5, 0, 1, 2, 3, 4, 5], [5]), ([11, 12, 0, 1, 2, 3, 4, 5, 6, 7, 8, 9, 10, 11, 12], [11])])
def BLeaf4 : List Nat := [0, 0, 2, 6, 15, 31, 0, 0, 128, 384, 960, 1984, 63, 8191]
theorem tabLeaf4 : rtab .any (opsOf Tryz.f75 4) = TLeaf4 := by kernel_rfl
theorem bitsLeaf4 : waitsOk TLeaf4.2 BLeaf4 = true := by kernel_rfl
set_option maxHeartbeats 4000000 in
set_option maxRecDepth 100000 in
theorem leaf_calls (p tb : Nat) (work : Value) (me key : Int) (ok : Nat → Prop) (s : TS Ws) (w : World) (h : IsRun (shW p) tb work ok s w) (f : Nat) (hf : f < 900000) (res : Out (Stp × Stp) × TS Ws) (hr : leafT key f s = some res) (hlen : ∀ l t, pathT key f s.sh.entry [] s = some (.ret l, t) → l.length < 1000000) :
    Calls Tryz.prog 75 #[taskV tb p me, .int .i64 key] w (TPost (shW p) tb work VLeaf ok w res) := by
  obtain ⟨o, t, hd, hcase⟩ := prBind_some hr
  have HT := Aside0.mk (((TaskAt.enter (me := me) h).alloc stpO).alloc stpO)
  have HB4 := Aside0.mk ((Mine.new (TaskAt.enter (p := p) (tb := tb) (me := me) h).lt stpO).alloc stpO)
  have HB5 := Aside0.mk (Mine.new ((TaskAt.enter (me := me) h).alloc stpO).lt stpO)
  have HD := Aside0.mk hd
  have HCS := Aside0.mk hcase
  have HLN := Aside0.mk hlen
  have HTV : taskV tb p me = .agg #[.pointer (some ⟨tb, 0, none⟩), .pointer (some ⟨p, 0, none⟩), .int .i64 me] := rfl
  rw [HTV]
  have HSZ : Aside0 (w.heap.size < (w.alloc (taskO tb p me)).heap.size ∧ (w.alloc (taskO tb p me)).heap.size < ((w.alloc (taskO tb p me)).alloc stpO).heap.size) := ⟨by simp⟩
  unfold taskO stpO at HT HB4 HB5 HSZ
  clear h hr hd hcase hlen HTV
  go_enter Tryz.func75, Tryz.ntmps75
  go_upto_region 1 with fail
  simp only [World.size_alloc] at HB4 HB5 HSZ
  generalize ((w.alloc (.cells #[.pointer (some ⟨tb, 0, none⟩), .pointer (some ⟨p, 0, none⟩), .int .i64 me] 84)).alloc (.cells #[.int .i64 0, .bool false, .bool false, .slice none 0 0, .slice none 0 0, .slice none 0 0, .int .i64 0] 134)).alloc (.cells #[.int .i64 0, .bool false, .bool false, .slice none 0 0, .slice none 0 0, .slice none 0 0, .int .i64 0] 134) = w3 at HT HB4 HB5 ⊢
  generalize hbb : w.heap.size = bt at HT HB4 HB5 ⊢
  clear HSZ
  have HWB : Aside0 (w.heap.size = bt) := ⟨hbb⟩
  clear hbb
  generalize hb4 : bt + 1 = b4 at HB4 HB5 ⊢
  generalize hb5 : b4 + 1 = b5 at HB5 ⊢
  have HW4 : Aside0 (w.heap.size ≤ b4) := ⟨by have := HWB.out; omega⟩
  have HW5 : Aside0 (w.heap.size ≤ b5) := ⟨by have := HWB.out; omega⟩
  have H45 : Aside0 (b4 ≠ b5) := ⟨by omega⟩
  have HT4 : Aside0 (b4 ≠ bt) := ⟨by omega⟩
  have HT5 : Aside0 (b5 ≠ bt) := ⟨by omega⟩
  clear hb4 hb5
  have c0 := HT.out.c0
  have c1 := HT.out.c1
  have c2 := HT.out.c2
  go_upto_region 2 with (go_at_call 98; refine (path_callsN p tb work me key ok s _ HT.out.run f hf (o, t) HD.out).mono ?_; rintro e w4 ⟨ok1, hm, hi, hres⟩; rcases HCS.out with hw | hw; (obtain ⟨rfl, rfl⟩ := hw; obtain rfl : e = .panicked waitP := hres; exact ⟨rfl, ⟨⟨ok1, HT.out.moves.trans hm, hi, rfl⟩⟩⟩); obtain ⟨l, rfl, hr2⟩ := hw; obtain ⟨v, rfl, hv⟩ := hres; obtain ⟨A, c, rfl⟩ := Kd.R_slice hv; have HT2 := Aside0.mk (HT.out.next hm hi); have HN4 := Aside0.mk HB4.out.lt; have HN5 := Aside0.mk HB5.out.lt; have HB4 := Aside0.mk (HB4.out.moves hm); have HB5 := Aside0.mk (HB5.out.moves hm); have HV := Aside0.mk hv; have HR2 := Aside0.mk hr2; clear hm hi hv hr2 c0 c1 c2)
  have hr3 := HR2.out
  by_cases h2 : l.length < 2
  · rw [if_pos h2] at hr3; cases hr3
  rw [if_neg h2] at hr3
  obtain ⟨m, hm2⟩ : ∃ m, l.length = m + 2 := ⟨l.length - 2, by omega⟩
  have hlt := HLN.out l t HD.out
  have HR3 := Aside0.mk hr3
  have HM2 := Aside0.mk hm2
  clear HR2 hr3 h2
  have hV := HV.out
  unfold VStepsN at hV
  obtain ⟨g, rfl⟩ : ∃ g, A = some ⟨g, 0, none⟩ := by
    obtain ⟨g, cap, e1, _⟩ := Kd.R_form hV (by omega)
    injection e1 with e1 _ _
    exact ⟨g, e1⟩
  have HG : Aside0 (w3.heap.size ≤ g) := ⟨Kd.R_base hV g (by simp [Value.ownBlock])⟩
  have HG4 : Aside0 (g ≠ b4) := ⟨by have := HG.out; have := HN4.out; omega⟩
  have HG5 : Aside0 (g ≠ b5) := ⟨by have := HG.out; have := HN5.out; omega⟩
  obtain ⟨cs1, _, hM1, hc1, _⟩ := Kd.R_elem hV stp0 ((m : Nat) : Int) (by omega) (by omega)
  obtain ⟨cs2, _, hM2', hc2, _⟩ := Kd.R_elem hV stp0 ((m + 1 : Nat) : Int) (by omega) (by omega)
  rw [Int.toNat_natCast] at hM1 hc1 hM2' hc2
  have hq1 : (l.getD (l.length - 2) stp0, l.getD (l.length - 1) stp0) = (l.getD m stp0, l.getD (m + 1) stp0) := by rw [hm2]; rfl
  rw [hq1] at HR3
  clear hq1
  generalize hm1 : m + 1 = m1 at hM2' hc2 HR3
  generalize l.getD m stp0 = q1 at hM1 HR3
  generalize l.getD m1 stp0 = q2 at hM2' HR3
  obtain ⟨Ap1, cp1, Ak1, ck1, Ay1, cy1, rfl⟩ := kStp_cells (kStp.K_of_M hM1)
  obtain ⟨Ap2, cp2, Ak2, ck2, Ay2, cy2, rfl⟩ := kStp_cells (kStp.K_of_M hM2')
  rw [show kStp.sz = 7 from rfl] at hc1 hc2
  have HF1 : Aside0 (kStp.FK w4 (fun k => ¬ ok1 k ∧ w3.heap.size ≤ k) q1 _) := ⟨Kd.FK_mono (Kd.FK_of_M (kStp.M_bound hM1)) (fun k hk => ⟨hk.1.1, hk.2.1⟩)⟩
  have HF2 : Aside0 (kStp.FK w4 (fun k => ¬ ok1 k ∧ w3.heap.size ≤ k) q2 _) := ⟨Kd.FK_mono (Kd.FK_of_M (kStp.M_bound hM2')) (fun k hk => ⟨hk.1.1, hk.2.1⟩)⟩
  have HC := Aside0.mk (And.intro (hc1 0 _ rfl) (And.intro (hc1 1 _ rfl) (And.intro (hc1 2 _ rfl) (And.intro (hc1 3 _ rfl) (And.intro (hc1 4 _ rfl) (And.intro (hc1 5 _ rfl) (And.intro (hc1 6 _ rfl) (And.intro (hc2 0 _ rfl) (And.intro (hc2 1 _ rfl) (And.intro (hc2 2 _ rfl) (And.intro (hc2 3 _ rfl) (And.intro (hc2 4 _ rfl) (And.intro (hc2 5 _ rfl) (hc2 6 _ rfl))))))))))))))
  rw [hm2]
  have d1 : decide (((m + 2 : Nat) : Int) < 2) = false := decide_eq_false (by omega)
  have d2 : decide (m + 2 < 2) = false := decide_eq_false (by omega)
  have hw2 : wrap64 (m : Int) = (m : Int) := by unfold wrap64; omega
  have hw1 : wrap64 ((m : Int) + 2 - 1) = (m1 : Int) := by unfold wrap64; omega
  have b0 : (0 : Int) ≤ (m : Int) := by omega
  have b1 : (m : Int) < (m : Int) + 2 := by omega
  have b2 : (m1 : Int) < (m : Int) + 2 := by omega
  have b3 : (0 : Int) ≤ (m1 : Int) := by omega
  clear hV hM1 hM2' hc1 hc2 hm2 HV HM2 hm1
  go_upto_region 4 with fail
  refine start_ (n := 14) (S := fun w' => w'.cell? ⟨g, m * 7, none⟩ = some (.int .i64 q1.ref) ∧ w'.cell? ⟨g, m * 7 + 1, none⟩ = some (.bool q1.node.inner) ∧ w'.cell? ⟨g, m * 7 + 2, none⟩ = some (.bool q1.node.tagged) ∧ w'.cell? ⟨g, m * 7 + 3, none⟩ = some (.slice Ap1 q1.node.pairs.length cp1) ∧ w'.cell? ⟨g, m * 7 + 4, none⟩ = some (.slice Ak1 q1.node.keys.length ck1) ∧ w'.cell? ⟨g, m * 7 + 5, none⟩ = some (.slice Ay1 q1.node.ways.length cy1) ∧ w'.cell? ⟨g, m * 7 + 6, none⟩ = some (.int .i64 q1.way) ∧ w'.cell? ⟨g, m1 * 7, none⟩ = some (.int .i64 q2.ref) ∧ w'.cell? ⟨g, m1 * 7 + 1, none⟩ = some (.bool q2.node.inner) ∧ w'.cell? ⟨g, m1 * 7 + 2, none⟩ = some (.bool q2.node.tagged) ∧ w'.cell? ⟨g, m1 * 7 + 3, none⟩ = some (.slice Ap2 q2.node.pairs.length cp2) ∧ w'.cell? ⟨g, m1 * 7 + 4, none⟩ = some (.slice Ak2 q2.node.keys.length ck2) ∧ w'.cell? ⟨g, m1 * 7 + 5, none⟩ = some (.slice Ay2 q2.node.ways.length cy2) ∧ w'.cell? ⟨g, m1 * 7 + 6, none⟩ = some (.int .i64 q2.way)) (ds := [13]) #[false, false, false, false, false, false, false, false, false, false, false, false, false, false] (by kernel_rfl) rfl rfl HC.out (fun hHeld => ?_); refine with_tabW tabLeaf4 bitsLeaf4 (fun HT_ HW_ => ?_)
  have HT2 := Aside0.mk HT2.out.drew
  have HB4 := Aside0.mk (HB4.out.moves ((Moves.refl _ _).drew))
  have HB5 := Aside0.mk (HB5.out.moves ((Moves.refl _ _).drew))
  have HF1 := Aside0.mk (Kd.FK_below HF1.out (below_drew (Below.refl _ _)))
  have HF2 := Aside0.mk (Kd.FK_below HF2.out (below_drew (Below.refl _ _)))
  clear HC
  generalize World.drew _ = w4 at HT2 HB4 HB5 HF1 HF2 hHeld ⊢
  refine pure_ (i := 0) (N := (some 15)) (v := ?_) (a' := ?_) #[true, false, false, false, false, false, false, false, false, false, false, false, false, false] rfl rfl (any_of HT_.out (by kernel_rfl)) (fun _ _ _ h => h) (Or.inl ⟨by rfl, ?_⟩) ?_ ?_
  rotate_left
  · intro w'
    go_simp
    with_reducible rfl
  rotate_left
  · simp only [Act.put, List.setIfInBounds_toArray, List.set_cons_zero, List.set_cons_succ, i64_w, i32_w]
    rfl
  refine pure_ (i := 1) (N := (some 16)) (v := ?_) (a' := ?_) #[true, true, false, false, false, false, false, false, false, false, false, false, false, false] rfl rfl (any_of HT_.out (by kernel_rfl)) (fun _ _ _ h => h) (Or.inl ⟨by rfl, ?_⟩) ?_ ?_
  rotate_left
  · intro w'
    go_simp
    with_reducible rfl
  rotate_left
  · simp only [Act.put, List.setIfInBounds_toArray, List.set_cons_zero, List.set_cons_succ, i64_w, i32_w]
    rfl
  refine pure_ (i := 2) (N := (some 17)) (v := ?_) (a' := ?_) #[true, true, true, false, false, false, false, false, false, false, false, false, false, false] rfl rfl (any_of HT_.out (by kernel_rfl)) (fun _ _ _ h => h) (Or.inl ⟨by rfl, ?_⟩) ?_ ?_
  rotate_left
  · intro w'
    go_simp
    with_reducible rfl
  rotate_left
  · simp only [Act.put, List.setIfInBounds_toArray, List.set_cons_zero, List.set_cons_succ, i64_w, i32_w]
    rfl
  refine pure_ (i := 3) (N := (some 18)) (v := ?_) (a' := ?_) #[true, true, true, true, false, false, false, false, false, false, false, false, false, false] rfl rfl (any_of HT_.out (by kernel_rfl)) (fun _ _ _ h => h) (Or.inl ⟨by rfl, ?_⟩) ?_ ?_
  rotate_left
  · intro w'
    go_simp
    with_reducible rfl
  rotate_left
  · simp only [Act.put, List.setIfInBounds_toArray, List.set_cons_zero, List.set_cons_succ, i64_w, i32_w]
    rfl
  refine pure_ (i := 4) (N := (some 19)) (v := ?_) (a' := ?_) #[true, true, true, true, true, false, false, false, false, false, false, false, false, false] rfl rfl (any_of HT_.out (by kernel_rfl)) (fun _ _ _ h => h) (Or.inl ⟨by rfl, ?_⟩) ?_ ?_
  rotate_left
  · intro w'
    go_simp
    with_reducible rfl
  rotate_left
  · simp only [Act.put, List.setIfInBounds_toArray, List.set_cons_zero, List.set_cons_succ, i64_w, i32_w]
    rfl
  refine take_ (i := 5) (N := (some 20)) (v := ?_) (a' := ?_) #[true, true, true, true, true, true, false, false, false, false, false, false, false, false] rfl rfl (take_ofW HT_.out HW_.out (by kernel_rfl)) (fun _ _ _ h => h) (Or.inl ⟨by rfl, ?_⟩) hHeld ?_ ?_
  rotate_left
  · rintro w' ⟨s0, s1, s2, s3, s4, s5, s6, s7, s8, s9, s10, s11, s12, s13⟩
    go_simp
    with_reducible rfl
  rotate_left
  · simp only [Act.put, List.setIfInBounds_toArray, List.set_cons_zero, List.set_cons_succ, i64_w, i32_w]
    rfl
  refine pure_ (i := 6) (N := (some 21)) (v := ?_) (a' := ?_) #[true, true, true, true, true, true, true, false, false, false, false, false, false, false] rfl rfl (any_of HT_.out (by kernel_rfl)) (fun _ _ _ h => h) (Or.inl ⟨by rfl, ?_⟩) ?_ ?_
  rotate_left
  · intro w'
    go_simp
    with_reducible rfl
  rotate_left
  · simp only [Act.put, List.setIfInBounds_toArray, List.set_cons_zero, List.set_cons_succ, i64_w, i32_w]
    rfl
  refine pure_ (i := 7) (N := (some 22)) (v := ?_) (a' := ?_) #[true, true, true, true, true, true, true, true, false, false, false, false, false, false] rfl rfl (any_of HT_.out (by kernel_rfl)) (fun _ _ _ h => h) (Or.inl ⟨by rfl, ?_⟩) ?_ ?_
  rotate_left
  · intro w'
    go_simp
    with_reducible rfl
  rotate_left
  · simp only [Act.put, List.setIfInBounds_toArray, List.set_cons_zero, List.set_cons_succ, i64_w, i32_w]
    rfl
  refine pure_ (i := 8) (N := (some 23)) (v := ?_) (a' := ?_) #[true, true, true, true, true, true, true, true, true, false, false, false, false, false] rfl rfl (any_of HT_.out (by kernel_rfl)) (fun _ _ _ h => h) (Or.inl ⟨by rfl, ?_⟩) ?_ ?_
  rotate_left
  · intro w'
    go_simp
    with_reducible rfl
  rotate_left
  · simp only [Act.put, List.setIfInBounds_toArray, List.set_cons_zero, List.set_cons_succ, i64_w, i32_w]
    rfl
  refine pure_ (i := 9) (N := (some 24)) (v := ?_) (a' := ?_) #[true, true, true, true, true, true, true, true, true, true, false, false, false, false] rfl rfl (any_of HT_.out (by kernel_rfl)) (fun _ _ _ h => h) (Or.inl ⟨by rfl, ?_⟩) ?_ ?_
  rotate_left
  · intro w'
    go_simp
    with_reducible rfl
  rotate_left
  · simp only [Act.put, List.setIfInBounds_toArray, List.set_cons_zero, List.set_cons_succ, i64_w, i32_w]
    rfl
  refine pure_ (i := 10) (N := (some 25)) (v := ?_) (a' := ?_) #[true, true, true, true, true, true, true, true, true, true, true, false, false, false] rfl rfl (any_of HT_.out (by kernel_rfl)) (fun _ _ _ h => h) (Or.inl ⟨by rfl, ?_⟩) ?_ ?_
  rotate_left
  · intro w'
    go_simp
    with_reducible rfl
  rotate_left
  · simp only [Act.put, List.setIfInBounds_toArray, List.set_cons_zero, List.set_cons_succ, i64_w, i32_w]
    rfl
  refine take_ (i := 11) (N := (some 26)) (v := ?_) (a' := ?_) #[true, true, true, true, true, true, true, true, true, true, true, true, false, false] rfl rfl (take_ofW HT_.out HW_.out (by kernel_rfl)) (fun _ _ _ h => h) (Or.inl ⟨by rfl, ?_⟩) hHeld ?_ ?_
  rotate_left
  · rintro w' ⟨s0, s1, s2, s3, s4, s5, s6, s7, s8, s9, s10, s11, s12, s13⟩
    go_simp
    with_reducible rfl
  rotate_left
  · simp only [Act.put, List.setIfInBounds_toArray, List.set_cons_zero, List.set_cons_succ, i64_w, i32_w]
    rfl
  refine one_ (i := 12) (N := none) #[true, true, true, true, true, true, true, true, true, true, true, true, true, false] rfl rfl (one_of HT_.out (by kernel_rfl)) (by decide) (fun K_ hK => ?_)
  refine skip_ (w1 := w4.setCells b4 0 [.int .i64 q1.ref, .bool q1.node.inner, .bool q1.node.tagged, .slice Ap1 q1.node.pairs.length cp1, .slice Ak1 q1.node.keys.length ck1, .slice Ay1 q1.node.ways.length cy1, .int .i64 q1.way]) (by rfl) rfl ?h12 ?_
  (case h12 => exact exec_store _ [.int .i64 q1.ref, .bool q1.node.inner, .bool q1.node.tagged, .slice Ap1 q1.node.pairs.length cp1, .slice Ak1 q1.node.keys.length ck1, .slice Ay1 q1.node.ways.length cy1, .int .i64 q1.way] rfl (by rfl) (by rfl) HB4.out.1 rfl (by kernel_rfl) (by simp) (by intro u hu; simp only [List.mem_cons, List.not_mem_nil, or_false] at hu; rcases hu with rfl | rfl | rfl | rfl | rfl | rfl | rfl <;> rfl))
  refine hK.out _ _ ?hS (fun hHeld => ?_)
  case hS =>
    obtain ⟨s0, s1, s2, s3, s4, s5, s6, s7, s8, s9, s10, s11, s12, s13⟩ := hHeld
    refine ⟨?_, ?_, ?_, ?_, ?_, ?_, ?_, ?_, ?_, ?_, ?_, ?_, ?_, ?_⟩ <;> (rw [World.cell?_of_block (setCells_far _ _ g HG4.out)]; assumption)
  clear hK K_
  have HT2 := Aside0.mk (HT2.out.cells HB4.out.2 HW4.out HT4.out 0 [.int .i64 q1.ref, .bool q1.node.inner, .bool q1.node.tagged, .slice Ap1 q1.node.pairs.length cp1, .slice Ak1 q1.node.keys.length ck1, .slice Ay1 q1.node.ways.length cy1, .int .i64 q1.way])
  have HF1 := Aside0.mk (Kd.FK_step (W1 := w4.setCells b4 0 [.int .i64 q1.ref, .bool q1.node.inner, .bool q1.node.tagged, .slice Ap1 q1.node.pairs.length cp1, .slice Ak1 q1.node.keys.length ck1, .slice Ay1 q1.node.ways.length cy1, .int .i64 q1.way]) HF1.out (fun k hk _ => setCells_far _ _ k (fun e => by have := HN4.out; omega)))
  have HF2 := Aside0.mk (Kd.FK_step (W1 := w4.setCells b4 0 [.int .i64 q1.ref, .bool q1.node.inner, .bool q1.node.tagged, .slice Ap1 q1.node.pairs.length cp1, .slice Ak1 q1.node.keys.length ck1, .slice Ay1 q1.node.ways.length cy1, .int .i64 q1.way]) HF2.out (fun k hk _ => setCells_far _ _ k (fun e => by have := HN4.out; omega)))
  have HB5 := Aside0.mk (Mine.cells HB5.out H45.out 0 [.int .i64 q1.ref, .bool q1.node.inner, .bool q1.node.tagged, .slice Ap1 q1.node.pairs.length cp1, .slice Ak1 q1.node.keys.length ck1, .slice Ay1 q1.node.ways.length cy1, .int .i64 q1.way])
  have HB4 : Aside0 (Mine ok1 (w4.setCells b4 0 [.int .i64 q1.ref, .bool q1.node.inner, .bool q1.node.tagged, .slice Ap1 q1.node.pairs.length cp1, .slice Ak1 q1.node.keys.length ck1, .slice Ay1 q1.node.ways.length cy1, .int .i64 q1.way]) b4 (.cells #[.int .i64 q1.ref, .bool q1.node.inner, .bool q1.node.tagged, .slice Ap1 q1.node.pairs.length cp1, .slice Ak1 q1.node.keys.length ck1, .slice Ay1 q1.node.ways.length cy1, .int .i64 q1.way] 134 (0, 0))) := ⟨⟨setCells_all HB4.out.1 rfl, HB4.out.2⟩⟩
  generalize w4.setCells b4 0 [.int .i64 q1.ref, .bool q1.node.inner, .bool q1.node.tagged, .slice Ap1 q1.node.pairs.length cp1, .slice Ak1 q1.node.keys.length ck1, .slice Ay1 q1.node.ways.length cy1, .int .i64 q1.way] = w5 at HT2 HF1 HF2 HB4 HB5 hHeld ⊢
  refine last_ (i := 13) (N := none) #[true, true, true, true, true, true, true, true, true, true, true, true, true, true] rfl rfl (one_of HT_.out (by kernel_rfl)) (by decide) (fun K_ hK => ?_)
  refine skip_ (w1 := w5.setCells b5 0 [.int .i64 q2.ref, .bool q2.node.inner, .bool q2.node.tagged, .slice Ap2 q2.node.pairs.length cp2, .slice Ak2 q2.node.keys.length ck2, .slice Ay2 q2.node.ways.length cy2, .int .i64 q2.way]) (by rfl) rfl ?h13 ?_
  (case h13 => exact exec_store _ [.int .i64 q2.ref, .bool q2.node.inner, .bool q2.node.tagged, .slice Ap2 q2.node.pairs.length cp2, .slice Ak2 q2.node.keys.length ck2, .slice Ay2 q2.node.ways.length cy2, .int .i64 q2.way] rfl (by rfl) (by rfl) HB5.out.1 rfl (by kernel_rfl) (by simp) (by intro u hu; simp only [List.mem_cons, List.not_mem_nil, or_false] at hu; rcases hu with rfl | rfl | rfl | rfl | rfl | rfl | rfl <;> rfl))
  refine hK.out _ _ ?_
  clear hK K_ hHeld
  have HT2 := Aside0.mk (HT2.out.cells HB5.out.2 HW5.out HT5.out 0 [.int .i64 q2.ref, .bool q2.node.inner, .bool q2.node.tagged, .slice Ap2 q2.node.pairs.length cp2, .slice Ak2 q2.node.keys.length ck2, .slice Ay2 q2.node.ways.length cy2, .int .i64 q2.way])
  have HF1 := Aside0.mk (Kd.FK_step (W1 := w5.setCells b5 0 [.int .i64 q2.ref, .bool q2.node.inner, .bool q2.node.tagged, .slice Ap2 q2.node.pairs.length cp2, .slice Ak2 q2.node.keys.length ck2, .slice Ay2 q2.node.ways.length cy2, .int .i64 q2.way]) HF1.out (fun k hk _ => setCells_far _ _ k (fun e => by have := HN5.out; omega)))
  have HF2 := Aside0.mk (Kd.FK_step (W1 := w5.setCells b5 0 [.int .i64 q2.ref, .bool q2.node.inner, .bool q2.node.tagged, .slice Ap2 q2.node.pairs.length cp2, .slice Ak2 q2.node.keys.length ck2, .slice Ay2 q2.node.ways.length cy2, .int .i64 q2.way]) HF2.out (fun k hk _ => setCells_far _ _ k (fun e => by have := HN5.out; omega)))
  have HB4 := Aside0.mk (Mine.cells HB4.out H45.out.symm 0 [.int .i64 q2.ref, .bool q2.node.inner, .bool q2.node.tagged, .slice Ap2 q2.node.pairs.length cp2, .slice Ak2 q2.node.keys.length ck2, .slice Ay2 q2.node.ways.length cy2, .int .i64 q2.way])
  have HB5 : Aside0 (Mine ok1 (w5.setCells b5 0 [.int .i64 q2.ref, .bool q2.node.inner, .bool q2.node.tagged, .slice Ap2 q2.node.pairs.length cp2, .slice Ak2 q2.node.keys.length ck2, .slice Ay2 q2.node.ways.length cy2, .int .i64 q2.way]) b5 (.cells #[.int .i64 q2.ref, .bool q2.node.inner, .bool q2.node.tagged, .slice Ap2 q2.node.pairs.length cp2, .slice Ak2 q2.node.keys.length ck2, .slice Ay2 q2.node.ways.length cy2, .int .i64 q2.way] 134 (0, 0))) := ⟨⟨setCells_all HB5.out.1 rfl, HB5.out.2⟩⟩
  generalize w5.setCells b5 0 [.int .i64 q2.ref, .bool q2.node.inner, .bool q2.node.tagged, .slice Ap2 q2.node.pairs.length cp2, .slice Ak2 q2.node.keys.length ck2, .slice Ay2 q2.node.ways.length cy2, .int .i64 q2.way] = w6 at HT2 HF1 HF2 HB4 HB5 ⊢
  refine done_ (done_of HT_.out (by kernel_rfl)) ?_
  go_wp2_with fail
  (try simp only [Exit.inBlock, Exit.then])
  refine bodyPost_ret (results_cell_rows rfl _ _ b4 134 _ (0, 0) _ b5 134 _ (0, 0) _ rfl HB4.out.1 Tryz.underlying134 rfl (by kernel_rfl) rfl HB5.out.1 Tryz.underlying134 rfl (by kernel_rfl)) rfl ?_
  have hh := HR3.out
  injection hh with hh
  subst hh
  exact ⟨⟨ok1, HT2.out.moves, HT2.out.run, _, rfl, _, _, rfl, Kd.FK_mono HF1.out (fun _ hk => hk.1), Kd.FK_mono HF2.out (fun _ hk => hk.1)⟩⟩
end Go.Proofs.YthlmgbdknjilpaaGreat.Tower
namespace Go.Proofs.YthlmgbdknjilpaaGreat.Tower
open Go Go.RowKit Go.Proofs.YthlmgbdknjilpaaGreatW.PrintWords Go.Proofs.YthlmgbdknjilpaaGreatW.PrintLast Go.Proofs.YthlmgbdknjilpaaGreatW.PrintMore Go.Proofs.YthlmgbdknjilpaaGreat.Own
set_option linter.unusedVariables false
set_option linter.unusedSimpArgs false

theorem at_pair {w : World} {A : Option Addr} {n : Nat} {xs : List (Int × Int)} (h : kPair.C w A n xs) (i : Int) (h0 : 0 ≤ i) (h1 : i < n) : ∃ ad , A = some ad ∧ w.cell? (ad.add (i.toNat * 2)) = some (.int .i64 (xs.getD i.toNat (0, 0)).1) ∧ w.cell? ⟨(ad.add (i.toNat * 2)).block, (ad.add (i.toNat * 2)).off + 1, none⟩ = some (.int .i64 (xs.getD i.toNat (0, 0)).2) := by
  obtain ⟨ad, c, e, _, hK, hc0⟩ := Kd.C_get h (0, 0) i h0 h1
  have hc : ∀ j u, c[j]? = some u → w.cell? (ad.add (i.toNat * 2 + j)) = some u := hc0
  obtain ⟨_, _, rfl, rfl, rfl⟩ := hK
  exact ⟨ad, e, hc 0 _ rfl, by rw [← add_field _ _ 1 (by omega)]; exact hc 1 _ rfl⟩
def cmp3 (a b : Int) : Int := if a < b then -1 else if b < a then 1 else 0
set_option maxHeartbeats 2000000 in
set_option maxRecDepth 100000 in
theorem find1 (a v b : Int) (w : World) : Calls Tryz.prog 119 #[.agg #[.int .i64 a, .int .i64 v], .int .i64 b] w fun e w1 => e = .returned (.int .i64 (cmp3 a b)) ∧ Below w.heap.size w w1 := by
  have HB := Aside0.mk (below_alloc (Below.refl w.heap.size w) (.cells #[.int .i64 a, .int .i64 v] 31))
  have hbx := blk_new w (.cells #[.int .i64 a, .int .i64 v] 31)
  have hc3 : cmp3 a b = cmp3 a b := rfl
  by_cases h1 : a < b
  · have d1 : decide (a < b) = true := decide_eq_true h1
    have HC : Aside0 (cmp3 a b = -1) := ⟨if_pos h1⟩
    clear h1 hc3
    go_enter Tryz.func119, Tryz.ntmps119
    go_wp2_with fail
    go_ret
    exact ⟨by rw [HC.out]; rfl, HB.out⟩
  · have d1 : decide (a < b) = false := decide_eq_false h1
    by_cases h2 : b < a
    · have d2 : decide (a > b) = true := decide_eq_true h2
      have d3 : decide (b < a) = true := decide_eq_true h2
      have HC : Aside0 (cmp3 a b = 1) := ⟨(if_neg h1).trans (if_pos h2)⟩
      clear h1 h2 hc3
      go_enter Tryz.func119, Tryz.ntmps119
      go_wp2_with fail
      go_ret
      exact ⟨by rw [HC.out]; rfl, HB.out⟩
    · have d2 : decide (a > b) = false := decide_eq_false h2
      have d3 : decide (b < a) = false := decide_eq_false h2
      have HC : Aside0 (cmp3 a b = 0) := ⟨(if_neg h1).trans (if_neg h2)⟩
      clear h1 h2 hc3
      go_enter Tryz.func119, Tryz.ntmps119
      go_wp2_with fail
      go_ret
      exact ⟨by rw [HC.out]; rfl, HB.out⟩
def ksOf (xs : List (Int × Int)) : List Int := xs.map Prod.fst
theorem ksOf_get (xs : List (Int × Int)) (m : Nat) : (xs.getD m (0, 0)).1 = (ksOf xs).getD m 0 := by
  simp only [ksOf, List.getD_eq_getElem?_getD, List.getElem?_map]
  cases xs[m]? <;> rfl
set_option maxHeartbeats 2000000 in
set_option maxRecDepth 100000 in
theorem bsearchF (A : Option Addr) (n c : Nat) (xs : List (Int × Int)) (k : Int) (w : World) (hr : kPair.C w A n xs) (hl : n < 1000000) :
    Calls Tryz.prog 118 #[.slice A n c, .int .i64 k, .func (.func 119) #[] #[]] w fun e w1 => e = .returned (.tuple #[.int .i64 (bs (ksOf xs) k 0 n : Nat), .bool (bfound (ksOf xs) k)]) ∧ Below w.heap.size w w1 := by
  have HC0 := Aside0.mk hr
  have HN := Aside0.mk hr.1
  have hnl : Aside0 ((ksOf xs).length = n) := ⟨by rw [← hr.1]; simp [ksOf]⟩
  clear hr
  go_enter Tryz.func118, Tryz.ntmps118
  go_wp2_with fail
  go_loopw [9, 10] (fun i j wr => ∃ a b : Nat, a ≤ b ∧ b ≤ n ∧ i = .int .i64 a ∧ j = .int .i64 b ∧ Aside0 (bs (ksOf xs) k a b = bs (ksOf xs) k 0 n) ∧ Aside0 (Below w.heap.size w wr)) (fun i j _ => ((intOf j).toNat - (intOf i).toNat))
  case atStart => exact ⟨0, n, Nat.zero_le _, Nat.le_refl _, rfl, rfl, ⟨rfl⟩, ⟨Below.refl _ _⟩⟩
  case round =>
    obtain ⟨a, b, hab, hbn, rfl, rfl, HB, HW⟩ := hrel
    have HR := Aside0.mk (Kd.C_below HC0.out HW.out)
    by_cases hlt : a < b
    · have d1 : decide ((a : Int) < (b : Int)) = true := decide_eq_true (by omega)
      have d2 : decide (a < b) = true := decide_eq_true hlt
      go_upto_region 5 with fail
      obtain ⟨m, hm⟩ : ∃ m : Nat, m = (a + b) / 2 := ⟨_, rfl⟩
      have em : ((a : Int) + (b : Int)) / 2 = (m : Int) := by omega
      rw [em]
      have hma : a ≤ m := by omega
      have hmb : m < b := by omega
      have b0 : (0 : Int) ≤ (m : Int) := by omega
      have b1 : (m : Int) < (n : Int) := by omega
      obtain ⟨ad, rfl, hc1, hc2⟩ := at_pair HR.out (m : Int) b0 b1
      rw [Int.toNat_natCast] at hc1 hc2
      have hx := ksOf_get xs m
      have HM := Aside0.mk hm
      have HLT := Aside0.mk hlt
      clear em hm hlt d1 d2
      rw [hx] at hc1
      generalize (xs.getD m (0, 0)).2 = vv at hc2
      obtain ⟨x, hx⟩ : ∃ x, x = (ksOf xs).getD m 0 := ⟨_, rfl⟩
      rw [← hx] at hc1
      have HXX := Aside0.mk hx
      clear hx
      by_cases hd : x < k
      · have h3 : cmp3 x k = -1 := if_pos hd
        have HD := Aside0.mk hd
        have H3 := Aside0.mk h3
        clear hd h3
        go_wp2_with (go_at_call 119; refine (find1 _ _ _ _).mono ?_; rintro e w2 ⟨rfl, hb2⟩; rw [H3.out]; have HW2 := Aside0.mk (below_then HW.out HW.out.size hb2); clear hb2)
        go_round
        case rel =>
          refine ⟨m + 1, b, by omega, hbn, by go_num, rfl, ⟨?_⟩, HW2⟩
          rw [← HB.out]
          conv => rhs; rw [bs_eq]
          rw [if_pos HLT.out, ← HM.out, ← HXX.out, if_pos HD.out]
        case measure => simp [intOf]; omega
      · have h3 : ¬ cmp3 x k < 0 := by unfold cmp3; split <;> (try split) <;> omega
        have d3 : decide (cmp3 x k < 0) = false := decide_eq_false h3
        have HD := Aside0.mk hd
        clear hd h3
        generalize hcm : cmp3 x k = cm at d3
        have HCM := Aside0.mk hcm
        clear hcm
        go_wp2_with (go_at_call 119; refine (find1 _ _ _ _).mono ?_; rintro e w2 ⟨rfl, hb2⟩; rw [HCM.out]; have HW2 := Aside0.mk (below_then HW.out HW.out.size hb2); clear hb2)
        go_round
        case rel =>
          refine ⟨a, m, by omega, by omega, rfl, rfl, ⟨?_⟩, HW2⟩
          rw [← HB.out]
          conv => rhs; rw [bs_eq]
          rw [if_pos HLT.out, ← HM.out, ← HXX.out, if_neg (by have := HD.out; omega)]
        case measure => simp [intOf]; omega
    · have d1 : decide ((a : Int) < (b : Int)) = false := decide_eq_false (by omega)
      have d2 : decide (a < b) = false := decide_eq_false hlt
      have hb := HB.out
      rw [bs_eq, if_neg hlt] at hb
      by_cases han : a < n
      · have d3 : decide ((a : Int) < (n : Int)) = true := decide_eq_true (by omega)
        have d4 : decide (a < n) = true := decide_eq_true han
        have b0 : (0 : Int) ≤ (a : Int) := by omega
        have b1 : (a : Int) < (n : Int) := by omega
        obtain ⟨ad, rfl, hc1, hc2⟩ := at_pair HR.out (a : Int) b0 b1
        rw [Int.toNat_natCast] at hc1 hc2
        have hx := ksOf_get xs a
        rw [hx] at hc1
        have HBB := Aside0.mk hb
        have hfd : bfound (ksOf xs) k = ((ksOf xs).getD a 0 == k) := by
          unfold bfound
          rw [hnl.out, ← hb, decide_eq_true han]
          rfl
        have HF := Aside0.mk hfd
        clear hb hfd HB hlt hx
        generalize (xs.getD a (0, 0)).2 = vv at hc2
        obtain ⟨x, hx⟩ : ∃ x, x = (ksOf xs).getD a 0 := ⟨_, rfl⟩
        rw [← hx] at hc1
        have HXX := Aside0.mk hx
        have HE : Aside0 ((cmp3 x k == 0) = (x == k)) := ⟨by rw [Bool.eq_iff_iff]; unfold cmp3; simp only [beq_iff_eq]; split <;> (try split) <;> omega⟩
        clear hx
        cases hd : x == k with
        | true =>
          have d5 : (cmp3 x k == 0) = true := HE.out.trans hd
          generalize hcm : cmp3 x k = cm at d5
          have HCM := Aside0.mk hcm
          have HDD := Aside0.mk hd
          clear hcm hd
          go_wp2_with (go_at_call 119; refine (find1 _ _ _ _).mono ?_; rintro e w2 ⟨rfl, hb2⟩; rw [HCM.out]; have HW2 := Aside0.mk (below_then HW.out HW.out.size hb2); clear hb2)
          go_ret2
          refine ⟨?_, HW2.out⟩
          rw [HF.out, ← HXX.out, HDD.out, HBB.out]; rfl
        | false =>
          have d5 : (cmp3 x k == 0) = false := HE.out.trans hd
          generalize hcm : cmp3 x k = cm at d5
          have HCM := Aside0.mk hcm
          have HDD := Aside0.mk hd
          clear hcm hd
          go_wp2_with (go_at_call 119; refine (find1 _ _ _ _).mono ?_; rintro e w2 ⟨rfl, hb2⟩; rw [HCM.out]; have HW2 := Aside0.mk (below_then HW.out HW.out.size hb2); clear hb2)
          go_ret2
          refine ⟨?_, HW2.out⟩
          rw [HF.out, ← HXX.out, HDD.out, HBB.out]; rfl
      · have d3 : decide ((a : Int) < (n : Int)) = false := decide_eq_false (by omega)
        have d4 : decide (a < n) = false := decide_eq_false han
        have HBB := Aside0.mk hb
        have hfd : bfound (ksOf xs) k = false := by
          unfold bfound
          rw [hnl.out, ← hb, decide_eq_false han]
          rfl
        have HF := Aside0.mk hfd
        clear hb hfd HB hlt
        go_wp2_with fail
        go_ret2
        refine ⟨?_, HW.out⟩
        rw [HF.out, HBB.out]; rfl
set_option maxHeartbeats 2000000 in
set_option maxRecDepth 100000 in
theorem leaf_find (A : Option Addr) (n c : Nat) (xs : List (Int × Int)) (k : Int) (w : World) (hr : kPair.C w A n xs) (hl : n < 1000000) :
    Calls Tryz.prog 99 #[.slice A n c, .int .i64 k] w fun e w1 => e = .returned (.tuple #[.int .i64 (bs (ksOf xs) k 0 n : Nat), .bool (bfound (ksOf xs) k)]) ∧ Below w.heap.size w w1 := by
  have HR := Aside0.mk hr
  clear hr
  go_enter Tryz.func99, Tryz.ntmps99
  go_wp2_with (go_at_call 118; refine (bsearchF _ _ _ xs _ _ HR.out hl).mono ?_; rintro e w2 ⟨rfl, hb2⟩; have HW2 := Aside0.mk hb2; clear hb2)
  go_ret2
  exact ⟨rfl, HW2.out⟩
/-- A key's value. -/
def getOf (xs : List (Int × Int)) (k : Int) : Int × Bool := if bfound (ksOf xs) k = true then ((xs.getD (bs (ksOf xs) k 0 xs.length) (0, 0)).2, true) else (0, false)
set_option maxHeartbeats 2000000 in
set_option maxRecDepth 100000 in
theorem leaf_get (A : Option Addr) (n c : Nat) (xs : List (Int × Int)) (k : Int) (w : World) (hr : kPair.C w A n xs) (hl : n < 1000000) :
    Calls Tryz.prog 76 #[.slice A n c, .int .i64 k] w fun e w1 => e = .returned (.tuple #[.int .i64 (getOf xs k).1, .bool (getOf xs k).2]) ∧ Below w.heap.size w w1 := by
  have HR := Aside0.mk hr
  have HL := Aside0.mk (leaf_find A n c xs k w hr hl)
  have hn := hr.1
  cases hf : bfound (ksOf xs) k with
  | false =>
    have HF := Aside0.mk hf
    have e1 : getOf xs k = (0, false) := by unfold getOf; rw [hf]; rfl
    rw [e1]
    clear hr hf hn e1
    go_enter Tryz.func76, Tryz.ntmps76
    go_wp2_with (go_at_call 99; refine HL.out.mono ?_; rintro e w2 ⟨rfl, hb2⟩; rw [HF.out]; have HW2 := Aside0.mk hb2; clear hb2)
    go_ret2
    exact ⟨rfl, HW2.out⟩
  | true =>
    have HF := Aside0.mk hf
    have e1 : getOf xs k = ((xs.getD (bs (ksOf xs) k 0 xs.length) (0, 0)).2, true) := by unfold getOf; rw [hf]; rfl
    rw [e1]
    have hlt : bs (ksOf xs) k 0 n < n := by
      unfold bfound at hf
      rw [Bool.and_eq_true] at hf
      have h1 := of_decide_eq_true hf.1
      rwa [show (ksOf xs).length = n by simp [ksOf, hn]] at h1
    rw [hn]
    clear e1 hf
    generalize bs (ksOf xs) k 0 n = q at HL hlt ⊢
    have HLT := Aside0.mk hlt
    have b0 : (0 : Int) ≤ (q : Int) := by omega
    have b1 : (q : Int) < (n : Int) := by omega
    obtain ⟨ad, rfl, _, _⟩ := at_pair HR.out (q : Int) b0 b1
    generalize hv : (xs.getD q (0, 0)).2 = v
    have HV := Aside0.mk hv
    clear hr hn hlt hv
    go_enter Tryz.func76, Tryz.ntmps76
    go_upto_region 4 with (go_at_call 99; refine HL.out.mono ?_; rintro e w2 ⟨rfl, hb2⟩; rw [HF.out]; have HW2 := Aside0.mk hb2; clear hb2)
    obtain ⟨ad2, e2, hc1, hc2⟩ := at_pair (Kd.C_below HR.out HW2.out) (q : Int) b0 b1
    injection e2 with e2
    subst e2
    rw [Int.toNat_natCast] at hc1 hc2
    rw [HV.out] at hc2
    clear hc1
    go_wp2_with fail
    go_ret2
    exact ⟨rfl, HW2.out⟩
end Go.Proofs.YthlmgbdknjilpaaGreat.Tower
namespace Go.Proofs.YthlmgbdknjilpaaGreat.Tower
open Go Go.RowKit Go.Proofs.YthlmgbdknjilpaaGreatW.PrintWords Go.Proofs.YthlmgbdknjilpaaGreatW.PrintLast Go.Proofs.YthlmgbdknjilpaaGreatW.PrintMore Go.Proofs.YthlmgbdknjilpaaGreat.Own
set_option linter.unusedVariables false
set_option linter.unusedSimpArgs false

/-- An operation; an answer. -/
structure Opn where
  kind : Int
  key : Int
  upto : Int
  value : Int
structure Ans where
  err : Int
  found : Bool
  key : Int
  value : Int
  pairs : List (Int × Int)
  short : Bool
def opV (o : Opn) : Value := .agg #[.int .u8 o.kind, .int .i64 o.key, .int .i64 o.upto, .int .i64 o.value]
def VAns (a : Ans) (ok : Nat → Prop) (v : Value) (w : World) : Prop := ∃ A c, v = .agg #[.int .i64 a.err, .bool a.found, .int .i64 a.key, .int .i64 a.value, .slice A a.pairs.length c, .bool a.short] ∧ a.pairs.length ≤ c ∧ kPair.F w (fun k => ¬ ok k) A a.pairs.length a.pairs
/-- The steps of a way are small, and few. -/
theorem pathT_small (key : Int) : ∀ (f : Nat) (r : Int) (acc : List Stp) (s : TS Ws) (l : List Stp) (t : TS Ws), s.sh.Good → (∀ q ∈ acc, q.node.Small) → pathT key f r acc s = some (.ret l, t) → (∀ q ∈ l, q.node.Small) ∧ l.length ≤ acc.length + f
  | 0, r, acc, s, l, t, _, _, h => by cases h
  | f + 1, r, acc, s, l, t, hg, ha, h => by
    have hs := hg.ar.look_small r
    have hg1 : Ws.Good { s.sh with ar := (s.sh.ar.look r).2 } := ⟨hg.ar.look r, hg.ep, hg.tb⟩
    have hall : ∀ wy, ∀ q ∈ acc ++ [(⟨r, (s.sh.ar.look r).1, wy⟩ : Stp)], q.node.Small := fun wy q hq => by
      rcases List.mem_append.1 hq with hq | hq
      · exact ha q hq
      · rw [List.mem_singleton.1 hq]
        exact hs
    unfold pathT prBind lookT at h
    simp only at h
    split at h
    · injection h with h
      injection h with h1 h2
      injection h1 with h1
      subst h1
      exact ⟨hall _, by simp⟩
    · obtain ⟨o, t1, hm, hc⟩ := prBind_some h
      rcases hc with ⟨_, hc⟩ | ⟨a, rfl, hc⟩
      · injection hc with hc _; cases hc
      have hg2 : t1.sh.Good := by
        unfold wayT doT at hm
        split at hm
        · injection hm with hm; injection hm with _ hm; rw [← hm]; exact hg1
        · split at hm
          · injection hm with hm; injection hm with hm _; cases hm
          · split at hm
            · cases hm
            · injection hm with hm; injection hm with _ hm; rw [← hm]; exact ⟨hg1.ar.way _ _, hg1.ep, hg1.tb⟩
      split at hc
      · injection hc with hc
        injection hc with h1 h2
        injection h1 with h1
        subst h1
        exact ⟨hall _, by simp⟩
      · have := pathT_small key f _ _ t1 l t hg2 (hall _) hc
        refine ⟨this.1, ?_⟩
        have h2 := this.2
        simp at h2
        omega
theorem IsRun.good {p tb : Nat} {work : Value} {ok : Nat → Prop} {s : TS Ws} {w : World} (h : IsRun (shW p) tb work ok s w) : s.sh.Good := by
  obtain ⟨_, _, ⟨_, hg⟩, _⟩ := h.direct
  exact hg
theorem kStp_cellsC {w : World} {s : Stp} {c : List Value} (h : kStp.K w s c) : ∃ Ap cp Ak ck Ay cy, c = [.int .i64 s.ref, .bool s.node.inner, .bool s.node.tagged, .slice Ap s.node.pairs.length cp, .slice Ak s.node.keys.length ck, .slice Ay s.node.ways.length cy, .int .i64 s.way] ∧ kPair.C w Ap s.node.pairs.length s.node.pairs := by
  obtain ⟨_, _, rfl, rfl, _, _, rfl, ⟨_, _, rfl, rfl, _, _, rfl, rfl, _, _, rfl, ⟨Ap, cp, rfl, _, hC⟩, _, _, rfl, ⟨Ak, ck, rfl, _⟩, ⟨Ay, cy, rfl, _⟩⟩, rfl⟩ := h
  exact ⟨Ap, cp, Ak, ck, Ay, cy, rfl, hC⟩
/-- One key asked for. -/
def getT (key : Int) (f : Nat) : Pr Ws Ans := prBind (leafT key f) fun q => prRet ⟨0, (getOf q.2.node.pairs key).2, 0, (getOf q.2.node.pairs key).1, [], false⟩
theorem leafT_small {key : Int} {f : Nat} {s t : TS Ws} {q : Stp × Stp} (hg : s.sh.Good) (h : leafT key f s = some (.ret q, t)) : q.1.node.Small ∧ q.2.node.Small := by
  obtain ⟨o, t1, hm, hc⟩ := prBind_some h
  rcases hc with ⟨_, hc⟩ | ⟨l, rfl, hc⟩
  · injection hc with hc _; cases hc
  have hs := (pathT_small key f _ [] s l t1 hg (by simp) hm).1
  by_cases h2 : l.length < 2
  · rw [if_pos h2] at hc; cases hc
  rw [if_neg h2] at hc
  injection hc with hc
  injection hc with hc _
  injection hc with hc
  subst hc
  have hget : ∀ i, i < l.length → (l.getD i stp0).node.Small := fun i hi => by
    rw [List.getD_eq_getElem?_getD, List.getElem?_eq_getElem hi]
    exact hs _ (List.getElem_mem hi)
  exact ⟨hget _ (by omega), hget _ (by omega)⟩
set_option maxHeartbeats 2000000 in
set_option maxRecDepth 100000 in
theorem span_get (key upto value : Int) (w : World) : Calls Tryz.prog 72 #[.agg #[.int .u8 0, .int .i64 key, .int .i64 upto, .int .i64 value]] w fun e w1 => e = .returned (.tuple #[.int .i64 0, .int .i64 0, .bool false]) ∧ Below w.heap.size w w1 := by
  have HB := Aside0.mk (below_alloc (Below.refl w.heap.size w) (.cells #[.int .u8 0, .int .i64 key, .int .i64 upto, .int .i64 value] 38))
  have hbx := blk_new w (.cells #[.int .u8 0, .int .i64 key, .int .i64 upto, .int .i64 value] 38)
  go_enter Tryz.func72, Tryz.ntmps72
  go_wp2_with fail
  go_ret3
  exact ⟨rfl, HB.out⟩
set_option maxHeartbeats 4000000 in
set_option maxRecDepth 100000 in
theorem do_get (p tb : Nat) (work : Value) (me : Int) (ok : Nat → Prop) (s : TS Ws) (w : World) (key upto value : Int) (h : IsRun (shW p) tb work ok s w) (f : Nat) (hf : f < 900000) (res : Out Ans × TS Ws) (hr : getT key f s = some res) :
    Calls Tryz.prog 41 #[taskV tb p me, .agg #[.int .u8 0, .int .i64 key, .int .i64 upto, .int .i64 value]] w (TPost (shW p) tb work VAns ok w res) := by
  obtain ⟨o, t, hd, hcase⟩ := prBind_some hr
  have HG := Aside0.mk h.good
  have HT := Aside0.mk (((TaskAt.enter (me := me) h).alloc (.cells #[.int .u8 0, .int .i64 key, .int .i64 upto, .int .i64 value] 38)).alloc (.cells #[.int .i64 0, .bool false, .int .i64 0, .int .i64 0, .slice none 0 0, .bool false] 26))
  have HB3 := Aside0.mk ((Mine.new (TaskAt.enter (p := p) (tb := tb) (me := me) h).lt (.cells #[.int .u8 0, .int .i64 key, .int .i64 upto, .int .i64 value] 38)).alloc (.cells #[.int .i64 0, .bool false, .int .i64 0, .int .i64 0, .slice none 0 0, .bool false] 26))
  have HB4 := Aside0.mk (Mine.new ((TaskAt.enter (me := me) h).alloc (.cells #[.int .u8 0, .int .i64 key, .int .i64 upto, .int .i64 value] 38)).lt (.cells #[.int .i64 0, .bool false, .int .i64 0, .int .i64 0, .slice none 0 0, .bool false] 26))
  have HD := Aside0.mk hd
  have HCS := Aside0.mk hcase
  have HTV : taskV tb p me = .agg #[.pointer (some ⟨tb, 0, none⟩), .pointer (some ⟨p, 0, none⟩), .int .i64 me] := rfl
  rw [HTV]
  unfold taskO at HT HB3 HB4
  simp only [World.size_alloc] at HB3 HB4
  clear h hr hd hcase HTV
  go_enter Tryz.func41, Tryz.ntmps41
  go_upto_region 1 with fail
  generalize ((w.alloc (.cells #[.pointer (some ⟨tb, 0, none⟩), .pointer (some ⟨p, 0, none⟩), .int .i64 me] 84)).alloc (.cells #[.int .u8 0, .int .i64 key, .int .i64 upto, .int .i64 value] 38)).alloc (.cells #[.int .i64 0, .bool false, .int .i64 0, .int .i64 0, .slice none 0 0, .bool false] 26) = w3 at HT HB3 HB4 ⊢
  generalize hbb : w.heap.size = bt at HT HB3 HB4 ⊢
  have HWB : Aside0 (w.heap.size = bt) := ⟨hbb⟩
  clear hbb
  generalize hb3 : bt + 1 = b3 at HB3 HB4 ⊢
  generalize hb4 : b3 + 1 = b4 at HB4 ⊢
  have HW4 : Aside0 (w.heap.size ≤ b4) := ⟨by have := HWB.out; omega⟩
  have HT4 : Aside0 (b4 ≠ bt) := ⟨by omega⟩
  clear hb3 hb4
  have k0 := (blk_cell HB3.out.1 0).trans (rfl : _ = some (Value.int .u8 0))
  have k1 := (blk_cell HB3.out.1 1).trans (rfl : _ = some (Value.int .i64 key))
  have k2 := (blk_cell HB3.out.1 2).trans (rfl : _ = some (Value.int .i64 upto))
  have k3 := (blk_cell HB3.out.1 3).trans (rfl : _ = some (Value.int .i64 value))
  go_upto_region 7 with (go_at_call 72; refine (span_get key upto value _).mono ?_; rintro e w4 ⟨rfl, hb4⟩; have HT := Aside0.mk (HT.out.below hb4); have HB3 := Aside0.mk (HB3.out.moves (Moves.of_below _ hb4)); have HB4 := Aside0.mk (HB4.out.moves (Moves.of_below _ hb4)); clear hb4 k0 k1 k2 k3)
  have k0 := (blk_cell HB3.out.1 0).trans (rfl : _ = some (Value.int .u8 0))
  have k1 := (blk_cell HB3.out.1 1).trans (rfl : _ = some (Value.int .i64 key))
  have c0 := HT.out.c0
  have c1 := HT.out.c1
  have c2 := HT.out.c2
  go_upto_region 10 with (go_at_call 75; refine (leaf_calls p tb work me key ok s _ HT.out.run f hf (o, t) HD.out (fun l t h => by have := (pathT_small key f _ _ _ _ _ HG.out (by simp) h).2; simp at this; omega)).mono ?_; rintro e w5 ⟨ok1, hm, hi, hres⟩; rcases HCS.out with hw | hw; (obtain ⟨rfl, rfl⟩ := hw; obtain rfl : e = .panicked waitP := hres; exact ⟨rfl, ⟨⟨ok1, HT.out.moves.trans hm, hi, rfl⟩⟩⟩); obtain ⟨q, rfl, hr2⟩ := hw; obtain ⟨v, rfl, cs, ds, rfl, hf1, hf2⟩ := hres; obtain ⟨Ap1, cp1, Ak1, ck1, Ay1, cy1, rfl⟩ := kStp_cells (Kd.FK_now hf1); obtain ⟨Ap2, cp2, Ak2, ck2, Ay2, cy2, rfl, hC2⟩ := kStp_cellsC (Kd.FK_now hf2); have HC2 := Aside0.mk hC2; have HT2 := Aside0.mk (HT.out.next hm hi); have HB3 := Aside0.mk (HB3.out.moves hm); have HB4 := Aside0.mk (HB4.out.moves hm); have HR2 := Aside0.mk hr2; clear hm hi hf1 hf2 hr2 hC2 c0 c1 c2 k0 k1)
  have HSM := Aside0.mk (leafT_small HG.out HD.out).2.pairs
  have B6 := below_then (below_alloc (Below.refl w5.heap.size w5) (.cells #[.int .i64 q.fst.ref, .bool q.fst.node.inner, .bool q.fst.node.tagged, .slice Ap1 q.fst.node.pairs.length cp1, .slice Ak1 q.fst.node.keys.length ck1, .slice Ay1 q.fst.node.ways.length cy1, .int .i64 q.fst.way] 134)) (by simp) (below_alloc (Below.refl (w5.alloc (.cells #[.int .i64 q.fst.ref, .bool q.fst.node.inner, .bool q.fst.node.tagged, .slice Ap1 q.fst.node.pairs.length cp1, .slice Ak1 q.fst.node.keys.length ck1, .slice Ay1 q.fst.node.ways.length cy1, .int .i64 q.fst.way] 134)).heap.size (w5.alloc (.cells #[.int .i64 q.fst.ref, .bool q.fst.node.inner, .bool q.fst.node.tagged, .slice Ap1 q.fst.node.pairs.length cp1, .slice Ak1 q.fst.node.keys.length ck1, .slice Ay1 q.fst.node.ways.length cy1, .int .i64 q.fst.way] 134))) (.cells #[.int .i64 q.snd.ref, .bool q.snd.node.inner, .bool q.snd.node.tagged, .slice Ap2 q.snd.node.pairs.length cp2, .slice Ak2 q.snd.node.keys.length ck2, .slice Ay2 q.snd.node.ways.length cy2, .int .i64 q.snd.way] 134))
  have HB3 := Aside0.mk (HB3.out.moves (Moves.of_below _ B6))
  have HB4 := Aside0.mk (HB4.out.moves (Moves.of_below _ B6))
  have HT2 := Aside0.mk (HT2.out.below B6)
  have HC2 := Aside0.mk (Kd.C_below HC2.out B6)
  have HX := blk_new (w5.alloc (.cells #[.int .i64 q.fst.ref, .bool q.fst.node.inner, .bool q.fst.node.tagged, .slice Ap1 q.fst.node.pairs.length cp1, .slice Ak1 q.fst.node.keys.length ck1, .slice Ay1 q.fst.node.ways.length cy1, .int .i64 q.fst.way] 134)) (.cells #[.int .i64 q.snd.ref, .bool q.snd.node.inner, .bool q.snd.node.tagged, .slice Ap2 q.snd.node.pairs.length cp2, .slice Ak2 q.snd.node.keys.length ck2, .slice Ay2 q.snd.node.ways.length cy2, .int .i64 q.snd.way] 134)
  simp only [World.size_alloc] at HX
  have l3 := (blk_cell HX 3).trans (rfl : _ = some (Value.slice Ap2 q.snd.node.pairs.length cp2))
  have k1 := (blk_cell HB3.out.1 1).trans (rfl : _ = some (Value.int .i64 key))
  clear HX B6
  generalize (w5.alloc (.cells #[.int .i64 q.fst.ref, .bool q.fst.node.inner, .bool q.fst.node.tagged, .slice Ap1 q.fst.node.pairs.length cp1, .slice Ak1 q.fst.node.keys.length ck1, .slice Ay1 q.fst.node.ways.length cy1, .int .i64 q.fst.way] 134)).alloc (.cells #[.int .i64 q.snd.ref, .bool q.snd.node.inner, .bool q.snd.node.tagged, .slice Ap2 q.snd.node.pairs.length cp2, .slice Ak2 q.snd.node.keys.length ck2, .slice Ay2 q.snd.node.ways.length cy2, .int .i64 q.snd.way] 134) = w6 at HB3 HB4 HT2 HC2 l3 k1 ⊢
  generalize hgo : getOf q.2.node.pairs key = go
  have HGO := Aside0.mk hgo
  clear hgo
  go_upto_region 11 with (go_at_call 76; refine (leaf_get Ap2 _ cp2 q.2.node.pairs key _ HC2.out HSM.out).mono ?_; rintro e w7 ⟨rfl, hb7⟩; rw [HGO.out]; have HT3 := Aside0.mk (HT2.out.below hb7); have HB5 := Aside0.mk (HB4.out.moves (Moves.of_below _ hb7)); clear hb7 k1 l3)
  have e0 := (blk_cell HB5.out.1 0).trans (rfl : _ = some (Value.int .i64 0))
  have e1 := (blk_cell HB5.out.1 1).trans (rfl : _ = some (Value.bool false))
  have e2 := (blk_cell HB5.out.1 2).trans (rfl : _ = some (Value.int .i64 0))
  have e3 := (blk_cell HB5.out.1 3).trans (rfl : _ = some (Value.int .i64 0))
  have e4 := (blk_cell HB5.out.1 4).trans (rfl : _ = some (Value.slice none 0 0))
  have e5 := (blk_cell HB5.out.1 5).trans (rfl : _ = some (Value.bool false))
  have z0 := blk_frozen HB5.out.1 0
  have z1 := blk_frozen HB5.out.1 1
  have z2 := blk_frozen HB5.out.1 2
  have z3 := blk_frozen HB5.out.1 3
  have z4 := blk_frozen HB5.out.1 4
  have z5 := blk_frozen HB5.out.1 5
  go_wp2_with fail
  have HT6 := Aside0.mk ((((((HT3.out.set (q := ⟨b4, 0, none⟩) HB5.out.2 HW4.out HT4.out (.int .i64 0)).set (q := ⟨b4, 1, none⟩) HB5.out.2 HW4.out HT4.out (.bool go.2)).set (q := ⟨b4, 2, none⟩) HB5.out.2 HW4.out HT4.out (.int .i64 0)).set (q := ⟨b4, 3, none⟩) HB5.out.2 HW4.out HT4.out (.int .i64 go.1)).set (q := ⟨b4, 4, none⟩) HB5.out.2 HW4.out HT4.out (.slice none 0 0)).set (q := ⟨b4, 5, none⟩) HB5.out.2 HW4.out HT4.out (.bool false))
  have HB6 : Aside0 (Mine ok1 ((((((w7.setCell ⟨b4, 0, none⟩ (.int .i64 0)).setCell ⟨b4, 1, none⟩ (.bool go.2)).setCell ⟨b4, 2, none⟩ (.int .i64 0)).setCell ⟨b4, 3, none⟩ (.int .i64 go.1)).setCell ⟨b4, 4, none⟩ (.slice none 0 0)).setCell ⟨b4, 5, none⟩ (.bool false)) b4 (.cells #[.int .i64 0, .bool go.2, .int .i64 0, .int .i64 go.1, .slice none 0 0, .bool false] 26 (0, 0))) := ⟨(Mine.set (Mine.set (Mine.set (Mine.set (Mine.set (Mine.set HB5.out 0 (.int .i64 0)) 1 (.bool go.2)) 2 (.int .i64 0)) 3 (.int .i64 go.1)) 4 (.slice none 0 0)) 5 (.bool false))⟩
  clear e0 e1 e2 e3 e4 e5 z0 z1 z2 z3 z4 z5 HT3 HB5
  generalize ((((((w7.setCell ⟨b4, 0, none⟩ (.int .i64 0)).setCell ⟨b4, 1, none⟩ (.bool go.2)).setCell ⟨b4, 2, none⟩ (.int .i64 0)).setCell ⟨b4, 3, none⟩ (.int .i64 go.1)).setCell ⟨b4, 4, none⟩ (.slice none 0 0)).setCell ⟨b4, 5, none⟩ (.bool false)) = w8 at HT6 HB6 ⊢
  (try simp only [Exit.inBlock, Exit.then])
  refine bodyPost_ret (results_cell_row rfl _ _ b4 26 _ (0, 0) _ rfl HB6.out.1 Tryz.underlying26 rfl (by kernel_rfl)) rfl ?_
  have hh := HR2.out
  rw [HGO.out] at hh
  injection hh with hh
  subst hh
  exact ⟨⟨ok1, HT6.out.moves, HT6.out.run, _, rfl, none, 0, rfl, Nat.le_refl _, Kd.F_nil _ _ _⟩⟩
end Go.Proofs.YthlmgbdknjilpaaGreat.Tower
namespace Go.Proofs.YthlmgbdknjilpaaGreat.Tower
open Go Go.RowKit Go.Proofs.YthlmgbdknjilpaaGreatW.PrintWords Go.Proofs.YthlmgbdknjilpaaGreatW.PrintLast Go.Proofs.YthlmgbdknjilpaaGreatW.PrintMore Go.Proofs.YthlmgbdknjilpaaGreat.Own Go.Proofs.YthlmgbdknjilpaaGreat.PAskCodes
set_option linter.unusedVariables false
set_option linter.unusedSimpArgs false

/-- An answer as numbers. -/
def codeOf (a : Ans) : List Int := [a.err, b01 a.found, a.key, a.value, b01 a.short] ++ a.pairs.flatMap fun q => [q.1, q.2]
theorem code_l0 (xs : List S31) (hl : xs.length < 1000000) : ∀ (k i : Nat) (x3 : List Int), i ≤ xs.length → xs.length - i < k → x3.length + 2 * (xs.length - i) < 17592186044416 → ask_Code.l0 k x3 xs (xs.length : Int) (i : Int) = some (x3 ++ (xs.drop i).flatMap fun q => [q.f0, q.f1])
  | 0, i, x3, h1, h2, h3 => by omega
  | k + 1, i, x3, h1, h2, h3 => by
    unfold ask_Code.l0
    by_cases hlt : i < xs.length
    · rw [if_pos (by omega), if_pos (by omega), if_pos (by omega)]
      simp only [Option.bind_some]
      rw [if_pos (by simp; omega)]
      have hw : wrap64 ((i : Int) + 1) = ((i + 1 : Nat) : Int) := by unfold wrap64; omega
      rw [hw, code_l0 xs hl k (i + 1) _ (by omega) (by omega) (by simp; omega), List.drop_eq_getElem_cons hlt]
      have hg : rd_T31 xs (i : Int) = xs[i] := by simp [rd_T31, List.getD_eq_getElem?_getD, hlt]
      rw [hg, List.flatMap_cons, List.append_assoc]
    · rw [if_neg (by omega)]
      rw [List.drop_of_length_le (by omega)]
      simp
theorem bit_f (b : Bool) : ask_bit.f b = some (b01 b) := by cases b <;> rfl
def toS (q : Int × Int) : S31 := ⟨q.1, q.2⟩
theorem code_f (a : Ans) (hl : a.pairs.length < 1000000) : ask_Code.f 1000001 a.err a.found a.key a.value (a.pairs.map toS) a.short = some (codeOf a) := by
  unfold ask_Code.f
  rw [bit_f, bit_f]
  simp only [Option.bind_some]
  have h := code_l0 (a.pairs.map toS) (by simpa using hl) 1000001 0 [a.err, b01 a.found, a.key, a.value, b01 a.short] (Nat.zero_le _) (by simp; omega) (by simp; omega)
  rw [Int.natCast_zero] at h
  rw [h, List.drop_zero]
  simp [codeOf, List.flatMap_map, toS]
theorem pairs_C {w : World} {A : Option Addr} {n : Nat} {xs : List (Int × Int)} (h : kPair.C w A n xs) : Kd.C k31 w A n (xs.map toS) := by
  refine ⟨by rw [List.length_map]; exact h.1, h.2.1, fun hp => ?_⟩
  obtain ⟨ad, e, hc⟩ := h.2.2 hp
  refine ⟨ad, e, fun j q hq => ?_⟩
  rw [List.getElem?_map] at hq
  cases hx : xs[j]? with
  | none => rw [hx] at hq; cases hq
  | some x =>
    rw [hx] at hq
    injection hq with hq
    subst hq
    exact hc j x hx
theorem code_calls (a : Ans) (A : Option Addr) (c : Nat) (w : World) (hC : kPair.C w A a.pairs.length a.pairs) (hc : a.pairs.length ≤ c) (hl : a.pairs.length < 1000000) :
    Calls Tryz.prog 10 #[.agg #[.int .i64 a.err, .bool a.found, .int .i64 a.key, .int .i64 a.value, .slice A a.pairs.length c, .bool a.short]] w fun e w' => ∃ v, e = .returned v ∧ (Kd.int .i64).R 2 w' w.heap.size (fun _ => True) v (codeOf a) ∧ Below w.heap.size w w' := by
  have h := ask_Code.calls 1000001 a.err a.found a.key a.value A c (a.pairs.map toS) a.short (codeOf a) w (by rw [List.length_map]; exact pairs_C hC) (by rw [List.length_map]; exact hc) (code_f a hl)
  rw [List.length_map] at h
  exact h
end Go.Proofs.YthlmgbdknjilpaaGreat.Tower
namespace Go.Proofs.YthlmgbdknjilpaaGreat.Tower
open Go Go.RowKit Go.Proofs.YthlmgbdknjilpaaGreatW.PrintWords Go.Proofs.YthlmgbdknjilpaaGreatW.PrintLast Go.Proofs.YthlmgbdknjilpaaGreatW.PrintMore Go.Proofs.YthlmgbdknjilpaaGreat.Own
set_option linter.unusedVariables false
set_option linter.unusedSimpArgs false

/-- An operation: Begin, what is done, End; the answer as numbers. -/
def askNT (me : Int) (f : Nat) (dT : Pr Ws Ans) : Pr Ws (List Int) := prBind (beginT me f) fun _ => prBind dT fun a => prBind (endT me) fun _ => prRet (codeOf a)
/-- What the closure captures. -/
structure AskBx (p : Nat) (me : Int) (o : Opn) (bw bm bo : Nat) (ok : Nat → Prop) (w : World) : Prop where
  hw : Mine ok w bw (.cells #[.pointer (some ⟨p, 0, none⟩)] 39 (0, 0))
  hm : Mine ok w bm (.cells #[.int .i64 me] 3 (0, 0))
  ho : Mine ok w bo (.cells #[.int .u8 o.kind, .int .i64 o.key, .int .i64 o.upto, .int .i64 o.value] 38 (0, 0))
theorem AskBx.moves {p : Nat} {me : Int} {o : Opn} {bw bm bo : Nat} (ok ok1 : Nat → Prop) (w w1 : World) (h : AskBx p me o bw bm bo ok w) (m : Moves ok ok1 w w1) : AskBx p me o bw bm bo ok1 w1 := ⟨h.hw.moves m, h.hm.moves m, h.ho.moves m⟩
def askWork (bw bm bo : Nat) : Value := .func (.func 39) #[] #[.pointer (some ⟨bw, 0, none⟩), .pointer (some ⟨bm, 0, none⟩), .pointer (some ⟨bo, 0, none⟩)]
set_option maxHeartbeats 4000000 in
set_option maxRecDepth 100000 in
theorem asknew1_calls (p tb : Nat) (work : Value) (me : Int) (o : Opn) (bw bm bo : Nat) (ok : Nat → Prop) (s : TS Ws) (w : World) (f : Nat) (dT : Pr Ws Ans) (h : IsRun (shW p) tb work ok s w) (hb : AskBx p me o bw bm bo ok w)
    (hdo : ∀ ok s w res, IsRun (shW p) tb work ok s w → dT s = some res → Calls Tryz.prog 41 #[taskV tb p me, opV o] w (TPost (shW p) tb work VAns ok w res))
    (hsm : ∀ s a t, dT s = some (.ret a, t) → a.pairs.length < 1000000)
    (res : Out (List Int) × TS Ws) (hr : askNT me f dT s = some res) :
    Calls Tryz.prog 39 #[.pointer (some ⟨tb, 0, none⟩), .pointer (some ⟨bw, 0, none⟩), .pointer (some ⟨bm, 0, none⟩), .pointer (some ⟨bo, 0, none⟩)] w (TPost (shW p) tb work (VNums w.heap.size) ok w res) := by
  obtain ⟨o1, t1, hd1, hc1⟩ := prBind_some hr
  have HT := Aside0.mk (TaskAt.enter (me := me) h)
  have HB := Aside0.mk (AskBx.moves _ _ _ _ hb ((Moves.refl ok w).alloc (taskO tb p me)))
  have HD1 := Aside0.mk hd1
  have HC1 := Aside0.mk hc1
  have HDO := Aside0.mk hdo
  have HSM := Aside0.mk hsm
  have m0 := (blk_cell hb.hw.1 0).trans (rfl : _ = some (Value.pointer (some ⟨p, 0, none⟩)))
  have m1 := (blk_cell hb.hm.1 0).trans (rfl : _ = some (Value.int .i64 me))
  have HWZ := Aside0.mk (Nat.le_refl w.heap.size)
  unfold taskO at HT HB
  clear h hb hr hd1 hc1 hdo hsm
  go_enter Tryz.func39, Tryz.ntmps39
  go_upto_region 4 with fail
  generalize w.alloc (.cells #[.pointer (some ⟨tb, 0, none⟩), .pointer (some ⟨p, 0, none⟩), .int .i64 me] 84) = w1 at HT HB ⊢
  generalize hbb : w.heap.size = bt at HT ⊢
  have c0 := HT.out.c0
  have c1 := HT.out.c1
  have c2 := HT.out.c2
  clear m0 m1 HWZ
  go_upto_region 5 with (go_at_call 40; refine (begin_calls p tb work me ok s _ f HT.out.run (o1, t1) HD1.out).mono ?_; rintro e w2 ⟨ok2, hm, hi, hres⟩; rcases HC1.out with hw | hw; (obtain ⟨rfl, rfl⟩ := hw; obtain rfl : e = .panicked waitP := hres; exact ⟨rfl, ⟨⟨ok2, HT.out.moves.trans hm, hi, rfl⟩⟩⟩); obtain ⟨u1, rfl, hr2⟩ := hw; obtain ⟨v, rfl, rfl⟩ := hres; have HT2 := Aside0.mk (HT.out.next hm hi); have HB2 := Aside0.mk (AskBx.moves _ _ _ _ HB.out hm); have HR2 := Aside0.mk hr2; clear hm hi hr2 c0 c1 c2)
  obtain ⟨o2, t2, hd2, hc2⟩ := prBind_some HR2.out
  have HD2 := Aside0.mk hd2
  have HC2 := Aside0.mk hc2
  clear hd2 hc2 HR2 HT HB HD1 HC1
  have c0 := HT2.out.c0
  have c1 := HT2.out.c1
  have c2 := HT2.out.c2
  have k0 := (blk_cell HB2.out.ho.1 0).trans (rfl : _ = some (Value.int .u8 o.kind))
  have k1 := (blk_cell HB2.out.ho.1 1).trans (rfl : _ = some (Value.int .i64 o.key))
  have k2 := (blk_cell HB2.out.ho.1 2).trans (rfl : _ = some (Value.int .i64 o.upto))
  have k3 := (blk_cell HB2.out.ho.1 3).trans (rfl : _ = some (Value.int .i64 o.value))
  go_upto_region 6 with (go_at_call 41; refine (HDO.out ok2 t1 _ (o2, t2) HT2.out.run HD2.out).mono ?_; rintro e w3 ⟨ok3, hm, hi, hres⟩; rcases HC2.out with hw | hw; (obtain ⟨rfl, rfl⟩ := hw; obtain rfl : e = .panicked waitP := hres; exact ⟨rfl, ⟨⟨ok3, HT2.out.moves.trans hm, hi, rfl⟩⟩⟩); obtain ⟨a, rfl, hr3⟩ := hw; obtain ⟨v, rfl, A, c, rfl, hcl, hF⟩ := hres; have HT3 := Aside0.mk (HT2.out.next hm hi); have HR3 := Aside0.mk hr3; have HCL := Aside0.mk hcl; have HF := Aside0.mk hF; clear hm hi hr3 hcl hF c0 c1 c2 k0 k1 k2 k3)
  obtain ⟨o3, t3, hd3, hc3⟩ := prBind_some HR3.out
  have HD3 := Aside0.mk hd3
  have HC3 := Aside0.mk hc3
  have HAL := Aside0.mk (HSM.out _ _ _ HD2.out)
  clear hd3 hc3 HR3 HB2 HD2 HC2 HDO HSM HT2
  have HBA := Aside0.mk (Mine.new HT3.out.lt (.cells #[.int .i64 a.err, .bool a.found, .int .i64 a.key, .int .i64 a.value, .slice A a.pairs.length c, .bool a.short] 26))
  have HT4 := Aside0.mk (HT3.out.alloc (.cells #[.int .i64 a.err, .bool a.found, .int .i64 a.key, .int .i64 a.value, .slice A a.pairs.length c, .bool a.short] 26))
  have HF4 := Aside0.mk (Kd.F_alloc (Kd.F_bound HF.out) (.cells #[.int .i64 a.err, .bool a.found, .int .i64 a.key, .int .i64 a.value, .slice A a.pairs.length c, .bool a.short] 26))
  clear HT3 HF
  generalize w3.alloc (.cells #[.int .i64 a.err, .bool a.found, .int .i64 a.key, .int .i64 a.value, .slice A a.pairs.length c, .bool a.short] 26) = w4 at HBA HT4 HF4 ⊢
  generalize w3.heap.size = b7 at HBA HF4 ⊢
  have c0 := HT4.out.c0
  have c1 := HT4.out.c1
  have c2 := HT4.out.c2
  go_upto_region 7 with (go_at_call 42; refine (end_calls p tb work me ok3 t2 _ HT4.out.run (o3, t3) HD3.out).mono ?_; rintro e w5 ⟨ok4, hm, hi, hres⟩; rcases HC3.out with hw | hw; (obtain ⟨rfl, rfl⟩ := hw; obtain rfl : e = .panicked waitP := hres; exact ⟨rfl, ⟨⟨ok4, HT4.out.moves.trans hm, hi, rfl⟩⟩⟩); obtain ⟨u3, rfl, hr4⟩ := hw; obtain ⟨v, rfl, rfl⟩ := hres; have HT5 := Aside0.mk (HT4.out.next hm hi); have HBA := Aside0.mk (HBA.out.moves hm); have HF5 := Aside0.mk (F_moves (Kd.F_mono HF4.out (fun _ hk => hk.1)) hm); have HR4 := Aside0.mk hr4; clear hm hi hr4 c0 c1 c2)
  have a0 := (blk_cell HBA.out.1 0).trans (rfl : _ = some (Value.int .i64 a.err))
  have a1 := (blk_cell HBA.out.1 1).trans (rfl : _ = some (Value.bool a.found))
  have a2 := (blk_cell HBA.out.1 2).trans (rfl : _ = some (Value.int .i64 a.key))
  have a3 := (blk_cell HBA.out.1 3).trans (rfl : _ = some (Value.int .i64 a.value))
  have a4 := (blk_cell HBA.out.1 4).trans (rfl : _ = some (Value.slice A a.pairs.length c))
  have a5 := (blk_cell HBA.out.1 5).trans (rfl : _ = some (Value.bool a.short))
  go_wp2_with (go_at_call 10; refine (code_calls a A c _ (Kd.F_now HF5.out) HCL.out HAL.out).mono ?_; rintro e w6 ⟨v, rfl, hv, hb6⟩; have V6 := Aside0.mk hv; have B6 := Aside0.mk hb6; clear hv hb6)
  go_ret
  have hh := HR4.out
  injection hh with hh
  subst hh
  have hsz : bt ≤ w5.heap.size := by rw [← hbb]; exact HT5.out.moves.size
  exact ⟨⟨ok4, HT5.out.moves.below B6.out, HT5.out.run.below (shW_shared p) B6.out, v, rfl, Kd.R_lower (Kd.R_mono (Kd.R_bound V6.out) (fun k hk hk2 => by have := HT5.out.lt k hk2; have := hk.2.1; omega)) HT5.out.moves.size⟩⟩
end Go.Proofs.YthlmgbdknjilpaaGreat.Tower
