/- (*Thread).Ask, walked. -/
import Derived.Test.YtchjjoepikcmfaaGreatTask
namespace Go.Proofs.YtchjjoepikcmfaaGreat.Tower
open Go Go.RowKit Go.Proofs.YtchjjoepikcmfaaGreatW.PrintWords Go.Proofs.YtchjjoepikcmfaaGreatW.PrintLast Go.Proofs.YtchjjoepikcmfaaGreatW.PrintMore Go.Proofs.YtchjjoepikcmfaaGreat.Own
set_option linter.unusedVariables false
set_option linter.unusedSimpArgs false
attribute [local go_sem] eqlF1 eqlF2 eqlF3 panicW assertW

theorem enters {f : FuncId} {fn : Func} (hf : Tryz.prog.funcs[f]? = some fn) (hname : (fn.name == "runtime.NumGoroutine") = false) (hb : fn.body.isSome = true) (args : Array Value) (w : World) : (callFunc f args).run Tryz.prog w = .ok (.enter f args) w := enters_ hf hname hb args w

def b01 (b : Bool) : Int := if b then 1 else 0
def askT {X : Type} (f : X → Bool × X) : Pr X Bool := prBind (doT (fun x => (b01 (f x).1, (f x).2))) (fun n s => some (.ret (n == 1), s))

set_option maxHeartbeats 2000000 in
set_option maxRecDepth 100000 in
theorem ask1_calls (gf : FuncId) (cap : Array Value) (b : Nat) (r : Bool) (R : World → Prop) (w : World) (hb : w.heap[b]? = some (.cells #[.func (.func gf) #[] cap] 30 (0, 0)))
    (he : ∀ w1 : World, (callFunc gf cap).run Tryz.prog w1 = .ok (.enter gf cap) w1)
    (hc : Calls Tryz.prog gf cap w fun e w2 => e = .returned (.bool r) ∧ R w2) :
    Calls Tryz.prog 147 #[.pointer (some ⟨b, 0, none⟩)] w fun e w2 => e = .returned (.int .i64 (b01 r)) ∧ R w2 := by
  have HC := Aside0.mk hc
  have HE := Aside0.mk he
  have c0 : w.cell? ⟨b, 0, none⟩ = some (.func (.func gf) #[] cap) := (blk_cell hb 0).trans rfl
  clear hc he hb
  go_enter Tryz.func147, Tryz.ntmps147
  go_wp2_with fail
  rw [HE.out, Oper.upon_enter]
  refine HC.out.mono ?_
  rintro e w2 ⟨rfl, hr⟩
  have HR := Aside0.mk hr
  clear hr HC
  dsimp only
  cases r
  · go_wp2_with fail
    go_ret
    exact ⟨rfl, HR.out⟩
  · go_wp2_with fail
    go_ret
    exact ⟨rfl, HR.out⟩

theorem b01_eq (b : Bool) : (b01 b == 1) = b := by cases b <;> rfl

set_option maxHeartbeats 2000000 in
set_option maxRecDepth 100000 in
theorem ask_calls {X : Type} {Sh : X → (Nat → Prop) → World → Prop} (S : Shared Sh) (f : X → Bool × X) (tb : Nat) (work : Value) (ok : Nat → Prop) (s : TS X) (w : World) (gf : FuncId) (cap : Array Value) (h : IsRun Sh tb work ok s w)
    (he : ∀ w1 : World, (callFunc gf cap).run Tryz.prog w1 = .ok (.enter gf cap) w1)
    (hc : ∀ w1 okS, Moves ok ok w w1 → (∀ k, okS k → ok k) → Sh s.sh okS w1 → Calls Tryz.prog gf cap w1 fun e w2 => e = .returned (.bool (f s.sh).1) ∧ ∃ okS1, Sh (f s.sh).2 okS1 w2 ∧ Moves okS okS1 w1 w2)
    (res : Out Bool × TS X) (hr : askT f s = some res) :
    Calls Tryz.prog 119 #[.pointer (some ⟨tb, 0, none⟩), .func (.func gf) #[] cap] w (TPost Sh tb work VBool ok w res) := by
  unfold askT prBind at hr
  cases hd : doT (fun x => (b01 (f x).1, (f x).2)) s with
  | none => rw [hd] at hr; cases hr
  | some dres =>
    rw [hd] at hr
    have hmf : ∀ (fn : Fn) (first cap : Array Value) (w : World), (Instr.makeFunc fn first cap).run Tryz.prog w = .ok (.func fn first cap) w := fun _ _ _ _ => rfl
    have HI := Aside0.mk h
    have HC := Aside0.mk hc
    have HE := Aside0.mk he
    have HD := Aside0.mk hd
    have HRS := Aside0.mk hr
    have HB := Aside0.mk (blk_new w (.cells #[.func (.func gf) #[] cap] 30))
    have HI1 := Aside0.mk (h.below S (below_alloc (Below.refl _ _) (.cells #[.func (.func gf) #[] cap] 30)))
    have HM := Aside0.mk ((Moves.refl ok w).alloc (.cells #[.func (.func gf) #[] cap] 30))
    have HN : Aside0 (¬ ok w.heap.size) := ⟨fun hk => by have := h.lt S _ hk; omega⟩
    clear h hc he hd hr
    go_enter Tryz.func119, Tryz.ntmps119
    go_upto_region 1 with fail
    generalize w.alloc (.cells #[.func (.func gf) #[] cap] 30) = w1 at HB HI1 HM ⊢
    generalize w.heap.size = b at HB HN ⊢
    have c0 : w1.cell? ⟨b, 0, none⟩ = some (.func (.func gf) #[] cap) := (blk_cell HB.out 0).trans rfl
    go_wp2_with fail
    refine (do_calls S (fun x => (b01 (f x).1, (f x).2)) tb work ok s w1 147 #[.pointer (some ⟨b, 0, none⟩)] HI1.out (enters Tryz.func147 (by kernel_rfl) rfl _) (fun w2 okS hm hk hsh => ?hT) dres HD.out).mono ?_
    case hT =>
      refine (ask1_calls gf cap b (f s.sh).1 (fun w3 => ∃ okS1, Sh (f s.sh).2 okS1 w3 ∧ Moves okS okS1 w2 w3) w2 ((hm.block b (blk_lt HB.out) HN.out).trans HB.out) HE.out (HC.out w2 okS (HM.out.trans hm) hk hsh)).mono ?_
      rintro e w3 ⟨rfl, okS1, h1, h2⟩
      exact ⟨okS1, rfl, h1, h2⟩
    rintro e w2 ⟨ok1, hm, hrun, hres⟩
    have HM2 := Aside0.mk (HM.out.trans hm)
    have HI2 := Aside0.mk hrun
    clear hm hrun
    obtain ⟨o, t⟩ := dres
    cases o with
    | wait =>
      have hh := HRS.out
      injection hh with hh
      subst hh
      obtain rfl : e = .panicked waitP := hres
      exact ⟨rfl, ⟨⟨ok1, HM2.out, HI2.out, rfl⟩⟩⟩
    | ret n =>
      have hh := HRS.out
      injection hh with hh
      obtain ⟨v, rfl, rfl⟩ : ∃ v, e = .returned v ∧ v = .int .i64 n := hres
      have HH := Aside0.mk hh
      clear hh
      dsimp only
      go_wp2_with fail
      go_ret
      rw [← HH.out]
      exact ⟨⟨ok1, HM2.out, HI2.out, _, rfl, rfl⟩⟩
end Go.Proofs.YtchjjoepikcmfaaGreat.Tower
