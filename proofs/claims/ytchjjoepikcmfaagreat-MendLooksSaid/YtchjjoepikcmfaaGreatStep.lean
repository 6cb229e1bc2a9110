/- A thread's Step, walked. -/
import Derived.Test.YtchjjoepikcmfaaGreatRun2
namespace Go.Proofs.YtchjjoepikcmfaaGreat.Tower
open Go Go.RowKit Go.Proofs.YtchjjoepikcmfaaGreatW.PrintWords Go.Proofs.YtchjjoepikcmfaaGreatW.PrintLast Go.Proofs.YtchjjoepikcmfaaGreatW.PrintMore Go.Proofs.YtchjjoepikcmfaaGreat.Own
set_option linter.unusedVariables false
set_option linter.unusedSimpArgs false
attribute [local go_sem] eqlF1 eqlF2 eqlF3 panicW assertW

set_option maxHeartbeats 2000000 in
set_option maxRecDepth 100000 in
/-- A Step behind the end: nothing. -/
theorem step_done (ok : Nat → Prop) (tb : Nat) (wf : FuncId) (wc : Array Value) (th : Th) (w : World) (h : IsThread ok tb (.func (.func wf) #[] wc) th w) (hd : th.done = true) :
    Calls Tryz.prog 48 #[.pointer (some ⟨tb, 0, none⟩)] w fun e w' => e = .returned (.bool true) ∧ w' = w := by
  obtain ⟨lv, A, c, h⟩ := h
  have c5 : w.cell? ⟨tb, 5, none⟩ = some (.bool true) := (blk_cell h.2.2.1 5).trans (by rw [← hd]; rfl)
  clear h hd
  go_enter Tryz.func48, Tryz.ntmps48
  go_wp2_with fail
  go_ret
  exact ⟨rfl, rfl⟩

set_option maxHeartbeats 2000000 in
set_option maxRecDepth 100000 in
/-- A Step: the work goes on from its beginning. -/
theorem step_runs (okT okS : Nat → Prop) (tb : Nat) (wf : FuncId) (wc : Array Value) (th : Th) (w : World) (Q : Option (List Int) → Th → (Nat → Prop) → World → Prop)
    (h : IsThread okT tb (.func (.func wf) #[] wc) th w) (hdn : th.done = false) (hd : ∀ k, okT k → ¬ okS k) (hbs : ∀ k, okS k → k < w.heap.size)
    (hQ : ∀ r t ok1 w1 w2, Q r t ok1 w1 → w1.heap.size ≤ w2.heap.size → (∀ k, ok1 k → k < w1.heap.size → w2.heap[k]? = w1.heap[k]?) → Q r t ok1 w2)
    (he : ∀ w1 : World, (callFunc wf (#[.pointer (some ⟨tb, 0, none⟩)] ++ wc)).run Tryz.prog w1 = .ok (.enter wf (#[.pointer (some ⟨tb, 0, none⟩)] ++ wc)) w1)
    (hw : ∀ w1, Moves okT okT w w1 → IsThread okT tb (.func (.func wf) #[] wc) { th with at_ := 0, spent := false, in_ := true } w1 → Calls Tryz.prog wf (#[.pointer (some ⟨tb, 0, none⟩)] ++ wc) w1 (WorkPost okT okS tb (.func (.func wf) #[] wc) Q w1)) :
    Calls Tryz.prog 48 #[.pointer (some ⟨tb, 0, none⟩)] w (RunPost okT okS tb (.func (.func wf) #[] wc) Q w) := by
  obtain ⟨lv, A, c, h⟩ := h
  have HI := Aside0.mk h
  have HD := Aside0.mk hd
  have HQ := Aside0.mk hQ
  have HE := Aside0.mk he
  have HWK := Aside0.mk hw
  have HBS := Aside0.mk hbs
  have c5 : w.cell? ⟨tb, 5, none⟩ = some (.bool false) := (blk_cell h.2.2.1 5).trans (by rw [← hdn]; rfl)
  have c0 : w.cell? ⟨tb, 0, none⟩ = some (.func (.func wf) #[] wc) := (blk_cell h.2.2.1 0).trans rfl
  have c2 : w.cell? ⟨tb, 2, none⟩ = some (.int .i64 th.at_) := (blk_cell h.2.2.1 2).trans rfl
  have c3 : w.cell? ⟨tb, 3, none⟩ = some (.bool th.spent) := (blk_cell h.2.2.1 3).trans rfl
  have f2 := blk_frozen h.2.2.1 2
  have f3 := blk_frozen h.2.2.1 3
  have HA := Aside0.mk ((h.at_set 0).spent_set false)
  have HM := Aside0.mk (((Moves.refl okT w).set (p := ⟨tb, 2, none⟩) (.inl h.1) (.int .i64 0)).set (p := ⟨tb, 3, none⟩) (.inl h.1) (.bool false))
  clear h hdn hd hbs hQ he hw
  go_enter Tryz.func48, Tryz.ntmps48
  go_upto_region 4 with fail
  generalize hW : (w.setCell ⟨tb, 2, none⟩ (.int .i64 0)).setCell ⟨tb, 3, none⟩ (.bool false) = w1 at HA HM ⊢
  have HSZ : Aside0 (w1.heap.size = w.heap.size) := ⟨by rw [← hW]; simp [World.setCell]⟩
  clear hW c5 c0 c2 c3 f2 f3
  go_wp2_with (go_at_call 78; refine (run_calls okT okS tb wf wc { th with at_ := 0, spent := false } _ Q ⟨_, _, _, HA.out⟩ HD.out (fun k hk => by rw [HSZ.out]; exact HBS.out k hk) HQ.out HE.out (fun w2 hm ht => HWK.out w2 (HM.out.trans hm) ht)).mono ?_; rintro e w2 ⟨r, th2, okT3, okS3, rfl, hrest⟩; have HR := Aside0.mk hrest; clear hrest)
  go_ret
  obtain ⟨h1, h2, h3, h4, h5⟩ := HR.out
  refine ⟨r, th2, okT3, okS3, rfl, h1, h2, ?_, h4, h5⟩
  exact (HM.out.part (ok := fun k => okT k ∨ okS k) (okB := okS) (fun _ h => .inl h) (fun _ h => .inr h)).trans h3
end Go.Proofs.YtchjjoepikcmfaaGreat.Tower
