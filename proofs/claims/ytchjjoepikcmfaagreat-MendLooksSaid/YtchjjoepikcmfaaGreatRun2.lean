/- A thread's run: its work goes on from its beginning up to its next touch but one. -/
import Derived.Test.YtchjjoepikcmfaaGreatRun
import Derived.Test.YtchjjoepikcmfaaGreatWTab
namespace Go.Proofs.YtchjjoepikcmfaaGreat.Tower
open Go Go.RowKit Go.Proofs.YtchjjoepikcmfaaGreatW.PrintWords Go.Proofs.YtchjjoepikcmfaaGreatW.PrintLast Go.Proofs.YtchjjoepikcmfaaGreatW.PrintMore Go.Proofs.YtchjjoepikcmfaaGreat.Own
set_option linter.unusedVariables false
set_option linter.unusedSimpArgs false
attribute [local go_sem] eqlF1 eqlF2 eqlF3 panicW assertW

/-- A call of a Go function that may panic, by its contract. -/
theorem callP_ {P : Program} {Q : Exit → Act → World → Prop} {ops : Array Oper} {w : World} {oi : Oper} {N : Option Tmp} {a : Act} {K : Act → World → Prop} (f : FuncId) (args : Array Value) (hw : Region.wanted oi (yielded ops a.tmps) = true) (hN : oi.dst = N) (hrun : (execOp a.eval oi).run P w = .ok (.enter f args) w)
    (h : Calls P f args w fun e w' => (∃ v, e = .returned v ∧ K (a.put N v) w') ∨ ∃ c, e = .panicked c ∧ Q (.panic c) a w') : if Region.wanted oi (yielded ops a.tmps) = true then Oper.wp P oi a w K Q else K (a.put N undef) w := by
  rw [if_pos hw]
  subst hN
  unfold Oper.wp
  rw [hrun, Oper.upon_enter]
  refine h.mono fun e w'' hh => ?_
  rcases hh with ⟨v, rfl, hk⟩ | ⟨c, rfl, hk⟩
  · exact hk
  · exact hk

theorem leaves_tmps {P : Program} {fn : Func} {tmps tmps' : Array Value} {R : Ending → World → Prop} (hr : results fn tmps = results fn tmps') : ∀ (ds : List Deferred) (u : FrameMode) (w : World), Leaves P fn tmps R ds u w → Leaves P fn tmps' R ds u w := by
  intro ds
  induction ds with
  | nil =>
    intro u w h
    cases u with
    | run => exact h.elim
    | returning =>
      obtain ⟨v, h1, h2⟩ := h
      exact ⟨v, hr ▸ h1, h2⟩
    | panicking c => exact h
  | cons d ds ih =>
    intro u w h
    obtain ⟨h1, fv, cap, f, args, h2, h3, h4⟩ := h
    refine ⟨h1, fv, cap, f, args, h2, h3, h4.mono (fun e u' w' h5 => ?_)⟩
    cases e with
    | returned v => exact ih _ _ h5
    | panicked c => exact ih _ _ h5
    | outgrown => exact h5
theorem results_same {fn : Func} {p : Tmp} {ty : TypeId} (hf : fn.results = #[.cell p ty]) {d : Tmp} (hd : d ≠ p) (tmps : Array Value) (v : Value) : results fn (tmps.setIfInBounds d v) = results fn tmps := by
  have h : (tmps.setIfInBounds d v)[p]?.getD undef = tmps[p]?.getD undef := by simp [Array.getElem?_setIfInBounds, hd]
  simp [results, hf, h]
theorem panicD {K : Act → World → Prop} {P : Program} {fn : Func} {R : Ending → World → Prop} {p : Tmp} {ty : TypeId} (hf : fn.results = #[.cell p ty]) (d : Option Tmp) (v : Value) (hd : d ≠ some p) : ∀ c a w, Exit.then K (bodyPostD P fn R) (.panic c) (a.put d v) w → Exit.then K (bodyPostD P fn R) (.panic c) a w := by
  intro c a w h
  cases d with
  | none => exact h
  | some d => exact leaves_tmps (results_same hf (fun e => hd (by rw [e])) a.tmps v) _ _ _ h

def waitP : List PanicEntry := [⟨.iface 170 (.agg #[]), false, false⟩]

/-- How a thread's work ends: with numbers (r), or in a touch that waits. Q: what holds of r, the thread, and what is shared (okS). -/
structure WorkPost (okT okS : Nat → Prop) (tb : Nat) (work : Value) (Q : Option (List Int) → Th → (Nat → Prop) → World → Prop) (w1 : World) (e : Ending) (w2 : World) : Prop where
  out : ∃ r th2 okT2 okS2, IsThread okT2 tb work th2 w2 ∧ (∀ k, okT2 k → ¬ okS2 k) ∧ Moves (fun k => okT k ∨ okS k) (fun k => okT2 k ∨ okS2 k) w1 w2 ∧ Q r th2 okS2 w2 ∧ (∀ k, okS2 k → k < w2.heap.size) ∧
    ((r = none ∧ e = .panicked waitP) ∨ ∃ v l, r = some l ∧ e = .returned v ∧ (Kd.int .i64).R 2 w2 w1.heap.size (fun k => ¬ okT2 k ∧ ¬ okS2 k) v l)

def endTh (r : Option (List Int)) (th : Th) : Th := { th with in_ := false, done := r.isSome || th.done, out := r.getD th.out }

structure RunPost (okT okS : Nat → Prop) (tb : Nat) (work : Value) (Q : Option (List Int) → Th → (Nat → Prop) → World → Prop) (w : World) (e : Ending) (w' : World) : Prop where
  out : ∃ r th2 okT3 okS3, e = .returned (.bool r.isSome) ∧ IsThread okT3 tb work (endTh r th2) w' ∧ (∀ k, okT3 k → ¬ okS3 k) ∧ Moves (fun k => okT k ∨ okS k) (fun k => okT3 k ∨ okS3 k) w w' ∧ Q r th2 okS3 w' ∧ (∀ k, okS3 k → k < w'.heap.size)

def TRun3 : Bool × List (List Nat × List Nat) := (true, [([], []), ([], []), ([1], [1]), ([2], [2]), ([3], [3]), ([], []), ([4, 5], [4, 5]), ([0, 0, 1, 2, 3, 4, 5, 6], [0]), ([7, 0, 1, 2, 3, 4, 5, 6], [7]), ([8, 6, 6, 0, 1, 2, 3, 4, 5, 6], [6, 8])])
def BRun3 : List Nat := [0, 0, 2, 6, 14, 0, 62, 127, 255, 511]
theorem tabRun3 : rtab .any (opsOf Tryz.f78 3) = TRun3 := by kernel_rfl
theorem bitsRun3 : waitsOk TRun3.2 BRun3 = true := by kernel_rfl

set_option maxHeartbeats 2000000 in
set_option maxRecDepth 100000 in
theorem run_calls (okT okS : Nat → Prop) (tb : Nat) (wf : FuncId) (wc : Array Value) (th : Th) (w : World) (Q : Option (List Int) → Th → (Nat → Prop) → World → Prop)
    (h : IsThread okT tb (.func (.func wf) #[] wc) th w) (hd : ∀ k, okT k → ¬ okS k) (hbs : ∀ k, okS k → k < w.heap.size)
    (hQ : ∀ r t ok1 w1 w2, Q r t ok1 w1 → w1.heap.size ≤ w2.heap.size → (∀ k, ok1 k → k < w1.heap.size → w2.heap[k]? = w1.heap[k]?) → Q r t ok1 w2)
    (he : ∀ w1 : World, (callFunc wf (#[.pointer (some ⟨tb, 0, none⟩)] ++ wc)).run Tryz.prog w1 = .ok (.enter wf (#[.pointer (some ⟨tb, 0, none⟩)] ++ wc)) w1)
    (hw : ∀ w1, Moves okT okT w w1 → IsThread okT tb (.func (.func wf) #[] wc) { th with in_ := true } w1 → Calls Tryz.prog wf (#[.pointer (some ⟨tb, 0, none⟩)] ++ wc) w1 (WorkPost okT okS tb (.func (.func wf) #[] wc) Q w1)) :
    Calls Tryz.prog 78 #[.pointer (some ⟨tb, 0, none⟩)] w (RunPost okT okS tb (.func (.func wf) #[] wc) Q w) := by
  obtain ⟨lv, A, c, h⟩ := h
  have hmf : ∀ (fn : Fn) (first cap : Array Value) (w : World), (Instr.makeFunc fn first cap).run Tryz.prog w = .ok (.func fn first cap) w := fun _ _ _ _ => rfl
  have HI := Aside0.mk h
  have HD := Aside0.mk hd
  have HQ := Aside0.mk hQ
  have HE := Aside0.mk he
  have HWK := Aside0.mk hw
  have hlt := Aside0.mk (h.2.1 tb h.1)
  have HBT := Aside0.mk h.2.1
  have HTB0 := Aside0.mk h.1
  have HBS0 := Aside0.mk hbs
  clear h hd hQ he hw hbs
  go_enter_defers Tryz.func78, Tryz.ntmps78
  go_upto_region 2 with fail
  have B1 := Aside0.mk (blk_alloc (blk_new w (.cells #[.pointer (some ⟨tb, 0, none⟩)] 48)) (.cells #[.bool false] 4))
  have B2 : Aside0 (((w.alloc (.cells #[.pointer (some ⟨tb, 0, none⟩)] 48)).alloc (.cells #[.bool false] 4)).heap[w.heap.size + 1]? = some (.cells #[.bool false] 4)) := ⟨by simpa using blk_new (w.alloc (.cells #[.pointer (some ⟨tb, 0, none⟩)] 48)) (.cells #[.bool false] 4)⟩
  have HI0 := Aside0.mk ((HI.out.below (below_alloc (Below.refl _ _) (.cells #[.pointer (some ⟨tb, 0, none⟩)] 48))).below (below_alloc (Below.refl _ _) (.cells #[.bool false] 4)))
  have M0 := Aside0.mk (((Moves.refl okT w).alloc (.cells #[.pointer (some ⟨tb, 0, none⟩)] 48)).alloc (.cells #[.bool false] 4))
  clear HI
  generalize (w.alloc (.cells #[.pointer (some ⟨tb, 0, none⟩)] 48)).alloc (.cells #[.bool false] 4) = w0 at B1 B2 HI0 M0 ⊢
  generalize hb1 : w.heap.size = b1 at B1 B2 hlt ⊢
  have HS := Aside0.mk hb1
  clear hb1
  have c1 : w0.cell? ⟨b1, 0, none⟩ = some (.pointer (some ⟨tb, 0, none⟩)) := (blk_cell B1.out 0).trans rfl
  have c4 : w0.cell? ⟨tb, 4, none⟩ = some (.bool th.in_) := (blk_cell HI0.out.2.2.1 4).trans rfl
  have f4 := blk_frozen HI0.out.2.2.1 4
  go_upto_region 3 with fail
  have HI1 := Aside0.mk (HI0.out.in_set true)
  have n1_ := Aside0.mk (blk_far B1.out (p := ⟨tb, 4, none⟩) (Nat.ne_of_gt hlt.out) (.bool true))
  have n2_ := Aside0.mk (blk_far B2.out (p := ⟨tb, 4, none⟩) (by have := hlt.out; show b1 + 1 ≠ tb; omega) (.bool true))
  have M1 := Aside0.mk (M0.out.set (p := ⟨tb, 4, none⟩) (.inl HI0.out.1) (.bool true))
  clear B1 B2 c1 c4 f4 HI0 M0
  have B1 := n1_
  have B2 := n2_
  clear n1_ n2_
  generalize w0.setCell ⟨tb, 4, none⟩ (.bool true) = w1 at HI1 B1 B2 M1 ⊢
  refine start_ (n := 10) (S := fun w' => w'.cell? ⟨b1, 0, none⟩ = some (.pointer (some ⟨tb, 0, none⟩)) ∧ w'.cell? ⟨tb, 0, none⟩ = some (.func (.func wf) #[] wc)) (ds := []) #[false, false, false, false, false, false, false, false, false, false] (by kernel_rfl) rfl rfl ⟨(blk_cell B1.out 0).trans rfl, (blk_cell HI1.out.2.2.1 0).trans rfl⟩ (fun hHeld => ?_); refine with_tabW tabRun3 bitsRun3 (fun HT_ HW_ => ?_)
  have n0_ := Aside0.mk HI1.out.drew
  have n1_ := Aside0.mk (blk_drew B1.out)
  have n2_ := Aside0.mk (blk_drew B2.out)
  have n3_ := Aside0.mk M1.out.drew
  clear HI1 B1 B2 M1
  have HI1 := n0_
  have B1 := n1_
  have B2 := n2_
  have M1 := n3_
  clear n0_ n1_ n2_ n3_
  generalize World.drew _ = w2 at HI1 B1 B2 M1 hHeld ⊢
  refine take_ (i := 0) (N := some 7) (v := ?_) (a' := ?_) #[true, false, false, false, false, false, false, false, false, false] rfl rfl (take_ofW HT_.out HW_.out (by kernel_rfl)) (panicD rfl _ _ (by decide)) (Or.inl ⟨by rfl, ?_⟩) hHeld ?_ ?_
  rotate_left
  · rintro w' ⟨s0, s1⟩
    go_simp
    with_reducible rfl
  rotate_left
  · simp only [Act.put, List.setIfInBounds_toArray, List.set_cons_zero, List.set_cons_succ, i64_w, i32_w]
    rfl
  refine take_ (i := 1) (N := some 8) (v := ?_) (a' := ?_) #[true, true, false, false, false, false, false, false, false, false] rfl rfl (take_ofW HT_.out HW_.out (by kernel_rfl)) (panicD rfl _ _ (by decide)) (Or.inl ⟨by rfl, ?_⟩) hHeld ?_ ?_
  rotate_left
  · rintro w' ⟨s0, s1⟩
    go_simp
    with_reducible rfl
  rotate_left
  · simp only [Act.put, List.setIfInBounds_toArray, List.set_cons_zero, List.set_cons_succ, i64_w, i32_w]
    rfl
  refine pure_ (i := 2) (N := some 9) (v := ?_) (a' := ?_) #[true, true, true, false, false, false, false, false, false, false] rfl rfl (any_of HT_.out (by kernel_rfl)) (panicD rfl _ _ (by decide)) (Or.inl ⟨by rfl, ?_⟩) ?_ ?_
  rotate_left
  · intro w'
    go_simp
    with_reducible rfl
  rotate_left
  · simp only [Act.put, List.setIfInBounds_toArray, List.set_cons_zero, List.set_cons_succ, i64_w, i32_w]
    rfl
  refine pure_ (i := 3) (N := some 10) (v := ?_) (a' := ?_) #[true, true, true, true, false, false, false, false, false, false] rfl rfl (any_of HT_.out (by kernel_rfl)) (panicD rfl _ _ (by decide)) (Or.inl ⟨by rfl, ?_⟩) ?_ ?_
  rotate_left
  · intro w'
    go_simp
    with_reducible rfl
  rotate_left
  · simp only [Act.put, List.setIfInBounds_toArray, List.set_cons_zero, List.set_cons_succ, i64_w, i32_w]
    rfl
  refine take_ (i := 4) (N := some 11) (v := ?_) (a' := ?_) #[true, true, true, true, true, false, false, false, false, false] rfl rfl (take_ofW HT_.out HW_.out (by kernel_rfl)) (panicD rfl _ _ (by decide)) (Or.inl ⟨by rfl, ?_⟩) hHeld ?_ ?_
  rotate_left
  · rintro w' ⟨s0, s1⟩
    go_simp
    with_reducible rfl
  rotate_left
  · simp only [Act.put, List.setIfInBounds_toArray, List.set_cons_zero, List.set_cons_succ, i64_w, i32_w]
    rfl
  refine take_ (i := 5) (N := some 12) (v := ?_) (a' := ?_) #[true, true, true, true, true, true, false, false, false, false] rfl rfl (take_ofW HT_.out HW_.out (by kernel_rfl)) (panicD rfl _ _ (by decide)) (Or.inl ⟨by rfl, ?_⟩) hHeld ?_ ?_
  rotate_left
  · rintro w' ⟨s0, s1⟩
    go_simp
    with_reducible rfl
  rotate_left
  · simp only [Act.put, List.setIfInBounds_toArray, List.set_cons_zero, List.set_cons_succ, i64_w, i32_w]
    rfl
  refine one_ (i := 6) (N := some 13) #[true, true, true, true, true, true, true, false, false, false] rfl rfl (one_of HT_.out (by kernel_rfl)) (by decide) (fun K_ hK => ?_)
  refine callP_ wf (#[.pointer (some ⟨tb, 0, none⟩)] ++ wc) (by rfl) rfl ?hrun ?_
  (case hrun => go_simp; exact HE.out _)
  refine (HWK.out w2 M1.out ⟨_, _, _, HI1.out⟩).mono ?_
  rintro e w3 ⟨r, th2, okT2, okS2, ⟨lv2, A2, c2, hT⟩, hdis, hM, hq, hbs, hr⟩
  have hnb1 : ¬ (okT b1 ∨ okS b1) := fun hh => by
    have e0 := HS.out
    rcases hh with hh | hh
    · have := HBT.out b1 hh; omega
    · have := HBS0.out b1 hh; omega
  have hnb2 : ¬ (okT (b1 + 1) ∨ okS (b1 + 1)) := fun hh => by
    have e0 := HS.out
    rcases hh with hh | hh
    · have := HBT.out (b1 + 1) hh; omega
    · have := HBS0.out (b1 + 1) hh; omega
  have hnc2 : ¬ (okT2 (b1 + 1) ∨ okS2 (b1 + 1)) := fun hh => by
    rcases hM.fresh _ hh with h1 | h1
    · exact hnb2 h1
    · have := blk_lt B2.out; omega
  have B1' := Aside0.mk ((hM.block b1 (blk_lt B1.out) hnb1).trans B1.out)
  have B2' := Aside0.mk ((hM.block (b1 + 1) (blk_lt B2.out) hnb2).trans B2.out)
  have HT3 := Aside0.mk hT
  have HM3 : Aside0 (Moves (fun k => okT k ∨ okS k) (fun k => okT2 k ∨ okS2 k) w w3) := ⟨((M1.out.part (ok := fun k => okT k ∨ okS k) (okB := okS) (fun _ h => .inl h) (fun _ h => .inr h)).trans hM)⟩
  have HQ3 := Aside0.mk hq
  have HDI := Aside0.mk hdis
  have HBS := Aside0.mk hbs
  have HTB : Aside0 (okT tb) := HTB0
  have HSZ : Aside0 (w.heap.size ≤ w2.heap.size) := ⟨M1.out.size⟩
  have hTtb : ¬ okS2 tb := fun hh => hdis tb hT.1 hh
  clear hT hM hq hdis hbs
  rcases hr with ⟨rfl, rfl⟩ | ⟨v, l, rfl, rfl, hv⟩
  · right
    refine ⟨_, rfl, ?_⟩
    refine leaves_cons (f := 108) (args := #[.pointer (some ⟨b1, 0, none⟩), .pointer (some ⟨b1 + 1, 0, none⟩)]) (by simp) (by simp [go_sem]) ?_
    refine (catch_wait tb b1 (b1 + 1) _ _ _ [] w3 B1'.out HT3.out.2.2.1 rfl B2'.out (by have := hlt.out; omega)).mono ?_
    rintro e u' w'' ⟨rfl, rfl, rfl⟩
    have hbf := blk_set (blk_alloc (blk_far B2'.out (p := ⟨tb, 4, none⟩) (by have := hlt.out; show b1 + 1 ≠ tb; omega) (.bool false)) (.cells #[] 170)) 0 (.bool false)
    have cb := (blk_cell hbf 0).trans (rfl : _ = some (Value.bool false))
    refine ⟨.bool false, ?_, ⟨none, th2, okT2, okS2, rfl, ⟨_, _, _, ((HT3.out.in_set false).below (below_alloc (Below.refl _ _) (.cells #[] 170))).step (by simp [World.setCell]) (fun k hk _ => Below.heap_setCell _ ⟨b1 + 1, 0, none⟩ (.bool false) k (fun e => hnc2 (.inl ((show k = b1 + 1 from e) ▸ hk))))⟩, HDI.out, ?_, ?_, ?_⟩⟩
    · simp [results, Tryz.results78, go_sem, cb]
    · exact ((HM3.out.set (p := ⟨tb, 4, none⟩) (.inl (.inl HTB.out)) (.bool false)).alloc (.cells #[] 170)).set (p := ⟨b1 + 1, 0, none⟩) (.inr (by have := HS.out; show w.heap.size ≤ b1 + 1; omega)) (.bool false)
    · refine HQ.out none th2 okS2 w3 _ HQ3.out (by simp [World.setCell]) (fun k hk hlt3 => ?_)
      refine (Below.heap_setCell _ ⟨b1 + 1, 0, none⟩ (.bool false) k (fun e => hnc2 (.inr ((show k = b1 + 1 from e) ▸ hk)))).trans ?_
      refine (Below.heap_alloc _ _ k (by simpa [World.setCell] using hlt3)).trans ?_
      exact Below.heap_setCell _ ⟨tb, 4, none⟩ (.bool false) k (fun e => hTtb ((show k = tb from e) ▸ hk))
    · intro k hk
      have := HBS.out k hk
      simp [World.setCell]
      omega
  · left
    refine ⟨v, rfl, ?_⟩
    obtain ⟨Av, cv, rfl⟩ := Kd.R_slice hv
    have HV := Aside0.mk hv
    clear hv
    have c6 : w3.cell? ⟨tb, 6, none⟩ = some (.slice A2 th2.out.length c2) := (blk_cell HT3.out.2.2.1 6).trans rfl
    have f6 := blk_frozen HT3.out.2.2.1 6
    refine hK.out _ _ ⟨(blk_cell B1'.out 0).trans rfl, (blk_cell HT3.out.2.2.1 0).trans rfl⟩ (fun hHeld => ?_)
    clear hK K_
    refine norm_ (a' := ?_) ?_ ?_
    rotate_left
    · show Act.put _ (some 13) _ = _
      simp only [Act.put, List.setIfInBounds_toArray, List.set_cons_zero, List.set_cons_succ, i64_w, i32_w]
      rfl
    refine pure_ (i := 7) (N := some 14) (v := ?_) (a' := ?_) #[true, true, true, true, true, true, true, true, false, false] rfl rfl (any_of HT_.out (by kernel_rfl)) (panicD rfl _ _ (by decide)) (Or.inl ⟨by rfl, ?_⟩) ?_ ?_
    rotate_left
    · intro w'
      go_simp
      with_reducible rfl
    rotate_left
    · simp only [Act.put, List.setIfInBounds_toArray, List.set_cons_zero, List.set_cons_succ, i64_w, i32_w]
      rfl
    refine pure_ (i := 8) (N := some 15) (v := ?_) (a' := ?_) #[true, true, true, true, true, true, true, true, true, false] rfl rfl (any_of HT_.out (by kernel_rfl)) (panicD rfl _ _ (by decide)) (Or.inl ⟨by rfl, ?_⟩) ?_ ?_
    rotate_left
    · intro w'
      go_simp
      with_reducible rfl
    rotate_left
    · simp only [Act.put, List.setIfInBounds_toArray, List.set_cons_zero, List.set_cons_succ, i64_w, i32_w]
      rfl
    refine one_ (i := 9) (N := none) #[true, true, true, true, true, true, true, true, true, true] rfl rfl (one_of HT_.out (by kernel_rfl)) (by decide) (fun K_ hK => ?_)
    refine skip_ (w1 := ?_) (by rfl) rfl ?_ ?_
    rotate_left
    · go_simp
      rfl
    refine hK.out _ _ ⟨(cell_far (p := ⟨tb, 6, none⟩) (Nat.ne_of_gt hlt.out) _).trans ((blk_cell B1'.out 0).trans rfl), (blk_cell (blk_set HT3.out.2.2.1 6 _) 0).trans rfl⟩ (fun hHeld => ?_)
    clear hK K_
    refine done_ (done_of HT_.out (by kernel_rfl)) ?_
    have HT4 := Aside0.mk (HT3.out.out_set HV.out (fun k hk => hk.1))
    have B1'' := Aside0.mk (blk_far B1'.out (p := ⟨tb, 6, none⟩) (Nat.ne_of_gt hlt.out) (.slice Av l.length cv))
    have B2'' := Aside0.mk (blk_far B2'.out (p := ⟨tb, 6, none⟩) (by have := hlt.out; show b1 + 1 ≠ tb; omega) (.slice Av l.length cv))
    have HM4 := Aside0.mk (HM3.out.set (p := ⟨tb, 6, none⟩) (.inl (.inl HTB.out)) (.slice Av l.length cv))
    have HQ4 := Aside0.mk (HQ.out (some l) th2 okS2 w3 _ HQ3.out (by simp [World.setCell]) (fun k hk _ => Below.heap_setCell w3 ⟨tb, 6, none⟩ (.slice Av l.length cv) k (fun e => hTtb ((show k = tb from e) ▸ hk))))
    have hV1 : Aside0 (∀ k, some k = (Value.slice Av l.length cv).ownBlock → w2.heap.size ≤ k ∧ ¬ okS2 k ∧ k < w3.heap.size) := ⟨fun k hk => ⟨Kd.R_base HV.out k hk.symm, (HV.out.1 k hk.symm).2, Kd.R_lt HV.out k hk.symm⟩⟩
    have hs4 : Aside0 ((w3.setCell ⟨tb, 6, none⟩ (.slice Av l.length cv)).heap.size = w3.heap.size) := ⟨by simp [World.setCell]⟩
    clear c6 f6 hHeld
    generalize w3.setCell ⟨tb, 6, none⟩ (.slice Av l.length cv) = w4 at HT4 B1'' B2'' HM4 HQ4 hs4 ⊢
    have c1 : w4.cell? ⟨b1, 0, none⟩ = some (.pointer (some ⟨tb, 0, none⟩)) := (blk_cell B1''.out 0).trans rfl
    have c5 : w4.cell? ⟨tb, 5, none⟩ = some (.bool th2.done) := (blk_cell HT4.out.2.2.1 5).trans rfl
    have f5 := blk_frozen HT4.out.2.2.1 5
    have B3 := Aside0.mk (blk_far B2''.out (p := ⟨tb, 5, none⟩) (by have := hlt.out; show b1 + 1 ≠ tb; omega) (.bool true))
    have c7 := (blk_cell B3.out 0).trans (rfl : _ = some (Value.bool false))
    have f7 := blk_frozen B3.out 0
    go_wp2_with fail
    have hnk : ∀ k, (okT2 k ∨ some k = (Value.slice Av l.length cv).ownBlock) → k ≠ b1 + 1 := fun k hk e => by
      rcases hk with hk | hk
      · exact hnc2 (.inl (e ▸ hk))
      · have := (hV1.out k hk).1
        have := blk_lt B2.out
        omega
    have HT5 := Aside0.mk ((HT4.out.done_set true).step (w1 := (w4.setCell ⟨tb, 5, none⟩ (.bool true)).setCell ⟨b1 + 1, 0, none⟩ (.bool true)) (by simp [World.setCell]) (fun k hk _ => Below.heap_setCell _ ⟨b1 + 1, 0, none⟩ (.bool true) k (fun e => hnk k hk e)))
    have B1_5 := blk_far (blk_far B1''.out (p := ⟨tb, 5, none⟩) (Nat.ne_of_gt hlt.out) (.bool true)) (p := ⟨b1 + 1, 0, none⟩) (by show b1 ≠ b1 + 1; omega) (.bool true)
    have B2_5 := blk_set B3.out 0 (.bool true)
    have HM5 := Aside0.mk ((HM4.out.set (p := ⟨tb, 5, none⟩) (.inl (.inl HTB.out)) (.bool true)).set (p := ⟨b1 + 1, 0, none⟩) (.inr (by have := HS.out; show w.heap.size ≤ b1 + 1; omega)) (.bool true))
    refine leaves_cons (f := 108) (args := #[.pointer (some ⟨b1, 0, none⟩), .pointer (some ⟨b1 + 1, 0, none⟩)]) (by simp) (by simp [go_sem]) ?_
    refine (catch_idle tb b1 (b1 + 1) _ _ _ _ B1_5 HT5.out.2.2.1 rfl B2_5 (by have := hlt.out; omega)).mono ?_
    rintro e u' w'' ⟨rfl, rfl, rfl⟩
    have cb := (blk_cell (blk_far B2_5 (p := ⟨tb, 4, none⟩) (by have := hlt.out; show b1 + 1 ≠ tb; omega) (.bool false)) 0).trans (rfl : _ = some (Value.bool true))
    refine ⟨.bool true, ?_, ⟨some l, th2, _, okS2, rfl, ⟨_, _, _, HT5.out.in_set false⟩, ?_, ?_, ?_, ?_⟩⟩
    · simp [results, Tryz.results78, go_sem, cb]
    · rintro k (hk | hk) hk2
      · exact HDI.out k hk hk2
      · exact (hV1.out k hk).2.1 hk2
    · refine (HM5.out.set (p := ⟨tb, 4, none⟩) (.inl (.inl HTB.out)) (.bool false)).owns ?_
      rintro k ((hk | hk) | hk)
      · exact HM3.out.fresh k (.inl hk)
      · have := (hV1.out k hk).1
        have := HSZ.out
        exact .inr (by omega)
      · exact HM3.out.fresh k (.inr hk)
    · refine HQ.out (some l) th2 okS2 w4 _ HQ4.out (by simp [World.setCell]) (fun k hk _ => ?_)
      refine (Below.heap_setCell _ ⟨tb, 4, none⟩ (.bool false) k (fun e => hTtb ((show k = tb from e) ▸ hk))).trans ?_
      refine (Below.heap_setCell _ ⟨b1 + 1, 0, none⟩ (.bool true) k (fun e => hnc2 (.inr ((show k = b1 + 1 from e) ▸ hk)))).trans ?_
      exact Below.heap_setCell _ ⟨tb, 5, none⟩ (.bool true) k (fun e => hTtb ((show k = tb from e) ▸ hk))
    · intro k hk
      have := HBS.out k hk
      have := hs4.out
      simp [World.setCell]
      omega

end Go.Proofs.YtchjjoepikcmfaaGreat.Tower
