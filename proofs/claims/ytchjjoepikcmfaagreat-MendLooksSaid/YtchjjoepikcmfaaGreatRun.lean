/- A thread's Step: its work goes on from its beginning, up to its next touch but one; the panic that ends it is recovered. -/
import Derived.Test.YtchjjoepikcmfaaGreatThread
namespace Go.Proofs.YtchjjoepikcmfaaGreat.Tower
open Go Go.RowKit Go.Proofs.YtchjjoepikcmfaaGreatW.PrintWords Go.Proofs.YtchjjoepikcmfaaGreatW.PrintLast Go.Proofs.YtchjjoepikcmfaaGreatW.PrintMore Go.Proofs.YtchjjoepikcmfaaGreat.Own
set_option linter.unusedVariables false
set_option linter.unusedSimpArgs false
theorem assertW (w : World) : (Instr.typeAssert (.iface 170 (.agg #[])) 20 170 true).run Tryz.prog w = .ok (.tuple #[.agg #[], .bool true]) w := by kernel_rfl
attribute [local go_sem] eqlF1 eqlF2 eqlF3 panicW assertW

set_option maxHeartbeats 2000000 in
set_option maxRecDepth 100000 in
theorem catch_wait (tb b1 b2 : Nat) (x y : Bool) (cs : Array Value) (older : List PanicEntry) (w : World) (hb1 : w.heap[b1]? = some (.cells #[.pointer (some ⟨tb, 0, none⟩)] 48 (0, 0))) (hbt : w.heap[tb]? = some (.cells cs 135 (0, 0))) (h4 : cs[4]? = some (.bool x))
    (hb2 : w.heap[b2]? = some (.cells #[.bool y] 4 (0, 0))) (hne : b2 ≠ tb) :
    CallsD Tryz.prog 108 #[.pointer (some ⟨b1, 0, none⟩), .pointer (some ⟨b2, 0, none⟩)] (.panicking ({ v := .iface 170 (.agg #[]), recovered := false } :: older)) w fun e u' w' =>
      e = .returned (.tuple #[]) ∧ u' = .panicking ({ v := .iface 170 (.agg #[]), recovered := true } :: older) ∧ w' = ((w.setCell ⟨tb, 4, none⟩ (.bool false)).alloc (.cells #[] 170)).setCell ⟨b2, 0, none⟩ (.bool false) := by
  have h1 : w.cell? ⟨b1, 0, none⟩ = some (.pointer (some ⟨tb, 0, none⟩)) := (blk_cell hb1 0).trans rfl
  have h4 : w.cell? ⟨tb, 4, none⟩ = some (.bool x) := (blk_cell hbt 4).trans h4
  have f4 := blk_frozen hbt 4
  have hb2' := Aside0.mk (blk_alloc (blk_far hb2 (p := ⟨tb, 4, none⟩) hne (.bool false)) (.cells #[] 170))
  have c2 := (blk_cell hb2'.out 0).trans (rfl : _ = some (Value.bool y))
  have f2 := blk_frozen hb2'.out 0
  refine callsD_of_wpS Tryz.func108 rfl fun c₀ cs0 hu => ?_
  simp only [Tryz.ntmps108, List.size_toArray, List.length_cons, List.length_nil, Nat.reduceAdd, Nat.reduceSub, Array.replicate_succ, Array.replicate_zero, List.push_toArray, List.append_toArray, List.nil_append, List.cons_append]
  apply wpS_seq
  refine wpS_of_wp ?_
  go_wp2_with fail
  simp only [Exit.thenS]
  refine wpS_seq ?_
  generalize hK : Exit.thenS _ _ = K
  apply wpS_region
  simp [wpOpsS, go_sem, recoverD, hu]
  subst hK
  simp only [Exit.thenS]
  refine wpS_of_wp ?_
  go_wp2_with fail
  simp [bodyPostS, results, Tryz.results108]
set_option maxHeartbeats 2000000 in
set_option maxRecDepth 100000 in
theorem catch_idle (tb b1 b2 : Nat) (x y : Bool) (cs : Array Value) (w : World) (hb1 : w.heap[b1]? = some (.cells #[.pointer (some ⟨tb, 0, none⟩)] 48 (0, 0))) (hbt : w.heap[tb]? = some (.cells cs 135 (0, 0))) (h4 : cs[4]? = some (.bool x))
    (hb2 : w.heap[b2]? = some (.cells #[.bool y] 4 (0, 0))) (hne : b2 ≠ tb) :
    CallsD Tryz.prog 108 #[.pointer (some ⟨b1, 0, none⟩), .pointer (some ⟨b2, 0, none⟩)] .returning w fun e u' w' =>
      e = .returned (.tuple #[]) ∧ u' = .returning ∧ w' = w.setCell ⟨tb, 4, none⟩ (.bool false) := by
  have h1 : w.cell? ⟨b1, 0, none⟩ = some (.pointer (some ⟨tb, 0, none⟩)) := (blk_cell hb1 0).trans rfl
  have h4 : w.cell? ⟨tb, 4, none⟩ = some (.bool x) := (blk_cell hbt 4).trans h4
  have f4 := blk_frozen hbt 4
  have hb2' := Aside0.mk (blk_alloc (blk_far hb2 (p := ⟨tb, 4, none⟩) hne (.bool false)) (.cells #[] 170))
  have c2 := (blk_cell hb2'.out 0).trans (rfl : _ = some (Value.bool y))
  have f2 := blk_frozen hb2'.out 0
  refine callsD_of_wpS Tryz.func108 rfl fun c₀ cs0 hu => ?_
  simp only [Tryz.ntmps108, List.size_toArray, List.length_cons, List.length_nil, Nat.reduceAdd, Nat.reduceSub, Array.replicate_succ, Array.replicate_zero, List.push_toArray, List.append_toArray, List.nil_append, List.cons_append]
  apply wpS_seq
  refine wpS_of_wp ?_
  go_wp2_with fail
  simp only [Exit.thenS]
  refine wpS_seq ?_
  generalize hK : Exit.thenS _ _ = K
  apply wpS_region
  simp [wpOpsS, go_sem, recoverD, hu]
  subst hK
  simp only [Exit.thenS]
  refine wpS_of_wp ?_
  go_wp2_with fail
  simp [bodyPostS, results, Tryz.results108]
  cases c₀
  cases hu
  rfl

end Go.Proofs.YtchjjoepikcmfaaGreat.Tower
