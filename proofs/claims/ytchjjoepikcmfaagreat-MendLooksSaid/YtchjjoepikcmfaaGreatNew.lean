/- thread.New and what tells of a thread: Out, Done, Steps, walked. -/
import Derived.Test.YtchjjoepikcmfaaGreatAsk
import Derived.Test.YtchjjoepikcmfaaGreatClone
namespace Go.Proofs.YtchjjoepikcmfaaGreat.Tower
open Go Go.RowKit Go.Proofs.YtchjjoepikcmfaaGreatW.PrintWords Go.Proofs.YtchjjoepikcmfaaGreatW.PrintLast Go.Proofs.YtchjjoepikcmfaaGreatW.PrintMore Go.Proofs.YtchjjoepikcmfaaGreat.Own
set_option linter.unusedVariables false
set_option linter.unusedSimpArgs false

def th0 : Th := ⟨[], 0, false, false, false, []⟩
/-- A thread has been made: a block of its own. -/
structure MadeThread (work : Value) (w : World) (e : Ending) (w1 : World) : Prop where
  out : ∃ tb, e = .returned (.pointer (some ⟨tb, 0, none⟩)) ∧ w.heap.size ≤ tb ∧ IsThread (fun k => k = tb) tb work th0 w1 ∧ Below w.heap.size w w1

set_option maxHeartbeats 2000000 in
set_option maxRecDepth 100000 in
theorem new_calls (gf : FuncId) (cap : Array Value) (w : World) :
    Calls Tryz.prog 85 #[.func (.func gf) #[] cap] w (MadeThread (.func (.func gf) #[] cap) w) := by
  go_enter Tryz.func85, Tryz.ntmps85
  go_wp2_with fail
  go_ret
  refine ⟨⟨w.heap.size, rfl, Nat.le_refl _, ⟨.slice none 0 0, none, 0, rfl, ?_, blk_new w _, Kd.R_nil _ _ _ _ _, Nat.le_refl _, Kd.F_nil _ _ _⟩, below_alloc (Below.refl _ _) _⟩⟩
  intro k hk
  simp [hk]

set_option maxHeartbeats 2000000 in
set_option maxRecDepth 100000 in
theorem out_calls {ok : Nat → Prop} {tb : Nat} {work : Value} {th : Th} (w : World) (h : IsThread ok tb work th w) (hd : th.done = true) (hl : th.out.length < 1000000) :
    Calls Tryz.prog 60 #[.pointer (some ⟨tb, 0, none⟩)] w fun e w1 => ∃ v, e = .returned v ∧ (Kd.int .i64).R 2 w1 w.heap.size (fun k => w.heap.size ≤ k) v th.out ∧ Below w.heap.size w w1 := by
  obtain ⟨lv, A, c, h⟩ := h
  have c5 : w.cell? ⟨tb, 5, none⟩ = some (.bool true) := (blk_cell h.2.2.1 5).trans (by rw [← hd]; rfl)
  have hb2 := blk_alloc h.2.2.1 (.cells #[] 2)
  have c6 : (w.alloc (.cells #[] 2)).cell? ⟨tb, 6, none⟩ = some (.slice A th.out.length c) := (blk_cell hb2 6).trans rfl
  have HE := Aside0.mk (R_empty (Kd.int .i64) 2 w w.heap.size (Nat.le_refl _))
  have HB := Aside0.mk (below_alloc (Below.refl w.heap.size w) (.cells #[] 2))
  have HC := Aside0.mk (Kd.C_below (Kd.F_now h.2.2.2.2.2) (below_alloc (Below.refl _ _) (.cells #[] 2)))
  clear h hd hb2
  go_enter Tryz.func60, Tryz.ntmps60
  go_wp2_with (first | ((with_reducible refine gate_builtin (b := .append) (xs := #[.tmp 12, .tmp 16]) rfl ?_); at_builtin; refine Kd.R_append_rows (Kd.int .i64) (w0 := w) w.heap.size rfl (.tmp 12) (.tmp 16) 24 2 (.int .i64 0) 8 rfl Tryz.underlying24 info_keys rfl (by decide) (by omega) (.slice (some ⟨w.heap.size, 0, none⟩) 0 0) [] th.out A th.out.length c (fun k => w.heap.size ≤ k) (fun _ => False) rfl rfl HE.out HC.out (fun _ _ h => h) (fun _ hk => hk.elim) (fun k hk => by simp at hk; omega) HB.out (by simp) (by simp; omega) ?_; intro v5 w5 ho hb5 hg hat; have HO := Aside0.mk ho; have HB5 := Aside0.mk hb5; clear ho hb5 hg hat HE HB HC))
  go_ret
  exact ⟨_, rfl, HO.out, HB5.out⟩
end Go.Proofs.YtchjjoepikcmfaaGreat.Tower
