import Derived.Test.YtkommjibpeklgaaPScriptDecodesx0
namespace Go.Proofs.Ytkommjibpeklgaa.PScriptDecodes
open Go.RowKit Go.Proofs.YtkommjibpeklgaaW.PrintWords Go.Proofs.YtkommjibpeklgaaW.PrintLast Go.Proofs.YtkommjibpeklgaaW.PrintMore
attribute [local go_sem] max2_int min2_int max_two min_two max_three min_three max_four min_four   -- for this text's walks alone
set_option linter.unusedVariables false
set_option linter.unusedSimpArgs false

/-! ### boscagelaw24_op: function 28 -/
mutual
def boscagelaw24_op.j0 : Nat → Int → List Int → Int → Int → Int → Int → Option (Int × Int × Int × Int)
  | 0, _, _, _, _, _, _ => none
  | k + 1, x0, x1, x222000, x222001, x222002, x222003 => if (x1.length : Int) > 1 then (if x0 = 1 then (boscagelaw24_op.j1 k x1 true x222000 x222001 x222002 x222003) else (boscagelaw24_op.j1 k x1 (x0 == 2) x222000 x222001 x222002 x222003)) else (boscagelaw24_op.j1 k x1 false x222000 x222001 x222002 x222003)
def boscagelaw24_op.j1 : Nat → List Int → Bool → Int → Int → Int → Int → Option (Int × Int × Int × Int)
  | 0, _, _, _, _, _, _ => none
  | k + 1, x1, x25, x222000, x222001, x222002, x222003 => if x25 = true then (if 1 < (x1.length : Int) then (some (x222000, x222001, x222002, rd x1 1)) else (none)) else (if (x1.length : Int) > 1 then (if 1 < (x1.length : Int) then (some (x222000, x222001, rd x1 1, x222003)) else (none)) else (some (x222000, x222001, x222002, x222003)))
end
def boscagelaw24_op.f (k : Nat) (a0 : Int) (l1 : List Int) : Option (Int × Int × Int × Int) := if (l1.length : Int) > 0 then (if 0 < (l1.length : Int) then (boscagelaw24_op.j0 k a0 l1 a0 (rd l1 0) 0 0) else (none)) else (boscagelaw24_op.j0 k a0 l1 a0 0 0 0)
theorem boscagelaw24_op.mono_l : ∀ k, (∀ y0 y1 y2 y3 y4 y5, LeO (boscagelaw24_op.j0 k y0 y1 y2 y3 y4 y5) (boscagelaw24_op.j0 (k + 1) y0 y1 y2 y3 y4 y5)) ∧ (∀ y0 y1 y2 y3 y4 y5, LeO (boscagelaw24_op.j1 k y0 y1 y2 y3 y4 y5) (boscagelaw24_op.j1 (k + 1) y0 y1 y2 y3 y4 y5))
  | 0 => ⟨fun _ _ _ _ _ _ r h => by simp [boscagelaw24_op.j0] at h, fun _ _ _ _ _ _ r h => by simp [boscagelaw24_op.j1] at h⟩
  | k + 1 => by
    obtain ⟨ih0, ih1⟩ := boscagelaw24_op.mono_l k
    refine ⟨?_, ?_⟩
    · intro y0 y1 y2 y3 y4 y5
      unfold boscagelaw24_op.j0
      repeat' first
      | (with_reducible exact ih0 _ _ _ _ _ _)
      | (with_reducible exact ih1 _ _ _ _ _ _)
      | (with_reducible exact LeO.refl _)
      | (with_reducible exact LeO.none _)
      | (with_reducible refine LeO.ite ?_ ?_)
      | (with_reducible refine LeO.bind ?_ (fun _ => ?_))
      | exact ih0 _ _ _ _ _ _
      | exact ih1 _ _ _ _ _ _
      | exact LeO.none _
      | refine LeO.ite ?_ ?_
      | refine LeO.bind ?_ (fun _ => ?_)
    · intro y0 y1 y2 y3 y4 y5
      unfold boscagelaw24_op.j1
      repeat' first
      | (with_reducible exact ih0 _ _ _ _ _ _)
      | (with_reducible exact ih1 _ _ _ _ _ _)
      | (with_reducible exact LeO.refl _)
      | (with_reducible exact LeO.none _)
      | (with_reducible refine LeO.ite ?_ ?_)
      | (with_reducible refine LeO.bind ?_ (fun _ => ?_))
      | exact ih0 _ _ _ _ _ _
      | exact ih1 _ _ _ _ _ _
      | exact LeO.none _
      | refine LeO.ite ?_ ?_
      | refine LeO.bind ?_ (fun _ => ?_)
theorem boscagelaw24_op.mono : ∀ a0 a1 k, LeO (boscagelaw24_op.f k a0 a1) (boscagelaw24_op.f (k + 1) a0 a1) := by
  intro a0 a1 k
  obtain ⟨ih0, ih1⟩ := boscagelaw24_op.mono_l k
  unfold boscagelaw24_op.f
  repeat' first
      | (with_reducible exact ih0 _ _ _ _ _ _)
      | (with_reducible exact ih1 _ _ _ _ _ _)
      | (with_reducible exact LeO.refl _)
      | (with_reducible exact LeO.none _)
      | (with_reducible refine LeO.ite ?_ ?_)
      | (with_reducible refine LeO.bind ?_ (fun _ => ?_))
      | exact ih0 _ _ _ _ _ _
      | exact ih1 _ _ _ _ _ _
      | exact LeO.none _
      | refine LeO.ite ?_ ?_
      | refine LeO.bind ?_ (fun _ => ?_)
set_option maxHeartbeats 8000000 in
set_option maxRecDepth 100000 in
theorem boscagelaw24_op.calls (k : Nat) (a0 : Int) (A1 : Option Addr) (c1 : Nat) (l1 : List Int) (r1 : Int) (r2 : Int) (r3 : Int) (r4 : Int) (w : World) (hr1 : Kd.C (Kd.int .i64) w A1 l1.length l1) (hc1 : l1.length ≤ c1) (h : boscagelaw24_op.f k a0 l1 = some (r1, r2, r3, r4)) :
    Calls Try.prog 28 #[.int .u8 a0, .slice A1 l1.length c1] w fun e w' => e = .returned (.agg #[.int .u8 r1, .int .i64 r2, .int .i64 r3, .int .i64 r4]) ∧ Below w.heap.size w w' := by
  have hu25 := Try.underlying25
  have HR1 := Aside0.mk hr1
  have HC1 := Aside0.mk hc1
  clear hr1 hc1
  have HB := Aside0.mk (Below.refl w.heap.size w)
  have H : (if (l1.length : Int) > 0 then (if 0 < (l1.length : Int) then (boscagelaw24_op.j0 k a0 l1 a0 (rd l1 0) 0 0) else (none)) else (boscagelaw24_op.j0 k a0 l1 a0 0 0 0)) = some (r1, r2, r3, r4) := h
  clear h
  have HC3 := Aside0.mk H
  clear H
  go_enter Try.func28, Try.ntmps28
  go_upto_if 10 with (first | ((with_reducible refine gate_dst (N := 4) rfl ?_); refine box_event ?hg (N := 4) ?hd (cs := #[.int .u8 0, .int .i64 0, .int .i64 0, .int .i64 0]) (t := 25) ?hr ?_; (case hd => rfl); (case hg => rfl); (case hr => first | (go_simp; done) | (go_simp; rfl)); intro gb220 hg w4 hbox hb; have n0_ := Aside0.mk (below_step (by repeat (first | (with_reducible first | exact HB.out | apply below_alloc | apply pw_below_drewN | apply below_drew1) | exact HB.out)) hb); have n1_ := Aside0.mk (hbox); have n2_ := Aside0.mk ((by rw [hg]; exact (below_size (by repeat (first | (with_reducible first | exact HB.out | apply below_alloc | apply pw_below_drewN | apply below_drew1) | exact HB.out))) : w.heap.size ≤ gb220)); have n3_ := Aside0.mk ((by rw [hg]; exact (below_size (by repeat (first | (with_reducible first | exact HB.out | apply below_alloc | apply pw_below_drewN | apply below_drew1) | exact HB.out))) : w.heap.size ≤ gb220)); clear HB; have HB := n0_; have BK220 := n1_; have GW220 := n2_; have GE220 := n3_; clear n0_ n1_ n2_ n3_; clear hb hbox hg) | ((with_reducible refine gate_dst (N := 5) rfl ?_); refine box_event ?hg (N := 5) ?hd (cs := #[.int .u8 0, .int .i64 0, .int .i64 0, .int .i64 0]) (t := 25) ?hr ?_; (case hd => rfl); (case hg => rfl); (case hr => first | (go_simp; done) | (go_simp; rfl)); intro gb221 hg w5 hbox hb; have n0_ := Aside0.mk (blk_below (g := gb220) (o := .cells #[.int .u8 0, .int .i64 0, .int .i64 0, .int .i64 0] 25 (0, 0)) (by (with_reducible repeat (first | refine blk_drewN ?_ _ | refine blk_drew ?_ | refine blk_alloc ?_ _)); exact BK220.out) hb); have n1_ := Aside0.mk (below_step (by repeat (first | (with_reducible first | exact HB.out | apply below_alloc | apply pw_below_drewN | apply below_drew1 | refine below_set ?_ GE220.out) | exact HB.out)) hb); have n2_ := Aside0.mk (hbox); have n3_ := Aside0.mk ((by rw [hg]; exact (below_size (by repeat (first | (with_reducible first | exact HB.out | apply below_alloc | apply pw_below_drewN | apply below_drew1 | refine below_set ?_ GE220.out) | exact HB.out))) : w.heap.size ≤ gb221)); have n4_ := Aside0.mk ((by rw [hg]; exact (below_size (by repeat (first | (with_reducible first | exact HB.out | apply below_alloc | apply pw_below_drewN | apply below_drew1 | refine below_set ?_ GE220.out) | exact HB.out))) : w.heap.size ≤ gb221)); have n5_ := Aside0.mk ((by rw [hg]; exact Nat.ne_of_lt (blk_lt (g := gb220) (o := .cells #[.int .u8 0, .int .i64 0, .int .i64 0, .int .i64 0] 25 (0, 0)) (by (with_reducible repeat (first | refine blk_drewN ?_ _ | refine blk_drew ?_ | refine blk_alloc ?_ _)); exact BK220.out)) : gb220 ≠ gb221)); have n6_ := Aside0.mk ((by rw [hg]; exact Nat.ne_of_gt (blk_lt (g := gb220) (o := .cells #[.int .u8 0, .int .i64 0, .int .i64 0, .int .i64 0] 25 (0, 0)) (by (with_reducible repeat (first | refine blk_drewN ?_ _ | refine blk_drew ?_ | refine blk_alloc ?_ _)); exact BK220.out)) : gb221 ≠ gb220)); clear BK220; clear HB; have BK220 := n0_; have HB := n1_; have BK221 := n2_; have GW221 := n3_; have GE221 := n4_; have NB220_221 := n5_; have NB221_220 := n6_; clear n0_ n1_ n2_ n3_ n4_ n5_ n6_; clear hb hbox hg; have hnb6 := NB221_220.out; have hnc6 := NB220_221.out; have hcz7_0 : w5.cell? ⟨gb221, 0, none⟩ = some (.int .u8 0) := (blk_cell BK221.out 0).trans rfl; have hcz7_1 : w5.cell? ⟨gb221, 1, none⟩ = some (.int .i64 0) := (blk_cell BK221.out 1).trans rfl; have hcz7_2 : w5.cell? ⟨gb221, 2, none⟩ = some (.int .i64 0) := (blk_cell BK221.out 2).trans rfl; have hcz7_3 : w5.cell? ⟨gb221, 3, none⟩ = some (.int .i64 0) := (blk_cell BK221.out 3).trans rfl; have hfz7_0 := blk_frozen BK221.out 0; have hfz7_1 := blk_frozen BK221.out 1; have hfz7_2 := blk_frozen BK221.out 2; have hfz7_3 := blk_frozen BK221.out 3))
  (try simp only [Act.put, List.setIfInBounds_toArray, List.set_cons_zero, List.set_cons_succ])
  go_cut [] (fun wc => ∃ (kq : Nat) (x222001_2 : Int), Aside0 (boscagelaw24_op.j0 kq a0 l1 a0 x222001_2 0 0 = some (r1, r2, r3, r4)) ∧ Aside0 (kq ≤ k) ∧ Aside0 (wc.heap[gb220]? = some (.cells #[.int .u8 0, .int .i64 0, .int .i64 0, .int .i64 0] 25 (0, 0))) ∧ Aside0 (wc.heap[gb221]? = some (.cells #[.int .u8 a0, .int .i64 x222001_2, .int .i64 0, .int .i64 0] 25 (0, 0))) ∧ Aside0 (Below w.heap.size w wc))
  case first =>
    have H := HC3.out
    clear HC3
    by_cases c8 : (l1.length : Int) > 0
    · rw [if_pos c8] at H
      have c8b0 : decide (0 < (l1.length : Int)) = true := decide_eq_true c8
      have c8b1 : decide (0 < l1.length) = true := decide_eq_true (by omega)
      have c8b2 : ∀ inst : Decidable (0 < l1.length), @decide (0 < l1.length) inst = true := fun inst => by exact @decide_eq_true _ inst (by omega)
      (try simp only [c8b2])
      clear c8b2
      clear c8
      (first | rw [c8b0] | (simp only [i64_w, i32_w]; rw [c8b0]) | skip)
      by_cases c9 : 0 < (l1.length : Int)
      · rw [if_pos c9] at H
        have c9b0 : decide (0 < (l1.length : Int)) = true := decide_eq_true c9
        have c9b1 : decide (0 < l1.length) = true := decide_eq_true (by omega)
        have c9b2 : ∀ inst : Decidable (0 < l1.length), @decide (0 < l1.length) inst = true := fun inst => by exact @decide_eq_true _ inst (by omega)
        (try simp only [c9b2])
        clear c9b2
        clear c9
        have H' := Aside0.mk H
        clear H
        have p222 : 0 ≤ (0 : Int) := (by omega)
        have q222 : 0 < (l1.length : Int) := of_decide_eq_true (by first | (with_reducible assumption) | assumption)
        obtain ⟨ad222, e222, hx222_0⟩ := Kd.at_int HR1.out 0 p222 q222
        cases e222
        have qi222 : (0 < l1.length) = True := eq_true (by omega)
        (try rw [show ((0 : Int)).toNat = 0 from rfl] at hx222_0)
        (try rw [Addr.add_zero'] at hx222_0)
        have hn222_0 : ad222.block ≠ gb221 := Nat.ne_of_lt (Nat.lt_of_lt_of_le (by have := World.block_lt_of_cell? _ _ hx222_0; first | rwa [add_block] at this | exact this) GW221.out)
        have hn222_1 : ad222.block ≠ gb221 := Nat.ne_of_lt (Nat.lt_of_lt_of_le (by have := World.block_lt_of_cell? _ _ hx222_0; first | rwa [add_block] at this | exact this) GW221.out)
        have hn222_2 : ad222.block ≠ gb221 := Nat.ne_of_lt (Nat.lt_of_lt_of_le (by have := World.block_lt_of_cell? _ _ hx222_0; first | rwa [add_block] at this | exact this) GW221.out)
        have hn222_3 : ad222.block ≠ gb221 := Nat.ne_of_lt (Nat.lt_of_lt_of_le (by have := World.block_lt_of_cell? _ _ hx222_0; first | rwa [add_block] at this | exact this) GW221.out)
        replace hx222_0 := (HB.out.cell (World.block_lt_of_cell? w _ hx222_0)).trans hx222_0
        replace hx222_0 := (cell_far (p := ⟨gb221, 0, none⟩) (by first | (rw [add_block]; exact hn222_0) | (show (Addr.add _ _).block ≠ _; rw [add_block]; exact hn222_0) | exact hn222_0) (.int .u8 a0)).trans hx222_0
        replace hx222_0 := (cell_far (p := ⟨gb221, 1, none⟩) (by first | (rw [add_block]; exact hn222_1) | (show (Addr.add _ _).block ≠ _; rw [add_block]; exact hn222_1) | exact hn222_1) (.int .i64 0)).trans hx222_0
        replace hx222_0 := (cell_far (p := ⟨gb221, 2, none⟩) (by first | (rw [add_block]; exact hn222_2) | (show (Addr.add _ _).block ≠ _; rw [add_block]; exact hn222_2) | exact hn222_2) (.int .i64 0)).trans hx222_0
        replace hx222_0 := (cell_far (p := ⟨gb221, 3, none⟩) (by first | (rw [add_block]; exact hn222_3) | (show (Addr.add _ _).block ≠ _; rw [add_block]; exact hn222_3) | exact hn222_3) (.int .i64 0)).trans hx222_0
        clear hn222_0
        clear hn222_1
        clear hn222_2
        clear hn222_3
        replace p222 := eq_true p222
        replace q222 := eq_true q222
        have hnb10 := NB221_220.out
        have hnc10 := NB220_221.out
        have hcz11_0 : w5.cell? ⟨gb221, 0, none⟩ = some (.int .u8 0) := (blk_cell BK221.out 0).trans rfl
        have hcz11_1 : w5.cell? ⟨gb221, 1, none⟩ = some (.int .i64 0) := (blk_cell BK221.out 1).trans rfl
        have hcz11_2 : w5.cell? ⟨gb221, 2, none⟩ = some (.int .i64 0) := (blk_cell BK221.out 2).trans rfl
        have hcz11_3 : w5.cell? ⟨gb221, 3, none⟩ = some (.int .i64 0) := (blk_cell BK221.out 3).trans rfl
        have hfz11_0 := blk_frozen BK221.out 0
        have hfz11_1 := blk_frozen BK221.out 1
        have hfz11_2 := blk_frozen BK221.out 2
        have hfz11_3 := blk_frozen BK221.out 3
        go_wp2
        go_meet
        case rel => exact ⟨_, (rd l1 0), H', ⟨by first | omega | exact Nat.le_refl _⟩, ⟨by (with_reducible repeat (first | refine blk_drewN ?_ _ | refine blk_drew ?_ | refine blk_alloc ?_ _)); refine blk_far ?_ NB220_221.out _; (with_reducible repeat (first | refine blk_drewN ?_ _ | refine blk_drew ?_ | refine blk_alloc ?_ _)); refine blk_far ?_ NB220_221.out _; (with_reducible repeat (first | refine blk_drewN ?_ _ | refine blk_drew ?_ | refine blk_alloc ?_ _)); refine blk_far ?_ NB220_221.out _; (with_reducible repeat (first | refine blk_drewN ?_ _ | refine blk_drew ?_ | refine blk_alloc ?_ _)); refine blk_far ?_ NB220_221.out _; (with_reducible repeat (first | refine blk_drewN ?_ _ | refine blk_drew ?_ | refine blk_alloc ?_ _)); refine blk_far ?_ NB220_221.out _; (with_reducible repeat (first | refine blk_drewN ?_ _ | refine blk_drew ?_ | refine blk_alloc ?_ _)); exact BK220.out⟩, ⟨by (with_reducible repeat (first | refine blk_drewN ?_ _ | refine blk_drew ?_ | refine blk_alloc ?_ _)); refine blk_put (cs := #[.int .u8 a0, .int .i64 0, .int .i64 0, .int .i64 0]) ?_ 1 _ rfl; (with_reducible repeat (first | refine blk_drewN ?_ _ | refine blk_drew ?_ | refine blk_alloc ?_ _)); refine blk_put (cs := #[.int .u8 a0, .int .i64 0, .int .i64 0, .int .i64 0]) ?_ 3 _ rfl; (with_reducible repeat (first | refine blk_drewN ?_ _ | refine blk_drew ?_ | refine blk_alloc ?_ _)); refine blk_put (cs := #[.int .u8 a0, .int .i64 0, .int .i64 0, .int .i64 0]) ?_ 2 _ rfl; (with_reducible repeat (first | refine blk_drewN ?_ _ | refine blk_drew ?_ | refine blk_alloc ?_ _)); refine blk_put (cs := #[.int .u8 a0, .int .i64 0, .int .i64 0, .int .i64 0]) ?_ 1 _ rfl; (with_reducible repeat (first | refine blk_drewN ?_ _ | refine blk_drew ?_ | refine blk_alloc ?_ _)); refine blk_put (cs := #[.int .u8 0, .int .i64 0, .int .i64 0, .int .i64 0]) ?_ 0 _ rfl; (with_reducible repeat (first | refine blk_drewN ?_ _ | refine blk_drew ?_ | refine blk_alloc ?_ _)); exact BK221.out⟩, ⟨by repeat (first | (with_reducible first | exact HB.out | apply below_alloc | apply pw_below_drewN | apply below_drew1 | refine below_set ?_ GE220.out | refine below_set ?_ GE221.out) | exact HB.out)⟩⟩
      · rw [if_neg c9] at H
        exact absurd H (by simp)
    · rw [if_neg c8] at H
      have c8b0 : decide (0 < (l1.length : Int)) = false := decide_eq_false c8
      have c8b1 : decide (0 < l1.length) = false := decide_eq_false (by omega)
      have c8b2 : ∀ inst : Decidable (0 < l1.length), @decide (0 < l1.length) inst = false := fun inst => by exact @decide_eq_false _ inst (by omega)
      (try simp only [c8b2])
      clear c8b2
      clear c8
      (first | rw [c8b0] | (simp only [i64_w, i32_w]; rw [c8b0]) | skip)
      have H' := Aside0.mk H
      clear H
      go_wp2
      go_meet
      case rel => exact ⟨_, (0), H', ⟨by first | omega | exact Nat.le_refl _⟩, ⟨by (with_reducible repeat (first | refine blk_drewN ?_ _ | refine blk_drew ?_ | refine blk_alloc ?_ _)); refine blk_far ?_ NB220_221.out _; (with_reducible repeat (first | refine blk_drewN ?_ _ | refine blk_drew ?_ | refine blk_alloc ?_ _)); refine blk_far ?_ NB220_221.out _; (with_reducible repeat (first | refine blk_drewN ?_ _ | refine blk_drew ?_ | refine blk_alloc ?_ _)); refine blk_far ?_ NB220_221.out _; (with_reducible repeat (first | refine blk_drewN ?_ _ | refine blk_drew ?_ | refine blk_alloc ?_ _)); refine blk_far ?_ NB220_221.out _; (with_reducible repeat (first | refine blk_drewN ?_ _ | refine blk_drew ?_ | refine blk_alloc ?_ _)); exact BK220.out⟩, ⟨by (with_reducible repeat (first | refine blk_drewN ?_ _ | refine blk_drew ?_ | refine blk_alloc ?_ _)); refine blk_put (cs := #[.int .u8 a0, .int .i64 0, .int .i64 0, .int .i64 0]) ?_ 3 _ rfl; (with_reducible repeat (first | refine blk_drewN ?_ _ | refine blk_drew ?_ | refine blk_alloc ?_ _)); refine blk_put (cs := #[.int .u8 a0, .int .i64 0, .int .i64 0, .int .i64 0]) ?_ 2 _ rfl; (with_reducible repeat (first | refine blk_drewN ?_ _ | refine blk_drew ?_ | refine blk_alloc ?_ _)); refine blk_put (cs := #[.int .u8 a0, .int .i64 0, .int .i64 0, .int .i64 0]) ?_ 1 _ rfl; (with_reducible repeat (first | refine blk_drewN ?_ _ | refine blk_drew ?_ | refine blk_alloc ?_ _)); refine blk_put (cs := #[.int .u8 0, .int .i64 0, .int .i64 0, .int .i64 0]) ?_ 0 _ rfl; (with_reducible repeat (first | refine blk_drewN ?_ _ | refine blk_drew ?_ | refine blk_alloc ?_ _)); exact BK221.out⟩, ⟨by repeat (first | (with_reducible first | exact HB.out | apply below_alloc | apply pw_below_drewN | apply below_drew1 | refine below_set ?_ GE220.out | refine below_set ?_ GE221.out) | exact HB.out)⟩⟩
  case rest =>
    clear HC3
    try clear c1
    try clear c2
    try clear p2
    try clear q2
    try clear hx2
    try clear qi2
    try clear c6
    try clear c8
    try clear c8b0
    try clear c8b1
    try clear c9
    try clear c9b0
    try clear c9b1
    try clear c10
    try clear hcz11_0
    try clear hcz11_1
    try clear hcz11_2
    try clear hcz11_3
    try clear hcz7_0
    try clear hcz7_1
    try clear hcz7_2
    try clear hcz7_3
    try clear hfz11_0
    try clear hfz11_1
    try clear hfz11_2
    try clear hfz11_3
    try clear hfz7_0
    try clear hfz7_1
    try clear hfz7_2
    try clear hfz7_3
    try clear hx222_0
    try clear p222
    try clear q222
    obtain ⟨kq, x222001_2, HA, HJ2, BK220, BK221, HB⟩ := hcut
    cases kq with
    | zero => exact absurd HA.out (by simp [boscagelaw24_op.j0])
    | succ kj2 =>
      have H := HA.out
      clear HA
      simp only [boscagelaw24_op.j0] at H
      have HC12 := Aside0.mk H
      clear H
      go_upto_region 4 with (fail)
      go_cut [25] (fun v25 wc => ∃ (kq : Nat) (x25_11 : Bool), v25 = .bool x25_11 ∧ Aside0 (boscagelaw24_op.j1 kq l1 x25_11 a0 x222001_2 0 0 = some (r1, r2, r3, r4)) ∧ Aside0 (kq ≤ kj2) ∧ Aside0 (wc.heap[gb220]? = some (.cells #[.int .u8 0, .int .i64 0, .int .i64 0, .int .i64 0] 25 (0, 0))) ∧ Aside0 (wc.heap[gb221]? = some (.cells #[.int .u8 a0, .int .i64 x222001_2, .int .i64 0, .int .i64 0] 25 (0, 0))) ∧ Aside0 (Below w.heap.size w wc))
      case first =>
        have H := HC12.out
        clear HC12
        by_cases c13 : (l1.length : Int) > 1
        · rw [if_pos c13] at H
          have c13b0 : decide (1 < (l1.length : Int)) = true := decide_eq_true c13
          have c13b1 : decide (1 < l1.length) = true := decide_eq_true (by omega)
          have c13b2 : ∀ inst : Decidable (1 < l1.length), @decide (1 < l1.length) inst = true := fun inst => by exact @decide_eq_true _ inst (by omega)
          (try simp only [c13b2])
          clear c13b2
          clear c13
          (first | rw [c13b0] | (simp only [i64_w, i32_w]; rw [c13b0]) | skip)
          by_cases c14 : a0 = 1
          · rw [if_pos c14] at H
            have c14b0 : (a0 == 1) = true := beq_iff_eq.mpr c14
            have c14b1 : (a0 != 1) = false := bne_eq_false_iff_eq.mpr c14
            clear c14
            have H' := Aside0.mk H
            clear H
            go_wp2
            go_meet
            case rel => exact ⟨_, (true), (by first | rfl | (simp; done) | (simp [*]; done)), H', ⟨by have := HJ2.out; first | omega | exact Nat.le_refl _⟩, ⟨by (with_reducible repeat (first | refine blk_drewN ?_ _ | refine blk_drew ?_ | refine blk_alloc ?_ _)); exact BK220.out⟩, ⟨by (with_reducible repeat (first | refine blk_drewN ?_ _ | refine blk_drew ?_ | refine blk_alloc ?_ _)); exact BK221.out⟩, ⟨by repeat (first | (with_reducible first | exact HB.out | apply below_alloc | apply pw_below_drewN | apply below_drew1 | refine below_set ?_ GE220.out | refine below_set ?_ GE221.out) | exact HB.out)⟩⟩
          · rw [if_neg c14] at H
            have c14b0 : (a0 == 1) = false := beq_eq_false_iff_ne.mpr c14
            have c14b1 : (a0 != 1) = true := bne_iff_ne.mpr c14
            have H' := Aside0.mk H
            clear H
            go_wp2
            go_meet
            case rel => exact ⟨_, ((a0 == 2)), (by first | rfl | (simp; done) | (simp [*]; done)), H', ⟨by have := HJ2.out; first | omega | exact Nat.le_refl _⟩, ⟨by (with_reducible repeat (first | refine blk_drewN ?_ _ | refine blk_drew ?_ | refine blk_alloc ?_ _)); exact BK220.out⟩, ⟨by (with_reducible repeat (first | refine blk_drewN ?_ _ | refine blk_drew ?_ | refine blk_alloc ?_ _)); exact BK221.out⟩, ⟨by repeat (first | (with_reducible first | exact HB.out | apply below_alloc | apply pw_below_drewN | apply below_drew1 | refine below_set ?_ GE220.out | refine below_set ?_ GE221.out) | exact HB.out)⟩⟩
        · rw [if_neg c13] at H
          have c13b0 : decide (1 < (l1.length : Int)) = false := decide_eq_false c13
          have c13b1 : decide (1 < l1.length) = false := decide_eq_false (by omega)
          have c13b2 : ∀ inst : Decidable (1 < l1.length), @decide (1 < l1.length) inst = false := fun inst => by exact @decide_eq_false _ inst (by omega)
          (try simp only [c13b2])
          clear c13b2
          clear c13
          (first | rw [c13b0] | (simp only [i64_w, i32_w]; rw [c13b0]) | skip)
          have H' := Aside0.mk H
          clear H
          go_wp2
          go_meet
          case rel => exact ⟨_, (false), (by first | rfl | (simp; done) | (simp [*]; done)), H', ⟨by have := HJ2.out; first | omega | exact Nat.le_refl _⟩, ⟨by (with_reducible repeat (first | refine blk_drewN ?_ _ | refine blk_drew ?_ | refine blk_alloc ?_ _)); exact BK220.out⟩, ⟨by (with_reducible repeat (first | refine blk_drewN ?_ _ | refine blk_drew ?_ | refine blk_alloc ?_ _)); exact BK221.out⟩, ⟨by repeat (first | (with_reducible first | exact HB.out | apply below_alloc | apply pw_below_drewN | apply below_drew1 | refine below_set ?_ GE220.out | refine below_set ?_ GE221.out) | exact HB.out)⟩⟩
      case rest =>
        clear HC12
        try clear c1
        try clear c2
        try clear p2
        try clear q2
        try clear hx2
        try clear qi2
        try clear c6
        try clear c8
        try clear c8b0
        try clear c8b1
        try clear c9
        try clear c9b0
        try clear c9b1
        try clear c10
        try clear c13
        try clear c13b0
        try clear c13b1
        try clear c14
        try clear c14b0
        try clear c14b1
        try clear hcz11_0
        try clear hcz11_1
        try clear hcz11_2
        try clear hcz11_3
        try clear hcz7_0
        try clear hcz7_1
        try clear hcz7_2
        try clear hcz7_3
        try clear hfz11_0
        try clear hfz11_1
        try clear hfz11_2
        try clear hfz11_3
        try clear hfz7_0
        try clear hfz7_1
        try clear hfz7_2
        try clear hfz7_3
        try clear hx222_0
        try clear p2
        try clear p222
        try clear q2
        try clear q222
        obtain ⟨kq, x25_11, rfl, HA, HJ11, BK220, BK221, HB⟩ := hcut
        cases kq with
        | zero => exact absurd HA.out (by simp [boscagelaw24_op.j1])
        | succ kj11 =>
          have H := HA.out
          clear HA
          simp only [boscagelaw24_op.j1] at H
          by_cases c15 : x25_11 = true
          · subst c15
            have H1 : (if 1 < (l1.length : Int) then (some (a0, x222001_2, 0, rd l1 1)) else (none)) = some (r1, r2, r3, r4) := by rw [if_pos rfl] at H; exact H
            clear H
            have H := H1
            clear H1
            by_cases c16 : 1 < (l1.length : Int)
            · rw [if_pos c16] at H
              have c16b0 : decide (1 < (l1.length : Int)) = true := decide_eq_true c16
              have c16b1 : decide (1 < l1.length) = true := decide_eq_true (by omega)
              have c16b2 : ∀ inst : Decidable (1 < l1.length), @decide (1 < l1.length) inst = true := fun inst => by exact @decide_eq_true _ inst (by omega)
              (try simp only [c16b2])
              clear c16b2
              clear c16
              simp only [Option.some.injEq, Prod.mk.injEq] at H
              obtain ⟨rfl, rfl, rfl, rfl⟩ := H
              have p223 : 0 ≤ (1 : Int) := (by omega)
              have q223 : 1 < (l1.length : Int) := of_decide_eq_true (by first | (with_reducible assumption) | assumption)
              obtain ⟨ad223, e223, hx223_0⟩ := Kd.at_int HR1.out 1 p223 q223
              cases e223
              (try simp only [show (1 : Int).toNat = 1 from rfl, Nat.reduceMul, Nat.reduceEqDiff, Go.Addr.add, ↓reduceIte] at hx223_0)
              have qi223 : (1 < l1.length) = True := eq_true (by omega)
              (try rw [show ((1 : Int)).toNat = 1 from rfl] at hx223_0)
              replace hx223_0 := (HB.out.cell (World.block_lt_of_cell? w _ hx223_0)).trans hx223_0
              replace p223 := eq_true p223
              replace q223 := eq_true q223
              have hnb17 := NB221_220.out
              have hnc17 := NB220_221.out
              have hcz18_0 : wc.cell? ⟨gb221, 0, none⟩ = some (.int .u8 a0) := (blk_cell BK221.out 0).trans rfl
              have hcz18_1 : wc.cell? ⟨gb221, 1, none⟩ = some (.int .i64 x222001_2) := (blk_cell BK221.out 1).trans rfl
              have hcz18_2 : wc.cell? ⟨gb221, 2, none⟩ = some (.int .i64 0) := (blk_cell BK221.out 2).trans rfl
              have hcz18_3 : wc.cell? ⟨gb221, 3, none⟩ = some (.int .i64 0) := (blk_cell BK221.out 3).trans rfl
              have hfz18_0 := blk_frozen BK221.out 0
              have hfz18_1 := blk_frozen BK221.out 1
              have hfz18_2 := blk_frozen BK221.out 2
              have hfz18_3 := blk_frozen BK221.out 3
              have hcz19_0 : wc.cell? ⟨gb220, 0, none⟩ = some (.int .u8 0) := (blk_cell BK220.out 0).trans rfl
              have hcz19_1 : wc.cell? ⟨gb220, 1, none⟩ = some (.int .i64 0) := (blk_cell BK220.out 1).trans rfl
              have hcz19_2 : wc.cell? ⟨gb220, 2, none⟩ = some (.int .i64 0) := (blk_cell BK220.out 2).trans rfl
              have hcz19_3 : wc.cell? ⟨gb220, 3, none⟩ = some (.int .i64 0) := (blk_cell BK220.out 3).trans rfl
              have hfz19_0 := blk_frozen BK220.out 0
              have hfz19_1 := blk_frozen BK220.out 1
              have hfz19_2 := blk_frozen BK220.out 2
              have hfz19_3 := blk_frozen BK220.out 3
              go_wp2
              refine bodyPost_ret (results_cell_row rfl _ _ gb220 25 #[.int .u8 a0, .int .i64 x222001_2, .int .i64 0, .int .i64 (rd l1 1)] (0, 0) _ rfl (by (with_reducible repeat (first | refine blk_drewN ?_ _ | refine blk_drew ?_ | refine blk_alloc ?_ _)); refine blk_put (cs := #[.int .u8 a0, .int .i64 x222001_2, .int .i64 0, .int .i64 0]) ?_ 3 _ rfl; (with_reducible repeat (first | refine blk_drewN ?_ _ | refine blk_drew ?_ | refine blk_alloc ?_ _)); refine blk_put (cs := #[.int .u8 a0, .int .i64 x222001_2, .int .i64 0, .int .i64 0]) ?_ 2 _ rfl; (with_reducible repeat (first | refine blk_drewN ?_ _ | refine blk_drew ?_ | refine blk_alloc ?_ _)); refine blk_put (cs := #[.int .u8 a0, .int .i64 0, .int .i64 0, .int .i64 0]) ?_ 1 _ rfl; (with_reducible repeat (first | refine blk_drewN ?_ _ | refine blk_drew ?_ | refine blk_alloc ?_ _)); refine blk_put (cs := #[.int .u8 0, .int .i64 0, .int .i64 0, .int .i64 0]) ?_ 0 _ rfl; (with_reducible repeat (first | refine blk_drewN ?_ _ | refine blk_drew ?_ | refine blk_alloc ?_ _)); refine blk_far ?_ NB220_221.out _; (with_reducible repeat (first | refine blk_drewN ?_ _ | refine blk_drew ?_ | refine blk_alloc ?_ _)); exact BK220.out) Try.underlying25 rfl (by kernel_rfl)) rfl ?_
              exact ⟨by first | rfl | (simp [errW_none, errW_some] <;> rfl) | (simp [*, errW_none, errW_some] <;> rfl), by repeat (first | (with_reducible first | exact HB.out | apply below_alloc | apply pw_below_drewN | apply below_drew1 | refine below_set ?_ GE220.out | refine below_set ?_ GE221.out) | exact HB.out)⟩
            · rw [if_neg c16] at H
              exact absurd H (by simp)
          · replace c15 := Bool.eq_false_iff.mpr c15
            subst c15
            have H1 : (if (l1.length : Int) > 1 then (if 1 < (l1.length : Int) then (some (a0, x222001_2, rd l1 1, 0)) else (none)) else (some (a0, x222001_2, 0, 0))) = some (r1, r2, r3, r4) := by rw [if_neg (show ¬ (false = true) by decide)] at H; exact H
            clear H
            have H := H1
            clear H1
            by_cases c20 : (l1.length : Int) > 1
            · rw [if_pos c20] at H
              have c20b0 : decide (1 < (l1.length : Int)) = true := decide_eq_true c20
              have c20b1 : decide (1 < l1.length) = true := decide_eq_true (by omega)
              have c20b2 : ∀ inst : Decidable (1 < l1.length), @decide (1 < l1.length) inst = true := fun inst => by exact @decide_eq_true _ inst (by omega)
              (try simp only [c20b2])
              clear c20b2
              clear c20
              by_cases c21 : 1 < (l1.length : Int)
              · rw [if_pos c21] at H
                have c21b0 : decide (1 < (l1.length : Int)) = true := decide_eq_true c21
                have c21b1 : decide (1 < l1.length) = true := decide_eq_true (by omega)
                have c21b2 : ∀ inst : Decidable (1 < l1.length), @decide (1 < l1.length) inst = true := fun inst => by exact @decide_eq_true _ inst (by omega)
                (try simp only [c21b2])
                clear c21b2
                clear c21
                simp only [Option.some.injEq, Prod.mk.injEq] at H
                obtain ⟨rfl, rfl, rfl, rfl⟩ := H
                have p224 : 0 ≤ (1 : Int) := (by omega)
                have q224 : 1 < (l1.length : Int) := of_decide_eq_true (by first | (with_reducible assumption) | assumption)
                obtain ⟨ad224, e224, hx224_0⟩ := Kd.at_int HR1.out 1 p224 q224
                cases e224
                (try simp only [show (1 : Int).toNat = 1 from rfl, Nat.reduceMul, Nat.reduceEqDiff, Go.Addr.add, ↓reduceIte] at hx224_0)
                have qi224 : (1 < l1.length) = True := eq_true (by omega)
                (try rw [show ((1 : Int)).toNat = 1 from rfl] at hx224_0)
                replace hx224_0 := (HB.out.cell (World.block_lt_of_cell? w _ hx224_0)).trans hx224_0
                replace p224 := eq_true p224
                replace q224 := eq_true q224
                have hnb22 := NB221_220.out
                have hnc22 := NB220_221.out
                have hcz23_0 : wc.cell? ⟨gb221, 0, none⟩ = some (.int .u8 a0) := (blk_cell BK221.out 0).trans rfl
                have hcz23_1 : wc.cell? ⟨gb221, 1, none⟩ = some (.int .i64 x222001_2) := (blk_cell BK221.out 1).trans rfl
                have hcz23_2 : wc.cell? ⟨gb221, 2, none⟩ = some (.int .i64 0) := (blk_cell BK221.out 2).trans rfl
                have hcz23_3 : wc.cell? ⟨gb221, 3, none⟩ = some (.int .i64 0) := (blk_cell BK221.out 3).trans rfl
                have hfz23_0 := blk_frozen BK221.out 0
                have hfz23_1 := blk_frozen BK221.out 1
                have hfz23_2 := blk_frozen BK221.out 2
                have hfz23_3 := blk_frozen BK221.out 3
                have hcz24_0 : wc.cell? ⟨gb220, 0, none⟩ = some (.int .u8 0) := (blk_cell BK220.out 0).trans rfl
                have hcz24_1 : wc.cell? ⟨gb220, 1, none⟩ = some (.int .i64 0) := (blk_cell BK220.out 1).trans rfl
                have hcz24_2 : wc.cell? ⟨gb220, 2, none⟩ = some (.int .i64 0) := (blk_cell BK220.out 2).trans rfl
                have hcz24_3 : wc.cell? ⟨gb220, 3, none⟩ = some (.int .i64 0) := (blk_cell BK220.out 3).trans rfl
                have hfz24_0 := blk_frozen BK220.out 0
                have hfz24_1 := blk_frozen BK220.out 1
                have hfz24_2 := blk_frozen BK220.out 2
                have hfz24_3 := blk_frozen BK220.out 3
                go_wp2
                refine bodyPost_ret (results_cell_row rfl _ _ gb220 25 #[.int .u8 a0, .int .i64 x222001_2, .int .i64 (rd l1 1), .int .i64 0] (0, 0) _ rfl (by (with_reducible repeat (first | refine blk_drewN ?_ _ | refine blk_drew ?_ | refine blk_alloc ?_ _)); refine blk_put (cs := #[.int .u8 a0, .int .i64 x222001_2, .int .i64 (rd l1 1), .int .i64 0]) ?_ 3 _ rfl; (with_reducible repeat (first | refine blk_drewN ?_ _ | refine blk_drew ?_ | refine blk_alloc ?_ _)); refine blk_put (cs := #[.int .u8 a0, .int .i64 x222001_2, .int .i64 0, .int .i64 0]) ?_ 2 _ rfl; (with_reducible repeat (first | refine blk_drewN ?_ _ | refine blk_drew ?_ | refine blk_alloc ?_ _)); refine blk_put (cs := #[.int .u8 a0, .int .i64 0, .int .i64 0, .int .i64 0]) ?_ 1 _ rfl; (with_reducible repeat (first | refine blk_drewN ?_ _ | refine blk_drew ?_ | refine blk_alloc ?_ _)); refine blk_put (cs := #[.int .u8 0, .int .i64 0, .int .i64 0, .int .i64 0]) ?_ 0 _ rfl; (with_reducible repeat (first | refine blk_drewN ?_ _ | refine blk_drew ?_ | refine blk_alloc ?_ _)); refine blk_far ?_ NB220_221.out _; (with_reducible repeat (first | refine blk_drewN ?_ _ | refine blk_drew ?_ | refine blk_alloc ?_ _)); exact BK220.out) Try.underlying25 rfl (by kernel_rfl)) rfl ?_
                exact ⟨by first | rfl | (simp [errW_none, errW_some] <;> rfl) | (simp [*, errW_none, errW_some] <;> rfl), by repeat (first | (with_reducible first | exact HB.out | apply below_alloc | apply pw_below_drewN | apply below_drew1 | refine below_set ?_ GE220.out | refine below_set ?_ GE221.out) | exact HB.out)⟩
              · rw [if_neg c21] at H
                exact absurd H (by simp)
            · rw [if_neg c20] at H
              have c20b0 : decide (1 < (l1.length : Int)) = false := decide_eq_false c20
              have c20b1 : decide (1 < l1.length) = false := decide_eq_false (by omega)
              have c20b2 : ∀ inst : Decidable (1 < l1.length), @decide (1 < l1.length) inst = false := fun inst => by exact @decide_eq_false _ inst (by omega)
              (try simp only [c20b2])
              clear c20b2
              clear c20
              simp only [Option.some.injEq, Prod.mk.injEq] at H
              obtain ⟨rfl, rfl, rfl, rfl⟩ := H
              have hnb25 := NB221_220.out
              have hnc25 := NB220_221.out
              have hcz26_0 : wc.cell? ⟨gb221, 0, none⟩ = some (.int .u8 a0) := (blk_cell BK221.out 0).trans rfl
              have hcz26_1 : wc.cell? ⟨gb221, 1, none⟩ = some (.int .i64 x222001_2) := (blk_cell BK221.out 1).trans rfl
              have hcz26_2 : wc.cell? ⟨gb221, 2, none⟩ = some (.int .i64 0) := (blk_cell BK221.out 2).trans rfl
              have hcz26_3 : wc.cell? ⟨gb221, 3, none⟩ = some (.int .i64 0) := (blk_cell BK221.out 3).trans rfl
              have hfz26_0 := blk_frozen BK221.out 0
              have hfz26_1 := blk_frozen BK221.out 1
              have hfz26_2 := blk_frozen BK221.out 2
              have hfz26_3 := blk_frozen BK221.out 3
              have hcz27_0 : wc.cell? ⟨gb220, 0, none⟩ = some (.int .u8 0) := (blk_cell BK220.out 0).trans rfl
              have hcz27_1 : wc.cell? ⟨gb220, 1, none⟩ = some (.int .i64 0) := (blk_cell BK220.out 1).trans rfl
              have hcz27_2 : wc.cell? ⟨gb220, 2, none⟩ = some (.int .i64 0) := (blk_cell BK220.out 2).trans rfl
              have hcz27_3 : wc.cell? ⟨gb220, 3, none⟩ = some (.int .i64 0) := (blk_cell BK220.out 3).trans rfl
              have hfz27_0 := blk_frozen BK220.out 0
              have hfz27_1 := blk_frozen BK220.out 1
              have hfz27_2 := blk_frozen BK220.out 2
              have hfz27_3 := blk_frozen BK220.out 3
              go_wp2
              refine bodyPost_ret (results_cell_row rfl _ _ gb220 25 #[.int .u8 a0, .int .i64 x222001_2, .int .i64 0, .int .i64 0] (0, 0) _ rfl (by (with_reducible repeat (first | refine blk_drewN ?_ _ | refine blk_drew ?_ | refine blk_alloc ?_ _)); refine blk_put (cs := #[.int .u8 a0, .int .i64 x222001_2, .int .i64 0, .int .i64 0]) ?_ 3 _ rfl; (with_reducible repeat (first | refine blk_drewN ?_ _ | refine blk_drew ?_ | refine blk_alloc ?_ _)); refine blk_put (cs := #[.int .u8 a0, .int .i64 x222001_2, .int .i64 0, .int .i64 0]) ?_ 2 _ rfl; (with_reducible repeat (first | refine blk_drewN ?_ _ | refine blk_drew ?_ | refine blk_alloc ?_ _)); refine blk_put (cs := #[.int .u8 a0, .int .i64 0, .int .i64 0, .int .i64 0]) ?_ 1 _ rfl; (with_reducible repeat (first | refine blk_drewN ?_ _ | refine blk_drew ?_ | refine blk_alloc ?_ _)); refine blk_put (cs := #[.int .u8 0, .int .i64 0, .int .i64 0, .int .i64 0]) ?_ 0 _ rfl; (with_reducible repeat (first | refine blk_drewN ?_ _ | refine blk_drew ?_ | refine blk_alloc ?_ _)); exact BK220.out) Try.underlying25 rfl (by kernel_rfl)) rfl ?_
              exact ⟨by first | rfl | (simp [errW_none, errW_some] <;> rfl) | (simp [*, errW_none, errW_some] <;> rfl), by repeat (first | (with_reducible first | exact HB.out | apply below_alloc | apply pw_below_drewN | apply below_drew1 | refine below_set ?_ GE220.out | refine below_set ?_ GE221.out) | exact HB.out)⟩

end Go.Proofs.Ytkommjibpeklgaa.PScriptDecodes
