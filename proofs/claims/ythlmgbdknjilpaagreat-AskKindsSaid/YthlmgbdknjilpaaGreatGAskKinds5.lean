/- Words and contracts that the claim stands on, part 6 of 7. -/
import Derived.Test.YthlmgbdknjilpaaGreatGAskKinds0
import Derived.Test.YthlmgbdknjilpaaGreatGAskKinds1
import Derived.Test.YthlmgbdknjilpaaGreatGAskKinds2
import Derived.Test.YthlmgbdknjilpaaGreatGAskKinds3
import Derived.Test.YthlmgbdknjilpaaGreatGAskKinds4
import Derived.BigQuiet
namespace Go.Proofs.YthlmgbdknjilpaaGreat.PAskKinds
open Go.RowKit Go.Proofs.YthlmgbdknjilpaaGreatW.PrintWords Go.Proofs.YthlmgbdknjilpaaGreatW.PrintLast Go.Proofs.YthlmgbdknjilpaaGreatW.PrintMore
attribute [local go_sem] max2_int min2_int max_two min_two max_three min_three max_four min_four
set_option linter.unusedVariables false
set_option linter.unusedSimpArgs false
mutual
def ask_Answer.j0 : Nat → List Int → Bool → Option (Int × Bool × Int × Int × (List (S31)) × Bool)
  | 0, _, _ => none
  | k + 1, x0, x13 => if x13 = true then (some (0, false, 0, 0, ([] : List (S31)), false)) else (if 0 < (x0.length : Int) then (if 1 < (x0.length : Int) then (if 2 < (x0.length : Int) then (if 3 < (x0.length : Int) then (if 4 < (x0.length : Int) then (ask_Answer.l0 k x0 5 (rd x0 0) ((rd x0 1) == 1) (rd x0 2) (rd x0 3) ([] : List (S31)) ((rd x0 4) == 1)) else (none)) else (none)) else (none)) else (none)) else (none))
def ask_Answer.l0 : Nat → List Int → Int → Int → Bool → Int → Int → List (S31) → Bool → Option (Int × Bool × Int × Int × (List (S31)) × Bool)
  | 0, _, _, _, _, _, _, _, _ => none
  | k + 1, x0, x4, x131000, x131001, x131002, x131003, x131004, x131005 => if x4 < (x0.length : Int) then (if 0 ≤ x4 then (if 0 ≤ (wrap64 (x4 + 1)) then (if (wrap64 (x4 + 1)) < (x0.length : Int) then (if x131004.length < 8796093022208 then (ask_Answer.l0 k x0 (wrap64 (x4 + 2)) x131000 x131001 x131002 x131003 (x131004 ++ [(⟨rd x0 x4, rd x0 (wrap64 (x4 + 1))⟩ : S31)]) x131005) else (none)) else (none)) else (none)) else (none)) else (some (x131000, x131001, x131002, x131003, x131004, x131005))
end
def ask_Answer.f (k : Nat) (l0 : List Int) : Option (Int × Bool × Int × Int × (List (S31)) × Bool) := if (l0.length : Int) < 5 then (ask_Answer.j0 k l0 true) else (ask_Answer.j0 k l0 (((l0.length : Int) % 2) == 0))
theorem ask_Answer.mono_l : ∀ k, (∀ y0 y1, LeO (ask_Answer.j0 k y0 y1) (ask_Answer.j0 (k + 1) y0 y1)) ∧ (∀ y0 y1 y2 y3 y4 y5 y6 y7, LeO (ask_Answer.l0 k y0 y1 y2 y3 y4 y5 y6 y7) (ask_Answer.l0 (k + 1) y0 y1 y2 y3 y4 y5 y6 y7))
  | 0 => ⟨fun _ _ r h => by simp [ask_Answer.j0] at h, fun _ _ _ _ _ _ _ _ r h => by simp [ask_Answer.l0] at h⟩
  | k + 1 => by
    obtain ⟨ih0, ih1⟩ := ask_Answer.mono_l k
    refine ⟨?_, ?_⟩
    · intro y0 y1
      unfold ask_Answer.j0
      repeat' first
      | (with_reducible exact ih0 _ _)
      | (with_reducible exact ih1 _ _ _ _ _ _ _ _)
      | (with_reducible exact LeO.refl _)
      | (with_reducible exact LeO.none _)
      | (with_reducible refine LeO.ite ?_ ?_)
      | (with_reducible refine LeO.bind ?_ (fun _ => ?_))
      | exact ih0 _ _
      | exact ih1 _ _ _ _ _ _ _ _
      | exact LeO.none _
      | refine LeO.ite ?_ ?_
      | refine LeO.bind ?_ (fun _ => ?_)
    · intro y0 y1 y2 y3 y4 y5 y6 y7
      unfold ask_Answer.l0
      repeat' first
      | (with_reducible exact ih0 _ _)
      | (with_reducible exact ih1 _ _ _ _ _ _ _ _)
      | (with_reducible exact LeO.refl _)
      | (with_reducible exact LeO.none _)
      | (with_reducible refine LeO.ite ?_ ?_)
      | (with_reducible refine LeO.bind ?_ (fun _ => ?_))
      | exact ih0 _ _
      | exact ih1 _ _ _ _ _ _ _ _
      | exact LeO.none _
      | refine LeO.ite ?_ ?_
      | refine LeO.bind ?_ (fun _ => ?_)
theorem ask_Answer.mono : ∀ a0 k, LeO (ask_Answer.f k a0) (ask_Answer.f (k + 1) a0) := by
  intro a0 k
  obtain ⟨ih0, ih1⟩ := ask_Answer.mono_l k
  unfold ask_Answer.f
  repeat' first
      | (with_reducible exact ih0 _ _)
      | (with_reducible exact ih1 _ _ _ _ _ _ _ _)
      | (with_reducible exact LeO.refl _)
      | (with_reducible exact LeO.none _)
      | (with_reducible refine LeO.ite ?_ ?_)
      | (with_reducible refine LeO.bind ?_ (fun _ => ?_))
      | exact ih0 _ _
      | exact ih1 _ _ _ _ _ _ _ _
      | exact LeO.none _
      | refine LeO.ite ?_ ?_
      | refine LeO.bind ?_ (fun _ => ?_)
def ask_Answer.T3 : Bool × List (List Nat × List Nat) := (true, [([], []), ([0], [0]), ([1], [1]), ([], []), ([3], [3]), ([4], [4]), ([5], [5]), ([], []), ([7], [7]), ([8], [8]), ([], []), ([10], [10]), ([11], [11]), ([], []), ([13], [13]), ([14], [14]), ([15], [15]), ([2, 6, 9, 12, 16], [2, 6, 9, 12, 16]), ([], []), ([18, 17, 0, 1, 2, 3, 4, 5, 6, 7, 8, 9, 10, 11, 12, 13, 14, 15, 16, 17, 18], [17, 18])])
def ask_Answer.B3 : List Nat := [0, 1, 3, 0, 8, 24, 56, 0, 128, 384, 0, 1024, 3072, 0, 8192, 24576, 57344, 131071, 0, 524287]
theorem ask_Answer.tab3 : rtab .any (opsOf Tryz.f11 3) = ask_Answer.T3 := by kernel_rfl
theorem ask_Answer.bits3 : waitsOk ask_Answer.T3.2 ask_Answer.B3 = true := by kernel_rfl
def ask_Answer.T7 : Bool × List (List Nat × List Nat) := (true, [([], []), ([0], [0]), ([], []), ([], []), ([2, 3], [2, 3]), ([4], [4]), ([], []), ([], []), ([7], [7]), ([6, 8], [6, 8]), ([9], [9]), ([5, 10], [5, 10]), ([11], [11]), ([1, 12], [1, 12]), ([0, 1, 2, 3, 4, 5, 6, 7, 8, 9, 10, 11, 12, 13], []), ([14, 13, 13, 0, 1, 2, 3, 4, 5, 6, 7, 8, 9, 10, 11, 12, 13], [13, 14])])
def ask_Answer.B7 : List Nat := [0, 1, 0, 0, 12, 28, 0, 0, 128, 448, 960, 2044, 4092, 8191, 16383, 32767]
theorem ask_Answer.tab7 : rtab .any (opsOf Tryz.f11 7) = ask_Answer.T7 := by kernel_rfl
theorem ask_Answer.bits7 : waitsOk ask_Answer.T7.2 ask_Answer.B7 = true := by kernel_rfl
set_option maxHeartbeats 8000000 in
set_option maxRecDepth 100000 in
theorem ask_Answer.calls (k : Nat) (A0 : Option Addr) (c0 : Nat) (l0 : List Int) (r1 : Int) (r2 : Bool) (r3 : Int) (r4 : Int) (r5 : List (S31)) (r6 : Bool) (w : World) (hr0 : Kd.C (Kd.int .i64) w A0 l0.length l0) (hc0 : l0.length ≤ c0) (h : ask_Answer.f k l0 = some (r1, r2, r3, r4, r5, r6)) :
    Calls Tryz.prog 11 #[.slice A0 l0.length c0] w fun e w' => ∃ v4_ : Value, e = .returned (.agg #[.int .i64 r1, .bool r2, .int .i64 r3, .int .i64 r4, v4_, .bool r6]) ∧ Kd.R k31 31 w' w.heap.size (fun _ => True) v4_ r5 ∧ Below w.heap.size w w' := by
  have hu26 := Tryz.underlying26
  have hu31 := Tryz.underlying31
  have HR0 := Aside0.mk hr0
  have HC0 := Aside0.mk hc0
  clear hr0 hc0
  have HB := Aside0.mk (Below.refl w.heap.size w)
  have H : (if (l0.length : Int) < 5 then (ask_Answer.j0 k l0 true) else (ask_Answer.j0 k l0 (((l0.length : Int) % 2) == 0))) = some (r1, r2, r3, r4, r5, r6) := h
  clear h
  have HC2 := Aside0.mk H
  clear H
  go_enter Tryz.func11, Tryz.ntmps11
  go_upto_region 1 with (first | ((with_reducible refine gate_dst (N := 2) rfl ?_); (try (refine gate_guard (by rfl) ?_; dsimp only)); refine box_event ?hg (N := 2) ?hd (cs := #[.int .i64 0, .bool false, .int .i64 0, .int .i64 0, .slice none 0 0, .bool false]) (t := 26) ?hr ?_; (case hd => rfl); (case hg => rfl); (case hr => first | (go_simp; done) | (go_simp; rfl)); intro gb124 hg w3 hbox hb; have n0_ := Aside0.mk (below_step (by repeat (first | (with_reducible first | exact HB.out | apply below_alloc | apply pw_below_drewN | apply below_drew1) | exact HB.out)) hb); have n1_ := Aside0.mk (hbox); have n2_ := Aside0.mk ((by rw [hg]; exact (below_size (by repeat (first | (with_reducible first | exact HB.out | apply below_alloc | apply pw_below_drewN | apply below_drew1) | exact HB.out))) : w.heap.size ≤ gb124)); have n3_ := Aside0.mk ((by rw [hg]; exact (below_size (by repeat (first | (with_reducible first | exact HB.out | apply below_alloc | apply pw_below_drewN | apply below_drew1) | exact HB.out))) : w.heap.size ≤ gb124)); clear HB; have HB := n0_; have BK124 := n1_; have GW124 := n2_; have GE124 := n3_; clear n0_ n1_ n2_ n3_; clear hb hbox hg))
  (try simp only [Act.put, u1_, u2_, u3_])
  go_cut [13] (fun v13 wc => ∃ (kq : Nat) (x13_1 : Bool), v13 = .bool x13_1 ∧ Aside0 (ask_Answer.j0 kq l0 x13_1 = some (r1, r2, r3, r4, r5, r6)) ∧ Aside0 (kq ≤ k) ∧ Aside0 (wc.heap[gb124]? = some (.cells #[.int .i64 0, .bool false, .int .i64 0, .int .i64 0, (.slice none 0 0), .bool false] 26 (0, 0))) ∧ Aside0 (Below w.heap.size w wc))
  case first =>
    have H := HC2.out
    clear HC2
    by_cases c4 : (l0.length : Int) < 5
    · rw [if_pos c4] at H
      have c4b0 : decide ((l0.length : Int) < 5) = true := decide_eq_true c4
      have c4b1 : decide (l0.length < 5) = true := decide_eq_true (by omega)
      clear c4
      (first | rw [c4b0] | (simp only [i64_w, i32_w]; rw [c4b0]) | skip)
      have H' := Aside0.mk H
      clear H
      go_wp2
      go_meet
      case rel => exact ⟨_, (true), (by first | rfl | (simp; done) | (simp [*]; done)), H', ⟨by first | omega | exact Nat.le_refl _⟩, ⟨by (with_reducible repeat (first | refine blk_drewN ?_ _ | refine blk_drew ?_ | refine blk_alloc ?_ _)); exact BK124.out⟩, ⟨by repeat (first | (with_reducible first | exact HB.out | apply below_alloc | apply pw_below_drewN | apply below_drew1 | refine below_set ?_ GE124.out) | exact HB.out)⟩⟩
    · rw [if_neg c4] at H
      have c4b0 : decide ((l0.length : Int) < 5) = false := decide_eq_false c4
      have c4b1 : decide (l0.length < 5) = false := decide_eq_false (by omega)
      clear c4
      (first | rw [c4b0] | (simp only [i64_w, i32_w]; rw [c4b0]) | skip)
      have H' := Aside0.mk H
      clear H
      go_wp2
      go_meet
      case rel => exact ⟨_, ((((l0.length : Int) % 2) == 0)), (by first | rfl | (simp; done) | (simp [*]; done)), H', ⟨by first | omega | exact Nat.le_refl _⟩, ⟨by (with_reducible repeat (first | refine blk_drewN ?_ _ | refine blk_drew ?_ | refine blk_alloc ?_ _)); exact BK124.out⟩, ⟨by repeat (first | (with_reducible first | exact HB.out | apply below_alloc | apply pw_below_drewN | apply below_drew1 | refine below_set ?_ GE124.out) | exact HB.out)⟩⟩
  case rest =>
    clear HC2
    try clear c1
    try clear p2
    try clear c4
    try clear c4b0
    try clear c4b1
    obtain ⟨kq, x13_1, rfl, HA, HJ1, BK124, HB⟩ := hcut
    cases kq with
    | zero => exact absurd HA.out (by simp [ask_Answer.j0])
    | succ kj1 =>
      have H := HA.out
      clear HA
      simp only [ask_Answer.j0] at H
      by_cases c5 : x13_1 = true
      · subst c5
        have H1 : (some (0, false, 0, 0, ([] : List (S31)), false)) = some (r1, r2, r3, r4, r5, r6) := by rw [if_pos rfl] at H; exact H
        clear H
        have H := H1
        clear H1
        simp only [Option.some.injEq, Prod.mk.injEq] at H
        obtain ⟨rfl, rfl, rfl, rfl, rfl, rfl⟩ := H
        have hcz6_0 : wc.cell? ⟨gb124, 0, none⟩ = some (.int .i64 0) := (blk_cell BK124.out 0).trans rfl
        have hcz6_1 : wc.cell? ⟨gb124, 1, none⟩ = some (.bool false) := (blk_cell BK124.out 1).trans rfl
        have hcz6_2 : wc.cell? ⟨gb124, 2, none⟩ = some (.int .i64 0) := (blk_cell BK124.out 2).trans rfl
        have hcz6_3 : wc.cell? ⟨gb124, 3, none⟩ = some (.int .i64 0) := (blk_cell BK124.out 3).trans rfl
        have hcz6_4 : wc.cell? ⟨gb124, 4, none⟩ = some (.slice none 0 0) := (blk_cell BK124.out 4).trans rfl
        have hcz6_5 : wc.cell? ⟨gb124, 5, none⟩ = some (.bool false) := (blk_cell BK124.out 5).trans rfl
        have hfz6_0 := blk_frozen BK124.out 0
        have hfz6_1 := blk_frozen BK124.out 1
        have hfz6_2 := blk_frozen BK124.out 2
        have hfz6_3 := blk_frozen BK124.out 3
        have hfz6_4 := blk_frozen BK124.out 4
        have hfz6_5 := blk_frozen BK124.out 5
        go_wp2
        refine bodyPost_ret (results_cell_row rfl _ _ gb124 26 #[.int .i64 0, .bool false, .int .i64 0, .int .i64 0, .slice none 0 0, .bool false] (0, 0) _ rfl (by (with_reducible repeat (first | refine blk_drewN ?_ _ | refine blk_drew ?_ | refine blk_alloc ?_ _)); refine blk_put (cs := #[.int .i64 0, .bool false, .int .i64 0, .int .i64 0, .slice none 0 0, .bool false]) ?_ 5 _ rfl; (with_reducible repeat (first | refine blk_drewN ?_ _ | refine blk_drew ?_ | refine blk_alloc ?_ _)); refine blk_put (cs := #[.int .i64 0, .bool false, .int .i64 0, .int .i64 0, .slice none 0 0, .bool false]) ?_ 4 _ rfl; (with_reducible repeat (first | refine blk_drewN ?_ _ | refine blk_drew ?_ | refine blk_alloc ?_ _)); refine blk_put (cs := #[.int .i64 0, .bool false, .int .i64 0, .int .i64 0, .slice none 0 0, .bool false]) ?_ 3 _ rfl; (with_reducible repeat (first | refine blk_drewN ?_ _ | refine blk_drew ?_ | refine blk_alloc ?_ _)); refine blk_put (cs := #[.int .i64 0, .bool false, .int .i64 0, .int .i64 0, .slice none 0 0, .bool false]) ?_ 2 _ rfl; (with_reducible repeat (first | refine blk_drewN ?_ _ | refine blk_drew ?_ | refine blk_alloc ?_ _)); refine blk_put (cs := #[.int .i64 0, .bool false, .int .i64 0, .int .i64 0, .slice none 0 0, .bool false]) ?_ 1 _ rfl; (with_reducible repeat (first | refine blk_drewN ?_ _ | refine blk_drew ?_ | refine blk_alloc ?_ _)); refine blk_put (cs := #[.int .i64 0, .bool false, .int .i64 0, .int .i64 0, .slice none 0 0, .bool false]) ?_ 0 _ rfl; (with_reducible repeat (first | refine blk_drewN ?_ _ | refine blk_drew ?_ | refine blk_alloc ?_ _)); exact BK124.out) Tryz.underlying26 rfl (by kernel_rfl)) rfl ?_
        exact ⟨_, by first | rfl | (simp [errW_none, errW_some] <;> rfl) | (simp [*, errW_none, errW_some] <;> rfl), by first | exact Kd.R_nil _ _ _ _ _ | exact Kd.N_nil _ _ _ _ _ | exact Kd.V_nil _ _ _ _ _ | exact Kd.Q_nil _ _ _ _ _ | exact Kd.S_nil _ _ _ _ _, by repeat (first | (with_reducible first | exact HB.out | apply below_alloc | apply pw_below_drewN | apply below_drew1 | refine below_set ?_ GE124.out) | exact HB.out)⟩
      · replace c5 := Bool.eq_false_iff.mpr c5
        subst c5
        have H1 : (if 0 < (l0.length : Int) then (if 1 < (l0.length : Int) then (if 2 < (l0.length : Int) then (if 3 < (l0.length : Int) then (if 4 < (l0.length : Int) then (ask_Answer.l0 kj1 l0 5 (rd l0 0) ((rd l0 1) == 1) (rd l0 2) (rd l0 3) ([] : List (S31)) ((rd l0 4) == 1)) else (none)) else (none)) else (none)) else (none)) else (none)) = some (r1, r2, r3, r4, r5, r6) := by rw [if_neg (show ¬ (false = true) by decide)] at H; exact H
        clear H
        have H := H1
        clear H1
        by_cases c7 : 0 < (l0.length : Int)
        · rw [if_pos c7] at H
          have c7b0 : decide (0 < (l0.length : Int)) = true := decide_eq_true c7
          have c7b1 : decide (0 < l0.length) = true := decide_eq_true (by omega)
          clear c7
          by_cases c8 : 1 < (l0.length : Int)
          · rw [if_pos c8] at H
            have c8b0 : decide (1 < (l0.length : Int)) = true := decide_eq_true c8
            have c8b1 : decide (1 < l0.length) = true := decide_eq_true (by omega)
            clear c8
            by_cases c9 : 2 < (l0.length : Int)
            · rw [if_pos c9] at H
              have c9b0 : decide (2 < (l0.length : Int)) = true := decide_eq_true c9
              have c9b1 : decide (2 < l0.length) = true := decide_eq_true (by omega)
              clear c9
              by_cases c10 : 3 < (l0.length : Int)
              · rw [if_pos c10] at H
                have c10b0 : decide (3 < (l0.length : Int)) = true := decide_eq_true c10
                have c10b1 : decide (3 < l0.length) = true := decide_eq_true (by omega)
                clear c10
                by_cases c11 : 4 < (l0.length : Int)
                · rw [if_pos c11] at H
                  have c11b0 : decide (4 < (l0.length : Int)) = true := decide_eq_true c11
                  have c11b1 : decide (4 < l0.length) = true := decide_eq_true (by omega)
                  clear c11
                  have H' := Aside0.mk H
                  clear H
                  try go_wp2
                  have n0_ := Aside0.mk (blk_drew BK124.out)
                  have n1_ := Aside0.mk (below_drew1 HB.out)
                  clear BK124
                  clear HB
                  have BK124 := n0_
                  have HB := n1_
                  clear n0_ n1_
                  have p125 : 0 ≤ (0 : Int) := (by omega)
                  have q125 : 0 < (l0.length : Int) := of_decide_eq_true (by first | (with_reducible assumption) | assumption)
                  obtain ⟨ad125, e125, hx125_0⟩ := Kd.at_int HR0.out 0 p125 q125
                  have hw125_0 := hx125_0
                  (try rw [show ((0 : Int)).toNat = 0 from rfl] at hw125_0)
                  (try rw [show 0 * 1 = 0 from rfl] at hw125_0)
                  (try rw [Addr.add_zero'] at hw125_0)
                  cases e125
                  have qi125 : (0 < l0.length) = True := eq_true (by omega)
                  (try rw [show ((0 : Int)).toNat = 0 from rfl] at hx125_0)
                  (try rw [Addr.add_zero'] at hx125_0)
                  replace hx125_0 := (HB.out.cell (World.block_lt_of_cell? w _ hx125_0)).trans hx125_0
                  replace p125 := eq_true p125
                  replace q125 := eq_true q125
                  have p126 : 0 ≤ (1 : Int) := (by omega)
                  have q126 : 1 < (l0.length : Int) := of_decide_eq_true (by first | (with_reducible assumption) | assumption)
                  obtain ⟨ad126, e126, hx126_0⟩ := Kd.at_int HR0.out 1 p126 q126
                  have hw126_0 := hx126_0
                  (try rw [show ((1 : Int)).toNat = 1 from rfl] at hw126_0)
                  (try rw [show 1 * 1 = 1 from rfl] at hw126_0)
                  (try simp only [Nat.reduceMul, Nat.reduceEqDiff, Go.Addr.add, ↓reduceIte] at hw126_0)
                  obtain rfl : ad125 = ad126 := (by injection e126)
                  (try simp only [show (1 : Int).toNat = 1 from rfl, Nat.reduceMul, Nat.reduceEqDiff, Go.Addr.add, ↓reduceIte] at hx126_0)
                  have qi126 : (1 < l0.length) = True := eq_true (by omega)
                  (try rw [show ((1 : Int)).toNat = 1 from rfl] at hx126_0)
                  replace hx126_0 := (HB.out.cell (World.block_lt_of_cell? w _ hx126_0)).trans hx126_0
                  replace p126 := eq_true p126
                  replace q126 := eq_true q126
                  have p127 : 0 ≤ (2 : Int) := (by omega)
                  have q127 : 2 < (l0.length : Int) := of_decide_eq_true (by first | (with_reducible assumption) | assumption)
                  obtain ⟨ad127, e127, hx127_0⟩ := Kd.at_int HR0.out 2 p127 q127
                  have hw127_0 := hx127_0
                  (try rw [show ((2 : Int)).toNat = 2 from rfl] at hw127_0)
                  (try rw [show 2 * 1 = 2 from rfl] at hw127_0)
                  (try simp only [Nat.reduceMul, Nat.reduceEqDiff, Go.Addr.add, ↓reduceIte] at hw127_0)
                  obtain rfl : ad125 = ad127 := (by injection e127)
                  (try simp only [show (2 : Int).toNat = 2 from rfl, Nat.reduceMul, Nat.reduceEqDiff, Go.Addr.add, ↓reduceIte] at hx127_0)
                  have qi127 : (2 < l0.length) = True := eq_true (by omega)
                  (try rw [show ((2 : Int)).toNat = 2 from rfl] at hx127_0)
                  replace hx127_0 := (HB.out.cell (World.block_lt_of_cell? w _ hx127_0)).trans hx127_0
                  replace p127 := eq_true p127
                  replace q127 := eq_true q127
                  have p128 : 0 ≤ (3 : Int) := (by omega)
                  have q128 : 3 < (l0.length : Int) := of_decide_eq_true (by first | (with_reducible assumption) | assumption)
                  obtain ⟨ad128, e128, hx128_0⟩ := Kd.at_int HR0.out 3 p128 q128
                  have hw128_0 := hx128_0
                  (try rw [show ((3 : Int)).toNat = 3 from rfl] at hw128_0)
                  (try rw [show 3 * 1 = 3 from rfl] at hw128_0)
                  (try simp only [Nat.reduceMul, Nat.reduceEqDiff, Go.Addr.add, ↓reduceIte] at hw128_0)
                  obtain rfl : ad125 = ad128 := (by injection e128)
                  (try simp only [show (3 : Int).toNat = 3 from rfl, Nat.reduceMul, Nat.reduceEqDiff, Go.Addr.add, ↓reduceIte] at hx128_0)
                  have qi128 : (3 < l0.length) = True := eq_true (by omega)
                  (try rw [show ((3 : Int)).toNat = 3 from rfl] at hx128_0)
                  replace hx128_0 := (HB.out.cell (World.block_lt_of_cell? w _ hx128_0)).trans hx128_0
                  replace p128 := eq_true p128
                  replace q128 := eq_true q128
                  have p129 : 0 ≤ (4 : Int) := (by omega)
                  have q129 : 4 < (l0.length : Int) := of_decide_eq_true (by first | (with_reducible assumption) | assumption)
                  obtain ⟨ad129, e129, hx129_0⟩ := Kd.at_int HR0.out 4 p129 q129
                  have hw129_0 := hx129_0
                  (try rw [show ((4 : Int)).toNat = 4 from rfl] at hw129_0)
                  (try rw [show 4 * 1 = 4 from rfl] at hw129_0)
                  (try simp only [Nat.reduceMul, Nat.reduceEqDiff, Go.Addr.add, ↓reduceIte] at hw129_0)
                  obtain rfl : ad125 = ad129 := (by injection e129)
                  (try simp only [show (4 : Int).toNat = 4 from rfl, Nat.reduceMul, Nat.reduceEqDiff, Go.Addr.add, ↓reduceIte] at hx129_0)
                  have qi129 : (4 < l0.length) = True := eq_true (by omega)
                  (try rw [show ((4 : Int)).toNat = 4 from rfl] at hx129_0)
                  replace hx129_0 := (HB.out.cell (World.block_lt_of_cell? w _ hx129_0)).trans hx129_0
                  replace p129 := eq_true p129
                  replace q129 := eq_true q129
                  refine start_ (n := 20) (S := fun w' => w'.cell? ad125 = some (.int .i64 (rd l0 0)) ∧ w'.cell? ⟨ad125.block, ad125.off + 1, none⟩ = some (.int .i64 (rd l0 1)) ∧ w'.cell? ⟨ad125.block, ad125.off + 2, none⟩ = some (.int .i64 (rd l0 2)) ∧ w'.cell? ⟨ad125.block, ad125.off + 3, none⟩ = some (.int .i64 (rd l0 3)) ∧ w'.cell? ⟨ad125.block, ad125.off + 4, none⟩ = some (.int .i64 (rd l0 4))) (ds := []) #[N_,N_,N_,N_,N_,N_,N_,N_,N_,N_,N_,N_,N_,N_,N_,N_,N_,N_,N_,N_] (by kernel_rfl) rfl rfl ⟨((HB.out.cell (World.block_lt_of_cell? w _ hw125_0)).trans hw125_0), ((HB.out.cell (World.block_lt_of_cell? w _ hw126_0)).trans hw126_0), ((HB.out.cell (World.block_lt_of_cell? w _ hw127_0)).trans hw127_0), ((HB.out.cell (World.block_lt_of_cell? w _ hw128_0)).trans hw128_0), ((HB.out.cell (World.block_lt_of_cell? w _ hw129_0)).trans hw129_0)⟩ (fun hHeld => ?_); refine with_tabW ask_Answer.tab3 ask_Answer.bits3 (fun HT_ HW_ => ?_)
                  generalize wc.drew = w12 at BK124 HB hx125_0 hx126_0 hx127_0 hx128_0 hx129_0 hHeld ⊢
                  refine pure_ (i := 0) (N := some 15) (v := ?_) (a' := ?_) #[Y_,N_,N_,N_,N_,N_,N_,N_,N_,N_,N_,N_,N_,N_,N_,N_,N_,N_,N_,N_] rfl rfl (any_of HT_.out (by kernel_rfl)) (fun _ _ _ h => h) (Or.inl ⟨by rfl, ?_⟩) ?_ ?_
                  rotate_left; · intro w'; go_simp; with_reducible rfl
                  rotate_left; · simp only [Act.put, u1_, u2_, u3_, i64_w, i32_w]; rfl
                  refine pure_ (i := 1) (N := some 16) (v := ?_) (a' := ?_) #[Y_,Y_,N_,N_,N_,N_,N_,N_,N_,N_,N_,N_,N_,N_,N_,N_,N_,N_,N_,N_] rfl rfl (any_of HT_.out (by kernel_rfl)) (fun _ _ _ h => h) (Or.inl ⟨by rfl, ?_⟩) ?_ ?_
                  rotate_left; · intro w'; go_simp; with_reducible rfl
                  rotate_left; · simp only [Act.put, u1_, u2_, u3_, i64_w, i32_w]; rfl
                  refine pure_ (i := 3) (N := some 18) (v := ?_) (a' := ?_) #[Y_,Y_,N_,Y_,N_,N_,N_,N_,N_,N_,N_,N_,N_,N_,N_,N_,N_,N_,N_,N_] rfl rfl (any_of HT_.out (by kernel_rfl)) (fun _ _ _ h => h) (Or.inl ⟨by rfl, ?_⟩) ?_ ?_
                  rotate_left; · intro w'; go_simp; with_reducible rfl
                  rotate_left; · simp only [Act.put, u1_, u2_, u3_, i64_w, i32_w]; rfl
                  refine pure_ (i := 4) (N := some 19) (v := ?_) (a' := ?_) #[Y_,Y_,N_,Y_,Y_,N_,N_,N_,N_,N_,N_,N_,N_,N_,N_,N_,N_,N_,N_,N_] rfl rfl (any_of HT_.out (by kernel_rfl)) (fun _ _ _ h => h) (Or.inl ⟨by rfl, ?_⟩) ?_ ?_
                  rotate_left; · intro w'; go_simp; with_reducible rfl
                  rotate_left; · simp only [Act.put, u1_, u2_, u3_, i64_w, i32_w]; rfl
                  refine pure_ (i := 7) (N := some 22) (v := ?_) (a' := ?_) #[Y_,Y_,N_,Y_,Y_,N_,N_,Y_,N_,N_,N_,N_,N_,N_,N_,N_,N_,N_,N_,N_] rfl rfl (any_of HT_.out (by kernel_rfl)) (fun _ _ _ h => h) (Or.inl ⟨by rfl, ?_⟩) ?_ ?_
                  rotate_left; · intro w'; go_simp; with_reducible rfl
                  rotate_left; · simp only [Act.put, u1_, u2_, u3_, i64_w, i32_w]; rfl
                  refine pure_ (i := 8) (N := some 23) (v := ?_) (a' := ?_) #[Y_,Y_,N_,Y_,Y_,N_,N_,Y_,Y_,N_,N_,N_,N_,N_,N_,N_,N_,N_,N_,N_] rfl rfl (any_of HT_.out (by kernel_rfl)) (fun _ _ _ h => h) (Or.inl ⟨by rfl, ?_⟩) ?_ ?_
                  rotate_left; · intro w'; go_simp; with_reducible rfl
                  rotate_left; · simp only [Act.put, u1_, u2_, u3_, i64_w, i32_w]; rfl
                  refine pure_ (i := 10) (N := some 25) (v := ?_) (a' := ?_) #[Y_,Y_,N_,Y_,Y_,N_,N_,Y_,Y_,N_,Y_,N_,N_,N_,N_,N_,N_,N_,N_,N_] rfl rfl (any_of HT_.out (by kernel_rfl)) (fun _ _ _ h => h) (Or.inl ⟨by rfl, ?_⟩) ?_ ?_
                  rotate_left; · intro w'; go_simp; with_reducible rfl
                  rotate_left; · simp only [Act.put, u1_, u2_, u3_, i64_w, i32_w]; rfl
                  refine pure_ (i := 11) (N := some 26) (v := ?_) (a' := ?_) #[Y_,Y_,N_,Y_,Y_,N_,N_,Y_,Y_,N_,Y_,Y_,N_,N_,N_,N_,N_,N_,N_,N_] rfl rfl (any_of HT_.out (by kernel_rfl)) (fun _ _ _ h => h) (Or.inl ⟨by rfl, ?_⟩) ?_ ?_
                  rotate_left; · intro w'; go_simp; with_reducible rfl
                  rotate_left; · simp only [Act.put, u1_, u2_, u3_, i64_w, i32_w]; rfl
                  refine pure_ (i := 13) (N := some 28) (v := ?_) (a' := ?_) #[Y_,Y_,N_,Y_,Y_,N_,N_,Y_,Y_,N_,Y_,Y_,N_,Y_,N_,N_,N_,N_,N_,N_] rfl rfl (any_of HT_.out (by kernel_rfl)) (fun _ _ _ h => h) (Or.inl ⟨by rfl, ?_⟩) ?_ ?_
                  rotate_left; · intro w'; go_simp; with_reducible rfl
                  rotate_left; · simp only [Act.put, u1_, u2_, u3_, i64_w, i32_w]; rfl
                  refine pure_ (i := 14) (N := some 29) (v := ?_) (a' := ?_) #[Y_,Y_,N_,Y_,Y_,N_,N_,Y_,Y_,N_,Y_,Y_,N_,Y_,Y_,N_,N_,N_,N_,N_] rfl rfl (any_of HT_.out (by kernel_rfl)) (fun _ _ _ h => h) (Or.inl ⟨by rfl, ?_⟩) ?_ ?_
                  rotate_left; · intro w'; go_simp; with_reducible rfl
                  rotate_left; · simp only [Act.put, u1_, u2_, u3_, i64_w, i32_w]; rfl
                  refine take_ (i := 2) (N := some 17) (v := ?_) (a' := ?_) #[Y_,Y_,Y_,Y_,Y_,N_,N_,Y_,Y_,N_,Y_,Y_,N_,Y_,Y_,N_,N_,N_,N_,N_] rfl rfl (take_ofW HT_.out HW_.out (by kernel_rfl)) (fun _ _ _ h => h) (Or.inl ⟨by rfl, ?_⟩) hHeld ?_ ?_
                  rotate_left; · rintro w' ⟨s0, s1, s2, s3, s4⟩; go_simp; with_reducible rfl
                  rotate_left; · simp only [Act.put, u1_, u2_, u3_, i64_w, i32_w]; rfl
                  refine take_ (i := 5) (N := some 20) (v := ?_) (a' := ?_) #[Y_,Y_,Y_,Y_,Y_,Y_,N_,Y_,Y_,N_,Y_,Y_,N_,Y_,Y_,N_,N_,N_,N_,N_] rfl rfl (take_ofW HT_.out HW_.out (by kernel_rfl)) (fun _ _ _ h => h) (Or.inl ⟨by rfl, ?_⟩) hHeld ?_ ?_
                  rotate_left; · rintro w' ⟨s0, s1, s2, s3, s4⟩; go_simp; with_reducible rfl
                  rotate_left; · simp only [Act.put, u1_, u2_, u3_, i64_w, i32_w]; rfl
                  refine pure_ (i := 6) (N := some 21) (v := ?_) (a' := ?_) #[Y_,Y_,Y_,Y_,Y_,Y_,Y_,Y_,Y_,N_,Y_,Y_,N_,Y_,Y_,N_,N_,N_,N_,N_] rfl rfl (any_of HT_.out (by kernel_rfl)) (fun _ _ _ h => h) (Or.inl ⟨by rfl, ?_⟩) ?_ ?_
                  rotate_left; · intro w'; go_simp; with_reducible rfl
                  rotate_left; · simp only [Act.put, u1_, u2_, u3_, i64_w, i32_w]; rfl
                  refine take_ (i := 9) (N := some 24) (v := ?_) (a' := ?_) #[Y_,Y_,Y_,Y_,Y_,Y_,Y_,Y_,Y_,Y_,Y_,Y_,N_,Y_,Y_,N_,N_,N_,N_,N_] rfl rfl (take_ofW HT_.out HW_.out (by kernel_rfl)) (fun _ _ _ h => h) (Or.inl ⟨by rfl, ?_⟩) hHeld ?_ ?_
                  rotate_left; · rintro w' ⟨s0, s1, s2, s3, s4⟩; go_simp; with_reducible rfl
                  rotate_left; · simp only [Act.put, u1_, u2_, u3_, i64_w, i32_w]; rfl
                  refine take_ (i := 12) (N := some 27) (v := ?_) (a' := ?_) #[Y_,Y_,Y_,Y_,Y_,Y_,Y_,Y_,Y_,Y_,Y_,Y_,Y_,Y_,Y_,N_,N_,N_,N_,N_] rfl rfl (take_ofW HT_.out HW_.out (by kernel_rfl)) (fun _ _ _ h => h) (Or.inl ⟨by rfl, ?_⟩) hHeld ?_ ?_
                  rotate_left; · rintro w' ⟨s0, s1, s2, s3, s4⟩; go_simp; with_reducible rfl
                  rotate_left; · simp only [Act.put, u1_, u2_, u3_, i64_w, i32_w]; rfl
                  refine take_ (i := 15) (N := some 30) (v := ?_) (a' := ?_) #[Y_,Y_,Y_,Y_,Y_,Y_,Y_,Y_,Y_,Y_,Y_,Y_,Y_,Y_,Y_,Y_,N_,N_,N_,N_] rfl rfl (take_ofW HT_.out HW_.out (by kernel_rfl)) (fun _ _ _ h => h) (Or.inl ⟨by rfl, ?_⟩) hHeld ?_ ?_
                  rotate_left; · rintro w' ⟨s0, s1, s2, s3, s4⟩; go_simp; with_reducible rfl
                  rotate_left; · simp only [Act.put, u1_, u2_, u3_, i64_w, i32_w]; rfl
                  refine pure_ (i := 16) (N := some 31) (v := ?_) (a' := ?_) #[Y_,Y_,Y_,Y_,Y_,Y_,Y_,Y_,Y_,Y_,Y_,Y_,Y_,Y_,Y_,Y_,Y_,N_,N_,N_] rfl rfl (any_of HT_.out (by kernel_rfl)) (fun _ _ _ h => h) (Or.inl ⟨by rfl, ?_⟩) ?_ ?_
                  rotate_left; · intro w'; go_simp; with_reducible rfl
                  rotate_left; · simp only [Act.put, u1_, u2_, u3_, i64_w, i32_w]; rfl
                  refine pure_ (i := 17) (N := some 32) (v := ?_) (a' := ?_) #[Y_,Y_,Y_,Y_,Y_,Y_,Y_,Y_,Y_,Y_,Y_,Y_,Y_,Y_,Y_,Y_,Y_,Y_,N_,N_] rfl rfl (any_of HT_.out (by kernel_rfl)) (fun _ _ _ h => h) (Or.inl ⟨by rfl, ?_⟩) ?_ ?_
                  rotate_left; · intro w'; go_simp; with_reducible rfl
                  rotate_left; · simp only [Act.put, u1_, u2_, u3_, i64_w, i32_w]; rfl
                  refine one_ (i := 18) (N := some 3) #[Y_,Y_,Y_,Y_,Y_,Y_,Y_,Y_,Y_,Y_,Y_,Y_,Y_,Y_,Y_,Y_,Y_,Y_,Y_,N_] rfl rfl (one_of HT_.out (by kernel_rfl)) (by decide) (fun K hK => ?_)
                  refine box_step ?hg (N := 3) ?hd (cs := #[.int .i64 0, .bool false, .int .i64 0, .int .i64 0, .slice none 0 0, .bool false]) (t := 26) ?hr ?_; (case hd => rfl); (case hg => rfl); (case hr => first | (go_simp; done) | (go_simp; rfl))
                  intro gb130 hg w13 hbox hb
                  have n0_ := Aside0.mk (blk_below (g := gb124) (o := .cells #[.int .i64 0, .bool false, .int .i64 0, .int .i64 0, .slice none 0 0, .bool false] 26 (0, 0)) (by (with_reducible repeat (first | refine blk_drewN ?_ _ | refine blk_drew ?_ | refine blk_alloc ?_ _)); exact BK124.out) hb)
                  have n1_ := Aside0.mk (below_step (by repeat (first | (with_reducible first | exact HB.out | apply below_alloc | apply pw_below_drewN | apply below_drew1 | refine below_set ?_ GE124.out) | exact HB.out)) hb)
                  have n2_ := Aside0.mk (hbox)
                  have n3_ := Aside0.mk ((by rw [hg]; exact (below_size (by repeat (first | (with_reducible first | exact HB.out | apply below_alloc | apply pw_below_drewN | apply below_drew1 | refine below_set ?_ GE124.out) | exact HB.out))) : w.heap.size ≤ gb130))
                  have n4_ := Aside0.mk ((by rw [hg]; exact (below_size (by repeat (first | (with_reducible first | exact HB.out | apply below_alloc | apply pw_below_drewN | apply below_drew1 | refine below_set ?_ GE124.out) | exact HB.out))) : w.heap.size ≤ gb130))
                  have n5_ := Aside0.mk ((by rw [hg]; exact Nat.ne_of_lt (blk_lt (g := gb124) (o := .cells #[.int .i64 0, .bool false, .int .i64 0, .int .i64 0, .slice none 0 0, .bool false] 26 (0, 0)) (by (with_reducible repeat (first | refine blk_drewN ?_ _ | refine blk_drew ?_ | refine blk_alloc ?_ _)); exact BK124.out)) : gb124 ≠ gb130))
                  have n6_ := Aside0.mk ((by rw [hg]; exact Nat.ne_of_gt (blk_lt (g := gb124) (o := .cells #[.int .i64 0, .bool false, .int .i64 0, .int .i64 0, .slice none 0 0, .bool false] 26 (0, 0)) (by (with_reducible repeat (first | refine blk_drewN ?_ _ | refine blk_drew ?_ | refine blk_alloc ?_ _)); exact BK124.out)) : gb130 ≠ gb124))
                  clear BK124
                  clear HB
                  have BK124 := n0_
                  have HB := n1_
                  have BK130 := n2_
                  have GW130 := n3_
                  have GE130 := n4_
                  have NB124_130 := n5_
                  have NB130_124 := n6_
                  clear n0_ n1_ n2_ n3_ n4_ n5_ n6_
                  clear hb hbox hg
                  refine hK.out _ _ ⟨((HB.out.cell (World.block_lt_of_cell? w _ hw125_0)).trans hw125_0), ((HB.out.cell (World.block_lt_of_cell? w _ hw126_0)).trans hw126_0), ((HB.out.cell (World.block_lt_of_cell? w _ hw127_0)).trans hw127_0), ((HB.out.cell (World.block_lt_of_cell? w _ hw128_0)).trans hw128_0), ((HB.out.cell (World.block_lt_of_cell? w _ hw129_0)).trans hw129_0)⟩ (fun hHeld => ?_)
                  clear hK K
                  refine norm_ (a' := ?_) ?_ ?_
                  rotate_left; · show Act.put _ (some 3) _ = _; simp only [Act.put, u1_, u2_, u3_, i64_w, i32_w]; rfl
                  refine one_ (i := 19) (N := none) #[Y_,Y_,Y_,Y_,Y_,Y_,Y_,Y_,Y_,Y_,Y_,Y_,Y_,Y_,Y_,Y_,Y_,Y_,Y_,Y_] rfl rfl (one_of HT_.out (by kernel_rfl)) (by decide) (fun K hK => ?_)
                  have hs14 : w13.cell? ⟨gb130, 0, none⟩ = some (.int .i64 0) := (blk_cell BK130.out 0).trans rfl
                  have hfs14 := blk_frozen BK130.out 0
                  have hns14_0 := NB124_130.out
                  have hms14_0 := NB130_124.out
                  have hs15 : w13.cell? ⟨gb130, 1, none⟩ = some (.bool false) := (blk_cell BK130.out 1).trans rfl
                  have hfs15 := blk_frozen BK130.out 1
                  have hns15_0 := NB124_130.out
                  have hms15_0 := NB130_124.out
                  have hs16 : w13.cell? ⟨gb130, 2, none⟩ = some (.int .i64 0) := (blk_cell BK130.out 2).trans rfl
                  have hfs16 := blk_frozen BK130.out 2
                  have hns16_0 := NB124_130.out
                  have hms16_0 := NB130_124.out
                  have hs17 : w13.cell? ⟨gb130, 3, none⟩ = some (.int .i64 0) := (blk_cell BK130.out 3).trans rfl
                  have hfs17 := blk_frozen BK130.out 3
                  have hns17_0 := NB124_130.out
                  have hms17_0 := NB130_124.out
                  have hs18 : w13.cell? ⟨gb130, 4, none⟩ = some (.slice none 0 0) := (blk_cell BK130.out 4).trans rfl
                  have hfs18 := blk_frozen BK130.out 4
                  have hns18_0 := NB124_130.out
                  have hms18_0 := NB130_124.out
                  have hs19 : w13.cell? ⟨gb130, 5, none⟩ = some (.bool false) := (blk_cell BK130.out 5).trans rfl
                  have hfs19 := blk_frozen BK130.out 5
                  have hns19_0 := NB124_130.out
                  have hms19_0 := NB130_124.out
                  refine skip_ (w1 := ?_) (by rfl) rfl ?_ ?_
                  rotate_left
                  · go_simp
                    rfl
                  refine hK.out _ _ ⟨((cell_far (p := ⟨gb130, _, none⟩) (by first | exact Nat.ne_of_lt (Nat.lt_of_lt_of_le (by have := World.block_lt_of_cell? _ _ hw125_0; first | rwa [add_block] at this | exact this) GW130.out) | (rw [add_block]; exact Nat.ne_of_lt (Nat.lt_of_lt_of_le (by have := World.block_lt_of_cell? _ _ hw125_0; first | rwa [add_block] at this | exact this) GW130.out)) | (show (Addr.add _ _).block ≠ _; rw [add_block]; exact Nat.ne_of_lt (Nat.lt_of_lt_of_le (by have := World.block_lt_of_cell? _ _ hw125_0; first | rwa [add_block] at this | exact this) GW130.out)) | (dsimp only; exact Nat.ne_of_lt (Nat.lt_of_lt_of_le (by have := World.block_lt_of_cell? _ _ hw125_0; first | rwa [add_block] at this | exact this) GW130.out))) _).trans (((cell_far (p := ⟨gb130, _, none⟩) (by first | exact Nat.ne_of_lt (Nat.lt_of_lt_of_le (by have := World.block_lt_of_cell? _ _ hw125_0; first | rwa [add_block] at this | exact this) GW130.out) | (rw [add_block]; exact Nat.ne_of_lt (Nat.lt_of_lt_of_le (by have := World.block_lt_of_cell? _ _ hw125_0; first | rwa [add_block] at this | exact this) GW130.out)) | (show (Addr.add _ _).block ≠ _; rw [add_block]; exact Nat.ne_of_lt (Nat.lt_of_lt_of_le (by have := World.block_lt_of_cell? _ _ hw125_0; first | rwa [add_block] at this | exact this) GW130.out)) | (dsimp only; exact Nat.ne_of_lt (Nat.lt_of_lt_of_le (by have := World.block_lt_of_cell? _ _ hw125_0; first | rwa [add_block] at this | exact this) GW130.out))) _).trans (((cell_far (p := ⟨gb130, _, none⟩) (by first | exact Nat.ne_of_lt (Nat.lt_of_lt_of_le (by have := World.block_lt_of_cell? _ _ hw125_0; first | rwa [add_block] at this | exact this) GW130.out) | (rw [add_block]; exact Nat.ne_of_lt (Nat.lt_of_lt_of_le (by have := World.block_lt_of_cell? _ _ hw125_0; first | rwa [add_block] at this | exact this) GW130.out)) | (show (Addr.add _ _).block ≠ _; rw [add_block]; exact Nat.ne_of_lt (Nat.lt_of_lt_of_le (by have := World.block_lt_of_cell? _ _ hw125_0; first | rwa [add_block] at this | exact this) GW130.out)) | (dsimp only; exact Nat.ne_of_lt (Nat.lt_of_lt_of_le (by have := World.block_lt_of_cell? _ _ hw125_0; first | rwa [add_block] at this | exact this) GW130.out))) _).trans (((cell_far (p := ⟨gb130, _, none⟩) (by first | exact Nat.ne_of_lt (Nat.lt_of_lt_of_le (by have := World.block_lt_of_cell? _ _ hw125_0; first | rwa [add_block] at this | exact this) GW130.out) | (rw [add_block]; exact Nat.ne_of_lt (Nat.lt_of_lt_of_le (by have := World.block_lt_of_cell? _ _ hw125_0; first | rwa [add_block] at this | exact this) GW130.out)) | (show (Addr.add _ _).block ≠ _; rw [add_block]; exact Nat.ne_of_lt (Nat.lt_of_lt_of_le (by have := World.block_lt_of_cell? _ _ hw125_0; first | rwa [add_block] at this | exact this) GW130.out)) | (dsimp only; exact Nat.ne_of_lt (Nat.lt_of_lt_of_le (by have := World.block_lt_of_cell? _ _ hw125_0; first | rwa [add_block] at this | exact this) GW130.out))) _).trans (((cell_far (p := ⟨gb130, _, none⟩) (by first | exact Nat.ne_of_lt (Nat.lt_of_lt_of_le (by have := World.block_lt_of_cell? _ _ hw125_0; first | rwa [add_block] at this | exact this) GW130.out) | (rw [add_block]; exact Nat.ne_of_lt (Nat.lt_of_lt_of_le (by have := World.block_lt_of_cell? _ _ hw125_0; first | rwa [add_block] at this | exact this) GW130.out)) | (show (Addr.add _ _).block ≠ _; rw [add_block]; exact Nat.ne_of_lt (Nat.lt_of_lt_of_le (by have := World.block_lt_of_cell? _ _ hw125_0; first | rwa [add_block] at this | exact this) GW130.out)) | (dsimp only; exact Nat.ne_of_lt (Nat.lt_of_lt_of_le (by have := World.block_lt_of_cell? _ _ hw125_0; first | rwa [add_block] at this | exact this) GW130.out))) _).trans (((cell_far (p := ⟨gb130, _, none⟩) (by first | exact Nat.ne_of_lt (Nat.lt_of_lt_of_le (by have := World.block_lt_of_cell? _ _ hw125_0; first | rwa [add_block] at this | exact this) GW130.out) | (rw [add_block]; exact Nat.ne_of_lt (Nat.lt_of_lt_of_le (by have := World.block_lt_of_cell? _ _ hw125_0; first | rwa [add_block] at this | exact this) GW130.out)) | (show (Addr.add _ _).block ≠ _; rw [add_block]; exact Nat.ne_of_lt (Nat.lt_of_lt_of_le (by have := World.block_lt_of_cell? _ _ hw125_0; first | rwa [add_block] at this | exact this) GW130.out)) | (dsimp only; exact Nat.ne_of_lt (Nat.lt_of_lt_of_le (by have := World.block_lt_of_cell? _ _ hw125_0; first | rwa [add_block] at this | exact this) GW130.out))) _).trans (hHeld.1)))))))))))), ((cell_far (p := ⟨gb130, _, none⟩) (by first | exact Nat.ne_of_lt (Nat.lt_of_lt_of_le (by have := World.block_lt_of_cell? _ _ hw126_0; first | rwa [add_block] at this | exact this) GW130.out) | (rw [add_block]; exact Nat.ne_of_lt (Nat.lt_of_lt_of_le (by have := World.block_lt_of_cell? _ _ hw126_0; first | rwa [add_block] at this | exact this) GW130.out)) | (show (Addr.add _ _).block ≠ _; rw [add_block]; exact Nat.ne_of_lt (Nat.lt_of_lt_of_le (by have := World.block_lt_of_cell? _ _ hw126_0; first | rwa [add_block] at this | exact this) GW130.out)) | (dsimp only; exact Nat.ne_of_lt (Nat.lt_of_lt_of_le (by have := World.block_lt_of_cell? _ _ hw126_0; first | rwa [add_block] at this | exact this) GW130.out))) _).trans (((cell_far (p := ⟨gb130, _, none⟩) (by first | exact Nat.ne_of_lt (Nat.lt_of_lt_of_le (by have := World.block_lt_of_cell? _ _ hw126_0; first | rwa [add_block] at this | exact this) GW130.out) | (rw [add_block]; exact Nat.ne_of_lt (Nat.lt_of_lt_of_le (by have := World.block_lt_of_cell? _ _ hw126_0; first | rwa [add_block] at this | exact this) GW130.out)) | (show (Addr.add _ _).block ≠ _; rw [add_block]; exact Nat.ne_of_lt (Nat.lt_of_lt_of_le (by have := World.block_lt_of_cell? _ _ hw126_0; first | rwa [add_block] at this | exact this) GW130.out)) | (dsimp only; exact Nat.ne_of_lt (Nat.lt_of_lt_of_le (by have := World.block_lt_of_cell? _ _ hw126_0; first | rwa [add_block] at this | exact this) GW130.out))) _).trans (((cell_far (p := ⟨gb130, _, none⟩) (by first | exact Nat.ne_of_lt (Nat.lt_of_lt_of_le (by have := World.block_lt_of_cell? _ _ hw126_0; first | rwa [add_block] at this | exact this) GW130.out) | (rw [add_block]; exact Nat.ne_of_lt (Nat.lt_of_lt_of_le (by have := World.block_lt_of_cell? _ _ hw126_0; first | rwa [add_block] at this | exact this) GW130.out)) | (show (Addr.add _ _).block ≠ _; rw [add_block]; exact Nat.ne_of_lt (Nat.lt_of_lt_of_le (by have := World.block_lt_of_cell? _ _ hw126_0; first | rwa [add_block] at this | exact this) GW130.out)) | (dsimp only; exact Nat.ne_of_lt (Nat.lt_of_lt_of_le (by have := World.block_lt_of_cell? _ _ hw126_0; first | rwa [add_block] at this | exact this) GW130.out))) _).trans (((cell_far (p := ⟨gb130, _, none⟩) (by first | exact Nat.ne_of_lt (Nat.lt_of_lt_of_le (by have := World.block_lt_of_cell? _ _ hw126_0; first | rwa [add_block] at this | exact this) GW130.out) | (rw [add_block]; exact Nat.ne_of_lt (Nat.lt_of_lt_of_le (by have := World.block_lt_of_cell? _ _ hw126_0; first | rwa [add_block] at this | exact this) GW130.out)) | (show (Addr.add _ _).block ≠ _; rw [add_block]; exact Nat.ne_of_lt (Nat.lt_of_lt_of_le (by have := World.block_lt_of_cell? _ _ hw126_0; first | rwa [add_block] at this | exact this) GW130.out)) | (dsimp only; exact Nat.ne_of_lt (Nat.lt_of_lt_of_le (by have := World.block_lt_of_cell? _ _ hw126_0; first | rwa [add_block] at this | exact this) GW130.out))) _).trans (((cell_far (p := ⟨gb130, _, none⟩) (by first | exact Nat.ne_of_lt (Nat.lt_of_lt_of_le (by have := World.block_lt_of_cell? _ _ hw126_0; first | rwa [add_block] at this | exact this) GW130.out) | (rw [add_block]; exact Nat.ne_of_lt (Nat.lt_of_lt_of_le (by have := World.block_lt_of_cell? _ _ hw126_0; first | rwa [add_block] at this | exact this) GW130.out)) | (show (Addr.add _ _).block ≠ _; rw [add_block]; exact Nat.ne_of_lt (Nat.lt_of_lt_of_le (by have := World.block_lt_of_cell? _ _ hw126_0; first | rwa [add_block] at this | exact this) GW130.out)) | (dsimp only; exact Nat.ne_of_lt (Nat.lt_of_lt_of_le (by have := World.block_lt_of_cell? _ _ hw126_0; first | rwa [add_block] at this | exact this) GW130.out))) _).trans (((cell_far (p := ⟨gb130, _, none⟩) (by first | exact Nat.ne_of_lt (Nat.lt_of_lt_of_le (by have := World.block_lt_of_cell? _ _ hw126_0; first | rwa [add_block] at this | exact this) GW130.out) | (rw [add_block]; exact Nat.ne_of_lt (Nat.lt_of_lt_of_le (by have := World.block_lt_of_cell? _ _ hw126_0; first | rwa [add_block] at this | exact this) GW130.out)) | (show (Addr.add _ _).block ≠ _; rw [add_block]; exact Nat.ne_of_lt (Nat.lt_of_lt_of_le (by have := World.block_lt_of_cell? _ _ hw126_0; first | rwa [add_block] at this | exact this) GW130.out)) | (dsimp only; exact Nat.ne_of_lt (Nat.lt_of_lt_of_le (by have := World.block_lt_of_cell? _ _ hw126_0; first | rwa [add_block] at this | exact this) GW130.out))) _).trans (hHeld.2.1)))))))))))), ((cell_far (p := ⟨gb130, _, none⟩) (by first | exact Nat.ne_of_lt (Nat.lt_of_lt_of_le (by have := World.block_lt_of_cell? _ _ hw127_0; first | rwa [add_block] at this | exact this) GW130.out) | (rw [add_block]; exact Nat.ne_of_lt (Nat.lt_of_lt_of_le (by have := World.block_lt_of_cell? _ _ hw127_0; first | rwa [add_block] at this | exact this) GW130.out)) | (show (Addr.add _ _).block ≠ _; rw [add_block]; exact Nat.ne_of_lt (Nat.lt_of_lt_of_le (by have := World.block_lt_of_cell? _ _ hw127_0; first | rwa [add_block] at this | exact this) GW130.out)) | (dsimp only; exact Nat.ne_of_lt (Nat.lt_of_lt_of_le (by have := World.block_lt_of_cell? _ _ hw127_0; first | rwa [add_block] at this | exact this) GW130.out))) _).trans (((cell_far (p := ⟨gb130, _, none⟩) (by first | exact Nat.ne_of_lt (Nat.lt_of_lt_of_le (by have := World.block_lt_of_cell? _ _ hw127_0; first | rwa [add_block] at this | exact this) GW130.out) | (rw [add_block]; exact Nat.ne_of_lt (Nat.lt_of_lt_of_le (by have := World.block_lt_of_cell? _ _ hw127_0; first | rwa [add_block] at this | exact this) GW130.out)) | (show (Addr.add _ _).block ≠ _; rw [add_block]; exact Nat.ne_of_lt (Nat.lt_of_lt_of_le (by have := World.block_lt_of_cell? _ _ hw127_0; first | rwa [add_block] at this | exact this) GW130.out)) | (dsimp only; exact Nat.ne_of_lt (Nat.lt_of_lt_of_le (by have := World.block_lt_of_cell? _ _ hw127_0; first | rwa [add_block] at this | exact this) GW130.out))) _).trans (((cell_far (p := ⟨gb130, _, none⟩) (by first | exact Nat.ne_of_lt (Nat.lt_of_lt_of_le (by have := World.block_lt_of_cell? _ _ hw127_0; first | rwa [add_block] at this | exact this) GW130.out) | (rw [add_block]; exact Nat.ne_of_lt (Nat.lt_of_lt_of_le (by have := World.block_lt_of_cell? _ _ hw127_0; first | rwa [add_block] at this | exact this) GW130.out)) | (show (Addr.add _ _).block ≠ _; rw [add_block]; exact Nat.ne_of_lt (Nat.lt_of_lt_of_le (by have := World.block_lt_of_cell? _ _ hw127_0; first | rwa [add_block] at this | exact this) GW130.out)) | (dsimp only; exact Nat.ne_of_lt (Nat.lt_of_lt_of_le (by have := World.block_lt_of_cell? _ _ hw127_0; first | rwa [add_block] at this | exact this) GW130.out))) _).trans (((cell_far (p := ⟨gb130, _, none⟩) (by first | exact Nat.ne_of_lt (Nat.lt_of_lt_of_le (by have := World.block_lt_of_cell? _ _ hw127_0; first | rwa [add_block] at this | exact this) GW130.out) | (rw [add_block]; exact Nat.ne_of_lt (Nat.lt_of_lt_of_le (by have := World.block_lt_of_cell? _ _ hw127_0; first | rwa [add_block] at this | exact this) GW130.out)) | (show (Addr.add _ _).block ≠ _; rw [add_block]; exact Nat.ne_of_lt (Nat.lt_of_lt_of_le (by have := World.block_lt_of_cell? _ _ hw127_0; first | rwa [add_block] at this | exact this) GW130.out)) | (dsimp only; exact Nat.ne_of_lt (Nat.lt_of_lt_of_le (by have := World.block_lt_of_cell? _ _ hw127_0; first | rwa [add_block] at this | exact this) GW130.out))) _).trans (((cell_far (p := ⟨gb130, _, none⟩) (by first | exact Nat.ne_of_lt (Nat.lt_of_lt_of_le (by have := World.block_lt_of_cell? _ _ hw127_0; first | rwa [add_block] at this | exact this) GW130.out) | (rw [add_block]; exact Nat.ne_of_lt (Nat.lt_of_lt_of_le (by have := World.block_lt_of_cell? _ _ hw127_0; first | rwa [add_block] at this | exact this) GW130.out)) | (show (Addr.add _ _).block ≠ _; rw [add_block]; exact Nat.ne_of_lt (Nat.lt_of_lt_of_le (by have := World.block_lt_of_cell? _ _ hw127_0; first | rwa [add_block] at this | exact this) GW130.out)) | (dsimp only; exact Nat.ne_of_lt (Nat.lt_of_lt_of_le (by have := World.block_lt_of_cell? _ _ hw127_0; first | rwa [add_block] at this | exact this) GW130.out))) _).trans (((cell_far (p := ⟨gb130, _, none⟩) (by first | exact Nat.ne_of_lt (Nat.lt_of_lt_of_le (by have := World.block_lt_of_cell? _ _ hw127_0; first | rwa [add_block] at this | exact this) GW130.out) | (rw [add_block]; exact Nat.ne_of_lt (Nat.lt_of_lt_of_le (by have := World.block_lt_of_cell? _ _ hw127_0; first | rwa [add_block] at this | exact this) GW130.out)) | (show (Addr.add _ _).block ≠ _; rw [add_block]; exact Nat.ne_of_lt (Nat.lt_of_lt_of_le (by have := World.block_lt_of_cell? _ _ hw127_0; first | rwa [add_block] at this | exact this) GW130.out)) | (dsimp only; exact Nat.ne_of_lt (Nat.lt_of_lt_of_le (by have := World.block_lt_of_cell? _ _ hw127_0; first | rwa [add_block] at this | exact this) GW130.out))) _).trans (hHeld.2.2.1)))))))))))), ((cell_far (p := ⟨gb130, _, none⟩) (by first | exact Nat.ne_of_lt (Nat.lt_of_lt_of_le (by have := World.block_lt_of_cell? _ _ hw128_0; first | rwa [add_block] at this | exact this) GW130.out) | (rw [add_block]; exact Nat.ne_of_lt (Nat.lt_of_lt_of_le (by have := World.block_lt_of_cell? _ _ hw128_0; first | rwa [add_block] at this | exact this) GW130.out)) | (show (Addr.add _ _).block ≠ _; rw [add_block]; exact Nat.ne_of_lt (Nat.lt_of_lt_of_le (by have := World.block_lt_of_cell? _ _ hw128_0; first | rwa [add_block] at this | exact this) GW130.out)) | (dsimp only; exact Nat.ne_of_lt (Nat.lt_of_lt_of_le (by have := World.block_lt_of_cell? _ _ hw128_0; first | rwa [add_block] at this | exact this) GW130.out))) _).trans (((cell_far (p := ⟨gb130, _, none⟩) (by first | exact Nat.ne_of_lt (Nat.lt_of_lt_of_le (by have := World.block_lt_of_cell? _ _ hw128_0; first | rwa [add_block] at this | exact this) GW130.out) | (rw [add_block]; exact Nat.ne_of_lt (Nat.lt_of_lt_of_le (by have := World.block_lt_of_cell? _ _ hw128_0; first | rwa [add_block] at this | exact this) GW130.out)) | (show (Addr.add _ _).block ≠ _; rw [add_block]; exact Nat.ne_of_lt (Nat.lt_of_lt_of_le (by have := World.block_lt_of_cell? _ _ hw128_0; first | rwa [add_block] at this | exact this) GW130.out)) | (dsimp only; exact Nat.ne_of_lt (Nat.lt_of_lt_of_le (by have := World.block_lt_of_cell? _ _ hw128_0; first | rwa [add_block] at this | exact this) GW130.out))) _).trans (((cell_far (p := ⟨gb130, _, none⟩) (by first | exact Nat.ne_of_lt (Nat.lt_of_lt_of_le (by have := World.block_lt_of_cell? _ _ hw128_0; first | rwa [add_block] at this | exact this) GW130.out) | (rw [add_block]; exact Nat.ne_of_lt (Nat.lt_of_lt_of_le (by have := World.block_lt_of_cell? _ _ hw128_0; first | rwa [add_block] at this | exact this) GW130.out)) | (show (Addr.add _ _).block ≠ _; rw [add_block]; exact Nat.ne_of_lt (Nat.lt_of_lt_of_le (by have := World.block_lt_of_cell? _ _ hw128_0; first | rwa [add_block] at this | exact this) GW130.out)) | (dsimp only; exact Nat.ne_of_lt (Nat.lt_of_lt_of_le (by have := World.block_lt_of_cell? _ _ hw128_0; first | rwa [add_block] at this | exact this) GW130.out))) _).trans (((cell_far (p := ⟨gb130, _, none⟩) (by first | exact Nat.ne_of_lt (Nat.lt_of_lt_of_le (by have := World.block_lt_of_cell? _ _ hw128_0; first | rwa [add_block] at this | exact this) GW130.out) | (rw [add_block]; exact Nat.ne_of_lt (Nat.lt_of_lt_of_le (by have := World.block_lt_of_cell? _ _ hw128_0; first | rwa [add_block] at this | exact this) GW130.out)) | (show (Addr.add _ _).block ≠ _; rw [add_block]; exact Nat.ne_of_lt (Nat.lt_of_lt_of_le (by have := World.block_lt_of_cell? _ _ hw128_0; first | rwa [add_block] at this | exact this) GW130.out)) | (dsimp only; exact Nat.ne_of_lt (Nat.lt_of_lt_of_le (by have := World.block_lt_of_cell? _ _ hw128_0; first | rwa [add_block] at this | exact this) GW130.out))) _).trans (((cell_far (p := ⟨gb130, _, none⟩) (by first | exact Nat.ne_of_lt (Nat.lt_of_lt_of_le (by have := World.block_lt_of_cell? _ _ hw128_0; first | rwa [add_block] at this | exact this) GW130.out) | (rw [add_block]; exact Nat.ne_of_lt (Nat.lt_of_lt_of_le (by have := World.block_lt_of_cell? _ _ hw128_0; first | rwa [add_block] at this | exact this) GW130.out)) | (show (Addr.add _ _).block ≠ _; rw [add_block]; exact Nat.ne_of_lt (Nat.lt_of_lt_of_le (by have := World.block_lt_of_cell? _ _ hw128_0; first | rwa [add_block] at this | exact this) GW130.out)) | (dsimp only; exact Nat.ne_of_lt (Nat.lt_of_lt_of_le (by have := World.block_lt_of_cell? _ _ hw128_0; first | rwa [add_block] at this | exact this) GW130.out))) _).trans (((cell_far (p := ⟨gb130, _, none⟩) (by first | exact Nat.ne_of_lt (Nat.lt_of_lt_of_le (by have := World.block_lt_of_cell? _ _ hw128_0; first | rwa [add_block] at this | exact this) GW130.out) | (rw [add_block]; exact Nat.ne_of_lt (Nat.lt_of_lt_of_le (by have := World.block_lt_of_cell? _ _ hw128_0; first | rwa [add_block] at this | exact this) GW130.out)) | (show (Addr.add _ _).block ≠ _; rw [add_block]; exact Nat.ne_of_lt (Nat.lt_of_lt_of_le (by have := World.block_lt_of_cell? _ _ hw128_0; first | rwa [add_block] at this | exact this) GW130.out)) | (dsimp only; exact Nat.ne_of_lt (Nat.lt_of_lt_of_le (by have := World.block_lt_of_cell? _ _ hw128_0; first | rwa [add_block] at this | exact this) GW130.out))) _).trans (hHeld.2.2.2.1)))))))))))), ((cell_far (p := ⟨gb130, _, none⟩) (by first | exact Nat.ne_of_lt (Nat.lt_of_lt_of_le (by have := World.block_lt_of_cell? _ _ hw129_0; first | rwa [add_block] at this | exact this) GW130.out) | (rw [add_block]; exact Nat.ne_of_lt (Nat.lt_of_lt_of_le (by have := World.block_lt_of_cell? _ _ hw129_0; first | rwa [add_block] at this | exact this) GW130.out)) | (show (Addr.add _ _).block ≠ _; rw [add_block]; exact Nat.ne_of_lt (Nat.lt_of_lt_of_le (by have := World.block_lt_of_cell? _ _ hw129_0; first | rwa [add_block] at this | exact this) GW130.out)) | (dsimp only; exact Nat.ne_of_lt (Nat.lt_of_lt_of_le (by have := World.block_lt_of_cell? _ _ hw129_0; first | rwa [add_block] at this | exact this) GW130.out))) _).trans (((cell_far (p := ⟨gb130, _, none⟩) (by first | exact Nat.ne_of_lt (Nat.lt_of_lt_of_le (by have := World.block_lt_of_cell? _ _ hw129_0; first | rwa [add_block] at this | exact this) GW130.out) | (rw [add_block]; exact Nat.ne_of_lt (Nat.lt_of_lt_of_le (by have := World.block_lt_of_cell? _ _ hw129_0; first | rwa [add_block] at this | exact this) GW130.out)) | (show (Addr.add _ _).block ≠ _; rw [add_block]; exact Nat.ne_of_lt (Nat.lt_of_lt_of_le (by have := World.block_lt_of_cell? _ _ hw129_0; first | rwa [add_block] at this | exact this) GW130.out)) | (dsimp only; exact Nat.ne_of_lt (Nat.lt_of_lt_of_le (by have := World.block_lt_of_cell? _ _ hw129_0; first | rwa [add_block] at this | exact this) GW130.out))) _).trans (((cell_far (p := ⟨gb130, _, none⟩) (by first | exact Nat.ne_of_lt (Nat.lt_of_lt_of_le (by have := World.block_lt_of_cell? _ _ hw129_0; first | rwa [add_block] at this | exact this) GW130.out) | (rw [add_block]; exact Nat.ne_of_lt (Nat.lt_of_lt_of_le (by have := World.block_lt_of_cell? _ _ hw129_0; first | rwa [add_block] at this | exact this) GW130.out)) | (show (Addr.add _ _).block ≠ _; rw [add_block]; exact Nat.ne_of_lt (Nat.lt_of_lt_of_le (by have := World.block_lt_of_cell? _ _ hw129_0; first | rwa [add_block] at this | exact this) GW130.out)) | (dsimp only; exact Nat.ne_of_lt (Nat.lt_of_lt_of_le (by have := World.block_lt_of_cell? _ _ hw129_0; first | rwa [add_block] at this | exact this) GW130.out))) _).trans (((cell_far (p := ⟨gb130, _, none⟩) (by first | exact Nat.ne_of_lt (Nat.lt_of_lt_of_le (by have := World.block_lt_of_cell? _ _ hw129_0; first | rwa [add_block] at this | exact this) GW130.out) | (rw [add_block]; exact Nat.ne_of_lt (Nat.lt_of_lt_of_le (by have := World.block_lt_of_cell? _ _ hw129_0; first | rwa [add_block] at this | exact this) GW130.out)) | (show (Addr.add _ _).block ≠ _; rw [add_block]; exact Nat.ne_of_lt (Nat.lt_of_lt_of_le (by have := World.block_lt_of_cell? _ _ hw129_0; first | rwa [add_block] at this | exact this) GW130.out)) | (dsimp only; exact Nat.ne_of_lt (Nat.lt_of_lt_of_le (by have := World.block_lt_of_cell? _ _ hw129_0; first | rwa [add_block] at this | exact this) GW130.out))) _).trans (((cell_far (p := ⟨gb130, _, none⟩) (by first | exact Nat.ne_of_lt (Nat.lt_of_lt_of_le (by have := World.block_lt_of_cell? _ _ hw129_0; first | rwa [add_block] at this | exact this) GW130.out) | (rw [add_block]; exact Nat.ne_of_lt (Nat.lt_of_lt_of_le (by have := World.block_lt_of_cell? _ _ hw129_0; first | rwa [add_block] at this | exact this) GW130.out)) | (show (Addr.add _ _).block ≠ _; rw [add_block]; exact Nat.ne_of_lt (Nat.lt_of_lt_of_le (by have := World.block_lt_of_cell? _ _ hw129_0; first | rwa [add_block] at this | exact this) GW130.out)) | (dsimp only; exact Nat.ne_of_lt (Nat.lt_of_lt_of_le (by have := World.block_lt_of_cell? _ _ hw129_0; first | rwa [add_block] at this | exact this) GW130.out))) _).trans (((cell_far (p := ⟨gb130, _, none⟩) (by first | exact Nat.ne_of_lt (Nat.lt_of_lt_of_le (by have := World.block_lt_of_cell? _ _ hw129_0; first | rwa [add_block] at this | exact this) GW130.out) | (rw [add_block]; exact Nat.ne_of_lt (Nat.lt_of_lt_of_le (by have := World.block_lt_of_cell? _ _ hw129_0; first | rwa [add_block] at this | exact this) GW130.out)) | (show (Addr.add _ _).block ≠ _; rw [add_block]; exact Nat.ne_of_lt (Nat.lt_of_lt_of_le (by have := World.block_lt_of_cell? _ _ hw129_0; first | rwa [add_block] at this | exact this) GW130.out)) | (dsimp only; exact Nat.ne_of_lt (Nat.lt_of_lt_of_le (by have := World.block_lt_of_cell? _ _ hw129_0; first | rwa [add_block] at this | exact this) GW130.out))) _).trans (hHeld.2.2.2.2))))))))))))⟩ (fun hHeld => ?_)
                  clear hK K
                  refine done_ (done_of HT_.out (by kernel_rfl)) ?_
                  try go_wp2
                  go_loopg [4] kj1 (fun kq v4 w' => ∃ (x4_2 : Int) (x131004_2 : List (S31)) (u131004 : Value), v4 = .int .i64 x4_2 ∧ Aside0 (ask_Answer.l0 kq l0 x4_2 (rd l0 0) ((rd l0 1) == 1) (rd l0 2) (rd l0 3) x131004_2 ((rd l0 4) == 1) = some (r1, r2, r3, r4, r5, r6)) ∧ Aside0 (kq ≤ kj1) ∧ Aside0 (Kd.R k31 31 w' w.heap.size (fun _ => True) u131004 x131004_2) ∧ Aside0 (w'.heap[gb124]? = some (.cells #[.int .i64 0, .bool false, .int .i64 0, .int .i64 0, (.slice none 0 0), .bool false] 26 (0, 0))) ∧ Aside0 (w'.heap[gb130]? = some (.cells #[.int .i64 (rd l0 0), .bool ((rd l0 1) == 1), .int .i64 (rd l0 2), .int .i64 (rd l0 3), u131004, .bool ((rd l0 4) == 1)] 26 (0, 0))) ∧ Aside0 (Below w.heap.size w w'))
                  case atStart => exact ⟨(5), (([] : List (S31))), (.slice none 0 0), (by first | rfl | (simp; done) | (simp [*]; done)), H', ⟨Nat.le_refl _⟩, ⟨by first | exact Kd.R_nil _ _ _ _ _ | exact Kd.N_nil _ _ _ _ _ | exact Kd.V_nil _ _ _ _ _ | exact Kd.Q_nil _ _ _ _ _ | exact Kd.S_nil _ _ _ _ _⟩, ⟨by (with_reducible repeat (first | refine blk_drewN ?_ _ | refine blk_drew ?_ | refine blk_alloc ?_ _)); refine blk_far ?_ NB124_130.out _; (with_reducible repeat (first | refine blk_drewN ?_ _ | refine blk_drew ?_ | refine blk_alloc ?_ _)); refine blk_far ?_ NB124_130.out _; (with_reducible repeat (first | refine blk_drewN ?_ _ | refine blk_drew ?_ | refine blk_alloc ?_ _)); refine blk_far ?_ NB124_130.out _; (with_reducible repeat (first | refine blk_drewN ?_ _ | refine blk_drew ?_ | refine blk_alloc ?_ _)); refine blk_far ?_ NB124_130.out _; (with_reducible repeat (first | refine blk_drewN ?_ _ | refine blk_drew ?_ | refine blk_alloc ?_ _)); refine blk_far ?_ NB124_130.out _; (with_reducible repeat (first | refine blk_drewN ?_ _ | refine blk_drew ?_ | refine blk_alloc ?_ _)); refine blk_far ?_ NB124_130.out _; (with_reducible repeat (first | refine blk_drewN ?_ _ | refine blk_drew ?_ | refine blk_alloc ?_ _)); exact BK124.out⟩, ⟨by (with_reducible repeat (first | refine blk_drewN ?_ _ | refine blk_drew ?_ | refine blk_alloc ?_ _)); refine blk_put (cs := #[.int .i64 (rd l0 0), .bool ((rd l0 1) == 1), .int .i64 (rd l0 2), .int .i64 (rd l0 3), .slice none 0 0, .bool false]) ?_ 5 _ rfl; (with_reducible repeat (first | refine blk_drewN ?_ _ | refine blk_drew ?_ | refine blk_alloc ?_ _)); refine blk_put (cs := #[.int .i64 (rd l0 0), .bool ((rd l0 1) == 1), .int .i64 (rd l0 2), .int .i64 (rd l0 3), .slice none 0 0, .bool false]) ?_ 4 _ rfl; (with_reducible repeat (first | refine blk_drewN ?_ _ | refine blk_drew ?_ | refine blk_alloc ?_ _)); refine blk_put (cs := #[.int .i64 (rd l0 0), .bool ((rd l0 1) == 1), .int .i64 (rd l0 2), .int .i64 0, .slice none 0 0, .bool false]) ?_ 3 _ rfl; (with_reducible repeat (first | refine blk_drewN ?_ _ | refine blk_drew ?_ | refine blk_alloc ?_ _)); refine blk_put (cs := #[.int .i64 (rd l0 0), .bool ((rd l0 1) == 1), .int .i64 0, .int .i64 0, .slice none 0 0, .bool false]) ?_ 2 _ rfl; (with_reducible repeat (first | refine blk_drewN ?_ _ | refine blk_drew ?_ | refine blk_alloc ?_ _)); refine blk_put (cs := #[.int .i64 (rd l0 0), .bool false, .int .i64 0, .int .i64 0, .slice none 0 0, .bool false]) ?_ 1 _ rfl; (with_reducible repeat (first | refine blk_drewN ?_ _ | refine blk_drew ?_ | refine blk_alloc ?_ _)); refine blk_put (cs := #[.int .i64 0, .bool false, .int .i64 0, .int .i64 0, .slice none 0 0, .bool false]) ?_ 0 _ rfl; (with_reducible repeat (first | refine blk_drewN ?_ _ | refine blk_drew ?_ | refine blk_alloc ?_ _)); exact BK130.out⟩, ⟨by repeat (first | (with_reducible first | exact HB.out | apply below_alloc | apply pw_below_drewN | apply below_drew1 | refine below_set ?_ GE124.out | refine below_set ?_ GE130.out) | exact HB.out)⟩⟩
                  case round =>
                    clear H'
                    try clear c1
                    try clear p1
                    try clear q1
                    try clear hx1
                    try clear qi1
                    try clear p2
                    try clear c4
                    try clear c4b0
                    try clear c4b1
                    try clear c5
                    try clear c7
                    try clear c7b0
                    try clear c7b1
                    try clear c8
                    try clear c8b0
                    try clear c8b1
                    try clear c9
                    try clear c9b0
                    try clear c9b1
                    try clear c10
                    try clear c10b0
                    try clear c10b1
                    try clear c11
                    try clear c11b0
                    try clear c11b1
                    try clear p12
                    try clear q12
                    try clear hx12
                    try clear qi12
                    try clear hcz6_0
                    try clear hcz6_1
                    try clear hcz6_2
                    try clear hcz6_3
                    try clear hcz6_4
                    try clear hcz6_5
                    try clear hfz6_0
                    try clear hfz6_1
                    try clear hfz6_2
                    try clear hfz6_3
                    try clear hfz6_4
                    try clear hfz6_5
                    try clear hx125_0
                    try clear hx126_0
                    try clear hx127_0
                    try clear hx128_0
                    try clear hx129_0
                    try clear p125
                    try clear p126
                    try clear p127
                    try clear p128
                    try clear p129
                    try clear p2
                    try clear q125
                    try clear q126
                    try clear q127
                    try clear q128
                    try clear q129
                    obtain ⟨x4_2, x131004_2, u131004, rfl, HA, HK2, HO_131004, BK124, BK130, HB⟩ := hrel
                    cases gk with
                    | zero => exact absurd HA.out (by simp [ask_Answer.l0])
                    | succ k2 =>
                      have H := HA.out
                      clear HA
                      simp only [ask_Answer.l0] at H
                      by_cases c20 : x4_2 < (l0.length : Int)
                      · rw [if_pos c20] at H
                        have c20b0 : decide (x4_2 < (l0.length : Int)) = true := decide_eq_true c20
                        clear c20
                        by_cases c21 : 0 ≤ x4_2
                        · rw [if_pos c21] at H
                          have c21b0 : decide (0 ≤ x4_2) = true := decide_eq_true c21
                          clear c21
                          obtain ⟨ji22, hji22⟩ : ∃ j_ : Int, (wrap64 (x4_2 + 1)) = j_ := ⟨_, rfl⟩
                          replace H : (if 0 ≤ (ji22) then (if (ji22) < (l0.length : Int) then (if x131004_2.length < 8796093022208 then (ask_Answer.l0 k2 l0 (wrap64 (x4_2 + 2)) (rd l0 0) ((rd l0 1) == 1) (rd l0 2) (rd l0 3) (x131004_2 ++ [(⟨rd l0 x4_2, rd l0 (ji22)⟩ : S31)]) ((rd l0 4) == 1)) else (none)) else (none)) else (none)) = some (r1, r2, r3, r4, r5, r6) := by first | (rw [hji22] at H; exact H) | (simp only [hji22] at H ⊢; exact H)
                          have hji22w : (IntKind.i64.wrap (x4_2 + 1)) = ji22 := (i64_w _).trans hji22
                          by_cases c23 : 0 ≤ (ji22)
                          · rw [if_pos c23] at H
                            have c23b0 : decide (0 ≤ (ji22)) = true := decide_eq_true c23
                            clear c23
                            by_cases c24 : (ji22) < (l0.length : Int)
                            · rw [if_pos c24] at H
                              have c24b0 : decide ((ji22) < (l0.length : Int)) = true := decide_eq_true c24
                              clear c24
                              by_cases c25 : x131004_2.length < 8796093022208
                              · rw [if_pos c25] at H
                                have LMc25 := Aside0.mk c25
                                clear c25
                                obtain ⟨y133, hy133⟩ : ∃ y_ : List (S31), y_ = (x131004_2 ++ [(⟨rd l0 x4_2, rd l0 (ji22)⟩ : S31)]) := ⟨_, rfl⟩
                                replace H : (ask_Answer.l0 k2 l0 (wrap64 (x4_2 + 2)) (rd l0 0) ((rd l0 1) == 1) (rd l0 2) (rd l0 3) y133 ((rd l0 4) == 1)) = some (r1, r2, r3, r4, r5, r6) := by first | (rw [hy133]; with_reducible exact H) | (have H2_ := (Option.bind_some _ _).symm.trans H; rw [hy133]; with_reducible exact H2_) | (have H2_ := (Option.bind_some _ _).symm.trans H; with_reducible exact H2_) | with_reducible exact H | (rw [hy133]; exact H) | exact H
                                have Ny133 := Aside0.mk hy133
                                clear hy133
                                have H' := Aside0.mk H
                                clear H
                                try go_wp2
                                have n0_ := Aside0.mk (Kd.R_drew HO_131004.out)
                                have n1_ := Aside0.mk (blk_drew BK124.out)
                                have n2_ := Aside0.mk (blk_drew BK130.out)
                                have n3_ := Aside0.mk (below_drew1 HB.out)
                                clear HO_131004
                                clear BK124
                                clear BK130
                                clear HB
                                have HO_131004 := n0_
                                have BK124 := n1_
                                have BK130 := n2_
                                have HB := n3_
                                clear n0_ n1_ n2_ n3_
                                have p131 : 0 ≤ (x4_2 : Int) := of_decide_eq_true (by first | (with_reducible assumption) | assumption)
                                have q131 : x4_2 < (l0.length : Int) := of_decide_eq_true (by first | (with_reducible assumption) | assumption)
                                obtain ⟨ad131, e131, hx131_0⟩ := Kd.at_int HR0.out x4_2 p131 q131
                                have hw131_0 := hx131_0
                                obtain rfl : ad125 = ad131 := (by injection e131)
                                replace hx131_0 := (HB.out.cell (World.block_lt_of_cell? w _ hx131_0)).trans hx131_0
                                replace p131 := eq_true p131
                                replace q131 := eq_true q131
                                have p132 : 0 ≤ ((ji22) : Int) := of_decide_eq_true (by first | (with_reducible assumption) | assumption)
                                have q132 : (ji22) < (l0.length : Int) := of_decide_eq_true (by first | (with_reducible assumption) | assumption)
                                obtain ⟨ad132, e132, hx132_0⟩ := Kd.at_int HR0.out (ji22) p132 q132
                                have hw132_0 := hx132_0
                                obtain rfl : ad125 = ad132 := (by injection e132)
                                replace hx132_0 := (HB.out.cell (World.block_lt_of_cell? w _ hx132_0)).trans hx132_0
                                replace p132 := eq_true p132
                                replace q132 := eq_true q132
                                refine start_ (n := 16) (S := fun w' => w'.cell? ⟨gb130, 0, none⟩ = some (.int .i64 (rd l0 0)) ∧ w'.cell? ⟨gb130, 1, none⟩ = some (.bool ((rd l0 1) == 1)) ∧ w'.cell? ⟨gb130, 2, none⟩ = some (.int .i64 (rd l0 2)) ∧ w'.cell? ⟨gb130, 3, none⟩ = some (.int .i64 (rd l0 3)) ∧ w'.cell? ⟨gb130, 4, none⟩ = some (u131004) ∧ w'.cell? ⟨gb130, 5, none⟩ = some (.bool ((rd l0 4) == 1)) ∧ w'.cell? (ad125.add (x4_2).toNat) = some (.int .i64 (rd l0 x4_2)) ∧ w'.cell? (ad125.add ((ji22)).toNat) = some (.int .i64 (rd l0 (ji22)))) (ds := [15]) #[N_,N_,N_,N_,N_,N_,N_,N_,N_,N_,N_,N_,N_,N_,N_,N_] (by kernel_rfl) rfl rfl ⟨(blk_cell BK130.out 0).trans rfl, (blk_cell BK130.out 1).trans rfl, (blk_cell BK130.out 2).trans rfl, (blk_cell BK130.out 3).trans rfl, (blk_cell BK130.out 4).trans rfl, (blk_cell BK130.out 5).trans rfl, ((HB.out.cell (World.block_lt_of_cell? w _ hw131_0)).trans hw131_0), ((HB.out.cell (World.block_lt_of_cell? w _ hw132_0)).trans hw132_0)⟩ (fun hHeld => ?_); refine with_tabW ask_Answer.tab7 ask_Answer.bits7 (fun HT_ HW_ => ?_)
                                generalize wr.drew = w26 at HO_131004 BK124 BK130 HB hx131_0 hx132_0 hHeld ⊢
                                refine pure_ (i := 0) (N := some 39) (v := ?_) (a' := ?_) #[Y_,N_,N_,N_,N_,N_,N_,N_,N_,N_,N_,N_,N_,N_,N_,N_] rfl rfl (any_of HT_.out (by kernel_rfl)) (fun _ _ _ h => h) (Or.inl ⟨by rfl, ?_⟩) ?_ ?_
                                rotate_left; · intro w'; go_simp; with_reducible rfl
                                rotate_left; · simp only [Act.put, u1_, u2_, u3_, i64_w, i32_w]; rfl
                                refine pure_ (i := 2) (N := some 41) (v := ?_) (a' := ?_) #[Y_,N_,Y_,N_,N_,N_,N_,N_,N_,N_,N_,N_,N_,N_,N_,N_] rfl rfl (any_of HT_.out (by kernel_rfl)) (fun _ _ _ h => h) (Or.inl ⟨by rfl, ?_⟩) ?_ ?_
                                rotate_left; · intro w'; go_simp; with_reducible rfl
                                rotate_left; · simp only [Act.put, u1_, u2_, u3_, i64_w, i32_w]; rfl
                                refine pure_ (i := 3) (N := some 42) (v := ?_) (a' := ?_) #[Y_,N_,Y_,Y_,N_,N_,N_,N_,N_,N_,N_,N_,N_,N_,N_,N_] rfl rfl (any_of HT_.out (by kernel_rfl)) (fun _ _ _ h => h) (Or.inl ⟨by rfl, ?_⟩) ?_ ?_
                                rotate_left; · intro w'; go_simp; with_reducible rfl
                                rotate_left; · simp only [Act.put, u1_, u2_, u3_, i64_w, i32_w]; rfl
                                refine pure_ (i := 4) (N := some 43) (v := ?_) (a' := ?_) #[Y_,N_,Y_,Y_,Y_,N_,N_,N_,N_,N_,N_,N_,N_,N_,N_,N_] rfl rfl (any_of HT_.out (by kernel_rfl)) (fun _ _ _ h => h) (Or.inl ⟨by rfl, ?_⟩) ?_ ?_
                                rotate_left; · intro w'; go_simp; with_reducible rfl
                                rotate_left; · simp only [Act.put, u1_, u2_, u3_, i64_w, i32_w]; rfl
                                refine pure_ (i := 6) (N := some 45) (v := ?_) (a' := ?_) #[Y_,N_,Y_,Y_,Y_,N_,Y_,N_,N_,N_,N_,N_,N_,N_,N_,N_] rfl rfl (any_of HT_.out (by kernel_rfl)) (fun _ _ _ h => h) (Or.inl ⟨by rfl, ?_⟩) ?_ ?_
                                rotate_left; · intro w'; go_simp; with_reducible rfl
                                rotate_left; · simp only [Act.put, u1_, u2_, u3_, i64_w, i32_w]; rfl
                                refine pure_ (i := 7) (N := some 46) (v := ?_) (a' := ?_) #[Y_,N_,Y_,Y_,Y_,N_,Y_,Y_,N_,N_,N_,N_,N_,N_,N_,N_] rfl rfl (any_of HT_.out (by kernel_rfl)) (fun _ _ _ h => h) (Or.inl ⟨by rfl, ?_⟩) ?_ ?_
                                rotate_left; · intro w'; go_simp; with_reducible rfl
                                rotate_left; · simp only [Act.put, u1_, u2_, u3_, i64_w, i32_w]; rfl
                                refine pure_ (i := 8) (N := some 47) (v := ?_) (a' := ?_) #[Y_,N_,Y_,Y_,Y_,N_,Y_,Y_,Y_,N_,N_,N_,N_,N_,N_,N_] rfl rfl (any_of HT_.out (by kernel_rfl)) (fun _ _ _ h => h) (Or.inl ⟨by rfl, ?_⟩) ?_ ?_
                                rotate_left; · intro w'; go_simp; with_reducible rfl
                                rotate_left; · simp only [Act.put, u1_, u2_, u3_, i64_w, i32_w]; rfl
                                refine pure_ (i := 9) (N := some 48) (v := ?_) (a' := ?_) #[Y_,N_,Y_,Y_,Y_,N_,Y_,Y_,Y_,Y_,N_,N_,N_,N_,N_,N_] rfl rfl (any_of HT_.out (by kernel_rfl)) (fun _ _ _ h => h) (Or.inl ⟨by rfl, ?_⟩) ?_ ?_
                                rotate_left; · intro w'; go_simp; with_reducible rfl
                                rotate_left; · simp only [Act.put, u1_, u2_, u3_, i64_w, i32_w]; rfl
                                refine take_ (i := 1) (N := some 40) (v := ?_) (a' := ?_) #[Y_,Y_,Y_,Y_,Y_,N_,Y_,Y_,Y_,Y_,N_,N_,N_,N_,N_,N_] rfl rfl (take_ofW HT_.out HW_.out (by kernel_rfl)) (fun _ _ _ h => h) (Or.inl ⟨by rfl, ?_⟩) hHeld ?_ ?_
                                rotate_left; · rintro w' ⟨s0, s1, s2, s3, s4, s5, s6, s7⟩; go_simp; with_reducible rfl
                                rotate_left; · simp only [Act.put, u1_, u2_, u3_, i64_w, i32_w]; rfl
                                refine take_ (i := 5) (N := some 44) (v := ?_) (a' := ?_) #[Y_,Y_,Y_,Y_,Y_,Y_,Y_,Y_,Y_,Y_,N_,N_,N_,N_,N_,N_] rfl rfl (take_ofW HT_.out HW_.out (by kernel_rfl)) (fun _ _ _ h => h) (Or.inl ⟨by rfl, ?_⟩) hHeld ?_ ?_
                                rotate_left; · rintro w' ⟨s0, s1, s2, s3, s4, s5, s6, s7⟩; go_simp; with_reducible rfl
                                rotate_left; · simp only [Act.put, u1_, u2_, u3_, i64_w, i32_w]; rfl
                                refine take_ (i := 10) (N := some 49) (v := ?_) (a' := ?_) #[Y_,Y_,Y_,Y_,Y_,Y_,Y_,Y_,Y_,Y_,Y_,N_,N_,N_,N_,N_] rfl rfl (take_ofW HT_.out HW_.out (by kernel_rfl)) (fun _ _ _ h => h) (Or.inl ⟨by rfl, ?_⟩) hHeld ?_ ?_
                                rotate_left; · rintro w' ⟨s0, s1, s2, s3, s4, s5, s6, s7⟩; go_simp; with_reducible rfl
                                rotate_left; · simp only [Act.put, u1_, u2_, u3_, i64_w, i32_w]; rfl
                                refine pure_ (i := 11) (N := some 50) (v := ?_) (a' := ?_) #[Y_,Y_,Y_,Y_,Y_,Y_,Y_,Y_,Y_,Y_,Y_,Y_,N_,N_,N_,N_] rfl rfl (any_of HT_.out (by kernel_rfl)) (fun _ _ _ h => h) (Or.inl ⟨by rfl, ?_⟩) ?_ ?_
                                rotate_left; · intro w'; go_simp; with_reducible rfl
                                rotate_left; · simp only [Act.put, u1_, u2_, u3_, i64_w, i32_w]; rfl
                                refine one_ (i := 12) (N := some 51) #[Y_,Y_,Y_,Y_,Y_,Y_,Y_,Y_,Y_,Y_,Y_,Y_,Y_,N_,N_,N_] rfl rfl (one_of HT_.out (by kernel_rfl)) (by decide) (fun K hK => ?_)
                                refine value_ (w1 := ?_) (v := ?_) (by rfl) rfl ?_ ?_
                                rotate_left 2
                                · go_simp
                                  constructor
                                  · rfl
                                  · rfl
                                refine hK.out _ _ ⟨(blk_cell (blk_alloc BK130.out _) 0).trans rfl, (blk_cell (blk_alloc BK130.out _) 1).trans rfl, (blk_cell (blk_alloc BK130.out _) 2).trans rfl, (blk_cell (blk_alloc BK130.out _) 3).trans rfl, (blk_cell (blk_alloc BK130.out _) 4).trans rfl, (blk_cell (blk_alloc BK130.out _) 5).trans rfl, (World.cell?_alloc_lt _ _ _ (World.block_lt_of_cell? _ _ (((HB.out.cell (World.block_lt_of_cell? w _ hw131_0)).trans hw131_0)))).trans (((HB.out.cell (World.block_lt_of_cell? w _ hw131_0)).trans hw131_0)), (World.cell?_alloc_lt _ _ _ (World.block_lt_of_cell? _ _ (((HB.out.cell (World.block_lt_of_cell? w _ hw132_0)).trans hw132_0)))).trans (((HB.out.cell (World.block_lt_of_cell? w _ hw132_0)).trans hw132_0))⟩ (fun hHeld => ?_)
                                clear hK K
                                refine norm_ (a' := ?_) ?_ ?_
                                rotate_left; · show Act.put _ (some 51) _ = _; simp only [Act.put, u1_, u2_, u3_, i64_w, i32_w]; rfl
                                refine one_ (i := 13) (N := some 52) #[Y_,Y_,Y_,Y_,Y_,Y_,Y_,Y_,Y_,Y_,Y_,Y_,Y_,Y_,N_,N_] rfl rfl (one_of HT_.out (by kernel_rfl)) (by decide) (fun K hK => ?_)
                                refine Kd.R_append_step k31 (w0 := w) w.heap.size (by rfl) (.tmp 40) (.tmp 51) 24 31 (.agg #[(.int .i64 0), (.int .i64 0)]) 16 rfl Tryz.underlying24 info31 rfl (by decide) (by omega) u131004 x131004_2 (⟨rd l0 x4_2, rd l0 (ji22)⟩ : S31) [.int .i64 (rd l0 x4_2), .int .i64 (rd l0 (ji22))] (fun _ => True) (fun _ => False) rfl rfl ?aP (fun _ hk => hk.elim) ?aF ?aO ?aB ?aS ?aL ?_
                                (case aP => exact k31_mkM _ _ _ (⟨rd l0 x4_2, rd l0 (ji22)⟩ : S31))
                                (case aB => exact (by repeat (first | (with_reducible first | exact HB.out | apply below_alloc | apply pw_below_drewN | apply below_drew1 | refine below_set ?_ GE124.out | refine below_set ?_ GE130.out) | exact HB.out)))
                                (case aF => exact (fun _ _ => trivial))
                                (case aO => exact (by (with_reducible repeat (first | apply Kd.R_alloc | apply Kd.R_drewN | apply Kd.R_drew)); exact HO_131004.out))
                                (case aS => exact (below_size (by repeat (first | (with_reducible first | exact HB.out | apply below_alloc | apply pw_below_drewN | apply below_drew1 | refine below_set ?_ GE124.out | refine below_set ?_ GE130.out) | exact HB.out))))
                                (case aL => have := LMc25.out; omega)
                                intro v134 w27 ho hb hg hat
                                rw [← Ny133.out] at ho
                                have n0_ := Aside0.mk (blk_grown (g := gb124) (o := .cells #[.int .i64 0, .bool false, .int .i64 0, .int .i64 0, .slice none 0 0, .bool false] 26 (0, 0)) (by (with_reducible repeat (first | refine blk_drewN ?_ _ | refine blk_drew ?_ | refine blk_alloc ?_ _)); exact BK124.out) hg (Kd.R_ne HO_131004.out BK124.out (by decide)))
                                have n1_ := Aside0.mk (blk_grown (g := gb130) (o := .cells #[.int .i64 (rd l0 0), .bool ((rd l0 1) == 1), .int .i64 (rd l0 2), .int .i64 (rd l0 3), u131004, .bool ((rd l0 4) == 1)] 26 (0, 0)) (by (with_reducible repeat (first | refine blk_drewN ?_ _ | refine blk_drew ?_ | refine blk_alloc ?_ _)); exact BK130.out) hg (Kd.R_ne HO_131004.out BK130.out (by decide)))
                                have n2_ := Aside0.mk (hb)
                                have n3_ := Aside0.mk (ho)
                                clear BK124
                                clear BK130
                                clear HB
                                clear HO_131004
                                have BK124 := n0_
                                have BK130 := n1_
                                have HB := n2_
                                have HO135 := n3_
                                clear n0_ n1_ n2_ n3_
                                clear ho hb hg hat
                                obtain ⟨Ao28, co28, eo28⟩ := Kd.R_slice HO135.out
                                (first | subst eo28 | (injection eo28 with f1_ f2_ f3_; have f4_ := f1_.symm; have f5_ := f3_.symm; clear f1_ f2_ f3_; subst f4_; subst f5_))
                                refine hK.out _ _ ⟨(blk_cell BK130.out 0).trans rfl, (blk_cell BK130.out 1).trans rfl, (blk_cell BK130.out 2).trans rfl, (blk_cell BK130.out 3).trans rfl, (blk_cell BK130.out 4).trans rfl, (blk_cell BK130.out 5).trans rfl, ((HB.out.cell (World.block_lt_of_cell? w _ hw131_0)).trans hw131_0), ((HB.out.cell (World.block_lt_of_cell? w _ hw132_0)).trans hw132_0)⟩ (fun hHeld => ?_)
                                clear hK K
                                refine norm_ (a' := ?_) ?_ ?_
                                rotate_left; · show Act.put _ (some 52) _ = _; simp only [Act.put, u1_, u2_, u3_, i64_w, i32_w]; rfl
                                refine pure_ (i := 14) (N := some 53) (v := ?_) (a' := ?_) #[Y_,Y_,Y_,Y_,Y_,Y_,Y_,Y_,Y_,Y_,Y_,Y_,Y_,Y_,Y_,N_] rfl rfl (any_of HT_.out (by kernel_rfl)) (fun _ _ _ h => h) (Or.inl ⟨by rfl, ?_⟩) ?_ ?_
                                rotate_left; · intro w'; go_simp; with_reducible rfl
                                rotate_left; · simp only [Act.put, u1_, u2_, u3_, i64_w, i32_w]; rfl
                                refine last_ (i := 15) (N := none) #[Y_,Y_,Y_,Y_,Y_,Y_,Y_,Y_,Y_,Y_,Y_,Y_,Y_,Y_,Y_,Y_] rfl rfl (one_of HT_.out (by kernel_rfl)) (by decide) (fun K hK => ?_)
                                have hs29 : w27.cell? ⟨gb130, 4, none⟩ = some (u131004) := (blk_cell BK130.out 4).trans rfl
                                have hfs29 := blk_frozen BK130.out 4
                                have hns29_0 := NB124_130.out
                                have hms29_0 := NB130_124.out
                                refine skip_ (w1 := ?_) (by rfl) rfl ?_ ?_
                                rotate_left
                                · go_simp
                                  rfl
                                refine hK.out _ _ ?_
                                clear hK K
                                refine done_ (done_of HT_.out (by kernel_rfl)) ?_
                                try go_wp2
                                go_roundg k2
                                case measure => have := HJ1.out; have := HK2.out; omega
                                case rel => exact ⟨(wrap64 (x4_2 + 2)), (y133), (.slice Ao28 y133.length co28), (by first | rfl | (simp; done) | (simp [*]; done)), H', ⟨by have := HJ1.out; have := HK2.out; omega⟩, ⟨by (with_reducible repeat (first | apply Kd.R_alloc | apply Kd.R_drewN | apply Kd.R_drew)); exact Kd.R_mono (Kd.R_far (p := ⟨gb130, 4, none⟩) (Kd.R_types HO135.out BK130.out (by decide)) (fun _ hk => hk.2) (.slice Ao28 y133.length co28)) (fun _ hk => trivial)⟩, ⟨by (with_reducible repeat (first | refine blk_drewN ?_ _ | refine blk_drew ?_ | refine blk_alloc ?_ _)); refine blk_far ?_ NB124_130.out _; (with_reducible repeat (first | refine blk_drewN ?_ _ | refine blk_drew ?_ | refine blk_alloc ?_ _)); exact BK124.out⟩, ⟨by (with_reducible repeat (first | refine blk_drewN ?_ _ | refine blk_drew ?_ | refine blk_alloc ?_ _)); refine blk_put (cs := #[.int .i64 (rd l0 0), .bool ((rd l0 1) == 1), .int .i64 (rd l0 2), .int .i64 (rd l0 3), u131004, .bool ((rd l0 4) == 1)]) ?_ 4 _ rfl; (with_reducible repeat (first | refine blk_drewN ?_ _ | refine blk_drew ?_ | refine blk_alloc ?_ _)); exact BK130.out⟩, ⟨by repeat (first | (with_reducible first | exact HB.out | apply below_alloc | apply pw_below_drewN | apply below_drew1 | refine below_set ?_ GE124.out | refine below_set ?_ GE130.out) | exact HB.out)⟩⟩
                              · rw [if_neg c25] at H
                                exact absurd H (by simp)
                            · rw [if_neg c24] at H
                              exact absurd H (by simp)
                          · rw [if_neg c23] at H
                            exact absurd H (by simp)
                        · rw [if_neg c21] at H
                          exact absurd H (by simp)
                      · rw [if_neg c20] at H
                        have c20b0 : decide (x4_2 < (l0.length : Int)) = false := decide_eq_false c20
                        clear c20
                        simp only [Option.some.injEq, Prod.mk.injEq] at H
                        obtain ⟨rfl, rfl, rfl, rfl, rfl, rfl⟩ := H
                        have hnb30 := NB130_124.out
                        have hnc30 := NB124_130.out
                        have hcz31_0 : wr.cell? ⟨gb130, 0, none⟩ = some (.int .i64 (rd l0 0)) := (blk_cell BK130.out 0).trans rfl
                        have hcz31_1 : wr.cell? ⟨gb130, 1, none⟩ = some (.bool ((rd l0 1) == 1)) := (blk_cell BK130.out 1).trans rfl
                        have hcz31_2 : wr.cell? ⟨gb130, 2, none⟩ = some (.int .i64 (rd l0 2)) := (blk_cell BK130.out 2).trans rfl
                        have hcz31_3 : wr.cell? ⟨gb130, 3, none⟩ = some (.int .i64 (rd l0 3)) := (blk_cell BK130.out 3).trans rfl
                        have hcz31_4 : wr.cell? ⟨gb130, 4, none⟩ = some (u131004) := (blk_cell BK130.out 4).trans rfl
                        have hcz31_5 : wr.cell? ⟨gb130, 5, none⟩ = some (.bool ((rd l0 4) == 1)) := (blk_cell BK130.out 5).trans rfl
                        have hfz31_0 := blk_frozen BK130.out 0
                        have hfz31_1 := blk_frozen BK130.out 1
                        have hfz31_2 := blk_frozen BK130.out 2
                        have hfz31_3 := blk_frozen BK130.out 3
                        have hfz31_4 := blk_frozen BK130.out 4
                        have hfz31_5 := blk_frozen BK130.out 5
                        have hcz32_0 : wr.cell? ⟨gb124, 0, none⟩ = some (.int .i64 0) := (blk_cell BK124.out 0).trans rfl
                        have hcz32_1 : wr.cell? ⟨gb124, 1, none⟩ = some (.bool false) := (blk_cell BK124.out 1).trans rfl
                        have hcz32_2 : wr.cell? ⟨gb124, 2, none⟩ = some (.int .i64 0) := (blk_cell BK124.out 2).trans rfl
                        have hcz32_3 : wr.cell? ⟨gb124, 3, none⟩ = some (.int .i64 0) := (blk_cell BK124.out 3).trans rfl
                        have hcz32_4 : wr.cell? ⟨gb124, 4, none⟩ = some (.slice none 0 0) := (blk_cell BK124.out 4).trans rfl
                        have hcz32_5 : wr.cell? ⟨gb124, 5, none⟩ = some (.bool false) := (blk_cell BK124.out 5).trans rfl
                        have hfz32_0 := blk_frozen BK124.out 0
                        have hfz32_1 := blk_frozen BK124.out 1
                        have hfz32_2 := blk_frozen BK124.out 2
                        have hfz32_3 := blk_frozen BK124.out 3
                        have hfz32_4 := blk_frozen BK124.out 4
                        have hfz32_5 := blk_frozen BK124.out 5
                        obtain ⟨Ao33, co33, eo33⟩ := Kd.R_slice HO_131004.out
                        subst eo33
                        go_wp2
                        refine bodyPost_ret (results_cell_row rfl _ _ gb124 26 #[.int .i64 (rd l0 0), .bool ((rd l0 1) == 1), .int .i64 (rd l0 2), .int .i64 (rd l0 3), .slice Ao33 x131004_2.length co33, .bool ((rd l0 4) == 1)] (0, 0) _ rfl (by (with_reducible repeat (first | refine blk_drewN ?_ _ | refine blk_drew ?_ | refine blk_alloc ?_ _)); refine blk_put (cs := #[.int .i64 (rd l0 0), .bool ((rd l0 1) == 1), .int .i64 (rd l0 2), .int .i64 (rd l0 3), .slice Ao33 x131004_2.length co33, .bool false]) ?_ 5 _ rfl; (with_reducible repeat (first | refine blk_drewN ?_ _ | refine blk_drew ?_ | refine blk_alloc ?_ _)); refine blk_put (cs := #[.int .i64 (rd l0 0), .bool ((rd l0 1) == 1), .int .i64 (rd l0 2), .int .i64 (rd l0 3), .slice none 0 0, .bool false]) ?_ 4 _ rfl; (with_reducible repeat (first | refine blk_drewN ?_ _ | refine blk_drew ?_ | refine blk_alloc ?_ _)); refine blk_put (cs := #[.int .i64 (rd l0 0), .bool ((rd l0 1) == 1), .int .i64 (rd l0 2), .int .i64 0, .slice none 0 0, .bool false]) ?_ 3 _ rfl; (with_reducible repeat (first | refine blk_drewN ?_ _ | refine blk_drew ?_ | refine blk_alloc ?_ _)); refine blk_put (cs := #[.int .i64 (rd l0 0), .bool ((rd l0 1) == 1), .int .i64 0, .int .i64 0, .slice none 0 0, .bool false]) ?_ 2 _ rfl; (with_reducible repeat (first | refine blk_drewN ?_ _ | refine blk_drew ?_ | refine blk_alloc ?_ _)); refine blk_put (cs := #[.int .i64 (rd l0 0), .bool false, .int .i64 0, .int .i64 0, .slice none 0 0, .bool false]) ?_ 1 _ rfl; (with_reducible repeat (first | refine blk_drewN ?_ _ | refine blk_drew ?_ | refine blk_alloc ?_ _)); refine blk_put (cs := #[.int .i64 0, .bool false, .int .i64 0, .int .i64 0, .slice none 0 0, .bool false]) ?_ 0 _ rfl; (with_reducible repeat (first | refine blk_drewN ?_ _ | refine blk_drew ?_ | refine blk_alloc ?_ _)); exact BK124.out) Tryz.underlying26 rfl (by kernel_rfl)) rfl ?_
                        exact ⟨_, by first | rfl | (simp [errW_none, errW_some] <;> rfl) | (simp [*, errW_none, errW_some] <;> rfl), by (with_reducible repeat (first | apply Kd.R_alloc | apply Kd.R_drewN | apply Kd.R_drew)); exact Kd.R_mono (Kd.R_far (p := ⟨gb124, 5, none⟩) (Kd.R_far (p := ⟨gb124, 4, none⟩) (Kd.R_far (p := ⟨gb124, 3, none⟩) (Kd.R_far (p := ⟨gb124, 2, none⟩) (Kd.R_far (p := ⟨gb124, 1, none⟩) (Kd.R_far (p := ⟨gb124, 0, none⟩) (Kd.R_types HO_131004.out BK124.out (by decide)) (fun _ hk => hk.2) (.int .i64 (rd l0 0))) (fun _ hk => hk.2) (.bool ((rd l0 1) == 1))) (fun _ hk => hk.2) (.int .i64 (rd l0 2))) (fun _ hk => hk.2) (.int .i64 (rd l0 3))) (fun _ hk => hk.2) (.slice Ao33 x131004_2.length co33)) (fun _ hk => hk.2) (.bool ((rd l0 4) == 1))) (fun _ hk => trivial), by repeat (first | (with_reducible first | exact HB.out | apply below_alloc | apply pw_below_drewN | apply below_drew1 | refine below_set ?_ GE124.out | refine below_set ?_ GE130.out) | exact HB.out)⟩
                · rw [if_neg c11] at H
                  exact absurd H (by simp)
              · rw [if_neg c10] at H
                exact absurd H (by simp)
            · rw [if_neg c9] at H
              exact absurd H (by simp)
          · rw [if_neg c8] at H
            exact absurd H (by simp)
        · rw [if_neg c7] at H
          exact absurd H (by simp)
end Go.Proofs.YthlmgbdknjilpaaGreat.PAskKinds
namespace Go.Proofs.YthlmgbdknjilpaaGreat.Tower
open Go Go.RowKit Go.Proofs.YthlmgbdknjilpaaGreatW.PrintWords Go.Proofs.YthlmgbdknjilpaaGreatW.PrintLast Go.Proofs.YthlmgbdknjilpaaGreatW.PrintMore Go.Proofs.YthlmgbdknjilpaaGreat.Own Go.Proofs.YthlmgbdknjilpaaGreat.PAskKinds
set_option linter.unusedVariables false
set_option linter.unusedSimpArgs false
def prs (l : List Int) (i : Nat) : Nat → List S31
  | 0 => []
  | m + 1 => ⟨l.getD i 0, l.getD (i + 1) 0⟩ :: prs l (i + 2) m
theorem prs_length (l : List Int) : ∀ (m i : Nat), (prs l i m).length = m
  | 0, _ => rfl
  | m + 1, i => by simp [prs, prs_length l m]
theorem prs_get (l : List Int) : ∀ (m i j : Nat), j < m → (prs l i m).getD j z31 = ⟨l.getD (i + 2 * j) 0, l.getD (i + 2 * j + 1) 0⟩
  | 0, _, _, h => by omega
  | m + 1, i, 0, _ => by simp [prs]
  | m + 1, i, j + 1, h => by
    have := prs_get l m (i + 2) j (by omega)
    simp only [prs, List.getD_cons_succ]
    rw [this]
    simp [show i + 2 + 2 * j = i + 2 * (j + 1) by omega]
theorem rd_nat (l : List Int) (i : Nat) : rd l (i : Int) = l.getD i 0 := by simp [rd]
theorem answer_l0 (x0 : List Int) (a : Int) (b : Bool) (c d : Int) (e : Bool) (hl : x0.length < 1000) : ∀ (m k i : Nat) (acc : List S31), x0.length = i + 2 * m → m < k → acc.length + m < 1000 → ask_Answer.l0 k x0 (i : Int) a b c d acc e = some (a, b, c, d, acc ++ prs x0 i m, e)
  | 0, k + 1, i, acc, h1, h2, h3 => by
    unfold ask_Answer.l0
    rw [if_neg (by omega)]
    simp [prs]
  | m + 1, k + 1, i, acc, h1, h2, h3 => by
    unfold ask_Answer.l0
    have w1 : wrap64 ((i : Int) + 1) = ((i + 1 : Nat) : Int) := by unfold wrap64; omega
    have w2 : wrap64 ((i : Int) + 2) = ((i + 2 : Nat) : Int) := by unfold wrap64; omega
    rw [w1, w2, if_pos (by omega), if_pos (by omega), if_pos (by omega), if_pos (by omega), if_pos (by omega), rd_nat, rd_nat, answer_l0 x0 a b c d e hl m k (i + 2) _ (by omega) (by omega) (by simp; omega)]
    simp [prs]
theorem j0_false (k : Nat) (l : List Int) (h : 5 ≤ l.length) : ask_Answer.j0 (k + 1) l false = ask_Answer.l0 k l 5 (rd l 0) (rd l 1 == 1) (rd l 2) (rd l 3) [] (rd l 4 == 1) := by
  unfold ask_Answer.j0
  dsimp only
  rw [if_neg (by decide), if_pos (by omega), if_pos (by omega), if_pos (by omega), if_pos (by omega), if_pos (by omega)]
theorem answer_some (l : List Int) (m : Nat) (h : l.length = 5 + 2 * m) (hm : m < 100) : ask_Answer.f 1000 l = some (rd l 0, rd l 1 == 1, rd l 2, rd l 3, prs l 5 m, rd l 4 == 1) := by
  unfold ask_Answer.f
  have h2 : (((l.length : Int) % 2) == 0) = false := by simp; omega
  rw [if_neg (by omega), h2, j0_false 999 l (by omega)]
  have := answer_l0 l (rd l 0) (rd l 1 == 1) (rd l 2) (rd l 3) (rd l 4 == 1) (by omega) m 999 5 [] (by omega) (by omega) (by simp; omega)
  simpa using this
theorem codeOf_length (a : Ans) : (codeOf a).length = 5 + 2 * a.pairs.length := by
  have : ∀ xs : List (Int × Int), (xs.flatMap fun q => [q.1, q.2]).length = 2 * xs.length := fun xs => by
    induction xs with
    | nil => rfl
    | cons q xs ih => rw [List.flatMap_cons, List.length_append, ih]; simp only [List.length_cons, List.length_nil]; omega
  have := this a.pairs
  unfold codeOf
  rw [List.length_append, this]
  rfl
theorem flat_get (xs : List (Int × Int)) : ∀ k, k < xs.length → (xs.flatMap fun q => [q.1, q.2]).getD (2 * k) 0 = (xs.getD k (0, 0)).1 ∧ (xs.flatMap fun q => [q.1, q.2]).getD (2 * k + 1) 0 = (xs.getD k (0, 0)).2 := by
  induction xs with
  | nil => intro k h; simp at h
  | cons q xs ih =>
    intro k h
    cases k with
    | zero => simp [List.flatMap_cons]
    | succ k =>
      have := ih k (by simpa using h)
      simp only [List.flatMap_cons, List.cons_append, List.nil_append, List.getD_cons_succ, show 2 * (k + 1) = 2 * k + 1 + 1 by omega, show 2 * k + 1 + 1 + 1 = (2 * k + 1) + 1 + 1 by omega]
      exact this
theorem codeOf_get (a : Ans) (k : Nat) (h : k < a.pairs.length) : (codeOf a).getD (5 + 2 * k) 0 = (a.pairs.getD k (0, 0)).1 ∧ (codeOf a).getD (6 + 2 * k) 0 = (a.pairs.getD k (0, 0)).2 := by
  have := flat_get a.pairs k h
  have e1 : 5 + 2 * k = 2 * k + 1 + 1 + 1 + 1 + 1 := by omega
  have e2 : 6 + 2 * k = (2 * k + 1) + 1 + 1 + 1 + 1 + 1 := by omega
  simp only [codeOf, e1, e2, List.cons_append, List.nil_append, List.getD_cons_succ]
  exact this
theorem b01_one (b : Bool) : (b01 b == 1) = b := by cases b <;> rfl
theorem prs_code (a : Ans) : prs (codeOf a) 5 a.pairs.length = a.pairs.map toS := by
  refine List.ext_getElem? fun j => ?_
  by_cases hj : j < a.pairs.length
  · have h1 := prs_get (codeOf a) a.pairs.length 5 j hj
    have h2 := codeOf_get a j hj
    rw [h2.1, show 5 + 2 * j + 1 = 6 + 2 * j by omega, h2.2, List.getD_eq_getElem?_getD, List.getElem?_eq_getElem (by rw [prs_length]; exact hj)] at h1
    rw [List.getElem?_eq_getElem (by rw [prs_length]; exact hj), List.getElem?_map, List.getElem?_eq_getElem hj]
    simp only [Option.getD_some] at h1
    rw [h1]
    simp [toS, List.getD_eq_getElem?_getD, hj]
  · rw [List.getElem?_eq_none (by rw [prs_length]; omega), List.getElem?_eq_none (by simp; omega)]
theorem answer_code (a : Ans) (hm : a.pairs.length < 100) : ask_Answer.f 1000 (codeOf a) = some (a.err, a.found, a.key, a.value, a.pairs.map toS, a.short) := by
  rw [answer_some (codeOf a) a.pairs.length (codeOf_length a) hm, prs_code]
  simp [rd, codeOf, b01_one]
theorem same02_self (l : List S31) (hl : l.length < 1000000) : ∀ (d k i : Nat), i + d = l.length → d < k → boscagelaw02_Same.l0 k l l (l.length : Int) (i : Int) = some true
  | 0, k + 1, i, h, hk => by
    unfold boscagelaw02_Same.l0
    rw [if_neg (by omega)]
  | d + 1, k + 1, i, h, hk => by
    unfold boscagelaw02_Same.l0
    rw [if_pos (by omega), if_pos (by omega), if_pos (by omega), if_pos (by omega), if_neg (by simp)]
    have w1 : wrap64 ((i : Int) + 1) = ((i + 1 : Nat) : Int) := by unfold wrap64; omega
    rw [w1]
    exact same02_self l hl d k (i + 1) (by omega) (by omega)
theorem same18_self (e : Int) (f : Bool) (k v : Int) (l : List S31) (s : Bool) (hl : l.length < 1000) : boscagelaw18_Same.f 1000 e f k v l s e f k v l s = some true := by
  unfold boscagelaw18_Same.f boscagelaw02_Same.f
  rw [if_pos rfl, if_pos (by simp), if_pos rfl, if_pos rfl, if_pos rfl]
  have := same02_self l (by omega) l.length 1000 0 (by omega) hl
  rw [Int.natCast_zero] at this
  rw [this]
  rfl
def SameOk (k : Nat) (s : Sh) : Prop := boscagelaw11_Same.f k s.f0 s.f1 s.f2 s.f3 s.f4 s.f0 s.f1 s.f2 s.f3 s.f4 = some true
theorem SameOk.up {k j : Nat} {s : Sh} (h : SameOk k s) (hk : k ≤ j) : SameOk j s := mono_le (fun i => boscagelaw11_Same.mono _ _ _ _ _ _ _ _ _ _ i) hk h
theorem same_kids (b0 b1 : Bool) (ps : List Pr2) (ks : List Int) (l : List Sh) (hl : l.length ≤ 60) (k : Nat) (hk : ∀ s ∈ l, SameOk k s) : ∀ (n i : Nat), i + n = l.length → boscagelaw11_Same.l1 (k + n + 1) (l.length : Int) (i : Int) b0 b1 ps ks l b0 b1 ps ks l = some true
  | 0, i, h => by
    unfold boscagelaw11_Same.l1
    rw [if_neg (by omega)]
  | n + 1, i, h => by
    have hi : i < l.length := by omega
    have hg : l[i]? = some l[i] := List.getElem?_eq_getElem hi
    have h1 : SameOk (k + (n + 1)) l[i] := (hk _ (List.getElem_mem hi)).up (by omega)
    unfold boscagelaw11_Same.l1
    rw [if_pos (by omega), if_pos (by omega), if_pos (by omega), if_pos (by omega), rd_T_at hg]
    rw [show boscagelaw11_Same.f (k + (n + 1)) l[i].f0 l[i].f1 l[i].f2 l[i].f3 l[i].f4 l[i].f0 l[i].f1 l[i].f2 l[i].f3 l[i].f4 = some true from h1]
    rw [Option.bind_some, if_pos rfl, show wrap64 ((i : Int) + 1) = ((i + 1 : Nat) : Int) from by unfold wrap64; omega]
    exact same_kids b0 b1 ps ks l hl k hk n (i + 1) (by omega)
theorem same_keys (b0 b1 : Bool) (ps : List Pr2) (ks : List Int) (l : List Sh) (hl : ks.length ≤ 60) (k : Nat) (hk : boscagelaw11_Same.l1 k (l.length : Int) 0 b0 b1 ps ks l b0 b1 ps ks l = some true) : ∀ (n i : Nat), i + n = ks.length → boscagelaw11_Same.l0 (k + n + 1) (ks.length : Int) (i : Int) b0 b1 ps ks l b0 b1 ps ks l = some true
  | 0, i, h => by
    unfold boscagelaw11_Same.l0
    rw [if_neg (by omega)]
    exact hk
  | n + 1, i, h => by
    unfold boscagelaw11_Same.l0
    rw [if_pos (by omega), if_pos (by omega), if_pos (by omega), if_pos (by omega), if_pos rfl, show wrap64 ((i : Int) + 1) = ((i + 1 : Nat) : Int) from by unfold wrap64; omega]
    exact same_keys b0 b1 ps ks l hl k hk n (i + 1) (by omega)
theorem same02_f (l : List Pr2) (k : Nat) (hl : l.length < 1000000) (hk : l.length < k) : boscagelaw02_Same.f k l l = some true := by
  unfold boscagelaw02_Same.f
  rw [if_pos rfl]
  have := same02_self l hl l.length k 0 (by omega) hk
  rw [Int.natCast_zero] at this
  exact this
theorem same_node (s : Sh) (hs : slimT s) (k : Nat) (hk : ∀ q ∈ s.f4, SameOk k q) : SameOk (k + s.f4.length + s.f3.length + 70) s := by
  rw [slimT_eq] at hs
  have h1 := same_kids s.f0 s.f1 s.f2 s.f3 s.f4 hs.2.2.1 k hk s.f4.length 0 (by omega)
  rw [Int.natCast_zero] at h1
  have h2 := same_keys s.f0 s.f1 s.f2 s.f3 s.f4 hs.2.1 _ h1 s.f3.length 0 (by omega)
  rw [Int.natCast_zero] at h2
  have h3 : boscagelaw11_Same.l0 (k + s.f4.length + s.f3.length + 68) (s.f3.length : Int) 0 s.f0 s.f1 s.f2 s.f3 s.f4 s.f0 s.f1 s.f2 s.f3 s.f4 = some true := mono_le (fun j => (boscagelaw11_Same.mono_l j).2.2.1 _ _ _ _ _ _ _ _ _ _ _ _) (by omega) h2
  unfold SameOk
  show boscagelaw11_Same.f (k + s.f4.length + s.f3.length + 69 + 1) _ _ _ _ _ _ _ _ _ _ = _
  unfold boscagelaw11_Same.f
  rw [if_neg (by simp), if_neg (by simp), same02_f _ _ (by omega) (by omega), Option.bind_some, if_pos rfl, if_pos rfl]
  show boscagelaw11_Same.j0 (k + s.f4.length + s.f3.length + 68 + 1) _ _ _ _ _ _ _ _ _ _ _ = _
  unfold boscagelaw11_Same.j0
  rw [if_neg (by simp)]
  exact h3
theorem same_ok : ∀ (d : Nat) (s : Sh), deepT s ≤ d → slimT s → SameOk (200 * (d + 1)) s := by
  intro d
  induction d with
  | zero =>
    intro s hd hs
    have hk : s.f4 = [] := by
      rw [deepT_eq] at hd
      cases h : s.f4 with
      | nil => rfl
      | cons k r => rw [h, deepL] at hd; omega
    have hs' := (slimT_eq s).1 hs
    exact (same_node s hs 0 (by rw [hk]; intro q hq; cases hq)).up (by omega)
  | succ d ih =>
    intro s hd hs
    have hs' := (slimT_eq s).1 hs
    rw [deepT_eq] at hd
    have hall : ∀ (l : List Sh), deepL l ≤ d + 1 → slimL l → ∀ q ∈ l, SameOk (200 * (d + 1)) q := by
      intro l
      induction l with
      | nil => intro _ _ q hq; cases hq
      | cons k r ihr =>
        intro h1 h2 q hq
        rw [deepL] at h1
        rw [slimL] at h2
        rcases List.mem_cons.1 hq with rfl | hq
        · exact ih _ (by omega) h2.1
        · exact ihr (by omega) h2.2 q hq
    exact (same_node s hs (200 * (d + 1)) (hall s.f4 hd hs'.2.2.2)).up (by omega)
theorem put_some (x1 x2 : Int) (l : List Pr2) (hl : l.length < 1000) : ∀ (n i : Nat) (b : Bool) (acc : List Pr2), i + n = l.length → acc.length ≤ i + (if b then 1 else 0) → ∃ r, boscagelaw02_Put.l0 (2 * n + 2) x1 x2 acc b l (l.length : Int) (i : Int) = some r ∧ r.length ≤ l.length + 1
  | 0, i, b, acc, h, ha => by
    unfold boscagelaw02_Put.l0
    rw [if_neg (by omega)]
    cases b with
    | true => rw [if_pos rfl]; exact ⟨acc, rfl, by simp at ha; omega⟩
    | false =>
      simp only [Bool.false_eq_true, if_false, Nat.add_zero] at ha ⊢
      rw [if_pos (by omega)]
      exact ⟨_, rfl, by simp; omega⟩
  | n + 1, i, b, acc, h, ha => by
    have hw : wrap64 ((i : Int) + 1) = ((i + 1 : Nat) : Int) := by unfold wrap64; omega
    have hj : ∀ (c : Bool) (p0 p1 : Int), (b = true → c = false) → ∃ r, boscagelaw02_Put.j1 (2 * n + 3) x1 x2 acc b l (l.length : Int) (i : Int) c p0 p1 = some r ∧ r.length ≤ l.length + 1 := by
      intro c p0 p1 hbc
      have hacc : acc.length < 8796093022208 := by split at ha <;> omega
      unfold boscagelaw02_Put.j1
      cases c with
      | true =>
        have hb : b = false := by cases b with
          | false => rfl
          | true => exact absurd (hbc rfl) (by simp)
        subst hb
        simp only [Bool.false_eq_true, if_false, Nat.add_zero] at ha
        rw [if_pos rfl, if_pos hacc, Option.bind_some]
        by_cases hp : p0 = x1
        · rw [if_pos hp, hw]
          exact put_some x1 x2 l hl n (i + 1) true _ (by omega) (by simp; omega)
        · rw [if_neg hp, if_pos (by simp; omega), hw]
          exact put_some x1 x2 l hl n (i + 1) true _ (by omega) (by simp; omega)
      | false =>
        rw [if_neg (by simp)]
        by_cases hp : p0 = x1
        · rw [if_pos hp, hw]
          exact put_some x1 x2 l hl n (i + 1) b _ (by omega) (by split at ha <;> simp_all <;> omega)
        · rw [if_neg hp, if_pos hacc, hw]
          exact put_some x1 x2 l hl n (i + 1) b _ (by omega) (by rw [List.length_append, List.length_singleton]; split at ha <;> simp_all <;> omega)
    show ∃ r, boscagelaw02_Put.l0 (2 * n + 3 + 1) _ _ _ _ _ _ _ = some r ∧ _
    unfold boscagelaw02_Put.l0
    rw [if_pos (by omega), if_pos (by omega), if_pos (by omega)]
    cases b with
    | true => rw [if_pos rfl]; exact hj _ _ _ (fun _ => rfl)
    | false => rw [if_neg (by simp)]; exact hj _ _ _ (fun h => by cases h)
theorem put_f (l : List Pr2) (x1 x2 : Int) (hl : l.length < 60) : ∃ r, boscagelaw02_Put.f 130 l x1 x2 = some r ∧ r.length ≤ l.length + 1 := by
  obtain ⟨r, h1, h2⟩ := put_some x1 x2 l (by omega) l.length 0 false [] (by omega) (by simp)
  refine ⟨r, ?_, h2⟩
  unfold boscagelaw02_Put.f
  rw [Int.natCast_zero] at h1
  exact mono_le (fun j => (boscagelaw02_Put.mono_l j).1 _ _ _ _ _ _ _) (by omega) h1
theorem rising_some (ks : List Int) (hl : ks.length ≤ 30) : ∀ (n i : Nat) (acc : List Pr2), i + n = ks.length → acc.length ≤ i → ∃ r, boscagelaw02_Rising.l0 (130 + n + 1) acc ks (ks.length : Int) (i : Int) = some r ∧ r.length ≤ ks.length
  | 0, i, acc, h, ha => by
    unfold boscagelaw02_Rising.l0
    rw [if_neg (by omega)]
    exact ⟨acc, rfl, by omega⟩
  | n + 1, i, acc, h, ha => by
    unfold boscagelaw02_Rising.l0
    rw [if_pos (by omega), if_pos (by omega), if_pos (by omega)]
    obtain ⟨r, h1, h2⟩ := put_f acc (rd ks (i : Int)) (wrap64 ((i : Int) + 100)) (by omega)
    rw [show boscagelaw02_Put.f (130 + (n + 1)) acc (rd ks (i : Int)) (wrap64 ((i : Int) + 100)) = some r from mono_le (fun j => boscagelaw02_Put.mono _ _ _ j) (by omega) h1, Option.bind_some, show wrap64 ((i : Int) + 1) = ((i + 1 : Nat) : Int) from by unfold wrap64; omega]
    exact rising_some ks hl n (i + 1) r (by omega) (by omega)
theorem rising_f (ks : List Int) (hl : ks.length ≤ 30) : ∃ r, boscagelaw02_Rising.f (130 + ks.length + 1) ks = some r ∧ r.length ≤ 30 := by
  obtain ⟨r, h1, h2⟩ := rising_some ks hl ks.length 0 [] (by omega) (by simp)
  rw [Int.natCast_zero] at h1
  exact ⟨r, h1, by omega⟩
theorem wide_f (b : Int) (h0 : 0 ≤ b) (h1 : b < 256) : ∃ wd : Nat, boscagelaw11_Wide.f b = some (wd : Int) ∧ 3 ≤ wd ∧ wd ≤ 8 := by
  obtain ⟨n, rfl⟩ := Int.eq_ofNat_of_zero_le h0
  refine ⟨3 + n % 6, ?_, by omega, by omega⟩
  unfold boscagelaw11_Wide.f
  rw [show wrap64 (n : Int) = (n : Int) from by unfold wrap64; omega, show Int.tmod (n : Int) 6 = ((n % 6 : Nat) : Int) from rfl]
  congr 1
  unfold wrap64
  omega
end Go.Proofs.YthlmgbdknjilpaaGreat.Tower
namespace Go.Proofs.YthlmgbdknjilpaaGreat.Tower
open Go Go.RowKit Go.Proofs.YthlmgbdknjilpaaGreatW.PrintWords Go.Proofs.YthlmgbdknjilpaaGreatW.PrintLast Go.Proofs.YthlmgbdknjilpaaGreatW.PrintMore Go.Proofs.YthlmgbdknjilpaaGreat.Own
set_option linter.unusedVariables false
set_option linter.unusedSimpArgs false
set_option maxHeartbeats 2000000 in
set_option maxRecDepth 100000 in
theorem span_kind (kind key upto value : Int) (hk : 12 ≤ kind) (w : World) : Calls Tryz.prog 72 #[.agg #[.int .u8 kind, .int .i64 key, .int .i64 upto, .int .i64 value]] w fun e w1 => e = .returned (.tuple #[.int .i64 0, .int .i64 0, .bool false]) ∧ Below w.heap.size w w1 := by
  have HK := Aside0.mk hk
  clear hk
  have d0 : decide (kind = 0) = false := decide_eq_false (by have := HK.out; omega)
  have f0 : (kind == 0) = false := by have := HK.out; simp; omega
  have g0 : ¬ kind = 0 := by have := HK.out; omega
  have d1 : decide (kind = 1) = false := decide_eq_false (by have := HK.out; omega)
  have f1 : (kind == 1) = false := by have := HK.out; simp; omega
  have g1 : ¬ kind = 1 := by have := HK.out; omega
  have d2 : decide (kind = 2) = false := decide_eq_false (by have := HK.out; omega)
  have f2 : (kind == 2) = false := by have := HK.out; simp; omega
  have g2 : ¬ kind = 2 := by have := HK.out; omega
  have d3 : decide (kind = 3) = false := decide_eq_false (by have := HK.out; omega)
  have f3 : (kind == 3) = false := by have := HK.out; simp; omega
  have g3 : ¬ kind = 3 := by have := HK.out; omega
  have d4 : decide (kind = 4) = false := decide_eq_false (by have := HK.out; omega)
  have f4 : (kind == 4) = false := by have := HK.out; simp; omega
  have g4 : ¬ kind = 4 := by have := HK.out; omega
  have d5 : decide (kind = 5) = false := decide_eq_false (by have := HK.out; omega)
  have f5 : (kind == 5) = false := by have := HK.out; simp; omega
  have g5 : ¬ kind = 5 := by have := HK.out; omega
  have d6 : decide (kind = 6) = false := decide_eq_false (by have := HK.out; omega)
  have f6 : (kind == 6) = false := by have := HK.out; simp; omega
  have g6 : ¬ kind = 6 := by have := HK.out; omega
  have d7 : decide (kind = 7) = false := decide_eq_false (by have := HK.out; omega)
  have f7 : (kind == 7) = false := by have := HK.out; simp; omega
  have g7 : ¬ kind = 7 := by have := HK.out; omega
  have d8 : decide (kind = 8) = false := decide_eq_false (by have := HK.out; omega)
  have f8 : (kind == 8) = false := by have := HK.out; simp; omega
  have g8 : ¬ kind = 8 := by have := HK.out; omega
  have d9 : decide (kind = 9) = false := decide_eq_false (by have := HK.out; omega)
  have f9 : (kind == 9) = false := by have := HK.out; simp; omega
  have g9 : ¬ kind = 9 := by have := HK.out; omega
  have d10 : decide (kind = 10) = false := decide_eq_false (by have := HK.out; omega)
  have f10 : (kind == 10) = false := by have := HK.out; simp; omega
  have g10 : ¬ kind = 10 := by have := HK.out; omega
  have d11 : decide (kind = 11) = false := decide_eq_false (by have := HK.out; omega)
  have f11 : (kind == 11) = false := by have := HK.out; simp; omega
  have g11 : ¬ kind = 11 := by have := HK.out; omega
  have HB := Aside0.mk (below_alloc (Below.refl w.heap.size w) (.cells #[.int .u8 kind, .int .i64 key, .int .i64 upto, .int .i64 value] 38))
  have hbx := blk_new w (.cells #[.int .u8 kind, .int .i64 key, .int .i64 upto, .int .i64 value] 38)
  go_enter Tryz.func72, Tryz.ntmps72
  go_wp2_with fail
  go_ret3
  exact ⟨rfl, HB.out⟩
def kindA : Ans := ⟨10, false, 0, 0, [], false⟩
def kindT : Pr Ws Ans := prRet kindA
set_option maxHeartbeats 4000000 in
set_option maxRecDepth 100000 in
theorem do_kind (p tb : Nat) (work : Value) (me : Int) (ok : Nat → Prop) (s : TS Ws) (w : World) (kind key upto value : Int) (hk : 12 ≤ kind) (h : IsRun (shW p) tb work ok s w) (res : Out Ans × TS Ws) (hr : kindT s = some res) :
    Calls Tryz.prog 41 #[taskV tb p me, .agg #[.int .u8 kind, .int .i64 key, .int .i64 upto, .int .i64 value]] w (TPost (shW p) tb work VAns ok w res) := by
  have HK := Aside0.mk hk
  have HRR : Aside0 (res = (.ret kindA, s)) := ⟨by injection hr with hr; exact hr.symm⟩
  have HSP := Aside0.mk (fun w => span_kind kind key upto value hk w)
  have HT := Aside0.mk (((TaskAt.enter (me := me) h).alloc (.cells #[.int .u8 kind, .int .i64 key, .int .i64 upto, .int .i64 value] 38)).alloc (.cells #[.int .i64 0, .bool false, .int .i64 0, .int .i64 0, .slice none 0 0, .bool false] 26))
  have HB3 := Aside0.mk ((Mine.new (TaskAt.enter (p := p) (tb := tb) (me := me) h).lt (.cells #[.int .u8 kind, .int .i64 key, .int .i64 upto, .int .i64 value] 38)).alloc (.cells #[.int .i64 0, .bool false, .int .i64 0, .int .i64 0, .slice none 0 0, .bool false] 26))
  have HB4 := Aside0.mk (Mine.new ((TaskAt.enter (me := me) h).alloc (.cells #[.int .u8 kind, .int .i64 key, .int .i64 upto, .int .i64 value] 38)).lt (.cells #[.int .i64 0, .bool false, .int .i64 0, .int .i64 0, .slice none 0 0, .bool false] 26))
  have HTV : taskV tb p me = .agg #[.pointer (some ⟨tb, 0, none⟩), .pointer (some ⟨p, 0, none⟩), .int .i64 me] := rfl
  rw [HTV]
  unfold taskO at HT HB3 HB4
  simp only [World.size_alloc] at HB3 HB4
  clear h hr HTV hk
  have d0 : decide (kind = 0) = false := decide_eq_false (by have := HK.out; omega)
  have f0 : (kind == 0) = false := by have := HK.out; simp; omega
  have g0 : ¬ kind = 0 := by have := HK.out; omega
  have d1 : decide (kind = 1) = false := decide_eq_false (by have := HK.out; omega)
  have f1 : (kind == 1) = false := by have := HK.out; simp; omega
  have g1 : ¬ kind = 1 := by have := HK.out; omega
  have d2 : decide (kind = 2) = false := decide_eq_false (by have := HK.out; omega)
  have f2 : (kind == 2) = false := by have := HK.out; simp; omega
  have g2 : ¬ kind = 2 := by have := HK.out; omega
  have d3 : decide (kind = 3) = false := decide_eq_false (by have := HK.out; omega)
  have f3 : (kind == 3) = false := by have := HK.out; simp; omega
  have g3 : ¬ kind = 3 := by have := HK.out; omega
  have d4 : decide (kind = 4) = false := decide_eq_false (by have := HK.out; omega)
  have f4 : (kind == 4) = false := by have := HK.out; simp; omega
  have g4 : ¬ kind = 4 := by have := HK.out; omega
  have d5 : decide (kind = 5) = false := decide_eq_false (by have := HK.out; omega)
  have f5 : (kind == 5) = false := by have := HK.out; simp; omega
  have g5 : ¬ kind = 5 := by have := HK.out; omega
  have d6 : decide (kind = 6) = false := decide_eq_false (by have := HK.out; omega)
  have f6 : (kind == 6) = false := by have := HK.out; simp; omega
  have g6 : ¬ kind = 6 := by have := HK.out; omega
  have d7 : decide (kind = 7) = false := decide_eq_false (by have := HK.out; omega)
  have f7 : (kind == 7) = false := by have := HK.out; simp; omega
  have g7 : ¬ kind = 7 := by have := HK.out; omega
  have d8 : decide (kind = 8) = false := decide_eq_false (by have := HK.out; omega)
  have f8 : (kind == 8) = false := by have := HK.out; simp; omega
  have g8 : ¬ kind = 8 := by have := HK.out; omega
  have d9 : decide (kind = 9) = false := decide_eq_false (by have := HK.out; omega)
  have f9 : (kind == 9) = false := by have := HK.out; simp; omega
  have g9 : ¬ kind = 9 := by have := HK.out; omega
  have d10 : decide (kind = 10) = false := decide_eq_false (by have := HK.out; omega)
  have f10 : (kind == 10) = false := by have := HK.out; simp; omega
  have g10 : ¬ kind = 10 := by have := HK.out; omega
  have d11 : decide (kind = 11) = false := decide_eq_false (by have := HK.out; omega)
  have f11 : (kind == 11) = false := by have := HK.out; simp; omega
  have g11 : ¬ kind = 11 := by have := HK.out; omega
  go_enter Tryz.func41, Tryz.ntmps41
  go_upto_region 1 with fail
  generalize ((w.alloc (.cells #[.pointer (some ⟨tb, 0, none⟩), .pointer (some ⟨p, 0, none⟩), .int .i64 me] 84)).alloc (.cells #[.int .u8 kind, .int .i64 key, .int .i64 upto, .int .i64 value] 38)).alloc (.cells #[.int .i64 0, .bool false, .int .i64 0, .int .i64 0, .slice none 0 0, .bool false] 26) = w3 at HT HB3 HB4 ⊢
  generalize hbb : w.heap.size = bt at HT HB3 HB4 ⊢
  have HWB : Aside0 (w.heap.size = bt) := ⟨hbb⟩
  clear hbb
  generalize hb3 : bt + 1 = b3 at HB3 HB4 ⊢
  generalize hb4 : b3 + 1 = b4 at HB4 ⊢
  have HW4 : Aside0 (w.heap.size ≤ b4) := ⟨by have := HWB.out; omega⟩
  have HT4 : Aside0 (b4 ≠ bt) := ⟨by omega⟩
  clear hb3 hb4
  have k0 := (blk_cell HB3.out.1 0).trans (rfl : _ = some (Value.int .u8 kind))
  have k1 := (blk_cell HB3.out.1 1).trans (rfl : _ = some (Value.int .i64 key))
  have k2 := (blk_cell HB3.out.1 2).trans (rfl : _ = some (Value.int .i64 upto))
  have k3 := (blk_cell HB3.out.1 3).trans (rfl : _ = some (Value.int .i64 value))
  go_upto_region 7 with (go_at_call 72; refine (HSP.out _).mono ?_; rintro e w4 ⟨rfl, hb4⟩; have HT := Aside0.mk (HT.out.below hb4); have HB3 := Aside0.mk (HB3.out.moves (Moves.of_below _ hb4)); have HB4 := Aside0.mk (HB4.out.moves (Moves.of_below _ hb4)); clear hb4 k0 k1 k2 k3)
  have k0 := (blk_cell HB3.out.1 0).trans (rfl : _ = some (Value.int .u8 kind))
  have e0 := (blk_cell HB4.out.1 0).trans (rfl : _ = some (Value.int .i64 0))
  have e1 := (blk_cell HB4.out.1 1).trans (rfl : _ = some (Value.bool false))
  have e2 := (blk_cell HB4.out.1 2).trans (rfl : _ = some (Value.int .i64 0))
  have e3 := (blk_cell HB4.out.1 3).trans (rfl : _ = some (Value.int .i64 0))
  have e4 := (blk_cell HB4.out.1 4).trans (rfl : _ = some (Value.slice none 0 0))
  have e5 := (blk_cell HB4.out.1 5).trans (rfl : _ = some (Value.bool false))
  have z0 := blk_frozen HB4.out.1 0
  have z1 := blk_frozen HB4.out.1 1
  have z2 := blk_frozen HB4.out.1 2
  have z3 := blk_frozen HB4.out.1 3
  have z4 := blk_frozen HB4.out.1 4
  have z5 := blk_frozen HB4.out.1 5
  go_wp2_with fail
  have HT6 := Aside0.mk ((((((HT.out.set (q := ⟨b4, 0, none⟩) HB4.out.2 HW4.out HT4.out (.int .i64 10)).set (q := ⟨b4, 1, none⟩) HB4.out.2 HW4.out HT4.out (.bool false)).set (q := ⟨b4, 2, none⟩) HB4.out.2 HW4.out HT4.out (.int .i64 0)).set (q := ⟨b4, 3, none⟩) HB4.out.2 HW4.out HT4.out (.int .i64 0)).set (q := ⟨b4, 4, none⟩) HB4.out.2 HW4.out HT4.out (.slice none 0 0)).set (q := ⟨b4, 5, none⟩) HB4.out.2 HW4.out HT4.out (.bool false))
  have HB6 := Aside0.mk (Mine.set (Mine.set (Mine.set (Mine.set (Mine.set (Mine.set HB4.out 0 (.int .i64 10)) 1 (.bool false)) 2 (.int .i64 0)) 3 (.int .i64 0)) 4 (.slice none 0 0)) 5 (.bool false))
  refine bodyPost_ret (results_cell_row rfl _ _ b4 26 _ (0, 0) _ rfl HB6.out.1 Tryz.underlying26 rfl (by kernel_rfl)) rfl ?_
  rw [HRR.out]
  exact ⟨⟨_, HT6.out.moves, HT6.out.run, _, rfl, none, 0, rfl, Nat.le_refl _, Kd.F_nil _ _ _⟩⟩
theorem askNT_kind_len {me : Int} {f : Nat} {s t : TS Ws} {l : List Int} (h : askNT me f kindT s = some (.ret l, t)) : l.length = 5 := by
  obtain ⟨o, t1, hm, hc⟩ := prBind_some h
  rcases hc with ⟨_, hc⟩ | ⟨u, rfl, hc⟩
  · injection hc with hc _; cases hc
  obtain ⟨o, t2, hm2, hc⟩ := prBind_some hc
  rcases hc with ⟨_, hc⟩ | ⟨a, rfl, hc⟩
  · injection hc with hc _; cases hc
  obtain ⟨o, t3, hm3, hc⟩ := prBind_some hc
  rcases hc with ⟨_, hc⟩ | ⟨u, rfl, hc⟩
  · injection hc with hc _; cases hc
  injection hc with hc
  injection hc with hc _
  injection hc with hc
  injection hm2 with hm2
  injection hm2 with hm2 _
  injection hm2 with hm2
  rw [← hc, ← hm2]
  rfl
theorem kind_alone (p tb : Nat) (me kind key upto value : Int) (hk : 12 ≤ kind) (bw bm bo : Nat) (ok : Nat → Prop) (x : Ws) (log : List Int) (at_ : Int) (spent : Bool) (w : World) (f : Nat)
    (h : Idle (shW p) tb (askWork bw bm bo) ok x (thOf log at_ spent) w) (hl : log.length < 1000000) (hB : AskBx p me ⟨kind, key, upto, value⟩ bw bm bo ok w)
    (res : Option (List Int) × Nat × Ws × List Int) (hr : aloneT (askNT me f kindT) 3000 x log = some res) :
    Calls Tryz.prog 15 #[.pointer (some ⟨tb, 0, none⟩)] w (AlonePost (shW p) tb (askWork bw bm bo) ok res w) := by
  refine alone_calls (shW_shared p) tb 39 #[.pointer (some ⟨bw, 0, none⟩), .pointer (some ⟨bm, 0, none⟩), .pointer (some ⟨bo, 0, none⟩)] ok x log at_ spent w (AskBx p me ⟨kind, key, upto, value⟩ bw bm bo) (askNT me f kindT) h hl (AskBx.moves) hB (enters Tryz.func39 (by kernel_rfl) rfl _) ?_ ?_ res hr
  · intro ok1 s w1 res1 hi hb hres
    exact asknew1_calls p tb _ me ⟨kind, key, upto, value⟩ bw bm bo ok1 s w1 f kindT hi hb (fun ok s w res h1 h2 => do_kind p tb _ me ok s w kind key upto value hk h1 res h2) (fun s a t h1 => by injection h1 with h1; injection h1 with h1 _; injection h1 with h1; rw [← h1]; decide) res1 hres
  · intro l q x1 log1 h1
    obtain ⟨s, s1, h2⟩ := alone_ret _ _ _ _ _ _ h1
    have := askNT_kind_len h2
    omega
theorem kind_runs : (fun (a : Ar) (t : Tb) (lo wd en : Int) => (aloneT (askNT 1 9 kindT) 3000 ⟨a, t, ⟨0, [-1, -1], [[], []]⟩, lo, wd, en⟩ []).map (fun r => (r.1, r.2.1, r.2.2.1))) = (fun (a : Ar) (t : Tb) (lo wd en : Int) => some (some [10, 0, 0, 0, 0], 2992, (⟨a, t, ⟨1, [-1, -1], [[], []]⟩, lo, wd, en⟩ : Ws))) := by kernel_rfl
end Go.Proofs.YthlmgbdknjilpaaGreat.Tower
namespace Go.Proofs.YthlmgbdknjilpaaGreat.Tower
open Go Go.RowKit Go.Proofs.YthlmgbdknjilpaaGreatW.PrintWords Go.Proofs.YthlmgbdknjilpaaGreatW.PrintLast Go.Proofs.YthlmgbdknjilpaaGreatW.PrintMore Go.Proofs.YthlmgbdknjilpaaGreat.Own
set_option linter.unusedVariables false
set_option linter.unusedSimpArgs false
def upd (L : Nat → Bool) (i j : Nat) : Bool := if j = i then true else L j
def needT (T : List (List Nat × List Nat)) (i : Nat) : List Nat := match T[i]? with
  | some r => r.1
  | none => []
def acycT (T : List (List Nat × List Nat)) : Bool := (List.range T.length).all fun i => (needT T i).all fun j => decide (j < i)
def shutT (T : List (List Nat × List Nat)) (l : List Bool) : Bool := (List.range T.length).all fun i => !l.getD i false || (needT T i).all fun j => l.getD j false
def restT (l : List Bool) : List Nat := (List.range l.length).filter fun i => !l.getD i false
section
variable {P : Program} {ops : Array Oper} {Q : Exit → Act → World → Prop} {md : Region.Mode} {S : World → Prop} {ds : List Nat}
theorem mem_readyT {T : List (List Nat × List Nat)} {l : List Bool} {i : Nat} (h : i ∈ readyT T l) : i < T.length ∧ l.getD i true = false ∧ ∀ j ∈ needT T i, l.getD j false = true := by
  unfold readyT at h
  rw [List.mem_filter, List.mem_range] at h
  obtain ⟨h1, h2⟩ := h
  unfold readyAt at h2
  rw [Bool.and_eq_true] at h2
  obtain ⟨h2, h3⟩ := h2
  refine ⟨h1, by simpa using h2, fun j hj => ?_⟩
  unfold needT at hj
  cases hT : T[i]? with
  | none => rw [hT] at hj; cases hj
  | some r =>
    rw [hT] at hj h3
    exact List.all_eq_true.1 h3 j hj
theorem getD_same {l : List Bool} {i : Nat} (h : i < l.length) : l.getD i true = l.getD i false := by simp [List.getD_eq_getElem?_getD, h]
theorem readyT_none {T : List (List Nat × List Nat)} {l : List Bool} (hac : acycT T = true) (hl : l.length = T.length) (h : readyT T l = []) : ∀ i, i < T.length → l.getD i false = true := by
  intro i
  induction i using Nat.strongRecOn with
  | _ i ih =>
    intro hi
    rcases Bool.eq_false_or_eq_true (l.getD i false) with h1 | h1
    · exact h1
    exfalso
    have hne : ∀ j ∈ needT T i, l.getD j false = true := fun j hj => by
      have h2 := List.all_eq_true.1 (List.all_eq_true.1 hac i (List.mem_range.2 hi)) j hj
      have h3 := of_decide_eq_true h2
      exact ih j h3 (by omega)
    have : i ∈ readyT T l := by
      unfold readyT
      rw [List.mem_filter, List.mem_range]
      refine ⟨hi, ?_⟩
      unfold readyAt
      rw [Bool.and_eq_true]
      refine ⟨by rw [getD_same (by omega), h1]; rfl, ?_⟩
      cases hT : T[i]? with
      | none => rw [List.getElem?_eq_none_iff] at hT; omega
      | some r =>
        simp only
        rw [List.all_eq_true]
        intro j hj
        exact hne j (by unfold needT; rw [hT]; exact hj)
    rw [h] at this
    cases this
theorem ireg_ {i : Nat} {N : Option Tmp} {o : Oper} {K : Act → World → Prop} {a : Act} {w : World} (ho : ops[i]? = some o) (hN : o.dst = N)
    (h : ∀ K' : Act → World → Prop, Shut (∀ a w, K a w → K' a w) → if Region.wanted o (yielded ops a.tmps) = true then Oper.wp P o a w K' Q else K' (a.put N undef) w) : wpOp P ops Q i K a w := by
  subst hN
  exact wpOp_step ho h
end
end Go.Proofs.YthlmgbdknjilpaaGreat.Tower
namespace Go.Proofs.YthlmgbdknjilpaaGreat.Tower
open Go Go.RowKit Go.Proofs.YthlmgbdknjilpaaGreatW.PrintWords Go.Proofs.YthlmgbdknjilpaaGreatW.PrintLast Go.Proofs.YthlmgbdknjilpaaGreatW.PrintMore Go.Proofs.YthlmgbdknjilpaaGreat.Own
set_option linter.unusedVariables false
set_option linter.unusedSimpArgs false
def updv (u : Nat → Value) (i : Nat) (v : Value) (j : Nat) : Value := if j = i then v else u j
structure MvC (c : Nat) (ρ ρ1 : Nat → Nat) (w w1 : World) : Prop where
  size : w.heap.size ≤ w1.heap.size
  same : ∀ k, k < w.heap.size → ρ k / 8 ≠ c → w1.heap[k]? = w.heap[k]?
  keep : ∀ k, k < w.heap.size → ρ k / 8 ≠ c → ρ1 k = ρ k
def cget (chs : List (List Nat)) (c p : Nat) : Nat := (chs.getD c []).getD p 0
def cofT (chs : List (List Nat)) (i : Nat) : Nat := chs.findIdx fun l => l.contains i
def pofT (chs : List (List Nat)) (i : Nat) : Nat := (chs.getD (cofT chs i) []).idxOf i
def chainsT (T : List (List Nat × List Nat)) (l l' : List Bool) (chs : List (List Nat)) (tl : List Nat) (fuel : Nat) : Bool :=
  acycT T && shutT T l && decide (l.length = T.length) && decide (l'.length = T.length) && decide ((restT l).length = fuel) && decide ((restT l').length = tl.length)
  && ((List.range chs.length).all fun c => (List.range (chs.getD c []).length).all fun p => cofT chs (cget chs c p) == c && pofT chs (cget chs c p) == p && decide (cget chs c p < T.length) && !l.getD (cget chs c p) true && l'.getD (cget chs c p) false && (p == 0 || (needT T (cget chs c p)).contains (cget chs c (p - 1))) && (tl.all fun t => reachT T (cget chs c p) T.length t))
  && ((List.range T.length).all fun i => l.getD i false || tl.contains i || (decide (cofT chs i < chs.length) && decide (pofT chs i < (chs.getD (cofT chs i) []).length) && cget chs (cofT chs i) (pofT chs i) == i))
  && ((List.range T.length).all fun i => l'.getD i false == (l.getD i false || !tl.contains i)) && (tl.all fun t => !l.getD t false) && decide (0 < chs.flatten.length || chs.isEmpty)
section
variable {P : Program} {ops : Array Oper} {Q : Exit → Act → World → Prop} {md : Region.Mode} {S : World → Prop} {ds : List Nat}
theorem count_set {l : Array Bool} {i : Nat} (hi : i < l.size) (h : l.getD i false = false) : (restT (l.setIfInBounds i true).toList).length + 1 = (restT l.toList).length := by
  have hset : ∀ j, (l.setIfInBounds i true).getD j false = upd (fun j => l.getD j false) i j := fun j => by
    unfold upd
    by_cases hij : j = i
    · subst hij
      rw [if_pos rfl]
      simp [Array.getD_eq_getD_getElem?, hi]
    · rw [if_neg hij]
      exact getD_set_ne false (Ne.symm hij)
  have he : restT (l.setIfInBounds i true).toList = (restT l.toList).filter (fun j => j != i) := by
    unfold restT
    rw [List.filter_filter]
    have hz : (l.setIfInBounds i true).toList.length = l.toList.length := by simp
    rw [hz]
    refine List.filter_congr fun j hj => ?_
    rw [← gd, ← gd, hset]
    unfold upd
    by_cases hji : j = i
    · subst hji; simp
    · rw [if_neg hji]; simp [hji]
  have hi1 : i ∈ restT l.toList := by
    unfold restT
    rw [List.mem_filter, List.mem_range]
    exact ⟨by simpa using hi, by rw [← gd, h]; rfl⟩
  have hnd : (restT l.toList).Nodup := by
    unfold restT
    exact List.Pairwise.filter _ List.nodup_range
  rw [he, ← hnd.erase_eq_filter i, List.length_erase_of_mem hi1]
  have := List.length_pos_of_mem hi1
  omega
theorem reach_up {T : List (List Nat × List Nat)} {l : Array Bool} {i : Nat} (hcl : ∀ j k, k ∈ needT T j → l.getD j false = true → l.getD k false = true) : ∀ (fuel d : Nat), reachT T i fuel d = true → (∀ j ∈ needT T d, l.getD j false = true) → l.getD i false = true
  | 0, _, h, _ => by cases h
  | fuel + 1, d, h, hn => by
    unfold reachT at h
    cases hq : T[d]? with
    | none => rw [hq] at h; cases h
    | some r =>
      rw [hq] at h
      obtain ⟨j, hj, h1⟩ := List.any_eq_true.1 h
      have hjn : j ∈ needT T d := by unfold needT; rw [hq]; exact hj
      rw [Bool.or_eq_true, beq_iff_eq] at h1
      rcases h1 with rfl | h1
      · exact hn j hjn
      · exact reach_up hcl fuel j h1 (fun k hk => hcl j k hk (hn j hjn))
theorem chains_go {T : Bool × List (List Nat × List Nat)} (hT : rtab md ops = T) (chs : List (List Nat)) (tl : List Nat) (l' : Array Bool) (fr : (Nat → Value) → Act) (Base : World → Prop) (A : Nat → Nat → (Nat → Value) → (Nat → Nat) → World → Prop) (hS : ∀ w, Base w → S w)
    (hac : acycT T.2 = true) (hl' : l'.size = T.2.length)
    (hch : ∀ c, c < chs.length → ∀ p, p < (chs.getD c []).length → cofT chs (cget chs c p) = c ∧ pofT chs (cget chs c p) = p ∧ cget chs c p < T.2.length ∧ l'.getD (cget chs c p) false = true ∧ (p = 0 ∨ cget chs c (p - 1) ∈ needT T.2 (cget chs c p)) ∧ ∀ t ∈ tl, reachT T.2 (cget chs c p) T.2.length t = true)
    (hdep : ∀ c p u i v ρ w, cofT chs i ≠ c → A c p u ρ w → A c p (updv u i v) ρ w)
    (hst : ∀ c c' p u ρ ρ1 w w1, c ≠ c' → chs.getD c' [] ≠ [] → MvC c' ρ ρ1 w w1 → A c p u ρ w → A c p u ρ1 w1)
    (hstep : ∀ c p, c < chs.length → p < (chs.getD c []).length → ∀ u ρ w, Base w → (∀ c', c' < chs.length → chs.getD c' [] = [] → A c' 0 u ρ w) → A c p u ρ w → wpOp P ops Q (cget chs c p) (fun a' w' => ∃ v ρ1, a' = fr (updv u (cget chs c p) v) ∧ Base w' ∧ MvC c ρ ρ1 w w' ∧ A c (p + 1) (updv u (cget chs c p) v) ρ1 w') (fr u) w)
    (hend : ∀ u ρ w, Base w → (∀ c, c < chs.length → A c (chs.getD c []).length u ρ w) → wpAnyLast P md ops Q S ds tl.length l' (fr u) w) :
    ∀ (m : Nat) (l : Array Bool) (u : Nat → Value) (ρ : Nat → Nat) (w : World) (pr : Nat → Nat), l.size = T.2.length → (restT l.toList).length = m + tl.length →
      (∀ i, i < T.2.length → l'.getD i false = (l.getD i false || !tl.contains i)) → (∀ i, i < T.2.length → l.getD i false = true ∨ i ∈ tl ∨ (cofT chs i < chs.length ∧ pofT chs i < (chs.getD (cofT chs i) []).length ∧ cget chs (cofT chs i) (pofT chs i) = i)) → (∀ t ∈ tl, l.getD t false = false) → (restT l'.toList).length = tl.length →
      (∀ j k, k ∈ needT T.2 j → l.getD j false = true → l.getD k false = true) →
      (∀ c, c < chs.length → pr c ≤ (chs.getD c []).length ∧ ∀ p, p < (chs.getD c []).length → l.getD (cget chs c p) false = decide (p < pr c)) → Base w → (∀ c, c < chs.length → A c (pr c) u ρ w) → wpAnyLast P md ops Q S ds (m + tl.length) l (fr u) w := by
  have hlen : T.2.length = ops.size := by rw [← hT]; exact rtab_length
  intro m
  induction m with
  | zero =>
    intro l u ρ w pr hl hm hl1 hcov htl hl2 hcl hpr hb hA
    
    have hll : l = l' := by
      have hle : ∀ i, l.getD i false = true → l'.getD i false = true := fun i hi => by
        rcases Nat.lt_or_ge i T.2.length with hlt | hge
        · rw [hl1 i hlt, hi]; rfl
        · simp [Array.getElem?_eq_none (show l.size ≤ i by omega)] at hi
      have hsub : ∀ j ∈ restT l'.toList, j ∈ restT l.toList := fun j hj => by
        unfold restT at hj ⊢
        rw [List.mem_filter, List.mem_range, ← gd] at *
        refine ⟨by simp at hj ⊢; omega, ?_⟩
        rcases Bool.eq_false_or_eq_true (l.getD j false) with h | h
        · rw [hle j h] at hj; simp at hj
        · rw [h]; rfl
      refine Array.ext (by omega) fun i h1 h2 => ?_
      have e1 : l[i] = l.getD i false := by simp [h1]
      have e2 : l'[i] = l'.getD i false := by simp [h2]
      rw [e1, e2]
      rcases Bool.eq_false_or_eq_true (l.getD i false) with h | h
      · rw [h, hle i h]
      · rw [h]
        rcases hcov i (by omega) with h3 | h3 | ⟨h3, h4, h5⟩
        · rw [h] at h3; cases h3
        · rw [hl1 i (by omega), h]; simp [h3]
        · 
          exfalso
          have hi1 : i ∈ restT l.toList := by
            unfold restT
            rw [List.mem_filter, List.mem_range, ← gd, h]
            exact ⟨by simpa using h1, rfl⟩
          have hi2 : i ∉ restT l'.toList := by
            unfold restT
            rw [List.mem_filter, List.mem_range, ← gd]
            have := (hch _ h3 _ h4).2.2.2.1
            rw [h5] at this
            rw [this]
            simp
          have hsub2 : ∀ j ∈ restT l'.toList, j ∈ (restT l.toList).filter (fun j => j != i) := fun j hj => by
            rw [List.mem_filter]
            exact ⟨hsub j hj, by simp; rintro rfl; exact hi2 hj⟩
          have he : restT l'.toList = ((restT l.toList).filter (fun j => j != i)).filter (fun j => !l'.toList.getD j false) := by
            unfold restT
            rw [List.filter_filter, List.filter_filter]
            have hz : l'.toList.length = l.toList.length := by simp; omega
            rw [hz]
            refine List.filter_congr fun j hj => ?_
            rcases Bool.eq_false_or_eq_true (l'.toList.getD j false) with h6 | h6
            · rw [h6]; simp
            · rw [h6]
              have h7 : l.toList.getD j false = false := by
                rcases Bool.eq_false_or_eq_true (l.toList.getD j false) with h8 | h8
                · rw [← gd] at h8 h6; rw [hle j h8] at h6; cases h6
                · exact h8
              have h8 : j ≠ i := by
                rintro rfl
                have := (hch _ h3 _ h4).2.2.2.1
                rw [h5, gd, h6] at this
                cases this
              rw [h7]; simp [h8]
          have h9 : (restT l'.toList).length ≤ ((restT l.toList).filter (fun j => j != i)).length := by
            rw [he]; exact List.length_filter_le _ _
          have h10 : ((restT l.toList).filter (fun j => j != i)).length < (restT l.toList).length := List.length_filter_lt_length_iff_exists.2 ⟨i, hi1, by simp⟩
          omega
    subst hll
    rw [Nat.zero_add]
    refine hend u ρ w hb fun c hc => ?_
    have h1 := hpr c hc
    have h2 : pr c = (chs.getD c []).length := by
      rcases Nat.lt_or_ge (pr c) (chs.getD c []).length with h | h
      · have h3 := h1.2 (pr c) h
        rw [(hch c hc (pr c) h).2.2.2.1] at h3
        simp at h3
      · omega
    rw [← h2]
    exact hA c hc
  | succ m ih =>
    intro l u ρ w pr hl hm hl1 hcov htl hl2 hcl hpr hb hA
    rw [show m + 1 + tl.length = (m + tl.length) + 1 by omega]
    
    have hsome : ∃ i, i < T.2.length ∧ l.getD i false = false ∧ i ∉ tl := by
      refine Classical.byContradiction fun hno => ?_
      have hall : ∀ j ∈ restT l.toList, j ∈ restT l'.toList := fun j hj => by
        unfold restT at hj ⊢
        rw [List.mem_filter, List.mem_range, ← gd] at *
        have h1 : j < T.2.length := by simp at hj; omega
        refine ⟨by simp; omega, ?_⟩
        have h2 : l.getD j false = false := by simpa using hj.2
        have h3 : j ∈ tl := Classical.byContradiction fun h3 => hno ⟨j, h1, h2, h3⟩
        rw [hl1 j h1, h2]
        simp [h3]
      have he : restT l.toList = (restT l'.toList).filter (fun j => !l.toList.getD j false) := by
        unfold restT
        rw [List.filter_filter]
        have hz : l'.toList.length = l.toList.length := by simp; omega
        rw [hz]
        refine List.filter_congr fun j hj => ?_
        rcases Bool.eq_false_or_eq_true (l.toList.getD j false) with h6 | h6
        · rw [h6]; simp
        · have h7 := hall j (by unfold restT; rw [List.mem_filter]; exact ⟨hj, by rw [h6]; rfl⟩)
          unfold restT at h7
          rw [List.mem_filter] at h7
          rw [h6, h7.2]; rfl
      have := List.length_filter_le (fun j => !l.toList.getD j false) (restT l'.toList)
      rw [← he] at this
      omega
    refine ⟨fun h => ?_, fun i hi => ?_⟩
    · rw [ready_eq, hT] at h
      obtain ⟨i, hi, hf, _⟩ := hsome
      have := readyT_none hac (by simp; omega) h i hi
      rw [← gd, hf] at this
      cases this
    · rw [ready_eq, hT] at hi
      obtain ⟨h1, h2, h3⟩ := mem_readyT hi
      have h2' : l.getD i false = false := by rw [gd, ← getD_same (by simp; omega)]; exact h2
      have h3' : ∀ j ∈ needT T.2 i, l.getD j false = true := fun j hj => by rw [gd]; exact h3 j hj
      have hnt : i ∉ tl := fun ht => by
        obtain ⟨j, hj, hf, hn⟩ := hsome
        rcases hcov j hj with h4 | h4 | ⟨h4, h5, h6⟩
        · rw [hf] at h4; cases h4
        · exact hn h4
        · have h7 := (hch _ h4 _ h5).2.2.2.2.2 i ht
          rw [h6] at h7
          rw [reach_up hcl _ _ h7 h3'] at hf
          cases hf
      obtain ⟨hc, hp, hcp⟩ : cofT chs i < chs.length ∧ pofT chs i < (chs.getD (cofT chs i) []).length ∧ cget chs (cofT chs i) (pofT chs i) = i := by
        rcases hcov i h1 with h4 | h4 | h4
        · rw [h2'] at h4; cases h4
        · exact absurd h4 hnt
        · exact h4
      generalize cofT chs i = c at hc hp hcp
      generalize pofT chs i = p at hp hcp
      have hcc := hch c hc p hp
      have hprc := hpr c hc
      have hpp : p = pr c := by
        have h4 := hprc.2 p hp
        rw [hcp, h2'] at h4
        have h4 : ¬ p < pr c := by simpa using h4.symm
        rcases hcc.2.2.2.2.1 with h5 | h5
        · omega
        · rw [hcp] at h5
          have h6 := h3' _ h5
          rw [hprc.2 (p - 1) (by omega)] at h6
          have := of_decide_eq_true h6
          omega
      have hset : ∀ j, (l.setIfInBounds i true).getD j false = upd (fun j => l.getD j false) i j := fun j => by
        unfold upd
        by_cases hij : j = i
        · subst hij
          rw [if_pos rfl]
          simp [Array.getD_eq_getD_getElem?, show j < l.size by omega]
        · rw [if_neg hij]
          exact getD_set_ne false (Ne.symm hij)
      have hw := hstep c p hc hp u ρ w hb (fun c' hc' he => by
        have h1 := (hpr c' hc').1
        rw [he] at h1
        have h2 := hA c' hc'
        rwa [Nat.le_zero.1 h1] at h2) (by rw [hpp]; exact hA c hc)
      rw [hcp] at hw
      refine wpOp_mono (fun a' w' hI => ?_) hw
      obtain ⟨v, ρ1, rfl, hb1, hmv, hA1⟩ := hI
      refine ⟨fun _ _ => hS w' hb1, ih (l.setIfInBounds i true) (updv u i v) ρ1 w' (fun c' => if c' = c then p + 1 else pr c') (by simpa using hl) ?_ ?_ ?_ ?_ hl2 ?_ ?_ hb1 ?_⟩
      · have := count_set (l := l) (i := i) (by omega) h2'
        omega
      · intro j hj
        rw [hset]
        unfold upd
        split
        · rename_i hji
          subst hji
          rw [hl1 j hj, h2']
          simp [hnt]
        · exact hl1 j hj
      · intro j hj
        rw [hset]
        unfold upd
        split
        · exact .inl rfl
        · exact hcov j hj
      · intro t ht
        rw [hset]
        unfold upd
        rw [if_neg (show ¬ t = i from fun e => hnt (e ▸ ht))]
        exact htl t ht
      · intro j k hk hj
        rw [hset] at hj ⊢
        unfold upd at hj ⊢
        split
        · rfl
        · split at hj
          · rename_i hji
            subst hji
            exact h3' k hk
          · exact hcl j k hk hj
      · intro c' hc'
        refine ⟨?_, fun p' hp' => ?_⟩
        · show (if c' = c then p + 1 else pr c') ≤ _
          split
          · rename_i e; subst e; omega
          · exact (hpr c' hc').1
        · rw [hset]
          unfold upd
          have hin := hch c' hc' p' hp'
          by_cases hcc' : c' = c
          · subst hcc'
            show _ = decide (p' < if c' = c' then p + 1 else pr c')
            rw [if_pos rfl]
            by_cases hq : p' = p
            · subst hq
              rw [if_pos hcp]
              simp
            · rw [if_neg (fun e => hq (by rw [← hin.2.1, e, ← hcp, hcc.2.1]))]
              show l.getD (cget chs c' p') false = _
              rw [(hpr c' hc').2 p' hp']
              simp only [decide_eq_decide]
              omega
          · show _ = decide (p' < if c' = c then p + 1 else pr c')
            rw [if_neg hcc']
            rw [if_neg (fun e => hcc' (by rw [← hin.1, e, ← hcp, hcc.1]))]
            exact (hpr c' hc').2 p' hp'
      · intro c' hc'
        show A c' (if c' = c then p + 1 else pr c') _ _ _
        by_cases hcc' : c' = c
        · subst hcc'
          rw [if_pos rfl]
          exact hA1
        · rw [if_neg hcc']
          refine hdep c' (pr c') u i v ρ1 w' ?_ (hst c' c (pr c') u ρ ρ1 w w' hcc' (fun e => by rw [e] at hp; cases hp) hmv (hA c' hc'))
          rw [← hcp, hcc.1]
          exact fun e => hcc' e.symm
theorem chains_ {T : Bool × List (List Nat × List Nat)} {fuel : Nat} {l : Array Bool} {a : Act} {w : World} (hT : rtab md ops = T) (chs : List (List Nat)) (tl : List Nat) (l' : Array Bool) (hck : chainsT T.2 l.toList l'.toList chs tl fuel = true) (fr : (Nat → Value) → Act) (Base : World → Prop) (A : Nat → Nat → (Nat → Value) → (Nat → Nat) → World → Prop) (hS : ∀ w, Base w → S w)
    (u0 : Nat → Value) (ρ0 : Nat → Nat) (ha : a = fr u0) (hb : Base w) (h0 : ∀ c, c < chs.length → A c 0 u0 ρ0 w)
    (hdep : ∀ c p u i v ρ w, cofT chs i ≠ c → A c p u ρ w → A c p (updv u i v) ρ w)
    (hst : ∀ c c' p u ρ ρ1 w w1, c ≠ c' → chs.getD c' [] ≠ [] → MvC c' ρ ρ1 w w1 → A c p u ρ w → A c p u ρ1 w1)
    (hstep : ∀ c p, c < chs.length → p < (chs.getD c []).length → ∀ u ρ w, Base w → (∀ c', c' < chs.length → chs.getD c' [] = [] → A c' 0 u ρ w) → A c p u ρ w → wpOp P ops Q (cget chs c p) (fun a' w' => ∃ v ρ1, a' = fr (updv u (cget chs c p) v) ∧ Base w' ∧ MvC c ρ ρ1 w w' ∧ A c (p + 1) (updv u (cget chs c p) v) ρ1 w') (fr u) w)
    (hend : ∀ u ρ w, Base w → (∀ c, c < chs.length → A c (chs.getD c []).length u ρ w) → wpAnyLast P md ops Q S ds tl.length l' (fr u) w) : wpAnyLast P md ops Q S ds fuel l a w := by
  unfold chainsT at hck
  simp only [Bool.and_eq_true, decide_eq_true_eq] at hck
  obtain ⟨⟨⟨⟨⟨⟨⟨⟨⟨⟨h1, h2⟩, h3⟩, h4⟩, h5⟩, h6⟩, h7⟩, h8⟩, h9⟩, h10⟩, _⟩ := hck
  have hch : ∀ c, c < chs.length → ∀ p, p < (chs.getD c []).length → cofT chs (cget chs c p) = c ∧ pofT chs (cget chs c p) = p ∧ cget chs c p < T.2.length ∧ l.getD (cget chs c p) true = false ∧ l'.getD (cget chs c p) false = true ∧ (p = 0 ∨ cget chs c (p - 1) ∈ needT T.2 (cget chs c p)) ∧ ∀ t ∈ tl, reachT T.2 (cget chs c p) T.2.length t = true := fun c hc p hp => by
    have h := List.all_eq_true.1 (List.all_eq_true.1 h7 c (List.mem_range.2 hc)) p (List.mem_range.2 hp)
    simp only [Bool.and_eq_true, beq_iff_eq, decide_eq_true_eq, Bool.or_eq_true, List.contains_iff_mem] at h
    obtain ⟨⟨⟨⟨⟨⟨a1, a2⟩, a3⟩, a4⟩, a5⟩, a6⟩, a7⟩ := h
    exact ⟨a1, a2, a3, by rw [gd]; simpa using a4, by rw [gd]; exact a5, a6, fun t ht => List.all_eq_true.1 a7 t ht⟩
  have hfu : fuel = (fuel - tl.length) + tl.length := by
    
    have hsub : (restT l'.toList).length ≤ (restT l.toList).length := by
      have he : restT l'.toList = (restT l.toList).filter (fun j => !l'.toList.getD j false) := by
        unfold restT
        rw [List.filter_filter, h3, h4]
        refine List.filter_congr fun j hj => ?_
        have h := List.all_eq_true.1 h9 j hj
        rw [beq_iff_eq] at h
        rcases Bool.eq_false_or_eq_true (l.toList.getD j false) with h11 | h11
        · rw [h11, Bool.true_or] at h; rw [h]; rfl
        · rw [h11]; simp
      rw [he]
      exact List.length_filter_le _ _
    omega
  rw [ha, hfu]
  refine chains_go hT chs tl l' fr Base A hS h1 (by simpa using h4) (fun c hc p hp => ⟨(hch c hc p hp).1, (hch c hc p hp).2.1, (hch c hc p hp).2.2.1, (hch c hc p hp).2.2.2.2.1, (hch c hc p hp).2.2.2.2.2.1, (hch c hc p hp).2.2.2.2.2.2⟩) hdep hst hstep hend (fuel - tl.length) l u0 ρ0 w (fun _ => 0) (by simpa using h3) (by omega) ?_ ?_ ?_ h6 ?_ ?_ hb h0
  · intro i hi
    have h := List.all_eq_true.1 h9 i (List.mem_range.2 hi)
    rw [beq_iff_eq] at h
    rw [gd, gd]
    exact h
  · intro i hi
    have h := List.all_eq_true.1 h8 i (List.mem_range.2 hi)
    simp only [Bool.or_eq_true, Bool.and_eq_true, decide_eq_true_eq, beq_iff_eq, List.contains_iff_mem] at h
    rcases h with (h | h) | ⟨⟨h, h'⟩, h''⟩
    · exact .inl (by rw [gd]; exact h)
    · exact .inr (.inl h)
    · exact .inr (.inr ⟨h, h', h''⟩)
  · intro t ht
    have := List.all_eq_true.1 h10 t ht
    rw [gd]
    simpa using this
  · intro j k hk hj
    have hj1 : j < T.2.length := by
      unfold needT at hk
      cases hq : T.2[j]? with
      | none => rw [hq] at hk; cases hk
      | some r => exact (List.getElem?_eq_some_iff.1 hq).1
    have h := List.all_eq_true.1 h2 j (List.mem_range.2 hj1)
    rw [gd] at hj ⊢
    rw [hj, Bool.not_true, Bool.false_or] at h
    exact List.all_eq_true.1 h k hk
  · intro c hc
    refine ⟨Nat.zero_le _, fun p hp => ?_⟩
    have h := hch c hc p hp
    rw [gd, ← getD_same (by rw [h3]; exact h.2.2.1), ← gd, h.2.2.2.1]
    simp
end
end Go.Proofs.YthlmgbdknjilpaaGreat.Tower
namespace Go.Proofs.YthlmgbdknjilpaaGreat.Tower
open Go Go.RowKit Go.Proofs.YthlmgbdknjilpaaGreatW.PrintWords Go.Proofs.YthlmgbdknjilpaaGreatW.PrintLast Go.Proofs.YthlmgbdknjilpaaGreatW.PrintMore Go.Proofs.YthlmgbdknjilpaaGreat.Own
set_option linter.unusedVariables false
set_option linter.unusedSimpArgs false
def puts (a : Act) : List (Nat × Nat) → (Nat → Value) → Act
  | [], _ => a
  | q :: r, u => puts (a.put (some q.1) (u q.2)) r u
theorem put_comm (a : Act) {s t : Nat} (h : s ≠ t) (v x : Value) : (a.put (some s) v).put (some t) x = (a.put (some t) x).put (some s) v := by
  simp only [Act.put]
  rw [Array.setIfInBounds_comm _ _ h]
theorem put_put (a : Act) (s : Nat) (v x : Value) : (a.put (some s) v).put (some s) x = a.put (some s) x := by
  simp [Act.put]
theorem puts_far {s : Nat} (v : Value) (u : Nat → Value) : ∀ (sl : List (Nat × Nat)) (a : Act), (∀ q ∈ sl, q.1 ≠ s) → (puts a sl u).put (some s) v = puts (a.put (some s) v) sl u
  | [], _, _ => rfl
  | q :: r, a, h => by
    unfold puts
    rw [puts_far v u r _ (fun q hq => h q (List.mem_cons_of_mem _ hq)), put_comm a (h q List.mem_cons_self)]
theorem puts_same {u u1 : Nat → Value} : ∀ (sl : List (Nat × Nat)) (a : Act), (∀ q ∈ sl, u q.2 = u1 q.2) → puts a sl u = puts a sl u1
  | [], _, _ => rfl
  | q :: r, a, h => by
    unfold puts
    rw [h q List.mem_cons_self, puts_same r _ (fun q hq => h q (List.mem_cons_of_mem _ hq))]
def slotsOk (sl : List (Nat × Nat)) : Bool := decide (sl.map Prod.fst).Nodup && decide (sl.map Prod.snd).Nodup
theorem puts_put {s i : Nat} (v : Value) (u : Nat → Value) : ∀ (sl : List (Nat × Nat)) (a : Act), slotsOk sl = true → (s, i) ∈ sl → (puts a sl u).put (some s) v = puts a sl (updv u i v)
  | [], _, _, h => by cases h
  | q :: r, a, hok, h => by
    simp only [slotsOk, List.map_cons, Bool.and_eq_true, decide_eq_true_eq, List.nodup_cons] at hok
    unfold puts
    rcases List.mem_cons.1 h with h | h
    · subst h
      rw [puts_far v u r _ (fun q hq e => hok.1.1 (List.mem_map.2 ⟨_, hq, e⟩)), put_put]
      show puts (a.put (some s) v) r u = puts (a.put (some s) (updv u i v i)) r (updv u i v)
      rw [show updv u i v i = v from if_pos rfl]
      refine puts_same r _ fun q hq => ?_
      unfold updv
      rw [if_neg (fun e => hok.2.1 (List.mem_map.2 ⟨_, hq, e⟩))]
    · have hne : q.2 ≠ i := fun e => hok.2.1 (by rw [e]; exact List.mem_map.2 ⟨(s, i), h, rfl⟩)
      rw [show updv u i v q.2 = u q.2 from if_neg hne]
      exact puts_put v u r _ (by simp only [slotsOk, Bool.and_eq_true, decide_eq_true_eq]; exact ⟨hok.1.2, hok.2.2⟩) h
def cur (a : Act) (sl : List (Nat × Nat)) (i : Nat) : Value := match sl.find? (fun q => q.2 == i) with
  | some q => a.tmps.getD q.1 undef
  | none => undef
theorem put_cur (a : Act) (s : Nat) : a.put (some s) (a.tmps.getD s undef) = a := by
  simp only [Act.put]
  congr 1
  refine Array.ext (by simp) fun i h1 h2 => ?_
  rw [Array.getElem_setIfInBounds]
  split
  · rename_i e; subst e; simp [h2]
  · rfl
theorem puts_cur (a : Act) : ∀ (sl : List (Nat × Nat)), (∀ q ∈ sl, ∀ q1 ∈ sl, q.2 = q1.2 → q = q1) → ∀ r, (∀ q ∈ r, q ∈ sl) → puts a r (cur a sl) = a
  | sl, h, [], _ => rfl
  | sl, h, q :: r, hs => by
    unfold puts
    have : cur a sl q.2 = a.tmps.getD q.1 undef := by
      unfold cur
      cases hf : sl.find? (fun q1 => q1.2 == q.2) with
      | none =>
        have := List.find?_eq_none.1 hf q (hs q List.mem_cons_self)
        simp at this
      | some q1 =>
        have h1 := List.mem_of_find?_eq_some hf
        have h2 := List.find?_some hf
        rw [h q (hs q List.mem_cons_self) q1 h1 (by simpa using (beq_iff_eq.1 h2).symm)]
    rw [this, put_cur]
    exact puts_cur a sl h r (fun q hq => hs q (List.mem_cons_of_mem _ hq))
theorem cur_start (a : Act) (sl : List (Nat × Nat)) (h : slotsOk sl = true) : a = puts a sl (cur a sl) := by
  simp only [slotsOk, Bool.and_eq_true, decide_eq_true_eq] at h
  refine (puts_cur a sl (fun q hq q1 hq1 e => ?_) sl (fun q hq => hq)).symm
  have hnd := h.2
  clear h
  induction sl with
  | nil => cases hq
  | cons x r ih =>
    rw [List.map_cons, List.nodup_cons] at hnd
    rcases List.mem_cons.1 hq with h1 | h1
    · rcases List.mem_cons.1 hq1 with h2 | h2
      · rw [h1, h2]
      · exact absurd (List.mem_map.2 ⟨q1, h2, by rw [← e, h1]⟩) hnd.1
    · rcases List.mem_cons.1 hq1 with h2 | h2
      · exact absurd (List.mem_map.2 ⟨q, h1, by rw [e, h2]⟩) hnd.1
      · exact ih h1 h2 hnd.2
section
variable {P : Program} {ops : Array Oper} {Q : Exit → Act → World → Prop} {md : Region.Mode} {S : World → Prop} {ds : List Nat}
theorem chainsP_ {T : Bool × List (List Nat × List Nat)} {fuel : Nat} {l : Array Bool} {a : Act} {w : World} (hT : rtab md ops = T) (chs : List (List Nat)) (tl : List Nat) (sl : List (Nat × Nat)) (l' : Array Bool) (hck : chainsT T.2 l.toList l'.toList chs tl fuel = true) (hsl : slotsOk sl = true) (Base : World → Prop) (A : Nat → Nat → (Nat → Value) → (Nat → Nat) → World → Prop) (hS : ∀ w, Base w → S w)
    (ρ0 : Nat → Nat) (hb : Base w) (h0 : ∀ c, c < chs.length → ∀ u, A c 0 u ρ0 w)
    (hdep : ∀ c p u i v ρ w, cofT chs i ≠ c → A c p u ρ w → A c p (updv u i v) ρ w)
    (hst : ∀ c c' p u ρ ρ1 w w1, c ≠ c' → chs.getD c' [] ≠ [] → MvC c' ρ ρ1 w w1 → A c p u ρ w → A c p u ρ1 w1)
    (hstep : ∀ c p, c < chs.length → p < (chs.getD c []).length → ∀ u ρ w, Base w → (∀ c', c' < chs.length → chs.getD c' [] = [] → A c' 0 u ρ w) → A c p u ρ w → wpOp P ops Q (cget chs c p) (fun a' w' => ∃ v ρ1, a' = puts a sl (updv u (cget chs c p) v) ∧ Base w' ∧ MvC c ρ ρ1 w w' ∧ A c (p + 1) (updv u (cget chs c p) v) ρ1 w') (puts a sl u) w)
    (hend : ∀ u ρ w, Base w → (∀ c, c < chs.length → A c (chs.getD c []).length u ρ w) → wpAnyLast P md ops Q S ds tl.length l' (puts a sl u) w) : wpAnyLast P md ops Q S ds fuel l a w :=
  chains_ hT chs tl l' hck (puts a sl) Base A hS (cur a sl) ρ0 (cur_start a sl hsl) hb (fun c hc => h0 c hc _) hdep hst hstep hend
theorem cstep_ {sl : List (Nat × Nat)} {a a1 : Act} {u : Nat → Value} {c p i s : Nat} {o : Oper} {ρ : Nat → Nat} {w : World} {Base : World → Prop} {A : Nat → Nat → (Nat → Value) → (Nat → Nat) → World → Prop} (ho : ops[i]? = some o) (hN : o.dst = some s) (hsl : slotsOk sl = true) (hm : sl.contains (s, i) = true) (ha : puts a sl u = a1)
    (h : ∀ K : Act → World → Prop, Shut (∀ v ρ1 w1, Base w1 → MvC c ρ ρ1 w w1 → A c (p + 1) (updv u i v) ρ1 w1 → K (a1.put (some s) v) w1) → if Region.wanted o (yielded ops a1.tmps) = true then Oper.wp P o a1 w K Q else K (a1.put (some s) undef) w) :
    wpOp P ops Q i (fun a' w' => ∃ v ρ1, a' = puts a sl (updv u i v) ∧ Base w' ∧ MvC c ρ ρ1 w w' ∧ A c (p + 1) (updv u i v) ρ1 w') (puts a sl u) w := by
  subst ha
  refine ireg_ ho hN fun K hK => h K fun v ρ1 w1 hb hm1 hA => hK _ _ ⟨v, ρ1, ?_, hb, hm1, hA⟩
  exact puts_put v u sl a hsl (List.contains_iff_mem.1 hm)
end
def paint (ρ : Nat → Nat) (N x k : Nat) : Nat := if k < N then ρ k else x
section
variable {ρ ρ1 : Nat → Nat} {w w1 : World} {c x y : Nat} {α : Type} {d : Kd α} {e base : Nat} {v : Value} {xs : List α}
theorem MvC.below (hb : Below w.heap.size w w1) : MvC c ρ (paint ρ w.heap.size x) w w1 := ⟨hb.size, fun k hk _ => hb.block k hk, fun k hk _ => if_pos hk⟩
theorem MvC.alloc (o : Obj) : MvC c ρ (paint ρ w.heap.size x) w (w.alloc o) := MvC.below (below_alloc (Below.refl _ _) o)
theorem MvC.grown {row : Option Nat} (hg : w.grownBy w1 row) (hr : ∀ k, row = some k → ρ k / 8 = c) : MvC c ρ (paint ρ w.heap.size x) w w1 := ⟨hg.size, fun k hk h => hg.block k hk (fun e => h (hr k e.symm)), fun k hk _ => if_pos hk⟩
theorem MvC.refl (c : Nat) (ρ : Nat → Nat) (w : World) : MvC c ρ ρ w w := ⟨Nat.le_refl _, fun _ _ _ => rfl, fun _ _ _ => rfl⟩
theorem R_col (h : d.R e w base (fun k => ρ k = x) v xs) (hm : ∀ k, k < w.heap.size → ρ k = x → w1.heap[k]? = w.heap[k]? ∧ ρ1 k = x) : d.R e w1 base (fun k => ρ1 k = x) v xs :=
  Kd.R_mono (Kd.R_step (Kd.R_bound h) (fun k hk hlt => (hm k hlt hk.1).1)) (fun k hk => (hm k hk.2.2.1 hk.1).2)
theorem R_mv (h : d.R e w base (fun k => ρ k = x) v xs) (m : MvC c ρ ρ1 w w1) (hx : x / 8 ≠ c) : d.R e w1 base (fun k => ρ1 k = x) v xs :=
  R_col h (fun k hk hc => ⟨m.same k hk (by rw [hc]; exact hx), (m.keep k hk (by rw [hc]; exact hx)).trans hc⟩)
theorem F_col {A : Option Addr} {n : Nat} (h : d.F w (fun k => ρ k = x) A n xs) (hm : ∀ k, k < w.heap.size → ρ k = x → w1.heap[k]? = w.heap[k]? ∧ ρ1 k = x) : d.F w1 (fun k => ρ1 k = x) A n xs :=
  Kd.F_mono (Kd.F_step (Kd.F_bound h) (fun k hk hlt => (hm k hlt hk.1).1)) (fun k hk => (hm k hk.2 hk.1).2)
theorem F_mv {A : Option Addr} {n : Nat} (h : d.F w (fun k => ρ k = x) A n xs) (m : MvC c ρ ρ1 w w1) (hx : x / 8 ≠ c) : d.F w1 (fun k => ρ1 k = x) A n xs :=
  F_col h (fun k hk hc => ⟨m.same k hk (by rw [hc]; exact hx), (m.keep k hk (by rw [hc]; exact hx)).trans hc⟩)
def Bl (ρ : Nat → Nat) (x : Nat) (w : World) (g : Nat) (o : Obj) : Prop := w.heap[g]? = some o ∧ ρ g = x
theorem Bl.mv {g : Nat} {o : Obj} (h : Bl ρ x w g o) (m : MvC c ρ ρ1 w w1) (hx : x / 8 ≠ c) : Bl ρ1 x w1 g o :=
  ⟨(m.same g (blk_lt h.1) (by rw [h.2]; exact hx)).trans h.1, (m.keep g (blk_lt h.1) (by rw [h.2]; exact hx)).trans h.2⟩
theorem Bl.col {g : Nat} {o : Obj} (h : Bl ρ x w g o) (hm : ∀ k, k < w.heap.size → ρ k = x → w1.heap[k]? = w.heap[k]? ∧ ρ1 k = x) : Bl ρ1 x w1 g o := ⟨(hm g (blk_lt h.1) h.2).1.trans h.1, (hm g (blk_lt h.1) h.2).2⟩
theorem Bl.new (ρ : Nat → Nat) (x : Nat) (w : World) (o : Obj) : Bl (paint ρ w.heap.size x) x (w.alloc o) w.heap.size o := ⟨blk_new w o, if_neg (Nat.lt_irrefl _)⟩
theorem col_below (hb : Below w.heap.size w w1) (y : Nat) : ∀ k, k < w.heap.size → ρ k = x → w1.heap[k]? = w.heap[k]? ∧ paint ρ w.heap.size y k = x := fun k hk h => ⟨hb.block k hk, (if_pos hk).trans h⟩
theorem col_alloc (o : Obj) (y : Nat) : ∀ k, k < w.heap.size → ρ k = x → (w.alloc o).heap[k]? = w.heap[k]? ∧ paint ρ w.heap.size y k = x := col_below (below_alloc (Below.refl _ _) o) y
theorem col_grown {row : Option Nat} (hg : w.grownBy w1 row) (y : Nat) (hr : ∀ k, row = some k → ρ k ≠ x) : ∀ k, k < w.heap.size → ρ k = x → w1.heap[k]? = w.heap[k]? ∧ paint ρ w.heap.size y k = x := fun k hk h => ⟨hg.block k hk (fun e => hr k e.symm h), (if_pos hk).trans h⟩
theorem R_none (d : Kd α) (e : Nat) (w : World) (base : Nat) (hb : base ≤ w.heap.size) (ρ : Nat → Nat) (x : Nat) : d.R e (w.alloc (.cells #[] e)) base (fun k => paint ρ w.heap.size x k = x) (.slice (some ⟨w.heap.size, 0, none⟩) 0 0) [] :=
  Kd.R_lower (Kd.R_mono (R_empty d e w w.heap.size (Nat.le_refl _)) (fun k hk => if_neg (by omega))) hb
theorem R_new (h : d.R e w1 w.heap.size (fun _ => True) v xs) (x : Nat) : d.R e w1 w.heap.size (fun k => paint ρ w.heap.size x k = x) v xs :=
  Kd.R_mono (Kd.R_bound h) (fun k hk => if_neg (by have := hk.2.1; omega))
end
end Go.Proofs.YthlmgbdknjilpaaGreat.Tower
namespace Go.Proofs.YthlmgbdknjilpaaGreat.Tower
open Go Go.RowKit Go.Proofs.YthlmgbdknjilpaaGreatW.PrintWords Go.Proofs.YthlmgbdknjilpaaGreatW.PrintLast Go.Proofs.YthlmgbdknjilpaaGreatW.PrintMore Go.Proofs.YthlmgbdknjilpaaGreat.Own Go.Proofs.YthlmgbdknjilpaaGreat.PAskKinds
set_option linter.unusedVariables false
set_option linter.unusedSimpArgs false
structure Row (ρ : Nat → Nat) (x : Nat) (Y : Nat → Prop) (w : World) (base : Nat) (v : Value) (row : List Sh) : Prop where
  row : kSh.N 42 w base (fun k => ρ k = x ∨ Y (ρ k)) v row
  own : ∀ k, v.ownBlock = some k → ρ k = x
def Y16 (c : Nat) : Prop := c = 16
section
variable {ρ ρ1 : Nat → Nat} {x c base : Nat} {Y Y1 : Nat → Prop} {w w1 : World} {v : Value} {row : List Sh}
theorem Row.col (h : Row ρ x Y w base v row) (hm : ∀ k, k < w.heap.size → (ρ k = x ∨ Y (ρ k)) → w1.heap[k]? = w.heap[k]? ∧ ρ1 k = ρ k) : Row ρ1 x Y w1 base v row where
  row := Kd.N_mono (Kd.N_step (Kd.N_bound h.row) (fun k hk hlt => (hm k hlt hk.1).1)) (fun k hk => by rw [(hm k hk.2 hk.1).2]; exact hk.1)
  own := fun k hk => by have h1 := h.own k hk; rw [(hm k (Kd.N_lt h.row k hk) (.inl h1)).2]; exact h1
theorem Row.mv (h : Row ρ x Y w base v row) (m : MvC c ρ ρ1 w w1) (hx : x / 8 ≠ c) (hc : ∀ y, Y y → y / 8 ≠ c) : Row ρ1 x Y w1 base v row :=
  h.col (fun k hk hh => by
    have h1 : ρ k / 8 ≠ c := by rcases hh with h1 | h1; · rw [h1]; exact hx
                                · exact hc _ h1
    exact ⟨m.same k hk h1, m.keep k hk h1⟩)
theorem Row.nil (ρ : Nat → Nat) (x : Nat) (Y : Nat → Prop) (w : World) (base : Nat) : Row ρ x Y w base (.slice none 0 0) [] := ⟨Kd.N_nil _ _ _ _ _, fun k hk => by simp [Value.ownBlock] at hk⟩
theorem Row.grown (h : Row ρ x Y w base v row) {r : Option Nat} (hg : w.grownBy w1 r) (hr : ∀ k, r = some k → ρ k ≠ x ∧ ¬ Y (ρ k)) (y : Nat) : Row (paint ρ w.heap.size y) x Y w1 base v row :=
  h.col (fun k hk hh => ⟨hg.block k hk (fun e => hh.elim (hr k e.symm).1 (hr k e.symm).2), if_pos hk⟩)
theorem Row.allocd (h : Row ρ x Y w base v row) (o : Obj) (y : Nat) : Row (paint ρ w.heap.size y) x Y (w.alloc o) base v row := h.col (fun k hk _ => ⟨Below.heap_alloc _ _ _ hk, if_pos hk⟩)
theorem Row.tint (h : Row ρ x Y w base v row) {y : Nat} (hx : ∀ k, k < w.heap.size → ρ k = x → ρ1 k = y) (hf : ∀ k, k < w.heap.size → Y (ρ k) → Y1 (ρ1 k)) : Row ρ1 y Y1 w base v row where
  row := Kd.N_mono (Kd.N_bound h.row) (fun k hk => hk.1.elim (fun h1 => .inl (hx k hk.2 h1)) (fun h1 => .inr (hf k hk.2 h1)))
  own := fun k hk => hx k (Kd.N_lt h.row k hk) (h.own k hk)
theorem Row.below (h : Row ρ x Y w base v row) (hb : Below w.heap.size w w1) : Row ρ x Y w1 base v row := ⟨Kd.N_below h.row hb, h.own⟩
theorem own_paint {v1 : Value} (hat : v1.ownBlock = v.ownBlock ∨ ∃ b, v1.ownBlock = some b ∧ w.heap.size ≤ b) (ho : ∀ k, v.ownBlock = some k → ρ k = x) (hl : ∀ k, v.ownBlock = some k → k < w.heap.size) : ∀ k, v1.ownBlock = some k → paint ρ w.heap.size x k = x := fun k hk => by
  rcases hat with hat | ⟨b1, hb2, hle⟩
  · have h1 : v.ownBlock = some k := hat ▸ hk
    exact (if_pos (hl k h1)).trans (ho k h1)
  · have h1 : some b1 = some k := hb2.symm.trans hk
    injection h1 with h1
    exact if_neg (by omega)
theorem R_tint {α : Type} {d : Kd α} {e : Nat} {xs : List α} {y : Nat} (h : d.R e w base (fun k => ρ k = x) v xs) (hx : ∀ k, k < w.heap.size → ρ k = x → ρ1 k = y) : d.R e w base (fun k => ρ1 k = y) v xs := Kd.R_mono (Kd.R_bound h) (fun k hk => hx k hk.2.2.1 hk.1)
theorem F_tint {α : Type} {d : Kd α} {A : Option Addr} {n : Nat} {xs : List α} {y : Nat} (h : d.F w (fun k => ρ k = x) A n xs) (hx : ∀ k, k < w.heap.size → ρ k = x → ρ1 k = y) : d.F w (fun k => ρ1 k = y) A n xs := Kd.F_mono (Kd.F_bound h) (fun k hk => hx k hk.2 hk.1)
theorem Bl.tint {g : Nat} {o : Obj} {y : Nat} (h : Bl ρ x w g o) (hx : ∀ k, k < w.heap.size → ρ k = x → ρ1 k = y) : Bl ρ1 y w g o := ⟨h.1, hx g (blk_lt h.1) h.2⟩
theorem Bl.below {g : Nat} {o : Obj} (h : Bl ρ x w g o) (hb : Below w.heap.size w w1) : Bl ρ x w1 g o := ⟨blk_below h.1 hb, h.2⟩
theorem one_F {α : Type} {d : Kd α} {g : Nat} {cs : List Value} {t : Nat} {p : α} {ok : Nat → Prop} (hb : w.heap[g]? = some (.cells cs.toArray t (0, 0))) (hk : d.FK w ok p cs) : d.F w (fun k => k = g ∨ ok k) (some ⟨g, 0, none⟩) 1 [p] := by
  intro W hW
  have hg : W.heap[g]? = some (.cells cs.toArray t (0, 0)) := (hW g (.inl rfl) (blk_lt hb)).trans hb
  refine ⟨rfl, by omega, fun _ => ⟨⟨g, 0, none⟩, rfl, fun j q hq => ?_⟩⟩
  have hj : j = 0 := by
    rcases Nat.eq_zero_or_pos j with h | h
    · exact h
    · rw [List.getElem?_eq_none (by simp; omega)] at hq; cases hq
  subst hj
  injection hq with hq
  subst hq
  have hK : d.K W p cs := hk W (fun k hk1 hlt => hW k (.inr hk1) hlt)
  refine ⟨cs, d.K_len hK, hK, fun i u hu => ?_⟩
  have hil := (List.getElem?_eq_some_iff.1 hu).1
  have := blk_cell hg i
  rw [Nat.zero_mul, Nat.zero_add, add_at, Nat.zero_add, this]
  simpa using hu
end
theorem wrap_succ (k : Nat) (h : k ≤ 1000) : wrap64 ((k : Int) + 1) = ((k + 1 : Nat) : Int) := by unfold wrap64; omega
theorem meas_succ {k n : Nat} (hk : k < n) (h : k ≤ 1000) : n - (intOf (Value.int .i64 (wrap64 ((k : Int) + 1)))).toNat < n - (intOf (Value.int .i64 (k : Int))).toNat := by
  rw [wrap_succ k h, show intOf (Value.int .i64 ((k + 1 : Nat) : Int)) = ((k + 1 : Nat) : Int) from rfl, show intOf (Value.int .i64 (k : Int)) = (k : Int) from rfl, Int.toNat_natCast, Int.toNat_natCast]
  omega
def fade (ρ : Nat → Nat) (k : Nat) : Nat := if ρ k = 1 ∨ ρ k = 2 then 16 else ρ k
theorem fade_keep {ρ : Nat → Nat} {k x : Nat} (h : ρ k = x) (hx : x ≠ 1 ∧ x ≠ 2) : fade ρ k = x := by unfold fade; rw [if_neg (by omega), h]
theorem paint_old {ρ : Nat → Nat} {b n x : Nat} (h : ∀ k, k < b → ρ k = 17) (hb : b ≤ n) : ∀ k, k < b → paint ρ n x k = 17 := fun k hk => (if_pos (Nat.lt_of_lt_of_le hk hb)).trans (h k hk)
theorem fade_old {ρ : Nat → Nat} {b : Nat} (h : ∀ k, k < b → ρ k = 17) : ∀ k, k < b → fade ρ k = 17 := fun k hk => fade_keep (h k hk) (by omega)
theorem fade_16 {ρ : Nat → Nat} {k : Nat} (h : ρ k = 16 ∨ ρ k = 1 ∨ ρ k = 2) : Y16 (fade ρ k) := by
  unfold fade Y16
  rcases h with h | h | h
  · rw [if_neg (by omega), h]
  · rw [if_pos (.inl h)]
  · rw [if_pos (.inr h)]
def zShO : Obj := .cells #[.bool false, .bool false, .slice none 0 0, .slice none 0 0, .slice none 0 0] 42 (0, 0)
structure Ev1 (w : World) (psA : Option Addr) (ps : List Int) (R0 : List Sh) (K0 : List Int) (v0 v5 v6 v23 : Value) (wr : World) (ρ : Nat → Nat) (A : Option Addr) (c : Nat) (xs : List Pr2) (ns : List Nat) (acc : List Sh) (accK : List Int) : Prop where
  e0 : v0 = .slice A xs.length c
  e23 : v23 = .int .i64 (acc.length : Nat)
  cap : xs.length ≤ c
  lC : kP.C w A xs.length xs
  l60 : xs.length ≤ 60
  sum : ns.sum = xs.length
  pos : ∀ n ∈ ns, 1 ≤ n
  cnt : acc.length + ns.length = ps.length
  p60 : ps.length ≤ 60
  told : ∀ j, rd ps ((acc.length + j : Nat) : Int) = ((ns.getD j 0 : Nat) : Int)
  eR : acc ++ leafRow xs ns = R0
  eK : accK ++ leafKey xs ns = K0
  lenK : accK.length = acc.length
  below : Below w.heap.size w wr
  row : Row ρ 0 Y16 wr w.heap.size v5 acc
  fs : (Kd.int .i64).R 2 wr w.heap.size (fun k => ρ k = 8) v6 accK
  parts : (Kd.int .i64).F wr (fun k => ρ k = 17) psA ps.length ps
  box : Bl ρ 18 wr w.heap.size zShO
  old : ∀ k, k < w.heap.size → ρ k = 17
def Ev8A (w0 : World) (base : Nat) (row : List Sh) (v5 : Value) (ys : List Pr2) (fs : List Int) (v6 : Value) (psA : Option Addr) (ps : List Int) (kk : Int) : Nat → Nat → (Nat → Value) → (Nat → Nat) → World → Prop
  | 0, 0, u, ρ, w => Row ρ 0 Y16 w base v5 row
  | 0, 1, u, ρ, w => Row ρ 0 Y16 w base v5 row ∧ kP.R 31 w base (fun k => ρ k = 1) (u 1) []
  | 0, 2, u, ρ, w => Row ρ 0 Y16 w base v5 row ∧ kP.R 31 w base (fun k => ρ k = 1) (u 5) ys
  | 0, 3, u, ρ, w => Row ρ 0 Y16 w base v5 row ∧ kP.R 31 w base (fun k => ρ k = 1) (u 5) ys ∧ u 6 = .agg #[.bool true, .bool false, u 5, .slice none 0 0, .slice none 0 0]
  | 0, 4, u, ρ, w => Row ρ 0 Y16 w base v5 row ∧ kP.R 31 w base (fun k => ρ k = 1) (u 5) ys ∧ ∃ g, u 7 = .slice (some ⟨g, 0, none⟩) 1 1 ∧ Bl ρ 2 w g (.cells #[.bool true, .bool false, u 5, .slice none 0 0, .slice none 0 0] 42 (0, 0))
  | 0, _ + 5, u, ρ, w => Row ρ 0 (fun c => c = 16 ∨ c = 1 ∨ c = 2) w base (u 8) (row ++ [⟨true, false, ys, [], []⟩])
  | 1, 0, u, ρ, w => (Kd.int .i64).R 2 w base (fun k => ρ k = 8) v6 fs
  | 1, _ + 1, u, ρ, w => (Kd.int .i64).R 2 w base (fun k => ρ k = 8) v6 fs ∧ ∃ g, u 14 = .slice (some ⟨g, 0, none⟩) 1 1 ∧ Bl ρ 9 w g (.cells #[.int .i64 kk] 2 (0, 0))
  | 2, _, u, ρ, w => (Kd.int .i64).F w (fun k => ρ k = 17) psA ps.length ps ∧ Bl ρ 18 w base zShO ∧ ∀ k, k < base → ρ k = 17
  | _, _, _, _, _ => True
section
variable {w0 : World} {base : Nat} {row : List Sh} {v5 v6 : Value} {ys : List Pr2} {fs ps : List Int} {psA : Option Addr} {kk : Int}
theorem Ev8A.dep (c p : Nat) (u : Nat → Value) (i : Nat) (v : Value) (ρ : Nat → Nat) (w : World) (hi : cofT [[1, 5, 6, 7, 8], [14], []] i ≠ c) (h : Ev8A w0 base row v5 ys fs v6 psA ps kk c p u ρ w) : Ev8A w0 base row v5 ys fs v6 psA ps kk c p (updv u i v) ρ w := by
  have far : ∀ j, cofT [[1, 5, 6, 7, 8], [14], []] j = c → updv u i v j = u j := fun j hj => if_neg (fun e => hi (by rw [← e]; exact hj))
  match c, p, h with
  | 0, 0, h => exact h
  | 0, 1, h => simp only [Ev8A, far 1 (by rfl)]; exact h
  | 0, 2, h => simp only [Ev8A, far 5 (by rfl)]; exact h
  | 0, 3, h => simp only [Ev8A, far 5 (by rfl), far 6 (by rfl)]; exact h
  | 0, 4, h => simp only [Ev8A, far 5 (by rfl), far 7 (by rfl)]; exact h
  | 0, p + 5, h => simp only [Ev8A, far 8 (by rfl)]; exact h
  | 1, 0, h => exact h
  | 1, p + 1, h => simp only [Ev8A, far 14 (by rfl)]; exact h
  | 2, _, h => exact h
  | c + 3, _, h => exact trivial
theorem Ev8A.still (c c' p : Nat) (u : Nat → Value) (ρ ρ1 : Nat → Nat) (w w1 : World) (hc : c ≠ c') (hn : [[1, 5, 6, 7, 8], [14], []].getD c' [] ≠ []) (m : MvC c' ρ ρ1 w w1) (h : Ev8A w0 base row v5 ys fs v6 psA ps kk c p u ρ w) : Ev8A w0 base row v5 ys fs v6 psA ps kk c p u ρ1 w1 := by
  have hc2 : c' ≠ 2 := fun e => by subst e; exact hn rfl
  have h16 : ∀ y, Y16 y → y / 8 ≠ c' := fun y hy => by rw [show y = 16 from hy]; omega
  match c, p, h with
  | 0, 0, h => exact Row.mv h m (by omega) h16
  | 0, 1, h => exact ⟨h.1.mv m (by omega) h16, R_mv h.2 m (by omega)⟩
  | 0, 2, h => exact ⟨h.1.mv m (by omega) h16, R_mv h.2 m (by omega)⟩
  | 0, 3, h => exact ⟨h.1.mv m (by omega) h16, R_mv h.2.1 m (by omega), h.2.2⟩
  | 0, 4, h =>
    obtain ⟨h1, h2, g, h3, h4⟩ := h
    exact ⟨h1.mv m (by omega) h16, R_mv h2 m (by omega), g, h3, h4.mv m (by omega)⟩
  | 0, p + 5, h => exact Row.mv h m (by omega) (fun y hy => by rcases hy with rfl | rfl | rfl <;> omega)
  | 1, 0, h => exact R_mv h m (by omega)
  | 1, p + 1, h =>
    obtain ⟨h1, g, h3, h4⟩ := h
    exact ⟨R_mv h1 m (by omega), g, h3, h4.mv m (by omega)⟩
  | 2, _, h => exact ⟨F_mv h.1 m (by omega), h.2.1.mv m (by omega), fun k hk => (m.keep k (Nat.lt_trans hk (blk_lt h.2.1.1)) (by rw [h.2.2 k hk]; omega)).trans (h.2.2 k hk)⟩
  | c + 3, _, h => exact trivial
end
end Go.Proofs.YthlmgbdknjilpaaGreat.Tower
namespace Go.Proofs.YthlmgbdknjilpaaGreat.Tower
open Go Go.RowKit Go.Proofs.YthlmgbdknjilpaaGreatW.PrintWords Go.Proofs.YthlmgbdknjilpaaGreatW.PrintLast Go.Proofs.YthlmgbdknjilpaaGreatW.PrintMore Go.Proofs.YthlmgbdknjilpaaGreat.Own
set_option linter.unusedVariables false
set_option linter.unusedSimpArgs false
def Ar.info (a : Ar) (r : Int) : Int × Ar :=
  match a.idx r with
  | none => (0, a.fault)
  | some j => match a.slots[j]? with
    | none => (0, a)
    | some s => (s.info, a)
def Ar.mark (a : Ar) (r : Int) : Bool × Ar :=
  match a.idx r with
  | none => (false, a.fault)
  | some j => match a.slots[j]? with
    | none => (false, a)
    | some s => (s.mark, a)
def Ar.swapWay (a : Ar) (r i old now : Int) : Bool × Ar :=
  match a.idx r with
  | none => (false, a.fault)
  | some j => match a.slots[j]? with
    | none => (false, a)
    | some s => if i < 0 then (false, a) else if (s.ways.length : Int) ≤ i then (false, a) else if s.ways.getD i.toNat 0 = old then (true, { a with slots := a.slots.set j { s with ways := s.ways.set i.toNat now } }) else (false, a)
theorem ArenaAt.way_put {ok : Nat → Prop} {pA : Nat} {sv fv : Value} {lv : Nat → Lv} {ρ : Nat → Nat} {a : Ar} {w : World} (h : ArenaAt ok pA sv fv lv ρ a w) {i : Nat} {s : Sl} (hi : a.slots[i]? = some s) {gl cw : Nat} (hv : (lv i).w = .slice (some ⟨gl, 0, none⟩) s.ways.length cw) (j : Int) (x : Int) :
    ArenaAt ok pA sv fv lv ρ { a with slots := a.slots.set i { s with ways := s.ways.set j.toNat x } } (w.setCell ⟨gl, j.toNat, none⟩ (.int .i64 x)) := by
  have hil := (List.getElem?_eq_some_iff.1 hi).1
  have hR := h.ways i s hi
  rw [hv] at hR
  have hgl := hR.1 gl (by simp [Value.ownBlock])
  have hne : ∀ r, r ≠ 4 + i → ∀ k, ρ k = r → k ≠ gl := fun r hr k hk e => hr (by rw [← hk, e, hgl.2])
  have hm : ∀ k, ρ k ≠ 4 + i → (w.setCell ⟨gl, j.toNat, none⟩ (.int .i64 x)).heap[k]? = w.heap[k]? := fun k hk => Below.heap_setCell w ⟨gl, j.toNat, none⟩ _ k (fun e => hk (by rw [e, hgl.2]))
  have hget : ∀ {i1 : Nat} {s2 : Sl}, (a.slots.set i { s with ways := s.ways.set j.toNat x })[i1]? = some s2 → (i1 = i ∧ s2 = { s with ways := s.ways.set j.toNat x }) ∨ (i1 ≠ i ∧ a.slots[i1]? = some s2) := fun {i1 s2} h2 => by
    by_cases he : i = i1
    · subst he
      rw [List.getElem?_set_self hil] at h2
      injection h2 with h2
      exact .inl ⟨rfl, h2.symm⟩
    · rw [List.getElem?_set_ne he] at h2
      exact .inr ⟨fun e => he e.symm, h2⟩
  have hrows : rowsOf (a.slots.set i { s with ways := s.ways.set j.toNat x }) lv = rowsOf a.slots lv := by
    rw [rowsOf_set hil (fun _ _ => rfl)]
    refine List.ext_getElem? fun q => ?_
    by_cases hq : i = q
    · subst hq
      rw [List.getElem?_set_self (by rw [rowsOf_length]; exact hil), rowsOf_get hi]
      rfl
    · rw [List.getElem?_set_ne hq]
  exact {
    own := h.own
    role := h.role
    lt := fun k hk => by simpa [World.setCell] using h.lt k hk
    box := (hm pA (by rw [h.role]; omega)).trans h.box
    rows := by
      show (Kd.raw 10).R _ _ _ _ _ (rowsOf (a.slots.set i _) lv)
      rw [hrows]
      exact Kd.R_step h.rows (fun k hk _ => hm k (by rw [hk.2]; omega))
    free := Kd.Q_step h.free (fun k hk _ => hm k (by rw [hk.2]; omega))
    node := fun i1 s2 h2 => by
      have hs3 : ∃ s3, a.slots[i1]? = some s3 ∧ s3.node = s2.node := by
        rcases hget h2 with ⟨rfl, rfl⟩ | ⟨_, h3⟩
        · exact ⟨s, hi, rfl⟩
        · exact ⟨s2, h3, rfl⟩
      obtain ⟨s3, h3, he⟩ := hs3
      have hn := h.node i1 s3 h3
      rw [he] at hn
      have h4 : ∀ k, (ok k ∧ ρ k = 3) → k < w.heap.size → (w.setCell ⟨gl, j.toNat, none⟩ (.int .i64 x)).heap[k]? = w.heap[k]? := fun k hk _ => hm k (by rw [hk.2]; omega)
      exact ⟨hn.1.step h4, hn.2.1.step h4, hn.2.2.step h4⟩
    ways := fun i1 s2 h2 => by
      rcases hget h2 with ⟨rfl, rfl⟩ | ⟨hi1, h2⟩
      · have h5 := Kd.R_putn hR j x
        show (Kd.int .i64).R _ _ _ _ (lv i1).w (s.ways.set j.toNat x)
        rw [hv]
        exact h5
      · exact Kd.R_step (h.ways i1 s2 h2) (fun k hk _ => hm k (by rw [hk.2]; omega)) }
set_option maxHeartbeats 2000000 in
set_option maxRecDepth 100000 in
theorem swapWay_calls {ok : Nat → Prop} {pA : Nat} {a : Ar} (r i old now : Int) (w : World) (h : IsArena ok pA a w) (hl : a.slots.length < 1000000) :
    Calls Tryz.prog 89 #[.pointer (some ⟨pA, 0, none⟩), .int .i64 r, .int .i64 i, .int .i64 old, .int .i64 now] w (APost ok pA (.bool (a.swapWay r i old now).1) ((a.swapWay r i old now).2) w) := by
  obtain ⟨sv, fv, lv, ρ, h⟩ := h
  have HA := Aside0.mk (at_calls r w h hl)
  cases hx : a.idx r with
  | none =>
    have HF := Aside0.mk (fault_is h)
    have HX := Aside0.mk hx
    have e1 : a.swapWay r i old now = (false, a.fault) := by simp [Ar.swapWay, hx]
    rw [e1]
    clear h hx e1
    go_enter Tryz.func89, Tryz.ntmps89
    go_wp2_with (go_at_call 82; refine HA.out.mono ?_; rintro e w1 ⟨_, hm⟩; obtain ⟨rfl, rfl⟩ := hm HX.out; clear hm)
    go_ret
    exact ⟨rfl, HF.out.1, HF.out.2⟩
  | some j =>
    obtain ⟨hp, s, hs, hu, hr⟩ := Ar.idx_some hx
    obtain ⟨ad, cap, rfl⟩ := Kd.R_slice h.rows
    obtain ⟨hn, g, rfl, hg, hρ, hcc, hfz⟩ := h.cells hs
    have HX := Aside0.mk hx
    have HI := Aside0.mk h
    have HG := Aside0.mk hg
    have HS := Aside0.mk hs
    have hR := h.ways j s hs
    obtain ⟨Aw, cw, ew⟩ := Kd.R_slice hR
    have c5 : w.cell? ⟨g, j * 10 + 5, none⟩ = some (.slice Aw s.ways.length cw) := hcc 5 _ (by rw [← ew]; rfl)
    have e1 : a.swapWay r i old now = (if i < 0 then (false, a) else if (s.ways.length : Int) ≤ i then (false, a) else if s.ways.getD i.toNat 0 = old then (true, { a with slots := a.slots.set j { s with ways := s.ways.set i.toNat now } }) else (false, a)) := by simp [Ar.swapWay, hx, hs]
    rw [e1]
    rw [ew] at hR
    by_cases h0 : i < 0
    · rw [if_pos h0]
      have d1 : decide (i < 0) = true := decide_eq_true h0
      clear h hx hcc hfz hp hs hu hr e1 ew hR h0
      go_enter Tryz.func89, Tryz.ntmps89
      go_wp2_with (go_at_call 82; refine HA.out.mono ?_; rintro e w1 ⟨hm, _⟩; obtain ⟨g1, n1, cap1, e1, rfl, rfl⟩ := hm j HX.out; injection e1 with e1 _ _; injection e1 with e1; injection e1 with e1 _ _; subst e1; clear hm)
      go_ret
      exact ⟨rfl, ⟨_, _, _, _, HI.out⟩, Moves.refl _ _⟩
    · rw [if_neg h0]
      have d1 : decide (i < 0) = false := decide_eq_false h0
      by_cases h1 : (s.ways.length : Int) ≤ i
      · rw [if_pos h1]
        have d2 : decide (i ≥ (s.ways.length : Int)) = true := decide_eq_true h1
        have d2' : decide ((s.ways.length : Int) ≤ i) = true := decide_eq_true h1
        clear h hx hcc hfz hp hs hu hr e1 ew hR h0 h1
        go_enter Tryz.func89, Tryz.ntmps89
        go_wp2_with (go_at_call 82; refine HA.out.mono ?_; rintro e w1 ⟨hm, _⟩; obtain ⟨g1, n1, cap1, e1, rfl, rfl⟩ := hm j HX.out; injection e1 with e1 _ _; injection e1 with e1; injection e1 with e1 _ _; subst e1; clear hm)
        go_ret
        exact ⟨rfl, ⟨_, _, _, _, HI.out⟩, Moves.refl _ _⟩
      · rw [if_neg h1]
        have d2 : decide (i ≥ (s.ways.length : Int)) = false := decide_eq_false h1
        have d2' : decide ((s.ways.length : Int) ≤ i) = false := decide_eq_false h1
        have b1 : 0 ≤ i := by omega
        have b2 : i < (s.ways.length : Int) := by omega
        obtain ⟨gl, rfl, _, hcl⟩ := int_elem hR i b1 b2
        have hfw := (Kd.R_celln (0 : Int) hR i b1 b2).2
        have HGL := Aside0.mk (hR.1 gl (by simp [Value.ownBlock]))
        by_cases h2 : s.ways.getD i.toNat 0 = old
        · rw [if_pos h2]
          have d3 : (old != old) = false := by simp
          have HN := Aside0.mk (HI.out.way_put hs ew i now)
          rw [h2] at hcl
          clear h hx hcc hfz hp hs hu hr e1 ew hR h0 h1 h2
          go_enter Tryz.func89, Tryz.ntmps89
          go_wp2_with (go_at_call 82; refine HA.out.mono ?_; rintro e w1 ⟨hm, _⟩; obtain ⟨g1, n1, cap1, e1, rfl, rfl⟩ := hm j HX.out; injection e1 with e1 _ _; injection e1 with e1; injection e1 with e1 _ _; subst e1; clear hm)
          go_ret
          exact ⟨rfl, ⟨_, _, _, _, HN.out⟩, (Moves.refl ok _).set (p := ⟨gl, i.toNat, none⟩) (.inl HGL.out.1) _⟩
        · rw [if_neg h2]
          have d3 : (s.ways.getD i.toNat 0 != old) = true := by simpa using h2
          generalize s.ways.getD i.toNat 0 = v at hcl d3
          clear h hx hcc hfz hp hs hu hr e1 ew hR h0 h1 h2
          go_enter Tryz.func89, Tryz.ntmps89
          go_wp2_with (go_at_call 82; refine HA.out.mono ?_; rintro e w1 ⟨hm, _⟩; obtain ⟨g1, n1, cap1, e1, rfl, rfl⟩ := hm j HX.out; injection e1 with e1 _ _; injection e1 with e1; injection e1 with e1 _ _; subst e1; clear hm)
          go_ret
          exact ⟨rfl, ⟨_, _, _, _, HI.out⟩, Moves.refl _ _⟩
end Go.Proofs.YthlmgbdknjilpaaGreat.Tower
namespace Go.Proofs.YthlmgbdknjilpaaGreat.Tower
open Go Go.RowKit Go.Proofs.YthlmgbdknjilpaaGreatW.PrintWords Go.Proofs.YthlmgbdknjilpaaGreatW.PrintLast Go.Proofs.YthlmgbdknjilpaaGreatW.PrintMore Go.Proofs.YthlmgbdknjilpaaGreat.Own Go.Proofs.YthlmgbdknjilpaaGreat.PAskKinds
set_option linter.unusedVariables false
set_option linter.unusedSimpArgs false
def prs2 (l : List Pr2) : List (Int × Int) := l.map fun q => (q.f0, q.f1)
theorem wrap_mill (k : Nat) (h : k ≤ 1000000) : wrap64 ((k : Int) + 1) = ((k + 1 : Nat) : Int) := by unfold wrap64; omega
theorem meas_mill {k n : Nat} (hk : k < n) (h : k ≤ 1000000) : n - (intOf (Value.int .i64 (wrap64 ((k : Int) + 1)))).toNat < n - (intOf (Value.int .i64 (k : Int))).toNat := by
  rw [wrap_mill k h, show intOf (Value.int .i64 ((k + 1 : Nat) : Int)) = ((k + 1 : Nat) : Int) from rfl, show intOf (Value.int .i64 (k : Int)) = (k : Int) from rfl, Int.toNat_natCast, Int.toNat_natCast]
  omega
theorem prs2_length (l : List Pr2) : (prs2 l).length = l.length := List.length_map _
def ndSh (s : Sh) (ws : List Int) : Nd := ⟨!s.f0, s.f1, prs2 s.f2, s.f3, ws⟩
def madeN (n : Nd) (a : Ar) : Option (Int × Ar) :=
  if a.slots.length < 999999 ∧ n.pairs.length < 1000000 ∧ n.keys.length < 1000000 ∧ n.ways.length < 1000000 then (a.alloc n).map fun q => (q.1.1, q.2) else none
theorem madeN_ways {n : Nd} {a a1 : Ar} {r : Int} (h : madeN n a = some (r, a1)) : a.slots.length < 999999 ∧ n.pairs.length < 1000000 ∧ n.keys.length < 1000000 ∧ n.ways.length < 1000000 := by
  unfold madeN at h
  split at h
  · assumption
  · cases h
theorem madeN_alloc {n : Nd} {a a1 : Ar} {r : Int} (h : madeN n a = some (r, a1)) : ∃ b, a.alloc n = some ((r, b), a1) := by
  unfold madeN at h
  split at h
  · cases hx : a.alloc n with
    | none => rw [hx] at h; cases h
    | some q =>
      obtain ⟨⟨r1, b⟩, a2⟩ := q
      rw [hx] at h
      injection h with h
      injection h with h1 h2
      subst h1
      subst h2
      exact ⟨b, rfl⟩
  · cases h
mutual
def madeT : Sh → Ar → Option (Int × Ar)
  | ⟨l, t, ps, ks, kids⟩, a => (madeL kids a).bind fun q => madeN (ndSh ⟨l, t, ps, ks, kids⟩ q.1) q.2
def madeL : List Sh → Ar → Option (List Int × Ar)
  | [], a => some ([], a)
  | k :: r, a => (madeT k a).bind fun q => (madeL r q.2).bind fun p => some (q.1 :: p.1, p.2)
end
theorem madeT_eq (s : Sh) (a : Ar) : madeT s a = (madeL s.f4 a).bind fun q => madeN (ndSh s q.1) q.2 := by
  cases s
  rw [madeT]
theorem madeL_cons {k : Sh} {r : List Sh} {a a1 : Ar} {ws : List Int} (h : madeL (k :: r) a = some (ws, a1)) : ∃ x ax ws1, madeT k a = some (x, ax) ∧ madeL r ax = some (ws1, a1) ∧ ws = x :: ws1 := by
  rw [madeL] at h
  cases h1 : madeT k a with
  | none => rw [h1] at h; cases h
  | some q =>
    obtain ⟨x, ax⟩ := q
    rw [h1, Option.bind_some] at h
    cases h2 : madeL r ax with
    | none => rw [h2] at h; cases h
    | some p =>
      obtain ⟨ws1, a2⟩ := p
      rw [h2, Option.bind_some] at h
      injection h with h
      injection h with h h3
      subst h3
      exact ⟨x, ax, ws1, rfl, h2, h.symm⟩
theorem kid_lt {s k : Sh} (h : k ∈ s.f4) : SizeOf.sizeOf k < SizeOf.sizeOf s := by
  have h1 := List.sizeOf_lt_of_mem h
  cases s
  simp only at h1
  simp only [S42.mk.sizeOf_spec]
  omega
theorem prs2_F {w : World} {ok : Nat → Prop} {A : Option Addr} {n : Nat} {l : List Pr2} (h : kP.F w ok A n l) : kPair.F w ok A n (prs2 l) := Kd.F_imp h (fun W hC => ⟨by rw [prs2_length]; exact hC.1, hC.2.1, fun hp => by
  obtain ⟨ad, e, hc⟩ := hC.2.2 hp
  refine ⟨ad, e, fun j q hq => ?_⟩
  unfold prs2 at hq
  rw [List.getElem?_map] at hq
  cases hx : l[j]? with
  | none => rw [hx] at hq; cases hq
  | some x =>
    rw [hx] at hq
    injection hq with hq
    subst hq
    exact hc j x hx⟩)
theorem ndSh_F {D : Nat → Prop} {s : Sh} {ws : List Int} {A2 A3 Ay : Option Addr} {c2 c3 cy : Nat} {w : World} (h2 : s.f2.length ≤ c2) (F2 : kP.F w D A2 s.f2.length s.f2) (h3 : s.f3.length ≤ c3) (F3 : (Kd.int .i64).F w D A3 s.f3.length s.f3) (h4 : ws.length ≤ cy) (F4 : (Kd.int .i64).F w D Ay ws.length ws) :
    NdF D (ndSh s ws) (.agg #[.bool (!s.f0), .bool s.f1, .slice A2 s.f2.length c2, .slice A3 s.f3.length c3, .slice Ay ws.length cy]) w :=
  ⟨A2, c2, A3, c3, Ay, cy, by show _ = Value.agg #[_, _, .slice A2 (prs2 s.f2).length c2, _, _]; rw [prs2_length]; rfl, by show (prs2 s.f2).length ≤ c2; rw [prs2_length]; exact h2, h3, h4, by show kPair.F w D A2 (prs2 s.f2).length (prs2 s.f2); rw [prs2_length]; exact prs2_F F2, F3, F4⟩
theorem ways_moves {ok ok1 : Nat → Prop} {b5 base : Nat} {w w1 : World} {v : Value} {xs : List Int} (h : (Kd.int .i64).R 55 w base (fun k => ¬ ok k ∧ k ≠ b5) v xs) (m : Moves ok ok1 w w1) : (Kd.int .i64).R 55 w1 base (fun k => ¬ ok1 k ∧ k ≠ b5) v xs :=
  Kd.R_mono (Kd.R_step (Kd.R_bound h) (fun k hk hlt => m.block k hlt hk.1.1)) (fun k hk => ⟨fun h1 => (m.fresh k h1).elim hk.1.1 (fun h2 => by have := hk.2.2.1; omega), hk.1.2⟩)
theorem ways_bound {ok : Nat → Prop} {b5 base : Nat} {w : World} {v : Value} {xs : List Int} (h : (Kd.int .i64).R 55 w base (fun k => ¬ ok k ∧ k ≠ b5) v xs) : (Kd.int .i64).R 55 w base (fun k => (¬ ok k ∧ k ≠ b5) ∧ k < w.heap.size) v xs := Kd.R_mono (Kd.R_bound h) (fun k hk => ⟨hk.1, hk.2.2.1⟩)
def nbO (l t : Bool) (v2 v3 v4 : Value) : Obj := .cells #[.bool l, .bool t, v2, v3, v4] 119 (0, 0)
def TMade5 : Bool × List (List Nat × List Nat) := (true, [([], []), ([0], [0]), ([1], [1]), ([], []), ([], []), ([3, 4], [3, 4]), ([5], [5]), ([2, 6, 5], [2, 6]), ([0, 1, 2, 3, 4, 5, 6, 7], []), ([8, 0, 1, 2, 3, 4, 5, 6, 7], [8]), ([9, 7, 7, 0, 1, 2, 3, 4, 5, 6, 7], [7, 9])])
def BMade5 : List Nat := [0, 1, 3, 0, 0, 24, 56, 127, 255, 511, 1023]
theorem tabMade5 : rtab .any (opsOf Tryz.f90 5) = TMade5 := by kernel_rfl
theorem bitsMade5 : waitsOk TMade5.2 BMade5 = true := by kernel_rfl
set_option maxHeartbeats 4000000 in
set_option maxRecDepth 100000 in
theorem made_walk (N : Nat) (ih : ∀ m, m < N → ∀ (s : Sh), SizeOf.sizeOf s ≤ m → ∀ (pA : Nat) (ok : Nat → Prop) (a a1 : Ar) (r : Int) (w : World) (cs : List Value), IsArena ok pA a w → kSh.FK w (fun k => ¬ ok k) s cs → madeT s a = some (r, a1) → Calls Tryz.prog 90 #[.pointer (some ⟨pA, 0, none⟩), .agg cs.toArray] w (fun e w1 => ∃ ok1, e = .returned (.int .i64 r) ∧ IsArena ok1 pA a1 w1 ∧ Moves ok ok1 w w1))
    (s : Sh) (hs : SizeOf.sizeOf s ≤ N) (pA : Nat) (ok : Nat → Prop) (a a1 : Ar) (r : Int) (w : World) (cs : List Value) (h : IsArena ok pA a w) (hf : kSh.FK w (fun k => ¬ ok k) s cs) (hr : madeT s a = some (r, a1)) :
    Calls Tryz.prog 90 #[.pointer (some ⟨pA, 0, none⟩), .agg cs.toArray] w (fun e w1 => ∃ ok1, e = .returned (.int .i64 r) ∧ IsArena ok1 pA a1 w1 ∧ Moves ok ok1 w w1) := by
  rw [madeT_eq] at hr
  obtain ⟨q, hq, hr⟩ := Option.bind_eq_some_iff.1 hr
  obtain ⟨ws, aE⟩ := q
  obtain ⟨A2, c2, A3, c3, A4, c4, rfl, l2, F2, l3, F3, l4, F4⟩ := k42_openF hf
  have HQ := Aside0.mk hq
  have HR := Aside0.mk hr
  have HF := Aside0.mk (And.intro l2 (And.intro F2 (And.intro l3 (And.intro F3 (And.intro l4 F4)))))
  have HS := Aside0.mk hs
  have HL := Aside0.mk (fun k hk => h.lt k hk)
  have hA1 := (h.step (w1 := w.alloc (.cells #[.bool s.f0, .bool s.f1, .slice A2 s.f2.length c2, .slice A3 s.f3.length c3, .slice A4 s.f4.length c4] 42)) (by simp) (fun k _ hk => Below.heap_alloc _ _ _ hk))
  have hX1 := Mine.new (ok := ok) (fun k hk => h.lt k hk) (.cells #[.bool s.f0, .bool s.f1, .slice A2 s.f2.length c2, .slice A3 s.f3.length c3, .slice A4 s.f4.length c4] 42)
  have HX1 := Aside0.mk hX1
  have HA1 := Aside0.mk hA1
  have HM1 := Aside0.mk ((Moves.refl ok w).alloc (.cells #[.bool s.f0, .bool s.f1, .slice A2 s.f2.length c2, .slice A3 s.f3.length c3, .slice A4 s.f4.length c4] 42))
  clear h hf hq hr l2 F2 l3 F3 l4 F4 hs hA1 hX1
  go_enter Tryz.func90, Tryz.ntmps90
  go_upto_region 1 with fail
  generalize w.alloc (.cells #[.bool s.f0, .bool s.f1, .slice A2 s.f2.length c2, .slice A3 s.f3.length c3, .slice A4 s.f4.length c4] 42) = w1 at HX1 HA1 HM1 ⊢
  have y0 := (blk_cell HX1.out.1 0).trans (rfl : _ = some (Value.bool s.f0))
  have y1 := (blk_cell HX1.out.1 1).trans (rfl : _ = some (Value.bool s.f1))
  have y2 := (blk_cell HX1.out.1 2).trans (rfl : _ = some (Value.slice A2 s.f2.length c2))
  have y3 := (blk_cell HX1.out.1 3).trans (rfl : _ = some (Value.slice A3 s.f3.length c3))
  have y4 := (blk_cell HX1.out.1 4).trans (rfl : _ = some (Value.slice A4 s.f4.length c4))
  go_upto_region 2 with fail
  have HB2 := Aside0.mk (Mine.new (ok := ok) (fun k hk => HA1.out.lt k hk) (.cells #[.bool (!s.f0), .bool s.f1, .slice A2 s.f2.length c2, .slice A3 s.f3.length c3, .slice none 0 0] 119))
  have HX2 := Aside0.mk (HX1.out.alloc (.cells #[.bool (!s.f0), .bool s.f1, .slice A2 s.f2.length c2, .slice A3 s.f3.length c3, .slice none 0 0] 119))
  have HA2 := Aside0.mk (HA1.out.step (w1 := w1.alloc (.cells #[.bool (!s.f0), .bool s.f1, .slice A2 s.f2.length c2, .slice A3 s.f3.length c3, .slice none 0 0] 119)) (by simp) (fun k _ hk => Below.heap_alloc _ _ _ hk))
  have HM2 := Aside0.mk (HM1.out.alloc (.cells #[.bool (!s.f0), .bool s.f1, .slice A2 s.f2.length c2, .slice A3 s.f3.length c3, .slice none 0 0] 119))
  have hsz1 := HM1.out.size
  clear HX1 HA1 HM1 y0 y1 y2 y3 y4
  generalize w1.alloc (.cells #[.bool (!s.f0), .bool s.f1, .slice A2 s.f2.length c2, .slice A3 s.f3.length c3, .slice none 0 0] 119) = w2 at HB2 HX2 HA2 HM2 ⊢
  generalize hb5 : w1.heap.size = b5 at HB2 hsz1 ⊢
  have y4 := (blk_cell HX2.out.1 4).trans (rfl : _ = some (Value.slice A4 s.f4.length c4))
  have H5 := Aside0.mk hsz1
  clear hb5 hsz1
  go_wp2_with fail
  go_loopw [24] (fun v24 wr => ∃ okc ac acc ks i v4 wsr, v24 = .int .i64 (i : Nat) ∧ Aside0 (s.f4 = (s.f4.take i) ++ ks ∧ i + ks.length = s.f4.length ∧ acc.length = i ∧ madeL ks ac = some (wsr, aE) ∧ acc ++ wsr = ws) ∧ Aside0 (IsArena okc pA ac wr) ∧ Aside0 (Moves ok okc w wr) ∧ Aside0 (Mine okc wr b5 (nbO (!s.f0) s.f1 (.slice A2 s.f2.length c2) (.slice A3 s.f3.length c3) v4)) ∧ Aside0 ((Kd.int .i64).R 55 wr w.heap.size (fun k => ¬ okc k ∧ k ≠ b5) v4 acc)) (fun v24 _ => s.f4.length - (intOf v24).toNat)
  case atStart => exact ⟨ok, a, [], s.f4, 0, .slice none 0 0, ws, rfl, ⟨by simp, by simp, rfl, HQ.out, rfl⟩, HA2, HM2, HB2, ⟨Kd.R_nil _ _ _ _ _⟩⟩
  case round =>
    obtain ⟨okc, ac, acc, ks, i, v4, wsr, rfl, HT, A5, M5, B5, R5⟩ := hrel
    clear HA2 HM2 HB2 HX2
    cases ks with
    | nil =>
      obtain ⟨e1, e2, e3, e4, e5⟩ := HT.out
      rw [List.length_nil, Nat.add_zero] at e2
      rw [madeL] at e4
      injection e4 with e4
      injection e4 with ew ea
      rw [← ew, List.append_nil] at e5
      subst e5
      subst ea
      obtain ⟨Ay, cy, hv4⟩ := Kd.R_slice R5.out
      subst hv4
      have hly := (Kd.R_reads' R5.out).2.1
      obtain ⟨b, hal⟩ := madeN_alloc HR.out
      have HAL := Aside0.mk hal
      have HNF := Aside0.mk (ndSh_F (s := s) HF.out.1 (F_moves HF.out.2.1 M5.out) HF.out.2.2.1 (F_moves HF.out.2.2.2.1 M5.out) hly (Kd.F_mono (Kd.R_F R5.out) (fun k hk => hk.1)))
      have y0 := (blk_cell B5.out.1 0).trans (rfl : _ = some (Value.bool (!s.f0)))
      have y1 := (blk_cell B5.out.1 1).trans (rfl : _ = some (Value.bool s.f1))
      have y2 := (blk_cell B5.out.1 2).trans (rfl : _ = some (Value.slice A2 s.f2.length c2))
      have y3 := (blk_cell B5.out.1 3).trans (rfl : _ = some (Value.slice A3 s.f3.length c3))
      have y4 := (blk_cell B5.out.1 4).trans (rfl : _ = some (Value.slice Ay acc.length cy))
      have d5 : decide ((i : Int) < (s.f4.length : Int)) = false := decide_eq_false (by omega)
      have d6 : decide (i < s.f4.length) = false := decide_eq_false (by omega)
      clear e1 e2 e3 ew hly hal HT B5 R5
      go_wp2_with (go_at_call 58; refine (alloc_calls (ndSh s acc) _ _ A5.out (madeN_ways HR.out).1 HNF.out ⟨(madeN_ways HR.out).2.1, (madeN_ways HR.out).2.2.1, (madeN_ways HR.out).2.2.2⟩ HAL.out).mono ?_; rintro e w9 ⟨rfl, ok9, hA9, hM9⟩; have A9 := Aside0.mk hA9; have M9 := Aside0.mk (M5.out.trans hM9); clear hA9 hM9)
      go_ret
      exact ⟨ok9, rfl, A9.out, M9.out⟩
    | cons kd ks =>
      obtain ⟨e1, e2, e3, e4, e5⟩ := HT.out
      rw [List.length_cons] at e2
      obtain ⟨x, ax, ws1, hx1, hx2, hx3⟩ := madeL_cons e4
      have hkd : s.f4.getD i zSh = kd := by
        have h1 : s.f4[i]? = some kd := by rw [e1, List.getElem?_append_right (by rw [List.length_take, Nat.min_eq_left (by omega)]; omega)]; rw [List.length_take, Nat.min_eq_left (by omega), Nat.sub_self]; rfl
        rw [List.getD_eq_getElem?_getD, h1]; rfl
      have hmem : kd ∈ s.f4 := by rw [e1]; exact List.mem_append_right _ List.mem_cons_self
      have HTX := Aside0.mk hx1
      have HTY := Aside0.mk hx2
      have HWS : Aside0 (acc ++ [x] ++ ws1 = ws) := ⟨by rw [← e5, hx3, List.append_assoc]; rfl⟩
      have HLT : Aside0 (SizeOf.sizeOf kd < N) := ⟨Nat.lt_of_lt_of_le (kid_lt hmem) HS.out⟩
      have hF5 := Kd.F_now (F_moves HF.out.2.2.2.2.2 M5.out)
      have HF5 := Aside0.mk (F_moves HF.out.2.2.2.2.2 M5.out)
      obtain ⟨a4, cd, ha4, hcl, hfk, hcc, _⟩ := Kd.F_get HF5.out zSh (i : Int) (by omega) (by omega)
      subst ha4
      rw [Int.toNat_natCast, hkd] at hfk
      rw [Int.toNat_natCast] at hcc
      obtain ⟨B2, d2, B3, d3, B4, d4, rfl, _⟩ := k42_openF hfk
      have HFK := Aside0.mk hfk
      have q0 := hcc 0 _ rfl
      have q1 := hcc 1 _ rfl
      have q2 := hcc 2 _ rfl
      have q3 := hcc 3 _ rfl
      have q4 := hcc 4 _ rfl
      have hI := (show (kSh).sz = 5 from rfl)
      rw [hI] at q0 q1 q2 q3 q4
      rw [add_field _ _ 1 (by omega)] at q1
      rw [add_field _ _ 2 (by omega)] at q2
      rw [add_field _ _ 3 (by omega)] at q3
      rw [add_field _ _ 4 (by omega)] at q4
      rw [Nat.add_zero] at q0
      have d5 : decide ((i : Int) < (s.f4.length : Int)) = true := decide_eq_true (by omega)
      have d6 : decide (i < s.f4.length) = true := decide_eq_true (by omega)
      have i0 : (0 : Int) ≤ (i : Int) := by omega
      have i1 : (i : Int) < (s.f4.length : Int) := by omega
      have HA60 : Aside0 (acc.length ≤ 1000000) := ⟨by have h1 : ws.length < 1000000 := (madeN_ways HR.out).2.2.2; rw [← e5, List.length_append] at h1; omega⟩
      clear e1 e2 e3 e4 e5 hx1 hx2 hx3 hkd hmem hI
      go_upto_region 5 with fail
      have X6 := Aside0.mk (Mine.new (ok := okc) (fun k hk => A5.out.lt k hk) (.cells #[.bool kd.f0, .bool kd.f1, .slice B2 kd.f2.length d2, .slice B3 kd.f3.length d3, .slice B4 kd.f4.length d4] 42))
      have A6 := Aside0.mk (A5.out.step (w1 := wr.alloc (.cells #[.bool kd.f0, .bool kd.f1, .slice B2 kd.f2.length d2, .slice B3 kd.f3.length d3, .slice B4 kd.f4.length d4] 42)) (by simp) (fun k _ hk => Below.heap_alloc _ _ _ hk))
      have L6 := Aside0.mk ((Moves.refl okc wr).alloc (.cells #[.bool kd.f0, .bool kd.f1, .slice B2 kd.f2.length d2, .slice B3 kd.f3.length d3, .slice B4 kd.f4.length d4] 42))
      have M6 := Aside0.mk (M5.out.alloc (.cells #[.bool kd.f0, .bool kd.f1, .slice B2 kd.f2.length d2, .slice B3 kd.f3.length d3, .slice B4 kd.f4.length d4] 42))
      have B6 := Aside0.mk (B5.out.alloc (.cells #[.bool kd.f0, .bool kd.f1, .slice B2 kd.f2.length d2, .slice B3 kd.f3.length d3, .slice B4 kd.f4.length d4] 42))
      have R6 := Aside0.mk (Kd.R_alloc R5.out (.cells #[.bool kd.f0, .bool kd.f1, .slice B2 kd.f2.length d2, .slice B3 kd.f3.length d3, .slice B4 kd.f4.length d4] 42))
      clear q0 q1 q2 q3 q4 d5 d6 i0 i1 A5 M5 B5 R5 hcc hcl hfk hF5 HF5
      generalize wr.alloc (.cells #[.bool kd.f0, .bool kd.f1, .slice B2 kd.f2.length d2, .slice B3 kd.f3.length d3, .slice B4 kd.f4.length d4] 42) = w6 at X6 A6 L6 M6 B6 R6 ⊢
      generalize wr.heap.size = b7 at X6 ⊢
      have HC := Aside0.mk (show w6.cell? ⟨b5, 4, none⟩ = some v4 ∧ w6.cell? ⟨b7, 0, none⟩ = some (.bool kd.f0) ∧ w6.cell? ⟨b7, 1, none⟩ = some (.bool kd.f1) ∧ w6.cell? ⟨b7, 2, none⟩ = some (.slice B2 kd.f2.length d2) ∧ w6.cell? ⟨b7, 3, none⟩ = some (.slice B3 kd.f3.length d3) ∧ w6.cell? ⟨b7, 4, none⟩ = some (.slice B4 kd.f4.length d4) from ⟨(blk_cell (B6.out.1) 4).trans rfl, (blk_cell (X6.out.1) 0).trans rfl, (blk_cell (X6.out.1) 1).trans rfl, (blk_cell (X6.out.1) 2).trans rfl, (blk_cell (X6.out.1) 3).trans rfl, (blk_cell (X6.out.1) 4).trans rfl⟩)
      refine start_ (n := 11) (S := fun w' => w'.cell? ⟨b5, 4, none⟩ = some v4 ∧ w'.cell? ⟨b7, 0, none⟩ = some (.bool kd.f0) ∧ w'.cell? ⟨b7, 1, none⟩ = some (.bool kd.f1) ∧ w'.cell? ⟨b7, 2, none⟩ = some (.slice B2 kd.f2.length d2) ∧ w'.cell? ⟨b7, 3, none⟩ = some (.slice B3 kd.f3.length d3) ∧ w'.cell? ⟨b7, 4, none⟩ = some (.slice B4 kd.f4.length d4)) (ds := [10]) #[N_,N_,N_,N_,N_,N_,N_,N_,N_,N_,N_] (by kernel_rfl) rfl rfl HC.out (fun hHeld => ?_); refine with_tabW tabMade5 bitsMade5 (fun HT_ HW_ => ?_)
      have A6 := Aside0.mk (A6.out.step (w1 := w6.drew) (Nat.le_refl _) (fun _ _ _ => rfl))
      have M6 := Aside0.mk M6.out.drew
      have L6 := Aside0.mk L6.out.drew
      have B6 := Aside0.mk (B6.out.moves (Moves.drew (Moves.refl _ _)))
      have X6 := Aside0.mk (X6.out.moves (Moves.drew (Moves.refl _ _)))
      have R6 := Aside0.mk (Kd.R_drew R6.out)
      clear HC
      generalize w6.drew = w8 at A6 L6 M6 B6 X6 R6 hHeld ⊢
      refine pure_ (i := 0) (N := (some 28)) (v := ?_) (a' := ?_) #[Y_,N_,N_,N_,N_,N_,N_,N_,N_,N_,N_] rfl rfl (any_of HT_.out (by kernel_rfl)) (fun _ _ _ h => h) (Or.inl ⟨by rfl, ?_⟩) ?_ ?_
      rotate_left; · intro w'; go_simp; with_reducible rfl
      rotate_left; · simp only [Act.put, u1_, u2_, u3_, i64_w, i32_w]; rfl
      refine pure_ (i := 1) (N := (some 29)) (v := ?_) (a' := ?_) #[Y_,Y_,N_,N_,N_,N_,N_,N_,N_,N_,N_] rfl rfl (any_of HT_.out (by kernel_rfl)) (fun _ _ _ h => h) (Or.inl ⟨by rfl, ?_⟩) ?_ ?_
      rotate_left; · intro w'; go_simp; with_reducible rfl
      rotate_left; · simp only [Act.put, u1_, u2_, u3_, i64_w, i32_w]; rfl
      refine take_ (i := 2) (N := (some 30)) (v := ?_) (a' := ?_) #[Y_,Y_,Y_,N_,N_,N_,N_,N_,N_,N_,N_] rfl rfl (take_ofW HT_.out HW_.out (by kernel_rfl)) (fun _ _ _ h => h) (Or.inl ⟨by rfl, ?_⟩) hHeld ?_ ?_
      rotate_left; · rintro w' ⟨s0, s1, s2, s3, s4, s5⟩; go_simp; with_reducible rfl
      rotate_left; · simp only [Act.put, u1_, u2_, u3_, i64_w, i32_w]; rfl
      refine pure_ (i := 3) (N := (some 31)) (v := ?_) (a' := ?_) #[Y_,Y_,Y_,Y_,N_,N_,N_,N_,N_,N_,N_] rfl rfl (any_of HT_.out (by kernel_rfl)) (fun _ _ _ h => h) (Or.inl ⟨by rfl, ?_⟩) ?_ ?_
      rotate_left; · intro w'; go_simp; with_reducible rfl
      rotate_left; · simp only [Act.put, u1_, u2_, u3_, i64_w, i32_w]; rfl
      refine take_ (i := 4) (N := (some 32)) (v := ?_) (a' := ?_) #[Y_,Y_,Y_,Y_,Y_,N_,N_,N_,N_,N_,N_] rfl rfl (take_ofW HT_.out HW_.out (by kernel_rfl)) (fun _ _ _ h => h) (Or.inl ⟨by rfl, ?_⟩) hHeld ?_ ?_
      rotate_left; · rintro w' ⟨s0, s1, s2, s3, s4, s5⟩; go_simp; with_reducible rfl
      rotate_left; · simp only [Act.put, u1_, u2_, u3_, i64_w, i32_w]; rfl
      refine one_ (i := 5) (N := (some 33)) #[Y_,Y_,Y_,Y_,Y_,Y_,N_,N_,N_,N_,N_] rfl rfl (one_of HT_.out (by kernel_rfl)) (by decide) (fun K_ hK => ?_)
      refine call_ 90 #[.pointer (some ⟨pA, 0, none⟩), .agg #[.bool kd.f0, .bool kd.f1, .slice B2 kd.f2.length d2, .slice B3 kd.f3.length d3, .slice B4 kd.f4.length d4]] (by rfl) rfl ?hrun5 ?_
      (case hrun5 => first | (go_simp; done) | (go_simp; exact enters Tryz.func90 (by kernel_rfl) rfl _ _))
      refine (ih _ HLT.out kd (Nat.le_refl _) pA okc ac ax x _ _ A6.out (FK_moves HFK.out L6.out) HTX.out).mono ?_
      rintro e w9 ⟨ok9, rfl, hA9, hM9⟩
      have A9 := Aside0.mk hA9
      have M9 := Aside0.mk (M6.out.trans hM9)
      have B9 := Aside0.mk (B6.out.moves hM9)
      have X9 := Aside0.mk (X6.out.moves hM9)
      have R9 := Aside0.mk (ways_moves R6.out hM9)
      clear hA9 hM9 R6
      refine ⟨_, rfl, ?_⟩
      refine hK.out _ _ ⟨(blk_cell (B9.out.1) 4).trans rfl, (blk_cell (X9.out.1) 0).trans rfl, (blk_cell (X9.out.1) 1).trans rfl, (blk_cell (X9.out.1) 2).trans rfl, (blk_cell (X9.out.1) 3).trans rfl, (blk_cell (X9.out.1) 4).trans rfl⟩ (fun hHeld => ?_)
      clear hK K_
      refine norm_ (a' := ?_) ?_ ?_
      rotate_left; · show Act.put _ (some 33) _ = _; simp only [Act.put, u1_, u2_, u3_, i64_w, i32_w]; rfl
      refine one_ (i := 6) (N := (some 34)) #[Y_,Y_,Y_,Y_,Y_,Y_,Y_,N_,N_,N_,N_] rfl rfl (one_of HT_.out (by kernel_rfl)) (by decide) (fun K_ hK => ?_)
      refine value_ (v := .slice (some ⟨w9.heap.size, 0, none⟩) 1 1) (w1 := w9.alloc (.cells #[.int .i64 x] 55)) (by rfl) rfl (by go_simp) ?_
      have A10 := Aside0.mk (A9.out.step (w1 := w9.alloc (.cells #[.int .i64 x] 55)) (by simp) (fun k _ hk => Below.heap_alloc _ _ _ hk))
      have M10 := Aside0.mk (M9.out.alloc (.cells #[.int .i64 x] 55))
      have B10 := Aside0.mk (B9.out.alloc (.cells #[.int .i64 x] 55))
      have X10 := Aside0.mk (X9.out.alloc (.cells #[.int .i64 x] 55))
      have R10 := Aside0.mk (Kd.R_alloc (ways_bound R9.out) (.cells #[.int .i64 x] 55))
      have hbx := blk_new w9 (.cells #[.int .i64 x] 55)
      have N10 := Aside0.mk (fun h => Nat.lt_irrefl _ (A9.out.lt _ h) : ¬ ok9 w9.heap.size)
      have hs9 := M9.out.size
      refine hK.out _ _ ⟨(blk_cell (B10.out.1) 4).trans rfl, (blk_cell (X10.out.1) 0).trans rfl, (blk_cell (X10.out.1) 1).trans rfl, (blk_cell (X10.out.1) 2).trans rfl, (blk_cell (X10.out.1) 3).trans rfl, (blk_cell (X10.out.1) 4).trans rfl⟩ (fun hHeld => ?_)
      clear hK K_
      refine norm_ (a' := ?_) ?_ ?_
      rotate_left; · show Act.put _ (some 34) _ = _; simp only [Act.put, u1_, u2_, u3_, i64_w, i32_w]; rfl
      refine one_ (i := 7) (N := (some 35)) #[Y_,Y_,Y_,Y_,Y_,Y_,Y_,Y_,N_,N_,N_] rfl rfl (one_of HT_.out (by kernel_rfl)) (by decide) (fun K_ hK => ?_)
      generalize w9.alloc (.cells #[.int .i64 x] 55) = w10 at A10 M10 B10 X10 R10 hbx hHeld ⊢
      refine Kd.R_append_rows_step (Kd.int .i64) (w0 := w10) w.heap.size (by rfl) (.tmp 30) (.tmp 34) 115 55 (.int .i64 0) 8 rfl Tryz.underlying115 (by kernel_rfl) rfl (by decide) (by omega) v4 acc [x] (some ⟨w9.heap.size, 0, none⟩) 1 1 (fun k => (¬ ok9 k ∧ k ≠ b5) ∨ w10.heap.size ≤ k) (fun _ => False) (by rfl) (by rfl) (Kd.R_mono R10.out (fun k hk => .inl hk.1)) (Kd.F_now (one_F (d := Kd.int .i64) (ok := fun _ => False) (cs := [.int .i64 x]) hbx (fun W _ => rfl))) (fun y cs h => h) (fun _ hk => hk.elim) (fun k hk => .inr hk) (Below.refl _ _) M10.out.size (by have := HA60.out; omega) ?_
      intro v1 w11 hR _ hg hat
      have hnb : ∀ k, v4.ownBlock = some k → ¬ ok9 k ∧ k ≠ b5 := fun k hk => (R10.out.1 k hk).1
      have hlt5 := blk_lt B10.out.1
      have A11 := Aside0.mk (A10.out.step hg.size (fun k hk hlt => hg.block k hlt (fun e => (hnb k e.symm).1 hk)))
      have M11 := Aside0.mk (M10.out.grown hg (fun k hk => .inr (Kd.R_base R10.out k hk)))
      have B11 : Aside0 (Mine ok9 w11 b5 (nbO (!s.f0) s.f1 (.slice A2 s.f2.length c2) (.slice A3 s.f3.length c3) v4)) := ⟨⟨(hg.block b5 hlt5 (fun e => (hnb b5 e.symm).2 rfl)).trans B10.out.1, B10.out.2⟩⟩
      have R11 := Aside0.mk (Kd.R_mono hR (fun k hk => hk.elim id (fun h => ⟨fun h1 => by have := A10.out.lt k h1; omega, by omega⟩)) : (Kd.int .i64).R 55 w11 w.heap.size (fun k => ¬ ok9 k ∧ k ≠ b5) v1 (acc ++ [x]))
      have X11 := Aside0.mk ((hg.block b7 (blk_lt X10.out.1) (fun e => Kd.R_ne R10.out X10.out.1 (by decide) e)).trans X10.out.1)
      obtain ⟨ad1, c1, hv1⟩ := Kd.R_slice1 R11.out (by simp)
      subst hv1
      clear A10 M10 hR hat hbx
      refine hK.out _ _ ⟨(blk_cell (B11.out.1) 4).trans rfl, (blk_cell (X11.out) 0).trans rfl, (blk_cell (X11.out) 1).trans rfl, (blk_cell (X11.out) 2).trans rfl, (blk_cell (X11.out) 3).trans rfl, (blk_cell (X11.out) 4).trans rfl⟩ (fun hHeld => ?_)
      clear hK K_
      refine norm_ (a' := ?_) ?_ ?_
      rotate_left; · show Act.put _ (some 35) _ = _; simp only [Act.put, u1_, u2_, u3_, i64_w, i32_w]; rfl
      refine pure_ (i := 8) (N := (some 36)) (v := ?_) (a' := ?_) #[Y_,Y_,Y_,Y_,Y_,Y_,Y_,Y_,Y_,N_,N_] rfl rfl (any_of HT_.out (by kernel_rfl)) (fun _ _ _ h => h) (Or.inl ⟨by rfl, ?_⟩) ?_ ?_
      rotate_left; · intro w'; go_simp; with_reducible rfl
      rotate_left; · simp only [Act.put, u1_, u2_, u3_, i64_w, i32_w]; rfl
      refine pure_ (i := 9) (N := (some 37)) (v := ?_) (a' := ?_) #[Y_,Y_,Y_,Y_,Y_,Y_,Y_,Y_,Y_,Y_,N_] rfl rfl (any_of HT_.out (by kernel_rfl)) (fun _ _ _ h => h) (Or.inl ⟨by rfl, ?_⟩) ?_ ?_
      rotate_left; · intro w'; go_simp; with_reducible rfl
      rotate_left; · simp only [Act.put, u1_, u2_, u3_, i64_w, i32_w]; rfl
      have y4 := (blk_cell B11.out.1 4).trans (rfl : _ = some v4)
      have z4 := blk_frozen B11.out.1 4
      refine last_ (i := 10) (N := none) #[Y_,Y_,Y_,Y_,Y_,Y_,Y_,Y_,Y_,Y_,Y_] rfl rfl (one_of HT_.out (by kernel_rfl)) (by decide) (fun K_ hK => ?_)
      refine skip_ (w1 := ?_) (by rfl) rfl ?_ ?_
      rotate_left
      · go_simp
        rfl
      refine hK.out _ _ ?_
      clear hK K_
      refine done_ (done_of HT_.out (by kernel_rfl)) ?_
      have R12 : Aside0 ((Kd.int .i64).R 55 (w11.setCell ⟨b5, 4, none⟩ (.slice (some ad1) (acc.length + 1) c1)) w.heap.size (fun k => ¬ ok9 k ∧ k ≠ b5) (.slice (some ad1) (acc.length + 1) c1) (acc ++ [x])) := ⟨by
        have h1 := Kd.R_set R11.out B11.out.1 (by decide) 4 (.slice (some ad1) (acc.length + 1) c1)
        rw [show (acc ++ [x]).length = acc.length + 1 from by simp] at h1
        exact h1⟩
      have B12 := Aside0.mk (B11.out.set 4 (.slice (some ad1) (acc.length + 1) c1))
      have A12 := Aside0.mk (A11.out.step (w1 := w11.setCell ⟨b5, 4, none⟩ (.slice (some ad1) (acc.length + 1) c1)) (by simp [World.setCell]) (fun k hk _ => Below.heap_setCell _ _ _ k (fun e => B11.out.2 (by rw [show k = b5 from e] at hk; exact hk))))
      have M12 := Aside0.mk (M11.out.set (p := ⟨b5, 4, none⟩) (.inr H5.out) (.slice (some ad1) (acc.length + 1) c1))
      have HT12 : Aside0 (s.f4 = s.f4.take (i + 1) ++ ks ∧ i + 1 + ks.length = s.f4.length ∧ (acc ++ [x]).length = i + 1 ∧ madeL ks ax = some (ws1, aE) ∧ acc ++ [x] ++ ws1 = ws) := ⟨by
        obtain ⟨e1, e2, e3, e4, e5⟩ := HT.out
        rw [List.length_cons] at e2
        refine ⟨?_, by omega, by rw [List.length_append, e3]; rfl, HTY.out, HWS.out⟩
        have h1 : s.f4.drop i = kd :: ks := by
          have := congrArg (List.drop i) e1
          rw [List.drop_append_of_le_length (by rw [List.length_take]; omega), List.drop_of_length_le (by rw [List.length_take]; omega : (s.f4.take i).length ≤ i)] at this
          exact this
        have h2 : s.f4.drop (i + 1) = ks := by rw [← List.drop_drop, h1]; rfl
        rw [← h2, List.take_append_drop]⟩
      clear A11 M11 B11 R11 X11 hHeld y4 z4
      generalize w11.setCell ⟨b5, 4, none⟩ (.slice (some ad1) (acc.length + 1) c1) = w12 at R12 B12 A12 M12 ⊢
      have hi := HT12.out.2.1
      go_wp2_with fail
      have hi2 : i ≤ 1000000 := by have := HA60.out; have := HT.out.2.2.1; omega
      exact ⟨⟨ok9, ax, acc ++ [x], ks, i + 1, _, ws1, by rw [wrap_mill i hi2], HT12, A12, M12, B12, R12⟩, meas_mill (by omega) hi2⟩
theorem made_calls {pA : Nat} {ok : Nat → Prop} {a a1 : Ar} {r : Int} {w : World} {cs : List Value} (s : Sh) (h : IsArena ok pA a w) (hf : kSh.FK w (fun k => ¬ ok k) s cs) (hr : madeT s a = some (r, a1)) :
    Calls Tryz.prog 90 #[.pointer (some ⟨pA, 0, none⟩), .agg cs.toArray] w (fun e w1 => ∃ ok1, e = .returned (.int .i64 r) ∧ IsArena ok1 pA a1 w1 ∧ Moves ok ok1 w w1) := by
  suffices hh : ∀ N, ∀ (s : Sh), SizeOf.sizeOf s ≤ N → ∀ (pA : Nat) (ok : Nat → Prop) (a a1 : Ar) (r : Int) (w : World) (cs : List Value), IsArena ok pA a w → kSh.FK w (fun k => ¬ ok k) s cs → madeT s a = some (r, a1) → Calls Tryz.prog 90 #[.pointer (some ⟨pA, 0, none⟩), .agg cs.toArray] w (fun e w1 => ∃ ok1, e = .returned (.int .i64 r) ∧ IsArena ok1 pA a1 w1 ∧ Moves ok ok1 w w1) from
    hh _ s (Nat.le_refl _) pA ok a a1 r w cs h hf hr
  intro N
  induction N using Nat.strongRecOn with
  | ind N ih => exact fun s hs pA ok a a1 r w cs h hf hr => made_walk N ih s hs pA ok a a1 r w cs h hf hr
end Go.Proofs.YthlmgbdknjilpaaGreat.Tower
