-- PRINTED BY print.sh 35421559b90ae4d0a3588c463048766b98c2df88dd9212a6774a882060cdf62d: not written by this session
import Derived.Test.YthlmgbdknjilpaaGreatPAskCodesx0
namespace Go.Proofs.YthlmgbdknjilpaaGreat.PAskCodes
open Go.RowKit Go.Proofs.YthlmgbdknjilpaaGreatW.PrintWords Go.Proofs.YthlmgbdknjilpaaGreatW.PrintLast Go.Proofs.YthlmgbdknjilpaaGreatW.PrintMore
attribute [local go_sem] max2_int min2_int max_two min_two max_three min_three max_four min_four   -- for this text's walks alone
set_option linter.unusedVariables false
set_option linter.unusedSimpArgs false

/-! ### ask_Answer: function 11 -/
mutual
def ask_Answer.j0 : Nat → List Int → Bool → Option (Int × Bool × Int × Int × (List (S31)) × Bool)
  | 0, _, _ => none
  | k + 1, x0, x13 => if x13 = true then (some (0, false, 0, 0, ([] : List (S31)), false)) else (if 0 < (x0.length : Int) then (if 1 < (x0.length : Int) then (if 2 < (x0.length : Int) then (if 3 < (x0.length : Int) then (if 4 < (x0.length : Int) then (ask_Answer.l0 k x0 5 (rd x0 0) ((rd x0 1) == 1) (rd x0 2) (rd x0 3) ([] : List (S31)) ((rd x0 4) == 1)) else (none)) else (none)) else (none)) else (none)) else (none))
def ask_Answer.l0 : Nat → List Int → Int → Int → Bool → Int → Int → List (S31) → Bool → Option (Int × Bool × Int × Int × (List (S31)) × Bool)
  | 0, _, _, _, _, _, _, _, _ => none
  | k + 1, x0, x4, x131000, x131001, x131002, x131003, x131004, x131005 => if x4 < (x0.length : Int) then (if 0 ≤ x4 then (if 0 ≤ (wrap64 (x4 + 1)) then (if (wrap64 (x4 + 1)) < (x0.length : Int) then (if x131004.length < 8796093022208 then (ask_Answer.l0 k x0 (wrap64 (x4 + 2)) x131000 x131001 x131002 x131003 (x131004 ++ [(⟨rd x0 x4, rd x0 (wrap64 (x4 + 1))⟩ : S31)]) x131005) else (none)) else (none)) else (none)) else (none)) else (some (x131000, x131001, x131002, x131003, x131004, x131005))
end
def ask_Answer.f (k : Nat) (l0 : List Int) : Option (Int × Bool × Int × Int × (List (S31)) × Bool) := if (l0.length : Int) < 5 then (ask_Answer.j0 k l0 true) else (ask_Answer.j0 k l0 (((l0.length : Int) % 2) == 0))
theorem ask_Answer.mono_l : ∀ k, (∀ y0 y1, LeO (ask_Answer.j0 k y0 y1) (ask_Answer.j0 (k + 1) y0 y1)) ∧ (∀ y0 y1 y2 y3 y4 y5 y6 y7, LeO (ask_Answer.l0 k y0 y1 y2 y3 y4 y5 y6 y7) (ask_Answer.l0 (k + 1) y0 y1 y2 y3 y4 y5 y6 y7))
  | 0 => ⟨fun _ _ r h => by simp [ask_Answer.j0] at h, fun _ _ _ _ _ _ _ _ r h => by simp [ask_Answer.l0] at h⟩
  | k + 1 => by
    obtain ⟨ih0, ih1⟩ := ask_Answer.mono_l k
    refine ⟨?_, ?_⟩
    · intro y0 y1
      unfold ask_Answer.j0
      repeat' first
      | (with_reducible exact ih0 _ _)
      | (with_reducible exact ih1 _ _ _ _ _ _ _ _)
      | (with_reducible exact LeO.refl _)
      | (with_reducible exact LeO.none _)
      | (with_reducible refine LeO.ite ?_ ?_)
      | (with_reducible refine LeO.bind ?_ (fun _ => ?_))
      | exact ih0 _ _
      | exact ih1 _ _ _ _ _ _ _ _
      | exact LeO.none _
      | refine LeO.ite ?_ ?_
      | refine LeO.bind ?_ (fun _ => ?_)
    · intro y0 y1 y2 y3 y4 y5 y6 y7
      unfold ask_Answer.l0
      repeat' first
      | (with_reducible exact ih0 _ _)
      | (with_reducible exact ih1 _ _ _ _ _ _ _ _)
      | (with_reducible exact LeO.refl _)
      | (with_reducible exact LeO.none _)
      | (with_reducible refine LeO.ite ?_ ?_)
      | (with_reducible refine LeO.bind ?_ (fun _ => ?_))
      | exact ih0 _ _
      | exact ih1 _ _ _ _ _ _ _ _
      | exact LeO.none _
      | refine LeO.ite ?_ ?_
      | refine LeO.bind ?_ (fun _ => ?_)
theorem ask_Answer.mono : ∀ a0 k, LeO (ask_Answer.f k a0) (ask_Answer.f (k + 1) a0) := by
  intro a0 k
  obtain ⟨ih0, ih1⟩ := ask_Answer.mono_l k
  unfold ask_Answer.f
  repeat' first
      | (with_reducible exact ih0 _ _)
      | (with_reducible exact ih1 _ _ _ _ _ _ _ _)
      | (with_reducible exact LeO.refl _)
      | (with_reducible exact LeO.none _)
      | (with_reducible refine LeO.ite ?_ ?_)
      | (with_reducible refine LeO.bind ?_ (fun _ => ?_))
      | exact ih0 _ _
      | exact ih1 _ _ _ _ _ _ _ _
      | exact LeO.none _
      | refine LeO.ite ?_ ?_
      | refine LeO.bind ?_ (fun _ => ?_)
def ask_Answer.T3 : Bool × List (List Nat × List Nat) := (true, [([], []), ([0], [0]), ([1], [1]), ([], []), ([3], [3]), ([4], [4]), ([5], [5]), ([], []), ([7], [7]), ([8], [8]), ([], []), ([10], [10]), ([11], [11]), ([], []), ([13], [13]), ([14], [14]), ([15], [15]), ([2, 6, 9, 12, 16], [2, 6, 9, 12, 16]), ([], []), ([18, 17, 0, 1, 2, 3, 4, 5, 6, 7, 8, 9, 10, 11, 12, 13, 14, 15, 16, 17, 18], [17, 18])])
def ask_Answer.B3 : List Nat := [0, 1, 3, 0, 8, 24, 56, 0, 128, 384, 0, 1024, 3072, 0, 8192, 24576, 57344, 131071, 0, 524287]
theorem ask_Answer.tab3 : rtab .any (opsOf Tryz.f11 3) = ask_Answer.T3 := by kernel_rfl
theorem ask_Answer.bits3 : waitsOk ask_Answer.T3.2 ask_Answer.B3 = true := by kernel_rfl
def ask_Answer.T7 : Bool × List (List Nat × List Nat) := (true, [([], []), ([0], [0]), ([], []), ([], []), ([2, 3], [2, 3]), ([4], [4]), ([], []), ([], []), ([7], [7]), ([6, 8], [6, 8]), ([9], [9]), ([5, 10], [5, 10]), ([11], [11]), ([1, 12], [1, 12]), ([0, 1, 2, 3, 4, 5, 6, 7, 8, 9, 10, 11, 12, 13], []), ([14, 13, 13, 0, 1, 2, 3, 4, 5, 6, 7, 8, 9, 10, 11, 12, 13], [13, 14])])
def ask_Answer.B7 : List Nat := [0, 1, 0, 0, 12, 28, 0, 0, 128, 448, 960, 2044, 4092, 8191, 16383, 32767]
theorem ask_Answer.tab7 : rtab .any (opsOf Tryz.f11 7) = ask_Answer.T7 := by kernel_rfl
theorem ask_Answer.bits7 : waitsOk ask_Answer.T7.2 ask_Answer.B7 = true := by kernel_rfl
set_option maxHeartbeats 8000000 in
set_option maxRecDepth 100000 in
theorem ask_Answer.calls (k : Nat) (A0 : Option Addr) (c0 : Nat) (l0 : List Int) (r1 : Int) (r2 : Bool) (r3 : Int) (r4 : Int) (r5 : List (S31)) (r6 : Bool) (w : World) (hr0 : Kd.C (Kd.int .i64) w A0 l0.length l0) (hc0 : l0.length ≤ c0) (h : ask_Answer.f k l0 = some (r1, r2, r3, r4, r5, r6)) :
    Calls Tryz.prog 11 #[.slice A0 l0.length c0] w fun e w' => ∃ v4_ : Value, e = .returned (.agg #[.int .i64 r1, .bool r2, .int .i64 r3, .int .i64 r4, v4_, .bool r6]) ∧ Kd.R k31 31 w' w.heap.size (fun _ => True) v4_ r5 ∧ Below w.heap.size w w' := by
  have hu26 := Tryz.underlying26
  have hu31 := Tryz.underlying31
  have HR0 := Aside0.mk hr0
  have HC0 := Aside0.mk hc0
  clear hr0 hc0
  have HB := Aside0.mk (Below.refl w.heap.size w)
  have H : (if (l0.length : Int) < 5 then (ask_Answer.j0 k l0 true) else (ask_Answer.j0 k l0 (((l0.length : Int) % 2) == 0))) = some (r1, r2, r3, r4, r5, r6) := h
  clear h
  have HC2 := Aside0.mk H
  clear H
  go_enter Tryz.func11, Tryz.ntmps11
  go_upto_region 1 with (first | ((with_reducible refine gate_dst (N := 2) rfl ?_); (try (refine gate_guard (by rfl) ?_; dsimp only)); refine box_event ?hg (N := 2) ?hd (cs := #[.int .i64 0, .bool false, .int .i64 0, .int .i64 0, .slice none 0 0, .bool false]) (t := 26) ?hr ?_; (case hd => rfl); (case hg => rfl); (case hr => first | (go_simp; done) | (go_simp; rfl)); intro gb124 hg w3 hbox hb; have n0_ := Aside0.mk (below_step (by repeat (first | (with_reducible first | exact HB.out | apply below_alloc | apply pw_below_drewN | apply below_drew1) | exact HB.out)) hb); have n1_ := Aside0.mk (hbox); have n2_ := Aside0.mk ((by rw [hg]; exact (below_size (by repeat (first | (with_reducible first | exact HB.out | apply below_alloc | apply pw_below_drewN | apply below_drew1) | exact HB.out))) : w.heap.size ≤ gb124)); have n3_ := Aside0.mk ((by rw [hg]; exact (below_size (by repeat (first | (with_reducible first | exact HB.out | apply below_alloc | apply pw_below_drewN | apply below_drew1) | exact HB.out))) : w.heap.size ≤ gb124)); clear HB; have HB := n0_; have BK124 := n1_; have GW124 := n2_; have GE124 := n3_; clear n0_ n1_ n2_ n3_; clear hb hbox hg))
  (try simp only [Act.put, List.setIfInBounds_toArray, List.set_cons_zero, List.set_cons_succ])
  go_cut [13] (fun v13 wc => ∃ (kq : Nat) (x13_1 : Bool), v13 = .bool x13_1 ∧ Aside0 (ask_Answer.j0 kq l0 x13_1 = some (r1, r2, r3, r4, r5, r6)) ∧ Aside0 (kq ≤ k) ∧ Aside0 (wc.heap[gb124]? = some (.cells #[.int .i64 0, .bool false, .int .i64 0, .int .i64 0, (.slice none 0 0), .bool false] 26 (0, 0))) ∧ Aside0 (Below w.heap.size w wc))
  case first =>
    have H := HC2.out
    clear HC2
    by_cases c4 : (l0.length : Int) < 5
    · rw [if_pos c4] at H
      have c4b0 : decide ((l0.length : Int) < 5) = true := decide_eq_true c4
      have c4b1 : decide (l0.length < 5) = true := decide_eq_true (by omega)
      clear c4
      (first | rw [c4b0] | (simp only [i64_w, i32_w]; rw [c4b0]) | skip)
      have H' := Aside0.mk H
      clear H
      go_wp2
      go_meet
      case rel => exact ⟨_, (true), (by first | rfl | (simp; done) | (simp [*]; done)), H', ⟨by first | omega | exact Nat.le_refl _⟩, ⟨by (with_reducible repeat (first | refine blk_drewN ?_ _ | refine blk_drew ?_ | refine blk_alloc ?_ _)); exact BK124.out⟩, ⟨by repeat (first | (with_reducible first | exact HB.out | apply below_alloc | apply pw_below_drewN | apply below_drew1 | refine below_set ?_ GE124.out) | exact HB.out)⟩⟩
    · rw [if_neg c4] at H
      have c4b0 : decide ((l0.length : Int) < 5) = false := decide_eq_false c4
      have c4b1 : decide (l0.length < 5) = false := decide_eq_false (by omega)
      clear c4
      (first | rw [c4b0] | (simp only [i64_w, i32_w]; rw [c4b0]) | skip)
      have H' := Aside0.mk H
      clear H
      go_wp2
      go_meet
      case rel => exact ⟨_, ((((l0.length : Int) % 2) == 0)), (by first | rfl | (simp; done) | (simp [*]; done)), H', ⟨by first | omega | exact Nat.le_refl _⟩, ⟨by (with_reducible repeat (first | refine blk_drewN ?_ _ | refine blk_drew ?_ | refine blk_alloc ?_ _)); exact BK124.out⟩, ⟨by repeat (first | (with_reducible first | exact HB.out | apply below_alloc | apply pw_below_drewN | apply below_drew1 | refine below_set ?_ GE124.out) | exact HB.out)⟩⟩
  case rest =>
    clear HC2
    try clear c1
    try clear p2
    try clear c4
    try clear c4b0
    try clear c4b1
    obtain ⟨kq, x13_1, rfl, HA, HJ1, BK124, HB⟩ := hcut
    cases kq with
    | zero => exact absurd HA.out (by simp [ask_Answer.j0])
    | succ kj1 =>
      have H := HA.out
      clear HA
      simp only [ask_Answer.j0] at H
      by_cases c5 : x13_1 = true
      · subst c5
        have H1 : (some (0, false, 0, 0, ([] : List (S31)), false)) = some (r1, r2, r3, r4, r5, r6) := by rw [if_pos rfl] at H; exact H
        clear H
        have H := H1
        clear H1
        simp only [Option.some.injEq, Prod.mk.injEq] at H
        obtain ⟨rfl, rfl, rfl, rfl, rfl, rfl⟩ := H
        have hcz6_0 : wc.cell? ⟨gb124, 0, none⟩ = some (.int .i64 0) := (blk_cell BK124.out 0).trans rfl
        have hcz6_1 : wc.cell? ⟨gb124, 1, none⟩ = some (.bool false) := (blk_cell BK124.out 1).trans rfl
        have hcz6_2 : wc.cell? ⟨gb124, 2, none⟩ = some (.int .i64 0) := (blk_cell BK124.out 2).trans rfl
        have hcz6_3 : wc.cell? ⟨gb124, 3, none⟩ = some (.int .i64 0) := (blk_cell BK124.out 3).trans rfl
        have hcz6_4 : wc.cell? ⟨gb124, 4, none⟩ = some (.slice none 0 0) := (blk_cell BK124.out 4).trans rfl
        have hcz6_5 : wc.cell? ⟨gb124, 5, none⟩ = some (.bool false) := (blk_cell BK124.out 5).trans rfl
        have hfz6_0 := blk_frozen BK124.out 0
        have hfz6_1 := blk_frozen BK124.out 1
        have hfz6_2 := blk_frozen BK124.out 2
        have hfz6_3 := blk_frozen BK124.out 3
        have hfz6_4 := blk_frozen BK124.out 4
        have hfz6_5 := blk_frozen BK124.out 5
        go_wp2
        refine bodyPost_ret (results_cell_row rfl _ _ gb124 26 #[.int .i64 0, .bool false, .int .i64 0, .int .i64 0, .slice none 0 0, .bool false] (0, 0) _ rfl (by (with_reducible repeat (first | refine blk_drewN ?_ _ | refine blk_drew ?_ | refine blk_alloc ?_ _)); refine blk_put (cs := #[.int .i64 0, .bool false, .int .i64 0, .int .i64 0, .slice none 0 0, .bool false]) ?_ 5 _ rfl; (with_reducible repeat (first | refine blk_drewN ?_ _ | refine blk_drew ?_ | refine blk_alloc ?_ _)); refine blk_put (cs := #[.int .i64 0, .bool false, .int .i64 0, .int .i64 0, .slice none 0 0, .bool false]) ?_ 4 _ rfl; (with_reducible repeat (first | refine blk_drewN ?_ _ | refine blk_drew ?_ | refine blk_alloc ?_ _)); refine blk_put (cs := #[.int .i64 0, .bool false, .int .i64 0, .int .i64 0, .slice none 0 0, .bool false]) ?_ 3 _ rfl; (with_reducible repeat (first | refine blk_drewN ?_ _ | refine blk_drew ?_ | refine blk_alloc ?_ _)); refine blk_put (cs := #[.int .i64 0, .bool false, .int .i64 0, .int .i64 0, .slice none 0 0, .bool false]) ?_ 2 _ rfl; (with_reducible repeat (first | refine blk_drewN ?_ _ | refine blk_drew ?_ | refine blk_alloc ?_ _)); refine blk_put (cs := #[.int .i64 0, .bool false, .int .i64 0, .int .i64 0, .slice none 0 0, .bool false]) ?_ 1 _ rfl; (with_reducible repeat (first | refine blk_drewN ?_ _ | refine blk_drew ?_ | refine blk_alloc ?_ _)); refine blk_put (cs := #[.int .i64 0, .bool false, .int .i64 0, .int .i64 0, .slice none 0 0, .bool false]) ?_ 0 _ rfl; (with_reducible repeat (first | refine blk_drewN ?_ _ | refine blk_drew ?_ | refine blk_alloc ?_ _)); exact BK124.out) Tryz.underlying26 rfl (by kernel_rfl)) rfl ?_
        exact ⟨_, by first | rfl | (simp [errW_none, errW_some] <;> rfl) | (simp [*, errW_none, errW_some] <;> rfl), by first | exact Kd.R_nil _ _ _ _ _ | exact Kd.N_nil _ _ _ _ _ | exact Kd.V_nil _ _ _ _ _ | exact Kd.Q_nil _ _ _ _ _ | exact Kd.S_nil _ _ _ _ _, by repeat (first | (with_reducible first | exact HB.out | apply below_alloc | apply pw_below_drewN | apply below_drew1 | refine below_set ?_ GE124.out) | exact HB.out)⟩
      · replace c5 := Bool.eq_false_iff.mpr c5
        subst c5
        have H1 : (if 0 < (l0.length : Int) then (if 1 < (l0.length : Int) then (if 2 < (l0.length : Int) then (if 3 < (l0.length : Int) then (if 4 < (l0.length : Int) then (ask_Answer.l0 kj1 l0 5 (rd l0 0) ((rd l0 1) == 1) (rd l0 2) (rd l0 3) ([] : List (S31)) ((rd l0 4) == 1)) else (none)) else (none)) else (none)) else (none)) else (none)) = some (r1, r2, r3, r4, r5, r6) := by rw [if_neg (show ¬ (false = true) by decide)] at H; exact H
        clear H
        have H := H1
        clear H1
        by_cases c7 : 0 < (l0.length : Int)
        · rw [if_pos c7] at H
          have c7b0 : decide (0 < (l0.length : Int)) = true := decide_eq_true c7
          have c7b1 : decide (0 < l0.length) = true := decide_eq_true (by omega)
          clear c7
          by_cases c8 : 1 < (l0.length : Int)
          · rw [if_pos c8] at H
            have c8b0 : decide (1 < (l0.length : Int)) = true := decide_eq_true c8
            have c8b1 : decide (1 < l0.length) = true := decide_eq_true (by omega)
            clear c8
            by_cases c9 : 2 < (l0.length : Int)
            · rw [if_pos c9] at H
              have c9b0 : decide (2 < (l0.length : Int)) = true := decide_eq_true c9
              have c9b1 : decide (2 < l0.length) = true := decide_eq_true (by omega)
              clear c9
              by_cases c10 : 3 < (l0.length : Int)
              · rw [if_pos c10] at H
                have c10b0 : decide (3 < (l0.length : Int)) = true := decide_eq_true c10
                have c10b1 : decide (3 < l0.length) = true := decide_eq_true (by omega)
                clear c10
                by_cases c11 : 4 < (l0.length : Int)
                · rw [if_pos c11] at H
                  have c11b0 : decide (4 < (l0.length : Int)) = true := decide_eq_true c11
                  have c11b1 : decide (4 < l0.length) = true := decide_eq_true (by omega)
                  clear c11
                  have H' := Aside0.mk H
                  clear H
                  try go_wp2
                  have n0_ := Aside0.mk (blk_drew BK124.out)
                  have n1_ := Aside0.mk (below_drew1 HB.out)
                  clear BK124
                  clear HB
                  have BK124 := n0_
                  have HB := n1_
                  clear n0_ n1_
                  have p125 : 0 ≤ (0 : Int) := (by omega)
                  have q125 : 0 < (l0.length : Int) := of_decide_eq_true (by first | (with_reducible assumption) | assumption)
                  obtain ⟨ad125, e125, hx125_0⟩ := Kd.at_int HR0.out 0 p125 q125
                  have hw125_0 := hx125_0
                  (try rw [show ((0 : Int)).toNat = 0 from rfl] at hw125_0)
                  (try rw [show 0 * 1 = 0 from rfl] at hw125_0)
                  (try rw [Addr.add_zero'] at hw125_0)
                  cases e125
                  have qi125 : (0 < l0.length) = True := eq_true (by omega)
                  (try rw [show ((0 : Int)).toNat = 0 from rfl] at hx125_0)
                  (try rw [Addr.add_zero'] at hx125_0)
                  replace hx125_0 := (HB.out.cell (World.block_lt_of_cell? w _ hx125_0)).trans hx125_0
                  replace p125 := eq_true p125
                  replace q125 := eq_true q125
                  have p126 : 0 ≤ (1 : Int) := (by omega)
                  have q126 : 1 < (l0.length : Int) := of_decide_eq_true (by first | (with_reducible assumption) | assumption)
                  obtain ⟨ad126, e126, hx126_0⟩ := Kd.at_int HR0.out 1 p126 q126
                  have hw126_0 := hx126_0
                  (try rw [show ((1 : Int)).toNat = 1 from rfl] at hw126_0)
                  (try rw [show 1 * 1 = 1 from rfl] at hw126_0)
                  (try simp only [Nat.reduceMul, Nat.reduceEqDiff, Go.Addr.add, ↓reduceIte] at hw126_0)
                  obtain rfl : ad125 = ad126 := (by injection e126)
                  (try simp only [show (1 : Int).toNat = 1 from rfl, Nat.reduceMul, Nat.reduceEqDiff, Go.Addr.add, ↓reduceIte] at hx126_0)
                  have qi126 : (1 < l0.length) = True := eq_true (by omega)
                  (try rw [show ((1 : Int)).toNat = 1 from rfl] at hx126_0)
                  replace hx126_0 := (HB.out.cell (World.block_lt_of_cell? w _ hx126_0)).trans hx126_0
                  replace p126 := eq_true p126
                  replace q126 := eq_true q126
                  have p127 : 0 ≤ (2 : Int) := (by omega)
                  have q127 : 2 < (l0.length : Int) := of_decide_eq_true (by first | (with_reducible assumption) | assumption)
                  obtain ⟨ad127, e127, hx127_0⟩ := Kd.at_int HR0.out 2 p127 q127
                  have hw127_0 := hx127_0
                  (try rw [show ((2 : Int)).toNat = 2 from rfl] at hw127_0)
                  (try rw [show 2 * 1 = 2 from rfl] at hw127_0)
                  (try simp only [Nat.reduceMul, Nat.reduceEqDiff, Go.Addr.add, ↓reduceIte] at hw127_0)
                  obtain rfl : ad125 = ad127 := (by injection e127)
                  (try simp only [show (2 : Int).toNat = 2 from rfl, Nat.reduceMul, Nat.reduceEqDiff, Go.Addr.add, ↓reduceIte] at hx127_0)
                  have qi127 : (2 < l0.length) = True := eq_true (by omega)
                  (try rw [show ((2 : Int)).toNat = 2 from rfl] at hx127_0)
                  replace hx127_0 := (HB.out.cell (World.block_lt_of_cell? w _ hx127_0)).trans hx127_0
                  replace p127 := eq_true p127
                  replace q127 := eq_true q127
                  have p128 : 0 ≤ (3 : Int) := (by omega)
                  have q128 : 3 < (l0.length : Int) := of_decide_eq_true (by first | (with_reducible assumption) | assumption)
                  obtain ⟨ad128, e128, hx128_0⟩ := Kd.at_int HR0.out 3 p128 q128
                  have hw128_0 := hx128_0
                  (try rw [show ((3 : Int)).toNat = 3 from rfl] at hw128_0)
                  (try rw [show 3 * 1 = 3 from rfl] at hw128_0)
                  (try simp only [Nat.reduceMul, Nat.reduceEqDiff, Go.Addr.add, ↓reduceIte] at hw128_0)
                  obtain rfl : ad125 = ad128 := (by injection e128)
                  (try simp only [show (3 : Int).toNat = 3 from rfl, Nat.reduceMul, Nat.reduceEqDiff, Go.Addr.add, ↓reduceIte] at hx128_0)
                  have qi128 : (3 < l0.length) = True := eq_true (by omega)
                  (try rw [show ((3 : Int)).toNat = 3 from rfl] at hx128_0)
                  replace hx128_0 := (HB.out.cell (World.block_lt_of_cell? w _ hx128_0)).trans hx128_0
                  replace p128 := eq_true p128
                  replace q128 := eq_true q128
                  have p129 : 0 ≤ (4 : Int) := (by omega)
                  have q129 : 4 < (l0.length : Int) := of_decide_eq_true (by first | (with_reducible assumption) | assumption)
                  obtain ⟨ad129, e129, hx129_0⟩ := Kd.at_int HR0.out 4 p129 q129
                  have hw129_0 := hx129_0
                  (try rw [show ((4 : Int)).toNat = 4 from rfl] at hw129_0)
                  (try rw [show 4 * 1 = 4 from rfl] at hw129_0)
                  (try simp only [Nat.reduceMul, Nat.reduceEqDiff, Go.Addr.add, ↓reduceIte] at hw129_0)
                  obtain rfl : ad125 = ad129 := (by injection e129)
                  (try simp only [show (4 : Int).toNat = 4 from rfl, Nat.reduceMul, Nat.reduceEqDiff, Go.Addr.add, ↓reduceIte] at hx129_0)
                  have qi129 : (4 < l0.length) = True := eq_true (by omega)
                  (try rw [show ((4 : Int)).toNat = 4 from rfl] at hx129_0)
                  replace hx129_0 := (HB.out.cell (World.block_lt_of_cell? w _ hx129_0)).trans hx129_0
                  replace p129 := eq_true p129
                  replace q129 := eq_true q129
                  refine start_ (n := 20) (S := fun w' => w'.cell? ad125 = some (.int .i64 (rd l0 0)) ∧ w'.cell? ⟨ad125.block, ad125.off + 1, none⟩ = some (.int .i64 (rd l0 1)) ∧ w'.cell? ⟨ad125.block, ad125.off + 2, none⟩ = some (.int .i64 (rd l0 2)) ∧ w'.cell? ⟨ad125.block, ad125.off + 3, none⟩ = some (.int .i64 (rd l0 3)) ∧ w'.cell? ⟨ad125.block, ad125.off + 4, none⟩ = some (.int .i64 (rd l0 4))) (ds := []) #[false, false, false, false, false, false, false, false, false, false, false, false, false, false, false, false, false, false, false, false] (by kernel_rfl) rfl rfl ⟨((HB.out.cell (World.block_lt_of_cell? w _ hw125_0)).trans hw125_0), ((HB.out.cell (World.block_lt_of_cell? w _ hw126_0)).trans hw126_0), ((HB.out.cell (World.block_lt_of_cell? w _ hw127_0)).trans hw127_0), ((HB.out.cell (World.block_lt_of_cell? w _ hw128_0)).trans hw128_0), ((HB.out.cell (World.block_lt_of_cell? w _ hw129_0)).trans hw129_0)⟩ (fun hHeld => ?_); refine with_tabW ask_Answer.tab3 ask_Answer.bits3 (fun HT_ HW_ => ?_)
                  generalize wc.drew = w12 at BK124 HB hx125_0 hx126_0 hx127_0 hx128_0 hx129_0 hHeld ⊢
                  refine pure_ (i := 0) (N := some 15) (v := ?_) (a' := ?_) #[true, false, false, false, false, false, false, false, false, false, false, false, false, false, false, false, false, false, false, false] rfl rfl (any_of HT_.out (by kernel_rfl)) (fun _ _ _ h => h) (Or.inl ⟨by rfl, ?_⟩) ?_ ?_
                  rotate_left
                  · intro w'
                    go_simp
                    with_reducible rfl
                  rotate_left
                  · simp only [Act.put, List.setIfInBounds_toArray, List.set_cons_zero, List.set_cons_succ, i64_w, i32_w]
                    rfl
                  refine pure_ (i := 1) (N := some 16) (v := ?_) (a' := ?_) #[true, true, false, false, false, false, false, false, false, false, false, false, false, false, false, false, false, false, false, false] rfl rfl (any_of HT_.out (by kernel_rfl)) (fun _ _ _ h => h) (Or.inl ⟨by rfl, ?_⟩) ?_ ?_
                  rotate_left
                  · intro w'
                    go_simp
                    with_reducible rfl
                  rotate_left
                  · simp only [Act.put, List.setIfInBounds_toArray, List.set_cons_zero, List.set_cons_succ, i64_w, i32_w]
                    rfl
                  refine pure_ (i := 3) (N := some 18) (v := ?_) (a' := ?_) #[true, true, false, true, false, false, false, false, false, false, false, false, false, false, false, false, false, false, false, false] rfl rfl (any_of HT_.out (by kernel_rfl)) (fun _ _ _ h => h) (Or.inl ⟨by rfl, ?_⟩) ?_ ?_
                  rotate_left
                  · intro w'
                    go_simp
                    with_reducible rfl
                  rotate_left
                  · simp only [Act.put, List.setIfInBounds_toArray, List.set_cons_zero, List.set_cons_succ, i64_w, i32_w]
                    rfl
                  refine pure_ (i := 4) (N := some 19) (v := ?_) (a' := ?_) #[true, true, false, true, true, false, false, false, false, false, false, false, false, false, false, false, false, false, false, false] rfl rfl (any_of HT_.out (by kernel_rfl)) (fun _ _ _ h => h) (Or.inl ⟨by rfl, ?_⟩) ?_ ?_
                  rotate_left
                  · intro w'
                    go_simp
                    with_reducible rfl
                  rotate_left
                  · simp only [Act.put, List.setIfInBounds_toArray, List.set_cons_zero, List.set_cons_succ, i64_w, i32_w]
                    rfl
                  refine pure_ (i := 7) (N := some 22) (v := ?_) (a' := ?_) #[true, true, false, true, true, false, false, true, false, false, false, false, false, false, false, false, false, false, false, false] rfl rfl (any_of HT_.out (by kernel_rfl)) (fun _ _ _ h => h) (Or.inl ⟨by rfl, ?_⟩) ?_ ?_
                  rotate_left
                  · intro w'
                    go_simp
                    with_reducible rfl
                  rotate_left
                  · simp only [Act.put, List.setIfInBounds_toArray, List.set_cons_zero, List.set_cons_succ, i64_w, i32_w]
                    rfl
                  refine pure_ (i := 8) (N := some 23) (v := ?_) (a' := ?_) #[true, true, false, true, true, false, false, true, true, false, false, false, false, false, false, false, false, false, false, false] rfl rfl (any_of HT_.out (by kernel_rfl)) (fun _ _ _ h => h) (Or.inl ⟨by rfl, ?_⟩) ?_ ?_
                  rotate_left
                  · intro w'
                    go_simp
                    with_reducible rfl
                  rotate_left
                  · simp only [Act.put, List.setIfInBounds_toArray, List.set_cons_zero, List.set_cons_succ, i64_w, i32_w]
                    rfl
                  refine pure_ (i := 10) (N := some 25) (v := ?_) (a' := ?_) #[true, true, false, true, true, false, false, true, true, false, true, false, false, false, false, false, false, false, false, false] rfl rfl (any_of HT_.out (by kernel_rfl)) (fun _ _ _ h => h) (Or.inl ⟨by rfl, ?_⟩) ?_ ?_
                  rotate_left
                  · intro w'
                    go_simp
                    with_reducible rfl
                  rotate_left
                  · simp only [Act.put, List.setIfInBounds_toArray, List.set_cons_zero, List.set_cons_succ, i64_w, i32_w]
                    rfl
                  refine pure_ (i := 11) (N := some 26) (v := ?_) (a' := ?_) #[true, true, false, true, true, false, false, true, true, false, true, true, false, false, false, false, false, false, false, false] rfl rfl (any_of HT_.out (by kernel_rfl)) (fun _ _ _ h => h) (Or.inl ⟨by rfl, ?_⟩) ?_ ?_
                  rotate_left
                  · intro w'
                    go_simp
                    with_reducible rfl
                  rotate_left
                  · simp only [Act.put, List.setIfInBounds_toArray, List.set_cons_zero, List.set_cons_succ, i64_w, i32_w]
                    rfl
                  refine pure_ (i := 13) (N := some 28) (v := ?_) (a' := ?_) #[true, true, false, true, true, false, false, true, true, false, true, true, false, true, false, false, false, false, false, false] rfl rfl (any_of HT_.out (by kernel_rfl)) (fun _ _ _ h => h) (Or.inl ⟨by rfl, ?_⟩) ?_ ?_
                  rotate_left
                  · intro w'
                    go_simp
                    with_reducible rfl
                  rotate_left
                  · simp only [Act.put, List.setIfInBounds_toArray, List.set_cons_zero, List.set_cons_succ, i64_w, i32_w]
                    rfl
                  refine pure_ (i := 14) (N := some 29) (v := ?_) (a' := ?_) #[true, true, false, true, true, false, false, true, true, false, true, true, false, true, true, false, false, false, false, false] rfl rfl (any_of HT_.out (by kernel_rfl)) (fun _ _ _ h => h) (Or.inl ⟨by rfl, ?_⟩) ?_ ?_
                  rotate_left
                  · intro w'
                    go_simp
                    with_reducible rfl
                  rotate_left
                  · simp only [Act.put, List.setIfInBounds_toArray, List.set_cons_zero, List.set_cons_succ, i64_w, i32_w]
                    rfl
                  refine take_ (i := 2) (N := some 17) (v := ?_) (a' := ?_) #[true, true, true, true, true, false, false, true, true, false, true, true, false, true, true, false, false, false, false, false] rfl rfl (take_ofW HT_.out HW_.out (by kernel_rfl)) (fun _ _ _ h => h) (Or.inl ⟨by rfl, ?_⟩) hHeld ?_ ?_
                  rotate_left
                  · rintro w' ⟨s0, s1, s2, s3, s4⟩
                    go_simp
                    with_reducible rfl
                  rotate_left
                  · simp only [Act.put, List.setIfInBounds_toArray, List.set_cons_zero, List.set_cons_succ, i64_w, i32_w]
                    rfl
                  refine take_ (i := 5) (N := some 20) (v := ?_) (a' := ?_) #[true, true, true, true, true, true, false, true, true, false, true, true, false, true, true, false, false, false, false, false] rfl rfl (take_ofW HT_.out HW_.out (by kernel_rfl)) (fun _ _ _ h => h) (Or.inl ⟨by rfl, ?_⟩) hHeld ?_ ?_
                  rotate_left
                  · rintro w' ⟨s0, s1, s2, s3, s4⟩
                    go_simp
                    with_reducible rfl
                  rotate_left
                  · simp only [Act.put, List.setIfInBounds_toArray, List.set_cons_zero, List.set_cons_succ, i64_w, i32_w]
                    rfl
                  refine pure_ (i := 6) (N := some 21) (v := ?_) (a' := ?_) #[true, true, true, true, true, true, true, true, true, false, true, true, false, true, true, false, false, false, false, false] rfl rfl (any_of HT_.out (by kernel_rfl)) (fun _ _ _ h => h) (Or.inl ⟨by rfl, ?_⟩) ?_ ?_
                  rotate_left
                  · intro w'
                    go_simp
                    with_reducible rfl
                  rotate_left
                  · simp only [Act.put, List.setIfInBounds_toArray, List.set_cons_zero, List.set_cons_succ, i64_w, i32_w]
                    rfl
                  refine take_ (i := 9) (N := some 24) (v := ?_) (a' := ?_) #[true, true, true, true, true, true, true, true, true, true, true, true, false, true, true, false, false, false, false, false] rfl rfl (take_ofW HT_.out HW_.out (by kernel_rfl)) (fun _ _ _ h => h) (Or.inl ⟨by rfl, ?_⟩) hHeld ?_ ?_
                  rotate_left
                  · rintro w' ⟨s0, s1, s2, s3, s4⟩
                    go_simp
                    with_reducible rfl
                  rotate_left
                  · simp only [Act.put, List.setIfInBounds_toArray, List.set_cons_zero, List.set_cons_succ, i64_w, i32_w]
                    rfl
                  refine take_ (i := 12) (N := some 27) (v := ?_) (a' := ?_) #[true, true, true, true, true, true, true, true, true, true, true, true, true, true, true, false, false, false, false, false] rfl rfl (take_ofW HT_.out HW_.out (by kernel_rfl)) (fun _ _ _ h => h) (Or.inl ⟨by rfl, ?_⟩) hHeld ?_ ?_
                  rotate_left
                  · rintro w' ⟨s0, s1, s2, s3, s4⟩
                    go_simp
                    with_reducible rfl
                  rotate_left
                  · simp only [Act.put, List.setIfInBounds_toArray, List.set_cons_zero, List.set_cons_succ, i64_w, i32_w]
                    rfl
                  refine take_ (i := 15) (N := some 30) (v := ?_) (a' := ?_) #[true, true, true, true, true, true, true, true, true, true, true, true, true, true, true, true, false, false, false, false] rfl rfl (take_ofW HT_.out HW_.out (by kernel_rfl)) (fun _ _ _ h => h) (Or.inl ⟨by rfl, ?_⟩) hHeld ?_ ?_
                  rotate_left
                  · rintro w' ⟨s0, s1, s2, s3, s4⟩
                    go_simp
                    with_reducible rfl
                  rotate_left
                  · simp only [Act.put, List.setIfInBounds_toArray, List.set_cons_zero, List.set_cons_succ, i64_w, i32_w]
                    rfl
                  refine pure_ (i := 16) (N := some 31) (v := ?_) (a' := ?_) #[true, true, true, true, true, true, true, true, true, true, true, true, true, true, true, true, true, false, false, false] rfl rfl (any_of HT_.out (by kernel_rfl)) (fun _ _ _ h => h) (Or.inl ⟨by rfl, ?_⟩) ?_ ?_
                  rotate_left
                  · intro w'
                    go_simp
                    with_reducible rfl
                  rotate_left
                  · simp only [Act.put, List.setIfInBounds_toArray, List.set_cons_zero, List.set_cons_succ, i64_w, i32_w]
                    rfl
                  refine pure_ (i := 17) (N := some 32) (v := ?_) (a' := ?_) #[true, true, true, true, true, true, true, true, true, true, true, true, true, true, true, true, true, true, false, false] rfl rfl (any_of HT_.out (by kernel_rfl)) (fun _ _ _ h => h) (Or.inl ⟨by rfl, ?_⟩) ?_ ?_
                  rotate_left
                  · intro w'
                    go_simp
                    with_reducible rfl
                  rotate_left
                  · simp only [Act.put, List.setIfInBounds_toArray, List.set_cons_zero, List.set_cons_succ, i64_w, i32_w]
                    rfl
                  refine one_ (i := 18) (N := some 3) #[true, true, true, true, true, true, true, true, true, true, true, true, true, true, true, true, true, true, true, false] rfl rfl (one_of HT_.out (by kernel_rfl)) (by decide) (fun K hK => ?_)
                  refine box_step ?hg (N := 3) ?hd (cs := #[.int .i64 0, .bool false, .int .i64 0, .int .i64 0, .slice none 0 0, .bool false]) (t := 26) ?hr ?_; (case hd => rfl); (case hg => rfl); (case hr => first | (go_simp; done) | (go_simp; rfl))
                  intro gb130 hg w13 hbox hb
                  have n0_ := Aside0.mk (blk_below (g := gb124) (o := .cells #[.int .i64 0, .bool false, .int .i64 0, .int .i64 0, .slice none 0 0, .bool false] 26 (0, 0)) (by (with_reducible repeat (first | refine blk_drewN ?_ _ | refine blk_drew ?_ | refine blk_alloc ?_ _)); exact BK124.out) hb)
                  have n1_ := Aside0.mk (below_step (by repeat (first | (with_reducible first | exact HB.out | apply below_alloc | apply pw_below_drewN | apply below_drew1 | refine below_set ?_ GE124.out) | exact HB.out)) hb)
                  have n2_ := Aside0.mk (hbox)
                  have n3_ := Aside0.mk ((by rw [hg]; exact (below_size (by repeat (first | (with_reducible first | exact HB.out | apply below_alloc | apply pw_below_drewN | apply below_drew1 | refine below_set ?_ GE124.out) | exact HB.out))) : w.heap.size ≤ gb130))
                  have n4_ := Aside0.mk ((by rw [hg]; exact (below_size (by repeat (first | (with_reducible first | exact HB.out | apply below_alloc | apply pw_below_drewN | apply below_drew1 | refine below_set ?_ GE124.out) | exact HB.out))) : w.heap.size ≤ gb130))
                  have n5_ := Aside0.mk ((by rw [hg]; exact Nat.ne_of_lt (blk_lt (g := gb124) (o := .cells #[.int .i64 0, .bool false, .int .i64 0, .int .i64 0, .slice none 0 0, .bool false] 26 (0, 0)) (by (with_reducible repeat (first | refine blk_drewN ?_ _ | refine blk_drew ?_ | refine blk_alloc ?_ _)); exact BK124.out)) : gb124 ≠ gb130))
                  have n6_ := Aside0.mk ((by rw [hg]; exact Nat.ne_of_gt (blk_lt (g := gb124) (o := .cells #[.int .i64 0, .bool false, .int .i64 0, .int .i64 0, .slice none 0 0, .bool false] 26 (0, 0)) (by (with_reducible repeat (first | refine blk_drewN ?_ _ | refine blk_drew ?_ | refine blk_alloc ?_ _)); exact BK124.out)) : gb130 ≠ gb124))
                  clear BK124
                  clear HB
                  have BK124 := n0_
                  have HB := n1_
                  have BK130 := n2_
                  have GW130 := n3_
                  have GE130 := n4_
                  have NB124_130 := n5_
                  have NB130_124 := n6_
                  clear n0_ n1_ n2_ n3_ n4_ n5_ n6_
                  clear hb hbox hg
                  refine hK.out _ _ ⟨((HB.out.cell (World.block_lt_of_cell? w _ hw125_0)).trans hw125_0), ((HB.out.cell (World.block_lt_of_cell? w _ hw126_0)).trans hw126_0), ((HB.out.cell (World.block_lt_of_cell? w _ hw127_0)).trans hw127_0), ((HB.out.cell (World.block_lt_of_cell? w _ hw128_0)).trans hw128_0), ((HB.out.cell (World.block_lt_of_cell? w _ hw129_0)).trans hw129_0)⟩ (fun hHeld => ?_)
                  clear hK K
                  refine norm_ (a' := ?_) ?_ ?_
                  rotate_left
                  · show Act.put _ (some 3) _ = _
                    simp only [Act.put, List.setIfInBounds_toArray, List.set_cons_zero, List.set_cons_succ, i64_w, i32_w]
                    rfl
                  refine one_ (i := 19) (N := none) #[true, true, true, true, true, true, true, true, true, true, true, true, true, true, true, true, true, true, true, true] rfl rfl (one_of HT_.out (by kernel_rfl)) (by decide) (fun K hK => ?_)
                  have hs14 : w13.cell? ⟨gb130, 0, none⟩ = some (.int .i64 0) := (blk_cell BK130.out 0).trans rfl
                  have hfs14 := blk_frozen BK130.out 0
                  have hns14_0 := NB124_130.out
                  have hms14_0 := NB130_124.out
                  have hs15 : w13.cell? ⟨gb130, 1, none⟩ = some (.bool false) := (blk_cell BK130.out 1).trans rfl
                  have hfs15 := blk_frozen BK130.out 1
                  have hns15_0 := NB124_130.out
                  have hms15_0 := NB130_124.out
                  have hs16 : w13.cell? ⟨gb130, 2, none⟩ = some (.int .i64 0) := (blk_cell BK130.out 2).trans rfl
                  have hfs16 := blk_frozen BK130.out 2
                  have hns16_0 := NB124_130.out
                  have hms16_0 := NB130_124.out
                  have hs17 : w13.cell? ⟨gb130, 3, none⟩ = some (.int .i64 0) := (blk_cell BK130.out 3).trans rfl
                  have hfs17 := blk_frozen BK130.out 3
                  have hns17_0 := NB124_130.out
                  have hms17_0 := NB130_124.out
                  have hs18 : w13.cell? ⟨gb130, 4, none⟩ = some (.slice none 0 0) := (blk_cell BK130.out 4).trans rfl
                  have hfs18 := blk_frozen BK130.out 4
                  have hns18_0 := NB124_130.out
                  have hms18_0 := NB130_124.out
                  have hs19 : w13.cell? ⟨gb130, 5, none⟩ = some (.bool false) := (blk_cell BK130.out 5).trans rfl
                  have hfs19 := blk_frozen BK130.out 5
                  have hns19_0 := NB124_130.out
                  have hms19_0 := NB130_124.out
                  refine skip_ (w1 := ?_) (by rfl) rfl ?_ ?_
                  rotate_left
                  · go_simp
                    rfl
                  refine hK.out _ _ ⟨((cell_far (p := ⟨gb130, _, none⟩) (by first | exact Nat.ne_of_lt (Nat.lt_of_lt_of_le (by have := World.block_lt_of_cell? _ _ hw125_0; first | rwa [add_block] at this | exact this) GW130.out) | (rw [add_block]; exact Nat.ne_of_lt (Nat.lt_of_lt_of_le (by have := World.block_lt_of_cell? _ _ hw125_0; first | rwa [add_block] at this | exact this) GW130.out)) | (show (Addr.add _ _).block ≠ _; rw [add_block]; exact Nat.ne_of_lt (Nat.lt_of_lt_of_le (by have := World.block_lt_of_cell? _ _ hw125_0; first | rwa [add_block] at this | exact this) GW130.out)) | (dsimp only; exact Nat.ne_of_lt (Nat.lt_of_lt_of_le (by have := World.block_lt_of_cell? _ _ hw125_0; first | rwa [add_block] at this | exact this) GW130.out))) _).trans (((cell_far (p := ⟨gb130, _, none⟩) (by first | exact Nat.ne_of_lt (Nat.lt_of_lt_of_le (by have := World.block_lt_of_cell? _ _ hw125_0; first | rwa [add_block] at this | exact this) GW130.out) | (rw [add_block]; exact Nat.ne_of_lt (Nat.lt_of_lt_of_le (by have := World.block_lt_of_cell? _ _ hw125_0; first | rwa [add_block] at this | exact this) GW130.out)) | (show (Addr.add _ _).block ≠ _; rw [add_block]; exact Nat.ne_of_lt (Nat.lt_of_lt_of_le (by have := World.block_lt_of_cell? _ _ hw125_0; first | rwa [add_block] at this | exact this) GW130.out)) | (dsimp only; exact Nat.ne_of_lt (Nat.lt_of_lt_of_le (by have := World.block_lt_of_cell? _ _ hw125_0; first | rwa [add_block] at this | exact this) GW130.out))) _).trans (((cell_far (p := ⟨gb130, _, none⟩) (by first | exact Nat.ne_of_lt (Nat.lt_of_lt_of_le (by have := World.block_lt_of_cell? _ _ hw125_0; first | rwa [add_block] at this | exact this) GW130.out) | (rw [add_block]; exact Nat.ne_of_lt (Nat.lt_of_lt_of_le (by have := World.block_lt_of_cell? _ _ hw125_0; first | rwa [add_block] at this | exact this) GW130.out)) | (show (Addr.add _ _).block ≠ _; rw [add_block]; exact Nat.ne_of_lt (Nat.lt_of_lt_of_le (by have := World.block_lt_of_cell? _ _ hw125_0; first | rwa [add_block] at this | exact this) GW130.out)) | (dsimp only; exact Nat.ne_of_lt (Nat.lt_of_lt_of_le (by have := World.block_lt_of_cell? _ _ hw125_0; first | rwa [add_block] at this | exact this) GW130.out))) _).trans (((cell_far (p := ⟨gb130, _, none⟩) (by first | exact Nat.ne_of_lt (Nat.lt_of_lt_of_le (by have := World.block_lt_of_cell? _ _ hw125_0; first | rwa [add_block] at this | exact this) GW130.out) | (rw [add_block]; exact Nat.ne_of_lt (Nat.lt_of_lt_of_le (by have := World.block_lt_of_cell? _ _ hw125_0; first | rwa [add_block] at this | exact this) GW130.out)) | (show (Addr.add _ _).block ≠ _; rw [add_block]; exact Nat.ne_of_lt (Nat.lt_of_lt_of_le (by have := World.block_lt_of_cell? _ _ hw125_0; first | rwa [add_block] at this | exact this) GW130.out)) | (dsimp only; exact Nat.ne_of_lt (Nat.lt_of_lt_of_le (by have := World.block_lt_of_cell? _ _ hw125_0; first | rwa [add_block] at this | exact this) GW130.out))) _).trans (((cell_far (p := ⟨gb130, _, none⟩) (by first | exact Nat.ne_of_lt (Nat.lt_of_lt_of_le (by have := World.block_lt_of_cell? _ _ hw125_0; first | rwa [add_block] at this | exact this) GW130.out) | (rw [add_block]; exact Nat.ne_of_lt (Nat.lt_of_lt_of_le (by have := World.block_lt_of_cell? _ _ hw125_0; first | rwa [add_block] at this | exact this) GW130.out)) | (show (Addr.add _ _).block ≠ _; rw [add_block]; exact Nat.ne_of_lt (Nat.lt_of_lt_of_le (by have := World.block_lt_of_cell? _ _ hw125_0; first | rwa [add_block] at this | exact this) GW130.out)) | (dsimp only; exact Nat.ne_of_lt (Nat.lt_of_lt_of_le (by have := World.block_lt_of_cell? _ _ hw125_0; first | rwa [add_block] at this | exact this) GW130.out))) _).trans (((cell_far (p := ⟨gb130, _, none⟩) (by first | exact Nat.ne_of_lt (Nat.lt_of_lt_of_le (by have := World.block_lt_of_cell? _ _ hw125_0; first | rwa [add_block] at this | exact this) GW130.out) | (rw [add_block]; exact Nat.ne_of_lt (Nat.lt_of_lt_of_le (by have := World.block_lt_of_cell? _ _ hw125_0; first | rwa [add_block] at this | exact this) GW130.out)) | (show (Addr.add _ _).block ≠ _; rw [add_block]; exact Nat.ne_of_lt (Nat.lt_of_lt_of_le (by have := World.block_lt_of_cell? _ _ hw125_0; first | rwa [add_block] at this | exact this) GW130.out)) | (dsimp only; exact Nat.ne_of_lt (Nat.lt_of_lt_of_le (by have := World.block_lt_of_cell? _ _ hw125_0; first | rwa [add_block] at this | exact this) GW130.out))) _).trans (hHeld.1)))))))))))), ((cell_far (p := ⟨gb130, _, none⟩) (by first | exact Nat.ne_of_lt (Nat.lt_of_lt_of_le (by have := World.block_lt_of_cell? _ _ hw126_0; first | rwa [add_block] at this | exact this) GW130.out) | (rw [add_block]; exact Nat.ne_of_lt (Nat.lt_of_lt_of_le (by have := World.block_lt_of_cell? _ _ hw126_0; first | rwa [add_block] at this | exact this) GW130.out)) | (show (Addr.add _ _).block ≠ _; rw [add_block]; exact Nat.ne_of_lt (Nat.lt_of_lt_of_le (by have := World.block_lt_of_cell? _ _ hw126_0; first | rwa [add_block] at this | exact this) GW130.out)) | (dsimp only; exact Nat.ne_of_lt (Nat.lt_of_lt_of_le (by have := World.block_lt_of_cell? _ _ hw126_0; first | rwa [add_block] at this | exact this) GW130.out))) _).trans (((cell_far (p := ⟨gb130, _, none⟩) (by first | exact Nat.ne_of_lt (Nat.lt_of_lt_of_le (by have := World.block_lt_of_cell? _ _ hw126_0; first | rwa [add_block] at this | exact this) GW130.out) | (rw [add_block]; exact Nat.ne_of_lt (Nat.lt_of_lt_of_le (by have := World.block_lt_of_cell? _ _ hw126_0; first | rwa [add_block] at this | exact this) GW130.out)) | (show (Addr.add _ _).block ≠ _; rw [add_block]; exact Nat.ne_of_lt (Nat.lt_of_lt_of_le (by have := World.block_lt_of_cell? _ _ hw126_0; first | rwa [add_block] at this | exact this) GW130.out)) | (dsimp only; exact Nat.ne_of_lt (Nat.lt_of_lt_of_le (by have := World.block_lt_of_cell? _ _ hw126_0; first | rwa [add_block] at this | exact this) GW130.out))) _).trans (((cell_far (p := ⟨gb130, _, none⟩) (by first | exact Nat.ne_of_lt (Nat.lt_of_lt_of_le (by have := World.block_lt_of_cell? _ _ hw126_0; first | rwa [add_block] at this | exact this) GW130.out) | (rw [add_block]; exact Nat.ne_of_lt (Nat.lt_of_lt_of_le (by have := World.block_lt_of_cell? _ _ hw126_0; first | rwa [add_block] at this | exact this) GW130.out)) | (show (Addr.add _ _).block ≠ _; rw [add_block]; exact Nat.ne_of_lt (Nat.lt_of_lt_of_le (by have := World.block_lt_of_cell? _ _ hw126_0; first | rwa [add_block] at this | exact this) GW130.out)) | (dsimp only; exact Nat.ne_of_lt (Nat.lt_of_lt_of_le (by have := World.block_lt_of_cell? _ _ hw126_0; first | rwa [add_block] at this | exact this) GW130.out))) _).trans (((cell_far (p := ⟨gb130, _, none⟩) (by first | exact Nat.ne_of_lt (Nat.lt_of_lt_of_le (by have := World.block_lt_of_cell? _ _ hw126_0; first | rwa [add_block] at this | exact this) GW130.out) | (rw [add_block]; exact Nat.ne_of_lt (Nat.lt_of_lt_of_le (by have := World.block_lt_of_cell? _ _ hw126_0; first | rwa [add_block] at this | exact this) GW130.out)) | (show (Addr.add _ _).block ≠ _; rw [add_block]; exact Nat.ne_of_lt (Nat.lt_of_lt_of_le (by have := World.block_lt_of_cell? _ _ hw126_0; first | rwa [add_block] at this | exact this) GW130.out)) | (dsimp only; exact Nat.ne_of_lt (Nat.lt_of_lt_of_le (by have := World.block_lt_of_cell? _ _ hw126_0; first | rwa [add_block] at this | exact this) GW130.out))) _).trans (((cell_far (p := ⟨gb130, _, none⟩) (by first | exact Nat.ne_of_lt (Nat.lt_of_lt_of_le (by have := World.block_lt_of_cell? _ _ hw126_0; first | rwa [add_block] at this | exact this) GW130.out) | (rw [add_block]; exact Nat.ne_of_lt (Nat.lt_of_lt_of_le (by have := World.block_lt_of_cell? _ _ hw126_0; first | rwa [add_block] at this | exact this) GW130.out)) | (show (Addr.add _ _).block ≠ _; rw [add_block]; exact Nat.ne_of_lt (Nat.lt_of_lt_of_le (by have := World.block_lt_of_cell? _ _ hw126_0; first | rwa [add_block] at this | exact this) GW130.out)) | (dsimp only; exact Nat.ne_of_lt (Nat.lt_of_lt_of_le (by have := World.block_lt_of_cell? _ _ hw126_0; first | rwa [add_block] at this | exact this) GW130.out))) _).trans (((cell_far (p := ⟨gb130, _, none⟩) (by first | exact Nat.ne_of_lt (Nat.lt_of_lt_of_le (by have := World.block_lt_of_cell? _ _ hw126_0; first | rwa [add_block] at this | exact this) GW130.out) | (rw [add_block]; exact Nat.ne_of_lt (Nat.lt_of_lt_of_le (by have := World.block_lt_of_cell? _ _ hw126_0; first | rwa [add_block] at this | exact this) GW130.out)) | (show (Addr.add _ _).block ≠ _; rw [add_block]; exact Nat.ne_of_lt (Nat.lt_of_lt_of_le (by have := World.block_lt_of_cell? _ _ hw126_0; first | rwa [add_block] at this | exact this) GW130.out)) | (dsimp only; exact Nat.ne_of_lt (Nat.lt_of_lt_of_le (by have := World.block_lt_of_cell? _ _ hw126_0; first | rwa [add_block] at this | exact this) GW130.out))) _).trans (hHeld.2.1)))))))))))), ((cell_far (p := ⟨gb130, _, none⟩) (by first | exact Nat.ne_of_lt (Nat.lt_of_lt_of_le (by have := World.block_lt_of_cell? _ _ hw127_0; first | rwa [add_block] at this | exact this) GW130.out) | (rw [add_block]; exact Nat.ne_of_lt (Nat.lt_of_lt_of_le (by have := World.block_lt_of_cell? _ _ hw127_0; first | rwa [add_block] at this | exact this) GW130.out)) | (show (Addr.add _ _).block ≠ _; rw [add_block]; exact Nat.ne_of_lt (Nat.lt_of_lt_of_le (by have := World.block_lt_of_cell? _ _ hw127_0; first | rwa [add_block] at this | exact this) GW130.out)) | (dsimp only; exact Nat.ne_of_lt (Nat.lt_of_lt_of_le (by have := World.block_lt_of_cell? _ _ hw127_0; first | rwa [add_block] at this | exact this) GW130.out))) _).trans (((cell_far (p := ⟨gb130, _, none⟩) (by first | exact Nat.ne_of_lt (Nat.lt_of_lt_of_le (by have := World.block_lt_of_cell? _ _ hw127_0; first | rwa [add_block] at this | exact this) GW130.out) | (rw [add_block]; exact Nat.ne_of_lt (Nat.lt_of_lt_of_le (by have := World.block_lt_of_cell? _ _ hw127_0; first | rwa [add_block] at this | exact this) GW130.out)) | (show (Addr.add _ _).block ≠ _; rw [add_block]; exact Nat.ne_of_lt (Nat.lt_of_lt_of_le (by have := World.block_lt_of_cell? _ _ hw127_0; first | rwa [add_block] at this | exact this) GW130.out)) | (dsimp only; exact Nat.ne_of_lt (Nat.lt_of_lt_of_le (by have := World.block_lt_of_cell? _ _ hw127_0; first | rwa [add_block] at this | exact this) GW130.out))) _).trans (((cell_far (p := ⟨gb130, _, none⟩) (by first | exact Nat.ne_of_lt (Nat.lt_of_lt_of_le (by have := World.block_lt_of_cell? _ _ hw127_0; first | rwa [add_block] at this | exact this) GW130.out) | (rw [add_block]; exact Nat.ne_of_lt (Nat.lt_of_lt_of_le (by have := World.block_lt_of_cell? _ _ hw127_0; first | rwa [add_block] at this | exact this) GW130.out)) | (show (Addr.add _ _).block ≠ _; rw [add_block]; exact Nat.ne_of_lt (Nat.lt_of_lt_of_le (by have := World.block_lt_of_cell? _ _ hw127_0; first | rwa [add_block] at this | exact this) GW130.out)) | (dsimp only; exact Nat.ne_of_lt (Nat.lt_of_lt_of_le (by have := World.block_lt_of_cell? _ _ hw127_0; first | rwa [add_block] at this | exact this) GW130.out))) _).trans (((cell_far (p := ⟨gb130, _, none⟩) (by first | exact Nat.ne_of_lt (Nat.lt_of_lt_of_le (by have := World.block_lt_of_cell? _ _ hw127_0; first | rwa [add_block] at this | exact this) GW130.out) | (rw [add_block]; exact Nat.ne_of_lt (Nat.lt_of_lt_of_le (by have := World.block_lt_of_cell? _ _ hw127_0; first | rwa [add_block] at this | exact this) GW130.out)) | (show (Addr.add _ _).block ≠ _; rw [add_block]; exact Nat.ne_of_lt (Nat.lt_of_lt_of_le (by have := World.block_lt_of_cell? _ _ hw127_0; first | rwa [add_block] at this | exact this) GW130.out)) | (dsimp only; exact Nat.ne_of_lt (Nat.lt_of_lt_of_le (by have := World.block_lt_of_cell? _ _ hw127_0; first | rwa [add_block] at this | exact this) GW130.out))) _).trans (((cell_far (p := ⟨gb130, _, none⟩) (by first | exact Nat.ne_of_lt (Nat.lt_of_lt_of_le (by have := World.block_lt_of_cell? _ _ hw127_0; first | rwa [add_block] at this | exact this) GW130.out) | (rw [add_block]; exact Nat.ne_of_lt (Nat.lt_of_lt_of_le (by have := World.block_lt_of_cell? _ _ hw127_0; first | rwa [add_block] at this | exact this) GW130.out)) | (show (Addr.add _ _).block ≠ _; rw [add_block]; exact Nat.ne_of_lt (Nat.lt_of_lt_of_le (by have := World.block_lt_of_cell? _ _ hw127_0; first | rwa [add_block] at this | exact this) GW130.out)) | (dsimp only; exact Nat.ne_of_lt (Nat.lt_of_lt_of_le (by have := World.block_lt_of_cell? _ _ hw127_0; first | rwa [add_block] at this | exact this) GW130.out))) _).trans (((cell_far (p := ⟨gb130, _, none⟩) (by first | exact Nat.ne_of_lt (Nat.lt_of_lt_of_le (by have := World.block_lt_of_cell? _ _ hw127_0; first | rwa [add_block] at this | exact this) GW130.out) | (rw [add_block]; exact Nat.ne_of_lt (Nat.lt_of_lt_of_le (by have := World.block_lt_of_cell? _ _ hw127_0; first | rwa [add_block] at this | exact this) GW130.out)) | (show (Addr.add _ _).block ≠ _; rw [add_block]; exact Nat.ne_of_lt (Nat.lt_of_lt_of_le (by have := World.block_lt_of_cell? _ _ hw127_0; first | rwa [add_block] at this | exact this) GW130.out)) | (dsimp only; exact Nat.ne_of_lt (Nat.lt_of_lt_of_le (by have := World.block_lt_of_cell? _ _ hw127_0; first | rwa [add_block] at this | exact this) GW130.out))) _).trans (hHeld.2.2.1)))))))))))), ((cell_far (p := ⟨gb130, _, none⟩) (by first | exact Nat.ne_of_lt (Nat.lt_of_lt_of_le (by have := World.block_lt_of_cell? _ _ hw128_0; first | rwa [add_block] at this | exact this) GW130.out) | (rw [add_block]; exact Nat.ne_of_lt (Nat.lt_of_lt_of_le (by have := World.block_lt_of_cell? _ _ hw128_0; first | rwa [add_block] at this | exact this) GW130.out)) | (show (Addr.add _ _).block ≠ _; rw [add_block]; exact Nat.ne_of_lt (Nat.lt_of_lt_of_le (by have := World.block_lt_of_cell? _ _ hw128_0; first | rwa [add_block] at this | exact this) GW130.out)) | (dsimp only; exact Nat.ne_of_lt (Nat.lt_of_lt_of_le (by have := World.block_lt_of_cell? _ _ hw128_0; first | rwa [add_block] at this | exact this) GW130.out))) _).trans (((cell_far (p := ⟨gb130, _, none⟩) (by first | exact Nat.ne_of_lt (Nat.lt_of_lt_of_le (by have := World.block_lt_of_cell? _ _ hw128_0; first | rwa [add_block] at this | exact this) GW130.out) | (rw [add_block]; exact Nat.ne_of_lt (Nat.lt_of_lt_of_le (by have := World.block_lt_of_cell? _ _ hw128_0; first | rwa [add_block] at this | exact this) GW130.out)) | (show (Addr.add _ _).block ≠ _; rw [add_block]; exact Nat.ne_of_lt (Nat.lt_of_lt_of_le (by have := World.block_lt_of_cell? _ _ hw128_0; first | rwa [add_block] at this | exact this) GW130.out)) | (dsimp only; exact Nat.ne_of_lt (Nat.lt_of_lt_of_le (by have := World.block_lt_of_cell? _ _ hw128_0; first | rwa [add_block] at this | exact this) GW130.out))) _).trans (((cell_far (p := ⟨gb130, _, none⟩) (by first | exact Nat.ne_of_lt (Nat.lt_of_lt_of_le (by have := World.block_lt_of_cell? _ _ hw128_0; first | rwa [add_block] at this | exact this) GW130.out) | (rw [add_block]; exact Nat.ne_of_lt (Nat.lt_of_lt_of_le (by have := World.block_lt_of_cell? _ _ hw128_0; first | rwa [add_block] at this | exact this) GW130.out)) | (show (Addr.add _ _).block ≠ _; rw [add_block]; exact Nat.ne_of_lt (Nat.lt_of_lt_of_le (by have := World.block_lt_of_cell? _ _ hw128_0; first | rwa [add_block] at this | exact this) GW130.out)) | (dsimp only; exact Nat.ne_of_lt (Nat.lt_of_lt_of_le (by have := World.block_lt_of_cell? _ _ hw128_0; first | rwa [add_block] at this | exact this) GW130.out))) _).trans (((cell_far (p := ⟨gb130, _, none⟩) (by first | exact Nat.ne_of_lt (Nat.lt_of_lt_of_le (by have := World.block_lt_of_cell? _ _ hw128_0; first | rwa [add_block] at this | exact this) GW130.out) | (rw [add_block]; exact Nat.ne_of_lt (Nat.lt_of_lt_of_le (by have := World.block_lt_of_cell? _ _ hw128_0; first | rwa [add_block] at this | exact this) GW130.out)) | (show (Addr.add _ _).block ≠ _; rw [add_block]; exact Nat.ne_of_lt (Nat.lt_of_lt_of_le (by have := World.block_lt_of_cell? _ _ hw128_0; first | rwa [add_block] at this | exact this) GW130.out)) | (dsimp only; exact Nat.ne_of_lt (Nat.lt_of_lt_of_le (by have := World.block_lt_of_cell? _ _ hw128_0; first | rwa [add_block] at this | exact this) GW130.out))) _).trans (((cell_far (p := ⟨gb130, _, none⟩) (by first | exact Nat.ne_of_lt (Nat.lt_of_lt_of_le (by have := World.block_lt_of_cell? _ _ hw128_0; first | rwa [add_block] at this | exact this) GW130.out) | (rw [add_block]; exact Nat.ne_of_lt (Nat.lt_of_lt_of_le (by have := World.block_lt_of_cell? _ _ hw128_0; first | rwa [add_block] at this | exact this) GW130.out)) | (show (Addr.add _ _).block ≠ _; rw [add_block]; exact Nat.ne_of_lt (Nat.lt_of_lt_of_le (by have := World.block_lt_of_cell? _ _ hw128_0; first | rwa [add_block] at this | exact this) GW130.out)) | (dsimp only; exact Nat.ne_of_lt (Nat.lt_of_lt_of_le (by have := World.block_lt_of_cell? _ _ hw128_0; first | rwa [add_block] at this | exact this) GW130.out))) _).trans (((cell_far (p := ⟨gb130, _, none⟩) (by first | exact Nat.ne_of_lt (Nat.lt_of_lt_of_le (by have := World.block_lt_of_cell? _ _ hw128_0; first | rwa [add_block] at this | exact this) GW130.out) | (rw [add_block]; exact Nat.ne_of_lt (Nat.lt_of_lt_of_le (by have := World.block_lt_of_cell? _ _ hw128_0; first | rwa [add_block] at this | exact this) GW130.out)) | (show (Addr.add _ _).block ≠ _; rw [add_block]; exact Nat.ne_of_lt (Nat.lt_of_lt_of_le (by have := World.block_lt_of_cell? _ _ hw128_0; first | rwa [add_block] at this | exact this) GW130.out)) | (dsimp only; exact Nat.ne_of_lt (Nat.lt_of_lt_of_le (by have := World.block_lt_of_cell? _ _ hw128_0; first | rwa [add_block] at this | exact this) GW130.out))) _).trans (hHeld.2.2.2.1)))))))))))), ((cell_far (p := ⟨gb130, _, none⟩) (by first | exact Nat.ne_of_lt (Nat.lt_of_lt_of_le (by have := World.block_lt_of_cell? _ _ hw129_0; first | rwa [add_block] at this | exact this) GW130.out) | (rw [add_block]; exact Nat.ne_of_lt (Nat.lt_of_lt_of_le (by have := World.block_lt_of_cell? _ _ hw129_0; first | rwa [add_block] at this | exact this) GW130.out)) | (show (Addr.add _ _).block ≠ _; rw [add_block]; exact Nat.ne_of_lt (Nat.lt_of_lt_of_le (by have := World.block_lt_of_cell? _ _ hw129_0; first | rwa [add_block] at this | exact this) GW130.out)) | (dsimp only; exact Nat.ne_of_lt (Nat.lt_of_lt_of_le (by have := World.block_lt_of_cell? _ _ hw129_0; first | rwa [add_block] at this | exact this) GW130.out))) _).trans (((cell_far (p := ⟨gb130, _, none⟩) (by first | exact Nat.ne_of_lt (Nat.lt_of_lt_of_le (by have := World.block_lt_of_cell? _ _ hw129_0; first | rwa [add_block] at this | exact this) GW130.out) | (rw [add_block]; exact Nat.ne_of_lt (Nat.lt_of_lt_of_le (by have := World.block_lt_of_cell? _ _ hw129_0; first | rwa [add_block] at this | exact this) GW130.out)) | (show (Addr.add _ _).block ≠ _; rw [add_block]; exact Nat.ne_of_lt (Nat.lt_of_lt_of_le (by have := World.block_lt_of_cell? _ _ hw129_0; first | rwa [add_block] at this | exact this) GW130.out)) | (dsimp only; exact Nat.ne_of_lt (Nat.lt_of_lt_of_le (by have := World.block_lt_of_cell? _ _ hw129_0; first | rwa [add_block] at this | exact this) GW130.out))) _).trans (((cell_far (p := ⟨gb130, _, none⟩) (by first | exact Nat.ne_of_lt (Nat.lt_of_lt_of_le (by have := World.block_lt_of_cell? _ _ hw129_0; first | rwa [add_block] at this | exact this) GW130.out) | (rw [add_block]; exact Nat.ne_of_lt (Nat.lt_of_lt_of_le (by have := World.block_lt_of_cell? _ _ hw129_0; first | rwa [add_block] at this | exact this) GW130.out)) | (show (Addr.add _ _).block ≠ _; rw [add_block]; exact Nat.ne_of_lt (Nat.lt_of_lt_of_le (by have := World.block_lt_of_cell? _ _ hw129_0; first | rwa [add_block] at this | exact this) GW130.out)) | (dsimp only; exact Nat.ne_of_lt (Nat.lt_of_lt_of_le (by have := World.block_lt_of_cell? _ _ hw129_0; first | rwa [add_block] at this | exact this) GW130.out))) _).trans (((cell_far (p := ⟨gb130, _, none⟩) (by first | exact Nat.ne_of_lt (Nat.lt_of_lt_of_le (by have := World.block_lt_of_cell? _ _ hw129_0; first | rwa [add_block] at this | exact this) GW130.out) | (rw [add_block]; exact Nat.ne_of_lt (Nat.lt_of_lt_of_le (by have := World.block_lt_of_cell? _ _ hw129_0; first | rwa [add_block] at this | exact this) GW130.out)) | (show (Addr.add _ _).block ≠ _; rw [add_block]; exact Nat.ne_of_lt (Nat.lt_of_lt_of_le (by have := World.block_lt_of_cell? _ _ hw129_0; first | rwa [add_block] at this | exact this) GW130.out)) | (dsimp only; exact Nat.ne_of_lt (Nat.lt_of_lt_of_le (by have := World.block_lt_of_cell? _ _ hw129_0; first | rwa [add_block] at this | exact this) GW130.out))) _).trans (((cell_far (p := ⟨gb130, _, none⟩) (by first | exact Nat.ne_of_lt (Nat.lt_of_lt_of_le (by have := World.block_lt_of_cell? _ _ hw129_0; first | rwa [add_block] at this | exact this) GW130.out) | (rw [add_block]; exact Nat.ne_of_lt (Nat.lt_of_lt_of_le (by have := World.block_lt_of_cell? _ _ hw129_0; first | rwa [add_block] at this | exact this) GW130.out)) | (show (Addr.add _ _).block ≠ _; rw [add_block]; exact Nat.ne_of_lt (Nat.lt_of_lt_of_le (by have := World.block_lt_of_cell? _ _ hw129_0; first | rwa [add_block] at this | exact this) GW130.out)) | (dsimp only; exact Nat.ne_of_lt (Nat.lt_of_lt_of_le (by have := World.block_lt_of_cell? _ _ hw129_0; first | rwa [add_block] at this | exact this) GW130.out))) _).trans (((cell_far (p := ⟨gb130, _, none⟩) (by first | exact Nat.ne_of_lt (Nat.lt_of_lt_of_le (by have := World.block_lt_of_cell? _ _ hw129_0; first | rwa [add_block] at this | exact this) GW130.out) | (rw [add_block]; exact Nat.ne_of_lt (Nat.lt_of_lt_of_le (by have := World.block_lt_of_cell? _ _ hw129_0; first | rwa [add_block] at this | exact this) GW130.out)) | (show (Addr.add _ _).block ≠ _; rw [add_block]; exact Nat.ne_of_lt (Nat.lt_of_lt_of_le (by have := World.block_lt_of_cell? _ _ hw129_0; first | rwa [add_block] at this | exact this) GW130.out)) | (dsimp only; exact Nat.ne_of_lt (Nat.lt_of_lt_of_le (by have := World.block_lt_of_cell? _ _ hw129_0; first | rwa [add_block] at this | exact this) GW130.out))) _).trans (hHeld.2.2.2.2))))))))))))⟩ (fun hHeld => ?_)
                  clear hK K
                  refine done_ (done_of HT_.out (by kernel_rfl)) ?_
                  try go_wp2
                  go_loopg [4] kj1 (fun kq v4 w' => ∃ (x4_2 : Int) (x131004_2 : List (S31)) (u131004 : Value), v4 = .int .i64 x4_2 ∧ Aside0 (ask_Answer.l0 kq l0 x4_2 (rd l0 0) ((rd l0 1) == 1) (rd l0 2) (rd l0 3) x131004_2 ((rd l0 4) == 1) = some (r1, r2, r3, r4, r5, r6)) ∧ Aside0 (kq ≤ kj1) ∧ Aside0 (Kd.R k31 31 w' w.heap.size (fun _ => True) u131004 x131004_2) ∧ Aside0 (w'.heap[gb124]? = some (.cells #[.int .i64 0, .bool false, .int .i64 0, .int .i64 0, (.slice none 0 0), .bool false] 26 (0, 0))) ∧ Aside0 (w'.heap[gb130]? = some (.cells #[.int .i64 (rd l0 0), .bool ((rd l0 1) == 1), .int .i64 (rd l0 2), .int .i64 (rd l0 3), u131004, .bool ((rd l0 4) == 1)] 26 (0, 0))) ∧ Aside0 (Below w.heap.size w w'))
                  case atStart => exact ⟨(5), (([] : List (S31))), (.slice none 0 0), (by first | rfl | (simp; done) | (simp [*]; done)), H', ⟨Nat.le_refl _⟩, ⟨by first | exact Kd.R_nil _ _ _ _ _ | exact Kd.N_nil _ _ _ _ _ | exact Kd.V_nil _ _ _ _ _ | exact Kd.Q_nil _ _ _ _ _ | exact Kd.S_nil _ _ _ _ _⟩, ⟨by (with_reducible repeat (first | refine blk_drewN ?_ _ | refine blk_drew ?_ | refine blk_alloc ?_ _)); refine blk_far ?_ NB124_130.out _; (with_reducible repeat (first | refine blk_drewN ?_ _ | refine blk_drew ?_ | refine blk_alloc ?_ _)); refine blk_far ?_ NB124_130.out _; (with_reducible repeat (first | refine blk_drewN ?_ _ | refine blk_drew ?_ | refine blk_alloc ?_ _)); refine blk_far ?_ NB124_130.out _; (with_reducible repeat (first | refine blk_drewN ?_ _ | refine blk_drew ?_ | refine blk_alloc ?_ _)); refine blk_far ?_ NB124_130.out _; (with_reducible repeat (first | refine blk_drewN ?_ _ | refine blk_drew ?_ | refine blk_alloc ?_ _)); refine blk_far ?_ NB124_130.out _; (with_reducible repeat (first | refine blk_drewN ?_ _ | refine blk_drew ?_ | refine blk_alloc ?_ _)); refine blk_far ?_ NB124_130.out _; (with_reducible repeat (first | refine blk_drewN ?_ _ | refine blk_drew ?_ | refine blk_alloc ?_ _)); exact BK124.out⟩, ⟨by (with_reducible repeat (first | refine blk_drewN ?_ _ | refine blk_drew ?_ | refine blk_alloc ?_ _)); refine blk_put (cs := #[.int .i64 (rd l0 0), .bool ((rd l0 1) == 1), .int .i64 (rd l0 2), .int .i64 (rd l0 3), .slice none 0 0, .bool false]) ?_ 5 _ rfl; (with_reducible repeat (first | refine blk_drewN ?_ _ | refine blk_drew ?_ | refine blk_alloc ?_ _)); refine blk_put (cs := #[.int .i64 (rd l0 0), .bool ((rd l0 1) == 1), .int .i64 (rd l0 2), .int .i64 (rd l0 3), .slice none 0 0, .bool false]) ?_ 4 _ rfl; (with_reducible repeat (first | refine blk_drewN ?_ _ | refine blk_drew ?_ | refine blk_alloc ?_ _)); refine blk_put (cs := #[.int .i64 (rd l0 0), .bool ((rd l0 1) == 1), .int .i64 (rd l0 2), .int .i64 0, .slice none 0 0, .bool false]) ?_ 3 _ rfl; (with_reducible repeat (first | refine blk_drewN ?_ _ | refine blk_drew ?_ | refine blk_alloc ?_ _)); refine blk_put (cs := #[.int .i64 (rd l0 0), .bool ((rd l0 1) == 1), .int .i64 0, .int .i64 0, .slice none 0 0, .bool false]) ?_ 2 _ rfl; (with_reducible repeat (first | refine blk_drewN ?_ _ | refine blk_drew ?_ | refine blk_alloc ?_ _)); refine blk_put (cs := #[.int .i64 (rd l0 0), .bool false, .int .i64 0, .int .i64 0, .slice none 0 0, .bool false]) ?_ 1 _ rfl; (with_reducible repeat (first | refine blk_drewN ?_ _ | refine blk_drew ?_ | refine blk_alloc ?_ _)); refine blk_put (cs := #[.int .i64 0, .bool false, .int .i64 0, .int .i64 0, .slice none 0 0, .bool false]) ?_ 0 _ rfl; (with_reducible repeat (first | refine blk_drewN ?_ _ | refine blk_drew ?_ | refine blk_alloc ?_ _)); exact BK130.out⟩, ⟨by repeat (first | (with_reducible first | exact HB.out | apply below_alloc | apply pw_below_drewN | apply below_drew1 | refine below_set ?_ GE124.out | refine below_set ?_ GE130.out) | exact HB.out)⟩⟩
                  case round =>
                    clear H'
                    try clear c1
                    try clear p1
                    try clear q1
                    try clear hx1
                    try clear qi1
                    try clear p2
                    try clear c4
                    try clear c4b0
                    try clear c4b1
                    try clear c5
                    try clear c7
                    try clear c7b0
                    try clear c7b1
                    try clear c8
                    try clear c8b0
                    try clear c8b1
                    try clear c9
                    try clear c9b0
                    try clear c9b1
                    try clear c10
                    try clear c10b0
                    try clear c10b1
                    try clear c11
                    try clear c11b0
                    try clear c11b1
                    try clear p12
                    try clear q12
                    try clear hx12
                    try clear qi12
                    try clear hcz6_0
                    try clear hcz6_1
                    try clear hcz6_2
                    try clear hcz6_3
                    try clear hcz6_4
                    try clear hcz6_5
                    try clear hfz6_0
                    try clear hfz6_1
                    try clear hfz6_2
                    try clear hfz6_3
                    try clear hfz6_4
                    try clear hfz6_5
                    try clear hx125_0
                    try clear hx126_0
                    try clear hx127_0
                    try clear hx128_0
                    try clear hx129_0
                    try clear p125
                    try clear p126
                    try clear p127
                    try clear p128
                    try clear p129
                    try clear p2
                    try clear q125
                    try clear q126
                    try clear q127
                    try clear q128
                    try clear q129
                    obtain ⟨x4_2, x131004_2, u131004, rfl, HA, HK2, HO_131004, BK124, BK130, HB⟩ := hrel
                    cases gk with
                    | zero => exact absurd HA.out (by simp [ask_Answer.l0])
                    | succ k2 =>
                      have H := HA.out
                      clear HA
                      simp only [ask_Answer.l0] at H
                      by_cases c20 : x4_2 < (l0.length : Int)
                      · rw [if_pos c20] at H
                        have c20b0 : decide (x4_2 < (l0.length : Int)) = true := decide_eq_true c20
                        clear c20
                        by_cases c21 : 0 ≤ x4_2
                        · rw [if_pos c21] at H
                          have c21b0 : decide (0 ≤ x4_2) = true := decide_eq_true c21
                          clear c21
                          obtain ⟨ji22, hji22⟩ : ∃ j_ : Int, (wrap64 (x4_2 + 1)) = j_ := ⟨_, rfl⟩
                          replace H : (if 0 ≤ (ji22) then (if (ji22) < (l0.length : Int) then (if x131004_2.length < 8796093022208 then (ask_Answer.l0 k2 l0 (wrap64 (x4_2 + 2)) (rd l0 0) ((rd l0 1) == 1) (rd l0 2) (rd l0 3) (x131004_2 ++ [(⟨rd l0 x4_2, rd l0 (ji22)⟩ : S31)]) ((rd l0 4) == 1)) else (none)) else (none)) else (none)) = some (r1, r2, r3, r4, r5, r6) := by first | (rw [hji22] at H; exact H) | (simp only [hji22] at H ⊢; exact H)
                          have hji22w : (IntKind.i64.wrap (x4_2 + 1)) = ji22 := (i64_w _).trans hji22
                          by_cases c23 : 0 ≤ (ji22)
                          · rw [if_pos c23] at H
                            have c23b0 : decide (0 ≤ (ji22)) = true := decide_eq_true c23
                            clear c23
                            by_cases c24 : (ji22) < (l0.length : Int)
                            · rw [if_pos c24] at H
                              have c24b0 : decide ((ji22) < (l0.length : Int)) = true := decide_eq_true c24
                              clear c24
                              by_cases c25 : x131004_2.length < 8796093022208
                              · rw [if_pos c25] at H
                                have LMc25 := Aside0.mk c25
                                clear c25
                                obtain ⟨y133, hy133⟩ : ∃ y_ : List (S31), y_ = (x131004_2 ++ [(⟨rd l0 x4_2, rd l0 (ji22)⟩ : S31)]) := ⟨_, rfl⟩
                                replace H : (ask_Answer.l0 k2 l0 (wrap64 (x4_2 + 2)) (rd l0 0) ((rd l0 1) == 1) (rd l0 2) (rd l0 3) y133 ((rd l0 4) == 1)) = some (r1, r2, r3, r4, r5, r6) := by first | (rw [hy133]; with_reducible exact H) | (have H2_ := (Option.bind_some _ _).symm.trans H; rw [hy133]; with_reducible exact H2_) | (have H2_ := (Option.bind_some _ _).symm.trans H; with_reducible exact H2_) | with_reducible exact H | (rw [hy133]; exact H) | exact H
                                have Ny133 := Aside0.mk hy133
                                clear hy133
                                have H' := Aside0.mk H
                                clear H
                                try go_wp2
                                have n0_ := Aside0.mk (Kd.R_drew HO_131004.out)
                                have n1_ := Aside0.mk (blk_drew BK124.out)
                                have n2_ := Aside0.mk (blk_drew BK130.out)
                                have n3_ := Aside0.mk (below_drew1 HB.out)
                                clear HO_131004
                                clear BK124
                                clear BK130
                                clear HB
                                have HO_131004 := n0_
                                have BK124 := n1_
                                have BK130 := n2_
                                have HB := n3_
                                clear n0_ n1_ n2_ n3_
                                have p131 : 0 ≤ (x4_2 : Int) := of_decide_eq_true (by first | (with_reducible assumption) | assumption)
                                have q131 : x4_2 < (l0.length : Int) := of_decide_eq_true (by first | (with_reducible assumption) | assumption)
                                obtain ⟨ad131, e131, hx131_0⟩ := Kd.at_int HR0.out x4_2 p131 q131
                                have hw131_0 := hx131_0
                                obtain rfl : ad125 = ad131 := (by injection e131)
                                replace hx131_0 := (HB.out.cell (World.block_lt_of_cell? w _ hx131_0)).trans hx131_0
                                replace p131 := eq_true p131
                                replace q131 := eq_true q131
                                have p132 : 0 ≤ ((ji22) : Int) := of_decide_eq_true (by first | (with_reducible assumption) | assumption)
                                have q132 : (ji22) < (l0.length : Int) := of_decide_eq_true (by first | (with_reducible assumption) | assumption)
                                obtain ⟨ad132, e132, hx132_0⟩ := Kd.at_int HR0.out (ji22) p132 q132
                                have hw132_0 := hx132_0
                                obtain rfl : ad125 = ad132 := (by injection e132)
                                replace hx132_0 := (HB.out.cell (World.block_lt_of_cell? w _ hx132_0)).trans hx132_0
                                replace p132 := eq_true p132
                                replace q132 := eq_true q132
                                refine start_ (n := 16) (S := fun w' => w'.cell? ⟨gb130, 0, none⟩ = some (.int .i64 (rd l0 0)) ∧ w'.cell? ⟨gb130, 1, none⟩ = some (.bool ((rd l0 1) == 1)) ∧ w'.cell? ⟨gb130, 2, none⟩ = some (.int .i64 (rd l0 2)) ∧ w'.cell? ⟨gb130, 3, none⟩ = some (.int .i64 (rd l0 3)) ∧ w'.cell? ⟨gb130, 4, none⟩ = some (u131004) ∧ w'.cell? ⟨gb130, 5, none⟩ = some (.bool ((rd l0 4) == 1)) ∧ w'.cell? (ad125.add (x4_2).toNat) = some (.int .i64 (rd l0 x4_2)) ∧ w'.cell? (ad125.add ((ji22)).toNat) = some (.int .i64 (rd l0 (ji22)))) (ds := [15]) #[false, false, false, false, false, false, false, false, false, false, false, false, false, false, false, false] (by kernel_rfl) rfl rfl ⟨(blk_cell BK130.out 0).trans rfl, (blk_cell BK130.out 1).trans rfl, (blk_cell BK130.out 2).trans rfl, (blk_cell BK130.out 3).trans rfl, (blk_cell BK130.out 4).trans rfl, (blk_cell BK130.out 5).trans rfl, ((HB.out.cell (World.block_lt_of_cell? w _ hw131_0)).trans hw131_0), ((HB.out.cell (World.block_lt_of_cell? w _ hw132_0)).trans hw132_0)⟩ (fun hHeld => ?_); refine with_tabW ask_Answer.tab7 ask_Answer.bits7 (fun HT_ HW_ => ?_)
                                generalize wr.drew = w26 at HO_131004 BK124 BK130 HB hx131_0 hx132_0 hHeld ⊢
                                refine pure_ (i := 0) (N := some 39) (v := ?_) (a' := ?_) #[true, false, false, false, false, false, false, false, false, false, false, false, false, false, false, false] rfl rfl (any_of HT_.out (by kernel_rfl)) (fun _ _ _ h => h) (Or.inl ⟨by rfl, ?_⟩) ?_ ?_
                                rotate_left
                                · intro w'
                                  go_simp
                                  with_reducible rfl
                                rotate_left
                                · simp only [Act.put, List.setIfInBounds_toArray, List.set_cons_zero, List.set_cons_succ, i64_w, i32_w]
                                  rfl
                                refine pure_ (i := 2) (N := some 41) (v := ?_) (a' := ?_) #[true, false, true, false, false, false, false, false, false, false, false, false, false, false, false, false] rfl rfl (any_of HT_.out (by kernel_rfl)) (fun _ _ _ h => h) (Or.inl ⟨by rfl, ?_⟩) ?_ ?_
                                rotate_left
                                · intro w'
                                  go_simp
                                  with_reducible rfl
                                rotate_left
                                · simp only [Act.put, List.setIfInBounds_toArray, List.set_cons_zero, List.set_cons_succ, i64_w, i32_w]
                                  rfl
                                refine pure_ (i := 3) (N := some 42) (v := ?_) (a' := ?_) #[true, false, true, true, false, false, false, false, false, false, false, false, false, false, false, false] rfl rfl (any_of HT_.out (by kernel_rfl)) (fun _ _ _ h => h) (Or.inl ⟨by rfl, ?_⟩) ?_ ?_
                                rotate_left
                                · intro w'
                                  go_simp
                                  with_reducible rfl
                                rotate_left
                                · simp only [Act.put, List.setIfInBounds_toArray, List.set_cons_zero, List.set_cons_succ, i64_w, i32_w]
                                  rfl
                                refine pure_ (i := 4) (N := some 43) (v := ?_) (a' := ?_) #[true, false, true, true, true, false, false, false, false, false, false, false, false, false, false, false] rfl rfl (any_of HT_.out (by kernel_rfl)) (fun _ _ _ h => h) (Or.inl ⟨by rfl, ?_⟩) ?_ ?_
                                rotate_left
                                · intro w'
                                  go_simp
                                  with_reducible rfl
                                rotate_left
                                · simp only [Act.put, List.setIfInBounds_toArray, List.set_cons_zero, List.set_cons_succ, i64_w, i32_w]
                                  rfl
                                refine pure_ (i := 6) (N := some 45) (v := ?_) (a' := ?_) #[true, false, true, true, true, false, true, false, false, false, false, false, false, false, false, false] rfl rfl (any_of HT_.out (by kernel_rfl)) (fun _ _ _ h => h) (Or.inl ⟨by rfl, ?_⟩) ?_ ?_
                                rotate_left
                                · intro w'
                                  go_simp
                                  with_reducible rfl
                                rotate_left
                                · simp only [Act.put, List.setIfInBounds_toArray, List.set_cons_zero, List.set_cons_succ, i64_w, i32_w]
                                  rfl
                                refine pure_ (i := 7) (N := some 46) (v := ?_) (a' := ?_) #[true, false, true, true, true, false, true, true, false, false, false, false, false, false, false, false] rfl rfl (any_of HT_.out (by kernel_rfl)) (fun _ _ _ h => h) (Or.inl ⟨by rfl, ?_⟩) ?_ ?_
                                rotate_left
                                · intro w'
                                  go_simp
                                  with_reducible rfl
                                rotate_left
                                · simp only [Act.put, List.setIfInBounds_toArray, List.set_cons_zero, List.set_cons_succ, i64_w, i32_w]
                                  rfl
                                refine pure_ (i := 8) (N := some 47) (v := ?_) (a' := ?_) #[true, false, true, true, true, false, true, true, true, false, false, false, false, false, false, false] rfl rfl (any_of HT_.out (by kernel_rfl)) (fun _ _ _ h => h) (Or.inl ⟨by rfl, ?_⟩) ?_ ?_
                                rotate_left
                                · intro w'
                                  go_simp
                                  with_reducible rfl
                                rotate_left
                                · simp only [Act.put, List.setIfInBounds_toArray, List.set_cons_zero, List.set_cons_succ, i64_w, i32_w]
                                  rfl
                                refine pure_ (i := 9) (N := some 48) (v := ?_) (a' := ?_) #[true, false, true, true, true, false, true, true, true, true, false, false, false, false, false, false] rfl rfl (any_of HT_.out (by kernel_rfl)) (fun _ _ _ h => h) (Or.inl ⟨by rfl, ?_⟩) ?_ ?_
                                rotate_left
                                · intro w'
                                  go_simp
                                  with_reducible rfl
                                rotate_left
                                · simp only [Act.put, List.setIfInBounds_toArray, List.set_cons_zero, List.set_cons_succ, i64_w, i32_w]
                                  rfl
                                refine take_ (i := 1) (N := some 40) (v := ?_) (a' := ?_) #[true, true, true, true, true, false, true, true, true, true, false, false, false, false, false, false] rfl rfl (take_ofW HT_.out HW_.out (by kernel_rfl)) (fun _ _ _ h => h) (Or.inl ⟨by rfl, ?_⟩) hHeld ?_ ?_
                                rotate_left
                                · rintro w' ⟨s0, s1, s2, s3, s4, s5, s6, s7⟩
                                  go_simp
                                  with_reducible rfl
                                rotate_left
                                · simp only [Act.put, List.setIfInBounds_toArray, List.set_cons_zero, List.set_cons_succ, i64_w, i32_w]
                                  rfl
                                refine take_ (i := 5) (N := some 44) (v := ?_) (a' := ?_) #[true, true, true, true, true, true, true, true, true, true, false, false, false, false, false, false] rfl rfl (take_ofW HT_.out HW_.out (by kernel_rfl)) (fun _ _ _ h => h) (Or.inl ⟨by rfl, ?_⟩) hHeld ?_ ?_
                                rotate_left
                                · rintro w' ⟨s0, s1, s2, s3, s4, s5, s6, s7⟩
                                  go_simp
                                  with_reducible rfl
                                rotate_left
                                · simp only [Act.put, List.setIfInBounds_toArray, List.set_cons_zero, List.set_cons_succ, i64_w, i32_w]
                                  rfl
                                refine take_ (i := 10) (N := some 49) (v := ?_) (a' := ?_) #[true, true, true, true, true, true, true, true, true, true, true, false, false, false, false, false] rfl rfl (take_ofW HT_.out HW_.out (by kernel_rfl)) (fun _ _ _ h => h) (Or.inl ⟨by rfl, ?_⟩) hHeld ?_ ?_
                                rotate_left
                                · rintro w' ⟨s0, s1, s2, s3, s4, s5, s6, s7⟩
                                  go_simp
                                  with_reducible rfl
                                rotate_left
                                · simp only [Act.put, List.setIfInBounds_toArray, List.set_cons_zero, List.set_cons_succ, i64_w, i32_w]
                                  rfl
                                refine pure_ (i := 11) (N := some 50) (v := ?_) (a' := ?_) #[true, true, true, true, true, true, true, true, true, true, true, true, false, false, false, false] rfl rfl (any_of HT_.out (by kernel_rfl)) (fun _ _ _ h => h) (Or.inl ⟨by rfl, ?_⟩) ?_ ?_
                                rotate_left
                                · intro w'
                                  go_simp
                                  with_reducible rfl
                                rotate_left
                                · simp only [Act.put, List.setIfInBounds_toArray, List.set_cons_zero, List.set_cons_succ, i64_w, i32_w]
                                  rfl
                                refine one_ (i := 12) (N := some 51) #[true, true, true, true, true, true, true, true, true, true, true, true, true, false, false, false] rfl rfl (one_of HT_.out (by kernel_rfl)) (by decide) (fun K hK => ?_)
                                refine value_ (w1 := ?_) (v := ?_) (by rfl) rfl ?_ ?_
                                rotate_left 2
                                · go_simp
                                  constructor
                                  · rfl
                                  · rfl
                                refine hK.out _ _ ⟨(blk_cell (blk_alloc BK130.out _) 0).trans rfl, (blk_cell (blk_alloc BK130.out _) 1).trans rfl, (blk_cell (blk_alloc BK130.out _) 2).trans rfl, (blk_cell (blk_alloc BK130.out _) 3).trans rfl, (blk_cell (blk_alloc BK130.out _) 4).trans rfl, (blk_cell (blk_alloc BK130.out _) 5).trans rfl, (World.cell?_alloc_lt _ _ _ (World.block_lt_of_cell? _ _ (((HB.out.cell (World.block_lt_of_cell? w _ hw131_0)).trans hw131_0)))).trans (((HB.out.cell (World.block_lt_of_cell? w _ hw131_0)).trans hw131_0)), (World.cell?_alloc_lt _ _ _ (World.block_lt_of_cell? _ _ (((HB.out.cell (World.block_lt_of_cell? w _ hw132_0)).trans hw132_0)))).trans (((HB.out.cell (World.block_lt_of_cell? w _ hw132_0)).trans hw132_0))⟩ (fun hHeld => ?_)
                                clear hK K
                                refine norm_ (a' := ?_) ?_ ?_
                                rotate_left
                                · show Act.put _ (some 51) _ = _
                                  simp only [Act.put, List.setIfInBounds_toArray, List.set_cons_zero, List.set_cons_succ, i64_w, i32_w]
                                  rfl
                                refine one_ (i := 13) (N := some 52) #[true, true, true, true, true, true, true, true, true, true, true, true, true, true, false, false] rfl rfl (one_of HT_.out (by kernel_rfl)) (by decide) (fun K hK => ?_)
                                refine Kd.R_append_step k31 (w0 := w) w.heap.size (by rfl) (.tmp 40) (.tmp 51) 24 31 (.agg #[(.int .i64 0), (.int .i64 0)]) 16 rfl Tryz.underlying24 info31 rfl (by decide) (by omega) u131004 x131004_2 (⟨rd l0 x4_2, rd l0 (ji22)⟩ : S31) [.int .i64 (rd l0 x4_2), .int .i64 (rd l0 (ji22))] (fun _ => True) (fun _ => False) rfl rfl ?aP (fun _ hk => hk.elim) ?aF ?aO ?aB ?aS ?aL ?_
                                (case aP => exact k31_mkM _ _ _ (⟨rd l0 x4_2, rd l0 (ji22)⟩ : S31))
                                (case aB => exact (by repeat (first | (with_reducible first | exact HB.out | apply below_alloc | apply pw_below_drewN | apply below_drew1 | refine below_set ?_ GE124.out | refine below_set ?_ GE130.out) | exact HB.out)))
                                (case aF => exact (fun _ _ => trivial))
                                (case aO => exact (by (with_reducible repeat (first | apply Kd.R_alloc | apply Kd.R_drewN | apply Kd.R_drew)); exact HO_131004.out))
                                (case aS => exact (below_size (by repeat (first | (with_reducible first | exact HB.out | apply below_alloc | apply pw_below_drewN | apply below_drew1 | refine below_set ?_ GE124.out | refine below_set ?_ GE130.out) | exact HB.out))))
                                (case aL => have := LMc25.out; omega)
                                intro v134 w27 ho hb hg hat
                                rw [← Ny133.out] at ho
                                have n0_ := Aside0.mk (blk_grown (g := gb124) (o := .cells #[.int .i64 0, .bool false, .int .i64 0, .int .i64 0, .slice none 0 0, .bool false] 26 (0, 0)) (by (with_reducible repeat (first | refine blk_drewN ?_ _ | refine blk_drew ?_ | refine blk_alloc ?_ _)); exact BK124.out) hg (Kd.R_ne HO_131004.out BK124.out (by decide)))
                                have n1_ := Aside0.mk (blk_grown (g := gb130) (o := .cells #[.int .i64 (rd l0 0), .bool ((rd l0 1) == 1), .int .i64 (rd l0 2), .int .i64 (rd l0 3), u131004, .bool ((rd l0 4) == 1)] 26 (0, 0)) (by (with_reducible repeat (first | refine blk_drewN ?_ _ | refine blk_drew ?_ | refine blk_alloc ?_ _)); exact BK130.out) hg (Kd.R_ne HO_131004.out BK130.out (by decide)))
                                have n2_ := Aside0.mk (hb)
                                have n3_ := Aside0.mk (ho)
                                clear BK124
                                clear BK130
                                clear HB
                                clear HO_131004
                                have BK124 := n0_
                                have BK130 := n1_
                                have HB := n2_
                                have HO135 := n3_
                                clear n0_ n1_ n2_ n3_
                                clear ho hb hg hat
                                obtain ⟨Ao28, co28, eo28⟩ := Kd.R_slice HO135.out
                                (first | subst eo28 | (injection eo28 with f1_ f2_ f3_; have f4_ := f1_.symm; have f5_ := f3_.symm; clear f1_ f2_ f3_; subst f4_; subst f5_))
                                refine hK.out _ _ ⟨(blk_cell BK130.out 0).trans rfl, (blk_cell BK130.out 1).trans rfl, (blk_cell BK130.out 2).trans rfl, (blk_cell BK130.out 3).trans rfl, (blk_cell BK130.out 4).trans rfl, (blk_cell BK130.out 5).trans rfl, ((HB.out.cell (World.block_lt_of_cell? w _ hw131_0)).trans hw131_0), ((HB.out.cell (World.block_lt_of_cell? w _ hw132_0)).trans hw132_0)⟩ (fun hHeld => ?_)
                                clear hK K
                                refine norm_ (a' := ?_) ?_ ?_
                                rotate_left
                                · show Act.put _ (some 52) _ = _
                                  simp only [Act.put, List.setIfInBounds_toArray, List.set_cons_zero, List.set_cons_succ, i64_w, i32_w]
                                  rfl
                                refine pure_ (i := 14) (N := some 53) (v := ?_) (a' := ?_) #[true, true, true, true, true, true, true, true, true, true, true, true, true, true, true, false] rfl rfl (any_of HT_.out (by kernel_rfl)) (fun _ _ _ h => h) (Or.inl ⟨by rfl, ?_⟩) ?_ ?_
                                rotate_left
                                · intro w'
                                  go_simp
                                  with_reducible rfl
                                rotate_left
                                · simp only [Act.put, List.setIfInBounds_toArray, List.set_cons_zero, List.set_cons_succ, i64_w, i32_w]
                                  rfl
                                refine last_ (i := 15) (N := none) #[true, true, true, true, true, true, true, true, true, true, true, true, true, true, true, true] rfl rfl (one_of HT_.out (by kernel_rfl)) (by decide) (fun K hK => ?_)
                                have hs29 : w27.cell? ⟨gb130, 4, none⟩ = some (u131004) := (blk_cell BK130.out 4).trans rfl
                                have hfs29 := blk_frozen BK130.out 4
                                have hns29_0 := NB124_130.out
                                have hms29_0 := NB130_124.out
                                refine skip_ (w1 := ?_) (by rfl) rfl ?_ ?_
                                rotate_left
                                · go_simp
                                  rfl
                                refine hK.out _ _ ?_
                                clear hK K
                                refine done_ (done_of HT_.out (by kernel_rfl)) ?_
                                try go_wp2
                                go_roundg k2
                                case measure => have := HJ1.out; have := HK2.out; omega
                                case rel => exact ⟨(wrap64 (x4_2 + 2)), (y133), (.slice Ao28 y133.length co28), (by first | rfl | (simp; done) | (simp [*]; done)), H', ⟨by have := HJ1.out; have := HK2.out; omega⟩, ⟨by (with_reducible repeat (first | apply Kd.R_alloc | apply Kd.R_drewN | apply Kd.R_drew)); exact Kd.R_mono (Kd.R_far (p := ⟨gb130, 4, none⟩) (Kd.R_types HO135.out BK130.out (by decide)) (fun _ hk => hk.2) (.slice Ao28 y133.length co28)) (fun _ hk => trivial)⟩, ⟨by (with_reducible repeat (first | refine blk_drewN ?_ _ | refine blk_drew ?_ | refine blk_alloc ?_ _)); refine blk_far ?_ NB124_130.out _; (with_reducible repeat (first | refine blk_drewN ?_ _ | refine blk_drew ?_ | refine blk_alloc ?_ _)); exact BK124.out⟩, ⟨by (with_reducible repeat (first | refine blk_drewN ?_ _ | refine blk_drew ?_ | refine blk_alloc ?_ _)); refine blk_put (cs := #[.int .i64 (rd l0 0), .bool ((rd l0 1) == 1), .int .i64 (rd l0 2), .int .i64 (rd l0 3), u131004, .bool ((rd l0 4) == 1)]) ?_ 4 _ rfl; (with_reducible repeat (first | refine blk_drewN ?_ _ | refine blk_drew ?_ | refine blk_alloc ?_ _)); exact BK130.out⟩, ⟨by repeat (first | (with_reducible first | exact HB.out | apply below_alloc | apply pw_below_drewN | apply below_drew1 | refine below_set ?_ GE124.out | refine below_set ?_ GE130.out) | exact HB.out)⟩⟩
                              · rw [if_neg c25] at H
                                exact absurd H (by simp)
                            · rw [if_neg c24] at H
                              exact absurd H (by simp)
                          · rw [if_neg c23] at H
                            exact absurd H (by simp)
                        · rw [if_neg c21] at H
                          exact absurd H (by simp)
                      · rw [if_neg c20] at H
                        have c20b0 : decide (x4_2 < (l0.length : Int)) = false := decide_eq_false c20
                        clear c20
                        simp only [Option.some.injEq, Prod.mk.injEq] at H
                        obtain ⟨rfl, rfl, rfl, rfl, rfl, rfl⟩ := H
                        have hnb30 := NB130_124.out
                        have hnc30 := NB124_130.out
                        have hcz31_0 : wr.cell? ⟨gb130, 0, none⟩ = some (.int .i64 (rd l0 0)) := (blk_cell BK130.out 0).trans rfl
                        have hcz31_1 : wr.cell? ⟨gb130, 1, none⟩ = some (.bool ((rd l0 1) == 1)) := (blk_cell BK130.out 1).trans rfl
                        have hcz31_2 : wr.cell? ⟨gb130, 2, none⟩ = some (.int .i64 (rd l0 2)) := (blk_cell BK130.out 2).trans rfl
                        have hcz31_3 : wr.cell? ⟨gb130, 3, none⟩ = some (.int .i64 (rd l0 3)) := (blk_cell BK130.out 3).trans rfl
                        have hcz31_4 : wr.cell? ⟨gb130, 4, none⟩ = some (u131004) := (blk_cell BK130.out 4).trans rfl
                        have hcz31_5 : wr.cell? ⟨gb130, 5, none⟩ = some (.bool ((rd l0 4) == 1)) := (blk_cell BK130.out 5).trans rfl
                        have hfz31_0 := blk_frozen BK130.out 0
                        have hfz31_1 := blk_frozen BK130.out 1
                        have hfz31_2 := blk_frozen BK130.out 2
                        have hfz31_3 := blk_frozen BK130.out 3
                        have hfz31_4 := blk_frozen BK130.out 4
                        have hfz31_5 := blk_frozen BK130.out 5
                        have hcz32_0 : wr.cell? ⟨gb124, 0, none⟩ = some (.int .i64 0) := (blk_cell BK124.out 0).trans rfl
                        have hcz32_1 : wr.cell? ⟨gb124, 1, none⟩ = some (.bool false) := (blk_cell BK124.out 1).trans rfl
                        have hcz32_2 : wr.cell? ⟨gb124, 2, none⟩ = some (.int .i64 0) := (blk_cell BK124.out 2).trans rfl
                        have hcz32_3 : wr.cell? ⟨gb124, 3, none⟩ = some (.int .i64 0) := (blk_cell BK124.out 3).trans rfl
                        have hcz32_4 : wr.cell? ⟨gb124, 4, none⟩ = some (.slice none 0 0) := (blk_cell BK124.out 4).trans rfl
                        have hcz32_5 : wr.cell? ⟨gb124, 5, none⟩ = some (.bool false) := (blk_cell BK124.out 5).trans rfl
                        have hfz32_0 := blk_frozen BK124.out 0
                        have hfz32_1 := blk_frozen BK124.out 1
                        have hfz32_2 := blk_frozen BK124.out 2
                        have hfz32_3 := blk_frozen BK124.out 3
                        have hfz32_4 := blk_frozen BK124.out 4
                        have hfz32_5 := blk_frozen BK124.out 5
                        obtain ⟨Ao33, co33, eo33⟩ := Kd.R_slice HO_131004.out
                        subst eo33
                        go_wp2
                        refine bodyPost_ret (results_cell_row rfl _ _ gb124 26 #[.int .i64 (rd l0 0), .bool ((rd l0 1) == 1), .int .i64 (rd l0 2), .int .i64 (rd l0 3), .slice Ao33 x131004_2.length co33, .bool ((rd l0 4) == 1)] (0, 0) _ rfl (by (with_reducible repeat (first | refine blk_drewN ?_ _ | refine blk_drew ?_ | refine blk_alloc ?_ _)); refine blk_put (cs := #[.int .i64 (rd l0 0), .bool ((rd l0 1) == 1), .int .i64 (rd l0 2), .int .i64 (rd l0 3), .slice Ao33 x131004_2.length co33, .bool false]) ?_ 5 _ rfl; (with_reducible repeat (first | refine blk_drewN ?_ _ | refine blk_drew ?_ | refine blk_alloc ?_ _)); refine blk_put (cs := #[.int .i64 (rd l0 0), .bool ((rd l0 1) == 1), .int .i64 (rd l0 2), .int .i64 (rd l0 3), .slice none 0 0, .bool false]) ?_ 4 _ rfl; (with_reducible repeat (first | refine blk_drewN ?_ _ | refine blk_drew ?_ | refine blk_alloc ?_ _)); refine blk_put (cs := #[.int .i64 (rd l0 0), .bool ((rd l0 1) == 1), .int .i64 (rd l0 2), .int .i64 0, .slice none 0 0, .bool false]) ?_ 3 _ rfl; (with_reducible repeat (first | refine blk_drewN ?_ _ | refine blk_drew ?_ | refine blk_alloc ?_ _)); refine blk_put (cs := #[.int .i64 (rd l0 0), .bool ((rd l0 1) == 1), .int .i64 0, .int .i64 0, .slice none 0 0, .bool false]) ?_ 2 _ rfl; (with_reducible repeat (first | refine blk_drewN ?_ _ | refine blk_drew ?_ | refine blk_alloc ?_ _)); refine blk_put (cs := #[.int .i64 (rd l0 0), .bool false, .int .i64 0, .int .i64 0, .slice none 0 0, .bool false]) ?_ 1 _ rfl; (with_reducible repeat (first | refine blk_drewN ?_ _ | refine blk_drew ?_ | refine blk_alloc ?_ _)); refine blk_put (cs := #[.int .i64 0, .bool false, .int .i64 0, .int .i64 0, .slice none 0 0, .bool false]) ?_ 0 _ rfl; (with_reducible repeat (first | refine blk_drewN ?_ _ | refine blk_drew ?_ | refine blk_alloc ?_ _)); exact BK124.out) Tryz.underlying26 rfl (by kernel_rfl)) rfl ?_
                        exact ⟨_, by first | rfl | (simp [errW_none, errW_some] <;> rfl) | (simp [*, errW_none, errW_some] <;> rfl), by (with_reducible repeat (first | apply Kd.R_alloc | apply Kd.R_drewN | apply Kd.R_drew)); exact Kd.R_mono (Kd.R_far (p := ⟨gb124, 5, none⟩) (Kd.R_far (p := ⟨gb124, 4, none⟩) (Kd.R_far (p := ⟨gb124, 3, none⟩) (Kd.R_far (p := ⟨gb124, 2, none⟩) (Kd.R_far (p := ⟨gb124, 1, none⟩) (Kd.R_far (p := ⟨gb124, 0, none⟩) (Kd.R_types HO_131004.out BK124.out (by decide)) (fun _ hk => hk.2) (.int .i64 (rd l0 0))) (fun _ hk => hk.2) (.bool ((rd l0 1) == 1))) (fun _ hk => hk.2) (.int .i64 (rd l0 2))) (fun _ hk => hk.2) (.int .i64 (rd l0 3))) (fun _ hk => hk.2) (.slice Ao33 x131004_2.length co33)) (fun _ hk => hk.2) (.bool ((rd l0 4) == 1))) (fun _ hk => trivial), by repeat (first | (with_reducible first | exact HB.out | apply below_alloc | apply pw_below_drewN | apply below_drew1 | refine below_set ?_ GE124.out | refine below_set ?_ GE130.out) | exact HB.out)⟩
                · rw [if_neg c11] at H
                  exact absurd H (by simp)
              · rw [if_neg c10] at H
                exact absurd H (by simp)
            · rw [if_neg c9] at H
              exact absurd H (by simp)
          · rw [if_neg c8] at H
            exact absurd H (by simp)
        · rw [if_neg c7] at H
          exact absurd H (by simp)

end Go.Proofs.YthlmgbdknjilpaaGreat.PAskCodes
