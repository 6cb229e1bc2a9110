/- Words and contracts that the claim stands on, part 5 of 5. -/
import Derived.Test.YtelmidpepojbdaaGreatGMendRight0
import Derived.Test.YtelmidpepojbdaaGreatGMendRight1
import Derived.Test.YtelmidpepojbdaaGreatGMendRight2
import Derived.Test.YtelmidpepojbdaaGreatGMendRight3
namespace Go.Proofs.YtelmidpepojbdaaGreat.PMendRight
open Go.RowKit Go.Proofs.YtelmidpepojbdaaGreatW.PrintWords Go.Proofs.YtelmidpepojbdaaGreatW.PrintLast Go.Proofs.YtelmidpepojbdaaGreatW.PrintMore
attribute [local go_sem] max2_int min2_int max_two min_two max_three min_three max_four min_four
set_option linter.unusedVariables false
set_option linter.unusedSimpArgs false
attribute [local go_sem high] eqA106
mutual
def boscagelaw02_Put.l0 : Nat → Int → Int → List (S106) → Bool → List (S106) → Int → Int → Option ((List (S106)))
  | 0, _, _, _, _, _, _, _ => none
  | k + 1, x1, x2, x7, x8, x11, x12, x13 => if x13 < x12 then (if 0 ≤ x13 then (if x13 < (x11.length : Int) then (if x8 = true then (boscagelaw02_Put.j1 k x1 x2 x7 x8 x11 x12 x13 false ((rd_T106 x11 x13).f0) ((rd_T106 x11 x13).f1)) else (boscagelaw02_Put.j1 k x1 x2 x7 x8 x11 x12 x13 (decide (((rd_T106 x11 x13).f0) ≥ x1)) ((rd_T106 x11 x13).f0) ((rd_T106 x11 x13).f1))) else (none)) else (none)) else (if x8 = true then (some x7) else (if x7.length < 8796093022208 then (some (x7 ++ [(⟨x1, x2⟩ : S106)])) else (none)))
def boscagelaw02_Put.j1 : Nat → Int → Int → List (S106) → Bool → List (S106) → Int → Int → Bool → Int → Int → Option ((List (S106)))
  | 0, _, _, _, _, _, _, _, _, _, _ => none
  | k + 1, x1, x2, x7, x8, x11, x12, x13, x24, x193000, x193001 => if x24 = true then (if x7.length < 8796093022208 then ((some (x7 ++ [(⟨x1, x2⟩ : S106)] : List (S106))).bind fun y193 => (if x193000 = x1 then (boscagelaw02_Put.l0 k x1 x2 y193 true x11 x12 (wrap64 (x13 + 1))) else (if y193.length < 8796093022208 then (boscagelaw02_Put.l0 k x1 x2 (y193 ++ [(⟨x193000, x193001⟩ : S106)]) true x11 x12 (wrap64 (x13 + 1))) else (none)))) else (none)) else (if x193000 = x1 then (boscagelaw02_Put.l0 k x1 x2 x7 x8 x11 x12 (wrap64 (x13 + 1))) else (if x7.length < 8796093022208 then (boscagelaw02_Put.l0 k x1 x2 (x7 ++ [(⟨x193000, x193001⟩ : S106)]) x8 x11 x12 (wrap64 (x13 + 1))) else (none)))
end
def boscagelaw02_Put.f (k : Nat) (l0 : List (S106)) (a1 : Int) (a2 : Int) : Option ((List (S106))) := boscagelaw02_Put.l0 k a1 a2 ([] : List (S106)) false l0 (l0.length : Int) 0
theorem boscagelaw02_Put.mono_l : ∀ k, (∀ y0 y1 y2 y3 y4 y5 y6, LeO (boscagelaw02_Put.l0 k y0 y1 y2 y3 y4 y5 y6) (boscagelaw02_Put.l0 (k + 1) y0 y1 y2 y3 y4 y5 y6)) ∧ (∀ y0 y1 y2 y3 y4 y5 y6 y7 y8 y9, LeO (boscagelaw02_Put.j1 k y0 y1 y2 y3 y4 y5 y6 y7 y8 y9) (boscagelaw02_Put.j1 (k + 1) y0 y1 y2 y3 y4 y5 y6 y7 y8 y9))
  | 0 => ⟨fun _ _ _ _ _ _ _ r h => by simp [boscagelaw02_Put.l0] at h, fun _ _ _ _ _ _ _ _ _ _ r h => by simp [boscagelaw02_Put.j1] at h⟩
  | k + 1 => by
    obtain ⟨ih0, ih1⟩ := boscagelaw02_Put.mono_l k
    refine ⟨?_, ?_⟩
    · intro y0 y1 y2 y3 y4 y5 y6
      unfold boscagelaw02_Put.l0
      repeat' first
      | (with_reducible exact ih0 _ _ _ _ _ _ _)
      | (with_reducible exact ih1 _ _ _ _ _ _ _ _ _ _)
      | (with_reducible exact LeO.refl _)
      | (with_reducible exact LeO.none _)
      | (with_reducible refine LeO.ite ?_ ?_)
      | (with_reducible refine LeO.bind ?_ (fun _ => ?_))
      | exact ih0 _ _ _ _ _ _ _
      | exact ih1 _ _ _ _ _ _ _ _ _ _
      | exact LeO.none _
      | refine LeO.ite ?_ ?_
      | refine LeO.bind ?_ (fun _ => ?_)
    · intro y0 y1 y2 y3 y4 y5 y6 y7 y8 y9
      unfold boscagelaw02_Put.j1
      repeat' first
      | (with_reducible exact ih0 _ _ _ _ _ _ _)
      | (with_reducible exact ih1 _ _ _ _ _ _ _ _ _ _)
      | (with_reducible exact LeO.refl _)
      | (with_reducible exact LeO.none _)
      | (with_reducible refine LeO.ite ?_ ?_)
      | (with_reducible refine LeO.bind ?_ (fun _ => ?_))
      | exact ih0 _ _ _ _ _ _ _
      | exact ih1 _ _ _ _ _ _ _ _ _ _
      | exact LeO.none _
      | refine LeO.ite ?_ ?_
      | refine LeO.bind ?_ (fun _ => ?_)
theorem boscagelaw02_Put.mono : ∀ a0 a1 a2 k, LeO (boscagelaw02_Put.f k a0 a1 a2) (boscagelaw02_Put.f (k + 1) a0 a1 a2) := by
  intro a0 a1 a2 k
  obtain ⟨ih0, ih1⟩ := boscagelaw02_Put.mono_l k
  unfold boscagelaw02_Put.f
  repeat' first
      | (with_reducible exact ih0 _ _ _ _ _ _ _)
      | (with_reducible exact ih1 _ _ _ _ _ _ _ _ _ _)
      | (with_reducible exact LeO.refl _)
      | (with_reducible exact LeO.none _)
      | (with_reducible refine LeO.ite ?_ ?_)
      | (with_reducible refine LeO.bind ?_ (fun _ => ?_))
      | exact ih0 _ _ _ _ _ _ _
      | exact ih1 _ _ _ _ _ _ _ _ _ _
      | exact LeO.none _
      | refine LeO.ite ?_ ?_
      | refine LeO.bind ?_ (fun _ => ?_)
set_option maxHeartbeats 8000000 in
set_option maxRecDepth 100000 in
theorem boscagelaw02_Put.calls (k : Nat) (A0 : Option Addr) (c0 : Nat) (l0 : List (S106)) (a1 : Int) (a2 : Int) (r : List (S106)) (w : World) (hr0 : Kd.C k106 w A0 l0.length l0) (hc0 : l0.length ≤ c0) (h : boscagelaw02_Put.f k l0 a1 a2 = some r) :
    Calls Tryz.prog 47 #[.slice A0 l0.length c0, .int .i64 a1, .int .i64 a2] w fun e w' => ∃ v0_ : Value, e = .returned (v0_) ∧ Kd.R k106 106 w' w.heap.size (fun _ => True) v0_ r ∧ Below w.heap.size w w' := by
  have hu106 := Tryz.underlying106
  have HR0 := Aside0.mk hr0
  have HC0 := Aside0.mk hc0
  clear hr0 hc0
  have HB := Aside0.mk (Below.refl w.heap.size w)
  have H : (boscagelaw02_Put.l0 k a1 a2 ([] : List (S106)) false l0 (l0.length : Int) 0) = some r := h
  clear h
  have H' := Aside0.mk H
  clear H
  go_enter Tryz.func47, Tryz.ntmps47
  go_wp2
  go_loopg [7, 8, 13] k (fun kq v7 v8 v13 w' => ∃ (x7_1 : List (S106)) (x8_1 : Bool) (x13_1 : Int), v8 = .bool x8_1 ∧ v13 = .int .i64 x13_1 ∧ Aside0 (boscagelaw02_Put.l0 kq a1 a2 x7_1 x8_1 l0 (l0.length : Int) x13_1 = some r) ∧ Aside0 (kq ≤ k) ∧ Aside0 (Kd.R k106 106 w' w.heap.size (fun _ => True) v7 x7_1) ∧ Aside0 (Below w.heap.size w w'))
  case atStart => exact ⟨(([] : List (S106))), (false), (0), (by first | rfl | (simp; done) | (simp [*]; done)), (by first | rfl | (simp; done) | (simp [*]; done)), H', ⟨Nat.le_refl _⟩, ⟨by first | exact Kd.R_nil _ _ _ _ _ | exact Kd.N_nil _ _ _ _ _ | exact Kd.V_nil _ _ _ _ _ | exact Kd.Q_nil _ _ _ _ _ | exact Kd.S_nil _ _ _ _ _⟩, ⟨by repeat (first | (with_reducible first | exact HB.out | apply below_alloc | apply pw_below_drewN | apply below_drew1) | exact HB.out)⟩⟩
  case round =>
    clear H'
    try clear p2
    obtain ⟨x7_1, x8_1, x13_1, rfl, rfl, HA, HK1, HO_7, HB⟩ := hrel
    cases gk with
    | zero => exact absurd HA.out (by simp [boscagelaw02_Put.l0])
    | succ k1 =>
      have H := HA.out
      clear HA
      simp only [boscagelaw02_Put.l0] at H
      by_cases c4 : x13_1 < (l0.length : Int)
      · rw [if_pos c4] at H
        have c4b0 : decide (x13_1 < (l0.length : Int)) = true := decide_eq_true c4
        clear c4
        by_cases c5 : 0 ≤ x13_1
        · rw [if_pos c5] at H
          have c5b0 : decide (0 ≤ x13_1) = true := decide_eq_true c5
          clear c5
          by_cases c6 : x13_1 < (l0.length : Int)
          · rw [if_pos c6] at H
            have c6b0 : decide (x13_1 < (l0.length : Int)) = true := decide_eq_true c6
            clear c6
            have HC7 := Aside0.mk H
            clear H
            have p191 : 0 ≤ (x13_1 : Int) := of_decide_eq_true (by first | (with_reducible assumption) | assumption)
            have q191 : x13_1 < (l0.length : Int) := of_decide_eq_true (by first | (with_reducible assumption) | assumption)
            obtain ⟨ad191, e191, hx191_0, hx191_1⟩ := at_T106 HR0.out x13_1 p191 q191
            cases e191
            replace hx191_0 := (HB.out.cell (World.block_lt_of_cell? w _ hx191_0)).trans hx191_0
            replace hx191_1 := (HB.out.cell (World.block_lt_of_cell? w _ hx191_1)).trans hx191_1
            replace p191 := eq_true p191
            replace q191 := eq_true q191
            go_upto_region 6 with (first | ((with_reducible refine gate_dst (N := 10) rfl ?_); refine box_event ?hg (N := 10) ?hd (cs := #[.int .i64 0, .int .i64 0]) (t := 106) ?hr ?_; (case hd => rfl); (case hg => rfl); (case hr => first | (go_simp; done) | (go_simp; rfl)); intro gb192 hg w8 hbox hb; have n0_ := Aside0.mk (Kd.R_below (Kd.R_elderB (by (with_reducible repeat (first | apply Kd.R_alloc | apply Kd.R_drewN | apply Kd.R_drew)); exact HO_7.out) gb192 (Nat.le_of_eq hg.symm)) hb); have n1_ := Aside0.mk (below_step (by repeat (first | (with_reducible first | exact HB.out | apply below_alloc | apply pw_below_drewN | apply below_drew1) | exact HB.out)) hb); have n2_ := Aside0.mk (hbox); have n3_ := Aside0.mk ((by rw [hg]; exact (below_size (by repeat (first | (with_reducible first | exact HB.out | apply below_alloc | apply pw_below_drewN | apply below_drew1) | exact HB.out))) : w.heap.size ≤ gb192)); have n4_ := Aside0.mk ((by rw [hg]; exact (below_size (by repeat (first | (with_reducible first | exact HB.out | apply below_alloc | apply pw_below_drewN | apply below_drew1) | exact HB.out))) : w.heap.size ≤ gb192)); clear HO_7; clear HB; have HO_7 := n0_; have HB := n1_; have BK192 := n2_; have GW192 := n3_; have GE192 := n4_; clear n0_ n1_ n2_ n3_ n4_; clear hb hbox hg; have hcz9_0 : w8.cell? ⟨gb192, 0, none⟩ = some (.int .i64 0) := (blk_cell BK192.out 0).trans rfl; have hcz9_1 : w8.cell? ⟨gb192, 1, none⟩ = some (.int .i64 0) := (blk_cell BK192.out 1).trans rfl; have hfz9_0 := blk_frozen BK192.out 0; have hfz9_1 := blk_frozen BK192.out 1))
            (try simp only [Act.put, u1_, u2_, u3_])
            go_cut [24] (fun v24 wc => ∃ (kq : Nat) (x24_6 : Bool), v24 = .bool x24_6 ∧ Aside0 (boscagelaw02_Put.j1 kq a1 a2 x7_1 x8_1 l0 (l0.length : Int) x13_1 x24_6 ((rd_T106 l0 x13_1).f0) ((rd_T106 l0 x13_1).f1) = some r) ∧ Aside0 (kq ≤ k1) ∧ Aside0 (Kd.R k106 106 wc w.heap.size (fun k_ => k_ ≠ gb192) u7 x7_1) ∧ Aside0 (wc.heap[gb192]? = some (.cells #[.int .i64 ((rd_T106 l0 x13_1).f0), .int .i64 ((rd_T106 l0 x13_1).f1)] 106 (0, 0))) ∧ Aside0 (Below w.heap.size w wc))
            case first =>
              have H := HC7.out
              clear HC7
              by_cases c10 : x8_1 = true
              · subst c10
                have H1 : (boscagelaw02_Put.j1 k1 a1 a2 x7_1 true l0 (l0.length : Int) x13_1 false ((rd_T106 l0 x13_1).f0) ((rd_T106 l0 x13_1).f1)) = some r := by rw [if_pos rfl] at H; exact H
                clear H
                have H := H1
                clear H1
                have H' := Aside0.mk H
                clear H
                go_wp2
                go_meet
                case rel => exact ⟨_, (false), (by first | rfl | (simp; done) | (simp [*]; done)), H', ⟨by have := HK1.out; first | omega | exact Nat.le_refl _⟩, ⟨by (with_reducible repeat (first | apply Kd.R_alloc | apply Kd.R_drewN | apply Kd.R_drew)); exact Kd.R_mono (Kd.R_far (p := ⟨gb192, 1, none⟩) (Kd.R_far (p := ⟨gb192, 0, none⟩) (Kd.R_mono HO_7.out (fun k_ hk => (⟨hk, hk.2⟩ : _ ∧ k_ ≠ gb192))) (fun _ hk => hk.2) (.int .i64 ((rd_T106 l0 x13_1).f0))) (fun _ hk => hk.2) (.int .i64 ((rd_T106 l0 x13_1).f1))) (fun _ hk => hk.1.2)⟩, ⟨by (with_reducible repeat (first | refine blk_drewN ?_ _ | refine blk_drew ?_ | refine blk_alloc ?_ _)); refine blk_put (cs := #[.int .i64 ((rd_T106 l0 x13_1).f0), .int .i64 0]) ?_ 1 _ rfl; (with_reducible repeat (first | refine blk_drewN ?_ _ | refine blk_drew ?_ | refine blk_alloc ?_ _)); refine blk_put (cs := #[.int .i64 0, .int .i64 0]) ?_ 0 _ rfl; (with_reducible repeat (first | refine blk_drewN ?_ _ | refine blk_drew ?_ | refine blk_alloc ?_ _)); exact BK192.out⟩, ⟨by repeat (first | (with_reducible first | exact HB.out | apply below_alloc | apply pw_below_drewN | apply below_drew1 | refine below_set ?_ GE192.out) | exact HB.out)⟩⟩
              · replace c10 := Bool.eq_false_iff.mpr c10
                subst c10
                have H1 : (boscagelaw02_Put.j1 k1 a1 a2 x7_1 false l0 (l0.length : Int) x13_1 (decide (((rd_T106 l0 x13_1).f0) ≥ a1)) ((rd_T106 l0 x13_1).f0) ((rd_T106 l0 x13_1).f1)) = some r := by rw [if_neg (show ¬ (false = true) by decide)] at H; exact H
                clear H
                have H := H1
                clear H1
                have H' := Aside0.mk H
                clear H
                have hcz11_0 : w8.cell? ⟨gb192, 0, none⟩ = some (.int .i64 0) := (blk_cell BK192.out 0).trans rfl
                have hcz11_1 : w8.cell? ⟨gb192, 1, none⟩ = some (.int .i64 0) := (blk_cell BK192.out 1).trans rfl
                have hfz11_0 := blk_frozen BK192.out 0
                have hfz11_1 := blk_frozen BK192.out 1
                go_wp2
                go_meet
                case rel => exact ⟨_, (decide (((rd_T106 l0 x13_1).f0) ≥ a1)), (by first | rfl | (simp; done) | (simp [*]; done)), H', ⟨by have := HK1.out; first | omega | exact Nat.le_refl _⟩, ⟨by (with_reducible repeat (first | apply Kd.R_alloc | apply Kd.R_drewN | apply Kd.R_drew)); exact Kd.R_mono (Kd.R_far (p := ⟨gb192, 1, none⟩) (Kd.R_far (p := ⟨gb192, 0, none⟩) (Kd.R_mono HO_7.out (fun k_ hk => (⟨hk, hk.2⟩ : _ ∧ k_ ≠ gb192))) (fun _ hk => hk.2) (.int .i64 ((rd_T106 l0 x13_1).f0))) (fun _ hk => hk.2) (.int .i64 ((rd_T106 l0 x13_1).f1))) (fun _ hk => hk.1.2)⟩, ⟨by (with_reducible repeat (first | refine blk_drewN ?_ _ | refine blk_drew ?_ | refine blk_alloc ?_ _)); refine blk_put (cs := #[.int .i64 ((rd_T106 l0 x13_1).f0), .int .i64 0]) ?_ 1 _ rfl; (with_reducible repeat (first | refine blk_drewN ?_ _ | refine blk_drew ?_ | refine blk_alloc ?_ _)); refine blk_put (cs := #[.int .i64 0, .int .i64 0]) ?_ 0 _ rfl; (with_reducible repeat (first | refine blk_drewN ?_ _ | refine blk_drew ?_ | refine blk_alloc ?_ _)); exact BK192.out⟩, ⟨by repeat (first | (with_reducible first | exact HB.out | apply below_alloc | apply pw_below_drewN | apply below_drew1 | refine below_set ?_ GE192.out) | exact HB.out)⟩⟩
            case rest =>
              clear HC7
              try clear c1
              try clear p1
              try clear q1
              try clear hx1
              try clear p2
              try clear c4
              try clear c4b0
              try clear c5
              try clear c5b0
              try clear c6
              try clear c6b0
              try clear c10
              try clear hcz11_0
              try clear hcz11_1
              try clear hcz9_0
              try clear hcz9_1
              try clear hfz11_0
              try clear hfz11_1
              try clear hfz9_0
              try clear hfz9_1
              try clear hx191_0
              try clear hx191_1
              try clear p191
              try clear p2
              try clear q191
              obtain ⟨kq, x24_6, rfl, HA, HJ6, HO_7, BK192, HB⟩ := hcut
              cases kq with
              | zero => exact absurd HA.out (by simp [boscagelaw02_Put.j1])
              | succ kj6 =>
                have H := HA.out
                clear HA
                simp only [boscagelaw02_Put.j1] at H
                by_cases c12 : x24_6 = true
                · subst c12
                  have H1 : (if x7_1.length < 8796093022208 then ((some (x7_1 ++ [(⟨a1, a2⟩ : S106)] : List (S106))).bind fun y193 => (if ((rd_T106 l0 x13_1).f0) = a1 then (boscagelaw02_Put.l0 kj6 a1 a2 y193 true l0 (l0.length : Int) (wrap64 (x13_1 + 1))) else (if y193.length < 8796093022208 then (boscagelaw02_Put.l0 kj6 a1 a2 (y193 ++ [(⟨((rd_T106 l0 x13_1).f0), ((rd_T106 l0 x13_1).f1)⟩ : S106)]) true l0 (l0.length : Int) (wrap64 (x13_1 + 1))) else (none)))) else (none)) = some r := by rw [if_pos rfl] at H; exact H
                  clear H
                  have H := H1
                  clear H1
                  by_cases c13 : x7_1.length < 8796093022208
                  · rw [if_pos c13] at H
                    have LMc13 := Aside0.mk c13
                    clear c13
                    obtain ⟨y193, hy193⟩ : ∃ y_ : List (S106), y_ = (x7_1 ++ [(⟨a1, a2⟩ : S106)]) := ⟨_, rfl⟩
                    replace H : (if ((rd_T106 l0 x13_1).f0) = a1 then (boscagelaw02_Put.l0 kj6 a1 a2 y193 true l0 (l0.length : Int) (wrap64 (x13_1 + 1))) else (if y193.length < 8796093022208 then (boscagelaw02_Put.l0 kj6 a1 a2 (y193 ++ [(⟨((rd_T106 l0 x13_1).f0), ((rd_T106 l0 x13_1).f1)⟩ : S106)]) true l0 (l0.length : Int) (wrap64 (x13_1 + 1))) else (none))) = some r := by first | (rw [hy193]; with_reducible exact H) | (have H2_ := (Option.bind_some _ _).symm.trans H; rw [hy193]; with_reducible exact H2_) | (have H2_ := (Option.bind_some _ _).symm.trans H; with_reducible exact H2_) | with_reducible exact H | (rw [hy193]; exact H) | exact H
                    have Ny193 := Aside0.mk hy193
                    clear hy193
                    by_cases c14 : ((rd_T106 l0 x13_1).f0) = a1
                    · rw [if_pos c14] at H
                      have c14b0 : (((rd_T106 l0 x13_1).f0) == a1) = true := beq_iff_eq.mpr c14
                      have c14b1 : (((rd_T106 l0 x13_1).f0) != a1) = false := bne_eq_false_iff_eq.mpr c14
                      clear c14
                      have H' := Aside0.mk H
                      clear H
                      go_wp2_with (first | ((with_reducible refine gate_builtin (b := .append) (xs := #[.tmp 25, .tmp 29]) rfl ?_); at_builtin; refine Kd.R_append k106 (w0 := w) w.heap.size rfl (.tmp 25) (.tmp 29) 26 106 (.agg #[(.int .i64 0), (.int .i64 0)]) 16 rfl Tryz.underlying26 info106 rfl (by decide) (by omega) u7 x7_1 (⟨a1, a2⟩ : S106) [.int .i64 a1, .int .i64 a2] (fun k_ => k_ ≠ gb192) (fun _ => False) rfl rfl ?aP (fun _ hk => hk.elim) ?aF ?aO ?aB ?aS ?aL ?_; (case aP => exact k106_mkM _ _ _ (⟨a1, a2⟩ : S106)); (case aB => exact (by repeat (first | (with_reducible first | exact HB.out | apply below_alloc | apply pw_below_drewN | apply below_drew1 | refine below_set ?_ GE192.out) | exact HB.out))); (case aF => exact (fun k_ hk => Kd.freshB (g := gb192) (o := .cells #[.int .i64 ((rd_T106 l0 x13_1).f0), .int .i64 ((rd_T106 l0 x13_1).f1)] 106 (0, 0)) (by (with_reducible repeat (first | refine blk_drewN ?_ _ | refine blk_drew ?_ | refine blk_alloc ?_ _)); exact BK192.out) k_ hk)); (case aO => exact (by (with_reducible repeat (first | apply Kd.R_alloc | apply Kd.R_drewN | apply Kd.R_drew)); exact HO_7.out)); (case aS => exact (below_size (by repeat (first | (with_reducible first | exact HB.out | apply below_alloc | apply pw_below_drewN | apply below_drew1 | refine below_set ?_ GE192.out) | exact HB.out)))); (case aL => have := LMc13.out; omega); intro v194 w15 ho hb hg hat; rw [← Ny193.out] at ho; have n0_ := Aside0.mk (blk_grown (g := gb192) (o := .cells #[.int .i64 ((rd_T106 l0 x13_1).f0), .int .i64 ((rd_T106 l0 x13_1).f1)] 106 (0, 0)) (by (with_reducible repeat (first | refine blk_drewN ?_ _ | refine blk_drew ?_ | refine blk_alloc ?_ _)); exact BK192.out) hg (Kd.R_away HO_7.out (fun _ hk => hk))); have n1_ := Aside0.mk (hb); have n2_ := Aside0.mk (ho); clear BK192; clear HB; clear HO_7; have BK192 := n0_; have HB := n1_; have HO195 := n2_; clear n0_ n1_ n2_; clear ho hb hg hat; have hcz16_0 : w15.cell? ⟨gb192, 0, none⟩ = some (.int .i64 ((rd_T106 l0 x13_1).f0)) := (blk_cell BK192.out 0).trans rfl; have hcz16_1 : w15.cell? ⟨gb192, 1, none⟩ = some (.int .i64 ((rd_T106 l0 x13_1).f1)) := (blk_cell BK192.out 1).trans rfl; have hfz16_0 := blk_frozen BK192.out 0; have hfz16_1 := blk_frozen BK192.out 1))
                      go_roundg kj6
                      case measure => have := HK1.out; have := HJ6.out; omega
                      case rel => exact ⟨(y193), (true), (wrap64 (x13_1 + 1)), (by first | rfl | (simp; done) | (simp [*]; done)), (by first | rfl | (simp; done) | (simp [*]; done)), H', ⟨by have := HK1.out; have := HJ6.out; omega⟩, ⟨by (with_reducible repeat (first | apply Kd.R_alloc | apply Kd.R_drewN | apply Kd.R_drew)); exact Kd.R_mono HO195.out (fun _ hk => trivial)⟩, ⟨by repeat (first | (with_reducible first | exact HB.out | apply below_alloc | apply pw_below_drewN | apply below_drew1 | refine below_set ?_ GE192.out) | exact HB.out)⟩⟩
                    · rw [if_neg c14] at H
                      have c14b0 : (((rd_T106 l0 x13_1).f0) == a1) = false := beq_eq_false_iff_ne.mpr c14
                      have c14b1 : (((rd_T106 l0 x13_1).f0) != a1) = true := bne_iff_ne.mpr c14
                      by_cases c17 : y193.length < 8796093022208
                      · rw [if_pos c17] at H
                        have LMc17 := Aside0.mk c17
                        clear c17
                        obtain ⟨y196, hy196⟩ : ∃ y_ : List (S106), y_ = (y193 ++ [(⟨((rd_T106 l0 x13_1).f0), ((rd_T106 l0 x13_1).f1)⟩ : S106)]) := ⟨_, rfl⟩
                        replace H : (boscagelaw02_Put.l0 kj6 a1 a2 y196 true l0 (l0.length : Int) (wrap64 (x13_1 + 1))) = some r := by first | (rw [hy196]; with_reducible exact H) | (have H2_ := (Option.bind_some _ _).symm.trans H; rw [hy196]; with_reducible exact H2_) | (have H2_ := (Option.bind_some _ _).symm.trans H; with_reducible exact H2_) | with_reducible exact H | (rw [hy196]; exact H) | exact H
                        have Ny196 := Aside0.mk hy196
                        clear hy196
                        have H' := Aside0.mk H
                        clear H
                        go_wp2_with (first | ((with_reducible refine gate_builtin (b := .append) (xs := #[.tmp 25, .tmp 29]) rfl ?_); at_builtin; refine Kd.R_append k106 (w0 := w) w.heap.size rfl (.tmp 25) (.tmp 29) 26 106 (.agg #[(.int .i64 0), (.int .i64 0)]) 16 rfl Tryz.underlying26 info106 rfl (by decide) (by omega) u7 x7_1 (⟨a1, a2⟩ : S106) [.int .i64 a1, .int .i64 a2] (fun k_ => k_ ≠ gb192) (fun _ => False) rfl rfl ?aP (fun _ hk => hk.elim) ?aF ?aO ?aB ?aS ?aL ?_; (case aP => exact k106_mkM _ _ _ (⟨a1, a2⟩ : S106)); (case aB => exact (by repeat (first | (with_reducible first | exact HB.out | apply below_alloc | apply pw_below_drewN | apply below_drew1 | refine below_set ?_ GE192.out) | exact HB.out))); (case aF => exact (fun k_ hk => Kd.freshB (g := gb192) (o := .cells #[.int .i64 ((rd_T106 l0 x13_1).f0), .int .i64 ((rd_T106 l0 x13_1).f1)] 106 (0, 0)) (by (with_reducible repeat (first | refine blk_drewN ?_ _ | refine blk_drew ?_ | refine blk_alloc ?_ _)); exact BK192.out) k_ hk)); (case aO => exact (by (with_reducible repeat (first | apply Kd.R_alloc | apply Kd.R_drewN | apply Kd.R_drew)); exact HO_7.out)); (case aS => exact (below_size (by repeat (first | (with_reducible first | exact HB.out | apply below_alloc | apply pw_below_drewN | apply below_drew1 | refine below_set ?_ GE192.out) | exact HB.out)))); (case aL => have := LMc13.out; omega); intro v194 w18 ho hb hg hat; rw [← Ny193.out] at ho; have n0_ := Aside0.mk (blk_grown (g := gb192) (o := .cells #[.int .i64 ((rd_T106 l0 x13_1).f0), .int .i64 ((rd_T106 l0 x13_1).f1)] 106 (0, 0)) (by (with_reducible repeat (first | refine blk_drewN ?_ _ | refine blk_drew ?_ | refine blk_alloc ?_ _)); exact BK192.out) hg (Kd.R_away HO_7.out (fun _ hk => hk))); have n1_ := Aside0.mk (hb); have n2_ := Aside0.mk (ho); clear BK192; clear HB; clear HO_7; have BK192 := n0_; have HB := n1_; have HO195 := n2_; clear n0_ n1_ n2_; clear ho hb hg hat; have hcz19_0 : w18.cell? ⟨gb192, 0, none⟩ = some (.int .i64 ((rd_T106 l0 x13_1).f0)) := (blk_cell BK192.out 0).trans rfl; have hcz19_1 : w18.cell? ⟨gb192, 1, none⟩ = some (.int .i64 ((rd_T106 l0 x13_1).f1)) := (blk_cell BK192.out 1).trans rfl; have hfz19_0 := blk_frozen BK192.out 0; have hfz19_1 := blk_frozen BK192.out 1) | ((with_reducible refine gate_builtin (b := .append) (xs := #[.tmp 35, .tmp 37]) rfl ?_); at_builtin; refine Kd.R_append k106 (w0 := w) w.heap.size rfl (.tmp 35) (.tmp 37) 26 106 (.agg #[(.int .i64 0), (.int .i64 0)]) 16 rfl Tryz.underlying26 info106 rfl (by decide) (by omega) v194 y193 (⟨((rd_T106 l0 x13_1).f0), ((rd_T106 l0 x13_1).f1)⟩ : S106) [.int .i64 ((rd_T106 l0 x13_1).f0), .int .i64 ((rd_T106 l0 x13_1).f1)] (fun k_ => k_ ≠ gb192) (fun _ => False) rfl rfl ?aP (fun _ hk => hk.elim) ?aF ?aO ?aB ?aS ?aL ?_; (case aP => exact k106_mkM _ _ _ (⟨((rd_T106 l0 x13_1).f0), ((rd_T106 l0 x13_1).f1)⟩ : S106)); (case aB => exact (by repeat (first | (with_reducible first | exact HB.out | apply below_alloc | apply pw_below_drewN | apply below_drew1 | refine below_set ?_ GE192.out) | exact HB.out))); (case aF => exact (fun k_ hk => Kd.freshB (g := gb192) (o := .cells #[.int .i64 ((rd_T106 l0 x13_1).f0), .int .i64 ((rd_T106 l0 x13_1).f1)] 106 (0, 0)) (by (with_reducible repeat (first | refine blk_drewN ?_ _ | refine blk_drew ?_ | refine blk_alloc ?_ _)); exact BK192.out) k_ hk)); (case aO => exact (by (with_reducible repeat (first | apply Kd.R_alloc | apply Kd.R_drewN | apply Kd.R_drew)); exact HO195.out)); (case aS => exact (below_size (by repeat (first | (with_reducible first | exact HB.out | apply below_alloc | apply pw_below_drewN | apply below_drew1 | refine below_set ?_ GE192.out) | exact HB.out)))); (case aL => have := LMc17.out; omega); intro v197 w20 ho hb hg hat; rw [← Ny196.out] at ho; have n0_ := Aside0.mk (blk_grown (g := gb192) (o := .cells #[.int .i64 ((rd_T106 l0 x13_1).f0), .int .i64 ((rd_T106 l0 x13_1).f1)] 106 (0, 0)) (by (with_reducible repeat (first | refine blk_drewN ?_ _ | refine blk_drew ?_ | refine blk_alloc ?_ _)); exact BK192.out) hg (Kd.R_away HO195.out (fun _ hk => hk))); have n1_ := Aside0.mk (hb); have n2_ := Aside0.mk (ho); clear BK192; clear HB; clear HO195; have BK192 := n0_; have HB := n1_; have HO198 := n2_; clear n0_ n1_ n2_; clear ho hb hg hat))
                        go_roundg kj6
                        case measure => have := HK1.out; have := HJ6.out; omega
                        case rel => exact ⟨(y196), (true), (wrap64 (x13_1 + 1)), (by first | rfl | (simp; done) | (simp [*]; done)), (by first | rfl | (simp; done) | (simp [*]; done)), H', ⟨by have := HK1.out; have := HJ6.out; omega⟩, ⟨by (with_reducible repeat (first | apply Kd.R_alloc | apply Kd.R_drewN | apply Kd.R_drew)); exact Kd.R_mono HO198.out (fun _ hk => trivial)⟩, ⟨by repeat (first | (with_reducible first | exact HB.out | apply below_alloc | apply pw_below_drewN | apply below_drew1 | refine below_set ?_ GE192.out) | exact HB.out)⟩⟩
                      · rw [if_neg c17] at H
                        exact absurd H (by simp)
                  · rw [if_neg c13] at H
                    exact absurd H (by simp)
                · replace c12 := Bool.eq_false_iff.mpr c12
                  subst c12
                  have H1 : (if ((rd_T106 l0 x13_1).f0) = a1 then (boscagelaw02_Put.l0 kj6 a1 a2 x7_1 x8_1 l0 (l0.length : Int) (wrap64 (x13_1 + 1))) else (if x7_1.length < 8796093022208 then (boscagelaw02_Put.l0 kj6 a1 a2 (x7_1 ++ [(⟨((rd_T106 l0 x13_1).f0), ((rd_T106 l0 x13_1).f1)⟩ : S106)]) x8_1 l0 (l0.length : Int) (wrap64 (x13_1 + 1))) else (none))) = some r := by rw [if_neg (show ¬ (false = true) by decide)] at H; exact H
                  clear H
                  have H := H1
                  clear H1
                  by_cases c21 : ((rd_T106 l0 x13_1).f0) = a1
                  · rw [if_pos c21] at H
                    have c21b0 : (((rd_T106 l0 x13_1).f0) == a1) = true := beq_iff_eq.mpr c21
                    have c21b1 : (((rd_T106 l0 x13_1).f0) != a1) = false := bne_eq_false_iff_eq.mpr c21
                    clear c21
                    have H' := Aside0.mk H
                    clear H
                    have hcz22_0 : wc.cell? ⟨gb192, 0, none⟩ = some (.int .i64 ((rd_T106 l0 x13_1).f0)) := (blk_cell BK192.out 0).trans rfl
                    have hcz22_1 : wc.cell? ⟨gb192, 1, none⟩ = some (.int .i64 ((rd_T106 l0 x13_1).f1)) := (blk_cell BK192.out 1).trans rfl
                    have hfz22_0 := blk_frozen BK192.out 0
                    have hfz22_1 := blk_frozen BK192.out 1
                    go_wp2
                    go_roundg kj6
                    case measure => have := HK1.out; have := HJ6.out; omega
                    case rel => exact ⟨(x7_1), (x8_1), (wrap64 (x13_1 + 1)), (by first | rfl | (simp; done) | (simp [*]; done)), (by first | rfl | (simp; done) | (simp [*]; done)), H', ⟨by have := HK1.out; have := HJ6.out; omega⟩, ⟨by (with_reducible repeat (first | apply Kd.R_alloc | apply Kd.R_drewN | apply Kd.R_drew)); exact Kd.R_mono HO_7.out (fun _ hk => trivial)⟩, ⟨by repeat (first | (with_reducible first | exact HB.out | apply below_alloc | apply pw_below_drewN | apply below_drew1 | refine below_set ?_ GE192.out) | exact HB.out)⟩⟩
                  · rw [if_neg c21] at H
                    have c21b0 : (((rd_T106 l0 x13_1).f0) == a1) = false := beq_eq_false_iff_ne.mpr c21
                    have c21b1 : (((rd_T106 l0 x13_1).f0) != a1) = true := bne_iff_ne.mpr c21
                    by_cases c23 : x7_1.length < 8796093022208
                    · rw [if_pos c23] at H
                      have LMc23 := Aside0.mk c23
                      clear c23
                      obtain ⟨y199, hy199⟩ : ∃ y_ : List (S106), y_ = (x7_1 ++ [(⟨((rd_T106 l0 x13_1).f0), ((rd_T106 l0 x13_1).f1)⟩ : S106)]) := ⟨_, rfl⟩
                      replace H : (boscagelaw02_Put.l0 kj6 a1 a2 y199 x8_1 l0 (l0.length : Int) (wrap64 (x13_1 + 1))) = some r := by first | (rw [hy199]; with_reducible exact H) | (have H2_ := (Option.bind_some _ _).symm.trans H; rw [hy199]; with_reducible exact H2_) | (have H2_ := (Option.bind_some _ _).symm.trans H; with_reducible exact H2_) | with_reducible exact H | (rw [hy199]; exact H) | exact H
                      have Ny199 := Aside0.mk hy199
                      clear hy199
                      have H' := Aside0.mk H
                      clear H
                      have hcz24_0 : wc.cell? ⟨gb192, 0, none⟩ = some (.int .i64 ((rd_T106 l0 x13_1).f0)) := (blk_cell BK192.out 0).trans rfl
                      have hcz24_1 : wc.cell? ⟨gb192, 1, none⟩ = some (.int .i64 ((rd_T106 l0 x13_1).f1)) := (blk_cell BK192.out 1).trans rfl
                      have hfz24_0 := blk_frozen BK192.out 0
                      have hfz24_1 := blk_frozen BK192.out 1
                      go_wp2_with (first | ((with_reducible refine gate_builtin (b := .append) (xs := #[.tmp 35, .tmp 37]) rfl ?_); at_builtin; refine Kd.R_append k106 (w0 := w) w.heap.size rfl (.tmp 35) (.tmp 37) 26 106 (.agg #[(.int .i64 0), (.int .i64 0)]) 16 rfl Tryz.underlying26 info106 rfl (by decide) (by omega) u7 x7_1 (⟨((rd_T106 l0 x13_1).f0), ((rd_T106 l0 x13_1).f1)⟩ : S106) [.int .i64 ((rd_T106 l0 x13_1).f0), .int .i64 ((rd_T106 l0 x13_1).f1)] (fun k_ => k_ ≠ gb192) (fun _ => False) rfl rfl ?aP (fun _ hk => hk.elim) ?aF ?aO ?aB ?aS ?aL ?_; (case aP => exact k106_mkM _ _ _ (⟨((rd_T106 l0 x13_1).f0), ((rd_T106 l0 x13_1).f1)⟩ : S106)); (case aB => exact (by repeat (first | (with_reducible first | exact HB.out | apply below_alloc | apply pw_below_drewN | apply below_drew1 | refine below_set ?_ GE192.out) | exact HB.out))); (case aF => exact (fun k_ hk => Kd.freshB (g := gb192) (o := .cells #[.int .i64 ((rd_T106 l0 x13_1).f0), .int .i64 ((rd_T106 l0 x13_1).f1)] 106 (0, 0)) (by (with_reducible repeat (first | refine blk_drewN ?_ _ | refine blk_drew ?_ | refine blk_alloc ?_ _)); exact BK192.out) k_ hk)); (case aO => exact (by (with_reducible repeat (first | apply Kd.R_alloc | apply Kd.R_drewN | apply Kd.R_drew)); exact HO_7.out)); (case aS => exact (below_size (by repeat (first | (with_reducible first | exact HB.out | apply below_alloc | apply pw_below_drewN | apply below_drew1 | refine below_set ?_ GE192.out) | exact HB.out)))); (case aL => have := LMc23.out; omega); intro v200 w25 ho hb hg hat; rw [← Ny199.out] at ho; have n0_ := Aside0.mk (blk_grown (g := gb192) (o := .cells #[.int .i64 ((rd_T106 l0 x13_1).f0), .int .i64 ((rd_T106 l0 x13_1).f1)] 106 (0, 0)) (by (with_reducible repeat (first | refine blk_drewN ?_ _ | refine blk_drew ?_ | refine blk_alloc ?_ _)); exact BK192.out) hg (Kd.R_away HO_7.out (fun _ hk => hk))); have n1_ := Aside0.mk (hb); have n2_ := Aside0.mk (ho); clear BK192; clear HB; clear HO_7; have BK192 := n0_; have HB := n1_; have HO201 := n2_; clear n0_ n1_ n2_; clear ho hb hg hat))
                      go_roundg kj6
                      case measure => have := HK1.out; have := HJ6.out; omega
                      case rel => exact ⟨(y199), (x8_1), (wrap64 (x13_1 + 1)), (by first | rfl | (simp; done) | (simp [*]; done)), (by first | rfl | (simp; done) | (simp [*]; done)), H', ⟨by have := HK1.out; have := HJ6.out; omega⟩, ⟨by (with_reducible repeat (first | apply Kd.R_alloc | apply Kd.R_drewN | apply Kd.R_drew)); exact Kd.R_mono HO201.out (fun _ hk => trivial)⟩, ⟨by repeat (first | (with_reducible first | exact HB.out | apply below_alloc | apply pw_below_drewN | apply below_drew1 | refine below_set ?_ GE192.out) | exact HB.out)⟩⟩
                    · rw [if_neg c23] at H
                      exact absurd H (by simp)
          · rw [if_neg c6] at H
            exact absurd H (by simp)
        · rw [if_neg c5] at H
          exact absurd H (by simp)
      · rw [if_neg c4] at H
        have c4b0 : decide (x13_1 < (l0.length : Int)) = false := decide_eq_false c4
        clear c4
        by_cases c26 : x8_1 = true
        · subst c26
          have H1 : (some x7_1) = some r := by rw [if_pos rfl] at H; exact H
          clear H
          have H := H1
          clear H1
          obtain rfl := Option.some.inj H
          go_wp2
          go_ret
          exact ⟨_, by first | rfl | (simp [errW_none, errW_some] <;> rfl) | (simp [*, errW_none, errW_some] <;> rfl), by (with_reducible repeat (first | apply Kd.R_alloc | apply Kd.R_drewN | apply Kd.R_drew)); exact HO_7.out, by repeat (first | (with_reducible first | exact HB.out | apply below_alloc | apply pw_below_drewN | apply below_drew1) | exact HB.out)⟩
        · replace c26 := Bool.eq_false_iff.mpr c26
          subst c26
          have H1 : (if x7_1.length < 8796093022208 then (some (x7_1 ++ [(⟨a1, a2⟩ : S106)])) else (none)) = some r := by rw [if_neg (show ¬ (false = true) by decide)] at H; exact H
          clear H
          have H := H1
          clear H1
          by_cases c27 : x7_1.length < 8796093022208
          · rw [if_pos c27] at H
            have LMc27 := Aside0.mk c27
            clear c27
            obtain ⟨y188, hy188⟩ : ∃ y_ : List (S106), y_ = (x7_1 ++ [(⟨a1, a2⟩ : S106)]) := ⟨_, rfl⟩
            replace H : (some y188) = some r := by first | (rw [hy188]; with_reducible exact H) | (have H2_ := (Option.bind_some _ _).symm.trans H; rw [hy188]; with_reducible exact H2_) | (have H2_ := (Option.bind_some _ _).symm.trans H; with_reducible exact H2_) | with_reducible exact H | (rw [hy188]; exact H) | exact H
            have Ny188 := Aside0.mk hy188
            clear hy188
            obtain rfl := Option.some.inj H
            go_wp2_with (first | ((with_reducible refine gate_builtin (b := .append) (xs := #[.tmp 42, .tmp 46]) rfl ?_); at_builtin; refine Kd.R_append k106 (w0 := w) w.heap.size rfl (.tmp 42) (.tmp 46) 26 106 (.agg #[(.int .i64 0), (.int .i64 0)]) 16 rfl Tryz.underlying26 info106 rfl (by decide) (by omega) u7 x7_1 (⟨a1, a2⟩ : S106) [.int .i64 a1, .int .i64 a2] (fun _ => True) (fun _ => False) rfl rfl ?aP (fun _ hk => hk.elim) ?aF ?aO ?aB ?aS ?aL ?_; (case aP => exact k106_mkM _ _ _ (⟨a1, a2⟩ : S106)); (case aB => exact (by repeat (first | (with_reducible first | exact HB.out | apply below_alloc | apply pw_below_drewN | apply below_drew1) | exact HB.out))); (case aF => exact (fun _ _ => trivial)); (case aO => exact (by (with_reducible repeat (first | apply Kd.R_alloc | apply Kd.R_drewN | apply Kd.R_drew)); exact HO_7.out)); (case aS => exact (below_size (by repeat (first | (with_reducible first | exact HB.out | apply below_alloc | apply pw_below_drewN | apply below_drew1) | exact HB.out)))); (case aL => have := LMc27.out; omega); intro v189 w28 ho hb hg hat; rw [← Ny188.out] at ho; have n0_ := Aside0.mk (hb); have n1_ := Aside0.mk (ho); clear HB; clear HO_7; have HB := n0_; have HO190 := n1_; clear n0_ n1_; clear ho hb hg hat))
            go_ret
            exact ⟨_, by first | rfl | (simp [errW_none, errW_some] <;> rfl) | (simp [*, errW_none, errW_some] <;> rfl), by (with_reducible repeat (first | apply Kd.R_alloc | apply Kd.R_drewN | apply Kd.R_drew)); exact HO190.out, by repeat (first | (with_reducible first | exact HB.out | apply below_alloc | apply pw_below_drewN | apply below_drew1) | exact HB.out)⟩
          · rw [if_neg c27] at H
            exact absurd H (by simp)
def boscagelaw02_Rising.l0 : Nat → List (S106) → List Int → Int → Int → Option ((List (S106)))
  | 0, _, _, _, _ => none
  | k + 1, x3, x6, x7, x8 => if x8 < x7 then (if 0 ≤ x8 then (if x8 < (x6.length : Int) then ((boscagelaw02_Put.f k x3 (rd x6 x8) (wrap64 (x8 + 100))).bind fun t203 => (boscagelaw02_Rising.l0 k t203 x6 x7 (wrap64 (x8 + 1)))) else (none)) else (none)) else (some x3)
def boscagelaw02_Rising.f (k : Nat) (l0 : List Int) : Option ((List (S106))) := boscagelaw02_Rising.l0 k ([] : List (S106)) l0 (l0.length : Int) 0
theorem boscagelaw02_Rising.mono_l : ∀ k, (∀ y0 y1 y2 y3, LeO (boscagelaw02_Rising.l0 k y0 y1 y2 y3) (boscagelaw02_Rising.l0 (k + 1) y0 y1 y2 y3))
  | 0 => fun _ _ _ _ r h => by simp [boscagelaw02_Rising.l0] at h
  | k + 1 => by
    have ih0 := boscagelaw02_Rising.mono_l k
    · intro y0 y1 y2 y3
      unfold boscagelaw02_Rising.l0
      repeat' first
      | (with_reducible exact ih0 _ _ _ _)
      | (with_reducible exact boscagelaw02_Put.mono _ _ _ _)
      | (with_reducible exact LeO.refl _)
      | (with_reducible exact LeO.none _)
      | (with_reducible refine LeO.ite ?_ ?_)
      | (with_reducible refine LeO.bind ?_ (fun _ => ?_))
      | exact ih0 _ _ _ _
      | exact boscagelaw02_Put.mono _ _ _ _
      | exact LeO.none _
      | refine LeO.ite ?_ ?_
      | refine LeO.bind ?_ (fun _ => ?_)
theorem boscagelaw02_Rising.mono : ∀ a0 k, LeO (boscagelaw02_Rising.f k a0) (boscagelaw02_Rising.f (k + 1) a0) := by
  intro a0 k
  have ih0 := boscagelaw02_Rising.mono_l k
  unfold boscagelaw02_Rising.f
  repeat' first
      | (with_reducible exact ih0 _ _ _ _)
      | (with_reducible exact boscagelaw02_Put.mono _ _ _ _)
      | (with_reducible exact LeO.refl _)
      | (with_reducible exact LeO.none _)
      | (with_reducible refine LeO.ite ?_ ?_)
      | (with_reducible refine LeO.bind ?_ (fun _ => ?_))
      | exact ih0 _ _ _ _
      | exact boscagelaw02_Put.mono _ _ _ _
      | exact LeO.none _
      | refine LeO.ite ?_ ?_
      | refine LeO.bind ?_ (fun _ => ?_)
set_option maxHeartbeats 8000000 in
set_option maxRecDepth 100000 in
theorem boscagelaw02_Rising.calls (k : Nat) (A0 : Option Addr) (c0 : Nat) (l0 : List Int) (r : List (S106)) (w : World) (hr0 : Kd.C (Kd.int .i64) w A0 l0.length l0) (hc0 : l0.length ≤ c0) (h : boscagelaw02_Rising.f k l0 = some r) :
    Calls Tryz.prog 16 #[.slice A0 l0.length c0] w fun e w' => ∃ v0_ : Value, e = .returned (v0_) ∧ Kd.R k106 106 w' w.heap.size (fun _ => True) v0_ r ∧ Below w.heap.size w w' := by
  have HR0 := Aside0.mk hr0
  have HC0 := Aside0.mk hc0
  clear hr0 hc0
  have HB := Aside0.mk (Below.refl w.heap.size w)
  have H : (boscagelaw02_Rising.l0 k ([] : List (S106)) l0 (l0.length : Int) 0) = some r := h
  clear h
  have H' := Aside0.mk H
  clear H
  go_enter Tryz.func16, Tryz.ntmps16
  go_wp2
  go_loopg [3, 8] k (fun kq v3 v8 w' => ∃ (x3_1 : List (S106)) (x8_1 : Int), v8 = .int .i64 x8_1 ∧ Aside0 (boscagelaw02_Rising.l0 kq x3_1 l0 (l0.length : Int) x8_1 = some r) ∧ Aside0 (kq ≤ k) ∧ Aside0 (Kd.R k106 106 w' w.heap.size (fun _ => True) v3 x3_1) ∧ Aside0 (Below w.heap.size w w'))
  case atStart => exact ⟨(([] : List (S106))), (0), (by first | rfl | (simp; done) | (simp [*]; done)), H', ⟨Nat.le_refl _⟩, ⟨by first | exact Kd.R_nil _ _ _ _ _ | exact Kd.N_nil _ _ _ _ _ | exact Kd.V_nil _ _ _ _ _ | exact Kd.Q_nil _ _ _ _ _ | exact Kd.S_nil _ _ _ _ _⟩, ⟨by repeat (first | (with_reducible first | exact HB.out | apply below_alloc | apply pw_below_drewN | apply below_drew1) | exact HB.out)⟩⟩
  case round =>
    clear H'
    try clear c1
    obtain ⟨x3_1, x8_1, rfl, HA, HK1, HO_3, HB⟩ := hrel
    cases gk with
    | zero => exact absurd HA.out (by simp [boscagelaw02_Rising.l0])
    | succ k1 =>
      have H := HA.out
      clear HA
      simp only [boscagelaw02_Rising.l0] at H
      by_cases c2 : x8_1 < (l0.length : Int)
      · rw [if_pos c2] at H
        have c2b0 : decide (x8_1 < (l0.length : Int)) = true := decide_eq_true c2
        clear c2
        by_cases c3 : 0 ≤ x8_1
        · rw [if_pos c3] at H
          have c3b0 : decide (0 ≤ x8_1) = true := decide_eq_true c3
          clear c3
          by_cases c4 : x8_1 < (l0.length : Int)
          · rw [if_pos c4] at H
            have c4b0 : decide (x8_1 < (l0.length : Int)) = true := decide_eq_true c4
            clear c4
            replace H := Option.bind_eq_some_iff.mp H
            obtain ⟨t203, A50, H⟩ := H
            replace H : (boscagelaw02_Rising.l0 k1 t203 l0 (l0.length : Int) (wrap64 (x8_1 + 1))) = some r := H
            have A5 := Aside0.mk A50
            clear A50
            have H' := Aside0.mk H
            clear H
            have p202 : 0 ≤ (x8_1 : Int) := of_decide_eq_true (by first | (with_reducible assumption) | assumption)
            have q202 : x8_1 < (l0.length : Int) := of_decide_eq_true (by first | (with_reducible assumption) | assumption)
            obtain ⟨ad202, e202, hx202_0⟩ := Kd.at_int HR0.out x8_1 p202 q202
            cases e202
            replace hx202_0 := (HB.out.cell (World.block_lt_of_cell? w _ hx202_0)).trans hx202_0
            replace p202 := eq_true p202
            replace q202 := eq_true q202
            obtain ⟨Ao6, co6, eo6⟩ := Kd.R_slice HO_3.out
            subst eo6
            go_wp2_with (first | ((with_reducible refine gate_callee (f := 47) rfl ?_); refine goesL_ (some 17) rfl rfl Tryz.func47 (by kernel_rfl) rfl #[.slice Ao6 x3_1.length co6, .int .i64 (rd l0 x8_1), .int .i64 (wrap64 (x8_1 + 100))] rfl (by (try simp only [List.map_toArray, List.map_cons, List.map_nil]); first | done | rfl | (simp only [List.length_drop, List.length_take]; rfl)) ?_; (with_reducible refine (boscagelaw02_Put.calls k1 _ _ x3_1 (rd l0 x8_1) (wrap64 (x8_1 + 100)) t203 _ ?side1 ?side2 A5.out).mono ?_); (case side1 => repeat (first | exact (Kd.R_reads' HO_3.out).2.2 | (with_reducible refine Kd.C_alloc ?_ _) | (with_reducible refine Kd.C_drewN ?_ _) | (with_reducible refine Kd.C_drew ?_))); (case side2 => exact (Kd.R_reads' HO_3.out).2.1); rintro e w7 ⟨v204, rfl, ho0, hb⟩; refine ⟨_, rfl, ?_⟩; have n0_ := Aside0.mk (Kd.R_elder' (by (with_reducible repeat (first | apply Kd.R_alloc | apply Kd.R_drewN | apply Kd.R_drew)); exact HO_3.out) (Kd.R_base ho0) hb); have n1_ := Aside0.mk (Kd.R_lower (Kd.R_new' ho0 (Kd.R_lt (by (with_reducible repeat (first | apply Kd.R_alloc | apply Kd.R_drewN | apply Kd.R_drew)); exact HO_3.out))) (below_size (by repeat (first | (with_reducible first | exact HB.out | apply below_alloc | apply pw_below_drewN | apply below_drew1) | exact HB.out)))); have n2_ := Aside0.mk (below_step (by repeat (first | (with_reducible first | exact HB.out | apply below_alloc | apply pw_below_drewN | apply below_drew1) | exact HB.out)) hb); clear HO_3; clear HB; have HO_3 := n0_; have HO205 := n1_; have HB := n2_; clear n0_ n1_ n2_; (try clear hb); (try clear hb2); (try clear hk); (try clear hi); (try clear ho0)))
            go_roundg k1
            case measure => have := HK1.out; omega
            case rel => exact ⟨(t203), (wrap64 (x8_1 + 1)), (by first | rfl | (simp; done) | (simp [*]; done)), H', ⟨by have := HK1.out; omega⟩, ⟨by (with_reducible repeat (first | apply Kd.R_alloc | apply Kd.R_drewN | apply Kd.R_drew)); exact Kd.R_mono HO205.out (fun _ hk => trivial)⟩, ⟨by repeat (first | (with_reducible first | exact HB.out | apply below_alloc | apply pw_below_drewN | apply below_drew1) | exact HB.out)⟩⟩
          · rw [if_neg c4] at H
            exact absurd H (by simp)
        · rw [if_neg c3] at H
          exact absurd H (by simp)
      · rw [if_neg c2] at H
        have c2b0 : decide (x8_1 < (l0.length : Int)) = false := decide_eq_false c2
        clear c2
        obtain rfl := Option.some.inj H
        go_wp2
        go_ret
        exact ⟨_, by first | rfl | (simp [errW_none, errW_some] <;> rfl) | (simp [*, errW_none, errW_some] <;> rfl), by (with_reducible repeat (first | apply Kd.R_alloc | apply Kd.R_drewN | apply Kd.R_drew)); exact HO_3.out, by repeat (first | (with_reducible first | exact HB.out | apply below_alloc | apply pw_below_drewN | apply below_drew1) | exact HB.out)⟩
mutual
def boscagelaw11_Shape_Many.l0 : Nat → Int → List (S29) → Int → Int → Option (Int)
  | 0, _, _, _, _ => none
  | k + 1, x3, x7, x8, x9 => if x9 < x8 then (if 0 ≤ x9 then (if x9 < (x7.length : Int) then ((boscagelaw11_Shape_Many.f k ((rd_T29 x7 x9).f0) ((rd_T29 x7 x9).f1) ((rd_T29 x7 x9).f2) ((rd_T29 x7 x9).f3) ((rd_T29 x7 x9).f4)).bind fun t209 => (boscagelaw11_Shape_Many.l0 k (wrap64 (x3 + t209)) x7 x8 (wrap64 (x9 + 1)))) else (none)) else (none)) else (some x3)
def boscagelaw11_Shape_Many.f : Nat → Bool → Bool → List (S106) → List Int → List (S29) → Option (Int)
  | 0, _, _, _, _, _ => none
  | k + 1, a0_0, a0_1, l0_2, l0_3, l0_4 => boscagelaw11_Shape_Many.l0 k 1 l0_4 (l0_4.length : Int) 0
end
theorem boscagelaw11_Shape_Many.mono_l : ∀ k, (∀ y0 y1 y2 y3 y4, LeO (boscagelaw11_Shape_Many.f k y0 y1 y2 y3 y4) (boscagelaw11_Shape_Many.f (k + 1) y0 y1 y2 y3 y4)) ∧ (∀ y0 y1 y2 y3, LeO (boscagelaw11_Shape_Many.l0 k y0 y1 y2 y3) (boscagelaw11_Shape_Many.l0 (k + 1) y0 y1 y2 y3))
  | 0 => ⟨fun _ _ _ _ _ r h => by simp [boscagelaw11_Shape_Many.f] at h, fun _ _ _ _ r h => by simp [boscagelaw11_Shape_Many.l0] at h⟩
  | k + 1 => by
    obtain ⟨ih0, ih1⟩ := boscagelaw11_Shape_Many.mono_l k
    refine ⟨?_, ?_⟩
    · intro y0 y1 y2 y3 y4
      unfold boscagelaw11_Shape_Many.f
      repeat' first
      | (with_reducible exact ih0 _ _ _ _ _)
      | (with_reducible exact ih1 _ _ _ _)
      | (with_reducible exact LeO.refl _)
      | (with_reducible exact LeO.none _)
      | (with_reducible refine LeO.ite ?_ ?_)
      | (with_reducible refine LeO.bind ?_ (fun _ => ?_))
      | exact ih0 _ _ _ _ _
      | exact ih1 _ _ _ _
      | exact LeO.none _
      | refine LeO.ite ?_ ?_
      | refine LeO.bind ?_ (fun _ => ?_)
    · intro y0 y1 y2 y3
      unfold boscagelaw11_Shape_Many.l0
      repeat' first
      | (with_reducible exact ih0 _ _ _ _ _)
      | (with_reducible exact ih1 _ _ _ _)
      | (with_reducible exact LeO.refl _)
      | (with_reducible exact LeO.none _)
      | (with_reducible refine LeO.ite ?_ ?_)
      | (with_reducible refine LeO.bind ?_ (fun _ => ?_))
      | exact ih0 _ _ _ _ _
      | exact ih1 _ _ _ _
      | exact LeO.none _
      | refine LeO.ite ?_ ?_
      | refine LeO.bind ?_ (fun _ => ?_)
theorem boscagelaw11_Shape_Many.mono : ∀ a0 a1 a2 a3 a4 k, LeO (boscagelaw11_Shape_Many.f k a0 a1 a2 a3 a4) (boscagelaw11_Shape_Many.f (k + 1) a0 a1 a2 a3 a4) := by
  intro a0 a1 a2 a3 a4 k
  obtain ⟨ih0, ih1⟩ := boscagelaw11_Shape_Many.mono_l k
  exact ih0 a0 a1 a2 a3 a4
set_option maxHeartbeats 8000000 in
set_option maxRecDepth 100000 in
theorem boscagelaw11_Shape_Many.calls (k : Nat) : ∀ (a0_0 : Bool) (a0_1 : Bool) (A0_2 : Option Addr) (c0_2 : Nat) (l0_2 : List (S106)) (A0_3 : Option Addr) (c0_3 : Nat) (l0_3 : List Int) (A0_4 : Option Addr) (c0_4 : Nat) (l0_4 : List (S29)) (r : Int) (w : World) (hr0_2 : Kd.C k106 w A0_2 l0_2.length l0_2) (hc0_2 : l0_2.length ≤ c0_2) (hr0_3 : Kd.C (Kd.int .i64) w A0_3 l0_3.length l0_3) (hc0_3 : l0_3.length ≤ c0_3) (hr0_4 : Kd.C k29 w A0_4 l0_4.length l0_4) (hc0_4 : l0_4.length ≤ c0_4) (h : boscagelaw11_Shape_Many.f k a0_0 a0_1 l0_2 l0_3 l0_4 = some r),
    Calls Tryz.prog 25 #[.agg #[.bool a0_0, .bool a0_1, .slice A0_2 l0_2.length c0_2, .slice A0_3 l0_3.length c0_3, .slice A0_4 l0_4.length c0_4]] w fun e w' => e = .returned (.int .i64 r) ∧ Below w.heap.size w w' := by
  induction k using Nat.strongRecOn with
  | _ k ih =>
  intro a0_0 a0_1 A0_2 c0_2 l0_2 A0_3 c0_3 l0_3 A0_4 c0_4 l0_4 r w hr0_2 hc0_2 hr0_3 hc0_3 hr0_4 hc0_4 h
  cases k with
  | zero => exact absurd h (by simp [boscagelaw11_Shape_Many.f])
  | succ k =>
  simp only [boscagelaw11_Shape_Many.f] at h
  have hu29 := Tryz.underlying29
  have HR0_2 := Aside0.mk hr0_2
  have HC0_2 := Aside0.mk hc0_2
  clear hr0_2 hc0_2
  have HR0_3 := Aside0.mk hr0_3
  have HC0_3 := Aside0.mk hc0_3
  clear hr0_3 hc0_3
  have HR0_4 := Aside0.mk hr0_4
  have HC0_4 := Aside0.mk hc0_4
  clear hr0_4 hc0_4
  have HB := Aside0.mk (Below.refl w.heap.size w)
  have H : (boscagelaw11_Shape_Many.l0 k 1 l0_4 (l0_4.length : Int) 0) = some r := h
  clear h
  have H' := Aside0.mk H
  clear H
  go_enter Tryz.func25, Tryz.ntmps25
  go_wp2_with (first | ((with_reducible refine gate_dst (N := 1) rfl ?_); refine box_event ?hg (N := 1) ?hd (cs := #[.bool a0_0, .bool a0_1, .slice A0_2 l0_2.length c0_2, .slice A0_3 l0_3.length c0_3, .slice A0_4 l0_4.length c0_4]) (t := 29) ?hr ?_; (case hd => rfl); (case hg => rfl); (case hr => first | (go_simp; done) | (go_simp; rfl)); intro gb206 hg w2 hbox hb; have n0_ := Aside0.mk (below_step (by repeat (first | (with_reducible first | exact HB.out | apply below_alloc | apply pw_below_drewN | apply below_drew1) | exact HB.out)) hb); have n1_ := Aside0.mk (hbox); have n2_ := Aside0.mk ((by rw [hg]; exact (below_size (by repeat (first | (with_reducible first | exact HB.out | apply below_alloc | apply pw_below_drewN | apply below_drew1) | exact HB.out))) : w.heap.size ≤ gb206)); have n3_ := Aside0.mk ((by rw [hg]; exact (below_size (by repeat (first | (with_reducible first | exact HB.out | apply below_alloc | apply pw_below_drewN | apply below_drew1) | exact HB.out))) : w.heap.size ≤ gb206)); clear HB; have HB := n0_; have BK206 := n1_; have GW206 := n2_; have GE206 := n3_; clear n0_ n1_ n2_ n3_; clear hb hbox hg; have hcz3_0 : w2.cell? ⟨gb206, 0, none⟩ = some (.bool a0_0) := (blk_cell BK206.out 0).trans rfl; have hcz3_1 : w2.cell? ⟨gb206, 1, none⟩ = some (.bool a0_1) := (blk_cell BK206.out 1).trans rfl; have hcz3_2 : w2.cell? ⟨gb206, 2, none⟩ = some (.slice A0_2 l0_2.length c0_2) := (blk_cell BK206.out 2).trans rfl; have hcz3_3 : w2.cell? ⟨gb206, 3, none⟩ = some (.slice A0_3 l0_3.length c0_3) := (blk_cell BK206.out 3).trans rfl; have hcz3_4 : w2.cell? ⟨gb206, 4, none⟩ = some (.slice A0_4 l0_4.length c0_4) := (blk_cell BK206.out 4).trans rfl; have hfz3_0 := blk_frozen BK206.out 0; have hfz3_1 := blk_frozen BK206.out 1; have hfz3_2 := blk_frozen BK206.out 2; have hfz3_3 := blk_frozen BK206.out 3; have hfz3_4 := blk_frozen BK206.out 4))
  go_loopg [3, 9] k (fun kq v3 v9 w' => ∃ (x3_1 : Int) (x9_1 : Int), v3 = .int .i64 x3_1 ∧ v9 = .int .i64 x9_1 ∧ Aside0 (boscagelaw11_Shape_Many.l0 kq x3_1 l0_4 (l0_4.length : Int) x9_1 = some r) ∧ Aside0 (kq ≤ k) ∧ Aside0 (w'.heap[gb206]? = some (.cells #[.bool a0_0, .bool a0_1, (.slice A0_2 l0_2.length c0_2), (.slice A0_3 l0_3.length c0_3), (.slice A0_4 l0_4.length c0_4)] 29 (0, 0))) ∧ Aside0 (Below w.heap.size w w'))
  case atStart => exact ⟨(1), (0), (by first | rfl | (simp; done) | (simp [*]; done)), (by first | rfl | (simp; done) | (simp [*]; done)), H', ⟨Nat.le_refl _⟩, ⟨by (with_reducible repeat (first | refine blk_drewN ?_ _ | refine blk_drew ?_ | refine blk_alloc ?_ _)); exact BK206.out⟩, ⟨by repeat (first | (with_reducible first | exact HB.out | apply below_alloc | apply pw_below_drewN | apply below_drew1 | refine below_set ?_ GE206.out) | exact HB.out)⟩⟩
  case round =>
    clear H'
    try clear c2
    try clear p2
    try clear hcz3_0
    try clear hcz3_1
    try clear hcz3_2
    try clear hcz3_3
    try clear hcz3_4
    try clear hfz3_0
    try clear hfz3_1
    try clear hfz3_2
    try clear hfz3_3
    try clear hfz3_4
    obtain ⟨x3_1, x9_1, rfl, rfl, HA, HK1, BK206, HB⟩ := hrel
    cases gk with
    | zero => exact absurd HA.out (by simp [boscagelaw11_Shape_Many.l0])
    | succ k1 =>
      have H := HA.out
      clear HA
      simp only [boscagelaw11_Shape_Many.l0] at H
      by_cases c4 : x9_1 < (l0_4.length : Int)
      · rw [if_pos c4] at H
        have c4b0 : decide (x9_1 < (l0_4.length : Int)) = true := decide_eq_true c4
        clear c4
        by_cases c5 : 0 ≤ x9_1
        · rw [if_pos c5] at H
          have c5b0 : decide (0 ≤ x9_1) = true := decide_eq_true c5
          clear c5
          by_cases c6 : x9_1 < (l0_4.length : Int)
          · rw [if_pos c6] at H
            have c6b0 : decide (x9_1 < (l0_4.length : Int)) = true := decide_eq_true c6
            clear c6
            replace H := Option.bind_eq_some_iff.mp H
            obtain ⟨t209, A70, H⟩ := H
            replace H : (boscagelaw11_Shape_Many.l0 k1 (wrap64 (x3_1 + t209)) l0_4 (l0_4.length : Int) (wrap64 (x9_1 + 1))) = some r := H
            have A7 := Aside0.mk A70
            clear A70
            have H' := Aside0.mk H
            clear H
            have p207 : 0 ≤ (x9_1 : Int) := of_decide_eq_true (by first | (with_reducible assumption) | assumption)
            have q207 : x9_1 < (l0_4.length : Int) := of_decide_eq_true (by first | (with_reducible assumption) | assumption)
            obtain ⟨ad207, A207_2, c207_2, A207_3, c207_3, A207_4, c207_4, e207, hx207_0, hx207_1, hx207_2, hx207_3, hx207_4, hl207_2, hi207_2, hl207_3, hi207_3, hl207_4, hi207_4⟩ := at_T29 HR0_4.out x9_1 p207 q207
            cases e207
            replace hx207_0 := (HB.out.cell (World.block_lt_of_cell? w _ hx207_0)).trans hx207_0
            replace hx207_1 := (HB.out.cell (World.block_lt_of_cell? w _ hx207_1)).trans hx207_1
            replace hx207_2 := (HB.out.cell (World.block_lt_of_cell? w _ hx207_2)).trans hx207_2
            replace hx207_3 := (HB.out.cell (World.block_lt_of_cell? w _ hx207_3)).trans hx207_3
            replace hx207_4 := (HB.out.cell (World.block_lt_of_cell? w _ hx207_4)).trans hx207_4
            have HR207_2 := Aside0.mk hi207_2
            have HC207_2 := Aside0.mk hl207_2
            clear hi207_2 hl207_2
            have HR207_3 := Aside0.mk hi207_3
            have HC207_3 := Aside0.mk hl207_3
            clear hi207_3 hl207_3
            have HR207_4 := Aside0.mk hi207_4
            have HC207_4 := Aside0.mk hl207_4
            clear hi207_4 hl207_4
            replace p207 := eq_true p207
            replace q207 := eq_true q207
            go_wp2_with (first | ((with_reducible refine gate_dst (N := 5) rfl ?_); refine box_event ?hg (N := 5) ?hd (cs := #[.bool false, .bool false, .slice none 0 0, .slice none 0 0, .slice none 0 0]) (t := 29) ?hr ?_; (case hd => rfl); (case hg => rfl); (case hr => first | (go_simp; done) | (go_simp; rfl)); intro gb208 hg w8 hbox hb; have n0_ := Aside0.mk (blk_below (g := gb206) (o := .cells #[.bool a0_0, .bool a0_1, .slice A0_2 l0_2.length c0_2, .slice A0_3 l0_3.length c0_3, .slice (some ad207) l0_4.length c0_4] 29 (0, 0)) (by (with_reducible repeat (first | refine blk_drewN ?_ _ | refine blk_drew ?_ | refine blk_alloc ?_ _)); exact BK206.out) hb); have n1_ := Aside0.mk (below_step (by repeat (first | (with_reducible first | exact HB.out | apply below_alloc | apply pw_below_drewN | apply below_drew1 | refine below_set ?_ GE206.out) | exact HB.out)) hb); have n2_ := Aside0.mk (hbox); have n3_ := Aside0.mk ((by rw [hg]; exact (below_size (by repeat (first | (with_reducible first | exact HB.out | apply below_alloc | apply pw_below_drewN | apply below_drew1 | refine below_set ?_ GE206.out) | exact HB.out))) : w.heap.size ≤ gb208)); have n4_ := Aside0.mk ((by rw [hg]; exact (below_size (by repeat (first | (with_reducible first | exact HB.out | apply below_alloc | apply pw_below_drewN | apply below_drew1 | refine below_set ?_ GE206.out) | exact HB.out))) : w.heap.size ≤ gb208)); have n5_ := Aside0.mk ((by rw [hg]; exact Nat.ne_of_lt (blk_lt (g := gb206) (o := .cells #[.bool a0_0, .bool a0_1, .slice A0_2 l0_2.length c0_2, .slice A0_3 l0_3.length c0_3, .slice (some ad207) l0_4.length c0_4] 29 (0, 0)) (by (with_reducible repeat (first | refine blk_drewN ?_ _ | refine blk_drew ?_ | refine blk_alloc ?_ _)); exact BK206.out)) : gb206 ≠ gb208)); have n6_ := Aside0.mk ((by rw [hg]; exact Nat.ne_of_gt (blk_lt (g := gb206) (o := .cells #[.bool a0_0, .bool a0_1, .slice A0_2 l0_2.length c0_2, .slice A0_3 l0_3.length c0_3, .slice (some ad207) l0_4.length c0_4] 29 (0, 0)) (by (with_reducible repeat (first | refine blk_drewN ?_ _ | refine blk_drew ?_ | refine blk_alloc ?_ _)); exact BK206.out)) : gb208 ≠ gb206)); clear BK206; clear HB; have BK206 := n0_; have HB := n1_; have BK208 := n2_; have GW208 := n3_; have GE208 := n4_; have NB206_208 := n5_; have NB208_206 := n6_; clear n0_ n1_ n2_ n3_ n4_ n5_ n6_; clear hb hbox hg; have hnb9 := NB208_206.out; have hnc9 := NB206_208.out; have hcz10_0 : w8.cell? ⟨gb208, 0, none⟩ = some (.bool false) := (blk_cell BK208.out 0).trans rfl; have hcz10_1 : w8.cell? ⟨gb208, 1, none⟩ = some (.bool false) := (blk_cell BK208.out 1).trans rfl; have hcz10_2 : w8.cell? ⟨gb208, 2, none⟩ = some (.slice none 0 0) := (blk_cell BK208.out 2).trans rfl; have hcz10_3 : w8.cell? ⟨gb208, 3, none⟩ = some (.slice none 0 0) := (blk_cell BK208.out 3).trans rfl; have hcz10_4 : w8.cell? ⟨gb208, 4, none⟩ = some (.slice none 0 0) := (blk_cell BK208.out 4).trans rfl; have hfz10_0 := blk_frozen BK208.out 0; have hfz10_1 := blk_frozen BK208.out 1; have hfz10_2 := blk_frozen BK208.out 2; have hfz10_3 := blk_frozen BK208.out 3; have hfz10_4 := blk_frozen BK208.out 4) | ((with_reducible refine gate_callee (f := 25) rfl ?_); refine goesL_ (some 15) rfl rfl Tryz.func25 (by kernel_rfl) rfl #[.agg #[.bool ((rd_T29 l0_4 x9_1).f0), .bool ((rd_T29 l0_4 x9_1).f1), .slice A207_2 ((rd_T29 l0_4 x9_1).f2).length c207_2, .slice A207_3 ((rd_T29 l0_4 x9_1).f3).length c207_3, .slice A207_4 ((rd_T29 l0_4 x9_1).f4).length c207_4]] rfl (by (try simp only [List.map_toArray, List.map_cons, List.map_nil]); first | done | rfl | (simp only [List.length_drop, List.length_take]; rfl)) ?_; (with_reducible refine (ih k1 (by have := HK1.out; omega) ((rd_T29 l0_4 x9_1).f0) ((rd_T29 l0_4 x9_1).f1) _ _ ((rd_T29 l0_4 x9_1).f2) _ _ ((rd_T29 l0_4 x9_1).f3) _ _ ((rd_T29 l0_4 x9_1).f4) t209 _ ?side1 ?side2 ?side3 ?side4 ?side5 ?side6 A7.out).mono ?_); (case side1 => exact Kd.C_below HR207_2.out (by repeat (first | (with_reducible first | exact HB.out | apply below_alloc | apply pw_below_drewN | apply below_drew1 | refine below_set ?_ GE206.out | refine below_set ?_ GE208.out) | exact HB.out))); (case side2 => exact HC207_2.out); (case side3 => exact Kd.C_below HR207_3.out (by repeat (first | (with_reducible first | exact HB.out | apply below_alloc | apply pw_below_drewN | apply below_drew1 | refine below_set ?_ GE206.out | refine below_set ?_ GE208.out) | exact HB.out))); (case side4 => exact HC207_3.out); (case side5 => exact Kd.C_below HR207_4.out (by repeat (first | (with_reducible first | exact HB.out | apply below_alloc | apply pw_below_drewN | apply below_drew1 | refine below_set ?_ GE206.out | refine below_set ?_ GE208.out) | exact HB.out))); (case side6 => exact HC207_4.out); rintro e w11 ⟨rfl, hb⟩; refine ⟨_, rfl, ?_⟩; have n0_ := Aside0.mk (blk_below (g := gb206) (o := .cells #[.bool a0_0, .bool a0_1, .slice A0_2 l0_2.length c0_2, .slice A0_3 l0_3.length c0_3, .slice (some ad207) l0_4.length c0_4] 29 (0, 0)) (by (with_reducible repeat (first | refine blk_drewN ?_ _ | refine blk_drew ?_ | refine blk_alloc ?_ _)); refine blk_far ?_ NB206_208.out _; (with_reducible repeat (first | refine blk_drewN ?_ _ | refine blk_drew ?_ | refine blk_alloc ?_ _)); refine blk_far ?_ NB206_208.out _; (with_reducible repeat (first | refine blk_drewN ?_ _ | refine blk_drew ?_ | refine blk_alloc ?_ _)); refine blk_far ?_ NB206_208.out _; (with_reducible repeat (first | refine blk_drewN ?_ _ | refine blk_drew ?_ | refine blk_alloc ?_ _)); refine blk_far ?_ NB206_208.out _; (with_reducible repeat (first | refine blk_drewN ?_ _ | refine blk_drew ?_ | refine blk_alloc ?_ _)); refine blk_far ?_ NB206_208.out _; (with_reducible repeat (first | refine blk_drewN ?_ _ | refine blk_drew ?_ | refine blk_alloc ?_ _)); exact BK206.out) hb); have n1_ := Aside0.mk (blk_below (g := gb208) (o := .cells #[.bool ((rd_T29 l0_4 x9_1).f0), .bool ((rd_T29 l0_4 x9_1).f1), .slice A207_2 ((rd_T29 l0_4 x9_1).f2).length c207_2, .slice A207_3 ((rd_T29 l0_4 x9_1).f3).length c207_3, .slice A207_4 ((rd_T29 l0_4 x9_1).f4).length c207_4] 29 (0, 0)) (by (with_reducible repeat (first | refine blk_drewN ?_ _ | refine blk_drew ?_ | refine blk_alloc ?_ _)); refine blk_put (cs := #[.bool ((rd_T29 l0_4 x9_1).f0), .bool ((rd_T29 l0_4 x9_1).f1), .slice A207_2 ((rd_T29 l0_4 x9_1).f2).length c207_2, .slice A207_3 ((rd_T29 l0_4 x9_1).f3).length c207_3, .slice none 0 0]) ?_ 4 _ rfl; (with_reducible repeat (first | refine blk_drewN ?_ _ | refine blk_drew ?_ | refine blk_alloc ?_ _)); refine blk_put (cs := #[.bool ((rd_T29 l0_4 x9_1).f0), .bool ((rd_T29 l0_4 x9_1).f1), .slice A207_2 ((rd_T29 l0_4 x9_1).f2).length c207_2, .slice none 0 0, .slice none 0 0]) ?_ 3 _ rfl; (with_reducible repeat (first | refine blk_drewN ?_ _ | refine blk_drew ?_ | refine blk_alloc ?_ _)); refine blk_put (cs := #[.bool ((rd_T29 l0_4 x9_1).f0), .bool ((rd_T29 l0_4 x9_1).f1), .slice none 0 0, .slice none 0 0, .slice none 0 0]) ?_ 2 _ rfl; (with_reducible repeat (first | refine blk_drewN ?_ _ | refine blk_drew ?_ | refine blk_alloc ?_ _)); refine blk_put (cs := #[.bool ((rd_T29 l0_4 x9_1).f0), .bool false, .slice none 0 0, .slice none 0 0, .slice none 0 0]) ?_ 1 _ rfl; (with_reducible repeat (first | refine blk_drewN ?_ _ | refine blk_drew ?_ | refine blk_alloc ?_ _)); refine blk_put (cs := #[.bool false, .bool false, .slice none 0 0, .slice none 0 0, .slice none 0 0]) ?_ 0 _ rfl; (with_reducible repeat (first | refine blk_drewN ?_ _ | refine blk_drew ?_ | refine blk_alloc ?_ _)); exact BK208.out) hb); have n2_ := Aside0.mk (below_step (by repeat (first | (with_reducible first | exact HB.out | apply below_alloc | apply pw_below_drewN | apply below_drew1 | refine below_set ?_ GE206.out | refine below_set ?_ GE208.out) | exact HB.out)) hb); clear BK206; clear BK208; clear HB; have BK206 := n0_; have BK208 := n1_; have HB := n2_; clear n0_ n1_ n2_; (try clear hb); (try clear hb2); (try clear hk); (try clear hi)))
            go_roundg k1
            case measure => have := HK1.out; omega
            case rel => exact ⟨(wrap64 (x3_1 + t209)), (wrap64 (x9_1 + 1)), (by first | rfl | (simp; done) | (simp [*]; done)), (by first | rfl | (simp; done) | (simp [*]; done)), H', ⟨by have := HK1.out; omega⟩, ⟨by (with_reducible repeat (first | refine blk_drewN ?_ _ | refine blk_drew ?_ | refine blk_alloc ?_ _)); exact BK206.out⟩, ⟨by repeat (first | (with_reducible first | exact HB.out | apply below_alloc | apply pw_below_drewN | apply below_drew1 | refine below_set ?_ GE206.out | refine below_set ?_ GE208.out) | exact HB.out)⟩⟩
          · rw [if_neg c6] at H
            exact absurd H (by simp)
        · rw [if_neg c5] at H
          exact absurd H (by simp)
      · rw [if_neg c4] at H
        have c4b0 : decide (x9_1 < (l0_4.length : Int)) = false := decide_eq_false c4
        clear c4
        obtain rfl := Option.some.inj H
        go_wp2
        go_ret
        exact ⟨by first | rfl | (simp [errW_none, errW_some] <;> rfl) | (simp [*, errW_none, errW_some] <;> rfl), by repeat (first | (with_reducible first | exact HB.out | apply below_alloc | apply pw_below_drewN | apply below_drew1 | refine below_set ?_ GE206.out) | exact HB.out)⟩
def ref_Ref_Place.f (a0 : Int) : Option (Int) := some (wrap64 ((Go.bits .and .i64 a0 1099511627775) - 1))
set_option maxHeartbeats 8000000 in
set_option maxRecDepth 100000 in
theorem ref_Ref_Place.calls (a0 : Int) (r : Int) (w : World) (h : ref_Ref_Place.f a0 = some r) :
    Calls Tryz.prog 162 #[.int .i64 a0] w fun e w' => e = .returned (.int .i64 r) ∧ Drawn0 w w' := by
  have H : (some (wrap64 ((Go.bits .and .i64 a0 1099511627775) - 1))) = some r := h
  clear h
  obtain rfl := Option.some.inj H
  go_enter Tryz.func162, Tryz.ntmps162
  go_wp2
  go_ret
  exact ⟨by first | rfl | (simp; done) | (simp [*]; done), by repeat (first | exact Drawn0.refl _ | apply Drawn0.step)⟩
mutual
def boscagelaw11_Shape_Deep.l0 : Nat → Int → List (S29) → Int → Int → Option (Int)
  | 0, _, _, _, _ => none
  | k + 1, x3, x7, x8, x9 => if x9 < x8 then (if 0 ≤ x9 then (if x9 < (x7.length : Int) then ((boscagelaw11_Shape_Deep.f k ((rd_T29 x7 x9).f0) ((rd_T29 x7 x9).f1) ((rd_T29 x7 x9).f2) ((rd_T29 x7 x9).f3) ((rd_T29 x7 x9).f4)).bind fun t224 => (boscagelaw11_Shape_Deep.l0 k (mx x3 (wrap64 (1 + t224))) x7 x8 (wrap64 (x9 + 1)))) else (none)) else (none)) else (some x3)
def boscagelaw11_Shape_Deep.f : Nat → Bool → Bool → List (S106) → List Int → List (S29) → Option (Int)
  | 0, _, _, _, _, _ => none
  | k + 1, a0_0, a0_1, l0_2, l0_3, l0_4 => boscagelaw11_Shape_Deep.l0 k 0 l0_4 (l0_4.length : Int) 0
end
theorem boscagelaw11_Shape_Deep.mono_l : ∀ k, (∀ y0 y1 y2 y3 y4, LeO (boscagelaw11_Shape_Deep.f k y0 y1 y2 y3 y4) (boscagelaw11_Shape_Deep.f (k + 1) y0 y1 y2 y3 y4)) ∧ (∀ y0 y1 y2 y3, LeO (boscagelaw11_Shape_Deep.l0 k y0 y1 y2 y3) (boscagelaw11_Shape_Deep.l0 (k + 1) y0 y1 y2 y3))
  | 0 => ⟨fun _ _ _ _ _ r h => by simp [boscagelaw11_Shape_Deep.f] at h, fun _ _ _ _ r h => by simp [boscagelaw11_Shape_Deep.l0] at h⟩
  | k + 1 => by
    obtain ⟨ih0, ih1⟩ := boscagelaw11_Shape_Deep.mono_l k
    refine ⟨?_, ?_⟩
    · intro y0 y1 y2 y3 y4
      unfold boscagelaw11_Shape_Deep.f
      repeat' first
      | (with_reducible exact ih0 _ _ _ _ _)
      | (with_reducible exact ih1 _ _ _ _)
      | (with_reducible exact LeO.refl _)
      | (with_reducible exact LeO.none _)
      | (with_reducible refine LeO.ite ?_ ?_)
      | (with_reducible refine LeO.bind ?_ (fun _ => ?_))
      | exact ih0 _ _ _ _ _
      | exact ih1 _ _ _ _
      | exact LeO.none _
      | refine LeO.ite ?_ ?_
      | refine LeO.bind ?_ (fun _ => ?_)
    · intro y0 y1 y2 y3
      unfold boscagelaw11_Shape_Deep.l0
      repeat' first
      | (with_reducible exact ih0 _ _ _ _ _)
      | (with_reducible exact ih1 _ _ _ _)
      | (with_reducible exact LeO.refl _)
      | (with_reducible exact LeO.none _)
      | (with_reducible refine LeO.ite ?_ ?_)
      | (with_reducible refine LeO.bind ?_ (fun _ => ?_))
      | exact ih0 _ _ _ _ _
      | exact ih1 _ _ _ _
      | exact LeO.none _
      | refine LeO.ite ?_ ?_
      | refine LeO.bind ?_ (fun _ => ?_)
theorem boscagelaw11_Shape_Deep.mono : ∀ a0 a1 a2 a3 a4 k, LeO (boscagelaw11_Shape_Deep.f k a0 a1 a2 a3 a4) (boscagelaw11_Shape_Deep.f (k + 1) a0 a1 a2 a3 a4) := by
  intro a0 a1 a2 a3 a4 k
  obtain ⟨ih0, ih1⟩ := boscagelaw11_Shape_Deep.mono_l k
  exact ih0 a0 a1 a2 a3 a4
set_option maxHeartbeats 8000000 in
set_option maxRecDepth 100000 in
theorem boscagelaw11_Shape_Deep.calls (k : Nat) : ∀ (a0_0 : Bool) (a0_1 : Bool) (A0_2 : Option Addr) (c0_2 : Nat) (l0_2 : List (S106)) (A0_3 : Option Addr) (c0_3 : Nat) (l0_3 : List Int) (A0_4 : Option Addr) (c0_4 : Nat) (l0_4 : List (S29)) (r : Int) (w : World) (hr0_2 : Kd.C k106 w A0_2 l0_2.length l0_2) (hc0_2 : l0_2.length ≤ c0_2) (hr0_3 : Kd.C (Kd.int .i64) w A0_3 l0_3.length l0_3) (hc0_3 : l0_3.length ≤ c0_3) (hr0_4 : Kd.C k29 w A0_4 l0_4.length l0_4) (hc0_4 : l0_4.length ≤ c0_4) (h : boscagelaw11_Shape_Deep.f k a0_0 a0_1 l0_2 l0_3 l0_4 = some r),
    Calls Tryz.prog 20 #[.agg #[.bool a0_0, .bool a0_1, .slice A0_2 l0_2.length c0_2, .slice A0_3 l0_3.length c0_3, .slice A0_4 l0_4.length c0_4]] w fun e w' => e = .returned (.int .i64 r) ∧ Below w.heap.size w w' := by
  induction k using Nat.strongRecOn with
  | _ k ih =>
  intro a0_0 a0_1 A0_2 c0_2 l0_2 A0_3 c0_3 l0_3 A0_4 c0_4 l0_4 r w hr0_2 hc0_2 hr0_3 hc0_3 hr0_4 hc0_4 h
  cases k with
  | zero => exact absurd h (by simp [boscagelaw11_Shape_Deep.f])
  | succ k =>
  simp only [boscagelaw11_Shape_Deep.f] at h
  have hu29 := Tryz.underlying29
  have HR0_2 := Aside0.mk hr0_2
  have HC0_2 := Aside0.mk hc0_2
  clear hr0_2 hc0_2
  have HR0_3 := Aside0.mk hr0_3
  have HC0_3 := Aside0.mk hc0_3
  clear hr0_3 hc0_3
  have HR0_4 := Aside0.mk hr0_4
  have HC0_4 := Aside0.mk hc0_4
  clear hr0_4 hc0_4
  have HB := Aside0.mk (Below.refl w.heap.size w)
  have H : (boscagelaw11_Shape_Deep.l0 k 0 l0_4 (l0_4.length : Int) 0) = some r := h
  clear h
  have H' := Aside0.mk H
  clear H
  go_enter Tryz.func20, Tryz.ntmps20
  go_wp2_with (first | ((with_reducible refine gate_dst (N := 1) rfl ?_); refine box_event ?hg (N := 1) ?hd (cs := #[.bool a0_0, .bool a0_1, .slice A0_2 l0_2.length c0_2, .slice A0_3 l0_3.length c0_3, .slice A0_4 l0_4.length c0_4]) (t := 29) ?hr ?_; (case hd => rfl); (case hg => rfl); (case hr => first | (go_simp; done) | (go_simp; rfl)); intro gb221 hg w2 hbox hb; have n0_ := Aside0.mk (below_step (by repeat (first | (with_reducible first | exact HB.out | apply below_alloc | apply pw_below_drewN | apply below_drew1) | exact HB.out)) hb); have n1_ := Aside0.mk (hbox); have n2_ := Aside0.mk ((by rw [hg]; exact (below_size (by repeat (first | (with_reducible first | exact HB.out | apply below_alloc | apply pw_below_drewN | apply below_drew1) | exact HB.out))) : w.heap.size ≤ gb221)); have n3_ := Aside0.mk ((by rw [hg]; exact (below_size (by repeat (first | (with_reducible first | exact HB.out | apply below_alloc | apply pw_below_drewN | apply below_drew1) | exact HB.out))) : w.heap.size ≤ gb221)); clear HB; have HB := n0_; have BK221 := n1_; have GW221 := n2_; have GE221 := n3_; clear n0_ n1_ n2_ n3_; clear hb hbox hg; have hcz3_0 : w2.cell? ⟨gb221, 0, none⟩ = some (.bool a0_0) := (blk_cell BK221.out 0).trans rfl; have hcz3_1 : w2.cell? ⟨gb221, 1, none⟩ = some (.bool a0_1) := (blk_cell BK221.out 1).trans rfl; have hcz3_2 : w2.cell? ⟨gb221, 2, none⟩ = some (.slice A0_2 l0_2.length c0_2) := (blk_cell BK221.out 2).trans rfl; have hcz3_3 : w2.cell? ⟨gb221, 3, none⟩ = some (.slice A0_3 l0_3.length c0_3) := (blk_cell BK221.out 3).trans rfl; have hcz3_4 : w2.cell? ⟨gb221, 4, none⟩ = some (.slice A0_4 l0_4.length c0_4) := (blk_cell BK221.out 4).trans rfl; have hfz3_0 := blk_frozen BK221.out 0; have hfz3_1 := blk_frozen BK221.out 1; have hfz3_2 := blk_frozen BK221.out 2; have hfz3_3 := blk_frozen BK221.out 3; have hfz3_4 := blk_frozen BK221.out 4))
  go_loopg [3, 9] k (fun kq v3 v9 w' => ∃ (x3_1 : Int) (x9_1 : Int), v3 = .int .i64 x3_1 ∧ v9 = .int .i64 x9_1 ∧ Aside0 (boscagelaw11_Shape_Deep.l0 kq x3_1 l0_4 (l0_4.length : Int) x9_1 = some r) ∧ Aside0 (kq ≤ k) ∧ Aside0 (w'.heap[gb221]? = some (.cells #[.bool a0_0, .bool a0_1, (.slice A0_2 l0_2.length c0_2), (.slice A0_3 l0_3.length c0_3), (.slice A0_4 l0_4.length c0_4)] 29 (0, 0))) ∧ Aside0 (Below w.heap.size w w'))
  case atStart => exact ⟨(0), (0), (by first | rfl | (simp; done) | (simp [*]; done)), (by first | rfl | (simp; done) | (simp [*]; done)), H', ⟨Nat.le_refl _⟩, ⟨by (with_reducible repeat (first | refine blk_drewN ?_ _ | refine blk_drew ?_ | refine blk_alloc ?_ _)); exact BK221.out⟩, ⟨by repeat (first | (with_reducible first | exact HB.out | apply below_alloc | apply pw_below_drewN | apply below_drew1 | refine below_set ?_ GE221.out) | exact HB.out)⟩⟩
  case round =>
    clear H'
    try clear c2
    try clear p2
    try clear hcz3_0
    try clear hcz3_1
    try clear hcz3_2
    try clear hcz3_3
    try clear hcz3_4
    try clear hfz3_0
    try clear hfz3_1
    try clear hfz3_2
    try clear hfz3_3
    try clear hfz3_4
    obtain ⟨x3_1, x9_1, rfl, rfl, HA, HK1, BK221, HB⟩ := hrel
    cases gk with
    | zero => exact absurd HA.out (by simp [boscagelaw11_Shape_Deep.l0])
    | succ k1 =>
      have H := HA.out
      clear HA
      simp only [boscagelaw11_Shape_Deep.l0] at H
      by_cases c4 : x9_1 < (l0_4.length : Int)
      · rw [if_pos c4] at H
        have c4b0 : decide (x9_1 < (l0_4.length : Int)) = true := decide_eq_true c4
        clear c4
        by_cases c5 : 0 ≤ x9_1
        · rw [if_pos c5] at H
          have c5b0 : decide (0 ≤ x9_1) = true := decide_eq_true c5
          clear c5
          by_cases c6 : x9_1 < (l0_4.length : Int)
          · rw [if_pos c6] at H
            have c6b0 : decide (x9_1 < (l0_4.length : Int)) = true := decide_eq_true c6
            clear c6
            replace H := Option.bind_eq_some_iff.mp H
            obtain ⟨t224, A70, H⟩ := H
            replace H : (boscagelaw11_Shape_Deep.l0 k1 (mx x3_1 (wrap64 (1 + t224))) l0_4 (l0_4.length : Int) (wrap64 (x9_1 + 1))) = some r := H
            have A7 := Aside0.mk A70
            clear A70
            obtain ⟨ji8, hji8⟩ : ∃ j_ : Int, (mx x3_1 (wrap64 (1 + t224))) = j_ := ⟨_, rfl⟩
            replace H : (boscagelaw11_Shape_Deep.l0 k1 ji8 l0_4 (l0_4.length : Int) (wrap64 (x9_1 + 1))) = some r := by first | (rw [hji8] at H; exact H) | (simp only [hji8] at H ⊢; exact H)
            (try rw [hji8] at A7)
            have hji8_ : (if x3_1 < (wrap64 (1 + t224)) then (wrap64 (1 + t224)) else x3_1) = ji8 := hji8
            have H' := Aside0.mk H
            clear H
            have p222 : 0 ≤ (x9_1 : Int) := of_decide_eq_true (by first | (with_reducible assumption) | assumption)
            have q222 : x9_1 < (l0_4.length : Int) := of_decide_eq_true (by first | (with_reducible assumption) | assumption)
            obtain ⟨ad222, A222_2, c222_2, A222_3, c222_3, A222_4, c222_4, e222, hx222_0, hx222_1, hx222_2, hx222_3, hx222_4, hl222_2, hi222_2, hl222_3, hi222_3, hl222_4, hi222_4⟩ := at_T29 HR0_4.out x9_1 p222 q222
            cases e222
            replace hx222_0 := (HB.out.cell (World.block_lt_of_cell? w _ hx222_0)).trans hx222_0
            replace hx222_1 := (HB.out.cell (World.block_lt_of_cell? w _ hx222_1)).trans hx222_1
            replace hx222_2 := (HB.out.cell (World.block_lt_of_cell? w _ hx222_2)).trans hx222_2
            replace hx222_3 := (HB.out.cell (World.block_lt_of_cell? w _ hx222_3)).trans hx222_3
            replace hx222_4 := (HB.out.cell (World.block_lt_of_cell? w _ hx222_4)).trans hx222_4
            have HR222_2 := Aside0.mk hi222_2
            have HC222_2 := Aside0.mk hl222_2
            clear hi222_2 hl222_2
            have HR222_3 := Aside0.mk hi222_3
            have HC222_3 := Aside0.mk hl222_3
            clear hi222_3 hl222_3
            have HR222_4 := Aside0.mk hi222_4
            have HC222_4 := Aside0.mk hl222_4
            clear hi222_4 hl222_4
            replace p222 := eq_true p222
            replace q222 := eq_true q222
            go_wp2_with (first | ((with_reducible refine gate_dst (N := 5) rfl ?_); refine box_event ?hg (N := 5) ?hd (cs := #[.bool false, .bool false, .slice none 0 0, .slice none 0 0, .slice none 0 0]) (t := 29) ?hr ?_; (case hd => rfl); (case hg => rfl); (case hr => first | (go_simp; done) | (go_simp; rfl)); intro gb223 hg w9 hbox hb; have n0_ := Aside0.mk (blk_below (g := gb221) (o := .cells #[.bool a0_0, .bool a0_1, .slice A0_2 l0_2.length c0_2, .slice A0_3 l0_3.length c0_3, .slice (some ad222) l0_4.length c0_4] 29 (0, 0)) (by (with_reducible repeat (first | refine blk_drewN ?_ _ | refine blk_drew ?_ | refine blk_alloc ?_ _)); exact BK221.out) hb); have n1_ := Aside0.mk (below_step (by repeat (first | (with_reducible first | exact HB.out | apply below_alloc | apply pw_below_drewN | apply below_drew1 | refine below_set ?_ GE221.out) | exact HB.out)) hb); have n2_ := Aside0.mk (hbox); have n3_ := Aside0.mk ((by rw [hg]; exact (below_size (by repeat (first | (with_reducible first | exact HB.out | apply below_alloc | apply pw_below_drewN | apply below_drew1 | refine below_set ?_ GE221.out) | exact HB.out))) : w.heap.size ≤ gb223)); have n4_ := Aside0.mk ((by rw [hg]; exact (below_size (by repeat (first | (with_reducible first | exact HB.out | apply below_alloc | apply pw_below_drewN | apply below_drew1 | refine below_set ?_ GE221.out) | exact HB.out))) : w.heap.size ≤ gb223)); have n5_ := Aside0.mk ((by rw [hg]; exact Nat.ne_of_lt (blk_lt (g := gb221) (o := .cells #[.bool a0_0, .bool a0_1, .slice A0_2 l0_2.length c0_2, .slice A0_3 l0_3.length c0_3, .slice (some ad222) l0_4.length c0_4] 29 (0, 0)) (by (with_reducible repeat (first | refine blk_drewN ?_ _ | refine blk_drew ?_ | refine blk_alloc ?_ _)); exact BK221.out)) : gb221 ≠ gb223)); have n6_ := Aside0.mk ((by rw [hg]; exact Nat.ne_of_gt (blk_lt (g := gb221) (o := .cells #[.bool a0_0, .bool a0_1, .slice A0_2 l0_2.length c0_2, .slice A0_3 l0_3.length c0_3, .slice (some ad222) l0_4.length c0_4] 29 (0, 0)) (by (with_reducible repeat (first | refine blk_drewN ?_ _ | refine blk_drew ?_ | refine blk_alloc ?_ _)); exact BK221.out)) : gb223 ≠ gb221)); clear BK221; clear HB; have BK221 := n0_; have HB := n1_; have BK223 := n2_; have GW223 := n3_; have GE223 := n4_; have NB221_223 := n5_; have NB223_221 := n6_; clear n0_ n1_ n2_ n3_ n4_ n5_ n6_; clear hb hbox hg; have hnb10 := NB223_221.out; have hnc10 := NB221_223.out; have hcz11_0 : w9.cell? ⟨gb223, 0, none⟩ = some (.bool false) := (blk_cell BK223.out 0).trans rfl; have hcz11_1 : w9.cell? ⟨gb223, 1, none⟩ = some (.bool false) := (blk_cell BK223.out 1).trans rfl; have hcz11_2 : w9.cell? ⟨gb223, 2, none⟩ = some (.slice none 0 0) := (blk_cell BK223.out 2).trans rfl; have hcz11_3 : w9.cell? ⟨gb223, 3, none⟩ = some (.slice none 0 0) := (blk_cell BK223.out 3).trans rfl; have hcz11_4 : w9.cell? ⟨gb223, 4, none⟩ = some (.slice none 0 0) := (blk_cell BK223.out 4).trans rfl; have hfz11_0 := blk_frozen BK223.out 0; have hfz11_1 := blk_frozen BK223.out 1; have hfz11_2 := blk_frozen BK223.out 2; have hfz11_3 := blk_frozen BK223.out 3; have hfz11_4 := blk_frozen BK223.out 4) | ((with_reducible refine gate_callee (f := 20) rfl ?_); refine goesL_ (some 15) rfl rfl Tryz.func20 (by kernel_rfl) rfl #[.agg #[.bool ((rd_T29 l0_4 x9_1).f0), .bool ((rd_T29 l0_4 x9_1).f1), .slice A222_2 ((rd_T29 l0_4 x9_1).f2).length c222_2, .slice A222_3 ((rd_T29 l0_4 x9_1).f3).length c222_3, .slice A222_4 ((rd_T29 l0_4 x9_1).f4).length c222_4]] rfl (by (try simp only [List.map_toArray, List.map_cons, List.map_nil]); first | done | rfl | (simp only [List.length_drop, List.length_take]; rfl)) ?_; (with_reducible refine (ih k1 (by have := HK1.out; omega) ((rd_T29 l0_4 x9_1).f0) ((rd_T29 l0_4 x9_1).f1) _ _ ((rd_T29 l0_4 x9_1).f2) _ _ ((rd_T29 l0_4 x9_1).f3) _ _ ((rd_T29 l0_4 x9_1).f4) t224 _ ?side1 ?side2 ?side3 ?side4 ?side5 ?side6 A7.out).mono ?_); (case side1 => exact Kd.C_below HR222_2.out (by repeat (first | (with_reducible first | exact HB.out | apply below_alloc | apply pw_below_drewN | apply below_drew1 | refine below_set ?_ GE221.out | refine below_set ?_ GE223.out) | exact HB.out))); (case side2 => exact HC222_2.out); (case side3 => exact Kd.C_below HR222_3.out (by repeat (first | (with_reducible first | exact HB.out | apply below_alloc | apply pw_below_drewN | apply below_drew1 | refine below_set ?_ GE221.out | refine below_set ?_ GE223.out) | exact HB.out))); (case side4 => exact HC222_3.out); (case side5 => exact Kd.C_below HR222_4.out (by repeat (first | (with_reducible first | exact HB.out | apply below_alloc | apply pw_below_drewN | apply below_drew1 | refine below_set ?_ GE221.out | refine below_set ?_ GE223.out) | exact HB.out))); (case side6 => exact HC222_4.out); rintro e w12 ⟨rfl, hb⟩; refine ⟨_, rfl, ?_⟩; have n0_ := Aside0.mk (blk_below (g := gb221) (o := .cells #[.bool a0_0, .bool a0_1, .slice A0_2 l0_2.length c0_2, .slice A0_3 l0_3.length c0_3, .slice (some ad222) l0_4.length c0_4] 29 (0, 0)) (by (with_reducible repeat (first | refine blk_drewN ?_ _ | refine blk_drew ?_ | refine blk_alloc ?_ _)); refine blk_far ?_ NB221_223.out _; (with_reducible repeat (first | refine blk_drewN ?_ _ | refine blk_drew ?_ | refine blk_alloc ?_ _)); refine blk_far ?_ NB221_223.out _; (with_reducible repeat (first | refine blk_drewN ?_ _ | refine blk_drew ?_ | refine blk_alloc ?_ _)); refine blk_far ?_ NB221_223.out _; (with_reducible repeat (first | refine blk_drewN ?_ _ | refine blk_drew ?_ | refine blk_alloc ?_ _)); refine blk_far ?_ NB221_223.out _; (with_reducible repeat (first | refine blk_drewN ?_ _ | refine blk_drew ?_ | refine blk_alloc ?_ _)); refine blk_far ?_ NB221_223.out _; (with_reducible repeat (first | refine blk_drewN ?_ _ | refine blk_drew ?_ | refine blk_alloc ?_ _)); exact BK221.out) hb); have n1_ := Aside0.mk (blk_below (g := gb223) (o := .cells #[.bool ((rd_T29 l0_4 x9_1).f0), .bool ((rd_T29 l0_4 x9_1).f1), .slice A222_2 ((rd_T29 l0_4 x9_1).f2).length c222_2, .slice A222_3 ((rd_T29 l0_4 x9_1).f3).length c222_3, .slice A222_4 ((rd_T29 l0_4 x9_1).f4).length c222_4] 29 (0, 0)) (by (with_reducible repeat (first | refine blk_drewN ?_ _ | refine blk_drew ?_ | refine blk_alloc ?_ _)); refine blk_put (cs := #[.bool ((rd_T29 l0_4 x9_1).f0), .bool ((rd_T29 l0_4 x9_1).f1), .slice A222_2 ((rd_T29 l0_4 x9_1).f2).length c222_2, .slice A222_3 ((rd_T29 l0_4 x9_1).f3).length c222_3, .slice none 0 0]) ?_ 4 _ rfl; (with_reducible repeat (first | refine blk_drewN ?_ _ | refine blk_drew ?_ | refine blk_alloc ?_ _)); refine blk_put (cs := #[.bool ((rd_T29 l0_4 x9_1).f0), .bool ((rd_T29 l0_4 x9_1).f1), .slice A222_2 ((rd_T29 l0_4 x9_1).f2).length c222_2, .slice none 0 0, .slice none 0 0]) ?_ 3 _ rfl; (with_reducible repeat (first | refine blk_drewN ?_ _ | refine blk_drew ?_ | refine blk_alloc ?_ _)); refine blk_put (cs := #[.bool ((rd_T29 l0_4 x9_1).f0), .bool ((rd_T29 l0_4 x9_1).f1), .slice none 0 0, .slice none 0 0, .slice none 0 0]) ?_ 2 _ rfl; (with_reducible repeat (first | refine blk_drewN ?_ _ | refine blk_drew ?_ | refine blk_alloc ?_ _)); refine blk_put (cs := #[.bool ((rd_T29 l0_4 x9_1).f0), .bool false, .slice none 0 0, .slice none 0 0, .slice none 0 0]) ?_ 1 _ rfl; (with_reducible repeat (first | refine blk_drewN ?_ _ | refine blk_drew ?_ | refine blk_alloc ?_ _)); refine blk_put (cs := #[.bool false, .bool false, .slice none 0 0, .slice none 0 0, .slice none 0 0]) ?_ 0 _ rfl; (with_reducible repeat (first | refine blk_drewN ?_ _ | refine blk_drew ?_ | refine blk_alloc ?_ _)); exact BK223.out) hb); have n2_ := Aside0.mk (below_step (by repeat (first | (with_reducible first | exact HB.out | apply below_alloc | apply pw_below_drewN | apply below_drew1 | refine below_set ?_ GE221.out | refine below_set ?_ GE223.out) | exact HB.out)) hb); clear BK221; clear BK223; clear HB; have BK221 := n0_; have BK223 := n1_; have HB := n2_; clear n0_ n1_ n2_; (try clear hb); (try clear hb2); (try clear hk); (try clear hi)))
            go_roundg k1
            case measure => have := HK1.out; omega
            case rel => exact ⟨(ji8), (wrap64 (x9_1 + 1)), (by first | rfl | (simp; done) | (simp only [← hji8] <;> (first | rfl | simp)) | (simp [*]; done)), (by first | rfl | (simp; done) | (simp [*]; done)), H', ⟨by have := HK1.out; omega⟩, ⟨by (with_reducible repeat (first | refine blk_drewN ?_ _ | refine blk_drew ?_ | refine blk_alloc ?_ _)); exact BK221.out⟩, ⟨by repeat (first | (with_reducible first | exact HB.out | apply below_alloc | apply pw_below_drewN | apply below_drew1 | refine below_set ?_ GE221.out | refine below_set ?_ GE223.out) | exact HB.out)⟩⟩
          · rw [if_neg c6] at H
            exact absurd H (by simp)
        · rw [if_neg c5] at H
          exact absurd H (by simp)
      · rw [if_neg c4] at H
        have c4b0 : decide (x9_1 < (l0_4.length : Int)) = false := decide_eq_false c4
        clear c4
        obtain rfl := Option.some.inj H
        go_wp2
        go_ret
        exact ⟨by first | rfl | (simp [errW_none, errW_some] <;> rfl) | (simp [*, errW_none, errW_some] <;> rfl), by repeat (first | (with_reducible first | exact HB.out | apply below_alloc | apply pw_below_drewN | apply below_drew1 | refine below_set ?_ GE221.out) | exact HB.out)⟩
def boscagelaw02_Same.l0 : Nat → List (S106) → List (S106) → Int → Int → Option (Bool)
  | 0, _, _, _, _ => none
  | k + 1, x0, x1, x12, x13 => if x13 < x12 then (if 0 ≤ x13 then (if x13 < (x0.length : Int) then (if x13 < (x1.length : Int) then (if (!(((rd_T106 x0 x13).f0) == ((rd_T106 x1 x13).f0)) || (!(((rd_T106 x0 x13).f1) == ((rd_T106 x1 x13).f1)))) = true then (some false) else (boscagelaw02_Same.l0 k x0 x1 x12 (wrap64 (x13 + 1)))) else (none)) else (none)) else (none)) else (some true)
def boscagelaw02_Same.f (k : Nat) (l0 : List (S106)) (l1 : List (S106)) : Option (Bool) := if (l0.length : Int) = (l1.length : Int) then (boscagelaw02_Same.l0 k l0 l1 (l0.length : Int) 0) else (some false)
theorem boscagelaw02_Same.mono_l : ∀ k, (∀ y0 y1 y2 y3, LeO (boscagelaw02_Same.l0 k y0 y1 y2 y3) (boscagelaw02_Same.l0 (k + 1) y0 y1 y2 y3))
  | 0 => fun _ _ _ _ r h => by simp [boscagelaw02_Same.l0] at h
  | k + 1 => by
    have ih0 := boscagelaw02_Same.mono_l k
    · intro y0 y1 y2 y3
      unfold boscagelaw02_Same.l0
      repeat' first
      | (with_reducible exact ih0 _ _ _ _)
      | (with_reducible exact LeO.refl _)
      | (with_reducible exact LeO.none _)
      | (with_reducible refine LeO.ite ?_ ?_)
      | (with_reducible refine LeO.bind ?_ (fun _ => ?_))
      | exact ih0 _ _ _ _
      | exact LeO.none _
      | refine LeO.ite ?_ ?_
      | refine LeO.bind ?_ (fun _ => ?_)
theorem boscagelaw02_Same.mono : ∀ a0 a1 k, LeO (boscagelaw02_Same.f k a0 a1) (boscagelaw02_Same.f (k + 1) a0 a1) := by
  intro a0 a1 k
  have ih0 := boscagelaw02_Same.mono_l k
  unfold boscagelaw02_Same.f
  repeat' first
      | (with_reducible exact ih0 _ _ _ _)
      | (with_reducible exact LeO.refl _)
      | (with_reducible exact LeO.none _)
      | (with_reducible refine LeO.ite ?_ ?_)
      | (with_reducible refine LeO.bind ?_ (fun _ => ?_))
      | exact ih0 _ _ _ _
      | exact LeO.none _
      | refine LeO.ite ?_ ?_
      | refine LeO.bind ?_ (fun _ => ?_)
set_option maxHeartbeats 8000000 in
set_option maxRecDepth 100000 in
theorem boscagelaw02_Same.calls (k : Nat) (A0 : Option Addr) (c0 : Nat) (l0 : List (S106)) (A1 : Option Addr) (c1 : Nat) (l1 : List (S106)) (r : Bool) (w : World) (hr0 : Kd.C k106 w A0 l0.length l0) (hc0 : l0.length ≤ c0) (hr1 : Kd.C k106 w A1 l1.length l1) (hc1 : l1.length ≤ c1) (h : boscagelaw02_Same.f k l0 l1 = some r) :
    Calls Tryz.prog 54 #[.slice A0 l0.length c0, .slice A1 l1.length c1] w fun e w' => e = .returned (.bool r) ∧ Drawn0 w w' := by
  have hu106 := Tryz.underlying106
  have HR0 := Aside0.mk hr0
  have HC0 := Aside0.mk hc0
  clear hr0 hc0
  have HR1 := Aside0.mk hr1
  have HC1 := Aside0.mk hc1
  clear hr1 hc1
  have H : (if (l0.length : Int) = (l1.length : Int) then (boscagelaw02_Same.l0 k l0 l1 (l0.length : Int) 0) else (some false)) = some r := h
  clear h
  by_cases c3 : (l0.length : Int) = (l1.length : Int)
  · rw [if_pos c3] at H
    have c3b0 : ((l0.length : Int) == (l1.length : Int)) = true := beq_iff_eq.mpr c3
    have c3b1 : ((l0.length : Int) != (l1.length : Int)) = false := bne_eq_false_iff_eq.mpr c3
    have c3b2 : (l0.length == l1.length) = true := by first | simpa using c3 | (simp at c3 ⊢; omega)
    clear c3
    have H' := Aside0.mk H
    clear H
    go_enter Tryz.func54, Tryz.ntmps54
    go_wp2
    repeat (go_quiet (fail); try go_wp2)
    go_loopg [13] k (fun kq v13 w' => ∃ (x13_1 : Int), v13 = .int .i64 x13_1 ∧ Aside0 (boscagelaw02_Same.l0 kq l0 l1 (l0.length : Int) x13_1 = some r) ∧ Aside0 (kq ≤ k) ∧ Drawn0 w w')
    case atStart => exact ⟨(0), (by first | rfl | (simp; done) | (simp [*]; done)), H', ⟨Nat.le_refl _⟩, by repeat (first | exact Drawn0.refl _ | apply Drawn0.step)⟩
    case round =>
      clear H'
      try clear c1
      try clear p2
      try clear c3
      try clear c3b0
      try clear c3b1
      try clear c3b2
      obtain ⟨x13_1, rfl, HA, HK1, ⟨m1, rfl⟩⟩ := hrel
      cases gk with
      | zero => exact absurd HA.out (by simp [boscagelaw02_Same.l0])
      | succ k1 =>
        have H := HA.out
        clear HA
        simp only [boscagelaw02_Same.l0] at H
        by_cases c4 : x13_1 < (l0.length : Int)
        · rw [if_pos c4] at H
          have c4b0 : decide (x13_1 < (l0.length : Int)) = true := decide_eq_true c4
          clear c4
          by_cases c5 : 0 ≤ x13_1
          · rw [if_pos c5] at H
            have c5b0 : decide (0 ≤ x13_1) = true := decide_eq_true c5
            clear c5
            by_cases c6 : x13_1 < (l0.length : Int)
            · rw [if_pos c6] at H
              have c6b0 : decide (x13_1 < (l0.length : Int)) = true := decide_eq_true c6
              clear c6
              by_cases c7 : x13_1 < (l1.length : Int)
              · rw [if_pos c7] at H
                have c7b0 : decide (x13_1 < (l1.length : Int)) = true := decide_eq_true c7
                clear c7
                by_cases c8 : (!(((rd_T106 l0 x13_1).f0) == ((rd_T106 l1 x13_1).f0)) || (!(((rd_T106 l0 x13_1).f1) == ((rd_T106 l1 x13_1).f1)))) = true
                · rw [if_pos c8] at H
                  have c8b0 : (!(((rd_T106 l0 x13_1).f0) == ((rd_T106 l1 x13_1).f0)) || (!(((rd_T106 l0 x13_1).f1) == ((rd_T106 l1 x13_1).f1)))) = true := c8
                  clear c8
                  obtain rfl := Option.some.inj H
                  have p225 : 0 ≤ (x13_1 : Int) := of_decide_eq_true (by first | (with_reducible assumption) | assumption)
                  have q225 : x13_1 < (l0.length : Int) := of_decide_eq_true (by first | (with_reducible assumption) | assumption)
                  obtain ⟨ad225, e225, hx225_0, hx225_1⟩ := at_T106 HR0.out x13_1 p225 q225
                  cases e225
                  replace p225 := eq_true p225
                  replace q225 := eq_true q225
                  have p226 : 0 ≤ (x13_1 : Int) := of_decide_eq_true (by first | (with_reducible assumption) | assumption)
                  have q226 : x13_1 < (l1.length : Int) := of_decide_eq_true (by first | (with_reducible assumption) | assumption)
                  obtain ⟨ad226, e226, hx226_0, hx226_1⟩ := at_T106 HR1.out x13_1 p226 q226
                  cases e226
                  replace p226 := eq_true p226
                  replace q226 := eq_true q226
                  go_wp2
                  repeat (go_quiet (fail); try go_wp2)
                  go_ret
                  exact ⟨by first | rfl | (simp; done) | (simp [*]; done), by repeat (first | exact Drawn0.refl _ | apply Drawn0.step)⟩
                · rw [if_neg c8] at H
                  have c8b0 : (!(((rd_T106 l0 x13_1).f0) == ((rd_T106 l1 x13_1).f0)) || (!(((rd_T106 l0 x13_1).f1) == ((rd_T106 l1 x13_1).f1)))) = false := by simpa using c8
                  clear c8
                  have H' := Aside0.mk H
                  clear H
                  have p225 : 0 ≤ (x13_1 : Int) := of_decide_eq_true (by first | (with_reducible assumption) | assumption)
                  have q225 : x13_1 < (l0.length : Int) := of_decide_eq_true (by first | (with_reducible assumption) | assumption)
                  obtain ⟨ad225, e225, hx225_0, hx225_1⟩ := at_T106 HR0.out x13_1 p225 q225
                  cases e225
                  replace p225 := eq_true p225
                  replace q225 := eq_true q225
                  have p226 : 0 ≤ (x13_1 : Int) := of_decide_eq_true (by first | (with_reducible assumption) | assumption)
                  have q226 : x13_1 < (l1.length : Int) := of_decide_eq_true (by first | (with_reducible assumption) | assumption)
                  obtain ⟨ad226, e226, hx226_0, hx226_1⟩ := at_T106 HR1.out x13_1 p226 q226
                  cases e226
                  replace p226 := eq_true p226
                  replace q226 := eq_true q226
                  go_wp2
                  repeat (go_quiet (fail); try go_wp2)
                  go_roundg k1
                  case measure => have := HK1.out; omega
                  case rel => exact ⟨(wrap64 (x13_1 + 1)), (by first | rfl | (simp; done) | (simp [*]; done)), H', ⟨by have := HK1.out; omega⟩, by repeat (first | exact Drawn0.refl _ | apply Drawn0.step)⟩
              · rw [if_neg c7] at H
                exact absurd H (by simp)
            · rw [if_neg c6] at H
              exact absurd H (by simp)
          · rw [if_neg c5] at H
            exact absurd H (by simp)
        · rw [if_neg c4] at H
          have c4b0 : decide (x13_1 < (l0.length : Int)) = false := decide_eq_false c4
          clear c4
          obtain rfl := Option.some.inj H
          go_wp2
          repeat (go_quiet (fail); try go_wp2)
          go_ret
          exact ⟨by first | rfl | (simp; done) | (simp [*]; done), by repeat (first | exact Drawn0.refl _ | apply Drawn0.step)⟩
  · rw [if_neg c3] at H
    have c3b0 : ((l0.length : Int) == (l1.length : Int)) = false := beq_eq_false_iff_ne.mpr c3
    have c3b1 : ((l0.length : Int) != (l1.length : Int)) = true := bne_iff_ne.mpr c3
    have c3b2 : (l0.length == l1.length) = false := by first | simpa using c3 | (simp at c3 ⊢; omega)
    obtain rfl := Option.some.inj H
    go_enter Tryz.func54, Tryz.ntmps54
    go_wp2
    repeat (go_quiet (fail); try go_wp2)
    go_ret
    exact ⟨by first | rfl | (simp; done) | (simp [*]; done), by repeat (first | exact Drawn0.refl _ | apply Drawn0.step)⟩
end Go.Proofs.YtelmidpepojbdaaGreat.PMendRight
namespace Go.Proofs.YtelmidpepojbdaaGreat.Tower
open Go Go.RowKit Go.Proofs.YtelmidpepojbdaaGreatW.PrintWords Go.Proofs.YtelmidpepojbdaaGreatW.PrintLast Go.Proofs.YtelmidpepojbdaaGreatW.PrintMore Go.Proofs.YtelmidpepojbdaaGreat.Own Go.Proofs.YtelmidpepojbdaaGreat.PMendRight
set_option linter.unusedVariables false
set_option linter.unusedSimpArgs false
theorem FK_below {α : Type} {d : Kd α} {x : α} {c : List Value} {D : Nat → Prop} {w w1 : World} {n : Nat} (h : d.FK w D x c) (hn : w.heap.size ≤ n) (b : Below n w w1) : d.FK w1 (fun k => D k ∧ k < w.heap.size) x c := Kd.FK_step (Kd.FK_bound h) (fun k hk hlt => b.block k (by omega))
structure Home (x : Ws) (w : World) (e : Ending) (w1 : World) : Prop where
  out : ∃ ok p, e = .returned (.pointer (some ⟨p, 0, none⟩)) ∧ IsWorld p x ok w1 ∧ (∀ k, ok k → w.heap.size ≤ k) ∧ Below w.heap.size w w1
set_option maxHeartbeats 4000000 in
set_option maxRecDepth 100000 in
theorem home_calls (k : Nat) (a b : Int) (threads : Nat) (s : Sh) (room records m nodes : Int) (x x1 : Ws) (w : World) (cs : List Value) {D : Nat → Prop} (hf : kSh.FK w D s cs) (hm : boscagelaw11_Shape_Many.f k s.f0 s.f1 s.f2 s.f3 s.f4 = some m) (hno : wrap64 (wrap64 (2 + m) + room) = nodes)
    (ha : 2 ≤ a) (ha1 : a ≤ 32) (hb : 2 * a - 1 ≤ b) (hb1 : b ≤ 32) (ht : 1 ≤ threads) (ht1 : threads ≤ 64) (hn : 2 ≤ nodes) (hn1 : nodes ≤ 65536) (hr : 0 ≤ records) (hr1 : records ≤ 65536) (hx : ws0 a b threads nodes records = some x) (hp : plantT s x = some x1) :
    Calls Tryz.prog 17 #[.int .i64 a, .int .i64 b, .int .i64 threads, .agg cs.toArray, .int .i64 room, .int .i64 records] w (Home x1 w) := by
  have HN := Aside0.mk (fun w => world_new a b threads nodes records w ha ha1 hb hb1 ht ht1 hn hn1 hr hr1 x hx)
  have HP := Aside0.mk hp
  have HM := Aside0.mk hm
  have HNO := Aside0.mk hno
  clear ha ha1 hb hb1 ht ht1 hn hn1 hr hr1 hx hp hm hno
  obtain ⟨A2, c2, A3, c3, A4, c4, rfl, l2, F2, l3, F3, l4, F4⟩ := k29_openF hf
  have HF := Aside0.mk hf
  have HG := Aside0.mk (And.intro l2 (And.intro F2 (And.intro l3 (And.intro F3 (And.intro l4 F4)))))
  have X1 := Aside0.mk (Mine.new (ok := fun _ => False) (w := w) (fun k hk => hk.elim) (.cells #[.bool s.f0, .bool s.f1, .slice A2 s.f2.length c2, .slice A3 s.f3.length c3, .slice A4 s.f4.length c4] 29))
  have B1 := Aside0.mk (below_alloc (Below.refl w.heap.size w) (.cells #[.bool s.f0, .bool s.f1, .slice A2 s.f2.length c2, .slice A3 s.f3.length c3, .slice A4 s.f4.length c4] 29))
  clear hf l2 F2 l3 F3 l4 F4
  go_enter Tryz.func17, Tryz.ntmps17
  go_upto_region 1 with fail
  generalize hw1 : w.alloc (.cells #[.bool s.f0, .bool s.f1, .slice A2 s.f2.length c2, .slice A3 s.f3.length c3, .slice A4 s.f4.length c4] 29) = w1 at X1 B1 ⊢
  have hs1 : w.heap.size ≤ w1.heap.size := B1.out.size
  have S1 := Aside0.mk hs1
  generalize hb9 : w.heap.size = b9 at X1 ⊢
  have E9 := Aside0.mk hb9
  clear hw1 hs1 hb9
  have y0 := (blk_cell X1.out.1 0).trans (rfl : _ = some (Value.bool s.f0))
  have y1 := (blk_cell X1.out.1 1).trans (rfl : _ = some (Value.bool s.f1))
  have y2 := (blk_cell X1.out.1 2).trans (rfl : _ = some (Value.slice A2 s.f2.length c2))
  have y3 := (blk_cell X1.out.1 3).trans (rfl : _ = some (Value.slice A3 s.f3.length c3))
  have y4 := (blk_cell X1.out.1 4).trans (rfl : _ = some (Value.slice A4 s.f4.length c4))
  go_upto_region 2 with (first
    | (go_at_call 25; refine (boscagelaw11_Shape_Many.calls k s.f0 s.f1 A2 c2 s.f2 A3 c3 s.f3 A4 c4 s.f4 m _ (Kd.C_below (Kd.F_now HG.out.2.1) B1.out) HG.out.1 (Kd.C_below (Kd.F_now HG.out.2.2.2.1) B1.out) HG.out.2.2.1 (Kd.C_below (Kd.F_now HG.out.2.2.2.2.2) B1.out) HG.out.2.2.2.2.1 HM.out).mono ?_; rintro e w2 ⟨rfl, hb2⟩; have B2 := Aside0.mk (below_then B1.out S1.out hb2); have X2 := Aside0.mk (X1.out.moves (Moves.of_below _ hb2)); clear hb2)
    | (go_at_call 68; rw [HNO.out]; refine (HN.out _).mono ?_; rintro e w3 hW; obtain ⟨ok, p, rfl, hW, hF, hB⟩ := hW.out; have W3 := Aside0.mk hW; have F3 := Aside0.mk ((fun k hk => Nat.le_trans B2.out.size (hF k hk)) : ∀ k, ok k → w.heap.size ≤ k); have B3 := Aside0.mk (below_then B2.out B2.out.size hB); have X3 := Aside0.mk (X2.out.moves (Moves.of_below _ hB)); clear hW hF hB))
  have z0 := (blk_cell X3.out.1 0).trans (rfl : _ = some (Value.bool s.f0))
  have z1 := (blk_cell X3.out.1 1).trans (rfl : _ = some (Value.bool s.f1))
  have z2 := (blk_cell X3.out.1 2).trans (rfl : _ = some (Value.slice A2 s.f2.length c2))
  have z3 := (blk_cell X3.out.1 3).trans (rfl : _ = some (Value.slice A3 s.f3.length c3))
  have z4 := (blk_cell X3.out.1 4).trans (rfl : _ = some (Value.slice A4 s.f4.length c4))
  clear y0 y1 y2 y3 y4
  have FK3 := Aside0.mk (Kd.FK_mono (FK_below HF.out (Nat.le_refl _) B3.out) (fun k hk => (fun h => by have := F3.out k h; omega) : ∀ k, D k ∧ k < w.heap.size → ¬ ok k))
  go_wp2_with (go_at_call 71; refine (plant_calls s _ _ W3.out FK3.out HP.out).mono ?_; rintro e w4 ⟨rfl, ok4, hW4, hM4⟩; have W4 := Aside0.mk hW4; have M4 := Aside0.mk hM4; clear hW4 hM4)
  go_ret
  exact ⟨⟨ok4, p, rfl, W4.out, fun k hk => (M4.out.fresh k hk).elim (fun h => F3.out k h) (fun h => Nat.le_trans B3.out.size h), moves_outer M4.out B3.out F3.out⟩⟩
end Go.Proofs.YtelmidpepojbdaaGreat.Tower
namespace Go.Proofs.YtelmidpepojbdaaGreat.Tower
open Go Go.RowKit Go.Proofs.YtelmidpepojbdaaGreatW.PrintWords Go.Proofs.YtelmidpepojbdaaGreatW.PrintLast Go.Proofs.YtelmidpepojbdaaGreatW.PrintMore Go.Proofs.YtelmidpepojbdaaGreat.Own Go.Proofs.YtelmidpepojbdaaGreat.PMendRight
set_option linter.unusedVariables false
set_option linter.unusedSimpArgs false
def prs1 (l : List (Int × Int)) : List Pr2 := l.map fun q => ⟨q.1, q.2⟩
theorem prs1_length (l : List (Int × Int)) : (prs1 l).length = l.length := List.length_map _
def shN (n : Nd) (kids : List Sh) : Sh := ⟨!n.inner, n.tagged, prs1 n.pairs, n.keys, kids⟩
def readL (f : Int → Ar → Sh × Ar) (r : Int) : Nat → Nat → Ar → List Sh × Ar
  | _, 0, a => ([], a)
  | i, m + 1, a => ((f (a.way r i).1 (a.way r i).2).1 :: (readL f r (i + 1) m (f (a.way r i).1 (a.way r i).2).2).1, (readL f r (i + 1) m (f (a.way r i).1 (a.way r i).2).2).2)
def readT : Nat → Int → Ar → Sh × Ar
  | 0, r, a => (shN (a.look r).1 [], (a.look r).2)
  | d + 1, r, a => (shN (a.look r).1 (readL (readT d) r 0 (a.look r).1.ways.length (a.look r).2).1, (readL (readT d) r 0 (a.look r).1.ways.length (a.look r).2).2)
theorem look_slots (a : Ar) (r : Int) : (a.look r).2.slots = a.slots := by
  unfold Ar.look
  split
  · rfl
  · split <;> rfl
theorem way_slots (a : Ar) (r i : Int) : (a.way r i).2.slots = a.slots := by
  unfold Ar.way
  split
  · rfl
  · split <;> rfl
theorem Ar.Fits.same {a a1 : Ar} (h : a.Fits) (e : a1.slots = a.slots) : a1.Fits := ⟨by rw [e]; exact h.slots, by rw [e]; exact h.node⟩
theorem readL_slots {f : Int → Ar → Sh × Ar} (hf : ∀ r a, (f r a).2.slots = a.slots) (r : Int) : ∀ (m i : Nat) (a : Ar), (readL f r i m a).2.slots = a.slots
  | 0, _, _ => rfl
  | m + 1, i, a => by
    show (readL f r (i + 1) m _).2.slots = _
    rw [readL_slots hf r m, hf, way_slots]
theorem readT_slots : ∀ (d : Nat) (r : Int) (a : Ar), (readT d r a).2.slots = a.slots
  | 0, r, a => look_slots a r
  | d + 1, r, a => by
    show (readL (readT d) r 0 _ _).2.slots = _
    rw [readL_slots (readT_slots d), look_slots]
theorem look_ways (a : Ar) (r : Int) (h : a.Fits) : (a.look r).1.ways.length < 1000000 := by
  unfold Ar.look
  split
  · show (0 : Nat) < _; omega
  · split
    · show (0 : Nat) < _; omega
    · rename_i s hs
      exact (h.node _ s hs).2.2.1
theorem prs1_F {w : World} {ok : Nat → Prop} {A : Option Addr} {n : Nat} {l : List (Int × Int)} (h : kPair.F w ok A n l) : kP.F w ok A n (prs1 l) := Kd.F_imp h (fun W hC => ⟨by rw [prs1_length]; exact hC.1, hC.2.1, fun hp => by
  obtain ⟨ad, e, hc⟩ := hC.2.2 hp
  refine ⟨ad, e, fun j q hq => ?_⟩
  unfold prs1 at hq
  rw [List.getElem?_map] at hq
  cases hx : l[j]? with
  | none => rw [hx] at hq; cases hq
  | some x =>
    rw [hx] at hq
    injection hq with hq
    subst hq
    exact hc j x hx⟩)
structure ReadPost (ok : Nat → Prop) (pA : Nat) (s : Sh) (a1 : Ar) (w : World) (e : Ending) (w1 : World) : Prop where
  out : ∃ cs, e = .returned (.agg cs.toArray) ∧ kSh.FK w1 (fun k => w.heap.size ≤ k) s cs
  ar : IsArena ok pA a1 w1
  moves : Moves ok ok w w1
def shB (n : Nd) (p k v4 : Value) : Obj := .cells #[.bool (!n.inner), .bool n.tagged, p, k, v4] 29 (0, 0)
def ndO (n : Nd) (p k y : Value) : Obj := .cells #[.bool n.inner, .bool n.tagged, p, k, y] 116 (0, 0)
structure RdSt (ok : Nat → Prop) (pA : Nat) (w0 : World) (b6 b7 b8 : Nat) (n : Nd) (A3 : Option Addr) (c3 : Nat) (A4 : Option Addr) (c4 : Nat) (A5 : Option Addr) (c5 : Nat) (v4 : Value) (acc : List Sh) (ac : Ar) (wr : World) : Prop where
  x6 : Mine ok wr b6 (.cells #[.bool false, .bool false, .slice none 0 0, .slice none 0 0, .slice none 0 0] 29 (0, 0))
  x7 : Mine ok wr b7 (ndO n (.slice A3 n.pairs.length c3) (.slice A4 n.keys.length c4) (.slice A5 n.ways.length c5))
  x8 : Mine ok wr b8 (shB n (.slice A3 n.pairs.length c3) (.slice A4 n.keys.length c4) v4)
  ar : IsArena ok pA ac wr
  mv : Moves ok ok w0 wr
  row : Kd.N kSh 29 wr w0.heap.size (fun k => b8 < k) v4 acc
  l3 : n.pairs.length ≤ c3
  f3 : kPair.F wr (fun k => b6 < k ∧ k < b7) A3 n.pairs.length n.pairs
  l4 : n.keys.length ≤ c4
  f4 : (Kd.int .i64).F wr (fun k => b6 < k ∧ k < b7) A4 n.keys.length n.keys
  o6 : w0.heap.size ≤ b6
  o7 : b6 < b7
  o8 : b7 < b8
  lt : ∀ k, ok k → k < w0.heap.size
section
variable {ok : Nat → Prop} {pA : Nat} {w0 : World} {b6 b7 b8 : Nat} {n : Nd} {A3 : Option Addr} {c3 : Nat} {A4 : Option Addr} {c4 : Nat} {A5 : Option Addr} {c5 : Nat} {v4 : Value} {acc : List Sh} {ac : Ar} {wr w1 : World}
theorem RdSt.moves (h : RdSt ok pA w0 b6 b7 b8 n A3 c3 A4 c4 A5 c5 v4 acc ac wr) (m : Moves ok ok wr w1) {a1 : Ar} (ha : IsArena ok pA a1 w1) : RdSt ok pA w0 b6 b7 b8 n A3 c3 A4 c4 A5 c5 v4 acc a1 w1 :=
  { x6 := h.x6.moves m, x7 := h.x7.moves m, x8 := h.x8.moves m, ar := ha, mv := h.mv.trans m
    row := Kd.N_step h.row (fun k hk hlt => m.block k hlt (fun h1 => by have := h.lt k h1; have := h.o6; have := h.o7; have := h.o8; omega))
    l3 := h.l3
    f3 := Kd.F_step h.f3 (fun k hk hlt => m.block k hlt (fun h1 => by have := h.lt k h1; have := h.o6; omega))
    l4 := h.l4
    f4 := Kd.F_step h.f4 (fun k hk hlt => m.block k hlt (fun h1 => by have := h.lt k h1; have := h.o6; omega))
    o6 := h.o6, o7 := h.o7, o8 := h.o8, lt := h.lt }
theorem RdSt.still (h : RdSt ok pA w0 b6 b7 b8 n A3 c3 A4 c4 A5 c5 v4 acc ac wr) (b : Below wr.heap.size wr w1) : RdSt ok pA w0 b6 b7 b8 n A3 c3 A4 c4 A5 c5 v4 acc ac w1 :=
  h.moves (Moves.of_below ok b) (h.ar.step b.size (fun k _ hlt => b.block k hlt))
theorem RdSt.grown (h : RdSt ok pA w0 b6 b7 b8 n A3 c3 A4 c4 A5 c5 v4 acc ac wr) {v1 : Value} {acc1 : List Sh} (hr : Kd.N kSh 29 w1 w0.heap.size (fun k => b8 < k) v1 acc1) (hg : wr.grownBy w1 v4.ownBlock) : RdSt ok pA w0 b6 b7 b8 n A3 c3 A4 c4 A5 c5 v1 acc1 ac (w1.setCell ⟨b8, 4, none⟩ v1) := by
  have h6 := h.o6
  have h7 := h.o7
  have h8 := h.o8
  have hne : ∀ k, k ≤ b8 → some k ≠ v4.ownBlock := fun k hk e => by have := h.row.1 k e.symm; omega
  have hb : ∀ k, k < b8 → k < wr.heap.size → (w1.setCell ⟨b8, 4, none⟩ v1).heap[k]? = wr.heap[k]? := fun k hk hlt => (Below.heap_setCell w1 ⟨b8, 4, none⟩ v1 k (fun e => by have : k = b8 := e; omega)).trans (hg.block k hlt (hne k (by omega)))
  have hok : ∀ k, ok k → k < b8 := fun k hk => by have := h.lt k hk; omega
  have x8 : Mine ok w1 b8 (shB n (.slice A3 n.pairs.length c3) (.slice A4 n.keys.length c4) v4) := ⟨(hg.block b8 (blk_lt h.x8.1) (hne b8 (Nat.le_refl _))).trans h.x8.1, h.x8.2⟩
  exact {
    x6 := ⟨(hb b6 (by omega) (blk_lt h.x6.1)).trans h.x6.1, h.x6.2⟩
    x7 := ⟨(hb b7 (by omega) (blk_lt h.x7.1)).trans h.x7.1, h.x7.2⟩
    x8 := x8.set 4 v1
    ar := h.ar.step (by simpa [World.setCell] using hg.size) (fun k hk hlt => hb k (hok k hk) hlt)
    mv := (h.mv.grown hg (fun k hk => .inr (by have := h.row.1 k hk; omega))).set (p := ⟨b8, 4, none⟩) (.inr (show w0.heap.size ≤ b8 by omega)) _
    row := Kd.N_step hr (fun k hk hlt => Below.heap_setCell w1 ⟨b8, 4, none⟩ v1 k (fun e => by have : k = b8 := e; omega))
    l3 := h.l3
    f3 := Kd.F_step h.f3 (fun k hk hlt => hb k (by omega) hlt)
    l4 := h.l4
    f4 := Kd.F_step h.f4 (fun k hk hlt => hb k (by omega) hlt)
    o6 := h6, o7 := h7, o8 := h8, lt := h.lt }
theorem RdSt.post {A9 : Option Addr} {c9 : Nat} (h : RdSt ok pA w0 b6 b7 b8 n A3 c3 A4 c4 A5 c5 (.slice A9 acc.length c9) acc ac wr) :
    ReadPost ok pA (shN n acc) ac w0 (.returned (.agg #[.bool (!n.inner), .bool n.tagged, .slice A3 n.pairs.length c3, .slice A4 n.keys.length c4, .slice A9 acc.length c9])) (set5 wr b6 (.bool (!n.inner)) (.bool n.tagged) (.slice A3 n.pairs.length c3) (.slice A4 n.keys.length c4) (.slice A9 acc.length c9)) := by
  have h6 := h.o6
  have h7 := h.o7
  have h8 := h.o8
  have hk : kSh.FK wr (fun k => b6 < k) (shN n acc) [.bool (!n.inner), .bool n.tagged, .slice A3 (shN n acc).f2.length c3, .slice A4 (shN n acc).f3.length c4, .slice A9 (shN n acc).f4.length c9] :=
    k29_mkF wr _ (shN n acc) (by show (prs1 n.pairs).length ≤ c3; rw [prs1_length]; exact h.l3) (by show kP.F _ _ _ (prs1 n.pairs).length (prs1 n.pairs); rw [prs1_length]; exact Kd.F_mono (prs1_F h.f3) (fun k hk => hk.1)) h.l4 (Kd.F_mono h.f4 (fun k hk => hk.1)) (Kd.N_reads' h.row).2.1 (Kd.F_mono (Kd.N_F h.row) (fun k hk => by omega))
  refine ⟨⟨_, ?_, Kd.FK_mono (Kd.FK_step hk (fun k hk _ => set5_far _ _ _ _ _ _ _ k (fun e => by omega))) (fun k hk => by omega)⟩, h.ar.step (by rw [set5_size]; exact Nat.le_refl _) (fun k hk _ => set5_far _ _ _ _ _ _ _ k (fun e => by have := h.lt k hk; omega)), set5_moves h.mv h6 _ _ _ _ _⟩
  show _ = Ending.returned (Value.agg #[_, _, .slice A3 (prs1 n.pairs).length c3, _, _])
  rw [prs1_length]
  rfl
end
theorem wrap_pred (d : Nat) (h : d ≤ 1000) : wrap64 (((d + 1 : Nat) : Int) - 1) = (d : Int) := by unfold wrap64; omega
def TRead7 : Bool × List (List Nat × List Nat) := (true, [([], []), ([0], [0]), ([], []), ([], []), ([], []), ([], []), ([3, 4, 5], [3, 4, 5]), ([], []), ([7], [7]), ([2, 6, 8, 6], [2, 6, 8]), ([9], [9]), ([1, 10, 9], [1, 10]), ([0, 1, 2, 3, 4, 5, 6, 7, 8, 9, 10, 11], []), ([12, 11, 11, 0, 1, 2, 3, 4, 5, 6, 7, 8, 9, 10, 11], [11, 12])])
def BRead7 : List Nat := [0, 1, 0, 0, 0, 0, 56, 0, 128, 508, 1020, 2047, 4095, 8191]
theorem tabRead7 : rtab .any (opsOf Tryz.f76 7) = TRead7 := by kernel_rfl
theorem bitsRead7 : waitsOk TRead7.2 BRead7 = true := by kernel_rfl
set_option maxHeartbeats 4000000 in
set_option maxRecDepth 100000 in
theorem read_zero (ok : Nat → Prop) (pA : Nat) (a : Ar) (r : Int) (w : World) (h : IsArena ok pA a w) (hf : a.Fits) :
    Calls Tryz.prog 76 #[.pointer (some ⟨pA, 0, none⟩), .int .i64 r, .int .i64 ((0 : Nat) : Int)] w (ReadPost ok pA (readT 0 r a).1 (readT 0 r a).2 w) := by
  have A1 := Aside0.mk (h.step (w1 := w.alloc (.cells #[.bool false, .bool false, .slice none 0 0, .slice none 0 0, .slice none 0 0] 29)) (by simp) (fun k _ hk => Below.heap_alloc _ _ _ hk))
  have X1 := Aside0.mk (Mine.new (ok := ok) (fun k hk => h.lt k hk) (.cells #[.bool false, .bool false, .slice none 0 0, .slice none 0 0, .slice none 0 0] 29))
  have M1 := Aside0.mk ((Moves.refl ok w).alloc (.cells #[.bool false, .bool false, .slice none 0 0, .slice none 0 0, .slice none 0 0] 29))
  have HFI := Aside0.mk hf
  have HLT := Aside0.mk (fun k hk => h.lt k hk : ∀ k, ok k → k < w.heap.size)
  clear h hf
  have HLK : Aside0 (∀ w1, IsArena ok pA a w1 → Calls Tryz.prog 118 #[.pointer (some ⟨pA, 0, none⟩), .int .i64 r] w1 (LookPost ok pA (a.look r).1 (a.look r).2 w1)) := ⟨fun w1 h1 => look_calls r w1 h1 HFI.out⟩
  have HNN : Aside0 (readT 0 r a = (shN (a.look r).1 [], (a.look r).2)) := ⟨rfl⟩
  generalize readT 0 r a = q at HNN ⊢
  generalize (a.look r).1 = n at HLK HNN ⊢
  generalize (a.look r).2 = a2 at HLK HNN ⊢
  go_enter Tryz.func76, Tryz.ntmps76
  go_upto_region 1 with fail
  generalize w.alloc (.cells #[.bool false, .bool false, .slice none 0 0, .slice none 0 0, .slice none 0 0] 29) = w1 at X1 A1 M1 ⊢
  generalize h6 : w.heap.size = b6 at X1 ⊢
  have E6 := Aside0.mk h6
  clear h6
  go_upto_region 2 with (go_at_call 118; refine (HLK.out _ A1.out).mono ?_; rintro e w2 hL; obtain ⟨v, rfl, hN⟩ := hL.val; obtain ⟨p, k, y, rfl, hp, hk, hy⟩ := hN.out; obtain ⟨A3, c3, rfl⟩ := Kd.R_slice hp; obtain ⟨A4, c4, rfl⟩ := Kd.R_slice hk; obtain ⟨A5, c5, rfl⟩ := Kd.R_slice hy; have A2 := Aside0.mk hL.ar; have M2 := Aside0.mk (M1.out.trans hL.moves); have X2 := Aside0.mk (X1.out.moves hL.moves); have HR2 := Aside0.mk (And.intro hp (And.intro hk hy)); have S2 : Aside0 (w.heap.size < w1.heap.size ∧ w1.heap.size ≤ w2.heap.size) := ⟨by rw [E6.out]; exact X1.out.lt, hL.moves.size⟩; clear hL hN hp hk hy)
  clear X1 A1 M1
  have Y3 := Aside0.mk (Mine.new (ok := ok) (fun q hq => A2.out.lt q hq) (.cells #[.bool n.inner, .bool n.tagged, .slice A3 n.pairs.length c3, .slice A4 n.keys.length c4, .slice A5 n.ways.length c5] 116))
  have X3 := Aside0.mk (X2.out.alloc (.cells #[.bool n.inner, .bool n.tagged, .slice A3 n.pairs.length c3, .slice A4 n.keys.length c4, .slice A5 n.ways.length c5] 116))
  have A3' := Aside0.mk (A2.out.step (w1 := w2.alloc (.cells #[.bool n.inner, .bool n.tagged, .slice A3 n.pairs.length c3, .slice A4 n.keys.length c4, .slice A5 n.ways.length c5] 116)) (by simp) (fun q _ hq => Below.heap_alloc _ _ _ hq))
  have M3 := Aside0.mk (M2.out.alloc (.cells #[.bool n.inner, .bool n.tagged, .slice A3 n.pairs.length c3, .slice A4 n.keys.length c4, .slice A5 n.ways.length c5] 116))
  have L3 := Aside0.mk (below_alloc (Below.refl w2.heap.size w2) (.cells #[.bool n.inner, .bool n.tagged, .slice A3 n.pairs.length c3, .slice A4 n.keys.length c4, .slice A5 n.ways.length c5] 116))
  generalize w2.alloc (.cells #[.bool n.inner, .bool n.tagged, .slice A3 n.pairs.length c3, .slice A4 n.keys.length c4, .slice A5 n.ways.length c5] 116) = w3 at Y3 X3 A3' M3 L3 ⊢
  generalize h7 : w2.heap.size = b7 at Y3 L3 ⊢
  have E7 := Aside0.mk h7
  clear h7
  have y0 := (blk_cell Y3.out.1 0).trans (rfl : _ = some (Value.bool n.inner))
  have y1 := (blk_cell Y3.out.1 1).trans (rfl : _ = some (Value.bool n.tagged))
  have y2 := (blk_cell Y3.out.1 2).trans (rfl : _ = some (Value.slice A3 n.pairs.length c3))
  have y3 := (blk_cell Y3.out.1 3).trans (rfl : _ = some (Value.slice A4 n.keys.length c4))
  have y4 := (blk_cell Y3.out.1 4).trans (rfl : _ = some (Value.slice A5 n.ways.length c5))
  go_upto_region 3 with fail
  clear y0 y1 y2 y3 y4
  have Z4 := Aside0.mk (Mine.new (ok := ok) (fun q hq => A3'.out.lt q hq) (.cells #[.bool (!n.inner), .bool n.tagged, .slice A3 n.pairs.length c3, .slice A4 n.keys.length c4, .slice none 0 0] 29))
  have Y4 := Aside0.mk (Y3.out.alloc (.cells #[.bool (!n.inner), .bool n.tagged, .slice A3 n.pairs.length c3, .slice A4 n.keys.length c4, .slice none 0 0] 29))
  have X4 := Aside0.mk (X3.out.alloc (.cells #[.bool (!n.inner), .bool n.tagged, .slice A3 n.pairs.length c3, .slice A4 n.keys.length c4, .slice none 0 0] 29))
  have A4' := Aside0.mk (A3'.out.step (w1 := w3.alloc (.cells #[.bool (!n.inner), .bool n.tagged, .slice A3 n.pairs.length c3, .slice A4 n.keys.length c4, .slice none 0 0] 29)) (by simp) (fun q _ hq => Below.heap_alloc _ _ _ hq))
  have M4 := Aside0.mk (M3.out.alloc (.cells #[.bool (!n.inner), .bool n.tagged, .slice A3 n.pairs.length c3, .slice A4 n.keys.length c4, .slice none 0 0] 29))
  have L4 := Aside0.mk (below_then L3.out (by rw [← E7.out]; exact L3.out.size) (below_alloc (Below.refl w3.heap.size w3) (.cells #[.bool (!n.inner), .bool n.tagged, .slice A3 n.pairs.length c3, .slice A4 n.keys.length c4, .slice none 0 0] 29)))
  have S3 := Aside0.mk Y3.out.lt
  clear Y3 X3 A3' M3 L3
  generalize w3.alloc (.cells #[.bool (!n.inner), .bool n.tagged, .slice A3 n.pairs.length c3, .slice A4 n.keys.length c4, .slice none 0 0] 29) = w4 at Z4 Y4 X4 A4' M4 L4 ⊢
  generalize h8 : w3.heap.size = b8 at Z4 S3 ⊢
  have E8 := Aside0.mk h8
  clear h8
  have ST : Aside0 (RdSt ok pA w b6 b7 b8 n A3 c3 A4 c4 A5 c5 (.slice none 0 0) [] a2 w4) := ⟨by
    have hs := S2.out
    have h7 := E7.out
    have h6 := E6.out
    have h67 : b6 < b7 := by omega
    exact { x6 := X4.out, x7 := Y4.out, x8 := Z4.out, ar := A4'.out, mv := M4.out, row := Kd.N_nil _ _ _ _ _
            l3 := (Kd.R_reads' HR2.out.1).2.1, f3 := Kd.F_mono (Kd.F_step (Kd.F_bound (Kd.R_F HR2.out.1)) (fun k hk hlt => L4.out.block k (by omega))) (fun k hk => by omega)
            l4 := (Kd.R_reads' HR2.out.2.1).2.1, f4 := Kd.F_mono (Kd.F_step (Kd.F_bound (Kd.R_F HR2.out.2.1)) (fun k hk hlt => L4.out.block k (by omega))) (fun k hk => by omega)
            o6 := by omega, o7 := h67, o8 := S3.out, lt := HLT.out }⟩
  clear X4 Y4 Z4 A4' M4 L4 HR2 S2 S3
  have y0 := (blk_cell ST.out.x8.1 0).trans (rfl : _ = some (Value.bool (!n.inner)))
  have y1 := (blk_cell ST.out.x8.1 1).trans (rfl : _ = some (Value.bool n.tagged))
  have y2 := (blk_cell ST.out.x8.1 2).trans (rfl : _ = some (Value.slice A3 n.pairs.length c3))
  have y3 := (blk_cell ST.out.x8.1 3).trans (rfl : _ = some (Value.slice A4 n.keys.length c4))
  have y4 := (blk_cell ST.out.x8.1 4).trans (rfl : _ = some (Value.slice none 0 0))
  have k0 := (blk_cell ST.out.x6.1 0).trans (rfl : _ = some (Value.bool false))
  have k1 := (blk_cell ST.out.x6.1 1).trans (rfl : _ = some (Value.bool false))
  have k2 := (blk_cell ST.out.x6.1 2).trans (rfl : _ = some (Value.slice none 0 0))
  have k3 := (blk_cell ST.out.x6.1 3).trans (rfl : _ = some (Value.slice none 0 0))
  have k4 := (blk_cell ST.out.x6.1 4).trans (rfl : _ = some (Value.slice none 0 0))
  have z0 := blk_frozen ST.out.x6.1 0
  have z1 := blk_frozen ST.out.x6.1 1
  have z2 := blk_frozen ST.out.x6.1 2
  have z3 := blk_frozen ST.out.x6.1 3
  have z4 := blk_frozen ST.out.x6.1 4
  go_wp2_with fail
  show bodyPost _ _ _ _ _ (set5 w4 b6 (.bool (!n.inner)) (.bool n.tagged) (.slice A3 n.pairs.length c3) (.slice A4 n.keys.length c4) (.slice none 0 0))
  refine bodyPost_ret (results_c rfl _ _ b6 29 _ (0, 0) _ rfl (set5_box ST.out.x6.1 _ _ _ _ _) Tryz.underlying29 rfl (by kernel_rfl)) rfl ?_
  rw [HNN.out]
  exact ST.out.post
set_option maxHeartbeats 4000000 in
set_option maxRecDepth 100000 in
theorem read_succ (d : Nat) (hd : d ≤ 1000) (ih : ∀ (ok : Nat → Prop) (pA : Nat) (a : Ar) (r : Int) (w : World), IsArena ok pA a w → a.Fits → Calls Tryz.prog 76 #[.pointer (some ⟨pA, 0, none⟩), .int .i64 r, .int .i64 (d : Int)] w (ReadPost ok pA (readT d r a).1 (readT d r a).2 w)) (ok : Nat → Prop) (pA : Nat) (a : Ar) (r : Int) (w : World) (h : IsArena ok pA a w) (hf : a.Fits) :
    Calls Tryz.prog 76 #[.pointer (some ⟨pA, 0, none⟩), .int .i64 r, .int .i64 ((d + 1 : Nat) : Int)] w (ReadPost ok pA (readT (d + 1) r a).1 (readT (d + 1) r a).2 w) := by
  have A1 := Aside0.mk (h.step (w1 := w.alloc (.cells #[.bool false, .bool false, .slice none 0 0, .slice none 0 0, .slice none 0 0] 29)) (by simp) (fun k _ hk => Below.heap_alloc _ _ _ hk))
  have X1 := Aside0.mk (Mine.new (ok := ok) (fun k hk => h.lt k hk) (.cells #[.bool false, .bool false, .slice none 0 0, .slice none 0 0, .slice none 0 0] 29))
  have M1 := Aside0.mk ((Moves.refl ok w).alloc (.cells #[.bool false, .bool false, .slice none 0 0, .slice none 0 0, .slice none 0 0] 29))
  have HFI := Aside0.mk hf
  have HLT := Aside0.mk (fun k hk => h.lt k hk : ∀ k, ok k → k < w.heap.size)
  clear h hf
  have HLK : Aside0 (∀ w1, IsArena ok pA a w1 → Calls Tryz.prog 118 #[.pointer (some ⟨pA, 0, none⟩), .int .i64 r] w1 (LookPost ok pA (a.look r).1 (a.look r).2 w1)) := ⟨fun w1 h1 => look_calls r w1 h1 HFI.out⟩
  have HWP := Aside0.mk (wrap_pred d hd)
  have HF2 := Aside0.mk (HFI.out.same (look_slots a r))
  have HNN : Aside0 (readT (d + 1) r a = (shN (a.look r).1 (readL (readT d) r 0 (a.look r).1.ways.length (a.look r).2).1, (readL (readT d) r 0 (a.look r).1.ways.length (a.look r).2).2)) := ⟨rfl⟩
  have HWL := Aside0.mk (look_ways a r HFI.out)
  generalize readT (d + 1) r a = q at HNN ⊢
  generalize (a.look r).1 = n at HLK HNN HWL ⊢
  generalize (a.look r).2 = a2 at HLK HNN HF2 ⊢
  go_enter Tryz.func76, Tryz.ntmps76
  go_upto_region 1 with fail
  generalize w.alloc (.cells #[.bool false, .bool false, .slice none 0 0, .slice none 0 0, .slice none 0 0] 29) = w1 at X1 A1 M1 ⊢
  generalize h6 : w.heap.size = b6 at X1 ⊢
  have E6 := Aside0.mk h6
  clear h6
  go_upto_region 2 with (go_at_call 118; refine (HLK.out _ A1.out).mono ?_; rintro e w2 hL; obtain ⟨v, rfl, hN⟩ := hL.val; obtain ⟨p, k, y, rfl, hp, hk, hy⟩ := hN.out; obtain ⟨A3, c3, rfl⟩ := Kd.R_slice hp; obtain ⟨A4, c4, rfl⟩ := Kd.R_slice hk; obtain ⟨A5, c5, rfl⟩ := Kd.R_slice hy; have A2 := Aside0.mk hL.ar; have M2 := Aside0.mk (M1.out.trans hL.moves); have X2 := Aside0.mk (X1.out.moves hL.moves); have HR2 := Aside0.mk (And.intro hp (And.intro hk hy)); have S2 : Aside0 (w.heap.size < w1.heap.size ∧ w1.heap.size ≤ w2.heap.size) := ⟨by rw [E6.out]; exact X1.out.lt, hL.moves.size⟩; clear hL hN hp hk hy)
  clear X1 A1 M1
  have Y3 := Aside0.mk (Mine.new (ok := ok) (fun q hq => A2.out.lt q hq) (.cells #[.bool n.inner, .bool n.tagged, .slice A3 n.pairs.length c3, .slice A4 n.keys.length c4, .slice A5 n.ways.length c5] 116))
  have X3 := Aside0.mk (X2.out.alloc (.cells #[.bool n.inner, .bool n.tagged, .slice A3 n.pairs.length c3, .slice A4 n.keys.length c4, .slice A5 n.ways.length c5] 116))
  have A3' := Aside0.mk (A2.out.step (w1 := w2.alloc (.cells #[.bool n.inner, .bool n.tagged, .slice A3 n.pairs.length c3, .slice A4 n.keys.length c4, .slice A5 n.ways.length c5] 116)) (by simp) (fun q _ hq => Below.heap_alloc _ _ _ hq))
  have M3 := Aside0.mk (M2.out.alloc (.cells #[.bool n.inner, .bool n.tagged, .slice A3 n.pairs.length c3, .slice A4 n.keys.length c4, .slice A5 n.ways.length c5] 116))
  have L3 := Aside0.mk (below_alloc (Below.refl w2.heap.size w2) (.cells #[.bool n.inner, .bool n.tagged, .slice A3 n.pairs.length c3, .slice A4 n.keys.length c4, .slice A5 n.ways.length c5] 116))
  generalize w2.alloc (.cells #[.bool n.inner, .bool n.tagged, .slice A3 n.pairs.length c3, .slice A4 n.keys.length c4, .slice A5 n.ways.length c5] 116) = w3 at Y3 X3 A3' M3 L3 ⊢
  generalize h7 : w2.heap.size = b7 at Y3 L3 ⊢
  have E7 := Aside0.mk h7
  clear h7
  have y0 := (blk_cell Y3.out.1 0).trans (rfl : _ = some (Value.bool n.inner))
  have y1 := (blk_cell Y3.out.1 1).trans (rfl : _ = some (Value.bool n.tagged))
  have y2 := (blk_cell Y3.out.1 2).trans (rfl : _ = some (Value.slice A3 n.pairs.length c3))
  have y3 := (blk_cell Y3.out.1 3).trans (rfl : _ = some (Value.slice A4 n.keys.length c4))
  have y4 := (blk_cell Y3.out.1 4).trans (rfl : _ = some (Value.slice A5 n.ways.length c5))
  go_upto_region 3 with fail
  clear y0 y1 y2 y3 y4
  have Z4 := Aside0.mk (Mine.new (ok := ok) (fun q hq => A3'.out.lt q hq) (.cells #[.bool (!n.inner), .bool n.tagged, .slice A3 n.pairs.length c3, .slice A4 n.keys.length c4, .slice none 0 0] 29))
  have Y4 := Aside0.mk (Y3.out.alloc (.cells #[.bool (!n.inner), .bool n.tagged, .slice A3 n.pairs.length c3, .slice A4 n.keys.length c4, .slice none 0 0] 29))
  have X4 := Aside0.mk (X3.out.alloc (.cells #[.bool (!n.inner), .bool n.tagged, .slice A3 n.pairs.length c3, .slice A4 n.keys.length c4, .slice none 0 0] 29))
  have A4' := Aside0.mk (A3'.out.step (w1 := w3.alloc (.cells #[.bool (!n.inner), .bool n.tagged, .slice A3 n.pairs.length c3, .slice A4 n.keys.length c4, .slice none 0 0] 29)) (by simp) (fun q _ hq => Below.heap_alloc _ _ _ hq))
  have M4 := Aside0.mk (M3.out.alloc (.cells #[.bool (!n.inner), .bool n.tagged, .slice A3 n.pairs.length c3, .slice A4 n.keys.length c4, .slice none 0 0] 29))
  have L4 := Aside0.mk (below_then L3.out (by rw [← E7.out]; exact L3.out.size) (below_alloc (Below.refl w3.heap.size w3) (.cells #[.bool (!n.inner), .bool n.tagged, .slice A3 n.pairs.length c3, .slice A4 n.keys.length c4, .slice none 0 0] 29)))
  have S3 := Aside0.mk Y3.out.lt
  clear Y3 X3 A3' M3 L3
  generalize w3.alloc (.cells #[.bool (!n.inner), .bool n.tagged, .slice A3 n.pairs.length c3, .slice A4 n.keys.length c4, .slice none 0 0] 29) = w4 at Z4 Y4 X4 A4' M4 L4 ⊢
  generalize h8 : w3.heap.size = b8 at Z4 S3 ⊢
  have E8 := Aside0.mk h8
  clear h8
  have ST : Aside0 (RdSt ok pA w b6 b7 b8 n A3 c3 A4 c4 A5 c5 (.slice none 0 0) [] a2 w4) := ⟨by
    have hs := S2.out
    have h7 := E7.out
    have h6 := E6.out
    have h67 : b6 < b7 := by omega
    exact { x6 := X4.out, x7 := Y4.out, x8 := Z4.out, ar := A4'.out, mv := M4.out, row := Kd.N_nil _ _ _ _ _
            l3 := (Kd.R_reads' HR2.out.1).2.1, f3 := Kd.F_mono (Kd.F_step (Kd.F_bound (Kd.R_F HR2.out.1)) (fun k hk hlt => L4.out.block k (by omega))) (fun k hk => by omega)
            l4 := (Kd.R_reads' HR2.out.2.1).2.1, f4 := Kd.F_mono (Kd.F_step (Kd.F_bound (Kd.R_F HR2.out.2.1)) (fun k hk hlt => L4.out.block k (by omega))) (fun k hk => by omega)
            o6 := by omega, o7 := h67, o8 := S3.out, lt := HLT.out }⟩
  clear X4 Y4 Z4 A4' M4 L4 HR2 S2 S3
  have y0 := (blk_cell ST.out.x7.1 0).trans (rfl : _ = some (Value.bool n.inner))
  have y1 := (blk_cell ST.out.x7.1 1).trans (rfl : _ = some (Value.bool n.tagged))
  have y2 := (blk_cell ST.out.x7.1 2).trans (rfl : _ = some (Value.slice A3 n.pairs.length c3))
  have y3 := (blk_cell ST.out.x7.1 3).trans (rfl : _ = some (Value.slice A4 n.keys.length c4))
  have y4 := (blk_cell ST.out.x7.1 4).trans (rfl : _ = some (Value.slice A5 n.ways.length c5))
  have d0 : decide (((d + 1 : Nat) : Int) > 0) = true := decide_eq_true (by omega)
  go_upto_region 5 with fail
  clear y0 y1 y2 y3 y4
  generalize hkl : (readL (readT d) r 0 n.ways.length a2).1 = kids at HNN ⊢
  generalize hae : (readL (readT d) r 0 n.ways.length a2).2 = aE at HNN ⊢
  have HKL := Aside0.mk hkl
  have HAE := Aside0.mk hae
  clear hkl hae
  go_wp2_with fail
  go_loopw [30] (fun v30 wr => ∃ ac acc i m v4, v30 = .int .i64 (i : Nat) ∧ Aside0 (i + m = n.ways.length ∧ acc.length = i ∧ acc ++ (readL (readT d) r i m ac).1 = kids ∧ (readL (readT d) r i m ac).2 = aE ∧ ac.Fits) ∧ Aside0 (RdSt ok pA w b6 b7 b8 n A3 c3 A4 c4 A5 c5 v4 acc ac wr)) (fun v30 _ => n.ways.length - (intOf v30).toNat)
  case atStart => exact ⟨a2, [], 0, n.ways.length, .slice none 0 0, rfl, ⟨by omega, rfl, HKL.out, HAE.out, HF2.out⟩, ST⟩
  case round =>
    obtain ⟨ac, acc, i, m, v4, rfl, HT, S5⟩ := hrel
    clear ST HKL HAE HF2
    have HI := Aside0.mk HT.out.1
    have HA60 : Aside0 (acc.length ≤ 1000000) := ⟨by have := HT.out.1; have := HT.out.2.1; have := HWL.out; omega⟩
    cases m with
    | zero =>
      have hi := HT.out.1
      rw [Nat.add_zero] at hi
      have d5 : decide ((i : Int) < (n.ways.length : Int)) = false := decide_eq_false (by omega)
      have d6 : decide (i < n.ways.length) = false := decide_eq_false (by omega)
      have e1 : acc = kids := by have := HT.out.2.2.1; rw [readL, List.append_nil] at this; exact this
      have e2 : ac = aE := by have := HT.out.2.2.2.1; rw [readL] at this; exact this
      subst e1
      subst e2
      obtain ⟨A9, c9, rfl⟩ := Kd.N_slice S5.out.row
      clear hi HT
      have y0 := (blk_cell S5.out.x8.1 0).trans (rfl : _ = some (Value.bool (!n.inner)))
      have y1 := (blk_cell S5.out.x8.1 1).trans (rfl : _ = some (Value.bool n.tagged))
      have y2 := (blk_cell S5.out.x8.1 2).trans (rfl : _ = some (Value.slice A3 n.pairs.length c3))
      have y3 := (blk_cell S5.out.x8.1 3).trans (rfl : _ = some (Value.slice A4 n.keys.length c4))
      have y4 := (blk_cell S5.out.x8.1 4).trans (rfl : _ = some (Value.slice A9 acc.length c9))
      have k0 := (blk_cell S5.out.x6.1 0).trans (rfl : _ = some (Value.bool false))
      have k1 := (blk_cell S5.out.x6.1 1).trans (rfl : _ = some (Value.bool false))
      have k2 := (blk_cell S5.out.x6.1 2).trans (rfl : _ = some (Value.slice none 0 0))
      have k3 := (blk_cell S5.out.x6.1 3).trans (rfl : _ = some (Value.slice none 0 0))
      have k4 := (blk_cell S5.out.x6.1 4).trans (rfl : _ = some (Value.slice none 0 0))
      have z0 := blk_frozen S5.out.x6.1 0
      have z1 := blk_frozen S5.out.x6.1 1
      have z2 := blk_frozen S5.out.x6.1 2
      have z3 := blk_frozen S5.out.x6.1 3
      have z4 := blk_frozen S5.out.x6.1 4
      go_wp2_with fail
      show bodyPost _ _ _ _ _ (set5 wr b6 (.bool (!n.inner)) (.bool n.tagged) (.slice A3 n.pairs.length c3) (.slice A4 n.keys.length c4) (.slice A9 acc.length c9))
      refine bodyPost_ret (results_c rfl _ _ b6 29 _ (0, 0) _ rfl (set5_box S5.out.x6.1 _ _ _ _ _) Tryz.underlying29 rfl (by kernel_rfl)) rfl ?_
      rw [HNN.out]
      exact S5.out.post
    | succ m =>
      have hi := HT.out.1
      have d5 : decide ((i : Int) < (n.ways.length : Int)) = true := decide_eq_true (by omega)
      have d6 : decide (i < n.ways.length) = true := decide_eq_true (by omega)
      have HAC := Aside0.mk HT.out.2.1
      have HKI := Aside0.mk HT.out.2.2.1
      have HRE := Aside0.mk HT.out.2.2.2.1
      have HFC := Aside0.mk HT.out.2.2.2.2
      rw [readL] at HKI HRE
      clear HT hi
      have HC := Aside0.mk (show wr.cell? ⟨b8, 4, none⟩ = some v4 from (blk_cell S5.out.x8.1 4).trans rfl)
      go_upto_region 7 with fail
      refine ordStart (n := 14) (S := fun w' => w'.cell? ⟨b8, 4, none⟩ = some v4) (ds := [13]) (by kernel_rfl) rfl tabRead7 bitsRead7 HC.out (fun hHeld HT_ HW_ => ?_)
      have S6 := Aside0.mk (S5.out.still (below_drew (Below.refl _ _)))
      clear S5 HC
      generalize wr.drew = w6 at S6 hHeld ⊢
      refine ord_ [(0, some 33), (1, some 34), (2, some 35), (3, some 36), (4, some 37), (5, some 38), (7, some 40), (8, some 41)] ?_
      (refine ordP (v := ?_) (a' := ?_) HT_ (by kernel_rfl) rfl rfl (fun _ _ _ h => h) (Or.inl ⟨by rfl, ?_⟩) ?_ ?_; rotate_left; (intro w'; go_simp; with_reducible rfl); rotate_left; (simp only [Act.put, p1_, p2_, p3_, i64_w, i32_w]; rfl))
      iterate 7 (refine ordT (v := ?_) (a' := ?_) HT_ HW_ (by kernel_rfl) rfl rfl (fun _ _ _ h => h) hHeld (Or.inl ⟨by rfl, ?_⟩) ?_ ?_; rotate_left; (rintro w' s4; go_simp; with_reducible rfl); rotate_left; (simp only [Act.put, p1_, p2_, p3_, i64_w, i32_w]; rfl))
      refine ordNil ?_
      refine ordOne (i := 6) (some 39) HT_ (by kernel_rfl) rfl rfl (by decide) (fun K_ hK => ?_)
      refine call_ 77 #[.pointer (some ⟨pA, 0, none⟩), .int .i64 r, .int .i64 (i : Int)] (by rfl) rfl ?hrun6 ?_
      (case hrun6 => first | (go_simp; done) | (go_simp; exact enters Tryz.func77 (by kernel_rfl) rfl _ _))
      refine (way_calls r (i : Int) w6 S6.out.ar HFC.out.slots).mono ?_
      rintro e w7 ⟨rfl, hA7, hM7⟩
      have S7 := Aside0.mk (S6.out.moves hM7 hA7)
      clear hA7 hM7 S6
      have HFW := Aside0.mk (HFC.out.same (way_slots ac r (i : Int)))
      generalize (ac.way r (i : Int)).1 = xr at HKI HRE ⊢
      generalize (ac.way r (i : Int)).2 = a7 at S7 HKI HRE HFW ⊢
      refine ⟨_, rfl, ?_⟩
      refine hK.out _ _ ((blk_cell S7.out.x8.1 4).trans rfl) (fun hHeld => ?_)
      clear hK K_
      refine norm_ (a' := ?_) ?_ ?_
      rotate_left; · show Act.put _ (some 39) _ = _; simp only [Act.put, p1_, p2_, p3_, i64_w, i32_w]; rfl
      refine ordOne (i := 9) (some 42) HT_ (by kernel_rfl) rfl rfl (by decide) (fun K_ hK => ?_)
      refine call_ 76 #[.pointer (some ⟨pA, 0, none⟩), .int .i64 xr, .int .i64 (wrap64 (((d + 1 : Nat) : Int) - 1))] (by rfl) rfl ?hrun9 ?_
      (case hrun9 => first | (go_simp; done) | (go_simp; exact enters Tryz.func76 (by kernel_rfl) rfl _ _))
      rw [HWP.out]
      refine (ih ok pA a7 xr w7 S7.out.ar HFW.out).mono ?_
      rintro e w8 hE
      obtain ⟨cs, rfl, hfk⟩ := hE.out
      have S8 := Aside0.mk (S7.out.moves hE.moves hE.ar)
      have HFR := Aside0.mk (HFW.out.same (readT_slots d xr a7))
      have HV8 : Aside0 (∀ q, v4.ownBlock = some q → q < w7.heap.size) := ⟨Kd.N_lt S7.out.row⟩
      have H78 : Aside0 (b8 < w7.heap.size ∧ w7.heap.size ≤ w8.heap.size) := ⟨blk_lt S7.out.x8.1, hE.moves.size⟩
      clear hE S7 HFW
      generalize (readT d xr a7).1 = kd at hfk HKI ⊢
      generalize (readT d xr a7).2 = a8 at S8 HRE HKI HFR ⊢
      obtain ⟨B2, d2, B3, d3, B4, d4, rfl, _⟩ := k29_openF hfk
      have HFK := Aside0.mk hfk
      clear hfk
      refine ⟨_, rfl, ?_⟩
      refine hK.out _ _ ((blk_cell S8.out.x8.1 4).trans rfl) (fun hHeld => ?_)
      clear hK K_
      refine norm_ (a' := ?_) ?_ ?_
      rotate_left; · show Act.put _ (some 42) _ = _; simp only [Act.put, p1_, p2_, p3_, i64_w, i32_w]; rfl
      refine ordOne (i := 10) (some 43) HT_ (by kernel_rfl) rfl rfl (by decide) (fun K_ hK => ?_)
      refine value_ (v := .slice (some ⟨w8.heap.size, 0, none⟩) 1 1) (w1 := w8.alloc (.cells #[.bool kd.f0, .bool kd.f1, .slice B2 kd.f2.length d2, .slice B3 kd.f3.length d3, .slice B4 kd.f4.length d4] 29)) (by rfl) rfl (by go_simp) ?_
      have S9 := Aside0.mk (S8.out.still (below_alloc (Below.refl _ _) (.cells #[.bool kd.f0, .bool kd.f1, .slice B2 kd.f2.length d2, .slice B3 kd.f3.length d3, .slice B4 kd.f4.length d4] 29)))
      have hbx := blk_new w8 (.cells #[.bool kd.f0, .bool kd.f1, .slice B2 kd.f2.length d2, .slice B3 kd.f3.length d3, .slice B4 kd.f4.length d4] 29)
      have HFK9 := Aside0.mk (Kd.FK_step (W1 := w8.alloc (.cells #[.bool kd.f0, .bool kd.f1, .slice B2 kd.f2.length d2, .slice B3 kd.f3.length d3, .slice B4 kd.f4.length d4] 29)) (Kd.FK_bound HFK.out) (fun q hq hlt => Below.heap_alloc _ _ _ hlt))
      refine hK.out _ _ ((blk_cell S9.out.x8.1 4).trans rfl) (fun hHeld => ?_)
      clear hK K_
      refine norm_ (a' := ?_) ?_ ?_
      rotate_left; · show Act.put _ (some 43) _ = _; simp only [Act.put, p1_, p2_, p3_, i64_w, i32_w]; rfl
      refine ordOne (i := 11) (some 44) HT_ (by kernel_rfl) rfl rfl (by decide) (fun K_ hK => ?_)
      clear S8 HFK
      generalize w8.alloc (.cells #[.bool kd.f0, .bool kd.f1, .slice B2 kd.f2.length d2, .slice B3 kd.f3.length d3, .slice B4 kd.f4.length d4] 29) = w9 at S9 hbx HFK9 hHeld ⊢
      have hlt9 := blk_lt hbx
      refine Kd.N_append_rows_step kSh (w0 := w9) w.heap.size (by rfl) (.tmp 34) (.tmp 43) 27 29 (.agg #[(.bool false), (.bool false), (.slice none 0 0), (.slice none 0 0), (.slice none 0 0)]) 80 rfl Tryz.underlying27 info29 rfl (by decide) (by omega) v4 acc [kd] (some ⟨w8.heap.size, 0, none⟩) 1 1 (fun q => b8 < q) (fun q => q = w8.heap.size ∨ (w7.heap.size ≤ q ∧ q < w8.heap.size)) (by rfl) (by rfl) S9.out.row (one_F hbx HFK9.out)
        (fun q hq => ⟨by have := H78.out; omega, fun e => by have := HV8.out q e.symm; have := H78.out; omega⟩) (fun q hq => by have := blk_lt S9.out.x8.1; omega) (Below.refl _ _) S9.out.mv.size (by have := HA60.out; omega) ?_
      intro v1 w10 hN _ hg hat
      have S10 := Aside0.mk (S9.out.grown hN hg)
      have hx8 : Mine ok w10 b8 (shB n (.slice A3 n.pairs.length c3) (.slice A4 n.keys.length c4) v4) := ⟨(hg.block b8 (blk_lt S9.out.x8.1) (fun e => by have := S9.out.row.1 b8 e.symm; omega)).trans S9.out.x8.1, S9.out.x8.2⟩
      have HX8 := Aside0.mk hx8
      obtain ⟨A9, c9, rfl⟩ := Kd.N_slice hN
      clear hN hg hat S9 hbx HFK9 hx8 hlt9
      refine hK.out _ _ ((blk_cell HX8.out.1 4).trans rfl) (fun hHeld => ?_)
      clear hK K_
      refine norm_ (a' := ?_) ?_ ?_
      rotate_left; · show Act.put _ (some 44) _ = _; simp only [Act.put, p1_, p2_, p3_, i64_w, i32_w]; rfl
      refine ord_ [(12, some 45)] ?_
      (refine ordP (v := ?_) (a' := ?_) HT_ (by kernel_rfl) rfl rfl (fun _ _ _ h => h) (Or.inl ⟨by rfl, ?_⟩) ?_ ?_; rotate_left; (intro w'; go_simp; with_reducible rfl); rotate_left; (simp only [Act.put, p1_, p2_, p3_, i64_w, i32_w]; rfl))
      refine ordNil ?_
      have y4 := (blk_cell HX8.out.1 4).trans (rfl : _ = some v4)
      have z4 := blk_frozen HX8.out.1 4
      refine ordLast (i := 13) none HT_ (by kernel_rfl) rfl rfl (by decide) (fun K_ hK => ?_)
      refine skip_ (w1 := ?_) (by rfl) rfl ?_ ?_
      rotate_left; · go_simp; rfl
      refine hK.out _ _ ?_
      clear hK K_
      refine done_ (done_of HT_.out (by kernel_rfl)) ?_
      have S11 : Aside0 (RdSt ok pA w b6 b7 b8 n A3 c3 A4 c4 A5 c5 (.slice A9 (acc.length + 1) c9) (acc ++ [kd]) a8 (w10.setCell ⟨b8, 4, none⟩ (.slice A9 (acc.length + 1) c9))) := ⟨by
        have h1 := S10.out
        rw [show (acc ++ [kd]).length = acc.length + 1 from by simp] at h1
        exact h1⟩
      clear S10 HX8 hHeld y4 z4
      generalize w10.setCell ⟨b8, 4, none⟩ (.slice A9 (acc.length + 1) c9) = w11 at S11 ⊢
      have hi1 := HI.out
      have hi2 : i ≤ 1000000 := by have := HAC.out; have := HA60.out; omega
      have hk1 : (acc ++ [kd]) ++ (readL (readT d) r (i + 1) m a8).1 = kids := by rw [List.append_assoc]; exact HKI.out
      go_wp2_with fail
      exact ⟨⟨a8, acc ++ [kd], i + 1, m, _, by first | rfl | rw [wrap_mill i hi2], ⟨by omega, by rw [List.length_append, HAC.out]; rfl, hk1, HRE.out, HFR.out⟩, S11⟩, by first | exact meas_mill (by omega) hi2 | (show n.ways.length - (i + 1) < n.ways.length - i; omega)⟩
theorem read_calls (d : Nat) (hd : d ≤ 1000) : ∀ (ok : Nat → Prop) (pA : Nat) (a : Ar) (r : Int) (w : World), IsArena ok pA a w → a.Fits → Calls Tryz.prog 76 #[.pointer (some ⟨pA, 0, none⟩), .int .i64 r, .int .i64 (d : Int)] w (ReadPost ok pA (readT d r a).1 (readT d r a).2 w) := by
  induction d with
  | zero => exact read_zero
  | succ d ih => exact read_succ d (by omega) (ih (by omega))
end Go.Proofs.YtelmidpepojbdaaGreat.Tower
namespace Go.Proofs.YtelmidpepojbdaaGreat.Tower
open Go Go.RowKit Go.Proofs.YtelmidpepojbdaaGreatW.PrintWords Go.Proofs.YtelmidpepojbdaaGreatW.PrintLast Go.Proofs.YtelmidpepojbdaaGreatW.PrintMore Go.Proofs.YtelmidpepojbdaaGreat.Own Go.Proofs.YtelmidpepojbdaaGreat.PMendRight
set_option linter.unusedVariables false
set_option linter.unusedSimpArgs false
def Ws.read (x : Ws) : Sh × Ar := readT 40 (x.ar.way x.entry 0).1 (x.ar.way x.entry 0).2
structure WRead (ok okR okE : Nat → Prop) (p pA pR pE : Nat) (x : Ws) (w : World) (e : Ending) (w1 : World) : Prop where
  val : ∃ cs, e = .returned (.agg cs.toArray) ∧ kSh.FK w1 (fun k => w.heap.size ≤ k) x.read.1 cs
  out : ∃ ok1 okA1, WorldAt ok1 okA1 okR okE p pA pR pE { x with ar := x.read.2 } w1 ∧ Moves ok ok1 w w1
def TReadW1 : Bool × List (List Nat × List Nat) := (true, [([], []), ([0], [0]), ([1], [1]), ([2], [2]), ([], []), ([4], [4]), ([5], [5]), ([6], [6]), ([], []), ([8], [8]), ([9], [9]), ([10], [10]), ([7, 11], [7, 11]), ([3, 12, 12], [3, 12]), ([13, 13, 0, 1, 2, 3, 4, 5, 6, 7, 8, 9, 10, 11, 12, 13], [13])])
def BReadW1 : List Nat := [0, 1, 3, 7, 0, 16, 48, 112, 0, 256, 768, 1792, 4080, 8191, 16383]
theorem tabReadW1 : rtab .any (opsOf Tryz.f23 1) = TReadW1 := by kernel_rfl
theorem bitsReadW1 : waitsOk TReadW1.2 BReadW1 = true := by kernel_rfl
set_option maxHeartbeats 4000000 in
set_option maxRecDepth 100000 in
theorem readw_calls {ok okA okR okE : Nat → Prop} {p pA pR pE : Nat} {x : Ws} (w : World) (h : WorldAt ok okA okR okE p pA pR pE x w) (hf : x.ar.Fits) : Calls Tryz.prog 23 #[.pointer (some ⟨p, 0, none⟩)] w (WRead ok okR okE p pA pR pE x w) := by
  have W1 := Aside0.mk (h.step (w1 := w.alloc (.cells #[.bool false, .bool false, .slice none 0 0, .slice none 0 0, .slice none 0 0] 29)) (by simp) (fun k _ hk => Below.heap_alloc _ _ _ hk))
  have X1 := Aside0.mk (Mine.new (ok := ok) (fun k hk => h.lt k hk) (.cells #[.bool false, .bool false, .slice none 0 0, .slice none 0 0, .slice none 0 0] 29))
  have M1 := Aside0.mk ((Moves.refl ok w).alloc (.cells #[.bool false, .bool false, .slice none 0 0, .slice none 0 0, .slice none 0 0] 29))
  have HFI := Aside0.mk hf
  have HFW := Aside0.mk (hf.same (way_slots x.ar x.entry 0))
  clear h hf
  obtain ⟨q, hq⟩ : ∃ q, x.read = q := ⟨_, rfl⟩
  have HXR := Aside0.mk hq
  obtain ⟨s, aE⟩ := q
  have HQ : Aside0 (readT 40 (x.ar.way x.entry 0).1 (x.ar.way x.entry 0).2 = (s, aE)) := ⟨hq⟩
  clear hq
  go_enter Tryz.func23, Tryz.ntmps23
  go_upto_region 1 with fail
  generalize w.alloc (.cells #[.bool false, .bool false, .slice none 0 0, .slice none 0 0, .slice none 0 0] 29) = w1 at W1 X1 M1 ⊢
  generalize h2 : w.heap.size = b2 at X1 ⊢
  have E2 := Aside0.mk h2
  clear h2
  have HC := Aside0.mk (show w1.cell? ⟨p, 0, none⟩ = some (.pointer (some ⟨pA, 0, none⟩)) ∧ w1.cell? ⟨p, 5, none⟩ = some (.int .i64 x.entry) from ⟨(blk_cell (W1.out.box) 0).trans rfl, (blk_cell (W1.out.box) 5).trans rfl⟩)
  refine ordStart (n := 15) (S := fun w' => w'.cell? ⟨p, 0, none⟩ = some (.pointer (some ⟨pA, 0, none⟩)) ∧ w'.cell? ⟨p, 5, none⟩ = some (.int .i64 x.entry)) (ds := [14]) (by kernel_rfl) rfl tabReadW1 bitsReadW1 HC.out (fun hHeld HT_ HW_ => ?_)
  have W2 := Aside0.mk (W1.out.step (w1 := w1.drew) (Nat.le_refl _) (fun _ _ _ => rfl))
  have M2 := Aside0.mk M1.out.drew
  have X2 := Aside0.mk (X1.out.moves (Moves.drew (Moves.refl _ _)))
  have G2 : Aside0 (b2 < w1.drew.heap.size) := ⟨X1.out.lt⟩
  clear HC W1 M1 X1
  generalize w1.drew = w2 at W2 M2 X2 G2 hHeld ⊢
  refine ord_ [(0, some 3), (1, some 4), (2, some 5), (3, some 6), (4, some 7), (5, some 8), (6, some 9), (7, some 10), (8, some 11), (9, some 12), (10, some 13), (11, some 14)] ?_
  iterate 3 (refine ordP (v := ?_) (a' := ?_) HT_ (by kernel_rfl) rfl rfl (fun _ _ _ h => h) (Or.inl ⟨by rfl, ?_⟩) ?_ ?_; rotate_left; (intro w'; go_simp; with_reducible rfl); rotate_left; (simp only [Act.put, p1_, p2_, p3_, i64_w, i32_w]; rfl))
  iterate 9 (refine ordT (v := ?_) (a' := ?_) HT_ HW_ (by kernel_rfl) rfl rfl (fun _ _ _ h => h) hHeld (Or.inl ⟨by rfl, ?_⟩) ?_ ?_; rotate_left; (rintro w' ⟨s0, s5⟩; go_simp; with_reducible rfl); rotate_left; (simp only [Act.put, p1_, p2_, p3_, i64_w, i32_w]; rfl))
  refine ordNil ?_
  refine ordOne (i := 12) (some 15) HT_ (by kernel_rfl) rfl rfl (by decide) (fun K_ hK => ?_)
  refine call_ 77 #[.pointer (some ⟨pA, 0, none⟩), .int .i64 x.entry, .int .i64 0] (by rfl) rfl ?hrun12 ?_
  (case hrun12 => first | (go_simp; done) | (go_simp; exact enters Tryz.func77 (by kernel_rfl) rfl _ _))
  refine (way_calls x.entry 0 w2 W2.out.ar HFI.out.slots).mono ?_
  rintro e w3 ⟨rfl, hA3, hM3⟩
  have W3 := Aside0.mk (W2.out.ar_moves hA3 hM3).1
  have N3 := Aside0.mk (W2.out.ar_moves hA3 hM3).2
  have M3 := Aside0.mk (M2.out.trans N3.out)
  have X3 := Aside0.mk (X2.out.moves N3.out)
  have G3 : Aside0 (b2 < w3.heap.size) := ⟨Nat.lt_of_lt_of_le G2.out hM3.size⟩
  clear hA3 hM3 W2 M2 X2 N3 G2
  generalize (x.ar.way x.entry 0).1 = xr at HFW HQ ⊢
  generalize (x.ar.way x.entry 0).2 = a3 at W3 HFW HQ ⊢
  refine ⟨_, rfl, ?_⟩
  refine hK.out _ _ ⟨(blk_cell (W3.out.box) 0).trans rfl, (blk_cell (W3.out.box) 5).trans rfl⟩ (fun hHeld => ?_)
  clear hK K_
  refine norm_ (a' := ?_) ?_ ?_
  rotate_left; · show Act.put _ (some 15) _ = _; simp only [Act.put, p1_, p2_, p3_, i64_w, i32_w]; rfl
  refine ordOne (i := 13) (some 16) HT_ (by kernel_rfl) rfl rfl (by decide) (fun K_ hK => ?_)
  refine call_ 76 #[.pointer (some ⟨pA, 0, none⟩), .int .i64 xr, .int .i64 ((40 : Nat) : Int)] (by rfl) rfl ?hrun13 ?_
  (case hrun13 => first | (go_simp; done) | (go_simp; exact enters Tryz.func76 (by kernel_rfl) rfl _ _))
  refine (read_calls 40 (by omega) _ pA a3 xr w3 W3.out.ar HFW.out).mono ?_
  rintro e w4 hE
  obtain ⟨cs, rfl, hfk⟩ := hE.out
  have W4 := Aside0.mk (W3.out.ar_moves hE.ar hE.moves).1
  have N4 := Aside0.mk (W3.out.ar_moves hE.ar hE.moves).2
  have M4 := Aside0.mk (M3.out.trans N4.out)
  have X4 := Aside0.mk (X3.out.moves N4.out)
  clear hE W3 M3 X3 N4
  rw [HQ.out] at hfk W4
  simp only at hfk W4
  obtain ⟨A2, c2, A3, c3, A4, c4, rfl, _⟩ := k29_openF hfk
  have F4 := Aside0.mk (Kd.FK_mono hfk (fun k hk => Nat.lt_of_lt_of_le G3.out hk : ∀ k, w3.heap.size ≤ k → b2 < k))
  clear hfk G3
  refine ⟨_, rfl, ?_⟩
  refine hK.out _ _ ⟨(blk_cell (W4.out.box) 0).trans rfl, (blk_cell (W4.out.box) 5).trans rfl⟩ (fun hHeld => ?_)
  clear hK K_
  refine norm_ (a' := ?_) ?_ ?_
  rotate_left; · show Act.put _ (some 16) _ = _; simp only [Act.put, p1_, p2_, p3_, i64_w, i32_w]; rfl
  refine ordLast (i := 14) none HT_ (by kernel_rfl) rfl rfl (by decide) (fun K_ hK => ?_)
  refine skip_ (w1 := w4.setCells b2 0 [.bool s.f0, .bool s.f1, .slice A2 s.f2.length c2, .slice A3 s.f3.length c3, .slice A4 s.f4.length c4]) (by rfl) rfl ?h14 ?_
  (case h14 => exact exec_store _ [.bool s.f0, .bool s.f1, .slice A2 s.f2.length c2, .slice A3 s.f3.length c3, .slice A4 s.f4.length c4] rfl (by rfl) (by rfl) X4.out.1 rfl (by kernel_rfl) (by simp) (by intro u hu; simp only [List.mem_cons, List.not_mem_nil, or_false] at hu; rcases hu with rfl | rfl | rfl | rfl | rfl <;> rfl))
  refine hK.out _ _ ?_
  clear hK K_
  have W5 := Aside0.mk (W4.out.step (w1 := w4.setCells b2 0 [.bool s.f0, .bool s.f1, .slice A2 s.f2.length c2, .slice A3 s.f3.length c3, .slice A4 s.f4.length c4]) (by rw [(setCells_same b2 _ 0 w4).2.2.2]; exact Nat.le_refl _) (fun k hk _ => setCells_far _ _ k (fun e => X4.out.2 (e ▸ hk))))
  have F5 := Aside0.mk (Kd.FK_step (W1 := w4.setCells b2 0 [.bool s.f0, .bool s.f1, .slice A2 s.f2.length c2, .slice A3 s.f3.length c3, .slice A4 s.f4.length c4]) F4.out (fun k hk _ => setCells_far _ _ k (fun e => by omega)))
  have X5 := Aside0.mk (setCells_all (seg := [.bool s.f0, .bool s.f1, .slice A2 s.f2.length c2, .slice A3 s.f3.length c3, .slice A4 s.f4.length c4]) X4.out.1 rfl)
  have M5 := Aside0.mk (moves_cells M4.out (g := b2) (.inr (Nat.le_of_eq E2.out)) 0 [.bool s.f0, .bool s.f1, .slice A2 s.f2.length c2, .slice A3 s.f3.length c3, .slice A4 s.f4.length c4])
  clear W4 F4 X4 M4 hHeld
  generalize w4.setCells b2 0 [.bool s.f0, .bool s.f1, .slice A2 s.f2.length c2, .slice A3 s.f3.length c3, .slice A4 s.f4.length c4] = w5 at W5 F5 X5 M5 ⊢
  refine done_ (done_of HT_.out (by kernel_rfl)) ?_
  go_wp2_with fail
  (try simp only [Exit.inBlock, Exit.then])
  refine bodyPost_ret (results_c rfl _ _ b2 29 _ (0, 0) _ rfl X5.out Tryz.underlying29 rfl (by kernel_rfl)) rfl ?_
  refine ⟨⟨[.bool s.f0, .bool s.f1, .slice A2 s.f2.length c2, .slice A3 s.f3.length c3, .slice A4 s.f4.length c4], rfl, ?_⟩, _, okA, ?_, M5.out⟩
  · rw [HXR.out]
    exact Kd.FK_mono F5.out (fun k hk => by have := E2.out; omega)
  · rw [HXR.out]
    exact W5.out
theorem KO {D : Nat → Prop} {w : World} {s : Sh} {A2 A3 A4 : Option Addr} {c2 c3 c4 : Nat} (h : kSh.FK w D s [.bool s.f0, .bool s.f1, .slice A2 s.f2.length c2, .slice A3 s.f3.length c3, .slice A4 s.f4.length c4]) :
    s.f2.length ≤ c2 ∧ kP.C w A2 s.f2.length s.f2 ∧ s.f3.length ≤ c3 ∧ (Kd.int .i64).C w A3 s.f3.length s.f3 ∧ s.f4.length ≤ c4 ∧ kSh.C w A4 s.f4.length s.f4 := by
  obtain ⟨B2, d2, B3, d3, B4, d4, e, l2, F2, l3, F3, l4, F4⟩ := k29_openF h
  simp only [List.cons.injEq, Value.slice.injEq, and_true, true_and] at e
  obtain ⟨⟨rfl, rfl⟩, ⟨rfl, rfl⟩, ⟨rfl, rfl⟩⟩ := e
  exact ⟨l2, Kd.F_now F2, l3, Kd.F_now F3, l4, Kd.F_now F4⟩
end Go.Proofs.YtelmidpepojbdaaGreat.Tower
namespace Go.Proofs.YtelmidpepojbdaaGreat.Tower
open Go Go.RowKit Go.Proofs.YtelmidpepojbdaaGreatW.PrintWords Go.Proofs.YtelmidpepojbdaaGreatW.PrintLast Go.Proofs.YtelmidpepojbdaaGreatW.PrintMore Go.Proofs.YtelmidpepojbdaaGreat.Own
set_option linter.unusedVariables false
set_option linter.unusedSimpArgs false
set_option maxHeartbeats 2000000 in
set_option maxRecDepth 100000 in
theorem ar_used {ok : Nat → Prop} {p : Nat} {x : Ar} (w : World) (h : IsArena ok p x w) :
    Calls Tryz.prog 24 #[.pointer (some ⟨p, 0, none⟩)] w fun e w1 => e = .returned (.int .i64 x.used) ∧ w1 = w := by
  obtain ⟨sv, fv, lv, ρ, h⟩ := h
  have c1 : w.cell? ⟨p, 3, none⟩ = some (.int .i64 x.used) := (blk_cell h.box 3).trans rfl
  clear h
  go_enter Tryz.func24, Tryz.ntmps24
  go_wp2_with fail
  go_ret
  exact ⟨rfl, rfl⟩
set_option maxHeartbeats 2000000 in
set_option maxRecDepth 100000 in
theorem tb_len {ok : Nat → Prop} {p : Nat} {x : Tb} (w : World) (h : IsTable ok p x w) :
    Calls Tryz.prog 26 #[.pointer (some ⟨p, 0, none⟩)] w fun e w1 => e = .returned (.int .i64 x.l.length) ∧ w1 = w := by
  obtain ⟨v, eb, nv, iv, ρ, h⟩ := h
  obtain ⟨A, c, rfl⟩ := Kd.R_slice h.row
  have c1 : w.cell? ⟨p, 0, none⟩ = some (.slice A ((List.range x.l.length).map fun i => [Value.pointer (some ⟨eb i, 0, none⟩)]).length c) := (blk_cell h.box 0).trans rfl
  rw [List.length_map, List.length_range] at c1
  clear h
  go_enter Tryz.func26, Tryz.ntmps26
  go_wp2_with fail
  go_ret
  exact ⟨rfl, rfl⟩
end Go.Proofs.YtelmidpepojbdaaGreat.Tower
namespace Go.Proofs.YtelmidpepojbdaaGreat.Tower
open Go Go.RowKit Go.Proofs.YtelmidpepojbdaaGreatW.PrintWords Go.Proofs.YtelmidpepojbdaaGreatW.PrintLast Go.Proofs.YtelmidpepojbdaaGreatW.PrintMore Go.Proofs.YtelmidpepojbdaaGreat.Own Go.Proofs.YtelmidpepojbdaaGreat.PMendRight
set_option linter.unusedVariables false
set_option linter.unusedSimpArgs false
theorem lo_eq (wd : Nat) (h : wd ≤ 8) : wrap64 (Int.tdiv (wrap64 ((wd : Int) + 1)) 2) = (((wd + 1) / 2 : Nat) : Int) := by
  rw [show wrap64 ((wd : Int) + 1) = ((wd + 1 : Nat) : Int) from by unfold wrap64; omega]
  rw [show Int.tdiv ((wd + 1 : Nat) : Int) 2 = (((wd + 1) / 2 : Nat) : Int) from rfl]
  unfold wrap64
  omega
theorem IsWorld.step {p : Nat} {x : Ws} {ok : Nat → Prop} {w w1 : World} (h : IsWorld p x ok w) (hs : w.heap.size ≤ w1.heap.size) (hm : ∀ k, ok k → k < w.heap.size → w1.heap[k]? = w.heap[k]?) : IsWorld p x ok w1 := by
  obtain ⟨a, b, c, d, e, f, h⟩ := h
  exact ⟨a, b, c, d, e, f, h.step hs hm⟩
end Go.Proofs.YtelmidpepojbdaaGreat.Tower
