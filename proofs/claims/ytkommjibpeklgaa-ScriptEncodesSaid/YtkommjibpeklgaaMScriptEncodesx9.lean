import Derived.Test.YtkommjibpeklgaaPScriptEncodesx0
import Derived.Test.YtkommjibpeklgaaMScriptEncodesx5
import Derived.Test.YtkommjibpeklgaaMScriptEncodesx7
import Derived.Test.YtkommjibpeklgaaPScriptEncodesx8
namespace Go.Proofs.Ytkommjibpeklgaa.PScriptEncodes
open Go.RowKit Go.Proofs.YtkommjibpeklgaaW.PrintWords Go.Proofs.YtkommjibpeklgaaW.PrintLast Go.Proofs.YtkommjibpeklgaaW.PrintMore
attribute [local go_sem] max2_int min2_int max_two min_two max_three min_three max_four min_four   -- for this text's walks alone
set_option linter.unusedVariables false
set_option linter.unusedSimpArgs false

/-! ### boscagelaw24_Encode: function 15 -/
mutual
def boscagelaw24_Encode.l0 : Nat → List Int → List (S27) → Int → Int → Option (List Int)
  | 0, _, _, _, _ => none
  | k + 1, x3, x8, x9, x10 => if x10 < x9 then (if 0 ≤ x10 then (if x10 < (x8.length : Int) then ((boscagelaw24_May.f k ((rd_T27 x8 x10).f0) ((rd_T27 x8 x10).f1) ((rd_T27 x8 x10).f2.f0) ((rd_T27 x8 x10).f2.f1) ((rd_T27 x8 x10).f2.f2) ((rd_T27 x8 x10).f2.f3)).bind fun t230 => (if t230 = true then (if x3.length < 140737488355328 then ((some (x3 ++ [(wrap64 ((wrap64 ((rd_T27 x8 x10).f0)) + (wrap64 (4 * (wrap64 ((rd_T27 x8 x10).f1)))))) % 256] : List Int)).bind fun y231 => (if ((rd_T27 x8 x10).f0) = 0 then (if y231.length < 140737488355328 then ((boscagelaw24_Numbers.f k ((rd_T27 x8 x10).f2.f0) ((rd_T27 x8 x10).f2.f1) ((rd_T27 x8 x10).f2.f2) ((rd_T27 x8 x10).f2.f3)).bind fun t237 => (boscagelaw24_Encode.l1 k (y231 ++ [(rd_T27 x8 x10).f2.f0]) x8 x9 x10 t237 (t237.length : Int) 0)) else (none)) else (boscagelaw24_Encode.l0 k y231 x8 x9 (wrap64 (x10 + 1))))) else (none)) else (boscagelaw24_Encode.l0 k x3 x8 x9 (wrap64 (x10 + 1))))) else (none)) else (none)) else (some x3)
def boscagelaw24_Encode.l1 : Nat → List Int → List (S27) → Int → Int → List Int → Int → Int → Option (List Int)
  | 0, _, _, _, _, _, _, _ => none
  | k + 1, x3, x8, x9, x10, x40, x41, x42 => if x42 < x41 then (if 0 ≤ x42 then (if x42 < (x40.length : Int) then ((boscagelaw24_number.f k (rd x40 x42)).bind fun t241 => (if x3.length + t241.length < 140737488355328 then (boscagelaw24_Encode.l1 k (x3 ++ t241) x8 x9 x10 x40 x41 (wrap64 (x42 + 1))) else (none))) else (none)) else (none)) else (boscagelaw24_Encode.l0 k x3 x8 x9 (wrap64 (x10 + 1)))
end
def boscagelaw24_Encode.f (k : Nat) (l0 : List (S27)) : Option (List Int) := boscagelaw24_Encode.l0 k ([] : List Int) l0 (l0.length : Int) 0
theorem boscagelaw24_Encode.mono_l : ∀ k, (∀ y0 y1 y2 y3, LeO (boscagelaw24_Encode.l0 k y0 y1 y2 y3) (boscagelaw24_Encode.l0 (k + 1) y0 y1 y2 y3)) ∧ (∀ y0 y1 y2 y3 y4 y5 y6, LeO (boscagelaw24_Encode.l1 k y0 y1 y2 y3 y4 y5 y6) (boscagelaw24_Encode.l1 (k + 1) y0 y1 y2 y3 y4 y5 y6))
  | 0 => ⟨fun _ _ _ _ r h => by simp [boscagelaw24_Encode.l0] at h, fun _ _ _ _ _ _ _ r h => by simp [boscagelaw24_Encode.l1] at h⟩
  | k + 1 => by
    obtain ⟨ih0, ih1⟩ := boscagelaw24_Encode.mono_l k
    refine ⟨?_, ?_⟩
    · intro y0 y1 y2 y3
      unfold boscagelaw24_Encode.l0
      repeat' first
      | (with_reducible exact ih0 _ _ _ _)
      | (with_reducible exact ih1 _ _ _ _ _ _ _)
      | (with_reducible exact boscagelaw24_May.mono _ _ _ _ _ _ _)
      | (with_reducible exact boscagelaw24_Numbers.mono _ _ _ _ _)
      | (with_reducible exact boscagelaw24_number.mono _ _)
      | (with_reducible exact LeO.refl _)
      | (with_reducible exact LeO.none _)
      | (with_reducible refine LeO.ite ?_ ?_)
      | (with_reducible refine LeO.bind ?_ (fun _ => ?_))
      | exact ih0 _ _ _ _
      | exact ih1 _ _ _ _ _ _ _
      | exact boscagelaw24_May.mono _ _ _ _ _ _ _
      | exact boscagelaw24_Numbers.mono _ _ _ _ _
      | exact boscagelaw24_number.mono _ _
      | exact LeO.none _
      | refine LeO.ite ?_ ?_
      | refine LeO.bind ?_ (fun _ => ?_)
    · intro y0 y1 y2 y3 y4 y5 y6
      unfold boscagelaw24_Encode.l1
      repeat' first
      | (with_reducible exact ih0 _ _ _ _)
      | (with_reducible exact ih1 _ _ _ _ _ _ _)
      | (with_reducible exact boscagelaw24_May.mono _ _ _ _ _ _ _)
      | (with_reducible exact boscagelaw24_Numbers.mono _ _ _ _ _)
      | (with_reducible exact boscagelaw24_number.mono _ _)
      | (with_reducible exact LeO.refl _)
      | (with_reducible exact LeO.none _)
      | (with_reducible refine LeO.ite ?_ ?_)
      | (with_reducible refine LeO.bind ?_ (fun _ => ?_))
      | exact ih0 _ _ _ _
      | exact ih1 _ _ _ _ _ _ _
      | exact boscagelaw24_May.mono _ _ _ _ _ _ _
      | exact boscagelaw24_Numbers.mono _ _ _ _ _
      | exact boscagelaw24_number.mono _ _
      | exact LeO.none _
      | refine LeO.ite ?_ ?_
      | refine LeO.bind ?_ (fun _ => ?_)
theorem boscagelaw24_Encode.mono : ∀ a0 k, LeO (boscagelaw24_Encode.f k a0) (boscagelaw24_Encode.f (k + 1) a0) := by
  intro a0 k
  obtain ⟨ih0, ih1⟩ := boscagelaw24_Encode.mono_l k
  unfold boscagelaw24_Encode.f
  repeat' first
      | (with_reducible exact ih0 _ _ _ _)
      | (with_reducible exact ih1 _ _ _ _ _ _ _)
      | (with_reducible exact boscagelaw24_May.mono _ _ _ _ _ _ _)
      | (with_reducible exact boscagelaw24_Numbers.mono _ _ _ _ _)
      | (with_reducible exact boscagelaw24_number.mono _ _)
      | (with_reducible exact LeO.refl _)
      | (with_reducible exact LeO.none _)
      | (with_reducible refine LeO.ite ?_ ?_)
      | (with_reducible refine LeO.bind ?_ (fun _ => ?_))
      | exact ih0 _ _ _ _
      | exact ih1 _ _ _ _ _ _ _
      | exact boscagelaw24_May.mono _ _ _ _ _ _ _
      | exact boscagelaw24_Numbers.mono _ _ _ _ _
      | exact boscagelaw24_number.mono _ _
      | exact LeO.none _
      | refine LeO.ite ?_ ?_
      | refine LeO.bind ?_ (fun _ => ?_)
set_option maxHeartbeats 8000000 in
set_option maxRecDepth 100000 in
theorem boscagelaw24_Encode.calls (k : Nat) (A0 : Option Addr) (c0 : Nat) (l0 : List (S27)) (r : List Int) (w : World) (hr0 : Kd.C k27 w A0 l0.length l0) (hc0 : l0.length ≤ c0) (h : boscagelaw24_Encode.f k l0 = some r) :
    Calls Try.prog 15 #[.slice A0 l0.length c0] w fun e w' => ∃ v0_ : Value, e = .returned (v0_) ∧ Kd.R (Kd.int .u8) 5 w' w.heap.size (fun _ => True) v0_ r ∧ Below w.heap.size w w' := by
  have hu27 := Try.underlying27
  have hu25 := Try.underlying25
  have HR0 := Aside0.mk hr0
  have HC0 := Aside0.mk hc0
  clear hr0 hc0
  have HB := Aside0.mk (Below.refl w.heap.size w)
  have H : (boscagelaw24_Encode.l0 k ([] : List Int) l0 (l0.length : Int) 0) = some r := h
  clear h
  have H' := Aside0.mk H
  clear H
  go_enter Try.func15, Try.ntmps15
  go_wp2
  go_loopg [3, 10] k (fun kq v3 v10 w' => ∃ (x3_1 : List Int) (x10_1 : Int), v10 = .int .i64 x10_1 ∧ Aside0 (boscagelaw24_Encode.l0 kq x3_1 l0 (l0.length : Int) x10_1 = some r) ∧ Aside0 (kq ≤ k) ∧ Aside0 (Kd.R (Kd.int .u8) 5 w' w.heap.size (fun _ => True) v3 x3_1) ∧ Aside0 (Below w.heap.size w w'))
  case atStart => exact ⟨(([] : List Int)), (0), (by first | rfl | (simp; done) | (simp [*]; done)), H', ⟨Nat.le_refl _⟩, ⟨by first | exact Kd.R_nil _ _ _ _ _ | exact Kd.N_nil _ _ _ _ _ | exact Kd.V_nil _ _ _ _ _ | exact Kd.Q_nil _ _ _ _ _ | exact Kd.S_nil _ _ _ _ _⟩, ⟨by repeat (first | (with_reducible first | exact HB.out | apply below_alloc | apply pw_below_drewN | apply below_drew1) | exact HB.out)⟩⟩
  case round =>
    clear H'
    try clear c1
    obtain ⟨x3_1, x10_1, rfl, HA, HK1, HO_3, HB⟩ := hrel
    cases gk with
    | zero => exact absurd HA.out (by simp [boscagelaw24_Encode.l0])
    | succ k1 =>
      have H := HA.out
      clear HA
      simp only [boscagelaw24_Encode.l0] at H
      by_cases c2 : x10_1 < (l0.length : Int)
      · rw [if_pos c2] at H
        have c2b0 : decide (x10_1 < (l0.length : Int)) = true := decide_eq_true c2
        clear c2
        by_cases c3 : 0 ≤ x10_1
        · rw [if_pos c3] at H
          have c3b0 : decide (0 ≤ x10_1) = true := decide_eq_true c3
          clear c3
          by_cases c4 : x10_1 < (l0.length : Int)
          · rw [if_pos c4] at H
            have c4b0 : decide (x10_1 < (l0.length : Int)) = true := decide_eq_true c4
            clear c4
            replace H := Option.bind_eq_some_iff.mp H
            obtain ⟨t230, A50, H⟩ := H
            replace H : (if t230 = true then (if x3_1.length < 140737488355328 then ((some (x3_1 ++ [(wrap64 ((wrap64 ((rd_T27 l0 x10_1).f0)) + (wrap64 (4 * (wrap64 ((rd_T27 l0 x10_1).f1)))))) % 256] : List Int)).bind fun y231 => (if ((rd_T27 l0 x10_1).f0) = 0 then (if y231.length < 140737488355328 then ((boscagelaw24_Numbers.f k1 ((rd_T27 l0 x10_1).f2.f0) ((rd_T27 l0 x10_1).f2.f1) ((rd_T27 l0 x10_1).f2.f2) ((rd_T27 l0 x10_1).f2.f3)).bind fun t237 => (boscagelaw24_Encode.l1 k1 (y231 ++ [(rd_T27 l0 x10_1).f2.f0]) l0 (l0.length : Int) x10_1 t237 (t237.length : Int) 0)) else (none)) else (boscagelaw24_Encode.l0 k1 y231 l0 (l0.length : Int) (wrap64 (x10_1 + 1))))) else (none)) else (boscagelaw24_Encode.l0 k1 x3_1 l0 (l0.length : Int) (wrap64 (x10_1 + 1)))) = some r := H
            have A5 := Aside0.mk A50
            clear A50
            by_cases c6 : t230 = true
            · subst c6
              have H1 : (if x3_1.length < 140737488355328 then ((some (x3_1 ++ [(wrap64 ((wrap64 ((rd_T27 l0 x10_1).f0)) + (wrap64 (4 * (wrap64 ((rd_T27 l0 x10_1).f1)))))) % 256] : List Int)).bind fun y231 => (if ((rd_T27 l0 x10_1).f0) = 0 then (if y231.length < 140737488355328 then ((boscagelaw24_Numbers.f k1 ((rd_T27 l0 x10_1).f2.f0) ((rd_T27 l0 x10_1).f2.f1) ((rd_T27 l0 x10_1).f2.f2) ((rd_T27 l0 x10_1).f2.f3)).bind fun t237 => (boscagelaw24_Encode.l1 k1 (y231 ++ [(rd_T27 l0 x10_1).f2.f0]) l0 (l0.length : Int) x10_1 t237 (t237.length : Int) 0)) else (none)) else (boscagelaw24_Encode.l0 k1 y231 l0 (l0.length : Int) (wrap64 (x10_1 + 1))))) else (none)) = some r := by rw [if_pos rfl] at H; exact H
              clear H
              have H := H1
              clear H1
              by_cases c7 : x3_1.length < 140737488355328
              · rw [if_pos c7] at H
                have LMc7 := Aside0.mk c7
                clear c7
                obtain ⟨y231, hy231⟩ : ∃ y_ : List Int, y_ = (x3_1 ++ [(wrap64 ((wrap64 ((rd_T27 l0 x10_1).f0)) + (wrap64 (4 * (wrap64 ((rd_T27 l0 x10_1).f1)))))) % 256]) := ⟨_, rfl⟩
                replace H : (if ((rd_T27 l0 x10_1).f0) = 0 then (if y231.length < 140737488355328 then ((boscagelaw24_Numbers.f k1 ((rd_T27 l0 x10_1).f2.f0) ((rd_T27 l0 x10_1).f2.f1) ((rd_T27 l0 x10_1).f2.f2) ((rd_T27 l0 x10_1).f2.f3)).bind fun t237 => (boscagelaw24_Encode.l1 k1 (y231 ++ [(rd_T27 l0 x10_1).f2.f0]) l0 (l0.length : Int) x10_1 t237 (t237.length : Int) 0)) else (none)) else (boscagelaw24_Encode.l0 k1 y231 l0 (l0.length : Int) (wrap64 (x10_1 + 1)))) = some r := by first | (rw [hy231]; with_reducible exact H) | (have H2_ := (Option.bind_some _ _).symm.trans H; rw [hy231]; with_reducible exact H2_) | (have H2_ := (Option.bind_some _ _).symm.trans H; with_reducible exact H2_) | with_reducible exact H | (rw [hy231]; exact H) | exact H
                have Ny231 := Aside0.mk hy231
                clear hy231
                by_cases c8 : ((rd_T27 l0 x10_1).f0) = 0
                · rw [if_pos c8] at H
                  have c8b0 : (((rd_T27 l0 x10_1).f0) == 0) = true := beq_iff_eq.mpr c8
                  have c8b1 : (((rd_T27 l0 x10_1).f0) != 0) = false := bne_eq_false_iff_eq.mpr c8
                  clear c8
                  by_cases c9 : y231.length < 140737488355328
                  · rw [if_pos c9] at H
                    have LMc9 := Aside0.mk c9
                    clear c9
                    obtain ⟨y234, hy234⟩ : ∃ y_ : List Int, y_ = (y231 ++ [(rd_T27 l0 x10_1).f2.f0]) := ⟨_, rfl⟩
                    replace H : ((boscagelaw24_Numbers.f k1 ((rd_T27 l0 x10_1).f2.f0) ((rd_T27 l0 x10_1).f2.f1) ((rd_T27 l0 x10_1).f2.f2) ((rd_T27 l0 x10_1).f2.f3)).bind fun t237 => (boscagelaw24_Encode.l1 k1 y234 l0 (l0.length : Int) x10_1 t237 (t237.length : Int) 0)) = some r := by first | (rw [hy234]; with_reducible exact H) | (have H2_ := (Option.bind_some _ _).symm.trans H; rw [hy234]; with_reducible exact H2_) | (have H2_ := (Option.bind_some _ _).symm.trans H; with_reducible exact H2_) | with_reducible exact H | (rw [hy234]; exact H) | exact H
                    have Ny234 := Aside0.mk hy234
                    clear hy234
                    replace H := Option.bind_eq_some_iff.mp H
                    obtain ⟨t237, A100, H⟩ := H
                    replace H : (boscagelaw24_Encode.l1 k1 y234 l0 (l0.length : Int) x10_1 t237 (t237.length : Int) 0) = some r := H
                    have A10 := Aside0.mk A100
                    clear A100
                    have H' := Aside0.mk H
                    clear H
                    have p228 : 0 ≤ (x10_1 : Int) := of_decide_eq_true (by first | (with_reducible assumption) | assumption)
                    have q228 : x10_1 < (l0.length : Int) := of_decide_eq_true (by first | (with_reducible assumption) | assumption)
                    obtain ⟨ad228, e228, hx228_0, hx228_1, hx228_2, hx228_3, hx228_4, hx228_5⟩ := at_T27 HR0.out x10_1 p228 q228
                    cases e228
                    replace hx228_0 := (HB.out.cell (World.block_lt_of_cell? w _ hx228_0)).trans hx228_0
                    replace hx228_1 := (HB.out.cell (World.block_lt_of_cell? w _ hx228_1)).trans hx228_1
                    replace hx228_2 := (HB.out.cell (World.block_lt_of_cell? w _ hx228_2)).trans hx228_2
                    replace hx228_3 := (HB.out.cell (World.block_lt_of_cell? w _ hx228_3)).trans hx228_3
                    replace hx228_4 := (HB.out.cell (World.block_lt_of_cell? w _ hx228_4)).trans hx228_4
                    replace hx228_5 := (HB.out.cell (World.block_lt_of_cell? w _ hx228_5)).trans hx228_5
                    replace p228 := eq_true p228
                    replace q228 := eq_true q228
                    go_wp2_with (first | ((with_reducible refine gate_dst (N := 5) rfl ?_); refine box_event ?hg (N := 5) ?hd (cs := #[.int .u8 0, .int .u8 0, .int .u8 0, .int .i64 0, .int .i64 0, .int .i64 0]) (t := 27) ?hr ?_; (case hd => rfl); (case hg => rfl); (case hr => first | (go_simp; done) | (go_simp; rfl)); intro gb229 hg w11 hbox hb; have n0_ := Aside0.mk (Kd.R_below (by (with_reducible repeat (first | apply Kd.R_alloc | apply Kd.R_drewN | apply Kd.R_drew)); exact HO_3.out) hb); have n1_ := Aside0.mk (below_step (by repeat (first | (with_reducible first | exact HB.out | apply below_alloc | apply pw_below_drewN | apply below_drew1) | exact HB.out)) hb); have n2_ := Aside0.mk (hbox); have n3_ := Aside0.mk ((by rw [hg]; exact (below_size (by repeat (first | (with_reducible first | exact HB.out | apply below_alloc | apply pw_below_drewN | apply below_drew1) | exact HB.out))) : w.heap.size ≤ gb229)); have n4_ := Aside0.mk ((by rw [hg]; exact (below_size (by repeat (first | (with_reducible first | exact HB.out | apply below_alloc | apply pw_below_drewN | apply below_drew1) | exact HB.out))) : w.heap.size ≤ gb229)); clear HO_3; clear HB; have HO_3 := n0_; have HB := n1_; have BK229 := n2_; have GW229 := n3_; have GE229 := n4_; clear n0_ n1_ n2_ n3_ n4_; clear hb hbox hg; have hcz12_0 : w11.cell? ⟨gb229, 0, none⟩ = some (.int .u8 0) := (blk_cell BK229.out 0).trans rfl; have hcz12_1 : w11.cell? ⟨gb229, 1, none⟩ = some (.int .u8 0) := (blk_cell BK229.out 1).trans rfl; have hcz12_2 : w11.cell? ⟨gb229, 2, none⟩ = some (.int .u8 0) := (blk_cell BK229.out 2).trans rfl; have hcz12_3 : w11.cell? ⟨gb229, 3, none⟩ = some (.int .i64 0) := (blk_cell BK229.out 3).trans rfl; have hcz12_4 : w11.cell? ⟨gb229, 4, none⟩ = some (.int .i64 0) := (blk_cell BK229.out 4).trans rfl; have hcz12_5 : w11.cell? ⟨gb229, 5, none⟩ = some (.int .i64 0) := (blk_cell BK229.out 5).trans rfl; have hfz12_0 := blk_frozen BK229.out 0; have hfz12_1 := blk_frozen BK229.out 1; have hfz12_2 := blk_frozen BK229.out 2; have hfz12_3 := blk_frozen BK229.out 3; have hfz12_4 := blk_frozen BK229.out 4; have hfz12_5 := blk_frozen BK229.out 5) | ((with_reducible refine gate_callee (f := 11) rfl ?_); refine goesL_ (some 15) rfl rfl Try.func11 (by kernel_rfl) rfl #[.agg #[.int .u8 ((rd_T27 l0 x10_1).f0), .int .u8 ((rd_T27 l0 x10_1).f1), .int .u8 ((rd_T27 l0 x10_1).f2.f0), .int .i64 ((rd_T27 l0 x10_1).f2.f1), .int .i64 ((rd_T27 l0 x10_1).f2.f2), .int .i64 ((rd_T27 l0 x10_1).f2.f3)]] rfl (by (try simp only [List.map_toArray, List.map_cons, List.map_nil]); first | done | rfl | (simp only [List.length_drop, List.length_take]; rfl)) ?_; (with_reducible refine (boscagelaw24_May.calls k1 ((rd_T27 l0 x10_1).f0) ((rd_T27 l0 x10_1).f1) ((rd_T27 l0 x10_1).f2.f0) ((rd_T27 l0 x10_1).f2.f1) ((rd_T27 l0 x10_1).f2.f2) ((rd_T27 l0 x10_1).f2.f3) true _ A5.out).mono ?_); rintro e w13 ⟨rfl, hb⟩; refine ⟨_, rfl, ?_⟩; have n0_ := Aside0.mk (Kd.R_below (by (with_reducible repeat (first | apply Kd.R_alloc | apply Kd.R_drewN | apply Kd.R_drew)); exact (Kd.R_mono (Kd.R_far (p := ⟨gb229, 5, none⟩) (Kd.R_far (p := ⟨gb229, 4, none⟩) (Kd.R_far (p := ⟨gb229, 3, none⟩) (Kd.R_far (p := ⟨gb229, 2, none⟩) (Kd.R_far (p := ⟨gb229, 1, none⟩) (Kd.R_far (p := ⟨gb229, 0, none⟩) (Kd.R_types HO_3.out BK229.out (by decide)) (fun _ hk => hk.2) (.int .u8 ((rd_T27 l0 x10_1).f0))) (fun _ hk => hk.2) (.int .u8 ((rd_T27 l0 x10_1).f1))) (fun _ hk => hk.2) (.int .u8 ((rd_T27 l0 x10_1).f2.f0))) (fun _ hk => hk.2) (.int .i64 ((rd_T27 l0 x10_1).f2.f1))) (fun _ hk => hk.2) (.int .i64 ((rd_T27 l0 x10_1).f2.f2))) (fun _ hk => hk.2) (.int .i64 ((rd_T27 l0 x10_1).f2.f3))) (fun _ h_ => h_.1))) hb); have n1_ := Aside0.mk (blk_below (g := gb229) (o := .cells #[.int .u8 ((rd_T27 l0 x10_1).f0), .int .u8 ((rd_T27 l0 x10_1).f1), .int .u8 ((rd_T27 l0 x10_1).f2.f0), .int .i64 ((rd_T27 l0 x10_1).f2.f1), .int .i64 ((rd_T27 l0 x10_1).f2.f2), .int .i64 ((rd_T27 l0 x10_1).f2.f3)] 27 (0, 0)) (by (with_reducible repeat (first | refine blk_drewN ?_ _ | refine blk_drew ?_ | refine blk_alloc ?_ _)); refine blk_put (cs := #[.int .u8 ((rd_T27 l0 x10_1).f0), .int .u8 ((rd_T27 l0 x10_1).f1), .int .u8 ((rd_T27 l0 x10_1).f2.f0), .int .i64 ((rd_T27 l0 x10_1).f2.f1), .int .i64 ((rd_T27 l0 x10_1).f2.f2), .int .i64 0]) ?_ 5 _ rfl; (with_reducible repeat (first | refine blk_drewN ?_ _ | refine blk_drew ?_ | refine blk_alloc ?_ _)); refine blk_put (cs := #[.int .u8 ((rd_T27 l0 x10_1).f0), .int .u8 ((rd_T27 l0 x10_1).f1), .int .u8 ((rd_T27 l0 x10_1).f2.f0), .int .i64 ((rd_T27 l0 x10_1).f2.f1), .int .i64 0, .int .i64 0]) ?_ 4 _ rfl; (with_reducible repeat (first | refine blk_drewN ?_ _ | refine blk_drew ?_ | refine blk_alloc ?_ _)); refine blk_put (cs := #[.int .u8 ((rd_T27 l0 x10_1).f0), .int .u8 ((rd_T27 l0 x10_1).f1), .int .u8 ((rd_T27 l0 x10_1).f2.f0), .int .i64 0, .int .i64 0, .int .i64 0]) ?_ 3 _ rfl; (with_reducible repeat (first | refine blk_drewN ?_ _ | refine blk_drew ?_ | refine blk_alloc ?_ _)); refine blk_put (cs := #[.int .u8 ((rd_T27 l0 x10_1).f0), .int .u8 ((rd_T27 l0 x10_1).f1), .int .u8 0, .int .i64 0, .int .i64 0, .int .i64 0]) ?_ 2 _ rfl; (with_reducible repeat (first | refine blk_drewN ?_ _ | refine blk_drew ?_ | refine blk_alloc ?_ _)); refine blk_put (cs := #[.int .u8 ((rd_T27 l0 x10_1).f0), .int .u8 0, .int .u8 0, .int .i64 0, .int .i64 0, .int .i64 0]) ?_ 1 _ rfl; (with_reducible repeat (first | refine blk_drewN ?_ _ | refine blk_drew ?_ | refine blk_alloc ?_ _)); refine blk_put (cs := #[.int .u8 0, .int .u8 0, .int .u8 0, .int .i64 0, .int .i64 0, .int .i64 0]) ?_ 0 _ rfl; (with_reducible repeat (first | refine blk_drewN ?_ _ | refine blk_drew ?_ | refine blk_alloc ?_ _)); exact BK229.out) hb); have n2_ := Aside0.mk (below_step (by repeat (first | (with_reducible first | exact HB.out | apply below_alloc | apply pw_below_drewN | apply below_drew1 | refine below_set ?_ GE229.out) | exact HB.out)) hb); clear HO_3; clear BK229; clear HB; have HO_3 := n0_; have BK229 := n1_; have HB := n2_; clear n0_ n1_ n2_; (try clear hb); (try clear hb2); (try clear hk); (try clear hi); have hcz14_0 : w13.cell? ⟨gb229, 0, none⟩ = some (.int .u8 ((rd_T27 l0 x10_1).f0)) := (blk_cell BK229.out 0).trans rfl; have hcz14_1 : w13.cell? ⟨gb229, 1, none⟩ = some (.int .u8 ((rd_T27 l0 x10_1).f1)) := (blk_cell BK229.out 1).trans rfl; have hcz14_2 : w13.cell? ⟨gb229, 2, none⟩ = some (.int .u8 ((rd_T27 l0 x10_1).f2.f0)) := (blk_cell BK229.out 2).trans rfl; have hcz14_3 : w13.cell? ⟨gb229, 3, none⟩ = some (.int .i64 ((rd_T27 l0 x10_1).f2.f1)) := (blk_cell BK229.out 3).trans rfl; have hcz14_4 : w13.cell? ⟨gb229, 4, none⟩ = some (.int .i64 ((rd_T27 l0 x10_1).f2.f2)) := (blk_cell BK229.out 4).trans rfl; have hcz14_5 : w13.cell? ⟨gb229, 5, none⟩ = some (.int .i64 ((rd_T27 l0 x10_1).f2.f3)) := (blk_cell BK229.out 5).trans rfl; have hfz14_0 := blk_frozen BK229.out 0; have hfz14_1 := blk_frozen BK229.out 1; have hfz14_2 := blk_frozen BK229.out 2; have hfz14_3 := blk_frozen BK229.out 3; have hfz14_4 := blk_frozen BK229.out 4; have hfz14_5 := blk_frozen BK229.out 5) | ((with_reducible refine gate_builtin (b := .append) (xs := #[.tmp 17, .tmp 27]) rfl ?_); at_builtin; refine Kd.R_append (Kd.int .u8) (w0 := w) w.heap.size rfl (.tmp 17) (.tmp 27) 33 5 (.int .u8 0) 1 rfl Try.underlying33 info5 rfl (by decide) (by omega) u3 x3_1 ((wrap64 ((wrap64 ((rd_T27 l0 x10_1).f0)) + (wrap64 (4 * (wrap64 ((rd_T27 l0 x10_1).f1)))))) % 256) [.int .u8 ((wrap64 ((wrap64 ((rd_T27 l0 x10_1).f0)) + (wrap64 (4 * (wrap64 ((rd_T27 l0 x10_1).f1)))))) % 256)] (fun _ => True) (fun _ => False) rfl rfl ?aP (fun _ hk => hk.elim) ?aF ?aO ?aB ?aS ?aL ?_; (case aP => exact rfl); (case aB => exact (by repeat (first | (with_reducible first | exact HB.out | apply below_alloc | apply pw_below_drewN | apply below_drew1 | refine below_set ?_ GE229.out) | exact HB.out))); (case aF => exact (fun _ _ => trivial)); (case aO => exact (by (with_reducible repeat (first | apply Kd.R_alloc | apply Kd.R_drewN | apply Kd.R_drew)); exact HO_3.out)); (case aS => exact (below_size (by repeat (first | (with_reducible first | exact HB.out | apply below_alloc | apply pw_below_drewN | apply below_drew1 | refine below_set ?_ GE229.out) | exact HB.out)))); (case aL => have := LMc7.out; omega); intro v232 w15 ho hb hg hat; rw [← Ny231.out] at ho; have n0_ := Aside0.mk (blk_grown (g := gb229) (o := .cells #[.int .u8 ((rd_T27 l0 x10_1).f0), .int .u8 ((rd_T27 l0 x10_1).f1), .int .u8 ((rd_T27 l0 x10_1).f2.f0), .int .i64 ((rd_T27 l0 x10_1).f2.f1), .int .i64 ((rd_T27 l0 x10_1).f2.f2), .int .i64 ((rd_T27 l0 x10_1).f2.f3)] 27 (0, 0)) (by (with_reducible repeat (first | refine blk_drewN ?_ _ | refine blk_drew ?_ | refine blk_alloc ?_ _)); exact BK229.out) hg (Kd.R_ne HO_3.out BK229.out (by decide))); have n1_ := Aside0.mk (hb); have n2_ := Aside0.mk (ho); clear BK229; clear HB; clear HO_3; have BK229 := n0_; have HB := n1_; have HO233 := n2_; clear n0_ n1_ n2_; clear ho hb hg hat; have hcz16_0 : w15.cell? ⟨gb229, 0, none⟩ = some (.int .u8 ((rd_T27 l0 x10_1).f0)) := (blk_cell BK229.out 0).trans rfl; have hcz16_1 : w15.cell? ⟨gb229, 1, none⟩ = some (.int .u8 ((rd_T27 l0 x10_1).f1)) := (blk_cell BK229.out 1).trans rfl; have hcz16_2 : w15.cell? ⟨gb229, 2, none⟩ = some (.int .u8 ((rd_T27 l0 x10_1).f2.f0)) := (blk_cell BK229.out 2).trans rfl; have hcz16_3 : w15.cell? ⟨gb229, 3, none⟩ = some (.int .i64 ((rd_T27 l0 x10_1).f2.f1)) := (blk_cell BK229.out 3).trans rfl; have hcz16_4 : w15.cell? ⟨gb229, 4, none⟩ = some (.int .i64 ((rd_T27 l0 x10_1).f2.f2)) := (blk_cell BK229.out 4).trans rfl; have hcz16_5 : w15.cell? ⟨gb229, 5, none⟩ = some (.int .i64 ((rd_T27 l0 x10_1).f2.f3)) := (blk_cell BK229.out 5).trans rfl; have hfz16_0 := blk_frozen BK229.out 0; have hfz16_1 := blk_frozen BK229.out 1; have hfz16_2 := blk_frozen BK229.out 2; have hfz16_3 := blk_frozen BK229.out 3; have hfz16_4 := blk_frozen BK229.out 4; have hfz16_5 := blk_frozen BK229.out 5) | ((with_reducible refine gate_builtin (b := .append) (xs := #[.tmp 32, .tmp 36]) rfl ?_); at_builtin; refine Kd.R_append (Kd.int .u8) (w0 := w) w.heap.size rfl (.tmp 32) (.tmp 36) 33 5 (.int .u8 0) 1 rfl Try.underlying33 info5 rfl (by decide) (by omega) v232 y231 ((rd_T27 l0 x10_1).f2.f0) [.int .u8 ((rd_T27 l0 x10_1).f2.f0)] (fun _ => True) (fun _ => False) rfl rfl ?aP (fun _ hk => hk.elim) ?aF ?aO ?aB ?aS ?aL ?_; (case aP => exact rfl); (case aB => exact (by repeat (first | (with_reducible first | exact HB.out | apply below_alloc | apply pw_below_drewN | apply below_drew1 | refine below_set ?_ GE229.out) | exact HB.out))); (case aF => exact (fun _ _ => trivial)); (case aO => exact (by (with_reducible repeat (first | apply Kd.R_alloc | apply Kd.R_drewN | apply Kd.R_drew)); exact HO233.out)); (case aS => exact (below_size (by repeat (first | (with_reducible first | exact HB.out | apply below_alloc | apply pw_below_drewN | apply below_drew1 | refine below_set ?_ GE229.out) | exact HB.out)))); (case aL => have := LMc9.out; omega); intro v235 w17 ho hb hg hat; rw [← Ny234.out] at ho; have n0_ := Aside0.mk (blk_grown (g := gb229) (o := .cells #[.int .u8 ((rd_T27 l0 x10_1).f0), .int .u8 ((rd_T27 l0 x10_1).f1), .int .u8 ((rd_T27 l0 x10_1).f2.f0), .int .i64 ((rd_T27 l0 x10_1).f2.f1), .int .i64 ((rd_T27 l0 x10_1).f2.f2), .int .i64 ((rd_T27 l0 x10_1).f2.f3)] 27 (0, 0)) (by (with_reducible repeat (first | refine blk_drewN ?_ _ | refine blk_drew ?_ | refine blk_alloc ?_ _)); exact BK229.out) hg (Kd.R_ne HO233.out BK229.out (by decide))); have n1_ := Aside0.mk (hb); have n2_ := Aside0.mk (ho); clear BK229; clear HB; clear HO233; have BK229 := n0_; have HB := n1_; have HO236 := n2_; clear n0_ n1_ n2_; clear ho hb hg hat; have hcz18_0 : w17.cell? ⟨gb229, 0, none⟩ = some (.int .u8 ((rd_T27 l0 x10_1).f0)) := (blk_cell BK229.out 0).trans rfl; have hcz18_1 : w17.cell? ⟨gb229, 1, none⟩ = some (.int .u8 ((rd_T27 l0 x10_1).f1)) := (blk_cell BK229.out 1).trans rfl; have hcz18_2 : w17.cell? ⟨gb229, 2, none⟩ = some (.int .u8 ((rd_T27 l0 x10_1).f2.f0)) := (blk_cell BK229.out 2).trans rfl; have hcz18_3 : w17.cell? ⟨gb229, 3, none⟩ = some (.int .i64 ((rd_T27 l0 x10_1).f2.f1)) := (blk_cell BK229.out 3).trans rfl; have hcz18_4 : w17.cell? ⟨gb229, 4, none⟩ = some (.int .i64 ((rd_T27 l0 x10_1).f2.f2)) := (blk_cell BK229.out 4).trans rfl; have hcz18_5 : w17.cell? ⟨gb229, 5, none⟩ = some (.int .i64 ((rd_T27 l0 x10_1).f2.f3)) := (blk_cell BK229.out 5).trans rfl; have hfz18_0 := blk_frozen BK229.out 0; have hfz18_1 := blk_frozen BK229.out 1; have hfz18_2 := blk_frozen BK229.out 2; have hfz18_3 := blk_frozen BK229.out 3; have hfz18_4 := blk_frozen BK229.out 4; have hfz18_5 := blk_frozen BK229.out 5) | ((with_reducible refine gate_callee (f := 23) rfl ?_); refine goesL_ (some 40) rfl rfl Try.func23 (by kernel_rfl) rfl #[.agg #[.int .u8 ((rd_T27 l0 x10_1).f2.f0), .int .i64 ((rd_T27 l0 x10_1).f2.f1), .int .i64 ((rd_T27 l0 x10_1).f2.f2), .int .i64 ((rd_T27 l0 x10_1).f2.f3)]] rfl (by (try simp only [List.map_toArray, List.map_cons, List.map_nil]); first | done | rfl | (simp only [List.length_drop, List.length_take]; rfl)) ?_; (with_reducible refine (boscagelaw24_Numbers.calls k1 ((rd_T27 l0 x10_1).f2.f0) ((rd_T27 l0 x10_1).f2.f1) ((rd_T27 l0 x10_1).f2.f2) ((rd_T27 l0 x10_1).f2.f3) t237 _ A10.out).mono ?_); rintro e w19 ⟨v238, rfl, ho0, hb⟩; refine ⟨_, rfl, ?_⟩; have n0_ := Aside0.mk (Kd.R_below (by (with_reducible repeat (first | apply Kd.R_alloc | apply Kd.R_drewN | apply Kd.R_drew)); exact HO236.out) hb); have n1_ := Aside0.mk (Kd.R_lower ho0 (below_size (by repeat (first | (with_reducible first | exact HB.out | apply below_alloc | apply pw_below_drewN | apply below_drew1 | refine below_set ?_ GE229.out) | exact HB.out)))); have n2_ := Aside0.mk (blk_below (g := gb229) (o := .cells #[.int .u8 ((rd_T27 l0 x10_1).f0), .int .u8 ((rd_T27 l0 x10_1).f1), .int .u8 ((rd_T27 l0 x10_1).f2.f0), .int .i64 ((rd_T27 l0 x10_1).f2.f1), .int .i64 ((rd_T27 l0 x10_1).f2.f2), .int .i64 ((rd_T27 l0 x10_1).f2.f3)] 27 (0, 0)) (by (with_reducible repeat (first | refine blk_drewN ?_ _ | refine blk_drew ?_ | refine blk_alloc ?_ _)); exact BK229.out) hb); have n3_ := Aside0.mk (below_step (by repeat (first | (with_reducible first | exact HB.out | apply below_alloc | apply pw_below_drewN | apply below_drew1 | refine below_set ?_ GE229.out) | exact HB.out)) hb); clear HO236; clear BK229; clear HB; have HO236 := n0_; have HO239 := n1_; have BK229 := n2_; have HB := n3_; clear n0_ n1_ n2_ n3_; (try clear hb); (try clear hb2); (try clear hk); (try clear hi); (try clear ho0); obtain ⟨Ao20, co20, eo20⟩ := Kd.R_slice HO239.out; subst eo20))
                    go_loopg [3, 42] k1 (fun kq v3 v42 w' => ∃ (x3_2 : List Int) (x42_2 : Int), v42 = .int .i64 x42_2 ∧ Aside0 (boscagelaw24_Encode.l1 kq x3_2 l0 (l0.length : Int) x10_1 t237 (t237.length : Int) x42_2 = some r) ∧ Aside0 (kq ≤ k1) ∧ Aside0 (Kd.R (Kd.int .u8) 5 w' w.heap.size (fun _ => True) v3 x3_2) ∧ Aside0 (Kd.R (Kd.int .i64) 2 w' w.heap.size (fun _ => True) (.slice Ao20 t237.length co20) t237) ∧ Aside0 (w'.heap[gb229]? = some (.cells #[.int .u8 ((rd_T27 l0 x10_1).f0), .int .u8 ((rd_T27 l0 x10_1).f1), .int .u8 ((rd_T27 l0 x10_1).f2.f0), .int .i64 ((rd_T27 l0 x10_1).f2.f1), .int .i64 ((rd_T27 l0 x10_1).f2.f2), .int .i64 ((rd_T27 l0 x10_1).f2.f3)] 27 (0, 0))) ∧ Aside0 (Below w.heap.size w w'))
                    case atStart => exact ⟨(y234), (0), (by first | rfl | (simp; done) | (simp [*]; done)), H', ⟨Nat.le_refl _⟩, ⟨by (with_reducible repeat (first | apply Kd.R_alloc | apply Kd.R_drewN | apply Kd.R_drew)); exact HO236.out⟩, ⟨by (with_reducible repeat (first | apply Kd.R_alloc | apply Kd.R_drewN | apply Kd.R_drew)); exact HO239.out⟩, ⟨by (with_reducible repeat (first | refine blk_drewN ?_ _ | refine blk_drew ?_ | refine blk_alloc ?_ _)); exact BK229.out⟩, ⟨by repeat (first | (with_reducible first | exact HB.out | apply below_alloc | apply pw_below_drewN | apply below_drew1 | refine below_set ?_ GE229.out) | exact HB.out)⟩⟩
                    case round =>
                      clear H'
                      try clear c1
                      try clear c2
                      try clear c2b0
                      try clear p2
                      try clear q2
                      try clear hx2
                      try clear c3
                      try clear c3b0
                      try clear c4
                      try clear c4b0
                      try clear c6
                      try clear p6
                      try clear c7
                      try clear c8
                      try clear c8b0
                      try clear c8b1
                      try clear c9
                      try clear c11
                      try clear c15
                      try clear hcz12_0
                      try clear hcz12_1
                      try clear hcz12_2
                      try clear hcz12_3
                      try clear hcz12_4
                      try clear hcz12_5
                      try clear hcz14_0
                      try clear hcz14_1
                      try clear hcz14_2
                      try clear hcz14_3
                      try clear hcz14_4
                      try clear hcz14_5
                      try clear hcz16_0
                      try clear hcz16_1
                      try clear hcz16_2
                      try clear hcz16_3
                      try clear hcz16_4
                      try clear hcz16_5
                      try clear hcz18_0
                      try clear hcz18_1
                      try clear hcz18_2
                      try clear hcz18_3
                      try clear hcz18_4
                      try clear hcz18_5
                      try clear hfz12_0
                      try clear hfz12_1
                      try clear hfz12_2
                      try clear hfz12_3
                      try clear hfz12_4
                      try clear hfz12_5
                      try clear hfz14_0
                      try clear hfz14_1
                      try clear hfz14_2
                      try clear hfz14_3
                      try clear hfz14_4
                      try clear hfz14_5
                      try clear hfz16_0
                      try clear hfz16_1
                      try clear hfz16_2
                      try clear hfz16_3
                      try clear hfz16_4
                      try clear hfz16_5
                      try clear hfz18_0
                      try clear hfz18_1
                      try clear hfz18_2
                      try clear hfz18_3
                      try clear hfz18_4
                      try clear hfz18_5
                      try clear hx228_0
                      try clear hx228_1
                      try clear hx228_2
                      try clear hx228_3
                      try clear hx228_4
                      try clear hx228_5
                      try clear p228
                      try clear q228
                      obtain ⟨x3_2, x42_2, rfl, HA, HK2, HO_3, HO_40, BK229, HB⟩ := hrel
                      cases gk with
                      | zero => exact absurd HA.out (by simp [boscagelaw24_Encode.l1])
                      | succ k2 =>
                        have H := HA.out
                        clear HA
                        simp only [boscagelaw24_Encode.l1] at H
                        by_cases c21 : x42_2 < (t237.length : Int)
                        · rw [if_pos c21] at H
                          have c21b0 : decide (x42_2 < (t237.length : Int)) = true := decide_eq_true c21
                          clear c21
                          by_cases c22 : 0 ≤ x42_2
                          · rw [if_pos c22] at H
                            have c22b0 : decide (0 ≤ x42_2) = true := decide_eq_true c22
                            clear c22
                            by_cases c23 : x42_2 < (t237.length : Int)
                            · rw [if_pos c23] at H
                              have c23b0 : decide (x42_2 < (t237.length : Int)) = true := decide_eq_true c23
                              clear c23
                              replace H := Option.bind_eq_some_iff.mp H
                              obtain ⟨t241, A240, H⟩ := H
                              replace H : (if x3_2.length + t241.length < 140737488355328 then (boscagelaw24_Encode.l1 k2 (x3_2 ++ t241) l0 (l0.length : Int) x10_1 t237 (t237.length : Int) (wrap64 (x42_2 + 1))) else (none)) = some r := H
                              have A24 := Aside0.mk A240
                              clear A240
                              by_cases c25 : x3_2.length + t241.length < 140737488355328
                              · rw [if_pos c25] at H
                                have LMc25 := Aside0.mk c25
                                clear c25
                                obtain ⟨y244, hy244⟩ : ∃ y_ : List Int, y_ = (x3_2 ++ t241) := ⟨_, rfl⟩
                                replace H : (boscagelaw24_Encode.l1 k2 y244 l0 (l0.length : Int) x10_1 t237 (t237.length : Int) (wrap64 (x42_2 + 1))) = some r := by first | (rw [hy244]; with_reducible exact H) | (have H2_ := (Option.bind_some _ _).symm.trans H; rw [hy244]; with_reducible exact H2_) | (have H2_ := (Option.bind_some _ _).symm.trans H; with_reducible exact H2_) | with_reducible exact H | (rw [hy244]; exact H) | exact H
                                have Ny244 := Aside0.mk hy244
                                clear hy244
                                have H' := Aside0.mk H
                                clear H
                                have p240 : 0 ≤ (x42_2 : Int) := of_decide_eq_true (by first | (with_reducible assumption) | assumption)
                                have q240 : x42_2 < (t237.length : Int) := of_decide_eq_true (by first | (with_reducible assumption) | assumption)
                                obtain ⟨ad240, e240, hx240_0⟩ := Kd.at_int (Kd.R_reads' HO_40.out).2.2 x42_2 p240 q240
                                cases e240
                                replace p240 := eq_true p240
                                replace q240 := eq_true q240
                                go_wp2_with (first | ((with_reducible refine gate_callee (f := 24) rfl ?_); refine goesL_ (some 48) rfl rfl Try.func24 (by kernel_rfl) rfl #[.int .i64 (rd t237 x42_2)] rfl (by (try simp only [List.map_toArray, List.map_cons, List.map_nil]); first | done | rfl | (simp only [List.length_drop, List.length_take]; rfl)) ?_; (with_reducible refine (boscagelaw24_number.calls k2 (rd t237 x42_2) t241 _ A24.out).mono ?_); rintro e w26 ⟨v242, rfl, ho0, hb⟩; refine ⟨_, rfl, ?_⟩; have n0_ := Aside0.mk (Kd.R_elder' (by (with_reducible repeat (first | apply Kd.R_alloc | apply Kd.R_drewN | apply Kd.R_drew)); exact HO_3.out) (Kd.R_base ho0) hb); have n1_ := Aside0.mk (Kd.R_below (by (with_reducible repeat (first | apply Kd.R_alloc | apply Kd.R_drewN | apply Kd.R_drew)); exact HO_40.out) hb); have n2_ := Aside0.mk (Kd.R_lower (Kd.R_new' ho0 (Kd.R_lt (by (with_reducible repeat (first | apply Kd.R_alloc | apply Kd.R_drewN | apply Kd.R_drew)); exact HO_3.out))) (below_size (by repeat (first | (with_reducible first | exact HB.out | apply below_alloc | apply pw_below_drewN | apply below_drew1 | refine below_set ?_ GE229.out) | exact HB.out)))); have n3_ := Aside0.mk (blk_below (g := gb229) (o := .cells #[.int .u8 ((rd_T27 l0 x10_1).f0), .int .u8 ((rd_T27 l0 x10_1).f1), .int .u8 ((rd_T27 l0 x10_1).f2.f0), .int .i64 ((rd_T27 l0 x10_1).f2.f1), .int .i64 ((rd_T27 l0 x10_1).f2.f2), .int .i64 ((rd_T27 l0 x10_1).f2.f3)] 27 (0, 0)) (by (with_reducible repeat (first | refine blk_drewN ?_ _ | refine blk_drew ?_ | refine blk_alloc ?_ _)); exact BK229.out) hb); have n4_ := Aside0.mk (below_step (by repeat (first | (with_reducible first | exact HB.out | apply below_alloc | apply pw_below_drewN | apply below_drew1 | refine below_set ?_ GE229.out) | exact HB.out)) hb); clear HO_3; clear HO_40; clear BK229; clear HB; have HO_3 := n0_; have HO_40 := n1_; have HO243 := n2_; have BK229 := n3_; have HB := n4_; clear n0_ n1_ n2_ n3_ n4_; (try clear hb); (try clear hb2); (try clear hk); (try clear hi); (try clear ho0); obtain ⟨Ao28, co28, eo28⟩ := Kd.R_slice HO243.out; subst eo28) | ((with_reducible refine gate_builtin (b := .append) (xs := #[.tmp 46, .tmp 48]) rfl ?_); at_builtin; refine Kd.R_append_rows (Kd.int .u8) (w0 := w) w.heap.size rfl (.tmp 46) (.tmp 48) 33 5 (.int .u8 0) 1 rfl Try.underlying33 info5 rfl (by decide) (by omega) u3 x3_2 t241 _ _ _ (fun k_ => some k_ ≠ (.slice Ao28 t241.length co28 : Value).ownBlock) (fun _ => False) rfl rfl ?aO ?aR (fun _ _ h => h) (fun _ h => h.elim) ?aF ?aB ?aS ?aL ?_; (case aR => repeat (first | exact (Kd.R_reads' HO243.out).2.2 | (with_reducible refine Kd.C_alloc ?_ _) | (with_reducible refine Kd.C_drewN ?_ _) | (with_reducible refine Kd.C_drew ?_))); (case aB => exact (by repeat (first | (with_reducible first | exact HB.out | apply below_alloc | apply pw_below_drewN | apply below_drew1 | refine below_set ?_ GE229.out) | exact HB.out))); (case aF => exact (fun k_ hk => Kd.fresh' (Kd.R_lt (by (with_reducible repeat (first | apply Kd.R_alloc | apply Kd.R_drewN | apply Kd.R_drew)); exact HO243.out)) k_ hk)); (case aO => exact (by (with_reducible repeat (first | apply Kd.R_alloc | apply Kd.R_drewN | apply Kd.R_drew)); exact Kd.R_mono HO_3.out (fun _ hk => hk.2))); (case aS => exact (below_size (by repeat (first | (with_reducible first | exact HB.out | apply below_alloc | apply pw_below_drewN | apply below_drew1 | refine below_set ?_ GE229.out) | exact HB.out)))); (case aL => have := LMc25.out; omega); intro v245 w27 ho hb hg hat; rw [← Ny244.out] at ho; have n0_ := Aside0.mk (Kd.R_over' (by (with_reducible repeat (first | apply Kd.R_alloc | apply Kd.R_drewN | apply Kd.R_drew)); exact HO_40.out) (Kd.R_typed (by (with_reducible repeat (first | apply Kd.R_alloc | apply Kd.R_drewN | apply Kd.R_drew)); exact HO_3.out)) (by decide) hg); have n1_ := Aside0.mk (blk_grown (g := gb229) (o := .cells #[.int .u8 ((rd_T27 l0 x10_1).f0), .int .u8 ((rd_T27 l0 x10_1).f1), .int .u8 ((rd_T27 l0 x10_1).f2.f0), .int .i64 ((rd_T27 l0 x10_1).f2.f1), .int .i64 ((rd_T27 l0 x10_1).f2.f2), .int .i64 ((rd_T27 l0 x10_1).f2.f3)] 27 (0, 0)) (by (with_reducible repeat (first | refine blk_drewN ?_ _ | refine blk_drew ?_ | refine blk_alloc ?_ _)); exact BK229.out) hg (Kd.R_ne HO_3.out BK229.out (by decide))); have n2_ := Aside0.mk (Kd.R_after (ok := (fun _ => True)) (by (with_reducible repeat (first | apply Kd.R_alloc | apply Kd.R_drewN | apply Kd.R_drew)); exact HO243.out) hg hat); have n3_ := Aside0.mk (hb); have n4_ := Aside0.mk (ho); clear HO_40; clear BK229; clear HO243; clear HB; clear HO_3; have HO_40 := n0_; have BK229 := n1_; have HO243 := n2_; have HB := n3_; have HO246 := n4_; clear n0_ n1_ n2_ n3_ n4_; clear ho hb hg hat))
                                go_roundg k2
                                case measure => have := HK1.out; have := HK2.out; omega
                                case rel => exact ⟨(y244), (wrap64 (x42_2 + 1)), (by first | rfl | (simp; done) | (simp [*]; done)), H', ⟨by have := HK1.out; have := HK2.out; omega⟩, ⟨by (with_reducible repeat (first | apply Kd.R_alloc | apply Kd.R_drewN | apply Kd.R_drew)); exact Kd.R_mono HO246.out (fun _ hk => trivial)⟩, ⟨by (with_reducible repeat (first | apply Kd.R_alloc | apply Kd.R_drewN | apply Kd.R_drew)); exact HO_40.out⟩, ⟨by (with_reducible repeat (first | refine blk_drewN ?_ _ | refine blk_drew ?_ | refine blk_alloc ?_ _)); exact BK229.out⟩, ⟨by repeat (first | (with_reducible first | exact HB.out | apply below_alloc | apply pw_below_drewN | apply below_drew1 | refine below_set ?_ GE229.out) | exact HB.out)⟩⟩
                              · rw [if_neg c25] at H
                                exact absurd H (by simp)
                            · rw [if_neg c23] at H
                              exact absurd H (by simp)
                          · rw [if_neg c22] at H
                            exact absurd H (by simp)
                        · rw [if_neg c21] at H
                          have c21b0 : decide (x42_2 < (t237.length : Int)) = false := decide_eq_false c21
                          clear c21
                          have H' := Aside0.mk H
                          clear H
                          go_wp2
                          go_roundg k2
                          case measure => have := HK1.out; have := HK2.out; omega
                          case rel => exact ⟨(x3_2), (wrap64 (x10_1 + 1)), (by first | rfl | (simp; done) | (simp [*]; done)), H', ⟨by have := HK1.out; have := HK2.out; omega⟩, ⟨by (with_reducible repeat (first | apply Kd.R_alloc | apply Kd.R_drewN | apply Kd.R_drew)); exact HO_3.out⟩, ⟨by repeat (first | (with_reducible first | exact HB.out | apply below_alloc | apply pw_below_drewN | apply below_drew1 | refine below_set ?_ GE229.out) | exact HB.out)⟩⟩
                  · rw [if_neg c9] at H
                    exact absurd H (by simp)
                · rw [if_neg c8] at H
                  have c8b0 : (((rd_T27 l0 x10_1).f0) == 0) = false := beq_eq_false_iff_ne.mpr c8
                  have c8b1 : (((rd_T27 l0 x10_1).f0) != 0) = true := bne_iff_ne.mpr c8
                  have H' := Aside0.mk H
                  clear H
                  have p228 : 0 ≤ (x10_1 : Int) := of_decide_eq_true (by first | (with_reducible assumption) | assumption)
                  have q228 : x10_1 < (l0.length : Int) := of_decide_eq_true (by first | (with_reducible assumption) | assumption)
                  obtain ⟨ad228, e228, hx228_0, hx228_1, hx228_2, hx228_3, hx228_4, hx228_5⟩ := at_T27 HR0.out x10_1 p228 q228
                  cases e228
                  replace hx228_0 := (HB.out.cell (World.block_lt_of_cell? w _ hx228_0)).trans hx228_0
                  replace hx228_1 := (HB.out.cell (World.block_lt_of_cell? w _ hx228_1)).trans hx228_1
                  replace hx228_2 := (HB.out.cell (World.block_lt_of_cell? w _ hx228_2)).trans hx228_2
                  replace hx228_3 := (HB.out.cell (World.block_lt_of_cell? w _ hx228_3)).trans hx228_3
                  replace hx228_4 := (HB.out.cell (World.block_lt_of_cell? w _ hx228_4)).trans hx228_4
                  replace hx228_5 := (HB.out.cell (World.block_lt_of_cell? w _ hx228_5)).trans hx228_5
                  replace p228 := eq_true p228
                  replace q228 := eq_true q228
                  go_wp2_with (first | ((with_reducible refine gate_dst (N := 5) rfl ?_); refine box_event ?hg (N := 5) ?hd (cs := #[.int .u8 0, .int .u8 0, .int .u8 0, .int .i64 0, .int .i64 0, .int .i64 0]) (t := 27) ?hr ?_; (case hd => rfl); (case hg => rfl); (case hr => first | (go_simp; done) | (go_simp; rfl)); intro gb229 hg w29 hbox hb; have n0_ := Aside0.mk (Kd.R_below (by (with_reducible repeat (first | apply Kd.R_alloc | apply Kd.R_drewN | apply Kd.R_drew)); exact HO_3.out) hb); have n1_ := Aside0.mk (below_step (by repeat (first | (with_reducible first | exact HB.out | apply below_alloc | apply pw_below_drewN | apply below_drew1) | exact HB.out)) hb); have n2_ := Aside0.mk (hbox); have n3_ := Aside0.mk ((by rw [hg]; exact (below_size (by repeat (first | (with_reducible first | exact HB.out | apply below_alloc | apply pw_below_drewN | apply below_drew1) | exact HB.out))) : w.heap.size ≤ gb229)); have n4_ := Aside0.mk ((by rw [hg]; exact (below_size (by repeat (first | (with_reducible first | exact HB.out | apply below_alloc | apply pw_below_drewN | apply below_drew1) | exact HB.out))) : w.heap.size ≤ gb229)); clear HO_3; clear HB; have HO_3 := n0_; have HB := n1_; have BK229 := n2_; have GW229 := n3_; have GE229 := n4_; clear n0_ n1_ n2_ n3_ n4_; clear hb hbox hg; have hcz30_0 : w29.cell? ⟨gb229, 0, none⟩ = some (.int .u8 0) := (blk_cell BK229.out 0).trans rfl; have hcz30_1 : w29.cell? ⟨gb229, 1, none⟩ = some (.int .u8 0) := (blk_cell BK229.out 1).trans rfl; have hcz30_2 : w29.cell? ⟨gb229, 2, none⟩ = some (.int .u8 0) := (blk_cell BK229.out 2).trans rfl; have hcz30_3 : w29.cell? ⟨gb229, 3, none⟩ = some (.int .i64 0) := (blk_cell BK229.out 3).trans rfl; have hcz30_4 : w29.cell? ⟨gb229, 4, none⟩ = some (.int .i64 0) := (blk_cell BK229.out 4).trans rfl; have hcz30_5 : w29.cell? ⟨gb229, 5, none⟩ = some (.int .i64 0) := (blk_cell BK229.out 5).trans rfl; have hfz30_0 := blk_frozen BK229.out 0; have hfz30_1 := blk_frozen BK229.out 1; have hfz30_2 := blk_frozen BK229.out 2; have hfz30_3 := blk_frozen BK229.out 3; have hfz30_4 := blk_frozen BK229.out 4; have hfz30_5 := blk_frozen BK229.out 5) | ((with_reducible refine gate_callee (f := 11) rfl ?_); refine goesL_ (some 15) rfl rfl Try.func11 (by kernel_rfl) rfl #[.agg #[.int .u8 ((rd_T27 l0 x10_1).f0), .int .u8 ((rd_T27 l0 x10_1).f1), .int .u8 ((rd_T27 l0 x10_1).f2.f0), .int .i64 ((rd_T27 l0 x10_1).f2.f1), .int .i64 ((rd_T27 l0 x10_1).f2.f2), .int .i64 ((rd_T27 l0 x10_1).f2.f3)]] rfl (by (try simp only [List.map_toArray, List.map_cons, List.map_nil]); first | done | rfl | (simp only [List.length_drop, List.length_take]; rfl)) ?_; (with_reducible refine (boscagelaw24_May.calls k1 ((rd_T27 l0 x10_1).f0) ((rd_T27 l0 x10_1).f1) ((rd_T27 l0 x10_1).f2.f0) ((rd_T27 l0 x10_1).f2.f1) ((rd_T27 l0 x10_1).f2.f2) ((rd_T27 l0 x10_1).f2.f3) true _ A5.out).mono ?_); rintro e w31 ⟨rfl, hb⟩; refine ⟨_, rfl, ?_⟩; have n0_ := Aside0.mk (Kd.R_below (by (with_reducible repeat (first | apply Kd.R_alloc | apply Kd.R_drewN | apply Kd.R_drew)); exact (Kd.R_mono (Kd.R_far (p := ⟨gb229, 5, none⟩) (Kd.R_far (p := ⟨gb229, 4, none⟩) (Kd.R_far (p := ⟨gb229, 3, none⟩) (Kd.R_far (p := ⟨gb229, 2, none⟩) (Kd.R_far (p := ⟨gb229, 1, none⟩) (Kd.R_far (p := ⟨gb229, 0, none⟩) (Kd.R_types HO_3.out BK229.out (by decide)) (fun _ hk => hk.2) (.int .u8 ((rd_T27 l0 x10_1).f0))) (fun _ hk => hk.2) (.int .u8 ((rd_T27 l0 x10_1).f1))) (fun _ hk => hk.2) (.int .u8 ((rd_T27 l0 x10_1).f2.f0))) (fun _ hk => hk.2) (.int .i64 ((rd_T27 l0 x10_1).f2.f1))) (fun _ hk => hk.2) (.int .i64 ((rd_T27 l0 x10_1).f2.f2))) (fun _ hk => hk.2) (.int .i64 ((rd_T27 l0 x10_1).f2.f3))) (fun _ h_ => h_.1))) hb); have n1_ := Aside0.mk (blk_below (g := gb229) (o := .cells #[.int .u8 ((rd_T27 l0 x10_1).f0), .int .u8 ((rd_T27 l0 x10_1).f1), .int .u8 ((rd_T27 l0 x10_1).f2.f0), .int .i64 ((rd_T27 l0 x10_1).f2.f1), .int .i64 ((rd_T27 l0 x10_1).f2.f2), .int .i64 ((rd_T27 l0 x10_1).f2.f3)] 27 (0, 0)) (by (with_reducible repeat (first | refine blk_drewN ?_ _ | refine blk_drew ?_ | refine blk_alloc ?_ _)); refine blk_put (cs := #[.int .u8 ((rd_T27 l0 x10_1).f0), .int .u8 ((rd_T27 l0 x10_1).f1), .int .u8 ((rd_T27 l0 x10_1).f2.f0), .int .i64 ((rd_T27 l0 x10_1).f2.f1), .int .i64 ((rd_T27 l0 x10_1).f2.f2), .int .i64 0]) ?_ 5 _ rfl; (with_reducible repeat (first | refine blk_drewN ?_ _ | refine blk_drew ?_ | refine blk_alloc ?_ _)); refine blk_put (cs := #[.int .u8 ((rd_T27 l0 x10_1).f0), .int .u8 ((rd_T27 l0 x10_1).f1), .int .u8 ((rd_T27 l0 x10_1).f2.f0), .int .i64 ((rd_T27 l0 x10_1).f2.f1), .int .i64 0, .int .i64 0]) ?_ 4 _ rfl; (with_reducible repeat (first | refine blk_drewN ?_ _ | refine blk_drew ?_ | refine blk_alloc ?_ _)); refine blk_put (cs := #[.int .u8 ((rd_T27 l0 x10_1).f0), .int .u8 ((rd_T27 l0 x10_1).f1), .int .u8 ((rd_T27 l0 x10_1).f2.f0), .int .i64 0, .int .i64 0, .int .i64 0]) ?_ 3 _ rfl; (with_reducible repeat (first | refine blk_drewN ?_ _ | refine blk_drew ?_ | refine blk_alloc ?_ _)); refine blk_put (cs := #[.int .u8 ((rd_T27 l0 x10_1).f0), .int .u8 ((rd_T27 l0 x10_1).f1), .int .u8 0, .int .i64 0, .int .i64 0, .int .i64 0]) ?_ 2 _ rfl; (with_reducible repeat (first | refine blk_drewN ?_ _ | refine blk_drew ?_ | refine blk_alloc ?_ _)); refine blk_put (cs := #[.int .u8 ((rd_T27 l0 x10_1).f0), .int .u8 0, .int .u8 0, .int .i64 0, .int .i64 0, .int .i64 0]) ?_ 1 _ rfl; (with_reducible repeat (first | refine blk_drewN ?_ _ | refine blk_drew ?_ | refine blk_alloc ?_ _)); refine blk_put (cs := #[.int .u8 0, .int .u8 0, .int .u8 0, .int .i64 0, .int .i64 0, .int .i64 0]) ?_ 0 _ rfl; (with_reducible repeat (first | refine blk_drewN ?_ _ | refine blk_drew ?_ | refine blk_alloc ?_ _)); exact BK229.out) hb); have n2_ := Aside0.mk (below_step (by repeat (first | (with_reducible first | exact HB.out | apply below_alloc | apply pw_below_drewN | apply below_drew1 | refine below_set ?_ GE229.out) | exact HB.out)) hb); clear HO_3; clear BK229; clear HB; have HO_3 := n0_; have BK229 := n1_; have HB := n2_; clear n0_ n1_ n2_; (try clear hb); (try clear hb2); (try clear hk); (try clear hi); have hcz32_0 : w31.cell? ⟨gb229, 0, none⟩ = some (.int .u8 ((rd_T27 l0 x10_1).f0)) := (blk_cell BK229.out 0).trans rfl; have hcz32_1 : w31.cell? ⟨gb229, 1, none⟩ = some (.int .u8 ((rd_T27 l0 x10_1).f1)) := (blk_cell BK229.out 1).trans rfl; have hcz32_2 : w31.cell? ⟨gb229, 2, none⟩ = some (.int .u8 ((rd_T27 l0 x10_1).f2.f0)) := (blk_cell BK229.out 2).trans rfl; have hcz32_3 : w31.cell? ⟨gb229, 3, none⟩ = some (.int .i64 ((rd_T27 l0 x10_1).f2.f1)) := (blk_cell BK229.out 3).trans rfl; have hcz32_4 : w31.cell? ⟨gb229, 4, none⟩ = some (.int .i64 ((rd_T27 l0 x10_1).f2.f2)) := (blk_cell BK229.out 4).trans rfl; have hcz32_5 : w31.cell? ⟨gb229, 5, none⟩ = some (.int .i64 ((rd_T27 l0 x10_1).f2.f3)) := (blk_cell BK229.out 5).trans rfl; have hfz32_0 := blk_frozen BK229.out 0; have hfz32_1 := blk_frozen BK229.out 1; have hfz32_2 := blk_frozen BK229.out 2; have hfz32_3 := blk_frozen BK229.out 3; have hfz32_4 := blk_frozen BK229.out 4; have hfz32_5 := blk_frozen BK229.out 5) | ((with_reducible refine gate_builtin (b := .append) (xs := #[.tmp 17, .tmp 27]) rfl ?_); at_builtin; refine Kd.R_append (Kd.int .u8) (w0 := w) w.heap.size rfl (.tmp 17) (.tmp 27) 33 5 (.int .u8 0) 1 rfl Try.underlying33 info5 rfl (by decide) (by omega) u3 x3_1 ((wrap64 ((wrap64 ((rd_T27 l0 x10_1).f0)) + (wrap64 (4 * (wrap64 ((rd_T27 l0 x10_1).f1)))))) % 256) [.int .u8 ((wrap64 ((wrap64 ((rd_T27 l0 x10_1).f0)) + (wrap64 (4 * (wrap64 ((rd_T27 l0 x10_1).f1)))))) % 256)] (fun _ => True) (fun _ => False) rfl rfl ?aP (fun _ hk => hk.elim) ?aF ?aO ?aB ?aS ?aL ?_; (case aP => exact rfl); (case aB => exact (by repeat (first | (with_reducible first | exact HB.out | apply below_alloc | apply pw_below_drewN | apply below_drew1 | refine below_set ?_ GE229.out) | exact HB.out))); (case aF => exact (fun _ _ => trivial)); (case aO => exact (by (with_reducible repeat (first | apply Kd.R_alloc | apply Kd.R_drewN | apply Kd.R_drew)); exact HO_3.out)); (case aS => exact (below_size (by repeat (first | (with_reducible first | exact HB.out | apply below_alloc | apply pw_below_drewN | apply below_drew1 | refine below_set ?_ GE229.out) | exact HB.out)))); (case aL => have := LMc7.out; omega); intro v232 w33 ho hb hg hat; rw [← Ny231.out] at ho; have n0_ := Aside0.mk (blk_grown (g := gb229) (o := .cells #[.int .u8 ((rd_T27 l0 x10_1).f0), .int .u8 ((rd_T27 l0 x10_1).f1), .int .u8 ((rd_T27 l0 x10_1).f2.f0), .int .i64 ((rd_T27 l0 x10_1).f2.f1), .int .i64 ((rd_T27 l0 x10_1).f2.f2), .int .i64 ((rd_T27 l0 x10_1).f2.f3)] 27 (0, 0)) (by (with_reducible repeat (first | refine blk_drewN ?_ _ | refine blk_drew ?_ | refine blk_alloc ?_ _)); exact BK229.out) hg (Kd.R_ne HO_3.out BK229.out (by decide))); have n1_ := Aside0.mk (hb); have n2_ := Aside0.mk (ho); clear BK229; clear HB; clear HO_3; have BK229 := n0_; have HB := n1_; have HO233 := n2_; clear n0_ n1_ n2_; clear ho hb hg hat; have hcz34_0 : w33.cell? ⟨gb229, 0, none⟩ = some (.int .u8 ((rd_T27 l0 x10_1).f0)) := (blk_cell BK229.out 0).trans rfl; have hcz34_1 : w33.cell? ⟨gb229, 1, none⟩ = some (.int .u8 ((rd_T27 l0 x10_1).f1)) := (blk_cell BK229.out 1).trans rfl; have hcz34_2 : w33.cell? ⟨gb229, 2, none⟩ = some (.int .u8 ((rd_T27 l0 x10_1).f2.f0)) := (blk_cell BK229.out 2).trans rfl; have hcz34_3 : w33.cell? ⟨gb229, 3, none⟩ = some (.int .i64 ((rd_T27 l0 x10_1).f2.f1)) := (blk_cell BK229.out 3).trans rfl; have hcz34_4 : w33.cell? ⟨gb229, 4, none⟩ = some (.int .i64 ((rd_T27 l0 x10_1).f2.f2)) := (blk_cell BK229.out 4).trans rfl; have hcz34_5 : w33.cell? ⟨gb229, 5, none⟩ = some (.int .i64 ((rd_T27 l0 x10_1).f2.f3)) := (blk_cell BK229.out 5).trans rfl; have hfz34_0 := blk_frozen BK229.out 0; have hfz34_1 := blk_frozen BK229.out 1; have hfz34_2 := blk_frozen BK229.out 2; have hfz34_3 := blk_frozen BK229.out 3; have hfz34_4 := blk_frozen BK229.out 4; have hfz34_5 := blk_frozen BK229.out 5))
                  go_roundg k1
                  case measure => have := HK1.out; omega
                  case rel => exact ⟨(y231), (wrap64 (x10_1 + 1)), (by first | rfl | (simp; done) | (simp [*]; done)), H', ⟨by have := HK1.out; omega⟩, ⟨by (with_reducible repeat (first | apply Kd.R_alloc | apply Kd.R_drewN | apply Kd.R_drew)); exact HO233.out⟩, ⟨by repeat (first | (with_reducible first | exact HB.out | apply below_alloc | apply pw_below_drewN | apply below_drew1 | refine below_set ?_ GE229.out) | exact HB.out)⟩⟩
              · rw [if_neg c7] at H
                exact absurd H (by simp)
            · replace c6 := Bool.eq_false_iff.mpr c6
              subst c6
              have H1 : (boscagelaw24_Encode.l0 k1 x3_1 l0 (l0.length : Int) (wrap64 (x10_1 + 1))) = some r := by rw [if_neg (show ¬ (false = true) by decide)] at H; exact H
              clear H
              have H := H1
              clear H1
              have H' := Aside0.mk H
              clear H
              have p228 : 0 ≤ (x10_1 : Int) := of_decide_eq_true (by first | (with_reducible assumption) | assumption)
              have q228 : x10_1 < (l0.length : Int) := of_decide_eq_true (by first | (with_reducible assumption) | assumption)
              obtain ⟨ad228, e228, hx228_0, hx228_1, hx228_2, hx228_3, hx228_4, hx228_5⟩ := at_T27 HR0.out x10_1 p228 q228
              cases e228
              replace hx228_0 := (HB.out.cell (World.block_lt_of_cell? w _ hx228_0)).trans hx228_0
              replace hx228_1 := (HB.out.cell (World.block_lt_of_cell? w _ hx228_1)).trans hx228_1
              replace hx228_2 := (HB.out.cell (World.block_lt_of_cell? w _ hx228_2)).trans hx228_2
              replace hx228_3 := (HB.out.cell (World.block_lt_of_cell? w _ hx228_3)).trans hx228_3
              replace hx228_4 := (HB.out.cell (World.block_lt_of_cell? w _ hx228_4)).trans hx228_4
              replace hx228_5 := (HB.out.cell (World.block_lt_of_cell? w _ hx228_5)).trans hx228_5
              replace p228 := eq_true p228
              replace q228 := eq_true q228
              go_wp2_with (first | ((with_reducible refine gate_dst (N := 5) rfl ?_); refine box_event ?hg (N := 5) ?hd (cs := #[.int .u8 0, .int .u8 0, .int .u8 0, .int .i64 0, .int .i64 0, .int .i64 0]) (t := 27) ?hr ?_; (case hd => rfl); (case hg => rfl); (case hr => first | (go_simp; done) | (go_simp; rfl)); intro gb229 hg w35 hbox hb; have n0_ := Aside0.mk (Kd.R_below (by (with_reducible repeat (first | apply Kd.R_alloc | apply Kd.R_drewN | apply Kd.R_drew)); exact HO_3.out) hb); have n1_ := Aside0.mk (below_step (by repeat (first | (with_reducible first | exact HB.out | apply below_alloc | apply pw_below_drewN | apply below_drew1) | exact HB.out)) hb); have n2_ := Aside0.mk (hbox); have n3_ := Aside0.mk ((by rw [hg]; exact (below_size (by repeat (first | (with_reducible first | exact HB.out | apply below_alloc | apply pw_below_drewN | apply below_drew1) | exact HB.out))) : w.heap.size ≤ gb229)); have n4_ := Aside0.mk ((by rw [hg]; exact (below_size (by repeat (first | (with_reducible first | exact HB.out | apply below_alloc | apply pw_below_drewN | apply below_drew1) | exact HB.out))) : w.heap.size ≤ gb229)); clear HO_3; clear HB; have HO_3 := n0_; have HB := n1_; have BK229 := n2_; have GW229 := n3_; have GE229 := n4_; clear n0_ n1_ n2_ n3_ n4_; clear hb hbox hg; have hcz36_0 : w35.cell? ⟨gb229, 0, none⟩ = some (.int .u8 0) := (blk_cell BK229.out 0).trans rfl; have hcz36_1 : w35.cell? ⟨gb229, 1, none⟩ = some (.int .u8 0) := (blk_cell BK229.out 1).trans rfl; have hcz36_2 : w35.cell? ⟨gb229, 2, none⟩ = some (.int .u8 0) := (blk_cell BK229.out 2).trans rfl; have hcz36_3 : w35.cell? ⟨gb229, 3, none⟩ = some (.int .i64 0) := (blk_cell BK229.out 3).trans rfl; have hcz36_4 : w35.cell? ⟨gb229, 4, none⟩ = some (.int .i64 0) := (blk_cell BK229.out 4).trans rfl; have hcz36_5 : w35.cell? ⟨gb229, 5, none⟩ = some (.int .i64 0) := (blk_cell BK229.out 5).trans rfl; have hfz36_0 := blk_frozen BK229.out 0; have hfz36_1 := blk_frozen BK229.out 1; have hfz36_2 := blk_frozen BK229.out 2; have hfz36_3 := blk_frozen BK229.out 3; have hfz36_4 := blk_frozen BK229.out 4; have hfz36_5 := blk_frozen BK229.out 5) | ((with_reducible refine gate_callee (f := 11) rfl ?_); refine goesL_ (some 15) rfl rfl Try.func11 (by kernel_rfl) rfl #[.agg #[.int .u8 ((rd_T27 l0 x10_1).f0), .int .u8 ((rd_T27 l0 x10_1).f1), .int .u8 ((rd_T27 l0 x10_1).f2.f0), .int .i64 ((rd_T27 l0 x10_1).f2.f1), .int .i64 ((rd_T27 l0 x10_1).f2.f2), .int .i64 ((rd_T27 l0 x10_1).f2.f3)]] rfl (by (try simp only [List.map_toArray, List.map_cons, List.map_nil]); first | done | rfl | (simp only [List.length_drop, List.length_take]; rfl)) ?_; (with_reducible refine (boscagelaw24_May.calls k1 ((rd_T27 l0 x10_1).f0) ((rd_T27 l0 x10_1).f1) ((rd_T27 l0 x10_1).f2.f0) ((rd_T27 l0 x10_1).f2.f1) ((rd_T27 l0 x10_1).f2.f2) ((rd_T27 l0 x10_1).f2.f3) false _ A5.out).mono ?_); rintro e w37 ⟨rfl, hb⟩; refine ⟨_, rfl, ?_⟩; have n0_ := Aside0.mk (Kd.R_below (by (with_reducible repeat (first | apply Kd.R_alloc | apply Kd.R_drewN | apply Kd.R_drew)); exact (Kd.R_mono (Kd.R_far (p := ⟨gb229, 5, none⟩) (Kd.R_far (p := ⟨gb229, 4, none⟩) (Kd.R_far (p := ⟨gb229, 3, none⟩) (Kd.R_far (p := ⟨gb229, 2, none⟩) (Kd.R_far (p := ⟨gb229, 1, none⟩) (Kd.R_far (p := ⟨gb229, 0, none⟩) (Kd.R_types HO_3.out BK229.out (by decide)) (fun _ hk => hk.2) (.int .u8 ((rd_T27 l0 x10_1).f0))) (fun _ hk => hk.2) (.int .u8 ((rd_T27 l0 x10_1).f1))) (fun _ hk => hk.2) (.int .u8 ((rd_T27 l0 x10_1).f2.f0))) (fun _ hk => hk.2) (.int .i64 ((rd_T27 l0 x10_1).f2.f1))) (fun _ hk => hk.2) (.int .i64 ((rd_T27 l0 x10_1).f2.f2))) (fun _ hk => hk.2) (.int .i64 ((rd_T27 l0 x10_1).f2.f3))) (fun _ h_ => h_.1))) hb); have n1_ := Aside0.mk (blk_below (g := gb229) (o := .cells #[.int .u8 ((rd_T27 l0 x10_1).f0), .int .u8 ((rd_T27 l0 x10_1).f1), .int .u8 ((rd_T27 l0 x10_1).f2.f0), .int .i64 ((rd_T27 l0 x10_1).f2.f1), .int .i64 ((rd_T27 l0 x10_1).f2.f2), .int .i64 ((rd_T27 l0 x10_1).f2.f3)] 27 (0, 0)) (by (with_reducible repeat (first | refine blk_drewN ?_ _ | refine blk_drew ?_ | refine blk_alloc ?_ _)); refine blk_put (cs := #[.int .u8 ((rd_T27 l0 x10_1).f0), .int .u8 ((rd_T27 l0 x10_1).f1), .int .u8 ((rd_T27 l0 x10_1).f2.f0), .int .i64 ((rd_T27 l0 x10_1).f2.f1), .int .i64 ((rd_T27 l0 x10_1).f2.f2), .int .i64 0]) ?_ 5 _ rfl; (with_reducible repeat (first | refine blk_drewN ?_ _ | refine blk_drew ?_ | refine blk_alloc ?_ _)); refine blk_put (cs := #[.int .u8 ((rd_T27 l0 x10_1).f0), .int .u8 ((rd_T27 l0 x10_1).f1), .int .u8 ((rd_T27 l0 x10_1).f2.f0), .int .i64 ((rd_T27 l0 x10_1).f2.f1), .int .i64 0, .int .i64 0]) ?_ 4 _ rfl; (with_reducible repeat (first | refine blk_drewN ?_ _ | refine blk_drew ?_ | refine blk_alloc ?_ _)); refine blk_put (cs := #[.int .u8 ((rd_T27 l0 x10_1).f0), .int .u8 ((rd_T27 l0 x10_1).f1), .int .u8 ((rd_T27 l0 x10_1).f2.f0), .int .i64 0, .int .i64 0, .int .i64 0]) ?_ 3 _ rfl; (with_reducible repeat (first | refine blk_drewN ?_ _ | refine blk_drew ?_ | refine blk_alloc ?_ _)); refine blk_put (cs := #[.int .u8 ((rd_T27 l0 x10_1).f0), .int .u8 ((rd_T27 l0 x10_1).f1), .int .u8 0, .int .i64 0, .int .i64 0, .int .i64 0]) ?_ 2 _ rfl; (with_reducible repeat (first | refine blk_drewN ?_ _ | refine blk_drew ?_ | refine blk_alloc ?_ _)); refine blk_put (cs := #[.int .u8 ((rd_T27 l0 x10_1).f0), .int .u8 0, .int .u8 0, .int .i64 0, .int .i64 0, .int .i64 0]) ?_ 1 _ rfl; (with_reducible repeat (first | refine blk_drewN ?_ _ | refine blk_drew ?_ | refine blk_alloc ?_ _)); refine blk_put (cs := #[.int .u8 0, .int .u8 0, .int .u8 0, .int .i64 0, .int .i64 0, .int .i64 0]) ?_ 0 _ rfl; (with_reducible repeat (first | refine blk_drewN ?_ _ | refine blk_drew ?_ | refine blk_alloc ?_ _)); exact BK229.out) hb); have n2_ := Aside0.mk (below_step (by repeat (first | (with_reducible first | exact HB.out | apply below_alloc | apply pw_below_drewN | apply below_drew1 | refine below_set ?_ GE229.out) | exact HB.out)) hb); clear HO_3; clear BK229; clear HB; have HO_3 := n0_; have BK229 := n1_; have HB := n2_; clear n0_ n1_ n2_; (try clear hb); (try clear hb2); (try clear hk); (try clear hi)))
              go_roundg k1
              case measure => have := HK1.out; omega
              case rel => exact ⟨(x3_1), (wrap64 (x10_1 + 1)), (by first | rfl | (simp; done) | (simp [*]; done)), H', ⟨by have := HK1.out; omega⟩, ⟨by (with_reducible repeat (first | apply Kd.R_alloc | apply Kd.R_drewN | apply Kd.R_drew)); exact HO_3.out⟩, ⟨by repeat (first | (with_reducible first | exact HB.out | apply below_alloc | apply pw_below_drewN | apply below_drew1 | refine below_set ?_ GE229.out) | exact HB.out)⟩⟩
          · rw [if_neg c4] at H
            exact absurd H (by simp)
        · rw [if_neg c3] at H
          exact absurd H (by simp)
      · rw [if_neg c2] at H
        have c2b0 : decide (x10_1 < (l0.length : Int)) = false := decide_eq_false c2
        clear c2
        obtain rfl := Option.some.inj H
        go_wp2
        go_ret
        exact ⟨_, by first | rfl | (simp [errW_none, errW_some] <;> rfl) | (simp [*, errW_none, errW_some] <;> rfl), by (with_reducible repeat (first | apply Kd.R_alloc | apply Kd.R_drewN | apply Kd.R_drew)); exact HO_3.out, by repeat (first | (with_reducible first | exact HB.out | apply below_alloc | apply pw_below_drewN | apply below_drew1) | exact HB.out)⟩

/-! ### boscagelaw24_ScriptEncodes: function 4 -/
def boscagelaw24_ScriptEncodes.f (k : Nat) (l0 : List (S27)) (a1 : Bool) : Option (Bool) := (boscagelaw24_Awake.f k).bind fun t247 => (if t247 = true then (if (l0.length : Int) > 40 then (some true) else (if a1 = true then ((boscagelaw24_plain.f k l0).bind fun t248 => ((script_Encode.f k t248).bind fun t251 => ((boscagelaw24_Encode.f k t248).bind fun t254 => ((boscagelaw24_same.f t251 t254).bind fun t257 => (some t257))))) else ((script_Encode.f k l0).bind fun t258 => ((boscagelaw24_Encode.f k l0).bind fun t261 => ((boscagelaw24_same.f t258 t261).bind fun t264 => (some t264)))))) else (some false))
theorem boscagelaw24_ScriptEncodes.mono : ∀ a0 a1 k, LeO (boscagelaw24_ScriptEncodes.f k a0 a1) (boscagelaw24_ScriptEncodes.f (k + 1) a0 a1) := by
  intro a0 a1 k
  unfold boscagelaw24_ScriptEncodes.f
  repeat' first
      | (with_reducible exact boscagelaw24_Awake.mono _)
      | (with_reducible exact boscagelaw24_Encode.mono _ _)
      | (with_reducible exact boscagelaw24_plain.mono _ _)
      | (with_reducible exact script_Encode.mono _ _)
      | (with_reducible exact LeO.refl _)
      | (with_reducible exact LeO.none _)
      | (with_reducible refine LeO.ite ?_ ?_)
      | (with_reducible refine LeO.bind ?_ (fun _ => ?_))
      | exact boscagelaw24_Awake.mono _
      | exact boscagelaw24_Encode.mono _ _
      | exact boscagelaw24_plain.mono _ _
      | exact script_Encode.mono _ _
      | exact LeO.none _
      | refine LeO.ite ?_ ?_
      | refine LeO.bind ?_ (fun _ => ?_)
set_option maxHeartbeats 8000000 in
set_option maxRecDepth 100000 in
theorem boscagelaw24_ScriptEncodes.calls (k : Nat) (A0 : Option Addr) (c0 : Nat) (l0 : List (S27)) (a1 : Bool) (r : Bool) (w : World) (hr0 : Kd.C k27 w A0 l0.length l0) (hc0 : l0.length ≤ c0) (h : boscagelaw24_ScriptEncodes.f k l0 a1 = some r) :
    Calls Try.prog 4 #[.slice A0 l0.length c0, .bool a1] w fun e w' => e = .returned (.bool r) ∧ Below w.heap.size w w' := by
  have HR0 := Aside0.mk hr0
  have HC0 := Aside0.mk hc0
  clear hr0 hc0
  have HB := Aside0.mk (Below.refl w.heap.size w)
  have H : ((boscagelaw24_Awake.f k).bind fun t247 => (if t247 = true then (if (l0.length : Int) > 40 then (some true) else (if a1 = true then ((boscagelaw24_plain.f k l0).bind fun t248 => ((script_Encode.f k t248).bind fun t251 => ((boscagelaw24_Encode.f k t248).bind fun t254 => ((boscagelaw24_same.f t251 t254).bind fun t257 => (some t257))))) else ((script_Encode.f k l0).bind fun t258 => ((boscagelaw24_Encode.f k l0).bind fun t261 => ((boscagelaw24_same.f t258 t261).bind fun t264 => (some t264)))))) else (some false))) = some r := h
  clear h
  replace H := Option.bind_eq_some_iff.mp H
  obtain ⟨t247, A30, H⟩ := H
  replace H : (if t247 = true then (if (l0.length : Int) > 40 then (some true) else (if a1 = true then ((boscagelaw24_plain.f k l0).bind fun t248 => ((script_Encode.f k t248).bind fun t251 => ((boscagelaw24_Encode.f k t248).bind fun t254 => ((boscagelaw24_same.f t251 t254).bind fun t257 => (some t257))))) else ((script_Encode.f k l0).bind fun t258 => ((boscagelaw24_Encode.f k l0).bind fun t261 => ((boscagelaw24_same.f t258 t261).bind fun t264 => (some t264)))))) else (some false)) = some r := H
  have A3 := Aside0.mk A30
  clear A30
  by_cases c4 : t247 = true
  · subst c4
    have H1 : (if (l0.length : Int) > 40 then (some true) else (if a1 = true then ((boscagelaw24_plain.f k l0).bind fun t248 => ((script_Encode.f k t248).bind fun t251 => ((boscagelaw24_Encode.f k t248).bind fun t254 => ((boscagelaw24_same.f t251 t254).bind fun t257 => (some t257))))) else ((script_Encode.f k l0).bind fun t258 => ((boscagelaw24_Encode.f k l0).bind fun t261 => ((boscagelaw24_same.f t258 t261).bind fun t264 => (some t264)))))) = some r := by rw [if_pos rfl] at H; exact H
    clear H
    have H := H1
    clear H1
    by_cases c5 : (l0.length : Int) > 40
    · rw [if_pos c5] at H
      have c5b0 : decide (40 < (l0.length : Int)) = true := decide_eq_true c5
      have c5b1 : decide (40 < l0.length) = true := decide_eq_true (by omega)
      have c5b2 : ∀ inst : Decidable (40 < l0.length), @decide (40 < l0.length) inst = true := fun inst => by exact @decide_eq_true _ inst (by omega)
      (try simp only [c5b2])
      clear c5b2
      clear c5
      obtain rfl := Option.some.inj H
      go_enter Try.func4, Try.ntmps4
      go_wp2_with (first | ((with_reducible refine gate_callee (f := 9) rfl ?_); refine goesL_ (some 5) rfl rfl Try.func9 (by kernel_rfl) rfl #[] rfl (by (try simp only [List.map_toArray, List.map_cons, List.map_nil]); first | done | rfl | (simp only [List.length_drop, List.length_take]; rfl)) ?_; (with_reducible refine (boscagelaw24_Awake.calls k  true _ A3.out).mono ?_); rintro e w6 ⟨rfl, hb⟩; refine ⟨_, rfl, ?_⟩; have n0_ := Aside0.mk (below_step (by repeat (first | (with_reducible first | exact HB.out | apply below_alloc | apply pw_below_drewN | apply below_drew1) | exact HB.out)) hb); clear HB; have HB := n0_; clear n0_; (try clear hb); (try clear hb2); (try clear hk); (try clear hi)))
      go_ret
      exact ⟨by first | rfl | (simp [errW_none, errW_some] <;> rfl) | (simp [*, errW_none, errW_some] <;> rfl), by repeat (first | (with_reducible first | exact HB.out | apply below_alloc | apply pw_below_drewN | apply below_drew1) | exact HB.out)⟩
    · rw [if_neg c5] at H
      have c5b0 : decide (40 < (l0.length : Int)) = false := decide_eq_false c5
      have c5b1 : decide (40 < l0.length) = false := decide_eq_false (by omega)
      have c5b2 : ∀ inst : Decidable (40 < l0.length), @decide (40 < l0.length) inst = false := fun inst => by exact @decide_eq_false _ inst (by omega)
      (try simp only [c5b2])
      clear c5b2
      clear c5
      by_cases c7 : a1 = true
      · subst c7
        have H1 : ((boscagelaw24_plain.f k l0).bind fun t248 => ((script_Encode.f k t248).bind fun t251 => ((boscagelaw24_Encode.f k t248).bind fun t254 => ((boscagelaw24_same.f t251 t254).bind fun t257 => (some t257))))) = some r := by rw [if_pos rfl] at H; exact H
        clear H
        have H := H1
        clear H1
        replace H := Option.bind_eq_some_iff.mp H
        obtain ⟨t248, A80, H⟩ := H
        replace H : ((script_Encode.f k t248).bind fun t251 => ((boscagelaw24_Encode.f k t248).bind fun t254 => ((boscagelaw24_same.f t251 t254).bind fun t257 => (some t257)))) = some r := H
        have A8 := Aside0.mk A80
        clear A80
        replace H := Option.bind_eq_some_iff.mp H
        obtain ⟨t251, A90, H⟩ := H
        replace H : ((boscagelaw24_Encode.f k t248).bind fun t254 => ((boscagelaw24_same.f t251 t254).bind fun t257 => (some t257))) = some r := H
        have A9 := Aside0.mk A90
        clear A90
        replace H := Option.bind_eq_some_iff.mp H
        obtain ⟨t254, A100, H⟩ := H
        replace H : ((boscagelaw24_same.f t251 t254).bind fun t257 => (some t257)) = some r := H
        have A10 := Aside0.mk A100
        clear A100
        replace H := Option.bind_eq_some_iff.mp H
        obtain ⟨t257, A110, H⟩ := H
        replace H : (some t257) = some r := H
        have A11 := Aside0.mk A110
        clear A110
        obtain rfl := Option.some.inj H
        go_enter Try.func4, Try.ntmps4
        go_wp2_with (first | ((with_reducible refine gate_callee (f := 9) rfl ?_); refine goesL_ (some 5) rfl rfl Try.func9 (by kernel_rfl) rfl #[] rfl (by (try simp only [List.map_toArray, List.map_cons, List.map_nil]); first | done | rfl | (simp only [List.length_drop, List.length_take]; rfl)) ?_; (with_reducible refine (boscagelaw24_Awake.calls k  true _ A3.out).mono ?_); rintro e w12 ⟨rfl, hb⟩; refine ⟨_, rfl, ?_⟩; have n0_ := Aside0.mk (below_step (by repeat (first | (with_reducible first | exact HB.out | apply below_alloc | apply pw_below_drewN | apply below_drew1) | exact HB.out)) hb); clear HB; have HB := n0_; clear n0_; (try clear hb); (try clear hb2); (try clear hk); (try clear hi)) | ((with_reducible refine gate_callee (f := 12) rfl ?_); refine goesL_ (some 12) rfl rfl Try.func12 (by kernel_rfl) rfl #[.slice A0 l0.length c0] rfl (by (try simp only [List.map_toArray, List.map_cons, List.map_nil]); first | done | rfl | (simp only [List.length_drop, List.length_take]; rfl)) ?_; (with_reducible refine (boscagelaw24_plain.calls k _ _ l0 t248 _ ?side1 ?side2 A8.out).mono ?_); (case side1 => repeat (first | exact (Kd.C_below HR0.out HB.out) | (with_reducible refine Kd.C_alloc ?_ _) | (with_reducible refine Kd.C_drewN ?_ _) | (with_reducible refine Kd.C_drew ?_))); (case side2 => exact HC0.out); rintro e w13 ⟨v249, rfl, ho0, hb⟩; refine ⟨_, rfl, ?_⟩; have n0_ := Aside0.mk (Kd.R_lower ho0 (below_size (by repeat (first | (with_reducible first | exact HB.out | apply below_alloc | apply pw_below_drewN | apply below_drew1) | exact HB.out)))); have n1_ := Aside0.mk (below_step (by repeat (first | (with_reducible first | exact HB.out | apply below_alloc | apply pw_below_drewN | apply below_drew1) | exact HB.out)) hb); clear HB; have HO250 := n0_; have HB := n1_; clear n0_ n1_; (try clear hb); (try clear hb2); (try clear hk); (try clear hi); (try clear ho0); obtain ⟨Ao14, co14, eo14⟩ := Kd.R_slice HO250.out; subst eo14) | ((with_reducible refine gate_callee (f := 14) rfl ?_); refine goesL_ (some 14) rfl rfl Try.func14 (by kernel_rfl) rfl #[.slice Ao14 t248.length co14] rfl (by (try simp only [List.map_toArray, List.map_cons, List.map_nil]); first | done | rfl | (simp only [List.length_drop, List.length_take]; rfl)) ?_; (with_reducible refine (script_Encode.calls k _ _ t248 t251 _ ?side1 ?side2 A9.out).mono ?_); (case side1 => repeat (first | exact (Kd.R_reads' HO250.out).2.2 | (with_reducible refine Kd.C_alloc ?_ _) | (with_reducible refine Kd.C_drewN ?_ _) | (with_reducible refine Kd.C_drew ?_))); (case side2 => exact (Kd.R_reads' HO250.out).2.1); rintro e w15 ⟨v252, rfl, ho0, hb⟩; refine ⟨_, rfl, ?_⟩; have n0_ := Aside0.mk (Kd.R_below (by (with_reducible repeat (first | apply Kd.R_alloc | apply Kd.R_drewN | apply Kd.R_drew)); exact HO250.out) hb); have n1_ := Aside0.mk (Kd.R_lower ho0 (below_size (by repeat (first | (with_reducible first | exact HB.out | apply below_alloc | apply pw_below_drewN | apply below_drew1) | exact HB.out)))); have n2_ := Aside0.mk (below_step (by repeat (first | (with_reducible first | exact HB.out | apply below_alloc | apply pw_below_drewN | apply below_drew1) | exact HB.out)) hb); clear HO250; clear HB; have HO250 := n0_; have HO253 := n1_; have HB := n2_; clear n0_ n1_ n2_; (try clear hb); (try clear hb2); (try clear hk); (try clear hi); (try clear ho0)) | ((with_reducible refine gate_callee (f := 15) rfl ?_); refine goesL_ (some 16) rfl rfl Try.func15 (by kernel_rfl) rfl #[.slice Ao14 t248.length co14] rfl (by (try simp only [List.map_toArray, List.map_cons, List.map_nil]); first | done | rfl | (simp only [List.length_drop, List.length_take]; rfl)) ?_; (with_reducible refine (boscagelaw24_Encode.calls k _ _ t248 t254 _ ?side1 ?side2 A10.out).mono ?_); (case side1 => repeat (first | exact (Kd.R_reads' HO250.out).2.2 | (with_reducible refine Kd.C_alloc ?_ _) | (with_reducible refine Kd.C_drewN ?_ _) | (with_reducible refine Kd.C_drew ?_))); (case side2 => exact (Kd.R_reads' HO250.out).2.1); rintro e w16 ⟨v255, rfl, ho0, hb⟩; refine ⟨_, rfl, ?_⟩; have n0_ := Aside0.mk (Kd.R_below (by (with_reducible repeat (first | apply Kd.R_alloc | apply Kd.R_drewN | apply Kd.R_drew)); exact HO250.out) hb); have n1_ := Aside0.mk (Kd.R_elder' (by (with_reducible repeat (first | apply Kd.R_alloc | apply Kd.R_drewN | apply Kd.R_drew)); exact HO253.out) (Kd.R_base ho0) hb); have n2_ := Aside0.mk (Kd.R_lower (Kd.R_new' ho0 (Kd.R_lt (by (with_reducible repeat (first | apply Kd.R_alloc | apply Kd.R_drewN | apply Kd.R_drew)); exact HO253.out))) (below_size (by repeat (first | (with_reducible first | exact HB.out | apply below_alloc | apply pw_below_drewN | apply below_drew1) | exact HB.out)))); have n3_ := Aside0.mk (below_step (by repeat (first | (with_reducible first | exact HB.out | apply below_alloc | apply pw_below_drewN | apply below_drew1) | exact HB.out)) hb); clear HO250; clear HO253; clear HB; have HO250 := n0_; have HO253 := n1_; have HO256 := n2_; have HB := n3_; clear n0_ n1_ n2_ n3_; (try clear hb); (try clear hb2); (try clear hk); (try clear hi); (try clear ho0); obtain ⟨Ao17, co17, eo17⟩ := Kd.R_slice HO253.out; subst eo17; obtain ⟨Ao18, co18, eo18⟩ := Kd.R_slice HO256.out; subst eo18) | ((with_reducible refine gate_callee (f := 13) rfl ?_); refine goesL_ (some 17) rfl rfl Try.func13 (by kernel_rfl) rfl #[.slice Ao17 t251.length co17, .slice Ao18 t254.length co18] rfl (by (try simp only [List.map_toArray, List.map_cons, List.map_nil]); first | done | rfl | (simp only [List.length_drop, List.length_take]; rfl)) ?_; (with_reducible refine (boscagelaw24_same.calls _ _ t251 _ _ t254 t257 _ ?side1 ?side2 ?side3 ?side4 A11.out).mono ?_); (case side1 => repeat (first | exact (Kd.R_reads' HO253.out).2.2 | (with_reducible refine Kd.C_alloc ?_ _) | (with_reducible refine Kd.C_drewN ?_ _) | (with_reducible refine Kd.C_drew ?_))); (case side2 => exact (Kd.R_reads' HO253.out).2.1); (case side3 => repeat (first | exact (Kd.R_reads' HO256.out).2.2 | (with_reducible refine Kd.C_alloc ?_ _) | (with_reducible refine Kd.C_drewN ?_ _) | (with_reducible refine Kd.C_drew ?_))); (case side4 => exact (Kd.R_reads' HO256.out).2.1); rintro e w' ⟨rfl, ⟨nd, rfl⟩⟩; refine ⟨_, rfl, ?_⟩))
        go_ret
        exact ⟨by first | rfl | (simp [errW_none, errW_some] <;> rfl) | (simp [*, errW_none, errW_some] <;> rfl), by repeat (first | (with_reducible first | exact HB.out | apply below_alloc | apply pw_below_drewN | apply below_drew1) | exact HB.out)⟩
      · replace c7 := Bool.eq_false_iff.mpr c7
        subst c7
        have H1 : ((script_Encode.f k l0).bind fun t258 => ((boscagelaw24_Encode.f k l0).bind fun t261 => ((boscagelaw24_same.f t258 t261).bind fun t264 => (some t264)))) = some r := by rw [if_neg (show ¬ (false = true) by decide)] at H; exact H
        clear H
        have H := H1
        clear H1
        replace H := Option.bind_eq_some_iff.mp H
        obtain ⟨t258, A190, H⟩ := H
        replace H : ((boscagelaw24_Encode.f k l0).bind fun t261 => ((boscagelaw24_same.f t258 t261).bind fun t264 => (some t264))) = some r := H
        have A19 := Aside0.mk A190
        clear A190
        replace H := Option.bind_eq_some_iff.mp H
        obtain ⟨t261, A200, H⟩ := H
        replace H : ((boscagelaw24_same.f t258 t261).bind fun t264 => (some t264)) = some r := H
        have A20 := Aside0.mk A200
        clear A200
        replace H := Option.bind_eq_some_iff.mp H
        obtain ⟨t264, A210, H⟩ := H
        replace H : (some t264) = some r := H
        have A21 := Aside0.mk A210
        clear A210
        obtain rfl := Option.some.inj H
        go_enter Try.func4, Try.ntmps4
        go_wp2_with (first | ((with_reducible refine gate_callee (f := 9) rfl ?_); refine goesL_ (some 5) rfl rfl Try.func9 (by kernel_rfl) rfl #[] rfl (by (try simp only [List.map_toArray, List.map_cons, List.map_nil]); first | done | rfl | (simp only [List.length_drop, List.length_take]; rfl)) ?_; (with_reducible refine (boscagelaw24_Awake.calls k  true _ A3.out).mono ?_); rintro e w22 ⟨rfl, hb⟩; refine ⟨_, rfl, ?_⟩; have n0_ := Aside0.mk (below_step (by repeat (first | (with_reducible first | exact HB.out | apply below_alloc | apply pw_below_drewN | apply below_drew1) | exact HB.out)) hb); clear HB; have HB := n0_; clear n0_; (try clear hb); (try clear hb2); (try clear hk); (try clear hi)) | ((with_reducible refine gate_callee (f := 14) rfl ?_); refine goesL_ (some 14) rfl rfl Try.func14 (by kernel_rfl) rfl #[.slice A0 l0.length c0] rfl (by (try simp only [List.map_toArray, List.map_cons, List.map_nil]); first | done | rfl | (simp only [List.length_drop, List.length_take]; rfl)) ?_; (with_reducible refine (script_Encode.calls k _ _ l0 t258 _ ?side1 ?side2 A19.out).mono ?_); (case side1 => repeat (first | exact (Kd.C_below HR0.out HB.out) | (with_reducible refine Kd.C_alloc ?_ _) | (with_reducible refine Kd.C_drewN ?_ _) | (with_reducible refine Kd.C_drew ?_))); (case side2 => exact HC0.out); rintro e w23 ⟨v259, rfl, ho0, hb⟩; refine ⟨_, rfl, ?_⟩; have n0_ := Aside0.mk (Kd.R_lower ho0 (below_size (by repeat (first | (with_reducible first | exact HB.out | apply below_alloc | apply pw_below_drewN | apply below_drew1) | exact HB.out)))); have n1_ := Aside0.mk (below_step (by repeat (first | (with_reducible first | exact HB.out | apply below_alloc | apply pw_below_drewN | apply below_drew1) | exact HB.out)) hb); clear HB; have HO260 := n0_; have HB := n1_; clear n0_ n1_; (try clear hb); (try clear hb2); (try clear hk); (try clear hi); (try clear ho0)) | ((with_reducible refine gate_callee (f := 15) rfl ?_); refine goesL_ (some 16) rfl rfl Try.func15 (by kernel_rfl) rfl #[.slice A0 l0.length c0] rfl (by (try simp only [List.map_toArray, List.map_cons, List.map_nil]); first | done | rfl | (simp only [List.length_drop, List.length_take]; rfl)) ?_; (with_reducible refine (boscagelaw24_Encode.calls k _ _ l0 t261 _ ?side1 ?side2 A20.out).mono ?_); (case side1 => repeat (first | exact (Kd.C_below HR0.out HB.out) | (with_reducible refine Kd.C_alloc ?_ _) | (with_reducible refine Kd.C_drewN ?_ _) | (with_reducible refine Kd.C_drew ?_))); (case side2 => exact HC0.out); rintro e w24 ⟨v262, rfl, ho0, hb⟩; refine ⟨_, rfl, ?_⟩; have n0_ := Aside0.mk (Kd.R_elder' (by (with_reducible repeat (first | apply Kd.R_alloc | apply Kd.R_drewN | apply Kd.R_drew)); exact HO260.out) (Kd.R_base ho0) hb); have n1_ := Aside0.mk (Kd.R_lower (Kd.R_new' ho0 (Kd.R_lt (by (with_reducible repeat (first | apply Kd.R_alloc | apply Kd.R_drewN | apply Kd.R_drew)); exact HO260.out))) (below_size (by repeat (first | (with_reducible first | exact HB.out | apply below_alloc | apply pw_below_drewN | apply below_drew1) | exact HB.out)))); have n2_ := Aside0.mk (below_step (by repeat (first | (with_reducible first | exact HB.out | apply below_alloc | apply pw_below_drewN | apply below_drew1) | exact HB.out)) hb); clear HO260; clear HB; have HO260 := n0_; have HO263 := n1_; have HB := n2_; clear n0_ n1_ n2_; (try clear hb); (try clear hb2); (try clear hk); (try clear hi); (try clear ho0); obtain ⟨Ao25, co25, eo25⟩ := Kd.R_slice HO260.out; subst eo25; obtain ⟨Ao26, co26, eo26⟩ := Kd.R_slice HO263.out; subst eo26) | ((with_reducible refine gate_callee (f := 13) rfl ?_); refine goesL_ (some 17) rfl rfl Try.func13 (by kernel_rfl) rfl #[.slice Ao25 t258.length co25, .slice Ao26 t261.length co26] rfl (by (try simp only [List.map_toArray, List.map_cons, List.map_nil]); first | done | rfl | (simp only [List.length_drop, List.length_take]; rfl)) ?_; (with_reducible refine (boscagelaw24_same.calls _ _ t258 _ _ t261 t264 _ ?side1 ?side2 ?side3 ?side4 A21.out).mono ?_); (case side1 => repeat (first | exact (Kd.R_reads' HO260.out).2.2 | (with_reducible refine Kd.C_alloc ?_ _) | (with_reducible refine Kd.C_drewN ?_ _) | (with_reducible refine Kd.C_drew ?_))); (case side2 => exact (Kd.R_reads' HO260.out).2.1); (case side3 => repeat (first | exact (Kd.R_reads' HO263.out).2.2 | (with_reducible refine Kd.C_alloc ?_ _) | (with_reducible refine Kd.C_drewN ?_ _) | (with_reducible refine Kd.C_drew ?_))); (case side4 => exact (Kd.R_reads' HO263.out).2.1); rintro e w' ⟨rfl, ⟨nd, rfl⟩⟩; refine ⟨_, rfl, ?_⟩))
        go_ret
        exact ⟨by first | rfl | (simp [errW_none, errW_some] <;> rfl) | (simp [*, errW_none, errW_some] <;> rfl), by repeat (first | (with_reducible first | exact HB.out | apply below_alloc | apply pw_below_drewN | apply below_drew1) | exact HB.out)⟩
  · replace c4 := Bool.eq_false_iff.mpr c4
    subst c4
    have H1 : (some false) = some r := by rw [if_neg (show ¬ (false = true) by decide)] at H; exact H
    clear H
    have H := H1
    clear H1
    obtain rfl := Option.some.inj H
    go_enter Try.func4, Try.ntmps4
    go_wp2_with (first | ((with_reducible refine gate_callee (f := 9) rfl ?_); refine goesL_ (some 5) rfl rfl Try.func9 (by kernel_rfl) rfl #[] rfl (by (try simp only [List.map_toArray, List.map_cons, List.map_nil]); first | done | rfl | (simp only [List.length_drop, List.length_take]; rfl)) ?_; (with_reducible refine (boscagelaw24_Awake.calls k  false _ A3.out).mono ?_); rintro e w27 ⟨rfl, hb⟩; refine ⟨_, rfl, ?_⟩; have n0_ := Aside0.mk (below_step (by repeat (first | (with_reducible first | exact HB.out | apply below_alloc | apply pw_below_drewN | apply below_drew1) | exact HB.out)) hb); clear HB; have HB := n0_; clear n0_; (try clear hb); (try clear hb2); (try clear hk); (try clear hi)))
    go_ret
    exact ⟨by first | rfl | (simp [errW_none, errW_some] <;> rfl) | (simp [*, errW_none, errW_some] <;> rfl), by repeat (first | (with_reducible first | exact HB.out | apply below_alloc | apply pw_below_drewN | apply below_drew1) | exact HB.out)⟩

end Go.Proofs.Ytkommjibpeklgaa.PScriptEncodes
