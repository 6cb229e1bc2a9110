-- PRINTED BY print.sh 35421559b90ae4d0a3588c463048766b98c2df88dd9212a6774a882060cdf62d: not written by this session
import Derived.Test.YtaphiekhpnlilaaPRefOrderx0
namespace Go.Proofs.Ytaphiekhpnlilaa.PRefOrder
open Go.RowKit Go.Proofs.YtaphiekhpnlilaaW.PrintWords Go.Proofs.YtaphiekhpnlilaaW.PrintLast Go.Proofs.YtaphiekhpnlilaaW.PrintMore
attribute [local go_sem] max2_int min2_int max_two min_two max_three min_three max_four min_four   -- for this text's walks alone
set_option linter.unusedVariables false
set_option linter.unusedSimpArgs false

/-! ### ref_Of: function 10 -/
def ref_Of.f (a0 : Int) (a1 : Int) : Option (Int) := some (Go.bits .or .i64 (wrap64 ((wrap64 (Go.bits .and .u32 a1 8388607)) * 1099511627776)) (Go.bits .and .i64 (wrap64 (a0 + 1)) 1099511627775))
set_option maxHeartbeats 8000000 in
set_option maxRecDepth 100000 in
theorem ref_Of.calls (a0 : Int) (a1 : Int) (r : Int) (w : World) (h : ref_Of.f a0 a1 = some r) :
    Calls Try.prog 10 #[.int .i64 a0, .int .u32 a1] w fun e w' => e = .returned (.int .i64 r) ∧ Drawn0 w w' := by
  have H : (some (Go.bits .or .i64 (wrap64 ((wrap64 (Go.bits .and .u32 a1 8388607)) * 1099511627776)) (Go.bits .and .i64 (wrap64 (a0 + 1)) 1099511627775))) = some r := h
  clear h
  obtain rfl := Option.some.inj H
  go_enter Try.func10, Try.ntmps10
  go_wp2
  go_ret
  exact ⟨by first | rfl | (simp; done) | (simp [*]; done), by repeat (first | exact Drawn0.refl _ | apply Drawn0.step)⟩

/-! ### boscagelaw01_Awake: function 9 -/
def boscagelaw01_Awake.f  : Option (Bool) := (ref_Of.f 0 1).bind fun t101 => (some (t101 == 1099511627777))
set_option maxHeartbeats 8000000 in
set_option maxRecDepth 100000 in
theorem boscagelaw01_Awake.calls  (r : Bool) (w : World) (h : boscagelaw01_Awake.f  = some r) :
    Calls Try.prog 9 #[] w fun e w' => e = .returned (.bool r) ∧ Drawn0 w w' := by
  have H : ((ref_Of.f 0 1).bind fun t101 => (some (t101 == 1099511627777))) = some r := h
  clear h
  replace H := Option.bind_eq_some_iff.mp H
  obtain ⟨t101, A10, H⟩ := H
  replace H : (some (t101 == 1099511627777)) = some r := H
  have A1 := Aside0.mk A10
  clear A10
  obtain rfl := Option.some.inj H
  go_enter Try.func9, Try.ntmps9
  go_wp2_with (first | ((with_reducible refine gate_callee (f := 10) rfl ?_); refine goesL_ (some 1) rfl rfl Try.func10 (by kernel_rfl) rfl #[.int .i64 0, .int .u32 1] rfl (by (try simp only [List.map_toArray, List.map_cons, List.map_nil]); first | done | rfl | (simp only [List.length_drop, List.length_take]; rfl)) ?_; (with_reducible refine (ref_Of.calls 0 1 t101 _ A1.out).mono ?_); rintro e w' ⟨rfl, ⟨nd, rfl⟩⟩; refine ⟨_, rfl, ?_⟩))
  go_ret
  exact ⟨by first | rfl | (simp; done) | (simp [*]; done), by repeat (first | exact Drawn0.refl _ | apply Drawn0.step)⟩

/-! ### boscagelaw01_RefOrder: function 5 -/
def boscagelaw01_RefOrder.j0 : Nat → Int → Int → Int → Int → Bool → Option (Bool)
  | 0, _, _, _, _, _ => none
  | k + 1, x0, x1, x2, x3, x24 => if x24 = true then (some true) else ((ref_Of.f x0 (Int.tmod x2 8388608)).bind fun t103 => ((ref_Of.f x1 (Int.tmod x3 8388608)).bind fun t104 => (if (Int.tmod x2 8388608) < (Int.tmod x3 8388608) then (some ((decide (t103 < t104)) == true)) else (if (Int.tmod x2 8388608) = (Int.tmod x3 8388608) then (some ((decide (t103 < t104)) == (decide (x0 < x1)))) else (some ((decide (t103 < t104)) == false))))))
def boscagelaw01_RefOrder.f (k : Nat) (a0 : Int) (a1 : Int) (a2 : Int) (a3 : Int) : Option (Bool) := (boscagelaw01_Awake.f).bind fun t102 => (if t102 = true then (if a0 < 0 then (boscagelaw01_RefOrder.j0 k a0 a1 a2 a3 true) else (if a0 > 1099511627774 then (boscagelaw01_RefOrder.j0 k a0 a1 a2 a3 true) else (if a1 < 0 then (boscagelaw01_RefOrder.j0 k a0 a1 a2 a3 true) else (boscagelaw01_RefOrder.j0 k a0 a1 a2 a3 (decide (a1 > 1099511627774)))))) else (some false))
theorem boscagelaw01_RefOrder.mono_l : ∀ k, (∀ y0 y1 y2 y3 y4, LeO (boscagelaw01_RefOrder.j0 k y0 y1 y2 y3 y4) (boscagelaw01_RefOrder.j0 (k + 1) y0 y1 y2 y3 y4))
  | 0 => fun _ _ _ _ _ r h => by simp [boscagelaw01_RefOrder.j0] at h
  | k + 1 => by
    have ih0 := boscagelaw01_RefOrder.mono_l k
    · intro y0 y1 y2 y3 y4
      unfold boscagelaw01_RefOrder.j0
      repeat' first
      | (with_reducible exact ih0 _ _ _ _ _)
      | (with_reducible exact LeO.refl _)
      | (with_reducible exact LeO.none _)
      | (with_reducible refine LeO.ite ?_ ?_)
      | (with_reducible refine LeO.bind ?_ (fun _ => ?_))
      | exact ih0 _ _ _ _ _
      | exact LeO.none _
      | refine LeO.ite ?_ ?_
      | refine LeO.bind ?_ (fun _ => ?_)
theorem boscagelaw01_RefOrder.mono : ∀ a0 a1 a2 a3 k, LeO (boscagelaw01_RefOrder.f k a0 a1 a2 a3) (boscagelaw01_RefOrder.f (k + 1) a0 a1 a2 a3) := by
  intro a0 a1 a2 a3 k
  have ih0 := boscagelaw01_RefOrder.mono_l k
  unfold boscagelaw01_RefOrder.f
  repeat' first
      | (with_reducible exact ih0 _ _ _ _ _)
      | (with_reducible exact LeO.refl _)
      | (with_reducible exact LeO.none _)
      | (with_reducible refine LeO.ite ?_ ?_)
      | (with_reducible refine LeO.bind ?_ (fun _ => ?_))
      | exact ih0 _ _ _ _ _
      | exact LeO.none _
      | refine LeO.ite ?_ ?_
      | refine LeO.bind ?_ (fun _ => ?_)
set_option maxHeartbeats 8000000 in
set_option maxRecDepth 100000 in
theorem boscagelaw01_RefOrder.calls (k : Nat) (a0 : Int) (a1 : Int) (a2 : Int) (a3 : Int) (r : Bool) (w : World) (h : boscagelaw01_RefOrder.f k a0 a1 a2 a3 = some r) :
    Calls Try.prog 5 #[.int .i64 a0, .int .i64 a1, .int .u32 a2, .int .u32 a3] w fun e w' => e = .returned (.bool r) ∧ Drawn0 w w' := by
  have H : ((boscagelaw01_Awake.f).bind fun t102 => (if t102 = true then (if a0 < 0 then (boscagelaw01_RefOrder.j0 k a0 a1 a2 a3 true) else (if a0 > 1099511627774 then (boscagelaw01_RefOrder.j0 k a0 a1 a2 a3 true) else (if a1 < 0 then (boscagelaw01_RefOrder.j0 k a0 a1 a2 a3 true) else (boscagelaw01_RefOrder.j0 k a0 a1 a2 a3 (decide (a1 > 1099511627774)))))) else (some false))) = some r := h
  clear h
  replace H := Option.bind_eq_some_iff.mp H
  obtain ⟨t102, A50, H⟩ := H
  replace H : (if t102 = true then (if a0 < 0 then (boscagelaw01_RefOrder.j0 k a0 a1 a2 a3 true) else (if a0 > 1099511627774 then (boscagelaw01_RefOrder.j0 k a0 a1 a2 a3 true) else (if a1 < 0 then (boscagelaw01_RefOrder.j0 k a0 a1 a2 a3 true) else (boscagelaw01_RefOrder.j0 k a0 a1 a2 a3 (decide (a1 > 1099511627774)))))) else (some false)) = some r := H
  have A5 := Aside0.mk A50
  clear A50
  by_cases c6 : t102 = true
  · subst c6
    have H1 : (if a0 < 0 then (boscagelaw01_RefOrder.j0 k a0 a1 a2 a3 true) else (if a0 > 1099511627774 then (boscagelaw01_RefOrder.j0 k a0 a1 a2 a3 true) else (if a1 < 0 then (boscagelaw01_RefOrder.j0 k a0 a1 a2 a3 true) else (boscagelaw01_RefOrder.j0 k a0 a1 a2 a3 (decide (a1 > 1099511627774)))))) = some r := by rw [if_pos rfl] at H; exact H
    clear H
    have H := H1
    clear H1
    have HC7 := Aside0.mk H
    clear H
    go_enter Try.func5, Try.ntmps5
    go_upto_region 3 with (first | ((with_reducible refine gate_callee (f := 9) rfl ?_); refine goesL_ (some 9) rfl rfl Try.func9 (by kernel_rfl) rfl #[] rfl (by (try simp only [List.map_toArray, List.map_cons, List.map_nil]); first | done | rfl | (simp only [List.length_drop, List.length_take]; rfl)) ?_; (with_reducible refine (boscagelaw01_Awake.calls  true _ A5.out).mono ?_); rintro e w' ⟨rfl, ⟨nd, rfl⟩⟩; refine ⟨_, rfl, ?_⟩))
    (try simp only [Act.put, List.setIfInBounds_toArray, List.set_cons_zero, List.set_cons_succ])
    go_cut [24] (fun v24 wc => ∃ (kq : Nat) (x24_6 : Bool), v24 = .bool x24_6 ∧ Aside0 (boscagelaw01_RefOrder.j0 kq a0 a1 a2 a3 x24_6 = some r) ∧ Aside0 (kq ≤ k) ∧ Drawn0 w wc)
    case first =>
      have H := HC7.out
      clear HC7
      by_cases c8 : a0 < 0
      · rw [if_pos c8] at H
        have c8b0 : decide (a0 < 0) = true := decide_eq_true c8
        clear c8
        (first | rw [c8b0] | (simp only [i64_w, i32_w]; rw [c8b0]) | skip)
        have H' := Aside0.mk H
        clear H
        go_wp2
        go_meet
        case rel => exact ⟨_, (true), (by first | rfl | (simp; done) | (simp [*]; done)), H', ⟨by first | omega | exact Nat.le_refl _⟩, by repeat (first | exact Drawn0.refl _ | apply Drawn0.step)⟩
      · rw [if_neg c8] at H
        have c8b0 : decide (a0 < 0) = false := decide_eq_false c8
        clear c8
        (first | rw [c8b0] | (simp only [i64_w, i32_w]; rw [c8b0]) | skip)
        by_cases c9 : a0 > 1099511627774
        · rw [if_pos c9] at H
          have c9b0 : decide (1099511627774 < a0) = true := decide_eq_true c9
          clear c9
          have H' := Aside0.mk H
          clear H
          go_wp2
          go_meet
          case rel => exact ⟨_, (true), (by first | rfl | (simp; done) | (simp [*]; done)), H', ⟨by first | omega | exact Nat.le_refl _⟩, by repeat (first | exact Drawn0.refl _ | apply Drawn0.step)⟩
        · rw [if_neg c9] at H
          have c9b0 : decide (1099511627774 < a0) = false := decide_eq_false c9
          clear c9
          by_cases c10 : a1 < 0
          · rw [if_pos c10] at H
            have c10b0 : decide (a1 < 0) = true := decide_eq_true c10
            clear c10
            have H' := Aside0.mk H
            clear H
            go_wp2
            go_meet
            case rel => exact ⟨_, (true), (by first | rfl | (simp; done) | (simp [*]; done)), H', ⟨by first | omega | exact Nat.le_refl _⟩, by repeat (first | exact Drawn0.refl _ | apply Drawn0.step)⟩
          · rw [if_neg c10] at H
            have c10b0 : decide (a1 < 0) = false := decide_eq_false c10
            clear c10
            have H' := Aside0.mk H
            clear H
            go_wp2
            go_meet
            case rel => exact ⟨_, (decide (a1 > 1099511627774)), (by first | rfl | (simp; done) | (simp [*]; done)), H', ⟨by first | omega | exact Nat.le_refl _⟩, by repeat (first | exact Drawn0.refl _ | apply Drawn0.step)⟩
    case rest =>
      clear HC7
      try clear c1
      try clear p2
      try clear c5
      try clear c6
      try clear c8
      try clear c8b0
      try clear c9
      try clear c9b0
      try clear c10
      try clear c10b0
      obtain ⟨kq, x24_6, rfl, HA, HJ6, ⟨mc6, rfl⟩⟩ := hcut
      cases kq with
      | zero => exact absurd HA.out (by simp [boscagelaw01_RefOrder.j0])
      | succ kj6 =>
        have H := HA.out
        clear HA
        simp only [boscagelaw01_RefOrder.j0] at H
        by_cases c11 : x24_6 = true
        · subst c11
          have H1 : (some true) = some r := by rw [if_pos rfl] at H; exact H
          clear H
          have H := H1
          clear H1
          obtain rfl := Option.some.inj H
          go_wp2
          go_ret
          exact ⟨by first | rfl | (simp; done) | (simp [*]; done), by repeat (first | exact Drawn0.refl _ | apply Drawn0.step)⟩
        · replace c11 := Bool.eq_false_iff.mpr c11
          subst c11
          have H1 : ((ref_Of.f a0 (Int.tmod a2 8388608)).bind fun t103 => ((ref_Of.f a1 (Int.tmod a3 8388608)).bind fun t104 => (if (Int.tmod a2 8388608) < (Int.tmod a3 8388608) then (some ((decide (t103 < t104)) == true)) else (if (Int.tmod a2 8388608) = (Int.tmod a3 8388608) then (some ((decide (t103 < t104)) == (decide (a0 < a1)))) else (some ((decide (t103 < t104)) == false)))))) = some r := by rw [if_neg (show ¬ (false = true) by decide)] at H; exact H
          clear H
          have H := H1
          clear H1
          replace H := Option.bind_eq_some_iff.mp H
          obtain ⟨t103, A120, H⟩ := H
          replace H : ((ref_Of.f a1 (Int.tmod a3 8388608)).bind fun t104 => (if (Int.tmod a2 8388608) < (Int.tmod a3 8388608) then (some ((decide (t103 < t104)) == true)) else (if (Int.tmod a2 8388608) = (Int.tmod a3 8388608) then (some ((decide (t103 < t104)) == (decide (a0 < a1)))) else (some ((decide (t103 < t104)) == false))))) = some r := H
          have A12 := Aside0.mk A120
          clear A120
          replace H := Option.bind_eq_some_iff.mp H
          obtain ⟨t104, A130, H⟩ := H
          replace H : (if (Int.tmod a2 8388608) < (Int.tmod a3 8388608) then (some ((decide (t103 < t104)) == true)) else (if (Int.tmod a2 8388608) = (Int.tmod a3 8388608) then (some ((decide (t103 < t104)) == (decide (a0 < a1)))) else (some ((decide (t103 < t104)) == false)))) = some r := H
          have A13 := Aside0.mk A130
          clear A130
          by_cases c14 : (Int.tmod a2 8388608) < (Int.tmod a3 8388608)
          · rw [if_pos c14] at H
            have c14b0 : decide ((Int.tmod a2 8388608) < (Int.tmod a3 8388608)) = true := decide_eq_true c14
            clear c14
            obtain rfl := Option.some.inj H
            go_wp2_with (first | ((with_reducible refine gate_callee (f := 10) rfl ?_); refine goesL_ (some 31) rfl rfl Try.func10 (by kernel_rfl) rfl #[.int .i64 a0, .int .u32 (Int.tmod a2 8388608)] rfl (by (try simp only [List.map_toArray, List.map_cons, List.map_nil]); first | done | rfl | (simp only [List.length_drop, List.length_take]; rfl)) ?_; (with_reducible refine (ref_Of.calls a0 (Int.tmod a2 8388608) t103 _ A12.out).mono ?_); rintro e w' ⟨rfl, ⟨nd, rfl⟩⟩; refine ⟨_, rfl, ?_⟩) | ((with_reducible refine gate_callee (f := 10) rfl ?_); refine goesL_ (some 34) rfl rfl Try.func10 (by kernel_rfl) rfl #[.int .i64 a1, .int .u32 (Int.tmod a3 8388608)] rfl (by (try simp only [List.map_toArray, List.map_cons, List.map_nil]); first | done | rfl | (simp only [List.length_drop, List.length_take]; rfl)) ?_; (with_reducible refine (ref_Of.calls a1 (Int.tmod a3 8388608) t104 _ A13.out).mono ?_); rintro e w' ⟨rfl, ⟨nd, rfl⟩⟩; refine ⟨_, rfl, ?_⟩))
            go_ret
            exact ⟨by first | rfl | (simp; done) | (simp [*]; done), by repeat (first | exact Drawn0.refl _ | apply Drawn0.step)⟩
          · rw [if_neg c14] at H
            have c14b0 : decide ((Int.tmod a2 8388608) < (Int.tmod a3 8388608)) = false := decide_eq_false c14
            clear c14
            by_cases c15 : (Int.tmod a2 8388608) = (Int.tmod a3 8388608)
            · rw [if_pos c15] at H
              have c15b0 : ((Int.tmod a2 8388608) == (Int.tmod a3 8388608)) = true := beq_iff_eq.mpr c15
              have c15b1 : ((Int.tmod a2 8388608) != (Int.tmod a3 8388608)) = false := bne_eq_false_iff_eq.mpr c15
              clear c15
              obtain rfl := Option.some.inj H
              go_wp2_with (first | ((with_reducible refine gate_callee (f := 10) rfl ?_); refine goesL_ (some 31) rfl rfl Try.func10 (by kernel_rfl) rfl #[.int .i64 a0, .int .u32 (Int.tmod a2 8388608)] rfl (by (try simp only [List.map_toArray, List.map_cons, List.map_nil]); first | done | rfl | (simp only [List.length_drop, List.length_take]; rfl)) ?_; (with_reducible refine (ref_Of.calls a0 (Int.tmod a2 8388608) t103 _ A12.out).mono ?_); rintro e w' ⟨rfl, ⟨nd, rfl⟩⟩; refine ⟨_, rfl, ?_⟩) | ((with_reducible refine gate_callee (f := 10) rfl ?_); refine goesL_ (some 34) rfl rfl Try.func10 (by kernel_rfl) rfl #[.int .i64 a1, .int .u32 (Int.tmod a3 8388608)] rfl (by (try simp only [List.map_toArray, List.map_cons, List.map_nil]); first | done | rfl | (simp only [List.length_drop, List.length_take]; rfl)) ?_; (with_reducible refine (ref_Of.calls a1 (Int.tmod a3 8388608) t104 _ A13.out).mono ?_); rintro e w' ⟨rfl, ⟨nd, rfl⟩⟩; refine ⟨_, rfl, ?_⟩))
              go_ret
              exact ⟨by first | rfl | (simp; done) | (simp [*]; done), by repeat (first | exact Drawn0.refl _ | apply Drawn0.step)⟩
            · rw [if_neg c15] at H
              have c15b0 : ((Int.tmod a2 8388608) == (Int.tmod a3 8388608)) = false := beq_eq_false_iff_ne.mpr c15
              have c15b1 : ((Int.tmod a2 8388608) != (Int.tmod a3 8388608)) = true := bne_iff_ne.mpr c15
              obtain rfl := Option.some.inj H
              go_wp2_with (first | ((with_reducible refine gate_callee (f := 10) rfl ?_); refine goesL_ (some 31) rfl rfl Try.func10 (by kernel_rfl) rfl #[.int .i64 a0, .int .u32 (Int.tmod a2 8388608)] rfl (by (try simp only [List.map_toArray, List.map_cons, List.map_nil]); first | done | rfl | (simp only [List.length_drop, List.length_take]; rfl)) ?_; (with_reducible refine (ref_Of.calls a0 (Int.tmod a2 8388608) t103 _ A12.out).mono ?_); rintro e w' ⟨rfl, ⟨nd, rfl⟩⟩; refine ⟨_, rfl, ?_⟩) | ((with_reducible refine gate_callee (f := 10) rfl ?_); refine goesL_ (some 34) rfl rfl Try.func10 (by kernel_rfl) rfl #[.int .i64 a1, .int .u32 (Int.tmod a3 8388608)] rfl (by (try simp only [List.map_toArray, List.map_cons, List.map_nil]); first | done | rfl | (simp only [List.length_drop, List.length_take]; rfl)) ?_; (with_reducible refine (ref_Of.calls a1 (Int.tmod a3 8388608) t104 _ A13.out).mono ?_); rintro e w' ⟨rfl, ⟨nd, rfl⟩⟩; refine ⟨_, rfl, ?_⟩))
              go_ret
              exact ⟨by first | rfl | (simp; done) | (simp [*]; done), by repeat (first | exact Drawn0.refl _ | apply Drawn0.step)⟩
  · replace c6 := Bool.eq_false_iff.mpr c6
    subst c6
    have H1 : (some false) = some r := by rw [if_neg (show ¬ (false = true) by decide)] at H; exact H
    clear H
    have H := H1
    clear H1
    obtain rfl := Option.some.inj H
    go_enter Try.func5, Try.ntmps5
    go_wp2_with (first | ((with_reducible refine gate_callee (f := 9) rfl ?_); refine goesL_ (some 9) rfl rfl Try.func9 (by kernel_rfl) rfl #[] rfl (by (try simp only [List.map_toArray, List.map_cons, List.map_nil]); first | done | rfl | (simp only [List.length_drop, List.length_take]; rfl)) ?_; (with_reducible refine (boscagelaw01_Awake.calls  false _ A5.out).mono ?_); rintro e w' ⟨rfl, ⟨nd, rfl⟩⟩; refine ⟨_, rfl, ?_⟩))
    go_ret
    exact ⟨by first | rfl | (simp; done) | (simp [*]; done), by repeat (first | exact Drawn0.refl _ | apply Drawn0.step)⟩

/-- THE ONE PURE STATEMENT of boscagelaw01_RefOrder: yours. -/
def boscagelaw01_RefOrder.Pure : Prop := ∀ (a0 : Int) (a1 : Int) (a2 : Int) (a3 : Int), (Lit.int .i64 a0).wf = true → (Lit.int .i64 a1).wf = true → (Lit.int .u32 a2).wf = true → (Lit.int .u32 a3).wf = true → ∃ k, boscagelaw01_RefOrder.f k a0 a1 a2 a3 = some true
theorem boscagelaw01_RefOrder.walk (P : boscagelaw01_RefOrder.Pure) (a0 : Int) (a1 : Int) (a2 : Int) (a3 : Int) (w : World) (w0 : (Lit.int .i64 a0).wf = true) (w1 : (Lit.int .i64 a1).wf = true) (w2 : (Lit.int .u32 a2).wf = true) (w3 : (Lit.int .u32 a3).wf = true) :
    Calls Try.prog 5 #[.int .i64 a0, .int .i64 a1, .int .u32 a2, .int .u32 a3] w fun e w' => e = .returned (.bool true) ∧ Below w.heap.size w w' := by
  obtain ⟨k, h⟩ := P a0 a1 a2 a3 w0 w1 w2 w3
  refine (boscagelaw01_RefOrder.calls k a0 a1 a2 a3 true w h).mono ?_
  rintro e w' ⟨rfl, hd⟩
  exact ⟨rfl, hd.below⟩

end Go.Proofs.Ytaphiekhpnlilaa.PRefOrder
