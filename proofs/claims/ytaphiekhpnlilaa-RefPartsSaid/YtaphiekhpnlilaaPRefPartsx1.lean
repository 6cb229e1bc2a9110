-- PRINTED BY print.sh 35421559b90ae4d0a3588c463048766b98c2df88dd9212a6774a882060cdf62d: not written by this session
import Derived.Test.YtaphiekhpnlilaaPRefPartsx0
namespace Go.Proofs.Ytaphiekhpnlilaa.PRefParts
open Go.RowKit Go.Proofs.YtaphiekhpnlilaaW.PrintWords Go.Proofs.YtaphiekhpnlilaaW.PrintLast Go.Proofs.YtaphiekhpnlilaaW.PrintMore
attribute [local go_sem] max2_int min2_int max_two min_two max_three min_three max_four min_four   -- for this text's walks alone
set_option linter.unusedVariables false
set_option linter.unusedSimpArgs false

/-! ### ref_Of: function 10 -/
def ref_Of.f (a0 : Int) (a1 : Int) : Option (Int) := some (Go.bits .or .i64 (wrap64 ((wrap64 (Go.bits .and .u32 a1 8388607)) * 1099511627776)) (Go.bits .and .i64 (wrap64 (a0 + 1)) 1099511627775))
set_option maxHeartbeats 8000000 in
set_option maxRecDepth 100000 in
theorem ref_Of.calls (a0 : Int) (a1 : Int) (r : Int) (w : World) (h : ref_Of.f a0 a1 = some r) :
    Calls Try.prog 10 #[.int .i64 a0, .int .u32 a1] w fun e w' => e = .returned (.int .i64 r) ∧ Drawn0 w w' := by
  have H : (some (Go.bits .or .i64 (wrap64 ((wrap64 (Go.bits .and .u32 a1 8388607)) * 1099511627776)) (Go.bits .and .i64 (wrap64 (a0 + 1)) 1099511627775))) = some r := h
  clear h
  obtain rfl := Option.some.inj H
  go_enter Try.func10, Try.ntmps10
  go_wp2
  go_ret
  exact ⟨by first | rfl | (simp; done) | (simp [*]; done), by repeat (first | exact Drawn0.refl _ | apply Drawn0.step)⟩

/-! ### boscagelaw01_Awake: function 9 -/
def boscagelaw01_Awake.f  : Option (Bool) := (ref_Of.f 0 1).bind fun t101 => (some (t101 == 1099511627777))
set_option maxHeartbeats 8000000 in
set_option maxRecDepth 100000 in
theorem boscagelaw01_Awake.calls  (r : Bool) (w : World) (h : boscagelaw01_Awake.f  = some r) :
    Calls Try.prog 9 #[] w fun e w' => e = .returned (.bool r) ∧ Drawn0 w w' := by
  have H : ((ref_Of.f 0 1).bind fun t101 => (some (t101 == 1099511627777))) = some r := h
  clear h
  replace H := Option.bind_eq_some_iff.mp H
  obtain ⟨t101, A10, H⟩ := H
  replace H : (some (t101 == 1099511627777)) = some r := H
  have A1 := Aside0.mk A10
  clear A10
  obtain rfl := Option.some.inj H
  go_enter Try.func9, Try.ntmps9
  go_wp2_with (first | ((with_reducible refine gate_callee (f := 10) rfl ?_); refine goesL_ (some 1) rfl rfl Try.func10 (by kernel_rfl) rfl #[.int .i64 0, .int .u32 1] rfl (by (try simp only [List.map_toArray, List.map_cons, List.map_nil]); first | done | rfl | (simp only [List.length_drop, List.length_take]; rfl)) ?_; (with_reducible refine (ref_Of.calls 0 1 t101 _ A1.out).mono ?_); rintro e w' ⟨rfl, ⟨nd, rfl⟩⟩; refine ⟨_, rfl, ?_⟩))
  go_ret
  exact ⟨by first | rfl | (simp; done) | (simp [*]; done), by repeat (first | exact Drawn0.refl _ | apply Drawn0.step)⟩

/-! ### boscageref01_Parts: function 12 -/
def boscageref01_Parts.f (a0 : Int) : Option (Int × Int) := if (Int.tmod a0 1099511627776) < 0 then (if (Int.tmod (wrap64 (Int.tdiv (wrap64 (a0 - (wrap64 ((Int.tmod a0 1099511627776) + 1099511627776)))) 1099511627776)) 8388608) < 0 then (some (wrap64 ((wrap64 ((Int.tmod a0 1099511627776) + 1099511627776)) - 1), (wrap64 ((Int.tmod (wrap64 (Int.tdiv (wrap64 (a0 - (wrap64 ((Int.tmod a0 1099511627776) + 1099511627776)))) 1099511627776)) 8388608) + 8388608)) % 4294967296)) else (some (wrap64 ((wrap64 ((Int.tmod a0 1099511627776) + 1099511627776)) - 1), (Int.tmod (wrap64 (Int.tdiv (wrap64 (a0 - (wrap64 ((Int.tmod a0 1099511627776) + 1099511627776)))) 1099511627776)) 8388608) % 4294967296))) else (if (Int.tmod (wrap64 (Int.tdiv (wrap64 (a0 - (Int.tmod a0 1099511627776))) 1099511627776)) 8388608) < 0 then (some (wrap64 ((Int.tmod a0 1099511627776) - 1), (wrap64 ((Int.tmod (wrap64 (Int.tdiv (wrap64 (a0 - (Int.tmod a0 1099511627776))) 1099511627776)) 8388608) + 8388608)) % 4294967296)) else (some (wrap64 ((Int.tmod a0 1099511627776) - 1), (Int.tmod (wrap64 (Int.tdiv (wrap64 (a0 - (Int.tmod a0 1099511627776))) 1099511627776)) 8388608) % 4294967296)))
set_option maxHeartbeats 8000000 in
set_option maxRecDepth 100000 in
theorem boscageref01_Parts.calls (a0 : Int) (r1 : Int) (r2 : Int) (w : World) (h : boscageref01_Parts.f a0 = some (r1, r2)) :
    Calls Try.prog 12 #[.int .i64 a0] w fun e w' => e = .returned (.tuple #[.int .i64 r1, .int .u32 r2]) ∧ Drawn0 w w' := by
  have H : (if (Int.tmod a0 1099511627776) < 0 then (if (Int.tmod (wrap64 (Int.tdiv (wrap64 (a0 - (wrap64 ((Int.tmod a0 1099511627776) + 1099511627776)))) 1099511627776)) 8388608) < 0 then (some (wrap64 ((wrap64 ((Int.tmod a0 1099511627776) + 1099511627776)) - 1), (wrap64 ((Int.tmod (wrap64 (Int.tdiv (wrap64 (a0 - (wrap64 ((Int.tmod a0 1099511627776) + 1099511627776)))) 1099511627776)) 8388608) + 8388608)) % 4294967296)) else (some (wrap64 ((wrap64 ((Int.tmod a0 1099511627776) + 1099511627776)) - 1), (Int.tmod (wrap64 (Int.tdiv (wrap64 (a0 - (wrap64 ((Int.tmod a0 1099511627776) + 1099511627776)))) 1099511627776)) 8388608) % 4294967296))) else (if (Int.tmod (wrap64 (Int.tdiv (wrap64 (a0 - (Int.tmod a0 1099511627776))) 1099511627776)) 8388608) < 0 then (some (wrap64 ((Int.tmod a0 1099511627776) - 1), (wrap64 ((Int.tmod (wrap64 (Int.tdiv (wrap64 (a0 - (Int.tmod a0 1099511627776))) 1099511627776)) 8388608) + 8388608)) % 4294967296)) else (some (wrap64 ((Int.tmod a0 1099511627776) - 1), (Int.tmod (wrap64 (Int.tdiv (wrap64 (a0 - (Int.tmod a0 1099511627776))) 1099511627776)) 8388608) % 4294967296)))) = some (r1, r2) := h
  clear h
  by_cases c2 : (Int.tmod a0 1099511627776) < 0
  · rw [if_pos c2] at H
    have c2b0 : decide ((Int.tmod a0 1099511627776) < 0) = true := decide_eq_true c2
    clear c2
    by_cases c3 : (Int.tmod (wrap64 (Int.tdiv (wrap64 (a0 - (wrap64 ((Int.tmod a0 1099511627776) + 1099511627776)))) 1099511627776)) 8388608) < 0
    · rw [if_pos c3] at H
      have c3b0 : decide ((Int.tmod (wrap64 (Int.tdiv (wrap64 (a0 - (wrap64 ((Int.tmod a0 1099511627776) + 1099511627776)))) 1099511627776)) 8388608) < 0) = true := decide_eq_true c3
      clear c3
      simp only [Option.some.injEq, Prod.mk.injEq] at H
      obtain ⟨rfl, rfl⟩ := H
      go_enter Try.func12, Try.ntmps12
      go_wp2
      go_ret2
      exact ⟨by first | rfl | (simp; done) | (simp [*]; done), by repeat (first | exact Drawn0.refl _ | apply Drawn0.step)⟩
    · rw [if_neg c3] at H
      have c3b0 : decide ((Int.tmod (wrap64 (Int.tdiv (wrap64 (a0 - (wrap64 ((Int.tmod a0 1099511627776) + 1099511627776)))) 1099511627776)) 8388608) < 0) = false := decide_eq_false c3
      clear c3
      simp only [Option.some.injEq, Prod.mk.injEq] at H
      obtain ⟨rfl, rfl⟩ := H
      go_enter Try.func12, Try.ntmps12
      go_wp2
      go_ret2
      exact ⟨by first | rfl | (simp; done) | (simp [*]; done), by repeat (first | exact Drawn0.refl _ | apply Drawn0.step)⟩
  · rw [if_neg c2] at H
    have c2b0 : decide ((Int.tmod a0 1099511627776) < 0) = false := decide_eq_false c2
    clear c2
    by_cases c4 : (Int.tmod (wrap64 (Int.tdiv (wrap64 (a0 - (Int.tmod a0 1099511627776))) 1099511627776)) 8388608) < 0
    · rw [if_pos c4] at H
      have c4b0 : decide ((Int.tmod (wrap64 (Int.tdiv (wrap64 (a0 - (Int.tmod a0 1099511627776))) 1099511627776)) 8388608) < 0) = true := decide_eq_true c4
      clear c4
      simp only [Option.some.injEq, Prod.mk.injEq] at H
      obtain ⟨rfl, rfl⟩ := H
      go_enter Try.func12, Try.ntmps12
      go_wp2
      go_ret2
      exact ⟨by first | rfl | (simp; done) | (simp [*]; done), by repeat (first | exact Drawn0.refl _ | apply Drawn0.step)⟩
    · rw [if_neg c4] at H
      have c4b0 : decide ((Int.tmod (wrap64 (Int.tdiv (wrap64 (a0 - (Int.tmod a0 1099511627776))) 1099511627776)) 8388608) < 0) = false := decide_eq_false c4
      clear c4
      simp only [Option.some.injEq, Prod.mk.injEq] at H
      obtain ⟨rfl, rfl⟩ := H
      go_enter Try.func12, Try.ntmps12
      go_wp2
      go_ret2
      exact ⟨by first | rfl | (simp; done) | (simp [*]; done), by repeat (first | exact Drawn0.refl _ | apply Drawn0.step)⟩

/-! ### ref_Ref_Place: function 13 -/
def ref_Ref_Place.f (a0 : Int) : Option (Int) := some (wrap64 ((Go.bits .and .i64 a0 1099511627775) - 1))
set_option maxHeartbeats 8000000 in
set_option maxRecDepth 100000 in
theorem ref_Ref_Place.calls (a0 : Int) (r : Int) (w : World) (h : ref_Ref_Place.f a0 = some r) :
    Calls Try.prog 13 #[.int .i64 a0] w fun e w' => e = .returned (.int .i64 r) ∧ Drawn0 w w' := by
  have H : (some (wrap64 ((Go.bits .and .i64 a0 1099511627775) - 1))) = some r := h
  clear h
  obtain rfl := Option.some.inj H
  go_enter Try.func13, Try.ntmps13
  go_wp2
  go_ret
  exact ⟨by first | rfl | (simp; done) | (simp [*]; done), by repeat (first | exact Drawn0.refl _ | apply Drawn0.step)⟩

/-! ### ref_Ref_Count: function 14 -/
def ref_Ref_Count.f (a0 : Int) : Option (Int) := some (Go.bits .and .u32 (((IntKind.u64.wrap (a0)) / 1099511627776) % 4294967296) 8388607)
set_option maxHeartbeats 8000000 in
set_option maxRecDepth 100000 in
theorem ref_Ref_Count.calls (a0 : Int) (r : Int) (w : World) (h : ref_Ref_Count.f a0 = some r) :
    Calls Try.prog 14 #[.int .i64 a0] w fun e w' => e = .returned (.int .u32 r) ∧ Drawn0 w w' := by
  have H : (some (Go.bits .and .u32 (((IntKind.u64.wrap (a0)) / 1099511627776) % 4294967296) 8388607)) = some r := h
  clear h
  obtain rfl := Option.some.inj H
  go_enter Try.func14, Try.ntmps14
  go_wp2
  go_ret
  exact ⟨by first | rfl | (simp; done) | (simp [*]; done), by repeat (first | exact Drawn0.refl _ | apply Drawn0.step)⟩

/-! ### boscagelaw01_RefParts: function 6 -/
def boscagelaw01_RefParts.f (a0 : Int) : Option (Bool) := (boscageref01_Parts.f a0).bind fun bt102 => ((boscagelaw01_Awake.f).bind fun t104 => (if t104 = true then ((ref_Ref_Place.f a0).bind fun t105 => (if t105 = bt102.1 then ((ref_Ref_Count.f a0).bind fun t106 => (some (t106 == bt102.2))) else (some false))) else (some false)))
set_option maxHeartbeats 8000000 in
set_option maxRecDepth 100000 in
theorem boscagelaw01_RefParts.calls (a0 : Int) (r : Bool) (w : World) (h : boscagelaw01_RefParts.f a0 = some r) :
    Calls Try.prog 6 #[.int .i64 a0] w fun e w' => e = .returned (.bool r) ∧ Drawn0 w w' := by
  have H : ((boscageref01_Parts.f a0).bind fun bt102 => ((boscagelaw01_Awake.f).bind fun t104 => (if t104 = true then ((ref_Ref_Place.f a0).bind fun t105 => (if t105 = bt102.1 then ((ref_Ref_Count.f a0).bind fun t106 => (some (t106 == bt102.2))) else (some false))) else (some false)))) = some r := h
  clear h
  replace H := Option.bind_eq_some_iff.mp H
  obtain ⟨⟨t102, t103⟩, A20, H⟩ := H
  replace H : ((boscagelaw01_Awake.f).bind fun t104 => (if t104 = true then ((ref_Ref_Place.f a0).bind fun t105 => (if t105 = t102 then ((ref_Ref_Count.f a0).bind fun t106 => (some (t106 == t103))) else (some false))) else (some false))) = some r := H
  have A2 := Aside0.mk A20
  clear A20
  replace H := Option.bind_eq_some_iff.mp H
  obtain ⟨t104, A30, H⟩ := H
  replace H : (if t104 = true then ((ref_Ref_Place.f a0).bind fun t105 => (if t105 = t102 then ((ref_Ref_Count.f a0).bind fun t106 => (some (t106 == t103))) else (some false))) else (some false)) = some r := H
  have A3 := Aside0.mk A30
  clear A30
  by_cases c4 : t104 = true
  · subst c4
    have H1 : ((ref_Ref_Place.f a0).bind fun t105 => (if t105 = t102 then ((ref_Ref_Count.f a0).bind fun t106 => (some (t106 == t103))) else (some false))) = some r := by rw [if_pos rfl] at H; exact H
    clear H
    have H := H1
    clear H1
    replace H := Option.bind_eq_some_iff.mp H
    obtain ⟨t105, A50, H⟩ := H
    replace H : (if t105 = t102 then ((ref_Ref_Count.f a0).bind fun t106 => (some (t106 == t103))) else (some false)) = some r := H
    have A5 := Aside0.mk A50
    clear A50
    by_cases c6 : t105 = t102
    · rw [if_pos c6] at H
      have c6b0 : (t105 == t102) = true := beq_iff_eq.mpr c6
      have c6b1 : (t105 != t102) = false := bne_eq_false_iff_eq.mpr c6
      clear c6
      replace H := Option.bind_eq_some_iff.mp H
      obtain ⟨t106, A70, H⟩ := H
      replace H : (some (t106 == t103)) = some r := H
      have A7 := Aside0.mk A70
      clear A70
      obtain rfl := Option.some.inj H
      go_enter Try.func6, Try.ntmps6
      go_wp2_with (first | ((with_reducible refine gate_callee (f := 12) rfl ?_); refine goesL_ (some 7) rfl rfl Try.func12 (by kernel_rfl) rfl #[.int .i64 a0] rfl (by (try simp only [List.map_toArray, List.map_cons, List.map_nil]); first | done | rfl | (simp only [List.length_drop, List.length_take]; rfl)) ?_; (with_reducible refine (boscageref01_Parts.calls a0 t102 t103 _ A2.out).mono ?_); rintro e w' ⟨rfl, ⟨nd, rfl⟩⟩; refine ⟨_, rfl, ?_⟩) | ((with_reducible refine gate_callee (f := 9) rfl ?_); refine goesL_ (some 10) rfl rfl Try.func9 (by kernel_rfl) rfl #[] rfl (by (try simp only [List.map_toArray, List.map_cons, List.map_nil]); first | done | rfl | (simp only [List.length_drop, List.length_take]; rfl)) ?_; (with_reducible refine (boscagelaw01_Awake.calls  true _ A3.out).mono ?_); rintro e w' ⟨rfl, ⟨nd, rfl⟩⟩; refine ⟨_, rfl, ?_⟩) | (go_at_call 13; (with_reducible refine (ref_Ref_Place.calls a0 t105 _ A5.out).mono ?_); rintro e w' ⟨rfl, ⟨nd, rfl⟩⟩) | (go_at_call 14; (with_reducible refine (ref_Ref_Count.calls a0 t106 _ A7.out).mono ?_); rintro e w' ⟨rfl, ⟨nd, rfl⟩⟩))
      go_ret
      exact ⟨by first | rfl | (simp; done) | (simp [*]; done), by repeat (first | exact Drawn0.refl _ | apply Drawn0.step)⟩
    · rw [if_neg c6] at H
      have c6b0 : (t105 == t102) = false := beq_eq_false_iff_ne.mpr c6
      have c6b1 : (t105 != t102) = true := bne_iff_ne.mpr c6
      obtain rfl := Option.some.inj H
      go_enter Try.func6, Try.ntmps6
      go_wp2_with (first | ((with_reducible refine gate_callee (f := 12) rfl ?_); refine goesL_ (some 7) rfl rfl Try.func12 (by kernel_rfl) rfl #[.int .i64 a0] rfl (by (try simp only [List.map_toArray, List.map_cons, List.map_nil]); first | done | rfl | (simp only [List.length_drop, List.length_take]; rfl)) ?_; (with_reducible refine (boscageref01_Parts.calls a0 t102 t103 _ A2.out).mono ?_); rintro e w' ⟨rfl, ⟨nd, rfl⟩⟩; refine ⟨_, rfl, ?_⟩) | ((with_reducible refine gate_callee (f := 9) rfl ?_); refine goesL_ (some 10) rfl rfl Try.func9 (by kernel_rfl) rfl #[] rfl (by (try simp only [List.map_toArray, List.map_cons, List.map_nil]); first | done | rfl | (simp only [List.length_drop, List.length_take]; rfl)) ?_; (with_reducible refine (boscagelaw01_Awake.calls  true _ A3.out).mono ?_); rintro e w' ⟨rfl, ⟨nd, rfl⟩⟩; refine ⟨_, rfl, ?_⟩) | (go_at_call 13; (with_reducible refine (ref_Ref_Place.calls a0 t105 _ A5.out).mono ?_); rintro e w' ⟨rfl, ⟨nd, rfl⟩⟩))
      go_ret
      exact ⟨by first | rfl | (simp; done) | (simp [*]; done), by repeat (first | exact Drawn0.refl _ | apply Drawn0.step)⟩
  · replace c4 := Bool.eq_false_iff.mpr c4
    subst c4
    have H1 : (some false) = some r := by rw [if_neg (show ¬ (false = true) by decide)] at H; exact H
    clear H
    have H := H1
    clear H1
    obtain rfl := Option.some.inj H
    go_enter Try.func6, Try.ntmps6
    go_wp2_with (first | ((with_reducible refine gate_callee (f := 12) rfl ?_); refine goesL_ (some 7) rfl rfl Try.func12 (by kernel_rfl) rfl #[.int .i64 a0] rfl (by (try simp only [List.map_toArray, List.map_cons, List.map_nil]); first | done | rfl | (simp only [List.length_drop, List.length_take]; rfl)) ?_; (with_reducible refine (boscageref01_Parts.calls a0 t102 t103 _ A2.out).mono ?_); rintro e w' ⟨rfl, ⟨nd, rfl⟩⟩; refine ⟨_, rfl, ?_⟩) | ((with_reducible refine gate_callee (f := 9) rfl ?_); refine goesL_ (some 10) rfl rfl Try.func9 (by kernel_rfl) rfl #[] rfl (by (try simp only [List.map_toArray, List.map_cons, List.map_nil]); first | done | rfl | (simp only [List.length_drop, List.length_take]; rfl)) ?_; (with_reducible refine (boscagelaw01_Awake.calls  false _ A3.out).mono ?_); rintro e w' ⟨rfl, ⟨nd, rfl⟩⟩; refine ⟨_, rfl, ?_⟩))
    go_ret
    exact ⟨by first | rfl | (simp; done) | (simp [*]; done), by repeat (first | exact Drawn0.refl _ | apply Drawn0.step)⟩

/-- THE ONE PURE STATEMENT of boscagelaw01_RefParts: yours. -/
def boscagelaw01_RefParts.Pure : Prop := ∀ (a0 : Int), (Lit.int .i64 a0).wf = true → boscagelaw01_RefParts.f a0 = some true
theorem boscagelaw01_RefParts.walk (P : boscagelaw01_RefParts.Pure) (a0 : Int) (w : World) (w0 : (Lit.int .i64 a0).wf = true) :
    Calls Try.prog 6 #[.int .i64 a0] w fun e w' => e = .returned (.bool true) ∧ Below w.heap.size w w' := by
  have h := P a0 w0
  refine (boscagelaw01_RefParts.calls a0 true w h).mono ?_
  rintro e w' ⟨rfl, hd⟩
  exact ⟨rfl, hd.below⟩

end Go.Proofs.Ytaphiekhpnlilaa.PRefParts
