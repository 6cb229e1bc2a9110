import Derived.Test.YtkommjibpeklgaaPScriptDecodesx0
import Derived.Test.YtkommjibpeklgaaPScriptDecodesx3
import Derived.Test.YtkommjibpeklgaaMScriptDecodesx5
namespace Go.Proofs.Ytkommjibpeklgaa.PScriptDecodes
open Go.RowKit Go.Proofs.YtkommjibpeklgaaW.PrintWords Go.Proofs.YtkommjibpeklgaaW.PrintLast Go.Proofs.YtkommjibpeklgaaW.PrintMore
attribute [local go_sem] max2_int min2_int max_two min_two max_three min_three max_four min_four   -- for this text's walks alone
set_option linter.unusedVariables false
set_option linter.unusedSimpArgs false

/-! ### script_number: function 22 -/
def script_number.l0 : Nat → List Int → Int → Option (List Int)
  | 0, _, _ => none
  | k + 1, x0, x5 => if x5 ≥ 128 then (if x0.length < 140737488355328 then (script_number.l0 k (x0 ++ [Go.bits .or .u8 ((x5) % 256) 128]) (x5 / 128)) else (none)) else (if x0.length < 140737488355328 then (some (x0 ++ [(x5) % 256])) else (none))
def script_number.f (k : Nat) (l0 : List Int) (a1 : Int) : Option (List Int) := script_number.l0 k l0 (Go.bits .xor .u64 (IntKind.u64.wrap ((IntKind.u64.wrap (a1)) * 2)) (IntKind.u64.wrap (a1 / 9223372036854775808)))
theorem script_number.mono_l : ∀ k, (∀ y0 y1, LeO (script_number.l0 k y0 y1) (script_number.l0 (k + 1) y0 y1))
  | 0 => fun _ _ r h => by simp [script_number.l0] at h
  | k + 1 => by
    have ih0 := script_number.mono_l k
    · intro y0 y1
      unfold script_number.l0
      repeat' first
      | (with_reducible exact ih0 _ _)
      | (with_reducible exact LeO.refl _)
      | (with_reducible exact LeO.none _)
      | (with_reducible refine LeO.ite ?_ ?_)
      | (with_reducible refine LeO.bind ?_ (fun _ => ?_))
      | exact ih0 _ _
      | exact LeO.none _
      | refine LeO.ite ?_ ?_
      | refine LeO.bind ?_ (fun _ => ?_)
theorem script_number.mono : ∀ a0 a1 k, LeO (script_number.f k a0 a1) (script_number.f (k + 1) a0 a1) := by
  intro a0 a1 k
  have ih0 := script_number.mono_l k
  unfold script_number.f
  repeat' first
      | (with_reducible exact ih0 _ _)
      | (with_reducible exact LeO.refl _)
      | (with_reducible exact LeO.none _)
      | (with_reducible refine LeO.ite ?_ ?_)
      | (with_reducible refine LeO.bind ?_ (fun _ => ?_))
      | exact ih0 _ _
      | exact LeO.none _
      | refine LeO.ite ?_ ?_
      | refine LeO.bind ?_ (fun _ => ?_)
set_option maxHeartbeats 8000000 in
set_option maxRecDepth 100000 in
theorem script_number.calls (k : Nat) (P0_ : Nat → Prop) (u9000_ : Value) (l0 : List Int) (a1 : Int) (r : List Int) (w0 w : World) (hB : Below w0.heap.size w0 w) (ho0 : Kd.R (Kd.int .u8) 5 w w0.heap.size P0_ u9000_ l0) (h : script_number.f k l0 a1 = some r) :
    Calls Try.prog 22 #[u9000_, .int .i64 a1] w fun e w' => ∃ v0_ : Value, e = .returned (v0_) ∧ Kd.R (Kd.int .u8) 5 w' w0.heap.size (fun k_ => (P0_ k_ ∨ w.heap.size ≤ k_)) v0_ r ∧ Below w0.heap.size w0 w' ∧ Kept w w' (fun k_ => P0_ k_) := by
  have HO0 := Aside0.mk (show Kd.R (Kd.int .u8) 5 w w0.heap.size (fun k_ => (P0_ k_ ∨ w.heap.size ≤ k_)) u9000_ l0 from Kd.R_mono ho0 (fun k_ hk => (.inl hk)))
  have HK := Aside0.mk (Kept.refl w (fun k_ => P0_ k_))
  have HW0 := Aside0.mk hB.size
  have HB := Aside0.mk hB
  clear hB
  have H : (script_number.l0 k l0 (Go.bits .xor .u64 (IntKind.u64.wrap ((IntKind.u64.wrap (a1)) * 2)) (IntKind.u64.wrap (a1 / 9223372036854775808)))) = some r := h
  clear h
  have H' := Aside0.mk H
  clear H
  go_enter Try.func22, Try.ntmps22
  go_wp2
  go_loopg [0, 5] k (fun kq v0 v5 w' => ∃ (x0_1 : List Int) (x5_1 : Int), v5 = .int .u64 x5_1 ∧ Aside0 (script_number.l0 kq x0_1 x5_1 = some r) ∧ Aside0 (kq ≤ k) ∧ Aside0 (Kd.R (Kd.int .u8) 5 w' w0.heap.size (fun k_ => (P0_ k_ ∨ w.heap.size ≤ k_)) v0 x0_1) ∧ Aside0 (Kept w w' (fun k_ => P0_ k_)) ∧ Aside0 (Below w0.heap.size w0 w'))
  case atStart => exact ⟨(l0), (Go.bits .xor .u64 (IntKind.u64.wrap ((IntKind.u64.wrap (a1)) * 2)) (IntKind.u64.wrap (a1 / 9223372036854775808))), (by first | rfl | (simp; done) | (simp [*]; done)), H', ⟨Nat.le_refl _⟩, ⟨by (with_reducible repeat (first | apply Kd.R_alloc | apply Kd.R_drewN | apply Kd.R_drew)); exact HO0.out⟩, ⟨by repeat (first | (with_reducible first | exact HK.out | apply Kept.alloc | apply Kept.drewN | apply Kept.drew) | exact HK.out)⟩, ⟨by repeat (first | (with_reducible first | exact HB.out | apply below_alloc | apply pw_below_drewN | apply below_drew1) | exact HB.out)⟩⟩
  case round =>
    clear H'
    try clear c2
    try clear p2
    obtain ⟨x0_1, x5_1, rfl, HA, HK1, HO_0, HK, HB⟩ := hrel
    cases gk with
    | zero => exact absurd HA.out (by simp [script_number.l0])
    | succ k1 =>
      have H := HA.out
      clear HA
      simp only [script_number.l0] at H
      by_cases c3 : x5_1 ≥ 128
      · rw [if_pos c3] at H
        have c3b0 : decide (128 ≤ x5_1) = true := decide_eq_true c3
        clear c3
        by_cases c4 : x0_1.length < 140737488355328
        · rw [if_pos c4] at H
          have LMc4 := Aside0.mk c4
          clear c4
          obtain ⟨y145, hy145⟩ : ∃ y_ : List Int, y_ = (x0_1 ++ [Go.bits .or .u8 ((x5_1) % 256) 128]) := ⟨_, rfl⟩
          replace H : (script_number.l0 k1 y145 (x5_1 / 128)) = some r := by first | (rw [hy145]; with_reducible exact H) | (have H2_ := (Option.bind_some _ _).symm.trans H; rw [hy145]; with_reducible exact H2_) | (have H2_ := (Option.bind_some _ _).symm.trans H; with_reducible exact H2_) | with_reducible exact H | (rw [hy145]; exact H) | exact H
          have Ny145 := Aside0.mk hy145
          clear hy145
          have H' := Aside0.mk H
          clear H
          go_wp2_with (first | ((with_reducible refine gate_builtin (b := .append) (xs := #[.tmp 15, .tmp 19]) rfl ?_); at_builtin; refine Kd.R_append (Kd.int .u8) (w0 := w0) w0.heap.size rfl (.tmp 15) (.tmp 19) 33 5 (.int .u8 0) 1 rfl Try.underlying33 info5 rfl (by decide) (by omega) u0 x0_1 (Go.bits .or .u8 ((x5_1) % 256) 128) [.int .u8 (Go.bits .or .u8 ((x5_1) % 256) 128)] (fun k_ => (P0_ k_ ∨ w.heap.size ≤ k_)) (fun _ => False) rfl rfl ?aP (fun _ hk => hk.elim) ?aF ?aO ?aB ?aS ?aL ?_; (case aP => exact rfl); (case aB => exact (by repeat (first | (with_reducible first | exact HB.out | apply below_alloc | apply pw_below_drewN | apply below_drew1) | exact HB.out))); (case aF => exact (fun k_ hk => (.inr (Nat.le_trans (by first | exact HK.out.1 | exact (show Kept w _ (fun k_ => P0_ k_) from by repeat (first | (with_reducible first | exact HK.out | apply Kept.alloc | apply Kept.drewN | apply Kept.drew) | exact HK.out)).1) hk)))); (case aO => exact (by (with_reducible repeat (first | apply Kd.R_alloc | apply Kd.R_drewN | apply Kd.R_drew)); exact HO_0.out)); (case aS => exact (below_size (by repeat (first | (with_reducible first | exact HB.out | apply below_alloc | apply pw_below_drewN | apply below_drew1) | exact HB.out)))); (case aL => have := LMc4.out; omega); intro v146 w5 ho hb hg hat; rw [← Ny145.out] at ho; have n0_ := Aside0.mk (hb); have n1_ := Aside0.mk (Kept.of_grown (S := (fun k_ => P0_ k_)) hg (by repeat (first | (with_reducible first | exact HK.out | apply Kept.alloc | apply Kept.drewN | apply Kept.drew) | exact HK.out)) (fun k_ e_ => (HO_0.out.1 k_ e_))); have n2_ := Aside0.mk (ho); clear HB; clear HK; clear HO_0; have HB := n0_; have HK := n1_; have HO147 := n2_; clear n0_ n1_ n2_; clear ho hb hg hat))
          go_roundg k1
          case measure => have := HK1.out; omega
          case rel => exact ⟨(y145), (x5_1 / 128), (by first | rfl | (simp; done) | (simp [*]; done)), H', ⟨by have := HK1.out; omega⟩, ⟨by (with_reducible repeat (first | apply Kd.R_alloc | apply Kd.R_drewN | apply Kd.R_drew)); exact HO147.out⟩, ⟨by repeat (first | (with_reducible first | exact HK.out | apply Kept.alloc | apply Kept.drewN | apply Kept.drew) | exact HK.out)⟩, ⟨by repeat (first | (with_reducible first | exact HB.out | apply below_alloc | apply pw_below_drewN | apply below_drew1) | exact HB.out)⟩⟩
        · rw [if_neg c4] at H
          exact absurd H (by simp)
      · rw [if_neg c3] at H
        have c3b0 : decide (128 ≤ x5_1) = false := decide_eq_false c3
        clear c3
        by_cases c6 : x0_1.length < 140737488355328
        · rw [if_pos c6] at H
          have LMc6 := Aside0.mk c6
          clear c6
          obtain ⟨y148, hy148⟩ : ∃ y_ : List Int, y_ = (x0_1 ++ [(x5_1) % 256]) := ⟨_, rfl⟩
          replace H : (some y148) = some r := by first | (rw [hy148]; with_reducible exact H) | (have H2_ := (Option.bind_some _ _).symm.trans H; rw [hy148]; with_reducible exact H2_) | (have H2_ := (Option.bind_some _ _).symm.trans H; with_reducible exact H2_) | with_reducible exact H | (rw [hy148]; exact H) | exact H
          have Ny148 := Aside0.mk hy148
          clear hy148
          obtain rfl := Option.some.inj H
          go_wp2_with (first | ((with_reducible refine gate_builtin (b := .append) (xs := #[.tmp 23, .tmp 26]) rfl ?_); at_builtin; refine Kd.R_append (Kd.int .u8) (w0 := w0) w0.heap.size rfl (.tmp 23) (.tmp 26) 33 5 (.int .u8 0) 1 rfl Try.underlying33 info5 rfl (by decide) (by omega) u0 x0_1 ((x5_1) % 256) [.int .u8 ((x5_1) % 256)] (fun k_ => (P0_ k_ ∨ w.heap.size ≤ k_)) (fun _ => False) rfl rfl ?aP (fun _ hk => hk.elim) ?aF ?aO ?aB ?aS ?aL ?_; (case aP => exact rfl); (case aB => exact (by repeat (first | (with_reducible first | exact HB.out | apply below_alloc | apply pw_below_drewN | apply below_drew1) | exact HB.out))); (case aF => exact (fun k_ hk => (.inr (Nat.le_trans (by first | exact HK.out.1 | exact (show Kept w _ (fun k_ => P0_ k_) from by repeat (first | (with_reducible first | exact HK.out | apply Kept.alloc | apply Kept.drewN | apply Kept.drew) | exact HK.out)).1) hk)))); (case aO => exact (by (with_reducible repeat (first | apply Kd.R_alloc | apply Kd.R_drewN | apply Kd.R_drew)); exact HO_0.out)); (case aS => exact (below_size (by repeat (first | (with_reducible first | exact HB.out | apply below_alloc | apply pw_below_drewN | apply below_drew1) | exact HB.out)))); (case aL => have := LMc6.out; omega); intro v149 w7 ho hb hg hat; rw [← Ny148.out] at ho; have n0_ := Aside0.mk (hb); have n1_ := Aside0.mk (Kept.of_grown (S := (fun k_ => P0_ k_)) hg (by repeat (first | (with_reducible first | exact HK.out | apply Kept.alloc | apply Kept.drewN | apply Kept.drew) | exact HK.out)) (fun k_ e_ => (HO_0.out.1 k_ e_))); have n2_ := Aside0.mk (ho); clear HB; clear HK; clear HO_0; have HB := n0_; have HK := n1_; have HO150 := n2_; clear n0_ n1_ n2_; clear ho hb hg hat))
          go_ret
          exact ⟨_, by first | rfl | (simp [errW_none, errW_some] <;> rfl) | (simp [*, errW_none, errW_some] <;> rfl), by (with_reducible repeat (first | apply Kd.R_alloc | apply Kd.R_drewN | apply Kd.R_drew)); exact HO150.out, by repeat (first | (with_reducible first | exact HB.out | apply below_alloc | apply pw_below_drewN | apply below_drew1) | exact HB.out), by repeat (first | (with_reducible first | exact HK.out | apply Kept.alloc | apply Kept.drewN | apply Kept.drew) | exact HK.out)⟩
        · rw [if_neg c6] at H
          exact absurd H (by simp)

/-! ### script_Encode: function 14 -/
mutual
def script_Encode.l0 : Nat → List Int → List (S27) → Int → Int → Option (List Int)
  | 0, _, _, _, _ => none
  | k + 1, x3, x8, x9, x10 => if x10 < x9 then (if 0 ≤ x10 then (if x10 < (x8.length : Int) then ((script_Entry_Right.f k ((rd_T27 x8 x10).f0) ((rd_T27 x8 x10).f1) ((rd_T27 x8 x10).f2.f0) ((rd_T27 x8 x10).f2.f1) ((rd_T27 x8 x10).f2.f2) ((rd_T27 x8 x10).f2.f3)).bind fun t153 => (if t153 = true then (if x3.length < 140737488355328 then ((some (x3 ++ [Go.bits .or .u8 ((rd_T27 x8 x10).f0) ((((rd_T27 x8 x10).f1) * 4) % 256)] : List Int)).bind fun y154 => (if ((rd_T27 x8 x10).f0) = 0 then (if y154.length < 140737488355328 then ((model_Op_Numbers.f k ((rd_T27 x8 x10).f2.f0) ((rd_T27 x8 x10).f2.f1) ((rd_T27 x8 x10).f2.f2) ((rd_T27 x8 x10).f2.f3)).bind fun t160 => (script_Encode.l1 k (y154 ++ [(rd_T27 x8 x10).f2.f0]) x8 x9 x10 t160 (t160.length : Int) 0)) else (none)) else (script_Encode.l0 k y154 x8 x9 (wrap64 (x10 + 1))))) else (none)) else (script_Encode.l0 k x3 x8 x9 (wrap64 (x10 + 1))))) else (none)) else (none)) else (some x3)
def script_Encode.l1 : Nat → List Int → List (S27) → Int → Int → List Int → Int → Int → Option (List Int)
  | 0, _, _, _, _, _, _, _ => none
  | k + 1, x3, x8, x9, x10, x37, x38, x39 => if x39 < x38 then (if 0 ≤ x39 then (if x39 < (x37.length : Int) then ((script_number.f k x3 (rd x37 x39)).bind fun t164 => (script_Encode.l1 k t164 x8 x9 x10 x37 x38 (wrap64 (x39 + 1)))) else (none)) else (none)) else (script_Encode.l0 k x3 x8 x9 (wrap64 (x10 + 1)))
end
def script_Encode.f (k : Nat) (l0 : List (S27)) : Option (List Int) := script_Encode.l0 k ([] : List Int) l0 (l0.length : Int) 0
theorem script_Encode.mono_l : ∀ k, (∀ y0 y1 y2 y3, LeO (script_Encode.l0 k y0 y1 y2 y3) (script_Encode.l0 (k + 1) y0 y1 y2 y3)) ∧ (∀ y0 y1 y2 y3 y4 y5 y6, LeO (script_Encode.l1 k y0 y1 y2 y3 y4 y5 y6) (script_Encode.l1 (k + 1) y0 y1 y2 y3 y4 y5 y6))
  | 0 => ⟨fun _ _ _ _ r h => by simp [script_Encode.l0] at h, fun _ _ _ _ _ _ _ r h => by simp [script_Encode.l1] at h⟩
  | k + 1 => by
    obtain ⟨ih0, ih1⟩ := script_Encode.mono_l k
    refine ⟨?_, ?_⟩
    · intro y0 y1 y2 y3
      unfold script_Encode.l0
      repeat' first
      | (with_reducible exact ih0 _ _ _ _)
      | (with_reducible exact ih1 _ _ _ _ _ _ _)
      | (with_reducible exact model_Op_Numbers.mono _ _ _ _ _)
      | (with_reducible exact script_Entry_Right.mono _ _ _ _ _ _ _)
      | (with_reducible exact script_number.mono _ _ _)
      | (with_reducible exact LeO.refl _)
      | (with_reducible exact LeO.none _)
      | (with_reducible refine LeO.ite ?_ ?_)
      | (with_reducible refine LeO.bind ?_ (fun _ => ?_))
      | exact ih0 _ _ _ _
      | exact ih1 _ _ _ _ _ _ _
      | exact model_Op_Numbers.mono _ _ _ _ _
      | exact script_Entry_Right.mono _ _ _ _ _ _ _
      | exact script_number.mono _ _ _
      | exact LeO.none _
      | refine LeO.ite ?_ ?_
      | refine LeO.bind ?_ (fun _ => ?_)
    · intro y0 y1 y2 y3 y4 y5 y6
      unfold script_Encode.l1
      repeat' first
      | (with_reducible exact ih0 _ _ _ _)
      | (with_reducible exact ih1 _ _ _ _ _ _ _)
      | (with_reducible exact model_Op_Numbers.mono _ _ _ _ _)
      | (with_reducible exact script_Entry_Right.mono _ _ _ _ _ _ _)
      | (with_reducible exact script_number.mono _ _ _)
      | (with_reducible exact LeO.refl _)
      | (with_reducible exact LeO.none _)
      | (with_reducible refine LeO.ite ?_ ?_)
      | (with_reducible refine LeO.bind ?_ (fun _ => ?_))
      | exact ih0 _ _ _ _
      | exact ih1 _ _ _ _ _ _ _
      | exact model_Op_Numbers.mono _ _ _ _ _
      | exact script_Entry_Right.mono _ _ _ _ _ _ _
      | exact script_number.mono _ _ _
      | exact LeO.none _
      | refine LeO.ite ?_ ?_
      | refine LeO.bind ?_ (fun _ => ?_)
theorem script_Encode.mono : ∀ a0 k, LeO (script_Encode.f k a0) (script_Encode.f (k + 1) a0) := by
  intro a0 k
  obtain ⟨ih0, ih1⟩ := script_Encode.mono_l k
  unfold script_Encode.f
  repeat' first
      | (with_reducible exact ih0 _ _ _ _)
      | (with_reducible exact ih1 _ _ _ _ _ _ _)
      | (with_reducible exact model_Op_Numbers.mono _ _ _ _ _)
      | (with_reducible exact script_Entry_Right.mono _ _ _ _ _ _ _)
      | (with_reducible exact script_number.mono _ _ _)
      | (with_reducible exact LeO.refl _)
      | (with_reducible exact LeO.none _)
      | (with_reducible refine LeO.ite ?_ ?_)
      | (with_reducible refine LeO.bind ?_ (fun _ => ?_))
      | exact ih0 _ _ _ _
      | exact ih1 _ _ _ _ _ _ _
      | exact model_Op_Numbers.mono _ _ _ _ _
      | exact script_Entry_Right.mono _ _ _ _ _ _ _
      | exact script_number.mono _ _ _
      | exact LeO.none _
      | refine LeO.ite ?_ ?_
      | refine LeO.bind ?_ (fun _ => ?_)
set_option maxHeartbeats 8000000 in
set_option maxRecDepth 100000 in
theorem script_Encode.calls (k : Nat) (A0 : Option Addr) (c0 : Nat) (l0 : List (S27)) (r : List Int) (w : World) (hr0 : Kd.C k27 w A0 l0.length l0) (hc0 : l0.length ≤ c0) (h : script_Encode.f k l0 = some r) :
    Calls Try.prog 14 #[.slice A0 l0.length c0] w fun e w' => ∃ v0_ : Value, e = .returned (v0_) ∧ Kd.R (Kd.int .u8) 5 w' w.heap.size (fun _ => True) v0_ r ∧ Below w.heap.size w w' := by
  have hu27 := Try.underlying27
  have hu25 := Try.underlying25
  have HR0 := Aside0.mk hr0
  have HC0 := Aside0.mk hc0
  clear hr0 hc0
  have HB := Aside0.mk (Below.refl w.heap.size w)
  have H : (script_Encode.l0 k ([] : List Int) l0 (l0.length : Int) 0) = some r := h
  clear h
  have H' := Aside0.mk H
  clear H
  go_enter Try.func14, Try.ntmps14
  go_wp2
  go_loopg [3, 10] k (fun kq v3 v10 w' => ∃ (x3_1 : List Int) (x10_1 : Int), v10 = .int .i64 x10_1 ∧ Aside0 (script_Encode.l0 kq x3_1 l0 (l0.length : Int) x10_1 = some r) ∧ Aside0 (kq ≤ k) ∧ Aside0 (Kd.R (Kd.int .u8) 5 w' w.heap.size (fun _ => True) v3 x3_1) ∧ Aside0 (Below w.heap.size w w'))
  case atStart => exact ⟨(([] : List Int)), (0), (by first | rfl | (simp; done) | (simp [*]; done)), H', ⟨Nat.le_refl _⟩, ⟨by first | exact Kd.R_nil _ _ _ _ _ | exact Kd.N_nil _ _ _ _ _ | exact Kd.V_nil _ _ _ _ _ | exact Kd.Q_nil _ _ _ _ _ | exact Kd.S_nil _ _ _ _ _⟩, ⟨by repeat (first | (with_reducible first | exact HB.out | apply below_alloc | apply pw_below_drewN | apply below_drew1) | exact HB.out)⟩⟩
  case round =>
    clear H'
    try clear c1
    obtain ⟨x3_1, x10_1, rfl, HA, HK1, HO_3, HB⟩ := hrel
    cases gk with
    | zero => exact absurd HA.out (by simp [script_Encode.l0])
    | succ k1 =>
      have H := HA.out
      clear HA
      simp only [script_Encode.l0] at H
      by_cases c2 : x10_1 < (l0.length : Int)
      · rw [if_pos c2] at H
        have c2b0 : decide (x10_1 < (l0.length : Int)) = true := decide_eq_true c2
        clear c2
        by_cases c3 : 0 ≤ x10_1
        · rw [if_pos c3] at H
          have c3b0 : decide (0 ≤ x10_1) = true := decide_eq_true c3
          clear c3
          by_cases c4 : x10_1 < (l0.length : Int)
          · rw [if_pos c4] at H
            have c4b0 : decide (x10_1 < (l0.length : Int)) = true := decide_eq_true c4
            clear c4
            replace H := Option.bind_eq_some_iff.mp H
            obtain ⟨t153, A50, H⟩ := H
            replace H : (if t153 = true then (if x3_1.length < 140737488355328 then ((some (x3_1 ++ [Go.bits .or .u8 ((rd_T27 l0 x10_1).f0) ((((rd_T27 l0 x10_1).f1) * 4) % 256)] : List Int)).bind fun y154 => (if ((rd_T27 l0 x10_1).f0) = 0 then (if y154.length < 140737488355328 then ((model_Op_Numbers.f k1 ((rd_T27 l0 x10_1).f2.f0) ((rd_T27 l0 x10_1).f2.f1) ((rd_T27 l0 x10_1).f2.f2) ((rd_T27 l0 x10_1).f2.f3)).bind fun t160 => (script_Encode.l1 k1 (y154 ++ [(rd_T27 l0 x10_1).f2.f0]) l0 (l0.length : Int) x10_1 t160 (t160.length : Int) 0)) else (none)) else (script_Encode.l0 k1 y154 l0 (l0.length : Int) (wrap64 (x10_1 + 1))))) else (none)) else (script_Encode.l0 k1 x3_1 l0 (l0.length : Int) (wrap64 (x10_1 + 1)))) = some r := H
            have A5 := Aside0.mk A50
            clear A50
            by_cases c6 : t153 = true
            · subst c6
              have H1 : (if x3_1.length < 140737488355328 then ((some (x3_1 ++ [Go.bits .or .u8 ((rd_T27 l0 x10_1).f0) ((((rd_T27 l0 x10_1).f1) * 4) % 256)] : List Int)).bind fun y154 => (if ((rd_T27 l0 x10_1).f0) = 0 then (if y154.length < 140737488355328 then ((model_Op_Numbers.f k1 ((rd_T27 l0 x10_1).f2.f0) ((rd_T27 l0 x10_1).f2.f1) ((rd_T27 l0 x10_1).f2.f2) ((rd_T27 l0 x10_1).f2.f3)).bind fun t160 => (script_Encode.l1 k1 (y154 ++ [(rd_T27 l0 x10_1).f2.f0]) l0 (l0.length : Int) x10_1 t160 (t160.length : Int) 0)) else (none)) else (script_Encode.l0 k1 y154 l0 (l0.length : Int) (wrap64 (x10_1 + 1))))) else (none)) = some r := by rw [if_pos rfl] at H; exact H
              clear H
              have H := H1
              clear H1
              by_cases c7 : x3_1.length < 140737488355328
              · rw [if_pos c7] at H
                have LMc7 := Aside0.mk c7
                clear c7
                obtain ⟨y154, hy154⟩ : ∃ y_ : List Int, y_ = (x3_1 ++ [Go.bits .or .u8 ((rd_T27 l0 x10_1).f0) ((((rd_T27 l0 x10_1).f1) * 4) % 256)]) := ⟨_, rfl⟩
                replace H : (if ((rd_T27 l0 x10_1).f0) = 0 then (if y154.length < 140737488355328 then ((model_Op_Numbers.f k1 ((rd_T27 l0 x10_1).f2.f0) ((rd_T27 l0 x10_1).f2.f1) ((rd_T27 l0 x10_1).f2.f2) ((rd_T27 l0 x10_1).f2.f3)).bind fun t160 => (script_Encode.l1 k1 (y154 ++ [(rd_T27 l0 x10_1).f2.f0]) l0 (l0.length : Int) x10_1 t160 (t160.length : Int) 0)) else (none)) else (script_Encode.l0 k1 y154 l0 (l0.length : Int) (wrap64 (x10_1 + 1)))) = some r := by first | (rw [hy154]; with_reducible exact H) | (have H2_ := (Option.bind_some _ _).symm.trans H; rw [hy154]; with_reducible exact H2_) | (have H2_ := (Option.bind_some _ _).symm.trans H; with_reducible exact H2_) | with_reducible exact H | (rw [hy154]; exact H) | exact H
                have Ny154 := Aside0.mk hy154
                clear hy154
                by_cases c8 : ((rd_T27 l0 x10_1).f0) = 0
                · rw [if_pos c8] at H
                  have c8b0 : (((rd_T27 l0 x10_1).f0) == 0) = true := beq_iff_eq.mpr c8
                  have c8b1 : (((rd_T27 l0 x10_1).f0) != 0) = false := bne_eq_false_iff_eq.mpr c8
                  clear c8
                  by_cases c9 : y154.length < 140737488355328
                  · rw [if_pos c9] at H
                    have LMc9 := Aside0.mk c9
                    clear c9
                    obtain ⟨y157, hy157⟩ : ∃ y_ : List Int, y_ = (y154 ++ [(rd_T27 l0 x10_1).f2.f0]) := ⟨_, rfl⟩
                    replace H : ((model_Op_Numbers.f k1 ((rd_T27 l0 x10_1).f2.f0) ((rd_T27 l0 x10_1).f2.f1) ((rd_T27 l0 x10_1).f2.f2) ((rd_T27 l0 x10_1).f2.f3)).bind fun t160 => (script_Encode.l1 k1 y157 l0 (l0.length : Int) x10_1 t160 (t160.length : Int) 0)) = some r := by first | (rw [hy157]; with_reducible exact H) | (have H2_ := (Option.bind_some _ _).symm.trans H; rw [hy157]; with_reducible exact H2_) | (have H2_ := (Option.bind_some _ _).symm.trans H; with_reducible exact H2_) | with_reducible exact H | (rw [hy157]; exact H) | exact H
                    have Ny157 := Aside0.mk hy157
                    clear hy157
                    replace H := Option.bind_eq_some_iff.mp H
                    obtain ⟨t160, A100, H⟩ := H
                    replace H : (script_Encode.l1 k1 y157 l0 (l0.length : Int) x10_1 t160 (t160.length : Int) 0) = some r := H
                    have A10 := Aside0.mk A100
                    clear A100
                    have H' := Aside0.mk H
                    clear H
                    have p151 : 0 ≤ (x10_1 : Int) := of_decide_eq_true (by first | (with_reducible assumption) | assumption)
                    have q151 : x10_1 < (l0.length : Int) := of_decide_eq_true (by first | (with_reducible assumption) | assumption)
                    obtain ⟨ad151, e151, hx151_0, hx151_1, hx151_2, hx151_3, hx151_4, hx151_5⟩ := at_T27 HR0.out x10_1 p151 q151
                    cases e151
                    replace hx151_0 := (HB.out.cell (World.block_lt_of_cell? w _ hx151_0)).trans hx151_0
                    replace hx151_1 := (HB.out.cell (World.block_lt_of_cell? w _ hx151_1)).trans hx151_1
                    replace hx151_2 := (HB.out.cell (World.block_lt_of_cell? w _ hx151_2)).trans hx151_2
                    replace hx151_3 := (HB.out.cell (World.block_lt_of_cell? w _ hx151_3)).trans hx151_3
                    replace hx151_4 := (HB.out.cell (World.block_lt_of_cell? w _ hx151_4)).trans hx151_4
                    replace hx151_5 := (HB.out.cell (World.block_lt_of_cell? w _ hx151_5)).trans hx151_5
                    replace p151 := eq_true p151
                    replace q151 := eq_true q151
                    go_wp2_with (first | ((with_reducible refine gate_dst (N := 5) rfl ?_); refine box_event ?hg (N := 5) ?hd (cs := #[.int .u8 0, .int .u8 0, .int .u8 0, .int .i64 0, .int .i64 0, .int .i64 0]) (t := 27) ?hr ?_; (case hd => rfl); (case hg => rfl); (case hr => first | (go_simp; done) | (go_simp; rfl)); intro gb152 hg w11 hbox hb; have n0_ := Aside0.mk (Kd.R_below (by (with_reducible repeat (first | apply Kd.R_alloc | apply Kd.R_drewN | apply Kd.R_drew)); exact HO_3.out) hb); have n1_ := Aside0.mk (below_step (by repeat (first | (with_reducible first | exact HB.out | apply below_alloc | apply pw_below_drewN | apply below_drew1) | exact HB.out)) hb); have n2_ := Aside0.mk (hbox); have n3_ := Aside0.mk ((by rw [hg]; exact (below_size (by repeat (first | (with_reducible first | exact HB.out | apply below_alloc | apply pw_below_drewN | apply below_drew1) | exact HB.out))) : w.heap.size ≤ gb152)); have n4_ := Aside0.mk ((by rw [hg]; exact (below_size (by repeat (first | (with_reducible first | exact HB.out | apply below_alloc | apply pw_below_drewN | apply below_drew1) | exact HB.out))) : w.heap.size ≤ gb152)); clear HO_3; clear HB; have HO_3 := n0_; have HB := n1_; have BK152 := n2_; have GW152 := n3_; have GE152 := n4_; clear n0_ n1_ n2_ n3_ n4_; clear hb hbox hg; have hcz12_0 : w11.cell? ⟨gb152, 0, none⟩ = some (.int .u8 0) := (blk_cell BK152.out 0).trans rfl; have hcz12_1 : w11.cell? ⟨gb152, 1, none⟩ = some (.int .u8 0) := (blk_cell BK152.out 1).trans rfl; have hcz12_2 : w11.cell? ⟨gb152, 2, none⟩ = some (.int .u8 0) := (blk_cell BK152.out 2).trans rfl; have hcz12_3 : w11.cell? ⟨gb152, 3, none⟩ = some (.int .i64 0) := (blk_cell BK152.out 3).trans rfl; have hcz12_4 : w11.cell? ⟨gb152, 4, none⟩ = some (.int .i64 0) := (blk_cell BK152.out 4).trans rfl; have hcz12_5 : w11.cell? ⟨gb152, 5, none⟩ = some (.int .i64 0) := (blk_cell BK152.out 5).trans rfl; have hfz12_0 := blk_frozen BK152.out 0; have hfz12_1 := blk_frozen BK152.out 1; have hfz12_2 := blk_frozen BK152.out 2; have hfz12_3 := blk_frozen BK152.out 3; have hfz12_4 := blk_frozen BK152.out 4; have hfz12_5 := blk_frozen BK152.out 5) | ((with_reducible refine gate_callee (f := 10) rfl ?_); refine goesL_ (some 15) rfl rfl Try.func10 (by kernel_rfl) rfl #[.agg #[.int .u8 ((rd_T27 l0 x10_1).f0), .int .u8 ((rd_T27 l0 x10_1).f1), .int .u8 ((rd_T27 l0 x10_1).f2.f0), .int .i64 ((rd_T27 l0 x10_1).f2.f1), .int .i64 ((rd_T27 l0 x10_1).f2.f2), .int .i64 ((rd_T27 l0 x10_1).f2.f3)]] rfl (by (try simp only [List.map_toArray, List.map_cons, List.map_nil]); first | done | rfl | (simp only [List.length_drop, List.length_take]; rfl)) ?_; (with_reducible refine (script_Entry_Right.calls k1 ((rd_T27 l0 x10_1).f0) ((rd_T27 l0 x10_1).f1) ((rd_T27 l0 x10_1).f2.f0) ((rd_T27 l0 x10_1).f2.f1) ((rd_T27 l0 x10_1).f2.f2) ((rd_T27 l0 x10_1).f2.f3) true _ A5.out).mono ?_); rintro e w13 ⟨rfl, hb⟩; refine ⟨_, rfl, ?_⟩; have n0_ := Aside0.mk (Kd.R_below (by (with_reducible repeat (first | apply Kd.R_alloc | apply Kd.R_drewN | apply Kd.R_drew)); exact (Kd.R_mono (Kd.R_far (p := ⟨gb152, 5, none⟩) (Kd.R_far (p := ⟨gb152, 4, none⟩) (Kd.R_far (p := ⟨gb152, 3, none⟩) (Kd.R_far (p := ⟨gb152, 2, none⟩) (Kd.R_far (p := ⟨gb152, 1, none⟩) (Kd.R_far (p := ⟨gb152, 0, none⟩) (Kd.R_types HO_3.out BK152.out (by decide)) (fun _ hk => hk.2) (.int .u8 ((rd_T27 l0 x10_1).f0))) (fun _ hk => hk.2) (.int .u8 ((rd_T27 l0 x10_1).f1))) (fun _ hk => hk.2) (.int .u8 ((rd_T27 l0 x10_1).f2.f0))) (fun _ hk => hk.2) (.int .i64 ((rd_T27 l0 x10_1).f2.f1))) (fun _ hk => hk.2) (.int .i64 ((rd_T27 l0 x10_1).f2.f2))) (fun _ hk => hk.2) (.int .i64 ((rd_T27 l0 x10_1).f2.f3))) (fun _ h_ => h_.1))) hb); have n1_ := Aside0.mk (blk_below (g := gb152) (o := .cells #[.int .u8 ((rd_T27 l0 x10_1).f0), .int .u8 ((rd_T27 l0 x10_1).f1), .int .u8 ((rd_T27 l0 x10_1).f2.f0), .int .i64 ((rd_T27 l0 x10_1).f2.f1), .int .i64 ((rd_T27 l0 x10_1).f2.f2), .int .i64 ((rd_T27 l0 x10_1).f2.f3)] 27 (0, 0)) (by (with_reducible repeat (first | refine blk_drewN ?_ _ | refine blk_drew ?_ | refine blk_alloc ?_ _)); refine blk_put (cs := #[.int .u8 ((rd_T27 l0 x10_1).f0), .int .u8 ((rd_T27 l0 x10_1).f1), .int .u8 ((rd_T27 l0 x10_1).f2.f0), .int .i64 ((rd_T27 l0 x10_1).f2.f1), .int .i64 ((rd_T27 l0 x10_1).f2.f2), .int .i64 0]) ?_ 5 _ rfl; (with_reducible repeat (first | refine blk_drewN ?_ _ | refine blk_drew ?_ | refine blk_alloc ?_ _)); refine blk_put (cs := #[.int .u8 ((rd_T27 l0 x10_1).f0), .int .u8 ((rd_T27 l0 x10_1).f1), .int .u8 ((rd_T27 l0 x10_1).f2.f0), .int .i64 ((rd_T27 l0 x10_1).f2.f1), .int .i64 0, .int .i64 0]) ?_ 4 _ rfl; (with_reducible repeat (first | refine blk_drewN ?_ _ | refine blk_drew ?_ | refine blk_alloc ?_ _)); refine blk_put (cs := #[.int .u8 ((rd_T27 l0 x10_1).f0), .int .u8 ((rd_T27 l0 x10_1).f1), .int .u8 ((rd_T27 l0 x10_1).f2.f0), .int .i64 0, .int .i64 0, .int .i64 0]) ?_ 3 _ rfl; (with_reducible repeat (first | refine blk_drewN ?_ _ | refine blk_drew ?_ | refine blk_alloc ?_ _)); refine blk_put (cs := #[.int .u8 ((rd_T27 l0 x10_1).f0), .int .u8 ((rd_T27 l0 x10_1).f1), .int .u8 0, .int .i64 0, .int .i64 0, .int .i64 0]) ?_ 2 _ rfl; (with_reducible repeat (first | refine blk_drewN ?_ _ | refine blk_drew ?_ | refine blk_alloc ?_ _)); refine blk_put (cs := #[.int .u8 ((rd_T27 l0 x10_1).f0), .int .u8 0, .int .u8 0, .int .i64 0, .int .i64 0, .int .i64 0]) ?_ 1 _ rfl; (with_reducible repeat (first | refine blk_drewN ?_ _ | refine blk_drew ?_ | refine blk_alloc ?_ _)); refine blk_put (cs := #[.int .u8 0, .int .u8 0, .int .u8 0, .int .i64 0, .int .i64 0, .int .i64 0]) ?_ 0 _ rfl; (with_reducible repeat (first | refine blk_drewN ?_ _ | refine blk_drew ?_ | refine blk_alloc ?_ _)); exact BK152.out) hb); have n2_ := Aside0.mk (below_step (by repeat (first | (with_reducible first | exact HB.out | apply below_alloc | apply pw_below_drewN | apply below_drew1 | refine below_set ?_ GE152.out) | exact HB.out)) hb); clear HO_3; clear BK152; clear HB; have HO_3 := n0_; have BK152 := n1_; have HB := n2_; clear n0_ n1_ n2_; (try clear hb); (try clear hb2); (try clear hk); (try clear hi); have hcz14_0 : w13.cell? ⟨gb152, 0, none⟩ = some (.int .u8 ((rd_T27 l0 x10_1).f0)) := (blk_cell BK152.out 0).trans rfl; have hcz14_1 : w13.cell? ⟨gb152, 1, none⟩ = some (.int .u8 ((rd_T27 l0 x10_1).f1)) := (blk_cell BK152.out 1).trans rfl; have hcz14_2 : w13.cell? ⟨gb152, 2, none⟩ = some (.int .u8 ((rd_T27 l0 x10_1).f2.f0)) := (blk_cell BK152.out 2).trans rfl; have hcz14_3 : w13.cell? ⟨gb152, 3, none⟩ = some (.int .i64 ((rd_T27 l0 x10_1).f2.f1)) := (blk_cell BK152.out 3).trans rfl; have hcz14_4 : w13.cell? ⟨gb152, 4, none⟩ = some (.int .i64 ((rd_T27 l0 x10_1).f2.f2)) := (blk_cell BK152.out 4).trans rfl; have hcz14_5 : w13.cell? ⟨gb152, 5, none⟩ = some (.int .i64 ((rd_T27 l0 x10_1).f2.f3)) := (blk_cell BK152.out 5).trans rfl; have hfz14_0 := blk_frozen BK152.out 0; have hfz14_1 := blk_frozen BK152.out 1; have hfz14_2 := blk_frozen BK152.out 2; have hfz14_3 := blk_frozen BK152.out 3; have hfz14_4 := blk_frozen BK152.out 4; have hfz14_5 := blk_frozen BK152.out 5) | ((with_reducible refine gate_builtin (b := .append) (xs := #[.tmp 17, .tmp 24]) rfl ?_); at_builtin; refine Kd.R_append (Kd.int .u8) (w0 := w) w.heap.size rfl (.tmp 17) (.tmp 24) 33 5 (.int .u8 0) 1 rfl Try.underlying33 info5 rfl (by decide) (by omega) u3 x3_1 (Go.bits .or .u8 ((rd_T27 l0 x10_1).f0) ((((rd_T27 l0 x10_1).f1) * 4) % 256)) [.int .u8 (Go.bits .or .u8 ((rd_T27 l0 x10_1).f0) ((((rd_T27 l0 x10_1).f1) * 4) % 256))] (fun _ => True) (fun _ => False) rfl rfl ?aP (fun _ hk => hk.elim) ?aF ?aO ?aB ?aS ?aL ?_; (case aP => exact rfl); (case aB => exact (by repeat (first | (with_reducible first | exact HB.out | apply below_alloc | apply pw_below_drewN | apply below_drew1 | refine below_set ?_ GE152.out) | exact HB.out))); (case aF => exact (fun _ _ => trivial)); (case aO => exact (by (with_reducible repeat (first | apply Kd.R_alloc | apply Kd.R_drewN | apply Kd.R_drew)); exact HO_3.out)); (case aS => exact (below_size (by repeat (first | (with_reducible first | exact HB.out | apply below_alloc | apply pw_below_drewN | apply below_drew1 | refine below_set ?_ GE152.out) | exact HB.out)))); (case aL => have := LMc7.out; omega); intro v155 w15 ho hb hg hat; rw [← Ny154.out] at ho; have n0_ := Aside0.mk (blk_grown (g := gb152) (o := .cells #[.int .u8 ((rd_T27 l0 x10_1).f0), .int .u8 ((rd_T27 l0 x10_1).f1), .int .u8 ((rd_T27 l0 x10_1).f2.f0), .int .i64 ((rd_T27 l0 x10_1).f2.f1), .int .i64 ((rd_T27 l0 x10_1).f2.f2), .int .i64 ((rd_T27 l0 x10_1).f2.f3)] 27 (0, 0)) (by (with_reducible repeat (first | refine blk_drewN ?_ _ | refine blk_drew ?_ | refine blk_alloc ?_ _)); exact BK152.out) hg (Kd.R_ne HO_3.out BK152.out (by decide))); have n1_ := Aside0.mk (hb); have n2_ := Aside0.mk (ho); clear BK152; clear HB; clear HO_3; have BK152 := n0_; have HB := n1_; have HO156 := n2_; clear n0_ n1_ n2_; clear ho hb hg hat; have hcz16_0 : w15.cell? ⟨gb152, 0, none⟩ = some (.int .u8 ((rd_T27 l0 x10_1).f0)) := (blk_cell BK152.out 0).trans rfl; have hcz16_1 : w15.cell? ⟨gb152, 1, none⟩ = some (.int .u8 ((rd_T27 l0 x10_1).f1)) := (blk_cell BK152.out 1).trans rfl; have hcz16_2 : w15.cell? ⟨gb152, 2, none⟩ = some (.int .u8 ((rd_T27 l0 x10_1).f2.f0)) := (blk_cell BK152.out 2).trans rfl; have hcz16_3 : w15.cell? ⟨gb152, 3, none⟩ = some (.int .i64 ((rd_T27 l0 x10_1).f2.f1)) := (blk_cell BK152.out 3).trans rfl; have hcz16_4 : w15.cell? ⟨gb152, 4, none⟩ = some (.int .i64 ((rd_T27 l0 x10_1).f2.f2)) := (blk_cell BK152.out 4).trans rfl; have hcz16_5 : w15.cell? ⟨gb152, 5, none⟩ = some (.int .i64 ((rd_T27 l0 x10_1).f2.f3)) := (blk_cell BK152.out 5).trans rfl; have hfz16_0 := blk_frozen BK152.out 0; have hfz16_1 := blk_frozen BK152.out 1; have hfz16_2 := blk_frozen BK152.out 2; have hfz16_3 := blk_frozen BK152.out 3; have hfz16_4 := blk_frozen BK152.out 4; have hfz16_5 := blk_frozen BK152.out 5) | ((with_reducible refine gate_builtin (b := .append) (xs := #[.tmp 29, .tmp 33]) rfl ?_); at_builtin; refine Kd.R_append (Kd.int .u8) (w0 := w) w.heap.size rfl (.tmp 29) (.tmp 33) 33 5 (.int .u8 0) 1 rfl Try.underlying33 info5 rfl (by decide) (by omega) v155 y154 ((rd_T27 l0 x10_1).f2.f0) [.int .u8 ((rd_T27 l0 x10_1).f2.f0)] (fun _ => True) (fun _ => False) rfl rfl ?aP (fun _ hk => hk.elim) ?aF ?aO ?aB ?aS ?aL ?_; (case aP => exact rfl); (case aB => exact (by repeat (first | (with_reducible first | exact HB.out | apply below_alloc | apply pw_below_drewN | apply below_drew1 | refine below_set ?_ GE152.out) | exact HB.out))); (case aF => exact (fun _ _ => trivial)); (case aO => exact (by (with_reducible repeat (first | apply Kd.R_alloc | apply Kd.R_drewN | apply Kd.R_drew)); exact HO156.out)); (case aS => exact (below_size (by repeat (first | (with_reducible first | exact HB.out | apply below_alloc | apply pw_below_drewN | apply below_drew1 | refine below_set ?_ GE152.out) | exact HB.out)))); (case aL => have := LMc9.out; omega); intro v158 w17 ho hb hg hat; rw [← Ny157.out] at ho; have n0_ := Aside0.mk (blk_grown (g := gb152) (o := .cells #[.int .u8 ((rd_T27 l0 x10_1).f0), .int .u8 ((rd_T27 l0 x10_1).f1), .int .u8 ((rd_T27 l0 x10_1).f2.f0), .int .i64 ((rd_T27 l0 x10_1).f2.f1), .int .i64 ((rd_T27 l0 x10_1).f2.f2), .int .i64 ((rd_T27 l0 x10_1).f2.f3)] 27 (0, 0)) (by (with_reducible repeat (first | refine blk_drewN ?_ _ | refine blk_drew ?_ | refine blk_alloc ?_ _)); exact BK152.out) hg (Kd.R_ne HO156.out BK152.out (by decide))); have n1_ := Aside0.mk (hb); have n2_ := Aside0.mk (ho); clear BK152; clear HB; clear HO156; have BK152 := n0_; have HB := n1_; have HO159 := n2_; clear n0_ n1_ n2_; clear ho hb hg hat; have hcz18_0 : w17.cell? ⟨gb152, 0, none⟩ = some (.int .u8 ((rd_T27 l0 x10_1).f0)) := (blk_cell BK152.out 0).trans rfl; have hcz18_1 : w17.cell? ⟨gb152, 1, none⟩ = some (.int .u8 ((rd_T27 l0 x10_1).f1)) := (blk_cell BK152.out 1).trans rfl; have hcz18_2 : w17.cell? ⟨gb152, 2, none⟩ = some (.int .u8 ((rd_T27 l0 x10_1).f2.f0)) := (blk_cell BK152.out 2).trans rfl; have hcz18_3 : w17.cell? ⟨gb152, 3, none⟩ = some (.int .i64 ((rd_T27 l0 x10_1).f2.f1)) := (blk_cell BK152.out 3).trans rfl; have hcz18_4 : w17.cell? ⟨gb152, 4, none⟩ = some (.int .i64 ((rd_T27 l0 x10_1).f2.f2)) := (blk_cell BK152.out 4).trans rfl; have hcz18_5 : w17.cell? ⟨gb152, 5, none⟩ = some (.int .i64 ((rd_T27 l0 x10_1).f2.f3)) := (blk_cell BK152.out 5).trans rfl; have hfz18_0 := blk_frozen BK152.out 0; have hfz18_1 := blk_frozen BK152.out 1; have hfz18_2 := blk_frozen BK152.out 2; have hfz18_3 := blk_frozen BK152.out 3; have hfz18_4 := blk_frozen BK152.out 4; have hfz18_5 := blk_frozen BK152.out 5) | ((with_reducible refine gate_callee (f := 20) rfl ?_); refine goesL_ (some 37) rfl rfl Try.func20 (by kernel_rfl) rfl #[.agg #[.int .u8 ((rd_T27 l0 x10_1).f2.f0), .int .i64 ((rd_T27 l0 x10_1).f2.f1), .int .i64 ((rd_T27 l0 x10_1).f2.f2), .int .i64 ((rd_T27 l0 x10_1).f2.f3)]] rfl (by (try simp only [List.map_toArray, List.map_cons, List.map_nil]); first | done | rfl | (simp only [List.length_drop, List.length_take]; rfl)) ?_; (with_reducible refine (model_Op_Numbers.calls k1 ((rd_T27 l0 x10_1).f2.f0) ((rd_T27 l0 x10_1).f2.f1) ((rd_T27 l0 x10_1).f2.f2) ((rd_T27 l0 x10_1).f2.f3) t160 _ A10.out).mono ?_); rintro e w19 ⟨v161, rfl, ho0, hb⟩; refine ⟨_, rfl, ?_⟩; have n0_ := Aside0.mk (Kd.R_below (by (with_reducible repeat (first | apply Kd.R_alloc | apply Kd.R_drewN | apply Kd.R_drew)); exact HO159.out) hb); have n1_ := Aside0.mk (Kd.R_lower ho0 (below_size (by repeat (first | (with_reducible first | exact HB.out | apply below_alloc | apply pw_below_drewN | apply below_drew1 | refine below_set ?_ GE152.out) | exact HB.out)))); have n2_ := Aside0.mk (blk_below (g := gb152) (o := .cells #[.int .u8 ((rd_T27 l0 x10_1).f0), .int .u8 ((rd_T27 l0 x10_1).f1), .int .u8 ((rd_T27 l0 x10_1).f2.f0), .int .i64 ((rd_T27 l0 x10_1).f2.f1), .int .i64 ((rd_T27 l0 x10_1).f2.f2), .int .i64 ((rd_T27 l0 x10_1).f2.f3)] 27 (0, 0)) (by (with_reducible repeat (first | refine blk_drewN ?_ _ | refine blk_drew ?_ | refine blk_alloc ?_ _)); exact BK152.out) hb); have n3_ := Aside0.mk (below_step (by repeat (first | (with_reducible first | exact HB.out | apply below_alloc | apply pw_below_drewN | apply below_drew1 | refine below_set ?_ GE152.out) | exact HB.out)) hb); clear HO159; clear BK152; clear HB; have HO159 := n0_; have HO162 := n1_; have BK152 := n2_; have HB := n3_; clear n0_ n1_ n2_ n3_; (try clear hb); (try clear hb2); (try clear hk); (try clear hi); (try clear ho0); obtain ⟨Ao20, co20, eo20⟩ := Kd.R_slice HO162.out; subst eo20))
                    go_loopg [3, 39] k1 (fun kq v3 v39 w' => ∃ (x3_2 : List Int) (x39_2 : Int), v39 = .int .i64 x39_2 ∧ Aside0 (script_Encode.l1 kq x3_2 l0 (l0.length : Int) x10_1 t160 (t160.length : Int) x39_2 = some r) ∧ Aside0 (kq ≤ k1) ∧ Aside0 (Kd.R (Kd.int .u8) 5 w' w.heap.size (fun _ => True) v3 x3_2) ∧ Aside0 (Kd.R (Kd.int .i64) 2 w' w.heap.size (fun _ => True) (.slice Ao20 t160.length co20) t160) ∧ Aside0 (w'.heap[gb152]? = some (.cells #[.int .u8 ((rd_T27 l0 x10_1).f0), .int .u8 ((rd_T27 l0 x10_1).f1), .int .u8 ((rd_T27 l0 x10_1).f2.f0), .int .i64 ((rd_T27 l0 x10_1).f2.f1), .int .i64 ((rd_T27 l0 x10_1).f2.f2), .int .i64 ((rd_T27 l0 x10_1).f2.f3)] 27 (0, 0))) ∧ Aside0 (Below w.heap.size w w'))
                    case atStart => exact ⟨(y157), (0), (by first | rfl | (simp; done) | (simp [*]; done)), H', ⟨Nat.le_refl _⟩, ⟨by (with_reducible repeat (first | apply Kd.R_alloc | apply Kd.R_drewN | apply Kd.R_drew)); exact HO159.out⟩, ⟨by (with_reducible repeat (first | apply Kd.R_alloc | apply Kd.R_drewN | apply Kd.R_drew)); exact HO162.out⟩, ⟨by (with_reducible repeat (first | refine blk_drewN ?_ _ | refine blk_drew ?_ | refine blk_alloc ?_ _)); exact BK152.out⟩, ⟨by repeat (first | (with_reducible first | exact HB.out | apply below_alloc | apply pw_below_drewN | apply below_drew1 | refine below_set ?_ GE152.out) | exact HB.out)⟩⟩
                    case round =>
                      clear H'
                      try clear c1
                      try clear p1
                      try clear q1
                      try clear hx1
                      try clear c2
                      try clear c2b0
                      try clear p2
                      try clear c3
                      try clear c3b0
                      try clear c4
                      try clear c4b0
                      try clear c6
                      try clear p6
                      try clear c7
                      try clear c8
                      try clear c8b0
                      try clear c8b1
                      try clear c9
                      try clear c10
                      try clear c14
                      try clear p15
                      try clear q15
                      try clear hx15
                      try clear c20
                      try clear hcz12_0
                      try clear hcz12_1
                      try clear hcz12_2
                      try clear hcz12_3
                      try clear hcz12_4
                      try clear hcz12_5
                      try clear hcz14_0
                      try clear hcz14_1
                      try clear hcz14_2
                      try clear hcz14_3
                      try clear hcz14_4
                      try clear hcz14_5
                      try clear hcz16_0
                      try clear hcz16_1
                      try clear hcz16_2
                      try clear hcz16_3
                      try clear hcz16_4
                      try clear hcz16_5
                      try clear hcz18_0
                      try clear hcz18_1
                      try clear hcz18_2
                      try clear hcz18_3
                      try clear hcz18_4
                      try clear hcz18_5
                      try clear hfz12_0
                      try clear hfz12_1
                      try clear hfz12_2
                      try clear hfz12_3
                      try clear hfz12_4
                      try clear hfz12_5
                      try clear hfz14_0
                      try clear hfz14_1
                      try clear hfz14_2
                      try clear hfz14_3
                      try clear hfz14_4
                      try clear hfz14_5
                      try clear hfz16_0
                      try clear hfz16_1
                      try clear hfz16_2
                      try clear hfz16_3
                      try clear hfz16_4
                      try clear hfz16_5
                      try clear hfz18_0
                      try clear hfz18_1
                      try clear hfz18_2
                      try clear hfz18_3
                      try clear hfz18_4
                      try clear hfz18_5
                      try clear hx151_0
                      try clear hx151_1
                      try clear hx151_2
                      try clear hx151_3
                      try clear hx151_4
                      try clear hx151_5
                      try clear p151
                      try clear q151
                      obtain ⟨x3_2, x39_2, rfl, HA, HK2, HO_3, HO_37, BK152, HB⟩ := hrel
                      cases gk with
                      | zero => exact absurd HA.out (by simp [script_Encode.l1])
                      | succ k2 =>
                        have H := HA.out
                        clear HA
                        simp only [script_Encode.l1] at H
                        by_cases c21 : x39_2 < (t160.length : Int)
                        · rw [if_pos c21] at H
                          have c21b0 : decide (x39_2 < (t160.length : Int)) = true := decide_eq_true c21
                          clear c21
                          by_cases c22 : 0 ≤ x39_2
                          · rw [if_pos c22] at H
                            have c22b0 : decide (0 ≤ x39_2) = true := decide_eq_true c22
                            clear c22
                            by_cases c23 : x39_2 < (t160.length : Int)
                            · rw [if_pos c23] at H
                              have c23b0 : decide (x39_2 < (t160.length : Int)) = true := decide_eq_true c23
                              clear c23
                              replace H := Option.bind_eq_some_iff.mp H
                              obtain ⟨t164, A240, H⟩ := H
                              replace H : (script_Encode.l1 k2 t164 l0 (l0.length : Int) x10_1 t160 (t160.length : Int) (wrap64 (x39_2 + 1))) = some r := H
                              have A24 := Aside0.mk A240
                              clear A240
                              have H' := Aside0.mk H
                              clear H
                              have p163 : 0 ≤ (x39_2 : Int) := of_decide_eq_true (by first | (with_reducible assumption) | assumption)
                              have q163 : x39_2 < (t160.length : Int) := of_decide_eq_true (by first | (with_reducible assumption) | assumption)
                              obtain ⟨ad163, e163, hx163_0⟩ := Kd.at_int (Kd.R_reads' HO_37.out).2.2 x39_2 p163 q163
                              cases e163
                              replace p163 := eq_true p163
                              replace q163 := eq_true q163
                              obtain ⟨Ao25, co25, eo25⟩ := Kd.R_slice HO_3.out
                              subst eo25
                              go_wp2_with (first | ((with_reducible refine gate_callee (f := 22) rfl ?_); refine goesL_ (some 45) rfl rfl Try.func22 (by kernel_rfl) rfl #[.slice Ao25 x3_2.length co25, .int .i64 (rd t160 x39_2)] rfl (by (try simp only [List.map_toArray, List.map_cons, List.map_nil]); first | done | rfl | (simp only [List.length_drop, List.length_take]; rfl)) ?_; (with_reducible refine (script_number.calls k2 (fun k_ => some k_ = (.slice Ao25 x3_2.length co25 : Value).ownBlock) (.slice Ao25 x3_2.length co25) x3_2 (rd t160 x39_2) t164 w _ ?side1 ?side2 A24.out).mono ?_); (case side1 => repeat (first | (with_reducible first | exact HB.out | apply below_alloc | apply pw_below_drewN | apply below_drew1 | refine below_set ?_ GE152.out) | exact HB.out)); (case side2 => exact Kd.R_tight rfl HO_3.out); rintro e w26 ⟨v165, rfl, ho0, hb, hkp⟩; refine ⟨_, rfl, ?_⟩; have n0_ := Aside0.mk (Kd.R_mono (ok' := fun k_ => True) (Kd.R_keptB ((Kd.R_apart' HO_37.out (Kd.R_typed HO_3.out) (by decide))) hkp (fun k_ hk_ hs_ => (hk_.2) hs_)) (fun k_ hk_ => trivial)); have n1_ := Aside0.mk (blk_kept (by (with_reducible repeat (first | refine blk_drewN ?_ _ | refine blk_drew ?_ | refine blk_alloc ?_ _)); exact BK152.out) hkp (fun hs_ => (fun e_ => (Kd.R_ne HO_3.out BK152.out (by decide)) e_) hs_)); have n2_ := Aside0.mk (Kd.R_mono (ok' := fun k_ => True) ho0 (fun k_ hk_ => trivial)); have n3_ := Aside0.mk (hb); clear HO_37; clear BK152; clear HB; clear HO_3; have HO_37 := n0_; have BK152 := n1_; have HO166 := n2_; have HB := n3_; clear n0_ n1_ n2_ n3_; (try clear hb); (try clear hkp); (try clear ho0)))
                              go_roundg k2
                              case measure => have := HK1.out; have := HK2.out; omega
                              case rel => exact ⟨(t164), (wrap64 (x39_2 + 1)), (by first | rfl | (simp; done) | (simp [*]; done)), H', ⟨by have := HK1.out; have := HK2.out; omega⟩, ⟨by (with_reducible repeat (first | apply Kd.R_alloc | apply Kd.R_drewN | apply Kd.R_drew)); exact HO166.out⟩, ⟨by (with_reducible repeat (first | apply Kd.R_alloc | apply Kd.R_drewN | apply Kd.R_drew)); exact HO_37.out⟩, ⟨by (with_reducible repeat (first | refine blk_drewN ?_ _ | refine blk_drew ?_ | refine blk_alloc ?_ _)); exact BK152.out⟩, ⟨by repeat (first | (with_reducible first | exact HB.out | apply below_alloc | apply pw_below_drewN | apply below_drew1 | refine below_set ?_ GE152.out) | exact HB.out)⟩⟩
                            · rw [if_neg c23] at H
                              exact absurd H (by simp)
                          · rw [if_neg c22] at H
                            exact absurd H (by simp)
                        · rw [if_neg c21] at H
                          have c21b0 : decide (x39_2 < (t160.length : Int)) = false := decide_eq_false c21
                          clear c21
                          have H' := Aside0.mk H
                          clear H
                          go_wp2
                          go_roundg k2
                          case measure => have := HK1.out; have := HK2.out; omega
                          case rel => exact ⟨(x3_2), (wrap64 (x10_1 + 1)), (by first | rfl | (simp; done) | (simp [*]; done)), H', ⟨by have := HK1.out; have := HK2.out; omega⟩, ⟨by (with_reducible repeat (first | apply Kd.R_alloc | apply Kd.R_drewN | apply Kd.R_drew)); exact HO_3.out⟩, ⟨by repeat (first | (with_reducible first | exact HB.out | apply below_alloc | apply pw_below_drewN | apply below_drew1 | refine below_set ?_ GE152.out) | exact HB.out)⟩⟩
                  · rw [if_neg c9] at H
                    exact absurd H (by simp)
                · rw [if_neg c8] at H
                  have c8b0 : (((rd_T27 l0 x10_1).f0) == 0) = false := beq_eq_false_iff_ne.mpr c8
                  have c8b1 : (((rd_T27 l0 x10_1).f0) != 0) = true := bne_iff_ne.mpr c8
                  have H' := Aside0.mk H
                  clear H
                  have p151 : 0 ≤ (x10_1 : Int) := of_decide_eq_true (by first | (with_reducible assumption) | assumption)
                  have q151 : x10_1 < (l0.length : Int) := of_decide_eq_true (by first | (with_reducible assumption) | assumption)
                  obtain ⟨ad151, e151, hx151_0, hx151_1, hx151_2, hx151_3, hx151_4, hx151_5⟩ := at_T27 HR0.out x10_1 p151 q151
                  cases e151
                  replace hx151_0 := (HB.out.cell (World.block_lt_of_cell? w _ hx151_0)).trans hx151_0
                  replace hx151_1 := (HB.out.cell (World.block_lt_of_cell? w _ hx151_1)).trans hx151_1
                  replace hx151_2 := (HB.out.cell (World.block_lt_of_cell? w _ hx151_2)).trans hx151_2
                  replace hx151_3 := (HB.out.cell (World.block_lt_of_cell? w _ hx151_3)).trans hx151_3
                  replace hx151_4 := (HB.out.cell (World.block_lt_of_cell? w _ hx151_4)).trans hx151_4
                  replace hx151_5 := (HB.out.cell (World.block_lt_of_cell? w _ hx151_5)).trans hx151_5
                  replace p151 := eq_true p151
                  replace q151 := eq_true q151
                  go_wp2_with (first | ((with_reducible refine gate_dst (N := 5) rfl ?_); refine box_event ?hg (N := 5) ?hd (cs := #[.int .u8 0, .int .u8 0, .int .u8 0, .int .i64 0, .int .i64 0, .int .i64 0]) (t := 27) ?hr ?_; (case hd => rfl); (case hg => rfl); (case hr => first | (go_simp; done) | (go_simp; rfl)); intro gb152 hg w27 hbox hb; have n0_ := Aside0.mk (Kd.R_below (by (with_reducible repeat (first | apply Kd.R_alloc | apply Kd.R_drewN | apply Kd.R_drew)); exact HO_3.out) hb); have n1_ := Aside0.mk (below_step (by repeat (first | (with_reducible first | exact HB.out | apply below_alloc | apply pw_below_drewN | apply below_drew1) | exact HB.out)) hb); have n2_ := Aside0.mk (hbox); have n3_ := Aside0.mk ((by rw [hg]; exact (below_size (by repeat (first | (with_reducible first | exact HB.out | apply below_alloc | apply pw_below_drewN | apply below_drew1) | exact HB.out))) : w.heap.size ≤ gb152)); have n4_ := Aside0.mk ((by rw [hg]; exact (below_size (by repeat (first | (with_reducible first | exact HB.out | apply below_alloc | apply pw_below_drewN | apply below_drew1) | exact HB.out))) : w.heap.size ≤ gb152)); clear HO_3; clear HB; have HO_3 := n0_; have HB := n1_; have BK152 := n2_; have GW152 := n3_; have GE152 := n4_; clear n0_ n1_ n2_ n3_ n4_; clear hb hbox hg; have hcz28_0 : w27.cell? ⟨gb152, 0, none⟩ = some (.int .u8 0) := (blk_cell BK152.out 0).trans rfl; have hcz28_1 : w27.cell? ⟨gb152, 1, none⟩ = some (.int .u8 0) := (blk_cell BK152.out 1).trans rfl; have hcz28_2 : w27.cell? ⟨gb152, 2, none⟩ = some (.int .u8 0) := (blk_cell BK152.out 2).trans rfl; have hcz28_3 : w27.cell? ⟨gb152, 3, none⟩ = some (.int .i64 0) := (blk_cell BK152.out 3).trans rfl; have hcz28_4 : w27.cell? ⟨gb152, 4, none⟩ = some (.int .i64 0) := (blk_cell BK152.out 4).trans rfl; have hcz28_5 : w27.cell? ⟨gb152, 5, none⟩ = some (.int .i64 0) := (blk_cell BK152.out 5).trans rfl; have hfz28_0 := blk_frozen BK152.out 0; have hfz28_1 := blk_frozen BK152.out 1; have hfz28_2 := blk_frozen BK152.out 2; have hfz28_3 := blk_frozen BK152.out 3; have hfz28_4 := blk_frozen BK152.out 4; have hfz28_5 := blk_frozen BK152.out 5) | ((with_reducible refine gate_callee (f := 10) rfl ?_); refine goesL_ (some 15) rfl rfl Try.func10 (by kernel_rfl) rfl #[.agg #[.int .u8 ((rd_T27 l0 x10_1).f0), .int .u8 ((rd_T27 l0 x10_1).f1), .int .u8 ((rd_T27 l0 x10_1).f2.f0), .int .i64 ((rd_T27 l0 x10_1).f2.f1), .int .i64 ((rd_T27 l0 x10_1).f2.f2), .int .i64 ((rd_T27 l0 x10_1).f2.f3)]] rfl (by (try simp only [List.map_toArray, List.map_cons, List.map_nil]); first | done | rfl | (simp only [List.length_drop, List.length_take]; rfl)) ?_; (with_reducible refine (script_Entry_Right.calls k1 ((rd_T27 l0 x10_1).f0) ((rd_T27 l0 x10_1).f1) ((rd_T27 l0 x10_1).f2.f0) ((rd_T27 l0 x10_1).f2.f1) ((rd_T27 l0 x10_1).f2.f2) ((rd_T27 l0 x10_1).f2.f3) true _ A5.out).mono ?_); rintro e w29 ⟨rfl, hb⟩; refine ⟨_, rfl, ?_⟩; have n0_ := Aside0.mk (Kd.R_below (by (with_reducible repeat (first | apply Kd.R_alloc | apply Kd.R_drewN | apply Kd.R_drew)); exact (Kd.R_mono (Kd.R_far (p := ⟨gb152, 5, none⟩) (Kd.R_far (p := ⟨gb152, 4, none⟩) (Kd.R_far (p := ⟨gb152, 3, none⟩) (Kd.R_far (p := ⟨gb152, 2, none⟩) (Kd.R_far (p := ⟨gb152, 1, none⟩) (Kd.R_far (p := ⟨gb152, 0, none⟩) (Kd.R_types HO_3.out BK152.out (by decide)) (fun _ hk => hk.2) (.int .u8 ((rd_T27 l0 x10_1).f0))) (fun _ hk => hk.2) (.int .u8 ((rd_T27 l0 x10_1).f1))) (fun _ hk => hk.2) (.int .u8 ((rd_T27 l0 x10_1).f2.f0))) (fun _ hk => hk.2) (.int .i64 ((rd_T27 l0 x10_1).f2.f1))) (fun _ hk => hk.2) (.int .i64 ((rd_T27 l0 x10_1).f2.f2))) (fun _ hk => hk.2) (.int .i64 ((rd_T27 l0 x10_1).f2.f3))) (fun _ h_ => h_.1))) hb); have n1_ := Aside0.mk (blk_below (g := gb152) (o := .cells #[.int .u8 ((rd_T27 l0 x10_1).f0), .int .u8 ((rd_T27 l0 x10_1).f1), .int .u8 ((rd_T27 l0 x10_1).f2.f0), .int .i64 ((rd_T27 l0 x10_1).f2.f1), .int .i64 ((rd_T27 l0 x10_1).f2.f2), .int .i64 ((rd_T27 l0 x10_1).f2.f3)] 27 (0, 0)) (by (with_reducible repeat (first | refine blk_drewN ?_ _ | refine blk_drew ?_ | refine blk_alloc ?_ _)); refine blk_put (cs := #[.int .u8 ((rd_T27 l0 x10_1).f0), .int .u8 ((rd_T27 l0 x10_1).f1), .int .u8 ((rd_T27 l0 x10_1).f2.f0), .int .i64 ((rd_T27 l0 x10_1).f2.f1), .int .i64 ((rd_T27 l0 x10_1).f2.f2), .int .i64 0]) ?_ 5 _ rfl; (with_reducible repeat (first | refine blk_drewN ?_ _ | refine blk_drew ?_ | refine blk_alloc ?_ _)); refine blk_put (cs := #[.int .u8 ((rd_T27 l0 x10_1).f0), .int .u8 ((rd_T27 l0 x10_1).f1), .int .u8 ((rd_T27 l0 x10_1).f2.f0), .int .i64 ((rd_T27 l0 x10_1).f2.f1), .int .i64 0, .int .i64 0]) ?_ 4 _ rfl; (with_reducible repeat (first | refine blk_drewN ?_ _ | refine blk_drew ?_ | refine blk_alloc ?_ _)); refine blk_put (cs := #[.int .u8 ((rd_T27 l0 x10_1).f0), .int .u8 ((rd_T27 l0 x10_1).f1), .int .u8 ((rd_T27 l0 x10_1).f2.f0), .int .i64 0, .int .i64 0, .int .i64 0]) ?_ 3 _ rfl; (with_reducible repeat (first | refine blk_drewN ?_ _ | refine blk_drew ?_ | refine blk_alloc ?_ _)); refine blk_put (cs := #[.int .u8 ((rd_T27 l0 x10_1).f0), .int .u8 ((rd_T27 l0 x10_1).f1), .int .u8 0, .int .i64 0, .int .i64 0, .int .i64 0]) ?_ 2 _ rfl; (with_reducible repeat (first | refine blk_drewN ?_ _ | refine blk_drew ?_ | refine blk_alloc ?_ _)); refine blk_put (cs := #[.int .u8 ((rd_T27 l0 x10_1).f0), .int .u8 0, .int .u8 0, .int .i64 0, .int .i64 0, .int .i64 0]) ?_ 1 _ rfl; (with_reducible repeat (first | refine blk_drewN ?_ _ | refine blk_drew ?_ | refine blk_alloc ?_ _)); refine blk_put (cs := #[.int .u8 0, .int .u8 0, .int .u8 0, .int .i64 0, .int .i64 0, .int .i64 0]) ?_ 0 _ rfl; (with_reducible repeat (first | refine blk_drewN ?_ _ | refine blk_drew ?_ | refine blk_alloc ?_ _)); exact BK152.out) hb); have n2_ := Aside0.mk (below_step (by repeat (first | (with_reducible first | exact HB.out | apply below_alloc | apply pw_below_drewN | apply below_drew1 | refine below_set ?_ GE152.out) | exact HB.out)) hb); clear HO_3; clear BK152; clear HB; have HO_3 := n0_; have BK152 := n1_; have HB := n2_; clear n0_ n1_ n2_; (try clear hb); (try clear hb2); (try clear hk); (try clear hi); have hcz30_0 : w29.cell? ⟨gb152, 0, none⟩ = some (.int .u8 ((rd_T27 l0 x10_1).f0)) := (blk_cell BK152.out 0).trans rfl; have hcz30_1 : w29.cell? ⟨gb152, 1, none⟩ = some (.int .u8 ((rd_T27 l0 x10_1).f1)) := (blk_cell BK152.out 1).trans rfl; have hcz30_2 : w29.cell? ⟨gb152, 2, none⟩ = some (.int .u8 ((rd_T27 l0 x10_1).f2.f0)) := (blk_cell BK152.out 2).trans rfl; have hcz30_3 : w29.cell? ⟨gb152, 3, none⟩ = some (.int .i64 ((rd_T27 l0 x10_1).f2.f1)) := (blk_cell BK152.out 3).trans rfl; have hcz30_4 : w29.cell? ⟨gb152, 4, none⟩ = some (.int .i64 ((rd_T27 l0 x10_1).f2.f2)) := (blk_cell BK152.out 4).trans rfl; have hcz30_5 : w29.cell? ⟨gb152, 5, none⟩ = some (.int .i64 ((rd_T27 l0 x10_1).f2.f3)) := (blk_cell BK152.out 5).trans rfl; have hfz30_0 := blk_frozen BK152.out 0; have hfz30_1 := blk_frozen BK152.out 1; have hfz30_2 := blk_frozen BK152.out 2; have hfz30_3 := blk_frozen BK152.out 3; have hfz30_4 := blk_frozen BK152.out 4; have hfz30_5 := blk_frozen BK152.out 5) | ((with_reducible refine gate_builtin (b := .append) (xs := #[.tmp 17, .tmp 24]) rfl ?_); at_builtin; refine Kd.R_append (Kd.int .u8) (w0 := w) w.heap.size rfl (.tmp 17) (.tmp 24) 33 5 (.int .u8 0) 1 rfl Try.underlying33 info5 rfl (by decide) (by omega) u3 x3_1 (Go.bits .or .u8 ((rd_T27 l0 x10_1).f0) ((((rd_T27 l0 x10_1).f1) * 4) % 256)) [.int .u8 (Go.bits .or .u8 ((rd_T27 l0 x10_1).f0) ((((rd_T27 l0 x10_1).f1) * 4) % 256))] (fun _ => True) (fun _ => False) rfl rfl ?aP (fun _ hk => hk.elim) ?aF ?aO ?aB ?aS ?aL ?_; (case aP => exact rfl); (case aB => exact (by repeat (first | (with_reducible first | exact HB.out | apply below_alloc | apply pw_below_drewN | apply below_drew1 | refine below_set ?_ GE152.out) | exact HB.out))); (case aF => exact (fun _ _ => trivial)); (case aO => exact (by (with_reducible repeat (first | apply Kd.R_alloc | apply Kd.R_drewN | apply Kd.R_drew)); exact HO_3.out)); (case aS => exact (below_size (by repeat (first | (with_reducible first | exact HB.out | apply below_alloc | apply pw_below_drewN | apply below_drew1 | refine below_set ?_ GE152.out) | exact HB.out)))); (case aL => have := LMc7.out; omega); intro v155 w31 ho hb hg hat; rw [← Ny154.out] at ho; have n0_ := Aside0.mk (blk_grown (g := gb152) (o := .cells #[.int .u8 ((rd_T27 l0 x10_1).f0), .int .u8 ((rd_T27 l0 x10_1).f1), .int .u8 ((rd_T27 l0 x10_1).f2.f0), .int .i64 ((rd_T27 l0 x10_1).f2.f1), .int .i64 ((rd_T27 l0 x10_1).f2.f2), .int .i64 ((rd_T27 l0 x10_1).f2.f3)] 27 (0, 0)) (by (with_reducible repeat (first | refine blk_drewN ?_ _ | refine blk_drew ?_ | refine blk_alloc ?_ _)); exact BK152.out) hg (Kd.R_ne HO_3.out BK152.out (by decide))); have n1_ := Aside0.mk (hb); have n2_ := Aside0.mk (ho); clear BK152; clear HB; clear HO_3; have BK152 := n0_; have HB := n1_; have HO156 := n2_; clear n0_ n1_ n2_; clear ho hb hg hat; have hcz32_0 : w31.cell? ⟨gb152, 0, none⟩ = some (.int .u8 ((rd_T27 l0 x10_1).f0)) := (blk_cell BK152.out 0).trans rfl; have hcz32_1 : w31.cell? ⟨gb152, 1, none⟩ = some (.int .u8 ((rd_T27 l0 x10_1).f1)) := (blk_cell BK152.out 1).trans rfl; have hcz32_2 : w31.cell? ⟨gb152, 2, none⟩ = some (.int .u8 ((rd_T27 l0 x10_1).f2.f0)) := (blk_cell BK152.out 2).trans rfl; have hcz32_3 : w31.cell? ⟨gb152, 3, none⟩ = some (.int .i64 ((rd_T27 l0 x10_1).f2.f1)) := (blk_cell BK152.out 3).trans rfl; have hcz32_4 : w31.cell? ⟨gb152, 4, none⟩ = some (.int .i64 ((rd_T27 l0 x10_1).f2.f2)) := (blk_cell BK152.out 4).trans rfl; have hcz32_5 : w31.cell? ⟨gb152, 5, none⟩ = some (.int .i64 ((rd_T27 l0 x10_1).f2.f3)) := (blk_cell BK152.out 5).trans rfl; have hfz32_0 := blk_frozen BK152.out 0; have hfz32_1 := blk_frozen BK152.out 1; have hfz32_2 := blk_frozen BK152.out 2; have hfz32_3 := blk_frozen BK152.out 3; have hfz32_4 := blk_frozen BK152.out 4; have hfz32_5 := blk_frozen BK152.out 5))
                  go_roundg k1
                  case measure => have := HK1.out; omega
                  case rel => exact ⟨(y154), (wrap64 (x10_1 + 1)), (by first | rfl | (simp; done) | (simp [*]; done)), H', ⟨by have := HK1.out; omega⟩, ⟨by (with_reducible repeat (first | apply Kd.R_alloc | apply Kd.R_drewN | apply Kd.R_drew)); exact HO156.out⟩, ⟨by repeat (first | (with_reducible first | exact HB.out | apply below_alloc | apply pw_below_drewN | apply below_drew1 | refine below_set ?_ GE152.out) | exact HB.out)⟩⟩
              · rw [if_neg c7] at H
                exact absurd H (by simp)
            · replace c6 := Bool.eq_false_iff.mpr c6
              subst c6
              have H1 : (script_Encode.l0 k1 x3_1 l0 (l0.length : Int) (wrap64 (x10_1 + 1))) = some r := by rw [if_neg (show ¬ (false = true) by decide)] at H; exact H
              clear H
              have H := H1
              clear H1
              have H' := Aside0.mk H
              clear H
              have p151 : 0 ≤ (x10_1 : Int) := of_decide_eq_true (by first | (with_reducible assumption) | assumption)
              have q151 : x10_1 < (l0.length : Int) := of_decide_eq_true (by first | (with_reducible assumption) | assumption)
              obtain ⟨ad151, e151, hx151_0, hx151_1, hx151_2, hx151_3, hx151_4, hx151_5⟩ := at_T27 HR0.out x10_1 p151 q151
              cases e151
              replace hx151_0 := (HB.out.cell (World.block_lt_of_cell? w _ hx151_0)).trans hx151_0
              replace hx151_1 := (HB.out.cell (World.block_lt_of_cell? w _ hx151_1)).trans hx151_1
              replace hx151_2 := (HB.out.cell (World.block_lt_of_cell? w _ hx151_2)).trans hx151_2
              replace hx151_3 := (HB.out.cell (World.block_lt_of_cell? w _ hx151_3)).trans hx151_3
              replace hx151_4 := (HB.out.cell (World.block_lt_of_cell? w _ hx151_4)).trans hx151_4
              replace hx151_5 := (HB.out.cell (World.block_lt_of_cell? w _ hx151_5)).trans hx151_5
              replace p151 := eq_true p151
              replace q151 := eq_true q151
              go_wp2_with (first | ((with_reducible refine gate_dst (N := 5) rfl ?_); refine box_event ?hg (N := 5) ?hd (cs := #[.int .u8 0, .int .u8 0, .int .u8 0, .int .i64 0, .int .i64 0, .int .i64 0]) (t := 27) ?hr ?_; (case hd => rfl); (case hg => rfl); (case hr => first | (go_simp; done) | (go_simp; rfl)); intro gb152 hg w33 hbox hb; have n0_ := Aside0.mk (Kd.R_below (by (with_reducible repeat (first | apply Kd.R_alloc | apply Kd.R_drewN | apply Kd.R_drew)); exact HO_3.out) hb); have n1_ := Aside0.mk (below_step (by repeat (first | (with_reducible first | exact HB.out | apply below_alloc | apply pw_below_drewN | apply below_drew1) | exact HB.out)) hb); have n2_ := Aside0.mk (hbox); have n3_ := Aside0.mk ((by rw [hg]; exact (below_size (by repeat (first | (with_reducible first | exact HB.out | apply below_alloc | apply pw_below_drewN | apply below_drew1) | exact HB.out))) : w.heap.size ≤ gb152)); have n4_ := Aside0.mk ((by rw [hg]; exact (below_size (by repeat (first | (with_reducible first | exact HB.out | apply below_alloc | apply pw_below_drewN | apply below_drew1) | exact HB.out))) : w.heap.size ≤ gb152)); clear HO_3; clear HB; have HO_3 := n0_; have HB := n1_; have BK152 := n2_; have GW152 := n3_; have GE152 := n4_; clear n0_ n1_ n2_ n3_ n4_; clear hb hbox hg; have hcz34_0 : w33.cell? ⟨gb152, 0, none⟩ = some (.int .u8 0) := (blk_cell BK152.out 0).trans rfl; have hcz34_1 : w33.cell? ⟨gb152, 1, none⟩ = some (.int .u8 0) := (blk_cell BK152.out 1).trans rfl; have hcz34_2 : w33.cell? ⟨gb152, 2, none⟩ = some (.int .u8 0) := (blk_cell BK152.out 2).trans rfl; have hcz34_3 : w33.cell? ⟨gb152, 3, none⟩ = some (.int .i64 0) := (blk_cell BK152.out 3).trans rfl; have hcz34_4 : w33.cell? ⟨gb152, 4, none⟩ = some (.int .i64 0) := (blk_cell BK152.out 4).trans rfl; have hcz34_5 : w33.cell? ⟨gb152, 5, none⟩ = some (.int .i64 0) := (blk_cell BK152.out 5).trans rfl; have hfz34_0 := blk_frozen BK152.out 0; have hfz34_1 := blk_frozen BK152.out 1; have hfz34_2 := blk_frozen BK152.out 2; have hfz34_3 := blk_frozen BK152.out 3; have hfz34_4 := blk_frozen BK152.out 4; have hfz34_5 := blk_frozen BK152.out 5) | ((with_reducible refine gate_callee (f := 10) rfl ?_); refine goesL_ (some 15) rfl rfl Try.func10 (by kernel_rfl) rfl #[.agg #[.int .u8 ((rd_T27 l0 x10_1).f0), .int .u8 ((rd_T27 l0 x10_1).f1), .int .u8 ((rd_T27 l0 x10_1).f2.f0), .int .i64 ((rd_T27 l0 x10_1).f2.f1), .int .i64 ((rd_T27 l0 x10_1).f2.f2), .int .i64 ((rd_T27 l0 x10_1).f2.f3)]] rfl (by (try simp only [List.map_toArray, List.map_cons, List.map_nil]); first | done | rfl | (simp only [List.length_drop, List.length_take]; rfl)) ?_; (with_reducible refine (script_Entry_Right.calls k1 ((rd_T27 l0 x10_1).f0) ((rd_T27 l0 x10_1).f1) ((rd_T27 l0 x10_1).f2.f0) ((rd_T27 l0 x10_1).f2.f1) ((rd_T27 l0 x10_1).f2.f2) ((rd_T27 l0 x10_1).f2.f3) false _ A5.out).mono ?_); rintro e w35 ⟨rfl, hb⟩; refine ⟨_, rfl, ?_⟩; have n0_ := Aside0.mk (Kd.R_below (by (with_reducible repeat (first | apply Kd.R_alloc | apply Kd.R_drewN | apply Kd.R_drew)); exact (Kd.R_mono (Kd.R_far (p := ⟨gb152, 5, none⟩) (Kd.R_far (p := ⟨gb152, 4, none⟩) (Kd.R_far (p := ⟨gb152, 3, none⟩) (Kd.R_far (p := ⟨gb152, 2, none⟩) (Kd.R_far (p := ⟨gb152, 1, none⟩) (Kd.R_far (p := ⟨gb152, 0, none⟩) (Kd.R_types HO_3.out BK152.out (by decide)) (fun _ hk => hk.2) (.int .u8 ((rd_T27 l0 x10_1).f0))) (fun _ hk => hk.2) (.int .u8 ((rd_T27 l0 x10_1).f1))) (fun _ hk => hk.2) (.int .u8 ((rd_T27 l0 x10_1).f2.f0))) (fun _ hk => hk.2) (.int .i64 ((rd_T27 l0 x10_1).f2.f1))) (fun _ hk => hk.2) (.int .i64 ((rd_T27 l0 x10_1).f2.f2))) (fun _ hk => hk.2) (.int .i64 ((rd_T27 l0 x10_1).f2.f3))) (fun _ h_ => h_.1))) hb); have n1_ := Aside0.mk (blk_below (g := gb152) (o := .cells #[.int .u8 ((rd_T27 l0 x10_1).f0), .int .u8 ((rd_T27 l0 x10_1).f1), .int .u8 ((rd_T27 l0 x10_1).f2.f0), .int .i64 ((rd_T27 l0 x10_1).f2.f1), .int .i64 ((rd_T27 l0 x10_1).f2.f2), .int .i64 ((rd_T27 l0 x10_1).f2.f3)] 27 (0, 0)) (by (with_reducible repeat (first | refine blk_drewN ?_ _ | refine blk_drew ?_ | refine blk_alloc ?_ _)); refine blk_put (cs := #[.int .u8 ((rd_T27 l0 x10_1).f0), .int .u8 ((rd_T27 l0 x10_1).f1), .int .u8 ((rd_T27 l0 x10_1).f2.f0), .int .i64 ((rd_T27 l0 x10_1).f2.f1), .int .i64 ((rd_T27 l0 x10_1).f2.f2), .int .i64 0]) ?_ 5 _ rfl; (with_reducible repeat (first | refine blk_drewN ?_ _ | refine blk_drew ?_ | refine blk_alloc ?_ _)); refine blk_put (cs := #[.int .u8 ((rd_T27 l0 x10_1).f0), .int .u8 ((rd_T27 l0 x10_1).f1), .int .u8 ((rd_T27 l0 x10_1).f2.f0), .int .i64 ((rd_T27 l0 x10_1).f2.f1), .int .i64 0, .int .i64 0]) ?_ 4 _ rfl; (with_reducible repeat (first | refine blk_drewN ?_ _ | refine blk_drew ?_ | refine blk_alloc ?_ _)); refine blk_put (cs := #[.int .u8 ((rd_T27 l0 x10_1).f0), .int .u8 ((rd_T27 l0 x10_1).f1), .int .u8 ((rd_T27 l0 x10_1).f2.f0), .int .i64 0, .int .i64 0, .int .i64 0]) ?_ 3 _ rfl; (with_reducible repeat (first | refine blk_drewN ?_ _ | refine blk_drew ?_ | refine blk_alloc ?_ _)); refine blk_put (cs := #[.int .u8 ((rd_T27 l0 x10_1).f0), .int .u8 ((rd_T27 l0 x10_1).f1), .int .u8 0, .int .i64 0, .int .i64 0, .int .i64 0]) ?_ 2 _ rfl; (with_reducible repeat (first | refine blk_drewN ?_ _ | refine blk_drew ?_ | refine blk_alloc ?_ _)); refine blk_put (cs := #[.int .u8 ((rd_T27 l0 x10_1).f0), .int .u8 0, .int .u8 0, .int .i64 0, .int .i64 0, .int .i64 0]) ?_ 1 _ rfl; (with_reducible repeat (first | refine blk_drewN ?_ _ | refine blk_drew ?_ | refine blk_alloc ?_ _)); refine blk_put (cs := #[.int .u8 0, .int .u8 0, .int .u8 0, .int .i64 0, .int .i64 0, .int .i64 0]) ?_ 0 _ rfl; (with_reducible repeat (first | refine blk_drewN ?_ _ | refine blk_drew ?_ | refine blk_alloc ?_ _)); exact BK152.out) hb); have n2_ := Aside0.mk (below_step (by repeat (first | (with_reducible first | exact HB.out | apply below_alloc | apply pw_below_drewN | apply below_drew1 | refine below_set ?_ GE152.out) | exact HB.out)) hb); clear HO_3; clear BK152; clear HB; have HO_3 := n0_; have BK152 := n1_; have HB := n2_; clear n0_ n1_ n2_; (try clear hb); (try clear hb2); (try clear hk); (try clear hi)))
              go_roundg k1
              case measure => have := HK1.out; omega
              case rel => exact ⟨(x3_1), (wrap64 (x10_1 + 1)), (by first | rfl | (simp; done) | (simp [*]; done)), H', ⟨by have := HK1.out; omega⟩, ⟨by (with_reducible repeat (first | apply Kd.R_alloc | apply Kd.R_drewN | apply Kd.R_drew)); exact HO_3.out⟩, ⟨by repeat (first | (with_reducible first | exact HB.out | apply below_alloc | apply pw_below_drewN | apply below_drew1 | refine below_set ?_ GE152.out) | exact HB.out)⟩⟩
          · rw [if_neg c4] at H
            exact absurd H (by simp)
        · rw [if_neg c3] at H
          exact absurd H (by simp)
      · rw [if_neg c2] at H
        have c2b0 : decide (x10_1 < (l0.length : Int)) = false := decide_eq_false c2
        clear c2
        obtain rfl := Option.some.inj H
        go_wp2
        go_ret
        exact ⟨_, by first | rfl | (simp [errW_none, errW_some] <;> rfl) | (simp [*, errW_none, errW_some] <;> rfl), by (with_reducible repeat (first | apply Kd.R_alloc | apply Kd.R_drewN | apply Kd.R_drew)); exact HO_3.out, by repeat (first | (with_reducible first | exact HB.out | apply below_alloc | apply pw_below_drewN | apply below_drew1) | exact HB.out)⟩

/-! ### boscagelaw24_Awake: function 9 -/
def boscagelaw24_Awake.f (k : Nat)  : Option (Bool) := (script_Encode.f k (([(⟨0, 1, (⟨0, (-1), 0, 0⟩ : S25)⟩ : S27), (⟨3, 2, (⟨0, 0, 0, 0⟩ : S25)⟩ : S27)] : List (S27)))).bind fun t170 => (if (t170.length : Int) = 4 then (if 0 < (t170.length : Int) then (if (rd t170 0) = 4 then (if 1 < (t170.length : Int) then (if (rd t170 1) = 0 then (if 2 < (t170.length : Int) then (if (rd t170 2) = 1 then (if 3 < (t170.length : Int) then (if (rd t170 3) = 11 then ((script_Entry_Right.f k 2 63 0 0 0 0).bind fun t177 => (some t177)) else (some false)) else (none)) else (some false)) else (none)) else (some false)) else (none)) else (some false)) else (none)) else (some false))
theorem boscagelaw24_Awake.mono : ∀ k, LeO (boscagelaw24_Awake.f k ) (boscagelaw24_Awake.f (k + 1) ) := by
  intro  k
  unfold boscagelaw24_Awake.f
  repeat' first
      | (with_reducible exact script_Encode.mono _ _)
      | (with_reducible exact script_Entry_Right.mono _ _ _ _ _ _ _)
      | (with_reducible exact LeO.refl _)
      | (with_reducible exact LeO.none _)
      | (with_reducible refine LeO.ite ?_ ?_)
      | (with_reducible refine LeO.bind ?_ (fun _ => ?_))
      | exact script_Encode.mono _ _
      | exact script_Entry_Right.mono _ _ _ _ _ _ _
      | exact LeO.none _
      | refine LeO.ite ?_ ?_
      | refine LeO.bind ?_ (fun _ => ?_)
set_option maxHeartbeats 8000000 in
set_option maxRecDepth 100000 in
theorem boscagelaw24_Awake.calls (k : Nat)  (r : Bool) (w : World) (h : boscagelaw24_Awake.f k  = some r) :
    Calls Try.prog 9 #[] w fun e w' => e = .returned (.bool r) ∧ Below w.heap.size w w' := by
  have hu25 := Try.underlying25
  have hu27 := Try.underlying27
  have HB := Aside0.mk (Below.refl w.heap.size w)
  have H : ((script_Encode.f k (([(⟨0, 1, (⟨0, (-1), 0, 0⟩ : S25)⟩ : S27), (⟨3, 2, (⟨0, 0, 0, 0⟩ : S25)⟩ : S27)] : List (S27)))).bind fun t170 => (if (t170.length : Int) = 4 then (if 0 < (t170.length : Int) then (if (rd t170 0) = 4 then (if 1 < (t170.length : Int) then (if (rd t170 1) = 0 then (if 2 < (t170.length : Int) then (if (rd t170 2) = 1 then (if 3 < (t170.length : Int) then (if (rd t170 3) = 11 then ((script_Entry_Right.f k 2 63 0 0 0 0).bind fun t177 => (some t177)) else (some false)) else (none)) else (some false)) else (none)) else (some false)) else (none)) else (some false)) else (none)) else (some false))) = some r := h
  clear h
  obtain ⟨y167, hy167⟩ : ∃ y_ : List (S27), y_ = (([(⟨0, 1, (⟨0, (-1), 0, 0⟩ : S25)⟩ : S27), (⟨3, 2, (⟨0, 0, 0, 0⟩ : S25)⟩ : S27)] : List (S27))) := ⟨_, rfl⟩
  replace H : ((script_Encode.f k y167).bind fun t170 => (if (t170.length : Int) = 4 then (if 0 < (t170.length : Int) then (if (rd t170 0) = 4 then (if 1 < (t170.length : Int) then (if (rd t170 1) = 0 then (if 2 < (t170.length : Int) then (if (rd t170 2) = 1 then (if 3 < (t170.length : Int) then (if (rd t170 3) = 11 then ((script_Entry_Right.f k 2 63 0 0 0 0).bind fun t177 => (some t177)) else (some false)) else (none)) else (some false)) else (none)) else (some false)) else (none)) else (some false)) else (none)) else (some false))) = some r := by first | (rw [hy167]; with_reducible exact H) | (have H2_ := (Option.bind_some _ _).symm.trans H; rw [hy167]; with_reducible exact H2_) | (have H2_ := (Option.bind_some _ _).symm.trans H; with_reducible exact H2_) | with_reducible exact H | (rw [hy167]; exact H) | exact H
  have Ny167 := Aside0.mk hy167
  clear hy167
  replace H := Option.bind_eq_some_iff.mp H
  obtain ⟨t170, A10, H⟩ := H
  replace H : (if (t170.length : Int) = 4 then (if 0 < (t170.length : Int) then (if (rd t170 0) = 4 then (if 1 < (t170.length : Int) then (if (rd t170 1) = 0 then (if 2 < (t170.length : Int) then (if (rd t170 2) = 1 then (if 3 < (t170.length : Int) then (if (rd t170 3) = 11 then ((script_Entry_Right.f k 2 63 0 0 0 0).bind fun t177 => (some t177)) else (some false)) else (none)) else (some false)) else (none)) else (some false)) else (none)) else (some false)) else (none)) else (some false)) = some r := H
  have A1 := Aside0.mk A10
  clear A10
  by_cases c2 : (t170.length : Int) = 4
  · rw [if_pos c2] at H
    have c2b0 : ((t170.length : Int) == 4) = true := beq_iff_eq.mpr c2
    have c2b1 : ((t170.length : Int) != 4) = false := bne_eq_false_iff_eq.mpr c2
    clear c2
    by_cases c3 : 0 < (t170.length : Int)
    · rw [if_pos c3] at H
      have c3b0 : decide (0 < (t170.length : Int)) = true := decide_eq_true c3
      have c3b1 : decide (0 < t170.length) = true := decide_eq_true (by omega)
      have c3b2 : ∀ inst : Decidable (0 < t170.length), @decide (0 < t170.length) inst = true := fun inst => by exact @decide_eq_true _ inst (by omega)
      (try simp only [c3b2])
      clear c3b2
      clear c3
      by_cases c4 : (rd t170 0) = 4
      · rw [if_pos c4] at H
        have c4b0 : ((rd t170 0) == 4) = true := beq_iff_eq.mpr c4
        have c4b1 : ((rd t170 0) != 4) = false := bne_eq_false_iff_eq.mpr c4
        clear c4
        by_cases c5 : 1 < (t170.length : Int)
        · rw [if_pos c5] at H
          have c5b0 : decide (1 < (t170.length : Int)) = true := decide_eq_true c5
          have c5b1 : decide (1 < t170.length) = true := decide_eq_true (by omega)
          have c5b2 : ∀ inst : Decidable (1 < t170.length), @decide (1 < t170.length) inst = true := fun inst => by exact @decide_eq_true _ inst (by omega)
          (try simp only [c5b2])
          clear c5b2
          clear c5
          by_cases c6 : (rd t170 1) = 0
          · rw [if_pos c6] at H
            have c6b0 : ((rd t170 1) == 0) = true := beq_iff_eq.mpr c6
            have c6b1 : ((rd t170 1) != 0) = false := bne_eq_false_iff_eq.mpr c6
            clear c6
            by_cases c7 : 2 < (t170.length : Int)
            · rw [if_pos c7] at H
              have c7b0 : decide (2 < (t170.length : Int)) = true := decide_eq_true c7
              have c7b1 : decide (2 < t170.length) = true := decide_eq_true (by omega)
              have c7b2 : ∀ inst : Decidable (2 < t170.length), @decide (2 < t170.length) inst = true := fun inst => by exact @decide_eq_true _ inst (by omega)
              (try simp only [c7b2])
              clear c7b2
              clear c7
              by_cases c8 : (rd t170 2) = 1
              · rw [if_pos c8] at H
                have c8b0 : ((rd t170 2) == 1) = true := beq_iff_eq.mpr c8
                have c8b1 : ((rd t170 2) != 1) = false := bne_eq_false_iff_eq.mpr c8
                clear c8
                by_cases c9 : 3 < (t170.length : Int)
                · rw [if_pos c9] at H
                  have c9b0 : decide (3 < (t170.length : Int)) = true := decide_eq_true c9
                  have c9b1 : decide (3 < t170.length) = true := decide_eq_true (by omega)
                  have c9b2 : ∀ inst : Decidable (3 < t170.length), @decide (3 < t170.length) inst = true := fun inst => by exact @decide_eq_true _ inst (by omega)
                  (try simp only [c9b2])
                  clear c9b2
                  clear c9
                  by_cases c10 : (rd t170 3) = 11
                  · rw [if_pos c10] at H
                    have c10b0 : ((rd t170 3) == 11) = true := beq_iff_eq.mpr c10
                    have c10b1 : ((rd t170 3) != 11) = false := bne_eq_false_iff_eq.mpr c10
                    clear c10
                    replace H := Option.bind_eq_some_iff.mp H
                    obtain ⟨t177, A110, H⟩ := H
                    replace H : (some t177) = some r := H
                    have A11 := Aside0.mk A110
                    clear A110
                    obtain rfl := Option.some.inj H
                    go_enter Try.func9, Try.ntmps9
                    go_wp2_with (first | ((with_reducible refine gate_dst (N := 5) rfl ?_); refine Kd.R_lit k27 _ 27 ?hg (N := 5) ?hd (xs := ([(⟨0, 1, (⟨0, (-1), 0, 0⟩ : S25)⟩ : S27), (⟨3, 2, (⟨0, 0, 0, 0⟩ : S25)⟩ : S27)] : List (S27))) (inner := [.int .u8 0, .int .u8 1, .int .u8 0, .int .i64 (-1), .int .i64 0, .int .i64 0, .int .u8 3, .int .u8 2, .int .u8 0, .int .i64 0, .int .i64 0, .int .i64 0]) (ok := fun _ => True) (okp := fun _ => True) ?hr ?hp (fun _ hk => hk) trivial (Below.refl _ _) (Nat.le_refl _) (by simp) ?_; (case hd => rfl); (case hg => rfl); (case hr => first | (go_simp; done) | (go_simp; rfl)); (case hp => exact (Reps.c6 (show Kd.M k27 _ _ _ (⟨0, 1, (⟨0, (-1), 0, 0⟩ : S25)⟩ : S27) [.int .u8 0, .int .u8 1, .int .u8 0, .int .i64 (-1), .int .i64 0, .int .i64 0] from (k27_mkM _ _ _ (⟨0, 1, (⟨0, (-1), 0, 0⟩ : S25)⟩ : S27) )) (Reps.c6 (show Kd.M k27 _ _ _ (⟨3, 2, (⟨0, 0, 0, 0⟩ : S25)⟩ : S27) [.int .u8 3, .int .u8 2, .int .u8 0, .int .i64 0, .int .i64 0, .int .i64 0] from (k27_mkM _ _ _ (⟨3, 2, (⟨0, 0, 0, 0⟩ : S25)⟩ : S27) )) (Reps.none _ _)))); intro v168 w12 ho13 hb hg_ hnew_; clear hg_ hnew_; (first | rw [← Ny167.out] at ho13 | (simp only [Int.reduceToNat] at ho13; rw [← Ny167.out] at ho13)); have n0_ := Aside0.mk (Kd.R_lower ho13 (below_size (by repeat (first | (with_reducible first | exact HB.out | apply below_alloc | apply pw_below_drewN | apply below_drew1) | exact HB.out)))); have n1_ := Aside0.mk (below_step (by repeat (first | (with_reducible first | exact HB.out | apply below_alloc | apply pw_below_drewN | apply below_drew1) | exact HB.out)) hb); clear HB; have HO169 := n0_; have HB := n1_; clear n0_ n1_; clear hb ho13; obtain ⟨Ao14, co14, eo14⟩ := Kd.R_slice HO169.out; subst eo14) | ((with_reducible refine gate_callee (f := 14) rfl ?_); refine goesL_ (some 6) rfl rfl Try.func14 (by kernel_rfl) rfl #[.slice Ao14 y167.length co14] rfl (by (try simp only [List.map_toArray, List.map_cons, List.map_nil]); first | done | rfl | (simp only [List.length_drop, List.length_take]; rfl)) ?_; (with_reducible refine (script_Encode.calls k _ _ y167 t170 _ ?side1 ?side2 A1.out).mono ?_); (case side1 => repeat (first | exact (Kd.R_reads' HO169.out).2.2 | (with_reducible refine Kd.C_alloc ?_ _) | (with_reducible refine Kd.C_drewN ?_ _) | (with_reducible refine Kd.C_drew ?_))); (case side2 => exact (Kd.R_reads' HO169.out).2.1); rintro e w15 ⟨v171, rfl, ho0, hb⟩; refine ⟨_, rfl, ?_⟩; have n0_ := Aside0.mk (Kd.R_below (by (with_reducible repeat (first | apply Kd.R_alloc | apply Kd.R_drewN | apply Kd.R_drew)); exact HO169.out) hb); have n1_ := Aside0.mk (Kd.R_lower ho0 (below_size (by repeat (first | (with_reducible first | exact HB.out | apply below_alloc | apply pw_below_drewN | apply below_drew1) | exact HB.out)))); have n2_ := Aside0.mk (below_step (by repeat (first | (with_reducible first | exact HB.out | apply below_alloc | apply pw_below_drewN | apply below_drew1) | exact HB.out)) hb); clear HO169; clear HB; have HO169 := n0_; have HO172 := n1_; have HB := n2_; clear n0_ n1_ n2_; (try clear hb); (try clear hb2); (try clear hk); (try clear hi); (try clear ho0); obtain ⟨Ao16, co16, eo16⟩ := Kd.R_slice HO172.out; subst eo16; have p173 : 0 ≤ (0 : Int) := (by omega); have q173 : 0 < (t170.length : Int) := of_decide_eq_true (by first | (with_reducible assumption) | assumption); obtain ⟨ad173, e173, hx173_0⟩ := Kd.at_int (Kd.R_reads' HO172.out).2.2 0 p173 q173; cases e173; have qi173 : (0 < t170.length) = True := eq_true (by omega); (try rw [show ((0 : Int)).toNat = 0 from rfl] at hx173_0); (try rw [Addr.add_zero'] at hx173_0); replace p173 := eq_true p173; replace q173 := eq_true q173; have p174 : 0 ≤ (1 : Int) := (by omega); have q174 : 1 < (t170.length : Int) := of_decide_eq_true (by first | (with_reducible assumption) | assumption); obtain ⟨ad174, e174, hx174_0⟩ := Kd.at_int (Kd.R_reads' HO172.out).2.2 1 p174 q174; obtain rfl : ad173 = ad174 := (by injection e174); (try simp only [show (1 : Int).toNat = 1 from rfl, Nat.reduceMul, Nat.reduceEqDiff, Go.Addr.add, ↓reduceIte] at hx174_0); have qi174 : (1 < t170.length) = True := eq_true (by omega); (try rw [show ((1 : Int)).toNat = 1 from rfl] at hx174_0); replace p174 := eq_true p174; replace q174 := eq_true q174; have p175 : 0 ≤ (2 : Int) := (by omega); have q175 : 2 < (t170.length : Int) := of_decide_eq_true (by first | (with_reducible assumption) | assumption); obtain ⟨ad175, e175, hx175_0⟩ := Kd.at_int (Kd.R_reads' HO172.out).2.2 2 p175 q175; obtain rfl : ad173 = ad175 := (by injection e175); (try simp only [show (2 : Int).toNat = 2 from rfl, Nat.reduceMul, Nat.reduceEqDiff, Go.Addr.add, ↓reduceIte] at hx175_0); have qi175 : (2 < t170.length) = True := eq_true (by omega); (try rw [show ((2 : Int)).toNat = 2 from rfl] at hx175_0); replace p175 := eq_true p175; replace q175 := eq_true q175; have p176 : 0 ≤ (3 : Int) := (by omega); have q176 : 3 < (t170.length : Int) := of_decide_eq_true (by first | (with_reducible assumption) | assumption); obtain ⟨ad176, e176, hx176_0⟩ := Kd.at_int (Kd.R_reads' HO172.out).2.2 3 p176 q176; obtain rfl : ad173 = ad176 := (by injection e176); (try simp only [show (3 : Int).toNat = 3 from rfl, Nat.reduceMul, Nat.reduceEqDiff, Go.Addr.add, ↓reduceIte] at hx176_0); have qi176 : (3 < t170.length) = True := eq_true (by omega); (try rw [show ((3 : Int)).toNat = 3 from rfl] at hx176_0); replace p176 := eq_true p176; replace q176 := eq_true q176) | (go_at_call 10; (with_reducible refine (script_Entry_Right.calls k 2 63 0 0 0 0 t177 _ A11.out).mono ?_); rintro e w17 ⟨rfl, hb⟩; have n0_ := Aside0.mk (Kd.R_below (by (with_reducible repeat (first | apply Kd.R_alloc | apply Kd.R_drewN | apply Kd.R_drew)); exact HO169.out) hb); have n1_ := Aside0.mk (Kd.R_below (by (with_reducible repeat (first | apply Kd.R_alloc | apply Kd.R_drewN | apply Kd.R_drew)); exact HO172.out) hb); have n2_ := Aside0.mk (below_step (by repeat (first | (with_reducible first | exact HB.out | apply below_alloc | apply pw_below_drewN | apply below_drew1) | exact HB.out)) hb); clear HO169; clear HO172; clear HB; have HO169 := n0_; have HO172 := n1_; have HB := n2_; clear n0_ n1_ n2_; (try clear hb); (try clear hb2); (try clear hk); (try clear hi)))
                    go_ret
                    exact ⟨by first | rfl | (simp [errW_none, errW_some] <;> rfl) | (simp [*, errW_none, errW_some] <;> rfl), by repeat (first | (with_reducible first | exact HB.out | apply below_alloc | apply pw_below_drewN | apply below_drew1) | exact HB.out)⟩
                  · rw [if_neg c10] at H
                    have c10b0 : ((rd t170 3) == 11) = false := beq_eq_false_iff_ne.mpr c10
                    have c10b1 : ((rd t170 3) != 11) = true := bne_iff_ne.mpr c10
                    obtain rfl := Option.some.inj H
                    go_enter Try.func9, Try.ntmps9
                    go_wp2_with (first | ((with_reducible refine gate_dst (N := 5) rfl ?_); refine Kd.R_lit k27 _ 27 ?hg (N := 5) ?hd (xs := ([(⟨0, 1, (⟨0, (-1), 0, 0⟩ : S25)⟩ : S27), (⟨3, 2, (⟨0, 0, 0, 0⟩ : S25)⟩ : S27)] : List (S27))) (inner := [.int .u8 0, .int .u8 1, .int .u8 0, .int .i64 (-1), .int .i64 0, .int .i64 0, .int .u8 3, .int .u8 2, .int .u8 0, .int .i64 0, .int .i64 0, .int .i64 0]) (ok := fun _ => True) (okp := fun _ => True) ?hr ?hp (fun _ hk => hk) trivial (Below.refl _ _) (Nat.le_refl _) (by simp) ?_; (case hd => rfl); (case hg => rfl); (case hr => first | (go_simp; done) | (go_simp; rfl)); (case hp => exact (Reps.c6 (show Kd.M k27 _ _ _ (⟨0, 1, (⟨0, (-1), 0, 0⟩ : S25)⟩ : S27) [.int .u8 0, .int .u8 1, .int .u8 0, .int .i64 (-1), .int .i64 0, .int .i64 0] from (k27_mkM _ _ _ (⟨0, 1, (⟨0, (-1), 0, 0⟩ : S25)⟩ : S27) )) (Reps.c6 (show Kd.M k27 _ _ _ (⟨3, 2, (⟨0, 0, 0, 0⟩ : S25)⟩ : S27) [.int .u8 3, .int .u8 2, .int .u8 0, .int .i64 0, .int .i64 0, .int .i64 0] from (k27_mkM _ _ _ (⟨3, 2, (⟨0, 0, 0, 0⟩ : S25)⟩ : S27) )) (Reps.none _ _)))); intro v168 w18 ho19 hb hg_ hnew_; clear hg_ hnew_; (first | rw [← Ny167.out] at ho19 | (simp only [Int.reduceToNat] at ho19; rw [← Ny167.out] at ho19)); have n0_ := Aside0.mk (Kd.R_lower ho19 (below_size (by repeat (first | (with_reducible first | exact HB.out | apply below_alloc | apply pw_below_drewN | apply below_drew1) | exact HB.out)))); have n1_ := Aside0.mk (below_step (by repeat (first | (with_reducible first | exact HB.out | apply below_alloc | apply pw_below_drewN | apply below_drew1) | exact HB.out)) hb); clear HB; have HO169 := n0_; have HB := n1_; clear n0_ n1_; clear hb ho19; obtain ⟨Ao20, co20, eo20⟩ := Kd.R_slice HO169.out; subst eo20) | ((with_reducible refine gate_callee (f := 14) rfl ?_); refine goesL_ (some 6) rfl rfl Try.func14 (by kernel_rfl) rfl #[.slice Ao20 y167.length co20] rfl (by (try simp only [List.map_toArray, List.map_cons, List.map_nil]); first | done | rfl | (simp only [List.length_drop, List.length_take]; rfl)) ?_; (with_reducible refine (script_Encode.calls k _ _ y167 t170 _ ?side1 ?side2 A1.out).mono ?_); (case side1 => repeat (first | exact (Kd.R_reads' HO169.out).2.2 | (with_reducible refine Kd.C_alloc ?_ _) | (with_reducible refine Kd.C_drewN ?_ _) | (with_reducible refine Kd.C_drew ?_))); (case side2 => exact (Kd.R_reads' HO169.out).2.1); rintro e w21 ⟨v171, rfl, ho0, hb⟩; refine ⟨_, rfl, ?_⟩; have n0_ := Aside0.mk (Kd.R_below (by (with_reducible repeat (first | apply Kd.R_alloc | apply Kd.R_drewN | apply Kd.R_drew)); exact HO169.out) hb); have n1_ := Aside0.mk (Kd.R_lower ho0 (below_size (by repeat (first | (with_reducible first | exact HB.out | apply below_alloc | apply pw_below_drewN | apply below_drew1) | exact HB.out)))); have n2_ := Aside0.mk (below_step (by repeat (first | (with_reducible first | exact HB.out | apply below_alloc | apply pw_below_drewN | apply below_drew1) | exact HB.out)) hb); clear HO169; clear HB; have HO169 := n0_; have HO172 := n1_; have HB := n2_; clear n0_ n1_ n2_; (try clear hb); (try clear hb2); (try clear hk); (try clear hi); (try clear ho0); obtain ⟨Ao22, co22, eo22⟩ := Kd.R_slice HO172.out; subst eo22; have p173 : 0 ≤ (0 : Int) := (by omega); have q173 : 0 < (t170.length : Int) := of_decide_eq_true (by first | (with_reducible assumption) | assumption); obtain ⟨ad173, e173, hx173_0⟩ := Kd.at_int (Kd.R_reads' HO172.out).2.2 0 p173 q173; cases e173; have qi173 : (0 < t170.length) = True := eq_true (by omega); (try rw [show ((0 : Int)).toNat = 0 from rfl] at hx173_0); (try rw [Addr.add_zero'] at hx173_0); replace p173 := eq_true p173; replace q173 := eq_true q173; have p174 : 0 ≤ (1 : Int) := (by omega); have q174 : 1 < (t170.length : Int) := of_decide_eq_true (by first | (with_reducible assumption) | assumption); obtain ⟨ad174, e174, hx174_0⟩ := Kd.at_int (Kd.R_reads' HO172.out).2.2 1 p174 q174; obtain rfl : ad173 = ad174 := (by injection e174); (try simp only [show (1 : Int).toNat = 1 from rfl, Nat.reduceMul, Nat.reduceEqDiff, Go.Addr.add, ↓reduceIte] at hx174_0); have qi174 : (1 < t170.length) = True := eq_true (by omega); (try rw [show ((1 : Int)).toNat = 1 from rfl] at hx174_0); replace p174 := eq_true p174; replace q174 := eq_true q174; have p175 : 0 ≤ (2 : Int) := (by omega); have q175 : 2 < (t170.length : Int) := of_decide_eq_true (by first | (with_reducible assumption) | assumption); obtain ⟨ad175, e175, hx175_0⟩ := Kd.at_int (Kd.R_reads' HO172.out).2.2 2 p175 q175; obtain rfl : ad173 = ad175 := (by injection e175); (try simp only [show (2 : Int).toNat = 2 from rfl, Nat.reduceMul, Nat.reduceEqDiff, Go.Addr.add, ↓reduceIte] at hx175_0); have qi175 : (2 < t170.length) = True := eq_true (by omega); (try rw [show ((2 : Int)).toNat = 2 from rfl] at hx175_0); replace p175 := eq_true p175; replace q175 := eq_true q175; have p176 : 0 ≤ (3 : Int) := (by omega); have q176 : 3 < (t170.length : Int) := of_decide_eq_true (by first | (with_reducible assumption) | assumption); obtain ⟨ad176, e176, hx176_0⟩ := Kd.at_int (Kd.R_reads' HO172.out).2.2 3 p176 q176; obtain rfl : ad173 = ad176 := (by injection e176); (try simp only [show (3 : Int).toNat = 3 from rfl, Nat.reduceMul, Nat.reduceEqDiff, Go.Addr.add, ↓reduceIte] at hx176_0); have qi176 : (3 < t170.length) = True := eq_true (by omega); (try rw [show ((3 : Int)).toNat = 3 from rfl] at hx176_0); replace p176 := eq_true p176; replace q176 := eq_true q176))
                    go_ret
                    exact ⟨by first | rfl | (simp [errW_none, errW_some] <;> rfl) | (simp [*, errW_none, errW_some] <;> rfl), by repeat (first | (with_reducible first | exact HB.out | apply below_alloc | apply pw_below_drewN | apply below_drew1) | exact HB.out)⟩
                · rw [if_neg c9] at H
                  exact absurd H (by simp)
              · rw [if_neg c8] at H
                have c8b0 : ((rd t170 2) == 1) = false := beq_eq_false_iff_ne.mpr c8
                have c8b1 : ((rd t170 2) != 1) = true := bne_iff_ne.mpr c8
                obtain rfl := Option.some.inj H
                go_enter Try.func9, Try.ntmps9
                go_wp2_with (first | ((with_reducible refine gate_dst (N := 5) rfl ?_); refine Kd.R_lit k27 _ 27 ?hg (N := 5) ?hd (xs := ([(⟨0, 1, (⟨0, (-1), 0, 0⟩ : S25)⟩ : S27), (⟨3, 2, (⟨0, 0, 0, 0⟩ : S25)⟩ : S27)] : List (S27))) (inner := [.int .u8 0, .int .u8 1, .int .u8 0, .int .i64 (-1), .int .i64 0, .int .i64 0, .int .u8 3, .int .u8 2, .int .u8 0, .int .i64 0, .int .i64 0, .int .i64 0]) (ok := fun _ => True) (okp := fun _ => True) ?hr ?hp (fun _ hk => hk) trivial (Below.refl _ _) (Nat.le_refl _) (by simp) ?_; (case hd => rfl); (case hg => rfl); (case hr => first | (go_simp; done) | (go_simp; rfl)); (case hp => exact (Reps.c6 (show Kd.M k27 _ _ _ (⟨0, 1, (⟨0, (-1), 0, 0⟩ : S25)⟩ : S27) [.int .u8 0, .int .u8 1, .int .u8 0, .int .i64 (-1), .int .i64 0, .int .i64 0] from (k27_mkM _ _ _ (⟨0, 1, (⟨0, (-1), 0, 0⟩ : S25)⟩ : S27) )) (Reps.c6 (show Kd.M k27 _ _ _ (⟨3, 2, (⟨0, 0, 0, 0⟩ : S25)⟩ : S27) [.int .u8 3, .int .u8 2, .int .u8 0, .int .i64 0, .int .i64 0, .int .i64 0] from (k27_mkM _ _ _ (⟨3, 2, (⟨0, 0, 0, 0⟩ : S25)⟩ : S27) )) (Reps.none _ _)))); intro v168 w23 ho24 hb hg_ hnew_; clear hg_ hnew_; (first | rw [← Ny167.out] at ho24 | (simp only [Int.reduceToNat] at ho24; rw [← Ny167.out] at ho24)); have n0_ := Aside0.mk (Kd.R_lower ho24 (below_size (by repeat (first | (with_reducible first | exact HB.out | apply below_alloc | apply pw_below_drewN | apply below_drew1) | exact HB.out)))); have n1_ := Aside0.mk (below_step (by repeat (first | (with_reducible first | exact HB.out | apply below_alloc | apply pw_below_drewN | apply below_drew1) | exact HB.out)) hb); clear HB; have HO169 := n0_; have HB := n1_; clear n0_ n1_; clear hb ho24; obtain ⟨Ao25, co25, eo25⟩ := Kd.R_slice HO169.out; subst eo25) | ((with_reducible refine gate_callee (f := 14) rfl ?_); refine goesL_ (some 6) rfl rfl Try.func14 (by kernel_rfl) rfl #[.slice Ao25 y167.length co25] rfl (by (try simp only [List.map_toArray, List.map_cons, List.map_nil]); first | done | rfl | (simp only [List.length_drop, List.length_take]; rfl)) ?_; (with_reducible refine (script_Encode.calls k _ _ y167 t170 _ ?side1 ?side2 A1.out).mono ?_); (case side1 => repeat (first | exact (Kd.R_reads' HO169.out).2.2 | (with_reducible refine Kd.C_alloc ?_ _) | (with_reducible refine Kd.C_drewN ?_ _) | (with_reducible refine Kd.C_drew ?_))); (case side2 => exact (Kd.R_reads' HO169.out).2.1); rintro e w26 ⟨v171, rfl, ho0, hb⟩; refine ⟨_, rfl, ?_⟩; have n0_ := Aside0.mk (Kd.R_below (by (with_reducible repeat (first | apply Kd.R_alloc | apply Kd.R_drewN | apply Kd.R_drew)); exact HO169.out) hb); have n1_ := Aside0.mk (Kd.R_lower ho0 (below_size (by repeat (first | (with_reducible first | exact HB.out | apply below_alloc | apply pw_below_drewN | apply below_drew1) | exact HB.out)))); have n2_ := Aside0.mk (below_step (by repeat (first | (with_reducible first | exact HB.out | apply below_alloc | apply pw_below_drewN | apply below_drew1) | exact HB.out)) hb); clear HO169; clear HB; have HO169 := n0_; have HO172 := n1_; have HB := n2_; clear n0_ n1_ n2_; (try clear hb); (try clear hb2); (try clear hk); (try clear hi); (try clear ho0); obtain ⟨Ao27, co27, eo27⟩ := Kd.R_slice HO172.out; subst eo27; have p173 : 0 ≤ (0 : Int) := (by omega); have q173 : 0 < (t170.length : Int) := of_decide_eq_true (by first | (with_reducible assumption) | assumption); obtain ⟨ad173, e173, hx173_0⟩ := Kd.at_int (Kd.R_reads' HO172.out).2.2 0 p173 q173; cases e173; have qi173 : (0 < t170.length) = True := eq_true (by omega); (try rw [show ((0 : Int)).toNat = 0 from rfl] at hx173_0); (try rw [Addr.add_zero'] at hx173_0); replace p173 := eq_true p173; replace q173 := eq_true q173; have p174 : 0 ≤ (1 : Int) := (by omega); have q174 : 1 < (t170.length : Int) := of_decide_eq_true (by first | (with_reducible assumption) | assumption); obtain ⟨ad174, e174, hx174_0⟩ := Kd.at_int (Kd.R_reads' HO172.out).2.2 1 p174 q174; obtain rfl : ad173 = ad174 := (by injection e174); (try simp only [show (1 : Int).toNat = 1 from rfl, Nat.reduceMul, Nat.reduceEqDiff, Go.Addr.add, ↓reduceIte] at hx174_0); have qi174 : (1 < t170.length) = True := eq_true (by omega); (try rw [show ((1 : Int)).toNat = 1 from rfl] at hx174_0); replace p174 := eq_true p174; replace q174 := eq_true q174; have p175 : 0 ≤ (2 : Int) := (by omega); have q175 : 2 < (t170.length : Int) := of_decide_eq_true (by first | (with_reducible assumption) | assumption); obtain ⟨ad175, e175, hx175_0⟩ := Kd.at_int (Kd.R_reads' HO172.out).2.2 2 p175 q175; obtain rfl : ad173 = ad175 := (by injection e175); (try simp only [show (2 : Int).toNat = 2 from rfl, Nat.reduceMul, Nat.reduceEqDiff, Go.Addr.add, ↓reduceIte] at hx175_0); have qi175 : (2 < t170.length) = True := eq_true (by omega); (try rw [show ((2 : Int)).toNat = 2 from rfl] at hx175_0); replace p175 := eq_true p175; replace q175 := eq_true q175))
                go_ret
                exact ⟨by first | rfl | (simp [errW_none, errW_some] <;> rfl) | (simp [*, errW_none, errW_some] <;> rfl), by repeat (first | (with_reducible first | exact HB.out | apply below_alloc | apply pw_below_drewN | apply below_drew1) | exact HB.out)⟩
            · rw [if_neg c7] at H
              exact absurd H (by simp)
          · rw [if_neg c6] at H
            have c6b0 : ((rd t170 1) == 0) = false := beq_eq_false_iff_ne.mpr c6
            have c6b1 : ((rd t170 1) != 0) = true := bne_iff_ne.mpr c6
            obtain rfl := Option.some.inj H
            go_enter Try.func9, Try.ntmps9
            go_wp2_with (first | ((with_reducible refine gate_dst (N := 5) rfl ?_); refine Kd.R_lit k27 _ 27 ?hg (N := 5) ?hd (xs := ([(⟨0, 1, (⟨0, (-1), 0, 0⟩ : S25)⟩ : S27), (⟨3, 2, (⟨0, 0, 0, 0⟩ : S25)⟩ : S27)] : List (S27))) (inner := [.int .u8 0, .int .u8 1, .int .u8 0, .int .i64 (-1), .int .i64 0, .int .i64 0, .int .u8 3, .int .u8 2, .int .u8 0, .int .i64 0, .int .i64 0, .int .i64 0]) (ok := fun _ => True) (okp := fun _ => True) ?hr ?hp (fun _ hk => hk) trivial (Below.refl _ _) (Nat.le_refl _) (by simp) ?_; (case hd => rfl); (case hg => rfl); (case hr => first | (go_simp; done) | (go_simp; rfl)); (case hp => exact (Reps.c6 (show Kd.M k27 _ _ _ (⟨0, 1, (⟨0, (-1), 0, 0⟩ : S25)⟩ : S27) [.int .u8 0, .int .u8 1, .int .u8 0, .int .i64 (-1), .int .i64 0, .int .i64 0] from (k27_mkM _ _ _ (⟨0, 1, (⟨0, (-1), 0, 0⟩ : S25)⟩ : S27) )) (Reps.c6 (show Kd.M k27 _ _ _ (⟨3, 2, (⟨0, 0, 0, 0⟩ : S25)⟩ : S27) [.int .u8 3, .int .u8 2, .int .u8 0, .int .i64 0, .int .i64 0, .int .i64 0] from (k27_mkM _ _ _ (⟨3, 2, (⟨0, 0, 0, 0⟩ : S25)⟩ : S27) )) (Reps.none _ _)))); intro v168 w28 ho29 hb hg_ hnew_; clear hg_ hnew_; (first | rw [← Ny167.out] at ho29 | (simp only [Int.reduceToNat] at ho29; rw [← Ny167.out] at ho29)); have n0_ := Aside0.mk (Kd.R_lower ho29 (below_size (by repeat (first | (with_reducible first | exact HB.out | apply below_alloc | apply pw_below_drewN | apply below_drew1) | exact HB.out)))); have n1_ := Aside0.mk (below_step (by repeat (first | (with_reducible first | exact HB.out | apply below_alloc | apply pw_below_drewN | apply below_drew1) | exact HB.out)) hb); clear HB; have HO169 := n0_; have HB := n1_; clear n0_ n1_; clear hb ho29; obtain ⟨Ao30, co30, eo30⟩ := Kd.R_slice HO169.out; subst eo30) | ((with_reducible refine gate_callee (f := 14) rfl ?_); refine goesL_ (some 6) rfl rfl Try.func14 (by kernel_rfl) rfl #[.slice Ao30 y167.length co30] rfl (by (try simp only [List.map_toArray, List.map_cons, List.map_nil]); first | done | rfl | (simp only [List.length_drop, List.length_take]; rfl)) ?_; (with_reducible refine (script_Encode.calls k _ _ y167 t170 _ ?side1 ?side2 A1.out).mono ?_); (case side1 => repeat (first | exact (Kd.R_reads' HO169.out).2.2 | (with_reducible refine Kd.C_alloc ?_ _) | (with_reducible refine Kd.C_drewN ?_ _) | (with_reducible refine Kd.C_drew ?_))); (case side2 => exact (Kd.R_reads' HO169.out).2.1); rintro e w31 ⟨v171, rfl, ho0, hb⟩; refine ⟨_, rfl, ?_⟩; have n0_ := Aside0.mk (Kd.R_below (by (with_reducible repeat (first | apply Kd.R_alloc | apply Kd.R_drewN | apply Kd.R_drew)); exact HO169.out) hb); have n1_ := Aside0.mk (Kd.R_lower ho0 (below_size (by repeat (first | (with_reducible first | exact HB.out | apply below_alloc | apply pw_below_drewN | apply below_drew1) | exact HB.out)))); have n2_ := Aside0.mk (below_step (by repeat (first | (with_reducible first | exact HB.out | apply below_alloc | apply pw_below_drewN | apply below_drew1) | exact HB.out)) hb); clear HO169; clear HB; have HO169 := n0_; have HO172 := n1_; have HB := n2_; clear n0_ n1_ n2_; (try clear hb); (try clear hb2); (try clear hk); (try clear hi); (try clear ho0); obtain ⟨Ao32, co32, eo32⟩ := Kd.R_slice HO172.out; subst eo32; have p173 : 0 ≤ (0 : Int) := (by omega); have q173 : 0 < (t170.length : Int) := of_decide_eq_true (by first | (with_reducible assumption) | assumption); obtain ⟨ad173, e173, hx173_0⟩ := Kd.at_int (Kd.R_reads' HO172.out).2.2 0 p173 q173; cases e173; have qi173 : (0 < t170.length) = True := eq_true (by omega); (try rw [show ((0 : Int)).toNat = 0 from rfl] at hx173_0); (try rw [Addr.add_zero'] at hx173_0); replace p173 := eq_true p173; replace q173 := eq_true q173; have p174 : 0 ≤ (1 : Int) := (by omega); have q174 : 1 < (t170.length : Int) := of_decide_eq_true (by first | (with_reducible assumption) | assumption); obtain ⟨ad174, e174, hx174_0⟩ := Kd.at_int (Kd.R_reads' HO172.out).2.2 1 p174 q174; obtain rfl : ad173 = ad174 := (by injection e174); (try simp only [show (1 : Int).toNat = 1 from rfl, Nat.reduceMul, Nat.reduceEqDiff, Go.Addr.add, ↓reduceIte] at hx174_0); have qi174 : (1 < t170.length) = True := eq_true (by omega); (try rw [show ((1 : Int)).toNat = 1 from rfl] at hx174_0); replace p174 := eq_true p174; replace q174 := eq_true q174))
            go_ret
            exact ⟨by first | rfl | (simp [errW_none, errW_some] <;> rfl) | (simp [*, errW_none, errW_some] <;> rfl), by repeat (first | (with_reducible first | exact HB.out | apply below_alloc | apply pw_below_drewN | apply below_drew1) | exact HB.out)⟩
        · rw [if_neg c5] at H
          exact absurd H (by simp)
      · rw [if_neg c4] at H
        have c4b0 : ((rd t170 0) == 4) = false := beq_eq_false_iff_ne.mpr c4
        have c4b1 : ((rd t170 0) != 4) = true := bne_iff_ne.mpr c4
        obtain rfl := Option.some.inj H
        go_enter Try.func9, Try.ntmps9
        go_wp2_with (first | ((with_reducible refine gate_dst (N := 5) rfl ?_); refine Kd.R_lit k27 _ 27 ?hg (N := 5) ?hd (xs := ([(⟨0, 1, (⟨0, (-1), 0, 0⟩ : S25)⟩ : S27), (⟨3, 2, (⟨0, 0, 0, 0⟩ : S25)⟩ : S27)] : List (S27))) (inner := [.int .u8 0, .int .u8 1, .int .u8 0, .int .i64 (-1), .int .i64 0, .int .i64 0, .int .u8 3, .int .u8 2, .int .u8 0, .int .i64 0, .int .i64 0, .int .i64 0]) (ok := fun _ => True) (okp := fun _ => True) ?hr ?hp (fun _ hk => hk) trivial (Below.refl _ _) (Nat.le_refl _) (by simp) ?_; (case hd => rfl); (case hg => rfl); (case hr => first | (go_simp; done) | (go_simp; rfl)); (case hp => exact (Reps.c6 (show Kd.M k27 _ _ _ (⟨0, 1, (⟨0, (-1), 0, 0⟩ : S25)⟩ : S27) [.int .u8 0, .int .u8 1, .int .u8 0, .int .i64 (-1), .int .i64 0, .int .i64 0] from (k27_mkM _ _ _ (⟨0, 1, (⟨0, (-1), 0, 0⟩ : S25)⟩ : S27) )) (Reps.c6 (show Kd.M k27 _ _ _ (⟨3, 2, (⟨0, 0, 0, 0⟩ : S25)⟩ : S27) [.int .u8 3, .int .u8 2, .int .u8 0, .int .i64 0, .int .i64 0, .int .i64 0] from (k27_mkM _ _ _ (⟨3, 2, (⟨0, 0, 0, 0⟩ : S25)⟩ : S27) )) (Reps.none _ _)))); intro v168 w33 ho34 hb hg_ hnew_; clear hg_ hnew_; (first | rw [← Ny167.out] at ho34 | (simp only [Int.reduceToNat] at ho34; rw [← Ny167.out] at ho34)); have n0_ := Aside0.mk (Kd.R_lower ho34 (below_size (by repeat (first | (with_reducible first | exact HB.out | apply below_alloc | apply pw_below_drewN | apply below_drew1) | exact HB.out)))); have n1_ := Aside0.mk (below_step (by repeat (first | (with_reducible first | exact HB.out | apply below_alloc | apply pw_below_drewN | apply below_drew1) | exact HB.out)) hb); clear HB; have HO169 := n0_; have HB := n1_; clear n0_ n1_; clear hb ho34; obtain ⟨Ao35, co35, eo35⟩ := Kd.R_slice HO169.out; subst eo35) | ((with_reducible refine gate_callee (f := 14) rfl ?_); refine goesL_ (some 6) rfl rfl Try.func14 (by kernel_rfl) rfl #[.slice Ao35 y167.length co35] rfl (by (try simp only [List.map_toArray, List.map_cons, List.map_nil]); first | done | rfl | (simp only [List.length_drop, List.length_take]; rfl)) ?_; (with_reducible refine (script_Encode.calls k _ _ y167 t170 _ ?side1 ?side2 A1.out).mono ?_); (case side1 => repeat (first | exact (Kd.R_reads' HO169.out).2.2 | (with_reducible refine Kd.C_alloc ?_ _) | (with_reducible refine Kd.C_drewN ?_ _) | (with_reducible refine Kd.C_drew ?_))); (case side2 => exact (Kd.R_reads' HO169.out).2.1); rintro e w36 ⟨v171, rfl, ho0, hb⟩; refine ⟨_, rfl, ?_⟩; have n0_ := Aside0.mk (Kd.R_below (by (with_reducible repeat (first | apply Kd.R_alloc | apply Kd.R_drewN | apply Kd.R_drew)); exact HO169.out) hb); have n1_ := Aside0.mk (Kd.R_lower ho0 (below_size (by repeat (first | (with_reducible first | exact HB.out | apply below_alloc | apply pw_below_drewN | apply below_drew1) | exact HB.out)))); have n2_ := Aside0.mk (below_step (by repeat (first | (with_reducible first | exact HB.out | apply below_alloc | apply pw_below_drewN | apply below_drew1) | exact HB.out)) hb); clear HO169; clear HB; have HO169 := n0_; have HO172 := n1_; have HB := n2_; clear n0_ n1_ n2_; (try clear hb); (try clear hb2); (try clear hk); (try clear hi); (try clear ho0); obtain ⟨Ao37, co37, eo37⟩ := Kd.R_slice HO172.out; subst eo37; have p173 : 0 ≤ (0 : Int) := (by omega); have q173 : 0 < (t170.length : Int) := of_decide_eq_true (by first | (with_reducible assumption) | assumption); obtain ⟨ad173, e173, hx173_0⟩ := Kd.at_int (Kd.R_reads' HO172.out).2.2 0 p173 q173; cases e173; have qi173 : (0 < t170.length) = True := eq_true (by omega); (try rw [show ((0 : Int)).toNat = 0 from rfl] at hx173_0); (try rw [Addr.add_zero'] at hx173_0); replace p173 := eq_true p173; replace q173 := eq_true q173))
        go_ret
        exact ⟨by first | rfl | (simp [errW_none, errW_some] <;> rfl) | (simp [*, errW_none, errW_some] <;> rfl), by repeat (first | (with_reducible first | exact HB.out | apply below_alloc | apply pw_below_drewN | apply below_drew1) | exact HB.out)⟩
    · rw [if_neg c3] at H
      exact absurd H (by simp)
  · rw [if_neg c2] at H
    have c2b0 : ((t170.length : Int) == 4) = false := beq_eq_false_iff_ne.mpr c2
    have c2b1 : ((t170.length : Int) != 4) = true := bne_iff_ne.mpr c2
    obtain rfl := Option.some.inj H
    go_enter Try.func9, Try.ntmps9
    go_wp2_with (first | ((with_reducible refine gate_dst (N := 5) rfl ?_); refine Kd.R_lit k27 _ 27 ?hg (N := 5) ?hd (xs := ([(⟨0, 1, (⟨0, (-1), 0, 0⟩ : S25)⟩ : S27), (⟨3, 2, (⟨0, 0, 0, 0⟩ : S25)⟩ : S27)] : List (S27))) (inner := [.int .u8 0, .int .u8 1, .int .u8 0, .int .i64 (-1), .int .i64 0, .int .i64 0, .int .u8 3, .int .u8 2, .int .u8 0, .int .i64 0, .int .i64 0, .int .i64 0]) (ok := fun _ => True) (okp := fun _ => True) ?hr ?hp (fun _ hk => hk) trivial (Below.refl _ _) (Nat.le_refl _) (by simp) ?_; (case hd => rfl); (case hg => rfl); (case hr => first | (go_simp; done) | (go_simp; rfl)); (case hp => exact (Reps.c6 (show Kd.M k27 _ _ _ (⟨0, 1, (⟨0, (-1), 0, 0⟩ : S25)⟩ : S27) [.int .u8 0, .int .u8 1, .int .u8 0, .int .i64 (-1), .int .i64 0, .int .i64 0] from (k27_mkM _ _ _ (⟨0, 1, (⟨0, (-1), 0, 0⟩ : S25)⟩ : S27) )) (Reps.c6 (show Kd.M k27 _ _ _ (⟨3, 2, (⟨0, 0, 0, 0⟩ : S25)⟩ : S27) [.int .u8 3, .int .u8 2, .int .u8 0, .int .i64 0, .int .i64 0, .int .i64 0] from (k27_mkM _ _ _ (⟨3, 2, (⟨0, 0, 0, 0⟩ : S25)⟩ : S27) )) (Reps.none _ _)))); intro v168 w38 ho39 hb hg_ hnew_; clear hg_ hnew_; (first | rw [← Ny167.out] at ho39 | (simp only [Int.reduceToNat] at ho39; rw [← Ny167.out] at ho39)); have n0_ := Aside0.mk (Kd.R_lower ho39 (below_size (by repeat (first | (with_reducible first | exact HB.out | apply below_alloc | apply pw_below_drewN | apply below_drew1) | exact HB.out)))); have n1_ := Aside0.mk (below_step (by repeat (first | (with_reducible first | exact HB.out | apply below_alloc | apply pw_below_drewN | apply below_drew1) | exact HB.out)) hb); clear HB; have HO169 := n0_; have HB := n1_; clear n0_ n1_; clear hb ho39; obtain ⟨Ao40, co40, eo40⟩ := Kd.R_slice HO169.out; subst eo40) | ((with_reducible refine gate_callee (f := 14) rfl ?_); refine goesL_ (some 6) rfl rfl Try.func14 (by kernel_rfl) rfl #[.slice Ao40 y167.length co40] rfl (by (try simp only [List.map_toArray, List.map_cons, List.map_nil]); first | done | rfl | (simp only [List.length_drop, List.length_take]; rfl)) ?_; (with_reducible refine (script_Encode.calls k _ _ y167 t170 _ ?side1 ?side2 A1.out).mono ?_); (case side1 => repeat (first | exact (Kd.R_reads' HO169.out).2.2 | (with_reducible refine Kd.C_alloc ?_ _) | (with_reducible refine Kd.C_drewN ?_ _) | (with_reducible refine Kd.C_drew ?_))); (case side2 => exact (Kd.R_reads' HO169.out).2.1); rintro e w41 ⟨v171, rfl, ho0, hb⟩; refine ⟨_, rfl, ?_⟩; have n0_ := Aside0.mk (Kd.R_below (by (with_reducible repeat (first | apply Kd.R_alloc | apply Kd.R_drewN | apply Kd.R_drew)); exact HO169.out) hb); have n1_ := Aside0.mk (Kd.R_lower ho0 (below_size (by repeat (first | (with_reducible first | exact HB.out | apply below_alloc | apply pw_below_drewN | apply below_drew1) | exact HB.out)))); have n2_ := Aside0.mk (below_step (by repeat (first | (with_reducible first | exact HB.out | apply below_alloc | apply pw_below_drewN | apply below_drew1) | exact HB.out)) hb); clear HO169; clear HB; have HO169 := n0_; have HO172 := n1_; have HB := n2_; clear n0_ n1_ n2_; (try clear hb); (try clear hb2); (try clear hk); (try clear hi); (try clear ho0); obtain ⟨Ao42, co42, eo42⟩ := Kd.R_slice HO172.out; subst eo42))
    go_ret
    exact ⟨by first | rfl | (simp [errW_none, errW_some] <;> rfl) | (simp [*, errW_none, errW_some] <;> rfl), by repeat (first | (with_reducible first | exact HB.out | apply below_alloc | apply pw_below_drewN | apply below_drew1) | exact HB.out)⟩

/-- A state of type 53 at block g of W; what its slices lead to came in by w0. -/
def IsS53 (w0 W : World) (g : Nat) (f0 : List Int) (f1 : Int) : Prop := ∃ A0 c0, W.heap[g]? = some (.cells #[.slice A0 f0.length c0, .int .i64 f1] 53 (0, 0)) ∧ w0.heap.size ≤ g ∧ Kd.C (Kd.int .u8) w0 A0 f0.length f0
theorem IsS53.grown {w0 W : World} {g : Nat} {f0 : List Int} {f1 : Int} {W1 : World} {row : Option Nat} (h : IsS53 w0 W g f0 f1) (hw : W.grownBy W1 row) (hne : some g ≠ row) : IsS53 w0 W1 g f0 f1 := by
  obtain ⟨A0, c0, hb, hg, hr0⟩ := h
  exact ⟨A0, c0, blk_grown hb hw hne, hg, hr0⟩
theorem IsS53.own_neN {w0 W : World} {g : Nat} {f0 : List Int} {f1 : Int} {α : Type} {d : Kd α} {e : Nat} {base : Nat} {ok : Nat → Prop} {v : Value} {xs : List α} (h : IsS53 w0 W g f0 f1) (ho : Kd.N d e W base ok v xs) (ht : e ≠ 53) : some g ≠ v.ownBlock := by
  obtain ⟨A0, c0, hb, hg, hr0⟩ := h
  exact Kd.N_ne ho hb ht
theorem IsS53.fresh {w0 W : World} {g : Nat} {f0 : List Int} {f1 : Int} (h : IsS53 w0 W g f0 f1) : ∀ k, W.heap.size ≤ k → k ≠ g := by
  obtain ⟨A0, c0, hb, hg, hr0⟩ := h
  exact Kd.freshB hb
theorem IsS53.kept {w0 W : World} {g : Nat} {f0 : List Int} {f1 : Int} {W1 : World} {S : Nat → Prop} (h : IsS53 w0 W g f0 f1) (hk : Kept W W1 S) (hne : ¬ S g) : IsS53 w0 W1 g f0 f1 := by
  obtain ⟨A0, c0, hb, hg, hr0⟩ := h
  exact ⟨A0, c0, blk_kept hb hk hne, hg, hr0⟩
theorem IsS53.below {w0 W : World} {g : Nat} {f0 : List Int} {f1 : Int} {W1 : World} (h : IsS53 w0 W g f0 f1) (hw : Below W.heap.size W W1) : IsS53 w0 W1 g f0 f1 := h.grown (grown_of_below hw none) (by simp)
theorem IsS53.alloc {w0 W : World} {g : Nat} {f0 : List Int} {f1 : Int} (h : IsS53 w0 W g f0 f1) (o : Obj) : IsS53 w0 (W.alloc o) g f0 f1 := h.below (below_alloc (Below.refl _ _) o)
theorem IsS53.drewN {w0 W : World} {g : Nat} {f0 : List Int} {f1 : Int} (h : IsS53 w0 W g f0 f1) (m : Nat) : IsS53 w0 (W.drewN m) g f0 f1 := h
theorem IsS53.drew {w0 W : World} {g : Nat} {f0 : List Int} {f1 : Int} (h : IsS53 w0 W g f0 f1) : IsS53 w0 W.drew g f0 f1 := h
theorem IsS53.at_ {w0 W : World} {g : Nat} {f0 : List Int} {f1 : Int} {w' : World} {m : Nat} (hq : W.drewN m = w') (h : IsS53 w0 W g f0 f1) : IsS53 w0 w' g f0 f1 := by subst hq; exact IsS53.drewN h m
theorem IsS53.apart {w0 W : World} {g : Nat} {f0 : List Int} {f1 : Int} {α : Type} {d : Kd α} {e : Nat} {base : Nat} {ok : Nat → Prop} {v : Value} {xs : List α} (h : IsS53 w0 W g f0 f1) (ho : d.R e W base ok v xs) (ht : ∀ q, q ∈ e :: d.E → q ≠ 53) : d.R e W base (fun k => ok k ∧ k ≠ g) v xs := by
  obtain ⟨A0, c0, hb, hg, hr0⟩ := h
  exact Kd.R_types ho hb ht
theorem IsS53.own_ne {w0 W : World} {g : Nat} {f0 : List Int} {f1 : Int} {α : Type} {d : Kd α} {e : Nat} {base : Nat} {ok : Nat → Prop} {v : Value} {xs : List α} (h : IsS53 w0 W g f0 f1) (ho : d.R e W base ok v xs) (ht : e ≠ 53) : some g ≠ v.ownBlock := by
  obtain ⟨A0, c0, hb, hg, hr0⟩ := h
  exact Kd.R_ne ho hb ht
theorem IsS53.apartQ {w0 W : World} {g : Nat} {f0 : List Int} {f1 : Int} {α : Type} {d : Kd α} {e : Nat} {base : Nat} {ok : Nat → Prop} {v : Value} {xs : List α} (h : IsS53 w0 W g f0 f1) (ho : d.Q e W base ok v xs) (ht : ∀ q, q ∈ e :: d.E → q ≠ 53) : d.Q e W base (fun k => ok k ∧ k ≠ g) v xs := by
  obtain ⟨A0, c0, hb, hg, hr0⟩ := h
  exact Kd.Q_types ho hb ht
theorem IsS53.own_neQ {w0 W : World} {g : Nat} {f0 : List Int} {f1 : Int} {α : Type} {d : Kd α} {e : Nat} {base : Nat} {ok : Nat → Prop} {v : Value} {xs : List α} (h : IsS53 w0 W g f0 f1) (ho : d.Q e W base ok v xs) (ht : e ≠ 53) : some g ≠ v.ownBlock := by
  obtain ⟨A0, c0, hb, hg, hr0⟩ := h
  exact Kd.Q_ne ho hb ht
theorem IsS53.apartS {w0 W : World} {g : Nat} {f0 : List Int} {f1 : Int} {α : Type} {d : Kd α} {e : Nat} {base : Nat} {ok : Nat → Prop} {v : Value} {xs : List α} (h : IsS53 w0 W g f0 f1) (ho : d.S e W base ok v xs) (ht : ∀ q, q ∈ e :: d.E → q ≠ 53) : d.S e W base (fun k => ok k ∧ k ≠ g) v xs := by
  obtain ⟨A0, c0, hb, hg, hr0⟩ := h
  exact Kd.S_types ho hb ht
theorem IsS53.own_neS {w0 W : World} {g : Nat} {f0 : List Int} {f1 : Int} {α : Type} {d : Kd α} {e : Nat} {base : Nat} {ok : Nat → Prop} {v : Value} {xs : List α} (h : IsS53 w0 W g f0 f1) (ho : d.S e W base ok v xs) (ht : e ≠ 53) : some g ≠ v.ownBlock := by
  obtain ⟨A0, c0, hb, hg, hr0⟩ := h
  exact Kd.S_ne ho hb ht
theorem IsS53.lt {w0 W : World} {g : Nat} {f0 : List Int} {f1 : Int} (h : IsS53 w0 W g f0 f1) : g < W.heap.size := by
  obtain ⟨A0, c0, hb, hg, hr0⟩ := h
  exact blk_lt hb
theorem IsS53.ge {w0 W : World} {g : Nat} {f0 : List Int} {f1 : Int} (h : IsS53 w0 W g f0 f1) : w0.heap.size ≤ g := by
  obtain ⟨A0, c0, hb, hg, hr0⟩ := h
  exact hg
theorem IsS53.ne_blk {w0 W : World} {g : Nat} {f0 : List Int} {f1 : Int} {a : Nat} {cs : Array Value} {t : TypeId} {fr : Nat × Nat} (h : IsS53 w0 W g f0 f1) (hb2 : W.heap[a]? = some (.cells cs t fr)) (ht : t ≠ 53) : g ≠ a := by
  obtain ⟨A0, c0, hb, hg, hr0⟩ := h
  rintro rfl
  rw [hb] at hb2
  injection hb2 with hb2
  injection hb2 with _ ht2
  exact ht ht2.symm
theorem IsS53.far {w0 W : World} {g : Nat} {f0 : List Int} {f1 : Int} {p : Addr} (h : IsS53 w0 W g f0 f1) (hne : g ≠ p.block) (u : Value) : IsS53 w0 (W.setCell p u) g f0 f1 := by
  obtain ⟨A0, c0, hb, hg, hr0⟩ := h
  exact ⟨A0, c0, blk_far hb hne u, hg, hr0⟩
theorem cellS53_0 {W : World} {g : Nat} {A0 : Option Addr} {c0 : Nat} {f0 : List Int} {f1 : Int} (h : W.heap[g]? = some (.cells #[.slice A0 f0.length c0, .int .i64 f1] 53 (0, 0))) : W.cell? ⟨g, 0, none⟩ = some (.slice A0 f0.length c0) := (blk_cell h 0).trans rfl
theorem cellS53_1 {W : World} {g : Nat} {A0 : Option Addr} {c0 : Nat} {f0 : List Int} {f1 : Int} (h : W.heap[g]? = some (.cells #[.slice A0 f0.length c0, .int .i64 f1] 53 (0, 0))) : W.cell? ⟨g, 1, none⟩ = some (.int .i64 f1) := (blk_cell h 1).trans rfl
theorem IsS53.set_1 {w0 W : World} {g : Nat} {f0 : List Int} {f1 : Int} (h : IsS53 w0 W g f0 f1) (x : Int) : IsS53 w0 (W.setCell ⟨g, 1, none⟩ (.int .i64 x)) g f0 x := by
  obtain ⟨A0, c0, hb, hg, hr0⟩ := h
  exact ⟨A0, c0, by simpa using blk_set hb 1 (.int .i64 x), hg, hr0⟩
theorem IsS53.new (w0 W : World) (A0 : Option Addr) (c0 : Nat) (f0 : List Int) (f1 : Int) (hB : Below w0.heap.size w0 W) (hr0 : Kd.C (Kd.int .u8) w0 A0 f0.length f0) : IsS53 w0 (W.alloc (.cells #[.slice A0 f0.length c0, .int .i64 f1] 53)) W.heap.size f0 f1 := ⟨A0, c0, by simpa using heap_alloc_new W _, hB.size, hr0⟩

/-! ### script_reader_one: function 25 -/
def script_reader_one.f (s0_0 : List Int) (s0_1 : Int) : Option (Int × Bool × Int) := if s0_1 ≥ (s0_0.length : Int) then (some (0, false, s0_1)) else (if 0 ≤ (wrap64 ((wrap64 (s0_1 + 1)) - 1)) then (if (wrap64 ((wrap64 (s0_1 + 1)) - 1)) < (s0_0.length : Int) then (some (rd s0_0 (wrap64 ((wrap64 (s0_1 + 1)) - 1)), true, wrap64 (s0_1 + 1))) else (none)) else (none))
set_option maxHeartbeats 8000000 in
set_option maxRecDepth 100000 in
theorem script_reader_one.calls (g : Nat) (s0_0 : List Int) (s0_1 : Int) (r1 : Int) (r2 : Bool) (r3 : Int) (w0 w : World) (hI : IsS53 w0 w g s0_0 s0_1) (hB : Below w0.heap.size w0 w) (h : script_reader_one.f s0_0 s0_1 = some (r1, r2, r3)) :
    Calls Try.prog 25 #[.pointer (some ⟨g, 0, none⟩)] w fun e w' => e = .returned (.tuple #[.int .u8 r1, .bool r2]) ∧ IsS53 w0 w' g s0_0 r3 ∧ Below w0.heap.size w0 w' ∧ KeepBut w w' g none := by
  have HI0 := Aside0.mk hI
  have HK := Aside0.mk (KeepBut.refl w g none)
  have HL := Aside0.mk hB.size
  clear hI
  have HW0 := Aside0.mk hB.size
  have HB := Aside0.mk hB
  clear hB
  have H : (if s0_1 ≥ (s0_0.length : Int) then (some (0, false, s0_1)) else (if 0 ≤ (wrap64 ((wrap64 (s0_1 + 1)) - 1)) then (if (wrap64 ((wrap64 (s0_1 + 1)) - 1)) < (s0_0.length : Int) then (some (rd s0_0 (wrap64 ((wrap64 (s0_1 + 1)) - 1)), true, wrap64 (s0_1 + 1))) else (none)) else (none))) = some (r1, r2, r3) := h
  clear h
  by_cases c2 : s0_1 ≥ (s0_0.length : Int)
  · rw [if_pos c2] at H
    have c2b0 : decide ((s0_0.length : Int) ≤ s0_1) = true := decide_eq_true c2
    clear c2
    simp only [Option.some.injEq, Prod.mk.injEq] at H
    obtain ⟨rfl, rfl, rfl⟩ := H
    obtain ⟨ASz3_0, cSz3_0, HGz3, hgz3, HSz3_0⟩ := HI0.out
    have hcz3_0 := cellS53_0 HGz3
    have hcz3_1 := cellS53_1 HGz3
    have hfz3_1 := blk_frozen HGz3 1
    clear HGz3 hgz3
    go_enter Try.func25, Try.ntmps25
    go_wp2
    repeat (go_quiet (fail); try go_wp2)
    go_ret2
    exact ⟨by first | rfl | (simp [errW_none, errW_some] <;> rfl) | (simp [*, errW_none, errW_some] <;> rfl), by repeat (first | (with_reducible first | exact HI0.out | apply IsS53.alloc | apply IsS53.drewN | apply IsS53.drew | apply IsS53.set_1) | exact HI0.out), by repeat (first | (with_reducible first | exact HB.out | apply below_alloc | apply pw_below_drewN | apply below_drew1 | refine below_set ?_ (IsS53.ge HI0.out)) | exact HB.out), by repeat (first | (with_reducible first | exact HK.out | apply KeepBut.set_ | apply keep_drewN | apply keep_drew | apply keep_alloc) | exact HK.out)⟩
  · rw [if_neg c2] at H
    have c2b0 : decide ((s0_0.length : Int) ≤ s0_1) = false := decide_eq_false c2
    clear c2
    obtain ⟨ji4, hji4⟩ : ∃ j_ : Int, (wrap64 ((wrap64 (s0_1 + 1)) - 1)) = j_ := ⟨_, rfl⟩
    replace H : (if 0 ≤ (ji4) then (if (ji4) < (s0_0.length : Int) then (some (rd s0_0 (ji4), true, wrap64 (s0_1 + 1))) else (none)) else (none)) = some (r1, r2, r3) := by first | (rw [hji4] at H; exact H) | (simp only [hji4] at H ⊢; exact H)
    have hji4w : (IntKind.i64.wrap ((wrap64 (s0_1 + 1)) - 1)) = ji4 := (i64_w _).trans hji4
    by_cases c5 : 0 ≤ (ji4)
    · rw [if_pos c5] at H
      have c5b0 : decide (0 ≤ (ji4)) = true := decide_eq_true c5
      clear c5
      by_cases c6 : (ji4) < (s0_0.length : Int)
      · rw [if_pos c6] at H
        have c6b0 : decide ((ji4) < (s0_0.length : Int)) = true := decide_eq_true c6
        clear c6
        simp only [Option.some.injEq, Prod.mk.injEq] at H
        obtain ⟨rfl, rfl, rfl⟩ := H
        obtain ⟨ASz7_0, cSz7_0, HGz7, hgz7, HSz7_0⟩ := HI0.out
        have hcz7_0 := cellS53_0 HGz7
        have hcz7_1 := cellS53_1 HGz7
        have hfz7_1 := blk_frozen HGz7 1
        clear HGz7 hgz7
        have p178 : 0 ≤ ((ji4) : Int) := of_decide_eq_true (by first | (with_reducible assumption) | assumption)
        have q178 : (ji4) < (s0_0.length : Int) := of_decide_eq_true (by first | (with_reducible assumption) | assumption)
        obtain ⟨ad178, e178, hx178_0⟩ := Kd.at_int HSz7_0 (ji4) p178 q178
        cases e178
        have hn178_0 : ad178.block ≠ g := Nat.ne_of_lt (Nat.lt_of_lt_of_le (by have := World.block_lt_of_cell? _ _ hx178_0; first | rwa [add_block] at this | exact this) (IsS53.ge HI0.out))
        replace hx178_0 := pw_cell_below HB.out hx178_0
        replace hx178_0 := (cell_far (p := ⟨g, 1, none⟩) (by first | (rw [add_block]; exact hn178_0) | (show (Addr.add _ _).block ≠ _; rw [add_block]; exact hn178_0) | exact hn178_0) (.int .i64 (wrap64 (s0_1 + 1)))).trans hx178_0
        (try have hy178_0 := fun (n_ : Nat) => (show (((w.drewN n_).setCell ⟨g, 1, none⟩ (.int .i64 (wrap64 (s0_1 + 1))))).cell? _ = some _ from hx178_0))
        clear hn178_0
        replace p178 := eq_true p178
        replace q178 := eq_true q178
        go_enter Try.func25, Try.ntmps25
        go_wp2
        repeat (go_quiet (fail); try go_wp2)
        go_ret2
        exact ⟨by first | rfl | (simp [errW_none, errW_some] <;> rfl) | (simp only [← hji4]; first | rfl | (simp [errW_none, errW_some] <;> rfl)) | (simp [*, errW_none, errW_some] <;> rfl), by repeat (first | (with_reducible first | exact HI0.out | apply IsS53.alloc | apply IsS53.drewN | apply IsS53.drew | apply IsS53.set_1) | exact HI0.out), by repeat (first | (with_reducible first | exact HB.out | apply below_alloc | apply pw_below_drewN | apply below_drew1 | refine below_set ?_ (IsS53.ge HI0.out)) | exact HB.out), by repeat (first | (with_reducible first | exact HK.out | apply KeepBut.set_ | apply keep_drewN | apply keep_drew | apply keep_alloc) | exact HK.out)⟩
      · rw [if_neg c6] at H
        exact absurd H (by simp)
    · rw [if_neg c5] at H
      exact absurd H (by simp)

/-! ### script_reader_number: function 29 -/
def script_reader_number.l0 : Nat → Int → Int → List Int → Int → Option (Int × Bool × Int)
  | 0, _, _, _, _ => none
  | k + 1, x4, x5, x1000, x1001 => if x5 < 70 then ((script_reader_one.f x1000 x1001).bind fun bt179 => (if bt179.2.1 = true then (if 0 ≤ x5 then (if bt179.1 < 128 then (some (Go.bits .xor .i64 (wrap64 ((Go.bits .or .u64 x4 (shl .u64 (IntKind.u64.wrap (Go.bits .and .u8 bt179.1 127)) x5)) / 2)) (wrap64 (-(wrap64 (Go.bits .and .u64 (Go.bits .or .u64 x4 (shl .u64 (IntKind.u64.wrap (Go.bits .and .u8 bt179.1 127)) x5)) 1)))), true, bt179.2.2)) else (script_reader_number.l0 k (Go.bits .or .u64 x4 (shl .u64 (IntKind.u64.wrap (Go.bits .and .u8 bt179.1 127)) x5)) (wrap64 (x5 + 7)) x1000 bt179.2.2)) else (none)) else (some (0, false, bt179.2.2)))) else (some (Go.bits .xor .i64 (wrap64 (x4 / 2)) (wrap64 (-(wrap64 (Go.bits .and .u64 x4 1)))), true, x1001))
def script_reader_number.f (k : Nat) (s0_0 : List Int) (s0_1 : Int) : Option (Int × Bool × Int) := script_reader_number.l0 k 0 0 s0_0 s0_1
theorem script_reader_number.mono_l : ∀ k, (∀ y0 y1 y2 y3, LeO (script_reader_number.l0 k y0 y1 y2 y3) (script_reader_number.l0 (k + 1) y0 y1 y2 y3))
  | 0 => fun _ _ _ _ r h => by simp [script_reader_number.l0] at h
  | k + 1 => by
    have ih0 := script_reader_number.mono_l k
    · intro y0 y1 y2 y3
      unfold script_reader_number.l0
      repeat' first
      | (with_reducible exact ih0 _ _ _ _)
      | (with_reducible exact LeO.refl _)
      | (with_reducible exact LeO.none _)
      | (with_reducible refine LeO.ite ?_ ?_)
      | (with_reducible refine LeO.bind ?_ (fun _ => ?_))
      | exact ih0 _ _ _ _
      | exact LeO.none _
      | refine LeO.ite ?_ ?_
      | refine LeO.bind ?_ (fun _ => ?_)
theorem script_reader_number.mono : ∀ a0 a1 k, LeO (script_reader_number.f k a0 a1) (script_reader_number.f (k + 1) a0 a1) := by
  intro a0 a1 k
  have ih0 := script_reader_number.mono_l k
  unfold script_reader_number.f
  repeat' first
      | (with_reducible exact ih0 _ _ _ _)
      | (with_reducible exact LeO.refl _)
      | (with_reducible exact LeO.none _)
      | (with_reducible refine LeO.ite ?_ ?_)
      | (with_reducible refine LeO.bind ?_ (fun _ => ?_))
      | exact ih0 _ _ _ _
      | exact LeO.none _
      | refine LeO.ite ?_ ?_
      | refine LeO.bind ?_ (fun _ => ?_)
set_option maxHeartbeats 8000000 in
set_option maxRecDepth 100000 in
theorem script_reader_number.calls (k : Nat) (g : Nat) (s0_0 : List Int) (s0_1 : Int) (r1 : Int) (r2 : Bool) (r3 : Int) (w0 w : World) (hI : IsS53 w0 w g s0_0 s0_1) (hB : Below w0.heap.size w0 w) (h : script_reader_number.f k s0_0 s0_1 = some (r1, r2, r3)) :
    Calls Try.prog 29 #[.pointer (some ⟨g, 0, none⟩)] w fun e w' => e = .returned (.tuple #[.int .i64 r1, .bool r2]) ∧ IsS53 w0 w' g s0_0 r3 ∧ Below w0.heap.size w0 w' ∧ KeepBut w w' g none := by
  have HI0 := Aside0.mk hI
  have HK := Aside0.mk (KeepBut.refl w g none)
  have HL := Aside0.mk hB.size
  clear hI
  have HW0 := Aside0.mk hB.size
  have HB := Aside0.mk hB
  clear hB
  have H : (script_reader_number.l0 k 0 0 s0_0 s0_1) = some (r1, r2, r3) := h
  clear h
  have H' := Aside0.mk H
  clear H
  go_enter Try.func29, Try.ntmps29
  go_wp2
  go_loopg [4, 5] k (fun kq v4 v5 w' => ∃ (x4_1 : Int) (x5_1 : Int) (x1001_1 : Int), v4 = .int .u64 x4_1 ∧ v5 = .int .i64 x5_1 ∧ Aside0 (script_reader_number.l0 kq x4_1 x5_1 s0_0 x1001_1 = some (r1, r2, r3)) ∧ Aside0 (kq ≤ k) ∧ Aside0 (IsS53 w0 w' g s0_0 x1001_1) ∧ Aside0 (KeepBut w w' g none) ∧ Aside0 (Below w0.heap.size w0 w'))
  case atStart => exact ⟨(0), (0), (s0_1), (by first | rfl | (simp; done) | (simp [*]; done)), (by first | rfl | (simp; done) | (simp [*]; done)), H', ⟨Nat.le_refl _⟩, ⟨by repeat (first | (with_reducible first | exact HI0.out | apply IsS53.alloc | apply IsS53.drewN | apply IsS53.drew | apply IsS53.set_1) | exact HI0.out)⟩, ⟨by repeat (first | (with_reducible first | exact HK.out | apply KeepBut.set_ | apply keep_drewN | apply keep_drew | apply keep_alloc) | exact HK.out)⟩, ⟨by repeat (first | (with_reducible first | exact HB.out | apply below_alloc | apply pw_below_drewN | apply below_drew1 | refine below_set ?_ (IsS53.ge HI0.out)) | exact HB.out)⟩⟩
  case round =>
    clear H'
    obtain ⟨x4_1, x5_1, x1001_1, rfl, rfl, HA, HK1, HI0, HK, HB⟩ := hrel
    cases gk with
    | zero => exact absurd HA.out (by simp [script_reader_number.l0])
    | succ k1 =>
      have H := HA.out
      clear HA
      simp only [script_reader_number.l0] at H
      by_cases c2 : x5_1 < 70
      · rw [if_pos c2] at H
        have c2b0 : decide (x5_1 < 70) = true := decide_eq_true c2
        clear c2
        replace H := Option.bind_eq_some_iff.mp H
        obtain ⟨⟨t179, t180, t181⟩, A30, H⟩ := H
        replace H : (if t180 = true then (if 0 ≤ x5_1 then (if t179 < 128 then (some (Go.bits .xor .i64 (wrap64 ((Go.bits .or .u64 x4_1 (shl .u64 (IntKind.u64.wrap (Go.bits .and .u8 t179 127)) x5_1)) / 2)) (wrap64 (-(wrap64 (Go.bits .and .u64 (Go.bits .or .u64 x4_1 (shl .u64 (IntKind.u64.wrap (Go.bits .and .u8 t179 127)) x5_1)) 1)))), true, t181)) else (script_reader_number.l0 k1 (Go.bits .or .u64 x4_1 (shl .u64 (IntKind.u64.wrap (Go.bits .and .u8 t179 127)) x5_1)) (wrap64 (x5_1 + 7)) s0_0 t181)) else (none)) else (some (0, false, t181))) = some (r1, r2, r3) := H
        have A3 := Aside0.mk A30
        clear A30
        by_cases c4 : t180 = true
        · subst c4
          have H1 : (if 0 ≤ x5_1 then (if t179 < 128 then (some (Go.bits .xor .i64 (wrap64 ((Go.bits .or .u64 x4_1 (shl .u64 (IntKind.u64.wrap (Go.bits .and .u8 t179 127)) x5_1)) / 2)) (wrap64 (-(wrap64 (Go.bits .and .u64 (Go.bits .or .u64 x4_1 (shl .u64 (IntKind.u64.wrap (Go.bits .and .u8 t179 127)) x5_1)) 1)))), true, t181)) else (script_reader_number.l0 k1 (Go.bits .or .u64 x4_1 (shl .u64 (IntKind.u64.wrap (Go.bits .and .u8 t179 127)) x5_1)) (wrap64 (x5_1 + 7)) s0_0 t181)) else (none)) = some (r1, r2, r3) := by rw [if_pos rfl] at H; exact H
          clear H
          have H := H1
          clear H1
          by_cases c5 : 0 ≤ x5_1
          · rw [if_pos c5] at H
            have c5b0 := eq_true c5
            have c5b1 : decide (0 ≤ x5_1) = true := decide_eq_true c5
            clear c5
            obtain ⟨ji6, hji6⟩ : ∃ j_ : Int, (shl .u64 (IntKind.u64.wrap (Go.bits .and .u8 t179 127)) x5_1) = j_ := ⟨_, rfl⟩
            replace H : (if t179 < 128 then (some (Go.bits .xor .i64 (wrap64 ((Go.bits .or .u64 x4_1 (ji6)) / 2)) (wrap64 (-(wrap64 (Go.bits .and .u64 (Go.bits .or .u64 x4_1 (ji6)) 1)))), true, t181)) else (script_reader_number.l0 k1 (Go.bits .or .u64 x4_1 (ji6)) (wrap64 (x5_1 + 7)) s0_0 t181)) = some (r1, r2, r3) := by first | (rw [hji6] at H; exact H) | (simp only [hji6] at H ⊢; exact H)
            (try rw [hji6] at A3)
            have hji6_ : (IntKind.u64.wrap ((IntKind.u64.wrap (Go.bits .and .u8 t179 127)) * 2 ^ min x5_1.toNat 64)) = ji6 := hji6
            have hji6z : x5_1 ≤ 64 → (IntKind.u64.wrap ((IntKind.u64.wrap (Go.bits .and .u8 t179 127)) * 2 ^ x5_1.toNat)) = ji6 := shl_small hji6
            by_cases c7 : t179 < 128
            · rw [if_pos c7] at H
              have c7b0 : decide (t179 < 128) = true := decide_eq_true c7
              clear c7
              simp only [Option.some.injEq, Prod.mk.injEq] at H
              obtain ⟨rfl, rfl, rfl⟩ := H
              go_wp2_with (first | ((with_reducible refine gate_callee (f := 25) rfl ?_); refine goesL_ (some 14) rfl rfl Try.func25 (by kernel_rfl) rfl #[.pointer (some ⟨g, 0, none⟩)] rfl (by (try simp only [List.map_toArray, List.map_cons, List.map_nil]); first | done | rfl | (simp only [List.length_drop, List.length_take]; rfl)) ?_; (with_reducible refine (script_reader_one.calls g s0_0 x1001_1 t179 true t181 w0 _ ?side1 ?side2 A3.out).mono ?_); (case side1 => repeat (first | (with_reducible first | exact HI0.out | apply IsS53.alloc | apply IsS53.drewN | apply IsS53.drew | apply IsS53.set_1) | exact HI0.out)); (case side2 => repeat (first | (with_reducible first | exact HB.out | apply below_alloc | apply pw_below_drewN | apply below_drew1 | refine below_set ?_ (IsS53.ge HI0.out)) | exact HB.out)); rintro e w8 ⟨rfl, hi, hb, hk⟩; refine ⟨_, rfl, ?_⟩; have n0_ := Aside0.mk (KeepBut.trans (by repeat (first | (with_reducible first | exact HK.out | apply KeepBut.set_ | apply keep_drewN | apply keep_drew | apply keep_alloc) | exact HK.out)) hk (.inl rfl)); have n1_ := Aside0.mk (hb); have n2_ := Aside0.mk (hi); clear HK; clear HB; clear HI0; have HK := n0_; have HB := n1_; have HI0 := n2_; clear n0_ n1_ n2_; (try clear hb); (try clear hb2); (try clear hk); (try clear hi)))
              go_ret2
              exact ⟨by first | rfl | (simp [errW_none, errW_some] <;> rfl) | (simp only [← hji6]; first | rfl | (simp [errW_none, errW_some] <;> rfl)) | (simp [*, errW_none, errW_some] <;> rfl), by repeat (first | (with_reducible first | exact HI0.out | apply IsS53.alloc | apply IsS53.drewN | apply IsS53.drew | apply IsS53.set_1) | exact HI0.out), by repeat (first | (with_reducible first | exact HB.out | apply below_alloc | apply pw_below_drewN | apply below_drew1 | refine below_set ?_ (IsS53.ge HI0.out)) | exact HB.out), by repeat (first | (with_reducible first | exact HK.out | apply KeepBut.set_ | apply keep_drewN | apply keep_drew | apply keep_alloc) | exact HK.out)⟩
            · rw [if_neg c7] at H
              have c7b0 : decide (t179 < 128) = false := decide_eq_false c7
              clear c7
              have H' := Aside0.mk H
              clear H
              go_wp2_with (first | ((with_reducible refine gate_callee (f := 25) rfl ?_); refine goesL_ (some 14) rfl rfl Try.func25 (by kernel_rfl) rfl #[.pointer (some ⟨g, 0, none⟩)] rfl (by (try simp only [List.map_toArray, List.map_cons, List.map_nil]); first | done | rfl | (simp only [List.length_drop, List.length_take]; rfl)) ?_; (with_reducible refine (script_reader_one.calls g s0_0 x1001_1 t179 true t181 w0 _ ?side1 ?side2 A3.out).mono ?_); (case side1 => repeat (first | (with_reducible first | exact HI0.out | apply IsS53.alloc | apply IsS53.drewN | apply IsS53.drew | apply IsS53.set_1) | exact HI0.out)); (case side2 => repeat (first | (with_reducible first | exact HB.out | apply below_alloc | apply pw_below_drewN | apply below_drew1 | refine below_set ?_ (IsS53.ge HI0.out)) | exact HB.out)); rintro e w9 ⟨rfl, hi, hb, hk⟩; refine ⟨_, rfl, ?_⟩; have n0_ := Aside0.mk (KeepBut.trans (by repeat (first | (with_reducible first | exact HK.out | apply KeepBut.set_ | apply keep_drewN | apply keep_drew | apply keep_alloc) | exact HK.out)) hk (.inl rfl)); have n1_ := Aside0.mk (hb); have n2_ := Aside0.mk (hi); clear HK; clear HB; clear HI0; have HK := n0_; have HB := n1_; have HI0 := n2_; clear n0_ n1_ n2_; (try clear hb); (try clear hb2); (try clear hk); (try clear hi)))
              go_roundg k1
              case measure => have := HK1.out; omega
              case rel => exact ⟨(Go.bits .or .u64 x4_1 (ji6)), (wrap64 (x5_1 + 7)), (t181), (by first | rfl | (simp; done) | (simp only [← hji6] <;> (first | rfl | simp)) | (simp [*]; done)), (by first | rfl | (simp; done) | (simp [*]; done)), H', ⟨by have := HK1.out; omega⟩, ⟨by repeat (first | (with_reducible first | exact HI0.out | apply IsS53.alloc | apply IsS53.drewN | apply IsS53.drew | apply IsS53.set_1) | exact HI0.out)⟩, ⟨by repeat (first | (with_reducible first | exact HK.out | apply KeepBut.set_ | apply keep_drewN | apply keep_drew | apply keep_alloc) | exact HK.out)⟩, ⟨by repeat (first | (with_reducible first | exact HB.out | apply below_alloc | apply pw_below_drewN | apply below_drew1 | refine below_set ?_ (IsS53.ge HI0.out)) | exact HB.out)⟩⟩
          · rw [if_neg c5] at H
            exact absurd H (by simp)
        · replace c4 := Bool.eq_false_iff.mpr c4
          subst c4
          have H1 : (some (0, false, t181)) = some (r1, r2, r3) := by rw [if_neg (show ¬ (false = true) by decide)] at H; exact H
          clear H
          have H := H1
          clear H1
          simp only [Option.some.injEq, Prod.mk.injEq] at H
          obtain ⟨rfl, rfl, rfl⟩ := H
          go_wp2_with (first | ((with_reducible refine gate_callee (f := 25) rfl ?_); refine goesL_ (some 14) rfl rfl Try.func25 (by kernel_rfl) rfl #[.pointer (some ⟨g, 0, none⟩)] rfl (by (try simp only [List.map_toArray, List.map_cons, List.map_nil]); first | done | rfl | (simp only [List.length_drop, List.length_take]; rfl)) ?_; (with_reducible refine (script_reader_one.calls g s0_0 x1001_1 t179 false t181 w0 _ ?side1 ?side2 A3.out).mono ?_); (case side1 => repeat (first | (with_reducible first | exact HI0.out | apply IsS53.alloc | apply IsS53.drewN | apply IsS53.drew | apply IsS53.set_1) | exact HI0.out)); (case side2 => repeat (first | (with_reducible first | exact HB.out | apply below_alloc | apply pw_below_drewN | apply below_drew1 | refine below_set ?_ (IsS53.ge HI0.out)) | exact HB.out)); rintro e w10 ⟨rfl, hi, hb, hk⟩; refine ⟨_, rfl, ?_⟩; have n0_ := Aside0.mk (KeepBut.trans (by repeat (first | (with_reducible first | exact HK.out | apply KeepBut.set_ | apply keep_drewN | apply keep_drew | apply keep_alloc) | exact HK.out)) hk (.inl rfl)); have n1_ := Aside0.mk (hb); have n2_ := Aside0.mk (hi); clear HK; clear HB; clear HI0; have HK := n0_; have HB := n1_; have HI0 := n2_; clear n0_ n1_ n2_; (try clear hb); (try clear hb2); (try clear hk); (try clear hi)))
          go_ret2
          exact ⟨by first | rfl | (simp [errW_none, errW_some] <;> rfl) | (simp [*, errW_none, errW_some] <;> rfl), by repeat (first | (with_reducible first | exact HI0.out | apply IsS53.alloc | apply IsS53.drewN | apply IsS53.drew | apply IsS53.set_1) | exact HI0.out), by repeat (first | (with_reducible first | exact HB.out | apply below_alloc | apply pw_below_drewN | apply below_drew1 | refine below_set ?_ (IsS53.ge HI0.out)) | exact HB.out), by repeat (first | (with_reducible first | exact HK.out | apply KeepBut.set_ | apply keep_drewN | apply keep_drew | apply keep_alloc) | exact HK.out)⟩
      · rw [if_neg c2] at H
        have c2b0 : decide (x5_1 < 70) = false := decide_eq_false c2
        clear c2
        simp only [Option.some.injEq, Prod.mk.injEq] at H
        obtain ⟨rfl, rfl, rfl⟩ := H
        go_wp2
        go_ret2
        exact ⟨by first | rfl | (simp [errW_none, errW_some] <;> rfl) | (simp [*, errW_none, errW_some] <;> rfl), by repeat (first | (with_reducible first | exact HI0.out | apply IsS53.alloc | apply IsS53.drewN | apply IsS53.drew | apply IsS53.set_1) | exact HI0.out), by repeat (first | (with_reducible first | exact HB.out | apply below_alloc | apply pw_below_drewN | apply below_drew1 | refine below_set ?_ (IsS53.ge HI0.out)) | exact HB.out), by repeat (first | (with_reducible first | exact HK.out | apply KeepBut.set_ | apply keep_drewN | apply keep_drew | apply keep_alloc) | exact HK.out)⟩

end Go.Proofs.Ytkommjibpeklgaa.PScriptDecodes
