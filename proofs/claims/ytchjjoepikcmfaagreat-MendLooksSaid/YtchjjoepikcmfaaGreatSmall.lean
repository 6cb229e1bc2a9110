/- Small functions: cmp.Less, slices.BinarySearch, Inner.Way, mend.Look, walked. -/
import Derived.Test.YtchjjoepikcmfaaGreatWorld2
namespace Go.Proofs.YtchjjoepikcmfaaGreat.Tower
open Go Go.RowKit Go.Proofs.YtchjjoepikcmfaaGreatW.PrintWords Go.Proofs.YtchjjoepikcmfaaGreatW.PrintLast Go.Proofs.YtchjjoepikcmfaaGreatW.PrintMore Go.Proofs.YtchjjoepikcmfaaGreat.Own
set_option linter.unusedVariables false
set_option linter.unusedSimpArgs false

set_option maxHeartbeats 2000000 in
theorem cmp_nan (a : Int) (w : World) : Calls Tryz.prog 167 #[.int .i64 a] w fun e w1 => e = .returned (.bool false) ∧ w1 = w := by
  have h : (a != a) = false := by simp
  have h2 : (a == a) = true := by simp
  go_enter Tryz.func167, Tryz.ntmps167
  go_wp2
  go_ret
  exact ⟨rfl, rfl⟩
set_option maxHeartbeats 2000000 in
theorem slices_nan (a : Int) (w : World) : Calls Tryz.prog 133 #[.int .i64 a] w fun e w1 => e = .returned (.bool false) ∧ w1 = w := by
  have h : (a != a) = false := by simp
  have h2 : (a == a) = true := by simp
  go_enter Tryz.func133, Tryz.ntmps133
  go_wp2
  go_ret
  exact ⟨rfl, rfl⟩
set_option maxHeartbeats 2000000 in
theorem cmp_less (a b : Int) (w : World) : Calls Tryz.prog 132 #[.int .i64 a, .int .i64 b] w fun e w1 => e = .returned (.bool (decide (a < b))) ∧ w1 = w := by
  cases hd : decide (a < b)
  all_goals
    go_enter Tryz.func132, Tryz.ntmps132
    go_wp2_with (go_at_call 167; refine (cmp_nan _ _).mono ?_; rintro e w1 ⟨rfl, rfl⟩)
    go_ret
    exact ⟨rfl, rfl⟩

/-- Where a key is, or would be, by halves. -/
def bsF (xs : List Int) (k : Int) : Nat → Nat → Nat → Nat
  | 0, i, _ => i
  | f + 1, i, j => if i < j then (if xs.getD ((i + j) / 2) 0 < k then bsF xs k f ((i + j) / 2 + 1) j else bsF xs k f i ((i + j) / 2)) else i
theorem bsF_more (xs : List Int) (k : Int) : ∀ (f g i j : Nat), j - i ≤ f → j - i ≤ g → bsF xs k f i j = bsF xs k g i j
  | 0, 0, _, _, _, _ => rfl
  | 0, g + 1, i, j, h, _ => by
    unfold bsF
    rw [if_neg (by omega)]
  | f + 1, 0, i, j, _, h => by
    unfold bsF
    rw [if_neg (by omega)]
  | f + 1, g + 1, i, j, h, h' => by
    unfold bsF
    by_cases hlt : i < j
    · rw [if_pos hlt, if_pos hlt]
      by_cases hk : xs.getD ((i + j) / 2) 0 < k
      · rw [if_pos hk, if_pos hk]
        exact bsF_more xs k f g _ _ (by omega) (by omega)
      · rw [if_neg hk, if_neg hk]
        exact bsF_more xs k f g _ _ (by omega) (by omega)
    · rw [if_neg hlt, if_neg hlt]
def bs (xs : List Int) (k : Int) (i j : Nat) : Nat := bsF xs k (j - i) i j
theorem bs_eq (xs : List Int) (k : Int) (i j : Nat) : bs xs k i j = if i < j then (if xs.getD ((i + j) / 2) 0 < k then bs xs k ((i + j) / 2 + 1) j else bs xs k i ((i + j) / 2)) else i := by
  by_cases hlt : i < j
  · rw [if_pos hlt]
    unfold bs
    rw [bsF_more xs k (j - i) (j - i - 1 + 1) i j (by omega) (by omega)]
    conv => lhs; unfold bsF
    rw [if_pos hlt]
    by_cases hk : xs.getD ((i + j) / 2) 0 < k
    · rw [if_pos hk, if_pos hk]
      exact bsF_more xs k _ _ _ _ (by omega) (by omega)
    · rw [if_neg hk, if_neg hk]
      exact bsF_more xs k _ _ _ _ (by omega) (by omega)
  · rw [if_neg hlt]
    unfold bs
    rw [show j - i = 0 by omega]
    rfl
theorem bsF_le (xs : List Int) (k : Int) : ∀ (f i j : Nat), i ≤ j → i ≤ bsF xs k f i j ∧ bsF xs k f i j ≤ j
  | 0, i, j, h => ⟨Nat.le_refl _, h⟩
  | f + 1, i, j, h => by
    unfold bsF
    by_cases hlt : i < j
    · rw [if_pos hlt]
      by_cases hk : xs.getD ((i + j) / 2) 0 < k
      · rw [if_pos hk]
        have := bsF_le xs k f ((i + j) / 2 + 1) j (by omega)
        omega
      · rw [if_neg hk]
        have := bsF_le xs k f i ((i + j) / 2) (by omega)
        omega
    · rw [if_neg hlt]
      omega
theorem bs_le (xs : List Int) (k : Int) (i j : Nat) (h : i ≤ j) : i ≤ bs xs k i j ∧ bs xs k i j ≤ j := bsF_le xs k _ i j h

def bfound (xs : List Int) (k : Int) : Bool := decide (bs xs k 0 xs.length < xs.length) && (xs.getD (bs xs k 0 xs.length) 0 == k)
set_option maxHeartbeats 2000000 in
set_option maxRecDepth 100000 in
theorem bsearch (A : Option Addr) (n c : Nat) (xs : List Int) (k : Int) (w : World) (hr : (Kd.int .i64).C w A n xs) (hl : n < 1000000) :
    Calls Tryz.prog 110 #[.slice A n c, .int .i64 k] w fun e w1 => e = .returned (.tuple #[.int .i64 (bs xs k 0 n : Nat), .bool (bfound xs k)]) ∧ ∃ m, w1 = w.drewN m := by
  go_enter Tryz.func110, Tryz.ntmps110
  go_wp2_with fail
  go_loop [7, 8] (fun i j => ∃ a b : Nat, a ≤ b ∧ b ≤ n ∧ i = .int .i64 a ∧ j = .int .i64 b ∧ Aside0 (bs xs k a b = bs xs k 0 n)) (fun i j => ((intOf j).toNat - (intOf i).toNat))
  case atStart => exact ⟨0, n, Nat.zero_le _, Nat.le_refl _, rfl, rfl, ⟨rfl⟩⟩
  case round =>
    obtain ⟨a, b, hab, hbn, rfl, rfl, HB⟩ := hrel
    by_cases hlt : a < b
    · have d1 : decide ((a : Int) < (b : Int)) = true := decide_eq_true (by omega)
      have d2 : decide (a < b) = true := decide_eq_true hlt
      go_upto_region 5 with fail
      obtain ⟨m, hm⟩ : ∃ m : Nat, m = (a + b) / 2 := ⟨_, rfl⟩
      have em : ((a : Int) + (b : Int)) / 2 = (m : Int) := by omega
      rw [em]
      have hma : a ≤ m := by omega
      have hmb : m < b := by omega
      have b0 : (0 : Int) ≤ (m : Int) := by omega
      have b1 : (m : Int) < (n : Int) := by omega
      cases A with
      | none => exact absurd hr.2.2 (fun h => by obtain ⟨ad, h2, _⟩ := h (by have := hr.1; omega); cases h2)
      | some ad =>
        have hc := Kd.foot_int hr (m : Int) b0 b1
        have e1 : rd xs (m : Int) = xs.getD m 0 := by simp [rd]
        rw [e1, Int.toNat_natCast] at hc
        have HM := Aside0.mk hm
        have HR := Aside0.mk hr
        have HLT := Aside0.mk hlt
        clear em hm hr hlt d1 d2 e1
        obtain ⟨x, hx⟩ : ∃ x, x = xs.getD m 0 := ⟨_, rfl⟩
        rw [← hx] at hc
        have HXX := Aside0.mk hx
        clear hx
        cases hd : decide (x < k) with
        | true =>
          have HD := Aside0.mk (of_decide_eq_true hd)
          go_wp2_with (go_at_call 132; refine (cmp_less _ _ _).mono ?_; rintro e w1 ⟨rfl, rfl⟩)
          go_round
          case rel =>
            refine ⟨m + 1, b, by omega, hbn, by go_num, rfl, ⟨?_⟩⟩
            rw [← HB.out]
            conv => rhs; rw [bs_eq]
            rw [if_pos HLT.out, ← HM.out, ← HXX.out, if_pos HD.out]
          case measure => simp [intOf]; omega
        | false =>
          have HD := Aside0.mk (of_decide_eq_false hd)
          go_wp2_with (go_at_call 132; refine (cmp_less _ _ _).mono ?_; rintro e w1 ⟨rfl, rfl⟩)
          go_round
          case rel =>
            refine ⟨a, m, by omega, by omega, rfl, rfl, ⟨?_⟩⟩
            rw [← HB.out]
            conv => rhs; rw [bs_eq]
            rw [if_pos HLT.out, ← HM.out, ← HXX.out, if_neg (by have := HD.out; omega)]
          case measure => simp [intOf]; omega
    · have d1 : decide ((a : Int) < (b : Int)) = false := decide_eq_false (by omega)
      have d2 : decide (a < b) = false := decide_eq_false hlt
      have hb := HB.out
      rw [bs_eq, if_neg hlt] at hb
      have hln := hr.1
      have HL := Aside0.mk hln
      by_cases han : a < n
      · have d3 : decide ((a : Int) < (n : Int)) = true := decide_eq_true (by omega)
        have d4 : decide (a < n) = true := decide_eq_true han
        have b0 : (0 : Int) ≤ (a : Int) := by omega
        have b1 : (a : Int) < (n : Int) := by omega
        cases A with
        | none => exact absurd hr.2.2 (fun h => by obtain ⟨ad, h2, _⟩ := h (by have := hr.1; omega); cases h2)
        | some ad =>
          have hc := Kd.foot_int hr (a : Int) b0 b1
          have e1 : rd xs (a : Int) = xs.getD a 0 := by simp [rd]
          rw [e1, Int.toNat_natCast] at hc
          have HBB := Aside0.mk hb
          have hfd : bfound xs k = (xs.getD a 0 == k) := by
            unfold bfound
            rw [hln, ← hb, decide_eq_true han]
            rfl
          have HF := Aside0.mk hfd
          clear hr e1 hb hln hfd HB hlt
          obtain ⟨x, hx⟩ : ∃ x, x = xs.getD a 0 := ⟨_, rfl⟩
          rw [← hx] at hc
          have HXX := Aside0.mk hx
          clear hx
          cases hd : x == k with
          | true =>
            go_wp2_with fail
            go_ret2
            refine ⟨?_, 0, rfl⟩
            rw [HF.out, ← HXX.out, hd, HBB.out]; rfl
          | false =>
            go_wp2_with (go_at_call 133; refine (slices_nan _ _).mono ?_; rintro e w1 ⟨rfl, rfl⟩)
            go_ret2
            refine ⟨?_, 0, rfl⟩
            rw [HF.out, ← HXX.out, hd, HBB.out]; rfl
      · have d3 : decide ((a : Int) < (n : Int)) = false := decide_eq_false (by omega)
        have d4 : decide (a < n) = false := decide_eq_false han
        have HBB := Aside0.mk hb
        have hfd : bfound xs k = false := by
          unfold bfound
          rw [hln, ← hb, decide_eq_false han]
          rfl
        have HF := Aside0.mk hfd
        clear hr hb hln hfd HB hlt
        go_wp2_with fail
        go_ret2
        refine ⟨?_, 0, rfl⟩
        rw [HF.out, HBB.out]; rfl

theorem ret_int {k : IntKind} {a b : Int} (h : a = b) : Ending.returned (.int k a) = .returned (.int k b) := by rw [h]
def wayOf (keys : List Int) (ways : Nat) (k : Int) : Int := min ((bs keys k 0 keys.length : Int) + if bfound keys k then 1 else 0) (max ((ways : Int) - 1) 0)
set_option maxHeartbeats 2000000 in
set_option maxRecDepth 100000 in
theorem inner_way (Ak Ay : Option Addr) (ck m cy : Nat) (keys : List Int) (k : Int) (w : World) (hr : (Kd.int .i64).C w Ak keys.length keys) (hl : keys.length < 1000000) (hm : m < 1000000) :
    Calls Tryz.prog 88 #[.agg #[.slice Ak keys.length ck, .slice Ay m cy], .int .i64 k] w fun e w1 => e = .returned (.int .i64 (wayOf keys m k)) ∧ Below w.heap.size w w1 := by
  have hrc := Kd.C_below hr (below_alloc (Below.refl w.heap.size w) (.cells #[.slice Ak keys.length ck, .slice Ay m cy] 27))
  have HR := Aside0.mk hrc
  have HB := Aside0.mk (below_alloc (Below.refl w.heap.size w) (.cells #[.slice Ak keys.length ck, .slice Ay m cy] 27))
  have hbx := blk_new w (.cells #[.slice Ak keys.length ck, .slice Ay m cy] 27)
  have hbl := bs_le keys k 0 keys.length (Nat.zero_le _)
  obtain ⟨q, hq⟩ : ∃ q, q = bs keys k 0 keys.length := ⟨_, rfl⟩
  rw [← hq] at hbl
  have HQ := Aside0.mk hq
  clear hr hrc hq
  go_enter Tryz.func88, Tryz.ntmps88
  go_upto_region 1 with fail
  generalize w.alloc (.cells #[.slice Ak keys.length ck, .slice Ay m cy] 27) = w1 at HR HB hbx ⊢
  generalize w.heap.size = b at hbx ⊢
  have c0 := (blk_cell hbx 0).trans (rfl : _ = some (Value.slice Ak keys.length ck))
  have c1 := (blk_cell hbx 1).trans (rfl : _ = some (Value.slice Ay m cy))
  clear hbx
  cases hf : bfound keys k
  all_goals
    have HF := Aside0.mk hf
    clear hf
    go_wp2_with (go_at_call 110; refine (bsearch Ak keys.length ck keys k _ HR.out hl).mono ?_; rintro e w2 ⟨rfl, nq, rfl⟩; rw [← HQ.out, HF.out])
    all_goals
      go_ret
      refine ⟨?_, pw_below_drewN HB.out nq⟩
      have hw : wayOf keys m k = min ((q : Int) + if bfound keys k then 1 else 0) (max ((m : Int) - 1) 0) := by rw [HQ.out]; rfl
      rw [HF.out] at hw
      rw [hw]
      refine ret_int ?_
      simp only [if_true, Bool.false_eq_true, if_false]
      first
        | omega
        | (split at * <;> omega)
end Go.Proofs.YtchjjoepikcmfaaGreat.Tower
