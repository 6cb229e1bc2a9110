/- slices.Clone, at pairs, keys and ways, walked. -/
import Derived.Test.YtchjjoepikcmfaaGreatTask
import Derived.Laws.Cover3
namespace Go.Proofs.YtchjjoepikcmfaaGreat.Tower
open Go Go.RowKit Go.Proofs.YtchjjoepikcmfaaGreatW.PrintWords Go.Proofs.YtchjjoepikcmfaaGreatW.PrintLast Go.Proofs.YtchjjoepikcmfaaGreatW.PrintMore Go.Proofs.YtchjjoepikcmfaaGreat.Own
set_option linter.unusedVariables false
set_option linter.unusedSimpArgs false

theorem run_eql_slice_nil {P : Program} (t e : TypeId) (a : Option Addr) (l c : Nat) (w : World) (h : P.underlying t = some (.slice e)) : (binOp .eql t (.slice a l c) (.slice none 0 0)).run P w = .ok (.bool a.isNone) w := by
  simp only [binOp]
  simp [run_equal_slice_nil w t e a l c h]
abbrev kPair : Kd (Int × Int) := Kd.pair (Kd.int .i64) (Kd.int .i64)
theorem R_empty {α : Type} (d : Kd α) (e : Nat) (w : World) (base : Nat) (hb : base ≤ w.heap.size) : d.R e (w.alloc (.cells #[] e)) base (fun k => base ≤ k) (.slice (some ⟨w.heap.size, 0, none⟩) 0 0) [] := by
  refine ⟨fun k hk => ?_, [], ⟨by simp, .inr ⟨w.heap.size, 0, #[], rfl, hb, blk_new w _, Nat.le_refl _, by simp [maxLen], by simp, by simp⟩⟩, Reps.none _ _⟩
  have : w.heap.size = k := by simpa [Value.ownBlock] using hk
  omega

theorem info_pairs : (Tryz.prog.info? 89).map (fun i => (i.zero, i.size, i.bytes)) = some (some (.agg #[.int .i64 0, .int .i64 0]), 2, 16) := by kernel_rfl
theorem eqS_pairs (a : Option Addr) (l c : Nat) (w : World) : (binOp .eql 23 (.slice a l c) (.slice none 0 0)).run Tryz.prog w = .ok (.bool a.isNone) w := run_eql_slice_nil _ _ a l c w Tryz.underlying23
attribute [local go_sem] eqS_pairs

set_option maxHeartbeats 2000000 in
set_option maxRecDepth 100000 in
theorem clone_pairs (A : Option Addr) (n c : Nat) (xs : List (Int × Int)) (w : World) (hr : (kPair).C w A n xs) (hl : n < 1000000) :
    Calls Tryz.prog 102 #[.slice A n c] w fun e w' => ∃ v, e = .returned v ∧ (kPair).R 89 w' w.heap.size (fun k => w.heap.size ≤ k) v xs ∧ Below w.heap.size w w' := by
  have HR := Aside0.mk hr
  cases A with
  | none =>
    have hx : xs = [] := by
      have h1 := hr.1
      cases xs with
      | nil => rfl
      | cons p q =>
        obtain ⟨ad, h2, _⟩ := hr.2.2 (by rw [← h1]; simp)
        cases h2
    subst hx
    clear hr HR
    go_enter Tryz.func102, Tryz.ntmps102
    go_wp2_with fail
    go_ret
    exact ⟨_, rfl, Kd.R_nil _ _ _ _ _, Below.refl _ _⟩
  | some ad =>
    clear hr
    have HE := Aside0.mk (R_empty (kPair) 89 w w.heap.size (Nat.le_refl _))
    have HB := Aside0.mk (below_alloc (Below.refl w.heap.size w) (.cells #[] 89))
    have HC := Aside0.mk (Kd.C_below HR.out (below_alloc (Below.refl _ _) (.cells #[] 89)))
    go_enter Tryz.func102, Tryz.ntmps102
    go_wp2_with (first | ((with_reducible refine gate_builtin (b := .append) (xs := #[.tmp 5, .tmp 6]) rfl ?_); at_builtin; refine Kd.R_append_rows (kPair) (w0 := w) w.heap.size rfl (.tmp 5) (.tmp 6) 23 89 (.agg #[.int .i64 0, .int .i64 0]) 16 rfl Tryz.underlying23 info_pairs rfl (by decide) (by omega) (.slice (some ⟨w.heap.size, 0, none⟩) 0 0) [] xs (some ad) n c (fun k => w.heap.size ≤ k) (fun _ => False) rfl rfl HE.out HC.out (fun _ _ h => h) (fun _ hk => hk.elim) (fun k hk => by simp at hk; omega) HB.out (by simp) (by simp; omega) ?_; intro v5 w5 ho hb5 hg hat; have HO := Aside0.mk ho; have HB5 := Aside0.mk hb5; clear ho hb5 hg hat HE HB HC))

    go_ret
    exact ⟨_, rfl, HO.out, HB5.out⟩

theorem info_keys : (Tryz.prog.info? 2).map (fun i => (i.zero, i.size, i.bytes)) = some (some (.int .i64 0), 1, 8) := by kernel_rfl
theorem eqS_keys (a : Option Addr) (l c : Nat) (w : World) : (binOp .eql 24 (.slice a l c) (.slice none 0 0)).run Tryz.prog w = .ok (.bool a.isNone) w := run_eql_slice_nil _ _ a l c w Tryz.underlying24
attribute [local go_sem] eqS_keys

set_option maxHeartbeats 2000000 in
set_option maxRecDepth 100000 in
theorem clone_keys (A : Option Addr) (n c : Nat) (xs : List (Int)) (w : World) (hr : (Kd.int .i64).C w A n xs) (hl : n < 1000000) :
    Calls Tryz.prog 103 #[.slice A n c] w fun e w' => ∃ v, e = .returned v ∧ (Kd.int .i64).R 2 w' w.heap.size (fun k => w.heap.size ≤ k) v xs ∧ Below w.heap.size w w' := by
  have HR := Aside0.mk hr
  cases A with
  | none =>
    have hx : xs = [] := by
      have h1 := hr.1
      cases xs with
      | nil => rfl
      | cons p q =>
        obtain ⟨ad, h2, _⟩ := hr.2.2 (by rw [← h1]; simp)
        cases h2
    subst hx
    clear hr HR
    go_enter Tryz.func103, Tryz.ntmps103
    go_wp2_with fail
    go_ret
    exact ⟨_, rfl, Kd.R_nil _ _ _ _ _, Below.refl _ _⟩
  | some ad =>
    clear hr
    have HE := Aside0.mk (R_empty (Kd.int .i64) 2 w w.heap.size (Nat.le_refl _))
    have HB := Aside0.mk (below_alloc (Below.refl w.heap.size w) (.cells #[] 2))
    have HC := Aside0.mk (Kd.C_below HR.out (below_alloc (Below.refl _ _) (.cells #[] 2)))
    go_enter Tryz.func103, Tryz.ntmps103
    go_wp2_with (first | ((with_reducible refine gate_builtin (b := .append) (xs := #[.tmp 5, .tmp 6]) rfl ?_); at_builtin; refine Kd.R_append_rows (Kd.int .i64) (w0 := w) w.heap.size rfl (.tmp 5) (.tmp 6) 24 2 (.int .i64 0) 8 rfl Tryz.underlying24 info_keys rfl (by decide) (by omega) (.slice (some ⟨w.heap.size, 0, none⟩) 0 0) [] xs (some ad) n c (fun k => w.heap.size ≤ k) (fun _ => False) rfl rfl HE.out HC.out (fun _ _ h => h) (fun _ hk => hk.elim) (fun k hk => by simp at hk; omega) HB.out (by simp) (by simp; omega) ?_; intro v5 w5 ho hb5 hg hat; have HO := Aside0.mk ho; have HB5 := Aside0.mk hb5; clear ho hb5 hg hat HE HB HC))

    go_ret
    exact ⟨_, rfl, HO.out, HB5.out⟩

theorem info_ways : (Tryz.prog.info? 64).map (fun i => (i.zero, i.size, i.bytes)) = some (some (.int .i64 0), 1, 8) := by kernel_rfl
theorem eqS_ways (a : Option Addr) (l c : Nat) (w : World) : (binOp .eql 25 (.slice a l c) (.slice none 0 0)).run Tryz.prog w = .ok (.bool a.isNone) w := run_eql_slice_nil _ _ a l c w Tryz.underlying25
attribute [local go_sem] eqS_ways

set_option maxHeartbeats 2000000 in
set_option maxRecDepth 100000 in
theorem clone_ways (A : Option Addr) (n c : Nat) (xs : List (Int)) (w : World) (hr : (Kd.int .i64).C w A n xs) (hl : n < 1000000) :
    Calls Tryz.prog 104 #[.slice A n c] w fun e w' => ∃ v, e = .returned v ∧ (Kd.int .i64).R 64 w' w.heap.size (fun k => w.heap.size ≤ k) v xs ∧ Below w.heap.size w w' := by
  have HR := Aside0.mk hr
  cases A with
  | none =>
    have hx : xs = [] := by
      have h1 := hr.1
      cases xs with
      | nil => rfl
      | cons p q =>
        obtain ⟨ad, h2, _⟩ := hr.2.2 (by rw [← h1]; simp)
        cases h2
    subst hx
    clear hr HR
    go_enter Tryz.func104, Tryz.ntmps104
    go_wp2_with fail
    go_ret
    exact ⟨_, rfl, Kd.R_nil _ _ _ _ _, Below.refl _ _⟩
  | some ad =>
    clear hr
    have HE := Aside0.mk (R_empty (Kd.int .i64) 64 w w.heap.size (Nat.le_refl _))
    have HB := Aside0.mk (below_alloc (Below.refl w.heap.size w) (.cells #[] 64))
    have HC := Aside0.mk (Kd.C_below HR.out (below_alloc (Below.refl _ _) (.cells #[] 64)))
    go_enter Tryz.func104, Tryz.ntmps104
    go_wp2_with (first | ((with_reducible refine gate_builtin (b := .append) (xs := #[.tmp 5, .tmp 6]) rfl ?_); at_builtin; refine Kd.R_append_rows (Kd.int .i64) (w0 := w) w.heap.size rfl (.tmp 5) (.tmp 6) 25 64 (.int .i64 0) 8 rfl Tryz.underlying25 info_ways rfl (by decide) (by omega) (.slice (some ⟨w.heap.size, 0, none⟩) 0 0) [] xs (some ad) n c (fun k => w.heap.size ≤ k) (fun _ => False) rfl rfl HE.out HC.out (fun _ _ h => h) (fun _ hk => hk.elim) (fun k hk => by simp at hk; omega) HB.out (by simp) (by simp; omega) ?_; intro v5 w5 ho hb5 hg hat; have HO := Aside0.mk ho; have HB5 := Aside0.mk hb5; clear ho hb5 hg hat HE HB HC))

    go_ret
    exact ⟨_, rfl, HO.out, HB5.out⟩
end Go.Proofs.YtchjjoepikcmfaaGreat.Tower
