/- What the law's own reading of a number, and its making of an operation, tell: the words of Spec. -/
import Derived.Test.YtkommjibpeklgaaDecEqScriptDecodes
import Derived.Test.YtkommjibpeklgaaMScriptDecodesx8
namespace Go.Proofs.Ytkommjibpeklgaa.Pure
open Go Go.RowKit Go.Proofs.Ytkommjibpeklgaa.PScriptDecodes
open Go.Proofs.YtkommjibpeklgaaW.PrintWords (rd at_rounds shl)
set_option linter.unusedVariables false
set_option linter.unusedSimpArgs false
namespace EncScriptDecodes

/-- What a reading tells: a number, and how many bytes it has. -/
def toldL (b : List Int) : Option (Int × List Int) → Int × Int
  | some (v, r) => (v, ((b.length - r.length : Nat) : Int))
  | none => (0, 0)

theorem p128 (i : Nat) (hi : i ≤ 9) : (0 : Int) < 128 ^ i ∧ (128 : Int) ^ i ≤ 9223372036854775808 := by
  have hc : i = 0 ∨ i = 1 ∨ i = 2 ∨ i = 3 ∨ i = 4 ∨ i = 5 ∨ i = 6 ∨ i = 7 ∨ i = 8 ∨ i = 9 := by omega
  rcases hc with rfl | rfl | rfl | rfl | rfl | rfl | rfl | rfl | rfl | rfl <;> simp

theorem zagL (x : Int) (h0 : 0 ≤ x) (h1 : x < 18446744073709551616) (t : Int) :
    (if (Int.tmod x 2) = 0 then (some (wrap64 (IntKind.u64.wrap (Int.tdiv x 2)), t)) else (some (wrap64 ((wrap64 (-(wrap64 (IntKind.u64.wrap (Int.tdiv x 2))))) - 1), t))) = some (zag x, t) := by
  rw [Int.tmod_eq_emod_of_nonneg h0, Int.tdiv_eq_ediv_of_nonneg h0, u64w]
  unfold zag
  have e : wrap64 (x / 2 % 18446744073709551616) = x / 2 := by unfold wrap64; omega
  rw [e]
  split
  · rfl
  · congr 2
    unfold wrap64
    omega

theorem readL_eq : ∀ (d i k : Nat) (u : Int) (xs : List Int), i + d = 10 → 1 ≤ d → 2 * d + 3 ≤ k → i ≤ xs.length → 0 ≤ u → u < 128 ^ i → IsBytes xs → xs.length ≤ 100000 →
    boscagelaw24_read.l0 k xs u (128 ^ i) (xs.length : Int) (i : Int) = some (toldL xs (num? i u (xs.drop i)))
  | 0, i, k, u, xs, h0, h1, h2, h3, h4, h5, h6, h7 => by omega
  | d + 1, i, k, u, xs, h0, h1, h2, h3, h4, h5, h6, h7 => by
    obtain ⟨k, rfl⟩ : ∃ m, k = m + 2 := ⟨k - 2, by omega⟩
    simp only [boscagelaw24_read.l0]
    rcases Nat.lt_or_ge i xs.length with hlt | hge
    · have hc := h6.get i hlt
      have hp := p128 i (by omega)
      have hu := pow_up i (by omega) u (rd xs i) h4 h5
      have e1 : IntKind.u64.wrap (u + IntKind.u64.wrap (IntKind.u64.wrap (Int.tmod (rd xs i) 128) * 128 ^ i)) = (u + (rd xs i % 128) * 128 ^ i) % 18446744073709551616 := by
        rw [Int.tmod_eq_emod_of_nonneg hc.1, u64w, u64w, u64w, show rd xs i % 128 % 18446744073709551616 = rd xs i % 128 by omega]
        generalize rd xs i % 128 * 128 ^ i = p
        omega
      rw [if_pos (by omega), if_pos (by omega), if_pos (by omega), e1, rd_drop xs i hlt]
      unfold num?
      by_cases hb : rd xs i < 128
      · rw [if_pos hb, if_pos (Or.inl hb)]
        simp only [boscagelaw24_read.j1]
        rw [if_pos trivial, zagL _ hu.1 hu.2.2]
        simp only [toldL, List.length_drop]
        congr 2
        unfold wrap64; omega
      · rw [if_neg hb]
        by_cases h9 : i = 9
        · subst h9
          rw [if_pos (Or.inr rfl)]
          simp only [boscagelaw24_read.j1]
          rw [if_pos (by decide), zagL _ hu.1 hu.2.2]
          simp only [toldL, List.length_drop]
          congr 2
          unfold wrap64; omega
        · rw [if_neg (by omega)]
          simp only [boscagelaw24_read.j1]
          have hp1 := p128 (i + 1) (by omega)
          have e2 : IntKind.u64.wrap ((128 : Int) ^ i * 128) = 128 ^ (i + 1) := by rw [u64w, ← Int.pow_succ]; omega
          rw [if_neg (by simp; omega), e2, show wrap64 ((i : Int) + 1) = ((i + 1 : Nat) : Int) by unfold wrap64; omega]
          exact readL_eq d (i + 1) k _ xs (by omega) (by omega) (by omega) (by omega) hu.1 hu.2.1 h6 h7
    · obtain rfl : i = xs.length := by omega
      rw [if_neg (by omega), List.drop_length]
      simp [num?, toldL]

theorem read_told (k : Nat) (xs : List Int) (hk : 30 ≤ k) (hb : IsBytes xs) (hl : xs.length ≤ 100000) : boscagelaw24_read.f k xs = some (toldL xs (num? 0 0 xs)) := by
  have := readL_eq 10 0 k 0 xs rfl (by omega) (by omega) (by omega) (by omega) (by simp) hb hl
  simpa [boscagelaw24_read.f] using this

theorem opL_eq (k : Nat) (hk : 3 ≤ k) (K : Int) (l : List Int) (h : 0 ≤ K) (h12 : K < 12) (hl : l.length = count K) : boscagelaw24_op.f k K l = some ((opOf K l).f0, (opOf K l).f1, (opOf K l).f2, (opOf K l).f3) := by
  obtain ⟨k, rfl⟩ : ∃ m, k = m + 3 := ⟨k - 3, by omega⟩
  rcases kinds K h with rfl | rfl | rfl | rfl | rfl | rfl | rfl | rfl | rfl | rfl | rfl | rfl | ⟨h0, h1⟩
  case inr.inr.inr.inr.inr.inr.inr.inr.inr.inr.inr.inr => omega
  · simp [count, nums] at hl; obtain ⟨a, rfl⟩ := List.length_eq_one_iff.mp hl; simp [boscagelaw24_op.f, boscagelaw24_op.j0, boscagelaw24_op.j1, opOf, rd]
  · simp [count, nums] at hl; match l, hl with
    | [a, b], _ => simp [boscagelaw24_op.f, boscagelaw24_op.j0, boscagelaw24_op.j1, opOf, rd]
  · simp [count, nums] at hl; match l, hl with
    | [a, b], _ => simp [boscagelaw24_op.f, boscagelaw24_op.j0, boscagelaw24_op.j1, opOf, rd]
  · simp [count, nums] at hl; obtain ⟨a, rfl⟩ := List.length_eq_one_iff.mp hl; simp [boscagelaw24_op.f, boscagelaw24_op.j0, boscagelaw24_op.j1, opOf, rd]
  · simp [count, nums] at hl; obtain ⟨a, rfl⟩ := List.length_eq_one_iff.mp hl; simp [boscagelaw24_op.f, boscagelaw24_op.j0, boscagelaw24_op.j1, opOf, rd]
  · simp [count, nums] at hl; obtain ⟨a, rfl⟩ := List.length_eq_one_iff.mp hl; simp [boscagelaw24_op.f, boscagelaw24_op.j0, boscagelaw24_op.j1, opOf, rd]
  · simp [count, nums] at hl; subst hl; simp [boscagelaw24_op.f, boscagelaw24_op.j0, boscagelaw24_op.j1, opOf]
  · simp [count, nums] at hl; subst hl; simp [boscagelaw24_op.f, boscagelaw24_op.j0, boscagelaw24_op.j1, opOf]
  · simp [count, nums] at hl; obtain ⟨a, rfl⟩ := List.length_eq_one_iff.mp hl; simp [boscagelaw24_op.f, boscagelaw24_op.j0, boscagelaw24_op.j1, opOf, rd]
  · simp [count, nums] at hl; obtain ⟨a, rfl⟩ := List.length_eq_one_iff.mp hl; simp [boscagelaw24_op.f, boscagelaw24_op.j0, boscagelaw24_op.j1, opOf, rd]
  · simp [count, nums] at hl; match l, hl with
    | [a, b], _ => simp [boscagelaw24_op.f, boscagelaw24_op.j0, boscagelaw24_op.j1, opOf, rd]
  · simp [count, nums] at hl; match l, hl with
    | [a, b], _ => simp [boscagelaw24_op.f, boscagelaw24_op.j0, boscagelaw24_op.j1, opOf, rd]

/-- How many numbers a kind asks; below nought: there is no such kind. -/
def manyL (K : Int) : Int := if 12 ≤ K then -1 else ((count K : Nat) : Int)
theorem manyL_eq (K : Int) (h : 0 ≤ K) : boscagelaw18_Many.f 2 K = some (manyL K) := by
  rcases kinds K h with rfl | rfl | rfl | rfl | rfl | rfl | rfl | rfl | rfl | rfl | rfl | rfl | ⟨h0, h1⟩
  case inr.inr.inr.inr.inr.inr.inr.inr.inr.inr.inr.inr => simp [boscagelaw18_Many.f, boscagelaw18_Many.j0, boscagelaw18_Many.j1, manyL, h0, h1]
  all_goals simp [boscagelaw18_Many.f, boscagelaw18_Many.j0, boscagelaw18_Many.j1, manyL, count, nums]
theorem num?_suffix : ∀ (x : List Int) (i : Nat) (u v : Int) (r : List Int), num? i u x = some (v, r) → x.drop (x.length - r.length) = r
  | [], i, u, v, r, h => by simp [num?] at h
  | c :: x, i, u, v, r, h => by
    unfold num? at h
    split at h
    · simp only [Option.some.injEq, Prod.mk.injEq] at h
      obtain ⟨_, rfl⟩ := h
      simp
    · have hl := num?_len _ _ _ _ _ h
      have := num?_suffix x _ _ _ _ h
      rw [List.length_cons, show x.length + 1 - r.length = (x.length - r.length) + 1 by omega, List.drop_succ_cons]
      exact this
theorem nums?_snoc : ∀ (n : Nat) (b vs r : List Int) (v : Int) (r' : List Int), nums? n b = some (vs, r) → num? 0 0 r = some (v, r') → nums? (n + 1) b = some (vs ++ [v], r')
  | 0, b, vs, r, v, r', h, h' => by
    simp only [nums?, Option.some.injEq, Prod.mk.injEq] at h
    obtain ⟨rfl, rfl⟩ := h
    simp [nums?, h']
  | n + 1, b, vs, r, v, r', h, h' => by
    unfold nums? at h ⊢
    split at h
    · cases h
    · next v1 r1 h1 =>
      split at h
      · cases h
      · next vs' r2 h2 =>
        simp only [Option.some.injEq, Prod.mk.injEq] at h
        obtain ⟨rfl, rfl⟩ := h
        have := nums?_snoc n _ _ _ v r' h2 h'
        rw [this]
        simp
theorem nums?_none : ∀ (n m : Nat) (b vs r : List Int), nums? n b = some (vs, r) → num? 0 0 r = none → n < m → nums? m b = none
  | 0, m, b, vs, r, h, h', hm => by
    simp only [nums?, Option.some.injEq, Prod.mk.injEq] at h
    obtain ⟨rfl, rfl⟩ := h
    obtain ⟨m, rfl⟩ : ∃ k, m = k + 1 := ⟨m - 1, by omega⟩
    simp [nums?, h']
  | n + 1, m, b, vs, r, h, h', hm => by
    obtain ⟨m, rfl⟩ : ∃ k, m = k + 1 := ⟨m - 1, by omega⟩
    unfold nums? at h ⊢
    split at h
    · cases h
    · next v1 r1 h1 =>
      split at h
      · cases h
      · next vs' r2 h2 =>
        simp only [Option.some.injEq, Prod.mk.injEq] at h
        obtain ⟨rfl, rfl⟩ := h
        rw [nums?_none n m _ _ _ h2 h' (by omega)]
end EncScriptDecodes
end Go.Proofs.Ytkommjibpeklgaa.Pure
