/- The loop of Decode tells what the words of Spec tell. Conditions: bytes; some hundred thousand of them at most; rounds enough. -/
import Derived.Test.YtkommjibpeklgaaSpecScriptDecodes
import Derived.Test.YtkommjibpeklgaaDecScriptDecodes
import Derived.Lib.VarintBits
namespace Go.Proofs.Ytkommjibpeklgaa.Pure
open Go Go.RowKit Go.Proofs.Ytkommjibpeklgaa.PScriptDecodes
open Go.Proofs.YtkommjibpeklgaaW.PrintWords (rd at_rounds shl)
set_option linter.unusedVariables false
set_option linter.unusedSimpArgs false
namespace EncScriptDecodes

def IsBytes (b : List Int) : Prop := ∀ c ∈ b, 0 ≤ c ∧ c ≤ 255

theorem IsBytes.get {b : List Int} (h : IsBytes b) (i : Nat) (hi : i < b.length) : 0 ≤ rd b i ∧ rd b i ≤ 255 := by
  have : rd b i = b[i] := by simp [rd, hi]
  rw [this]
  exact h _ (List.getElem_mem hi)

theorem and3 (x : Int) (h0 : 0 ≤ x) (h1 : x ≤ 255) : bits .and .u8 x 3 = x % 4 := by
  have := bits_mask .u8 8 (by decide) wraps_u8 2 (by decide) x h0 (by omega)
  simpa using this

theorem one_eq (b : List Int) (i : Nat) (h : i < b.length) (hl : b.length ≤ 100000) : script_reader_one.f b i = some (rd b i, true, ((i + 1 : Nat) : Int)) := by
  unfold script_reader_one.f
  have e1 : wrap64 ((i : Int) + 1) = ((i + 1 : Nat) : Int) := by unfold wrap64; omega
  have e2 : wrap64 (((i + 1 : Nat) : Int) - 1) = (i : Int) := by unfold wrap64; omega
  rw [if_neg (by omega), e1, e2, if_pos (by omega), if_pos (by omega)]

theorem one_end (b : List Int) : script_reader_one.f b b.length = some (0, false, (b.length : Int)) := by
  unfold script_reader_one.f
  rw [if_pos (by omega)]

theorem join_eq (i : Nat) (hi : i ≤ 9) (u c : Int) (h0 : 0 ≤ u) (h1 : u < 128 ^ i) (c0 : 0 ≤ c) (c1 : c ≤ 255) :
    bits .or .u64 u (shl .u64 (IntKind.u64.wrap (bits .and .u8 c 127)) ((7 * i : Nat) : Int)) = (u + (c % 128) * 128 ^ i) % 18446744073709551616 := by
  have e1 : IntKind.u64.wrap (bits .and .u8 c 127) = c % 128 := by rw [u8_and127 _ c0 (by omega), u64w]; omega
  rw [e1]
  unfold shl
  rw [u64w, show (((7 * i : Nat) : Int)).toNat = 7 * i from rfl, show IntKind.bits .u64 = 64 from rfl, Nat.min_eq_left (by omega)]
  have hc : i = 0 ∨ i = 1 ∨ i = 2 ∨ i = 3 ∨ i = 4 ∨ i = 5 ∨ i = 6 ∨ i = 7 ∨ i = 8 ∨ i = 9 := by omega
  rcases hc with rfl | rfl | rfl | rfl | rfl | rfl | rfl | rfl | rfl | rfl
  · simp only [Nat.mul_zero, Int.pow_zero] at h1 ⊢; rw [u64_orv0 _ _ (by omega) (by omega) (by omega) (by omega) (by omega)]; omega
  · simp only [Nat.reduceMul, Int.reducePow] at h1 ⊢; rw [u64_orv7 _ _ (by omega) (by omega) (by omega) (by omega) (by omega)]; omega
  · simp only [Nat.reduceMul, Int.reducePow] at h1 ⊢; rw [u64_orv14 _ _ (by omega) (by omega) (by omega) (by omega) (by omega)]; omega
  · simp only [Nat.reduceMul, Int.reducePow] at h1 ⊢; rw [u64_orv21 _ _ (by omega) (by omega) (by omega) (by omega) (by omega)]; omega
  · simp only [Nat.reduceMul, Int.reducePow] at h1 ⊢; rw [u64_orv28 _ _ (by omega) (by omega) (by omega) (by omega) (by omega)]; omega
  · simp only [Nat.reduceMul, Int.reducePow] at h1 ⊢; rw [u64_orv35 _ _ (by omega) (by omega) (by omega) (by omega) (by omega)]; omega
  · simp only [Nat.reduceMul, Int.reducePow] at h1 ⊢; rw [u64_orv42 _ _ (by omega) (by omega) (by omega) (by omega) (by omega)]; omega
  · simp only [Nat.reduceMul, Int.reducePow] at h1 ⊢; rw [u64_orv49 _ _ (by omega) (by omega) (by omega) (by omega) (by omega)]; omega
  · simp only [Nat.reduceMul, Int.reducePow] at h1 ⊢; rw [u64_orv56 _ _ (by omega) (by omega) (by omega) (by omega) (by omega)]; omega
  · simp only [Nat.reduceMul, Int.reducePow] at h1 ⊢; rw [u64_orv63 _ _ (by omega) (by omega) (by omega) (by omega) (by omega)]; omega

theorem xor_comm64 (a b : Int) : bits .xor .i64 a b = bits .xor .i64 b a := by
  show IntKind.i64.wrap ((BitVec.ofInt 64 a ^^^ BitVec.ofInt 64 b).toNat : Int) = IntKind.i64.wrap ((BitVec.ofInt 64 b ^^^ BitVec.ofInt 64 a).toNat : Int)
  rw [BitVec.xor_comm]

theorem xor_zero64 (x : Int) (h0 : 0 ≤ x) (h1 : x < 9223372036854775808) : bits .xor .i64 x 0 = x := by
  show IntKind.i64.wrap ((BitVec.ofInt 64 x ^^^ BitVec.ofInt 64 0).toNat : Int) = x
  have h : BitVec.ofInt 64 0 = 0#64 := by decide
  rw [h, BitVec.xor_zero, BitVec.toNat_ofInt, IntKind.wrap_i64]
  omega

theorem zag_eq (u : Int) (h0 : 0 ≤ u) (h1 : u < 18446744073709551616) : bits .xor .i64 (wrap64 (u / 2)) (wrap64 (-(wrap64 (bits .and .u64 u 1)))) = zag u := by
  rw [Lib.u64_and1 u h0 h1]
  have e1 : wrap64 (u / 2) = u / 2 := by unfold wrap64; omega
  rw [e1]
  unfold zag
  by_cases h : u % 2 = 0
  · have e2 : wrap64 (-(wrap64 (u % 2))) = 0 := by unfold wrap64; omega
    rw [e2, if_pos h, xor_zero64 _ (by omega) (by omega)]
  · have e2 : wrap64 (-(wrap64 (u % 2))) = -1 := by unfold wrap64; omega
    have e3 := Lib.i64_not (u / 2).toNat (by omega)
    rw [show (((u / 2).toNat : Nat) : Int) = u / 2 by omega] at e3
    rw [e2, if_neg h, xor_comm64, e3]

/-- What a reading of a number tells, by the place behind it. -/
def told (b : List Int) : Option (Int × List Int) → Int × Bool × Int
  | some (v, r) => (v, true, ((b.length - r.length : Nat) : Int))
  | none => (0, false, (b.length : Int))

theorem pow_up (i : Nat) (hi : i ≤ 9) (u c : Int) (h0 : 0 ≤ u) (h1 : u < 128 ^ i) : 0 ≤ (u + (c % 128) * 128 ^ i) % 18446744073709551616 ∧ (u + (c % 128) * 128 ^ i) % 18446744073709551616 < 128 ^ (i + 1) ∧ (u + (c % 128) * 128 ^ i) % 18446744073709551616 < 18446744073709551616 := by
  have hc : i = 0 ∨ i = 1 ∨ i = 2 ∨ i = 3 ∨ i = 4 ∨ i = 5 ∨ i = 6 ∨ i = 7 ∨ i = 8 ∨ i = 9 := by omega
  rcases hc with rfl | rfl | rfl | rfl | rfl | rfl | rfl | rfl | rfl | rfl <;> simp only [Nat.reduceAdd, Int.pow_zero, Int.reducePow] at h1 ⊢ <;> omega

theorem num_eq : ∀ (d i k : Nat) (u : Int) (b : List Int) (at_ : Nat), i + d = 10 → 1 ≤ d → d + 2 ≤ k → at_ ≤ b.length → 0 ≤ u → u < 128 ^ i → IsBytes b → b.length ≤ 100000 →
    script_reader_number.l0 k u ((7 * i : Nat) : Int) b at_ = some (told b (num? i u (b.drop at_)))
  | 0, i, k, u, b, at_, h0, h1, h2, h3, h4, h5, h6, h7 => by omega
  | d + 1, i, k, u, b, at_, h0, h1, h2, h3, h4, h5, h6, h7 => by
    obtain ⟨k, rfl⟩ : ∃ m, k = m + 1 := ⟨k - 1, by omega⟩
    simp only [script_reader_number.l0]
    rw [if_pos (by omega)]
    rcases Nat.lt_or_ge at_ b.length with hlt | hge
    · rw [one_eq b at_ hlt h7]
      simp only [Option.bind_some, if_true]
      rw [if_pos (by omega), rd_drop b at_ hlt]
      have hc := h6.get at_ hlt
      have hp := pow_up i (by omega) u (rd b at_) h4 h5
      rw [join_eq i (by omega) u _ h4 h5 hc.1 hc.2]
      unfold num?
      by_cases hb : rd b at_ < 128
      · rw [if_pos hb, if_pos (Or.inl hb), zag_eq _ hp.1 hp.2.2]
        simp only [told, List.length_drop]
        congr 3
        omega
      · rw [if_neg hb]
        by_cases h9 : i = 9
        · rw [if_pos (Or.inr h9)]
          subst h9
          obtain ⟨k, rfl⟩ : ∃ m, k = m + 1 := ⟨k - 1, by omega⟩
          simp only [script_reader_number.l0]
          rw [if_neg (by unfold wrap64; omega), zag_eq _ hp.1 hp.2.2]
          simp only [told, List.length_drop]
          congr 3
          omega
        · rw [if_neg (by omega), show wrap64 (((7 * i : Nat) : Int) + 7) = ((7 * (i + 1) : Nat) : Int) by unfold wrap64; omega]
          exact num_eq d (i + 1) k _ b (at_ + 1) (by omega) (by omega) (by omega) (by omega) hp.1 hp.2.1 h6 h7
    · obtain rfl : at_ = b.length := by omega
      rw [one_end]
      simp [told, num?]

theorem number_told (k : Nat) (b : List Int) (at_ : Nat) (hk : 12 ≤ k) (h : at_ ≤ b.length) (hb : IsBytes b) (hl : b.length ≤ 100000) : script_reader_number.f k b at_ = some (told b (num? 0 0 (b.drop at_))) := by
  have := num_eq 10 0 k 0 b at_ rfl (by omega) hk h (by omega) (by simp) hb hl
  exact this

theorem count_eq (K : Int) (h : 0 ≤ K) (a b c : Int) : (nums K a b c).length = count K := by
  unfold count nums
  repeat' split
  all_goals simp

theorem make_of (k : Nat) (hk : 3 ≤ k) (K : Int) (l : List Int) (h : 0 ≤ K) (h12 : K < 12) (hl : l.length = count K) : model_Make.f k K l = some ((opOf K l).f0, (opOf K l).f1, (opOf K l).f2, (opOf K l).f3, true) := by
  obtain ⟨k, rfl⟩ : ∃ m, k = m + 3 := ⟨k - 3, by omega⟩
  have key : ∃ a b c, nums K a b c = l ∧ (K = 6 ∨ K = 7 → a = 0) ∧ (¬ (K = 10 ∨ K = 11) → b = 0) ∧ (¬ (K = 1 ∨ K = 2) → c = 0) := by
    rcases kinds K h with rfl | rfl | rfl | rfl | rfl | rfl | rfl | rfl | rfl | rfl | rfl | rfl | ⟨h0, h1⟩
    case inr.inr.inr.inr.inr.inr.inr.inr.inr.inr.inr.inr => omega
    · simp [count, nums] at hl; obtain ⟨a, rfl⟩ := List.length_eq_one_iff.mp hl; exact ⟨a, 0, 0, by simp [nums]⟩
    · simp [count, nums] at hl; match l, hl with
      | [a, b], _ => exact ⟨a, 0, b, by simp [nums]⟩
    · simp [count, nums] at hl; match l, hl with
      | [a, b], _ => exact ⟨a, 0, b, by simp [nums]⟩
    · simp [count, nums] at hl; obtain ⟨a, rfl⟩ := List.length_eq_one_iff.mp hl; exact ⟨a, 0, 0, by simp [nums]⟩
    · simp [count, nums] at hl; obtain ⟨a, rfl⟩ := List.length_eq_one_iff.mp hl; exact ⟨a, 0, 0, by simp [nums]⟩
    · simp [count, nums] at hl; obtain ⟨a, rfl⟩ := List.length_eq_one_iff.mp hl; exact ⟨a, 0, 0, by simp [nums]⟩
    · simp [count, nums] at hl; subst hl; exact ⟨0, 0, 0, by simp [nums]⟩
    · simp [count, nums] at hl; subst hl; exact ⟨0, 0, 0, by simp [nums]⟩
    · simp [count, nums] at hl; obtain ⟨a, rfl⟩ := List.length_eq_one_iff.mp hl; exact ⟨a, 0, 0, by simp [nums]⟩
    · simp [count, nums] at hl; obtain ⟨a, rfl⟩ := List.length_eq_one_iff.mp hl; exact ⟨a, 0, 0, by simp [nums]⟩
    · simp [count, nums] at hl; match l, hl with
      | [a, b], _ => exact ⟨a, b, 0, by simp [nums]⟩
    · simp [count, nums] at hl; match l, hl with
      | [a, b], _ => exact ⟨a, b, 0, by simp [nums]⟩
  obtain ⟨a, b, c, rfl, z1, z2, z3⟩ := key
  rw [make_eq k K a b c h]
  rcases kinds K h with rfl | rfl | rfl | rfl | rfl | rfl | rfl | rfl | rfl | rfl | rfl | rfl | ⟨h0, h1⟩
  case inr.inr.inr.inr.inr.inr.inr.inr.inr.inr.inr.inr => omega
  all_goals simp [opOf, nums]

/-- What an operation's reading tells. -/
def toldOp (b : List Int) (K : Int) : Option (List Int × List Int) → Int × Int × Int × Int × Bool × Int
  | some (vs, r) => ((opOf K vs).f0, (opOf K vs).f1, (opOf K vs).f2, (opOf K vs).f3, true, ((b.length - r.length : Nat) : Int))
  | none => (0, 0, 0, 0, false, (b.length : Int))

theorem op_l0 : ∀ (d k : Nat) (K : Int) (vs : List Int) (j : Nat) (b : List Int) (at_ : Nat), 0 ≤ K → K < 12 → vs.length = j → j + d = count K → d + 14 ≤ k → at_ ≤ b.length → IsBytes b → b.length ≤ 100000 →
    script_reader_op.l0 k K vs ((count K : Nat) : Int) (j : Int) b at_ = some (toldOp b K ((nums? d (b.drop at_)).map fun x => (vs ++ x.1, x.2)))
  | 0, k, K, vs, j, b, at_, h0, h1, h2, h3, h4, h5, h6, h7 => by
    obtain ⟨k, rfl⟩ : ∃ m, k = m + 1 := ⟨k - 1, by omega⟩
    simp only [script_reader_op.l0]
    rw [if_neg (by omega), make_of k (by omega) K vs h0 h1 (by omega)]
    simp only [Option.bind_some, nums?, Option.map_some, toldOp, List.append_nil, List.length_drop]
    congr 6
    omega
  | d + 1, k, K, vs, j, b, at_, h0, h1, h2, h3, h4, h5, h6, h7 => by
    obtain ⟨k, rfl⟩ : ∃ m, k = m + 1 := ⟨k - 1, by omega⟩
    have hcnt : count K ≤ 2 := nums_len K 0 0 0
    simp only [script_reader_op.l0]
    rw [if_pos (by omega), number_told k b at_ (by omega) h5 h6 h7]
    simp only [Option.bind_some]
    unfold nums?
    rcases hn : num? 0 0 (b.drop at_) with _ | ⟨v, r⟩
    · simp [told, toldOp]
    · have hr := num?_len _ _ _ _ _ hn
      rw [List.length_drop] at hr
      simp only [told, if_true]
      rw [if_pos (by omega), show wrap64 ((j : Int) + 1) = ((j + 1 : Nat) : Int) by unfold wrap64; omega]
      rw [op_l0 d k K (vs ++ [v]) (j + 1) b (b.length - r.length) h0 h1 (by simp [h2]) (by omega) (by omega) (by omega) h6 h7]
      have hsuf : b.drop (b.length - r.length) = r := by
        have key : ∀ (x : List Int) (i : Nat) (u v : Int) (r : List Int), num? i u x = some (v, r) → x.drop (x.length - r.length) = r := by
          intro x
          induction x with
          | nil => intro i u v r h; simp [num?] at h
          | cons c x ih =>
            intro i u v r h
            unfold num? at h
            split at h
            · simp only [Option.some.injEq, Prod.mk.injEq] at h
              obtain ⟨_, rfl⟩ := h
              simp
            · have hl := num?_len _ _ _ _ _ h
              have := ih _ _ _ _ h
              rw [List.length_cons, show x.length + 1 - r.length = (x.length - r.length) + 1 by omega, List.drop_succ_cons]
              exact this
        have := key _ _ _ _ _ hn
        rw [List.drop_drop, List.length_drop] at this
        rw [show b.length - r.length = at_ + (b.length - at_ - r.length) by omega]
        exact this
      rw [hsuf]
      rcases nums? d r with _ | ⟨ws, r'⟩ <;> simp

theorem nums?_suffix : ∀ (n : Nat) (x vs r : List Int), nums? n x = some (vs, r) → x.drop (x.length - r.length) = r
  | 0, x, vs, r, h => by
    simp only [nums?, Option.some.injEq, Prod.mk.injEq] at h
    obtain ⟨_, rfl⟩ := h
    simp
  | n + 1, x, vs, r, h => by
    unfold nums? at h
    split at h
    · cases h
    · next v r1 h1 =>
      split at h
      · cases h
      · next vs' r' h2 =>
        simp only [Option.some.injEq, Prod.mk.injEq] at h
        obtain ⟨_, rfl⟩ := h
        have s2 := nums?_suffix n _ _ _ h2
        have l1 := num?_len _ _ _ _ _ h1
        have l2 := (nums?_len _ _ _ _ h2).1
        have s1 : x.drop (x.length - r1.length) = r1 := by
          have key : ∀ (x : List Int) (i : Nat) (u v : Int) (r : List Int), num? i u x = some (v, r) → x.drop (x.length - r.length) = r := by
            intro x
            induction x with
            | nil => intro i u v r h; simp [num?] at h
            | cons c x ih =>
              intro i u v r h
              unfold num? at h
              split at h
              · simp only [Option.some.injEq, Prod.mk.injEq] at h
                obtain ⟨_, rfl⟩ := h
                simp
              · have hl := num?_len _ _ _ _ _ h
                have := ih _ _ _ _ h
                rw [List.length_cons, show x.length + 1 - r.length = (x.length - r.length) + 1 by omega, List.drop_succ_cons]
                exact this
          exact key _ _ _ _ _ h1
        rw [← s2]
        conv => lhs; rw [show x.length - (List.drop (r1.length - r'.length) r1).length = (x.length - r1.length) + (r1.length - r'.length) by rw [List.length_drop]; omega, ← List.drop_drop, s1]

theorem op_told (k : Nat) (b : List Int) (at_ : Nat) (hk : 20 ≤ k) (h : at_ < b.length) (hb : IsBytes b) (hl : b.length ≤ 100000) (h12 : rd b at_ < 12) :
    script_reader_op.f k b at_ = some (toldOp b (rd b at_) (nums? (count (rd b at_)) (b.drop (at_ + 1)))) := by
  obtain ⟨k, rfl⟩ : ∃ m, k = m + 1 := ⟨k - 1, by omega⟩
  have hc := hb.get at_ h
  unfold script_reader_op.f
  rw [one_eq b at_ h hl]
  simp only [Option.bind_some, if_true]
  rw [decide_eq_false (by omega)]
  simp only [script_reader_op.j0]
  rw [if_neg (by decide), numbers_eq' k (by omega) _ _ _ _ hc.1]
  simp only [Option.bind_some]
  rw [show (nums (rd b at_) 0 0 0).length = count (rd b at_) from rfl]
  have hcnt : count (rd b at_) ≤ 2 := nums_len _ 0 0 0
  have := op_l0 (count (rd b at_)) k (rd b at_) [] 0 b (at_ + 1) hc.1 h12 rfl (by omega) (by omega) (by omega) hb hl
  rw [show ((0 : Nat) : Int) = 0 from rfl] at this
  rw [this]
  rcases nums? (count (rd b at_)) (b.drop (at_ + 1)) with _ | ⟨ws, r'⟩ <;> simp

theorem op_many (k : Nat) (b : List Int) (at_ : Nat) (hk : 20 ≤ k) (h : at_ < b.length) (hb : IsBytes b) (hl : b.length ≤ 100000) (h12 : 12 ≤ rd b at_) :
    script_reader_op.f k b at_ = some (0, 0, 0, 0, false, ((at_ + 1 : Nat) : Int)) := by
  obtain ⟨k, rfl⟩ : ∃ m, k = m + 1 := ⟨k - 1, by omega⟩
  unfold script_reader_op.f
  rw [one_eq b at_ h hl]
  simp only [Option.bind_some, if_true]
  rw [decide_eq_true (by omega)]
  simp [script_reader_op.j0]

theorem op_end (k : Nat) (b : List Int) (hk : 20 ≤ k) : script_reader_op.f k b b.length = some (0, 0, 0, 0, false, (b.length : Int)) := by
  obtain ⟨k, rfl⟩ : ∃ m, k = m + 1 := ⟨k - 1, by omega⟩
  unfold script_reader_op.f
  rw [one_end]
  simp [script_reader_op.j0]

theorem decL_eq : ∀ (n k : Nat) (out : List S27) (bad : Int) (b : List Int) (at_ : Nat), b.length - at_ ≤ n → at_ ≤ b.length → n + 22 ≤ k → b.length ≤ 100000 → out.length + n ≤ 1000000 → 0 ≤ bad → bad + n ≤ 1000000 → IsBytes b →
    decL k out bad b at_ = some (out ++ (dec n (b.drop at_)).1, bad + (dec n (b.drop at_)).2)
  | n, k, out, bad, b, at_, h0, h1, h2, h3, h4, h5, h6, h7 => by
    obtain ⟨k, rfl⟩ : ∃ m, k = m + 1 := ⟨k - 1, by omega⟩
    simp only [decL]
    rcases Nat.lt_or_ge at_ b.length with hlt | hge
    · obtain ⟨n, rfl⟩ : ∃ m, n = m + 1 := ⟨n - 1, by omega⟩
      have hc := h7.get at_ hlt
      rw [one_eq b at_ hlt h3, rd_drop b at_ hlt]
      simp only [Option.bind_some, if_true]
      rw [and3 _ hc.1 hc.2, dec]
      unfold one?
      have up : wrap64 (bad + 1) = bad + 1 := by unfold wrap64; omega
      by_cases hk : rd b at_ % 4 = 0
      · rw [if_pos hk, if_pos hk]
        rcases Nat.lt_or_ge (at_ + 1) b.length with hlt2 | hge2
        · rw [rd_drop b (at_ + 1) hlt2]
          simp only
          have hcK := h7.get (at_ + 1) hlt2
          by_cases h12 : 12 ≤ rd b ((at_ + 1 : Nat) : Int)
          · rw [op_many k b (at_ + 1) (by omega) hlt2 h7 h3 h12, if_pos h12]
            simp only [Option.bind_some, Bool.false_eq_true, if_false]
            rw [up, decL_eq n k out (bad + 1) b (at_ + 1 + 1) (by omega) (by omega) (by omega) h3 (by omega) (by omega) (by omega) h7]
            simp only [Option.some.injEq, Prod.mk.injEq, true_and]
            omega
          · rw [op_told k b (at_ + 1) (by omega) hlt2 h7 h3 (by omega), if_neg h12]
            simp only [Option.bind_some]
            rcases hn : nums? (count (rd b ((at_ + 1 : Nat) : Int))) (b.drop (at_ + 1 + 1)) with _ | ⟨vs, r⟩
            · simp only [toldOp, Bool.false_eq_true, if_false]
              rw [up, decL_eq n k out (bad + 1) b b.length (by omega) (by omega) (by omega) h3 (by omega) (by omega) (by omega) h7]
              simp only [List.drop_length, Option.some.injEq, Prod.mk.injEq, true_and]
              omega
            · have hr := (nums?_len _ _ _ _ hn).1
              have hs := nums?_suffix _ _ _ _ hn
              rw [List.length_drop] at hr hs
              rw [List.drop_drop, show at_ + 1 + 1 + (b.length - (at_ + 1 + 1) - r.length) = b.length - r.length by omega] at hs
              simp only [toldOp, if_true]
              rw [if_pos (by omega), hk, decL_eq n k _ bad b (b.length - r.length) (by omega) (by omega) (by omega) h3 (by simp only [List.length_append, List.length_singleton]; omega) h5 (by omega) h7, hs]
              simp
        · obtain hat : at_ + 1 = b.length := by omega
          rw [hat, op_end k b (by omega), List.drop_length]
          simp only [Option.bind_some, Bool.false_eq_true, if_false]
          rw [up, decL_eq n k out (bad + 1) b b.length (by omega) (by omega) (by omega) h3 (by omega) (by omega) (by omega) h7]
          simp only [List.drop_length, Option.some.injEq, Prod.mk.injEq, true_and]
          omega
      · rw [if_neg hk, if_neg hk, if_pos (by omega)]
        rw [decL_eq n k _ bad b (at_ + 1) (by omega) (by omega) (by omega) h3 (by simp only [List.length_append, List.length_singleton]; omega) h5 (by omega) h7]
        simp
    · obtain rfl : at_ = b.length := by omega
      rw [one_end, List.drop_length]
      simp only [Option.bind_some, Bool.false_eq_true, if_false]
      cases n <;> simp [dec]
  termination_by n => n

theorem decode_eq (k : Nat) (b : List Int) (hk : b.length + 22 ≤ k) (hl : b.length ≤ 100000) (hb : IsBytes b) : decL k [] 0 b 0 = some (dec b.length b) := by
  have := decL_eq b.length k [] 0 b 0 (by omega) (by omega) hk hl (by simp only [List.length_nil]; omega) (by omega) (by omega) hb
  rw [show ((0 : Nat) : Int) = 0 from rfl] at this
  rw [this]
  simp
end EncScriptDecodes
end Go.Proofs.Ytkommjibpeklgaa.Pure
