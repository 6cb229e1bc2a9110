/- What is read of bytes: plain words on lists, no Go and no memory; that what was written is read again; that what is cut off is the first part. Nothing is asked but that numbers are of 64 bits. -/
import Derived.Test.YtkommjibpeklgaaEncScriptDecodes
import Derived.Lib.Zigzag
namespace Go.Proofs.Ytkommjibpeklgaa.Pure
open Go Go.RowKit Go.Proofs.Ytkommjibpeklgaa.PScriptDecodes
set_option linter.unusedVariables false
set_option linter.unusedSimpArgs false
namespace EncScriptDecodes

/-- Back from a number without a sign. -/
def zag (u : Int) : Int := if u % 2 = 0 then u / 2 else -(u / 2) - 1

/-- A number at the beginning of some bytes, and what is behind it. -/
def num? : Nat → Int → List Int → Option (Int × List Int)
  | _, _, [] => none
  | i, u, c :: r => if c < 128 ∨ i = 9 then some (zag ((u + (c % 128) * 128 ^ i) % 18446744073709551616), r) else num? (i + 1) ((u + (c % 128) * 128 ^ i) % 18446744073709551616) r

/-- So many numbers. -/
def nums? : Nat → List Int → Option (List Int × List Int)
  | 0, b => some ([], b)
  | n + 1, b => match num? 0 0 b with
    | none => none
    | some (v, r) => match nums? n r with
      | none => none
      | some (vs, r') => some (v :: vs, r')

def count (K : Int) : Nat := (nums K 0 0 0).length
/-- An operation of a kind and its numbers. -/
def opOf (K : Int) (l : List Int) : S25 := ⟨K, l.getD 0 0, if K = 10 ∨ K = 11 then l.getD 1 0 else 0, if K = 1 ∨ K = 2 then l.getD 1 0 else 0⟩

/-- The next entry, or none; what is behind it. -/
def one? (c : Int) (r : List Int) : Option S27 × List Int :=
  if c % 4 = 0 then (match r with
    | [] => (none, [])
    | K :: r' => if 12 ≤ K then (none, r') else (match nums? (count K) r' with
      | none => (none, [])
      | some (vs, r'') => (some ⟨0, c / 4, opOf K vs⟩, r'')))
  else (some ⟨c % 4, c / 4, ⟨0, 0, 0, 0⟩⟩, r)

/-- All entries, and how many are passed over. -/
def dec : Nat → List Int → List S27 × Int
  | 0, _ => ([], 0)
  | n + 1, [] => ([], 0)
  | n + 1, c :: r => match one? c r with
    | (some e, r') => (e :: (dec n r').1, (dec n r').2)
    | (none, r') => ((dec n r').1, (dec n r').2 + 1)

theorem num?_len : ∀ (b : List Int) (i : Nat) (u v : Int) (r : List Int), num? i u b = some (v, r) → r.length < b.length
  | [], i, u, v, r, h => by simp [num?] at h
  | c :: b, i, u, v, r, h => by
    unfold num? at h
    split at h
    · simp only [Option.some.injEq, Prod.mk.injEq] at h
      obtain ⟨_, rfl⟩ := h
      simp
    · have := num?_len b _ _ _ _ h
      simp only [List.length_cons]; omega

theorem nums?_len : ∀ (n : Nat) (b vs r : List Int), nums? n b = some (vs, r) → r.length ≤ b.length ∧ vs.length = n
  | 0, b, vs, r, h => by
    simp only [nums?, Option.some.injEq, Prod.mk.injEq] at h
    obtain ⟨rfl, rfl⟩ := h
    simp
  | n + 1, b, vs, r, h => by
    unfold nums? at h
    split at h
    · cases h
    · next v r1 h1 =>
      split at h
      · cases h
      · next vs' r' h2 =>
        simp only [Option.some.injEq, Prod.mk.injEq] at h
        obtain ⟨rfl, rfl⟩ := h
        have a := num?_len _ _ _ _ _ h1
        have b := nums?_len n _ _ _ h2
        simp only [List.length_cons]
        omega

theorem one?_len (c : Int) (r : List Int) : (one? c r).2.length ≤ r.length := by
  unfold one?
  split
  · split
    · simp
    · next K r' =>
      split
      · simp
      · split
        · simp
        · next vs r'' h =>
          have := (nums?_len _ _ _ _ h).1
          simp only [List.length_cons]; omega
  · simp

theorem dec_more : ∀ (n : Nat) (b : List Int), b.length ≤ n → dec (n + 1) b = dec n b
  | 0, b, h => by
    have : b = [] := List.length_eq_zero_iff.mp (by omega)
    subst this
    simp [dec]
  | n + 1, [], h => by simp [dec]
  | n + 1, c :: r, h => by
    have hl := one?_len c r
    simp only [List.length_cons] at h
    have ih := dec_more n (one? c r).2 (by omega)
    rw [dec, dec]
    rcases he : one? c r with ⟨e, r'⟩
    rw [he] at ih
    cases e <;> simp only [ih]

theorem dec_any (n m : Nat) (b : List Int) (hn : b.length ≤ n) (hm : b.length ≤ m) : dec n b = dec m b := by
  have key : ∀ d, dec (b.length + d) b = dec b.length b := by
    intro d
    induction d with
    | zero => rfl
    | succ d ih => rw [← Nat.add_assoc, dec_more _ _ (by omega), ih]
  rw [show n = b.length + (n - b.length) by omega, show m = b.length + (m - b.length) by omega, key, key]

/-! ### Written, and read again -/

theorem u64w (n : Int) : IntKind.u64.wrap n = n % 18446744073709551616 := by simp [IntKind.wrap, IntKind.bits, IntKind.signed]

theorem zig_pos (a : Int) (h0 : 0 ≤ a) (h1 : a ≤ 9223372036854775807) : zig a = a * 2 := by
  unfold zig
  rw [u64w, u64w, u64w, show a / 9223372036854775808 = 0 by omega]
  have e : (a % 18446744073709551616 * 2) % 18446744073709551616 = ((a * 2).toNat : Int) := by omega
  rw [e, show ((0 : Int) % 18446744073709551616) = ((0 : Nat) : Int) from rfl, bits_xor_u64_nat _ _ (by omega) (by omega), Nat.xor_zero]
  omega

theorem zig_neg (a : Int) (h0 : -9223372036854775808 ≤ a) (h1 : a < 0) : zig a = -2 * a - 1 := by
  unfold zig
  rw [u64w, u64w, u64w, show a / 9223372036854775808 = -1 by omega]
  have e : (a % 18446744073709551616 * 2) % 18446744073709551616 = ((a * 2 + 18446744073709551616).toNat : Int) := by omega
  rw [e, show ((-1 : Int) % 18446744073709551616) = ((2 ^ 64 - 1 : Nat) : Int) from rfl, bits_xor_u64_nat _ _ (by omega) (by decide), Nat.xor_comm, Lib.xor_ones64 _ (by omega)]
  omega

theorem zag_zig (a : Int) (h0 : -9223372036854775808 ≤ a) (h1 : a ≤ 9223372036854775807) : zag (zig a) = a := by
  unfold zag
  by_cases h : 0 ≤ a
  · rw [zig_pos a h h1, if_pos (by omega)]; omega
  · rw [zig_neg a h0 (by omega), if_neg (by omega)]; omega

theorem zag_rng (u : Int) (h0 : 0 ≤ u) (h1 : u < 18446744073709551616) : -9223372036854775808 ≤ zag u ∧ zag u ≤ 9223372036854775807 := by
  unfold zag
  split <;> omega

theorem zig_zag (u : Int) (h0 : 0 ≤ u) (h1 : u < 18446744073709551616) : zig (zag u) = u := by
  unfold zag
  split
  · rw [zig_pos _ (by omega) (by omega)]; omega
  · rw [zig_neg _ (by omega) (by omega)]; omega

theorem or128 (x : Int) (h : 0 ≤ x) : Go.bits .or .u8 (x % 256) 128 = x % 128 + 128 := by
  have key : ∀ y : Nat, y < 256 → Go.bits .or .u8 (y : Int) 128 = (y : Int) % 128 + 128 := by decide +kernel
  have := key (x % 256).toNat (by omega)
  rw [show ((x % 256).toNat : Int) = x % 256 by omega] at this
  rw [this]
  omega

/-- Digits, read from place i on. -/
theorem num?_digs : ∀ (n i : Nat) (u w : Int) (rest : List Int), i + n = 10 → 1 ≤ n → 0 ≤ w → 0 ≤ u → u + w * 128 ^ i < 18446744073709551616 → num? i u (digs n w ++ rest) = some (zag (u + w * 128 ^ i), rest)
  | 0, i, u, w, rest, h0, h1, h2, h3, h4 => by omega
  | n + 1, i, u, w, rest, h0, h1, h2, h3, h4 => by
    have hp : (0 : Int) < 128 ^ i := Int.pow_pos (by decide)
    unfold digs
    by_cases hw : w ≥ 128
    · have hn : 1 ≤ n := by
        rcases Nat.eq_zero_or_pos n with rfl | h
        · obtain rfl : i = 9 := by omega
          omega
        · exact h
      rw [if_pos hw, or128 w h2]
      have hsplit : w * 128 ^ i = (w % 128) * 128 ^ i + (w / 128) * 128 ^ (i + 1) := by
        have hd : w = w % 128 + 128 * (w / 128) := by omega
        have e : (w % 128 + 128 * (w / 128)) * (128 : Int) ^ i = (w % 128) * 128 ^ i + (w / 128) * 128 ^ (i + 1) := by
          rw [Int.pow_succ, Int.add_mul]
          congr 1
          rw [Int.mul_comm 128 (w / 128), Int.mul_assoc, Int.mul_comm 128]
        rw [← e, ← hd]
      have hc : (w % 128 + 128) % 128 = w % 128 := by omega
      have hq : 0 ≤ (w / 128) * (128 : Int) ^ (i + 1) := Int.mul_nonneg (by omega) (Int.le_of_lt (Int.pow_pos (by decide)))
      have hr : 0 ≤ (w % 128) * (128 : Int) ^ i := Int.mul_nonneg (by omega) (Int.le_of_lt hp)
      have hm : (u + (w % 128) * 128 ^ i) % 18446744073709551616 = u + (w % 128) * 128 ^ i := Int.emod_eq_of_lt (by omega) (by omega)
      show num? i u ((w % 128 + 128) :: (digs n (w / 128) ++ rest)) = _
      unfold num?
      rw [if_neg (by omega), hc, hm]
      rw [num?_digs n (i + 1) _ (w / 128) rest (by omega) hn (by omega) (by omega) (by omega)]
      rw [hsplit, Int.add_assoc]
    · rw [if_neg hw]
      show num? i u (w % 256 :: rest) = _
      unfold num?
      have hc : w % 256 % 128 = w := by omega
      have hq : 0 ≤ w * (128 : Int) ^ i := Int.mul_nonneg h2 (Int.le_of_lt hp)
      rw [if_pos (Or.inl (by omega)), hc, Int.emod_eq_of_lt (by omega) h4]

theorem num?_num (a : Int) (rest : List Int) (h0 : -9223372036854775808 ≤ a) (h1 : a ≤ 9223372036854775807) : num? 0 0 (num a ++ rest) = some (a, rest) := by
  have hz := zig_rng a
  unfold num
  rw [num?_digs 10 0 0 (zig a) rest rfl (by omega) hz.1 (by omega) (by simpa using hz.2)]
  simp [zag_zig a h0 h1]

theorem nums?_flat : ∀ (t rest : List Int), (∀ a ∈ t, -9223372036854775808 ≤ a ∧ a ≤ 9223372036854775807) → nums? t.length (t.flatMap num ++ rest) = some (t, rest)
  | [], rest, h => by simp [nums?]
  | a :: t, rest, h => by
    have ha := h a (by simp)
    simp only [List.length_cons, List.flatMap_cons, List.append_assoc]
    unfold nums?
    rw [num?_num a _ ha.1 ha.2]
    simp only
    rw [nums?_flat t rest (fun x hx => h x (by simp [hx]))]

/-- An entry that may be, of numbers of their kinds. -/
structure Good (s : S27) : Prop where
  may : may s.f0 s.f1 s.f2.f0 s.f2.f1 s.f2.f2 s.f2.f3 = true
  e0 : 0 ≤ s.f0
  d0 : 0 ≤ s.f1
  k0 : 0 ≤ s.f2.f0
  a : -9223372036854775808 ≤ s.f2.f1 ∧ s.f2.f1 ≤ 9223372036854775807
  b : -9223372036854775808 ≤ s.f2.f2 ∧ s.f2.f2 ≤ 9223372036854775807
  c : -9223372036854775808 ≤ s.f2.f3 ∧ s.f2.f3 ≤ 9223372036854775807

theorem Good.lt {s : S27} (h : Good s) : s.f0 < 4 ∧ s.f1 < 64 := by
  have hm := h.may
  unfold EncScriptDecodes.may at hm
  by_cases hc : 4 ≤ s.f0 ∨ 64 ≤ s.f1
  · rw [if_pos hc] at hm; cases hm
  · omega

theorem Good.head {s : S27} (h : Good s) : head s = s.f0 + 4 * s.f1 := by
  have hb := h.lt
  have h0 := h.e0
  have h1 := h.d0
  have key : ∀ x : Nat, x < 4 → ∀ y : Nat, y < 64 → Go.bits .or .u8 (x : Int) (((y : Int) * 4) % 256) = (x : Int) + 4 * y := by decide +kernel
  have := key s.f0.toNat (by omega) s.f1.toNat (by omega)
  rw [show (s.f0.toNat : Int) = s.f0 by omega, show (s.f1.toNat : Int) = s.f1 by omega] at this
  exact this

theorem Good.nums {s : S27} (h : Good s) : ∀ a ∈ nums s.f2.f0 s.f2.f1 s.f2.f2 s.f2.f3, -9223372036854775808 ≤ a ∧ a ≤ 9223372036854775807 := by
  unfold EncScriptDecodes.nums
  repeat' split
  all_goals simp only [List.mem_cons, List.not_mem_nil, or_false]
  all_goals intro a ha
  · rcases ha with rfl | rfl
    · exact h.a
    · exact h.c
  · rcases ha with rfl | rfl
    · exact h.a
    · exact h.b
  · subst ha; exact h.a
  · exact absurd ha (by simp)

theorem Good.op {s : S27} (h : Good s) (h0 : s.f0 = 0) : s.f2.f0 < 12 ∧ opOf s.f2.f0 (EncScriptDecodes.nums s.f2.f0 s.f2.f1 s.f2.f2 s.f2.f3) = s.f2 ∧ (EncScriptDecodes.nums s.f2.f0 s.f2.f1 s.f2.f2 s.f2.f3).length = count s.f2.f0 := by
  have hm := h.may
  have hl := h.lt
  have hk := h.k0
  obtain ⟨e, d, ⟨K, a, b, c⟩⟩ := s
  simp only at h0 hm hl hk ⊢
  subst h0
  unfold EncScriptDecodes.may at hm
  rw [if_neg (by omega), if_pos rfl] at hm
  by_cases h12 : 12 ≤ K
  · rw [if_pos h12] at hm; cases hm
  · rw [if_neg h12] at hm
    refine ⟨by omega, ?_⟩
    rcases kinds K hk with rfl | rfl | rfl | rfl | rfl | rfl | rfl | rfl | rfl | rfl | rfl | rfl | ⟨h0, h1⟩
    case inr.inr.inr.inr.inr.inr.inr.inr.inr.inr.inr.inr => omega
    all_goals simp_all [opOf, EncScriptDecodes.nums, count]

theorem Good.plain {s : S27} (h : Good s) (h0 : s.f0 ≠ 0) : s.f2 = ⟨0, 0, 0, 0⟩ := by
  have hm := h.may
  have hl := h.lt
  obtain ⟨e, d, ⟨K, a, b, c⟩⟩ := s
  simp only at h0 hm hl ⊢
  unfold EncScriptDecodes.may at hm
  rw [if_neg (by omega), if_neg h0] at hm
  simp_all

/-- An entry that may be, read again. -/
theorem one?_ent {s : S27} (h : Good s) (rest : List Int) : ∃ c r, ent s ++ rest = c :: r ∧ one? c r = (some s, rest) := by
  have hh := h.head
  have hl := h.lt
  have e0 := h.e0
  have d0 := h.d0
  unfold ent
  rw [if_pos h.may, hh]
  by_cases h0 : s.f0 = 0
  · obtain ⟨h12, hop, hn⟩ := h.op h0
    rw [if_pos h0]
    refine ⟨s.f0 + 4 * s.f1, _, rfl, ?_⟩
    unfold one?
    rw [if_pos (by omega)]
    show (if 12 ≤ s.f2.f0 then _ else _) = _
    rw [if_neg (by omega), ← hn, show (List.flatMap num (EncScriptDecodes.nums s.f2.f0 s.f2.f1 s.f2.f2 s.f2.f3)).append rest = List.flatMap num (EncScriptDecodes.nums s.f2.f0 s.f2.f1 s.f2.f2 s.f2.f3) ++ rest from rfl, nums?_flat _ _ h.nums]
    simp only
    rw [hop]
    obtain ⟨e, d, o⟩ := s
    simp only at h0 ⊢
    subst h0
    rw [show (0 + 4 * d) / 4 = d by omega]
  · rw [if_neg h0]
    refine ⟨s.f0 + 4 * s.f1, _, rfl, ?_⟩
    unfold one?
    rw [if_neg (by omega)]
    have hp := h.plain h0
    obtain ⟨e, d, o⟩ := s
    simp only at h0 hp hl e0 ⊢
    subst hp
    rw [show (e + 4 * d) % 4 = e by omega, show (e + 4 * d) / 4 = d by omega]
    rfl

theorem dec_wrote : ∀ (l : List S27) (rest : List Int) (n : Nat), (∀ s ∈ l, Good s) → (wrote l ++ rest).length ≤ n → dec n (wrote l ++ rest) = (l ++ (dec n rest).1, (dec n rest).2)
  | [], rest, n, h, hn => by simp [wrote]
  | s :: l, rest, n, h, hn => by
    obtain ⟨c, r, e1, e2⟩ := one?_ent (h s (by simp)) (wrote l ++ rest)
    have e3 : wrote (s :: l) ++ rest = c :: r := by rw [← e1]; simp [wrote]
    rw [e3] at hn ⊢
    simp only [List.length_cons] at hn
    have hlen := one?_len c r
    rw [e2] at hlen
    simp only at hlen
    obtain ⟨m, rfl⟩ : ∃ m, n = m + 1 := ⟨n - 1, by omega⟩
    have hrest : rest.length ≤ m := by
      have : rest.length ≤ (wrote l ++ rest).length := by simp
      omega
    rw [dec, e2]
    simp only
    rw [dec_wrote l rest m (fun x hx => h x (by simp [hx])) (by omega), dec_more m rest hrest]
    simp
end EncScriptDecodes
end Go.Proofs.Ytkommjibpeklgaa.Pure
