/- What the program writes of entries: the words, and that its loops come to them. Conditions: a list short enough for a slice; kinds not below nought. -/
import Derived.Test.YtkommjibpeklgaaMScriptDecodesx6
namespace Go.Proofs.Ytkommjibpeklgaa.Pure
open Go Go.RowKit Go.Proofs.Ytkommjibpeklgaa.PScriptDecodes Go.Proofs.YtkommjibpeklgaaW.PrintWords Go.Proofs.YtkommjibpeklgaaW.PrintLast
set_option linter.unusedVariables false
set_option linter.unusedSimpArgs false
namespace EncScriptDecodes

def nums (K a b c : Int) : List Int :=
  if K = 1 ∨ K = 2 then [a, c] else if K = 10 ∨ K = 11 then [a, b] else if K = 0 ∨ K = 3 ∨ K = 4 ∨ K = 5 ∨ K = 8 ∨ K = 9 then [a] else []

theorem kinds (K : Int) (h : 0 ≤ K) : K = 0 ∨ K = 1 ∨ K = 2 ∨ K = 3 ∨ K = 4 ∨ K = 5 ∨ K = 6 ∨ K = 7 ∨ K = 8 ∨ K = 9 ∨ K = 10 ∨ K = 11 ∨ (12 ≤ K ∧ K ≠ 0 ∧ K ≠ 1 ∧ K ≠ 2 ∧ K ≠ 3 ∧ K ≠ 4 ∧ K ≠ 5 ∧ K ≠ 6 ∧ K ≠ 7 ∧ K ≠ 8 ∧ K ≠ 9 ∧ K ≠ 10 ∧ K ≠ 11) := by omega

theorem numbers_eq (k : Nat) (K a b c : Int) (h : 0 ≤ K) : model_Op_Numbers.f (k + 2) K a b c = some (nums K a b c) := by
  rcases kinds K h with rfl | rfl | rfl | rfl | rfl | rfl | rfl | rfl | rfl | rfl | rfl | rfl | ⟨h0, h1⟩
  case inr.inr.inr.inr.inr.inr.inr.inr.inr.inr.inr.inr =>
    simp [model_Op_Numbers.f, model_Op_Numbers.j0, model_Op_Numbers.j1, nums, h1]
  all_goals simp [model_Op_Numbers.f, model_Op_Numbers.j0, model_Op_Numbers.j1, nums]

theorem numbers_eq' (k : Nat) (hk : 2 ≤ k) (K a b c : Int) (h : 0 ≤ K) : model_Op_Numbers.f k K a b c = some (nums K a b c) := by
  obtain ⟨k, rfl⟩ : ∃ m, k = m + 2 := ⟨k - 2, by omega⟩
  exact numbers_eq k K a b c h

theorem make_eq (k : Nat) (K a b c : Int) (h : 0 ≤ K) : model_Make.f (k + 3) K (nums K a b c) =
    if 12 ≤ K then some (0, 0, 0, 0, false) else if K = 1 ∨ K = 2 then some (K, a, 0, c, true) else if K = 10 ∨ K = 11 then some (K, a, b, 0, true)
    else if K = 6 ∨ K = 7 then some (K, 0, 0, 0, true) else some (K, a, 0, 0, true) := by
  rcases kinds K h with rfl | rfl | rfl | rfl | rfl | rfl | rfl | rfl | rfl | rfl | rfl | rfl | ⟨h0, h1⟩
  case inr.inr.inr.inr.inr.inr.inr.inr.inr.inr.inr.inr =>
    simp [model_Make.f, model_Make.j0, h0]
  all_goals simp [model_Make.f, model_Make.j0, model_Make.j1, model_Make.j2, numbers_eq, nums, rd]

theorem zc (x : Int) : ((0 : Int) == x) = (x == 0) := Bool.beq_comm

/-- May it be? -/
def may (e d K a b c : Int) : Bool :=
  if 4 ≤ e ∨ 64 ≤ d then false else if e = 0 then (if 12 ≤ K then false else if K = 1 ∨ K = 2 then b == 0 else if K = 10 ∨ K = 11 then c == 0 else if K = 6 ∨ K = 7 then a == 0 && (b == 0 && c == 0) else b == 0 && c == 0)
  else K == 0 && (a == 0 && (b == 0 && c == 0))

theorem right_eq (k : Nat) (e d K a b c : Int) (h : 0 ≤ K) : script_Entry_Right.f (k + 4) e d K a b c = some (may e d K a b c) := by
  unfold script_Entry_Right.f may
  have hj : ∀ g : Bool, script_Entry_Right.j0 (k + 4) g e d K a b c = some (if g = true then false else if e = 0 then (if 12 ≤ K then false else if K = 1 ∨ K = 2 then b == 0 else if K = 10 ∨ K = 11 then c == 0 else if K = 6 ∨ K = 7 then a == 0 && (b == 0 && c == 0) else b == 0 && c == 0)
      else K == 0 && (a == 0 && (b == 0 && c == 0))) := by
    intro g
    simp only [script_Entry_Right.j0, numbers_eq _ _ _ _ _ h, Option.bind_some, make_eq _ _ _ _ _ h]
    cases g
    · by_cases he : e = 0
      · rcases kinds K h with rfl | rfl | rfl | rfl | rfl | rfl | rfl | rfl | rfl | rfl | rfl | rfl | ⟨h0, h1⟩
        case pos.inr.inr.inr.inr.inr.inr.inr.inr.inr.inr.inr.inr => simp [he, h0]
        all_goals simp [he, zc]
      · simp [he]
    · simp
  by_cases h4 : e ≥ 4
  · rw [if_pos h4, hj, if_pos (Or.inl h4)]; simp
  · rw [if_neg h4, hj]
    by_cases h6 : d ≥ 64
    · rw [if_pos (Or.inr h6)]; simp [h6]
    · rw [if_neg (show ¬ (4 ≤ e ∨ 64 ≤ d) by omega)]; simp [h6]

theorem right_eq' (k : Nat) (hk : 4 ≤ k) (e d K a b c : Int) (h : 0 ≤ K) : script_Entry_Right.f k e d K a b c = some (may e d K a b c) := by
  obtain ⟨k, rfl⟩ : ∃ m, k = m + 4 := ⟨k - 4, by omega⟩
  exact right_eq k e d K a b c h

/-- A number without a sign, of an int64. -/
def zig (a : Int) : Int := Go.bits .xor .u64 (IntKind.u64.wrap ((IntKind.u64.wrap (a)) * 2)) (IntKind.u64.wrap (a / 9223372036854775808))

theorem u64_rng (n : Int) : 0 ≤ IntKind.u64.wrap n ∧ IntKind.u64.wrap n < 18446744073709551616 := by
  rw [show IntKind.u64.wrap n = n % 18446744073709551616 by simp [IntKind.wrap, IntKind.bits, IntKind.signed]]
  omega

theorem zig_rng (a : Int) : 0 ≤ zig a ∧ zig a < 18446744073709551616 := by
  unfold zig
  exact u64_rng _

/-- Seven bits each, the lowest first. -/
def digs : Nat → Int → List Int
  | 0, _ => []
  | n + 1, u => if u ≥ 128 then Go.bits .or .u8 (u % 256) 128 :: digs n (u / 128) else [u % 256]

theorem digs_len : ∀ (n : Nat) (u : Int), (digs n u).length ≤ n
  | 0, _ => by simp [digs]
  | n + 1, u => by
    unfold digs
    split
    · simp only [List.length_cons]
      have := digs_len n (u / 128)
      omega
    · simp

theorem number_l0 : ∀ (n k : Nat) (acc : List Int) (u : Int), 0 ≤ u → u < 128 ^ n → n ≤ k → 1 ≤ n → acc.length + n ≤ 140737488355328 → script_number.l0 k acc u = some (acc ++ digs n u)
  | 0, k, acc, u, h0, h1, h2, h3, h4 => by omega
  | n + 1, k, acc, u, h0, h1, h2, h3, h4 => by
    obtain ⟨k, rfl⟩ : ∃ m, k = m + 1 := ⟨k - 1, by omega⟩
    simp only [script_number.l0, digs]
    by_cases hu : u ≥ 128
    · rw [if_pos hu, if_pos (by omega), if_pos hu]
      have hn : 1 ≤ n := by
        rcases Nat.eq_zero_or_pos n with rfl | h
        · simp at h1; omega
        · exact h
      rw [number_l0 n k _ (u / 128) (by omega) (Int.ediv_lt_of_lt_mul (by omega) (by rw [Int.pow_succ] at h1; exact h1)) (by omega) hn (by simp only [List.length_append, List.length_singleton]; omega)]
      simp
    · rw [if_neg hu, if_pos (by omega), if_neg hu]

/-- A number's bytes. -/
def num (a : Int) : List Int := digs 10 (zig a)

theorem num_len (a : Int) : (num a).length ≤ 10 := digs_len _ _

theorem number_eq (k : Nat) (acc : List Int) (a : Int) (hk : 10 ≤ k) (hl : acc.length + 10 ≤ 140737488355328) : script_number.f k acc a = some (acc ++ num a) := by
  have h := zig_rng a
  exact number_l0 10 k acc (zig a) h.1 (by have := h.2; omega) hk (by omega) hl

theorem wrap_up {i n : Nat} (h : i < n) (hn : n ≤ 140737488355328) : wrap64 ((i : Int) + 1) = ((i + 1 : Nat) : Int) := by
  unfold wrap64
  omega

theorem rd_drop (t : List Int) (j : Nat) (h : j < t.length) : t.drop j = rd t j :: t.drop (j + 1) := by
  rw [List.drop_eq_getElem_cons h]
  simp [rd, h]

theorem enc_l1 : ∀ (d k : Nat) (acc : List Int) (l : List S27) (n i : Int) (t : List Int) (j : Nat), j + d = t.length → d + 11 ≤ k → acc.length + 10 * d + 10 ≤ 140737488355328 → t.length ≤ 140737488355328 →
    script_Encode.l1 k acc l n i t (t.length : Int) (j : Int) = script_Encode.l0 (k - (d + 1)) (acc ++ (t.drop j).flatMap num) l n (wrap64 (i + 1))
  | 0, k, acc, l, n, i, t, j, h0, h1, h2, h3 => by
    obtain ⟨k, rfl⟩ : ∃ m, k = m + 1 := ⟨k - 1, by omega⟩
    simp only [script_Encode.l1]
    rw [if_neg (by omega), List.drop_of_length_le (by omega)]
    simp
  | d + 1, k, acc, l, n, i, t, j, h0, h1, h2, h3 => by
    obtain ⟨k, rfl⟩ : ∃ m, k = m + 1 := ⟨k - 1, by omega⟩
    have hj : j < t.length := by omega
    simp only [script_Encode.l1]
    rw [if_pos (by omega), if_pos (by omega), if_pos (by omega), number_eq k _ _ (by omega) (by omega)]
    simp only [Option.bind_some]
    rw [wrap_up hj (by omega)]
    have hl := num_len (rd t j)
    rw [enc_l1 d k _ l n i t (j + 1) (by omega) (by omega) (by simp only [List.length_append]; omega) h3, rd_drop t j hj]
    rw [show k + 1 - (d + 1 + 1) = k - (d + 1) by omega]
    simp

/-- An entry's first byte. -/
def head (s : S27) : Int := Go.bits .or .u8 s.f0 ((s.f1 * 4) % 256)
/-- An entry's bytes. -/
def ent (s : S27) : List Int :=
  if may s.f0 s.f1 s.f2.f0 s.f2.f1 s.f2.f2 s.f2.f3 = true then head s :: (if s.f0 = 0 then s.f2.f0 :: (nums s.f2.f0 s.f2.f1 s.f2.f2 s.f2.f3).flatMap num else []) else []

theorem nums_len (K a b c : Int) : (nums K a b c).length ≤ 2 := by
  unfold nums
  repeat' split
  all_goals simp

theorem flat_len : ∀ (t : List Int), (t.flatMap num).length ≤ 10 * t.length
  | [] => by simp
  | a :: t => by
    have h1 := num_len a
    have h2 := flat_len t
    simp only [List.flatMap_cons, List.length_append, List.length_cons]
    omega

theorem ent_len (s : S27) : (ent s).length ≤ 22 := by
  unfold ent
  have h1 := nums_len s.f2.f0 s.f2.f1 s.f2.f2 s.f2.f3
  have h2 := flat_len (nums s.f2.f0 s.f2.f1 s.f2.f2 s.f2.f3)
  repeat' split
  all_goals simp only [List.length_cons, List.length_nil]
  all_goals omega

theorem rd27_drop (l : List S27) (i : Nat) (h : i < l.length) : l.drop i = rd_T27 l i :: l.drop (i + 1) := by
  rw [List.drop_eq_getElem_cons h]
  simp [rd_T27, h]

theorem rd27_mem (l : List S27) (i : Nat) (h : i < l.length) : rd_T27 l i ∈ l := by
  have : rd_T27 l i = l[i] := by simp [rd_T27, h]
  rw [this]
  exact List.getElem_mem h

theorem enc_l0 : ∀ (d k : Nat) (acc : List Int) (l : List S27) (i : Nat), i + d = l.length → (∀ s ∈ l, 0 ≤ s.f2.f0) → 4 * d + 16 ≤ k → acc.length + 22 * d + 40 ≤ 140737488355328 → l.length ≤ 140737488355328 →
    script_Encode.l0 k acc l (l.length : Int) (i : Int) = some (acc ++ (l.drop i).flatMap ent)
  | 0, k, acc, l, i, h0, h1, h2, h3, h4 => by
    obtain ⟨k, rfl⟩ : ∃ m, k = m + 1 := ⟨k - 1, by omega⟩
    simp only [script_Encode.l0]
    rw [if_neg (by omega), List.drop_of_length_le (by omega)]
    simp
  | d + 1, k, acc, l, i, h0, h1, h2, h3, h4 => by
    obtain ⟨k, rfl⟩ : ∃ m, k = m + 1 := ⟨k - 1, by omega⟩
    have hi : i < l.length := by omega
    have hK := h1 _ (rd27_mem l i hi)
    have hel := ent_len (rd_T27 l i)
    rw [rd27_drop l i hi, List.flatMap_cons, ← List.append_assoc]
    have next : ∀ (k' : Nat) (acc' : List Int), 4 * d + 16 ≤ k' → acc'.length + 22 * d + 40 ≤ 140737488355328 → script_Encode.l0 k' acc' l (l.length : Int) (wrap64 ((i : Int) + 1)) = some (acc' ++ (l.drop (i + 1)).flatMap ent) := by
      intro k' acc' g1 g2
      rw [wrap_up hi h4]
      exact enc_l0 d k' acc' l (i + 1) (by omega) h1 g1 g2 h4
    simp only [script_Encode.l0]
    rw [if_pos (by omega), if_pos (by omega), if_pos (by omega), right_eq' k (by omega) _ _ _ _ _ _ hK]
    simp only [Option.bind_some]
    have he : ent (rd_T27 l i) = if may (rd_T27 l i).f0 (rd_T27 l i).f1 (rd_T27 l i).f2.f0 (rd_T27 l i).f2.f1 (rd_T27 l i).f2.f2 (rd_T27 l i).f2.f3 = true then head (rd_T27 l i) :: (if (rd_T27 l i).f0 = 0 then (rd_T27 l i).f2.f0 :: (nums (rd_T27 l i).f2.f0 (rd_T27 l i).f2.f1 (rd_T27 l i).f2.f2 (rd_T27 l i).f2.f3).flatMap num else []) else [] := rfl
    rw [he] at hel ⊢
    by_cases hm : may (rd_T27 l i).f0 (rd_T27 l i).f1 (rd_T27 l i).f2.f0 (rd_T27 l i).f2.f1 (rd_T27 l i).f2.f2 (rd_T27 l i).f2.f3 = true
    · rw [if_pos hm] at hel
      rw [if_pos hm, if_pos (by omega), if_pos hm]
      by_cases h0 : (rd_T27 l i).f0 = 0
      · rw [if_pos h0] at hel
        rw [if_pos h0, if_pos (by simp only [List.length_append, List.length_singleton]; omega), if_pos h0]
        rw [numbers_eq' k (by omega) _ _ _ _ hK]
        simp only [Option.bind_some]
        have hn := nums_len (rd_T27 l i).f2.f0 (rd_T27 l i).f2.f1 (rd_T27 l i).f2.f2 (rd_T27 l i).f2.f3
        have hf := flat_len (nums (rd_T27 l i).f2.f0 (rd_T27 l i).f2.f1 (rd_T27 l i).f2.f2 (rd_T27 l i).f2.f3)
        have := enc_l1 (nums (rd_T27 l i).f2.f0 (rd_T27 l i).f2.f1 (rd_T27 l i).f2.f2 (rd_T27 l i).f2.f3).length k ((acc ++ [Go.bits .or .u8 (rd_T27 l i).f0 ((rd_T27 l i).f1 * 4 % 256)]) ++ [(rd_T27 l i).f2.f0]) l (l.length : Int) (i : Int)
          (nums (rd_T27 l i).f2.f0 (rd_T27 l i).f2.f1 (rd_T27 l i).f2.f2 (rd_T27 l i).f2.f3) 0 (by omega) (by omega) (by simp only [List.length_append, List.length_singleton]; omega) (by omega)
        rw [show ((0 : Nat) : Int) = 0 from rfl] at this
        rw [this, next _ _ (by omega) (by simp only [List.length_append, List.length_singleton, List.drop_zero]; omega)]
        simp [head]
      · rw [if_neg h0, next _ _ (by omega) (by simp only [List.length_append, List.length_singleton]; omega), if_neg h0]
        simp [head]
    · rw [if_neg hm, next _ _ (by omega) (by omega), if_neg hm]
      simp

/-- What the program writes of a list. -/
def wrote (l : List S27) : List Int := l.flatMap ent

theorem wrote_len : ∀ (l : List S27), (wrote l).length ≤ 22 * l.length
  | [] => by simp [wrote]
  | s :: l => by
    have h1 := ent_len s
    have h2 := wrote_len l
    unfold wrote at h2 ⊢
    simp only [List.flatMap_cons, List.length_append, List.length_cons]
    omega

theorem encode_eq (k : Nat) (l : List S27) (hK : ∀ s ∈ l, 0 ≤ s.f2.f0) (hk : 4 * l.length + 16 ≤ k) (hl : l.length ≤ 1000000) : script_Encode.f k l = some (wrote l) := by
  unfold script_Encode.f
  have := enc_l0 l.length k [] l 0 (by omega) hK hk (by simp only [List.length_nil]; omega) (by omega)
  rw [show ((0 : Nat) : Int) = 0 from rfl] at this
  rw [this]
  simp [wrote]

theorem awake : boscagelaw24_Awake.f 30 = some true := by decide +kernel
theorem awakes (k : Nat) (h : 30 ≤ k) : boscagelaw24_Awake.f k = some true := at_rounds boscagelaw24_Awake.mono h awake

end EncScriptDecodes
end Go.Proofs.Ytkommjibpeklgaa.Pure
