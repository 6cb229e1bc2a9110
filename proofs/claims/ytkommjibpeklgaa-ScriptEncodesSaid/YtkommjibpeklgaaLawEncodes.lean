/- For all entries the law ScriptEncodes answers true: what the program writes of them is what the document says. -/
import Derived.Test.YtkommjibpeklgaaRows
import Derived.Test.YtkommjibpeklgaaEncScriptEncodes
import Derived.Test.YtkommjibpeklgaaArgsScriptEncodes
import Derived.Test.YtkommjibpeklgaaMScriptEncodesx9
import Derived.WalkKit
import Derived.ProofKit
import Derived.OpenShut
import Derived.ShutString
import Derived.ChangeOld
import Derived.Below
import Derived.SizedLaws
import Derived.Lib.Zigzag
namespace Go.Proofs.Ytkommjibpeklgaa.scriptEncodes
open Go.ChangeShapes Go.WideShapes Go.ChangeAt Go.RowKit Go.Proofs.Ytkommjibpeklgaa.PScriptEncodes Go.Proofs.Ytkommjibpeklgaa.Pure.EncScriptEncodes Go.Proofs.Ytkommjibpeklgaa.ArgsPScriptEncodes
open Go.Proofs.YtkommjibpeklgaaW.PrintWords (rd at_rounds)
open Go.ChangeMaps (open_string shut_string)
set_option linter.unusedVariables false
set_option linter.unusedSimpArgs false

theorem many_eq (k : Nat) (K : Int) (h : 0 ≤ K) : boscagelaw18_Many.f (k + 2) K = some (manyOf K) := by
  rcases kinds K h with rfl | rfl | rfl | rfl | rfl | rfl | rfl | rfl | rfl | rfl | rfl | rfl | ⟨h0, h1⟩
  case inr.inr.inr.inr.inr.inr.inr.inr.inr.inr.inr.inr => simp [boscagelaw18_Many.f, boscagelaw18_Many.j0, boscagelaw18_Many.j1, manyOf, h0, h1]
  all_goals simp [boscagelaw18_Many.f, boscagelaw18_Many.j0, boscagelaw18_Many.j1, manyOf]

theorem may_eq (k : Nat) (e d K a b c : Int) (h : 0 ≤ K) : boscagelaw24_May.f (k + 3) e d K a b c = some (may e d K a b c) := by
  unfold boscagelaw24_May.f may
  have hj : ∀ g : Bool, boscagelaw24_May.j0 (k + 3) g e d K a b c = some (if g = true then false else if e = 0 then (if 12 ≤ K then false else if K = 1 ∨ K = 2 then b == 0 else if K = 10 ∨ K = 11 then c == 0 else if K = 6 ∨ K = 7 then a == 0 && (b == 0 && c == 0) else b == 0 && c == 0)
      else K == 0 && (a == 0 && (b == 0 && c == 0))) := by
    intro g
    simp only [boscagelaw24_May.j0, many_eq _ _ h, Option.bind_some]
    cases g
    · by_cases he : e = 0
      · rcases kinds K h with rfl | rfl | rfl | rfl | rfl | rfl | rfl | rfl | rfl | rfl | rfl | rfl | ⟨h0, h1⟩
        case pos.inr.inr.inr.inr.inr.inr.inr.inr.inr.inr.inr.inr => simp [he, h0, h1, manyOf]
        all_goals (simp [he, manyOf]; try (by_cases ha : a = 0 <;> by_cases hb : b = 0 <;> simp [ha, hb]))
      · simp [he]
    · simp
  by_cases h4 : e ≥ 4
  · rw [if_pos h4, hj, if_pos (Or.inl h4)]; simp
  · rw [if_neg h4, hj]
    by_cases h6 : d ≥ 64
    · rw [if_pos (Or.inr h6)]; simp [h6]
    · rw [if_neg (show ¬ (4 ≤ e ∨ 64 ≤ d) by omega)]; simp [h6]
theorem may_eq' (k : Nat) (hk : 3 ≤ k) (e d K a b c : Int) (h : 0 ≤ K) : boscagelaw24_May.f k e d K a b c = some (may e d K a b c) := by
  obtain ⟨k, rfl⟩ : ∃ m, k = m + 3 := ⟨k - 3, by omega⟩
  exact may_eq k e d K a b c h

theorem lawNumbers_eq (k : Nat) (hk : 2 ≤ k) (K a b c : Int) (h : 0 ≤ K) : boscagelaw24_Numbers.f k K a b c = some (nums K a b c) := by
  obtain ⟨k, rfl⟩ : ∃ m, k = m + 2 := ⟨k - 2, by omega⟩
  unfold boscagelaw24_Numbers.f
  rw [many_eq k K h]
  rcases kinds K h with rfl | rfl | rfl | rfl | rfl | rfl | rfl | rfl | rfl | rfl | rfl | rfl | ⟨h0, h1⟩
  case inr.inr.inr.inr.inr.inr.inr.inr.inr.inr.inr.inr => simp [manyOf, nums, h0, h1]
  all_goals simp [manyOf, nums]

theorem u64w (n : Int) : IntKind.u64.wrap n = n % 18446744073709551616 := by simp [IntKind.wrap, IntKind.bits, IntKind.signed]

theorem zig_pos (a : Int) (h0 : 0 ≤ a) (h1 : a ≤ 9223372036854775807) : zig a = a * 2 := by
  unfold zig
  rw [u64w, u64w, u64w, show a / 9223372036854775808 = 0 by omega]
  have e : (a % 18446744073709551616 * 2) % 18446744073709551616 = ((a * 2).toNat : Int) := by omega
  rw [e, show ((0 : Int) % 18446744073709551616) = ((0 : Nat) : Int) from rfl, bits_xor_u64_nat _ _ (by omega) (by omega), Nat.xor_zero]
  omega

theorem zig_neg (a : Int) (h0 : -9223372036854775808 ≤ a) (h1 : a < 0) : zig a = -2 * a - 1 := by
  unfold zig
  rw [u64w, u64w, u64w, show a / 9223372036854775808 = -1 by omega]
  have e : (a % 18446744073709551616 * 2) % 18446744073709551616 = ((a * 2 + 18446744073709551616).toNat : Int) := by omega
  rw [e, show ((-1 : Int) % 18446744073709551616) = ((2 ^ 64 - 1 : Nat) : Int) from rfl, bits_xor_u64_nat _ _ (by omega) (by decide), Nat.xor_comm, Lib.xor_ones64 _ (by omega)]
  omega

theorem or128 (x : Int) (h : 0 ≤ x) : Go.bits .or .u8 (x % 256) 128 = x % 128 + 128 := by
  have key : ∀ y : Nat, y < 256 → Go.bits .or .u8 (y : Int) 128 = (y : Int) % 128 + 128 := by decide +kernel
  have := key (x % 256).toNat (by omega)
  rw [show ((x % 256).toNat : Int) = x % 256 by omega] at this
  rw [this]
  omega

theorem lawNumber_l0 : ∀ (n k : Nat) (acc : List Int) (u : Int), 0 ≤ u → u < 18446744073709551616 → u < 128 ^ n → n ≤ k → 1 ≤ n → acc.length + n ≤ 140737488355328 → boscagelaw24_number.l0 k u acc = some (acc ++ digs n u)
  | 0, k, acc, u, h0, hu, h1, h2, h3, h4 => by omega
  | n + 1, k, acc, u, h0, hu, h1, h2, h3, h4 => by
    obtain ⟨k, rfl⟩ : ∃ m, k = m + 1 := ⟨k - 1, by omega⟩
    simp only [boscagelaw24_number.l0, digs]
    by_cases hb : u ≥ 128
    · have hn : 1 ≤ n := by
        rcases Nat.eq_zero_or_pos n with rfl | h
        · simp at h1; omega
        · exact h
      have e1 : IntKind.u64.wrap (Int.tdiv u 128) = u / 128 := by
        rw [Int.tdiv_eq_ediv_of_nonneg h0, u64w]; omega
      have e2 : IntKind.u64.wrap (Int.tmod u 128 + 128) % 256 = Go.bits .or .u8 (u % 256) 128 := by
        rw [Int.tmod_eq_emod_of_nonneg h0, u64w, or128 u h0]; omega
      rw [if_pos (show u > 127 by omega), if_pos (by omega), if_pos hb, e1, e2]
      rw [lawNumber_l0 n k _ (u / 128) (by omega) (by omega) (Int.ediv_lt_of_lt_mul (by omega) (by rw [Int.pow_succ] at h1; exact h1)) (by omega) hn (by simp only [List.length_append, List.length_singleton]; omega)]
      simp
    · rw [if_neg (show ¬ u > 127 by omega), if_pos (by omega), if_neg hb]

theorem lawNumber_eq (k : Nat) (a : Int) (hk : 12 ≤ k) (h0 : -9223372036854775808 ≤ a) (h1 : a ≤ 9223372036854775807) : boscagelaw24_number.f k a = some (num a) := by
  obtain ⟨k, rfl⟩ : ∃ m, k = m + 1 := ⟨k - 1, by omega⟩
  have hz := zig_rng a
  have main : boscagelaw24_number.j0 (k + 1) (zig a) = some (num a) := by
    simp only [boscagelaw24_number.j0]
    rw [lawNumber_l0 10 k [] (zig a) hz.1 hz.2 (by have := hz.2; omega) (by omega) (by omega) (by simp)]
    simp [num]
  unfold boscagelaw24_number.f
  by_cases h : a ≥ 0
  · rw [if_pos h]
    have : IntKind.u64.wrap (IntKind.u64.wrap a * 2) = zig a := by rw [u64w, u64w, zig_pos a h h1]; omega
    rw [this, main]
  · rw [if_neg h]
    have : IntKind.u64.wrap (IntKind.u64.wrap (IntKind.u64.wrap (wrap64 (-(wrap64 (a + 1)))) * 2) + 1) = zig a := by
      rw [u64w, u64w, u64w, zig_neg a h0 (by omega)]
      unfold wrap64
      omega
    rw [this, main]

theorem lawEnc_l1 : ∀ (d k : Nat) (acc : List Int) (l : List S27) (n i : Int) (t : List Int) (j : Nat), (∀ a ∈ t, -9223372036854775808 ≤ a ∧ a ≤ 9223372036854775807) → j + d = t.length → d + 13 ≤ k → acc.length + 10 * d + 10 ≤ 140737488355328 → t.length ≤ 140737488355328 →
    boscagelaw24_Encode.l1 k acc l n i t (t.length : Int) (j : Int) = boscagelaw24_Encode.l0 (k - (d + 1)) (acc ++ (t.drop j).flatMap num) l n (wrap64 (i + 1))
  | 0, k, acc, l, n, i, t, j, ht, h0, h1, h2, h3 => by
    obtain ⟨k, rfl⟩ : ∃ m, k = m + 1 := ⟨k - 1, by omega⟩
    simp only [boscagelaw24_Encode.l1]
    rw [if_neg (by omega), List.drop_of_length_le (by omega)]
    simp
  | d + 1, k, acc, l, n, i, t, j, ht, h0, h1, h2, h3 => by
    obtain ⟨k, rfl⟩ : ∃ m, k = m + 1 := ⟨k - 1, by omega⟩
    have hj : j < t.length := by omega
    have hr := ht (rd t j) (by simp [rd, hj])
    have hl := num_len (rd t j)
    simp only [boscagelaw24_Encode.l1]
    rw [if_pos (by omega), if_pos (by omega), if_pos (by omega), lawNumber_eq k _ (by omega) hr.1 hr.2]
    simp only [Option.bind_some]
    rw [if_pos (by omega), wrap_up hj (by omega)]
    rw [lawEnc_l1 d k _ l n i t (j + 1) ht (by omega) (by omega) (by simp only [List.length_append]; omega) h3, rd_drop t j hj]
    rw [show k + 1 - (d + 1 + 1) = k - (d + 1) by omega]
    simp

theorem rng64 {a : Int} (h : (Lit.int .i64 a).wf = true) : -9223372036854775808 ≤ a ∧ a ≤ 9223372036854775807 := by
  simpa [Lit.wf, IntKind.min, IntKind.max, IntKind.bits, IntKind.signed] using h
theorem rng8 {a : Int} (h : (Lit.int .u8 a).wf = true) : 0 ≤ a ∧ a ≤ 255 := by
  simpa [Lit.wf, IntKind.min, IntKind.max, IntKind.bits, IntKind.signed] using h

theorem nums_rng {s : S27} (h : Fits s) : ∀ a ∈ nums s.f2.f0 s.f2.f1 s.f2.f2 s.f2.f3, -9223372036854775808 ≤ a ∧ a ≤ 9223372036854775807 := by
  have h1 := rng64 h.2.2.2.1
  have h2 := rng64 h.2.2.2.2.1
  have h3 := rng64 h.2.2.2.2.2
  unfold nums
  repeat' split
  all_goals simp only [List.mem_cons, List.not_mem_nil, or_false]
  all_goals intro a ha
  · rcases ha with rfl | rfl
    · exact h1
    · exact h3
  · rcases ha with rfl | rfl
    · exact h1
    · exact h2
  · subst ha; exact h1
  · exact absurd ha (by simp)

theorem head_eq (s : S27) (h : Fits s) (hm : may s.f0 s.f1 s.f2.f0 s.f2.f1 s.f2.f2 s.f2.f3 = true) : wrap64 (wrap64 s.f0 + wrap64 (4 * wrap64 s.f1)) % 256 = head s := by
  have h1 := rng8 h.1
  have h2 := rng8 h.2.1
  have hb : s.f0 < 4 ∧ s.f1 < 64 := by
    unfold may at hm
    by_cases hc : 4 ≤ s.f0 ∨ 64 ≤ s.f1
    · rw [if_pos hc] at hm; cases hm
    · omega
  have key : ∀ x : Nat, x < 4 → ∀ y : Nat, y < 64 → Go.bits .or .u8 (x : Int) (((y : Int) * 4) % 256) = (x : Int) + 4 * y := by decide +kernel
  have := key s.f0.toNat (by omega) s.f1.toNat (by omega)
  rw [show (s.f0.toNat : Int) = s.f0 by omega, show (s.f1.toNat : Int) = s.f1 by omega] at this
  unfold head
  rw [this]
  unfold wrap64
  omega

theorem lawEnc_l0 : ∀ (d k : Nat) (acc : List Int) (l : List S27) (i : Nat), i + d = l.length → (∀ s ∈ l, Fits s) → 4 * d + 20 ≤ k → acc.length + 22 * d + 40 ≤ 140737488355328 → l.length ≤ 140737488355328 →
    boscagelaw24_Encode.l0 k acc l (l.length : Int) (i : Int) = some (acc ++ (l.drop i).flatMap ent)
  | 0, k, acc, l, i, h0, h1, h2, h3, h4 => by
    obtain ⟨k, rfl⟩ : ∃ m, k = m + 1 := ⟨k - 1, by omega⟩
    simp only [boscagelaw24_Encode.l0]
    rw [if_neg (by omega), List.drop_of_length_le (by omega)]
    simp
  | d + 1, k, acc, l, i, h0, h1, h2, h3, h4 => by
    obtain ⟨k, rfl⟩ : ∃ m, k = m + 1 := ⟨k - 1, by omega⟩
    have hi : i < l.length := by omega
    have hF := h1 _ (rd27_mem l i hi)
    have hK := hF.kind
    have hel := ent_len (rd_T27 l i)
    rw [rd27_drop l i hi, List.flatMap_cons, ← List.append_assoc]
    have next : ∀ (k' : Nat) (acc' : List Int), 4 * d + 20 ≤ k' → acc'.length + 22 * d + 40 ≤ 140737488355328 → boscagelaw24_Encode.l0 k' acc' l (l.length : Int) (wrap64 ((i : Int) + 1)) = some (acc' ++ (l.drop (i + 1)).flatMap ent) := by
      intro k' acc' g1 g2
      rw [wrap_up hi h4]
      exact lawEnc_l0 d k' acc' l (i + 1) (by omega) h1 g1 g2 h4
    simp only [boscagelaw24_Encode.l0]
    rw [if_pos (by omega), if_pos (by omega), if_pos (by omega), may_eq' k (by omega) _ _ _ _ _ _ hK]
    simp only [Option.bind_some]
    have he : ent (rd_T27 l i) = if may (rd_T27 l i).f0 (rd_T27 l i).f1 (rd_T27 l i).f2.f0 (rd_T27 l i).f2.f1 (rd_T27 l i).f2.f2 (rd_T27 l i).f2.f3 = true then head (rd_T27 l i) :: (if (rd_T27 l i).f0 = 0 then (rd_T27 l i).f2.f0 :: (nums (rd_T27 l i).f2.f0 (rd_T27 l i).f2.f1 (rd_T27 l i).f2.f2 (rd_T27 l i).f2.f3).flatMap num else []) else [] := rfl
    rw [he] at hel ⊢
    by_cases hm : may (rd_T27 l i).f0 (rd_T27 l i).f1 (rd_T27 l i).f2.f0 (rd_T27 l i).f2.f1 (rd_T27 l i).f2.f2 (rd_T27 l i).f2.f3 = true
    · rw [if_pos hm] at hel
      rw [if_pos hm, if_pos (by omega), if_pos hm, head_eq _ hF hm]
      by_cases h0 : (rd_T27 l i).f0 = 0
      · rw [if_pos h0] at hel
        rw [if_pos h0, if_pos (by simp only [List.length_append, List.length_singleton]; omega), if_pos h0]
        rw [lawNumbers_eq k (by omega) _ _ _ _ hK]
        simp only [Option.bind_some]
        have hn := nums_len (rd_T27 l i).f2.f0 (rd_T27 l i).f2.f1 (rd_T27 l i).f2.f2 (rd_T27 l i).f2.f3
        have hf := flat_len (nums (rd_T27 l i).f2.f0 (rd_T27 l i).f2.f1 (rd_T27 l i).f2.f2 (rd_T27 l i).f2.f3)
        have := lawEnc_l1 (nums (rd_T27 l i).f2.f0 (rd_T27 l i).f2.f1 (rd_T27 l i).f2.f2 (rd_T27 l i).f2.f3).length k ((acc ++ [head (rd_T27 l i)]) ++ [(rd_T27 l i).f2.f0]) l (l.length : Int) (i : Int)
          (nums (rd_T27 l i).f2.f0 (rd_T27 l i).f2.f1 (rd_T27 l i).f2.f2 (rd_T27 l i).f2.f3) 0 (nums_rng hF) (by omega) (by omega) (by simp only [List.length_append, List.length_singleton]; omega) (by omega)
        rw [show ((0 : Nat) : Int) = 0 from rfl] at this
        rw [this, next _ _ (by omega) (by simp only [List.length_append, List.length_singleton, List.drop_zero]; omega)]
        simp
      · rw [if_neg h0, next _ _ (by omega) (by simp only [List.length_append, List.length_singleton]; omega), if_neg h0]
    · rw [if_neg hm, next _ _ (by omega) (by omega), if_neg hm]
      simp

theorem lawEncode_eq (k : Nat) (l : List S27) (hF : ∀ s ∈ l, Fits s) (hk : 4 * l.length + 20 ≤ k) (hl : l.length ≤ 1000000) : boscagelaw24_Encode.f k l = some (wrote l) := by
  unfold boscagelaw24_Encode.f
  have := lawEnc_l0 l.length k [] l 0 (by omega) hF hk (by simp only [List.length_nil]; omega) (by omega)
  rw [show ((0 : Nat) : Int) = 0 from rfl] at this
  rw [this]
  simp [wrote]

theorem wf64 {a : Int} (h : -9223372036854775808 ≤ a ∧ a ≤ 9223372036854775807) : (Lit.int .i64 a).wf = true := by
  simpa [Lit.wf, IntKind.min, IntKind.max, IntKind.bits, IntKind.signed] using h
theorem wf8 {a : Int} (h : 0 ≤ a ∧ a ≤ 255) : (Lit.int .u8 a).wf = true := by
  simpa [Lit.wf, IntKind.min, IntKind.max, IntKind.bits, IntKind.signed] using h

theorem pl_fits (s : S27) (h : Fits s) : Fits (pl s) := by
  have h1 := rng8 h.1
  have h2 := rng8 h.2.1
  have h3 := rng8 h.2.2.1
  have w0 : (Lit.int .i64 0).wf = true := wf64 (by omega)
  have z8 : (Lit.int .u8 0).wf = true := wf8 (by omega)
  have e1 : (Lit.int .u8 (Int.tmod s.f0 4)).wf = true := wf8 (by rw [Int.tmod_eq_emod_of_nonneg h1.1]; omega)
  have e2 : (Lit.int .u8 (Int.tmod s.f1 64)).wf = true := wf8 (by rw [Int.tmod_eq_emod_of_nonneg h2.1]; omega)
  have e3 : (Lit.int .u8 (Int.tmod s.f2.f0 12)).wf = true := wf8 (by rw [Int.tmod_eq_emod_of_nonneg h3.1]; omega)
  refine ⟨e1, e2, ?_⟩
  simp only [pl, plw]
  repeat' split
  · exact ⟨e3, w0, w0, w0⟩
  · exact ⟨e3, h.2.2.2.1, w0, w0⟩
  · exact ⟨e3, h.2.2.2.1, w0, h.2.2.2.2.2⟩
  · exact ⟨e3, h.2.2.2.1, h.2.2.2.2.1, w0⟩
  · exact ⟨z8, w0, w0, w0⟩

theorem pure (l : List S27) (right : Bool) (hF : ∀ s ∈ l, Fits s) : ∃ k, boscagelaw24_ScriptEncodes.f k l right = some true := by
  refine ⟨400, ?_⟩
  unfold boscagelaw24_ScriptEncodes.f
  rw [awakes 400 (by omega)]
  simp only [Option.bind_some, if_true]
  by_cases h : (l.length : Int) > 40
  · rw [if_pos h]
  · rw [if_neg h]
    have key : ∀ m : List S27, m.length = l.length → (∀ s ∈ m, Fits s) → ((script_Encode.f 400 m).bind fun t251 => ((boscagelaw24_Encode.f 400 m).bind fun t254 => ((boscagelaw24_same.f t251 t254).bind fun t257 => (some t257)))) = some true := by
      intro m hm hFm
      rw [encode_eq _ m (fun s hs => (hFm s hs).kind) (by omega) (by omega), lawEncode_eq _ m hFm (by omega) (by omega)]
      simp [boscagelaw24_same.f]
    cases right
    · simp only [Bool.false_eq_true, if_false]
      exact key l rfl hF
    · simp only [if_true]
      rw [boscagelaw24_plain.eq _ _ (by omega) (fun s hs => (hF s hs).kind)]
      simp only [Option.bind_some]
      exact key (l.map pl) (by simp) (fun s hs => by
        obtain ⟨t, ht, rfl⟩ := List.mem_map.mp hs
        exact pl_fits t (hF t ht))

theorem own : ownKnob Try.prog.godebug = none := by kernel_rfl
theorem laidOut : laidOutB Try.prog = true := by kernel_rfl
set_option maxRecDepth 100000 in
theorem lifted (os : Os) (started : os.Started) (H : Type) (enc : TypeId × Value → H) :
    ReturnsInHanded {} Try.checked os 4 .any (Rows.scriptEncodesSpec.pre6 enc Try.prog Try.f4 Rows.scriptEncodesRow.domain false) (Rows.scriptEncodesSpec.post enc Try.prog Try.f4 false true false false) := by
  refine returnsInHanded_of_change_sized (C := Try.checked) own started (by kernel_rfl) Try.func4
    (ChangeSpec.witness6 (enc := enc) (C := Try.checked) false ⟨#[], #[.slice none 0 0, .bool false], []⟩ 8 (by kernel_rfl) (by kernel_rfl) (by kernel_rfl) (by kernel_rfl)) ?_
  intro W base args ds gs before hval0 hW hcnd hsz0 _
  have hval : ∀ (j : Nat) t v, Try.f4.params[j]? = some t → args[j]? = some v → Value.okWide Try.prog W .any base t v := hval0
  have hW' := hW
  obtain ⟨p, q, hA0, hV, rfl, hfz, hnd⟩ := hW
  have hA : DataW.TrodAll enc Try.prog W 0 (fun _ => true) true Try.f4.params.toList args.toList ds p := hA0
  rw [Try.params4] at hA hval
  obtain ⟨v0, vs0, d0, ds0, p0, q0, hargs, rfl, rfl, h0, r0⟩ := trodAll_cons hA
  obtain ⟨v1, vs1, d1, ds1, p1, q1, rfl, rfl, rfl, h1, r1⟩ := trodAll_cons r0
  obtain ⟨rfl, rfl, rfl⟩ := trodAll_nil r1
  obtain rfl : args = #[v0, v1] := by cases args; simp_all
  obtain ⟨rfl, rfl⟩ := trodVars_none hV
  obtain ⟨a0, len0, cap0, rfl⟩ := okWide_slice Try.underlying30 (hval 0 30 v0 rfl rfl)
  have lt0 : ∀ x ∈ p0, x.block < W.heap.size := by obtain ⟨m, hm⟩ := h0; exact DataW.trod_lt m _ _ _ hm
  obtain ⟨l0, rfl, c0, hc0, f0⟩ := open_entries h0
  obtain ⟨a1, rfl, rfl, rfl⟩ := open_bool Try.underlying4 (hval 1 4 v1 rfl rfl) h1
  clear hA0 hval0 hsz0
  obtain ⟨k, hk⟩ := pure l0 a1 f0
  refine (boscagelaw24_ScriptEncodes.calls k a0 cap0 l0 a1 true W c0 hc0 hk).mono fun e W' ⟨he, bel⟩ => ?_
  subst he
  exact ⟨_, rfl, _, _, _, [], _, [], hW', trodAll_mk1 (shut_bool Try.underlying4 _), (trodAll_cons_mk (Below.trod laidOut (by kernel_rfl) (of_decide_eq_true (by kernel_rfl)) h0 bel lt0) (trodAll_cons_mk (shut_bool Try.underlying4 _) trodAll_mk0)), rfl, bel.frame _, fun h => by cases h⟩
theorem over : Rows.scriptEncodesRow.holds Try.pinned (OpenSpec.ofChange Rows.scriptEncodesSpec) :=
  OpenClaim.holds_of_wide 4 Try.f4 rfl rfl rfl rfl rfl rfl rfl ⟨rfl, rfl, rfl, rfl, rfl⟩ rfl rfl rfl rfl rfl (by kernel_rfl) Try.func4 (by kernel_rfl)
    (of_decide_eq_true (by kernel_rfl)) (by unfold Func.isWrapper; first | (rw [if_pos (by decide +kernel)]; kernel_rfl) | (rw [if_neg (by decide +kernel)]; exact ⟨rfl, rfl⟩))
    (fun os started H enc _ => lifted os started H enc)
theorem proved : Rows.ScriptEncodesSaid := over
#print axioms proved
end Go.Proofs.Ytkommjibpeklgaa.scriptEncodes
namespace Go.Proofs.Ytkommjibpeklgaa
/-- The row, under a short name, for the claim. -/
theorem scriptEncodes_holds : Rows.ScriptEncodesSaid := scriptEncodes.proved
end Go.Proofs.Ytkommjibpeklgaa
