/- What was written, cut anywhere, is read as the first entries; one is passed over at most. -/
import Derived.Test.YtkommjibpeklgaaGoodScriptBack
namespace Go.Proofs.Ytkommjibpeklgaa.Pure
open Go Go.RowKit Go.Proofs.Ytkommjibpeklgaa.PScriptBack
set_option linter.unusedVariables false
set_option linter.unusedSimpArgs false
namespace EncScriptBack

theorem num?_cut : ∀ (n i : Nat) (u w : Int) (m : Nat), i + n = 10 → 0 ≤ w → m < (digs n w).length → num? i u ((digs n w).take m) = none
  | n, i, u, w, 0, h0, hw, h => by simp [num?]
  | 0, i, u, w, m + 1, h0, hw, h => by simp [digs] at h
  | n + 1, i, u, w, m + 1, h0, hw, h => by
    unfold digs at h ⊢
    split
    · next hb =>
      rw [if_pos hb] at h
      simp only [List.length_cons] at h
      have hn : 1 ≤ n := by
        have := digs_len n (w / 128)
        omega
      rw [List.take_succ_cons]
      unfold num?
      rw [or128 w hw, if_neg (by omega)]
      exact num?_cut n (i + 1) _ (w / 128) m (by omega) (by omega) (by omega)
    · next hb =>
      rw [if_neg hb] at h
      simp at h

theorem nums?_cut : ∀ (t : List Int) (m : Nat), (∀ a ∈ t, -9223372036854775808 ≤ a ∧ a ≤ 9223372036854775807) → m < (t.flatMap num).length → nums? t.length ((t.flatMap num).take m) = none
  | [], m, ht, h => by simp at h
  | a :: t, m, ht, h => by
    have ha := ht a (by simp)
    simp only [List.flatMap_cons, List.length_append] at h
    simp only [List.length_cons, List.flatMap_cons]
    unfold nums?
    rcases Nat.lt_or_ge m (num a).length with hlt | hge
    · rw [List.take_append_of_le_length (by omega)]
      have := num?_cut 10 0 0 (zig a) m rfl (zig_rng a).1 hlt
      unfold num
      rw [this]
    · rw [List.take_append, List.take_of_length_le hge, num?_num a _ ha.1 ha.2]
      simp only
      rw [nums?_cut t (m - (num a).length) (fun x hx => ht x (by simp [hx])) (by omega)]

theorem dec_nil (n : Nat) : dec n [] = ([], 0) := by cases n <;> rfl

theorem dec_cut : ∀ (l : List S27) (m n : Nat), (∀ s ∈ l, Good s) → m ≤ (wrote l).length → m ≤ n →
    ∃ (j : Nat) (bad : Int), dec n ((wrote l).take m) = (l.take j, bad) ∧ j ≤ l.length ∧ 0 ≤ bad ∧ bad ≤ 1 ∧ (j < l.length ∨ bad = 0)
  | [], m, n, h, hm, hn => ⟨0, 0, by simp [wrote, dec_nil], by simp, by omega, by omega, Or.inr rfl⟩
  | s :: l, m, n, h, hm, hn => by
    have hs := h s (by simp)
    have hw : wrote (s :: l) = ent s ++ wrote l := by simp [wrote]
    rw [hw] at hm ⊢
    rw [List.length_append] at hm
    rcases Nat.lt_or_ge m (ent s).length with hlt | hge
    · rw [List.take_append_of_le_length (by omega)]
      rcases Nat.eq_zero_or_pos m with rfl | hpos
      · exact ⟨0, 0, by simp [dec_nil], by simp, by omega, by omega, Or.inr rfl⟩
      · refine ⟨0, 1, ?_, by simp, by omega, by omega, Or.inl (by simp)⟩
        obtain ⟨n, rfl⟩ : ∃ k, n = k + 1 := ⟨n - 1, by omega⟩
        have hl := hs.lt
        have e0 := hs.e0
        have d0 := hs.d0
        unfold ent at hlt ⊢
        rw [if_pos hs.may] at hlt ⊢
        obtain ⟨m, rfl⟩ : ∃ k, m = k + 1 := ⟨m - 1, by omega⟩
        rw [List.take_succ_cons, dec]
        by_cases h0 : s.f0 = 0
        · rw [if_pos h0] at hlt ⊢
          obtain ⟨h12, hop, hcnt⟩ := hs.op h0
          have key : one? (head s) ((s.f2.f0 :: (nums s.f2.f0 s.f2.f1 s.f2.f2 s.f2.f3).flatMap num).take m) = (none, []) := by
            unfold one?
            rw [hs.head, if_pos (by omega)]
            rcases Nat.eq_zero_or_pos m with rfl | hp
            · simp
            · obtain ⟨m, rfl⟩ : ∃ k, m = k + 1 := ⟨m - 1, by omega⟩
              rw [List.take_succ_cons]
              simp only
              rw [if_neg (by omega), ← hcnt, nums?_cut _ m hs.nums (by simp only [List.length_cons] at hlt; omega)]
          rw [key]
          simp [dec_nil]
        · rw [if_neg h0] at hlt
          simp at hlt
    · rw [List.take_append, List.take_of_length_le hge]
      obtain ⟨j, bad, h1, h2, h3, h4, h5⟩ := dec_cut l (m - (ent s).length) n (fun x hx => h x (by simp [hx])) (by omega) (by omega)
      refine ⟨j + 1, bad, ?_, by simp only [List.length_cons]; omega, h3, h4, by simp only [List.length_cons]; omega⟩
      have hone := dec_wrote [s] ((wrote l).take (m - (ent s).length)) n (fun x hx => by simp at hx; subst hx; exact hs) (by
        have : wrote [s] = ent s := by simp [wrote]
        rw [this, List.length_append, List.length_take]
        omega)
      have hw1 : wrote [s] = ent s := by simp [wrote]
      rw [hw1] at hone
      rw [hone, h1]
      simp

theorem pl_good (s : S27) (h8 : 0 ≤ s.f0 ∧ 0 ≤ s.f1 ∧ 0 ≤ s.f2.f0) (a : -9223372036854775808 ≤ s.f2.f1 ∧ s.f2.f1 ≤ 9223372036854775807) (b : -9223372036854775808 ≤ s.f2.f2 ∧ s.f2.f2 ≤ 9223372036854775807) (c : -9223372036854775808 ≤ s.f2.f3 ∧ s.f2.f3 ≤ 9223372036854775807) : Good (pl s) := by
  obtain ⟨e0, d0, k0⟩ := h8
  have e1 : Int.tmod s.f0 4 = s.f0 % 4 := Int.tmod_eq_emod_of_nonneg e0
  have e2 : Int.tmod s.f1 64 = s.f1 % 64 := Int.tmod_eq_emod_of_nonneg d0
  have e3 : Int.tmod s.f2.f0 12 = s.f2.f0 % 12 := Int.tmod_eq_emod_of_nonneg k0
  unfold pl plw
  rw [e1, e2, e3]
  obtain ⟨K, hK⟩ : ∃ K, K = s.f2.f0 % 12 := ⟨_, rfl⟩
  rw [← hK]
  have hK0 : 0 ≤ K ∧ K < 12 := by omega
  by_cases h0 : s.f0 % 4 = 0
  · rw [if_pos h0, h0]
    have hk : K = 0 ∨ K = 1 ∨ K = 2 ∨ K = 3 ∨ K = 4 ∨ K = 5 ∨ K = 6 ∨ K = 7 ∨ K = 8 ∨ K = 9 ∨ K = 10 ∨ K = 11 := by omega
    have hd : ¬ (64 : Int) ≤ s.f1 % 64 := by omega
    clear hK
    rcases hk with rfl | rfl | rfl | rfl | rfl | rfl | rfl | rfl | rfl | rfl | rfl | rfl
    all_goals refine ⟨?_, ?_, ?_, ?_, ?_, ?_, ?_⟩
    all_goals simp [manyOf, may, hd]
    all_goals omega
  · rw [if_neg h0]
    have hd : ¬ (64 : Int) ≤ s.f1 % 64 := by omega
    have he : ¬ (4 : Int) ≤ s.f0 % 4 := by omega
    refine ⟨by simp [may, hd, he, h0], ?_, ?_, ?_, ?_, ?_, ?_⟩
    all_goals simp
    all_goals omega
end EncScriptBack
end Go.Proofs.Ytkommjibpeklgaa.Pure
